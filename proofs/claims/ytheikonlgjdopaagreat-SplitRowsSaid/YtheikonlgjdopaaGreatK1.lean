/- splitRows_holds: part 1. -/
import Derived.Laws.Cells
import Derived.Laws.CopyRow
import Derived.Laws.StructEq
import Derived.IntWalk
import Derived.Laws.Strings
import Derived.Laws.BytesString
import Derived.Laws.MakeOwn
import Derived.Lib.ConvBytes
import Derived.Lib.Builder
import Derived.Lib.UnsafeStr
import Derived.Test.YtheikonlgjdopaaGreatK0
set_option maxRecDepth 100000
set_option maxHeartbeats 4000000
set_option linter.defProp false
namespace Go.Proofs.YtheikonlgjdopaaGreat.Sl
open Go.RowKit
set_option linter.unusedVariables false
theorem Ny {α β : Type} {o : Option α} {f : α -> Option β} {b : β} (h : o.bind f = some b) : ∃ a, o = some a /\ f a = some b := Option.bind_eq_some_iff.1 h
def Or := @List.length_singleton
def NoP (Q:Exit->Act->World->Prop):Prop:= ∀ c a w,¬ Q (.panic c) a w
def Hs (ops:Array Oper) (i:Nat):List Nat->List Nat->List Nat
 | [],D=>D
 | j::js,D=>Hs ops i js (match ops[j]? with
  | some o=>if o.after.any (fun e=>Region.binds .any e && (Nat.beq e.on i || D.contains e.on)) then j::D else D
  | none=>D)
def EP (ops:Array Oper) (i:Nat):List Nat:=Hs ops i (List.range ops.size) []
def Ht (ops:Array Oper) (listed:Array Bool) (i:Nat):Bool :=
 match ops[i]? with
 | none=>false
 | some oi=>(EP ops i).all (fun j=> !listed.getD j true && match ops[j]? with | some o=>o.after.any (fun e=>Region.binds .any e && (Nat.beq e.on i || (EP ops i).contains e.on)) | none=>false) &&
  (List.range ops.size).all fun j=>j == i || listed.getD j true || (EP ops i).contains j || match ops[j]? with
   | some oj=>oi.apart ops oj
   | none=>true
inductive Sch where
 | nil
 | q (i:Nat) (s:Sch)
 | e (i:Nat) (s:Sch)
 | br (i:Nat) (s m:Sch)
def Sch.heads:Sch->List Nat
 | .e i _ => [i]
 | .br i _ m=>i::m.heads
 | _ => []
def gN (ops:Array Oper):Bool->Nat->Sch->Array Bool->Bool
 | alt,k,.nil,listed=> !alt && (k == 0) && (Region.ready .any ops listed).isEmpty
 | alt,0,_,_=>false
 | alt,k+1,.q i s,listed=> !alt && (Region.ready .any ops listed).contains i && Ht ops listed i && gN ops false k s (listed.setIfInBounds i true)
 | alt,k+1,.e i s,listed=>(alt || Region.ready .any ops listed == [i]) && gN ops false k s (listed.setIfInBounds i true)
 | alt,k+1,.br i s m,listed=>(alt || Region.ready .any ops listed == i::m.heads) && gN ops false k s (listed.setIfInBounds i true) && gN ops true (k+1) m listed
def drawB (ops:Array Oper) (ord:Sch):Bool:=Region.noSelect ops && gN ops false ops.size ord (Array.replicate ops.size false)
section
variable {P:Program} {ops:Array Oper} {Q:Exit->Act->World->Prop} {S:World->Prop}
theorem yX {i:Nat} {oi:Oper} {v:Value} (D:Nat->Prop) (hi:ops[i]? = some oi) (hsel: ∀ (j:Nat) (o:Oper) cs b,ops[j]? = some o->o.op≠ .select cs b)
 (hQ: ∀ c a w,Q (.panic c) (a.put oi.dst v) w->Q (.panic c) a w) (hD: ∀ j oj,ops[j]? = some oj->D j-> ∃ e∈oj.after,Region.binds .any e=true/\(e.on=i\/D e.on)) :
 ∀ (fuel:Nat) (listed:Array Bool) (a:Act) (w:World),(∀ j,D j->listed.getD j true=false) ->
  (∀ j oj,ops[j]? = some oj->j≠i->listed.getD j true=false-> ¬ D j->oi.apart ops oj=true) ->
  i∈Region.ready .any ops listed->YieldsIf P ops S oi v a->S w ->
  wpAnyH P .any ops Q S fuel (listed.setIfInBounds i true) (a.put oi.dst v) w->wpAnyH P .any ops Q S (fuel+1) listed a w:=by
 intro fuel
 induction fuel with
 | zero =>
  intro listed a w _ _ hr hy hS H;refine⟨fun h=>(by rw[h] at hr; cases hr),fun j hj=> ?_⟩;by_cases hji:j=i
  ·subst hji; exact hy.wpOp hi hS ⟨hS,H⟩
  ·have:=ready_mono hj hji;rw[H.1] at this;cases this
 | succ fuel ih =>
  intro listed a w hun hfree hr hy hS H;refine⟨fun h=>(by rw[h] at hr; cases hr),fun j hj=> ?_⟩;by_cases hji:j=i
  ·subst hji; exact hy.wpOp hi hS ⟨hS,H⟩
  ·have h1:=H.2 j (ready_mono hj hji);obtain⟨hjun,oj,hoj,hall⟩:=mem_ready.1 hj;have hiun:=(mem_ready.1 hr).1;have hnot: ¬ D j:=fun hd=>by
    obtain⟨e,he,hb,h2⟩:=hD j oj hoj hd;have h3:=hall e he hb;rcases h2 with h2 | h2
    ·rw[h2] at h3;rcases Nat.lt_or_ge i listed.size with h' | h'
     ·simp[h'] at hiun h3; rw[hiun] at h3; cases h3
     ·simp[Array.getElem?_eq_none h'] at h3
    ·have h4:=hun _ h2;rcases Nat.lt_or_ge e.on listed.size with h' | h'
     ·simp[h'] at h4 h3; rw[h4] at h3; cases h3
     ·simp[Array.getElem?_eq_none h'] at h4
   have h2:=wpOp_putIf hoj (hfree j oj hoj hji hjun hnot) (fun cs b=>hsel i oi cs b hi) (fun cs b=>hsel j oj cs b hoj) hQ hy h1;have hun': ∀ k,D k->(listed.setIfInBounds j true).getD k true=false:=fun k hk=>by
    have hjk:j≠k:=fun e=>hnot (e ▸ hk);rw[getD_set_ne true hjk];exact hun k hk
   have hfree': ∀ k ok,ops[k]? = some ok->k≠i->(listed.setIfInBounds j true).getD k true=false-> ¬ D k->oi.apart ops ok=true:=fun k ok hk hki hu hno=>by
    refine hfree k ok hk hki ?_ hno;by_cases hjk:j=k
    ·subst hjk; exact hjun
    ·rw[getD_set_ne true hjk] at hu; exact hu
   refine wpOp_mono (fun a' w' h3=>⟨h3.2.1,ih (listed.setIfInBounds j true) a' w' hun' hfree' (ready_mono hr (Ne.symm hji)) h3.1 h3.2.1 ?_⟩) h2;rw[Array.setIfInBounds_comm _ _ hji];exact h3.2.2
theorem AQ {i:Nat} {oi:Oper} {v:Value} {fuel:Nat} {listed:Array Bool} {a:Act} {w:World} (hi:ops[i]? = some oi)
 (hs:Region.noSelect ops=true) (hf:Ht ops listed i=true) (hr:(Region.ready .any ops listed).contains i=true)
 (hQ: ∀ c a w,Q (.panic c) (a.put oi.dst v) w->Q (.panic c) a w) (hy:YieldsIf P ops S oi v a) (hS:S w)
 (h:wpAnyH P .any ops Q S fuel (listed.setIfInBounds i true) (a.put oi.dst v) w):wpAnyH P .any ops Q S (fuel+1) listed a w:=by
 simp only[Ht,hi,Bool.and_eq_true,List.all_eq_true] at hf;obtain⟨h1,h2⟩:=hf;refine yX (fun j=>j∈EP ops i) hi (Region.noSelect_spec hs) hQ ?_ fuel listed a w ?_ ?_ (by simpa using hr) hy hS h
 ·intro j oj hj hd;have h3:=(h1 j hd).2;simp only[hj,Array.any_eq_true] at h3;obtain⟨k,hk,h4⟩:=h3;simp only[Bool.and_eq_true,Bool.or_eq_true,List.contains_iff_mem] at h4;exact⟨_,Array.getElem_mem hk,h4.1,h4.2.imp Nat.eq_of_beq_eq_true id⟩
 ·intro j hd;simpa using (h1 j hd).1
 ·intro j oj hj hne hun hno;have hlt:j<ops.size:=(Array.getElem?_eq_some_iff.1 hj).1;have h3:=h2 j (by simpa using hlt);simp only[hj,Bool.or_eq_true,beq_iff_eq,List.contains_iff_mem] at h3;rcases h3 with ((h3 | h3) | h3) | h3
  ·exact (hne h3).elim
  ·rw[hun] at h3; cases h3
  ·exact (hno h3).elim
  ·exact h3
end
def wpO (P:Program) (ops:Array Oper) (Q:Exit->Act->World->Prop):Sch->(World->Prop)->Act->World->Prop
 | .nil,_,a,w=>Q .normal a w
 | .q i r,S,a,w=> ∃ o v,ops[i]? = some o/\YieldsIf P ops S o v a/\wpO P ops Q r S (a.put o.dst v) w
 | .e i r,S,a,w=>wpOp P ops Q i (fun a' w'=> ∃ S':World->Prop,S' w'/\(∀ w,S' w->S w)/\wpO P ops Q r S' a' w') a w
 | .br i r m,S,a,w=>wpOp P ops Q i (fun a' w'=> ∃ S':World->Prop,S' w'/\(∀ w,S' w->S w)/\wpO P ops Q r S' a' w') a w/\wpO P ops Q m S a w
section
variable {P:Program} {ops:Array Oper} {Q:Exit->Act->World->Prop}
theorem qp {S S':World->Prop} (hS: ∀ w,S' w->S w): ∀ (fuel:Nat) (listed:Array Bool) (a:Act) (w:World),wpAnyH P .any ops Q S' fuel listed a w->wpAnyH P .any ops Q S fuel listed a w
 | 0,_,_,_,h=>h
 | fuel+1,listed,a,w,h=>⟨h.1,fun i hi=>wpOp_mono (fun a' w' h'=>⟨hS _ h'.1,qp hS fuel _ a' w' h'.2⟩) (h.2 i hi)⟩
theorem oH (hs:Region.noSelect ops=true) (hQ:NoP Q): ∀ (ord:Sch) (k:Nat) (S:World->Prop) (listed:Array Bool) (a:Act) (w:World),S w->wpO P ops Q ord S a w ->
 (gN ops false k ord listed=true->wpAnyH P .any ops Q S k listed a w) /\
 (∀ k',k=k'+1->gN ops true k ord listed=true-> ∀ j∈ord.heads,wpOp P ops Q j (fun a' w'=>S w'/\wpAnyH P .any ops Q S k' (listed.setIfInBounds j true) a' w') a w)
 | .nil,k,S,listed,a,w,hS,h=>by
  refine⟨fun hk=> ?_,fun k' _ hk=>by cases k <;> simp[gN] at hk⟩;have hk':k=0/\Region.ready .any ops listed = []:=by cases k <;> simp[gN] at hk <;> exact⟨rfl,hk⟩
  rw[hk'.1];exact⟨hk'.2,h⟩
 | .q i r,0,S,listed,a,w,hS,h=>⟨fun hk=>by simp[gN] at hk,fun k' e=>by omega⟩
 | .q i r,k+1,S,listed,a,w,hS,h=>by
  refine⟨fun hk=> ?_,fun k' _ hk=>by simp[gN] at hk⟩;obtain⟨o,v,ho,hy,h⟩:=h;simp only[gN,Bool.and_eq_true] at hk;obtain⟨⟨⟨_,h1⟩,h2⟩,h3⟩:=hk;exact AQ ho hs h2 h1 (fun c a' w' h'=>(hQ _ _ _ h').elim) hy hS ((oH hs hQ r k S _ _ _ hS h).1 h3)
 | .e i r,0,S,listed,a,w,hS,h=>⟨fun hk=>by simp[gN] at hk,fun k' e=>by omega⟩
 | .e i r,k+1,S,listed,a,w,hS,h=>by
  have key:gN ops false k r (listed.setIfInBounds i true)=true->wpOp P ops Q i (fun a' w'=>S w'/\wpAnyH P .any ops Q S k (listed.setIfInBounds i true) a' w') a w:=by
   intro h3;refine wpOp_mono ?_ h;rintro a' w' ⟨S',k1,k2,k3⟩;exact⟨k2 _ k1,qp k2 _ _ _ _ ((oH hs hQ r k S' _ _ _ k1 k3).1 h3)⟩
  refine⟨fun hk=> ?_,fun k' e hk j hj=> ?_⟩
  ·simp only[gN,Bool.false_or,Bool.and_eq_true,beq_iff_eq] at hk;refine wpAnyH_all hk.1 (by simp) (fun j hj=> ?_);obtain rfl:j=i:=by simpa using hj
   exact key hk.2
  ·obtain rfl:k'=k:=by omega
   simp only[gN,Bool.true_or,Bool.true_and] at hk;obtain rfl:j=i:=by simpa [Sch.heads] using hj
   exact key hk
 | .br i r m,0,S,listed,a,w,hS,h=>⟨fun hk=>by simp[gN] at hk,fun k' e=>by omega⟩
 | .br i r m,k+1,S,listed,a,w,hS,h=>by
  have key:gN ops false k r (listed.setIfInBounds i true)=true->wpOp P ops Q i (fun a' w'=>S w'/\wpAnyH P .any ops Q S k (listed.setIfInBounds i true) a' w') a w:=by
   intro h3;refine wpOp_mono ?_ h.1;rintro a' w' ⟨S',k1,k2,k3⟩;exact⟨k2 _ k1,qp k2 _ _ _ _ ((oH hs hQ r k S' _ _ _ k1 k3).1 h3)⟩
  have more:=(oH hs hQ m (k+1) S listed a w hS h.2).2;refine⟨fun hk=> ?_,fun k' e hk j hj=> ?_⟩
  ·simp only[gN,Bool.false_or,Bool.and_eq_true,beq_iff_eq] at hk;refine wpAnyH_all hk.1.1 (by simp) (fun j hj=> ?_);rcases List.mem_cons.1 hj with rfl | hj
   ·exact key hk.1.2
   ·exact more k rfl hk.2 j hj
  ·obtain rfl:k'=k:=by omega
   simp only[gN,Bool.true_or,Bool.true_and,Bool.and_eq_true] at hk;rcases List.mem_cons.1 (by simpa [Sch.heads] using hj:j∈i::m.heads) with rfl | hj
   ·exact key hk.1
   ·exact more k' rfl hk.2 j hj
end
def TD (P:Program) (n:Nat) (F0:Nat->Prop) (w0:World) (ops:Array Oper) (l:Sch) (Rf:List Res) (e:Env) (Rs:List Res) (Q:Exit->Act->World->Prop):Prop :=
 ∀ a w,Has n e a->St F0 w0 Rs w->wpO P ops Q l (St F0 w0 Rf) a w
section
variable {P:Program} {n:Nat} {F0:Nat->Prop} {w0:World} {e e':Env} {Rs Rs' Rf Rf':List Res} {Q:Exit->Act->World->Prop} {ops:Array Oper} {o:Oper} {v:Value} {l:Sch}
theorem Ls {id:Nat} {os:List Oper} (ord:Sch) (is:List Nat) (hf:Sel Rs is Rf) (hm:P.follows .mixedOrders=true) (hQ:NoP Q) (hk:drawB os.toArray ord=true) (h:TD P n F0 w0 os.toArray ord Rf e Rs Q) :
 T P n F0 w0 e Rs (.region id os.toArray true) Q:=by
 intro a w ha hs;simp only[drawB,Bool.and_eq_true] at hk;obtain⟨h1,h3⟩:=hk;refine wp_region_held (S:=St F0 w0 Rf) hm ?_;have hs':=hs.drew;exact (oH h1 hQ ord _ (St F0 w0 Rf) _ a _ (hs'.sel is hf) (h a _ ha hs')).1 h3
theorem TD.br {i:Nat} {r m:Sch} (h:TD P n F0 w0 ops (.e i r) Rf e Rs Q) (k:TD P n F0 w0 ops m Rf e Rs Q):TD P n F0 w0 ops (.br i r m) Rf e Rs Q:=fun a w ha hs=>⟨h a w ha hs,k a w ha hs⟩
theorem TD.nil (h:X n F0 w0 e Rs .normal Q):TD P n F0 w0 ops .nil Rf e Rs Q:=fun a w ha hw=>h a w ha hw
theorem TD.q {i d:Nat} {op:Op} {ty:TypeId} {pos:String} {af:Array Edge} {g:Option (Nat×Bool)} (ho:ops[i]? = some ⟨some d,op,ty,pos,af,g⟩) (hw:Wd n ops e ⟨some d,op,ty,pos,af,g⟩ true)
 (hx:Ex P n e (St F0 w0 Rf) ⟨some d,op,ty,pos,af,g⟩ v) (hd:Nat.blt d n=true) (h:TD P n F0 w0 ops l Rf ((d,v)::e) Rs Q):TD P n F0 w0 ops (.q i l) Rf e Rs Q :=
 fun a w ha hs=>⟨_,v,ho,.inl ⟨hw a ha,fun w' hw'=>hx a w' ha hw'⟩,h _ _ (ha.put hd) hs⟩
theorem LO {i d:Nat} {op:Op} {ty:TypeId} {pos:String} {af:Array Edge} {g:Option (Nat×Bool)} (ho:ops[i]? = some ⟨some d,op,ty,pos,af,g⟩) (hw:Wd n ops e ⟨some d,op,ty,pos,af,g⟩ false)
 (hd:Nat.blt d n=true) (h:TD P n F0 w0 ops l Rf ((d,undef)::e) Rs Q):TD P n F0 w0 ops (.q i l) Rf e Rs Q :=
 fun a w ha hs=>⟨_,undef,ho,.inr ⟨hw a ha,rfl⟩,h _ _ (ha.put hd) hs⟩
theorem Mp {i:Nat} {R:Env->List Res->Prop} (ho:ops[i]? = some o) (hw:Wd n ops e o true) (hx:Ef P n F0 w0 e Rs o R)
 (h: ∀ e' Rs',R e' Rs'-> ∃ Rf',(∀ w,St F0 w0 Rs' w->St F0 w0 Rf' w)/\(∀ w,St F0 w0 Rf' w->St F0 w0 Rf w)/\TD P n F0 w0 ops l Rf' e' Rs' Q):TD P n F0 w0 ops (.e i l) Rf e Rs Q:=by
 intro a w ha hs;simp only[wpO,wpOp,ho];rw[QX (hw a ha)];refine .inl (hx a w _ _ ha hs (fun e' Rs' hr a' w' ha' hs'=> ?_));obtain⟨Rf',h1,h2,h3⟩:=h e' Rs' hr;exact⟨St F0 w0 Rf',h1 _ hs',h2,h3 a' w' ha' hs'⟩
theorem Mo {i d:Nat} {op:Op} {ty:TypeId} {pos:String} {af:Array Edge} {g:Option (Nat×Bool)} (ho:ops[i]? = some ⟨some d,op,ty,pos,af,g⟩) (hw:Wd n ops e ⟨some d,op,ty,pos,af,g⟩ false)
 (hd:Nat.blt d n=true) (is:List Nat) (hf:Sel Rs is Rf) (h:TD P n F0 w0 ops l Rf ((d,undef)::e) Rs Q):TD P n F0 w0 ops (.e i l) Rf e Rs Q:=by
 intro a w ha hs;simp only[wpO,wpOp,ho,hw a ha];exact⟨St F0 w0 Rf,hs.sel is hf,fun _ h=>h,h _ _ (ha.put hd) hs⟩
theorem Mh {i d:Nat} {op:Op} {ty:TypeId} {pos:String} {af:Array Edge} {g:Option (Nat×Bool)} (ho:ops[i]? = some ⟨some d,op,ty,pos,af,g⟩) (hw:Wd n ops e ⟨some d,op,ty,pos,af,g⟩ true)
 (hx:Ex P n e (St F0 w0 Rs) ⟨some d,op,ty,pos,af,g⟩ v) (hd:Nat.blt d n=true) (is:List Nat) (hf:Sel Rs is Rf) (h:TD P n F0 w0 ops l Rf ((d,v)::e) Rs Q):TD P n F0 w0 ops (.e i l) Rf e Rs Q:=by
 intro a w ha hs;simp only[wpO,wpOp,ho];rw[QX (hw a ha)];exact .inl (B0 hx ha hs ⟨St F0 w0 Rf,hs.sel is hf,fun _ h=>h,h _ _ (ha.put hd) hs⟩)
variable {id j:Nat} {y c:Code} {K:Act->World->Prop}
theorem X.seq (h:T P n F0 w0 e Rs y Q):X n F0 w0 e Rs .normal (Exit.then (y.wp P Q) Q):=h
theorem La (h:X n F0 w0 e Rs .normal Q):X n F0 w0 e Rs .normal (Exit.inBlock id Q):=h
theorem Ly (h:X n F0 w0 e Rs .normal Q):X n F0 w0 e Rs (.exit id) (Exit.inBlock id Q):=fun a w ha hs=>by
 show (if id=id then Q .normal a w else _);rw[QX rfl];exact h a w ha hs
theorem KT (h:X n F0 w0 e Rs .ret Q):X n F0 w0 e Rs .ret (Exit.then K Q):=h
theorem K2 (h:X n F0 w0 e Rs .ret Q):X n F0 w0 e Rs .ret (Exit.inBlock id Q):=h
theorem K5 (h:X n F0 w0 e Rs (.exit j) Q):X n F0 w0 e Rs (.exit j) (Exit.then K Q):=h
theorem X.back {I:Nat->Env->List Res->Prop} {m m':Nat} (is:List Nat) (hm:m'<m) (hI:I m' e' Rs') (he:Sub e' e) (hr:Sel Rs is Rs') :
 X n F0 w0 e Rs .normal (Exit.then (fun a w=> ∃ m' e' Rs',m'<m/\I m' e' Rs'/\Has n e' a/\St F0 w0 Rs' w) Q) :=
 fun a w ha hs=>⟨m',e',Rs',hm,hI,ha.sub he.get,hs.sel is hr⟩
def JQ (n:Nat) (F0:Nat->Prop) (w0:World) (R:Env->List Res->Prop):Exit->Act->World->Prop
 | .normal,a,w=> ∃ e Rs,R e Rs/\Has n e a/\St F0 w0 Rs w
 | _,_,_=>False
theorem r8 {R:Env->List Res->Prop}:NoP (JQ n F0 w0 R):=fun _ _ _ h=>h
theorem Mr (R:Env->List Res->Prop) (h:T P n F0 w0 e Rs c (JQ n F0 w0 R)) (k: ∀ e' Rs',R e' Rs'->X n F0 w0 e' Rs' .normal Q):T P n F0 w0 e Rs c Q:=by
 intro a w ha hs;refine wp_mono (h a w ha hs) ?_;intro x a' w' hx;cases x <;> first | exact hx.elim | skip;obtain⟨e',Rs',hR,ha',hs'⟩:=hx;exact k e' Rs' hR a' w' ha' hs'
theorem L9 {R:Env->List Res->Prop} (is:List Nat) (hR:R e' Rs') (he:Sub e' e) (hr:Sel Rs is Rs'):X n F0 w0 e Rs .normal (JQ n F0 w0 R):=fun a w ha hs=>⟨e',Rs',hR,ha.sub he.get,hs.sel is hr⟩
theorem LY {α:Type} (T':TypeId) (size:Nat) (E:Rd α) (h:T P n F0 w0 e (bG T' size E (.slice none 0 0) []::Rs) c Q):T P n F0 w0 e Rs c Q:=fun a w ha hs=>h a w ha (bG.nil T' size E hs)
theorem LQ {f:Func} {R:Value->Res->List Res->Prop} {A':Res} {Ns:List Res} (is:List Nat) (hf:f.results= #[]) (hR:R (.tuple #[]) A' Ns) (hr:Sel Rs is (A'::Ns)) {x:Exit} (hx:x= .ret\/x= .normal) :
 X n F0 w0 e Rs x (bodyPost P f (sd R F0 w0)):=by
 intro a w ha hs;have h:bodyPost P f (sd R F0 w0) .ret a w:=⟨ha.df,.tuple #[],by
  rw[pb,hf];simp,_,A',Ns,rfl,hR,hs.sel is hr⟩
 rcases hx with rfl | rfl <;> exact h
end
theorem NoP.seq {Q:Exit->Act->World->Prop} {K:Act->World->Prop} (h:NoP Q):NoP (Exit.then K Q):=h
theorem NoP.blk {Q:Exit->Act->World->Prop} {i:Nat} (h:NoP Q):NoP (Exit.inBlock i Q):=h
theorem bq {P:Program} {f:Func} {F0:Nat->Prop} {w0:World} {R:Value->Res->List Res->Prop}:NoP (bodyPost P f (sd R F0 w0)):=by
 rintro c a w ⟨_,v,A',Ns,h,_⟩;cases h
theorem enterX {P:Program} {f n:Nat} {fn:Func} {c:Code} {args:Array Value} {Xr:RX} {A:Res} {R:Value->Res->List Res->Prop} {e:Env} (hf:P.funcs[f]? = some fn) (hb:fn.body=some c) (hn:fn.ntmps=n)
 (hl:Nat.ble args.size n=true) (he: ∀ t v,e.get t=some v->args[t]? = some v) (h: ∀ F w,Xr.reads w F->T P n F w e [A] c (bodyPost P fn (sd R F w))):aG P f args Xr A R:=by
 intro F w hA hX;refine calls_of_wp hf hb ?_;have hl':args.size<=n:=Nat.le_of_ble_eq_true hl;refine h F w hX _ w ⟨rfl,?_,fun t v hv=> ?_⟩ (aG.start hA)
 ·simp only[Array.size_append,Array.size_replicate,hn];omega
 ·have h1:=he t v hv;have h2:=(Array.getElem?_eq_some_iff.1 h1).1;rw[Array.getElem?_append_left h2];exact h1
def zz:Nat->List Value->Env
 | _,[] => []
 | k,v::vs=>(k,v)::zz (k+1) vs
theorem uk: ∀ (vs:List Value) (k t:Nat) (v:Value),Env.get (zz k vs) t=some v->k<=t/\vs[t - k]? = some v
 | [],_,_,_,h=>by simp[zz,Env.get] at h
 | u::vs,k,t,v,h=>by
  simp only[zz,Env.get] at h
  cases hb:Nat.beq k t with
  | true =>
   rw[hb] at h;obtain rfl:=Nat.eq_of_beq_eq_true hb;exact⟨N0 _,by simpa using h⟩
  | false =>
   rw[hb] at h;obtain⟨h1,h2⟩:=uk vs (k+1) t v h;refine⟨by omega,?_⟩;obtain⟨m,rfl⟩: ∃ m,t=k+1+m:=⟨t - (k+1),by omega⟩;rw[show k+1+m - k=m+1 by omega];rw[show k+1+m - (k+1)=m by omega] at h2;simpa using h2
theorem aU {P:Program} {f n:Nat} {fn:Func} {c:Code} {args:List Value} {Xr:RX} {A:Res} {R:Value->Res->List Res->Prop} (hf:P.funcs[f]? = some fn) (hb:fn.body=some c) (hn:fn.ntmps=n)
 (hl:Nat.ble args.length n=true) (h: ∀ F w,Xr.reads w F->T P n F w (zz 0 args) [A] c (bodyPost P fn (sd R F w))):aG P f args.toArray Xr A R :=
 enterX hf hb hn (by simpa using hl) (fun t v hv=>by simpa using (uk args 0 t v hv).2) h
set_option linter.unusedSimpArgs false
def ksame:IntKind->IntKind->Bool
 | .i8,.i8 | .i16,.i16 | .i32,.i32 | .i64,.i64 | .u8,.u8 | .u16,.u16 | .u32,.u32 | .u64,.u64=>true
 | _,_=>false
theorem Hu {k k':IntKind} (h:ksame k k'=true):k=k':=by cases k <;> cases k' <;> first | rfl | cases h
def cmpV:BinOp->Int->Int->Option Bool
 | .eql,a,b=>some (decide (a=b))
 | .neq,a,b=>some (!decide (a=b))
 | .lss,a,b=>some (decide (a<b))
 | .leq,a,b=>some (decide (a<=b))
 | .gtr,a,b=>some (decide (a>b))
 | .geq,a,b=>some (decide (a>=b))
 | _,_,_=>none
def eO:=List (Nat×Nat×Nat)
def eO.get:eO->Nat->Nat->Option Nat
 | [],_,_=>none
 | (s,f,o)::r,s',f'=>match Nat.beq s s' with
  | true=>match Nat.beq f f' with
   | true=>some o
   | false=>eO.get r s' f'
  | false=>eO.get r s' f'
def FOK (P:Program) (s f o:Nat):Prop:= ∀ (a:Addr) (w:World),(Instr.fieldAt s (.pointer (some a)) f).run P w= .ok (.pointer (some (a.add o))) w
def eO.OK (P:Program):eO->Prop
 | []=>True
 | (s,f,o)::r=>FOK P s f o/\eO.OK P r
theorem eO.OK.get {P:Program}: ∀ {t:eO},t.OK P-> ∀ {s f o},t.get s f=some o->FOK P s f o
 | [],_,s,f,o,h=>by simp[eO.get] at h
 | (s0,f0,o0)::r,⟨h1,h2⟩,s,f,o,h=>by
  simp only[eO.get] at h
  cases hb:Nat.beq s0 s with
  | true =>
   rw[hb] at h
   cases hc:Nat.beq f0 f with
   | true =>
    rw[hc] at h;obtain rfl:=Nat.eq_of_beq_eq_true hb;obtain rfl:=Nat.eq_of_beq_eq_true hc;injection h with h;subst h;exact h1
   | false=>rw[hc] at h; exact eO.OK.get h2 h
  | false=>rw[hb] at h; exact eO.OK.get h2 h
theorem FOK.mk {P:Program} {s f:Nat} {fs:Array Field} {fl:Field} {k:Nat} (hu: ∀ w,(underlying s).run P w= .ok (.struct fs) w) (hf:fs[f]? = some fl) (hz: ∀ w,(sizeOf fl.type).run P w= .ok (k+1) w) {o:Nat} (ho:fl.offset=o):FOK P s f o:=by
 intro a w;subst ho;simp[Instr.fieldAt,hu,hf,Instr.sureAddr,fieldPlace,hz]
def B4 (ft:eO) (e:Env):Op->Option Value
 | .move x=>e.ev x
 | .assign x=>e.ev x
 | .extract x i=>match e.ev x with
  | some (.tuple vs)=>vs[i]?
  | _=>none
 | .unOp .not _ x=>match e.ev x with
  | some (.bool b)=>some (.bool (!b))
  | _=>none
 | .nilCheck x=>match e.ev x with
  | some (.pointer (some a))=>some (.pointer (some a))
  | _=>none
 | .fieldAddr s x f=>match e.ev x with
  | some (.pointer (some ⟨g,o,none⟩))=>match ft.get s f with
   | some k=>some (.pointer (some ⟨g,o+k,none⟩))
   | none=>none
  | _=>none
 | .binOp op _ x y _=>match e.ev x with
  | some (.int k a)=>match e.ev y with
   | some (.int k' b)=>match ksame k k' with
    | true=>match cmpV op a b with
     | some r=>some (.bool r)
     | none=>none
    | false=>none
   | _=>none
  | _=>none
 | _=>none
theorem B5 {P:Program} {w:World} {op:BinOp} {a b:Int} {r:Bool} (h:cmpV op a b=some r):(Op.intCmp op a b).run P w= .ok (.bool r) w:=by
 cases op <;> cases h <;> rfl
theorem JU {P:Program} {w:World} {op:BinOp} {k:IntKind} {a b:Int} {r:Bool} {t:TypeId} {x y:Operand} (h:cmpV op a b=some r) :
 (do eqGuard op t x y (.int k a) (.int k b); binOp op t (.int k a) (.int k b):Sem Value).run P w= .ok (.bool r) w:=by
 have h1:=B5 (P:=P) (w:=w) h;cases op <;> cases h <;> simpa [eqGuard,binOp] using h1
theorem oI {P:Program} {n:Nat} {ft:eO} {e:Env} {S:World->Prop} {d:Option Tmp} {op:Op} {ty:TypeId} {pos:String} {af:Array Edge} {g:Option (Nat×Bool)} {v:Value} (hft:ft.OK P) (h:B4 ft e op=some v):Ex P n e S ⟨d,op,ty,pos,af,g⟩ v:=by
 intro a w ha _;unfold B4 at h;split at h
 ·simp[execOp,ha.ev h]
 ·simp[execOp,ha.ev h]
 ·split at h
  ·rename_i vs hx;simp[execOp,ha.ev hx,Instr.extract,h]
  ·cases h
 ·split at h
  ·rename_i b hx;injection h with h;subst h;simp[execOp,ha.ev hx,Op.unary]
  ·cases h
 ·split at h
  ·rename_i p hx;injection h with h;subst h;simp[execOp,ha.ev hx]
  ·cases h
 ·split at h
  ·rename_i g' o' hx;split at h
   ·rename_i k hk;injection h with h;subst h;have h1:=hft.get hk ⟨g',o',none⟩ w;have h2:(⟨g',o',none⟩:Addr).add k=⟨g',o'+k,none⟩:=by unfold Addr.add; split <;> simp_all
    simp[execOp,ha.ev hx,h1,h2]
   ·cases h
  ·cases h
 ·split at h
  ·rename_i k x hx;split at h
   ·rename_i k' y hy;split at h
    ·rename_i hk;split at h
     ·rename_i r hr;injection h with h;subst h;obtain rfl:=Hu hk;have h1:=B5 (P:=P) (w:=w) hr;simp only[execOp,ha.ev hx,ha.ev hy,Sem.run_bind];have h2:=fun t x y=>JU (P:=P) (w:=w) (k:=k) (t:=t) (x:=x) (y:=y) hr;simp only[Sem.run_bind] at h2;rw[h2];rfl
     ·cases h
    ·cases h
   ·cases h
  ·cases h
 ·cases h
def yY (ft:eO) (n:Nat) (ops:Array Oper):Env->List Nat->Option Env
 | e,[]=>some e
 | e,i::is=>match ops[i]? with
  | some ⟨some d,op,_,_,_,none⟩=>match Nat.blt d n with
   | true=>match B4 ft e op with
    | some v=>yY ft n ops ((d,v)::e) is
    | none=>none
   | false=>none
  | _=>none
section
variable {P:Program} {n:Nat} {F0:Nat->Prop} {w0:World} {e e':Env} {Rs Rf:List Res} {Q:Exit->Act->World->Prop} {ops:Array Oper} {ft:eO}
theorem TL.run_ (hft:ft.OK P): ∀ (is:List Nat) {e e':Env} {l:List Nat},yY ft n ops e is=some e'->TL P n F0 w0 ops l e' Rs Q->TL P n F0 w0 ops (is++l) e Rs Q
 | [],e,e',l,h,k=>by
  injection h with h;subst h;exact k
 | i::is,e,e',l,h,k=>by
  unfold yY at h;split at h
  ·rename_i ho;split at h
   ·rename_i hd;split at h
    ·rename_i v hv;exact TL.q ho .u (oI hft hv) hd (TL.run_ hft is h k)
    ·cases h
   ·cases h
  ·cases h
def Sch.qs:List Nat->Sch->Sch
 | [],s=>s
 | i::is,s=> .q i (Sch.qs is s)
theorem TD.run_ (hft:ft.OK P): ∀ (is:List Nat) {e e':Env} {l:Sch},yY ft n ops e is=some e'->TD P n F0 w0 ops l Rf e' Rs Q->TD P n F0 w0 ops (Sch.qs is l) Rf e Rs Q
 | [],e,e',l,h,k=>by
  injection h with h;subst h;exact k
 | i::is,e,e',l,h,k=>by
  unfold yY at h;split at h
  ·rename_i ho;split at h
   ·rename_i hd;split at h
    ·rename_i v hv;exact TD.q ho .u (oI hft hv) hd (TD.run_ hft is h k)
    ·cases h
   ·cases h
  ·cases h
theorem TL.run (hft:ft.OK P) (is:List Nat) {l l':List Nat} (hl:l=is++l') (h:yY ft n ops e is=some e') (k:TL P n F0 w0 ops l' e' Rs Q):TL P n F0 w0 ops l e Rs Q:=hl ▸ TL.run_ hft is h k
theorem TD.run (hft:ft.OK P) (is:List Nat) {l l':Sch} (hl:l=Sch.qs is l') (h:yY ft n ops e is=some e') (k:TD P n F0 w0 ops l' Rf e' Rs Q):TD P n F0 w0 ops l Rf e Rs Q:=hl ▸ TD.run_ hft is h k
end
section
variable {P:Program} {n:Nat} {F0:Nat->Prop} {w0:World} {e:Env} {Rs:List Res} {S:World->Prop} {d:Option Tmp} {ty:TypeId} {pos:String} {af:Array Edge} {gd:Option (Nat×Bool)} {v:Value} {x y ix:Operand} {t t' el:TypeId}
theorem LC {ft:eO} {op:Op} (hft:ft.OK P) (h:B4 ft e op=some v):Ex P n e S ⟨d,op,ty,pos,af,gd⟩ v:=oI hft h
theorem K4 {A:Option Addr} {m c:Nat} (hx:e.ev x=some (.slice A m c)) (hu: ∀ w,(underlying t).run P w= .ok (.slice el) w):Ex P n e S ⟨d,.call ⟨.builtin .len,#[x],#[t]⟩,ty,pos,af,gd⟩ (.int .i64 (m:Int)):=by
 intro a w ha _;simp[execOp,resolve,invoke,builtin,ha.ev hx,Builtin.len_,hu,goInt]
theorem LD {l:List UInt8} (hx:e.ev x=some (.string (ba l))) (hu: ∀ w,(underlying t).run P w= .ok .string w):Ex P n e S ⟨d,.call ⟨.builtin .len,#[x],#[t]⟩,ty,pos,af,gd⟩ (.int .i64 (l.length:Int)):=by
 intro a w ha _;simp[execOp,resolve,invoke,builtin,ha.ev hx,Builtin.len_,hu,goInt,cw]
theorem Ex.add {p q:Int} (hx:e.ev x=some (.int .i64 p)) (hy:e.ev y=some (.int .i64 q)) (h: -9223372036854775808<=p+q/\p+q<=9223372036854775807):Ex P n e S ⟨d,.binOp .add t x y t',ty,pos,af,gd⟩ (.int .i64 (p+q)):=by
 intro a w ha _;simp[execOp,ha.ev hx,ha.ev hy,eqGuard,binOp,Op.intArith,IntWalk.i64_in _ h]
theorem Ex.sub {p q:Int} (hx:e.ev x=some (.int .i64 p)) (hy:e.ev y=some (.int .i64 q)) (h: -9223372036854775808<=p - q/\p - q<=9223372036854775807):Ex P n e S ⟨d,.binOp .sub t x y t',ty,pos,af,gd⟩ (.int .i64 (p - q)):=by
 intro a w ha _;simp[execOp,ha.ev hx,ha.ev hy,eqGuard,binOp,Op.intArith,IntWalk.i64_in _ h]
theorem Ex.mul {p q:Int} (hx:e.ev x=some (.int .i64 p)) (hy:e.ev y=some (.int .i64 q)) (h: -9223372036854775808<=p*q/\p*q<=9223372036854775807):Ex P n e S ⟨d,.binOp .mul t x y t',ty,pos,af,gd⟩ (.int .i64 (p*q)):=by
 intro a w ha _;simp[execOp,ha.ev hx,ha.ev hy,eqGuard,binOp,Op.intArith,IntWalk.i64_in _ h]
theorem Ex.addw {k:IntKind} {p q:Int} (hx:e.ev x=some (.int k p)) (hy:e.ev y=some (.int k q)):Ex P n e S ⟨d,.binOp .add t x y t',ty,pos,af,gd⟩ (.int k (k.wrap (p+q))):=by
 intro a w ha _;simp[execOp,ha.ev hx,ha.ev hy,eqGuard,binOp,Op.intArith]
theorem Ex.quo {p q:Int} (hx:e.ev x=some (.int .i64 p)) (hy:e.ev y=some (.int .i64 q)) (hq:1<=q) (h:0<=p/\p<=9223372036854775807):Ex P n e S ⟨d,.binOp .quo t x y t',ty,pos,af,gd⟩ (.int .i64 (p / q)):=by
 intro a w ha _;have h0: ¬ q=0:=by omega
 simp[execOp,ha.ev hx,ha.ev hy,eqGuard,binOp,Op.intDiv,h0,IntWalk.i64_quo _ _ ⟨h.1,h.2,hq⟩]
theorem Ex.rem {p q:Int} (hx:e.ev x=some (.int .i64 p)) (hy:e.ev y=some (.int .i64 q)) (hq:1<=q) (h:0<=p/\p<=9223372036854775807):Ex P n e S ⟨d,.binOp .rem t x y t',ty,pos,af,gd⟩ (.int .i64 (p % q)):=by
 intro a w ha _;have h0: ¬ q=0:=by omega
 simp[execOp,ha.ev hx,ha.ev hy,eqGuard,binOp,Op.intDiv,h0,IntWalk.rem_in _ _ h.1]
theorem Ex.neg {p:Int} (hx:e.ev x=some (.int .i64 p)) (h: -9223372036854775808<= -p/\ -p<=9223372036854775807):Ex P n e S ⟨d,.unOp .neg t x,ty,pos,af,gd⟩ (.int .i64 (-p)):=by
 intro a w ha _;have h2:=IntWalk.i64_in _ h;simp[execOp,ha.ev hx,Op.unary,Op.intArith,h2]
theorem ME {k k':IntKind} {p:Int} (hx:e.ev x=some (.int k' p)) (hs: ∀ w,(underlying t).run P w= .ok (.int k') w) (hu: ∀ w,(underlying t').run P w= .ok (.int k) w):Ex P n e S ⟨d,.convert t t' x,ty,pos,af,gd⟩ (.int k (k.wrap p)):=by
 intro a w ha _;simp[execOp,ha.ev hx,convert,hs,hu,Conv.intToInt]
theorem Mi {p:Int} {k':IntKind} (hx:e.ev x=some (.int k' p)) (hs: ∀ w,(underlying t).run P w= .ok (.int k') w) (hu: ∀ w,(underlying t').run P w= .ok (.int .i64) w) (h: -9223372036854775808<=p/\p<=9223372036854775807):Ex P n e S ⟨d,.convert t t' x,ty,pos,af,gd⟩ (.int .i64 p):=by
 have:=ME (P:=P) (n:=n) (S:=S) (d:=d) (ty:=ty) (pos:=pos) (af:=af) (gd:=gd) hx hs hu
 rwa [IntWalk.i64_in _ h] at this
theorem Ex.maxy {p q:Int} {k k':IntKind} {ts:Array TypeId} (hx:e.ev x=some (.int k p)) (hy:e.ev y=some (.int k' q)) (h:p<q):Ex P n e S ⟨d,.call ⟨.builtin .max,#[x,y],ts⟩,ty,pos,af,gd⟩ (.int k q):=by
 intro a w ha _;simp[execOp,resolve,invoke,builtin,ha.ev hx,ha.ev hy,Builtin.max_,Builtin.max2,h]
theorem Ex.maxx {p q:Int} {k k':IntKind} {ts:Array TypeId} (hx:e.ev x=some (.int k p)) (hy:e.ev y=some (.int k' q)) (h: ¬ p<q):Ex P n e S ⟨d,.call ⟨.builtin .max,#[x,y],ts⟩,ty,pos,af,gd⟩ (.int k p):=by
 intro a w ha _;simp[execOp,resolve,invoke,builtin,ha.ev hx,ha.ev hy,Builtin.max_,Builtin.max2,h]
theorem Ex.miny {p q:Int} {k k':IntKind} {ts:Array TypeId} (hx:e.ev x=some (.int k p)) (hy:e.ev y=some (.int k' q)) (h:q<p):Ex P n e S ⟨d,.call ⟨.builtin .min,#[x,y],ts⟩,ty,pos,af,gd⟩ (.int k q):=by
 intro a w ha _;simp[execOp,resolve,invoke,builtin,ha.ev hx,ha.ev hy,Builtin.min_,Builtin.min2,h]
theorem Ex.minx {p q:Int} {k k':IntKind} {ts:Array TypeId} (hx:e.ev x=some (.int k p)) (hy:e.ev y=some (.int k' q)) (h: ¬ q<p):Ex P n e S ⟨d,.call ⟨.builtin .min,#[x,y],ts⟩,ty,pos,af,gd⟩ (.int k p):=by
 intro a w ha _;simp[execOp,resolve,invoke,builtin,ha.ev hx,ha.ev hy,Builtin.min_,Builtin.min2,h]
theorem LX {c:Operand} {b:Bool} (hc:e.ev c=some (.bool b)) (hb:b=true) (hx:e.ev x=some v):Ex P n e S ⟨d,.pick c x y,ty,pos,af,gd⟩ v:=by
 intro a w ha _;subst hb;simp[execOp,ha.ev hc,ha.ev hx,asBool]
theorem LU {c:Operand} {b:Bool} (hc:e.ev c=some (.bool b)) (hb:b=false) (hy:e.ev y=some v):Ex P n e S ⟨d,.pick c x y,ty,pos,af,gd⟩ v:=by
 intro a w ha _;subst hb;simp[execOp,ha.ev hc,ha.ev hy,asBool]
theorem Ex.sEq {l m:List UInt8} (hx:e.ev x=some (.string (ba l))) (hy:e.ev y=some (.string (ba m))):Ex P n e S ⟨d,.binOp .eql t x y t',ty,pos,af,gd⟩ (.bool (decide (l=m))):=by
 intro a w ha _;have:(l == m)=decide (l=m):=by by_cases h:l=m <;> simp[h]
 simp[execOp,ha.ev hx,ha.ev hy,eqGuard,binOp_string_eql,fz,this]
theorem MD {l m:List UInt8} (hx:e.ev x=some (.string (ba l))) (hy:e.ev y=some (.string (ba m))):Ex P n e S ⟨d,.binOp .neq t x y t',ty,pos,af,gd⟩ (.bool (!decide (l=m))):=by
 intro a w ha _;have:(l == m)=decide (l=m):=by by_cases h:l=m <;> simp[h]
 simp[execOp,ha.ev hx,ha.ev hy,eqGuard,binOp_string_neq,fz,this]
theorem Ex.sGe {l m:List UInt8} (hx:e.ev x=some (.string (ba l))) (hy:e.ev y=some (.string (ba m))):Ex P n e S ⟨d,.binOp .geq t x y t',ty,pos,af,gd⟩ (.bool (!Op.bytesLess l m)):=by
 intro a w ha _;simp[execOp,ha.ev hx,ha.ev hy,eqGuard,binOp,Op.stringOp,fz]
theorem Ln {l m:List UInt8} (hx:e.ev x=some (.string (ba l))) (hy:e.ev y=some (.string (ba m))) (h:l.length+m.length<=9223372036854775807):Ex P n e S ⟨d,.binOp .add t x y t',ty,pos,af,gd⟩ (.string (ba (l++m))):=by
 intro a w ha _;have h2: ¬ (((ba l).size+(ba m).size:Nat):Int)>IntKind.i64.max:=by
  have e1:IntKind.i64.max=9223372036854775807:=by decide
  rw[e1,cw,cw];omega
 have h3:ba l++ba m=ba (l++m):=by
  apply ByteArray.ext;apply Array.ext';simp[ba]
 simp only[execOp,ha.ev hx,ha.ev hy,eqGuard,binOp_string_add,Op.stringOp,h2,if_false,h3];rfl
theorem Ex.sIx {l:List UInt8} {k:Nat} {i:Int} {c:UInt8} {q:IntKind} (hx:e.ev x=some (.string (ba l))) (hi:e.ev ix=some (.int q i)) (hik:i=(k:Int)) (hu:P.underlying t=some .string) (hc:l[k]? = some c):Ex P n e S ⟨d,.index t x ix,ty,pos,af,gd⟩ (.int .u8 (c.toNat:Int)):=by
 intro a w ha _;subst hik;have hk:=(ND hc).1;have h1:(0:Int)<=(k:Int)/\(k:Int)<((ba l).size:Int):=by rw[cw]; omega
 have h2:(ba l)[k]'(by rw[cw]; exact hk)=c:=by
  have:l[k]=c:=(ND hc).2;show (ba l).data[k]=c;simpa [ba] using this
 simp only[execOp,ha.ev hx,ha.ev hi,Sem.run_bind,run_index_string w t (ba l) q k hu];rw[dif_pos h1];simp[h2]
inductive LoOK (e:Env):Option Operand->Nat->Prop where
 | none:LoOK e none 0
 | some {o:Operand} {k:IntKind} {i:Int} {p:Nat} (h:e.ev o=some (.int k i)) (hi:i=(p:Int)):LoOK e (some o) p
inductive HiOK (e:Env) (n:Nat):Option Operand->Nat->Prop where
 | none:HiOK e n none n
 | some {o:Operand} {k:IntKind} {i:Int} {p:Nat} (h:e.ev o=some (.int k i)) (hi:i=(p:Int)):HiOK e n (some o) p
theorem Mj {l:List UInt8} {lo hi:Option Operand} {p q:Nat} (hx:e.ev x=some (.string (ba l))) (hu: ∀ w,(underlying t).run P w= .ok .string w)
 (hlo:LoOK e lo p) (hhi:HiOK e l.length hi q) (h:p<=q/\q<=l.length) {m:List UInt8} (hm:(l.drop p).take (q - p)=m) :
 Ex P n e S ⟨d,.slice t x lo hi none,ty,pos,af,gd⟩ (.string (ba m)):=by
 intro a w ha _;have e1:(ba l).extract p q=ba m:=by rw[qh,dm,hm]
 have b1: ∀ k cd,(Instr.sliceBound (.int k (q:Int)) l.length cd).run P w= .ok q w:=by
  intro k cd;have:(0:Int)<=(q:Int)/\(q:Int)<=(l.length:Int):=by omega
  simp[Instr.sliceBound,asIntOf,this]
 have b2: ∀ k cd,(Instr.sliceBound (.int k (p:Int)) q cd).run P w= .ok p w:=by
  intro k cd;have:(0:Int)<=(p:Int)/\(p:Int)<=(q:Int):=by omega
  simp[Instr.sliceBound,asIntOf,this]
 cases hlo with
 | none =>
  cases hhi with
  | none =>
   obtain rfl:l=m:=by simpa using hm
   have e2:(ba l).extract 0 l.length=ba l:=by simpa using e1
   simp[execOp,ha.ev hx,Instr.sliceAt,Instr.slice,hu,Instr.sliceBounds,cw,e2]
  | some ho hi =>
   subst hi;simp[execOp,ha.ev hx,ha.ev ho,Instr.sliceAt,Instr.slice,hu,Instr.sliceBounds,cw,b1,e1]
 | some ho hi =>
  subst hi
  cases hhi with
  | none =>
   simp[execOp,ha.ev hx,ha.ev ho,Instr.sliceAt,Instr.slice,hu,Instr.sliceBounds,cw,b2,e1]
  | some ho' hi' =>
   subst hi';simp[execOp,ha.ev hx,ha.ev ho,ha.ev ho',Instr.sliceAt,Instr.slice,hu,Instr.sliceBounds,cw,b1,b2,e1]
theorem K6 {g o m c z k:Nat} {i:Int} {q:IntKind} (hx:e.ev x=some (.slice (some ⟨g,o,none⟩) m c)) (hi:e.ev ix=some (.int q i)) (hik:i=(k:Int)) (hu: ∀ w,(underlying t).run P w= .ok (.slice el) w) (hz: ∀ w,(sizeOf el).run P w= .ok z w) (hk:k<m) :
 Ex P n e S ⟨d,.indexAddr t x ix,ty,pos,af,gd⟩ (.pointer (some ⟨g,o+k*z,none⟩)):=by
 intro a w ha _;subst hik;have h1:(0:Int)<=(k:Int)/\(k:Int)<(m:Int):=by omega
 have h2:(⟨g,o,none⟩:Addr).add (k*z)=⟨g,o+k*z,none⟩:=by unfold Addr.add; split <;> simp_all
 have h3:(Instr.indexAt t (.slice (some ⟨g,o,none⟩) m c) (.int q (k:Int))).run P w= .ok (.pointer (some ⟨g,o+k*z,none⟩)) w:=by
  simp only[Instr.indexAt,asIntOf,Sem.run_bind,Sem.run_pure,Result.andThen_ok,hu];rw[QX h1];simp[hz,h2]
 simp[execOp,ha.ev hx,ha.ev hi,h3]
theorem AR {w:World} {ad:Addr} (ha: ∀ w,(isAgg t).run P w= .ok false w) (hc:w.cell? ad=some v):(loadVar t ad).run P w= .ok v w:=by
 simp[loadVar,ha,hc]
theorem td {w:World} {ad:Addr} {cs:List Value} (ha: ∀ w,(isAgg t).run P w= .ok true w) (hz: ∀ w,(sizeOf t).run P w= .ok cs.length w) (hc: ∀ j u,cs[j]? = some u->w.cell? (ad.add j)=some u):(loadVar t ad).run P w= .ok (.agg cs.toArray) w:=by
 simp[loadVar,ha,hz,run_loadCells_list w ad cs hc]
theorem Ex.ld1 {ad:Addr} (hx:e.ev x=some (.pointer (some ad))) (ha: ∀ w,(isAgg t).run P w= .ok false w) (hc: ∀ w,S w->w.cell? ad=some v):Ex P n e S ⟨d,.load t x,ty,pos,af,gd⟩ v:=by
 intro a w h hs;simp[execOp,h.ev hx,Instr.loadAt,Instr.sureAddr,AR ha (hc w hs)]
theorem Ex.ldS {ad:Addr} {cs:List Value} {z:Nat} (hx:e.ev x=some (.pointer (some ad))) (ha: ∀ w,(isAgg t).run P w= .ok true w) (hz: ∀ w,(sizeOf t).run P w= .ok z w) (hl:cs.length=z) (hc: ∀ w,S w-> ∀ j u,cs[j]? = some u->w.cell? (ad.add j)=some u):Ex P n e S ⟨d,.load t x,ty,pos,af,gd⟩ (.agg cs.toArray):=by
 intro a w h hs;subst hl;simp[execOp,h.ev hx,Instr.loadAt,Instr.sureAddr,td ha hz (hc w hs)]
theorem Lc (i:Nat) {b o:Nat} {T:TypeId} {cs:Array Value} (hx:e.ev x=some (.pointer (some ⟨b,o,none⟩))) (ha: ∀ w,(isAgg t).run P w= .ok false w) (hi:Rs[i]? = some (aV b T cs)) (hv:cs[o]? = some v):Ex P n e (St F0 w0 Rs) ⟨d,.load t x,ty,pos,af,gd⟩ v :=
 Ex.ld1 hx ha (fun w hw=>(bt (hw.blk i hi) o).trans hv)
theorem K9 (i:Nat) {b o z:Nat} {T:TypeId} {cs:Array Value} {us:List Value} (hx:e.ev x=some (.pointer (some ⟨b,o,none⟩))) (ha: ∀ w,(isAgg t).run P w= .ok true w) (hz: ∀ w,(sizeOf t).run P w= .ok z w) (hi:Rs[i]? = some (aV b T cs))
 (hv:(cs.toList.drop o).take z=us) (hl:Nat.beq us.length z=true):Ex P n e (St F0 w0 Rs) ⟨d,.load t x,ty,pos,af,gd⟩ (.agg us.toArray):=by
 refine Ex.ldS hx ha hz (Nat.eq_of_beq_eq_true hl) (fun w hw j u hj=> ?_);have h2:(⟨b,o,none⟩:Addr).add j=⟨b,o+j,none⟩:=by unfold Addr.add; split <;> simp_all
 rw[h2,bt (hw.blk i hi)];subst hv;rw[List.getElem?_take] at hj;split at hj
 ·rw[List.getElem?_drop] at hj;simpa using hj
 ·cases hj
theorem Lw {g q z:Nat} (j:Nat) {cs:List Value} (hx:e.ev x=some (.pointer (some ⟨g,q+j,none⟩))) (ha: ∀ w,(isAgg t).run P w= .ok false w) (nf: ¬ F0 g/\g<w0.heap.size) (hc: ∀ j,j<z->w0.cell? ⟨g,q+j,none⟩=cs[j]?) (hj:Nat.blt j z=true) (hv:cs[j]? = some v) :
 Ex P n e (St F0 w0 Rs) ⟨d,.load t x,ty,pos,af,gd⟩ v :=
 Ex.ld1 hx ha (fun w hw=>hw.old2 nf ((hc j (by simpa [Nat.blt_eq] using hj)).trans hv))
theorem LM {g q z z':Nat} (k:Nat) {cs us:List Value} (hx:e.ev x=some (.pointer (some ⟨g,q+k,none⟩))) (ha: ∀ w,(isAgg t).run P w= .ok true w) (hz: ∀ w,(sizeOf t).run P w= .ok z' w) (nf: ¬ F0 g/\g<w0.heap.size) (hc: ∀ j,j<z->w0.cell? ⟨g,q+j,none⟩=cs[j]?) (hcl:cs.length=z)
 (hv:(cs.drop k).take z'=us) (hl:Nat.beq us.length z'=true):Ex P n e (St F0 w0 Rs) ⟨d,.load t x,ty,pos,af,gd⟩ (.agg us.toArray):=by
 refine Ex.ldS hx ha hz (Nat.eq_of_beq_eq_true hl) (fun w hw j u hj=> ?_);have h2:(⟨g,q+k,none⟩:Addr).add j=⟨g,q+(k+j),none⟩:=by unfold Addr.add; split <;> simp_all [Nat.add_assoc]
 rw[h2];subst hv;rw[List.getElem?_take] at hj;split at hj
 ·rw[List.getElem?_drop] at hj;have hlt:=(ND hj).1;exact hw.old2 nf ((hc (k+j) QR).trans hj)
 ·cases hj
def BOK (P:Program) (t:TypeId) (zs:Array Value) (pl:List (Nat×Nat)):Prop:= ∀ (parts:Array (Nat×Value)) (cells:Array Value) (w:World),Instr.fill (pl[·]?) zs parts.toList=some cells->(Instr.build t parts).run P w= .ok (.agg cells) w
theorem Lo {zs cells:Array Value} {pl:List (Nat×Nat)} {ps:List (Nat×Operand)} {vs:List Value} (hB:BOK P t zs pl) (hv:e.evs (ps.map (·.2))=some vs) (hf:Instr.fill (pl[·]?) zs ((ps.map (·.1)).zip vs)=some cells):Ex P n e S ⟨d,.build t ps.toArray,ty,pos,af,gd⟩ (.agg cells):=by
 intro a w ha _;have h1:=ha.evs hv;have h2:ps.map (fun p=>(p.1,a.eval p.2))=(ps.map (·.1)).zip vs:=by
  rw[<- h1];clear h1 hf hv
  induction ps with
  | nil=>rfl
  | cons p ps ih=>simp[ih]
 have h3:=hB (ps.map (fun p=>(p.1,a.eval p.2))).toArray cells w (by simpa [h2] using hf);simp only[execOp,List.map_toArray,Sem.run_bind];rw[h3];rfl
theorem Ex.mkF {fn:Fn} {fs cs:List Operand} {us vs:List Value} (hf:e.evs fs=some us) (hc:e.evs cs=some vs) (h: ∀ w,(Instr.makeFunc fn us.toArray vs.toArray).run P w= .ok v w):Ex P n e S ⟨d,.makeFunc fn fs.toArray cs.toArray,ty,pos,af,gd⟩ v:=by
 intro a w ha _;simp[execOp,List.map_toArray,ha.evs hf,ha.evs hc,h]
theorem Ex.pNe {ad:Addr} {b:Bool} {op:BinOp} (hop:op= .eql/\b=false\/op= .neq/\b=true) (hx:e.ev x=some (.pointer (some ad))) (hy:e.ev y=some (.pointer none)) (hu: ∀ w,(underlying t).run P w= .ok (.pointer el) w):Ex P n e S ⟨d,.binOp op t x y t',ty,pos,af,gd⟩ (.bool b):=by
 intro a w ha _;have h1: ∀ k,(Op.equalIn (k+1) t (.pointer (some ad)) (.pointer none)).run P w= .ok false w:=by
  intro k;simp only[Op.equalIn,Sem.run_bind,hu,Result.andThen_ok];rfl
 have h2:(Op.equal t (.pointer (some ad)) (.pointer none)).run P w= .ok false w:=h1 9999;have h3: ∀ b',(do pure (.bool (b' != (<- Op.equal t (.pointer (some ad)) (.pointer none)))):Sem Value).run P w= .ok (.bool b') w:=by
  intro b';simp[h2]
 rcases hop with⟨rfl,rfl⟩ | ⟨rfl,rfl⟩
 ·have h4:(binOp .eql t (.pointer (some ad)) (.pointer none)).run P w= .ok (.bool false) w:=by
   simp only[binOp,Sem.run_bind,h2,Result.andThen_ok,Sem.run_pure]
  simp[execOp,ha.ev hx,ha.ev hy,eqGuard,h4]
 ·have h4:(binOp .neq t (.pointer (some ad)) (.pointer none)).run P w= .ok (.bool true) w:=by
   simp only[binOp,Sem.run_bind,h2,Result.andThen_ok,Sem.run_pure];rfl
  simp[execOp,ha.ev hx,ha.ev hy,eqGuard,h4]
end
def mV:Option Nat->Value->Env->Env
 | none,_,e=>e
 | some d,v,e=>(d,v)::e
def okd:Option Nat->Nat->Bool
 | none,_=>true
 | some d,n=>Nat.blt d n
section
variable {P:Program} {n:Nat} {F0:Nat->Prop} {w0:World} {e:Env} {Rs:List Res} {d:Option Tmp} {ty:TypeId} {pos:String} {af:Array Edge} {gd:Option (Nat×Bool)} {v:Value} {x y:Operand} {t t' el:TypeId}
theorem Has.putd {a:Act} (h:Has n e a) (hd:okd d n=true):Has n (mV d v e) (a.put d v):=by
 cases d with
 | none=>exact h
 | some d=>exact h.put hd
theorem St.setRowS {b:Nat} {T:TypeId} {cs cs':Array Value} {w:World} (i:Nat) (h:St F0 w0 Rs w) (hi:Rs[i]? = some (aV b T cs)):St F0 w0 (Rs.set i (aV b T cs')) (w.setRow b cs'):=by
 refine h.step i hi (Ns := []) (fun G hG=>⟨⟨rfl,rfl,rfl,by simp[World.setRow],fun k hk hn=>setRow_other w b k cs' (fun e=>hn (e ▸ (hG.2 b).2 rfl))⟩,G,⟨setRow_heap w b cs cs' T (0,0) hG.1,hG.2⟩,fun k hk=> .inl hk,trivial⟩)
theorem Ef.alloc {zv:Value} (hz: ∀ w,(zeroValue t).run P w= .ok zv w) (hd:okd d n=true):Ef P n F0 w0 e Rs ⟨d,.alloc t,ty,pos,af,gd⟩ (fun e' Rs'=> ∃ b,e'=mV d (.pointer (some ⟨b,0,none⟩)) e/\Rs'=aV b t zv.cells::Rs):=by
 intro a w K Q ha hs hk;have h1:(execOp a.eval ⟨d,.alloc t,ty,pos,af,gd⟩).run P w= .ok (.value (.pointer (some ⟨w.heap.size,0,none⟩))) (w.alloc (.cells zv.cells t)):=by
  simp[execOp,Instr.alloc,hz,newVar,newRow,newObj];rfl
 unfold Oper.wp;rw[h1];exact hk _ _ ⟨_,rfl,rfl⟩ _ _ (ha.putd hd) (hs.alloc _ _)
theorem Ef.box (hx:e.ev x=some v) (hd:okd d n=true):Ef P n F0 w0 e Rs ⟨d,.box t x,ty,pos,af,gd⟩ (fun e' Rs'=> ∃ b,e'=mV d (.pointer (some ⟨b,0,none⟩)) e/\Rs'=aV b t v.cells::Rs):=by
 intro a w K Q ha hs hk;have h1:(execOp a.eval ⟨d,.box t x,ty,pos,af,gd⟩).run P w= .ok (.value (.pointer (some ⟨w.heap.size,0,none⟩))) (w.alloc (.cells v.cells t)):=by
  simp[execOp,ha.ev hx,Instr.box,newVar,newRow,newObj];rfl
 unfold Oper.wp;rw[h1];exact hk _ _ ⟨_,rfl,rfl⟩ _ _ (ha.putd hd) (hs.alloc _ _)
theorem Ef.st (i:Nat) {b o z:Nat} {T:TypeId} {cs cs':Array Value} (hx:e.ev x=some (.pointer (some ⟨b,o,none⟩))) (hy:e.ev y=some v) (hz: ∀ w,(sizeOf t).run P w= .ok z w) (hi:Rs[i]? = some (aV b T cs))
 (hvz:Nat.beq v.cells.size z=true) (hf:Nat.ble (o+v.cells.size) cs.size=true) (ho:v.cells.toList.all (·.oneCell')=true) (hc:(cs.toList.take o++v.cells.toList++cs.toList.drop (o+v.cells.size)).toArray=cs') :
 Ef P n F0 w0 e Rs ⟨none,.store t x y,ty,pos,af,gd⟩ (fun e' Rs'=>e'=e/\Rs'=Rs.set i (aV b T cs')):=by
 intro a w K Q ha hs hk;have hb:=hs.blk i hi;have hvz':=Nat.eq_of_beq_eq_true hvz;have hf':=Nat.le_of_ble_eq_true hf;have h2:=run_storeCells_at (P:=P) b o T v.cells.toList 0 cs w hb (by simpa using hf') (List.all_eq_true.1 ho);have h1:(execOp a.eval ⟨none,.store t x y,ty,pos,af,gd⟩).run P w= .ok .skip (w.setRow b cs'):=by
  simp only[Nat.add_zero,Array.length_toList] at h2;rw[hc] at h2;simp[execOp,ha.ev hx,ha.ev hy,Instr.storeAt,Instr.sureAddr,storeVar,hz,hvz',h2]
 unfold Oper.wp;rw[h1];exact hk _ _ ⟨rfl,rfl⟩ _ _ (ha.put0) (hs.setRowS i hi)
def CT (P:Program) (n:Nat) (e:Env) (o:Oper) (f:FuncId) (us:List Value):Prop:= ∀ a w,Has n e a->(execOp a.eval o).run P w= .ok (.enter f us.toArray) w
theorem CT.fn {f:FuncId} {xs:List Operand} {vs:List Value} {ts:Array TypeId} (hc: ∀ args w,(callFunc f args).run P w= .ok (.enter f args) w) (hv:e.evs xs=some vs):CT P n e ⟨d,.call ⟨.value (.func f),xs.toArray,ts⟩,ty,pos,af,gd⟩ f vs:=by
 intro a w ha;simp[execOp,resolve,Act.eval,Deferred.ofValue,invoke,List.map_toArray,ha.evs hv,hc]
theorem CT.val {f:FuncId} {x:Operand} {xs:List Operand} {vs us fs cs:List Value} {ts:Array TypeId} (hx:e.ev x=some (.func (.func f) fs.toArray cs.toArray)) (hc: ∀ args w,(callFunc f args).run P w= .ok (.enter f args) w) (hv:e.evs xs=some vs) (hu:fs++vs++cs=us):CT P n e ⟨d,.call ⟨.value x,xs.toArray,ts⟩,ty,pos,af,gd⟩ f us:=by
 intro a w ha;subst hu;simp[execOp,resolve,ha.ev hx,Deferred.ofValue,invoke,List.map_toArray,ha.evs hv,hc]
theorem CT.inv {f:FuncId} {x:Operand} {nm:String} {xs:List Operand} {u u':Value} {vs:List Value} {ts:Array TypeId} (hx:e.ev x=some (.iface t u)) (hm: ∀ w,(method (P.types.size+Made.depth) t u nm).run P w= .ok (f,u') w) (hc: ∀ args w,(callFunc f args).run P w= .ok (.enter f args) w) (hv:e.evs xs=some vs):CT P n e ⟨d,.call ⟨.invoke x nm,xs.toArray,ts⟩,ty,pos,af,gd⟩ f (u'::vs):=by
 intro a w ha;simp[execOp,resolve,ha.ev hx,invoke,callMethod,List.map_toArray,ha.evs hv,hm,hc]
theorem Ef.call (i:Nat) {op:Op} {f:FuncId} {vs:List Value} {A:Res} {Y:RX} {R:Value->Res->List Res->Prop} (hc:CT P n e ⟨d,op,ty,pos,af,gd⟩ f vs) (hi:Rs[i]? = some A)
 (hs:aG P f vs.toArray Y A R) (hr: ∀ w,St F0 w0 Rs w->Src F0 w0 Rs w i Y) (hd:okd d n=true) :
 Ef P n F0 w0 e Rs ⟨d,op,ty,pos,af,gd⟩ (fun e' Rs'=> ∃ v A' N,R v A' N/\e'=mV d v e/\Rs'=N++Rs.set i A'):=by
 intro a w K Q ha hst hk;unfold Oper.wp;rw[hc a w ha];refine (hst.callX i hi hs (hr w hst)).mono ?_;rintro x w' ⟨v,A',N,rfl,hq,hst'⟩;exact hk _ _ ⟨v,A',N,hq,rfl,rfl⟩ _ _ (ha.putd hd) hst'
theorem Ef.callE {op:Op} {f:FuncId} {vs:List Value} {Y:RX} {R:Value->Res->List Res->Prop} (hc:CT P n e ⟨d,op,ty,pos,af,gd⟩ f vs)
 (hs:aG P f vs.toArray Y aL R) (hr: ∀ w,St F0 w0 Rs w->Y.reads w (fun _=>False)) (hd:okd d n=true) :
 Ef P n F0 w0 e Rs ⟨d,op,ty,pos,af,gd⟩ (fun e' Rs'=> ∃ v A' N,R v A' N/\e'=mV d v e/\Rs'=N++Rs):=by
 intro a w K Q ha hst hk;unfold Oper.wp;rw[hc a w ha];refine (hst.callE hs (hr w hst)).mono ?_;rintro x w' ⟨v,A',N,rfl,hq,hst'⟩;exact hk _ _ ⟨v,A',N,hq,rfl,rfl⟩ _ _ (ha.putd hd) hst'
theorem EQ {a:Act} {w:World} {sl x:Operand} {T:TypeId} {z bytes g:Nat} {zv:Value} {us cells:List Value} {q:Value} {m:Nat} (ha:Has n e a) (hu:P.underlying t=some (.slice T)) (hinfo:(P.info? T).map (fun i=>(i.zero,i.size,i.bytes))=some (some zv,z,bytes)) (hzv:zv.cells.size=z) (hp:0<z)
 (hs:e.ev sl=some q) (hx:e.ev x=some (.slice (some ⟨g,0,none⟩) 1 1)) (hown:w.ownsRow 0 T z q m cells) (hl:us.length=z) (hg:w.heap[g]? = some (.cells us.toArray T (0,0))) (ho:us.all (·.oneCell')=true) (hb:(m+1)*bytes<=140737488355328) (hm:m+1<=140737488355328) :
 ∃ q' w',(execOp a.eval ⟨d,.call ⟨.builtin .append,#[sl,x],#[t,t]⟩,ty,pos,af,gd⟩).run P w= .ok (.value q') w'/\w'.ownsRow 0 T z q' (m+1) (cells++us)/\w.grownBy w' q.ownBlock/\(q'.ownBlock=q.ownBlock\/ ∃ k,q'.ownBlock=some k/\w.heap.size<=k):=by
 obtain⟨i,hi,hzz⟩:=Option.map_eq_some_iff.1 hinfo;simp only[Prod.mk.injEq] at hzz;obtain⟨h0,h1,h2⟩:=hzz;obtain⟨q',w',hr,k2,k3,_,k5⟩:=run_append_own_at (P:=P) w 0 t ty T i zv z bytes hu hi h0 h1 h2 hzv hp q m cells hown ⟨g,0,none⟩ 1 1 us QR (fun j u hj=>by
  have e1:(⟨g,0,none⟩:Addr).add j=⟨g,j,none⟩:=by unfold Addr.add; split <;> simp_all
  rw[e1,bt hg];simpa using hj) (by simpa using ho) (by simp only[maxLen]; omega) hb (NY _)
 refine⟨q',w',?_,k2,k3,k5.imp id (fun h=>⟨_,h,N0 _⟩)⟩;simp[execOp,resolve,invoke,builtin,ha.ev hs,ha.ev hx,hr]
theorem Ef.app1 (i:Nat) {α:Type} {E:Rd α} {sl x:Operand} {T:TypeId} {z bytes g:Nat} {zv:Value} {us:List Value} {A:Option Addr} {c:Nat} {l:List α} {u:α} {Rs':List Res} (hu:P.underlying t=some (.slice T)) (hinfo:(P.info? T).map (fun i=>(i.zero,i.size,i.bytes))=some (some zv,z,bytes)) (hzv:zv.cells.size=z) (hp:0<z)
 (hs:e.ev sl=some (.slice A l.length c)) (hx:e.ev x=some (.slice (some ⟨g,0,none⟩) 1 1)) (hR:Rs=aV g T us.toArray::Rs') (hi:Rs'[i]? = some (bG T z E (.slice A l.length c) l)) (hl:us.length=z) (ho:us.all (·.oneCell')=true) (hE: ∀ w S,E.P w S us u) (hb:(l.length+1)*bytes<=140737488355328) (hm:l.length+1<=140737488355328) (hd:okd d n=true) :
 Ef P n F0 w0 e Rs ⟨d,.call ⟨.builtin .append,#[sl,x],#[t,t]⟩,ty,pos,af,gd⟩ (fun e' R=> ∃ A' c',e'=mV d (.slice A' (l ++ [u]).length c') e/\R=Rs'.set i (bG T z E (.slice A' (l ++ [u]).length c') (l ++ [u]))):=by
 subst hR;intro a w K Q ha hst hk;obtain⟨cells,k1,k2⟩:=bG.open_ (i+1) hst (by simpa using hi);obtain⟨q',w',r1,r2,r3,r4⟩:=EQ (d:=d) (ty:=ty) (pos:=pos) (af:=af) (gd:=gd) ha hu hinfo hzv hp hs hx k1 hl (hst.blk 0 rfl) ho hb hm;have h3:=k2 q' w' us u r2 r3 r4 hl hE;have hlen:l.length+1=(l ++ [u]).length:=by simp
 rw[hlen] at r2;obtain⟨A',c',rfl⟩:=mJ r2;unfold Oper.wp;rw[r1];exact hk _ _ ⟨A',c',rfl,rfl⟩ _ _ (ha.putd hd) (h3.drop_)
theorem Ef.app2 (i j:Nat) {α:Type} {E:Rd α} {sl x:Operand} {T:TypeId} {z bytes g:Nat} {zv:Value} {us:List Value} {A:Option Addr} {c:Nat} {l:List α} {u:α} {Rs':List Res} {B:Res} (hu:P.underlying t=some (.slice T)) (hinfo:(P.info? T).map (fun i=>(i.zero,i.size,i.bytes))=some (some zv,z,bytes)) (hzv:zv.cells.size=z) (hp:0<z)
 (hs:e.ev sl=some (.slice A l.length c)) (hx:e.ev x=some (.slice (some ⟨g,0,none⟩) 1 1)) (hR:Rs=aV g T us.toArray::Rs') (hi:Rs'[i]? = some (bG T z E (.slice A l.length c) l)) (hj:(Rs'.eraseIdx i)[j]? = some B) (hl:us.length=z) (ho:us.all (·.oneCell')=true) (hE: ∀ w G,B.P w G->E.P w G us u) (hb:(l.length+1)*bytes<=140737488355328) (hm:l.length+1<=140737488355328) (hd:okd d n=true) :
 Ef P n F0 w0 e Rs ⟨d,.call ⟨.builtin .append,#[sl,x],#[t,t]⟩,ty,pos,af,gd⟩ (fun e' R=> ∃ A' c',e'=mV d (.slice A' (l ++ [u]).length c') e/\R=bG T z E (.slice A' (l ++ [u]).length c') (l ++ [u])::(Rs'.eraseIdx i).eraseIdx j):=by
 subst hR;intro a w K Q ha hst hk;obtain⟨cells,k1,k2⟩:=bG.open2 (B:=B) (i+1) (j+1) hst (by simpa using hi) (by simpa using hj);obtain⟨q',w',r1,r2,r3,r4⟩:=EQ (d:=d) (ty:=ty) (pos:=pos) (af:=af) (gd:=gd) ha hu hinfo hzv hp hs hx k1 hl (hst.blk 0 rfl) ho hb hm;have h3:=k2 q' w' us u r2 r3 r4 hl hE;have hlen:l.length+1=(l ++ [u]).length:=by simp
 rw[hlen] at r2;obtain⟨A',c',rfl⟩:=mJ r2;unfold Oper.wp;rw[r1];have h4:=h3.del 1 (A:=aV g T us.toArray) rfl;exact hk _ _ ⟨A',c',rfl,rfl⟩ _ _ (ha.putd hd) h4
def SOK (P:Program) (t T:TypeId) (m z:Nat) (zs:Array Value):Prop:= ∀ (parts:Array (Nat×Value)) (cells:Array Value) (w:World),Instr.fill (fun i=>some (i*z,z)) zs parts.toList=some cells->(Instr.buildSlice t m parts).run P w= .ok (.slice (some ⟨w.heap.size,0,none⟩) m m) (w.alloc (.cells cells T))
theorem Ef.lit {T m z:Nat} {zs cells:Array Value} {ps:List (Nat×Operand)} {vs:List Value} (hB:SOK P t T m z zs) (hv:e.evs (ps.map (·.2))=some vs) (hf:Instr.fill (fun i=>some (i*z,z)) zs ((ps.map (·.1)).zip vs)=some cells) (hd:okd d n=true) :
 Ef P n F0 w0 e Rs ⟨d,.buildSlice t m ps.toArray,ty,pos,af,gd⟩ (fun e' Rs'=> ∃ b,e'=mV d (.slice (some ⟨b,0,none⟩) m m) e/\Rs'=aV b T cells::Rs):=by
 intro a w K Q ha hs hk;have h1:=ha.evs hv;have h2:ps.map (fun p=>(p.1,a.eval p.2))=(ps.map (·.1)).zip vs:=by
  rw[<- h1];clear h1 hf hv
  induction ps with
  | nil=>rfl
  | cons p ps ih=>simp[ih]
 have h3:=hB (ps.map (fun p=>(p.1,a.eval p.2))).toArray cells w (by simpa [h2] using hf);unfold Oper.wp;simp only[execOp,List.map_toArray,Sem.run_bind];rw[h3];exact hk _ _ ⟨_,rfl,rfl⟩ _ _ (ha.putd hd) (hs.alloc _ _)
theorem St.rowOf {α:Type} {E:Rd α} {b T z m:Nat} {us:List Value} {l:List α} {w:World} (h:St F0 w0 (aV b T us.toArray::Rs) w) (hm:l.length=m) (hmm:m<=maxLen) (he: ∀ w,gF z E w (fun _=>False) us l) :
 St F0 w0 (bG T z E (.slice (some ⟨b,0,none⟩) m m) l::Rs) w:=by
 subst hm;refine h.weaken 0 rfl (fun G hG=> ?_);have hl:=kt (he w);refine⟨us,fun _=>False,⟨hl,.inr ⟨b,l.length,us.toArray,rfl,NY _,hG.1,N0 _,hmm,by simpa using hl,?_⟩⟩,he w,fun _ h=>h.elim,fun _ _ h=>h,fun k=> ?_⟩
 ·simp[<- hl]
 ·rw[hG.2 k];simp[Value.ownBlock,eq_comm]
end
section
variable {P:Program} {n:Nat} {F0:Nat->Prop} {w0:World} {e:Env} {Rs Rf:List Res} {Q:Exit->Act->World->Prop} {ops:Array Oper} {i d b o z f T:Nat} {ty t el:TypeId} {pos:String} {af:Array Edge} {gd:Option (Nat×Bool)} {v zv:Value} {x y:Operand} {l:List Nat} {xs:List Operand} {vs:List Value} {ts:Array TypeId} {Y:RX} {A B:Res} {R:Value->Res->List Res->Prop} {c:Code} {cl:Call}
theorem MA {α:Type} {E:Rd α} {m:Nat} {us:List Value} {xs:List α} (hm:xs.length=m) (hmm:m<=maxLen) (he: ∀ w,gF z E w (fun _=>False) us xs) (h:TL P n F0 w0 ops l e (bG T z E (.slice (some ⟨b,0,none⟩) m m) xs::Rs) Q):TL P n F0 w0 ops l e (aV b T us.toArray::Rs) Q:=fun a w ha hs=>h a w ha (hs.rowOf hm hmm he)
theorem MB {α:Type} {E:Rd α} {m:Nat} {us:List Value} {xs:List α} {l:Sch} (hm:xs.length=m) (hmm:m<=maxLen) (he: ∀ w,gF z E w (fun _=>False) us xs) (h:TD P n F0 w0 ops l Rf e (bG T z E (.slice (some ⟨b,0,none⟩) m m) xs::Rs) Q):TD P n F0 w0 ops l Rf e (aV b T us.toArray::Rs) Q:=fun a w ha hs=>h a w ha (hs.rowOf hm hmm he)
theorem TL.alloc  (ho:ops[i]? = some ⟨some d,.alloc t,ty,pos,af,gd⟩) (hw:Wd n ops e ⟨some d,.alloc t,ty,pos,af,gd⟩ true) (hz: ∀ w,(zeroValue t).run P w= .ok zv w) (hd:Nat.blt d n=true) (h: ∀ b,TL P n F0 w0 ops l ((d,.pointer (some ⟨b,0,none⟩))::e) (aV b t zv.cells::Rs) Q):TL P n F0 w0 ops (i::l) e Rs Q:=by
 refine Me ho hw (Ef.alloc hz hd) ?_;rintro _ _ ⟨b,rfl,rfl⟩;exact h b
theorem TD.alloc  {l:Sch} (ho:ops[i]? = some ⟨some d,.alloc t,ty,pos,af,gd⟩) (hw:Wd n ops e ⟨some d,.alloc t,ty,pos,af,gd⟩ true) (hz: ∀ w,(zeroValue t).run P w= .ok zv w) (hd:Nat.blt d n=true) (is:List Nat) (hf: ∀ b,Sel (aV b t zv.cells::Rs) is Rf) (h: ∀ b,TD P n F0 w0 ops l Rf ((d,.pointer (some ⟨b,0,none⟩))::e) (aV b t zv.cells::Rs) Q):TD P n F0 w0 ops (.e i l) Rf e Rs Q:=by
 refine Mp ho hw (Ef.alloc hz hd) ?_;rintro _ _ ⟨b,rfl,rfl⟩;exact⟨Rf,fun w hw=>hw.sel is (hf b),fun _ h=>h,h b⟩
theorem TL.box  (ho:ops[i]? = some ⟨some d,.box t x,ty,pos,af,gd⟩) (hw:Wd n ops e ⟨some d,.box t x,ty,pos,af,gd⟩ true) (hx:e.ev x=some v) (hd:Nat.blt d n=true) (h: ∀ b,TL P n F0 w0 ops l ((d,.pointer (some ⟨b,0,none⟩))::e) (aV b t v.cells::Rs) Q):TL P n F0 w0 ops (i::l) e Rs Q:=by
 refine Me ho hw (Ef.box hx hd) ?_;rintro _ _ ⟨b,rfl,rfl⟩;exact h b
theorem L4 {m:Nat} {zs cells:Array Value} {ps:List (Nat×Operand)} (ho:ops[i]? = some ⟨some d,.buildSlice t m ps.toArray,ty,pos,af,gd⟩) (hw:Wd n ops e ⟨some d,.buildSlice t m ps.toArray,ty,pos,af,gd⟩ true) (hB:SOK P t T m z zs) (hv:e.evs (ps.map (·.2))=some vs) (hf':Instr.fill (fun i=>some (i*z,z)) zs ((ps.map (·.1)).zip vs)=some cells) (hd:Nat.blt d n=true) (h: ∀ b,TL P n F0 w0 ops l ((d,.slice (some ⟨b,0,none⟩) m m)::e) (aV b T cells::Rs) Q):TL P n F0 w0 ops (i::l) e Rs Q:=by
 refine Me ho hw (Ef.lit hB hv hf' hd) ?_;rintro _ _ ⟨b,rfl,rfl⟩;exact h b
theorem L8 {m:Nat} {zs cells:Array Value} {ps:List (Nat×Operand)} {l:Sch} (ho:ops[i]? = some ⟨some d,.buildSlice t m ps.toArray,ty,pos,af,gd⟩) (hw:Wd n ops e ⟨some d,.buildSlice t m ps.toArray,ty,pos,af,gd⟩ true) (hB:SOK P t T m z zs) (hv:e.evs (ps.map (·.2))=some vs) (hf':Instr.fill (fun i=>some (i*z,z)) zs ((ps.map (·.1)).zip vs)=some cells) (hd:Nat.blt d n=true) (is:List Nat) (hf: ∀ b,Sel (aV b T cells::Rs) is Rf) (h: ∀ b,TD P n F0 w0 ops l Rf ((d,.slice (some ⟨b,0,none⟩) m m)::e) (aV b T cells::Rs) Q):TD P n F0 w0 ops (.e i l) Rf e Rs Q:=by
 refine Mp ho hw (Ef.lit hB hv hf' hd) ?_;rintro _ _ ⟨b,rfl,rfl⟩;exact⟨Rf,fun w hw=>hw.sel is (hf b),fun _ h=>h,h b⟩
theorem TL.cg0  (ho:ops[i]? = some ⟨some d,.call cl,ty,pos,af,gd⟩) (hw:Wd n ops e ⟨some d,.call cl,ty,pos,af,gd⟩ true) (hc:CT P n e ⟨some d,.call cl,ty,pos,af,gd⟩ f vs) (hs:aG P f vs.toArray Y A R) (hr: ∀ w,St F0 w0 (A::Rs) w->Src F0 w0 (A::Rs) w 0 Y) (hd:Nat.blt d n=true) (h: ∀ v A' N,R v A' N->TL P n F0 w0 ops l ((d,v)::e) (N++A'::Rs) Q):TL P n F0 w0 ops (i::l) e (A::Rs) Q:=by
 refine Me ho hw (Ef.call 0 hc rfl hs hr hd) ?_;rintro _ _ ⟨v,A',N,hR,rfl,rfl⟩;exact h v A' N hR
theorem My {R0:Res} (ho:ops[i]? = some ⟨some d,.call cl,ty,pos,af,gd⟩) (hw:Wd n ops e ⟨some d,.call cl,ty,pos,af,gd⟩ true) (hc:CT P n e ⟨some d,.call cl,ty,pos,af,gd⟩ f vs) (hs:aG P f vs.toArray Y A R) (hr: ∀ w,St F0 w0 (R0::A::Rs) w->Src F0 w0 (R0::A::Rs) w 1 Y) (hd:Nat.blt d n=true) (h: ∀ v A' N,R v A' N->TL P n F0 w0 ops l ((d,v)::e) (N++R0::A'::Rs) Q):TL P n F0 w0 ops (i::l) e (R0::A::Rs) Q:=by
 refine Me ho hw (Ef.call 1 hc rfl hs hr hd) ?_;rintro _ _ ⟨v,A',N,hR,rfl,rfl⟩;exact h v A' N hR
theorem TD.cg1 {R0:Res} {l:Sch} (ho:ops[i]? = some ⟨some d,.call cl,ty,pos,af,gd⟩) (hw:Wd n ops e ⟨some d,.call cl,ty,pos,af,gd⟩ true) (hc:CT P n e ⟨some d,.call cl,ty,pos,af,gd⟩ f vs) (hs:aG P f vs.toArray Y A R) (hr: ∀ w,St F0 w0 (R0::A::Rs) w->Src F0 w0 (R0::A::Rs) w 1 Y) (hd:Nat.blt d n=true) (is:List Nat) (hf: ∀ v A' N,R v A' N->Sel (N++R0::A'::Rs) is Rf) (h: ∀ v A' N,R v A' N->TD P n F0 w0 ops l Rf ((d,v)::e) (N++R0::A'::Rs) Q):TD P n F0 w0 ops (.e i l) Rf e (R0::A::Rs) Q:=by
 refine Mp ho hw (Ef.call 1 hc rfl hs hr hd) ?_;rintro _ _ ⟨v,A',N,hR,rfl,rfl⟩;exact⟨Rf,fun w hw=>hw.sel is (hf v A' N hR),fun _ h=>h,h v A' N hR⟩
theorem TL.cg2 {R0 R1:Res} (ho:ops[i]? = some ⟨some d,.call cl,ty,pos,af,gd⟩) (hw:Wd n ops e ⟨some d,.call cl,ty,pos,af,gd⟩ true) (hc:CT P n e ⟨some d,.call cl,ty,pos,af,gd⟩ f vs) (hs:aG P f vs.toArray Y A R) (hr: ∀ w,St F0 w0 (R0::R1::A::Rs) w->Src F0 w0 (R0::R1::A::Rs) w 2 Y) (hd:Nat.blt d n=true) (h: ∀ v A' N,R v A' N->TL P n F0 w0 ops l ((d,v)::e) (N++R0::R1::A'::Rs) Q):TL P n F0 w0 ops (i::l) e (R0::R1::A::Rs) Q:=by
 refine Me ho hw (Ef.call 2 hc rfl hs hr hd) ?_;rintro _ _ ⟨v,A',N,hR,rfl,rfl⟩;exact h v A' N hR
theorem TL.cg3 {R0 R1 R2:Res} (ho:ops[i]? = some ⟨some d,.call cl,ty,pos,af,gd⟩) (hw:Wd n ops e ⟨some d,.call cl,ty,pos,af,gd⟩ true) (hc:CT P n e ⟨some d,.call cl,ty,pos,af,gd⟩ f vs) (hs:aG P f vs.toArray Y A R) (hr: ∀ w,St F0 w0 (R0::R1::R2::A::Rs) w->Src F0 w0 (R0::R1::R2::A::Rs) w 3 Y) (hd:Nat.blt d n=true) (h: ∀ v A' N,R v A' N->TL P n F0 w0 ops l ((d,v)::e) (N++R0::R1::R2::A'::Rs) Q):TL P n F0 w0 ops (i::l) e (R0::R1::R2::A::Rs) Q:=by
 refine Me ho hw (Ef.call 3 hc rfl hs hr hd) ?_;rintro _ _ ⟨v,A',N,hR,rfl,rfl⟩;exact h v A' N hR
theorem TD.cg5 {R0 R1 R2 R3 R4:Res} {l:Sch} (ho:ops[i]? = some ⟨some d,.call cl,ty,pos,af,gd⟩) (hw:Wd n ops e ⟨some d,.call cl,ty,pos,af,gd⟩ true) (hc:CT P n e ⟨some d,.call cl,ty,pos,af,gd⟩ f vs) (hs:aG P f vs.toArray Y A R) (hr: ∀ w,St F0 w0 (R0::R1::R2::R3::R4::A::Rs) w->Src F0 w0 (R0::R1::R2::R3::R4::A::Rs) w 5 Y) (hd:Nat.blt d n=true) (is:List Nat) (hf: ∀ v A' N,R v A' N->Sel (N++R0::R1::R2::R3::R4::A'::Rs) is Rf) (h: ∀ v A' N,R v A' N->TD P n F0 w0 ops l Rf ((d,v)::e) (N++R0::R1::R2::R3::R4::A'::Rs) Q):TD P n F0 w0 ops (.e i l) Rf e (R0::R1::R2::R3::R4::A::Rs) Q:=by
 refine Mp ho hw (Ef.call 5 hc rfl hs hr hd) ?_;rintro _ _ ⟨v,A',N,hR,rfl,rfl⟩;exact⟨Rf,fun w hw=>hw.sel is (hf v A' N hR),fun _ h=>h,h v A' N hR⟩
theorem Mb  (ho:ops[i]? = some ⟨some d,.call cl,ty,pos,af,gd⟩) (hw:Wd n ops e ⟨some d,.call cl,ty,pos,af,gd⟩ true) (hc:CT P n e ⟨some d,.call cl,ty,pos,af,gd⟩ f vs) (hs:aG P f vs.toArray Y aL R) (hr: ∀ w,St F0 w0 Rs w->Y.reads w (fun _=>False)) (hd:Nat.blt d n=true) (h: ∀ v A' N,R v A' N->TL P n F0 w0 ops l ((d,v)::e) (N++Rs) Q):TL P n F0 w0 ops (i::l) e Rs Q:=by
 refine Me ho hw (Ef.callE hc hs hr hd) ?_;rintro _ _ ⟨v,A',N,hR,rfl,rfl⟩;exact h v A' N hR
theorem TD.cge  {l:Sch} (ho:ops[i]? = some ⟨some d,.call cl,ty,pos,af,gd⟩) (hw:Wd n ops e ⟨some d,.call cl,ty,pos,af,gd⟩ true) (hc:CT P n e ⟨some d,.call cl,ty,pos,af,gd⟩ f vs) (hs:aG P f vs.toArray Y aL R) (hr: ∀ w,St F0 w0 Rs w->Y.reads w (fun _=>False)) (hd:Nat.blt d n=true) (is:List Nat) (hf: ∀ v A' N,R v A' N->Sel (N++Rs) is Rf) (h: ∀ v A' N,R v A' N->TD P n F0 w0 ops l Rf ((d,v)::e) (N++Rs) Q):TD P n F0 w0 ops (.e i l) Rf e Rs Q:=by
 refine Mp ho hw (Ef.callE hc hs hr hd) ?_;rintro _ _ ⟨v,A',N,hR,rfl,rfl⟩;exact⟨Rf,fun w hw=>hw.sel is (hf v A' N hR),fun _ h=>h,h v A' N hR⟩
theorem Lb  (ho:ops[i]? = some ⟨some d,.call cl,ty,pos,af,gd⟩) (hw:Wd n ops e ⟨some d,.call cl,ty,pos,af,gd⟩ true) (hc:CT P n e ⟨some d,.call cl,ty,pos,af,gd⟩ f vs) (hs:aG P f vs.toArray Y aL (fun v' A' N=>v'=v/\A'=aL/\N = [])) (hr: ∀ w,St F0 w0 Rs w->Y.reads w (fun _=>False)) (hd:Nat.blt d n=true) (h:TL P n F0 w0 ops l ((d,v)::e) Rs Q):TL P n F0 w0 ops (i::l) e Rs Q:=by
 refine Me ho hw (Ef.callE hc hs hr hd) ?_;rintro _ _ ⟨_,_,_,⟨rfl,rfl,rfl⟩,rfl,rfl⟩;exact h
theorem LF  {l:Sch} (ho:ops[i]? = some ⟨some d,.call cl,ty,pos,af,gd⟩) (hw:Wd n ops e ⟨some d,.call cl,ty,pos,af,gd⟩ true) (hc:CT P n e ⟨some d,.call cl,ty,pos,af,gd⟩ f vs) (hs:aG P f vs.toArray Y aL (fun v' A' N=>v'=v/\A'=aL/\N = [])) (hr: ∀ w,St F0 w0 Rs w->Y.reads w (fun _=>False)) (hd:Nat.blt d n=true) (is:List Nat) (hf:Sel Rs is Rf) (h:TD P n F0 w0 ops l Rf ((d,v)::e) Rs Q):TD P n F0 w0 ops (.e i l) Rf e Rs Q:=by
 refine Mp ho hw (Ef.callE hc hs hr hd) ?_;rintro _ _ ⟨_,_,_,⟨rfl,rfl,rfl⟩,rfl,rfl⟩;exact⟨Rf,fun w hw=>hw.sel is (hf),fun _ h=>h,h⟩
end
def ea:Rd Int:=⟨fun _ _ cs n=>cs = [.int .i64 n],fun h _=>h,fun h _=>h⟩
def u8E:Rd Int:=⟨fun _ _ cs n=>cs = [.int .u8 n],fun h _=>h,fun h _=>h⟩
def boolE:Rd Bool:=⟨fun _ _ cs n=>cs = [.bool n],fun h _=>h,fun h _=>h⟩
def mW:Rd (List UInt8):=⟨fun _ _ cs l=>cs = [.string (ba l)],fun h _=>h,fun h _=>h⟩
def B6:Rd Bl:=⟨fun _ _ cs x=>cs = [.bool x.null,.string (ba x.data)],fun h _=>h,fun h _=>h⟩
structure Pfx where
 Ng:Int
 Nm:Int
 M9:Int
 Nr:Int
 Nu:Int
 Nf:Int
 M4:Int
 Nn:Int
 MO:Int
 MR:Int
 M5:Int
 Nt:Int
structure Hd where
 Nd:List UInt8
 M3:Bl
def dn:Rd Hd where
 P:=fun _ _ cs x=>cs = [.string (ba x.Nd),.bool x.M3.null,.string (ba x.M3.data)]
 mono:=fun h _=>h
 move:=fun h _=>h
structure Rec where
 Nk:Int
 Na:Int
 Nd:Bl
 M3:Bl
 M2:List Hd
def cZ:Rd Rec where
 P:=fun w S cs x=> ∃ (A0:Option Addr) (c0:Nat),cs = [.int .i64 x.Nk,.int .i64 x.Na,.bool x.Nd.null,.string (ba x.Nd.data),.bool x.M3.null,.string (ba x.M3.data),.slice A0 x.M2.length c0]/\(aq 3 dn).P w S [.slice A0 x.M2.length c0] x.M2
 mono:=fun ⟨A0,c0,e,h0⟩ k=>⟨A0,c0,e,(aq 3 dn).mono h0 k⟩
 move:=fun ⟨A0,c0,e,h0⟩ k=>⟨A0,c0,e,(aq 3 dn).move h0 k⟩
structure fO where
 M1:Int
 MY:Int
 M6:Int
 MX:Bl
def JV:Rd fO where
 P:=fun _ _ cs x=>cs = [.int .i64 x.M1,.int .i64 x.MY,.int .i64 x.M6,.bool x.MX.null,.string (ba x.MX.data)]
 mono:=fun h _=>h
 move:=fun h _=>h
structure iL where
 M1:Int
 MY:Int
 M6:Int
 MX:Bl
structure Top where
 MV:List UInt8
 MP:List Int
def bh:Rd Top where
 P:=fun w S cs x=> ∃ (A0:Option Addr) (c0:Nat),cs = [.string (ba x.MV),.slice A0 x.MP.length c0]/\(aq 1 ea).P w S [.slice A0 x.MP.length c0] x.MP
 mono:=fun ⟨A0,c0,e,h0⟩ k=>⟨A0,c0,e,(aq 1 ea).mono h0 k⟩
 move:=fun ⟨A0,c0,e,h0⟩ k=>⟨A0,c0,e,(aq 1 ea).move h0 k⟩
structure Val where
 MO:Int
 MR:Int
 MT:Int
 Nv:Int
 MN:List Top
 Nx:Int
 Nw:Int
structure Bat where
 Ng:Int
 M9:Int
 Nq:Bool
 Ni:Bool
 Nl:Bool
 Nf:Int
 M4:Int
 Nn:Int
 MO:Int
 MR:Int
 M5:Int
 MS:List Rec
def dJ:Rd Bat where
 P:=fun w S cs x=> ∃ (A0:Option Addr) (c0:Nat),cs = [.int .i64 x.Ng,.int .i64 x.M9,.bool x.Nq,.bool x.Ni,.bool x.Nl,.int .i64 x.Nf,.int .i64 x.M4,.int .i64 x.Nn,.int .i64 x.MO,.int .i64 x.MR,.int .i64 x.M5,.slice A0 x.MS.length c0]/\(aq 7 cZ).P w S [.slice A0 x.MS.length c0] x.MS
 mono:=fun ⟨A0,c0,e,h0⟩ k=>⟨A0,c0,e,(aq 7 cZ).mono h0 k⟩
 move:=fun ⟨A0,c0,e,h0⟩ k=>⟨A0,c0,e,(aq 7 cZ).move h0 k⟩
structure bY where
 MU:List UInt8
 MO:Int
 MR:Int
 M7:Bool
def F7:Rd bY where
 P:=fun _ _ cs x=>cs = [.string (ba x.MU),.int .i64 x.MO,.int .i64 x.MR,.bool x.M7]
 mono:=fun h _=>h
 move:=fun h _=>h
structure aR where
 MO:Int
 MR:Int
 M7:Bool
 MN:List Top
 M0:Int
def bf:Rd aR where
 P:=fun w S cs x=> ∃ (A0:Option Addr) (c0:Nat),cs = [.int .i64 x.MO,.int .i64 x.MR,.bool x.M7,.slice A0 x.MN.length c0,.int .i64 x.M0]/\(aq 2 bh).P w S [.slice A0 x.MN.length c0] x.MN
 mono:=fun ⟨A0,c0,e,h0⟩ k=>⟨A0,c0,e,(aq 2 bh).mono h0 k⟩
 move:=fun ⟨A0,c0,e,h0⟩ k=>⟨A0,c0,e,(aq 2 bh).move h0 k⟩
structure bJ where
 MU:Bl
 MT:Int
 MO:Int
 MR:Int
 MN:List Top
 M7:Bool
structure bd where
 MU:Bl
 MT:Int
 MO:Int
 MR:Int
def B7:Rd bd where
 P:=fun _ _ cs x=>cs = [.bool x.MU.null,.string (ba x.MU.data),.int .i64 x.MT,.int .i64 x.MO,.int .i64 x.MR]
 mono:=fun h _=>h
 move:=fun h _=>h
structure aY where
 M8:Int
 MW:List Bat
def ca:Rd aY where
 P:=fun w S cs x=> ∃ (A0:Option Addr) (c0:Nat),cs = [.int .i64 x.M8,.slice A0 x.MW.length c0]/\(aq 12 dJ).P w S [.slice A0 x.MW.length c0] x.MW
 mono:=fun ⟨A0,c0,e,h0⟩ k=>⟨A0,c0,e,(aq 12 dJ).mono h0 k⟩
 move:=fun ⟨A0,c0,e,h0⟩ k=>⟨A0,c0,e,(aq 12 dJ).move h0 k⟩
structure aJ where
 MV:List UInt8
 MP:List aY
def aP:Rd aJ where
 P:=fun w S cs x=> ∃ (A0:Option Addr) (c0:Nat),cs = [.string (ba x.MV),.slice A0 x.MP.length c0]/\(aq 2 ca).P w S [.slice A0 x.MP.length c0] x.MP
 mono:=fun ⟨A0,c0,e,h0⟩ k=>⟨A0,c0,e,(aq 2 ca).mono h0 k⟩
 move:=fun ⟨A0,c0,e,h0⟩ k=>⟨A0,c0,e,(aq 2 ca).move h0 k⟩
structure aA where
 MU:Bl
 Nc:Int
 MT:Int
 MN:List aJ
def te:Rd aA where
 P:=fun w S cs x=> ∃ (A0:Option Addr) (c0:Nat),cs = [.bool x.MU.null,.string (ba x.MU.data),.int .i64 x.Nc,.int .i64 x.MT,.slice A0 x.MN.length c0]/\(aq 2 aP).P w S [.slice A0 x.MN.length c0] x.MN
 mono:=fun ⟨A0,c0,e,h0⟩ k=>⟨A0,c0,e,(aq 2 aP).mono h0 k⟩
 move:=fun ⟨A0,c0,e,h0⟩ k=>⟨A0,c0,e,(aq 2 aP).move h0 k⟩
structure jQ where
 M8:Int
 MW:List Bat
def fm:Rd jQ where
 P:=fun w S cs x=> ∃ (A0:Option Addr) (c0:Nat),cs = [.int .i64 x.M8,.slice A0 x.MW.length c0]/\(aq 12 dJ).P w S [.slice A0 x.MW.length c0] x.MW
 mono:=fun ⟨A0,c0,e,h0⟩ k=>⟨A0,c0,e,(aq 12 dJ).mono h0 k⟩
 move:=fun ⟨A0,c0,e,h0⟩ k=>⟨A0,c0,e,(aq 12 dJ).move h0 k⟩
structure dF where
 MV:List UInt8
 MP:List jQ
def bR:Rd dF where
 P:=fun w S cs x=> ∃ (A0:Option Addr) (c0:Nat),cs = [.string (ba x.MV),.slice A0 x.MP.length c0]/\(aq 2 fm).P w S [.slice A0 x.MP.length c0] x.MP
 mono:=fun ⟨A0,c0,e,h0⟩ k=>⟨A0,c0,e,(aq 2 fm).mono h0 k⟩
 move:=fun ⟨A0,c0,e,h0⟩ k=>⟨A0,c0,e,(aq 2 fm).move h0 k⟩
structure bM where
 MU:Bl
 Nc:Int
 MT:Int
 MN:List dF
structure di where
 MO:Int
 MR:Int
 M7:Bool
 MN:List Top
 M0:Int
def co:Rd di where
 P:=fun w S cs x=> ∃ (A0:Option Addr) (c0:Nat),cs = [.int .i64 x.MO,.int .i64 x.MR,.bool x.M7,.slice A0 x.MN.length c0,.int .i64 x.M0]/\(aq 2 bh).P w S [.slice A0 x.MN.length c0] x.MN
 mono:=fun ⟨A0,c0,e,h0⟩ k=>⟨A0,c0,e,(aq 2 bh).mono h0 k⟩
 move:=fun ⟨A0,c0,e,h0⟩ k=>⟨A0,c0,e,(aq 2 bh).move h0 k⟩
structure bZ where
 MU:List UInt8
 MO:Int
 MR:Int
 MN:List Top
def F8:Rd bZ where
 P:=fun w S cs x=> ∃ (A0:Option Addr) (c0:Nat),cs = [.string (ba x.MU),.int .i64 x.MO,.int .i64 x.MR,.slice A0 x.MN.length c0]/\(aq 2 bh).P w S [.slice A0 x.MN.length c0] x.MN
 mono:=fun ⟨A0,c0,e,h0⟩ k=>⟨A0,c0,e,(aq 2 bh).mono h0 k⟩
 move:=fun ⟨A0,c0,e,h0⟩ k=>⟨A0,c0,e,(aq 2 bh).move h0 k⟩
structure ay where
 MQ:fO
 Nh:bd
 Nj:bZ
 Np:bY
 Nb:List aR
 MZ:aA
def bW:Rd ay where
 P:=fun w S cs x=> ∃ (A0:Option Addr) (c0:Nat) (A1:Option Addr) (c1:Nat) (A2:Option Addr) (c2:Nat),cs = [.int .i64 x.MQ.M1,.int .i64 x.MQ.MY,.int .i64 x.MQ.M6,.bool x.MQ.MX.null,.string (ba x.MQ.MX.data),.bool x.Nh.MU.null,.string (ba x.Nh.MU.data),.int .i64 x.Nh.MT,.int .i64 x.Nh.MO,.int .i64 x.Nh.MR,.string (ba x.Nj.MU),.int .i64 x.Nj.MO,.int .i64 x.Nj.MR,.slice A0 x.Nj.MN.length c0,.string (ba x.Np.MU),.int .i64 x.Np.MO,.int .i64 x.Np.MR,.bool x.Np.M7,.slice A1 x.Nb.length c1,.bool x.MZ.MU.null,.string (ba x.MZ.MU.data),.int .i64 x.MZ.Nc,.int .i64 x.MZ.MT,.slice A2 x.MZ.MN.length c2]/\(aq 2 bh).P w S [.slice A0 x.Nj.MN.length c0] x.Nj.MN/\(aq 5 bf).P w S [.slice A1 x.Nb.length c1] x.Nb/\(aq 2 aP).P w S [.slice A2 x.MZ.MN.length c2] x.MZ.MN
 mono:=fun ⟨A0,c0,A1,c1,A2,c2,e,h0,h1,h2⟩ k=>⟨A0,c0,A1,c1,A2,c2,e,(aq 2 bh).mono h0 k,(aq 5 bf).mono h1 k,(aq 2 aP).mono h2 k⟩
 move:=fun ⟨A0,c0,A1,c1,A2,c2,e,h0,h1,h2⟩ k=>⟨A0,c0,A1,c1,A2,c2,e,(aq 2 bh).move h0 k,(aq 5 bf).move h1 k,(aq 2 aP).move h2 k⟩
structure cI where
 MQ:iL
 Ni:bJ
 Nb:List di
 MZ:bM
def eV:Rd cI where
 P:=fun w S cs x=> ∃ (A0:Option Addr) (c0:Nat) (A1:Option Addr) (c1:Nat) (A2:Option Addr) (c2:Nat),cs = [.int .i64 x.MQ.M1,.int .i64 x.MQ.MY,.int .i64 x.MQ.M6,.bool x.MQ.MX.null,.string (ba x.MQ.MX.data),.bool x.Ni.MU.null,.string (ba x.Ni.MU.data),.int .i64 x.Ni.MT,.int .i64 x.Ni.MO,.int .i64 x.Ni.MR,.slice A0 x.Ni.MN.length c0,.bool x.Ni.M7,.slice A1 x.Nb.length c1,.bool x.MZ.MU.null,.string (ba x.MZ.MU.data),.int .i64 x.MZ.Nc,.int .i64 x.MZ.MT,.slice A2 x.MZ.MN.length c2]/\(aq 2 bh).P w S [.slice A0 x.Ni.MN.length c0] x.Ni.MN/\(aq 5 co).P w S [.slice A1 x.Nb.length c1] x.Nb/\(aq 2 bR).P w S [.slice A2 x.MZ.MN.length c2] x.MZ.MN
 mono:=fun ⟨A0,c0,A1,c1,A2,c2,e,h0,h1,h2⟩ k=>⟨A0,c0,A1,c1,A2,c2,e,(aq 2 bh).mono h0 k,(aq 5 co).mono h1 k,(aq 2 bR).mono h2 k⟩
 move:=fun ⟨A0,c0,A1,c1,A2,c2,e,h0,h1,h2⟩ k=>⟨A0,c0,A1,c1,A2,c2,e,(aq 2 bh).move h0 k,(aq 5 co).move h1 k,(aq 2 bR).move h2 k⟩
structure eJ where
 fmany:Int
 fat:Int
structure aX where
 fcount:eJ
 fheld:List UInt8
 ferr:Int
theorem bF {b:Bool} (h:b=false):(!b)=true:=by rw[h]; rfl
theorem bi {b:Bool} (h:b=true):(!b)=false:=by rw[h]; rfl
theorem ifT {α:Type} {c:Prop} [Decidable c] {x y z:α} (hc:c) (h:(if c then x else y)=z):x=z:=by rwa [QX hc] at h
theorem ifF {α:Type} {c:Prop} [Decidable c] {x y z:α} (hc: ¬ c) (h:(if c then x else y)=z):y=z:=by rwa [QY hc] at h
theorem rk {α:Type} (l:List α) (p:Nat):(l.drop p).take (l.length - p)=l.drop p:=by rw[<- NO,List.take_length]
section
variable {P:Program} {n:Nat} {F0:Nat->Prop} {w0:World} {e:Env} {Rs Rf:List Res} {Q:Exit->Act->World->Prop} {ops:Array Oper} {i d:Nat} {ty t t' el:TypeId} {pos:String} {af:Array Edge} {gd:Option (Nat×Bool)} {v v':Value} {x y:Operand} {l:List Nat} {lo:Sch} {c:Code} {S:World->Prop}
theorem Ex.bEq {d:Option Tmp} {a b p q:Bool} (hx:e.ev x=some (.bool a)) (ha:a=p) (hy:e.ev y=some (.bool b)) (hb:b=q) (hu: ∀ w,(underlying t).run P w= .ok .bool w):Ex P n e S ⟨d,.binOp .eql t x y t',ty,pos,af,gd⟩ (.bool (p == q)):=by
 intro A w h _;subst ha hb;have h1: ∀ k,(Op.equalIn (k+1) t (.bool a) (.bool b)).run P w= .ok (a == b) w:=by
  intro k;simp only[Op.equalIn,Sem.run_bind,hu,Result.andThen_ok];rfl
 have h2:(Op.equal t (.bool a) (.bool b)).run P w= .ok (a == b) w:=h1 9999;have h4:(binOp .eql t (.bool a) (.bool b)).run P w= .ok (.bool (a == b)) w:=by
  simp only[binOp,Sem.run_bind,h2,Result.andThen_ok,Sem.run_pure]
 simp only[execOp,h.ev hx,h.ev hy,eqGuard];simp[h4]
theorem L5 {d:Option Tmp} {a b p q:Bool} (hx:e.ev x=some (.bool a)) (ha:a=p) (hy:e.ev y=some (.bool b)) (hb:b=q) (hu: ∀ w,(underlying t).run P w= .ok .bool w):Ex P n e S ⟨d,.binOp .neq t x y t',ty,pos,af,gd⟩ (.bool (!(p == q))):=by
 intro A w h _;subst ha hb;have h1: ∀ k,(Op.equalIn (k+1) t (.bool a) (.bool b)).run P w= .ok (a == b) w:=by
  intro k;simp only[Op.equalIn,Sem.run_bind,hu,Result.andThen_ok];rfl
 have h2:(Op.equal t (.bool a) (.bool b)).run P w= .ok (a == b) w:=h1 9999;have h4:(binOp .neq t (.bool a) (.bool b)).run P w= .ok (.bool (!(a == b))) w:=by
  simp only[binOp,Sem.run_bind,h2,Result.andThen_ok,Sem.run_pure]
 simp only[execOp,h.ev hx,h.ev hy,eqGuard];simp[h4]
theorem Lt (is:List Nat) {Rs':List Res} (hr:Sel Rs is Rs') (h:TL P n F0 w0 ops l e Rs' Q):TL P n F0 w0 ops l e Rs Q:=fun a w ha hs=>h a w ha (hs.sel is hr)
theorem LV (is:List Nat) {Rs':List Res} (hr:Sel Rs is Rs') (h:TD P n F0 w0 ops lo Rf e Rs' Q):TD P n F0 w0 ops lo Rf e Rs Q:=fun a w ha hs=>h a w ha (hs.sel is hr)
theorem T.sel (is:List Nat) {Rs':List Res} (hr:Sel Rs is Rs') (h:T P n F0 w0 e Rs' c Q):T P n F0 w0 e Rs c Q:=fun a w ha hs=>h a w ha (hs.sel is hr)
theorem LJ {z:Exit} (is:List Nat) {Rs':List Res} (hr:Sel Rs is Rs') (h:X n F0 w0 e Rs' z Q):X n F0 w0 e Rs z Q:=fun a w ha hs=>h a w ha (hs.sel is hr)
theorem Has.as {a:Act} (ha:Has n e a) (hv:e.get d=some v) (h:v=v'):Has n ((d,v')::e) a:=ha.sub (fun t u hu=>by
 simp only[Env.get] at hu
 cases hb:Nat.beq d t with
 | true =>
  rw[hb] at hu;obtain rfl:=Nat.eq_of_beq_eq_true hb;injection hu with hu;rw[hv,h,hu]
 | false=>rw[hb] at hu; exact hu)
theorem TD.as (hv:e.get d=some v) (h:v=v') (k:TD P n F0 w0 ops lo Rf ((d,v')::e) Rs Q):TD P n F0 w0 ops lo Rf e Rs Q:=fun a w ha hs=>k a w (ha.as hv h) hs
theorem Lj {α:Type} {z:Exit} (size:Nat) (E:Rd α) (h:X n F0 w0 e (RdR (aq size E) [.slice none 0 0] []::Rs) z Q):X n F0 w0 e Rs z Q:=fun a w ha hs=>h a w ha (RdR.nil size E hs)
theorem Ms {α:Type} {z:Exit} {E:Rd α} {size:Nat} {T:TypeId} {u:Value} {xs:List α} (hp:0<size) (i:Nat) (hi:Rs[i]? = some (bG T size E u xs)) (h:X n F0 w0 e (Rs.set i (RdR (aq size E) [u] xs)) z Q):X n F0 w0 e Rs z Q:=fun a w ha hs=>h a w ha (bG.shut hp i hs hi)
theorem bC.of_blk {b:Nat} {w:World} {G:Nat->Prop} (h:(aV b 112 #[.slice none 0 0,.int .i64 0]).P w G):(bC b ([],0)).P w G:=by
 obtain⟨h1,h2⟩:=h;exact⟨_,h1,World.ownsRow_nil _ _ _ _,fun k=>by simp[h2 k,Value.ownBlock]⟩
theorem Mv {zv:Value} (ho:ops[i]? = some ⟨some d,.alloc t,ty,pos,af,gd⟩) (hw:Wd n ops e ⟨some d,.alloc t,ty,pos,af,gd⟩ true) (hz: ∀ w,(zeroValue t).run P w= .ok zv w) (hd:Nat.blt d n=true)
 (h: ∀ b,TL P n F0 w0 ops l ((d,.pointer (some ⟨b,0,none⟩))::e) (bC b ([],0)::Rs) Q) (ht:t=112:=by rfl) (hzv:zv= .agg #[.slice none 0 0,.int .i64 0]:=by rfl):TL P n F0 w0 ops (i::l) e Rs Q:=by
 refine TL.alloc ho hw hz hd (fun b=> ?_);intro a w ha hs;subst ht hzv;exact h b a w ha (hs.weaken 0 rfl (fun G hG=>bC.of_blk hG))
section
variable {α:Type} {E:Rd α} {sl:Operand} {T z bytes g ii jj:Nat} {zv:Value} {A:Option Addr} {cp:Nat} {Rs':List Res} {B:Res}
theorem MF (ii:Nat) {us:List Value} {u:α} {l:List α} {lr:List Nat} (ho:ops[i]? = some ⟨some d,.call ⟨.builtin .append,#[sl,x],#[t,t]⟩,ty,pos,af,gd⟩) (hw:Wd n ops e ⟨some d,.call ⟨.builtin .append,#[sl,x],#[t,t]⟩,ty,pos,af,gd⟩ true)
 (hu:P.underlying t=some (.slice T)) (hinfo:(P.info? T).map (fun i=>(i.zero,i.size,i.bytes))=some (some zv,z,bytes)) (hzv:zv.cells.size=z) (hp:0<z)
 (hs:e.ev sl=some (.slice A l.length cp)) (hx:e.ev x=some (.slice (some ⟨g,0,none⟩) 1 1)) (hR:Rs=aV g T us.toArray::Rs') (hi:Rs'[ii]? = some (bG T z E (.slice A l.length cp) l)) (hl:us.length=z) (hq:us.all (·.oneCell')=true) (hE: ∀ w S,E.P w S us u) (hb:(l.length+1)*bytes<=140737488355328) (hm:l.length+1<=140737488355328) (hd:Nat.blt d n=true)
 (h: ∀ A' c',TL P n F0 w0 ops lr ((d,.slice A' (l ++ [u]).length c')::e) (Rs'.set ii (bG T z E (.slice A' (l ++ [u]).length c') (l ++ [u]))) Q):TL P n F0 w0 ops (i::lr) e Rs Q:=by
 refine Me ho hw (Ef.app1 ii hu hinfo hzv hp hs hx hR hi hl hq hE hb hm hd) ?_;rintro _ _ ⟨A',c',rfl,rfl⟩;exact h A' c'
theorem Mw (ii jj:Nat) {us:List Value} {u:α} {l:List α} {lr:List Nat} (ho:ops[i]? = some ⟨some d,.call ⟨.builtin .append,#[sl,x],#[t,t]⟩,ty,pos,af,gd⟩) (hw:Wd n ops e ⟨some d,.call ⟨.builtin .append,#[sl,x],#[t,t]⟩,ty,pos,af,gd⟩ true)
 (hu:P.underlying t=some (.slice T)) (hinfo:(P.info? T).map (fun i=>(i.zero,i.size,i.bytes))=some (some zv,z,bytes)) (hzv:zv.cells.size=z) (hp:0<z)
 (hs:e.ev sl=some (.slice A l.length cp)) (hx:e.ev x=some (.slice (some ⟨g,0,none⟩) 1 1)) (hR:Rs=aV g T us.toArray::Rs') (hi:Rs'[ii]? = some (bG T z E (.slice A l.length cp) l)) (hj:(Rs'.eraseIdx ii)[jj]? = some B) (hl:us.length=z) (hq:us.all (·.oneCell')=true) (hE: ∀ w G,B.P w G->E.P w G us u) (hb:(l.length+1)*bytes<=140737488355328) (hm:l.length+1<=140737488355328) (hd:Nat.blt d n=true)
 (h: ∀ A' c',TL P n F0 w0 ops lr ((d,.slice A' (l ++ [u]).length c')::e) (bG T z E (.slice A' (l ++ [u]).length c') (l ++ [u])::(Rs'.eraseIdx ii).eraseIdx jj) Q):TL P n F0 w0 ops (i::lr) e Rs Q:=by
 refine Me ho hw (Ef.app2 ii jj hu hinfo hzv hp hs hx hR hi hj hl hq hE hb hm hd) ?_;rintro _ _ ⟨A',c',rfl,rfl⟩;exact h A' c'
theorem MG (ii:Nat) {us:List Value} {u:α} {l:List α} {lr:Sch} (ho:ops[i]? = some ⟨some d,.call ⟨.builtin .append,#[sl,x],#[t,t]⟩,ty,pos,af,gd⟩) (hw:Wd n ops e ⟨some d,.call ⟨.builtin .append,#[sl,x],#[t,t]⟩,ty,pos,af,gd⟩ true)
 (hu:P.underlying t=some (.slice T)) (hinfo:(P.info? T).map (fun i=>(i.zero,i.size,i.bytes))=some (some zv,z,bytes)) (hzv:zv.cells.size=z) (hp:0<z)
 (hs:e.ev sl=some (.slice A l.length cp)) (hx:e.ev x=some (.slice (some ⟨g,0,none⟩) 1 1)) (hR:Rs=aV g T us.toArray::Rs') (hi:Rs'[ii]? = some (bG T z E (.slice A l.length cp) l)) (hl:us.length=z) (hq:us.all (·.oneCell')=true) (hE: ∀ w S,E.P w S us u) (hb:(l.length+1)*bytes<=140737488355328) (hm:l.length+1<=140737488355328) (hd:Nat.blt d n=true)
 (is:List Nat) (hf: ∀ A' c',Sel (Rs'.set ii (bG T z E (.slice A' (l ++ [u]).length c') (l ++ [u]))) is Rf)
 (h: ∀ A' c',TD P n F0 w0 ops lr Rf ((d,.slice A' (l ++ [u]).length c')::e) (Rs'.set ii (bG T z E (.slice A' (l ++ [u]).length c') (l ++ [u]))) Q):TD P n F0 w0 ops (.e i lr) Rf e Rs Q:=by
 refine Mp ho hw (Ef.app1 ii hu hinfo hzv hp hs hx hR hi hl hq hE hb hm hd) ?_;rintro _ _ ⟨A',c',rfl,rfl⟩;exact⟨Rf,fun w hw=>hw.sel is (hf A' c'),fun _ h=>h,h A' c'⟩
theorem MH (ii jj:Nat) {us:List Value} {u:α} {l:List α} {lr:Sch} (ho:ops[i]? = some ⟨some d,.call ⟨.builtin .append,#[sl,x],#[t,t]⟩,ty,pos,af,gd⟩) (hw:Wd n ops e ⟨some d,.call ⟨.builtin .append,#[sl,x],#[t,t]⟩,ty,pos,af,gd⟩ true)
 (hu:P.underlying t=some (.slice T)) (hinfo:(P.info? T).map (fun i=>(i.zero,i.size,i.bytes))=some (some zv,z,bytes)) (hzv:zv.cells.size=z) (hp:0<z)
 (hs:e.ev sl=some (.slice A l.length cp)) (hx:e.ev x=some (.slice (some ⟨g,0,none⟩) 1 1)) (hR:Rs=aV g T us.toArray::Rs') (hi:Rs'[ii]? = some (bG T z E (.slice A l.length cp) l)) (hj:(Rs'.eraseIdx ii)[jj]? = some B) (hl:us.length=z) (hq:us.all (·.oneCell')=true) (hE: ∀ w G,B.P w G->E.P w G us u) (hb:(l.length+1)*bytes<=140737488355328) (hm:l.length+1<=140737488355328) (hd:Nat.blt d n=true)
 (is:List Nat) (hf: ∀ A' c',Sel (bG T z E (.slice A' (l ++ [u]).length c') (l ++ [u])::(Rs'.eraseIdx ii).eraseIdx jj) is Rf)
 (h: ∀ A' c',TD P n F0 w0 ops lr Rf ((d,.slice A' (l ++ [u]).length c')::e) (bG T z E (.slice A' (l ++ [u]).length c') (l ++ [u])::(Rs'.eraseIdx ii).eraseIdx jj) Q):TD P n F0 w0 ops (.e i lr) Rf e Rs Q:=by
 refine Mp ho hw (Ef.app2 ii jj hu hinfo hzv hp hs hx hR hi hj hl hq hE hb hm hd) ?_;rintro _ _ ⟨A',c',rfl,rfl⟩;exact⟨Rf,fun w hw=>hw.sel is (hf A' c'),fun _ h=>h,h A' c'⟩
end
variable (P n F0 w0) in
def RV (e:Env) (Rs:List Res) (r:ResultVar) (v:Value):Prop:= ∀ a w,Has n e a->St F0 w0 Rs w->(resv a.tmps r).run P w= .ok v w
theorem KQ {k:Nat} (hv:e.get k=some v):RV P n F0 w0 e Rs (.tmp k) v:=by
 intro a w ha hs;have h2:=ha.at_ k v hv;simp[resv,h2]
theorem LI (i:Nat) {k b T:Nat} {us:Array Value} {z:Nat} (hk:e.get k=some (.pointer (some ⟨b,0,none⟩))) (ha: ∀ w,(isAgg t).run P w= .ok true w) (hz: ∀ w,(sizeOf t).run P w= .ok z w) (hi:Rs[i]? = some (aV b T us)) (hl:us.size=z):RV P n F0 w0 e Rs (.cell k t) (.agg us):=by
 intro a w h hs;have h2:=h.at_ k _ hk;have hb:=hs.blk i hi;have h3:=td (P:=P) (t:=t) (w:=w) (ad:=⟨b,0,none⟩) (cs:=us.toList) ha (by intro w; rw[hz]; simp[hl]) (fun j u hj=>by
  have e1:(⟨b,0,none⟩:Addr).add j=⟨b,j,none⟩:=by unfold Addr.add; split <;> simp_all
  rw[e1,bt hb];simpa using hj)
 simp[resv,h2,asAddr,h3]
section
variable {f:Func} {R:Value->Res->List Res->Prop} {A':Res} {Ns:List Res} {r1 r2 r3 r4:ResultVar} {v1 v2 v3 v4:Value} {z:Exit}
theorem X.fin (hR:R v A' Ns) (is:List Nat) (hr:Sel Rs is (A'::Ns)) (hx:z= .ret\/z= .normal) (h: ∀ a w,Has n e a->St F0 w0 Rs w->(results f a.tmps).run P w= .ok v w):X n F0 w0 e Rs z (bodyPost P f (sd R F0 w0)):=by
 intro a w ha hs;have h:bodyPost P f (sd R F0 w0) .ret a w:=⟨ha.df,v,h a w ha hs,v,A',Ns,rfl,hR,hs.sel is hr⟩;rcases hx with rfl | rfl <;> exact h
theorem Ll (is:List Nat) (hf:f.results= #[r1]) (h1:RV P n F0 w0 e Rs r1 v1) (hR:R v1 A' Ns) (hr:Sel Rs is (A'::Ns)) (hx:z= .ret\/z= .normal):X n F0 w0 e Rs z (bodyPost P f (sd R F0 w0)) :=
 X.fin hR is hr hx (fun a w ha hs=>by rw[pb,hf]; simp[h1 a w ha hs])
theorem Lu (is:List Nat) (hf:f.results= #[r1,r2]) (h1:RV P n F0 w0 e Rs r1 v1) (h2:RV P n F0 w0 e Rs r2 v2) (hR:R (.tuple #[v1,v2]) A' Ns) (hr:Sel Rs is (A'::Ns)) (hx:z= .ret\/z= .normal):X n F0 w0 e Rs z (bodyPost P f (sd R F0 w0)) :=
 X.fin hR is hr hx (fun a w ha hs=>by rw[pb,hf]; simp[h1 a w ha hs,h2 a w ha hs])
theorem Md (is:List Nat) (hf:f.results= #[r1,r2,r3]) (h1:RV P n F0 w0 e Rs r1 v1) (h2:RV P n F0 w0 e Rs r2 v2) (h3:RV P n F0 w0 e Rs r3 v3) (hR:R (.tuple #[v1,v2,v3]) A' Ns) (hr:Sel Rs is (A'::Ns)) (hx:z= .ret\/z= .normal):X n F0 w0 e Rs z (bodyPost P f (sd R F0 w0)) :=
 X.fin hR is hr hx (fun a w ha hs=>by rw[pb,hf]; simp[h1 a w ha hs,h2 a w ha hs,h3 a w ha hs])
end
theorem BOK.mk {zv:Value} {fs:Array Field} {pl:List (Nat×Nat)} {zs:Array Value} (hz: ∀ w,(zeroValue t).run P w= .ok zv w) (hu: ∀ w,(underlying t).run P w= .ok (.struct fs) w) (hp: ∀ w,(fs.mapM (fun f=>do pure (f.offset,<- sizeOf f.type)):Sem (Array (Nat×Nat))).run P w= .ok pl.toArray w) (hzs:zv.cells=zs:=by rfl):BOK P t zs pl:=by
 intro parts cells w h;subst hzs;simp only[Instr.build,Sem.run_bind,hz,Result.andThen_ok,hu,hp];have h2:(fun (i:Nat)=>(pl.toArray)[i]?)=(fun (i:Nat)=>pl[i]?):=by funext i; simp
 simp[h2,h]
theorem SOK.mk {T m z:Nat} {zv:Value} {zs:Array Value} (hu: ∀ w,(underlying t).run P w= .ok (.slice T) w) (hz: ∀ w,(sizeOf T).run P w= .ok z w) (hzv: ∀ w,(zeroValue T).run P w= .ok zv w) (hm:0<m*z/\m*z<=16777216) (hzs:(Array.range (m*z)).map (fun i=>zv.cells[i % zv.cells.size]!)=zs):SOK P t T m z zs:=by
 intro parts cells w h;have h1: ¬ (m*z>2 ^ 24):=by omega
 have h2: ¬ (m*z=0):=by omega
 subst hzs;simp only[Instr.buildSlice,Sem.run_bind,hu,hz,Result.andThen_ok,h1,if_false,h2,hzv,Sem.run_pure];simp[h,newRow]
end
def eqV:Value->Value->Option Bool
 | .int k a,.int k' b=>if k=k' then some (decide (a=b)) else none
 | .bool a,.bool b=>some (decide (a=b))
 | .string a,.string b=>some (decide (a.toList=b.toList))
 | _,_=>none
def eqL:List Value->List Value->Option Bool
 | [],[]=>some true
 | x::xs,y::ys=>match eqV x y with
  | some true=>eqL xs ys
  | some false=>some false
  | none=>none
 | _,_=>none
theorem pL {k:IntKind} {a b:Int} (h:a=b):eqV (.int k a) (.int k b)=some true:=by simp[eqV,h]
theorem DI {k:IntKind} {a b:Int} (h: ¬ a=b):eqV (.int k a) (.int k b)=some false:=by simp[eqV,h]
theorem pM {a b:Bool} (h:a=b):eqV (.bool a) (.bool b)=some true:=by simp[eqV,h]
theorem ul {a b:Bool} (h: ¬ a=b):eqV (.bool a) (.bool b)=some false:=by simp[eqV,h]
theorem tf {l m:List UInt8} (h:l=m):eqV (.string (ba l)) (.string (ba m))=some true:=by simp[eqV,h]
theorem sv {l m:List UInt8} (h: ¬ l=m):eqV (.string (ba l)) (.string (ba m))=some false:=by simp[eqV,fz,h]
theorem fq {x y:Value} {xs ys:List Value} {b:Bool} (h:eqV x y=some true) (r:eqL xs ys=some b):eqL (x::xs) (y::ys)=some b:=by simp[eqL,h,r]
theorem mo {x y:Value} {xs ys:List Value} (h:eqV x y=some false):eqL (x::xs) (y::ys)=some false:=by simp[eqL,h]
theorem xn: ∀ {xs ys xs' ys':List Value} {b:Bool},xs.length=ys.length->eqL (xs++xs') (ys++ys')=some b-> ∃ c,eqL xs ys=some c/\(if c then eqL xs' ys' else some false)=some b
 | [],[],xs',ys',b,_,h=>⟨true,rfl,by simpa using h⟩
 | x::xs,y::ys,xs',ys',b,hl,h=>by
  simp only[List.cons_append,eqL] at h ⊢
  cases hv:eqV x y with
  | none=>rw[hv] at h; cases h
  | some c =>
   cases c with
   | true =>
    rw[hv] at h;exact xn (by simpa using hl) h
   | false =>
    rw[hv] at h;exact⟨false,rfl,by simpa using h⟩
def okD:TypeDesc->Value->Bool
 | .int _,.int _ _=>true
 | .bool,.bool _=>true
 | .string,.string _=>true
 | _,_=>false
def oJ:List TypeDesc->List Value->Bool
 | [],[]=>true
 | d::ds,v::vs=>okD d v && oJ ds vs
 | _,_=>false
theorem lF: ∀ {ds:List TypeDesc} {vs:List Value},oJ ds vs=true->vs.length=ds.length
 | [],[],_=>rfl
 | d::ds,v::vs,h=>by
  simp only[oJ,Bool.and_eq_true] at h;simp[lF h.2]
theorem xo: ∀ {ds ds':List TypeDesc} {vs:List Value},oJ (ds++ds') vs=true->oJ ds (vs.take ds.length)=true/\oJ ds' (vs.drop ds.length)=true
 | [],ds',vs,h=>by simpa [oJ] using h
 | d::ds,ds',[],h=>by simp[oJ] at h
 | d::ds,ds',v::vs,h=>by
  simp only[List.cons_append,oJ,Bool.and_eq_true] at h;have:=xo h.2;simp[oJ,h.1,this]
def mkV (agg:Bool) (xs:List Value):Value:=if agg then .agg xs.toArray else xs.headD undef
structure iG (P:Program) (k:Nat) (t:TypeId) (ds:List TypeDesc) (agg:Bool):Prop where
 ia: ∀ w,(isAgg t).run P w= .ok agg w
 sz: ∀ w,(sizeOf t).run P w= .ok ds.length w
 one:agg=false->ds.length=1
 eq: ∀ (d:Nat) (xs ys:List Value) (b:Bool) (w:World),k<=d->oJ ds xs=true->oJ ds ys=true->eqL xs ys=some b->(Op.equalIn d t (mkV agg xs) (mkV agg ys)).run P w= .ok b w
section
variable {P:Program} {t:TypeId}
theorem JW {x y:Value} {b:Bool} (h:eqL [x] [y]=some b):eqV x y=some b:=by
 simp only[eqL] at h
 cases hv:eqV x y with
 | none=>rw[hv] at h; cases h
 | some c=>cases c <;> (rw[hv] at h; exact h)
theorem len1 {xs:List Value} (h:xs.length=1): ∃ x,xs = [x]:=by
 match xs,h with
 | [x],_=>exact⟨x,rfl⟩
theorem F9 {d0:TypeDesc} (hu:P.underlying t=some d0) (d:Nat) (x y:Value) (b:Bool) (w:World) (hx:okD d0 x=true) (hy:okD d0 y=true) (h:eqV x y=some b):(Op.equalIn (d+1) t x y).run P w= .ok b w:=by
 cases d0 <;> cases x <;> first | (simp[okD] at hx; done) | skip;all_goals cases y <;> first | (simp[okD] at hy; done) | skip
 ·simp only[eqV,Option.some.injEq] at h;subst h;rw[run_equalIn_bool' w d t _ _ hu];rfl
 ·rename_i q k a k' b';simp only[eqV] at h;split at h
  ·rename_i hk;subst hk;injection h with h;subst h;rw[run_equalIn_int w d t k _ a b' hu];rfl
  ·cases h
 ·simp only[eqV,Option.some.injEq] at h;subst h;rw[run_equalIn_string w d t _ _ hu];congr 1;rename_i p q;by_cases hpq:p.toList=q.toList <;> simp[hpq]
theorem LZ {d0:TypeDesc} (ia: ∀ w,(isAgg t).run P w= .ok false w) (sz: ∀ w,(sizeOf t).run P w= .ok 1 w) (hu:P.underlying t=some d0):iG P 1 t [d0] false:=by
 refine⟨ia,sz,fun _=>rfl,?_⟩;intro d xs ys b w hd hx hy h;obtain⟨x,rfl⟩:=len1 (by simpa using lF hx);obtain⟨y,rfl⟩:=len1 (by simpa using lF hy);obtain⟨d,rfl⟩: ∃ d',d=d'+1:=⟨d - 1,by omega⟩;exact F9 hu d x y b w (by simpa [oJ] using hx) (by simpa [oJ] using hy) (JW h)
def DJ (P:Program) (k:Nat):Nat->List Field->List TypeDesc->Prop
 | _,[],ds=>ds = []
 | off, f :: fs, ds => f.name ≠ "_" /\ f.offset = off /\ ∃ d1 d2 agg, ds = d1 ++ d2 /\ iG P k f.type d1 agg /\ DJ P k (off + d1.length) fs d2
theorem B8 {ty:TypeId} {ds:List TypeDesc} {agg:Bool} {k:Nat} (hf:iG P k ty ds agg) (xs:List Value) (off:Nat) (w:World) (hl:off+ds.length<=xs.length):(part ty xs.toArray off).run P w= .ok (mkV agg ((xs.drop off).take ds.length)) w:=by
 cases agg with
 | true =>
  have h1:=hf.ia w;simp only[part,Sem.run_bind,h1,Result.andThen_ok,if_true,hf.sz w,Sem.run_pure,mkV];congr 2;apply Array.ext';simp[List.extract_eq_take_drop]
 | false =>
  have h1:=hf.ia w;have h2:=hf.one rfl;have h3:off<xs.length:=by omega
  have h4:((xs.drop off).take 1).headD undef=xs[off]:=by
   rw[List.drop_eq_getElem_cons h3];rfl
  simp only[part,Sem.run_bind,h1,Result.andThen_ok,Bool.false_eq_true,if_false,mkV,h2,h4];simp[h3]
theorem xp {k:Nat}: ∀ {fs:List Field} {ds:List TypeDesc} {off:Nat},DJ P k off fs ds-> ∀ (d:Nat) (xs ys:List Value) (b:Bool) (w:World),k<=d->xs.length=off+ds.length->ys.length=off+ds.length ->
 oJ ds (xs.drop off)=true->oJ ds (ys.drop off)=true->eqL (xs.drop off) (ys.drop off)=some b->(Op.eqFields d xs.toArray ys.toArray fs).run P w= .ok b w
 | [],ds,off,hf,d,xs,ys,b,w,hd,hx,hy,ox,oy,h=>by
  obtain rfl:ds = []:=hf;rw[List.drop_of_length_le (by simp at hx; omega),List.drop_of_length_le (by simp at hy; omega)] at h;injection h with h;subst h;rfl
 | f::fs,ds,off,hf,d,xs,ys,b,w,hd,hx,hy,ox,oy,h=>by
  obtain⟨hn,ho,d1,d2,agg,rfl,hF,hr⟩:=hf;rw[NE] at hx hy;have ox':=xo ox;have oy':=xo oy;have e1:xs.drop off=(xs.drop off).take d1.length++xs.drop (off+d1.length):=by rw[<- Om,List.take_append_drop]
  have e2:ys.drop off=(ys.drop off).take d1.length++ys.drop (off+d1.length):=by rw[<- Om,List.take_append_drop]
  rw[e1,e2] at h;obtain⟨c,h1,h2⟩:=xn (by simp; omega) h;have p1:=B8 hF xs off w QR;have p2:=B8 hF ys off w QR;have q1:=hF.eq d _ _ c w hd ox'.1 oy'.1 h1;simp only[Op.eqFields,hn,ne_eq,not_false_eq_true,if_true,Sem.run_bind,ho,p1,Result.andThen_ok,p2,q1,Sem.run_ite]
  cases c with
  | false =>
   simp only[Bool.false_eq_true,if_false] at h2;injection h2 with h2;subst h2;rfl
  | true =>
   simp only[if_true] at h2;have h3:=xp hr d xs ys b w hd QR QR (by rw[<- Om]; exact ox'.2) (by rw[<- Om]; exact oy'.2) h2;simpa using h3
theorem iG.struct {k:Nat} {fs:Array Field} {ds:List TypeDesc} (ia: ∀ w,(isAgg t).run P w= .ok true w) {z:Nat} (sz: ∀ w,(sizeOf t).run P w= .ok z w) (hz:ds.length=z) (hu:P.underlying t=some (.struct fs)) (hp:P.stoodInHeld t=false) (hf:DJ P k 0 fs.toList ds):iG P (k+1) t ds true:=by
 subst hz;refine⟨ia,sz,fun h=>(by cases h),?_⟩;intro d xs ys b w hd hx hy h;obtain⟨d,rfl⟩: ∃ d',d=d'+1:=⟨d - 1,by omega⟩;have e:P.fieldsOf t=fs:=by simp[Program.fieldsOf,hu]
 simp only[mkV,if_true];rw[run_equalIn_agg w d t _ _ (by rw[e]; exact hu) hp,e];exact xp hf d xs ys b w QR (by simpa using lF hx) (by simpa using lF hy) hx hy h
theorem iG.mono {k k':Nat} {ds:List TypeDesc} {agg:Bool} (h:iG P k t ds agg) (hk:k<=k'):iG P k' t ds agg:=⟨h.ia,h.sz,h.one,fun d xs ys b w hd=>h.eq d xs ys b w QR⟩
end
section
variable {P:Program} {n:Nat} {F0:Nat->Prop} {w0:World} {e:Env} {Rs Rf:List Res} {Q:Exit->Act->World->Prop} {ops:Array Oper} {d:Option Tmp} {i:Nat} {ty t t' el:TypeId} {pos:String} {af:Array Edge} {gd:Option (Nat×Bool)} {v v':Value} {x y:Operand} {l:List Nat} {lo:Sch} {c:Code} {S:World->Prop}
theorem Mf {k:Nat} {ds:List TypeDesc} {us vs:List Value} {b:Bool} (hF:iG P k t ds true) (hk:Nat.ble k 10000=true) (hG:P.eqGuardType P.depth t=false) (hx:e.ev x=some (.agg us.toArray)) (hy:e.ev y=some (.agg vs.toArray)) (ou:oJ ds us=true) (ov:oJ ds vs=true) (h:eqL us vs=some b) :
 Ex P n e S ⟨d,.binOp .eql t x y t',ty,pos,af,gd⟩ (.bool b):=by
 intro a w ha _;have h1:=hF.eq 10000 us vs b w (Nat.le_of_ble_eq_true hk) ou ov h;simp only[mkV,if_true] at h1;simp only[execOp,ha.ev hx,ha.ev hy,Sem.run_bind];rw[run_eqGuard_agg w .eql t x y _ _ hG];simp only[Result.andThen_ok];rw[run_eql_struct w t _ _,h1];rfl
theorem MJ {k:Nat} {ds:List TypeDesc} {us vs:List Value} {b:Bool} (hF:iG P k t ds true) (hk:Nat.ble k 10000=true) (hG:P.eqGuardType P.depth t=false) (hx:e.ev x=some (.agg us.toArray)) (hy:e.ev y=some (.agg vs.toArray)) (ou:oJ ds us=true) (ov:oJ ds vs=true) (h:eqL us vs=some b) :
 Ex P n e S ⟨d,.binOp .neq t x y t',ty,pos,af,gd⟩ (.bool (!b)):=by
 intro a w ha _;have h1:=hF.eq 10000 us vs b w (Nat.le_of_ble_eq_true hk) ou ov h;simp only[mkV,if_true] at h1;simp only[execOp,ha.ev hx,ha.ev hy,Sem.run_bind];rw[run_eqGuard_agg w .neq t x y _ _ hG];simp only[Result.andThen_ok];rw[run_neq_struct w t _ _,h1];rfl
theorem Wd.gu {op:Op} {j k:Nat} {want:Bool} (hj:(ops[j]?).bind (·.dst)=some k) (hv:e.get k=some undef):Wd n ops e ⟨d,op,ty,pos,af,some (j,want)⟩ false:=by
 intro a h;simp only[Region.wanted,yielded,hj,NA,h.at_ k _ hv];rfl
theorem SOK.mk0 {T:Nat} {z:Nat} (hu: ∀ w,(underlying t).run P w= .ok (.slice T) w) (hz: ∀ w,(sizeOf T).run P w= .ok z w):SOK P t T 0 z #[]:=by
 intro parts cells w h;have e0: ∀ f:Nat->Value,Array.map f (Array.range 0)= #[]:=by intro f; simp
 simp only[Instr.buildSlice,Sem.run_bind,hu,hz,Result.andThen_ok,Nat.zero_mul,Sem.run_pure];simp[e0,h,newRow]
end
def AS {α:Type} (B:Res) (E:Rd α) (g q:Nat) (cs:List Value) (x:α):Res where
 P:=fun w G=>B.P w G/\G g/\(∀ j,j<cs.length->w.cell? ⟨g,q+j,none⟩=cs[j]?)/\E.P w G cs x
 lt:=fun h=>B.lt h.1
 move:=fun {w w' G} h hm=>⟨B.move h.1 hm,h.2.1,fun j hj=>by
  rw[<- h.2.2.1 j hj];simp only[World.cell?,hm g h.2.1],E.move h.2.2.2 hm⟩
section
variable {P:Program} {n:Nat} {F0:Nat->Prop} {w0 w:World} {e:Env} {Rs Rf:List Res} {Q:Exit->Act->World->Prop} {ops:Array Oper} {d:Option Tmp} {i:Nat} {ty t t' el:TypeId} {pos:String} {af:Array Edge} {gd:Option (Nat×Bool)} {v v':Value} {y z:Operand} {l:List Nat} {lo:Sch} {c:Code} {S:World->Prop}
variable {α:Type} {E:Rd α} {B:Res} {A:Option Addr} {m cp size k:Nat} {xs:List α} {x:α}
theorem foc_P {G:Nat->Prop} (hG:B.P w G) (hB:(RX.of (aq size E) [.slice A m cp] xs).P w G) (hp:0<size) (hx:xs[k]? = some x): ∃ g o cs,A=some ⟨g,o,none⟩/\cs.length=size/\(∃ S,E.P w S cs x)/\(AS B E g (o+k*size) cs x).P w G:=by
 rcases hB with⟨h,rfl⟩ | ⟨a,cap,h,_,_,hb,h2⟩
 ·simp at hx
 ·injection h with h;injection h with h3 h4 h5;subst h3;have hl:0<xs.length:=by have:=(ND hx).1; omega
  obtain⟨cs0,k1,k2,_⟩:=h2 0 xs[0] (List.getElem?_eq_getElem hl);have k3:=k2 0 hp;rw[List.getElem?_eq_getElem QR] at k3;have k4:a.add (0*size+0)=a:=by simp[Addr.add]
  rw[k4] at k3;have k5:=ub k3;obtain⟨cs,k6,k7,k8⟩:=h2 k x hx;refine⟨a.block,a.off,cs,by rw[<- k5],k6,⟨G,k8⟩,hG,hb hl,fun j hj=> ?_,k8⟩;rw[<- k7 j QR,k5,WideShapes.add_plain,Nat.add_assoc]
theorem St.foc (i:Nat) (h:St F0 w0 Rs w) (hi:Rs[i]? = some B) (hB: ∀ w G,B.P w G->(RX.of (aq size E) [.slice A m cp] xs).P w G) (hp:0<size) (hx:xs[k]? = some x) :
 ∃ g o cs,A=some ⟨g,o,none⟩/\cs.length=size/\(∃ w S,E.P w S cs x)/\St F0 w0 (Rs.set i (AS B E g (o+k*size) cs x)) w:=by
 obtain⟨f,hs⟩:=h;obtain⟨G,h1,h2,h3⟩:=Sep.pick i hi hs;obtain⟨g,o,cs,k1,k2,⟨S,k3⟩,k4⟩:=foc_P h1 (hB w G h1) hp hx;exact⟨g,o,cs,k1,k2,⟨w,S,k3⟩,f,Sep.back i hi k4 h2 h3⟩
theorem T.foc (i:Nat) (hi:Rs[i]? = some B) (hB: ∀ w G,B.P w G->(RX.of (aq size E) [.slice A m cp] xs).P w G) (hp:0<size) (hx:xs[k]? = some x)
 (h: ∀ g o cs,A=some ⟨g,o,none⟩->cs.length=size->(∃ w S,E.P w S cs x)->T P n F0 w0 e (Rs.set i (AS B E g (o+k*size) cs x)) c Q):T P n F0 w0 e Rs c Q:=by
 intro a w ha hs;obtain⟨g,o,cs,k1,k2,k3,k4⟩:=hs.foc i hi hB hp hx;exact h g o cs k1 k2 k3 a w ha k4
theorem Mt (i:Nat) (hi:Rs[i]? = some B) (hB: ∀ w G,B.P w G->(RX.of (aq size E) [.slice A m cp] xs).P w G) (hp:0<size) (hx:xs[k]? = some x)
 (h: ∀ g o cs,A=some ⟨g,o,none⟩->cs.length=size->(∃ w S,E.P w S cs x)->TL P n F0 w0 ops l e (Rs.set i (AS B E g (o+k*size) cs x)) Q):TL P n F0 w0 ops l e Rs Q:=by
 intro a w ha hs;obtain⟨g,o,cs,k1,k2,k3,k4⟩:=hs.foc i hi hB hp hx;exact h g o cs k1 k2 k3 a w ha k4
theorem St.unf {q g:Nat} {cs:List Value} (i:Nat) (h:St F0 w0 Rs w) (hi:Rs[i]? = some (AS B E g q cs x)):St F0 w0 (Rs.set i B) w:=h.weaken i hi (fun G hG=>hG.1)
theorem T.unf {q g:Nat} {cs:List Value} (i:Nat) (hi:Rs[i]? = some (AS B E g q cs x)) (h:T P n F0 w0 e (Rs.set i B) c Q):T P n F0 w0 e Rs c Q:=fun a w ha hs=>h a w ha (hs.unf i hi)
theorem TL.unf {q g:Nat} {cs:List Value} (i:Nat) (hi:Rs[i]? = some (AS B E g q cs x)) (h:TL P n F0 w0 ops l e (Rs.set i B) Q):TL P n F0 w0 ops l e Rs Q:=fun a w ha hs=>h a w ha (hs.unf i hi)
theorem X.unf {q g:Nat} {cs:List Value} {o:Exit} (i:Nat) (hi:Rs[i]? = some (AS B E g q cs x)) (h:X n F0 w0 e (Rs.set i B) o Q):X n F0 w0 e Rs o Q:=fun a w ha hs=>h a w ha (hs.unf i hi)
theorem Mq {q g:Nat} {cs:List Value} (i j:Nat) (hy:e.ev y=some (.pointer (some ⟨g,q+j,none⟩))) (ha: ∀ w,(isAgg t).run P w= .ok false w) (hi:Rs[i]? = some B) (hB: ∀ w G,B.P w G-> ∀ j,j<cs.length->w.cell? ⟨g,q+j,none⟩=cs[j]?) (hv:cs[j]? = some v):Ex P n e (St F0 w0 Rs) ⟨d,.load t y,ty,pos,af,gd⟩ v :=
 Ex.ld1 hy ha (fun w hw=>by
  obtain⟨G,h1,_⟩:=hw.get i hi;exact (hB w G h1 j (ND hv).1).trans hv)
end
def RX.blk (b:Nat) (T:TypeId) (cs:Array Value):RX:=⟨fun w S=>w.heap[b]? = some (.cells cs T (0,0))/\S b,fun h k=>⟨h.1,k _ h.2⟩,fun h k=>⟨(k _ h.2).trans h.1,h.2⟩⟩
theorem zC {b:Nat} {T:TypeId} {cs:Array Value}: ∀ w G,(aV b T cs).P w G->(RX.blk b T cs).P w G:=fun _ _ h=>⟨h.1,(h.2 _).2 rfl⟩
section
variable {P:Program} {n:Nat} {F0:Nat->Prop} {w0 w:World} {e:Env} {Rs Rf:List Res} {Q:Exit->Act->World->Prop} {ops:Array Oper} {d:Option Tmp} {i:Nat} {ty t t' el:TypeId} {pos:String} {af:Array Edge} {gd:Option (Nat×Bool)} {v v':Value} {x y z:Operand} {l:List Nat} {lo:Sch} {c:Code} {S:World->Prop}
theorem ER {b:Nat} {T:TypeId} {cs:Array Value} (hX:(RX.blk b T cs).reads w0 F0) (h:St F0 w0 Rs w):w.heap[b]? = some (.cells cs T (0,0)):=by
 obtain⟨S,⟨h1,h2⟩,h3⟩:=hX;exact (h.fr.block b (h3 b h2).2 (h3 b h2).1).trans h1
theorem Ex.xb1 {b o:Nat} {T:TypeId} {cs:Array Value} (hX:(RX.blk b T cs).reads w0 F0) (hx:e.ev x=some (.pointer (some ⟨b,o,none⟩))) (ha: ∀ w,(isAgg t).run P w= .ok false w) (hv:cs[o]? = some v):Ex P n e (St F0 w0 Rs) ⟨d,.load t x,ty,pos,af,gd⟩ v :=
 Ex.ld1 hx ha (fun w hw=>(bt (ER hX hw) o).trans hv)
theorem Ex.xbS {b o z:Nat} {T:TypeId} {cs:Array Value} {us:List Value} (hX:(RX.blk b T cs).reads w0 F0) (hx:e.ev x=some (.pointer (some ⟨b,o,none⟩))) (ha: ∀ w,(isAgg t).run P w= .ok true w) (hz: ∀ w,(sizeOf t).run P w= .ok z w)
 (hv:(cs.toList.drop o).take z=us) (hl:Nat.beq us.length z=true):Ex P n e (St F0 w0 Rs) ⟨d,.load t x,ty,pos,af,gd⟩ (.agg us.toArray):=by
 refine Ex.ldS hx ha hz (Nat.eq_of_beq_eq_true hl) (fun w hw j u hj=> ?_);have h2:(⟨b,o,none⟩:Addr).add j=⟨b,o+j,none⟩:=by unfold Addr.add; split <;> simp_all
 rw[h2,bt (ER hX hw)];subst hv;rw[List.getElem?_take] at hj;split at hj
 ·rw[List.getElem?_drop] at hj;simpa using hj
 ·cases hj
theorem Ex.mkI {fs:Array Field} (hx:e.ev x=some v) (hu: ∀ w,(underlying t).run P w= .ok (.struct fs) w):Ex P n e S ⟨d,.makeInterface t x,ty,pos,af,gd⟩ (.iface t v):=by
 intro a w ha _;simp[execOp,ha.ev hx,Instr.makeInterface,hu]
theorem xq {nm:String} {f:FuncId} {fs:Array Field} {k:Nat} (hn:P.types.size+Made.depth=k+1) (hm:((P.info? t).bind fun i=>i.methods.find? (·.name == nm)).map (fun m=>(m.path.isEmpty,m.func))=some (true,some (f,false))) (hu: ∀ w,(underlying t).run P w= .ok (.struct fs) w) (u:Value) (w:World) :
 (method (P.types.size+Made.depth) t u nm).run P w= .ok (f,u) w:=by
 obtain⟨m,h1,h2⟩:=Option.map_eq_some_iff.1 hm;obtain⟨ti,h3,h4⟩:=Ny h1;simp only[Prod.mk.injEq] at h2;obtain⟨h5,h6⟩:=h2;have h7:m.path.toList = []:=by
  have:m.path= #[]:=by simpa using h5
  simp[this]
 rw[hn];simp only[method,Sem.run_bind,typeInfo];simp[h3,h4,h7,follow,h6,receiverAt,hu,Place.get]
end
def rC (xs:List Int):List UInt8:=xs.map fun n=>UInt8.ofNat n.toNat
theorem xr: ∀ (xs:List Int) (l:List UInt8),xs.foldl (fun r n=>r.push (UInt8.ofNat n.toNat)) (ba l)=ba (l++rC xs)
 | [],l=>by simp[rC]
 | x::xs,l=>by
  rw[List.foldl_cons];have e:(ba l).push (UInt8.ofNat x.toNat)=ba (l ++ [UInt8.ofNat x.toNat]):=by simp[ba,ByteArray.push]
  rw[e,xr xs];simp[rC]
section
variable {P:Program} {n:Nat} {F0:Nat->Prop} {w0 w:World} {e:Env} {Rs:List Res} {d:Option Tmp} {ty t t' el:TypeId} {pos:String} {af:Array Edge} {gd:Option (Nat×Bool)} {x y:Operand} {S:World->Prop}
theorem Mx {b T m:Nat} {cs:Array Value} {xs:List Int} (i:Nat) (hi:Rs[i]? = some (aV b T cs)) (hc:cs=(xs.map (Value.int .u8)).toArray) (hm:xs.length=m) (hx:e.ev x=some (.slice (some ⟨b,0,none⟩) m m)) (hs: ∀ w,(underlying t).run P w= .ok (.slice el) w) (hd: ∀ w,(underlying t').run P w= .ok .string w) (hel: ∀ w,(underlying el).run P w= .ok (.int .u8) w) :
 Ex P n e (St F0 w0 Rs) ⟨d,.convert t t' x,ty,pos,af,gd⟩ (.string (ba (rC xs))):=by
 subst hm;intro a w ha hw;have hl:(loadCells ⟨b,0,none⟩ xs.length).run P w= .ok (xs.map (Value.int .u8)).toArray w:=by
  have:=run_loadCells_list (P:=P) (w:=w) ⟨b,0,none⟩ (xs.map (Value.int .u8)) (fun j v hj=> ?_)
  ·rwa [NU] at this
  ·have h2:(⟨b,0,none⟩:Addr).add j=⟨b,j,none⟩:=by unfold Addr.add; split <;> simp_all
   rw[h2,bt (hw.blk i hi),hc,List.getElem?_toArray];exact hj
 have h4:=run_bytesToString w ⟨b,0,none⟩ xs.length xs.length xs hl;have h5:=xr xs [];rw[NV] at h5;have h6:(Conv.bytesToString (.slice (some ⟨b,0,none⟩) xs.length xs.length)).run P w= .ok (.string (ba (rC xs))) w:=by
  rw[h4];exact congrArg (fun s=>Result.ok (Value.string s) w) h5
 simp[execOp,ha.ev hx,convert,hs,hd,hel,h6]
theorem St.tl_ {B:Res} (h:St F0 w0 (B::Rs) w):St F0 w0 Rs w:=by
 obtain⟨f,G,h1,h2,h3⟩:=h;exact⟨f,h3.mono (fun k hk=>hk.1)⟩
theorem Ex.mulw {k:IntKind} {p q:Int} (hx:e.ev x=some (.int k p)) (hy:e.ev y=some (.int k q)):Ex P n e S ⟨d,.binOp .mul t x y t',ty,pos,af,gd⟩ (.int k (k.wrap (p*q))):=by
 intro a w ha _;simp[execOp,ha.ev hx,ha.ev hy,eqGuard,binOp,Op.intArith]
theorem Ex.remK {k:IntKind} {p q:Int} (hx:e.ev x=some (.int k p)) (hy:e.ev y=some (.int k q)) (hq:1<=q) (h:0<=p):Ex P n e S ⟨d,.binOp .rem t x y t',ty,pos,af,gd⟩ (.int k (p % q)):=by
 intro a w ha _;have h0: ¬ q=0:=by omega
 simp[execOp,ha.ev hx,ha.ev hy,eqGuard,binOp,Op.intDiv,h0,IntWalk.rem_in _ _ h]
theorem MI {Rf:List Res} {Q:Exit->Act->World->Prop} {ops:Array Oper} {i T z d':Nat} {vs:List Value} {m:Nat} {zs cells:Array Value} {ps:List (Nat×Operand)} {l:Sch} (ho:ops[i]? = some ⟨some d',.buildSlice t m ps.toArray,ty,pos,af,gd⟩) (hw:Wd n ops e ⟨some d',.buildSlice t m ps.toArray,ty,pos,af,gd⟩ true) (hB:SOK P t T m z zs) (hv:e.evs (ps.map (·.2))=some vs) (hf':Instr.fill (fun i=>some (i*z,z)) zs ((ps.map (·.1)).zip vs)=some cells) (hd:Nat.blt d' n=true) (is:List Nat) (hf: ∀ b,Sel (aV b T cells::Rs) is (aV b T cells::Rf)) (h: ∀ b,TD P n F0 w0 ops l (aV b T cells::Rf) ((d',.slice (some ⟨b,0,none⟩) m m)::e) (aV b T cells::Rs) Q):TD P n F0 w0 ops (.e i l) Rf e Rs Q:=by
 refine Mp ho hw (Ef.lit hB hv hf' hd) ?_;rintro _ _ ⟨b,rfl,rfl⟩;exact⟨_,fun w hw=>hw.sel is (hf b),fun _ h=>h.tl_,h b⟩
end
section
variable {P:Program} {n:Nat} {F0:Nat->Prop} {w0:World} {e e':Env} {Rs Rs':List Res} {Q:Exit->Act->World->Prop} {c:Code} {d:Nat} {v v':Value}
def JK (n:Nat) (F0:Nat->Prop) (w0:World) (R:Env->List Res->Prop) (a:Act) (w:World):Prop:= ∃ e Rs,R e Rs/\Has n e a/\St F0 w0 Rs w
theorem LE (R:Env->List Res->Prop) (h:T P n F0 w0 e Rs c (Exit.then (JK n F0 w0 R) Q)) (k: ∀ e' Rs',R e' Rs'->X n F0 w0 e' Rs' .normal Q):T P n F0 w0 e Rs c Q:=by
 intro a w ha hs;refine wp_mono (h a w ha hs) ?_;intro x a' w' hx;cases x <;> first | exact hx | skip;obtain⟨e',Rs',hR,ha',hs'⟩:=hx;exact k e' Rs' hR a' w' ha' hs'
theorem X.jq {R:Env->List Res->Prop} (is:List Nat) (hR:R e' Rs') (he:Sub e' e) (hr:Sel Rs is Rs'):X n F0 w0 e Rs .normal (Exit.then (JK n F0 w0 R) Q):=fun a w ha hs=>⟨e',Rs',hR,ha.sub he.get,hs.sel is hr⟩
theorem LH {z:Exit} (hv:e.get d=some v) (h:v=v') (k:X n F0 w0 ((d,v')::e) Rs z Q):X n F0 w0 e Rs z Q:=fun a w ha hs=>k a w (ha.as hv h) hs
end
section
variable {P:Program} {n:Nat} {F0:Nat->Prop} {w0:World} {e:Env} {Rs:List Res} {S:World->Prop} {d:Option Tmp} {ty:TypeId} {pos:String} {af:Array Edge} {gd:Option (Nat×Bool)} {v:Value} {x y ix:Operand} {t t' el:TypeId}
theorem Ex.ixP {g o m z k:Nat} {i:Int} {q:IntKind} (hx:e.ev x=some (.pointer (some ⟨g,o,none⟩))) (hi:e.ev ix=some (.int q i)) (hik:i=(k:Int)) (hu: ∀ w,(underlying t).run P w= .ok (.array m el) w) (hz: ∀ w,(sizeOf el).run P w= .ok z w) (hk:k<m) :
 Ex P n e S ⟨d,.indexAddr t x ix,ty,pos,af,gd⟩ (.pointer (some ⟨g,o+k*z,none⟩)):=by
 intro a w ha _;subst hik;have h1:(0:Int)<=(k:Int)/\(k:Int)<(m:Int):=by omega
 have h2:(⟨g,o,none⟩:Addr).add (k*z)=⟨g,o+k*z,none⟩:=by unfold Addr.add; split <;> simp_all
 have h3:(Instr.indexAt t (.pointer (some ⟨g,o,none⟩)) (.int q (k:Int))).run P w= .ok (.pointer (some ⟨g,o+k*z,none⟩)) w:=by
  simp only[Instr.indexAt,asIntOf,Sem.run_bind,Sem.run_pure,Result.andThen_ok,hu,Instr.sureAddr];rw[QX h1];simp only[Sem.run_bind,hz,Result.andThen_ok,OB,h2,Sem.run_pure]
 simp[execOp,ha.ev hx,ha.ev hi,h3]
theorem LS {g o m c z k:Nat} {i:Int} {q:IntKind} (hx:e.ev x=some (.slice (some ⟨g,o,none⟩) m c)) (hi:e.ev ix=some (.int q i)) (hik:i=(k:Int)) (hu: ∀ w,(underlying t).run P w= .ok (.slice el) w) (hz: ∀ w,(sizeOf el).run P w= .ok z w) (hk:k<m) {r:Nat} (hr:o+k*z=r) :
 Ex P n e S ⟨d,.indexAddr t x ix,ty,pos,af,gd⟩ (.pointer (some ⟨g,r,none⟩)):=by
 subst hr;exact K6 hx hi hik hu hz hk
end
open Go.RowKit Go.Deep Go.ChangeShapes
def eW {α:Type} (w0:World) (S:Nat->Prop) (E:Rd α):Rd α where
 P:=fun w G cs x=> ∀ W:World,(∀ k,G k->W.heap[k]? = w.heap[k]?)->(∀ k,S k->W.heap[k]? = w0.heap[k]?)->E.P W (fun k=>G k\/S k) cs x
 mono:=fun h hS W h1 h2=>E.mono (h W (fun k hk=>h1 k (hS k hk)) h2) (fun k hk=>hk.imp (hS k) id)
 move:=fun h hm W h1 h2=>h W (fun k hk=>(h1 k hk).trans (hm k hk)) h2
def RX.old (w0:World) (S:Nat->Prop) (X:RX):RX where
 P:=fun w G=> ∀ W:World,(∀ k,G k->W.heap[k]? = w.heap[k]?)->(∀ k,S k->W.heap[k]? = w0.heap[k]?)->X.P W (fun k=>G k\/S k)
 mono:=fun h hS W h1 h2=>X.mono (h W (fun k hk=>h1 k (hS k hk)) h2) (fun k hk=>hk.imp (hS k) id)
 move:=fun h hm W h1 h2=>h W (fun k hk=>(h1 k hk).trans (hm k hk)) h2
section
variable {α:Type} {w0 w w1:World} {S G F:Nat->Prop} {E:Rd α} {cs:List Value} {x:α} {X Y:RX} {size:Nat}
theorem DK (h:E.P w0 S cs x):(eW w0 S E).P w G cs x:=fun W _ h2=>E.mono (E.move h h2) (fun k hk=> .inr hk)
theorem JX (h:E.P w G cs x):(eW w0 S E).P w G cs x:=fun W h1 _=>E.mono (E.move h h1) (fun k hk=> .inl hk)
theorem zD {xs:List α} (h:(aq size (eW w0 S E)).P w G cs xs):(eW w0 S (aq size E)).P w G cs xs:=by
 intro W h1 h2;rcases h with h | ⟨a,cap,e1,e2,e3,hb,hr⟩
 ·exact .inl h
 ·refine .inr ⟨a,cap,e1,e2,e3,fun hl=> .inl (hb hl),fun i x hx=> ?_⟩;obtain⟨cs,k1,k2,k3⟩:=hr i x hx;refine⟨cs,k1,fun j hj=> ?_,k3 W h1 h2⟩;have hl:0<xs.length:=by have:=(ND hx).1; omega
  rw[<- k2 j hj];have e:(a.add (i*size+j)).block=a.block:=block_add _ _;simp only[World.cell?,e,h1 _ (hb hl)]
theorem Hv (h: ∀ k,S k->w1.heap[k]? = w0.heap[k]?):eW w1 S E=eW w0 S E:=by
 unfold eW;congr 1;funext w G cs x;apply propext;constructor
 ·exact fun hp W h1 h2=>hp W h1 (fun k hk=>(h2 k hk).trans (h k hk).symm)
 ·exact fun hp W h1 h2=>hp W h1 (fun k hk=>(h2 k hk).trans (h k hk))
theorem B9 {T:TypeId} {v:Value} {xs:List α} (hp:0<size): ∀ w G,(bG T size (eW w0 S E) v xs).P w G->(RX.old w0 S (RX.of (aq size E) [v] xs)).P w G:=fun w G h=>zD (bX hp w G h)
theorem mC: ∀ w G,(RdR (eW w0 S E) cs x).P w G->(RX.old w0 S (RX.of E cs x)).P w G:=fun w G h=>h.1
theorem MC {A:Option Addr} {n c i:Nat} {l:List α} (hp:0<size) (h:(RX.of (aq size E) [.slice A n c] l).P w S) (hF: ∀ k,S k-> ¬ F k/\k<w.heap.size) (hx:l[i]? = some x) :
 ∃ g o:Nat,A=some ⟨g,o,none⟩/\ ∃ cs,cs.length=size/\(∀ j,j<size->w.cell? ⟨g,o+i*size+j,none⟩=cs[j]?)/\(¬ F g/\g<w.heap.size)/\(RX.of E cs x).P w S:=by
 rcases h with⟨h,rfl⟩ | ⟨a,cap,h,_,_,hb,h2⟩
 ·simp at hx
 ·injection h with h;injection h with h3 h4 h5;subst h3;have hl:0<l.length:=by have:=(ND hx).1; omega
  obtain⟨cs0,k1,k2,_⟩:=h2 0 l[0] (List.getElem?_eq_getElem hl);have k3:=k2 0 hp;rw[List.getElem?_eq_getElem QR] at k3;have k4:a.add (0*size+0)=a:=by simp[Addr.add]
  rw[k4] at k3;have k5:=ub k3;obtain⟨cs,k6,k7,k8⟩:=h2 i x hx;refine⟨a.block,a.off,by rw[<- k5],cs,k6,fun j hj=> ?_,hF _ (hb hl),k8⟩;rw[<- k7 j hj,k5,WideShapes.add_plain,Nat.add_assoc]
end
structure RO where
 α:Type
 E:Rd α
 cs:List Value
 x:α
def RO.res (w0:World) (S:Nat->Prop) (o:RO):Res:=RdR (eW w0 S o.E) o.cs o.x
def xt (P:Program) (f:FuncId) (args:Array Value) (X:RX) (A:Res) (R:Value->Res->List RO->Prop):Prop :=
 ∀ F w S,A.P w F->X.P w S->(∀ k,S k-> ¬ F k/\k<w.heap.size)->Calls P f args w (sd (fun v A' N=> ∃ L,R v A' L/\N=L.map (RO.res w S)) F w)
section
variable {P:Program} {n:Nat} {F0:Nat->Prop} {w0 w:World} {S:Nat->Prop} {e:Env} {Rs Rs' Rf Bs:List Res} {L:List RO} {B:Res} {Xr Y:RX}
theorem L7 (j:Nat) (hs:St F0 w0 Rs w) (hj:Rs[j]? = some B) (hB: ∀ w G,B.P w G->(RX.old w0 S Xr).P w G) (hF: ∀ k,S k-> ¬ F0 k/\k<w0.heap.size):Xr.reads w (fun _=>False):=by
 obtain⟨G2,k1,k2⟩:=hs.get j hj;have hfr:=hs.fr;refine⟨fun k=>G2 k\/S k,hB w G2 k1 w (fun _ _=>rfl) (fun k hk=>hfr.block k (hF k hk).2 (hF k hk).1),fun k hk=>⟨fun h=>h,?_⟩⟩;rcases hk with hk | hk
 ·exact B.lt k1 k hk
 ·exact Nat.lt_of_lt_of_le (hF k hk).2 hfr.size
variable {d:Option Tmp} {ty:TypeId} {pos:String} {af:Array Edge} {gd:Option (Nat×Bool)} {R:Value->Res->List RO->Prop}
theorem Ef.callSo {op:Op} {f:FuncId} {vs:List Value} (hc:CT P n e ⟨d,op,ty,pos,af,gd⟩ f vs) (hs:xt P f vs.toArray Y aL R) (hY:Y.P w0 S) (hF: ∀ k,S k-> ¬ F0 k/\k<w0.heap.size) (hd:okd d n=true) :
 Ef P n F0 w0 e Rs ⟨d,op,ty,pos,af,gd⟩ (fun e' Rs'=> ∃ v A' L,R v A' L/\e'=mV d v e/\Rs'=L.map (RO.res w0 S)++Rs):=by
 intro a w K Q ha hst hk;unfold Oper.wp;rw[hc a w ha];have hfr:=hst.fr;have hag: ∀ k,S k->w.heap[k]? = w0.heap[k]? := fun k hk=>hfr.block k (hF k hk).2 (hF k hk).1;refine (hs (fun _=>False) w S (fun _ h=>h) (Y.move hY hag) (fun k hk=>⟨fun h=>h,Nat.lt_of_lt_of_le (hF k hk).2 hfr.size⟩)).mono ?_;rintro x w' ⟨v,A',N,rfl,⟨L,hq,rfl⟩,hst'⟩;have e1:L.map (RO.res w S)=L.map (RO.res w0 S):=List.map_congr_left (fun o _=>by unfold RO.res; rw[Hv hag]);have h1:=hst'.drop_;rw[e1] at h1;exact hk _ _ ⟨v,A',L,hq,rfl,rfl⟩ _ _ (ha.putd hd) (hst.grow h1.fr (h1.sep.mono (fun k hk=>hk.elim (fun h=>h.elim) id)))
variable {Q:Exit->Act->World->Prop} {ops:Array Oper} {i dd:Nat} {cl:Call} {f:FuncId} {vs:List Value}
theorem TL.cso {l:List Nat} (ho:ops[i]? = some ⟨some dd,.call cl,ty,pos,af,gd⟩) (hw:Wd n ops e ⟨some dd,.call cl,ty,pos,af,gd⟩ true) (hc:CT P n e ⟨some dd,.call cl,ty,pos,af,gd⟩ f vs) (hs:xt P f vs.toArray Y aL R) (hY:Y.P w0 S) (hF: ∀ k,S k-> ¬ F0 k/\k<w0.heap.size) (hd:Nat.blt dd n=true)
 (h: ∀ v A' L,R v A' L->TL P n F0 w0 ops l ((dd,v)::e) (L.map (RO.res w0 S)++Rs) Q):TL P n F0 w0 ops (i::l) e Rs Q:=by
 refine Me ho hw (Ef.callSo hc hs hY hF hd) ?_;rintro _ _ ⟨v,A',L,hR,rfl,rfl⟩;exact h v A' L hR
theorem TD.cso {l:Sch} (ho:ops[i]? = some ⟨some dd,.call cl,ty,pos,af,gd⟩) (hw:Wd n ops e ⟨some dd,.call cl,ty,pos,af,gd⟩ true) (hc:CT P n e ⟨some dd,.call cl,ty,pos,af,gd⟩ f vs) (hs:xt P f vs.toArray Y aL R) (hY:Y.P w0 S) (hF: ∀ k,S k-> ¬ F0 k/\k<w0.heap.size) (hd:Nat.blt dd n=true)
 (is:List Nat) (hf: ∀ v A' L,R v A' L->Sel (L.map (RO.res w0 S)++Rs) is Rf) (h: ∀ v A' L,R v A' L->TD P n F0 w0 ops l Rf ((dd,v)::e) (L.map (RO.res w0 S)++Rs) Q):TD P n F0 w0 ops (.e i l) Rf e Rs Q:=by
 refine Mp ho hw (Ef.callSo hc hs hY hF hd) ?_;rintro _ _ ⟨v,A',L,hR,rfl,rfl⟩;exact⟨Rf,fun w hw=>hw.sel is (hf v A' L hR),fun _ h=>h,h v A' L hR⟩
variable {α:Type} {E:Rd α} {size:Nat} {T:TypeId} {u:Value} {xs:List α}
theorem X.shutO {z:Exit} (hp:0<size) (i:Nat) (hi:Rs[i]? = some (bG T size (eW w0 S E) u xs)) (h:X n F0 w0 e (Rs.set i (RdR (eW w0 S (aq size E)) [u] xs)) z Q):X n F0 w0 e Rs z Q:=fun a w ha hs =>
 h a w ha (hs.weaken i hi (fun G hG=>⟨zD (bX hp _ _ hG),fun k hk=>(bG T size (eW w0 S E) u xs).lt hG k hk⟩))
theorem Ma {z:Exit} {cs:List Value} {x:α} (i:Nat) (hi:Rs[i]? = some (RdR E cs x)) (h:X n F0 w0 e (Rs.set i (RdR (eW w0 S E) cs x)) z Q):X n F0 w0 e Rs z Q:=fun a w ha hs =>
 h a w ha (hs.weaken i hi (fun G hG=>⟨JX hG.1,hG.2⟩))
theorem X.oldrd {z:Exit} {cs:List Value} {x:α} (hX:(RX.of E cs x).P w0 S) (h:X n F0 w0 e (RdR (eW w0 S E) cs x::Rs) z Q):X n F0 w0 e Rs z Q:=fun a w ha hs =>
 h a w ha (hs.grow (Ns := [RdR (eW w0 S E) cs x]) (Fr.refl _ _) ⟨fun _=>False,⟨DK hX,fun _ h=>h.elim⟩,fun _ h=>h.elim,trivial⟩)
end
theorem DL {P:Program} {f n:Nat} {fn:Func} {c:Code} {args:List Value} {Xr:RX} {A:Res} {R:Value->Res->List RO->Prop} (hf:P.funcs[f]? = some fn) (hb:fn.body=some c) (hn:fn.ntmps=n)
 (hl:Nat.ble args.length n=true) (h: ∀ F w S,Xr.P w S->(∀ k,S k-> ¬ F k/\k<w.heap.size)->T P n F w (zz 0 args) [A] c (bodyPost P fn (sd (fun v A' N=> ∃ L,R v A' L/\N=L.map (RO.res w S)) F w))):xt P f args.toArray Xr A R:=by
 intro F w S hA hX hSF;refine calls_of_wp hf hb ?_;have hl':args.length<=n:=Nat.le_of_ble_eq_true hl;refine h F w S hX hSF _ w ⟨rfl,?_,fun t v hv=> ?_⟩ (aG.start hA)
 ·simp only[Array.size_append,Array.size_replicate,hn,List.size_toArray];omega
 ·have h1:args.toArray[t]? = some v:=by simpa using (uk args 0 t v hv).2
  have h2:=(Array.getElem?_eq_some_iff.1 h1).1;rw[Array.getElem?_append_left h2];exact h1
section
variable {α:Type} {size:Nat} {E:Rd α} {w:World} {S:Nat->Prop}
theorem zG: ∀ {xs:List α} {cs new:List Value} {k:Nat} {x x':α},gF size E w S cs xs->xs[k]? = some x->new.length=size->E.P w S new x'->gF size E w S (cs.take (k*size)++new++cs.drop ((k+1)*size)) (xs.set k x')
 | [],_,_,k,_,_,_,hk,_,_=>by simp at hk
 | y::ys,cs,new,0,x,x',⟨h0,_,h2⟩,_,hn,hx=>by
  rw[Nat.zero_mul,List.take_zero,NV,Nat.zero_add,Nat.one_mul]
  exact⟨by rw[List.take_append_of_le_length QR,List.take_of_length_le QR]; exact hn,by rw[List.take_append_of_le_length QR,List.take_of_length_le QR]; exact hx,
   by rw[List.drop_append_of_le_length QR,List.drop_of_length_le QR]; exact h2⟩
 | y::ys,cs,new,k+1,x,x',⟨h0,h1,h2⟩,hk,hn,hx=>by
  have hle:size<=cs.length:=by rw[On] at h0; omega
  have ih:=zG (k:=k) (x:=x) h2 (by simpa using hk) hn hx;have hc:cs=cs.take size++cs.drop size:=(List.take_append_drop size cs).symm;have e0:(cs.take size).length=size:=h0;have e1:cs.take ((k+1)*size)=cs.take size++(cs.drop size).take (k*size):=by
   conv=>lhs; rw[hc]
   rw[List.take_append,e0,show (k+1)*size - size=k*size by rw[Nat.add_mul]; omega,List.take_of_length_le (by rw[e0,Nat.add_mul]; omega)]
  have e2:cs.drop ((k+1+1)*size)=(cs.drop size).drop ((k+1)*size):=by
   rw[Om,show size+(k+1)*size=(k+1+1)*size by rw[Nat.add_mul (k+1)]; omega]
  rw[e1,e2,NI,NI,<- NI ((cs.drop size).take (k*size))]
  exact⟨by rw[List.take_append_of_le_length QR,List.take_of_length_le QR]; exact h0,by rw[List.take_append_of_le_length QR,List.take_of_length_le QR]; exact h1,
   by rw[List.drop_append_of_le_length QR,List.drop_of_length_le QR,NV]; exact ih⟩
theorem bG.stored {T m c g o k off q:Nat} {G:Nat->Prop} {xs:List α} {x x':α} {us:List Value} (h:(bG T size E (.slice (some ⟨g,o,none⟩) m c) xs).P w G) (hk:xs[k]? = some x) (hq:q=o+k*size+off) (hl:off+us.length<=size)
 (hE: ∀ w S cs,cs.length=size->E.P w S cs x->E.P w S (cs.take off++us++cs.drop (off+us.length)) x') :
 ∃ cur,w.heap[g]? = some (.cells cur T (0,0))/\q+us.length<=cur.size/\(∀ k,k=g->G k)/\(bG T size E (.slice (some ⟨g,o,none⟩) m c) (xs.set k x')).P (w.setRow g (cur.toList.take q++us++cur.toList.drop (q+us.length)).toArray) G:=by
 obtain⟨cells,S,⟨hlen,hown⟩,h2,h3,h4,h5⟩:=h;rcases hown with⟨hv,_⟩ | ⟨g',cap,cur,hv,hb0,hg,hnc,hcm,hcs,htk⟩
 ·cases hv
 injection hv with hv1 hv2 hv3;injection hv1 with hv1;injection hv1 with hv4 hv5;subst hv4 hv5 hv2 hv3;have hkl:k<xs.length:=(ND hk).1;have hks:(k+1)*size<=xs.length*size:=Nat.mul_le_mul_right _ hkl;have hcap:xs.length*size<=c*size:=Nat.mul_le_mul_right _ hnc;have hk1:(k+1)*size=k*size+size:=by rw[Nat.add_mul,Nat.one_mul]
 have hfit:q+us.length<=cur.size:=by rw[hcs]; omega
 refine⟨cur,hg,hfit,fun k hk=>by subst hk; exact (h5 _).2 (.inl rfl),?_⟩;obtain⟨c1,c2⟩:=uj h2 hk;have hgS: ¬ S g:=h4 g rfl;have hnew:((cells.drop (k*size)).take size).take off++us++((cells.drop (k*size)).take size).drop (off+us.length)=((cells.drop (k*size)).take size).take off++us++((cells.drop (k*size)).take size).drop (off+us.length):=rfl;have hset:=zG h2 hk (new:=((cells.drop (k*size)).take size).take off++us++((cells.drop (k*size)).take size).drop (off+us.length)) (by simp only[NE,On,NO] at c1 ⊢; omega) (hE w S _ c1 c2);have hset':gF size E (w.setRow g (cur.toList.take q++us++cur.toList.drop (q+us.length)).toArray) S _ (xs.set k x'):=jV hset (fun k hk=>setRow_other w g k _ (fun e=>hgS (e ▸ hk)));refine⟨_,S,⟨?_,.inr ⟨g,c,_,by rw[List.length_set],hb0,setRow_heap w g cur _ T (0,0) hg,by rw[List.length_set]; exact hnc,hcm,?_,?_⟩⟩,hset',fun k hk=>by rw[size_setRow]; exact h3 k hk,h4,h5⟩
 ·have:=kt hset;exact this
 ·simp only[List.size_toArray,NE,On,NO,Array.length_toList];omega
 ·rw[List.length_set];have hcl:cur.toList.length=c*size:=by simpa using hcs
  have hcells:cells.length=xs.length*size:=hlen;have d1:(cells.drop (k*size)).take size=(cells.drop (k*size)).take size:=rfl;have hq2:q+us.length<=xs.length*size:=by omega
  have r1:cells.take (k*size)++((cells.drop (k*size)).take size).take off=cells.take q:=by
   rw[List.take_take,Nat.min_eq_left QR,<- List.take_add,show k*size+off=q by omega]
  have r2:((cells.drop (k*size)).take size).drop (off+us.length)++cells.drop ((k+1)*size)=cells.drop (q+us.length):=by
   have e1:cells.drop ((k+1)*size)=(cells.drop (k*size)).drop size:=by rw[Om,hk1]
   have e2:cells.drop (q+us.length)=(cells.drop (k*size)).drop (off+us.length):=by rw[Om,show k*size+(off+us.length)=q+us.length by omega]
   rw[e1,e2,<- List.drop_append_of_le_length QR,List.take_append_drop]
  have r3:cells.take (k*size)++(((cells.drop (k*size)).take size).take off++us++((cells.drop (k*size)).take size).drop (off+us.length))++cells.drop ((k+1)*size)=cells.take q++us++cells.drop (q+us.length):=by
   rw[<- r1,<- r2];simp only[NI]
  rw[r3,<- htk,List.drop_take,List.take_take,Nat.min_eq_left QR];have l1:(cur.toList.take q++us).length=q+us.length:=by rw[NE,On]; omega
  rw[List.toList_toArray,List.take_append,l1,List.take_of_length_le QR]
end
section
variable {P:Program} {n:Nat} {F0:Nat->Prop} {w0:World} {e:Env} {Rs Rf:List Res} {Q:Exit->Act->World->Prop} {ops:Array Oper} {d:Option Tmp} {i:Nat} {ty t t' el:TypeId} {pos:String} {af:Array Edge} {gd:Option (Nat×Bool)} {v v':Value} {x y:Operand} {l:List Nat} {lo:Sch} {c:Code} {S:World->Prop}
theorem TD.unf {α:Type} {E:Rd α} {B:Res} {q g:Nat} {cs:List Value} {u:α} (i:Nat) (hi:Rs[i]? = some (AS B E g q cs u)) (h:TD P n F0 w0 ops lo Rf e (Rs.set i B) Q):TD P n F0 w0 ops lo Rf e Rs Q:=fun a w ha hs=>h a w ha (hs.unf i hi)
section
variable {α:Type} {E:Rd α} {T m cp size g o k off q z:Nat} {xs:List α} {u u':α}
theorem Ef.stE (j:Nat) (off:Nat) (hx:e.ev x=some (.pointer (some ⟨g,q,none⟩))) (hy:e.ev y=some v) (hz: ∀ w,(sizeOf t).run P w= .ok z w) (hi:Rs[j]? = some (bG T size E (.slice (some ⟨g,o,none⟩) m cp) xs)) (hk:xs[k]? = some u) (hq:q=o+k*size+off)
 (hvz:Nat.beq v.cells.size z=true) (hf:Nat.ble (off+v.cells.size) size=true) (ho:v.cells.toList.all (·.oneCell')=true) (hE: ∀ w S cs,cs.length=size->E.P w S cs u->E.P w S (cs.take off++v.cells.toList++cs.drop (off+v.cells.toList.length)) u') :
 Ef P n F0 w0 e Rs ⟨none,.store t x y,ty,pos,af,gd⟩ (fun e' Rs'=>e'=e/\Rs'=Rs.set j (bG T size E (.slice (some ⟨g,o,none⟩) m cp) (xs.set k u'))):=by
 intro a w K Q ha hs hk';have hvz':=Nat.eq_of_beq_eq_true hvz;have hf':off+v.cells.toList.length<=size:=by rw[Array.length_toList]; exact Nat.le_of_ble_eq_true hf
 obtain⟨G,hG,_⟩:=hs.get j hi;obtain⟨cur,h1,h2,h3,h4⟩:=bG.stored hG hk hq hf' hE;have h5:=run_storeCells_at (P:=P) g q T v.cells.toList 0 cur w h1 (by simpa using h2) (List.all_eq_true.1 ho);have h6:(execOp a.eval ⟨none,.store t x y,ty,pos,af,gd⟩).run P w= .ok .skip (w.setRow g (cur.toList.take q++v.cells.toList++cur.toList.drop (q+v.cells.toList.length)).toArray):=by
  simp only[Nat.add_zero] at h5;simp[execOp,ha.ev hx,ha.ev hy,Instr.storeAt,Instr.sureAddr,storeVar,hz,hvz',h5]
 unfold Oper.wp;rw[h6];refine hk' _ _ ⟨rfl,rfl⟩ _ _ ha.put0 (hs.step j hi (Ns := []) (fun G' hG'=> ?_));obtain⟨cur',k1,k2,k3,k4⟩:=bG.stored hG' hk hq hf' hE;rw[h1] at k1;injection k1 with k1;injection k1 with k1;subst k1;exact⟨⟨rfl,rfl,rfl,by simp[World.setRow],fun k hk hn=>setRow_other w g k _ (fun e=>hn (k3 k e))⟩,G',k4,fun k hk=> .inl hk,trivial⟩
theorem TL.stE (j:Nat) (off:Nat) {u':α} (ho:ops[i]? = some ⟨none,.store t x y,ty,pos,af,gd⟩) (hw:Wd n ops e ⟨none,.store t x y,ty,pos,af,gd⟩ true) (hx:e.ev x=some (.pointer (some ⟨g,q,none⟩))) (hy:e.ev y=some v) (hz: ∀ w,(sizeOf t).run P w= .ok z w) (hi:Rs[j]? = some (bG T size E (.slice (some ⟨g,o,none⟩) m cp) xs)) (hk:xs[k]? = some u) (hq:q=o+k*size+off)
 (hvz:Nat.beq v.cells.size z=true) (hf:Nat.ble (off+v.cells.size) size=true) (ho':v.cells.toList.all (·.oneCell')=true) (hE: ∀ w S cs,cs.length=size->E.P w S cs u->E.P w S (cs.take off++v.cells.toList++cs.drop (off+v.cells.toList.length)) u')
 (h:TL P n F0 w0 ops l e (Rs.set j (bG T size E (.slice (some ⟨g,o,none⟩) m cp) (xs.set k u'))) Q):TL P n F0 w0 ops (i::l) e Rs Q:=by
 refine Me ho hw (Ef.stE j off hx hy hz hi hk hq hvz hf ho' hE) ?_;rintro _ _ ⟨rfl,rfl⟩;exact h
theorem TD.stE (j:Nat) (off:Nat) {u':α} (ho:ops[i]? = some ⟨none,.store t x y,ty,pos,af,gd⟩) (hw:Wd n ops e ⟨none,.store t x y,ty,pos,af,gd⟩ true) (hx:e.ev x=some (.pointer (some ⟨g,q,none⟩))) (hy:e.ev y=some v) (hz: ∀ w,(sizeOf t).run P w= .ok z w) (hi:Rs[j]? = some (bG T size E (.slice (some ⟨g,o,none⟩) m cp) xs)) (hk:xs[k]? = some u) (hq:q=o+k*size+off)
 (hvz:Nat.beq v.cells.size z=true) (hf:Nat.ble (off+v.cells.size) size=true) (ho':v.cells.toList.all (·.oneCell')=true) (hE: ∀ w S cs,cs.length=size->E.P w S cs u->E.P w S (cs.take off++v.cells.toList++cs.drop (off+v.cells.toList.length)) u')
 (is:List Nat) (hf':Sel (Rs.set j (bG T size E (.slice (some ⟨g,o,none⟩) m cp) (xs.set k u'))) is Rf)
 (h:TD P n F0 w0 ops lo Rf e (Rs.set j (bG T size E (.slice (some ⟨g,o,none⟩) m cp) (xs.set k u'))) Q):TD P n F0 w0 ops (.e i lo) Rf e Rs Q:=by
 refine Mp ho hw (Ef.stE j off hx hy hz hi hk hq hvz hf ho' hE) ?_;rintro _ _ ⟨rfl,rfl⟩;exact⟨Rf,fun w hw=>hw.sel is hf',fun _ h=>h,h⟩
end
section
variable {α:Type} {E:Rd α} {T bytes k:Nat} {zv:Value} {u:α} {m:Int} {kl:IntKind} {d':Nat}
theorem xu {cell:Value} {w:World} {S:Nat->Prop} (hE:E.P w S [cell] u): ∀ k,gF 1 E w S (List.replicate k cell) (List.replicate k u)
 | 0=>rfl
 | k+1=>⟨by simp,by simpa [List.replicate_succ] using hE,by simpa [List.replicate_succ] using xu hE k⟩
theorem yZ (cell:Value) (k:Nat):madeCells #[cell] k=(List.replicate k cell).toArray:=by
 apply Array.ext
 ·simp[madeCells]
 ·intro i h1 h2;simp[madeCells,Nat.mod_one]
theorem Ef.mk1 (E:Rd α) (u:α) (hu:P.underlying t=some (.slice T)) (hinfo:(P.info? T).map (fun i=>(i.zero,i.size,i.bytes))=some (some zv,1,bytes)) (hc:zv.cells= #[v]) (hx:e.ev x=some (.int kl m)) (hm:m=(k:Int)) (hb:bytes*k<=281474976710656) (h63:k<=9223372036854775807) (hE: ∀ w S,E.P w S [v] u) (hd:okd d n=true) :
 Ef P n F0 w0 e Rs ⟨d,.makeSlice t x x,ty,pos,af,gd⟩ (fun e' Rs'=> ∃ b,e'=mV d (.slice (some ⟨b,0,none⟩) (List.replicate k u).length (List.replicate k u).length) e/\Rs'=bG T 1 E (.slice (some ⟨b,0,none⟩) (List.replicate k u).length (List.replicate k u).length) (List.replicate k u)::Rs):=by
 intro a w K Q ha hs hk;subst hm;obtain⟨ti,hi,hzz⟩:=Option.map_eq_some_iff.1 hinfo;simp only[Prod.mk.injEq] at hzz;obtain⟨hz0,hz1,hz2⟩:=hzz;subst hz2;have hb':(ti.bytes:Int)*(k:Int)<=281474976710656:=by
  have h:((ti.bytes*k:Nat):Int)<=281474976710656:=by omega
  rwa [Int.natCast_mul] at h
 have hr:=run_make (P:=P) w t T ti zv hu hi hz0 kl kl k k QR (Int.le_refl _) hb' QR;have h1:(execOp a.eval ⟨d,.makeSlice t x x,ty,pos,af,gd⟩).run P w= .ok (.value (.slice (some ⟨w.heap.size,0,none⟩) (List.replicate k u).length (List.replicate k u).length)) (w.alloc (.cells (List.replicate k v).toArray T)):=by
  simp only[OB,hz1,Nat.mul_one,hc,yZ] at hr;simp[execOp,ha.ev hx,hr]
 unfold Oper.wp;rw[h1];refine hk _ _ ⟨_,rfl,rfl⟩ _ _ (ha.putd hd) ?_;exact bG.lit E hs _ _ (by rw[List.length_replicate]; exact h63) (by rw[List.toList_toArray]; exact xu (hE _ _) k)
theorem TL.mk1 (E:Rd α) (u:α) (ho:ops[i]? = some ⟨some d',.makeSlice t x x,ty,pos,af,gd⟩) (hw:Wd n ops e ⟨some d',.makeSlice t x x,ty,pos,af,gd⟩ true) (hu:P.underlying t=some (.slice T)) (hinfo:(P.info? T).map (fun i=>(i.zero,i.size,i.bytes))=some (some zv,1,bytes)) (hc:zv.cells= #[v]) (hx:e.ev x=some (.int kl m)) (hm:m=(k:Int)) (hb:bytes*k<=281474976710656) (h63:k<=9223372036854775807) (hE: ∀ w S,E.P w S [v] u) (hd:Nat.blt d' n=true)
 (h: ∀ b,TL P n F0 w0 ops l ((d',.slice (some ⟨b,0,none⟩) (List.replicate k u).length (List.replicate k u).length)::e) (bG T 1 E (.slice (some ⟨b,0,none⟩) (List.replicate k u).length (List.replicate k u).length) (List.replicate k u)::Rs) Q):TL P n F0 w0 ops (i::l) e Rs Q:=by
 refine Me ho hw (Ef.mk1 E u hu hinfo hc hx hm hb h63 hE hd) ?_;rintro _ _ ⟨b,rfl,rfl⟩;exact h b
end
def bitOp:BinOp->Bool
 | .and | .or | .xor | .andNot=>true
 | _=>false
theorem Ex.bitw {bo:BinOp} {k:IntKind} {p q:Int} (hb:bitOp bo=true) (hx:e.ev x=some (.int k p)) (hy:e.ev y=some (.int k q)):Ex P n e S ⟨d,.binOp bo t x y t',ty,pos,af,gd⟩ (.int k (Go.bits bo k p q)):=by
 intro a w ha _;have h1:Op.intBits bo k p q=pure (.int k (Go.bits bo k p q)):=by cases bo <;> first | rfl | exact absurd hb QS
 have h2:(binOp bo t (.int k p) (.int k q)).run P w= .ok (.int k (Go.bits bo k p q)) w:=by
  cases bo <;> first | exact absurd hb QS | simp only[binOp,h1,ne_eq,not_true,if_false,Sem.run_pure]
 have h3:eqGuard bo t x y (.int k p) (.int k q)=pure ():=by cases bo <;> first | exact absurd hb QS | rfl
 simp only[execOp,ha.ev hx,ha.ev hy,h3,Sem.run_bind,Sem.run_pure,Result.andThen_ok,h2]
def za (k:IntKind) (p q:Int):Int:=p.fdiv (2 ^ min q.toNat k.bits)
theorem Ex.shr {k k':IntKind} {p q:Int} (hx:e.ev x=some (.int k p)) (hy:e.ev y=some (.int k' q)) (hq:0<=q):Ex P n e S ⟨d,.binOp .shr t x y t',ty,pos,af,gd⟩ (.int k (za k p q)):=by
 intro a w ha _;have h0: ¬ q<0:=by omega
 simp[execOp,ha.ev hx,ha.ev hy,eqGuard,binOp,Op.shift,h0,za]
theorem Ex.notK {k:IntKind} {p:Int} (hx:e.ev x=some (.int k p)):Ex P n e S ⟨d,.unOp .xor t x,ty,pos,af,gd⟩ (.int k (Go.bits .xor k (if k.signed then -1 else k.max) p)):=by
 intro a w ha _;have h1:Op.intBits .xor k (if k.signed then -1 else k.max) p=pure (.int k (Go.bits .xor k (if k.signed then -1 else k.max) p)):=rfl;simp[execOp,ha.ev hx,Op.unary,h1]
theorem T.blen {α:Type} {E:Rd α} {A:Option Addr} {m cp size:Nat} {xs:List α} {B:Res} (i:Nat) (hi:Rs[i]? = some B) (hB: ∀ w G,B.P w G->(RX.of (aq size E) [.slice A m cp] xs).P w G) (h:xs.length<=9223372036854775807->T P n F0 w0 e Rs c Q):T P n F0 w0 e Rs c Q:=by
 intro a w ha hs;refine h ?_ a w ha hs;obtain⟨G,hG,_⟩:=hs.get i hi;rcases hB w G hG with⟨_,rfl⟩ | ⟨_,cap,_,h1,h2,_⟩
 ·simp
 ·have:maxLen=9223372036854775807:=rfl;omega
end
def tg (l:List Int):Array Value:=(l.map (Value.int .u32)).toArray
def nJ (T g:Nat) (l:List Int):Res where
 P:=fun w G=>(aV g T (tg l)).P w G/\l.length=256
 lt:=fun h=>(aV g T (tg l)).lt h.1
 move:=fun h hm=>⟨(aV g T (tg l)).move h.1 hm,h.2⟩
theorem Hw {l:List Int} {k:Nat} {u:Int} (h:l[k]? = some u):(tg l)[k]? = some (.int .u32 u):=by
 unfold tg;simp[h]
section
variable {P:Program} {n:Nat} {F0:Nat->Prop} {w0 w:World} {e:Env} {Rs Rf:List Res} {Q:Exit->Act->World->Prop} {ops:Array Oper} {d:Option Tmp} {i:Nat} {ty t t' el:TypeId} {pos:String} {af:Array Edge} {gd:Option (Nat×Bool)} {v v':Value} {x y ix:Operand} {L:List Nat} {lo:Sch} {c:Code} {S:World->Prop}
variable {T g k:Nat} {l:List Int} {u u':Int}
theorem ES (j:Nat) (h:St F0 w0 Rs w) (hj:Rs[j]? = some (nJ T g l)):l.length=256:=by
 obtain⟨G,hG,_⟩:=h.get j hj;exact hG.2
theorem ET (j:Nat) (h:St F0 w0 Rs w) (hj:Rs[j]? = some (nJ T g l)):w.heap[g]? = some (.cells (tg l) T (0,0)):=by
 obtain⟨G,hG,_⟩:=h.get j hj;exact hG.1.1
theorem Ex.tIx (j:Nat) {a:Int} {q:IntKind} (hx:e.ev x=some (.pointer (some ⟨g,0,none⟩))) (hi:e.ev ix=some (.int q a)) (hik:a=(k:Int)) (hu: ∀ w,(underlying t).run P w= .ok (.array 256 el) w) (hz: ∀ w,(sizeOf el).run P w= .ok 1 w) (hj:Rs[j]? = some (nJ T g l)) (hk:l[k]? = some u) :
 Ex P n e (St F0 w0 Rs) ⟨d,.indexAddr t x ix,ty,pos,af,gd⟩ (.pointer (some ⟨g,k,none⟩)):=by
 intro A w ha hs;have h1:=ES j hs hj;have h2:k<256:=by rw[<- h1]; exact (ND hk).1
 have h3:=Ex.ixP (S:=fun _=>True) (d:=d) (ty:=ty) (pos:=pos) (af:=af) (gd:=gd) hx hi hik hu hz h2 A w ha trivial
 rwa [show 0+k*1=k by omega] at h3
theorem Ex.tLd (j:Nat) (hx:e.ev x=some (.pointer (some ⟨g,k,none⟩))) (ha: ∀ w,(isAgg t).run P w= .ok false w) (hj:Rs[j]? = some (nJ T g l)) (hk:l[k]? = some u) :
 Ex P n e (St F0 w0 Rs) ⟨d,.load t x,ty,pos,af,gd⟩ (.int .u32 u) :=
 Ex.ld1 hx ha (fun w hw=>(bt (ET j hw hj) k).trans (Hw hk))
theorem Ef.tSt (j:Nat) (hx:e.ev x=some (.pointer (some ⟨g,k,none⟩))) (hy:e.ev y=some (.int .u32 u')) (hz: ∀ w,(sizeOf t).run P w= .ok 1 w) (hj:Rs[j]? = some (nJ T g l)) (hk:l[k]? = some u) :
 Ef P n F0 w0 e Rs ⟨none,.store t x y,ty,pos,af,gd⟩ (fun e' Rs'=>e'=e/\Rs'=Rs.set j (nJ T g (l.set k u'))):=by
 intro a w K Q ha hs hk';have hb:=ET j hs hj;have hl:=ES j hs hj;have hkl:k<l.length:=(ND hk).1;have hc:((tg l).toList.take k ++ [Value.int .u32 u']++(tg l).toList.drop (k+1)).toArray=tg (l.set k u'):=by
  unfold tg;rw[List.map_set,List.set_eq_take_append_cons_drop,QX (by rw[NU]; exact hkl)];simp
 have h2:=run_storeCells_at (P:=P) g k T [Value.int .u32 u'] 0 (tg l) w hb (by simp[tg]; omega) (by simp[Value.oneCell']);simp only[Nat.add_zero,Or] at h2;rw[hc] at h2;have h1:(execOp a.eval ⟨none,.store t x y,ty,pos,af,gd⟩).run P w= .ok .skip (w.setRow g (tg (l.set k u'))):=by
  simp[execOp,ha.ev hx,ha.ev hy,Instr.storeAt,Instr.sureAddr,storeVar,hz,Value.cells,h2]
 unfold Oper.wp;rw[h1];refine hk' _ _ ⟨rfl,rfl⟩ _ _ ha.put0 (hs.step j hj (Ns := []) (fun G hG=> ?_));exact⟨⟨rfl,rfl,rfl,by simp[World.setRow],fun k hk hn=>setRow_other w g k _ (fun e=>hn (e ▸ (hG.1.2 g).2 rfl))⟩,G,⟨⟨setRow_heap w g _ _ T (0,0) hG.1.1,hG.1.2⟩,by rw[List.length_set]; exact hG.2⟩,fun k hk=> .inl hk,trivial⟩
theorem TL.tSt (j:Nat) (ho:ops[i]? = some ⟨none,.store t x y,ty,pos,af,gd⟩) (hw:Wd n ops e ⟨none,.store t x y,ty,pos,af,gd⟩ true) (hx:e.ev x=some (.pointer (some ⟨g,k,none⟩))) (hy:e.ev y=some (.int .u32 u')) (hz: ∀ w,(sizeOf t).run P w= .ok 1 w) (hj:Rs[j]? = some (nJ T g l)) (hk:l[k]? = some u)
 (h:TL P n F0 w0 ops L e (Rs.set j (nJ T g (l.set k u'))) Q):TL P n F0 w0 ops (i::L) e Rs Q:=by
 refine Me ho hw (Ef.tSt j hx hy hz hj hk) ?_;rintro _ _ ⟨rfl,rfl⟩;exact h
theorem Ex.bldZ {m:Nat} {zs:Array Value} (hz: ∀ w,(zeroValue t).run P w= .ok (.agg zs) w) (hu: ∀ w,(underlying t).run P w= .ok (.array m el) w) (hs: ∀ w,(sizeOf el).run P w= .ok 1 w):Ex P n e S ⟨d,.build t #[],ty,pos,af,gd⟩ (.agg zs):=by
 intro a w ha _;have h1:(Instr.build t #[]).run P w= .ok (.agg zs) w:=by
  simp only[Instr.build,Sem.run_bind,hz,hu,hs,Result.andThen_ok];rfl
 simp only[execOp,Sem.run_bind];simp[h1]
theorem TL.tNew {zs:Array Value} {d:Nat} (ho:ops[i]? = some ⟨some d,.box t x,ty,pos,af,gd⟩) (hw:Wd n ops e ⟨some d,.box t x,ty,pos,af,gd⟩ true) (hx:e.ev x=some (.agg zs)) (hzs:zs=tg (List.replicate 256 0)) (hd:Nat.blt d n=true)
 (h: ∀ b,TL P n F0 w0 ops L ((d,.pointer (some ⟨b,0,none⟩))::e) (nJ t b (List.replicate 256 0)::Rs) Q):TL P n F0 w0 ops (i::L) e Rs Q:=by
 refine TL.box ho hw hx hd (fun b=> ?_);intro a w ha hs;subst hzs;exact h b a w ha (hs.weaken 0 rfl (fun G hG=>⟨hG,List.length_replicate ..⟩))
end
def LW (P:Program) (c:Code) (Q:Exit->Act->World->Prop) (a:Act) (w:World):Prop:= ∀ b k cs,∃ x a' w',Q x a' w'/\Arrives P (lone (b.at a (.code c :: .inLoop c::k)) cs w) b k cs x a' w'
def TW (P:Program) (n:Nat) (F0:Nat->Prop) (w0:World) (e:Env) (Rs:List Res) (c:Code) (Q:Exit->Act->World->Prop):Prop:= ∀ a w,Has n e a->St F0 w0 Rs w->LW P c Q a w
section
variable {P:Program} {n:Nat} {F0:Nat->Prop} {w0:World} {e:Env} {Rs:List Res} {Q:Exit->Act->World->Prop} {c:Code}
theorem T.unroll0 (h:TW P n F0 w0 e Rs c Q):T P n F0 w0 e Rs (.loop c) Q:=by
 intro a w ha hs b k cs;obtain⟨x,a',w',hq,harr⟩:=h a w ha hs b k cs;exact⟨x,a',w',hq,.of_steps (.one step_loop) harr⟩
theorem TW.step (h:T P n F0 w0 e Rs c (Exit.then (LW P c Q) Q)):TW P n F0 w0 e Rs c Q:=by
 intro a w ha hs b k cs;obtain⟨x,a₁,w₁,hq,harr⟩:=h a w ha hs b (.inLoop c::k) cs
 cases x with
 | normal =>
  obtain⟨x₂,a₂,w₂,hq₂,harr₂⟩:=hq b k cs;exact⟨x₂,a₂,w₂,hq₂,.of_steps (Steps.trans harr (.one step_inLoop)) harr₂⟩
 | exit id=>exact⟨_,a₁,w₁,hq,.pass (x:= .inLoop c) rfl (fun _ _=> .inl (by simp)) harr⟩
 | goto l=>exact⟨_,a₁,w₁,hq,.pass (x:= .inLoop c) rfl (fun _ _=> .inl (by simp)) harr⟩
 | ret=>exact⟨_,a₁,w₁,hq,.pass (x:= .inLoop c) rfl (fun _ _=> .inl (by simp)) harr⟩
 | panic ch=>exact⟨_,a₁,w₁,hq,.pass (x:= .inLoop c) rfl (fun _ _=> .inl (by simp)) harr⟩
 | outgrown=>exact⟨_,a₁,w₁,hq,.pass (x:= .inLoop c) rfl (fun _ _=> .inl (by simp)) harr⟩
theorem Mc (h:TW P n F0 w0 e Rs c Q):X n F0 w0 e Rs .normal (Exit.then (LW P c Q) Q):=h
end
section
variable {P:Program} {n:Nat} {F0:Nat->Prop} {w0 w:World} {e:Env} {Rs Rf:List Res} {Q:Exit->Act->World->Prop} {ops:Array Oper} {d:Option Tmp} {i:Nat} {ty t t' el:TypeId} {pos:String} {af:Array Edge} {gd:Option (Nat×Bool)} {v v':Value} {x y ix:Operand} {L:List Nat} {lo:Sch} {S:World->Prop}
variable {T b c k m:Nat} {xs:List Int} {u u':Int}
end
section
variable {P:Program} {n:Nat} {F0:Nat->Prop} {w0:World} {e:Env} {Rs Rf:List Res} {Q:Exit->Act->World->Prop} {ops:Array Oper} {i:Nat} {ty t:TypeId} {pos:String} {af:Array Edge} {gd:Option (Nat×Bool)} {x y:Operand} {L:List Nat} {lo:Sch} {b:Nat} {s:List UInt8×Int}
theorem Ef.outZ (j:Nat) (hx:e.ev x=some (.pointer (some ⟨b,0,none⟩))) (hy:e.ev y=some (.agg #[.slice none 0 0,.int .i64 0])) (hz: ∀ w,(sizeOf t).run P w= .ok 2 w) (hj:Rs[j]? = some (bC b s)) :
 Ef P n F0 w0 e Rs ⟨none,.store t x y,ty,pos,af,gd⟩ (fun e' Rs'=>e'=e/\Rs'=Rs.set j (bC b ([],0))):=by
 intro a w K Q ha hs hk;obtain⟨G,⟨v,h1,_,_⟩,_⟩:=hs.get j hj;have h2:=run_storeCells_at (P:=P) b 0 112 [Value.slice none 0 0,.int .i64 0] 0 _ w h1 (by simp) (by intro v hv; simp at hv; rcases hv with rfl | rfl <;> rfl);have h3:(execOp a.eval ⟨none,.store t x y,ty,pos,af,gd⟩).run P w= .ok .skip (w.setRow b #[.slice none 0 0,.int .i64 0]):=by
  simp at h2;simp[execOp,ha.ev hx,ha.ev hy,Instr.storeAt,Instr.sureAddr,storeVar,hz,Value.cells,h2]
 unfold Oper.wp;rw[h3];refine hk _ _ ⟨rfl,rfl⟩ _ _ ha.put0 (hs.step j hj (Ns := []) (fun G hG=> ?_));obtain⟨v',k1,k2,k3⟩:=hG;refine⟨⟨rfl,rfl,rfl,by simp[World.setRow],fun q hq hn=>setRow_other w b q _ (fun e=>hn (e ▸ (k3 b).2 (.inl rfl)))⟩,fun q=>q=b,⟨_,setRow_heap w b _ _ _ (0,0) k1,World.ownsRow_nil _ _ _ _,fun q=>by simp[Value.ownBlock]⟩,fun q hq=> .inl ((k3 q).2 (.inl hq)),trivial⟩
theorem TL.outZ (j:Nat) (ho:ops[i]? = some ⟨none,.store t x y,ty,pos,af,gd⟩) (hw:Wd n ops e ⟨none,.store t x y,ty,pos,af,gd⟩ true) (hx:e.ev x=some (.pointer (some ⟨b,0,none⟩))) (hy:e.ev y=some (.agg #[.slice none 0 0,.int .i64 0])) (hz: ∀ w,(sizeOf t).run P w= .ok 2 w) (hj:Rs[j]? = some (bC b s))
 (h:TL P n F0 w0 ops L e (Rs.set j (bC b ([],0))) Q):TL P n F0 w0 ops (i::L) e Rs Q:=by
 refine Me ho hw (Ef.outZ j hx hy hz hj) ?_;rintro _ _ ⟨rfl,rfl⟩;exact h
end
def th (b:Nat) (l:List UInt8):Res where
 P:=fun w G=> ∃ p v,(p= .pointer none\/p= .pointer (some ⟨b,0,none⟩))/\w.heap[b]? = some (.cells #[p,v] 292 (0,0))/\w.ownsRow 0 5 1 v l.length (bp l)/\ ∀ k,G k↔k=b\/v.ownBlock=some k
 lt:=by
  rintro w G ⟨p,v,_,h1,h2,h3⟩ k hk;rcases (h3 k).1 hk with rfl | h
  ·exact lv h1
  ·exact wV h2 k h
 move:=by
  rintro w w' G ⟨p,v,hp,h1,h2,h3⟩ hm;exact⟨p,v,hp,(hm _ ((h3 _).2 (.inl rfl))).trans h1,qd h2 (fun k hk=>hm k ((h3 k).2 (.inr hk))),h3⟩
theorem Ga {F:Nat->Prop} {w w':World} (h:Fr F w w') {p:Addr} (hp:F p.block) (n:Nat):Fr F w (w'.freeze p n):=by
 refine h.trans (G:=F) ?_ (fun _ h=> .inl h);unfold World.freeze;split
 ·exact Fr.refl _ _
 ·exact⟨rfl,rfl,rfl,by simp,fun k hk hn=>by
   simp only[Array.getElem?_modify];rw[QY (fun h:p.block=k=>hn (by rw[<- h]; exact hp))]⟩
theorem Hx:(Tryz.prog.info? 292).map (·.size)=some 2:=by kernel_rfl
theorem Hy:liesAt Tryz.prog Tryz.prog.depth 292 (2 / Tryz.prog.cellsOf 292) 0 292 1=true:=by kernel_rfl
theorem Gb {w:World} {b:Nat} {p v:Value} (hb:w.heap[b]? = some (.cells #[p,v] 292 (0,0))):w.shape? b=some (292,2):=by simp[World.shape?,hb]
theorem Gc (b:Nat) (w:World) (p v:Value) (hp:p= .pointer none\/p= .pointer (some ⟨b,0,none⟩)) (hb:w.heap[b]? = some (.cells #[p,v] 292 (0,0))) :
 Calls Tryz.prog 220 #[.pointer (some ⟨b,0,none⟩)] w fun e w'=>e= .returned (.tuple #[])/\w'.heap[b]? = some (.cells #[.pointer (some ⟨b,0,none⟩),v] 292 (0,0))/\Fr (fun k=>k=b) w w':=by
 obtain⟨j,hj,hjs⟩:=Option.map_eq_some_iff.1 Hx;have h0:w.cell? ⟨b,0,none⟩=some p:=(bt hb 0).trans rfl;have f0:w.frozen? ⟨b,0,none⟩=false:=dA hb 0;have hsh:=Gb hb;have HB:=Lib.hid hb;clear hb;rcases hp with rfl | rfl
 ·go_enter Tryz.func220,Tryz.ntmps220
  go_wp2
  rw[Lib.run_to_unsafe w ⟨b,0,none⟩ Tryz.underlying290 Tryz.underlying327 hj (by rw[hjs]; decide) hsh (Nat.zero_lt_succ 1)];simp only[Result.andThen];rw[Oper.upon_value];go_wp2
  rw[run_callFunc_extern Tryz.func233 QU QU QU (e:=Extern.AbiNoEscape.same) QU];rw[Lib.run_noEscape];simp only[Result.andThen];rw[Oper.upon_value];go_wp2
  rw[Lib.run_from_unsafe w ⟨b,0,none⟩ Tryz.underlying327 Tryz.underlying290 hj hsh Hy];simp only[Result.andThen];rw[Oper.upon_value];go_wp2
  go_end0
  exact⟨rfl,by simpa using oz HB.out 0 (.pointer (some ⟨b,0,none⟩)),(Fr.refl (fun k=>k=b) w).set (p:=⟨b,0,none⟩) (.inl rfl) _⟩
 ·go_enter Tryz.func220,Tryz.ntmps220
  go_wp2
  rw[Lib.run_neq_ptr_same w _ Tryz.underlying290 hj];go_wp2
  go_end0
  exact⟨rfl,HB.out,Fr.refl _ _⟩
theorem th.stored {b:Nat} {l m:List UInt8} {w w1 w2:World} {v v1:Value} {F:Nat->Prop} (hw:Fr (fun k=>k=b) w w1) (hF: ∀ k,F k↔k=b\/v.ownBlock=some k) (hb:w1.heap[b]? = some (.cells #[.pointer (some ⟨b,0,none⟩),v] 292 (0,0))) (ho:w1.ownsRow 0 5 1 v l.length (bp l))
 {n:Nat} (ho1:w2.ownsRow 0 5 1 v1 n (bp m)) (hg:w1.grownBy w2 v.ownBlock) (hat:v1.ownBlock=v.ownBlock\/ ∃ k,v1.ownBlock=some k/\w1.heap.size<=k) (hlt:b<w.heap.size) :
 St F w [th b m] (w2.setCell ⟨b,1,none⟩ v1):=by
 have hn:n=m.length:=by have:=ho1.1; simpa [bp] using this.symm
 subst hn;have hne:=pa ho hb QS;have hb1:w2.heap[b]? = some (.cells #[.pointer (some ⟨b,0,none⟩),v] 292 (0,0)):=(hg.block b (lv hb) hne).trans hb;have hne1:=pa ho1 hb1 QS;have f1:Fr F w w1:=hw.mono (fun k hk=>(hF k).2 (.inl hk));have f2:Fr F w w2:=f1.trans (Mn (F:=F) hg (fun k hk=>(hF k).2 (.inr hk))) (fun k hk=> .inl hk);refine⟨f2.set (p:=⟨b,1,none⟩) (.inl ((hF b).2 (.inl rfl))) v1,?_⟩;refine⟨fun k=>k=b\/v1.ownBlock=some k,⟨_,v1,.inr rfl,by simpa using oz hb1 1 v1,AH ho1 hne1 v1,fun _=>Iff.rfl⟩,?_,trivial⟩;rintro k (rfl | hk)
 ·exact .inl ((hF k).2 (.inl rfl))
 ·rcases hat with h | ⟨k',h,h'⟩
  ·rw[h] at hk;exact .inl ((hF k).2 (.inr hk))
  ·rw[h] at hk;injection hk with hk;subst hk;exact .inr (Nat.le_trans hw.size h')
theorem DM (b:Nat) (l:List UInt8) (s:ByteArray) (hl:l.length+s.size<=140737488355328) :
 hC Tryz.prog 196 #[.pointer (some ⟨b,0,none⟩),.string s] (th b l) (fun v A' N=>v= .tuple #[.int .i64 s.size,.nilIface]/\A'=th b (l++s.data.toList)/\N = []):=by
 rintro F w ⟨p,v,hp,hb,ho,hF⟩;have hne:=pa ho hb QS;have HB:=Lib.hid hb;have HO:=Lib.hid ho;have HP:=Lib.hid hp;clear hb ho hp;go_enter Tryz.func196,Tryz.ntmps196
 go_wp2_with (go_at_call 220; refine (Gc b _ p v HP.out HB.out).mono ?_)
 rintro e w1 ⟨rfl,hb1,hfr⟩;have ho1:w1.ownsRow 0 5 1 v l.length (bp l):=qd HO.out (fun k hk=>hfr.block k (wV HO.out k hk) (fun h=>hne (h ▸ hk.symm)));have c0:w1.cell? ⟨b,0,none⟩=some (.pointer (some ⟨b,0,none⟩)):=(bt hb1 0).trans rfl;have c1:w1.cell? ⟨b,1,none⟩=some v:=(bt hb1 1).trans rfl;have HB1:=Lib.hid hb1;have HO1:=Lib.hid ho1;have HF:=Lib.hid hfr;clear hb1 ho1 hfr;go_wp2_with (at_builtin; refine oA w1 rfl _ _ _ _ rfl 5 Tryz.underlying72 Tryz.underlying9 qe v l.length (bp l) rfl HO1.out s rfl hl ?_; intro v1 w2 ho2 hg hat; obtain⟨a1,k1,rfl⟩:=mJ ho2; have HO2:=Lib.hid ho2; clear ho2; have HN:=Lib.hid (pa HO1.out HB1.out QS); have HB2:=Lib.hid (show w2.heap[b]? = _ from (hg.block b (lv HB1.out) HN.out).trans HB1.out); have d0:w2.cell? ⟨b,0,none⟩=some (.pointer (some ⟨b,0,none⟩)):=(bt HB2.out 0).trans rfl; have d1:w2.cell? ⟨b,1,none⟩=some v:=(bt HB2.out 1).trans rfl; have e1:w2.frozen? ⟨b,1,none⟩=false:=dA HB2.out 1; have HG:=Lib.hid hg; have HAT:=Lib.hid hat; clear hg hat)
 go_ret2
 have ho2:=HO2.out;rw[rZ,<- kV] at ho2;refine⟨_,_,_,rfl,⟨rfl,rfl,rfl⟩,?_⟩;exact th.stored HF.out hF HB1.out HO1.out ho2 HG.out (by rcases HAT.out with h | h; exact .inl h; exact .inr ⟨_,h,N0 _⟩) (lv HB.out)
theorem Ca (b:Nat) (l:List UInt8):hC Tryz.prog 197 #[.pointer (some ⟨b,0,none⟩)] (th b l) (fun v A' N=>v= .string (ba l)/\A'=aL/\N = []):=by
 rintro F w ⟨p,v,hp,hb,ho,hF⟩;have done: ∀ w',Fr F w w'->St F w [aL] w':=fun w' h=>⟨h,fun _=>False,fun _ h=>h,fun _ h=>h.elim,trivial⟩;have DONE:=Lib.hid done;clear done;have hUS0: ∀ (W:World) (q:Option Addr),(Builtin.unsafeString_ #[319,3] 9 #[.pointer q,.int .i64 0]).run Tryz.prog W= .ok (.string .empty) W:=fun W q=>Lib.run_unsafeString_none W _ _ _ q;have hl0:l = []\/l ≠ []:=by cases l; exact .inl rfl; exact .inr (by simp)
 rcases ho.2 with⟨rfl,hz⟩ | ⟨g,cap,cur,rfl,_,hg,hnc,hcm,hcs,htake⟩
 ·obtain rfl:l = []:=List.length_eq_zero_iff.1 hz;have c1:w.drew.cell? ⟨b,1,none⟩=some (.slice none 0 0):=(bt (w:=w.drew) hb 1).trans rfl;have hSD:(Builtin.unsafeSliceData_ #[72] 319 #[.slice none 0 0]).run Tryz.prog w.drew= .ok (.pointer none) w.drew:=rfl;clear hb ho hp;go_enter Tryz.func197,Tryz.ntmps197
  go_wp2
  go_region
  all_goals (go_wp2; go_ret; exact⟨_,_,_,rfl,⟨rfl,rfl,rfl⟩,DONE.out _ (Fr.refl F w).drew⟩)
 ·have hgF:F g:=(hF g).2 (.inr rfl);have HGF:=Lib.hid hgF;clear hgF;rcases hl0 with rfl | hl1
  ·by_cases hc0:cap=0
   ·subst hc0;have hb':w.drew.heap[b]? = some (.cells #[p,.slice (some ⟨g,0,none⟩) 0 0] 292 (0,0)):=hb;have c1:w.drew.cell? ⟨b,1,none⟩=some (.slice (some ⟨g,0,none⟩) 0 0):=(bt hb' 1).trans rfl
    have hSD:(Builtin.unsafeSliceData_ #[72] 319 #[.slice (some ⟨g,0,none⟩) 0 0]).run Tryz.prog w.drew= .ok (.pointer (some ⟨w.drew.heap.size,0,none⟩)) (w.drew.alloc (.view ⟨g,0,none⟩ 5)) :=
     Lib.run_unsafeSliceData_zero w.drew _ _ 5 Tryz.underlying319 ⟨g,0,none⟩ 0 (5,cur.size) (by have hg':w.drew.heap[g]? = some (.cells cur 5 (0,0)):=hg; simp[World.shape?,hg'])
    have c2:(w.drew.alloc (.view ⟨g,0,none⟩ 5)).cell? ⟨b,1,none⟩=some (.slice (some ⟨g,0,none⟩) 0 0):=by
     have h:=(Lib.alloc_old w.drew (.view ⟨g,0,none⟩ 5) b (lv hb')).trans hb';exact (bt h 1).trans rfl
    have c3:(w.alloc (.view ⟨g,0,none⟩ 5)).drew.cell? ⟨b,1,none⟩=some (.slice (some ⟨g,0,none⟩) 0 0):=c2;have c0:w.cell? ⟨b,1,none⟩=some (.slice (some ⟨g,0,none⟩) 0 0):=c1;clear hb hb' ho hp hg htake hcs;go_enter Tryz.func197,Tryz.ntmps197
    go_wp2
    go_region
    all_goals (go_wp2; go_ret; exact⟨_,_,_,rfl,⟨rfl,rfl,rfl⟩,DONE.out _ ((Fr.refl F w).drew.alloc _)⟩)
   ·have c1:w.drew.cell? ⟨b,1,none⟩=some (.slice (some ⟨g,0,none⟩) 0 cap):=(bt (w:=w.drew) hb 1).trans rfl;have hSD:(Builtin.unsafeSliceData_ #[72] 319 #[.slice (some ⟨g,0,none⟩) 0 cap]).run Tryz.prog w.drew= .ok (.pointer (some ⟨g,0,none⟩)) w.drew:=Lib.run_unsafeSliceData_row _ _ _ _ _ _ hc0;clear hb ho hp hg htake hcs hc0;go_enter Tryz.func197,Tryz.ntmps197
    go_wp2
    go_region
    all_goals (go_wp2; go_ret; exact⟨_,_,_,rfl,⟨rfl,rfl,rfl⟩,DONE.out _ (Fr.refl F w).drew⟩)
  ·have hlen:l.length≠0:=by simpa using hl1
   have c1:w.drew.cell? ⟨b,1,none⟩=some (.slice (some ⟨g,0,none⟩) l.length cap):=(bt (w:=w.drew) hb 1).trans rfl;have hSD:(Builtin.unsafeSliceData_ #[72] 319 #[.slice (some ⟨g,0,none⟩) l.length cap]).run Tryz.prog w.drew= .ok (.pointer (some ⟨g,0,none⟩)) w.drew:=Lib.run_unsafeSliceData_row _ _ _ _ _ _ QR;have hUS:(Builtin.unsafeString_ #[319,3] 9 #[.pointer (some ⟨g,0,none⟩),.int .i64 l.length]).run Tryz.prog w.drew= .ok (.string ⟨l.toArray⟩) (w.drew.freeze ⟨g,0,none⟩ l.length):=by
    refine Lib.run_unsafeString_row w.drew 319 3 9 5 Tryz.underlying319 QU g cur.size (by have hg':w.drew.heap[g]? = some (.cells cur 5 (0,0)):=hg; simp[World.shape?,hg']) l hl1 QR (by unfold maxLen at hcm; omega) ?_;intro j x hx;have:=ho.cells (g:=g) rfl j (.int .u8 x.toNat) (by simp[bp,hx]);exact this
   clear hb ho hp hg htake hcs hl1 hlen hUS0;go_enter Tryz.func197,Tryz.ntmps197
   go_wp2
   go_region
   all_goals (go_wp2; go_ret; exact⟨_,_,_,rfl,⟨rfl,rfl,rfl⟩,DONE.out _ (Ga (Fr.refl F w).drew (p:=⟨g,0,none⟩) HGF.out _)⟩)
def AU (st:List UInt8) (s:List UInt8):Option (List UInt8):=if st.length+s.length<=140737488355328 then some (st++s) else none
theorem AV (g:Nat) (st:List UInt8) (s:List UInt8) (r:List UInt8) (h:AU st s=some r):aG Tryz.prog 196 #[.pointer (some ⟨g,0,none⟩),.string (ba s)] .triv (th g st) (fun v A' N=>v= .tuple #[.int .i64 (ba s).size,.nilIface]/\A'=th g r/\N = []):=by
 unfold AU at h;split at h
 ·rename_i h1;obtain rfl:=Nz h;have k:=DM g st (ba s) (by rw[cw]; exact h1);rw[dm] at k;exact LA k
 ·simp at h
def Hz (st:List UInt8):Option (List UInt8):=some st
theorem DN (g:Nat) (st:List UInt8) (r:List UInt8) (h:Hz st=some r):aG Tryz.prog 197 #[.pointer (some ⟨g,0,none⟩)] .triv (th g st) (fun v A' N=>v= .string (ba r)/\A'=aL/\N = []):=by
 unfold Hz at h;obtain rfl:=Nz h;exact LA (Ca g _)
section
variable {P:Program} {n:Nat} {F0:Nat->Prop} {w0:World} {e:Env} {Rs Rf:List Res} {Q:Exit->Act->World->Prop} {ops:Array Oper} {i d:Nat} {ty t:TypeId} {pos:String} {af:Array Edge} {gd:Option (Nat×Bool)} {l:List Nat} {lo:Sch}
theorem th.of_blk {b:Nat} {w:World} {G:Nat->Prop} (h:(aV b 292 #[.pointer none,.slice none 0 0]).P w G):(th b []).P w G:=by
 obtain⟨h1,h2⟩:=h;exact⟨_,_,.inl rfl,h1,World.ownsRow_nil _ _ _ _,fun k=>by simp[h2 k,Value.ownBlock]⟩
theorem TL.newbld {zv:Value} (ho:ops[i]? = some ⟨some d,.alloc t,ty,pos,af,gd⟩) (hw:Wd n ops e ⟨some d,.alloc t,ty,pos,af,gd⟩ true) (hz: ∀ w,(zeroValue t).run P w= .ok zv w) (hd:Nat.blt d n=true)
 (h: ∀ b,TL P n F0 w0 ops l ((d,.pointer (some ⟨b,0,none⟩))::e) (th b []::Rs) Q) (ht:t=292:=by rfl) (hzv:zv= .agg #[.pointer none,.slice none 0 0]:=by rfl):TL P n F0 w0 ops (i::l) e Rs Q:=by
 refine TL.alloc ho hw hz hd (fun b=> ?_);intro a w ha hs;subst ht hzv;exact h b a w ha (hs.weaken 0 rfl (fun G hG=>th.of_blk hG))
end
section
variable {α:Type} {P:Program} {n:Nat} {F0:Nat->Prop} {w0:World} {e:Env} {Rs:List Res} {Q:Exit->Act->World->Prop} {ops:Array Oper} {l:List Nat} {c:Code} {S:Nat->Prop} {E:Rd α} {size m cp k:Nat} {A:Option Addr} {xs:List α} {x:α} {B:Res}
end
end Go.Proofs.YtheikonlgjdopaaGreat.Sl
