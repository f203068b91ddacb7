/- scanRows_holds: part 1. -/
import Derived.Laws.Cells
import Derived.Laws.CopyRow
import Derived.Laws.StructEq
import Derived.IntWalk
import Derived.Laws.Strings
import Derived.Laws.BytesString
import Derived.Laws.MakeOwn
import Derived.Lib.ConvBytes
import Derived.Laws.OwnMore
import Derived.Laws.IdiomCopy
import Derived.Test.YtahjmpipllajcaaGreatK0
set_option maxRecDepth 100000
set_option maxHeartbeats 4000000
set_option linter.defProp false
namespace Go.Proofs.YtahjmpipllajcaaGreat.Sl
open Go.RowKit
set_option linter.unusedVariables false
def yY := @List.length_singleton
def NoP (Q:Exit→Act→World→Prop):Prop:= ∀ c a w,¬ Q (.panic c) a w
def tz (ops:Array Oper) (i:Nat):List Nat→List Nat→List Nat
 | [],D=>D
 | j::js,D=>tz ops i js (match ops[j]? with
  | some o=>if o.after.any (fun e=>Region.binds .any e && (Nat.beq e.on i || D.contains e.on)) then j::D else D
  | none=>D)
def rG (ops:Array Oper) (i:Nat):List Nat:=tz ops i (List.range ops.size) []
def tA (ops:Array Oper) (listed:Array Bool) (i:Nat):Bool :=
 match ops[i]? with
 | none=>false
 | some oi=>(rG ops i).all (fun j=> !listed.getD j true && match ops[j]? with | some o=>o.after.any (fun e=>Region.binds .any e && (Nat.beq e.on i || (rG ops i).contains e.on)) | none=>false) &&
  (List.range ops.size).all fun j=>j == i || listed.getD j true || (rG ops i).contains j || match ops[j]? with
   | some oj=>oi.apart ops oj
   | none=>true
inductive Sch where
 | nil
 | q (i:Nat) (s:Sch)
 | e (i:Nat) (s:Sch)
 | br (i:Nat) (s m:Sch)
def Sch.heads:Sch→List Nat
 | .e i _ => [i]
 | .br i _ m=>i::m.heads
 | _ => []
def dm (ops:Array Oper):Bool→Nat→Sch→Array Bool→Bool
 | alt,k,.nil,listed=> !alt && (k == 0) && (Region.ready .any ops listed).isEmpty
 | alt,0,_,_=>false
 | alt,k+1,.q i s,listed=> !alt && (Region.ready .any ops listed).contains i && tA ops listed i && dm ops false k s (listed.setIfInBounds i true)
 | alt,k+1,.e i s,listed=>(alt || Region.ready .any ops listed == [i]) && dm ops false k s (listed.setIfInBounds i true)
 | alt,k+1,.br i s m,listed=>(alt || Region.ready .any ops listed == i::m.heads) && dm ops false k s (listed.setIfInBounds i true) && dm ops true (k+1) m listed
def drawB (ops:Array Oper) (ord:Sch):Bool:=Region.noSelect ops && dm ops false ops.size ord (Array.replicate ops.size false)
section
variable {P:Program} {ops:Array Oper} {Q:Exit→Act→World→Prop} {S:World→Prop}
theorem m4 {i:Nat} {oi:Oper} {v:Value} (D:Nat→Prop) (hi:ops[i]? = some oi) (hsel: ∀ (j:Nat) (o:Oper) cs b,ops[j]? = some o→o.op≠ .select cs b)
 (hQ: ∀ c a w,Q (.panic c) (a.put oi.dst v) w→Q (.panic c) a w) (hD: ∀ j oj,ops[j]? = some oj→D j→ ∃ e∈oj.after,Region.binds .any e=true∧(e.on=i∨D e.on)) :
 ∀ (fuel:Nat) (listed:Array Bool) (a:Act) (w:World),(∀ j,D j→listed.getD j true=false) →
  (∀ j oj,ops[j]? = some oj→j≠i→listed.getD j true=false→ ¬ D j→oi.apart ops oj=true) →
  i∈Region.ready .any ops listed→YieldsIf P ops S oi v a→S w →
  wpAnyH P .any ops Q S fuel (listed.setIfInBounds i true) (a.put oi.dst v) w→wpAnyH P .any ops Q S (fuel+1) listed a w:=by
 intro fuel
 induction fuel with
 | zero =>
  intro listed a w _ _ hr hy hS H
  refine⟨fun h=>(by rw[h] at hr; cases hr),fun j hj=> ?_⟩
  by_cases hji:j=i
  ·subst hji; exact hy.wpOp hi hS ⟨hS,H⟩
  ·have:=ready_mono hj hji
   rw[H.1] at this
   cases this
 | succ fuel ih =>
  intro listed a w hun hfree hr hy hS H
  refine⟨fun h=>(by rw[h] at hr; cases hr),fun j hj=> ?_⟩
  by_cases hji:j=i
  ·subst hji; exact hy.wpOp hi hS ⟨hS,H⟩
  ·have h1:=H.2 j (ready_mono hj hji)
   obtain⟨hjun,oj,hoj,hall⟩:=mem_ready.1 hj
   have hiun:=(mem_ready.1 hr).1
   have hnot: ¬ D j:=fun hd=>by
    obtain⟨e,he,hb,h2⟩:=hD j oj hoj hd
    have h3:=hall e he hb
    rcases h2 with h2 | h2
    ·rw[h2] at h3
     rcases Nat.lt_or_ge i listed.size with h' | h'
     ·simp[h'] at hiun h3; rw[hiun] at h3; cases h3
     ·simp[Array.getElem?_eq_none h'] at h3
    ·have h4:=hun _ h2
     rcases Nat.lt_or_ge e.on listed.size with h' | h'
     ·simp[h'] at h4 h3; rw[h4] at h3; cases h3
     ·simp[Array.getElem?_eq_none h'] at h4
   have h2:=wpOp_putIf hoj (hfree j oj hoj hji hjun hnot) (fun cs b=>hsel i oi cs b hi) (fun cs b=>hsel j oj cs b hoj) hQ hy h1
   have hun': ∀ k,D k→(listed.setIfInBounds j true).getD k true=false:=fun k hk=>by
    have hjk:j≠k:=fun e=>hnot (e ▸ hk)
    rw[getD_set_ne true hjk]
    exact hun k hk
   have hfree': ∀ k ok,ops[k]? = some ok→k≠i→(listed.setIfInBounds j true).getD k true=false→ ¬ D k→oi.apart ops ok=true:=fun k ok hk hki hu hno=>by
    refine hfree k ok hk hki ?_ hno
    by_cases hjk:j=k
    ·subst hjk; exact hjun
    ·rw[getD_set_ne true hjk] at hu; exact hu
   refine wpOp_mono (fun a' w' h3=>⟨h3.2.1,ih (listed.setIfInBounds j true) a' w' hun' hfree' (ready_mono hr (Ne.symm hji)) h3.1 h3.2.1 ?_⟩) h2
   rw[Array.setIfInBounds_comm _ _ hji]
   exact h3.2.2
theorem oq {i:Nat} {oi:Oper} {v:Value} {fuel:Nat} {listed:Array Bool} {a:Act} {w:World} (hi:ops[i]? = some oi)
 (hs:Region.noSelect ops=true) (hf:tA ops listed i=true) (hr:(Region.ready .any ops listed).contains i=true)
 (hQ: ∀ c a w,Q (.panic c) (a.put oi.dst v) w→Q (.panic c) a w) (hy:YieldsIf P ops S oi v a) (hS:S w)
 (h:wpAnyH P .any ops Q S fuel (listed.setIfInBounds i true) (a.put oi.dst v) w):wpAnyH P .any ops Q S (fuel+1) listed a w:=by
 simp only[tA,hi,Bool.and_eq_true,List.all_eq_true] at hf
 obtain⟨h1,h2⟩:=hf
 refine m4 (fun j=>j∈rG ops i) hi (Region.noSelect_spec hs) hQ ?_ fuel listed a w ?_ ?_ (by simpa using hr) hy hS h
 ·intro j oj hj hd
  have h3:=(h1 j hd).2
  simp only[hj,Array.any_eq_true] at h3
  obtain⟨k,hk,h4⟩:=h3
  simp only[Bool.and_eq_true,Bool.or_eq_true,List.contains_iff_mem] at h4
  exact⟨_,Array.getElem_mem hk,h4.1,h4.2.imp Nat.eq_of_beq_eq_true id⟩
 ·intro j hd
  simpa using (h1 j hd).1
 ·intro j oj hj hne hun hno
  have hlt:j<ops.size:=(Array.getElem?_eq_some_iff.1 hj).1
  have h3:=h2 j (by simpa using hlt)
  simp only[hj,Bool.or_eq_true,beq_iff_eq,List.contains_iff_mem] at h3
  rcases h3 with ((h3 | h3) | h3) | h3
  ·exact (hne h3).elim
  ·rw[hun] at h3; cases h3
  ·exact (hno h3).elim
  ·exact h3
end
def wpO (P:Program) (ops:Array Oper) (Q:Exit→Act→World→Prop):Sch→(World→Prop)→Act→World→Prop
 | .nil,_,a,w=>Q .normal a w
 | .q i r,S,a,w=> ∃ o v,ops[i]? = some o∧YieldsIf P ops S o v a∧wpO P ops Q r S (a.put o.dst v) w
 | .e i r,S,a,w=>wpOp P ops Q i (fun a' w'=> ∃ S':World→Prop,S' w'∧(∀ w,S' w→S w)∧wpO P ops Q r S' a' w') a w
 | .br i r m,S,a,w=>wpOp P ops Q i (fun a' w'=> ∃ S':World→Prop,S' w'∧(∀ w,S' w→S w)∧wpO P ops Q r S' a' w') a w∧wpO P ops Q m S a w
section
variable {P:Program} {ops:Array Oper} {Q:Exit→Act→World→Prop}
theorem iu {S S':World→Prop} (hS: ∀ w,S' w→S w): ∀ (fuel:Nat) (listed:Array Bool) (a:Act) (w:World),wpAnyH P .any ops Q S' fuel listed a w→wpAnyH P .any ops Q S fuel listed a w
 | 0,_,_,_,h=>h
 | fuel+1,listed,a,w,h=>⟨h.1,fun i hi=>wpOp_mono (fun a' w' h'=>⟨hS _ h'.1,iu hS fuel _ a' w' h'.2⟩) (h.2 i hi)⟩
theorem gB (hs:Region.noSelect ops=true) (hQ:NoP Q): ∀ (ord:Sch) (k:Nat) (S:World→Prop) (listed:Array Bool) (a:Act) (w:World),S w→wpO P ops Q ord S a w →
 (dm ops false k ord listed=true→wpAnyH P .any ops Q S k listed a w) ∧
 (∀ k',k=k'+1→dm ops true k ord listed=true→ ∀ j∈ord.heads,wpOp P ops Q j (fun a' w'=>S w'∧wpAnyH P .any ops Q S k' (listed.setIfInBounds j true) a' w') a w)
 | .nil,k,S,listed,a,w,hS,h=>by
  refine⟨fun hk=> ?_,fun k' _ hk=>by cases k <;> simp[dm] at hk⟩
  have hk':k=0∧Region.ready .any ops listed = []:=by cases k <;> simp[dm] at hk <;> exact⟨rfl,hk⟩
  rw[hk'.1]
  exact⟨hk'.2,h⟩
 | .q i r,0,S,listed,a,w,hS,h=>⟨fun hk=>by simp[dm] at hk,fun k' e=>by omega⟩
 | .q i r,k+1,S,listed,a,w,hS,h=>by
  refine⟨fun hk=> ?_,fun k' _ hk=>by simp[dm] at hk⟩
  obtain⟨o,v,ho,hy,h⟩:=h
  simp only[dm,Bool.and_eq_true] at hk
  obtain⟨⟨⟨_,h1⟩,h2⟩,h3⟩:=hk
  exact oq ho hs h2 h1 (fun c a' w' h'=>(hQ _ _ _ h').elim) hy hS ((gB hs hQ r k S _ _ _ hS h).1 h3)
 | .e i r,0,S,listed,a,w,hS,h=>⟨fun hk=>by simp[dm] at hk,fun k' e=>by omega⟩
 | .e i r,k+1,S,listed,a,w,hS,h=>by
  have key:dm ops false k r (listed.setIfInBounds i true)=true→wpOp P ops Q i (fun a' w'=>S w'∧wpAnyH P .any ops Q S k (listed.setIfInBounds i true) a' w') a w:=by
   intro h3
   refine wpOp_mono ?_ h
   rintro a' w' ⟨S',k1,k2,k3⟩
   exact⟨k2 _ k1,iu k2 _ _ _ _ ((gB hs hQ r k S' _ _ _ k1 k3).1 h3)⟩
  refine⟨fun hk=> ?_,fun k' e hk j hj=> ?_⟩
  ·simp only[dm,Bool.false_or,Bool.and_eq_true,beq_iff_eq] at hk
   refine wpAnyH_all hk.1 (by simp) (fun j hj=> ?_)
   obtain rfl:j=i:=by simpa using hj
   exact key hk.2
  ·obtain rfl:k'=k:=by omega
   simp only[dm,Bool.true_or,Bool.true_and] at hk
   obtain rfl:j=i:=by simpa [Sch.heads] using hj
   exact key hk
 | .br i r m,0,S,listed,a,w,hS,h=>⟨fun hk=>by simp[dm] at hk,fun k' e=>by omega⟩
 | .br i r m,k+1,S,listed,a,w,hS,h=>by
  have key:dm ops false k r (listed.setIfInBounds i true)=true→wpOp P ops Q i (fun a' w'=>S w'∧wpAnyH P .any ops Q S k (listed.setIfInBounds i true) a' w') a w:=by
   intro h3
   refine wpOp_mono ?_ h.1
   rintro a' w' ⟨S',k1,k2,k3⟩
   exact⟨k2 _ k1,iu k2 _ _ _ _ ((gB hs hQ r k S' _ _ _ k1 k3).1 h3)⟩
  have more:=(gB hs hQ m (k+1) S listed a w hS h.2).2
  refine⟨fun hk=> ?_,fun k' e hk j hj=> ?_⟩
  ·simp only[dm,Bool.false_or,Bool.and_eq_true,beq_iff_eq] at hk
   refine wpAnyH_all hk.1.1 (by simp) (fun j hj=> ?_)
   rcases List.mem_cons.1 hj with rfl | hj
   ·exact key hk.1.2
   ·exact more k rfl hk.2 j hj
  ·obtain rfl:k'=k:=by omega
   simp only[dm,Bool.true_or,Bool.true_and,Bool.and_eq_true] at hk
   rcases List.mem_cons.1 (by simpa [Sch.heads] using hj:j∈i::m.heads) with rfl | hj
   ·exact key hk.1
   ·exact more k' rfl hk.2 j hj
end
def TD (P:Program) (n:Nat) (F0:Nat→Prop) (w0:World) (ops:Array Oper) (l:Sch) (Rf:List Res) (e:Env) (Rs:List Res) (Q:Exit→Act→World→Prop):Prop :=
 ∀ a w,Has n e a→St F0 w0 Rs w→wpO P ops Q l (St F0 w0 Rf) a w
section
variable {P:Program} {n:Nat} {F0:Nat→Prop} {w0:World} {e e':Env} {Rs Rs' Rf Rf':List Res} {Q:Exit→Act→World→Prop} {ops:Array Oper} {o:Oper} {v:Value} {l:Sch}
theorem vQ {id:Nat} {os:List Oper} (ord:Sch) (is:List Nat) (hf:Sel Rs is Rf) (hm:P.follows .mixedOrders=true) (hQ:NoP Q) (hk:drawB os.toArray ord=true) (h:TD P n F0 w0 os.toArray ord Rf e Rs Q) :
 T P n F0 w0 e Rs (.region id os.toArray true) Q:=by
 intro a w ha hs
 simp only[drawB,Bool.and_eq_true] at hk
 obtain⟨h1,h3⟩:=hk
 refine wp_region_held (S:=St F0 w0 Rf) hm ?_
 have hs':=hs.drew
 exact (gB h1 hQ ord _ (St F0 w0 Rf) _ a _ (hs'.sel is hf) (h a _ ha hs')).1 h3
theorem TD.br {i:Nat} {r m:Sch} (h:TD P n F0 w0 ops (.e i r) Rf e Rs Q) (k:TD P n F0 w0 ops m Rf e Rs Q):TD P n F0 w0 ops (.br i r m) Rf e Rs Q:=fun a w ha hs=>⟨h a w ha hs,k a w ha hs⟩
theorem TD.nil (h:X n F0 w0 e Rs .normal Q):TD P n F0 w0 ops .nil Rf e Rs Q:=fun a w ha hw=>h a w ha hw
theorem TD.q {i d:Nat} {op:Op} {ty:TypeId} {pos:String} {af:Array Edge} {g:Option (Nat×Bool)} (ho:ops[i]? = some ⟨some d,op,ty,pos,af,g⟩) (hw:Wd n ops e ⟨some d,op,ty,pos,af,g⟩ true)
 (hx:Ex P n e (St F0 w0 Rf) ⟨some d,op,ty,pos,af,g⟩ v) (hd:Nat.blt d n=true) (h:TD P n F0 w0 ops l Rf ((d,v)::e) Rs Q):TD P n F0 w0 ops (.q i l) Rf e Rs Q :=
 fun a w ha hs=>⟨_,v,ho,.inl ⟨hw a ha,fun w' hw'=>hx a w' ha hw'⟩,h _ _ (ha.put hd) hs⟩
theorem TD.no {i d:Nat} {op:Op} {ty:TypeId} {pos:String} {af:Array Edge} {g:Option (Nat×Bool)} (ho:ops[i]? = some ⟨some d,op,ty,pos,af,g⟩) (hw:Wd n ops e ⟨some d,op,ty,pos,af,g⟩ false)
 (hd:Nat.blt d n=true) (h:TD P n F0 w0 ops l Rf ((d,undef)::e) Rs Q):TD P n F0 w0 ops (.q i l) Rf e Rs Q :=
 fun a w ha hs=>⟨_,undef,ho,.inr ⟨hw a ha,rfl⟩,h _ _ (ha.put hd) hs⟩
theorem wt {i:Nat} {R:Env→List Res→Prop} (ho:ops[i]? = some o) (hw:Wd n ops e o true) (hx:Ef P n F0 w0 e Rs o R)
 (h: ∀ e' Rs',R e' Rs'→ ∃ Rf',(∀ w,St F0 w0 Rs' w→St F0 w0 Rf' w)∧(∀ w,St F0 w0 Rf' w→St F0 w0 Rf w)∧TD P n F0 w0 ops l Rf' e' Rs' Q):TD P n F0 w0 ops (.e i l) Rf e Rs Q:=by
 intro a w ha hs
 simp only[wpO,wpOp,ho]
 rw[if_pos (hw a ha)]
 refine .inl (hx a w _ _ ha hs (fun e' Rs' hr a' w' ha' hs'=> ?_))
 obtain⟨Rf',h1,h2,h3⟩:=h e' Rs' hr
 exact⟨St F0 w0 Rf',h1 _ hs',h2,h3 a' w' ha' hs'⟩
theorem TD.noe {i d:Nat} {op:Op} {ty:TypeId} {pos:String} {af:Array Edge} {g:Option (Nat×Bool)} (ho:ops[i]? = some ⟨some d,op,ty,pos,af,g⟩) (hw:Wd n ops e ⟨some d,op,ty,pos,af,g⟩ false)
 (hd:Nat.blt d n=true) (is:List Nat) (hf:Sel Rs is Rf) (h:TD P n F0 w0 ops l Rf ((d,undef)::e) Rs Q):TD P n F0 w0 ops (.e i l) Rf e Rs Q:=by
 intro a w ha hs
 simp only[wpO,wpOp,ho,hw a ha]
 exact⟨St F0 w0 Rf,hs.sel is hf,fun _ h=>h,h _ _ (ha.put hd) hs⟩
theorem wb {i d:Nat} {op:Op} {ty:TypeId} {pos:String} {af:Array Edge} {g:Option (Nat×Bool)} (ho:ops[i]? = some ⟨some d,op,ty,pos,af,g⟩) (hw:Wd n ops e ⟨some d,op,ty,pos,af,g⟩ true)
 (hx:Ex P n e (St F0 w0 Rs) ⟨some d,op,ty,pos,af,g⟩ v) (hd:Nat.blt d n=true) (is:List Nat) (hf:Sel Rs is Rf) (h:TD P n F0 w0 ops l Rf ((d,v)::e) Rs Q):TD P n F0 w0 ops (.e i l) Rf e Rs Q:=by
 intro a w ha hs
 simp only[wpO,wpOp,ho]
 rw[if_pos (hw a ha)]
 exact .inl (pw hx ha hs ⟨St F0 w0 Rf,hs.sel is hf,fun _ h=>h,h _ _ (ha.put hd) hs⟩)
variable {id j:Nat} {y c:Code} {K:Act→World→Prop}
theorem X.seq (h:T P n F0 w0 e Rs y Q):X n F0 w0 e Rs .normal (Exit.then (y.wp P Q) Q):=h
theorem vF (h:X n F0 w0 e Rs .normal Q):X n F0 w0 e Rs .normal (Exit.inBlock id Q):=h
theorem v6 (h:X n F0 w0 e Rs .normal Q):X n F0 w0 e Rs (.exit id) (Exit.inBlock id Q):=fun a w ha hs=>by
 show (if id=id then Q .normal a w else _)
 rw[if_pos rfl]
 exact h a w ha hs
theorem vx (h:X n F0 w0 e Rs .ret Q):X n F0 w0 e Rs .ret (Exit.then K Q):=h
theorem vJ (h:X n F0 w0 e Rs .ret Q):X n F0 w0 e Rs .ret (Exit.inBlock id Q):=h
theorem vD (h:X n F0 w0 e Rs (.exit j) Q):X n F0 w0 e Rs (.exit j) (Exit.then K Q):=h
theorem X.back {I:Nat→Env→List Res→Prop} {m m':Nat} (is:List Nat) (hm:m'<m) (hI:I m' e' Rs') (he:Sub e' e) (hr:Sel Rs is Rs') :
 X n F0 w0 e Rs .normal (Exit.then (fun a w=> ∃ m' e' Rs',m'<m∧I m' e' Rs'∧Has n e' a∧St F0 w0 Rs' w) Q) :=
 fun a w ha hs=>⟨m',e',Rs',hm,hI,ha.sub he.get,hs.sel is hr⟩
theorem T.re (is:List Nat) (he:Sub e' e) (hr:Sel Rs is Rs') (h:T P n F0 w0 e' Rs' c Q):T P n F0 w0 e Rs c Q:=fun a w ha hs=>h a w (ha.sub he.get) (hs.sel is hr)
def JQ (n:Nat) (F0:Nat→Prop) (w0:World) (R:Env→List Res→Prop):Exit→Act→World→Prop
 | .normal,a,w=> ∃ e Rs,R e Rs∧Has n e a∧St F0 w0 Rs w
 | _,_,_=>False
theorem nB {R:Env→List Res→Prop}:NoP (JQ n F0 w0 R):=fun _ _ _ h=>h
theorem T.join (R:Env→List Res→Prop) (h:T P n F0 w0 e Rs c (JQ n F0 w0 R)) (k: ∀ e' Rs',R e' Rs'→X n F0 w0 e' Rs' .normal Q):T P n F0 w0 e Rs c Q:=by
 intro a w ha hs
 refine wp_mono (h a w ha hs) ?_
 intro x a' w' hx
 cases x <;> first | exact hx.elim | skip
 obtain⟨e',Rs',hR,ha',hs'⟩:=hx
 exact k e' Rs' hR a' w' ha' hs'
theorem wo {R:Env→List Res→Prop} (is:List Nat) (hR:R e' Rs') (he:Sub e' e) (hr:Sel Rs is Rs'):X n F0 w0 e Rs .normal (JQ n F0 w0 R):=fun a w ha hs=>⟨e',Rs',hR,ha.sub he.get,hs.sel is hr⟩
theorem xe {α:Type} (T':TypeId) (size:Nat) (E:Rd α) (h:T P n F0 w0 e (aF T' size E (.slice none 0 0) []::Rs) c Q):T P n F0 w0 e Rs c Q:=fun a w ha hs=>h a w ha (aF.nil T' size E hs)
theorem wV {f:Func} {R:Value→Res→List Res→Prop} {A':Res} {Ns:List Res} (is:List Nat) (hf:f.results= #[]) (hR:R (.tuple #[]) A' Ns) (hr:Sel Rs is (A'::Ns)) {x:Exit} (hx:x= .ret∨x= .normal) :
 X n F0 w0 e Rs x (bodyPost P f (lD R F0 w0)):=by
 intro a w ha hs
 have h:bodyPost P f (lD R F0 w0) .ret a w:=⟨ha.df,.tuple #[],by
  rw[gV,hf]
  simp,_,A',Ns,rfl,hR,hs.sel is hr⟩
 rcases hx with rfl | rfl <;> exact h
end
theorem NoP.seq {Q:Exit→Act→World→Prop} {K:Act→World→Prop} (h:NoP Q):NoP (Exit.then K Q):=h
theorem NoP.blk {Q:Exit→Act→World→Prop} {i:Nat} (h:NoP Q):NoP (Exit.inBlock i Q):=h
theorem aO {P:Program} {f:Func} {F0:Nat→Prop} {w0:World} {R:Value→Res→List Res→Prop}:NoP (bodyPost P f (lD R F0 w0)):=by
 rintro c a w ⟨_,v,A',Ns,h,_⟩
 cases h
theorem enterX {P:Program} {f n:Nat} {fn:Func} {c:Code} {args:Array Value} {Xr:RX} {A:Res} {R:Value→Res→List Res→Prop} {e:Env} (hf:P.funcs[f]? = some fn) (hb:fn.body=some c) (hn:fn.ntmps=n)
 (hl:Nat.ble args.size n=true) (he: ∀ t v,e.get t=some v→args[t]? = some v) (h: ∀ F w,Xr.reads w F→T P n F w e [A] c (bodyPost P fn (lD R F w))):ar P f args Xr A R:=by
 intro F w hA hX
 refine calls_of_wp hf hb ?_
 have hl':args.size≤n:=Nat.le_of_ble_eq_true hl
 refine h F w hX _ w ⟨rfl,?_,fun t v hv=> ?_⟩ (ar.start hA)
 ·simp only[Array.size_append,Array.size_replicate,hn]
  omega
 ·have h1:=he t v hv
  have h2:=(Array.getElem?_eq_some_iff.1 h1).1
  rw[Array.getElem?_append_left h2]
  exact h1
def px:Nat→List Value→Env
 | _,[] => []
 | k,v::vs=>(k,v)::px (k+1) vs
theorem nC: ∀ (vs:List Value) (k t:Nat) (v:Value),Env.get (px k vs) t=some v→k≤t∧vs[t - k]? = some v
 | [],_,_,_,h=>by simp[px,Env.get] at h
 | u::vs,k,t,v,h=>by
  simp only[px,Env.get] at h
  cases hb:Nat.beq k t with
  | true =>
   rw[hb] at h
   obtain rfl:=Nat.eq_of_beq_eq_true hb
   exact⟨yn _,by simpa using h⟩
  | false =>
   rw[hb] at h
   obtain⟨h1,h2⟩:=nC vs (k+1) t v h
   refine⟨by omega,?_⟩
   obtain⟨m,rfl⟩: ∃ m,t=k+1+m:=⟨t - (k+1),by omega⟩
   rw[show k+1+m - k=m+1 by omega]
   rw[show k+1+m - (k+1)=m by omega] at h2
   simpa using h2
theorem aJ {P:Program} {f n:Nat} {fn:Func} {c:Code} {args:List Value} {Xr:RX} {A:Res} {R:Value→Res→List Res→Prop} (hf:P.funcs[f]? = some fn) (hb:fn.body=some c) (hn:fn.ntmps=n)
 (hl:Nat.ble args.length n=true) (h: ∀ F w,Xr.reads w F→T P n F w (px 0 args) [A] c (bodyPost P fn (lD R F w))):ar P f args.toArray Xr A R :=
 enterX hf hb hn (by simpa using hl) (fun t v hv=>by simpa using (nC args 0 t v hv).2) h
set_option linter.unusedSimpArgs false
def ksame:IntKind→IntKind→Bool
 | .i8,.i8 | .i16,.i16 | .i32,.i32 | .i64,.i64 | .u8,.u8 | .u16,.u16 | .u32,.u32 | .u64,.u64=>true
 | _,_=>false
theorem tB {k k':IntKind} (h:ksame k k'=true):k=k':=by cases k <;> cases k' <;> first | rfl | cases h
def cmpV:BinOp→Int→Int→Option Bool
 | .eql,a,b=>some (decide (a=b))
 | .neq,a,b=>some (!decide (a=b))
 | .lss,a,b=>some (decide (a<b))
 | .leq,a,b=>some (decide (a≤b))
 | .gtr,a,b=>some (decide (a>b))
 | .geq,a,b=>some (decide (a≥b))
 | _,_,_=>none
def dY:=List (Nat×Nat×Nat)
def dY.get:dY→Nat→Nat→Option Nat
 | [],_,_=>none
 | (s,f,o)::r,s',f'=>match Nat.beq s s' with
  | true=>match Nat.beq f f' with
   | true=>some o
   | false=>dY.get r s' f'
  | false=>dY.get r s' f'
def FOK (P:Program) (s f o:Nat):Prop:= ∀ (a:Addr) (w:World),(Instr.fieldAt s (.pointer (some a)) f).run P w= .ok (.pointer (some (a.add o))) w
def dY.OK (P:Program):dY→Prop
 | []=>True
 | (s,f,o)::r=>FOK P s f o∧dY.OK P r
theorem dY.OK.get {P:Program}: ∀ {t:dY},t.OK P→ ∀ {s f o},t.get s f=some o→FOK P s f o
 | [],_,s,f,o,h=>by simp[dY.get] at h
 | (s0,f0,o0)::r,⟨h1,h2⟩,s,f,o,h=>by
  simp only[dY.get] at h
  cases hb:Nat.beq s0 s with
  | true =>
   rw[hb] at h
   cases hc:Nat.beq f0 f with
   | true =>
    rw[hc] at h
    obtain rfl:=Nat.eq_of_beq_eq_true hb
    obtain rfl:=Nat.eq_of_beq_eq_true hc
    injection h with h
    subst h
    exact h1
   | false=>rw[hc] at h; exact dY.OK.get h2 h
  | false=>rw[hb] at h; exact dY.OK.get h2 h
theorem FOK.mk {P:Program} {s f:Nat} {fs:Array Field} {fl:Field} {k:Nat} (hu: ∀ w,(underlying s).run P w= .ok (.struct fs) w) (hf:fs[f]? = some fl) (hz: ∀ w,(sizeOf fl.type).run P w= .ok (k+1) w) {o:Nat} (ho:fl.offset=o):FOK P s f o:=by
 intro a w
 subst ho
 simp[Instr.fieldAt,hu,hf,Instr.sureAddr,fieldPlace,hz]
def rH (ft:dY) (e:Env):Op→Option Value
 | .move x=>e.ev x
 | .assign x=>e.ev x
 | .extract x i=>match e.ev x with
  | some (.tuple vs)=>vs[i]?
  | _=>none
 | .unOp .not _ x=>match e.ev x with
  | some (.bool b)=>some (.bool (!b))
  | _=>none
 | .nilCheck x=>match e.ev x with
  | some (.pointer (some a))=>some (.pointer (some a))
  | _=>none
 | .fieldAddr s x f=>match e.ev x with
  | some (.pointer (some ⟨g,o,none⟩))=>match ft.get s f with
   | some k=>some (.pointer (some ⟨g,o+k,none⟩))
   | none=>none
  | _=>none
 | .binOp op _ x y _=>match e.ev x with
  | some (.int k a)=>match e.ev y with
   | some (.int k' b)=>match ksame k k' with
    | true=>match cmpV op a b with
     | some r=>some (.bool r)
     | none=>none
    | false=>none
   | _=>none
  | _=>none
 | _=>none
theorem pz {P:Program} {w:World} {op:BinOp} {a b:Int} {r:Bool} (h:cmpV op a b=some r):(Op.intCmp op a b).run P w= .ok (.bool r) w:=by
 cases op <;> cases h <;> rfl
theorem uN {P:Program} {w:World} {op:BinOp} {k:IntKind} {a b:Int} {r:Bool} {t:TypeId} {x y:Operand} (h:cmpV op a b=some r) :
 (do eqGuard op t x y (.int k a) (.int k b); binOp op t (.int k a) (.int k b):Sem Value).run P w= .ok (.bool r) w:=by
 have h1:=pz (P:=P) (w:=w) h
 cases op <;> cases h <;> simpa [eqGuard,binOp] using h1
theorem kG {P:Program} {n:Nat} {ft:dY} {e:Env} {S:World→Prop} {d:Option Tmp} {op:Op} {ty:TypeId} {pos:String} {af:Array Edge} {g:Option (Nat×Bool)} {v:Value} (hft:ft.OK P) (h:rH ft e op=some v):Ex P n e S ⟨d,op,ty,pos,af,g⟩ v:=by
 intro a w ha _
 unfold rH at h
 split at h
 ·simp[execOp,ha.ev h]
 ·simp[execOp,ha.ev h]
 ·split at h
  ·rename_i vs hx
   simp[execOp,ha.ev hx,Instr.extract,h]
  ·cases h
 ·split at h
  ·rename_i b hx
   injection h with h
   subst h
   simp[execOp,ha.ev hx,Op.unary]
  ·cases h
 ·split at h
  ·rename_i p hx
   injection h with h
   subst h
   simp[execOp,ha.ev hx]
  ·cases h
 ·split at h
  ·rename_i g' o' hx
   split at h
   ·rename_i k hk
    injection h with h
    subst h
    have h1:=hft.get hk ⟨g',o',none⟩ w
    have h2:(⟨g',o',none⟩:Addr).add k=⟨g',o'+k,none⟩:=by unfold Addr.add; split <;> simp_all
    simp[execOp,ha.ev hx,h1,h2]
   ·cases h
  ·cases h
 ·split at h
  ·rename_i k x hx
   split at h
   ·rename_i k' y hy
    split at h
    ·rename_i hk
     split at h
     ·rename_i r hr
      injection h with h
      subst h
      obtain rfl:=tB hk
      have h1:=pz (P:=P) (w:=w) hr
      simp only[execOp,ha.ev hx,ha.ev hy,Sem.run_bind]
      have h2:=fun t x y=>uN (P:=P) (w:=w) (k:=k) (t:=t) (x:=x) (y:=y) hr
      simp only[Sem.run_bind] at h2
      rw[h2]
      rfl
     ·cases h
    ·cases h
   ·cases h
  ·cases h
 ·cases h
def qM (ft:dY) (n:Nat) (ops:Array Oper):Env→List Nat→Option Env
 | e,[]=>some e
 | e,i::is=>match ops[i]? with
  | some ⟨some d,op,_,_,_,none⟩=>match Nat.blt d n with
   | true=>match rH ft e op with
    | some v=>qM ft n ops ((d,v)::e) is
    | none=>none
   | false=>none
  | _=>none
section
variable {P:Program} {n:Nat} {F0:Nat→Prop} {w0:World} {e e':Env} {Rs Rf:List Res} {Q:Exit→Act→World→Prop} {ops:Array Oper} {ft:dY}
theorem TL.run_ (hft:ft.OK P): ∀ (is:List Nat) {e e':Env} {l:List Nat},qM ft n ops e is=some e'→TL P n F0 w0 ops l e' Rs Q→TL P n F0 w0 ops (is++l) e Rs Q
 | [],e,e',l,h,k=>by
  injection h with h
  subst h
  exact k
 | i::is,e,e',l,h,k=>by
  unfold qM at h
  split at h
  ·rename_i ho
   split at h
   ·rename_i hd
    split at h
    ·rename_i v hv
     exact TL.q ho .u (kG hft hv) hd (TL.run_ hft is h k)
    ·cases h
   ·cases h
  ·cases h
def Sch.qs:List Nat→Sch→Sch
 | [],s=>s
 | i::is,s=> .q i (Sch.qs is s)
theorem TD.run_ (hft:ft.OK P): ∀ (is:List Nat) {e e':Env} {l:Sch},qM ft n ops e is=some e'→TD P n F0 w0 ops l Rf e' Rs Q→TD P n F0 w0 ops (Sch.qs is l) Rf e Rs Q
 | [],e,e',l,h,k=>by
  injection h with h
  subst h
  exact k
 | i::is,e,e',l,h,k=>by
  unfold qM at h
  split at h
  ·rename_i ho
   split at h
   ·rename_i hd
    split at h
    ·rename_i v hv
     exact TD.q ho .u (kG hft hv) hd (TD.run_ hft is h k)
    ·cases h
   ·cases h
  ·cases h
theorem TL.run (hft:ft.OK P) (is:List Nat) {l l':List Nat} (hl:l=is++l') (h:qM ft n ops e is=some e') (k:TL P n F0 w0 ops l' e' Rs Q):TL P n F0 w0 ops l e Rs Q:=hl ▸ TL.run_ hft is h k
theorem TD.run (hft:ft.OK P) (is:List Nat) {l l':Sch} (hl:l=Sch.qs is l') (h:qM ft n ops e is=some e') (k:TD P n F0 w0 ops l' Rf e' Rs Q):TD P n F0 w0 ops l Rf e Rs Q:=hl ▸ TD.run_ hft is h k
end
section
variable {P:Program} {n:Nat} {F0:Nat→Prop} {w0:World} {e:Env} {Rs:List Res} {S:World→Prop} {d:Option Tmp} {ty:TypeId} {pos:String} {af:Array Edge} {gd:Option (Nat×Bool)} {v:Value} {x y ix:Operand} {t t' el:TypeId}
theorem vA {ft:dY} {op:Op} (hft:ft.OK P) (h:rH ft e op=some v):Ex P n e S ⟨d,op,ty,pos,af,gd⟩ v:=kG hft h
theorem vH {A:Option Addr} {m c:Nat} (hx:e.ev x=some (.slice A m c)) (hu: ∀ w,(underlying t).run P w= .ok (.slice el) w):Ex P n e S ⟨d,.call ⟨.builtin .len,#[x],#[t]⟩,ty,pos,af,gd⟩ (.int .i64 (m:Int)):=by
 intro a w ha _
 simp[execOp,resolve,invoke,builtin,ha.ev hx,Builtin.len_,hu,goInt]
theorem v5 {l:List UInt8} (hx:e.ev x=some (.string (aC l))) (hu: ∀ w,(underlying t).run P w= .ok .string w):Ex P n e S ⟨d,.call ⟨.builtin .len,#[x],#[t]⟩,ty,pos,af,gd⟩ (.int .i64 (l.length:Int)):=by
 intro a w ha _
 simp[execOp,resolve,invoke,builtin,ha.ev hx,Builtin.len_,hu,goInt,aR]
theorem Ex.add {p q:Int} (hx:e.ev x=some (.int .i64 p)) (hy:e.ev y=some (.int .i64 q)) (h: -9223372036854775808≤p+q∧p+q≤9223372036854775807):Ex P n e S ⟨d,.binOp .add t x y t',ty,pos,af,gd⟩ (.int .i64 (p+q)):=by
 intro a w ha _
 simp[execOp,ha.ev hx,ha.ev hy,eqGuard,binOp,Op.intArith,IntWalk.i64_in _ h]
theorem Ex.sub {p q:Int} (hx:e.ev x=some (.int .i64 p)) (hy:e.ev y=some (.int .i64 q)) (h: -9223372036854775808≤p - q∧p - q≤9223372036854775807):Ex P n e S ⟨d,.binOp .sub t x y t',ty,pos,af,gd⟩ (.int .i64 (p - q)):=by
 intro a w ha _
 simp[execOp,ha.ev hx,ha.ev hy,eqGuard,binOp,Op.intArith,IntWalk.i64_in _ h]
theorem Ex.mul {p q:Int} (hx:e.ev x=some (.int .i64 p)) (hy:e.ev y=some (.int .i64 q)) (h: -9223372036854775808≤p*q∧p*q≤9223372036854775807):Ex P n e S ⟨d,.binOp .mul t x y t',ty,pos,af,gd⟩ (.int .i64 (p*q)):=by
 intro a w ha _
 simp[execOp,ha.ev hx,ha.ev hy,eqGuard,binOp,Op.intArith,IntWalk.i64_in _ h]
theorem Ex.addw {k:IntKind} {p q:Int} (hx:e.ev x=some (.int k p)) (hy:e.ev y=some (.int k q)):Ex P n e S ⟨d,.binOp .add t x y t',ty,pos,af,gd⟩ (.int k (k.wrap (p+q))):=by
 intro a w ha _
 simp[execOp,ha.ev hx,ha.ev hy,eqGuard,binOp,Op.intArith]
theorem Ex.quo {p q:Int} (hx:e.ev x=some (.int .i64 p)) (hy:e.ev y=some (.int .i64 q)) (hq:1≤q) (h:0≤p∧p≤9223372036854775807):Ex P n e S ⟨d,.binOp .quo t x y t',ty,pos,af,gd⟩ (.int .i64 (p / q)):=by
 intro a w ha _
 have h0: ¬ q=0:=by omega
 simp[execOp,ha.ev hx,ha.ev hy,eqGuard,binOp,Op.intDiv,h0,IntWalk.i64_quo _ _ ⟨h.1,h.2,hq⟩]
theorem Ex.rem {p q:Int} (hx:e.ev x=some (.int .i64 p)) (hy:e.ev y=some (.int .i64 q)) (hq:1≤q) (h:0≤p∧p≤9223372036854775807):Ex P n e S ⟨d,.binOp .rem t x y t',ty,pos,af,gd⟩ (.int .i64 (p % q)):=by
 intro a w ha _
 have h0: ¬ q=0:=by omega
 simp[execOp,ha.ev hx,ha.ev hy,eqGuard,binOp,Op.intDiv,h0,IntWalk.rem_in _ _ h.1]
theorem Ex.neg {p:Int} (hx:e.ev x=some (.int .i64 p)) (h: -9223372036854775808≤ -p∧ -p≤9223372036854775807):Ex P n e S ⟨d,.unOp .neg t x,ty,pos,af,gd⟩ (.int .i64 (-p)):=by
 intro a w ha _
 have h2:=IntWalk.i64_in _ h
 simp[execOp,ha.ev hx,Op.unary,Op.intArith,h2]
theorem xc {k k':IntKind} {p:Int} (hx:e.ev x=some (.int k' p)) (hs: ∀ w,(underlying t).run P w= .ok (.int k') w) (hu: ∀ w,(underlying t').run P w= .ok (.int k) w):Ex P n e S ⟨d,.convert t t' x,ty,pos,af,gd⟩ (.int k (k.wrap p)):=by
 intro a w ha _
 simp[execOp,ha.ev hx,convert,hs,hu,Conv.intToInt]
theorem wq {p:Int} {k':IntKind} (hx:e.ev x=some (.int k' p)) (hs: ∀ w,(underlying t).run P w= .ok (.int k') w) (hu: ∀ w,(underlying t').run P w= .ok (.int .i64) w) (h: -9223372036854775808≤p∧p≤9223372036854775807):Ex P n e S ⟨d,.convert t t' x,ty,pos,af,gd⟩ (.int .i64 p):=by
 have:=xc (P:=P) (n:=n) (S:=S) (d:=d) (ty:=ty) (pos:=pos) (af:=af) (gd:=gd) hx hs hu
 rwa [IntWalk.i64_in _ h] at this
theorem Ex.maxy {p q:Int} {k k':IntKind} {ts:Array TypeId} (hx:e.ev x=some (.int k p)) (hy:e.ev y=some (.int k' q)) (h:p<q):Ex P n e S ⟨d,.call ⟨.builtin .max,#[x,y],ts⟩,ty,pos,af,gd⟩ (.int k q):=by
 intro a w ha _
 simp[execOp,resolve,invoke,builtin,ha.ev hx,ha.ev hy,Builtin.max_,Builtin.max2,h]
theorem Ex.maxx {p q:Int} {k k':IntKind} {ts:Array TypeId} (hx:e.ev x=some (.int k p)) (hy:e.ev y=some (.int k' q)) (h: ¬ p<q):Ex P n e S ⟨d,.call ⟨.builtin .max,#[x,y],ts⟩,ty,pos,af,gd⟩ (.int k p):=by
 intro a w ha _
 simp[execOp,resolve,invoke,builtin,ha.ev hx,ha.ev hy,Builtin.max_,Builtin.max2,h]
theorem Ex.miny {p q:Int} {k k':IntKind} {ts:Array TypeId} (hx:e.ev x=some (.int k p)) (hy:e.ev y=some (.int k' q)) (h:q<p):Ex P n e S ⟨d,.call ⟨.builtin .min,#[x,y],ts⟩,ty,pos,af,gd⟩ (.int k q):=by
 intro a w ha _
 simp[execOp,resolve,invoke,builtin,ha.ev hx,ha.ev hy,Builtin.min_,Builtin.min2,h]
theorem Ex.minx {p q:Int} {k k':IntKind} {ts:Array TypeId} (hx:e.ev x=some (.int k p)) (hy:e.ev y=some (.int k' q)) (h: ¬ q<p):Ex P n e S ⟨d,.call ⟨.builtin .min,#[x,y],ts⟩,ty,pos,af,gd⟩ (.int k p):=by
 intro a w ha _
 simp[execOp,resolve,invoke,builtin,ha.ev hx,ha.ev hy,Builtin.min_,Builtin.min2,h]
theorem vz {c:Operand} {b:Bool} (hc:e.ev c=some (.bool b)) (hb:b=true) (hx:e.ev x=some v):Ex P n e S ⟨d,.pick c x y,ty,pos,af,gd⟩ v:=by
 intro a w ha _
 subst hb
 simp[execOp,ha.ev hc,ha.ev hx,asBool]
theorem vB {c:Operand} {b:Bool} (hc:e.ev c=some (.bool b)) (hb:b=false) (hy:e.ev y=some v):Ex P n e S ⟨d,.pick c x y,ty,pos,af,gd⟩ v:=by
 intro a w ha _
 subst hb
 simp[execOp,ha.ev hc,ha.ev hy,asBool]
theorem Ex.sNe {l m:List UInt8} (hx:e.ev x=some (.string (aC l))) (hy:e.ev y=some (.string (aC m))):Ex P n e S ⟨d,.binOp .neq t x y t',ty,pos,af,gd⟩ (.bool (!decide (l=m))):=by
 intro a w ha _
 have:(l == m)=decide (l=m):=by by_cases h:l=m <;> simp[h]
 simp[execOp,ha.ev hx,ha.ev hy,eqGuard,binOp_string_neq,dr,this]
theorem vP {l m:List UInt8} (hx:e.ev x=some (.string (aC l))) (hy:e.ev y=some (.string (aC m))) (h:l.length+m.length≤9223372036854775807):Ex P n e S ⟨d,.binOp .add t x y t',ty,pos,af,gd⟩ (.string (aC (l++m))):=by
 intro a w ha _
 have h2: ¬ (((aC l).size+(aC m).size:Nat):Int)>IntKind.i64.max:=by
  have e1:IntKind.i64.max=9223372036854775807:=by decide
  rw[e1,aR,aR]
  omega
 have h3:aC l++aC m=aC (l++m):=by
  apply ByteArray.ext
  apply Array.ext'
  simp[aC]
 simp only[execOp,ha.ev hx,ha.ev hy,eqGuard,binOp_string_add,Op.stringOp,h2,if_false,h3]
 rfl
theorem Ex.sIx {l:List UInt8} {k:Nat} {i:Int} {c:UInt8} {q:IntKind} (hx:e.ev x=some (.string (aC l))) (hi:e.ev ix=some (.int q i)) (hik:i=(k:Int)) (hu:P.underlying t=some .string) (hc:l[k]? = some c):Ex P n e S ⟨d,.index t x ix,ty,pos,af,gd⟩ (.int .u8 (c.toNat:Int)):=by
 intro a w ha _
 subst hik
 have hk:=(xS hc).1
 have h1:(0:Int)≤(k:Int)∧(k:Int)<((aC l).size:Int):=by rw[aR]; omega
 have h2:(aC l)[k]'(by rw[aR]; exact hk)=c:=by
  have:l[k]=c:=(xS hc).2
  show (aC l).data[k]=c
  simpa [aC] using this
 simp only[execOp,ha.ev hx,ha.ev hi,Sem.run_bind,run_index_string w t (aC l) q k hu]
 rw[dif_pos h1]
 simp[h2]
inductive LoOK (e:Env):Option Operand→Nat→Prop where
 | none:LoOK e none 0
 | some {o:Operand} {k:IntKind} {i:Int} {p:Nat} (h:e.ev o=some (.int k i)) (hi:i=(p:Int)):LoOK e (some o) p
inductive HiOK (e:Env) (n:Nat):Option Operand→Nat→Prop where
 | none:HiOK e n none n
 | some {o:Operand} {k:IntKind} {i:Int} {p:Nat} (h:e.ev o=some (.int k i)) (hi:i=(p:Int)):HiOK e n (some o) p
theorem wC {l:List UInt8} {lo hi:Option Operand} {p q:Nat} (hx:e.ev x=some (.string (aC l))) (hu: ∀ w,(underlying t).run P w= .ok .string w)
 (hlo:LoOK e lo p) (hhi:HiOK e l.length hi q) (h:p≤q∧q≤l.length) {m:List UInt8} (hm:(l.drop p).take (q - p)=m) :
 Ex P n e S ⟨d,.slice t x lo hi none,ty,pos,af,gd⟩ (.string (aC m)):=by
 intro a w ha _
 have e1:(aC l).extract p q=aC m:=by rw[ik,cn,hm]
 have b1: ∀ k cd,(Instr.sliceBound (.int k (q:Int)) l.length cd).run P w= .ok q w:=by
  intro k cd
  have:(0:Int)≤(q:Int)∧(q:Int)≤(l.length:Int):=by omega
  simp[Instr.sliceBound,asIntOf,this]
 have b2: ∀ k cd,(Instr.sliceBound (.int k (p:Int)) q cd).run P w= .ok p w:=by
  intro k cd
  have:(0:Int)≤(p:Int)∧(p:Int)≤(q:Int):=by omega
  simp[Instr.sliceBound,asIntOf,this]
 cases hlo with
 | none =>
  cases hhi with
  | none =>
   obtain rfl:l=m:=by simpa using hm
   have e2:(aC l).extract 0 l.length=aC l:=by simpa using e1
   simp[execOp,ha.ev hx,Instr.sliceAt,Instr.slice,hu,Instr.sliceBounds,aR,e2]
  | some ho hi =>
   subst hi
   simp[execOp,ha.ev hx,ha.ev ho,Instr.sliceAt,Instr.slice,hu,Instr.sliceBounds,aR,b1,e1]
 | some ho hi =>
  subst hi
  cases hhi with
  | none =>
   simp[execOp,ha.ev hx,ha.ev ho,Instr.sliceAt,Instr.slice,hu,Instr.sliceBounds,aR,b2,e1]
  | some ho' hi' =>
   subst hi'
   simp[execOp,ha.ev hx,ha.ev ho,ha.ev ho',Instr.sliceAt,Instr.slice,hu,Instr.sliceBounds,aR,b1,b2,e1]
theorem vM {g o m c z k:Nat} {i:Int} {q:IntKind} (hx:e.ev x=some (.slice (some ⟨g,o,none⟩) m c)) (hi:e.ev ix=some (.int q i)) (hik:i=(k:Int)) (hu: ∀ w,(underlying t).run P w= .ok (.slice el) w) (hz: ∀ w,(sizeOf el).run P w= .ok z w) (hk:k<m) :
 Ex P n e S ⟨d,.indexAddr t x ix,ty,pos,af,gd⟩ (.pointer (some ⟨g,o+k*z,none⟩)):=by
 intro a w ha _
 subst hik
 have h1:(0:Int)≤(k:Int)∧(k:Int)<(m:Int):=by omega
 have h2:(⟨g,o,none⟩:Addr).add (k*z)=⟨g,o+k*z,none⟩:=by unfold Addr.add; split <;> simp_all
 have h3:(Instr.indexAt t (.slice (some ⟨g,o,none⟩) m c) (.int q (k:Int))).run P w= .ok (.pointer (some ⟨g,o+k*z,none⟩)) w:=by
  simp only[Instr.indexAt,asIntOf,Sem.run_bind,Sem.run_pure,Result.andThen_ok,hu]
  rw[if_pos h1]
  simp[hz,h2]
 simp[execOp,ha.ev hx,ha.ev hi,h3]
theorem ot {w:World} {ad:Addr} (ha: ∀ w,(isAgg t).run P w= .ok false w) (hc:w.cell? ad=some v):(loadVar t ad).run P w= .ok v w:=by
 simp[loadVar,ha,hc]
theorem j8 {w:World} {ad:Addr} {cs:List Value} (ha: ∀ w,(isAgg t).run P w= .ok true w) (hz: ∀ w,(sizeOf t).run P w= .ok cs.length w) (hc: ∀ j u,cs[j]? = some u→w.cell? (ad.add j)=some u):(loadVar t ad).run P w= .ok (.agg cs.toArray) w:=by
 simp[loadVar,ha,hz,run_loadCells_list w ad cs hc]
theorem Ex.ld1 {ad:Addr} (hx:e.ev x=some (.pointer (some ad))) (ha: ∀ w,(isAgg t).run P w= .ok false w) (hc: ∀ w,S w→w.cell? ad=some v):Ex P n e S ⟨d,.load t x,ty,pos,af,gd⟩ v:=by
 intro a w h hs
 simp[execOp,h.ev hx,Instr.loadAt,Instr.sureAddr,ot ha (hc w hs)]
theorem Ex.ldS {ad:Addr} {cs:List Value} {z:Nat} (hx:e.ev x=some (.pointer (some ad))) (ha: ∀ w,(isAgg t).run P w= .ok true w) (hz: ∀ w,(sizeOf t).run P w= .ok z w) (hl:cs.length=z) (hc: ∀ w,S w→ ∀ j u,cs[j]? = some u→w.cell? (ad.add j)=some u):Ex P n e S ⟨d,.load t x,ty,pos,af,gd⟩ (.agg cs.toArray):=by
 intro a w h hs
 subst hl
 simp[execOp,h.ev hx,Instr.loadAt,Instr.sureAddr,j8 ha hz (hc w hs)]
theorem vr (i:Nat) {b o:Nat} {T:TypeId} {cs:Array Value} (hx:e.ev x=some (.pointer (some ⟨b,o,none⟩))) (ha: ∀ w,(isAgg t).run P w= .ok false w) (hi:Rs[i]? = some (aA b T cs)) (hv:cs[o]? = some v):Ex P n e (St F0 w0 Rs) ⟨d,.load t x,ty,pos,af,gd⟩ v :=
 Ex.ld1 hx ha (fun w hw=>(aM (hw.blk i hi) o).trans hv)
theorem vE (i:Nat) {b o z:Nat} {T:TypeId} {cs:Array Value} {us:List Value} (hx:e.ev x=some (.pointer (some ⟨b,o,none⟩))) (ha: ∀ w,(isAgg t).run P w= .ok true w) (hz: ∀ w,(sizeOf t).run P w= .ok z w) (hi:Rs[i]? = some (aA b T cs))
 (hv:(cs.toList.drop o).take z=us) (hl:Nat.beq us.length z=true):Ex P n e (St F0 w0 Rs) ⟨d,.load t x,ty,pos,af,gd⟩ (.agg us.toArray):=by
 refine Ex.ldS hx ha hz (Nat.eq_of_beq_eq_true hl) (fun w hw j u hj=> ?_)
 have h2:(⟨b,o,none⟩:Addr).add j=⟨b,o+j,none⟩:=by unfold Addr.add; split <;> simp_all
 rw[h2,aM (hw.blk i hi)]
 subst hv
 rw[List.getElem?_take] at hj
 split at hj
 ·rw[List.getElem?_drop] at hj
  simpa using hj
 ·cases hj
theorem wM {g q z:Nat} (j:Nat) {cs:List Value} (hx:e.ev x=some (.pointer (some ⟨g,q+j,none⟩))) (ha: ∀ w,(isAgg t).run P w= .ok false w) (nf: ¬ F0 g∧g<w0.heap.size) (hc: ∀ j,j<z→w0.cell? ⟨g,q+j,none⟩=cs[j]?) (hj:Nat.blt j z=true) (hv:cs[j]? = some v) :
 Ex P n e (St F0 w0 Rs) ⟨d,.load t x,ty,pos,af,gd⟩ v :=
 Ex.ld1 hx ha (fun w hw=>hw.old2 nf ((hc j (by simpa [Nat.blt_eq] using hj)).trans hv))
theorem wj {g q z z':Nat} (k:Nat) {cs us:List Value} (hx:e.ev x=some (.pointer (some ⟨g,q+k,none⟩))) (ha: ∀ w,(isAgg t).run P w= .ok true w) (hz: ∀ w,(sizeOf t).run P w= .ok z' w) (nf: ¬ F0 g∧g<w0.heap.size) (hc: ∀ j,j<z→w0.cell? ⟨g,q+j,none⟩=cs[j]?) (hcl:cs.length=z)
 (hv:(cs.drop k).take z'=us) (hl:Nat.beq us.length z'=true):Ex P n e (St F0 w0 Rs) ⟨d,.load t x,ty,pos,af,gd⟩ (.agg us.toArray):=by
 refine Ex.ldS hx ha hz (Nat.eq_of_beq_eq_true hl) (fun w hw j u hj=> ?_)
 have h2:(⟨g,q+k,none⟩:Addr).add j=⟨g,q+(k+j),none⟩:=by unfold Addr.add; split <;> simp_all [Nat.add_assoc]
 rw[h2]
 subst hv
 rw[List.getElem?_take] at hj
 split at hj
 ·rw[List.getElem?_drop] at hj
  have hlt:=(xS hj).1
  exact hw.old2 nf ((hc (k+j) (by omega)).trans hj)
 ·cases hj
def BOK (P:Program) (t:TypeId) (zs:Array Value) (pl:List (Nat×Nat)):Prop:= ∀ (parts:Array (Nat×Value)) (cells:Array Value) (w:World),Instr.fill (pl[·]?) zs parts.toList=some cells→(Instr.build t parts).run P w= .ok (.agg cells) w
theorem vT {zs cells:Array Value} {pl:List (Nat×Nat)} {ps:List (Nat×Operand)} {vs:List Value} (hB:BOK P t zs pl) (hv:e.evs (ps.map (·.2))=some vs) (hf:Instr.fill (pl[·]?) zs ((ps.map (·.1)).zip vs)=some cells):Ex P n e S ⟨d,.build t ps.toArray,ty,pos,af,gd⟩ (.agg cells):=by
 intro a w ha _
 have h1:=ha.evs hv
 have h2:ps.map (fun p=>(p.1,a.eval p.2))=(ps.map (·.1)).zip vs:=by
  rw[← h1]
  clear h1 hf hv
  induction ps with
  | nil=>rfl
  | cons p ps ih=>simp[ih]
 have h3:=hB (ps.map (fun p=>(p.1,a.eval p.2))).toArray cells w (by simpa [h2] using hf)
 simp only[execOp,List.map_toArray,Sem.run_bind]
 rw[h3]
 rfl
end
def fu:Option Nat→Value→Env→Env
 | none,_,e=>e
 | some d,v,e=>(d,v)::e
def okd:Option Nat→Nat→Bool
 | none,_=>true
 | some d,n=>Nat.blt d n
section
variable {P:Program} {n:Nat} {F0:Nat→Prop} {w0:World} {e:Env} {Rs:List Res} {d:Option Tmp} {ty:TypeId} {pos:String} {af:Array Edge} {gd:Option (Nat×Bool)} {v:Value} {x y:Operand} {t t' el:TypeId}
theorem Has.putd {a:Act} (h:Has n e a) (hd:okd d n=true):Has n (fu d v e) (a.put d v):=by
 cases d with
 | none=>exact h
 | some d=>exact h.put hd
theorem St.setRowS {b:Nat} {T:TypeId} {cs cs':Array Value} {w:World} (i:Nat) (h:St F0 w0 Rs w) (hi:Rs[i]? = some (aA b T cs)):St F0 w0 (Rs.set i (aA b T cs')) (w.setRow b cs'):=by
 refine h.step i hi (Ns := []) (fun G hG=>⟨⟨rfl,rfl,rfl,by simp[World.setRow],fun k hk hn=>setRow_other w b k cs' (fun e=>hn (e ▸ (hG.2 b).2 rfl))⟩,G,⟨setRow_heap w b cs cs' T (0,0) hG.1,hG.2⟩,fun k hk=> .inl hk,trivial⟩)
theorem Ef.alloc {zv:Value} (hz: ∀ w,(zeroValue t).run P w= .ok zv w) (hd:okd d n=true):Ef P n F0 w0 e Rs ⟨d,.alloc t,ty,pos,af,gd⟩ (fun e' Rs'=> ∃ b,e'=fu d (.pointer (some ⟨b,0,none⟩)) e∧Rs'=aA b t zv.cells::Rs):=by
 intro a w K Q ha hs hk
 have h1:(execOp a.eval ⟨d,.alloc t,ty,pos,af,gd⟩).run P w= .ok (.value (.pointer (some ⟨w.heap.size,0,none⟩))) (w.alloc (.cells zv.cells t)):=by
  simp[execOp,Instr.alloc,hz,newVar,newRow,newObj]
  rfl
 unfold Oper.wp
 rw[h1]
 exact hk _ _ ⟨_,rfl,rfl⟩ _ _ (ha.putd hd) (hs.alloc _ _)
theorem Ef.box (hx:e.ev x=some v) (hd:okd d n=true):Ef P n F0 w0 e Rs ⟨d,.box t x,ty,pos,af,gd⟩ (fun e' Rs'=> ∃ b,e'=fu d (.pointer (some ⟨b,0,none⟩)) e∧Rs'=aA b t v.cells::Rs):=by
 intro a w K Q ha hs hk
 have h1:(execOp a.eval ⟨d,.box t x,ty,pos,af,gd⟩).run P w= .ok (.value (.pointer (some ⟨w.heap.size,0,none⟩))) (w.alloc (.cells v.cells t)):=by
  simp[execOp,ha.ev hx,Instr.box,newVar,newRow,newObj]
  rfl
 unfold Oper.wp
 rw[h1]
 exact hk _ _ ⟨_,rfl,rfl⟩ _ _ (ha.putd hd) (hs.alloc _ _)
theorem wZ (i:Nat) {b o z:Nat} {T:TypeId} {cs cs':Array Value} (hx:e.ev x=some (.pointer (some ⟨b,o,none⟩))) (hy:e.ev y=some v) (hz: ∀ w,(sizeOf t).run P w= .ok z w) (hi:Rs[i]? = some (aA b T cs))
 (hvz:Nat.beq v.cells.size z=true) (hf:Nat.ble (o+v.cells.size) cs.size=true) (ho:v.cells.toList.all (·.oneCell')=true) (hc:(cs.toList.take o++v.cells.toList++cs.toList.drop (o+v.cells.size)).toArray=cs') :
 Ef P n F0 w0 e Rs ⟨none,.store t x y,ty,pos,af,gd⟩ (fun e' Rs'=>e'=e∧Rs'=Rs.set i (aA b T cs')):=by
 intro a w K Q ha hs hk
 have hb:=hs.blk i hi
 have hvz':=Nat.eq_of_beq_eq_true hvz
 have hf':=Nat.le_of_ble_eq_true hf
 have h2:=run_storeCells_at (P:=P) b o T v.cells.toList 0 cs w hb (by simpa using hf') (List.all_eq_true.1 ho)
 have h1:(execOp a.eval ⟨none,.store t x y,ty,pos,af,gd⟩).run P w= .ok .skip (w.setRow b cs'):=by
  simp only[Nat.add_zero,Array.length_toList] at h2
  rw[hc] at h2
  simp[execOp,ha.ev hx,ha.ev hy,Instr.storeAt,Instr.sureAddr,storeVar,hz,hvz',h2]
 unfold Oper.wp
 rw[h1]
 exact hk _ _ ⟨rfl,rfl⟩ _ _ (ha.put0) (hs.setRowS i hi)
def CT (P:Program) (n:Nat) (e:Env) (o:Oper) (f:FuncId) (us:List Value):Prop:= ∀ a w,Has n e a→(execOp a.eval o).run P w= .ok (.enter f us.toArray) w
theorem CT.fn {f:FuncId} {xs:List Operand} {vs:List Value} {ts:Array TypeId} (hc: ∀ args w,(callFunc f args).run P w= .ok (.enter f args) w) (hv:e.evs xs=some vs):CT P n e ⟨d,.call ⟨.value (.func f),xs.toArray,ts⟩,ty,pos,af,gd⟩ f vs:=by
 intro a w ha
 simp[execOp,resolve,Act.eval,Deferred.ofValue,invoke,List.map_toArray,ha.evs hv,hc]
theorem Ef.call (i:Nat) {op:Op} {f:FuncId} {vs:List Value} {A:Res} {Y:RX} {R:Value→Res→List Res→Prop} (hc:CT P n e ⟨d,op,ty,pos,af,gd⟩ f vs) (hi:Rs[i]? = some A)
 (hs:ar P f vs.toArray Y A R) (hr: ∀ w,St F0 w0 Rs w→Src F0 w0 Rs w i Y) (hd:okd d n=true) :
 Ef P n F0 w0 e Rs ⟨d,op,ty,pos,af,gd⟩ (fun e' Rs'=> ∃ v A' N,R v A' N∧e'=fu d v e∧Rs'=N++Rs.set i A'):=by
 intro a w K Q ha hst hk
 unfold Oper.wp
 rw[hc a w ha]
 refine (hst.callX i hi hs (hr w hst)).mono ?_
 rintro x w' ⟨v,A',N,rfl,hq,hst'⟩
 exact hk _ _ ⟨v,A',N,hq,rfl,rfl⟩ _ _ (ha.putd hd) hst'
theorem Ef.callE {op:Op} {f:FuncId} {vs:List Value} {Y:RX} {R:Value→Res→List Res→Prop} (hc:CT P n e ⟨d,op,ty,pos,af,gd⟩ f vs)
 (hs:ar P f vs.toArray Y av R) (hr: ∀ w,St F0 w0 Rs w→Y.reads w (fun _=>False)) (hd:okd d n=true) :
 Ef P n F0 w0 e Rs ⟨d,op,ty,pos,af,gd⟩ (fun e' Rs'=> ∃ v A' N,R v A' N∧e'=fu d v e∧Rs'=N++Rs):=by
 intro a w K Q ha hst hk
 unfold Oper.wp
 rw[hc a w ha]
 refine (hst.callE hs (hr w hst)).mono ?_
 rintro x w' ⟨v,A',N,rfl,hq,hst'⟩
 exact hk _ _ ⟨v,A',N,hq,rfl,rfl⟩ _ _ (ha.putd hd) hst'
theorem rI {a:Act} {w:World} {sl x:Operand} {T:TypeId} {z bytes g:Nat} {zv:Value} {us cells:List Value} {q:Value} {m:Nat} (ha:Has n e a) (hu:P.underlying t=some (.slice T)) (hinfo:(P.info? T).map (fun i=>(i.zero,i.size,i.bytes))=some (some zv,z,bytes)) (hzv:zv.cells.size=z) (hp:0<z)
 (hs:e.ev sl=some q) (hx:e.ev x=some (.slice (some ⟨g,0,none⟩) 1 1)) (hown:w.ownsRow 0 T z q m cells) (hl:us.length=z) (hg:w.heap[g]? = some (.cells us.toArray T (0,0))) (ho:us.all (·.oneCell')=true) (hb:(m+1)*bytes≤140737488355328) (hm:m+1≤140737488355328) :
 ∃ q' w',(execOp a.eval ⟨d,.call ⟨.builtin .append,#[sl,x],#[t,t]⟩,ty,pos,af,gd⟩).run P w= .ok (.value q') w'∧w'.ownsRow 0 T z q' (m+1) (cells++us)∧w.grownBy w' q.ownBlock∧(q'.ownBlock=q.ownBlock∨ ∃ k,q'.ownBlock=some k∧w.heap.size≤k):=by
 obtain⟨i,hi,hzz⟩:=Option.map_eq_some_iff.1 hinfo
 simp only[Prod.mk.injEq] at hzz
 obtain⟨h0,h1,h2⟩:=hzz
 obtain⟨q',w',hr,k2,k3,_,k5⟩:=run_append_own_at (P:=P) w 0 t ty T i zv z bytes hu hi h0 h1 h2 hzv hp q m cells hown ⟨g,0,none⟩ 1 1 us (by omega) (fun j u hj=>by
  have e1:(⟨g,0,none⟩:Addr).add j=⟨g,j,none⟩:=by unfold Addr.add; split <;> simp_all
  rw[e1,aM hg]
  simpa using hj) (by simpa using ho) (by simp only[maxLen]; omega) hb (yw _)
 refine⟨q',w',?_,k2,k3,k5.imp id (fun h=>⟨_,h,yn _⟩)⟩
 simp[execOp,resolve,invoke,builtin,ha.ev hs,ha.ev hx,hr]
theorem Ef.app1 (i:Nat) {α:Type} {E:Rd α} {sl x:Operand} {T:TypeId} {z bytes g:Nat} {zv:Value} {us:List Value} {A:Option Addr} {c:Nat} {l:List α} {u:α} {Rs':List Res} (hu:P.underlying t=some (.slice T)) (hinfo:(P.info? T).map (fun i=>(i.zero,i.size,i.bytes))=some (some zv,z,bytes)) (hzv:zv.cells.size=z) (hp:0<z)
 (hs:e.ev sl=some (.slice A l.length c)) (hx:e.ev x=some (.slice (some ⟨g,0,none⟩) 1 1)) (hR:Rs=aA g T us.toArray::Rs') (hi:Rs'[i]? = some (aF T z E (.slice A l.length c) l)) (hl:us.length=z) (ho:us.all (·.oneCell')=true) (hE: ∀ w S,E.P w S us u) (hb:(l.length+1)*bytes≤140737488355328) (hm:l.length+1≤140737488355328) (hd:okd d n=true) :
 Ef P n F0 w0 e Rs ⟨d,.call ⟨.builtin .append,#[sl,x],#[t,t]⟩,ty,pos,af,gd⟩ (fun e' R=> ∃ A' c',e'=fu d (.slice A' (l ++ [u]).length c') e∧R=Rs'.set i (aF T z E (.slice A' (l ++ [u]).length c') (l ++ [u]))):=by
 subst hR
 intro a w K Q ha hst hk
 obtain⟨cells,k1,k2⟩:=aF.open_ (i+1) hst (by simpa using hi)
 obtain⟨q',w',r1,r2,r3,r4⟩:=rI (d:=d) (ty:=ty) (pos:=pos) (af:=af) (gd:=gd) ha hu hinfo hzv hp hs hx k1 hl (hst.blk 0 rfl) ho hb hm
 have h3:=k2 q' w' us u r2 r3 r4 hl hE
 have hlen:l.length+1=(l ++ [u]).length:=by simp
 rw[hlen] at r2
 obtain⟨A',c',rfl⟩:=fD r2
 unfold Oper.wp
 rw[r1]
 exact hk _ _ ⟨A',c',rfl,rfl⟩ _ _ (ha.putd hd) (h3.drop_)
theorem Ef.app2 (i j:Nat) {α:Type} {E:Rd α} {sl x:Operand} {T:TypeId} {z bytes g:Nat} {zv:Value} {us:List Value} {A:Option Addr} {c:Nat} {l:List α} {u:α} {Rs':List Res} {B:Res} (hu:P.underlying t=some (.slice T)) (hinfo:(P.info? T).map (fun i=>(i.zero,i.size,i.bytes))=some (some zv,z,bytes)) (hzv:zv.cells.size=z) (hp:0<z)
 (hs:e.ev sl=some (.slice A l.length c)) (hx:e.ev x=some (.slice (some ⟨g,0,none⟩) 1 1)) (hR:Rs=aA g T us.toArray::Rs') (hi:Rs'[i]? = some (aF T z E (.slice A l.length c) l)) (hj:(Rs'.eraseIdx i)[j]? = some B) (hl:us.length=z) (ho:us.all (·.oneCell')=true) (hE: ∀ w G,B.P w G→E.P w G us u) (hb:(l.length+1)*bytes≤140737488355328) (hm:l.length+1≤140737488355328) (hd:okd d n=true) :
 Ef P n F0 w0 e Rs ⟨d,.call ⟨.builtin .append,#[sl,x],#[t,t]⟩,ty,pos,af,gd⟩ (fun e' R=> ∃ A' c',e'=fu d (.slice A' (l ++ [u]).length c') e∧R=aF T z E (.slice A' (l ++ [u]).length c') (l ++ [u])::(Rs'.eraseIdx i).eraseIdx j):=by
 subst hR
 intro a w K Q ha hst hk
 obtain⟨cells,k1,k2⟩:=aF.open2 (B:=B) (i+1) (j+1) hst (by simpa using hi) (by simpa using hj)
 obtain⟨q',w',r1,r2,r3,r4⟩:=rI (d:=d) (ty:=ty) (pos:=pos) (af:=af) (gd:=gd) ha hu hinfo hzv hp hs hx k1 hl (hst.blk 0 rfl) ho hb hm
 have h3:=k2 q' w' us u r2 r3 r4 hl hE
 have hlen:l.length+1=(l ++ [u]).length:=by simp
 rw[hlen] at r2
 obtain⟨A',c',rfl⟩:=fD r2
 unfold Oper.wp
 rw[r1]
 have h4:=h3.del 1 (A:=aA g T us.toArray) rfl
 exact hk _ _ ⟨A',c',rfl,rfl⟩ _ _ (ha.putd hd) h4
def SOK (P:Program) (t T:TypeId) (m z:Nat) (zs:Array Value):Prop:= ∀ (parts:Array (Nat×Value)) (cells:Array Value) (w:World),Instr.fill (fun i=>some (i*z,z)) zs parts.toList=some cells→(Instr.buildSlice t m parts).run P w= .ok (.slice (some ⟨w.heap.size,0,none⟩) m m) (w.alloc (.cells cells T))
theorem Ef.lit {T m z:Nat} {zs cells:Array Value} {ps:List (Nat×Operand)} {vs:List Value} (hB:SOK P t T m z zs) (hv:e.evs (ps.map (·.2))=some vs) (hf:Instr.fill (fun i=>some (i*z,z)) zs ((ps.map (·.1)).zip vs)=some cells) (hd:okd d n=true) :
 Ef P n F0 w0 e Rs ⟨d,.buildSlice t m ps.toArray,ty,pos,af,gd⟩ (fun e' Rs'=> ∃ b,e'=fu d (.slice (some ⟨b,0,none⟩) m m) e∧Rs'=aA b T cells::Rs):=by
 intro a w K Q ha hs hk
 have h1:=ha.evs hv
 have h2:ps.map (fun p=>(p.1,a.eval p.2))=(ps.map (·.1)).zip vs:=by
  rw[← h1]
  clear h1 hf hv
  induction ps with
  | nil=>rfl
  | cons p ps ih=>simp[ih]
 have h3:=hB (ps.map (fun p=>(p.1,a.eval p.2))).toArray cells w (by simpa [h2] using hf)
 unfold Oper.wp
 simp only[execOp,List.map_toArray,Sem.run_bind]
 rw[h3]
 exact hk _ _ ⟨_,rfl,rfl⟩ _ _ (ha.putd hd) (hs.alloc _ _)
theorem St.rowOf {α:Type} {E:Rd α} {b T z m:Nat} {us:List Value} {l:List α} {w:World} (h:St F0 w0 (aA b T us.toArray::Rs) w) (hm:l.length=m) (hmm:m≤maxLen) (he: ∀ w,bV z E w (fun _=>False) us l) :
 St F0 w0 (aF T z E (.slice (some ⟨b,0,none⟩) m m) l::Rs) w:=by
 subst hm
 refine h.weaken 0 rfl (fun G hG=> ?_)
 have hl:=eE (he w)
 refine⟨us,fun _=>False,⟨hl,.inr ⟨b,l.length,us.toArray,rfl,yw _,hG.1,yn _,hmm,by simpa using hl,?_⟩⟩,he w,fun _ h=>h.elim,fun _ _ h=>h,fun k=> ?_⟩
 ·simp[← hl]
 ·rw[hG.2 k]
  simp[Value.ownBlock,eq_comm]
end
section
variable {P:Program} {n:Nat} {F0:Nat→Prop} {w0:World} {e:Env} {Rs Rf:List Res} {Q:Exit→Act→World→Prop} {ops:Array Oper} {i d b o z f T:Nat} {ty t el:TypeId} {pos:String} {af:Array Edge} {gd:Option (Nat×Bool)} {v zv:Value} {x y:Operand} {l:List Nat} {xs:List Operand} {vs:List Value} {ts:Array TypeId} {Y:RX} {A B:Res} {R:Value→Res→List Res→Prop} {c:Code} {cl:Call}
theorem wW {α:Type} {E:Rd α} {m:Nat} {us:List Value} {xs:List α} (hm:xs.length=m) (hmm:m≤maxLen) (he: ∀ w,bV z E w (fun _=>False) us xs) (h:TL P n F0 w0 ops l e (aF T z E (.slice (some ⟨b,0,none⟩) m m) xs::Rs) Q):TL P n F0 w0 ops l e (aA b T us.toArray::Rs) Q:=fun a w ha hs=>h a w ha (hs.rowOf hm hmm he)
theorem wX {α:Type} {E:Rd α} {m:Nat} {us:List Value} {xs:List α} {l:Sch} (hm:xs.length=m) (hmm:m≤maxLen) (he: ∀ w,bV z E w (fun _=>False) us xs) (h:TD P n F0 w0 ops l Rf e (aF T z E (.slice (some ⟨b,0,none⟩) m m) xs::Rs) Q):TD P n F0 w0 ops l Rf e (aA b T us.toArray::Rs) Q:=fun a w ha hs=>h a w ha (hs.rowOf hm hmm he)
theorem TL.alloc  (ho:ops[i]? = some ⟨some d,.alloc t,ty,pos,af,gd⟩) (hw:Wd n ops e ⟨some d,.alloc t,ty,pos,af,gd⟩ true) (hz: ∀ w,(zeroValue t).run P w= .ok zv w) (hd:Nat.blt d n=true) (h: ∀ b,TL P n F0 w0 ops l ((d,.pointer (some ⟨b,0,none⟩))::e) (aA b t zv.cells::Rs) Q):TL P n F0 w0 ops (i::l) e Rs Q:=by
 refine v8 ho hw (Ef.alloc hz hd) ?_
 rintro _ _ ⟨b,rfl,rfl⟩
 exact h b
theorem TD.alloc  {l:Sch} (ho:ops[i]? = some ⟨some d,.alloc t,ty,pos,af,gd⟩) (hw:Wd n ops e ⟨some d,.alloc t,ty,pos,af,gd⟩ true) (hz: ∀ w,(zeroValue t).run P w= .ok zv w) (hd:Nat.blt d n=true) (is:List Nat) (hf: ∀ b,Sel (aA b t zv.cells::Rs) is Rf) (h: ∀ b,TD P n F0 w0 ops l Rf ((d,.pointer (some ⟨b,0,none⟩))::e) (aA b t zv.cells::Rs) Q):TD P n F0 w0 ops (.e i l) Rf e Rs Q:=by
 refine wt ho hw (Ef.alloc hz hd) ?_
 rintro _ _ ⟨b,rfl,rfl⟩
 exact⟨Rf,fun w hw=>hw.sel is (hf b),fun _ h=>h,h b⟩
theorem TL.box  (ho:ops[i]? = some ⟨some d,.box t x,ty,pos,af,gd⟩) (hw:Wd n ops e ⟨some d,.box t x,ty,pos,af,gd⟩ true) (hx:e.ev x=some v) (hd:Nat.blt d n=true) (h: ∀ b,TL P n F0 w0 ops l ((d,.pointer (some ⟨b,0,none⟩))::e) (aA b t v.cells::Rs) Q):TL P n F0 w0 ops (i::l) e Rs Q:=by
 refine v8 ho hw (Ef.box hx hd) ?_
 rintro _ _ ⟨b,rfl,rfl⟩
 exact h b
theorem wG {m:Nat} {zs cells:Array Value} {ps:List (Nat×Operand)} (ho:ops[i]? = some ⟨some d,.buildSlice t m ps.toArray,ty,pos,af,gd⟩) (hw:Wd n ops e ⟨some d,.buildSlice t m ps.toArray,ty,pos,af,gd⟩ true) (hB:SOK P t T m z zs) (hv:e.evs (ps.map (·.2))=some vs) (hf':Instr.fill (fun i=>some (i*z,z)) zs ((ps.map (·.1)).zip vs)=some cells) (hd:Nat.blt d n=true) (h: ∀ b,TL P n F0 w0 ops l ((d,.slice (some ⟨b,0,none⟩) m m)::e) (aA b T cells::Rs) Q):TL P n F0 w0 ops (i::l) e Rs Q:=by
 refine v8 ho hw (Ef.lit hB hv hf' hd) ?_
 rintro _ _ ⟨b,rfl,rfl⟩
 exact h b
theorem xb {m:Nat} {zs cells:Array Value} {ps:List (Nat×Operand)} {l:Sch} (ho:ops[i]? = some ⟨some d,.buildSlice t m ps.toArray,ty,pos,af,gd⟩) (hw:Wd n ops e ⟨some d,.buildSlice t m ps.toArray,ty,pos,af,gd⟩ true) (hB:SOK P t T m z zs) (hv:e.evs (ps.map (·.2))=some vs) (hf':Instr.fill (fun i=>some (i*z,z)) zs ((ps.map (·.1)).zip vs)=some cells) (hd:Nat.blt d n=true) (is:List Nat) (hf: ∀ b,Sel (aA b T cells::Rs) is Rf) (h: ∀ b,TD P n F0 w0 ops l Rf ((d,.slice (some ⟨b,0,none⟩) m m)::e) (aA b T cells::Rs) Q):TD P n F0 w0 ops (.e i l) Rf e Rs Q:=by
 refine wt ho hw (Ef.lit hB hv hf' hd) ?_
 rintro _ _ ⟨b,rfl,rfl⟩
 exact⟨Rf,fun w hw=>hw.sel is (hf b),fun _ h=>h,h b⟩
theorem vG {cs cs':Array Value}  (ho:ops[i]? = some ⟨none,.store t x y,ty,pos,af,gd⟩) (hw:Wd n ops e ⟨none,.store t x y,ty,pos,af,gd⟩ true) (hx:e.ev x=some (.pointer (some ⟨b,o,none⟩))) (hy:e.ev y=some v) (hz: ∀ w,(sizeOf t).run P w= .ok z w) (hvz:Nat.beq v.cells.size z=true) (hf':Nat.ble (o+v.cells.size) cs.size=true) (ho':v.cells.toList.all (·.oneCell')=true) (hc:(cs.toList.take o++v.cells.toList++cs.toList.drop (o+v.cells.size)).toArray=cs') (h:TL P n F0 w0 ops l e (aA b T cs'::Rs) Q):TL P n F0 w0 ops (i::l) e (aA b T cs::Rs) Q:=by
 refine v8 ho hw (wZ 0 hx hy hz rfl hvz hf' ho' hc) ?_
 rintro _ _ ⟨rfl,rfl⟩
 exact h
theorem TD.st0 {cs cs':Array Value}  {l:Sch} (ho:ops[i]? = some ⟨none,.store t x y,ty,pos,af,gd⟩) (hw:Wd n ops e ⟨none,.store t x y,ty,pos,af,gd⟩ true) (hx:e.ev x=some (.pointer (some ⟨b,o,none⟩))) (hy:e.ev y=some v) (hz: ∀ w,(sizeOf t).run P w= .ok z w) (hvz:Nat.beq v.cells.size z=true) (hf':Nat.ble (o+v.cells.size) cs.size=true) (ho':v.cells.toList.all (·.oneCell')=true) (hc:(cs.toList.take o++v.cells.toList++cs.toList.drop (o+v.cells.size)).toArray=cs') (is:List Nat) (hf:Sel (aA b T cs'::Rs) is Rf) (h:TD P n F0 w0 ops l Rf e (aA b T cs'::Rs) Q):TD P n F0 w0 ops (.e i l) Rf e (aA b T cs::Rs) Q:=by
 refine wt ho hw (wZ 0 hx hy hz rfl hvz hf' ho' hc) ?_
 rintro _ _ ⟨rfl,rfl⟩
 exact⟨Rf,fun w hw=>hw.sel is (hf),fun _ h=>h,h⟩
theorem vX  (ho:ops[i]? = some ⟨some d,.call cl,ty,pos,af,gd⟩) (hw:Wd n ops e ⟨some d,.call cl,ty,pos,af,gd⟩ true) (hc:CT P n e ⟨some d,.call cl,ty,pos,af,gd⟩ f vs) (hs:ar P f vs.toArray Y A (fun v' A' N=>v'=v∧A'=B∧N = [])) (hr: ∀ w,St F0 w0 (A::Rs) w→Src F0 w0 (A::Rs) w 0 Y) (hd:Nat.blt d n=true) (h:TL P n F0 w0 ops l ((d,v)::e) (B::Rs) Q):TL P n F0 w0 ops (i::l) e (A::Rs) Q:=by
 refine v8 ho hw (Ef.call 0 hc rfl hs hr hd) ?_
 rintro _ _ ⟨_,_,_,⟨rfl,rfl,rfl⟩,rfl,rfl⟩
 exact h
theorem TD.c0  {l:Sch} (ho:ops[i]? = some ⟨some d,.call cl,ty,pos,af,gd⟩) (hw:Wd n ops e ⟨some d,.call cl,ty,pos,af,gd⟩ true) (hc:CT P n e ⟨some d,.call cl,ty,pos,af,gd⟩ f vs) (hs:ar P f vs.toArray Y A (fun v' A' N=>v'=v∧A'=B∧N = [])) (hr: ∀ w,St F0 w0 (A::Rs) w→Src F0 w0 (A::Rs) w 0 Y) (hd:Nat.blt d n=true) (is:List Nat) (hf:Sel (B::Rs) is Rf) (h:TD P n F0 w0 ops l Rf ((d,v)::e) (B::Rs) Q):TD P n F0 w0 ops (.e i l) Rf e (A::Rs) Q:=by
 refine wt ho hw (Ef.call 0 hc rfl hs hr hd) ?_
 rintro _ _ ⟨_,_,_,⟨rfl,rfl,rfl⟩,rfl,rfl⟩
 exact⟨Rf,fun w hw=>hw.sel is (hf),fun _ h=>h,h⟩
theorem TL.cg0  (ho:ops[i]? = some ⟨some d,.call cl,ty,pos,af,gd⟩) (hw:Wd n ops e ⟨some d,.call cl,ty,pos,af,gd⟩ true) (hc:CT P n e ⟨some d,.call cl,ty,pos,af,gd⟩ f vs) (hs:ar P f vs.toArray Y A R) (hr: ∀ w,St F0 w0 (A::Rs) w→Src F0 w0 (A::Rs) w 0 Y) (hd:Nat.blt d n=true) (h: ∀ v A' N,R v A' N→TL P n F0 w0 ops l ((d,v)::e) (N++A'::Rs) Q):TL P n F0 w0 ops (i::l) e (A::Rs) Q:=by
 refine v8 ho hw (Ef.call 0 hc rfl hs hr hd) ?_
 rintro _ _ ⟨v,A',N,hR,rfl,rfl⟩
 exact h v A' N hR
theorem xf {cs cs':Array Value} {R0:Res} (ho:ops[i]? = some ⟨none,.store t x y,ty,pos,af,gd⟩) (hw:Wd n ops e ⟨none,.store t x y,ty,pos,af,gd⟩ true) (hx:e.ev x=some (.pointer (some ⟨b,o,none⟩))) (hy:e.ev y=some v) (hz: ∀ w,(sizeOf t).run P w= .ok z w) (hvz:Nat.beq v.cells.size z=true) (hf':Nat.ble (o+v.cells.size) cs.size=true) (ho':v.cells.toList.all (·.oneCell')=true) (hc:(cs.toList.take o++v.cells.toList++cs.toList.drop (o+v.cells.size)).toArray=cs') (h:TL P n F0 w0 ops l e (R0::aA b T cs'::Rs) Q):TL P n F0 w0 ops (i::l) e (R0::aA b T cs::Rs) Q:=by
 refine v8 ho hw (wZ 1 hx hy hz rfl hvz hf' ho' hc) ?_
 rintro _ _ ⟨rfl,rfl⟩
 exact h
theorem wc {R0:Res} (ho:ops[i]? = some ⟨some d,.call cl,ty,pos,af,gd⟩) (hw:Wd n ops e ⟨some d,.call cl,ty,pos,af,gd⟩ true) (hc:CT P n e ⟨some d,.call cl,ty,pos,af,gd⟩ f vs) (hs:ar P f vs.toArray Y A (fun v' A' N=>v'=v∧A'=B∧N = [])) (hr: ∀ w,St F0 w0 (R0::A::Rs) w→Src F0 w0 (R0::A::Rs) w 1 Y) (hd:Nat.blt d n=true) (h:TL P n F0 w0 ops l ((d,v)::e) (R0::B::Rs) Q):TL P n F0 w0 ops (i::l) e (R0::A::Rs) Q:=by
 refine v8 ho hw (Ef.call 1 hc rfl hs hr hd) ?_
 rintro _ _ ⟨_,_,_,⟨rfl,rfl,rfl⟩,rfl,rfl⟩
 exact h
theorem TD.c1 {R0:Res} {l:Sch} (ho:ops[i]? = some ⟨some d,.call cl,ty,pos,af,gd⟩) (hw:Wd n ops e ⟨some d,.call cl,ty,pos,af,gd⟩ true) (hc:CT P n e ⟨some d,.call cl,ty,pos,af,gd⟩ f vs) (hs:ar P f vs.toArray Y A (fun v' A' N=>v'=v∧A'=B∧N = [])) (hr: ∀ w,St F0 w0 (R0::A::Rs) w→Src F0 w0 (R0::A::Rs) w 1 Y) (hd:Nat.blt d n=true) (is:List Nat) (hf:Sel (R0::B::Rs) is Rf) (h:TD P n F0 w0 ops l Rf ((d,v)::e) (R0::B::Rs) Q):TD P n F0 w0 ops (.e i l) Rf e (R0::A::Rs) Q:=by
 refine wt ho hw (Ef.call 1 hc rfl hs hr hd) ?_
 rintro _ _ ⟨_,_,_,⟨rfl,rfl,rfl⟩,rfl,rfl⟩
 exact⟨Rf,fun w hw=>hw.sel is (hf),fun _ h=>h,h⟩
theorem TL.cg1 {R0:Res} (ho:ops[i]? = some ⟨some d,.call cl,ty,pos,af,gd⟩) (hw:Wd n ops e ⟨some d,.call cl,ty,pos,af,gd⟩ true) (hc:CT P n e ⟨some d,.call cl,ty,pos,af,gd⟩ f vs) (hs:ar P f vs.toArray Y A R) (hr: ∀ w,St F0 w0 (R0::A::Rs) w→Src F0 w0 (R0::A::Rs) w 1 Y) (hd:Nat.blt d n=true) (h: ∀ v A' N,R v A' N→TL P n F0 w0 ops l ((d,v)::e) (N++R0::A'::Rs) Q):TL P n F0 w0 ops (i::l) e (R0::A::Rs) Q:=by
 refine v8 ho hw (Ef.call 1 hc rfl hs hr hd) ?_
 rintro _ _ ⟨v,A',N,hR,rfl,rfl⟩
 exact h v A' N hR
theorem TL.st2 {cs cs':Array Value} {R0 R1:Res} (ho:ops[i]? = some ⟨none,.store t x y,ty,pos,af,gd⟩) (hw:Wd n ops e ⟨none,.store t x y,ty,pos,af,gd⟩ true) (hx:e.ev x=some (.pointer (some ⟨b,o,none⟩))) (hy:e.ev y=some v) (hz: ∀ w,(sizeOf t).run P w= .ok z w) (hvz:Nat.beq v.cells.size z=true) (hf':Nat.ble (o+v.cells.size) cs.size=true) (ho':v.cells.toList.all (·.oneCell')=true) (hc:(cs.toList.take o++v.cells.toList++cs.toList.drop (o+v.cells.size)).toArray=cs') (h:TL P n F0 w0 ops l e (R0::R1::aA b T cs'::Rs) Q):TL P n F0 w0 ops (i::l) e (R0::R1::aA b T cs::Rs) Q:=by
 refine v8 ho hw (wZ 2 hx hy hz rfl hvz hf' ho' hc) ?_
 rintro _ _ ⟨rfl,rfl⟩
 exact h
theorem wN {R0 R1:Res} (ho:ops[i]? = some ⟨some d,.call cl,ty,pos,af,gd⟩) (hw:Wd n ops e ⟨some d,.call cl,ty,pos,af,gd⟩ true) (hc:CT P n e ⟨some d,.call cl,ty,pos,af,gd⟩ f vs) (hs:ar P f vs.toArray Y A (fun v' A' N=>v'=v∧A'=B∧N = [])) (hr: ∀ w,St F0 w0 (R0::R1::A::Rs) w→Src F0 w0 (R0::R1::A::Rs) w 2 Y) (hd:Nat.blt d n=true) (h:TL P n F0 w0 ops l ((d,v)::e) (R0::R1::B::Rs) Q):TL P n F0 w0 ops (i::l) e (R0::R1::A::Rs) Q:=by
 refine v8 ho hw (Ef.call 2 hc rfl hs hr hd) ?_
 rintro _ _ ⟨_,_,_,⟨rfl,rfl,rfl⟩,rfl,rfl⟩
 exact h
theorem ww {cs cs':Array Value} {R0 R1 R2:Res} (ho:ops[i]? = some ⟨none,.store t x y,ty,pos,af,gd⟩) (hw:Wd n ops e ⟨none,.store t x y,ty,pos,af,gd⟩ true) (hx:e.ev x=some (.pointer (some ⟨b,o,none⟩))) (hy:e.ev y=some v) (hz: ∀ w,(sizeOf t).run P w= .ok z w) (hvz:Nat.beq v.cells.size z=true) (hf':Nat.ble (o+v.cells.size) cs.size=true) (ho':v.cells.toList.all (·.oneCell')=true) (hc:(cs.toList.take o++v.cells.toList++cs.toList.drop (o+v.cells.size)).toArray=cs') (h:TL P n F0 w0 ops l e (R0::R1::R2::aA b T cs'::Rs) Q):TL P n F0 w0 ops (i::l) e (R0::R1::R2::aA b T cs::Rs) Q:=by
 refine v8 ho hw (wZ 3 hx hy hz rfl hvz hf' ho' hc) ?_
 rintro _ _ ⟨rfl,rfl⟩
 exact h
theorem wx {cs cs':Array Value} {R0 R1 R2:Res} {l:Sch} (ho:ops[i]? = some ⟨none,.store t x y,ty,pos,af,gd⟩) (hw:Wd n ops e ⟨none,.store t x y,ty,pos,af,gd⟩ true) (hx:e.ev x=some (.pointer (some ⟨b,o,none⟩))) (hy:e.ev y=some v) (hz: ∀ w,(sizeOf t).run P w= .ok z w) (hvz:Nat.beq v.cells.size z=true) (hf':Nat.ble (o+v.cells.size) cs.size=true) (ho':v.cells.toList.all (·.oneCell')=true) (hc:(cs.toList.take o++v.cells.toList++cs.toList.drop (o+v.cells.size)).toArray=cs') (is:List Nat) (hf:Sel (R0::R1::R2::aA b T cs'::Rs) is Rf) (h:TD P n F0 w0 ops l Rf e (R0::R1::R2::aA b T cs'::Rs) Q):TD P n F0 w0 ops (.e i l) Rf e (R0::R1::R2::aA b T cs::Rs) Q:=by
 refine wt ho hw (wZ 3 hx hy hz rfl hvz hf' ho' hc) ?_
 rintro _ _ ⟨rfl,rfl⟩
 exact⟨Rf,fun w hw=>hw.sel is (hf),fun _ h=>h,h⟩
theorem TL.c3 {R0 R1 R2:Res} (ho:ops[i]? = some ⟨some d,.call cl,ty,pos,af,gd⟩) (hw:Wd n ops e ⟨some d,.call cl,ty,pos,af,gd⟩ true) (hc:CT P n e ⟨some d,.call cl,ty,pos,af,gd⟩ f vs) (hs:ar P f vs.toArray Y A (fun v' A' N=>v'=v∧A'=B∧N = [])) (hr: ∀ w,St F0 w0 (R0::R1::R2::A::Rs) w→Src F0 w0 (R0::R1::R2::A::Rs) w 3 Y) (hd:Nat.blt d n=true) (h:TL P n F0 w0 ops l ((d,v)::e) (R0::R1::R2::B::Rs) Q):TL P n F0 w0 ops (i::l) e (R0::R1::R2::A::Rs) Q:=by
 refine v8 ho hw (Ef.call 3 hc rfl hs hr hd) ?_
 rintro _ _ ⟨_,_,_,⟨rfl,rfl,rfl⟩,rfl,rfl⟩
 exact h
theorem TL.st4 {cs cs':Array Value} {R0 R1 R2 R3:Res} (ho:ops[i]? = some ⟨none,.store t x y,ty,pos,af,gd⟩) (hw:Wd n ops e ⟨none,.store t x y,ty,pos,af,gd⟩ true) (hx:e.ev x=some (.pointer (some ⟨b,o,none⟩))) (hy:e.ev y=some v) (hz: ∀ w,(sizeOf t).run P w= .ok z w) (hvz:Nat.beq v.cells.size z=true) (hf':Nat.ble (o+v.cells.size) cs.size=true) (ho':v.cells.toList.all (·.oneCell')=true) (hc:(cs.toList.take o++v.cells.toList++cs.toList.drop (o+v.cells.size)).toArray=cs') (h:TL P n F0 w0 ops l e (R0::R1::R2::R3::aA b T cs'::Rs) Q):TL P n F0 w0 ops (i::l) e (R0::R1::R2::R3::aA b T cs::Rs) Q:=by
 refine v8 ho hw (wZ 4 hx hy hz rfl hvz hf' ho' hc) ?_
 rintro _ _ ⟨rfl,rfl⟩
 exact h
theorem wH {cs cs':Array Value} {R0 R1 R2 R3:Res} {l:Sch} (ho:ops[i]? = some ⟨none,.store t x y,ty,pos,af,gd⟩) (hw:Wd n ops e ⟨none,.store t x y,ty,pos,af,gd⟩ true) (hx:e.ev x=some (.pointer (some ⟨b,o,none⟩))) (hy:e.ev y=some v) (hz: ∀ w,(sizeOf t).run P w= .ok z w) (hvz:Nat.beq v.cells.size z=true) (hf':Nat.ble (o+v.cells.size) cs.size=true) (ho':v.cells.toList.all (·.oneCell')=true) (hc:(cs.toList.take o++v.cells.toList++cs.toList.drop (o+v.cells.size)).toArray=cs') (is:List Nat) (hf:Sel (R0::R1::R2::R3::aA b T cs'::Rs) is Rf) (h:TD P n F0 w0 ops l Rf e (R0::R1::R2::R3::aA b T cs'::Rs) Q):TD P n F0 w0 ops (.e i l) Rf e (R0::R1::R2::R3::aA b T cs::Rs) Q:=by
 refine wt ho hw (wZ 4 hx hy hz rfl hvz hf' ho' hc) ?_
 rintro _ _ ⟨rfl,rfl⟩
 exact⟨Rf,fun w hw=>hw.sel is (hf),fun _ h=>h,h⟩
theorem TL.c4 {R0 R1 R2 R3:Res} (ho:ops[i]? = some ⟨some d,.call cl,ty,pos,af,gd⟩) (hw:Wd n ops e ⟨some d,.call cl,ty,pos,af,gd⟩ true) (hc:CT P n e ⟨some d,.call cl,ty,pos,af,gd⟩ f vs) (hs:ar P f vs.toArray Y A (fun v' A' N=>v'=v∧A'=B∧N = [])) (hr: ∀ w,St F0 w0 (R0::R1::R2::R3::A::Rs) w→Src F0 w0 (R0::R1::R2::R3::A::Rs) w 4 Y) (hd:Nat.blt d n=true) (h:TL P n F0 w0 ops l ((d,v)::e) (R0::R1::R2::R3::B::Rs) Q):TL P n F0 w0 ops (i::l) e (R0::R1::R2::R3::A::Rs) Q:=by
 refine v8 ho hw (Ef.call 4 hc rfl hs hr hd) ?_
 rintro _ _ ⟨_,_,_,⟨rfl,rfl,rfl⟩,rfl,rfl⟩
 exact h
theorem TD.c4 {R0 R1 R2 R3:Res} {l:Sch} (ho:ops[i]? = some ⟨some d,.call cl,ty,pos,af,gd⟩) (hw:Wd n ops e ⟨some d,.call cl,ty,pos,af,gd⟩ true) (hc:CT P n e ⟨some d,.call cl,ty,pos,af,gd⟩ f vs) (hs:ar P f vs.toArray Y A (fun v' A' N=>v'=v∧A'=B∧N = [])) (hr: ∀ w,St F0 w0 (R0::R1::R2::R3::A::Rs) w→Src F0 w0 (R0::R1::R2::R3::A::Rs) w 4 Y) (hd:Nat.blt d n=true) (is:List Nat) (hf:Sel (R0::R1::R2::R3::B::Rs) is Rf) (h:TD P n F0 w0 ops l Rf ((d,v)::e) (R0::R1::R2::R3::B::Rs) Q):TD P n F0 w0 ops (.e i l) Rf e (R0::R1::R2::R3::A::Rs) Q:=by
 refine wt ho hw (Ef.call 4 hc rfl hs hr hd) ?_
 rintro _ _ ⟨_,_,_,⟨rfl,rfl,rfl⟩,rfl,rfl⟩
 exact⟨Rf,fun w hw=>hw.sel is (hf),fun _ h=>h,h⟩
theorem TL.st5 {cs cs':Array Value} {R0 R1 R2 R3 R4:Res} (ho:ops[i]? = some ⟨none,.store t x y,ty,pos,af,gd⟩) (hw:Wd n ops e ⟨none,.store t x y,ty,pos,af,gd⟩ true) (hx:e.ev x=some (.pointer (some ⟨b,o,none⟩))) (hy:e.ev y=some v) (hz: ∀ w,(sizeOf t).run P w= .ok z w) (hvz:Nat.beq v.cells.size z=true) (hf':Nat.ble (o+v.cells.size) cs.size=true) (ho':v.cells.toList.all (·.oneCell')=true) (hc:(cs.toList.take o++v.cells.toList++cs.toList.drop (o+v.cells.size)).toArray=cs') (h:TL P n F0 w0 ops l e (R0::R1::R2::R3::R4::aA b T cs'::Rs) Q):TL P n F0 w0 ops (i::l) e (R0::R1::R2::R3::R4::aA b T cs::Rs) Q:=by
 refine v8 ho hw (wZ 5 hx hy hz rfl hvz hf' ho' hc) ?_
 rintro _ _ ⟨rfl,rfl⟩
 exact h
theorem TL.c5 {R0 R1 R2 R3 R4:Res} (ho:ops[i]? = some ⟨some d,.call cl,ty,pos,af,gd⟩) (hw:Wd n ops e ⟨some d,.call cl,ty,pos,af,gd⟩ true) (hc:CT P n e ⟨some d,.call cl,ty,pos,af,gd⟩ f vs) (hs:ar P f vs.toArray Y A (fun v' A' N=>v'=v∧A'=B∧N = [])) (hr: ∀ w,St F0 w0 (R0::R1::R2::R3::R4::A::Rs) w→Src F0 w0 (R0::R1::R2::R3::R4::A::Rs) w 5 Y) (hd:Nat.blt d n=true) (h:TL P n F0 w0 ops l ((d,v)::e) (R0::R1::R2::R3::R4::B::Rs) Q):TL P n F0 w0 ops (i::l) e (R0::R1::R2::R3::R4::A::Rs) Q:=by
 refine v8 ho hw (Ef.call 5 hc rfl hs hr hd) ?_
 rintro _ _ ⟨_,_,_,⟨rfl,rfl,rfl⟩,rfl,rfl⟩
 exact h
theorem wK {R0 R1 R2 R3 R4:Res} {l:Sch} (ho:ops[i]? = some ⟨some d,.call cl,ty,pos,af,gd⟩) (hw:Wd n ops e ⟨some d,.call cl,ty,pos,af,gd⟩ true) (hc:CT P n e ⟨some d,.call cl,ty,pos,af,gd⟩ f vs) (hs:ar P f vs.toArray Y A (fun v' A' N=>v'=v∧A'=B∧N = [])) (hr: ∀ w,St F0 w0 (R0::R1::R2::R3::R4::A::Rs) w→Src F0 w0 (R0::R1::R2::R3::R4::A::Rs) w 5 Y) (hd:Nat.blt d n=true) (is:List Nat) (hf:Sel (R0::R1::R2::R3::R4::B::Rs) is Rf) (h:TD P n F0 w0 ops l Rf ((d,v)::e) (R0::R1::R2::R3::R4::B::Rs) Q):TD P n F0 w0 ops (.e i l) Rf e (R0::R1::R2::R3::R4::A::Rs) Q:=by
 refine wt ho hw (Ef.call 5 hc rfl hs hr hd) ?_
 rintro _ _ ⟨_,_,_,⟨rfl,rfl,rfl⟩,rfl,rfl⟩
 exact⟨Rf,fun w hw=>hw.sel is (hf),fun _ h=>h,h⟩
theorem TL.st6 {cs cs':Array Value} {R0 R1 R2 R3 R4 R5:Res} (ho:ops[i]? = some ⟨none,.store t x y,ty,pos,af,gd⟩) (hw:Wd n ops e ⟨none,.store t x y,ty,pos,af,gd⟩ true) (hx:e.ev x=some (.pointer (some ⟨b,o,none⟩))) (hy:e.ev y=some v) (hz: ∀ w,(sizeOf t).run P w= .ok z w) (hvz:Nat.beq v.cells.size z=true) (hf':Nat.ble (o+v.cells.size) cs.size=true) (ho':v.cells.toList.all (·.oneCell')=true) (hc:(cs.toList.take o++v.cells.toList++cs.toList.drop (o+v.cells.size)).toArray=cs') (h:TL P n F0 w0 ops l e (R0::R1::R2::R3::R4::R5::aA b T cs'::Rs) Q):TL P n F0 w0 ops (i::l) e (R0::R1::R2::R3::R4::R5::aA b T cs::Rs) Q:=by
 refine v8 ho hw (wZ 6 hx hy hz rfl hvz hf' ho' hc) ?_
 rintro _ _ ⟨rfl,rfl⟩
 exact h
theorem wO {R0 R1 R2 R3 R4 R5:Res} {l:Sch} (ho:ops[i]? = some ⟨some d,.call cl,ty,pos,af,gd⟩) (hw:Wd n ops e ⟨some d,.call cl,ty,pos,af,gd⟩ true) (hc:CT P n e ⟨some d,.call cl,ty,pos,af,gd⟩ f vs) (hs:ar P f vs.toArray Y A (fun v' A' N=>v'=v∧A'=B∧N = [])) (hr: ∀ w,St F0 w0 (R0::R1::R2::R3::R4::R5::A::Rs) w→Src F0 w0 (R0::R1::R2::R3::R4::R5::A::Rs) w 6 Y) (hd:Nat.blt d n=true) (is:List Nat) (hf:Sel (R0::R1::R2::R3::R4::R5::B::Rs) is Rf) (h:TD P n F0 w0 ops l Rf ((d,v)::e) (R0::R1::R2::R3::R4::R5::B::Rs) Q):TD P n F0 w0 ops (.e i l) Rf e (R0::R1::R2::R3::R4::R5::A::Rs) Q:=by
 refine wt ho hw (Ef.call 6 hc rfl hs hr hd) ?_
 rintro _ _ ⟨_,_,_,⟨rfl,rfl,rfl⟩,rfl,rfl⟩
 exact⟨Rf,fun w hw=>hw.sel is (hf),fun _ h=>h,h⟩
theorem TL.c7 {R0 R1 R2 R3 R4 R5 R6:Res} (ho:ops[i]? = some ⟨some d,.call cl,ty,pos,af,gd⟩) (hw:Wd n ops e ⟨some d,.call cl,ty,pos,af,gd⟩ true) (hc:CT P n e ⟨some d,.call cl,ty,pos,af,gd⟩ f vs) (hs:ar P f vs.toArray Y A (fun v' A' N=>v'=v∧A'=B∧N = [])) (hr: ∀ w,St F0 w0 (R0::R1::R2::R3::R4::R5::R6::A::Rs) w→Src F0 w0 (R0::R1::R2::R3::R4::R5::R6::A::Rs) w 7 Y) (hd:Nat.blt d n=true) (h:TL P n F0 w0 ops l ((d,v)::e) (R0::R1::R2::R3::R4::R5::R6::B::Rs) Q):TL P n F0 w0 ops (i::l) e (R0::R1::R2::R3::R4::R5::R6::A::Rs) Q:=by
 refine v8 ho hw (Ef.call 7 hc rfl hs hr hd) ?_
 rintro _ _ ⟨_,_,_,⟨rfl,rfl,rfl⟩,rfl,rfl⟩
 exact h
theorem wy  (ho:ops[i]? = some ⟨some d,.call cl,ty,pos,af,gd⟩) (hw:Wd n ops e ⟨some d,.call cl,ty,pos,af,gd⟩ true) (hc:CT P n e ⟨some d,.call cl,ty,pos,af,gd⟩ f vs) (hs:ar P f vs.toArray Y av R) (hr: ∀ w,St F0 w0 Rs w→Y.reads w (fun _=>False)) (hd:Nat.blt d n=true) (h: ∀ v A' N,R v A' N→TL P n F0 w0 ops l ((d,v)::e) (N++Rs) Q):TL P n F0 w0 ops (i::l) e Rs Q:=by
 refine v8 ho hw (Ef.callE hc hs hr hd) ?_
 rintro _ _ ⟨v,A',N,hR,rfl,rfl⟩
 exact h v A' N hR
theorem TD.cge  {l:Sch} (ho:ops[i]? = some ⟨some d,.call cl,ty,pos,af,gd⟩) (hw:Wd n ops e ⟨some d,.call cl,ty,pos,af,gd⟩ true) (hc:CT P n e ⟨some d,.call cl,ty,pos,af,gd⟩ f vs) (hs:ar P f vs.toArray Y av R) (hr: ∀ w,St F0 w0 Rs w→Y.reads w (fun _=>False)) (hd:Nat.blt d n=true) (is:List Nat) (hf: ∀ v A' N,R v A' N→Sel (N++Rs) is Rf) (h: ∀ v A' N,R v A' N→TD P n F0 w0 ops l Rf ((d,v)::e) (N++Rs) Q):TD P n F0 w0 ops (.e i l) Rf e Rs Q:=by
 refine wt ho hw (Ef.callE hc hs hr hd) ?_
 rintro _ _ ⟨v,A',N,hR,rfl,rfl⟩
 exact⟨Rf,fun w hw=>hw.sel is (hf v A' N hR),fun _ h=>h,h v A' N hR⟩
theorem vL  (ho:ops[i]? = some ⟨some d,.call cl,ty,pos,af,gd⟩) (hw:Wd n ops e ⟨some d,.call cl,ty,pos,af,gd⟩ true) (hc:CT P n e ⟨some d,.call cl,ty,pos,af,gd⟩ f vs) (hs:ar P f vs.toArray Y av (fun v' A' N=>v'=v∧A'=av∧N = [])) (hr: ∀ w,St F0 w0 Rs w→Y.reads w (fun _=>False)) (hd:Nat.blt d n=true) (h:TL P n F0 w0 ops l ((d,v)::e) Rs Q):TL P n F0 w0 ops (i::l) e Rs Q:=by
 refine v8 ho hw (Ef.callE hc hs hr hd) ?_
 rintro _ _ ⟨_,_,_,⟨rfl,rfl,rfl⟩,rfl,rfl⟩
 exact h
theorem vY  {l:Sch} (ho:ops[i]? = some ⟨some d,.call cl,ty,pos,af,gd⟩) (hw:Wd n ops e ⟨some d,.call cl,ty,pos,af,gd⟩ true) (hc:CT P n e ⟨some d,.call cl,ty,pos,af,gd⟩ f vs) (hs:ar P f vs.toArray Y av (fun v' A' N=>v'=v∧A'=av∧N = [])) (hr: ∀ w,St F0 w0 Rs w→Y.reads w (fun _=>False)) (hd:Nat.blt d n=true) (is:List Nat) (hf:Sel Rs is Rf) (h:TD P n F0 w0 ops l Rf ((d,v)::e) Rs Q):TD P n F0 w0 ops (.e i l) Rf e Rs Q:=by
 refine wt ho hw (Ef.callE hc hs hr hd) ?_
 rintro _ _ ⟨_,_,_,⟨rfl,rfl,rfl⟩,rfl,rfl⟩
 exact⟨Rf,fun w hw=>hw.sel is (hf),fun _ h=>h,h⟩
end
theorem aH {b:Bool} (h:b=false):(!b)=true:=by rw[h]; rfl
theorem aw {b:Bool} (h:b=true):(!b)=false:=by rw[h]; rfl
theorem ifT {α:Type} {c:Prop} [Decidable c] {x y z:α} (hc:c) (h:(if c then x else y)=z):x=z:=by rwa [if_pos hc] at h
theorem ifF {α:Type} {c:Prop} [Decidable c] {x y z:α} (hc: ¬ c) (h:(if c then x else y)=z):y=z:=by rwa [if_neg hc] at h
theorem lP {α:Type} (l:List α) (p:Nat):(l.drop p).take (l.length - p)=l.drop p:=by rw[← xT,List.take_length]
section
variable {P:Program} {n:Nat} {F0:Nat→Prop} {w0:World} {e:Env} {Rs Rf:List Res} {Q:Exit→Act→World→Prop} {ops:Array Oper} {i d:Nat} {ty t t' el:TypeId} {pos:String} {af:Array Edge} {gd:Option (Nat×Bool)} {v v':Value} {x y:Operand} {l:List Nat} {lo:Sch} {c:Code} {S:World→Prop}
theorem Ex.bNe {d:Option Tmp} {a b p q:Bool} (hx:e.ev x=some (.bool a)) (ha:a=p) (hy:e.ev y=some (.bool b)) (hb:b=q) (hu: ∀ w,(underlying t).run P w= .ok .bool w):Ex P n e S ⟨d,.binOp .neq t x y t',ty,pos,af,gd⟩ (.bool (!(p == q))):=by
 intro A w h _
 subst ha hb
 have h1: ∀ k,(Op.equalIn (k+1) t (.bool a) (.bool b)).run P w= .ok (a == b) w:=by
  intro k
  simp only[Op.equalIn,Sem.run_bind,hu,Result.andThen_ok]
  rfl
 have h2:(Op.equal t (.bool a) (.bool b)).run P w= .ok (a == b) w:=h1 9999
 have h4:(binOp .neq t (.bool a) (.bool b)).run P w= .ok (.bool (!(a == b))) w:=by
  simp only[binOp,Sem.run_bind,h2,Result.andThen_ok,Sem.run_pure]
 simp only[execOp,h.ev hx,h.ev hy,eqGuard]
 simp[h4]
theorem vR (is:List Nat) {Rs':List Res} (hr:Sel Rs is Rs') (h:TL P n F0 w0 ops l e Rs' Q):TL P n F0 w0 ops l e Rs Q:=fun a w ha hs=>h a w ha (hs.sel is hr)
theorem v7 (is:List Nat) {Rs':List Res} (hr:Sel Rs is Rs') (h:TD P n F0 w0 ops lo Rf e Rs' Q):TD P n F0 w0 ops lo Rf e Rs Q:=fun a w ha hs=>h a w ha (hs.sel is hr)
theorem T.sel (is:List Nat) {Rs':List Res} (hr:Sel Rs is Rs') (h:T P n F0 w0 e Rs' c Q):T P n F0 w0 e Rs c Q:=fun a w ha hs=>h a w ha (hs.sel is hr)
theorem vU {z:Exit} (is:List Nat) {Rs':List Res} (hr:Sel Rs is Rs') (h:X n F0 w0 e Rs' z Q):X n F0 w0 e Rs z Q:=fun a w ha hs=>h a w ha (hs.sel is hr)
theorem Has.as {a:Act} (ha:Has n e a) (hv:e.get d=some v) (h:v=v'):Has n ((d,v')::e) a:=ha.sub (fun t u hu=>by
 simp only[Env.get] at hu
 cases hb:Nat.beq d t with
 | true =>
  rw[hb] at hu
  obtain rfl:=Nat.eq_of_beq_eq_true hb
  injection hu with hu
  rw[hv,h,hu]
 | false=>rw[hb] at hu; exact hu)
theorem we {α:Type} {z:Exit} (size:Nat) (E:Rd α) (h:X n F0 w0 e (RdR (aq size E) [.slice none 0 0] []::Rs) z Q):X n F0 w0 e Rs z Q:=fun a w ha hs=>h a w ha (RdR.nil size E hs)
theorem X.shut {α:Type} {z:Exit} {E:Rd α} {size:Nat} {T:TypeId} {u:Value} {xs:List α} (hp:0<size) (i:Nat) (hi:Rs[i]? = some (aF T size E u xs)) (h:X n F0 w0 e (Rs.set i (RdR (aq size E) [u] xs)) z Q):X n F0 w0 e Rs z Q:=fun a w ha hs=>h a w ha (aF.shut hp i hs hi)
theorem aU.of_blk {b:Nat} {w:World} {G:Nat→Prop} (h:(aA b 84 #[.slice none 0 0,.int .i64 0]).P w G):(aU b ([],0)).P w G:=by
 obtain⟨h1,h2⟩:=h
 exact⟨_,h1,World.ownsRow_nil _ _ _ _,fun k=>by simp[h2 k,Value.ownBlock]⟩
theorem xh {zv:Value} (ho:ops[i]? = some ⟨some d,.alloc t,ty,pos,af,gd⟩) (hw:Wd n ops e ⟨some d,.alloc t,ty,pos,af,gd⟩ true) (hz: ∀ w,(zeroValue t).run P w= .ok zv w) (hd:Nat.blt d n=true)
 (h: ∀ b,TL P n F0 w0 ops l ((d,.pointer (some ⟨b,0,none⟩))::e) (aU b ([],0)::Rs) Q) (ht:t=84:=by rfl) (hzv:zv= .agg #[.slice none 0 0,.int .i64 0]:=by rfl):TL P n F0 w0 ops (i::l) e Rs Q:=by
 refine TL.alloc ho hw hz hd (fun b=> ?_)
 intro a w ha hs
 subst ht hzv
 exact h b a w ha (hs.weaken 0 rfl (fun G hG=>aU.of_blk hG))
section
variable {α:Type} {E:Rd α} {sl:Operand} {T z bytes g ii jj:Nat} {zv:Value} {A:Option Addr} {cp:Nat} {Rs':List Res} {B:Res}
theorem TL.app1 (ii:Nat) {us:List Value} {u:α} {l:List α} {lr:List Nat} (ho:ops[i]? = some ⟨some d,.call ⟨.builtin .append,#[sl,x],#[t,t]⟩,ty,pos,af,gd⟩) (hw:Wd n ops e ⟨some d,.call ⟨.builtin .append,#[sl,x],#[t,t]⟩,ty,pos,af,gd⟩ true)
 (hu:P.underlying t=some (.slice T)) (hinfo:(P.info? T).map (fun i=>(i.zero,i.size,i.bytes))=some (some zv,z,bytes)) (hzv:zv.cells.size=z) (hp:0<z)
 (hs:e.ev sl=some (.slice A l.length cp)) (hx:e.ev x=some (.slice (some ⟨g,0,none⟩) 1 1)) (hR:Rs=aA g T us.toArray::Rs') (hi:Rs'[ii]? = some (aF T z E (.slice A l.length cp) l)) (hl:us.length=z) (hq:us.all (·.oneCell')=true) (hE: ∀ w S,E.P w S us u) (hb:(l.length+1)*bytes≤140737488355328) (hm:l.length+1≤140737488355328) (hd:Nat.blt d n=true)
 (h: ∀ A' c',TL P n F0 w0 ops lr ((d,.slice A' (l ++ [u]).length c')::e) (Rs'.set ii (aF T z E (.slice A' (l ++ [u]).length c') (l ++ [u]))) Q):TL P n F0 w0 ops (i::lr) e Rs Q:=by
 refine v8 ho hw (Ef.app1 ii hu hinfo hzv hp hs hx hR hi hl hq hE hb hm hd) ?_
 rintro _ _ ⟨A',c',rfl,rfl⟩
 exact h A' c'
theorem TL.app2 (ii jj:Nat) {us:List Value} {u:α} {l:List α} {lr:List Nat} (ho:ops[i]? = some ⟨some d,.call ⟨.builtin .append,#[sl,x],#[t,t]⟩,ty,pos,af,gd⟩) (hw:Wd n ops e ⟨some d,.call ⟨.builtin .append,#[sl,x],#[t,t]⟩,ty,pos,af,gd⟩ true)
 (hu:P.underlying t=some (.slice T)) (hinfo:(P.info? T).map (fun i=>(i.zero,i.size,i.bytes))=some (some zv,z,bytes)) (hzv:zv.cells.size=z) (hp:0<z)
 (hs:e.ev sl=some (.slice A l.length cp)) (hx:e.ev x=some (.slice (some ⟨g,0,none⟩) 1 1)) (hR:Rs=aA g T us.toArray::Rs') (hi:Rs'[ii]? = some (aF T z E (.slice A l.length cp) l)) (hj:(Rs'.eraseIdx ii)[jj]? = some B) (hl:us.length=z) (hq:us.all (·.oneCell')=true) (hE: ∀ w G,B.P w G→E.P w G us u) (hb:(l.length+1)*bytes≤140737488355328) (hm:l.length+1≤140737488355328) (hd:Nat.blt d n=true)
 (h: ∀ A' c',TL P n F0 w0 ops lr ((d,.slice A' (l ++ [u]).length c')::e) (aF T z E (.slice A' (l ++ [u]).length c') (l ++ [u])::(Rs'.eraseIdx ii).eraseIdx jj) Q):TL P n F0 w0 ops (i::lr) e Rs Q:=by
 refine v8 ho hw (Ef.app2 ii jj hu hinfo hzv hp hs hx hR hi hj hl hq hE hb hm hd) ?_
 rintro _ _ ⟨A',c',rfl,rfl⟩
 exact h A' c'
theorem TD.app1 (ii:Nat) {us:List Value} {u:α} {l:List α} {lr:Sch} (ho:ops[i]? = some ⟨some d,.call ⟨.builtin .append,#[sl,x],#[t,t]⟩,ty,pos,af,gd⟩) (hw:Wd n ops e ⟨some d,.call ⟨.builtin .append,#[sl,x],#[t,t]⟩,ty,pos,af,gd⟩ true)
 (hu:P.underlying t=some (.slice T)) (hinfo:(P.info? T).map (fun i=>(i.zero,i.size,i.bytes))=some (some zv,z,bytes)) (hzv:zv.cells.size=z) (hp:0<z)
 (hs:e.ev sl=some (.slice A l.length cp)) (hx:e.ev x=some (.slice (some ⟨g,0,none⟩) 1 1)) (hR:Rs=aA g T us.toArray::Rs') (hi:Rs'[ii]? = some (aF T z E (.slice A l.length cp) l)) (hl:us.length=z) (hq:us.all (·.oneCell')=true) (hE: ∀ w S,E.P w S us u) (hb:(l.length+1)*bytes≤140737488355328) (hm:l.length+1≤140737488355328) (hd:Nat.blt d n=true)
 (is:List Nat) (hf: ∀ A' c',Sel (Rs'.set ii (aF T z E (.slice A' (l ++ [u]).length c') (l ++ [u]))) is Rf)
 (h: ∀ A' c',TD P n F0 w0 ops lr Rf ((d,.slice A' (l ++ [u]).length c')::e) (Rs'.set ii (aF T z E (.slice A' (l ++ [u]).length c') (l ++ [u]))) Q):TD P n F0 w0 ops (.e i lr) Rf e Rs Q:=by
 refine wt ho hw (Ef.app1 ii hu hinfo hzv hp hs hx hR hi hl hq hE hb hm hd) ?_
 rintro _ _ ⟨A',c',rfl,rfl⟩
 exact⟨Rf,fun w hw=>hw.sel is (hf A' c'),fun _ h=>h,h A' c'⟩
end
variable (P n F0 w0) in
def RV (e:Env) (Rs:List Res) (r:ResultVar) (v:Value):Prop:= ∀ a w,Has n e a→St F0 w0 Rs w→(resv a.tmps r).run P w= .ok v w
theorem vt {k:Nat} (hv:e.get k=some v):RV P n F0 w0 e Rs (.tmp k) v:=by
 intro a w ha hs
 have h2:=ha.at_ k v hv
 simp[resv,h2]
theorem wg (i:Nat) {k b T:Nat} {us:Array Value} {z:Nat} (hk:e.get k=some (.pointer (some ⟨b,0,none⟩))) (ha: ∀ w,(isAgg t).run P w= .ok true w) (hz: ∀ w,(sizeOf t).run P w= .ok z w) (hi:Rs[i]? = some (aA b T us)) (hl:us.size=z):RV P n F0 w0 e Rs (.cell k t) (.agg us):=by
 intro a w h hs
 have h2:=h.at_ k _ hk
 have hb:=hs.blk i hi
 have h3:=j8 (P:=P) (t:=t) (w:=w) (ad:=⟨b,0,none⟩) (cs:=us.toList) ha (by intro w; rw[hz]; simp[hl]) (fun j u hj=>by
  have e1:(⟨b,0,none⟩:Addr).add j=⟨b,j,none⟩:=by unfold Addr.add; split <;> simp_all
  rw[e1,aM hb]
  simpa using hj)
 simp[resv,h2,asAddr,h3]
section
variable {f:Func} {R:Value→Res→List Res→Prop} {A':Res} {Ns:List Res} {r1 r2 r3 r4:ResultVar} {v1 v2 v3 v4:Value} {z:Exit}
theorem X.fin (hR:R v A' Ns) (is:List Nat) (hr:Sel Rs is (A'::Ns)) (hx:z= .ret∨z= .normal) (h: ∀ a w,Has n e a→St F0 w0 Rs w→(results f a.tmps).run P w= .ok v w):X n F0 w0 e Rs z (bodyPost P f (lD R F0 w0)):=by
 intro a w ha hs
 have h:bodyPost P f (lD R F0 w0) .ret a w:=⟨ha.df,v,h a w ha hs,v,A',Ns,rfl,hR,hs.sel is hr⟩
 rcases hx with rfl | rfl <;> exact h
theorem vu (is:List Nat) (hf:f.results= #[r1]) (h1:RV P n F0 w0 e Rs r1 v1) (hR:R v1 A' Ns) (hr:Sel Rs is (A'::Ns)) (hx:z= .ret∨z= .normal):X n F0 w0 e Rs z (bodyPost P f (lD R F0 w0)) :=
 X.fin hR is hr hx (fun a w ha hs=>by rw[gV,hf]; simp[h1 a w ha hs])
theorem vO (is:List Nat) (hf:f.results= #[r1,r2]) (h1:RV P n F0 w0 e Rs r1 v1) (h2:RV P n F0 w0 e Rs r2 v2) (hR:R (.tuple #[v1,v2]) A' Ns) (hr:Sel Rs is (A'::Ns)) (hx:z= .ret∨z= .normal):X n F0 w0 e Rs z (bodyPost P f (lD R F0 w0)) :=
 X.fin hR is hr hx (fun a w ha hs=>by rw[gV,hf]; simp[h1 a w ha hs,h2 a w ha hs])
theorem wm (is:List Nat) (hf:f.results= #[r1,r2,r3]) (h1:RV P n F0 w0 e Rs r1 v1) (h2:RV P n F0 w0 e Rs r2 v2) (h3:RV P n F0 w0 e Rs r3 v3) (hR:R (.tuple #[v1,v2,v3]) A' Ns) (hr:Sel Rs is (A'::Ns)) (hx:z= .ret∨z= .normal):X n F0 w0 e Rs z (bodyPost P f (lD R F0 w0)) :=
 X.fin hR is hr hx (fun a w ha hs=>by rw[gV,hf]; simp[h1 a w ha hs,h2 a w ha hs,h3 a w ha hs])
end
theorem BOK.mk {zv:Value} {fs:Array Field} {pl:List (Nat×Nat)} {zs:Array Value} (hz: ∀ w,(zeroValue t).run P w= .ok zv w) (hu: ∀ w,(underlying t).run P w= .ok (.struct fs) w) (hp: ∀ w,(fs.mapM (fun f=>do pure (f.offset,← sizeOf f.type)):Sem (Array (Nat×Nat))).run P w= .ok pl.toArray w) (hzs:zv.cells=zs:=by rfl):BOK P t zs pl:=by
 intro parts cells w h
 subst hzs
 simp only[Instr.build,Sem.run_bind,hz,Result.andThen_ok,hu,hp]
 have h2:(fun (i:Nat)=>(pl.toArray)[i]?)=(fun (i:Nat)=>pl[i]?):=by funext i; simp
 simp[h2,h]
theorem SOK.mk {T m z:Nat} {zv:Value} {zs:Array Value} (hu: ∀ w,(underlying t).run P w= .ok (.slice T) w) (hz: ∀ w,(sizeOf T).run P w= .ok z w) (hzv: ∀ w,(zeroValue T).run P w= .ok zv w) (hm:0<m*z∧m*z≤16777216) (hzs:(Array.range (m*z)).map (fun i=>zv.cells[i % zv.cells.size]!)=zs):SOK P t T m z zs:=by
 intro parts cells w h
 have h1: ¬ (m*z>2 ^ 24):=by omega
 have h2: ¬ (m*z=0):=by omega
 subst hzs
 simp only[Instr.buildSlice,Sem.run_bind,hu,hz,Result.andThen_ok,h1,if_false,h2,hzv,Sem.run_pure]
 simp[h,newRow]
end
def eqV:Value→Value→Option Bool
 | .int k a,.int k' b=>if k=k' then some (decide (a=b)) else none
 | .bool a,.bool b=>some (decide (a=b))
 | .string a,.string b=>some (decide (a.toList=b.toList))
 | _,_=>none
def eqL:List Value→List Value→Option Bool
 | [],[]=>some true
 | x::xs,y::ys=>match eqV x y with
  | some true=>eqL xs ys
  | some false=>some false
  | none=>none
 | _,_=>none
theorem ic {k:IntKind} {a b:Int} (h:a=b):eqV (.int k a) (.int k b)=some true:=by simp[eqV,h]
theorem kH {k:IntKind} {a b:Int} (h: ¬ a=b):eqV (.int k a) (.int k b)=some false:=by simp[eqV,h]
theorem nD {a b:Bool} (h:a=b):eqV (.bool a) (.bool b)=some true:=by simp[eqV,h]
theorem qN {a b:Bool} (h: ¬ a=b):eqV (.bool a) (.bool b)=some false:=by simp[eqV,h]
theorem nE {l m:List UInt8} (h:l=m):eqV (.string (aC l)) (.string (aC m))=some true:=by simp[eqV,h]
theorem ow {l m:List UInt8} (h: ¬ l=m):eqV (.string (aC l)) (.string (aC m))=some false:=by simp[eqV,dr,h]
theorem dL {x y:Value} {xs ys:List Value} {b:Bool} (h:eqV x y=some true) (r:eqL xs ys=some b):eqL (x::xs) (y::ys)=some b:=by simp[eqL,h,r]
theorem gC {x y:Value} {xs ys:List Value} (h:eqV x y=some false):eqL (x::xs) (y::ys)=some false:=by simp[eqL,h]
theorem mo: ∀ {xs ys xs' ys':List Value} {b:Bool},xs.length=ys.length→eqL (xs++xs') (ys++ys')=some b→ ∃ c,eqL xs ys=some c∧(if c then eqL xs' ys' else some false)=some b
 | [],[],xs',ys',b,_,h=>⟨true,rfl,by simpa using h⟩
 | x::xs,y::ys,xs',ys',b,hl,h=>by
  simp only[List.cons_append,eqL] at h ⊢
  cases hv:eqV x y with
  | none=>rw[hv] at h; cases h
  | some c =>
   cases c with
   | true =>
    rw[hv] at h
    exact mo (by simpa using hl) h
   | false =>
    rw[hv] at h
    exact⟨false,rfl,by simpa using h⟩
def okD:TypeDesc→Value→Bool
 | .int _,.int _ _=>true
 | .bool,.bool _=>true
 | .string,.string _=>true
 | _,_=>false
def gD:List TypeDesc→List Value→Bool
 | [],[]=>true
 | d::ds,v::vs=>okD d v && gD ds vs
 | _,_=>false
theorem fb: ∀ {ds:List TypeDesc} {vs:List Value},gD ds vs=true→vs.length=ds.length
 | [],[],_=>rfl
 | d::ds,v::vs,h=>by
  simp only[gD,Bool.and_eq_true] at h
  simp[fb h.2]
theorem mp: ∀ {ds ds':List TypeDesc} {vs:List Value},gD (ds++ds') vs=true→gD ds (vs.take ds.length)=true∧gD ds' (vs.drop ds.length)=true
 | [],ds',vs,h=>by simpa [gD] using h
 | d::ds,ds',[],h=>by simp[gD] at h
 | d::ds,ds',v::vs,h=>by
  simp only[List.cons_append,gD,Bool.and_eq_true] at h
  have:=mp h.2
  simp[gD,h.1,this]
def mkV (agg:Bool) (xs:List Value):Value:=if agg then .agg xs.toArray else xs.headD undef
structure fc (P:Program) (k:Nat) (t:TypeId) (ds:List TypeDesc) (agg:Bool):Prop where
 ia: ∀ w,(isAgg t).run P w= .ok agg w
 sz: ∀ w,(sizeOf t).run P w= .ok ds.length w
 one:agg=false→ds.length=1
 eq: ∀ (d:Nat) (xs ys:List Value) (b:Bool) (w:World),k≤d→gD ds xs=true→gD ds ys=true→eqL xs ys=some b→(Op.equalIn d t (mkV agg xs) (mkV agg ys)).run P w= .ok b w
section
variable {P:Program} {t:TypeId}
theorem uO {x y:Value} {b:Bool} (h:eqL [x] [y]=some b):eqV x y=some b:=by
 simp only[eqL] at h
 cases hv:eqV x y with
 | none=>rw[hv] at h; cases h
 | some c=>cases c <;> (rw[hv] at h; exact h)
theorem len1 {xs:List Value} (h:xs.length=1): ∃ x,xs = [x]:=by
 match xs,h with
 | [x],_=>exact⟨x,rfl⟩
theorem sH {d0:TypeDesc} (hu:P.underlying t=some d0) (d:Nat) (x y:Value) (b:Bool) (w:World) (hx:okD d0 x=true) (hy:okD d0 y=true) (h:eqV x y=some b):(Op.equalIn (d+1) t x y).run P w= .ok b w:=by
 cases d0 <;> cases x <;> first | (simp[okD] at hx; done) | skip
 all_goals cases y <;> first | (simp[okD] at hy; done) | skip
 ·simp only[eqV,Option.some.injEq] at h
  subst h
  rw[run_equalIn_bool' w d t _ _ hu]
  rfl
 ·rename_i q k a k' b'
  simp only[eqV] at h
  split at h
  ·rename_i hk
   subst hk
   injection h with h
   subst h
   rw[run_equalIn_int w d t k _ a b' hu]
   rfl
  ·cases h
 ·simp only[eqV,Option.some.injEq] at h
  subst h
  rw[run_equalIn_string w d t _ _ hu]
  congr 1
  rename_i p q
  by_cases hpq:p.toList=q.toList <;> simp[hpq]
theorem wz {d0:TypeDesc} (ia: ∀ w,(isAgg t).run P w= .ok false w) (sz: ∀ w,(sizeOf t).run P w= .ok 1 w) (hu:P.underlying t=some d0):fc P 1 t [d0] false:=by
 refine⟨ia,sz,fun _=>rfl,?_⟩
 intro d xs ys b w hd hx hy h
 obtain⟨x,rfl⟩:=len1 (by simpa using fb hx)
 obtain⟨y,rfl⟩:=len1 (by simpa using fb hy)
 obtain⟨d,rfl⟩: ∃ d',d=d'+1:=⟨d - 1,by omega⟩
 exact sH hu d x y b w (by simpa [gD] using hx) (by simpa [gD] using hy) (uO h)
def qO (P:Program) (k:Nat):Nat→List Field→List TypeDesc→Prop
 | _,[],ds=>ds = []
 | off, f :: fs, ds => f.name ≠ "_" ∧ f.offset = off ∧ ∃ d1 d2 agg, ds = d1 ++ d2 ∧ fc P k f.type d1 agg ∧ qO P k (off + d1.length) fs d2
theorem pA {ty:TypeId} {ds:List TypeDesc} {agg:Bool} {k:Nat} (hf:fc P k ty ds agg) (xs:List Value) (off:Nat) (w:World) (hl:off+ds.length≤xs.length):(part ty xs.toArray off).run P w= .ok (mkV agg ((xs.drop off).take ds.length)) w:=by
 cases agg with
 | true =>
  have h1:=hf.ia w
  simp only[part,Sem.run_bind,h1,Result.andThen_ok,if_true,hf.sz w,Sem.run_pure,mkV]
  congr 2
  apply Array.ext'
  simp[List.extract_eq_take_drop]
 | false =>
  have h1:=hf.ia w
  have h2:=hf.one rfl
  have h3:off<xs.length:=by omega
  have h4:((xs.drop off).take 1).headD undef=xs[off]:=by
   rw[List.drop_eq_getElem_cons h3]
   rfl
  simp only[part,Sem.run_bind,h1,Result.andThen_ok,Bool.false_eq_true,if_false,mkV,h2,h4]
  simp[h3]
theorem mq {k:Nat}: ∀ {fs:List Field} {ds:List TypeDesc} {off:Nat},qO P k off fs ds→ ∀ (d:Nat) (xs ys:List Value) (b:Bool) (w:World),k≤d→xs.length=off+ds.length→ys.length=off+ds.length →
 gD ds (xs.drop off)=true→gD ds (ys.drop off)=true→eqL (xs.drop off) (ys.drop off)=some b→(Op.eqFields d xs.toArray ys.toArray fs).run P w= .ok b w
 | [],ds,off,hf,d,xs,ys,b,w,hd,hx,hy,ox,oy,h=>by
  obtain rfl:ds = []:=hf
  rw[List.drop_of_length_le (by simp at hx; omega),List.drop_of_length_le (by simp at hy; omega)] at h
  injection h with h
  subst h
  rfl
 | f::fs,ds,off,hf,d,xs,ys,b,w,hd,hx,hy,ox,oy,h=>by
  obtain⟨hn,ho,d1,d2,agg,rfl,hF,hr⟩:=hf
  rw[xR] at hx hy
  have ox':=mp ox
  have oy':=mp oy
  have e1:xs.drop off=(xs.drop off).take d1.length++xs.drop (off+d1.length):=by rw[← yz,List.take_append_drop]
  have e2:ys.drop off=(ys.drop off).take d1.length++ys.drop (off+d1.length):=by rw[← yz,List.take_append_drop]
  rw[e1,e2] at h
  obtain⟨c,h1,h2⟩:=mo (by simp; omega) h
  have p1:=pA hF xs off w (by omega)
  have p2:=pA hF ys off w (by omega)
  have q1:=hF.eq d _ _ c w hd ox'.1 oy'.1 h1
  simp only[Op.eqFields,hn,ne_eq,not_false_eq_true,if_true,Sem.run_bind,ho,p1,Result.andThen_ok,p2,q1,Sem.run_ite]
  cases c with
  | false =>
   simp only[Bool.false_eq_true,if_false] at h2
   injection h2 with h2
   subst h2
   rfl
  | true =>
   simp only[if_true] at h2
   have h3:=mq hr d xs ys b w hd (by omega) (by omega) (by rw[← yz]; exact ox'.2) (by rw[← yz]; exact oy'.2) h2
   simpa using h3
theorem fc.struct {k:Nat} {fs:Array Field} {ds:List TypeDesc} (ia: ∀ w,(isAgg t).run P w= .ok true w) {z:Nat} (sz: ∀ w,(sizeOf t).run P w= .ok z w) (hz:ds.length=z) (hu:P.underlying t=some (.struct fs)) (hp:P.stoodInHeld t=false) (hf:qO P k 0 fs.toList ds):fc P (k+1) t ds true:=by
 subst hz
 refine⟨ia,sz,fun h=>(by cases h),?_⟩
 intro d xs ys b w hd hx hy h
 obtain⟨d,rfl⟩: ∃ d',d=d'+1:=⟨d - 1,by omega⟩
 have e:P.fieldsOf t=fs:=by simp[Program.fieldsOf,hu]
 simp only[mkV,if_true]
 rw[run_equalIn_agg w d t _ _ (by rw[e]; exact hu) hp,e]
 exact mq hf d xs ys b w (by omega) (by simpa using fb hx) (by simpa using fb hy) hx hy h
theorem fc.mono {k k':Nat} {ds:List TypeDesc} {agg:Bool} (h:fc P k t ds agg) (hk:k≤k'):fc P k' t ds agg:=⟨h.ia,h.sz,h.one,fun d xs ys b w hd=>h.eq d xs ys b w (by omega)⟩
end
section
variable {P:Program} {n:Nat} {F0:Nat→Prop} {w0:World} {e:Env} {Rs Rf:List Res} {Q:Exit→Act→World→Prop} {ops:Array Oper} {d:Option Tmp} {i:Nat} {ty t t' el:TypeId} {pos:String} {af:Array Edge} {gd:Option (Nat×Bool)} {v v':Value} {x y:Operand} {l:List Nat} {lo:Sch} {c:Code} {S:World→Prop}
theorem ws {k:Nat} {ds:List TypeDesc} {us vs:List Value} {b:Bool} (hF:fc P k t ds true) (hk:Nat.ble k 10000=true) (hG:P.eqGuardType P.depth t=false) (hx:e.ev x=some (.agg us.toArray)) (hy:e.ev y=some (.agg vs.toArray)) (ou:gD ds us=true) (ov:gD ds vs=true) (h:eqL us vs=some b) :
 Ex P n e S ⟨d,.binOp .eql t x y t',ty,pos,af,gd⟩ (.bool b):=by
 intro a w ha _
 have h1:=hF.eq 10000 us vs b w (Nat.le_of_ble_eq_true hk) ou ov h
 simp only[mkV,if_true] at h1
 simp only[execOp,ha.ev hx,ha.ev hy,Sem.run_bind]
 rw[run_eqGuard_agg w .eql t x y _ _ hG]
 simp only[Result.andThen_ok]
 rw[run_eql_struct w t _ _,h1]
 rfl
theorem Ex.aNe {k:Nat} {ds:List TypeDesc} {us vs:List Value} {b:Bool} (hF:fc P k t ds true) (hk:Nat.ble k 10000=true) (hG:P.eqGuardType P.depth t=false) (hx:e.ev x=some (.agg us.toArray)) (hy:e.ev y=some (.agg vs.toArray)) (ou:gD ds us=true) (ov:gD ds vs=true) (h:eqL us vs=some b) :
 Ex P n e S ⟨d,.binOp .neq t x y t',ty,pos,af,gd⟩ (.bool (!b)):=by
 intro a w ha _
 have h1:=hF.eq 10000 us vs b w (Nat.le_of_ble_eq_true hk) ou ov h
 simp only[mkV,if_true] at h1
 simp only[execOp,ha.ev hx,ha.ev hy,Sem.run_bind]
 rw[run_eqGuard_agg w .neq t x y _ _ hG]
 simp only[Result.andThen_ok]
 rw[run_neq_struct w t _ _,h1]
 rfl
theorem Wd.gu {op:Op} {j k:Nat} {want:Bool} (hj:(ops[j]?).bind (·.dst)=some k) (hv:e.get k=some undef):Wd n ops e ⟨d,op,ty,pos,af,some (j,want)⟩ false:=by
 intro a h
 simp only[Region.wanted,yielded,hj,xP,h.at_ k _ hv]
 rfl
theorem SOK.mk0 {T:Nat} {z:Nat} (hu: ∀ w,(underlying t).run P w= .ok (.slice T) w) (hz: ∀ w,(sizeOf T).run P w= .ok z w):SOK P t T 0 z #[]:=by
 intro parts cells w h
 have e0: ∀ f:Nat→Value,Array.map f (Array.range 0)= #[]:=by intro f; simp
 simp only[Instr.buildSlice,Sem.run_bind,hu,hz,Result.andThen_ok,Nat.zero_mul,Sem.run_pure]
 simp[e0,h,newRow]
end
def oz {α:Type} (B:Res) (E:Rd α) (g q:Nat) (cs:List Value) (x:α):Res where
 P:=fun w G=>B.P w G∧G g∧(∀ j,j<cs.length→w.cell? ⟨g,q+j,none⟩=cs[j]?)∧E.P w G cs x
 lt:=fun h=>B.lt h.1
 move:=fun {w w' G} h hm=>⟨B.move h.1 hm,h.2.1,fun j hj=>by
  rw[← h.2.2.1 j hj]
  simp only[World.cell?,hm g h.2.1],E.move h.2.2.2 hm⟩
section
variable {P:Program} {n:Nat} {F0:Nat→Prop} {w0 w:World} {e:Env} {Rs Rf:List Res} {Q:Exit→Act→World→Prop} {ops:Array Oper} {d:Option Tmp} {i:Nat} {ty t t' el:TypeId} {pos:String} {af:Array Edge} {gd:Option (Nat×Bool)} {v v':Value} {y z:Operand} {l:List Nat} {lo:Sch} {c:Code} {S:World→Prop}
variable {α:Type} {E:Rd α} {B:Res} {A:Option Addr} {m cp size k:Nat} {xs:List α} {x:α}
theorem foc_P {G:Nat→Prop} (hG:B.P w G) (hB:(RX.of (aq size E) [.slice A m cp] xs).P w G) (hp:0<size) (hx:xs[k]? = some x): ∃ g o cs,A=some ⟨g,o,none⟩∧cs.length=size∧(∃ S,E.P w S cs x)∧(oz B E g (o+k*size) cs x).P w G:=by
 rcases hB with⟨h,rfl⟩ | ⟨a,cap,h,_,_,hb,h2⟩
 ·simp at hx
 ·injection h with h
  injection h with h3 h4 h5
  subst h3
  have hl:0<xs.length:=by have:=(xS hx).1; omega
  obtain⟨cs0,k1,k2,_⟩:=h2 0 xs[0] (List.getElem?_eq_getElem hl)
  have k3:=k2 0 hp
  rw[List.getElem?_eq_getElem (by omega)] at k3
  have k4:a.add (0*size+0)=a:=by simp[Addr.add]
  rw[k4] at k3
  have k5:=ng k3
  obtain⟨cs,k6,k7,k8⟩:=h2 k x hx
  refine⟨a.block,a.off,cs,by rw[← k5],k6,⟨G,k8⟩,hG,hb hl,fun j hj=> ?_,k8⟩
  rw[← k7 j (by omega),k5,WideShapes.add_plain,Nat.add_assoc]
theorem St.foc (i:Nat) (h:St F0 w0 Rs w) (hi:Rs[i]? = some B) (hB: ∀ w G,B.P w G→(RX.of (aq size E) [.slice A m cp] xs).P w G) (hp:0<size) (hx:xs[k]? = some x) :
 ∃ g o cs,A=some ⟨g,o,none⟩∧cs.length=size∧(∃ w S,E.P w S cs x)∧St F0 w0 (Rs.set i (oz B E g (o+k*size) cs x)) w:=by
 obtain⟨f,hs⟩:=h
 obtain⟨G,h1,h2,h3⟩:=Sep.pick i hi hs
 obtain⟨g,o,cs,k1,k2,⟨S,k3⟩,k4⟩:=foc_P h1 (hB w G h1) hp hx
 exact⟨g,o,cs,k1,k2,⟨w,S,k3⟩,f,Sep.back i hi k4 h2 h3⟩
theorem T.foc (i:Nat) (hi:Rs[i]? = some B) (hB: ∀ w G,B.P w G→(RX.of (aq size E) [.slice A m cp] xs).P w G) (hp:0<size) (hx:xs[k]? = some x)
 (h: ∀ g o cs,A=some ⟨g,o,none⟩→cs.length=size→(∃ w S,E.P w S cs x)→T P n F0 w0 e (Rs.set i (oz B E g (o+k*size) cs x)) c Q):T P n F0 w0 e Rs c Q:=by
 intro a w ha hs
 obtain⟨g,o,cs,k1,k2,k3,k4⟩:=hs.foc i hi hB hp hx
 exact h g o cs k1 k2 k3 a w ha k4
theorem wT (i:Nat) (hi:Rs[i]? = some B) (hB: ∀ w G,B.P w G→(RX.of (aq size E) [.slice A m cp] xs).P w G) (hp:0<size) (hx:xs[k]? = some x)
 (h: ∀ g o cs,A=some ⟨g,o,none⟩→cs.length=size→(∃ w S,E.P w S cs x)→TL P n F0 w0 ops l e (Rs.set i (oz B E g (o+k*size) cs x)) Q):TL P n F0 w0 ops l e Rs Q:=by
 intro a w ha hs
 obtain⟨g,o,cs,k1,k2,k3,k4⟩:=hs.foc i hi hB hp hx
 exact h g o cs k1 k2 k3 a w ha k4
theorem St.unf {q g:Nat} {cs:List Value} (i:Nat) (h:St F0 w0 Rs w) (hi:Rs[i]? = some (oz B E g q cs x)):St F0 w0 (Rs.set i B) w:=h.weaken i hi (fun G hG=>hG.1)
theorem T.unf {q g:Nat} {cs:List Value} (i:Nat) (hi:Rs[i]? = some (oz B E g q cs x)) (h:T P n F0 w0 e (Rs.set i B) c Q):T P n F0 w0 e Rs c Q:=fun a w ha hs=>h a w ha (hs.unf i hi)
theorem TL.unf {q g:Nat} {cs:List Value} (i:Nat) (hi:Rs[i]? = some (oz B E g q cs x)) (h:TL P n F0 w0 ops l e (Rs.set i B) Q):TL P n F0 w0 ops l e Rs Q:=fun a w ha hs=>h a w ha (hs.unf i hi)
theorem X.unf {q g:Nat} {cs:List Value} {o:Exit} (i:Nat) (hi:Rs[i]? = some (oz B E g q cs x)) (h:X n F0 w0 e (Rs.set i B) o Q):X n F0 w0 e Rs o Q:=fun a w ha hs=>h a w ha (hs.unf i hi)
theorem wQ {q g:Nat} {cs:List Value} (i j:Nat) (hy:e.ev y=some (.pointer (some ⟨g,q+j,none⟩))) (ha: ∀ w,(isAgg t).run P w= .ok false w) (hi:Rs[i]? = some B) (hB: ∀ w G,B.P w G→ ∀ j,j<cs.length→w.cell? ⟨g,q+j,none⟩=cs[j]?) (hv:cs[j]? = some v):Ex P n e (St F0 w0 Rs) ⟨d,.load t y,ty,pos,af,gd⟩ v :=
 Ex.ld1 hy ha (fun w hw=>by
  obtain⟨G,h1,_⟩:=hw.get i hi
  exact (hB w G h1 j (xS hv).1).trans hv)
end
section
variable {P:Program} {n:Nat} {F0:Nat→Prop} {w0 w:World} {e:Env} {Rs Rf:List Res} {Q:Exit→Act→World→Prop} {ops:Array Oper} {d:Option Tmp} {i:Nat} {ty t t' el:TypeId} {pos:String} {af:Array Edge} {gd:Option (Nat×Bool)} {v v':Value} {x y z:Operand} {l:List Nat} {lo:Sch} {c:Code} {S:World→Prop}
end
def eG (xs:List Int):List UInt8:=xs.map fun n=>UInt8.ofNat n.toNat
theorem jz: ∀ (xs:List Int) (l:List UInt8),xs.foldl (fun r n=>r.push (UInt8.ofNat n.toNat)) (aC l)=aC (l++eG xs)
 | [],l=>by simp[eG]
 | x::xs,l=>by
  rw[List.foldl_cons]
  have e:(aC l).push (UInt8.ofNat x.toNat)=aC (l ++ [UInt8.ofNat x.toNat]):=by simp[aC,ByteArray.push]
  rw[e,jz xs]
  simp[eG]
section
variable {P:Program} {n:Nat} {F0:Nat→Prop} {w0 w:World} {e:Env} {Rs:List Res} {d:Option Tmp} {ty t t' el:TypeId} {pos:String} {af:Array Edge} {gd:Option (Nat×Bool)} {x y:Operand} {S:World→Prop}
theorem tC {G:Nat→Prop} {A:Option Addr} {c:Nat} {xs:List Int} (h:(aq 1 u8E).P w G [.slice A xs.length c] xs):(Conv.bytesToString (.slice A xs.length c)).run P w= .ok (.string (aC (eG xs))) w:=by
 rcases h with⟨h1,rfl⟩ | ⟨a,cap,h1,h2,h3,h4,h5⟩
 ·injection h1 with h1 _
  injection h1 with h1 _ _
  subst h1
  rfl
 ·injection h1 with h1 _
  injection h1 with h1 _ h6
  subst h1 h6
  have hl:(loadCells a xs.length).run P w= .ok (xs.map (Value.int .u8)).toArray w:=by
   have:=run_loadCells_list (P:=P) (w:=w) a (xs.map (Value.int .u8)) (fun j v hj=> ?_)
   ·rwa [zf] at this
   ·rw[List.getElem?_map] at hj
    obtain⟨x,hx,rfl⟩:=Option.map_eq_some_iff.1 hj
    obtain⟨cs,g1,g2,g3⟩:=h5 j x hx
    have g3:cs = [.int .u8 x]:=g3
    subst g3
    have:=g2 0 (by decide)
    simpa using this
  rw[run_bytesToString w a xs.length c xs hl]
  have:=jz xs []
  rw[yk] at this
  exact congrArg (fun s=>Result.ok (Value.string s) w) this
theorem wR {b T m:Nat} {cs:Array Value} {xs:List Int} (i:Nat) (hi:Rs[i]? = some (aA b T cs)) (hc:cs=(xs.map (Value.int .u8)).toArray) (hm:xs.length=m) (hx:e.ev x=some (.slice (some ⟨b,0,none⟩) m m)) (hs: ∀ w,(underlying t).run P w= .ok (.slice el) w) (hd: ∀ w,(underlying t').run P w= .ok .string w) (hel: ∀ w,(underlying el).run P w= .ok (.int .u8) w) :
 Ex P n e (St F0 w0 Rs) ⟨d,.convert t t' x,ty,pos,af,gd⟩ (.string (aC (eG xs))):=by
 subst hm
 intro a w ha hw
 have hl:(loadCells ⟨b,0,none⟩ xs.length).run P w= .ok (xs.map (Value.int .u8)).toArray w:=by
  have:=run_loadCells_list (P:=P) (w:=w) ⟨b,0,none⟩ (xs.map (Value.int .u8)) (fun j v hj=> ?_)
  ·rwa [zf] at this
  ·have h2:(⟨b,0,none⟩:Addr).add j=⟨b,j,none⟩:=by unfold Addr.add; split <;> simp_all
   rw[h2,aM (hw.blk i hi),hc,List.getElem?_toArray]
   exact hj
 have h4:=run_bytesToString w ⟨b,0,none⟩ xs.length xs.length xs hl
 have h5:=jz xs []
 rw[yk] at h5
 have h6:(Conv.bytesToString (.slice (some ⟨b,0,none⟩) xs.length xs.length)).run P w= .ok (.string (aC (eG xs))) w:=by
  rw[h4]
  exact congrArg (fun s=>Result.ok (Value.string s) w) h5
 simp[execOp,ha.ev hx,convert,hs,hd,hel,h6]
theorem St.tl_ {B:Res} (h:St F0 w0 (B::Rs) w):St F0 w0 Rs w:=by
 obtain⟨f,G,h1,h2,h3⟩:=h
 exact⟨f,h3.mono (fun k hk=>hk.1)⟩
theorem Ex.mulw {k:IntKind} {p q:Int} (hx:e.ev x=some (.int k p)) (hy:e.ev y=some (.int k q)):Ex P n e S ⟨d,.binOp .mul t x y t',ty,pos,af,gd⟩ (.int k (k.wrap (p*q))):=by
 intro a w ha _
 simp[execOp,ha.ev hx,ha.ev hy,eqGuard,binOp,Op.intArith]
theorem Ex.remK {k:IntKind} {p q:Int} (hx:e.ev x=some (.int k p)) (hy:e.ev y=some (.int k q)) (hq:1≤q) (h:0≤p):Ex P n e S ⟨d,.binOp .rem t x y t',ty,pos,af,gd⟩ (.int k (p % q)):=by
 intro a w ha _
 have h0: ¬ q=0:=by omega
 simp[execOp,ha.ev hx,ha.ev hy,eqGuard,binOp,Op.intDiv,h0,IntWalk.rem_in _ _ h]
theorem xd {Rf:List Res} {Q:Exit→Act→World→Prop} {ops:Array Oper} {i T z d':Nat} {vs:List Value} {m:Nat} {zs cells:Array Value} {ps:List (Nat×Operand)} {l:Sch} (ho:ops[i]? = some ⟨some d',.buildSlice t m ps.toArray,ty,pos,af,gd⟩) (hw:Wd n ops e ⟨some d',.buildSlice t m ps.toArray,ty,pos,af,gd⟩ true) (hB:SOK P t T m z zs) (hv:e.evs (ps.map (·.2))=some vs) (hf':Instr.fill (fun i=>some (i*z,z)) zs ((ps.map (·.1)).zip vs)=some cells) (hd:Nat.blt d' n=true) (is:List Nat) (hf: ∀ b,Sel (aA b T cells::Rs) is (aA b T cells::Rf)) (h: ∀ b,TD P n F0 w0 ops l (aA b T cells::Rf) ((d',.slice (some ⟨b,0,none⟩) m m)::e) (aA b T cells::Rs) Q):TD P n F0 w0 ops (.e i l) Rf e Rs Q:=by
 refine wt ho hw (Ef.lit hB hv hf' hd) ?_
 rintro _ _ ⟨b,rfl,rfl⟩
 exact⟨_,fun w hw=>hw.sel is (hf b),fun _ h=>h.tl_,h b⟩
end
section
variable {P:Program} {n:Nat} {F0:Nat→Prop} {w0:World} {e e':Env} {Rs Rs':List Res} {Q:Exit→Act→World→Prop} {c:Code} {d:Nat} {v v':Value}
def JK (n:Nat) (F0:Nat→Prop) (w0:World) (R:Env→List Res→Prop) (a:Act) (w:World):Prop:= ∃ e Rs,R e Rs∧Has n e a∧St F0 w0 Rs w
theorem wn (R:Env→List Res→Prop) (h:T P n F0 w0 e Rs c (Exit.then (JK n F0 w0 R) Q)) (k: ∀ e' Rs',R e' Rs'→X n F0 w0 e' Rs' .normal Q):T P n F0 w0 e Rs c Q:=by
 intro a w ha hs
 refine wp_mono (h a w ha hs) ?_
 intro x a' w' hx
 cases x <;> first | exact hx | skip
 obtain⟨e',Rs',hR,ha',hs'⟩:=hx
 exact k e' Rs' hR a' w' ha' hs'
theorem vN {R:Env→List Res→Prop} (is:List Nat) (hR:R e' Rs') (he:Sub e' e) (hr:Sel Rs is Rs'):X n F0 w0 e Rs .normal (Exit.then (JK n F0 w0 R) Q):=fun a w ha hs=>⟨e',Rs',hR,ha.sub he.get,hs.sel is hr⟩
theorem wE {z:Exit} (hv:e.get d=some v) (h:v=v') (k:X n F0 w0 ((d,v')::e) Rs z Q):X n F0 w0 e Rs z Q:=fun a w ha hs=>k a w (ha.as hv h) hs
end
section
variable {P:Program} {n:Nat} {F0:Nat→Prop} {w0:World} {e:Env} {Rs:List Res} {S:World→Prop} {d:Option Tmp} {ty:TypeId} {pos:String} {af:Array Edge} {gd:Option (Nat×Bool)} {v:Value} {x y ix:Operand} {t t' el:TypeId}
theorem Ex.ixP {g o m z k:Nat} {i:Int} {q:IntKind} (hx:e.ev x=some (.pointer (some ⟨g,o,none⟩))) (hi:e.ev ix=some (.int q i)) (hik:i=(k:Int)) (hu: ∀ w,(underlying t).run P w= .ok (.array m el) w) (hz: ∀ w,(sizeOf el).run P w= .ok z w) (hk:k<m) :
 Ex P n e S ⟨d,.indexAddr t x ix,ty,pos,af,gd⟩ (.pointer (some ⟨g,o+k*z,none⟩)):=by
 intro a w ha _
 subst hik
 have h1:(0:Int)≤(k:Int)∧(k:Int)<(m:Int):=by omega
 have h2:(⟨g,o,none⟩:Addr).add (k*z)=⟨g,o+k*z,none⟩:=by unfold Addr.add; split <;> simp_all
 have h3:(Instr.indexAt t (.pointer (some ⟨g,o,none⟩)) (.int q (k:Int))).run P w= .ok (.pointer (some ⟨g,o+k*z,none⟩)) w:=by
  simp only[Instr.indexAt,asIntOf,Sem.run_bind,Sem.run_pure,Result.andThen_ok,hu,Instr.sureAddr]
  rw[if_pos h1]
  simp only[Sem.run_bind,hz,Result.andThen_ok,yA,h2,Sem.run_pure]
 simp[execOp,ha.ev hx,ha.ev hi,h3]
theorem vZ {g o m c z k:Nat} {i:Int} {q:IntKind} (hx:e.ev x=some (.slice (some ⟨g,o,none⟩) m c)) (hi:e.ev ix=some (.int q i)) (hik:i=(k:Int)) (hu: ∀ w,(underlying t).run P w= .ok (.slice el) w) (hz: ∀ w,(sizeOf el).run P w= .ok z w) (hk:k<m) {r:Nat} (hr:o+k*z=r) :
 Ex P n e S ⟨d,.indexAddr t x ix,ty,pos,af,gd⟩ (.pointer (some ⟨g,r,none⟩)):=by
 subst hr
 exact vM hx hi hik hu hz hk
end
open Go.RowKit Go.Deep Go.ChangeShapes
section
variable {α:Type} {w0 w w1:World} {S G F:Nat→Prop} {E:Rd α} {cs:List Value} {x:α} {X Y:RX} {size:Nat}
theorem RX.takeS {A:Option Addr} {n c k:Nat} {l:List α} (h:(RX.of (aq size E) [.slice A n c] l).P w S) (hk:k≤l.length):(RX.of (aq size E) [.slice A (l.take k).length c] (l.take k)).P w S:=by
 rcases h with⟨h,rfl⟩ | ⟨a,cap,h,h1,h2,hb,h3⟩
 ·injection h with h
  injection h with e1 e2 e3
  subst e1 e3
  have:k=0:=by simpa using hk
  subst this
  exact .inl ⟨rfl,rfl⟩
 ·injection h with h
  injection h with e1 e2 e3
  subst e1 e3
  have hl:(l.take k).length=k:=by rw[yj]; omega
  refine .inr ⟨a,c,rfl,by omega,h2,fun h=>hb (by omega),fun i x hx=> ?_⟩
  rw[List.getElem?_take] at hx
  split at hx
  ·exact h3 i x hx
  ·exact nomatch hx
end
section
variable {P:Program} {n:Nat} {F0:Nat→Prop} {w0 w:World} {S:Nat→Prop} {e:Env} {Rs Rs' Rf Bs:List Res} {B:Res} {Xr Y:RX}
variable {d:Option Tmp} {ty:TypeId} {pos:String} {af:Array Edge} {gd:Option (Nat×Bool)}
variable {Q:Exit→Act→World→Prop} {ops:Array Oper} {i dd:Nat} {cl:Call} {f:FuncId} {vs:List Value}
variable {α:Type} {E:Rd α} {size:Nat} {T:TypeId} {u:Value} {xs:List α}
end
section
variable {α:Type} {size:Nat} {E:Rd α} {w:World} {S:Nat→Prop}
theorem nF: ∀ {xs:List α} {cs new:List Value} {k:Nat} {x x':α},bV size E w S cs xs→xs[k]? = some x→new.length=size→E.P w S new x'→bV size E w S (cs.take (k*size)++new++cs.drop ((k+1)*size)) (xs.set k x')
 | [],_,_,k,_,_,_,hk,_,_=>by simp at hk
 | y::ys,cs,new,0,x,x',⟨h0,_,h2⟩,_,hn,hx=>by
  rw[Nat.zero_mul,List.take_zero,yk,Nat.zero_add,Nat.one_mul]
  exact⟨by rw[List.take_append_of_le_length (by omega),List.take_of_length_le (by omega)]; exact hn,by rw[List.take_append_of_le_length (by omega),List.take_of_length_le (by omega)]; exact hx,
   by rw[List.drop_append_of_le_length (by omega),List.drop_of_length_le (by omega)]; exact h2⟩
 | y::ys,cs,new,k+1,x,x',⟨h0,h1,h2⟩,hk,hn,hx=>by
  have hle:size≤cs.length:=by rw[yj] at h0; omega
  have ih:=nF (k:=k) (x:=x) h2 (by simpa using hk) hn hx
  have hc:cs=cs.take size++cs.drop size:=(List.take_append_drop size cs).symm
  have e0:(cs.take size).length=size:=h0
  have e1:cs.take ((k+1)*size)=cs.take size++(cs.drop size).take (k*size):=by
   conv=>lhs; rw[hc]
   rw[List.take_append,e0,show (k+1)*size - size=k*size by rw[Nat.add_mul]; omega,List.take_of_length_le (by rw[e0,Nat.add_mul]; omega)]
  have e2:cs.drop ((k+1+1)*size)=(cs.drop size).drop ((k+1)*size):=by
   rw[yz,show size+(k+1)*size=(k+1+1)*size by rw[Nat.add_mul (k+1)]; omega]
  rw[e1,e2,ya,ya,← ya ((cs.drop size).take (k*size))]
  exact⟨by rw[List.take_append_of_le_length (by omega),List.take_of_length_le (by omega)]; exact h0,by rw[List.take_append_of_le_length (by omega),List.take_of_length_le (by omega)]; exact h1,
   by rw[List.drop_append_of_le_length (by omega),List.drop_of_length_le (by omega),yk]; exact ih⟩
theorem aF.stored {T m c g o k off q:Nat} {G:Nat→Prop} {xs:List α} {x x':α} {us:List Value} (h:(aF T size E (.slice (some ⟨g,o,none⟩) m c) xs).P w G) (hk:xs[k]? = some x) (hq:q=o+k*size+off) (hl:off+us.length≤size)
 (hE: ∀ w S cs,cs.length=size→E.P w S cs x→E.P w S (cs.take off++us++cs.drop (off+us.length)) x') :
 ∃ cur,w.heap[g]? = some (.cells cur T (0,0))∧q+us.length≤cur.size∧(∀ k,k=g→G k)∧(aF T size E (.slice (some ⟨g,o,none⟩) m c) (xs.set k x')).P (w.setRow g (cur.toList.take q++us++cur.toList.drop (q+us.length)).toArray) G:=by
 obtain⟨cells,S,⟨hlen,hown⟩,h2,h3,h4,h5⟩:=h
 rcases hown with⟨hv,_⟩ | ⟨g',cap,cur,hv,hb0,hg,hnc,hcm,hcs,htk⟩
 ·cases hv
 injection hv with hv1 hv2 hv3
 injection hv1 with hv1
 injection hv1 with hv4 hv5
 subst hv4 hv5 hv2 hv3
 have hkl:k<xs.length:=(xS hk).1
 have hks:(k+1)*size≤xs.length*size:=Nat.mul_le_mul_right _ hkl
 have hcap:xs.length*size≤c*size:=Nat.mul_le_mul_right _ hnc
 have hk1:(k+1)*size=k*size+size:=by rw[Nat.add_mul,Nat.one_mul]
 have hfit:q+us.length≤cur.size:=by rw[hcs]; omega
 refine⟨cur,hg,hfit,fun k hk=>by subst hk; exact (h5 _).2 (.inl rfl),?_⟩
 obtain⟨c1,c2⟩:=kz h2 hk
 have hgS: ¬ S g:=h4 g rfl
 have hnew:((cells.drop (k*size)).take size).take off++us++((cells.drop (k*size)).take size).drop (off+us.length)=((cells.drop (k*size)).take size).take off++us++((cells.drop (k*size)).take size).drop (off+us.length):=rfl
 have hset:=nF h2 hk (new:=((cells.drop (k*size)).take size).take off++us++((cells.drop (k*size)).take size).drop (off+us.length)) (by simp only[xR,yj,xT] at c1 ⊢; omega) (hE w S _ c1 c2)
 have hset':bV size E (w.setRow g (cur.toList.take q++us++cur.toList.drop (q+us.length)).toArray) S _ (xs.set k x'):=dM hset (fun k hk=>setRow_other w g k _ (fun e=>hgS (e ▸ hk)))
 refine⟨_,S,⟨?_,.inr ⟨g,c,_,by rw[List.length_set],hb0,setRow_heap w g cur _ T (0,0) hg,by rw[List.length_set]; exact hnc,hcm,?_,?_⟩⟩,hset',fun k hk=>by rw[size_setRow]; exact h3 k hk,h4,h5⟩
 ·have:=eE hset
  exact this
 ·simp only[List.size_toArray,xR,yj,xT,Array.length_toList]
  omega
 ·rw[List.length_set]
  have hcl:cur.toList.length=c*size:=by simpa using hcs
  have hcells:cells.length=xs.length*size:=hlen
  have d1:(cells.drop (k*size)).take size=(cells.drop (k*size)).take size:=rfl
  have hq2:q+us.length≤xs.length*size:=by omega
  have r1:cells.take (k*size)++((cells.drop (k*size)).take size).take off=cells.take q:=by
   rw[List.take_take,Nat.min_eq_left (by omega),← List.take_add,show k*size+off=q by omega]
  have r2:((cells.drop (k*size)).take size).drop (off+us.length)++cells.drop ((k+1)*size)=cells.drop (q+us.length):=by
   have e1:cells.drop ((k+1)*size)=(cells.drop (k*size)).drop size:=by rw[yz,hk1]
   have e2:cells.drop (q+us.length)=(cells.drop (k*size)).drop (off+us.length):=by rw[yz,show k*size+(off+us.length)=q+us.length by omega]
   rw[e1,e2,← List.drop_append_of_le_length (by omega),List.take_append_drop]
  have r3:cells.take (k*size)++(((cells.drop (k*size)).take size).take off++us++((cells.drop (k*size)).take size).drop (off+us.length))++cells.drop ((k+1)*size)=cells.take q++us++cells.drop (q+us.length):=by
   rw[← r1,← r2]
   simp only[ya]
  rw[r3,← htk,List.drop_take,List.take_take,Nat.min_eq_left (by omega)]
  have l1:(cur.toList.take q++us).length=q+us.length:=by rw[xR,yj]; omega
  rw[List.toList_toArray,List.take_append,l1,List.take_of_length_le (by omega)]
end
section
variable {P:Program} {n:Nat} {F0:Nat→Prop} {w0:World} {e:Env} {Rs Rf:List Res} {Q:Exit→Act→World→Prop} {ops:Array Oper} {d:Option Tmp} {i:Nat} {ty t t' el:TypeId} {pos:String} {af:Array Edge} {gd:Option (Nat×Bool)} {v v':Value} {x y:Operand} {l:List Nat} {lo:Sch} {c:Code} {S:World→Prop}
theorem TD.unf {α:Type} {E:Rd α} {B:Res} {q g:Nat} {cs:List Value} {u:α} (i:Nat) (hi:Rs[i]? = some (oz B E g q cs u)) (h:TD P n F0 w0 ops lo Rf e (Rs.set i B) Q):TD P n F0 w0 ops lo Rf e Rs Q:=fun a w ha hs=>h a w ha (hs.unf i hi)
section
variable {α:Type} {E:Rd α} {T m cp size g o k off q z:Nat} {xs:List α} {u u':α}
theorem Ef.stE (j:Nat) (off:Nat) (hx:e.ev x=some (.pointer (some ⟨g,q,none⟩))) (hy:e.ev y=some v) (hz: ∀ w,(sizeOf t).run P w= .ok z w) (hi:Rs[j]? = some (aF T size E (.slice (some ⟨g,o,none⟩) m cp) xs)) (hk:xs[k]? = some u) (hq:q=o+k*size+off)
 (hvz:Nat.beq v.cells.size z=true) (hf:Nat.ble (off+v.cells.size) size=true) (ho:v.cells.toList.all (·.oneCell')=true) (hE: ∀ w S cs,cs.length=size→E.P w S cs u→E.P w S (cs.take off++v.cells.toList++cs.drop (off+v.cells.toList.length)) u') :
 Ef P n F0 w0 e Rs ⟨none,.store t x y,ty,pos,af,gd⟩ (fun e' Rs'=>e'=e∧Rs'=Rs.set j (aF T size E (.slice (some ⟨g,o,none⟩) m cp) (xs.set k u'))):=by
 intro a w K Q ha hs hk'
 have hvz':=Nat.eq_of_beq_eq_true hvz
 have hf':off+v.cells.toList.length≤size:=by rw[Array.length_toList]; exact Nat.le_of_ble_eq_true hf
 obtain⟨G,hG,_⟩:=hs.get j hi
 obtain⟨cur,h1,h2,h3,h4⟩:=aF.stored hG hk hq hf' hE
 have h5:=run_storeCells_at (P:=P) g q T v.cells.toList 0 cur w h1 (by simpa using h2) (List.all_eq_true.1 ho)
 have h6:(execOp a.eval ⟨none,.store t x y,ty,pos,af,gd⟩).run P w= .ok .skip (w.setRow g (cur.toList.take q++v.cells.toList++cur.toList.drop (q+v.cells.toList.length)).toArray):=by
  simp only[Nat.add_zero] at h5
  simp[execOp,ha.ev hx,ha.ev hy,Instr.storeAt,Instr.sureAddr,storeVar,hz,hvz',h5]
 unfold Oper.wp
 rw[h6]
 refine hk' _ _ ⟨rfl,rfl⟩ _ _ ha.put0 (hs.step j hi (Ns := []) (fun G' hG'=> ?_))
 obtain⟨cur',k1,k2,k3,k4⟩:=aF.stored hG' hk hq hf' hE
 rw[h1] at k1
 injection k1 with k1
 injection k1 with k1
 subst k1
 exact⟨⟨rfl,rfl,rfl,by simp[World.setRow],fun k hk hn=>setRow_other w g k _ (fun e=>hn (k3 k e))⟩,G',k4,fun k hk=> .inl hk,trivial⟩
theorem TL.stE (j:Nat) (off:Nat) {u':α} (ho:ops[i]? = some ⟨none,.store t x y,ty,pos,af,gd⟩) (hw:Wd n ops e ⟨none,.store t x y,ty,pos,af,gd⟩ true) (hx:e.ev x=some (.pointer (some ⟨g,q,none⟩))) (hy:e.ev y=some v) (hz: ∀ w,(sizeOf t).run P w= .ok z w) (hi:Rs[j]? = some (aF T size E (.slice (some ⟨g,o,none⟩) m cp) xs)) (hk:xs[k]? = some u) (hq:q=o+k*size+off)
 (hvz:Nat.beq v.cells.size z=true) (hf:Nat.ble (off+v.cells.size) size=true) (ho':v.cells.toList.all (·.oneCell')=true) (hE: ∀ w S cs,cs.length=size→E.P w S cs u→E.P w S (cs.take off++v.cells.toList++cs.drop (off+v.cells.toList.length)) u')
 (h:TL P n F0 w0 ops l e (Rs.set j (aF T size E (.slice (some ⟨g,o,none⟩) m cp) (xs.set k u'))) Q):TL P n F0 w0 ops (i::l) e Rs Q:=by
 refine v8 ho hw (Ef.stE j off hx hy hz hi hk hq hvz hf ho' hE) ?_
 rintro _ _ ⟨rfl,rfl⟩
 exact h
theorem TD.stE (j:Nat) (off:Nat) {u':α} (ho:ops[i]? = some ⟨none,.store t x y,ty,pos,af,gd⟩) (hw:Wd n ops e ⟨none,.store t x y,ty,pos,af,gd⟩ true) (hx:e.ev x=some (.pointer (some ⟨g,q,none⟩))) (hy:e.ev y=some v) (hz: ∀ w,(sizeOf t).run P w= .ok z w) (hi:Rs[j]? = some (aF T size E (.slice (some ⟨g,o,none⟩) m cp) xs)) (hk:xs[k]? = some u) (hq:q=o+k*size+off)
 (hvz:Nat.beq v.cells.size z=true) (hf:Nat.ble (off+v.cells.size) size=true) (ho':v.cells.toList.all (·.oneCell')=true) (hE: ∀ w S cs,cs.length=size→E.P w S cs u→E.P w S (cs.take off++v.cells.toList++cs.drop (off+v.cells.toList.length)) u')
 (is:List Nat) (hf':Sel (Rs.set j (aF T size E (.slice (some ⟨g,o,none⟩) m cp) (xs.set k u'))) is Rf)
 (h:TD P n F0 w0 ops lo Rf e (Rs.set j (aF T size E (.slice (some ⟨g,o,none⟩) m cp) (xs.set k u'))) Q):TD P n F0 w0 ops (.e i lo) Rf e Rs Q:=by
 refine wt ho hw (Ef.stE j off hx hy hz hi hk hq hvz hf ho' hE) ?_
 rintro _ _ ⟨rfl,rfl⟩
 exact⟨Rf,fun w hw=>hw.sel is hf',fun _ h=>h,h⟩
end
section
variable {α:Type} {E:Rd α} {T bytes k:Nat} {zv:Value} {u:α} {m:Int} {kl:IntKind} {d':Nat}
theorem mr {cell:Value} {w:World} {S:Nat→Prop} (hE:E.P w S [cell] u): ∀ k,bV 1 E w S (List.replicate k cell) (List.replicate k u)
 | 0=>rfl
 | k+1=>⟨by simp,by simpa [List.replicate_succ] using hE,by simpa [List.replicate_succ] using mr hE k⟩
theorem m5 (cell:Value) (k:Nat):madeCells #[cell] k=(List.replicate k cell).toArray:=by
 apply Array.ext
 ·simp[madeCells]
 ·intro i h1 h2
  simp[madeCells,Nat.mod_one]
theorem Ef.mk1 (E:Rd α) (u:α) (hu:P.underlying t=some (.slice T)) (hinfo:(P.info? T).map (fun i=>(i.zero,i.size,i.bytes))=some (some zv,1,bytes)) (hc:zv.cells= #[v]) (hx:e.ev x=some (.int kl m)) (hm:m=(k:Int)) (hb:bytes*k≤281474976710656) (h63:k≤9223372036854775807) (hE: ∀ w S,E.P w S [v] u) (hd:okd d n=true) :
 Ef P n F0 w0 e Rs ⟨d,.makeSlice t x x,ty,pos,af,gd⟩ (fun e' Rs'=> ∃ b,e'=fu d (.slice (some ⟨b,0,none⟩) (List.replicate k u).length (List.replicate k u).length) e∧Rs'=aF T 1 E (.slice (some ⟨b,0,none⟩) (List.replicate k u).length (List.replicate k u).length) (List.replicate k u)::Rs):=by
 intro a w K Q ha hs hk
 subst hm
 obtain⟨ti,hi,hzz⟩:=Option.map_eq_some_iff.1 hinfo
 simp only[Prod.mk.injEq] at hzz
 obtain⟨hz0,hz1,hz2⟩:=hzz
 subst hz2
 have hb':(ti.bytes:Int)*(k:Int)≤281474976710656:=by
  have h:((ti.bytes*k:Nat):Int)≤281474976710656:=by omega
  rwa [Int.natCast_mul] at h
 have hr:=run_make (P:=P) w t T ti zv hu hi hz0 kl kl k k (by omega) (Int.le_refl _) hb' (by omega)
 have h1:(execOp a.eval ⟨d,.makeSlice t x x,ty,pos,af,gd⟩).run P w= .ok (.value (.slice (some ⟨w.heap.size,0,none⟩) (List.replicate k u).length (List.replicate k u).length)) (w.alloc (.cells (List.replicate k v).toArray T)):=by
  simp only[yA,hz1,Nat.mul_one,hc,m5] at hr
  simp[execOp,ha.ev hx,hr]
 unfold Oper.wp
 rw[h1]
 refine hk _ _ ⟨_,rfl,rfl⟩ _ _ (ha.putd hd) ?_
 exact aF.lit E hs _ _ (by rw[List.length_replicate]; exact h63) (by rw[List.toList_toArray]; exact mr (hE _ _) k)
theorem TL.mk1 (E:Rd α) (u:α) (ho:ops[i]? = some ⟨some d',.makeSlice t x x,ty,pos,af,gd⟩) (hw:Wd n ops e ⟨some d',.makeSlice t x x,ty,pos,af,gd⟩ true) (hu:P.underlying t=some (.slice T)) (hinfo:(P.info? T).map (fun i=>(i.zero,i.size,i.bytes))=some (some zv,1,bytes)) (hc:zv.cells= #[v]) (hx:e.ev x=some (.int kl m)) (hm:m=(k:Int)) (hb:bytes*k≤281474976710656) (h63:k≤9223372036854775807) (hE: ∀ w S,E.P w S [v] u) (hd:Nat.blt d' n=true)
 (h: ∀ b,TL P n F0 w0 ops l ((d',.slice (some ⟨b,0,none⟩) (List.replicate k u).length (List.replicate k u).length)::e) (aF T 1 E (.slice (some ⟨b,0,none⟩) (List.replicate k u).length (List.replicate k u).length) (List.replicate k u)::Rs) Q):TL P n F0 w0 ops (i::l) e Rs Q:=by
 refine v8 ho hw (Ef.mk1 E u hu hinfo hc hx hm hb h63 hE hd) ?_
 rintro _ _ ⟨b,rfl,rfl⟩
 exact h b
end
def bitOp:BinOp→Bool
 | .and | .or | .xor | .andNot=>true
 | _=>false
theorem Ex.bitw {bo:BinOp} {k:IntKind} {p q:Int} (hb:bitOp bo=true) (hx:e.ev x=some (.int k p)) (hy:e.ev y=some (.int k q)):Ex P n e S ⟨d,.binOp bo t x y t',ty,pos,af,gd⟩ (.int k (Go.bits bo k p q)):=by
 intro a w ha _
 have h1:Op.intBits bo k p q=pure (.int k (Go.bits bo k p q)):=by cases bo <;> first | rfl | exact absurd hb (by decide)
 have h2:(binOp bo t (.int k p) (.int k q)).run P w= .ok (.int k (Go.bits bo k p q)) w:=by
  cases bo <;> first | exact absurd hb (by decide) | simp only[binOp,h1,ne_eq,not_true,if_false,Sem.run_pure]
 have h3:eqGuard bo t x y (.int k p) (.int k q)=pure ():=by cases bo <;> first | exact absurd hb (by decide) | rfl
 simp only[execOp,ha.ev hx,ha.ev hy,h3,Sem.run_bind,Sem.run_pure,Result.andThen_ok,h2]
def m6 (k:IntKind) (p q:Int):Int:=p.fdiv (2 ^ min q.toNat k.bits)
theorem Ex.shr {k k':IntKind} {p q:Int} (hx:e.ev x=some (.int k p)) (hy:e.ev y=some (.int k' q)) (hq:0≤q):Ex P n e S ⟨d,.binOp .shr t x y t',ty,pos,af,gd⟩ (.int k (m6 k p q)):=by
 intro a w ha _
 have h0: ¬ q<0:=by omega
 simp[execOp,ha.ev hx,ha.ev hy,eqGuard,binOp,Op.shift,h0,m6]
theorem Ex.notK {k:IntKind} {p:Int} (hx:e.ev x=some (.int k p)):Ex P n e S ⟨d,.unOp .xor t x,ty,pos,af,gd⟩ (.int k (Go.bits .xor k (if k.signed then -1 else k.max) p)):=by
 intro a w ha _
 have h1:Op.intBits .xor k (if k.signed then -1 else k.max) p=pure (.int k (Go.bits .xor k (if k.signed then -1 else k.max) p)):=rfl
 simp[execOp,ha.ev hx,Op.unary,h1]
end
def j9 (l:List Int):Array Value:=(l.map (Value.int .u32)).toArray
def fZ (T g:Nat) (l:List Int):Res where
 P:=fun w G=>(aA g T (j9 l)).P w G∧l.length=256
 lt:=fun h=>(aA g T (j9 l)).lt h.1
 move:=fun h hm=>⟨(aA g T (j9 l)).move h.1 hm,h.2⟩
theorem tD {l:List Int} {k:Nat} {u:Int} (h:l[k]? = some u):(j9 l)[k]? = some (.int .u32 u):=by
 unfold j9
 simp[h]
section
variable {P:Program} {n:Nat} {F0:Nat→Prop} {w0 w:World} {e:Env} {Rs Rf:List Res} {Q:Exit→Act→World→Prop} {ops:Array Oper} {d:Option Tmp} {i:Nat} {ty t t' el:TypeId} {pos:String} {af:Array Edge} {gd:Option (Nat×Bool)} {v v':Value} {x y ix:Operand} {L:List Nat} {lo:Sch} {c:Code} {S:World→Prop}
variable {T g k:Nat} {l:List Int} {u u':Int}
theorem rJ (j:Nat) (h:St F0 w0 Rs w) (hj:Rs[j]? = some (fZ T g l)):l.length=256:=by
 obtain⟨G,hG,_⟩:=h.get j hj
 exact hG.2
theorem rK (j:Nat) (h:St F0 w0 Rs w) (hj:Rs[j]? = some (fZ T g l)):w.heap[g]? = some (.cells (j9 l) T (0,0)):=by
 obtain⟨G,hG,_⟩:=h.get j hj
 exact hG.1.1
theorem Ex.tIx (j:Nat) {a:Int} {q:IntKind} (hx:e.ev x=some (.pointer (some ⟨g,0,none⟩))) (hi:e.ev ix=some (.int q a)) (hik:a=(k:Int)) (hu: ∀ w,(underlying t).run P w= .ok (.array 256 el) w) (hz: ∀ w,(sizeOf el).run P w= .ok 1 w) (hj:Rs[j]? = some (fZ T g l)) (hk:l[k]? = some u) :
 Ex P n e (St F0 w0 Rs) ⟨d,.indexAddr t x ix,ty,pos,af,gd⟩ (.pointer (some ⟨g,k,none⟩)):=by
 intro A w ha hs
 have h1:=rJ j hs hj
 have h2:k<256:=by rw[← h1]; exact (xS hk).1
 have h3:=Ex.ixP (S:=fun _=>True) (d:=d) (ty:=ty) (pos:=pos) (af:=af) (gd:=gd) hx hi hik hu hz h2 A w ha trivial
 rwa [show 0+k*1=k by omega] at h3
theorem Ex.tLd (j:Nat) (hx:e.ev x=some (.pointer (some ⟨g,k,none⟩))) (ha: ∀ w,(isAgg t).run P w= .ok false w) (hj:Rs[j]? = some (fZ T g l)) (hk:l[k]? = some u) :
 Ex P n e (St F0 w0 Rs) ⟨d,.load t x,ty,pos,af,gd⟩ (.int .u32 u) :=
 Ex.ld1 hx ha (fun w hw=>(aM (rK j hw hj) k).trans (tD hk))
theorem Ef.tSt (j:Nat) (hx:e.ev x=some (.pointer (some ⟨g,k,none⟩))) (hy:e.ev y=some (.int .u32 u')) (hz: ∀ w,(sizeOf t).run P w= .ok 1 w) (hj:Rs[j]? = some (fZ T g l)) (hk:l[k]? = some u) :
 Ef P n F0 w0 e Rs ⟨none,.store t x y,ty,pos,af,gd⟩ (fun e' Rs'=>e'=e∧Rs'=Rs.set j (fZ T g (l.set k u'))):=by
 intro a w K Q ha hs hk'
 have hb:=rK j hs hj
 have hl:=rJ j hs hj
 have hkl:k<l.length:=(xS hk).1
 have hc:((j9 l).toList.take k ++ [Value.int .u32 u']++(j9 l).toList.drop (k+1)).toArray=j9 (l.set k u'):=by
  unfold j9
  rw[List.map_set,List.set_eq_take_append_cons_drop,if_pos (by rw[zf]; exact hkl)]
  simp
 have h2:=run_storeCells_at (P:=P) g k T [Value.int .u32 u'] 0 (j9 l) w hb (by simp[j9]; omega) (by simp[Value.oneCell'])
 simp only[Nat.add_zero,yY] at h2
 rw[hc] at h2
 have h1:(execOp a.eval ⟨none,.store t x y,ty,pos,af,gd⟩).run P w= .ok .skip (w.setRow g (j9 (l.set k u'))):=by
  simp[execOp,ha.ev hx,ha.ev hy,Instr.storeAt,Instr.sureAddr,storeVar,hz,Value.cells,h2]
 unfold Oper.wp
 rw[h1]
 refine hk' _ _ ⟨rfl,rfl⟩ _ _ ha.put0 (hs.step j hj (Ns := []) (fun G hG=> ?_))
 exact⟨⟨rfl,rfl,rfl,by simp[World.setRow],fun k hk hn=>setRow_other w g k _ (fun e=>hn (e ▸ (hG.1.2 g).2 rfl))⟩,G,⟨⟨setRow_heap w g _ _ T (0,0) hG.1.1,hG.1.2⟩,by rw[List.length_set]; exact hG.2⟩,fun k hk=> .inl hk,trivial⟩
theorem TL.tSt (j:Nat) (ho:ops[i]? = some ⟨none,.store t x y,ty,pos,af,gd⟩) (hw:Wd n ops e ⟨none,.store t x y,ty,pos,af,gd⟩ true) (hx:e.ev x=some (.pointer (some ⟨g,k,none⟩))) (hy:e.ev y=some (.int .u32 u')) (hz: ∀ w,(sizeOf t).run P w= .ok 1 w) (hj:Rs[j]? = some (fZ T g l)) (hk:l[k]? = some u)
 (h:TL P n F0 w0 ops L e (Rs.set j (fZ T g (l.set k u'))) Q):TL P n F0 w0 ops (i::L) e Rs Q:=by
 refine v8 ho hw (Ef.tSt j hx hy hz hj hk) ?_
 rintro _ _ ⟨rfl,rfl⟩
 exact h
theorem Ex.bldZ {m:Nat} {zs:Array Value} (hz: ∀ w,(zeroValue t).run P w= .ok (.agg zs) w) (hu: ∀ w,(underlying t).run P w= .ok (.array m el) w) (hs: ∀ w,(sizeOf el).run P w= .ok 1 w):Ex P n e S ⟨d,.build t #[],ty,pos,af,gd⟩ (.agg zs):=by
 intro a w ha _
 have h1:(Instr.build t #[]).run P w= .ok (.agg zs) w:=by
  simp only[Instr.build,Sem.run_bind,hz,hu,hs,Result.andThen_ok]
  rfl
 simp only[execOp,Sem.run_bind]
 simp[h1]
theorem TL.tNew {zs:Array Value} {d:Nat} (ho:ops[i]? = some ⟨some d,.box t x,ty,pos,af,gd⟩) (hw:Wd n ops e ⟨some d,.box t x,ty,pos,af,gd⟩ true) (hx:e.ev x=some (.agg zs)) (hzs:zs=j9 (List.replicate 256 0)) (hd:Nat.blt d n=true)
 (h: ∀ b,TL P n F0 w0 ops L ((d,.pointer (some ⟨b,0,none⟩))::e) (fZ t b (List.replicate 256 0)::Rs) Q):TL P n F0 w0 ops (i::L) e Rs Q:=by
 refine TL.box ho hw hx hd (fun b=> ?_)
 intro a w ha hs
 subst hzs
 exact h b a w ha (hs.weaken 0 rfl (fun G hG=>⟨hG,List.length_replicate ..⟩))
end
def LW (P:Program) (c:Code) (Q:Exit→Act→World→Prop) (a:Act) (w:World):Prop:= ∀ b k cs,∃ x a' w',Q x a' w'∧Arrives P (lone (b.at a (.code c :: .inLoop c::k)) cs w) b k cs x a' w'
def TW (P:Program) (n:Nat) (F0:Nat→Prop) (w0:World) (e:Env) (Rs:List Res) (c:Code) (Q:Exit→Act→World→Prop):Prop:= ∀ a w,Has n e a→St F0 w0 Rs w→LW P c Q a w
section
variable {P:Program} {n:Nat} {F0:Nat→Prop} {w0:World} {e:Env} {Rs:List Res} {Q:Exit→Act→World→Prop} {c:Code}
theorem T.unroll0 (h:TW P n F0 w0 e Rs c Q):T P n F0 w0 e Rs (.loop c) Q:=by
 intro a w ha hs b k cs
 obtain⟨x,a',w',hq,harr⟩:=h a w ha hs b k cs
 exact⟨x,a',w',hq,.of_steps (.one step_loop) harr⟩
theorem TW.step (h:T P n F0 w0 e Rs c (Exit.then (LW P c Q) Q)):TW P n F0 w0 e Rs c Q:=by
 intro a w ha hs b k cs
 obtain⟨x,a₁,w₁,hq,harr⟩:=h a w ha hs b (.inLoop c::k) cs
 cases x with
 | normal =>
  obtain⟨x₂,a₂,w₂,hq₂,harr₂⟩:=hq b k cs
  exact⟨x₂,a₂,w₂,hq₂,.of_steps (Steps.trans harr (.one step_inLoop)) harr₂⟩
 | exit id=>exact⟨_,a₁,w₁,hq,.pass (x:= .inLoop c) rfl (fun _ _=> .inl (by simp)) harr⟩
 | goto l=>exact⟨_,a₁,w₁,hq,.pass (x:= .inLoop c) rfl (fun _ _=> .inl (by simp)) harr⟩
 | ret=>exact⟨_,a₁,w₁,hq,.pass (x:= .inLoop c) rfl (fun _ _=> .inl (by simp)) harr⟩
 | panic ch=>exact⟨_,a₁,w₁,hq,.pass (x:= .inLoop c) rfl (fun _ _=> .inl (by simp)) harr⟩
 | outgrown=>exact⟨_,a₁,w₁,hq,.pass (x:= .inLoop c) rfl (fun _ _=> .inl (by simp)) harr⟩
theorem wl (h:TW P n F0 w0 e Rs c Q):X n F0 w0 e Rs .normal (Exit.then (LW P c Q) Q):=h
end
def bsI (l:List UInt8):List Int:=l.map fun c=>(c.toNat:Int)
theorem eo (l:List UInt8):(bsI l).length=l.length:=by simp[bsI]
section
variable {P:Program} {n:Nat} {F0:Nat→Prop} {w0 w:World} {e:Env} {Rs Rf:List Res} {Q:Exit→Act→World→Prop} {ops:Array Oper} {d:Option Tmp} {i:Nat} {ty t t' el:TypeId} {pos:String} {af:Array Edge} {gd:Option (Nat×Bool)} {v v':Value} {x y ix:Operand} {L:List Nat} {lo:Sch} {S:World→Prop}
variable {T b c k m:Nat} {xs:List Int} {u u':Int}
end
section
variable {α:Type} {size:Nat} {E:Rd α} {w:World} {S:Nat→Prop}
theorem aF.openN {F0:Nat→Prop} {w0:World} {Rs:List Res} {T:TypeId} {v:Value} {xs:List α} (i:Nat) (h:St F0 w0 Rs w) (hi:Rs[i]? = some (aF T size E v xs)) :
 ∃ cells,w.ownsRow 0 T size v xs.length cells∧ ∀ v1 w1 news l,w1.ownsRow 0 T size v1 (xs.length+l.length) (cells++news)→w.grownBy w1 v.ownBlock→(v1.ownBlock=v.ownBlock∨ ∃ k,v1.ownBlock=some k∧w.heap.size≤k) →
  (∀ w S cs,bV size E w S cs xs→bV size E w S (cs++news) (xs++l))→St F0 w0 (Rs.set i (aF T size E v1 (xs++l))) w1:=by
 obtain⟨f,hs⟩:=h
 obtain⟨G,⟨cells,S,h1,h2,h3,h4,h5⟩,hG,hr⟩:=Sep.pick i hi hs
 refine⟨cells,h1,fun v1 w1 news l ho hg hat hl=> ?_⟩
 have hne: ∀ k,S k→k<w.heap.size∧some k≠v.ownBlock:=fun k hk=>⟨h3 k hk,fun e=>h4 k e.symm hk⟩
 have hS1:bV size E w1 S cells xs:=dM h2 (fun k hk=>hg.block k (hne k hk).1 (hne k hk).2)
 have hle:=hg.size
 have f2:Fr G w w1:=wD hg (fun k hk=>(h5 k).2 (.inl hk))
 refine⟨f.trans f2 hG,?_⟩
 have hfs:=f.size
 have hR:Sep (Rs.eraseIdx i) w1 (fun k=>((F0 k∨w0.heap.size≤k)∧ ¬ G k)∧k<w.heap.size):=hr.inside.move (fun k hk _=>f2.block k hk.2 hk.1.2)
 refine Sep.back (G:=fun k=>v1.ownBlock=some k∨S k) i hi ⟨cells++news,S,?_,hl _ _ _ hS1,fun k hk=>Nat.lt_of_lt_of_le (h3 k hk) hle,?_,fun _=>Iff.rfl⟩ ?_ (hR.mono (fun k hk=>⟨hk.1.1,?_⟩))
 ·rw[xR]; exact ho
 ·intro k hk
  rcases hat with e | ⟨k',e,hk'⟩
  ·rw[e] at hk; exact h4 k hk
  ·rw[e] at hk
   injection hk with hk
   subst hk
   intro hs'
   have:=h3 _ hs'
   omega
 ·rintro k (hk | hk)
  ·rcases hat with e | ⟨k',e,hk'⟩
   ·rw[e] at hk; exact hG k ((h5 k).2 (.inl hk))
   ·rw[e] at hk
    injection hk with hk
    subst hk
    exact .inr (by omega)
  ·exact hG k ((h5 k).2 (.inr hk))
 ·rintro (h6 | h6)
  ·rcases hat with e | ⟨k',e,hk'⟩
   ·rw[e] at h6; exact hk.1.2 ((h5 k).2 (.inl h6))
   ·rw[e] at h6
    injection h6 with h6
    subst h6
    have:=hk.2
    omega
  ·exact hk.1.2 ((h5 k).2 (.inr h6))
end
section
variable {P:Program} {n:Nat} {F0:Nat→Prop} {w0:World} {e:Env} {Rs Rf:List Res} {Q:Exit→Act→World→Prop} {ops:Array Oper} {d:Option Tmp} {i:Nat} {ty t:TypeId} {pos:String} {af:Array Edge} {gd:Option (Nat×Bool)} {sl x:Operand} {L:List Nat} {lo:Sch}
variable {α:Type} {E:Rd α} {cf:α→List Value} {T z bytes:Nat} {zv:Value} {A A2:Option Addr} {c c2:Nat} {l l2:List α}
end
section
variable {P:Program} {n:Nat} {F0:Nat→Prop} {w0:World} {e:Env} {Rs Rf:List Res} {Q:Exit→Act→World→Prop} {ops:Array Oper} {i:Nat} {ty t:TypeId} {pos:String} {af:Array Edge} {gd:Option (Nat×Bool)} {x y:Operand} {L:List Nat} {lo:Sch} {b:Nat} {s:List UInt8×Int}
theorem Ef.outZ (j:Nat) (hx:e.ev x=some (.pointer (some ⟨b,0,none⟩))) (hy:e.ev y=some (.agg #[.slice none 0 0,.int .i64 0])) (hz: ∀ w,(sizeOf t).run P w= .ok 2 w) (hj:Rs[j]? = some (aU b s)) :
 Ef P n F0 w0 e Rs ⟨none,.store t x y,ty,pos,af,gd⟩ (fun e' Rs'=>e'=e∧Rs'=Rs.set j (aU b ([],0))):=by
 intro a w K Q ha hs hk
 obtain⟨G,⟨v,h1,_,_⟩,_⟩:=hs.get j hj
 have h2:=run_storeCells_at (P:=P) b 0 84 [Value.slice none 0 0,.int .i64 0] 0 _ w h1 (by simp) (by intro v hv; simp at hv; rcases hv with rfl | rfl <;> rfl)
 have h3:(execOp a.eval ⟨none,.store t x y,ty,pos,af,gd⟩).run P w= .ok .skip (w.setRow b #[.slice none 0 0,.int .i64 0]):=by
  simp at h2
  simp[execOp,ha.ev hx,ha.ev hy,Instr.storeAt,Instr.sureAddr,storeVar,hz,Value.cells,h2]
 unfold Oper.wp
 rw[h3]
 refine hk _ _ ⟨rfl,rfl⟩ _ _ ha.put0 (hs.step j hj (Ns := []) (fun G hG=> ?_))
 obtain⟨v',k1,k2,k3⟩:=hG
 refine⟨⟨rfl,rfl,rfl,by simp[World.setRow],fun q hq hn=>setRow_other w b q _ (fun e=>hn (e ▸ (k3 b).2 (.inl rfl)))⟩,fun q=>q=b,⟨_,setRow_heap w b _ _ _ (0,0) k1,World.ownsRow_nil _ _ _ _,fun q=>by simp[Value.ownBlock]⟩,fun q hq=> .inl ((k3 q).2 (.inl hq)),trivial⟩
theorem TL.outZ (j:Nat) (ho:ops[i]? = some ⟨none,.store t x y,ty,pos,af,gd⟩) (hw:Wd n ops e ⟨none,.store t x y,ty,pos,af,gd⟩ true) (hx:e.ev x=some (.pointer (some ⟨b,0,none⟩))) (hy:e.ev y=some (.agg #[.slice none 0 0,.int .i64 0])) (hz: ∀ w,(sizeOf t).run P w= .ok 2 w) (hj:Rs[j]? = some (aU b s))
 (h:TL P n F0 w0 ops L e (Rs.set j (aU b ([],0))) Q):TL P n F0 w0 ops (i::L) e Rs Q:=by
 refine v8 ho hw (Ef.outZ j hx hy hz hj) ?_
 rintro _ _ ⟨rfl,rfl⟩
 exact h
end
def sI {ι:Type} (f:ι→List Res):Res where
 P:=fun w G=>(∃ i,Sep (f i) w G)∧ ∀ k,G k→k<w.heap.size
 lt:=fun h k hk=>h.2 k hk
 move:=fun {w w' G} h hm=>⟨let ⟨i,hi⟩:=h.1; ⟨i,hi.move_ hm⟩,fun k hk=>by
  have h1:=h.2 k hk
  have h2:=hm k hk
  rw[Array.getElem?_eq_getElem h1] at h2
  exact (Array.getElem?_eq_some_iff.1 h2).1⟩
section
variable {P:Program} {n:Nat} {F0:Nat→Prop} {w0 w:World} {e:Env} {Rs Rs' Rf:List Res} {Q:Exit→Act→World→Prop} {ops:Array Oper} {l:List Nat} {c:Code} {x:Exit} {ι:Type} {f:ι→List Res}
theorem St.pakOpen (j:Nat) (h:St F0 w0 Rs w) (hj:Rs[j]? = some (sI f)): ∃ i,St F0 w0 (f i++Rs.eraseIdx j) w:=by
 obtain⟨fr,hs⟩:=h
 obtain⟨G,⟨⟨i,h1⟩,_⟩,h2,h3⟩:=Sep.pick j hj hs
 exact⟨i,fr,Sep.append h1 h3 h2⟩
theorem Sep.splitA: ∀ {As Bs:List Res} {w:World} {F:Nat→Prop},Sep (As++Bs) w F→ ∃ G,Sep As w G∧(∀ k,G k→F k)∧(∀ k,G k→k<w.heap.size)∧Sep Bs w (fun k=>F k∧ ¬ G k)
 | [],Bs,w,F,h=>⟨fun _=>False,trivial,fun _ h=>h.elim,fun _ h=>h.elim,h.mono (fun k hk=>⟨hk,fun h=>h⟩)⟩
 | A::As,Bs,w,F,⟨H,h1,h2,h3⟩=>by
  obtain⟨G,k1,k2,k3,k4⟩:=Sep.splitA h3
  refine⟨fun k=>H k∨G k,⟨H,h1,fun k hk=> .inl hk,k1.mono (fun k hk=>⟨.inr hk,(k2 k hk).2⟩)⟩,?_,?_,k4.mono (fun k hk=>⟨hk.1.1,fun h=>h.elim hk.1.2 hk.2⟩)⟩
  ·rintro k (hk | hk)
   ·exact h2 k hk
   ·exact (k2 k hk).1
  ·rintro k (hk | hk)
   ·exact A.lt h1 k hk
   ·exact k3 k hk
theorem St.pakShut (i:ι) (h:St F0 w0 (f i++Rs) w):St F0 w0 (sI f::Rs) w:=by
 obtain⟨fr,hs⟩:=h
 obtain⟨G,k1,k2,k3,k4⟩:=Sep.splitA hs
 exact⟨fr,G,⟨⟨i,k1⟩,k3⟩,k2,k4⟩
theorem T.pakOpen (j:Nat) (hj:Rs[j]? = some (sI f)) (h: ∀ i,T P n F0 w0 e (f i++Rs.eraseIdx j) c Q):T P n F0 w0 e Rs c Q:=fun a w ha hs=>let ⟨i,hi⟩:=hs.pakOpen j hj; h i a w ha hi
theorem X.pakShut (i:ι) (hR:Rs=f i++Rs') (h:X n F0 w0 e (sI f::Rs') x Q):X n F0 w0 e Rs x Q:=fun a w ha hs=>h a w ha (by rw[hR] at hs; exact hs.pakShut i)
end
theorem jh {w:World} {S:Nat→Prop}: ∀ (s:List UInt8),bV 1 u8E w S (aD s) (bsI s)
 | []=>rfl
 | c::s=>⟨rfl,rfl,jh s⟩
theorem kI {α:Type} {size:Nat} {E:Rd α} {w:World} {S:Nat→Prop}: ∀ {xs ys:List α} {cs ds:List Value},bV size E w S cs xs→bV size E w S ds ys→bV size E w S (cs++ds) (xs++ys)
 | [],ys,cs,ds,h,k=>by
  obtain rfl:cs = []:=h
  exact k
 | x::xs,ys,cs,ds,⟨h0,h1,h2⟩,k=>by
  have hle:size≤cs.length:=by rw[yj] at h0; omega
  refine⟨?_,?_,?_⟩
  ·rw[List.take_append_of_le_length hle]; exact h0
  ·rw[List.take_append_of_le_length hle]; exact h1
  ·rw[List.drop_append_of_le_length hle]; exact kI h2 k
theorem ms {α:Type} {size:Nat} {E:Rd α} {w:World} {S:Nat→Prop}: ∀ {xs:List α} {cs:List Value} (k:Nat),bV size E w S cs xs→bV size E w S (cs.take (k*size)) (xs.take k)
 | xs,cs,0,h=>by simp[bV]
 | [],cs,k+1,h=>by
  obtain rfl:cs = []:=h
  simp[bV]
 | x::xs,cs,k+1,⟨h0,h1,h2⟩=>by
  have hle:size≤(k+1)*size:=by rw[Nat.add_mul]; omega
  have e1:(cs.take ((k+1)*size)).take size=cs.take size:=by rw[List.take_take,Nat.min_eq_left hle]
  refine⟨by rw[e1]; exact h0,by rw[e1]; exact h1,?_⟩
  rw[List.drop_take,show (k+1)*size - size=k*size by rw[Nat.add_mul]; omega]
  exact ms k h2
theorem pC {w:World} {S:Nat→Prop}: ∀ {xs:List Int} {cs:List Value},bV 1 u8E w S cs xs→cs=xs.map (Value.int .u8)
 | [],cs,h=>h
 | x::xs,cs,⟨h0,h1,h2⟩=>by
  have h3:=pC h2
  have h1:cs.take 1 = [.int .u8 x]:=h1
  rw[← List.take_append_drop 1 cs,h1,h3]
  rfl
theorem pD {w:World} {S:Nat→Prop}: ∀ (xs:List Int),bV 1 u8E w S (xs.map (Value.int .u8)) xs
 | []=>rfl
 | x::xs=>⟨rfl,rfl,pD xs⟩
section
variable {P:Program} {n:Nat} {F0:Nat→Prop} {w0 w:World} {e:Env} {Rs Rf:List Res} {Q:Exit→Act→World→Prop} {ops:Array Oper} {d:Option Tmp} {i:Nat} {ty t t' el:TypeId} {pos:String} {af:Array Edge} {gd:Option (Nat×Bool)} {v:Value} {x y:Operand} {L:List Nat} {lo:Sch} {cd:Code}
variable {U c m k:Nat} {A:Option Addr}
theorem uP (s:List UInt8):(aC s).data.toList=s:=by simp[aC]
theorem Ef.appStr (j:Nat) {l:List Int} {s:List UInt8} (hu:P.underlying t=some (.slice U)) (hv:P.underlying t'=some .string) (hinfo:(P.info? U).map (fun i=>(i.zero,i.size,i.bytes))=some (some (.int .u8 0),1,1)) (hs:e.ev x=some (.slice A l.length c)) (hy:e.ev y=some (.string (aC s))) (hj:Rs[j]? = some (aF U 1 u8E (.slice A l.length c) l)) (hb:l.length+s.length≤140737488355328) (hd:okd d n=true) :
 Ef P n F0 w0 e Rs ⟨d,.call ⟨.builtin .append,#[x,y],#[t,t']⟩,ty,pos,af,gd⟩ (fun e' Rs'=> ∃ A' c',e'=fu d (.slice A' (l++bsI s).length c') e∧Rs'=Rs.set j (aF U 1 u8E (.slice A' (l++bsI s).length c') (l++bsI s))):=by
 intro a w K Q ha hst hk
 obtain⟨ti,hi,hzz⟩:=Option.map_eq_some_iff.1 hinfo
 simp only[Prod.mk.injEq] at hzz
 obtain⟨cells,hown,hgo⟩:=aF.openN j hst hj
 obtain⟨v',w',hr,h2,h3,h4⟩:=jd (P:=P) w t t' ty U ti hu hv hi hzz.1 hzz.2.1 hzz.2.2 _ l.length cells hown (aC s) (by rw[aR]; exact hb)
 rw[aR,jc,uP] at h2
 have h5:=hgo v' w' (aD s) (bsI s) (by rw[eo]; exact h2) h3 (h4.imp id (fun h=>⟨_,h,yn _⟩)) (fun w S cs h=>kI h (jh s))
 obtain⟨A',c',rfl⟩:=fD h2
 have hl:l.length+s.length=(l++bsI s).length:=by rw[xR,eo]
 rw[hl] at h5 hr
 have h6:(execOp a.eval ⟨d,.call ⟨.builtin .append,#[x,y],#[t,t']⟩,ty,pos,af,gd⟩).run P w= .ok (.value (.slice A' (l++bsI s).length c')) w':=by
  simp[execOp,resolve,invoke,builtin,ha.ev hs,ha.ev hy,hr]
 unfold Oper.wp
 rw[h6]
 exact hk _ _ ⟨A',c',rfl,rfl⟩ _ _ (ha.putd hd) h5
theorem TL.appStr {d:Nat} (j:Nat) {l:List Int} {s:List UInt8} (ho:ops[i]? = some ⟨some d,.call ⟨.builtin .append,#[x,y],#[t,t']⟩,ty,pos,af,gd⟩) (hw:Wd n ops e ⟨some d,.call ⟨.builtin .append,#[x,y],#[t,t']⟩,ty,pos,af,gd⟩ true) (hu:P.underlying t=some (.slice U)) (hv:P.underlying t'=some .string) (hinfo:(P.info? U).map (fun i=>(i.zero,i.size,i.bytes))=some (some (.int .u8 0),1,1)) (hs:e.ev x=some (.slice A l.length c)) (hy:e.ev y=some (.string (aC s))) (hj:Rs[j]? = some (aF U 1 u8E (.slice A l.length c) l)) (hb:l.length+s.length≤140737488355328) (hd:Nat.blt d n=true)
 (h: ∀ A' c',TL P n F0 w0 ops L ((d,.slice A' (l++bsI s).length c')::e) (Rs.set j (aF U 1 u8E (.slice A' (l++bsI s).length c') (l++bsI s))) Q):TL P n F0 w0 ops (i::L) e Rs Q:=by
 refine v8 ho hw (Ef.appStr j hu hv hinfo hs hy hj hb hd) ?_
 rintro _ _ ⟨A',c',rfl,rfl⟩
 exact h A' c'
variable {α:Type} {E:Rd α} {z:Nat} {xs ys:List α}
theorem xi {G:Nat→Prop} (h:(aF U z E (.slice A m c) xs).P w G):m=xs.length∧m≤c∧c≤maxLen∧((A=none∧c=0)∨ ∃ g,A=some ⟨g,0,none⟩):=by
 obtain⟨cells,S,⟨_,h1⟩,_⟩:=h
 rcases h1 with⟨h1,h2⟩ | ⟨g,cap,cur,h1,_,_,h3,h4,_⟩
 ·injection h1 with e1 e2 e3
  exact⟨by omega,by omega,by subst e3; exact yw _,.inl ⟨e1,e3⟩⟩
 ·injection h1 with e1 e2 e3
  exact⟨by omega,by omega,by omega,.inr ⟨g,e1⟩⟩
theorem wh {hi:Option Operand} {z':Nat} (j:Nat) (hj:Rs[j]? = some (aF U z E (.slice A m c) xs)) (hx:e.ev x=some (.slice A m c)) (hu: ∀ w,(underlying t).run P w= .ok (.slice el) w) (hz: ∀ w,(sizeOf el).run P w= .ok z' w) (hhi:HiOK e m hi k) (hk:k≤m) :
 Ex P n e (St F0 w0 Rs) ⟨d,.slice t x none hi none,ty,pos,af,gd⟩ (.slice A k c):=by
 intro a w ha hs
 obtain⟨G,hG,_⟩:=hs.get j hj
 obtain⟨f1,f2,f3,f4⟩:=xi hG
 have b1: ∀ kd cd,(Instr.sliceBound (.int kd (k:Int)) c cd).run P w= .ok k w:=by
  intro kd cd
  have:(0:Int)≤(k:Int)∧(k:Int)≤(c:Int):=by omega
  simp[Instr.sliceBound,asIntOf,this]
 have e3:(if c=0 then A else A.map (·.add (0*z')))=A:=by
  split
  ·rfl
  ·rcases f4 with⟨rfl,_⟩ | ⟨g,rfl⟩
   ·rfl
   ·have e2:(⟨g,0,none⟩:Addr).add 0=⟨g,0,none⟩:=by unfold Addr.add; split <;> simp_all
    simp[e2]
 have e4:(if c=0 then A else A.map (·.add 0))=A:=by rw[Nat.zero_mul] at e3; exact e3
 cases hhi with
 | none=>simp[execOp,ha.ev hx,Instr.sliceAt,Instr.slice,hu,hz,Instr.sliceBounds,e4]
 | some h1 h2 =>
  subst h2
  simp[execOp,ha.ev hx,ha.ev h1,Instr.sliceAt,Instr.slice,hu,hz,Instr.sliceBounds,b1,e4]
def iW (A:Option Addr) (c k z:Nat):Option Addr:=if c=k then A else A.map (·.add (k*z))
theorem xg {lw:Operand} {z':Nat} {kd:IntKind} {q:Int} (hx:e.ev x=some (.slice A m c)) (hu: ∀ w,(underlying t).run P w= .ok (.slice el) w) (hz: ∀ w,(sizeOf el).run P w= .ok z' w) (hl:e.ev lw=some (.int kd q)) (hq:q=(k:Int)) (hk:k≤m) {S:World→Prop} :
 Ex P n e S ⟨d,.slice t x (some lw) none none,ty,pos,af,gd⟩ (.slice (iW A c k z') (m - k) (c - k)):=by
 intro a w ha hs
 subst hq
 have b1: ∀ kd cd,(Instr.sliceBound (.int kd (k:Int)) m cd).run P w= .ok k w:=by
  intro kd cd
  have:(0:Int)≤(k:Int)∧(k:Int)≤(m:Int):=by omega
  simp[Instr.sliceBound,asIntOf,this]
 simp[execOp,ha.ev hx,ha.ev hl,Instr.sliceAt,Instr.slice,hu,hz,Instr.sliceBounds,b1,iW]
theorem xl {xs:List Int} (i:Nat) (hi:Rs[i]? = some (aF U 1 u8E (.slice A m c) xs)) (hx:e.ev x=some (.slice A k c)) (hk:k≤m) (hs: ∀ w,(underlying t).run P w= .ok (.slice el) w) (hd: ∀ w,(underlying t').run P w= .ok .string w) (hel: ∀ w,(underlying el).run P w= .ok (.int .u8) w) :
 Ex P n e (St F0 w0 Rs) ⟨d,.convert t t' x,ty,pos,af,gd⟩ (.string (aC (eG (xs.take k)))):=by
 intro a w ha hw
 obtain⟨G,h1,h2⟩:=hw.get i hi
 obtain⟨f1,f2,f3,f4⟩:=xi h1
 have h3:=ba (size:=1) (E:=u8E) (by decide) w G h1
 have h4:(aq 1 u8E).P w G [.slice A (xs.take k).length c] (xs.take k):=by
  rw[f1] at h3
  exact RX.takeS (S:=G) (A:=A) (c:=c) (l:=xs) (E:=u8E) (size:=1) h3 (by omega)
 have h5:=tC (P:=P) h4
 have hl:(xs.take k).length=k:=by rw[yj]; omega
 rw[hl] at h5
 simp[execOp,ha.ev hx,convert,hs,hd,hel,h5]
theorem St.shrink (j:Nat) (h:St F0 w0 Rs w) (hj:Rs[j]? = some (aF U z E (.slice A m c) xs)) (hk:xs.take k=ys) (hkm:k≤m):St F0 w0 (Rs.set j (aF U z E (.slice A k c) ys)) w:=by
 refine h.weaken j hj (fun G hG=> ?_)
 obtain⟨f1,f2,f3,f4⟩:=xi hG
 obtain⟨cells,S,⟨g0,g1⟩,g2,g3,g4,g5⟩:=hG
 have hl:ys.length=k:=by rw[← hk,yj]; omega
 have ho: ∀ q,(Value.slice A k c).ownBlock=some q↔(Value.slice A m c).ownBlock=some q:=by
  intro q
  cases A <;> simp[Value.ownBlock]
 refine⟨cells.take (k*z),S,⟨by rw[hl,yj,g0]; exact Nat.min_eq_left (Nat.mul_le_mul_right _ (by omega)),?_⟩,by rw[← hk]; exact ms k g2,g3,fun q hq=>g4 q ((ho q).1 hq),fun q=>by rw[g5 q,ho q]⟩
 rcases g1 with⟨e1,e2⟩ | ⟨g,cap,cur,e1,r1,r2,r3,r4,r5,r6⟩
 ·injection e1 with e1 e3 e4
  subst e1 e4
  left
  have:k=0:=by omega
  subst this
  exact⟨rfl,hl⟩
 ·injection e1 with e1 e3 e4
  subst e4
  refine .inr ⟨g,c,cur,by rw[e1,hl],r1,r2,by omega,r4,r5,?_⟩
  rw[← r6,List.take_take,hl,Nat.min_eq_left (Nat.mul_le_mul_right _ (by omega))]
theorem wA (j:Nat) (hj:Rs[j]? = some (aF U z E (.slice A m c) xs)) (hk:xs.take k=ys) (hkm:k≤m) (h:TD P n F0 w0 ops lo Rf e (Rs.set j (aF U z E (.slice A k c) ys)) Q):TD P n F0 w0 ops lo Rf e Rs Q:=fun a w ha hs=>h a w ha (hs.shrink j hj hk hkm)
theorem ew {α:Type} (xs:List α) (k:Nat) (hk:k≤xs.length):(xs.drop k++xs.drop (xs.length - k)).take (xs.length - k)=xs.drop k:=by
 rw[List.take_append_of_le_length (by rw[xT]; omega),List.take_of_length_le (by rw[xT]; omega)]
theorem mt (g o j:Nat):(⟨g,o,none⟩:Addr).add j=⟨g,o+j,none⟩:=by unfold Addr.add; split <;> simp_all
theorem uQ {g:Nat} {xs:List Int} {G:Nat→Prop} (h:(aF U 1 u8E (.slice (some ⟨g,0,none⟩) m c) xs).P w G): ∃ cur,w.heap[g]? = some (.cells cur U (0,0))∧cur.size=c∧cur.toList.take m=xs.map (Value.int .u8):=by
 obtain⟨cells,S,⟨g0,g1⟩,g2,g3,g4,g5⟩:=h
 rcases g1 with⟨e1,e2⟩ | ⟨g',cap,cur,e1,r1,r2,r3,r4,r5,r6⟩
 ·injection e1 with e1
  cases e1
 ·injection e1 with e1 e3 e4
  injection e1 with e1
  injection e1 with e5 e6
  subst e4 e5 e3
  exact⟨cur,r2,by omega,by rw[← pC g2,← r6,Nat.mul_one]⟩
theorem Ef.copyD (j:Nat) {xs:List Int} (hu:P.underlying t=some (.slice U)) (hz:(P.info? U).map (·.size)=some 1) (hx:e.ev x=some (.slice A m c)) (hy:e.ev y=some (.slice (iW A c k 1) (m - k) (c - k))) (hj:Rs[j]? = some (aF U 1 u8E (.slice A m c) xs)) (hk:k≤m) (hd:okd d n=true) :
 Ef P n F0 w0 e Rs ⟨d,.call ⟨.builtin .copy,#[x,y],#[t,t']⟩,ty,pos,af,gd⟩ (fun e' Rs'=>e'=fu d (.int .i64 ((m - k:Nat):Int)) e∧Rs'=Rs.set j (aF U 1 u8E (.slice A m c) (xs.drop k++xs.drop (m - k)))):=by
 intro a w K Q ha hst hK
 obtain⟨G0,hG0,_⟩:=hst.get j hj
 obtain⟨f1,f2,f3,f4⟩:=xi hG0
 by_cases h0:m - k=0
 ·have hr:=run_copy_none (P:=P) w t t' ty U A (iW A c k 1) m c (m - k) (c - k) hu hz (by rw[h0]; exact Nat.zero_min _)
  have h6:(execOp a.eval ⟨d,.call ⟨.builtin .copy,#[x,y],#[t,t']⟩,ty,pos,af,gd⟩).run P w= .ok (.value (.int .i64 ((m - k:Nat):Int))) w:=by
   rw[h0] at hr hy ⊢
   simp[execOp,resolve,invoke,builtin,ha.ev hx,ha.ev hy,hr,goInt]
  unfold Oper.wp
  rw[h6]
  have e1:xs.drop k++xs.drop (m - k)=xs:=by rw[h0,List.drop_of_length_le (by omega)]; simp
  refine hK _ _ ⟨rfl,rfl⟩ _ _ (ha.putd hd) ?_
  rw[e1]
  exact hst.weaken j hj (fun G h=>h)
 ·obtain⟨g,rfl⟩: ∃ g,A=some ⟨g,0,none⟩:=by
   rcases f4 with⟨_,h⟩ | h
   ·omega
   ·exact h
  obtain⟨cur,c1,c2,c3⟩:=uQ hG0
  have hcut:iW (some ⟨g,0,none⟩) c k 1=some ⟨g,k,none⟩:=by
   unfold iW
   rw[if_neg (by omega),Option.map_some,mt,Nat.zero_add,Nat.mul_one]
  rw[hcut] at hy
  have hcs:((xs.drop k).map (Value.int .u8)).length=m - k:=by rw[zf,xT]; omega
  have hmin:m - k=Nat.min (m - k) m:=(Nat.min_eq_left (by omega)).symm
  have hr:=run_copy_row (P:=P) w t t' ty U g 0 m c ⟨g,k,none⟩ (m - k) (c - k) cur U ((xs.drop k).map (Value.int .u8)) hu hz c1 (hcs.trans hmin) (fun q u hq=>by
   rw[mt,aM c1,← Array.getElem?_toList]
   rw[List.map_drop,← c3,List.getElem?_drop,List.getElem?_take] at hq
   split at hq
   ·exact hq
   ·cases hq) (by rw[hcs,c2]; omega) (fun v hv=>by obtain⟨u,_,rfl⟩:=List.mem_map.1 hv; rfl)
  rw[hcs,List.take_zero,yk,Nat.zero_add] at hr
  have h6:(execOp a.eval ⟨d,.call ⟨.builtin .copy,#[x,y],#[t,t']⟩,ty,pos,af,gd⟩).run P w= .ok (.value (.int .i64 ((m - k:Nat):Int))) (w.setRow g ((xs.drop k).map (Value.int .u8)++cur.toList.drop (m - k)).toArray):=by
   simp[execOp,resolve,invoke,builtin,ha.ev hx,ha.ev hy,hr,goInt]
  have hlen:(xs.drop k++xs.drop (m - k)).length=m:=by rw[xR,xT,xT]; omega
  have hsz:((xs.drop k).map (Value.int .u8)++cur.toList.drop (m - k)).length=c:=by rw[xR,hcs,xT,Array.length_toList]; omega
  have htk:((xs.drop k).map (Value.int .u8)++cur.toList.drop (m - k)).take m=(xs.drop k++xs.drop (m - k)).map (Value.int .u8):=by
   rw[List.take_append,hcs,List.take_of_length_le (by omega),List.map_append,List.map_drop,List.map_drop,← c3,List.drop_take,List.drop_take]
  unfold Oper.wp
  rw[h6]
  refine hK _ _ ⟨rfl,rfl⟩ _ _ (ha.putd hd) (hst.step j hj (Ns := []) (fun G hG=> ?_))
  obtain⟨cells,S,⟨g0,g1⟩,g2,g3,g4,g5⟩:=hG
  have hG':G g:=(g5 g).2 (.inl rfl)
  refine⟨⟨rfl,rfl,rfl,by simp[World.setRow],fun q hq hn=>setRow_other w g q _ (fun e=>hn (e ▸ hG'))⟩,G,⟨(xs.drop k++xs.drop (m - k)).map (Value.int .u8),S,⟨?_,.inr ⟨g,c,_,by rw[hlen],yw _,setRow_heap w g cur _ U (0,0) c1,by rw[hlen]; exact f2,f3,?_,?_⟩⟩,pD _,fun q hq=>by rw[size_setRow]; exact g3 q hq,g4,g5⟩,fun q hq=> .inl hq,trivial⟩
  ·rw[zf,Nat.mul_one]
  ·rw[List.size_toArray,hsz,Nat.mul_one]
  ·rw[hlen,Nat.mul_one]
   exact htk
theorem wJ {d:Nat} (j:Nat) {xs:List Int} (ho:ops[i]? = some ⟨some d,.call ⟨.builtin .copy,#[x,y],#[t,t']⟩,ty,pos,af,gd⟩) (hw:Wd n ops e ⟨some d,.call ⟨.builtin .copy,#[x,y],#[t,t']⟩,ty,pos,af,gd⟩ true) (hu:P.underlying t=some (.slice U)) (hz:(P.info? U).map (·.size)=some 1) (hx:e.ev x=some (.slice A m c)) (hy:e.ev y=some (.slice (iW A c k 1) (m - k) (c - k))) (hj:Rs[j]? = some (aF U 1 u8E (.slice A m c) xs)) (hk:k≤m) (hd:Nat.blt d n=true) (is:List Nat) (hf:Sel (Rs.set j (aF U 1 u8E (.slice A m c) (xs.drop k++xs.drop (m - k)))) is Rf)
 (h:TD P n F0 w0 ops lo Rf ((d,.int .i64 ((m - k:Nat):Int))::e) (Rs.set j (aF U 1 u8E (.slice A m c) (xs.drop k++xs.drop (m - k)))) Q):TD P n F0 w0 ops (.e i lo) Rf e Rs Q:=by
 refine wt ho hw (Ef.copyD j hu hz hx hy hj hk hd) ?_
 rintro _ _ ⟨rfl,rfl⟩
 exact⟨Rf,fun w hw=>hw.sel is hf,fun _ h=>h,h⟩
end
section
variable {P:Program} {n:Nat} {F0:Nat→Prop} {w0:World} {e:Env} {Rs:List Res} {Q:Exit→Act→World→Prop}
def AtL (n:Nat) (F0:Nat→Prop) (w0:World) (J:Nat→Nat→Env→List Res→Prop) (l:Nat) (a:Act) (w:World):Prop:= ∃ m e Rs,J l m e Rs∧Has n e a∧St F0 w0 Rs w
theorem T.scope {c:Code} (J:Nat→Nat→Env→List Res→Prop)
 (pass: ∀ l m e Rs,J l m e Rs→ ∃ rest,findLabel c l=some (Code.skip.seq rest)∧T P n F0 w0 e Rs rest (Exit.jumps (AtL n F0 w0 (fun l' m' e' Rs'=>m'<m∧J l' m' e' Rs')) Q))
 (first:(∀ l rest m e Rs,findLabel c l=some (Code.skip.seq rest)→J l m e Rs→T P n F0 w0 e Rs rest (Exit.jumps (AtL n F0 w0 J) Q))→T P n F0 w0 e Rs c (Exit.jumps (AtL n F0 w0 J) Q)):T P n F0 w0 e Rs (.scope c) Q:=by
 intro a w ha hs
 have least: ∀ l a w,AtL n F0 w0 J l a w→ ∃ m,(∃ e Rs,J l m e Rs∧Has n e a∧St F0 w0 Rs w)∧ ∀ m',(∃ e Rs,J l m' e Rs∧Has n e a∧St F0 w0 Rs w)→m≤m':=by
  intro l a w h
  obtain⟨m,e,Rs,h1⟩:=h
  have: ∀ k,(∃ e Rs,J l k e Rs∧Has n e a∧St F0 w0 Rs w)→ ∃ m,(∃ e Rs,J l m e Rs∧Has n e a∧St F0 w0 Rs w)∧ ∀ m',(∃ e Rs,J l m' e Rs∧Has n e a∧St F0 w0 Rs w)→m≤m':=by
   intro k
   induction k using Nat.strongRecOn with
   | _ k ih =>
    intro hk
    by_cases hx: ∃ m',m'<k∧ ∃ e Rs,J l m' e Rs∧Has n e a∧St F0 w0 Rs w
    ·obtain⟨m',hlt,hm'⟩:=hx
     exact ih m' hlt hm'
    ·exact⟨k,hk,fun m' hm'=>Nat.le_of_not_lt fun hlt=>hx ⟨m',hlt,hm'⟩⟩
  exact this m ⟨e,Rs,h1⟩
 refine hY (AtL n F0 w0 J) (fun l a w => @dite Nat (AtL n F0 w0 J l a w) (Classical.propDecidable _) (fun h=>(least l a w h).choose) (fun _=>0)) ?_ ?_
 ·intro l a w h
  have hc:=(least l a w h).choose_spec
  obtain⟨⟨e,Rs,h1,h2,h3⟩,hmin⟩:=hc
  obtain⟨rest,r1,r2⟩:=pass l _ e Rs h1
  refine⟨rest,r1,wp_mono (r2 a w h2 h3) ?_⟩
  intro x a' w' hx
  cases x with
  | goto l' =>
   obtain⟨m',e',Rs',⟨hlt,hJ⟩,ha',hs'⟩:=hx
   have hA:AtL n F0 w0 J l' a' w':=⟨m',e',Rs',hJ,ha',hs'⟩
   refine⟨hA,?_⟩
   rw[dif_pos hA,dif_pos h]
   exact Nat.lt_of_le_of_lt ((least l' a' w' hA).choose_spec.2 m' ⟨e',Rs',hJ,ha',hs'⟩) hlt
  | _=>exact hx
 ·intro hl
  refine first (fun l rest m e Rs hf hJ a w ha hs=>hl l rest a w hf ⟨m,e,Rs,hJ,ha,hs⟩) a w ha hs
end
section
variable {P:Program} {n:Nat} {F0:Nat→Prop} {w0 w:World} {e e':Env} {Rs Rs' Rf:List Res} {Q:Exit→Act→World→Prop} {ops:Array Oper} {L:List Nat} {lo:Sch} {cd:Code} {K:Act→World→Prop} {l id:Nat} {J:Nat→Nat→Env→List Res→Prop} {J':Nat→Act→World→Prop}
theorem X.gs (h:X n F0 w0 e Rs (.goto l) Q):X n F0 w0 e Rs (.goto l) (Exit.then K Q):=h
theorem X.rj (h:X n F0 w0 e Rs .ret Q):X n F0 w0 e Rs .ret (Exit.jumps J' Q):=h
theorem X.gj {m:Nat} (is:List Nat) (hJ:J l m e' Rs') (he:Sub e' e) (hr:Sel Rs is Rs'):X n F0 w0 e Rs (.goto l) (Exit.jumps (AtL n F0 w0 J) Q):=fun a w ha hs=>⟨m,e',Rs',hJ,ha.sub he.get,hs.sel is hr⟩
theorem X.nilrow {x:Exit} {α:Type} (T':TypeId) (size:Nat) (E:Rd α) (h:X n F0 w0 e (aF T' size E (.slice none 0 0) []::Rs) x Q):X n F0 w0 e Rs x Q:=fun a w ha hs=>h a w ha (aF.nil T' size E hs)
theorem NoP.jm (h:NoP Q):NoP (Exit.jumps J' Q):=h
def oA (b T z:Nat):Res:=sI (fun cs : {cs:Array Value // cs.size=z} => [aA b T cs.1])
theorem St.any {b T z:Nat} {cs:Array Value} (i:Nat) (h:St F0 w0 Rs w) (hi:Rs[i]? = some (aA b T cs)) (hz:cs.size=z):St F0 w0 (Rs.set i (oA b T z)) w :=
 h.weaken i hi (fun G hG=>⟨⟨⟨cs,hz⟩,G,hG,fun k hk=>hk,trivial⟩,(aA b T cs).lt hG⟩)
theorem X.any {x:Exit} {b T z:Nat} {cs:Array Value} (i:Nat) (hi:Rs[i]? = some (aA b T cs)) (hz:cs.size=z) (h:X n F0 w0 e (Rs.set i (oA b T z)) x Q):X n F0 w0 e Rs x Q:=fun a w ha hs=>h a w ha (hs.any i hi hz)
theorem T.any {b T' z:Nat} {cs:Array Value} (i:Nat) (hi:Rs[i]? = some (aA b T' cs)) (hz:cs.size=z) (h:T P n F0 w0 e (Rs.set i (oA b T' z)) cd Q):T P n F0 w0 e Rs cd Q:=fun a w ha hs=>h a w ha (hs.any i hi hz)
variable {d:Option Tmp} {i:Nat} {ty t t' el:TypeId} {pos:String} {af:Array Edge} {gd:Option (Nat×Bool)} {v:Value} {x y:Operand}
theorem Ef.stAll {b U z:Nat} (i:Nat) (hx:e.ev x=some (.pointer (some ⟨b,0,none⟩))) (hy:e.ev y=some v) (hz: ∀ w,(sizeOf t).run P w= .ok z w) (hi:Rs[i]? = some (oA b U z)) (hvz:Nat.beq v.cells.size z=true) (ho:v.cells.toList.all (·.oneCell')=true) :
 Ef P n F0 w0 e Rs ⟨none,.store t x y,ty,pos,af,gd⟩ (fun e' Rs'=>e'=e∧Rs'=Rs.set i (aA b U v.cells)):=by
 intro a w K Q ha hs hk
 have hvz':=Nat.eq_of_beq_eq_true hvz
 obtain⟨f,hsp⟩:=id hs
 obtain⟨G0,⟨⟨⟨cs,hcz⟩,⟨H,hH,_,_⟩⟩,_⟩,_,_⟩:=Sep.pick i hi hsp
 have hb:w.heap[b]? = some (.cells cs U (0,0)):=hH.1
 have h2:=run_storeCells_at (P:=P) b 0 U v.cells.toList 0 cs w hb (by rw[Array.length_toList]; omega) (List.all_eq_true.1 ho)
 have h1:(execOp a.eval ⟨none,.store t x y,ty,pos,af,gd⟩).run P w= .ok .skip (w.setRow b v.cells):=by
  have e1:cs.toList.drop v.cells.size = []:=by rw[List.drop_of_length_le (by rw[Array.length_toList]; omega)]
  simp only[Nat.add_zero,Array.length_toList,List.take_zero,yk,Nat.zero_add,e1,yp] at h2
  simp[execOp,ha.ev hx,ha.ev hy,Instr.storeAt,Instr.sureAddr,storeVar,hz,hvz',h2]
 unfold Oper.wp
 rw[h1]
 refine hk _ _ ⟨rfl,rfl⟩ _ _ ha.put0 (hs.step i hi (Ns := []) (fun G hG=> ?_))
 obtain⟨⟨⟨cs',hcz'⟩,⟨H',hH',hsub,_⟩⟩,hlt⟩:=hG
 have hGb:G b:=hsub b ((hH'.2 b).2 rfl)
 exact⟨⟨rfl,rfl,rfl,by simp[World.setRow],fun q hq hn=>setRow_other w b q _ (fun e=>hn (e ▸ hGb))⟩,fun k=>k=b,⟨setRow_heap w b cs _ U (0,0) hb,fun _=>Iff.rfl⟩,fun k hk=> .inl (by subst hk; exact hGb),trivial⟩
theorem TL.stAll {b U z:Nat} (j:Nat) (ho:ops[i]? = some ⟨none,.store t x y,ty,pos,af,gd⟩) (hw:Wd n ops e ⟨none,.store t x y,ty,pos,af,gd⟩ true) (hx:e.ev x=some (.pointer (some ⟨b,0,none⟩))) (hy:e.ev y=some v) (hz: ∀ w,(sizeOf t).run P w= .ok z w) (hi:Rs[j]? = some (oA b U z)) (hvz:Nat.beq v.cells.size z=true) (ho':v.cells.toList.all (·.oneCell')=true)
 (h:TL P n F0 w0 ops L e (Rs.set j (aA b U v.cells)) Q):TL P n F0 w0 ops (i::L) e Rs Q:=by
 refine v8 ho hw (Ef.stAll j hx hy hz hi hvz ho') ?_
 rintro _ _ ⟨rfl,rfl⟩
 exact h
variable {α:Type} {E:Rd α} {z:Nat} {xs ys:List α} {A A2:Option Addr} {m c c2 k:Nat} {U bytes:Nat} {zv:Value}
def Ones (E:Rd α):Prop:= ∀ w S cs x,E.P w S cs x→cs.all (·.oneCell')=true
theorem ln {S:Nat→Prop} {a:Addr}: ∀ (l:List α) (off:Nat),(∀ i x,l[i]? = some x→ ∃ cs,cs.length=z∧(∀ j,j<z→w.cell? (a.add ((off+i)*z+j))=cs[j]?)∧E.P w S cs x)→Ones E →
 ∃ us:List Value,bV z E w S us l∧(∀ q u,us[q]? = some u→w.cell? (a.add (off*z+q))=some u)∧ ∀ u∈us,u.oneCell'=true
 | [],off,h,ho=>⟨[],rfl,fun q u hq=>by simp at hq,fun u hu=>by simp at hu⟩
 | x::l,off,h,ho=>by
  obtain⟨cs,h1,h2,h3⟩:=h 0 x rfl
  obtain⟨us,k1,k2,k3⟩:=ln l (off+1) (fun i y hy=>by
   obtain⟨cs,g1,g2,g3⟩:=h (i+1) y (by simpa using hy)
   exact⟨cs,g1,fun j hj=>by rw[← g2 j hj,show off+1+i=off+(i+1) by omega],g3⟩) ho
  refine⟨cs++us,⟨?_,?_,?_⟩,fun q u hq=> ?_,fun u hu=> ?_⟩
  ·rw[List.take_append_of_le_length (by omega),List.take_of_length_le (by omega)]; exact h1
  ·rw[List.take_append_of_le_length (by omega),List.take_of_length_le (by omega)]; exact h3
  ·rw[List.drop_append_of_le_length (by omega),List.drop_of_length_le (by omega)]; exact k1
  ·by_cases hl:q<z
   ·rw[List.getElem?_append_left (by omega)] at hq
    have:=h2 q hl
    rw[Nat.add_zero] at this
    rw[this,hq]
   ·rw[List.getElem?_append_right (by omega),h1] at hq
    have:=k2 _ u hq
    rw[← this]
    congr 2
    rw[Nat.add_mul]
    omega
  ·rcases List.mem_append.1 hu with hu | hu
   ·exact List.all_eq_true.1 (ho _ _ _ _ h3) u hu
   ·exact k3 u hu
theorem aF.openB (i j:Nat) {T:TypeId} {v:Value} {B:Res} (h:St F0 w0 Rs w) (hi:Rs[i]? = some (aF T z E v xs)) (hj:(Rs.eraseIdx i)[j]? = some B) :
 ∃ cells H,B.P w H∧w.ownsRow 0 T z v xs.length cells∧ ∀ v1 w1 news l,w1.ownsRow 0 T z v1 (xs.length+l.length) (cells++news)→w.grownBy w1 v.ownBlock→(v1.ownBlock=v.ownBlock∨ ∃ k,v1.ownBlock=some k∧w.heap.size≤k) →
  bV z E w H news l→St F0 w0 (aF T z E v1 (xs++l)::(Rs.eraseIdx i).eraseIdx j) w1:=by
 obtain⟨f,hs⟩:=h
 obtain⟨G,⟨cells,S,h1,h2,h3,h4,h5⟩,hG,hr⟩:=Sep.pick i hi hs
 obtain⟨H,hB,hH,hr2⟩:=Sep.pick j hj hr
 refine⟨cells,H,hB,h1,fun v1 w1 news l ho hg hat hx=> ?_⟩
 have hne: ∀ k,S k→k<w.heap.size∧some k≠v.ownBlock:=fun k hk=>⟨h3 k hk,fun e=>h4 k e.symm hk⟩
 have hS1:bV z E w1 S cells xs:=dM h2 (fun k hk=>hg.block k (hne k hk).1 (hne k hk).2)
 have hle:=hg.size
 have f2:Fr G w w1:=wD hg (fun k hk=>(h5 k).2 (.inl hk))
 have hfs:=f.size
 have hlt1:=B.lt hB
 have hH1:bV z E w1 H news l:=dM hx (fun k hk=>f2.block k (hlt1 k hk) (hH k hk).2)
 refine⟨f.trans f2 hG,?_⟩
 have hR:Sep ((Rs.eraseIdx i).eraseIdx j) w1 (fun k=>(((F0 k∨w0.heap.size≤k)∧ ¬ G k)∧ ¬ H k)∧k<w.heap.size):=hr2.inside.move (fun k hk _=>f2.block k hk.2 hk.1.1.2)
 refine⟨fun k=>v1.ownBlock=some k∨(S k∨H k),⟨cells++news,fun k=>S k∨H k,?_,kI (gW hS1 (fun _ h=> .inl h)) (gW hH1 (fun _ h=> .inr h)),?_,?_,fun _=>Iff.rfl⟩,?_,hR.mono (fun k hk=>⟨hk.1.1.1,?_⟩)⟩
 ·rw[xR]; exact ho
 ·rintro k (hk | hk)
  ·exact Nat.lt_of_lt_of_le (h3 k hk) hle
  ·exact Nat.lt_of_lt_of_le (hlt1 k hk) hle
 ·intro k hk
  rcases hat with e | ⟨k',e,hk'⟩
  ·rw[e] at hk
   rintro (h6 | h6)
   ·exact h4 k hk h6
   ·exact (hH k h6).2 ((h5 k).2 (.inl hk))
  ·rw[e] at hk
   injection hk with hk
   subst hk
   rintro (h6 | h6)
   ·have:=h3 _ h6; omega
   ·have:=hlt1 _ h6; omega
 ·rintro k (hk | hk | hk)
  ·rcases hat with e | ⟨k',e,hk'⟩
   ·rw[e] at hk; exact hG k ((h5 k).2 (.inl hk))
   ·rw[e] at hk
    injection hk with hk
    subst hk
    exact .inr (by omega)
  ·exact hG k ((h5 k).2 (.inr hk))
  ·exact (hH k hk).1
 ·rintro (h6 | h6 | h6)
  ·rcases hat with e | ⟨k',e,hk'⟩
   ·rw[e] at h6; exact hk.1.1.2 ((h5 k).2 (.inl h6))
   ·rw[e] at h6
    injection h6 with h6
    subst h6
    have:=hk.2
    omega
  ·exact hk.1.1.2 ((h5 k).2 (.inr h6))
  ·exact hk.1.2 h6
theorem Ef.appB (i j:Nat) (hO:Ones E) (hu:P.underlying t=some (.slice U)) (hinfo:(P.info? U).map (fun i=>(i.zero,i.size,i.bytes))=some (some zv,z,bytes)) (hzv:zv.cells.size=z) (hp:0<z)
 (hs:e.ev x=some (.slice A xs.length c)) (hx:e.ev y=some (.slice A2 ys.length c2)) (hi:Rs[i]? = some (aF U z E (.slice A xs.length c) xs)) (hj:(Rs.eraseIdx i)[j]? = some (RdR (aq z E) [.slice A2 ys.length c2] ys))
 (hb:(xs.length+ys.length)*bytes≤140737488355328) (hm:xs.length+ys.length≤140737488355328) (hd:okd d n=true) :
 Ef P n F0 w0 e Rs ⟨d,.call ⟨.builtin .append,#[x,y],#[t,t]⟩,ty,pos,af,gd⟩ (fun e' Rs'=> ∃ A' c',e'=fu d (.slice A' (xs++ys).length c') e∧Rs'=aF U z E (.slice A' (xs++ys).length c') (xs++ys)::(Rs.eraseIdx i).eraseIdx j):=by
 intro a w K Q ha hst hk
 obtain⟨ti,hti,hzz⟩:=Option.map_eq_some_iff.1 hinfo
 simp only[Prod.mk.injEq] at hzz
 obtain⟨h0,h1,h2⟩:=hzz
 obtain⟨cells,H,hB,hown,hgo⟩:=aF.openB i j hst hi hj
 have fin: ∀ q' w' news,(execOp a.eval ⟨d,.call ⟨.builtin .append,#[x,y],#[t,t]⟩,ty,pos,af,gd⟩).run P w= .ok (.value q') w'→w'.ownsRow 0 U z q' (xs.length+ys.length) (cells++news)→w.grownBy w' (Value.slice A xs.length c).ownBlock→(q'.ownBlock=(Value.slice A xs.length c).ownBlock∨ ∃ k,q'.ownBlock=some k∧w.heap.size≤k)→bV z E w H news ys→Oper.wp P ⟨d,.call ⟨.builtin .append,#[x,y],#[t,t]⟩,ty,pos,af,gd⟩ a w K Q:=by
  intro q' w' news r1 r2 r3 r4 r5
  have hst':=hgo q' w' news ys r2 r3 r4 r5
  obtain⟨A',c',rfl⟩:=fD r2
  rw[← xR] at hst' r1
  unfold Oper.wp
  rw[r1]
  exact hk _ _ ⟨A',c',rfl,rfl⟩ _ _ (ha.putd hd) hst'
 obtain⟨hB1,hB2⟩:=hB
 rcases hB1 with⟨hv,rfl⟩ | ⟨ad,cap,hv,_,_,hbk,hel⟩
 ·injection hv with hv _
  injection hv with hv1 hv2 hv3
  subst hv1 hv3
  have hr:=run_append_owned_none (P:=P) (w:=w) 0 t ty U ti z hu hti _ _ _ hown
  refine fin (.slice A xs.length c) w [] ?_ (by rw[yQ,Nat.add_zero,yp]; exact hown) ⟨rfl,rfl,rfl,yn _,fun _ _ _=>rfl⟩ (.inl rfl) rfl
  rw[yQ] at hx
  simp[execOp,resolve,invoke,builtin,ha.ev hs,ha.ev hx,hr]
 ·injection hv with hv _
  injection hv with hv1 hv2 hv3
  subst hv1 hv3
  obtain⟨us,g1,g2,g3⟩:=ln (a:=ad) ys 0 (fun i x hx=>by
   obtain⟨cs,q1,q2,q3⟩:=hel i x hx
   exact⟨cs,q1,fun j hj=>by rw[Nat.zero_add]; exact q2 j hj,q3⟩) hO
  have hlen:=eE g1
  obtain⟨q',w',hr,k2,k3,_,k5⟩:=run_append_own_at (P:=P) w 0 t ty U ti zv z bytes hu hti h0 h1 h2 hzv hp _ xs.length cells hown ad ys.length c2 us hlen (fun q u hq=>by have:=g2 q u hq; rwa [Nat.zero_mul,Nat.zero_add] at this) g3 (by simp only[maxLen]; omega) hb (yw _)
  refine fin q' w' us ?_ k2 k3 (k5.imp id (fun h=>⟨_,h,yn _⟩)) g1
  simp[execOp,resolve,invoke,builtin,ha.ev hs,ha.ev hx,hr]
theorem TL.appB {d i:Nat} (i' j:Nat) (ho:ops[i]? = some ⟨some d,.call ⟨.builtin .append,#[x,y],#[t,t]⟩,ty,pos,af,gd⟩) (hw:Wd n ops e ⟨some d,.call ⟨.builtin .append,#[x,y],#[t,t]⟩,ty,pos,af,gd⟩ true) (hO:Ones E) (hu:P.underlying t=some (.slice U)) (hinfo:(P.info? U).map (fun i=>(i.zero,i.size,i.bytes))=some (some zv,z,bytes)) (hzv:zv.cells.size=z) (hp:0<z)
 (hs:e.ev x=some (.slice A xs.length c)) (hx:e.ev y=some (.slice A2 ys.length c2)) (hi:Rs[i']? = some (aF U z E (.slice A xs.length c) xs)) (hj:(Rs.eraseIdx i')[j]? = some (RdR (aq z E) [.slice A2 ys.length c2] ys))
 (hb:(xs.length+ys.length)*bytes≤140737488355328) (hm:xs.length+ys.length≤140737488355328) (hd:Nat.blt d n=true)
 (h: ∀ A' c',TL P n F0 w0 ops L ((d,.slice A' (xs++ys).length c')::e) (aF U z E (.slice A' (xs++ys).length c') (xs++ys)::(Rs.eraseIdx i').eraseIdx j) Q):TL P n F0 w0 ops (i::L) e Rs Q:=by
 refine v8 ho hw (Ef.appB i' j hO hu hinfo hzv hp hs hx hi hj hb hm hd) ?_
 rintro _ _ ⟨A',c',rfl,rfl⟩
 exact h A' c'
theorem rd_cap {G:Nat→Prop} (h:(RX.of (aq z E) [.slice A m c] xs).P w G):m=xs.length∧m≤c:=by
 rcases h with⟨h,rfl⟩ | ⟨a,cap,h,h1,h2,_⟩
 ·injection h with h
  injection h with e1 e2 e3
  exact⟨e2,by omega⟩
 ·injection h with h
  injection h with e1 e2 e3
  exact⟨e2,by omega⟩
theorem RX.sub {G:Nat→Prop} {p q:Nat} (h:(RX.of (aq z E) [.slice A m c] xs).P w G) (hpq:p≤q) (hq:q≤xs.length) (hl:((xs.drop p).take (q - p))=ys):(RX.of (aq z E) [.slice (iW A c p z) ys.length (c - p)] ys).P w G:=by
 subst hl
 have hlen:((xs.drop p).take (q - p)).length=q - p:=by rw[yj,xT]; omega
 rcases h with⟨h,rfl⟩ | ⟨a,cap,h,h1,h2,hb,hr⟩
 ·injection h with h
  injection h with e1 e2 e3
  subst e1 e3
  obtain rfl:q=0:=by simpa using hq
  obtain rfl:p=0:=by omega
  exact .inl ⟨rfl,by simp⟩
 ·injection h with h
  injection h with e1 e2 e3
  subst e1 e3
  by_cases hc:c=p
  ·have hz:q - p=0:=by omega
   refine .inr ⟨a,c - p,by simp[iW,hc],by rw[hlen]; omega,by omega,fun h=>by omega,fun i x hx=> ?_⟩
   have:=(xS hx).1
   omega
  ·refine .inr ⟨a.add (p*z),c - p,by simp[iW,hc],by rw[hlen]; omega,by omega,fun h=>by rw[Go.ChangeShapes.block_add]; exact hb (by omega),fun i x hx=> ?_⟩
   rw[List.getElem?_take] at hx
   split at hx
   ·rw[List.getElem?_drop] at hx
    obtain⟨cs,k1,k2,k3⟩:=hr (p+i) x hx
    refine⟨cs,k1,fun j hj=> ?_,k3⟩
    rw[← k2 j hj]
    congr 1
    unfold Addr.add
    split <;> split <;> simp_all [Nat.add_mul,Nat.add_assoc]
   ·exact nomatch hx
theorem RX.subR {F:Nat→Prop} {p q:Nat} (h:(RX.of (aq z E) [.slice A m c] xs).reads w F) (hpq:p≤q) (hq:q≤xs.length) (hl:((xs.drop p).take (q - p))=ys):(RX.of (aq z E) [.slice (iW A c p z) ys.length (c - p)] ys).reads w F :=
 let ⟨S,h1,h2⟩:=h; ⟨S,RX.sub h1 hpq hq hl,h2⟩
theorem Ex.subS {lw hi:Option Operand} {p q mm:Nat} {S:World→Prop} (hS: ∀ w,S w→m≤c) (hx:e.ev x=some (.slice A m c)) (hu: ∀ w,(underlying t).run P w= .ok (.slice el) w) (hz: ∀ w,(sizeOf el).run P w= .ok z w) (hlo:LoOK e lw p) (hhi:HiOK e m hi q) (hpq:p≤q) (hq:q≤m) (hm:mm=q - p) :
 Ex P n e S ⟨d,.slice t x lw hi none,ty,pos,af,gd⟩ (.slice (iW A c p z) mm (c - p)):=by
 intro a w ha hs
 subst hm
 have hmc:=hS w hs
 have b1: ∀ kd cd,(Instr.sliceBound (.int kd (q:Int)) c cd).run P w= .ok q w:=by
  intro kd cd
  have:(0:Int)≤(q:Int)∧(q:Int)≤(c:Int):=by omega
  simp[Instr.sliceBound,asIntOf,this]
 have b2: ∀ kd cd,(Instr.sliceBound (.int kd (p:Int)) q cd).run P w= .ok p w:=by
  intro kd cd
  have:(0:Int)≤(p:Int)∧(p:Int)≤(q:Int):=by omega
  simp[Instr.sliceBound,asIntOf,this]
 cases hlo with
 | none =>
  cases hhi with
  | none=>simp[execOp,ha.ev hx,Instr.sliceAt,Instr.slice,hu,hz,Instr.sliceBounds,iW]
  | some h1 h2 =>
   subst h2
   simp[execOp,ha.ev hx,ha.ev h1,Instr.sliceAt,Instr.slice,hu,hz,Instr.sliceBounds,b1,iW]
 | some h1 h2 =>
  subst h2
  cases hhi with
  | none=>simp[execOp,ha.ev hx,ha.ev h1,Instr.sliceAt,Instr.slice,hu,hz,Instr.sliceBounds,b2,iW]
  | some h3 h4 =>
   subst h4
   simp[execOp,ha.ev hx,ha.ev h1,ha.ev h3,Instr.sliceAt,Instr.slice,hu,hz,Instr.sliceBounds,b1,b2,iW]
theorem uR {F:Nat→Prop} {S:World→Prop} (h:(RX.of (aq z E) [.slice A m c] xs).reads w F): ∀ w',S w'→m≤c:=fun _ _=>let ⟨_,h,_⟩:=h; (rd_cap h).2
end
end Go.Proofs.YtahjmpipllajcaaGreat.Sl
