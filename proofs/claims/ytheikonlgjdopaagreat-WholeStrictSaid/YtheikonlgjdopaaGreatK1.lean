/- wholeStrict_holds: part 1. -/
import Derived.Laws.Cells
import Derived.Laws.CopyRow
import Derived.Laws.StructEq
import Derived.IntWalk
import Derived.Laws.Strings
import Derived.Laws.BytesString
import Derived.Laws.MakeOwn
import Derived.Lib.ConvBytes
import Derived.Lib.Builder
import Derived.Lib.UnsafeStr
import Derived.Laws.IdiomCopy
import Derived.ChangeKeysEq
import Derived.Test.YtheikonlgjdopaaGreatK0
set_option maxRecDepth 100000
set_option maxHeartbeats 4000000
set_option linter.defProp false
namespace Go.Proofs.YtheikonlgjdopaaGreat.Sl
open Go.RowKit
set_option linter.unusedVariables false
theorem CL {α β : Type} {o : Option α} {f : α → Option β} {b : β} (h : o.bind f = some b) : ∃ a, o = some a ∧ f a = some b := Option.bind_eq_some_iff.1 h
def Ek := @List.length_singleton
def EE := @Tryz.ntmps185
def EN := @Tryz.func185
def NoP (Q:Exit→Act→World→Prop):Prop:= ∀ c a w,¬ Q (.panic c) a w
def xb (ops:Array Oper) (i:Nat):List Nat→List Nat→List Nat
 | [],D=>D
 | j::js,D=>xb ops i js (match ops[j]? with
  | some o=>if o.after.any (fun e=>Region.binds .any e && (Nat.beq e.on i || D.contains e.on)) then j::D else D
  | none=>D)
def uV (ops:Array Oper) (i:Nat):List Nat:=xb ops i (List.range ops.size) []
def xc (ops:Array Oper) (listed:Array Bool) (i:Nat):Bool :=
 match ops[i]? with
 | none=>false
 | some oi=>(uV ops i).all (fun j=> !listed.getD j true && match ops[j]? with | some o=>o.after.any (fun e=>Region.binds .any e && (Nat.beq e.on i || (uV ops i).contains e.on)) | none=>false) &&
  (List.range ops.size).all fun j=>j == i || listed.getD j true || (uV ops i).contains j || match ops[j]? with
   | some oj=>oi.apart ops oj
   | none=>true
inductive Sch where
 | nil
 | q (i:Nat) (s:Sch)
 | e (i:Nat) (s:Sch)
 | br (i:Nat) (s m:Sch)
def Sch.heads:Sch→List Nat
 | .e i _ => [i]
 | .br i _ m=>i::m.heads
 | _ => []
def eh (ops:Array Oper):Bool→Nat→Sch→Array Bool→Bool
 | alt,k,.nil,listed=> !alt && (k == 0) && (Region.ready .any ops listed).isEmpty
 | alt,0,_,_=>false
 | alt,k+1,.q i s,listed=> !alt && (Region.ready .any ops listed).contains i && xc ops listed i && eh ops false k s (listed.setIfInBounds i true)
 | alt,k+1,.e i s,listed=>(alt || Region.ready .any ops listed == [i]) && eh ops false k s (listed.setIfInBounds i true)
 | alt,k+1,.br i s m,listed=>(alt || Region.ready .any ops listed == i::m.heads) && eh ops false k s (listed.setIfInBounds i true) && eh ops true (k+1) m listed
def drawB (ops:Array Oper) (ord:Sch):Bool:=Region.noSelect ops && eh ops false ops.size ord (Array.replicate ops.size false)
section
variable {P:Program} {ops:Array Oper} {Q:Exit→Act→World→Prop} {S:World→Prop}
theorem qa {i:Nat} {oi:Oper} {v:Value} (D:Nat→Prop) (hi:ops[i]? = some oi) (hsel: ∀ (j:Nat) (o:Oper) cs b,ops[j]? = some o→o.op≠ .select cs b)
 (hQ: ∀ c a w,Q (.panic c) (a.put oi.dst v) w→Q (.panic c) a w) (hD: ∀ j oj,ops[j]? = some oj→D j→ ∃ e∈oj.after,Region.binds .any e=true∧(e.on=i∨D e.on)) :
 ∀ (fuel:Nat) (listed:Array Bool) (a:Act) (w:World),(∀ j,D j→listed.getD j true=false) →
  (∀ j oj,ops[j]? = some oj→j≠i→listed.getD j true=false→ ¬ D j→oi.apart ops oj=true) →
  i∈Region.ready .any ops listed→YieldsIf P ops S oi v a→S w →
  wpAnyH P .any ops Q S fuel (listed.setIfInBounds i true) (a.put oi.dst v) w→wpAnyH P .any ops Q S (fuel+1) listed a w:=by
 intro fuel
 induction fuel with
 | zero =>
  intro listed a w _ _ hr hy hS H
  refine⟨fun h=>(by rw[h] at hr; cases hr),fun j hj=> ?_⟩
  by_cases hji:j=i
  ·subst hji; exact hy.wpOp hi hS ⟨hS,H⟩
  ·have:=ready_mono hj hji
   rw[H.1] at this
   cases this
 | succ fuel ih =>
  intro listed a w hun hfree hr hy hS H
  refine⟨fun h=>(by rw[h] at hr; cases hr),fun j hj=> ?_⟩
  by_cases hji:j=i
  ·subst hji; exact hy.wpOp hi hS ⟨hS,H⟩
  ·have h1:=H.2 j (ready_mono hj hji)
   obtain⟨hjun,oj,hoj,hall⟩:=mem_ready.1 hj
   have hiun:=(mem_ready.1 hr).1
   have hnot: ¬ D j:=fun hd=>by
    obtain⟨e,he,hb,h2⟩:=hD j oj hoj hd
    have h3:=hall e he hb
    rcases h2 with h2 | h2
    ·rw[h2] at h3
     rcases Nat.lt_or_ge i listed.size with h' | h'
     ·simp[h'] at hiun h3; rw[hiun] at h3; cases h3
     ·simp[Array.getElem?_eq_none h'] at h3
    ·have h4:=hun _ h2
     rcases Nat.lt_or_ge e.on listed.size with h' | h'
     ·simp[h'] at h4 h3; rw[h4] at h3; cases h3
     ·simp[Array.getElem?_eq_none h'] at h4
   have h2:=wpOp_putIf hoj (hfree j oj hoj hji hjun hnot) (fun cs b=>hsel i oi cs b hi) (fun cs b=>hsel j oj cs b hoj) hQ hy h1
   have hun': ∀ k,D k→(listed.setIfInBounds j true).getD k true=false:=fun k hk=>by
    have hjk:j≠k:=fun e=>hnot (e ▸ hk)
    rw[getD_set_ne true hjk]
    exact hun k hk
   have hfree': ∀ k ok,ops[k]? = some ok→k≠i→(listed.setIfInBounds j true).getD k true=false→ ¬ D k→oi.apart ops ok=true:=fun k ok hk hki hu hno=>by
    refine hfree k ok hk hki ?_ hno
    by_cases hjk:j=k
    ·subst hjk; exact hjun
    ·rw[getD_set_ne true hjk] at hu; exact hu
   refine wpOp_mono (fun a' w' h3=>⟨h3.2.1,ih (listed.setIfInBounds j true) a' w' hun' hfree' (ready_mono hr (Ne.symm hji)) h3.1 h3.2.1 ?_⟩) h2
   rw[Array.setIfInBounds_comm _ _ hji]
   exact h3.2.2
theorem rz {i:Nat} {oi:Oper} {v:Value} {fuel:Nat} {listed:Array Bool} {a:Act} {w:World} (hi:ops[i]? = some oi)
 (hs:Region.noSelect ops=true) (hf:xc ops listed i=true) (hr:(Region.ready .any ops listed).contains i=true)
 (hQ: ∀ c a w,Q (.panic c) (a.put oi.dst v) w→Q (.panic c) a w) (hy:YieldsIf P ops S oi v a) (hS:S w)
 (h:wpAnyH P .any ops Q S fuel (listed.setIfInBounds i true) (a.put oi.dst v) w):wpAnyH P .any ops Q S (fuel+1) listed a w:=by
 simp only[xc,hi,Bool.and_eq_true,List.all_eq_true] at hf
 obtain⟨h1,h2⟩:=hf
 refine qa (fun j=>j∈uV ops i) hi (Region.noSelect_spec hs) hQ ?_ fuel listed a w ?_ ?_ (by simpa using hr) hy hS h
 ·intro j oj hj hd
  have h3:=(h1 j hd).2
  simp only[hj,Array.any_eq_true] at h3
  obtain⟨k,hk,h4⟩:=h3
  simp only[Bool.and_eq_true,Bool.or_eq_true,List.contains_iff_mem] at h4
  exact⟨_,Array.getElem_mem hk,h4.1,h4.2.imp Nat.eq_of_beq_eq_true id⟩
 ·intro j hd
  simpa using (h1 j hd).1
 ·intro j oj hj hne hun hno
  have hlt:j<ops.size:=(Array.getElem?_eq_some_iff.1 hj).1
  have h3:=h2 j (by simpa using hlt)
  simp only[hj,Bool.or_eq_true,beq_iff_eq,List.contains_iff_mem] at h3
  rcases h3 with ((h3 | h3) | h3) | h3
  ·exact (hne h3).elim
  ·rw[hun] at h3; cases h3
  ·exact (hno h3).elim
  ·exact h3
end
def wpO (P:Program) (ops:Array Oper) (Q:Exit→Act→World→Prop):Sch→(World→Prop)→Act→World→Prop
 | .nil,_,a,w=>Q .normal a w
 | .q i r,S,a,w=> ∃ o v,ops[i]? = some o∧YieldsIf P ops S o v a∧wpO P ops Q r S (a.put o.dst v) w
 | .e i r,S,a,w=>wpOp P ops Q i (fun a' w'=> ∃ S':World→Prop,S' w'∧(∀ w,S' w→S w)∧wpO P ops Q r S' a' w') a w
 | .br i r m,S,a,w=>wpOp P ops Q i (fun a' w'=> ∃ S':World→Prop,S' w'∧(∀ w,S' w→S w)∧wpO P ops Q r S' a' w') a w∧wpO P ops Q m S a w
section
variable {P:Program} {ops:Array Oper} {Q:Exit→Act→World→Prop}
theorem ky {S S':World→Prop} (hS: ∀ w,S' w→S w): ∀ (fuel:Nat) (listed:Array Bool) (a:Act) (w:World),wpAnyH P .any ops Q S' fuel listed a w→wpAnyH P .any ops Q S fuel listed a w
 | 0,_,_,_,h=>h
 | fuel+1,listed,a,w,h=>⟨h.1,fun i hi=>wpOp_mono (fun a' w' h'=>⟨hS _ h'.1,ky hS fuel _ a' w' h'.2⟩) (h.2 i hi)⟩
theorem jC (hs:Region.noSelect ops=true) (hQ:NoP Q): ∀ (ord:Sch) (k:Nat) (S:World→Prop) (listed:Array Bool) (a:Act) (w:World),S w→wpO P ops Q ord S a w →
 (eh ops false k ord listed=true→wpAnyH P .any ops Q S k listed a w) ∧
 (∀ k',k=k'+1→eh ops true k ord listed=true→ ∀ j∈ord.heads,wpOp P ops Q j (fun a' w'=>S w'∧wpAnyH P .any ops Q S k' (listed.setIfInBounds j true) a' w') a w)
 | .nil,k,S,listed,a,w,hS,h=>by
  refine⟨fun hk=> ?_,fun k' _ hk=>by cases k <;> simp[eh] at hk⟩
  have hk':k=0∧Region.ready .any ops listed = []:=by cases k <;> simp[eh] at hk <;> exact⟨rfl,hk⟩
  rw[hk'.1]
  exact⟨hk'.2,h⟩
 | .q i r,0,S,listed,a,w,hS,h=>⟨fun hk=>by simp[eh] at hk,fun k' e=>by omega⟩
 | .q i r,k+1,S,listed,a,w,hS,h=>by
  refine⟨fun hk=> ?_,fun k' _ hk=>by simp[eh] at hk⟩
  obtain⟨o,v,ho,hy,h⟩:=h
  simp only[eh,Bool.and_eq_true] at hk
  obtain⟨⟨⟨_,h1⟩,h2⟩,h3⟩:=hk
  exact rz ho hs h2 h1 (fun c a' w' h'=>(hQ _ _ _ h').elim) hy hS ((jC hs hQ r k S _ _ _ hS h).1 h3)
 | .e i r,0,S,listed,a,w,hS,h=>⟨fun hk=>by simp[eh] at hk,fun k' e=>by omega⟩
 | .e i r,k+1,S,listed,a,w,hS,h=>by
  have key:eh ops false k r (listed.setIfInBounds i true)=true→wpOp P ops Q i (fun a' w'=>S w'∧wpAnyH P .any ops Q S k (listed.setIfInBounds i true) a' w') a w:=by
   intro h3
   refine wpOp_mono ?_ h
   rintro a' w' ⟨S',k1,k2,k3⟩
   exact⟨k2 _ k1,ky k2 _ _ _ _ ((jC hs hQ r k S' _ _ _ k1 k3).1 h3)⟩
  refine⟨fun hk=> ?_,fun k' e hk j hj=> ?_⟩
  ·simp only[eh,Bool.false_or,Bool.and_eq_true,beq_iff_eq] at hk
   refine wpAnyH_all hk.1 (by simp) (fun j hj=> ?_)
   obtain rfl:j=i:=by simpa using hj
   exact key hk.2
  ·obtain rfl:k'=k:=by omega
   simp only[eh,Bool.true_or,Bool.true_and] at hk
   obtain rfl:j=i:=by simpa [Sch.heads] using hj
   exact key hk
 | .br i r m,0,S,listed,a,w,hS,h=>⟨fun hk=>by simp[eh] at hk,fun k' e=>by omega⟩
 | .br i r m,k+1,S,listed,a,w,hS,h=>by
  have key:eh ops false k r (listed.setIfInBounds i true)=true→wpOp P ops Q i (fun a' w'=>S w'∧wpAnyH P .any ops Q S k (listed.setIfInBounds i true) a' w') a w:=by
   intro h3
   refine wpOp_mono ?_ h.1
   rintro a' w' ⟨S',k1,k2,k3⟩
   exact⟨k2 _ k1,ky k2 _ _ _ _ ((jC hs hQ r k S' _ _ _ k1 k3).1 h3)⟩
  have more:=(jC hs hQ m (k+1) S listed a w hS h.2).2
  refine⟨fun hk=> ?_,fun k' e hk j hj=> ?_⟩
  ·simp only[eh,Bool.false_or,Bool.and_eq_true,beq_iff_eq] at hk
   refine wpAnyH_all hk.1.1 (by simp) (fun j hj=> ?_)
   rcases List.mem_cons.1 hj with rfl | hj
   ·exact key hk.1.2
   ·exact more k rfl hk.2 j hj
  ·obtain rfl:k'=k:=by omega
   simp only[eh,Bool.true_or,Bool.true_and,Bool.and_eq_true] at hk
   rcases List.mem_cons.1 (by simpa [Sch.heads] using hj:j∈i::m.heads) with rfl | hj
   ·exact key hk.1
   ·exact more k' rfl hk.2 j hj
end
def TD (P:Program) (n:Nat) (F0:Nat→Prop) (w0:World) (ops:Array Oper) (l:Sch) (Rf:List Res) (e:Env) (Rs:List Res) (Q:Exit→Act→World→Prop):Prop :=
 ∀ a w,Has n e a→St F0 w0 Rs w→wpO P ops Q l (St F0 w0 Rf) a w
section
variable {P:Program} {n:Nat} {F0:Nat→Prop} {w0:World} {e e':Env} {Rs Rs' Rf Rf':List Res} {Q:Exit→Act→World→Prop} {ops:Array Oper} {o:Oper} {v:Value} {l:Sch}
theorem AE {id:Nat} {os:List Oper} (ord:Sch) (is:List Nat) (hf:Sel Rs is Rf) (hm:P.follows .mixedOrders=true) (hQ:NoP Q) (hk:drawB os.toArray ord=true) (h:TD P n F0 w0 os.toArray ord Rf e Rs Q) :
 T P n F0 w0 e Rs (.region id os.toArray true) Q:=by
 intro a w ha hs
 simp only[drawB,Bool.and_eq_true] at hk
 obtain⟨h1,h3⟩:=hk
 refine wp_region_held (S:=St F0 w0 Rf) hm ?_
 have hs':=hs.drew
 exact (jC h1 hQ ord _ (St F0 w0 Rf) _ a _ (hs'.sel is hf) (h a _ ha hs')).1 h3
theorem TD.br {i:Nat} {r m:Sch} (h:TD P n F0 w0 ops (.e i r) Rf e Rs Q) (k:TD P n F0 w0 ops m Rf e Rs Q):TD P n F0 w0 ops (.br i r m) Rf e Rs Q:=fun a w ha hs=>⟨h a w ha hs,k a w ha hs⟩
theorem TD.nil (h:X n F0 w0 e Rs .normal Q):TD P n F0 w0 ops .nil Rf e Rs Q:=fun a w ha hw=>h a w ha hw
theorem TD.q {i d:Nat} {op:Op} {ty:TypeId} {pos:String} {af:Array Edge} {g:Option (Nat×Bool)} (ho:ops[i]? = some ⟨some d,op,ty,pos,af,g⟩) (hw:Wd n ops e ⟨some d,op,ty,pos,af,g⟩ true)
 (hx:Ex P n e (St F0 w0 Rf) ⟨some d,op,ty,pos,af,g⟩ v) (hd:Nat.blt d n=true) (h:TD P n F0 w0 ops l Rf ((d,v)::e) Rs Q):TD P n F0 w0 ops (.q i l) Rf e Rs Q :=
 fun a w ha hs=>⟨_,v,ho,.inl ⟨hw a ha,fun w' hw'=>hx a w' ha hw'⟩,h _ _ (ha.put hd) hs⟩
theorem Bf {i d:Nat} {op:Op} {ty:TypeId} {pos:String} {af:Array Edge} {g:Option (Nat×Bool)} (ho:ops[i]? = some ⟨some d,op,ty,pos,af,g⟩) (hw:Wd n ops e ⟨some d,op,ty,pos,af,g⟩ false)
 (hd:Nat.blt d n=true) (h:TD P n F0 w0 ops l Rf ((d,undef)::e) Rs Q):TD P n F0 w0 ops (.q i l) Rf e Rs Q :=
 fun a w ha hs=>⟨_,undef,ho,.inr ⟨hw a ha,rfl⟩,h _ _ (ha.put hd) hs⟩
theorem Bo {i:Nat} {R:Env→List Res→Prop} (ho:ops[i]? = some o) (hw:Wd n ops e o true) (hx:Ef P n F0 w0 e Rs o R)
 (h: ∀ e' Rs',R e' Rs'→ ∃ Rf',(∀ w,St F0 w0 Rs' w→St F0 w0 Rf' w)∧(∀ w,St F0 w0 Rf' w→St F0 w0 Rf w)∧TD P n F0 w0 ops l Rf' e' Rs' Q):TD P n F0 w0 ops (.e i l) Rf e Rs Q:=by
 intro a w ha hs
 simp only[wpO,wpOp,ho]
 rw[if_pos (hw a ha)]
 refine .inl (hx a w _ _ ha hs (fun e' Rs' hr a' w' ha' hs'=> ?_))
 obtain⟨Rf',h1,h2,h3⟩:=h e' Rs' hr
 exact⟨St F0 w0 Rf',h1 _ hs',h2,h3 a' w' ha' hs'⟩
theorem TD.noe {i d:Nat} {op:Op} {ty:TypeId} {pos:String} {af:Array Edge} {g:Option (Nat×Bool)} (ho:ops[i]? = some ⟨some d,op,ty,pos,af,g⟩) (hw:Wd n ops e ⟨some d,op,ty,pos,af,g⟩ false)
 (hd:Nat.blt d n=true) (is:List Nat) (hf:Sel Rs is Rf) (h:TD P n F0 w0 ops l Rf ((d,undef)::e) Rs Q):TD P n F0 w0 ops (.e i l) Rf e Rs Q:=by
 intro a w ha hs
 simp only[wpO,wpOp,ho,hw a ha]
 exact⟨St F0 w0 Rf,hs.sel is hf,fun _ h=>h,h _ _ (ha.put hd) hs⟩
theorem TD.ny {i d:Nat} {op:Op} {ty:TypeId} {pos:String} {af:Array Edge} {g:Option (Nat×Bool)} (ho:ops[i]? = some ⟨some d,op,ty,pos,af,g⟩) (hw:Wd n ops e ⟨some d,op,ty,pos,af,g⟩ true)
 (hx:Ex P n e (St F0 w0 Rs) ⟨some d,op,ty,pos,af,g⟩ v) (hd:Nat.blt d n=true) (is:List Nat) (hf:Sel Rs is Rf) (h:TD P n F0 w0 ops l Rf ((d,v)::e) Rs Q):TD P n F0 w0 ops (.e i l) Rf e Rs Q:=by
 intro a w ha hs
 simp only[wpO,wpOp,ho]
 rw[if_pos (hw a ha)]
 exact .inl (sK hx ha hs ⟨St F0 w0 Rf,hs.sel is hf,fun _ h=>h,h _ _ (ha.put hd) hs⟩)
variable {id j:Nat} {y c:Code} {K:Act→World→Prop}
theorem X.seq (h:T P n F0 w0 e Rs y Q):X n F0 w0 e Rs .normal (Exit.then (y.wp P Q) Q):=h
theorem Ap (h:X n F0 w0 e Rs .normal Q):X n F0 w0 e Rs .normal (Exit.inBlock id Q):=h
theorem AW (h:X n F0 w0 e Rs .normal Q):X n F0 w0 e Rs (.exit id) (Exit.inBlock id Q):=fun a w ha hs=>by
 show (if id=id then Q .normal a w else _)
 rw[if_pos rfl]
 exact h a w ha hs
theorem z7 (h:X n F0 w0 e Rs .ret Q):X n F0 w0 e Rs .ret (Exit.then K Q):=h
theorem Am (h:X n F0 w0 e Rs .ret Q):X n F0 w0 e Rs .ret (Exit.inBlock id Q):=h
theorem As (h:X n F0 w0 e Rs (.exit j) Q):X n F0 w0 e Rs (.exit j) (Exit.then K Q):=h
theorem X.back {I:Nat→Env→List Res→Prop} {m m':Nat} (is:List Nat) (hm:m'<m) (hI:I m' e' Rs') (he:Sub e' e) (hr:Sel Rs is Rs') :
 X n F0 w0 e Rs .normal (Exit.then (fun a w=> ∃ m' e' Rs',m'<m∧I m' e' Rs'∧Has n e' a∧St F0 w0 Rs' w) Q) :=
 fun a w ha hs=>⟨m',e',Rs',hm,hI,ha.sub he.get,hs.sel is hr⟩
def JQ (n:Nat) (F0:Nat→Prop) (w0:World) (R:Env→List Res→Prop):Exit→Act→World→Prop
 | .normal,a,w=> ∃ e Rs,R e Rs∧Has n e a∧St F0 w0 Rs w
 | _,_,_=>False
theorem qE {R:Env→List Res→Prop}:NoP (JQ n F0 w0 R):=fun _ _ _ h=>h
theorem T.join (R:Env→List Res→Prop) (h:T P n F0 w0 e Rs c (JQ n F0 w0 R)) (k: ∀ e' Rs',R e' Rs'→X n F0 w0 e' Rs' .normal Q):T P n F0 w0 e Rs c Q:=by
 intro a w ha hs
 refine wp_mono (h a w ha hs) ?_
 intro x a' w' hx
 cases x <;> first | exact hx.elim | skip
 obtain⟨e',Rs',hR,ha',hs'⟩:=hx
 exact k e' Rs' hR a' w' ha' hs'
theorem BF {R:Env→List Res→Prop} (is:List Nat) (hR:R e' Rs') (he:Sub e' e) (hr:Sel Rs is Rs'):X n F0 w0 e Rs .normal (JQ n F0 w0 R):=fun a w ha hs=>⟨e',Rs',hR,ha.sub he.get,hs.sel is hr⟩
theorem Bu {α:Type} (T':TypeId) (size:Nat) (E:Rd α) (h:T P n F0 w0 e (cD T' size E (.slice none 0 0) []::Rs) c Q):T P n F0 w0 e Rs c Q:=fun a w ha hs=>h a w ha (cD.nil T' size E hs)
theorem AR {f:Func} {R:Value→Res→List Res→Prop} {A':Res} {Ns:List Res} (is:List Nat) (hf:f.results= #[]) (hR:R (.tuple #[]) A' Ns) (hr:Sel Rs is (A'::Ns)) {x:Exit} (hx:x= .ret∨x= .normal) :
 X n F0 w0 e Rs x (bodyPost P f (ng R F0 w0)):=by
 intro a w ha hs
 have h:bodyPost P f (ng R F0 w0) .ret a w:=⟨ha.df,.tuple #[],by
  rw[jR,hf]
  simp,_,A',Ns,rfl,hR,hs.sel is hr⟩
 rcases hx with rfl | rfl <;> exact h
end
theorem NoP.seq {Q:Exit→Act→World→Prop} {K:Act→World→Prop} (h:NoP Q):NoP (Exit.then K Q):=h
theorem NoP.blk {Q:Exit→Act→World→Prop} {i:Nat} (h:NoP Q):NoP (Exit.inBlock i Q):=h
theorem bx {P:Program} {f:Func} {F0:Nat→Prop} {w0:World} {R:Value→Res→List Res→Prop}:NoP (bodyPost P f (ng R F0 w0)):=by
 rintro c a w ⟨_,v,A',Ns,h,_⟩
 cases h
theorem enterX {P:Program} {f n:Nat} {fn:Func} {c:Code} {args:Array Value} {Xr:RX} {A:Res} {R:Value→Res→List Res→Prop} {e:Env} (hf:P.funcs[f]? = some fn) (hb:fn.body=some c) (hn:fn.ntmps=n)
 (hl:Nat.ble args.size n=true) (he: ∀ t v,e.get t=some v→args[t]? = some v) (h: ∀ F w,Xr.reads w F→T P n F w e [A] c (bodyPost P fn (ng R F w))):au P f args Xr A R:=by
 intro F w hA hX
 refine calls_of_wp hf hb ?_
 have hl':args.size≤n:=Nat.le_of_ble_eq_true hl
 refine h F w hX _ w ⟨rfl,?_,fun t v hv=> ?_⟩ (au.start hA)
 ·simp only[Array.size_append,Array.size_replicate,hn]
  omega
 ·have h1:=he t v hv
  have h2:=(Array.getElem?_eq_some_iff.1 h1).1
  rw[Array.getElem?_append_left h2]
  exact h1
def sL:Nat→List Value→Env
 | _,[] => []
 | k,v::vs=>(k,v)::sL (k+1) vs
theorem qF: ∀ (vs:List Value) (k t:Nat) (v:Value),Env.get (sL k vs) t=some v→k≤t∧vs[t - k]? = some v
 | [],_,_,_,h=>by simp[sL,Env.get] at h
 | u::vs,k,t,v,h=>by
  simp only[sL,Env.get] at h
  cases hb:Nat.beq k t with
  | true =>
   rw[hb] at h
   obtain rfl:=Nat.eq_of_beq_eq_true hb
   exact⟨Dc _,by simpa using h⟩
  | false =>
   rw[hb] at h
   obtain⟨h1,h2⟩:=qF vs (k+1) t v h
   refine⟨by omega,?_⟩
   obtain⟨m,rfl⟩: ∃ m,t=k+1+m:=⟨t - (k+1),by omega⟩
   rw[show k+1+m - k=m+1 by omega]
   rw[show k+1+m - (k+1)=m by omega] at h2
   simpa using h2
theorem aL {P:Program} {f n:Nat} {fn:Func} {c:Code} {args:List Value} {Xr:RX} {A:Res} {R:Value→Res→List Res→Prop} (hf:P.funcs[f]? = some fn) (hb:fn.body=some c) (hn:fn.ntmps=n)
 (hl:Nat.ble args.length n=true) (h: ∀ F w,Xr.reads w F→T P n F w (sL 0 args) [A] c (bodyPost P fn (ng R F w))):au P f args.toArray Xr A R :=
 enterX hf hb hn (by simpa using hl) (fun t v hv=>by simpa using (qF args 0 t v hv).2) h
set_option linter.unusedSimpArgs false
def ksame:IntKind→IntKind→Bool
 | .i8,.i8 | .i16,.i16 | .i32,.i32 | .i64,.i64 | .u8,.u8 | .u16,.u16 | .u32,.u32 | .u64,.u64=>true
 | _,_=>false
theorem xd {k k':IntKind} (h:ksame k k'=true):k=k':=by cases k <;> cases k' <;> first | rfl | cases h
def cmpV:BinOp→Int→Int→Option Bool
 | .eql,a,b=>some (decide (a=b))
 | .neq,a,b=>some (!decide (a=b))
 | .lss,a,b=>some (decide (a<b))
 | .leq,a,b=>some (decide (a≤b))
 | .gtr,a,b=>some (decide (a>b))
 | .geq,a,b=>some (decide (a≥b))
 | _,_,_=>none
def fj:=List (Nat×Nat×Nat)
def fj.get:fj→Nat→Nat→Option Nat
 | [],_,_=>none
 | (s,f,o)::r,s',f'=>match Nat.beq s s' with
  | true=>match Nat.beq f f' with
   | true=>some o
   | false=>fj.get r s' f'
  | false=>fj.get r s' f'
def FOK (P:Program) (s f o:Nat):Prop:= ∀ (a:Addr) (w:World),(Instr.fieldAt s (.pointer (some a)) f).run P w= .ok (.pointer (some (a.add o))) w
def fj.OK (P:Program):fj→Prop
 | []=>True
 | (s,f,o)::r=>FOK P s f o∧fj.OK P r
theorem fj.OK.get {P:Program}: ∀ {t:fj},t.OK P→ ∀ {s f o},t.get s f=some o→FOK P s f o
 | [],_,s,f,o,h=>by simp[fj.get] at h
 | (s0,f0,o0)::r,⟨h1,h2⟩,s,f,o,h=>by
  simp only[fj.get] at h
  cases hb:Nat.beq s0 s with
  | true =>
   rw[hb] at h
   cases hc:Nat.beq f0 f with
   | true =>
    rw[hc] at h
    obtain rfl:=Nat.eq_of_beq_eq_true hb
    obtain rfl:=Nat.eq_of_beq_eq_true hc
    injection h with h
    subst h
    exact h1
   | false=>rw[hc] at h; exact fj.OK.get h2 h
  | false=>rw[hb] at h; exact fj.OK.get h2 h
theorem FOK.mk {P:Program} {s f:Nat} {fs:Array Field} {fl:Field} {k:Nat} (hu: ∀ w,(underlying s).run P w= .ok (.struct fs) w) (hf:fs[f]? = some fl) (hz: ∀ w,(sizeOf fl.type).run P w= .ok (k+1) w) {o:Nat} (ho:fl.offset=o):FOK P s f o:=by
 intro a w
 subst ho
 simp[Instr.fieldAt,hu,hf,Instr.sureAddr,fieldPlace,hz]
def sM (ft:fj) (e:Env):Op→Option Value
 | .move x=>e.ev x
 | .assign x=>e.ev x
 | .extract x i=>match e.ev x with
  | some (.tuple vs)=>vs[i]?
  | _=>none
 | .unOp .not _ x=>match e.ev x with
  | some (.bool b)=>some (.bool (!b))
  | _=>none
 | .nilCheck x=>match e.ev x with
  | some (.pointer (some a))=>some (.pointer (some a))
  | _=>none
 | .fieldAddr s x f=>match e.ev x with
  | some (.pointer (some ⟨g,o,none⟩))=>match ft.get s f with
   | some k=>some (.pointer (some ⟨g,o+k,none⟩))
   | none=>none
  | _=>none
 | .binOp op _ x y _=>match e.ev x with
  | some (.int k a)=>match e.ev y with
   | some (.int k' b)=>match ksame k k' with
    | true=>match cmpV op a b with
     | some r=>some (.bool r)
     | none=>none
    | false=>none
   | _=>none
  | _=>none
 | _=>none
theorem sN {P:Program} {w:World} {op:BinOp} {a b:Int} {r:Bool} (h:cmpV op a b=some r):(Op.intCmp op a b).run P w= .ok (.bool r) w:=by
 cases op <;> cases h <;> rfl
theorem za {P:Program} {w:World} {op:BinOp} {k:IntKind} {a b:Int} {r:Bool} {t:TypeId} {x y:Operand} (h:cmpV op a b=some r) :
 (do eqGuard op t x y (.int k a) (.int k b); binOp op t (.int k a) (.int k b):Sem Value).run P w= .ok (.bool r) w:=by
 have h1:=sN (P:=P) (w:=w) h
 cases op <;> cases h <;> simpa [eqGuard,binOp] using h1
theorem jD {P:Program} {n:Nat} {ft:fj} {e:Env} {S:World→Prop} {d:Option Tmp} {op:Op} {ty:TypeId} {pos:String} {af:Array Edge} {g:Option (Nat×Bool)} {v:Value} (hft:ft.OK P) (h:sM ft e op=some v):Ex P n e S ⟨d,op,ty,pos,af,g⟩ v:=by
 intro a w ha _
 unfold sM at h
 split at h
 ·simp[execOp,ha.ev h]
 ·simp[execOp,ha.ev h]
 ·split at h
  ·rename_i vs hx
   simp[execOp,ha.ev hx,Instr.extract,h]
  ·cases h
 ·split at h
  ·rename_i b hx
   injection h with h
   subst h
   simp[execOp,ha.ev hx,Op.unary]
  ·cases h
 ·split at h
  ·rename_i p hx
   injection h with h
   subst h
   simp[execOp,ha.ev hx]
  ·cases h
 ·split at h
  ·rename_i g' o' hx
   split at h
   ·rename_i k hk
    injection h with h
    subst h
    have h1:=hft.get hk ⟨g',o',none⟩ w
    have h2:(⟨g',o',none⟩:Addr).add k=⟨g',o'+k,none⟩:=by unfold Addr.add; split <;> simp_all
    simp[execOp,ha.ev hx,h1,h2]
   ·cases h
  ·cases h
 ·split at h
  ·rename_i k x hx
   split at h
   ·rename_i k' y hy
    split at h
    ·rename_i hk
     split at h
     ·rename_i r hr
      injection h with h
      subst h
      obtain rfl:=xd hk
      have h1:=sN (P:=P) (w:=w) hr
      simp only[execOp,ha.ev hx,ha.ev hy,Sem.run_bind]
      have h2:=fun t x y=>za (P:=P) (w:=w) (k:=k) (t:=t) (x:=x) (y:=y) hr
      simp only[Sem.run_bind] at h2
      rw[h2]
      rfl
     ·cases h
    ·cases h
   ·cases h
  ·cases h
 ·cases h
def qb (ft:fj) (n:Nat) (ops:Array Oper):Env→List Nat→Option Env
 | e,[]=>some e
 | e,i::is=>match ops[i]? with
  | some ⟨some d,op,_,_,_,none⟩=>match Nat.blt d n with
   | true=>match sM ft e op with
    | some v=>qb ft n ops ((d,v)::e) is
    | none=>none
   | false=>none
  | _=>none
section
variable {P:Program} {n:Nat} {F0:Nat→Prop} {w0:World} {e e':Env} {Rs Rf:List Res} {Q:Exit→Act→World→Prop} {ops:Array Oper} {ft:fj}
theorem TL.run_ (hft:ft.OK P): ∀ (is:List Nat) {e e':Env} {l:List Nat},qb ft n ops e is=some e'→TL P n F0 w0 ops l e' Rs Q→TL P n F0 w0 ops (is++l) e Rs Q
 | [],e,e',l,h,k=>by
  injection h with h
  subst h
  exact k
 | i::is,e,e',l,h,k=>by
  unfold qb at h
  split at h
  ·rename_i ho
   split at h
   ·rename_i hd
    split at h
    ·rename_i v hv
     exact TL.q ho .u (jD hft hv) hd (TL.run_ hft is h k)
    ·cases h
   ·cases h
  ·cases h
def Sch.qs:List Nat→Sch→Sch
 | [],s=>s
 | i::is,s=> .q i (Sch.qs is s)
theorem TD.run_ (hft:ft.OK P): ∀ (is:List Nat) {e e':Env} {l:Sch},qb ft n ops e is=some e'→TD P n F0 w0 ops l Rf e' Rs Q→TD P n F0 w0 ops (Sch.qs is l) Rf e Rs Q
 | [],e,e',l,h,k=>by
  injection h with h
  subst h
  exact k
 | i::is,e,e',l,h,k=>by
  unfold qb at h
  split at h
  ·rename_i ho
   split at h
   ·rename_i hd
    split at h
    ·rename_i v hv
     exact TD.q ho .u (jD hft hv) hd (TD.run_ hft is h k)
    ·cases h
   ·cases h
  ·cases h
theorem TL.run (hft:ft.OK P) (is:List Nat) {l l':List Nat} (hl:l=is++l') (h:qb ft n ops e is=some e') (k:TL P n F0 w0 ops l' e' Rs Q):TL P n F0 w0 ops l e Rs Q:=hl ▸ TL.run_ hft is h k
theorem TD.run (hft:ft.OK P) (is:List Nat) {l l':Sch} (hl:l=Sch.qs is l') (h:qb ft n ops e is=some e') (k:TD P n F0 w0 ops l' Rf e' Rs Q):TD P n F0 w0 ops l Rf e Rs Q:=hl ▸ TD.run_ hft is h k
end
section
variable {P:Program} {n:Nat} {F0:Nat→Prop} {w0:World} {e:Env} {Rs:List Res} {S:World→Prop} {d:Option Tmp} {ty:TypeId} {pos:String} {af:Array Edge} {gd:Option (Nat×Bool)} {v:Value} {x y ix:Operand} {t t' el:TypeId}
theorem Bg {ft:fj} {op:Op} (hft:ft.OK P) (h:sM ft e op=some v):Ex P n e S ⟨d,op,ty,pos,af,gd⟩ v:=jD hft h
theorem AB {A:Option Addr} {m c:Nat} (hx:e.ev x=some (.slice A m c)) (hu: ∀ w,(underlying t).run P w= .ok (.slice el) w):Ex P n e S ⟨d,.call ⟨.builtin .len,#[x],#[t]⟩,ty,pos,af,gd⟩ (.int .i64 (m:Int)):=by
 intro a w ha _
 simp[execOp,resolve,invoke,builtin,ha.ev hx,Builtin.len_,hu,goInt]
theorem BM {l:List UInt8} (hx:e.ev x=some (.string (aC l))) (hu: ∀ w,(underlying t).run P w= .ok .string w):Ex P n e S ⟨d,.call ⟨.builtin .len,#[x],#[t]⟩,ty,pos,af,gd⟩ (.int .i64 (l.length:Int)):=by
 intro a w ha _
 simp[execOp,resolve,invoke,builtin,ha.ev hx,Builtin.len_,hu,goInt,bsOf_size]
theorem Ex.add {p q:Int} (hx:e.ev x=some (.int .i64 p)) (hy:e.ev y=some (.int .i64 q)) (h: -9223372036854775808≤p+q∧p+q≤9223372036854775807):Ex P n e S ⟨d,.binOp .add t x y t',ty,pos,af,gd⟩ (.int .i64 (p+q)):=by
 intro a w ha _
 simp[execOp,ha.ev hx,ha.ev hy,eqGuard,binOp,Op.intArith,IntWalk.i64_in _ h]
theorem Ex.sub {p q:Int} (hx:e.ev x=some (.int .i64 p)) (hy:e.ev y=some (.int .i64 q)) (h: -9223372036854775808≤p - q∧p - q≤9223372036854775807):Ex P n e S ⟨d,.binOp .sub t x y t',ty,pos,af,gd⟩ (.int .i64 (p - q)):=by
 intro a w ha _
 simp[execOp,ha.ev hx,ha.ev hy,eqGuard,binOp,Op.intArith,IntWalk.i64_in _ h]
theorem Ex.addw {k:IntKind} {p q:Int} (hx:e.ev x=some (.int k p)) (hy:e.ev y=some (.int k q)):Ex P n e S ⟨d,.binOp .add t x y t',ty,pos,af,gd⟩ (.int k (k.wrap (p+q))):=by
 intro a w ha _
 simp[execOp,ha.ev hx,ha.ev hy,eqGuard,binOp,Op.intArith]
theorem Ex.quo {p q:Int} (hx:e.ev x=some (.int .i64 p)) (hy:e.ev y=some (.int .i64 q)) (hq:1≤q) (h:0≤p∧p≤9223372036854775807):Ex P n e S ⟨d,.binOp .quo t x y t',ty,pos,af,gd⟩ (.int .i64 (p / q)):=by
 intro a w ha _
 have h0: ¬ q=0:=by omega
 simp[execOp,ha.ev hx,ha.ev hy,eqGuard,binOp,Op.intDiv,h0,IntWalk.i64_quo _ _ ⟨h.1,h.2,hq⟩]
theorem Ex.conv {k k':IntKind} {p:Int} (hx:e.ev x=some (.int k' p)) (hs: ∀ w,(underlying t).run P w= .ok (.int k') w) (hu: ∀ w,(underlying t').run P w= .ok (.int k) w):Ex P n e S ⟨d,.convert t t' x,ty,pos,af,gd⟩ (.int k (k.wrap p)):=by
 intro a w ha _
 simp[execOp,ha.ev hx,convert,hs,hu,Conv.intToInt]
theorem BQ {p:Int} {k':IntKind} (hx:e.ev x=some (.int k' p)) (hs: ∀ w,(underlying t).run P w= .ok (.int k') w) (hu: ∀ w,(underlying t').run P w= .ok (.int .i64) w) (h: -9223372036854775808≤p∧p≤9223372036854775807):Ex P n e S ⟨d,.convert t t' x,ty,pos,af,gd⟩ (.int .i64 p):=by
 have:=Ex.conv (P:=P) (n:=n) (S:=S) (d:=d) (ty:=ty) (pos:=pos) (af:=af) (gd:=gd) hx hs hu
 rwa [IntWalk.i64_in _ h] at this
theorem Ex.maxy {p q:Int} {k k':IntKind} {ts:Array TypeId} (hx:e.ev x=some (.int k p)) (hy:e.ev y=some (.int k' q)) (h:p<q):Ex P n e S ⟨d,.call ⟨.builtin .max,#[x,y],ts⟩,ty,pos,af,gd⟩ (.int k q):=by
 intro a w ha _
 simp[execOp,resolve,invoke,builtin,ha.ev hx,ha.ev hy,Builtin.max_,Builtin.max2,h]
theorem Ex.maxx {p q:Int} {k k':IntKind} {ts:Array TypeId} (hx:e.ev x=some (.int k p)) (hy:e.ev y=some (.int k' q)) (h: ¬ p<q):Ex P n e S ⟨d,.call ⟨.builtin .max,#[x,y],ts⟩,ty,pos,af,gd⟩ (.int k p):=by
 intro a w ha _
 simp[execOp,resolve,invoke,builtin,ha.ev hx,ha.ev hy,Builtin.max_,Builtin.max2,h]
theorem BD {c:Operand} {b:Bool} (hc:e.ev c=some (.bool b)) (hb:b=true) (hx:e.ev x=some v):Ex P n e S ⟨d,.pick c x y,ty,pos,af,gd⟩ v:=by
 intro a w ha _
 subst hb
 simp[execOp,ha.ev hc,ha.ev hx,asBool]
theorem Bm {c:Operand} {b:Bool} (hc:e.ev c=some (.bool b)) (hb:b=false) (hy:e.ev y=some v):Ex P n e S ⟨d,.pick c x y,ty,pos,af,gd⟩ v:=by
 intro a w ha _
 subst hb
 simp[execOp,ha.ev hc,ha.ev hy,asBool]
theorem Ex.sEq {l m:List UInt8} (hx:e.ev x=some (.string (aC l))) (hy:e.ev y=some (.string (aC m))):Ex P n e S ⟨d,.binOp .eql t x y t',ty,pos,af,gd⟩ (.bool (decide (l=m))):=by
 intro a w ha _
 have:(l == m)=decide (l=m):=by by_cases h:l=m <;> simp[h]
 simp[execOp,ha.ev hx,ha.ev hy,eqGuard,binOp_string_eql,dP,this]
theorem Ex.sNe {l m:List UInt8} (hx:e.ev x=some (.string (aC l))) (hy:e.ev y=some (.string (aC m))):Ex P n e S ⟨d,.binOp .neq t x y t',ty,pos,af,gd⟩ (.bool (!decide (l=m))):=by
 intro a w ha _
 have:(l == m)=decide (l=m):=by by_cases h:l=m <;> simp[h]
 simp[execOp,ha.ev hx,ha.ev hy,eqGuard,binOp_string_neq,dP,this]
theorem Ex.sGe {l m:List UInt8} (hx:e.ev x=some (.string (aC l))) (hy:e.ev y=some (.string (aC m))):Ex P n e S ⟨d,.binOp .geq t x y t',ty,pos,af,gd⟩ (.bool (!Op.bytesLess l m)):=by
 intro a w ha _
 simp[execOp,ha.ev hx,ha.ev hy,eqGuard,binOp,Op.stringOp,dP]
theorem Ex.sAdd {l m:List UInt8} (hx:e.ev x=some (.string (aC l))) (hy:e.ev y=some (.string (aC m))) (h:l.length+m.length≤9223372036854775807):Ex P n e S ⟨d,.binOp .add t x y t',ty,pos,af,gd⟩ (.string (aC (l++m))):=by
 intro a w ha _
 have h2: ¬ (((aC l).size+(aC m).size:Nat):Int)>IntKind.i64.max:=by
  have e1:IntKind.i64.max=9223372036854775807:=by decide
  rw[e1,bsOf_size,bsOf_size]
  omega
 have h3:aC l++aC m=aC (l++m):=by
  apply ByteArray.ext
  apply Array.ext'
  simp[aC]
 simp only[execOp,ha.ev hx,ha.ev hy,eqGuard,binOp_string_add,Op.stringOp,h2,if_false,h3]
 rfl
theorem Ex.sIx {l:List UInt8} {k:Nat} {i:Int} {c:UInt8} {q:IntKind} (hx:e.ev x=some (.string (aC l))) (hi:e.ev ix=some (.int q i)) (hik:i=(k:Int)) (hu:P.underlying t=some .string) (hc:l[k]? = some c):Ex P n e S ⟨d,.index t x ix,ty,pos,af,gd⟩ (.int .u8 (c.toNat:Int)):=by
 intro a w ha _
 subst hik
 have hk:=(CZ hc).1
 have h1:(0:Int)≤(k:Int)∧(k:Int)<((aC l).size:Int):=by rw[bsOf_size]; omega
 have h2:(aC l)[k]'(by rw[bsOf_size]; exact hk)=c:=by
  have:l[k]=c:=(CZ hc).2
  show (aC l).data[k]=c
  simpa [aC] using this
 simp only[execOp,ha.ev hx,ha.ev hi,Sem.run_bind,run_index_string w t (aC l) q k hu]
 rw[dif_pos h1]
 simp[h2]
inductive LoOK (e:Env):Option Operand→Nat→Prop where
 | none:LoOK e none 0
 | some {o:Operand} {k:IntKind} {i:Int} {p:Nat} (h:e.ev o=some (.int k i)) (hi:i=(p:Int)):LoOK e (some o) p
inductive HiOK (e:Env) (n:Nat):Option Operand→Nat→Prop where
 | none:HiOK e n none n
 | some {o:Operand} {k:IntKind} {i:Int} {p:Nat} (h:e.ev o=some (.int k i)) (hi:i=(p:Int)):HiOK e n (some o) p
theorem Ex.sSl {l:List UInt8} {lo hi:Option Operand} {p q:Nat} (hx:e.ev x=some (.string (aC l))) (hu: ∀ w,(underlying t).run P w= .ok .string w)
 (hlo:LoOK e lo p) (hhi:HiOK e l.length hi q) (h:p≤q∧q≤l.length) {m:List UInt8} (hm:(l.drop p).take (q - p)=m) :
 Ex P n e S ⟨d,.slice t x lo hi none,ty,pos,af,gd⟩ (.string (aC m)):=by
 intro a w ha _
 have e1:(aC l).extract p q=aC m:=by rw[kp,az,hm]
 have b1: ∀ k cd,(Instr.sliceBound (.int k (q:Int)) l.length cd).run P w= .ok q w:=by
  intro k cd
  have:(0:Int)≤(q:Int)∧(q:Int)≤(l.length:Int):=by omega
  simp[Instr.sliceBound,asIntOf,this]
 have b2: ∀ k cd,(Instr.sliceBound (.int k (p:Int)) q cd).run P w= .ok p w:=by
  intro k cd
  have:(0:Int)≤(p:Int)∧(p:Int)≤(q:Int):=by omega
  simp[Instr.sliceBound,asIntOf,this]
 cases hlo with
 | none =>
  cases hhi with
  | none =>
   obtain rfl:l=m:=by simpa using hm
   have e2:(aC l).extract 0 l.length=aC l:=by simpa using e1
   simp[execOp,ha.ev hx,Instr.sliceAt,Instr.slice,hu,Instr.sliceBounds,bsOf_size,e2]
  | some ho hi =>
   subst hi
   simp[execOp,ha.ev hx,ha.ev ho,Instr.sliceAt,Instr.slice,hu,Instr.sliceBounds,bsOf_size,b1,e1]
 | some ho hi =>
  subst hi
  cases hhi with
  | none =>
   simp[execOp,ha.ev hx,ha.ev ho,Instr.sliceAt,Instr.slice,hu,Instr.sliceBounds,bsOf_size,b2,e1]
  | some ho' hi' =>
   subst hi'
   simp[execOp,ha.ev hx,ha.ev ho,ha.ev ho',Instr.sliceAt,Instr.slice,hu,Instr.sliceBounds,bsOf_size,b1,b2,e1]
theorem AN {g o m c z k:Nat} {i:Int} {q:IntKind} (hx:e.ev x=some (.slice (some ⟨g,o,none⟩) m c)) (hi:e.ev ix=some (.int q i)) (hik:i=(k:Int)) (hu: ∀ w,(underlying t).run P w= .ok (.slice el) w) (hz: ∀ w,(sizeOf el).run P w= .ok z w) (hk:k<m) :
 Ex P n e S ⟨d,.indexAddr t x ix,ty,pos,af,gd⟩ (.pointer (some ⟨g,o+k*z,none⟩)):=by
 intro a w ha _
 subst hik
 have h1:(0:Int)≤(k:Int)∧(k:Int)<(m:Int):=by omega
 have h2:(⟨g,o,none⟩:Addr).add (k*z)=⟨g,o+k*z,none⟩:=by unfold Addr.add; split <;> simp_all
 have h3:(Instr.indexAt t (.slice (some ⟨g,o,none⟩) m c) (.int q (k:Int))).run P w= .ok (.pointer (some ⟨g,o+k*z,none⟩)) w:=by
  simp only[Instr.indexAt,asIntOf,Sem.run_bind,Sem.run_pure,Result.andThen_ok,hu]
  rw[if_pos h1]
  simp[hz,h2]
 simp[execOp,ha.ev hx,ha.ev hi,h3]
theorem rA {w:World} {ad:Addr} (ha: ∀ w,(isAgg t).run P w= .ok false w) (hc:w.cell? ad=some v):(loadVar t ad).run P w= .ok v w:=by
 simp[loadVar,ha,hc]
theorem mE {w:World} {ad:Addr} {cs:List Value} (ha: ∀ w,(isAgg t).run P w= .ok true w) (hz: ∀ w,(sizeOf t).run P w= .ok cs.length w) (hc: ∀ j u,cs[j]? = some u→w.cell? (ad.add j)=some u):(loadVar t ad).run P w= .ok (.agg cs.toArray) w:=by
 simp[loadVar,ha,hz,run_loadCells_list w ad cs hc]
theorem Ex.ld1 {ad:Addr} (hx:e.ev x=some (.pointer (some ad))) (ha: ∀ w,(isAgg t).run P w= .ok false w) (hc: ∀ w,S w→w.cell? ad=some v):Ex P n e S ⟨d,.load t x,ty,pos,af,gd⟩ v:=by
 intro a w h hs
 simp[execOp,h.ev hx,Instr.loadAt,Instr.sureAddr,rA ha (hc w hs)]
theorem Ex.ldS {ad:Addr} {cs:List Value} {z:Nat} (hx:e.ev x=some (.pointer (some ad))) (ha: ∀ w,(isAgg t).run P w= .ok true w) (hz: ∀ w,(sizeOf t).run P w= .ok z w) (hl:cs.length=z) (hc: ∀ w,S w→ ∀ j u,cs[j]? = some u→w.cell? (ad.add j)=some u):Ex P n e S ⟨d,.load t x,ty,pos,af,gd⟩ (.agg cs.toArray):=by
 intro a w h hs
 subst hl
 simp[execOp,h.ev hx,Instr.loadAt,Instr.sureAddr,mE ha hz (hc w hs)]
theorem Aj (i:Nat) {b o:Nat} {T:TypeId} {cs:Array Value} (hx:e.ev x=some (.pointer (some ⟨b,o,none⟩))) (ha: ∀ w,(isAgg t).run P w= .ok false w) (hi:Rs[i]? = some (ay b T cs)) (hv:cs[o]? = some v):Ex P n e (St F0 w0 Rs) ⟨d,.load t x,ty,pos,af,gd⟩ v :=
 Ex.ld1 hx ha (fun w hw=>(aR (hw.blk i hi) o).trans hv)
theorem Ag (i:Nat) {b o z:Nat} {T:TypeId} {cs:Array Value} {us:List Value} (hx:e.ev x=some (.pointer (some ⟨b,o,none⟩))) (ha: ∀ w,(isAgg t).run P w= .ok true w) (hz: ∀ w,(sizeOf t).run P w= .ok z w) (hi:Rs[i]? = some (ay b T cs))
 (hv:(cs.toList.drop o).take z=us) (hl:Nat.beq us.length z=true):Ex P n e (St F0 w0 Rs) ⟨d,.load t x,ty,pos,af,gd⟩ (.agg us.toArray):=by
 refine Ex.ldS hx ha hz (Nat.eq_of_beq_eq_true hl) (fun w hw j u hj=> ?_)
 have h2:(⟨b,o,none⟩:Addr).add j=⟨b,o+j,none⟩:=by unfold Addr.add; split <;> simp_all
 rw[h2,aR (hw.blk i hi)]
 subst hv
 rw[List.getElem?_take] at hj
 split at hj
 ·rw[List.getElem?_drop] at hj
  simpa using hj
 ·cases hj
theorem Ex.o1 {g q z:Nat} (j:Nat) {cs:List Value} (hx:e.ev x=some (.pointer (some ⟨g,q+j,none⟩))) (ha: ∀ w,(isAgg t).run P w= .ok false w) (nf: ¬ F0 g∧g<w0.heap.size) (hc: ∀ j,j<z→w0.cell? ⟨g,q+j,none⟩=cs[j]?) (hj:Nat.blt j z=true) (hv:cs[j]? = some v) :
 Ex P n e (St F0 w0 Rs) ⟨d,.load t x,ty,pos,af,gd⟩ v :=
 Ex.ld1 hx ha (fun w hw=>hw.old2 nf ((hc j (by simpa [Nat.blt_eq] using hj)).trans hv))
theorem Bj {g q z z':Nat} (k:Nat) {cs us:List Value} (hx:e.ev x=some (.pointer (some ⟨g,q+k,none⟩))) (ha: ∀ w,(isAgg t).run P w= .ok true w) (hz: ∀ w,(sizeOf t).run P w= .ok z' w) (nf: ¬ F0 g∧g<w0.heap.size) (hc: ∀ j,j<z→w0.cell? ⟨g,q+j,none⟩=cs[j]?) (hcl:cs.length=z)
 (hv:(cs.drop k).take z'=us) (hl:Nat.beq us.length z'=true):Ex P n e (St F0 w0 Rs) ⟨d,.load t x,ty,pos,af,gd⟩ (.agg us.toArray):=by
 refine Ex.ldS hx ha hz (Nat.eq_of_beq_eq_true hl) (fun w hw j u hj=> ?_)
 have h2:(⟨g,q+k,none⟩:Addr).add j=⟨g,q+(k+j),none⟩:=by unfold Addr.add; split <;> simp_all [Nat.add_assoc]
 rw[h2]
 subst hv
 rw[List.getElem?_take] at hj
 split at hj
 ·rw[List.getElem?_drop] at hj
  have hlt:=(CZ hj).1
  exact hw.old2 nf ((hc (k+j) (by omega)).trans hj)
 ·cases hj
def BOK (P:Program) (t:TypeId) (zs:Array Value) (pl:List (Nat×Nat)):Prop:= ∀ (parts:Array (Nat×Value)) (cells:Array Value) (w:World),Instr.fill (pl[·]?) zs parts.toList=some cells→(Instr.build t parts).run P w= .ok (.agg cells) w
theorem Ao {zs cells:Array Value} {pl:List (Nat×Nat)} {ps:List (Nat×Operand)} {vs:List Value} (hB:BOK P t zs pl) (hv:e.evs (ps.map (·.2))=some vs) (hf:Instr.fill (pl[·]?) zs ((ps.map (·.1)).zip vs)=some cells):Ex P n e S ⟨d,.build t ps.toArray,ty,pos,af,gd⟩ (.agg cells):=by
 intro a w ha _
 have h1:=ha.evs hv
 have h2:ps.map (fun p=>(p.1,a.eval p.2))=(ps.map (·.1)).zip vs:=by
  rw[← h1]
  clear h1 hf hv
  induction ps with
  | nil=>rfl
  | cons p ps ih=>simp[ih]
 have h3:=hB (ps.map (fun p=>(p.1,a.eval p.2))).toArray cells w (by simpa [h2] using hf)
 simp only[execOp,List.map_toArray,Sem.run_bind]
 rw[h3]
 rfl
theorem Ex.mkF {fn:Fn} {fs cs:List Operand} {us vs:List Value} (hf:e.evs fs=some us) (hc:e.evs cs=some vs) (h: ∀ w,(Instr.makeFunc fn us.toArray vs.toArray).run P w= .ok v w):Ex P n e S ⟨d,.makeFunc fn fs.toArray cs.toArray,ty,pos,af,gd⟩ v:=by
 intro a w ha _
 simp[execOp,List.map_toArray,ha.evs hf,ha.evs hc,h]
end
def kz:Option Nat→Value→Env→Env
 | none,_,e=>e
 | some d,v,e=>(d,v)::e
def okd:Option Nat→Nat→Bool
 | none,_=>true
 | some d,n=>Nat.blt d n
section
variable {P:Program} {n:Nat} {F0:Nat→Prop} {w0:World} {e:Env} {Rs:List Res} {d:Option Tmp} {ty:TypeId} {pos:String} {af:Array Edge} {gd:Option (Nat×Bool)} {v:Value} {x y:Operand} {t t' el:TypeId}
theorem Has.putd {a:Act} (h:Has n e a) (hd:okd d n=true):Has n (kz d v e) (a.put d v):=by
 cases d with
 | none=>exact h
 | some d=>exact h.put hd
theorem St.setRowS {b:Nat} {T:TypeId} {cs cs':Array Value} {w:World} (i:Nat) (h:St F0 w0 Rs w) (hi:Rs[i]? = some (ay b T cs)):St F0 w0 (Rs.set i (ay b T cs')) (w.setRow b cs'):=by
 refine h.step i hi (Ns := []) (fun G hG=>⟨⟨rfl,rfl,rfl,by simp[World.setRow],fun k hk hn=>setRow_other w b k cs' (fun e=>hn (e ▸ (hG.2 b).2 rfl))⟩,G,⟨setRow_heap w b cs cs' T (0,0) hG.1,hG.2⟩,fun k hk=> .inl hk,trivial⟩)
theorem Ef.alloc {zv:Value} (hz: ∀ w,(zeroValue t).run P w= .ok zv w) (hd:okd d n=true):Ef P n F0 w0 e Rs ⟨d,.alloc t,ty,pos,af,gd⟩ (fun e' Rs'=> ∃ b,e'=kz d (.pointer (some ⟨b,0,none⟩)) e∧Rs'=ay b t zv.cells::Rs):=by
 intro a w K Q ha hs hk
 have h1:(execOp a.eval ⟨d,.alloc t,ty,pos,af,gd⟩).run P w= .ok (.value (.pointer (some ⟨w.heap.size,0,none⟩))) (w.alloc (.cells zv.cells t)):=by
  simp[execOp,Instr.alloc,hz,newVar,newRow,newObj]
  rfl
 unfold Oper.wp
 rw[h1]
 exact hk _ _ ⟨_,rfl,rfl⟩ _ _ (ha.putd hd) (hs.alloc _ _)
theorem Ef.box (hx:e.ev x=some v) (hd:okd d n=true):Ef P n F0 w0 e Rs ⟨d,.box t x,ty,pos,af,gd⟩ (fun e' Rs'=> ∃ b,e'=kz d (.pointer (some ⟨b,0,none⟩)) e∧Rs'=ay b t v.cells::Rs):=by
 intro a w K Q ha hs hk
 have h1:(execOp a.eval ⟨d,.box t x,ty,pos,af,gd⟩).run P w= .ok (.value (.pointer (some ⟨w.heap.size,0,none⟩))) (w.alloc (.cells v.cells t)):=by
  simp[execOp,ha.ev hx,Instr.box,newVar,newRow,newObj]
  rfl
 unfold Oper.wp
 rw[h1]
 exact hk _ _ ⟨_,rfl,rfl⟩ _ _ (ha.putd hd) (hs.alloc _ _)
theorem BH (i:Nat) {b o z:Nat} {T:TypeId} {cs cs':Array Value} (hx:e.ev x=some (.pointer (some ⟨b,o,none⟩))) (hy:e.ev y=some v) (hz: ∀ w,(sizeOf t).run P w= .ok z w) (hi:Rs[i]? = some (ay b T cs))
 (hvz:Nat.beq v.cells.size z=true) (hf:Nat.ble (o+v.cells.size) cs.size=true) (ho:v.cells.toList.all (·.oneCell')=true) (hc:(cs.toList.take o++v.cells.toList++cs.toList.drop (o+v.cells.size)).toArray=cs') :
 Ef P n F0 w0 e Rs ⟨none,.store t x y,ty,pos,af,gd⟩ (fun e' Rs'=>e'=e∧Rs'=Rs.set i (ay b T cs')):=by
 intro a w K Q ha hs hk
 have hb:=hs.blk i hi
 have hvz':=Nat.eq_of_beq_eq_true hvz
 have hf':=Nat.le_of_ble_eq_true hf
 have h2:=run_storeCells_at (P:=P) b o T v.cells.toList 0 cs w hb (by simpa using hf') (List.all_eq_true.1 ho)
 have h1:(execOp a.eval ⟨none,.store t x y,ty,pos,af,gd⟩).run P w= .ok .skip (w.setRow b cs'):=by
  simp only[Nat.add_zero,Array.length_toList] at h2
  rw[hc] at h2
  simp[execOp,ha.ev hx,ha.ev hy,Instr.storeAt,Instr.sureAddr,storeVar,hz,hvz',h2]
 unfold Oper.wp
 rw[h1]
 exact hk _ _ ⟨rfl,rfl⟩ _ _ (ha.put0) (hs.setRowS i hi)
def CT (P:Program) (n:Nat) (e:Env) (o:Oper) (f:FuncId) (us:List Value):Prop:= ∀ a w,Has n e a→(execOp a.eval o).run P w= .ok (.enter f us.toArray) w
theorem CT.fn {f:FuncId} {xs:List Operand} {vs:List Value} {ts:Array TypeId} (hc: ∀ args w,(callFunc f args).run P w= .ok (.enter f args) w) (hv:e.evs xs=some vs):CT P n e ⟨d,.call ⟨.value (.func f),xs.toArray,ts⟩,ty,pos,af,gd⟩ f vs:=by
 intro a w ha
 simp[execOp,resolve,Act.eval,Deferred.ofValue,invoke,List.map_toArray,ha.evs hv,hc]
theorem CT.val {f:FuncId} {x:Operand} {xs:List Operand} {vs us fs cs:List Value} {ts:Array TypeId} (hx:e.ev x=some (.func (.func f) fs.toArray cs.toArray)) (hc: ∀ args w,(callFunc f args).run P w= .ok (.enter f args) w) (hv:e.evs xs=some vs) (hu:fs++vs++cs=us):CT P n e ⟨d,.call ⟨.value x,xs.toArray,ts⟩,ty,pos,af,gd⟩ f us:=by
 intro a w ha
 subst hu
 simp[execOp,resolve,ha.ev hx,Deferred.ofValue,invoke,List.map_toArray,ha.evs hv,hc]
theorem CT.inv {f:FuncId} {x:Operand} {nm:String} {xs:List Operand} {u u':Value} {vs:List Value} {ts:Array TypeId} (hx:e.ev x=some (.iface t u)) (hm: ∀ w,(method (P.types.size+Made.depth) t u nm).run P w= .ok (f,u') w) (hc: ∀ args w,(callFunc f args).run P w= .ok (.enter f args) w) (hv:e.evs xs=some vs):CT P n e ⟨d,.call ⟨.invoke x nm,xs.toArray,ts⟩,ty,pos,af,gd⟩ f (u'::vs):=by
 intro a w ha
 simp[execOp,resolve,ha.ev hx,invoke,callMethod,List.map_toArray,ha.evs hv,hm,hc]
theorem Ef.call (i:Nat) {op:Op} {f:FuncId} {vs:List Value} {A:Res} {Y:RX} {R:Value→Res→List Res→Prop} (hc:CT P n e ⟨d,op,ty,pos,af,gd⟩ f vs) (hi:Rs[i]? = some A)
 (hs:au P f vs.toArray Y A R) (hr: ∀ w,St F0 w0 Rs w→Src F0 w0 Rs w i Y) (hd:okd d n=true) :
 Ef P n F0 w0 e Rs ⟨d,op,ty,pos,af,gd⟩ (fun e' Rs'=> ∃ v A' N,R v A' N∧e'=kz d v e∧Rs'=N++Rs.set i A'):=by
 intro a w K Q ha hst hk
 unfold Oper.wp
 rw[hc a w ha]
 refine (hst.callX i hi hs (hr w hst)).mono ?_
 rintro x w' ⟨v,A',N,rfl,hq,hst'⟩
 exact hk _ _ ⟨v,A',N,hq,rfl,rfl⟩ _ _ (ha.putd hd) hst'
theorem Ef.callE {op:Op} {f:FuncId} {vs:List Value} {Y:RX} {R:Value→Res→List Res→Prop} (hc:CT P n e ⟨d,op,ty,pos,af,gd⟩ f vs)
 (hs:au P f vs.toArray Y aI R) (hr: ∀ w,St F0 w0 Rs w→Y.reads w (fun _=>False)) (hd:okd d n=true) :
 Ef P n F0 w0 e Rs ⟨d,op,ty,pos,af,gd⟩ (fun e' Rs'=> ∃ v A' N,R v A' N∧e'=kz d v e∧Rs'=N++Rs):=by
 intro a w K Q ha hst hk
 unfold Oper.wp
 rw[hc a w ha]
 refine (hst.callE hs (hr w hst)).mono ?_
 rintro x w' ⟨v,A',N,rfl,hq,hst'⟩
 exact hk _ _ ⟨v,A',N,hq,rfl,rfl⟩ _ _ (ha.putd hd) hst'
theorem uW {a:Act} {w:World} {sl x:Operand} {T:TypeId} {z bytes g:Nat} {zv:Value} {us cells:List Value} {q:Value} {m:Nat} (ha:Has n e a) (hu:P.underlying t=some (.slice T)) (hinfo:(P.info? T).map (fun i=>(i.zero,i.size,i.bytes))=some (some zv,z,bytes)) (hzv:zv.cells.size=z) (hp:0<z)
 (hs:e.ev sl=some q) (hx:e.ev x=some (.slice (some ⟨g,0,none⟩) 1 1)) (hown:w.ownsRow 0 T z q m cells) (hl:us.length=z) (hg:w.heap[g]? = some (.cells us.toArray T (0,0))) (ho:us.all (·.oneCell')=true) (hb:(m+1)*bytes≤140737488355328) (hm:m+1≤140737488355328) :
 ∃ q' w',(execOp a.eval ⟨d,.call ⟨.builtin .append,#[sl,x],#[t,t]⟩,ty,pos,af,gd⟩).run P w= .ok (.value q') w'∧w'.ownsRow 0 T z q' (m+1) (cells++us)∧w.grownBy w' q.ownBlock∧(q'.ownBlock=q.ownBlock∨ ∃ k,q'.ownBlock=some k∧w.heap.size≤k):=by
 obtain⟨i,hi,hzz⟩:=Option.map_eq_some_iff.1 hinfo
 simp only[Prod.mk.injEq] at hzz
 obtain⟨h0,h1,h2⟩:=hzz
 obtain⟨q',w',hr,k2,k3,_,k5⟩:=run_append_own_at (P:=P) w 0 t ty T i zv z bytes hu hi h0 h1 h2 hzv hp q m cells hown ⟨g,0,none⟩ 1 1 us (by omega) (fun j u hj=>by
  have e1:(⟨g,0,none⟩:Addr).add j=⟨g,j,none⟩:=by unfold Addr.add; split <;> simp_all
  rw[e1,aR hg]
  simpa using hj) (by simpa using ho) (by simp only[maxLen]; omega) hb (Da _)
 refine⟨q',w',?_,k2,k3,k5.imp id (fun h=>⟨_,h,Dc _⟩)⟩
 simp[execOp,resolve,invoke,builtin,ha.ev hs,ha.ev hx,hr]
theorem Ef.app1 (i:Nat) {α:Type} {E:Rd α} {sl x:Operand} {T:TypeId} {z bytes g:Nat} {zv:Value} {us:List Value} {A:Option Addr} {c:Nat} {l:List α} {u:α} {Rs':List Res} (hu:P.underlying t=some (.slice T)) (hinfo:(P.info? T).map (fun i=>(i.zero,i.size,i.bytes))=some (some zv,z,bytes)) (hzv:zv.cells.size=z) (hp:0<z)
 (hs:e.ev sl=some (.slice A l.length c)) (hx:e.ev x=some (.slice (some ⟨g,0,none⟩) 1 1)) (hR:Rs=ay g T us.toArray::Rs') (hi:Rs'[i]? = some (cD T z E (.slice A l.length c) l)) (hl:us.length=z) (ho:us.all (·.oneCell')=true) (hE: ∀ w S,E.P w S us u) (hb:(l.length+1)*bytes≤140737488355328) (hm:l.length+1≤140737488355328) (hd:okd d n=true) :
 Ef P n F0 w0 e Rs ⟨d,.call ⟨.builtin .append,#[sl,x],#[t,t]⟩,ty,pos,af,gd⟩ (fun e' R=> ∃ A' c',e'=kz d (.slice A' (l ++ [u]).length c') e∧R=Rs'.set i (cD T z E (.slice A' (l ++ [u]).length c') (l ++ [u]))):=by
 subst hR
 intro a w K Q ha hst hk
 obtain⟨cells,k1,k2⟩:=cD.open_ (i+1) hst (by simpa using hi)
 obtain⟨q',w',r1,r2,r3,r4⟩:=uW (d:=d) (ty:=ty) (pos:=pos) (af:=af) (gd:=gd) ha hu hinfo hzv hp hs hx k1 hl (hst.blk 0 rfl) ho hb hm
 have h3:=k2 q' w' us u r2 r3 r4 hl hE
 have hlen:l.length+1=(l ++ [u]).length:=by simp
 rw[hlen] at r2
 obtain⟨A',c',rfl⟩:=ju r2
 unfold Oper.wp
 rw[r1]
 exact hk _ _ ⟨A',c',rfl,rfl⟩ _ _ (ha.putd hd) (h3.drop_)
theorem Ef.app2 (i j:Nat) {α:Type} {E:Rd α} {sl x:Operand} {T:TypeId} {z bytes g:Nat} {zv:Value} {us:List Value} {A:Option Addr} {c:Nat} {l:List α} {u:α} {Rs':List Res} {B:Res} (hu:P.underlying t=some (.slice T)) (hinfo:(P.info? T).map (fun i=>(i.zero,i.size,i.bytes))=some (some zv,z,bytes)) (hzv:zv.cells.size=z) (hp:0<z)
 (hs:e.ev sl=some (.slice A l.length c)) (hx:e.ev x=some (.slice (some ⟨g,0,none⟩) 1 1)) (hR:Rs=ay g T us.toArray::Rs') (hi:Rs'[i]? = some (cD T z E (.slice A l.length c) l)) (hj:(Rs'.eraseIdx i)[j]? = some B) (hl:us.length=z) (ho:us.all (·.oneCell')=true) (hE: ∀ w G,B.P w G→E.P w G us u) (hb:(l.length+1)*bytes≤140737488355328) (hm:l.length+1≤140737488355328) (hd:okd d n=true) :
 Ef P n F0 w0 e Rs ⟨d,.call ⟨.builtin .append,#[sl,x],#[t,t]⟩,ty,pos,af,gd⟩ (fun e' R=> ∃ A' c',e'=kz d (.slice A' (l ++ [u]).length c') e∧R=cD T z E (.slice A' (l ++ [u]).length c') (l ++ [u])::(Rs'.eraseIdx i).eraseIdx j):=by
 subst hR
 intro a w K Q ha hst hk
 obtain⟨cells,k1,k2⟩:=cD.open2 (B:=B) (i+1) (j+1) hst (by simpa using hi) (by simpa using hj)
 obtain⟨q',w',r1,r2,r3,r4⟩:=uW (d:=d) (ty:=ty) (pos:=pos) (af:=af) (gd:=gd) ha hu hinfo hzv hp hs hx k1 hl (hst.blk 0 rfl) ho hb hm
 have h3:=k2 q' w' us u r2 r3 r4 hl hE
 have hlen:l.length+1=(l ++ [u]).length:=by simp
 rw[hlen] at r2
 obtain⟨A',c',rfl⟩:=ju r2
 unfold Oper.wp
 rw[r1]
 have h4:=h3.del 1 (A:=ay g T us.toArray) rfl
 exact hk _ _ ⟨A',c',rfl,rfl⟩ _ _ (ha.putd hd) h4
def SOK (P:Program) (t T:TypeId) (m z:Nat) (zs:Array Value):Prop:= ∀ (parts:Array (Nat×Value)) (cells:Array Value) (w:World),Instr.fill (fun i=>some (i*z,z)) zs parts.toList=some cells→(Instr.buildSlice t m parts).run P w= .ok (.slice (some ⟨w.heap.size,0,none⟩) m m) (w.alloc (.cells cells T))
theorem Ef.lit {T m z:Nat} {zs cells:Array Value} {ps:List (Nat×Operand)} {vs:List Value} (hB:SOK P t T m z zs) (hv:e.evs (ps.map (·.2))=some vs) (hf:Instr.fill (fun i=>some (i*z,z)) zs ((ps.map (·.1)).zip vs)=some cells) (hd:okd d n=true) :
 Ef P n F0 w0 e Rs ⟨d,.buildSlice t m ps.toArray,ty,pos,af,gd⟩ (fun e' Rs'=> ∃ b,e'=kz d (.slice (some ⟨b,0,none⟩) m m) e∧Rs'=ay b T cells::Rs):=by
 intro a w K Q ha hs hk
 have h1:=ha.evs hv
 have h2:ps.map (fun p=>(p.1,a.eval p.2))=(ps.map (·.1)).zip vs:=by
  rw[← h1]
  clear h1 hf hv
  induction ps with
  | nil=>rfl
  | cons p ps ih=>simp[ih]
 have h3:=hB (ps.map (fun p=>(p.1,a.eval p.2))).toArray cells w (by simpa [h2] using hf)
 unfold Oper.wp
 simp only[execOp,List.map_toArray,Sem.run_bind]
 rw[h3]
 exact hk _ _ ⟨_,rfl,rfl⟩ _ _ (ha.putd hd) (hs.alloc _ _)
theorem St.rowOf {α:Type} {E:Rd α} {b T z m:Nat} {us:List Value} {l:List α} {w:World} (h:St F0 w0 (ay b T us.toArray::Rs) w) (hm:l.length=m) (hmm:m≤maxLen) (he: ∀ w,iK z E w (fun _=>False) us l) :
 St F0 w0 (cD T z E (.slice (some ⟨b,0,none⟩) m m) l::Rs) w:=by
 subst hm
 refine h.weaken 0 rfl (fun G hG=> ?_)
 have hl:=mD (he w)
 refine⟨us,fun _=>False,⟨hl,.inr ⟨b,l.length,us.toArray,rfl,Da _,hG.1,Dc _,hmm,by simpa using hl,?_⟩⟩,he w,fun _ h=>h.elim,fun _ _ h=>h,fun k=> ?_⟩
 ·simp[← hl]
 ·rw[hG.2 k]
  simp[Value.ownBlock,eq_comm]
end
section
variable {P:Program} {n:Nat} {F0:Nat→Prop} {w0:World} {e:Env} {Rs Rf:List Res} {Q:Exit→Act→World→Prop} {ops:Array Oper} {i d b o z f T:Nat} {ty t el:TypeId} {pos:String} {af:Array Edge} {gd:Option (Nat×Bool)} {v zv:Value} {x y:Operand} {l:List Nat} {xs:List Operand} {vs:List Value} {ts:Array TypeId} {Y:RX} {A B:Res} {R:Value→Res→List Res→Prop} {c:Code} {cl:Call}
theorem TL.rowOf {α:Type} {E:Rd α} {m:Nat} {us:List Value} {xs:List α} (hm:xs.length=m) (hmm:m≤maxLen) (he: ∀ w,iK z E w (fun _=>False) us xs) (h:TL P n F0 w0 ops l e (cD T z E (.slice (some ⟨b,0,none⟩) m m) xs::Rs) Q):TL P n F0 w0 ops l e (ay b T us.toArray::Rs) Q:=fun a w ha hs=>h a w ha (hs.rowOf hm hmm he)
theorem TD.rowOf {α:Type} {E:Rd α} {m:Nat} {us:List Value} {xs:List α} {l:Sch} (hm:xs.length=m) (hmm:m≤maxLen) (he: ∀ w,iK z E w (fun _=>False) us xs) (h:TD P n F0 w0 ops l Rf e (cD T z E (.slice (some ⟨b,0,none⟩) m m) xs::Rs) Q):TD P n F0 w0 ops l Rf e (ay b T us.toArray::Rs) Q:=fun a w ha hs=>h a w ha (hs.rowOf hm hmm he)
theorem TL.alloc  (ho:ops[i]? = some ⟨some d,.alloc t,ty,pos,af,gd⟩) (hw:Wd n ops e ⟨some d,.alloc t,ty,pos,af,gd⟩ true) (hz: ∀ w,(zeroValue t).run P w= .ok zv w) (hd:Nat.blt d n=true) (h: ∀ b,TL P n F0 w0 ops l ((d,.pointer (some ⟨b,0,none⟩))::e) (ay b t zv.cells::Rs) Q):TL P n F0 w0 ops (i::l) e Rs Q:=by
 refine AZ ho hw (Ef.alloc hz hd) ?_
 rintro _ _ ⟨b,rfl,rfl⟩
 exact h b
theorem TD.alloc  {l:Sch} (ho:ops[i]? = some ⟨some d,.alloc t,ty,pos,af,gd⟩) (hw:Wd n ops e ⟨some d,.alloc t,ty,pos,af,gd⟩ true) (hz: ∀ w,(zeroValue t).run P w= .ok zv w) (hd:Nat.blt d n=true) (is:List Nat) (hf: ∀ b,Sel (ay b t zv.cells::Rs) is Rf) (h: ∀ b,TD P n F0 w0 ops l Rf ((d,.pointer (some ⟨b,0,none⟩))::e) (ay b t zv.cells::Rs) Q):TD P n F0 w0 ops (.e i l) Rf e Rs Q:=by
 refine Bo ho hw (Ef.alloc hz hd) ?_
 rintro _ _ ⟨b,rfl,rfl⟩
 exact⟨Rf,fun w hw=>hw.sel is (hf b),fun _ h=>h,h b⟩
theorem TL.box  (ho:ops[i]? = some ⟨some d,.box t x,ty,pos,af,gd⟩) (hw:Wd n ops e ⟨some d,.box t x,ty,pos,af,gd⟩ true) (hx:e.ev x=some v) (hd:Nat.blt d n=true) (h: ∀ b,TL P n F0 w0 ops l ((d,.pointer (some ⟨b,0,none⟩))::e) (ay b t v.cells::Rs) Q):TL P n F0 w0 ops (i::l) e Rs Q:=by
 refine AZ ho hw (Ef.box hx hd) ?_
 rintro _ _ ⟨b,rfl,rfl⟩
 exact h b
theorem BI {m:Nat} {zs cells:Array Value} {ps:List (Nat×Operand)} (ho:ops[i]? = some ⟨some d,.buildSlice t m ps.toArray,ty,pos,af,gd⟩) (hw:Wd n ops e ⟨some d,.buildSlice t m ps.toArray,ty,pos,af,gd⟩ true) (hB:SOK P t T m z zs) (hv:e.evs (ps.map (·.2))=some vs) (hf':Instr.fill (fun i=>some (i*z,z)) zs ((ps.map (·.1)).zip vs)=some cells) (hd:Nat.blt d n=true) (h: ∀ b,TL P n F0 w0 ops l ((d,.slice (some ⟨b,0,none⟩) m m)::e) (ay b T cells::Rs) Q):TL P n F0 w0 ops (i::l) e Rs Q:=by
 refine AZ ho hw (Ef.lit hB hv hf' hd) ?_
 rintro _ _ ⟨b,rfl,rfl⟩
 exact h b
theorem Bp {m:Nat} {zs cells:Array Value} {ps:List (Nat×Operand)} {l:Sch} (ho:ops[i]? = some ⟨some d,.buildSlice t m ps.toArray,ty,pos,af,gd⟩) (hw:Wd n ops e ⟨some d,.buildSlice t m ps.toArray,ty,pos,af,gd⟩ true) (hB:SOK P t T m z zs) (hv:e.evs (ps.map (·.2))=some vs) (hf':Instr.fill (fun i=>some (i*z,z)) zs ((ps.map (·.1)).zip vs)=some cells) (hd:Nat.blt d n=true) (is:List Nat) (hf: ∀ b,Sel (ay b T cells::Rs) is Rf) (h: ∀ b,TD P n F0 w0 ops l Rf ((d,.slice (some ⟨b,0,none⟩) m m)::e) (ay b T cells::Rs) Q):TD P n F0 w0 ops (.e i l) Rf e Rs Q:=by
 refine Bo ho hw (Ef.lit hB hv hf' hd) ?_
 rintro _ _ ⟨b,rfl,rfl⟩
 exact⟨Rf,fun w hw=>hw.sel is (hf b),fun _ h=>h,h b⟩
theorem Ad {cs cs':Array Value}  (ho:ops[i]? = some ⟨none,.store t x y,ty,pos,af,gd⟩) (hw:Wd n ops e ⟨none,.store t x y,ty,pos,af,gd⟩ true) (hx:e.ev x=some (.pointer (some ⟨b,o,none⟩))) (hy:e.ev y=some v) (hz: ∀ w,(sizeOf t).run P w= .ok z w) (hvz:Nat.beq v.cells.size z=true) (hf':Nat.ble (o+v.cells.size) cs.size=true) (ho':v.cells.toList.all (·.oneCell')=true) (hc:(cs.toList.take o++v.cells.toList++cs.toList.drop (o+v.cells.size)).toArray=cs') (h:TL P n F0 w0 ops l e (ay b T cs'::Rs) Q):TL P n F0 w0 ops (i::l) e (ay b T cs::Rs) Q:=by
 refine AZ ho hw (BH 0 hx hy hz rfl hvz hf' ho' hc) ?_
 rintro _ _ ⟨rfl,rfl⟩
 exact h
theorem TD.st0 {cs cs':Array Value}  {l:Sch} (ho:ops[i]? = some ⟨none,.store t x y,ty,pos,af,gd⟩) (hw:Wd n ops e ⟨none,.store t x y,ty,pos,af,gd⟩ true) (hx:e.ev x=some (.pointer (some ⟨b,o,none⟩))) (hy:e.ev y=some v) (hz: ∀ w,(sizeOf t).run P w= .ok z w) (hvz:Nat.beq v.cells.size z=true) (hf':Nat.ble (o+v.cells.size) cs.size=true) (ho':v.cells.toList.all (·.oneCell')=true) (hc:(cs.toList.take o++v.cells.toList++cs.toList.drop (o+v.cells.size)).toArray=cs') (is:List Nat) (hf:Sel (ay b T cs'::Rs) is Rf) (h:TD P n F0 w0 ops l Rf e (ay b T cs'::Rs) Q):TD P n F0 w0 ops (.e i l) Rf e (ay b T cs::Rs) Q:=by
 refine Bo ho hw (BH 0 hx hy hz rfl hvz hf' ho' hc) ?_
 rintro _ _ ⟨rfl,rfl⟩
 exact⟨Rf,fun w hw=>hw.sel is (hf),fun _ h=>h,h⟩
theorem Aq  (ho:ops[i]? = some ⟨some d,.call cl,ty,pos,af,gd⟩) (hw:Wd n ops e ⟨some d,.call cl,ty,pos,af,gd⟩ true) (hc:CT P n e ⟨some d,.call cl,ty,pos,af,gd⟩ f vs) (hs:au P f vs.toArray Y A (fun v' A' N=>v'=v∧A'=B∧N = [])) (hr: ∀ w,St F0 w0 (A::Rs) w→Src F0 w0 (A::Rs) w 0 Y) (hd:Nat.blt d n=true) (h:TL P n F0 w0 ops l ((d,v)::e) (B::Rs) Q):TL P n F0 w0 ops (i::l) e (A::Rs) Q:=by
 refine AZ ho hw (Ef.call 0 hc rfl hs hr hd) ?_
 rintro _ _ ⟨_,_,_,⟨rfl,rfl,rfl⟩,rfl,rfl⟩
 exact h
theorem TD.c0  {l:Sch} (ho:ops[i]? = some ⟨some d,.call cl,ty,pos,af,gd⟩) (hw:Wd n ops e ⟨some d,.call cl,ty,pos,af,gd⟩ true) (hc:CT P n e ⟨some d,.call cl,ty,pos,af,gd⟩ f vs) (hs:au P f vs.toArray Y A (fun v' A' N=>v'=v∧A'=B∧N = [])) (hr: ∀ w,St F0 w0 (A::Rs) w→Src F0 w0 (A::Rs) w 0 Y) (hd:Nat.blt d n=true) (is:List Nat) (hf:Sel (B::Rs) is Rf) (h:TD P n F0 w0 ops l Rf ((d,v)::e) (B::Rs) Q):TD P n F0 w0 ops (.e i l) Rf e (A::Rs) Q:=by
 refine Bo ho hw (Ef.call 0 hc rfl hs hr hd) ?_
 rintro _ _ ⟨_,_,_,⟨rfl,rfl,rfl⟩,rfl,rfl⟩
 exact⟨Rf,fun w hw=>hw.sel is (hf),fun _ h=>h,h⟩
theorem TL.cg0  (ho:ops[i]? = some ⟨some d,.call cl,ty,pos,af,gd⟩) (hw:Wd n ops e ⟨some d,.call cl,ty,pos,af,gd⟩ true) (hc:CT P n e ⟨some d,.call cl,ty,pos,af,gd⟩ f vs) (hs:au P f vs.toArray Y A R) (hr: ∀ w,St F0 w0 (A::Rs) w→Src F0 w0 (A::Rs) w 0 Y) (hd:Nat.blt d n=true) (h: ∀ v A' N,R v A' N→TL P n F0 w0 ops l ((d,v)::e) (N++A'::Rs) Q):TL P n F0 w0 ops (i::l) e (A::Rs) Q:=by
 refine AZ ho hw (Ef.call 0 hc rfl hs hr hd) ?_
 rintro _ _ ⟨v,A',N,hR,rfl,rfl⟩
 exact h v A' N hR
theorem AP {cs cs':Array Value} {R0:Res} (ho:ops[i]? = some ⟨none,.store t x y,ty,pos,af,gd⟩) (hw:Wd n ops e ⟨none,.store t x y,ty,pos,af,gd⟩ true) (hx:e.ev x=some (.pointer (some ⟨b,o,none⟩))) (hy:e.ev y=some v) (hz: ∀ w,(sizeOf t).run P w= .ok z w) (hvz:Nat.beq v.cells.size z=true) (hf':Nat.ble (o+v.cells.size) cs.size=true) (ho':v.cells.toList.all (·.oneCell')=true) (hc:(cs.toList.take o++v.cells.toList++cs.toList.drop (o+v.cells.size)).toArray=cs') (h:TL P n F0 w0 ops l e (R0::ay b T cs'::Rs) Q):TL P n F0 w0 ops (i::l) e (R0::ay b T cs::Rs) Q:=by
 refine AZ ho hw (BH 1 hx hy hz rfl hvz hf' ho' hc) ?_
 rintro _ _ ⟨rfl,rfl⟩
 exact h
theorem TD.st1 {cs cs':Array Value} {R0:Res} {l:Sch} (ho:ops[i]? = some ⟨none,.store t x y,ty,pos,af,gd⟩) (hw:Wd n ops e ⟨none,.store t x y,ty,pos,af,gd⟩ true) (hx:e.ev x=some (.pointer (some ⟨b,o,none⟩))) (hy:e.ev y=some v) (hz: ∀ w,(sizeOf t).run P w= .ok z w) (hvz:Nat.beq v.cells.size z=true) (hf':Nat.ble (o+v.cells.size) cs.size=true) (ho':v.cells.toList.all (·.oneCell')=true) (hc:(cs.toList.take o++v.cells.toList++cs.toList.drop (o+v.cells.size)).toArray=cs') (is:List Nat) (hf:Sel (R0::ay b T cs'::Rs) is Rf) (h:TD P n F0 w0 ops l Rf e (R0::ay b T cs'::Rs) Q):TD P n F0 w0 ops (.e i l) Rf e (R0::ay b T cs::Rs) Q:=by
 refine Bo ho hw (BH 1 hx hy hz rfl hvz hf' ho' hc) ?_
 rintro _ _ ⟨rfl,rfl⟩
 exact⟨Rf,fun w hw=>hw.sel is (hf),fun _ h=>h,h⟩
theorem Al {R0:Res} (ho:ops[i]? = some ⟨some d,.call cl,ty,pos,af,gd⟩) (hw:Wd n ops e ⟨some d,.call cl,ty,pos,af,gd⟩ true) (hc:CT P n e ⟨some d,.call cl,ty,pos,af,gd⟩ f vs) (hs:au P f vs.toArray Y A (fun v' A' N=>v'=v∧A'=B∧N = [])) (hr: ∀ w,St F0 w0 (R0::A::Rs) w→Src F0 w0 (R0::A::Rs) w 1 Y) (hd:Nat.blt d n=true) (h:TL P n F0 w0 ops l ((d,v)::e) (R0::B::Rs) Q):TL P n F0 w0 ops (i::l) e (R0::A::Rs) Q:=by
 refine AZ ho hw (Ef.call 1 hc rfl hs hr hd) ?_
 rintro _ _ ⟨_,_,_,⟨rfl,rfl,rfl⟩,rfl,rfl⟩
 exact h
theorem TD.c1 {R0:Res} {l:Sch} (ho:ops[i]? = some ⟨some d,.call cl,ty,pos,af,gd⟩) (hw:Wd n ops e ⟨some d,.call cl,ty,pos,af,gd⟩ true) (hc:CT P n e ⟨some d,.call cl,ty,pos,af,gd⟩ f vs) (hs:au P f vs.toArray Y A (fun v' A' N=>v'=v∧A'=B∧N = [])) (hr: ∀ w,St F0 w0 (R0::A::Rs) w→Src F0 w0 (R0::A::Rs) w 1 Y) (hd:Nat.blt d n=true) (is:List Nat) (hf:Sel (R0::B::Rs) is Rf) (h:TD P n F0 w0 ops l Rf ((d,v)::e) (R0::B::Rs) Q):TD P n F0 w0 ops (.e i l) Rf e (R0::A::Rs) Q:=by
 refine Bo ho hw (Ef.call 1 hc rfl hs hr hd) ?_
 rintro _ _ ⟨_,_,_,⟨rfl,rfl,rfl⟩,rfl,rfl⟩
 exact⟨Rf,fun w hw=>hw.sel is (hf),fun _ h=>h,h⟩
theorem BC {R0:Res} (ho:ops[i]? = some ⟨some d,.call cl,ty,pos,af,gd⟩) (hw:Wd n ops e ⟨some d,.call cl,ty,pos,af,gd⟩ true) (hc:CT P n e ⟨some d,.call cl,ty,pos,af,gd⟩ f vs) (hs:au P f vs.toArray Y A R) (hr: ∀ w,St F0 w0 (R0::A::Rs) w→Src F0 w0 (R0::A::Rs) w 1 Y) (hd:Nat.blt d n=true) (h: ∀ v A' N,R v A' N→TL P n F0 w0 ops l ((d,v)::e) (N++R0::A'::Rs) Q):TL P n F0 w0 ops (i::l) e (R0::A::Rs) Q:=by
 refine AZ ho hw (Ef.call 1 hc rfl hs hr hd) ?_
 rintro _ _ ⟨v,A',N,hR,rfl,rfl⟩
 exact h v A' N hR
theorem TD.cg1 {R0:Res} {l:Sch} (ho:ops[i]? = some ⟨some d,.call cl,ty,pos,af,gd⟩) (hw:Wd n ops e ⟨some d,.call cl,ty,pos,af,gd⟩ true) (hc:CT P n e ⟨some d,.call cl,ty,pos,af,gd⟩ f vs) (hs:au P f vs.toArray Y A R) (hr: ∀ w,St F0 w0 (R0::A::Rs) w→Src F0 w0 (R0::A::Rs) w 1 Y) (hd:Nat.blt d n=true) (is:List Nat) (hf: ∀ v A' N,R v A' N→Sel (N++R0::A'::Rs) is Rf) (h: ∀ v A' N,R v A' N→TD P n F0 w0 ops l Rf ((d,v)::e) (N++R0::A'::Rs) Q):TD P n F0 w0 ops (.e i l) Rf e (R0::A::Rs) Q:=by
 refine Bo ho hw (Ef.call 1 hc rfl hs hr hd) ?_
 rintro _ _ ⟨v,A',N,hR,rfl,rfl⟩
 exact⟨Rf,fun w hw=>hw.sel is (hf v A' N hR),fun _ h=>h,h v A' N hR⟩
theorem Bx {cs cs':Array Value} {R0 R1:Res} (ho:ops[i]? = some ⟨none,.store t x y,ty,pos,af,gd⟩) (hw:Wd n ops e ⟨none,.store t x y,ty,pos,af,gd⟩ true) (hx:e.ev x=some (.pointer (some ⟨b,o,none⟩))) (hy:e.ev y=some v) (hz: ∀ w,(sizeOf t).run P w= .ok z w) (hvz:Nat.beq v.cells.size z=true) (hf':Nat.ble (o+v.cells.size) cs.size=true) (ho':v.cells.toList.all (·.oneCell')=true) (hc:(cs.toList.take o++v.cells.toList++cs.toList.drop (o+v.cells.size)).toArray=cs') (h:TL P n F0 w0 ops l e (R0::R1::ay b T cs'::Rs) Q):TL P n F0 w0 ops (i::l) e (R0::R1::ay b T cs::Rs) Q:=by
 refine AZ ho hw (BH 2 hx hy hz rfl hvz hf' ho' hc) ?_
 rintro _ _ ⟨rfl,rfl⟩
 exact h
theorem AH {R0 R1:Res} (ho:ops[i]? = some ⟨some d,.call cl,ty,pos,af,gd⟩) (hw:Wd n ops e ⟨some d,.call cl,ty,pos,af,gd⟩ true) (hc:CT P n e ⟨some d,.call cl,ty,pos,af,gd⟩ f vs) (hs:au P f vs.toArray Y A (fun v' A' N=>v'=v∧A'=B∧N = [])) (hr: ∀ w,St F0 w0 (R0::R1::A::Rs) w→Src F0 w0 (R0::R1::A::Rs) w 2 Y) (hd:Nat.blt d n=true) (h:TL P n F0 w0 ops l ((d,v)::e) (R0::R1::B::Rs) Q):TL P n F0 w0 ops (i::l) e (R0::R1::A::Rs) Q:=by
 refine AZ ho hw (Ef.call 2 hc rfl hs hr hd) ?_
 rintro _ _ ⟨_,_,_,⟨rfl,rfl,rfl⟩,rfl,rfl⟩
 exact h
theorem TL.cg2 {R0 R1:Res} (ho:ops[i]? = some ⟨some d,.call cl,ty,pos,af,gd⟩) (hw:Wd n ops e ⟨some d,.call cl,ty,pos,af,gd⟩ true) (hc:CT P n e ⟨some d,.call cl,ty,pos,af,gd⟩ f vs) (hs:au P f vs.toArray Y A R) (hr: ∀ w,St F0 w0 (R0::R1::A::Rs) w→Src F0 w0 (R0::R1::A::Rs) w 2 Y) (hd:Nat.blt d n=true) (h: ∀ v A' N,R v A' N→TL P n F0 w0 ops l ((d,v)::e) (N++R0::R1::A'::Rs) Q):TL P n F0 w0 ops (i::l) e (R0::R1::A::Rs) Q:=by
 refine AZ ho hw (Ef.call 2 hc rfl hs hr hd) ?_
 rintro _ _ ⟨v,A',N,hR,rfl,rfl⟩
 exact h v A' N hR
theorem AO {cs cs':Array Value} {R0 R1 R2:Res} (ho:ops[i]? = some ⟨none,.store t x y,ty,pos,af,gd⟩) (hw:Wd n ops e ⟨none,.store t x y,ty,pos,af,gd⟩ true) (hx:e.ev x=some (.pointer (some ⟨b,o,none⟩))) (hy:e.ev y=some v) (hz: ∀ w,(sizeOf t).run P w= .ok z w) (hvz:Nat.beq v.cells.size z=true) (hf':Nat.ble (o+v.cells.size) cs.size=true) (ho':v.cells.toList.all (·.oneCell')=true) (hc:(cs.toList.take o++v.cells.toList++cs.toList.drop (o+v.cells.size)).toArray=cs') (h:TL P n F0 w0 ops l e (R0::R1::R2::ay b T cs'::Rs) Q):TL P n F0 w0 ops (i::l) e (R0::R1::R2::ay b T cs::Rs) Q:=by
 refine AZ ho hw (BH 3 hx hy hz rfl hvz hf' ho' hc) ?_
 rintro _ _ ⟨rfl,rfl⟩
 exact h
theorem BR {cs cs':Array Value} {R0 R1 R2:Res} {l:Sch} (ho:ops[i]? = some ⟨none,.store t x y,ty,pos,af,gd⟩) (hw:Wd n ops e ⟨none,.store t x y,ty,pos,af,gd⟩ true) (hx:e.ev x=some (.pointer (some ⟨b,o,none⟩))) (hy:e.ev y=some v) (hz: ∀ w,(sizeOf t).run P w= .ok z w) (hvz:Nat.beq v.cells.size z=true) (hf':Nat.ble (o+v.cells.size) cs.size=true) (ho':v.cells.toList.all (·.oneCell')=true) (hc:(cs.toList.take o++v.cells.toList++cs.toList.drop (o+v.cells.size)).toArray=cs') (is:List Nat) (hf:Sel (R0::R1::R2::ay b T cs'::Rs) is Rf) (h:TD P n F0 w0 ops l Rf e (R0::R1::R2::ay b T cs'::Rs) Q):TD P n F0 w0 ops (.e i l) Rf e (R0::R1::R2::ay b T cs::Rs) Q:=by
 refine Bo ho hw (BH 3 hx hy hz rfl hvz hf' ho' hc) ?_
 rintro _ _ ⟨rfl,rfl⟩
 exact⟨Rf,fun w hw=>hw.sel is (hf),fun _ h=>h,h⟩
theorem Bq {R0 R1 R2:Res} (ho:ops[i]? = some ⟨some d,.call cl,ty,pos,af,gd⟩) (hw:Wd n ops e ⟨some d,.call cl,ty,pos,af,gd⟩ true) (hc:CT P n e ⟨some d,.call cl,ty,pos,af,gd⟩ f vs) (hs:au P f vs.toArray Y A (fun v' A' N=>v'=v∧A'=B∧N = [])) (hr: ∀ w,St F0 w0 (R0::R1::R2::A::Rs) w→Src F0 w0 (R0::R1::R2::A::Rs) w 3 Y) (hd:Nat.blt d n=true) (h:TL P n F0 w0 ops l ((d,v)::e) (R0::R1::R2::B::Rs) Q):TL P n F0 w0 ops (i::l) e (R0::R1::R2::A::Rs) Q:=by
 refine AZ ho hw (Ef.call 3 hc rfl hs hr hd) ?_
 rintro _ _ ⟨_,_,_,⟨rfl,rfl,rfl⟩,rfl,rfl⟩
 exact h
theorem TL.cg3 {R0 R1 R2:Res} (ho:ops[i]? = some ⟨some d,.call cl,ty,pos,af,gd⟩) (hw:Wd n ops e ⟨some d,.call cl,ty,pos,af,gd⟩ true) (hc:CT P n e ⟨some d,.call cl,ty,pos,af,gd⟩ f vs) (hs:au P f vs.toArray Y A R) (hr: ∀ w,St F0 w0 (R0::R1::R2::A::Rs) w→Src F0 w0 (R0::R1::R2::A::Rs) w 3 Y) (hd:Nat.blt d n=true) (h: ∀ v A' N,R v A' N→TL P n F0 w0 ops l ((d,v)::e) (N++R0::R1::R2::A'::Rs) Q):TL P n F0 w0 ops (i::l) e (R0::R1::R2::A::Rs) Q:=by
 refine AZ ho hw (Ef.call 3 hc rfl hs hr hd) ?_
 rintro _ _ ⟨v,A',N,hR,rfl,rfl⟩
 exact h v A' N hR
theorem BS {cs cs':Array Value} {R0 R1 R2 R3:Res} (ho:ops[i]? = some ⟨none,.store t x y,ty,pos,af,gd⟩) (hw:Wd n ops e ⟨none,.store t x y,ty,pos,af,gd⟩ true) (hx:e.ev x=some (.pointer (some ⟨b,o,none⟩))) (hy:e.ev y=some v) (hz: ∀ w,(sizeOf t).run P w= .ok z w) (hvz:Nat.beq v.cells.size z=true) (hf':Nat.ble (o+v.cells.size) cs.size=true) (ho':v.cells.toList.all (·.oneCell')=true) (hc:(cs.toList.take o++v.cells.toList++cs.toList.drop (o+v.cells.size)).toArray=cs') (h:TL P n F0 w0 ops l e (R0::R1::R2::R3::ay b T cs'::Rs) Q):TL P n F0 w0 ops (i::l) e (R0::R1::R2::R3::ay b T cs::Rs) Q:=by
 refine AZ ho hw (BH 4 hx hy hz rfl hvz hf' ho' hc) ?_
 rintro _ _ ⟨rfl,rfl⟩
 exact h
theorem Bz {cs cs':Array Value} {R0 R1 R2 R3:Res} {l:Sch} (ho:ops[i]? = some ⟨none,.store t x y,ty,pos,af,gd⟩) (hw:Wd n ops e ⟨none,.store t x y,ty,pos,af,gd⟩ true) (hx:e.ev x=some (.pointer (some ⟨b,o,none⟩))) (hy:e.ev y=some v) (hz: ∀ w,(sizeOf t).run P w= .ok z w) (hvz:Nat.beq v.cells.size z=true) (hf':Nat.ble (o+v.cells.size) cs.size=true) (ho':v.cells.toList.all (·.oneCell')=true) (hc:(cs.toList.take o++v.cells.toList++cs.toList.drop (o+v.cells.size)).toArray=cs') (is:List Nat) (hf:Sel (R0::R1::R2::R3::ay b T cs'::Rs) is Rf) (h:TD P n F0 w0 ops l Rf e (R0::R1::R2::R3::ay b T cs'::Rs) Q):TD P n F0 w0 ops (.e i l) Rf e (R0::R1::R2::R3::ay b T cs::Rs) Q:=by
 refine Bo ho hw (BH 4 hx hy hz rfl hvz hf' ho' hc) ?_
 rintro _ _ ⟨rfl,rfl⟩
 exact⟨Rf,fun w hw=>hw.sel is (hf),fun _ h=>h,h⟩
theorem TL.c4 {R0 R1 R2 R3:Res} (ho:ops[i]? = some ⟨some d,.call cl,ty,pos,af,gd⟩) (hw:Wd n ops e ⟨some d,.call cl,ty,pos,af,gd⟩ true) (hc:CT P n e ⟨some d,.call cl,ty,pos,af,gd⟩ f vs) (hs:au P f vs.toArray Y A (fun v' A' N=>v'=v∧A'=B∧N = [])) (hr: ∀ w,St F0 w0 (R0::R1::R2::R3::A::Rs) w→Src F0 w0 (R0::R1::R2::R3::A::Rs) w 4 Y) (hd:Nat.blt d n=true) (h:TL P n F0 w0 ops l ((d,v)::e) (R0::R1::R2::R3::B::Rs) Q):TL P n F0 w0 ops (i::l) e (R0::R1::R2::R3::A::Rs) Q:=by
 refine AZ ho hw (Ef.call 4 hc rfl hs hr hd) ?_
 rintro _ _ ⟨_,_,_,⟨rfl,rfl,rfl⟩,rfl,rfl⟩
 exact h
theorem TD.c4 {R0 R1 R2 R3:Res} {l:Sch} (ho:ops[i]? = some ⟨some d,.call cl,ty,pos,af,gd⟩) (hw:Wd n ops e ⟨some d,.call cl,ty,pos,af,gd⟩ true) (hc:CT P n e ⟨some d,.call cl,ty,pos,af,gd⟩ f vs) (hs:au P f vs.toArray Y A (fun v' A' N=>v'=v∧A'=B∧N = [])) (hr: ∀ w,St F0 w0 (R0::R1::R2::R3::A::Rs) w→Src F0 w0 (R0::R1::R2::R3::A::Rs) w 4 Y) (hd:Nat.blt d n=true) (is:List Nat) (hf:Sel (R0::R1::R2::R3::B::Rs) is Rf) (h:TD P n F0 w0 ops l Rf ((d,v)::e) (R0::R1::R2::R3::B::Rs) Q):TD P n F0 w0 ops (.e i l) Rf e (R0::R1::R2::R3::A::Rs) Q:=by
 refine Bo ho hw (Ef.call 4 hc rfl hs hr hd) ?_
 rintro _ _ ⟨_,_,_,⟨rfl,rfl,rfl⟩,rfl,rfl⟩
 exact⟨Rf,fun w hw=>hw.sel is (hf),fun _ h=>h,h⟩
theorem TL.st5 {cs cs':Array Value} {R0 R1 R2 R3 R4:Res} (ho:ops[i]? = some ⟨none,.store t x y,ty,pos,af,gd⟩) (hw:Wd n ops e ⟨none,.store t x y,ty,pos,af,gd⟩ true) (hx:e.ev x=some (.pointer (some ⟨b,o,none⟩))) (hy:e.ev y=some v) (hz: ∀ w,(sizeOf t).run P w= .ok z w) (hvz:Nat.beq v.cells.size z=true) (hf':Nat.ble (o+v.cells.size) cs.size=true) (ho':v.cells.toList.all (·.oneCell')=true) (hc:(cs.toList.take o++v.cells.toList++cs.toList.drop (o+v.cells.size)).toArray=cs') (h:TL P n F0 w0 ops l e (R0::R1::R2::R3::R4::ay b T cs'::Rs) Q):TL P n F0 w0 ops (i::l) e (R0::R1::R2::R3::R4::ay b T cs::Rs) Q:=by
 refine AZ ho hw (BH 5 hx hy hz rfl hvz hf' ho' hc) ?_
 rintro _ _ ⟨rfl,rfl⟩
 exact h
theorem BJ {R0 R1 R2 R3 R4:Res} (ho:ops[i]? = some ⟨some d,.call cl,ty,pos,af,gd⟩) (hw:Wd n ops e ⟨some d,.call cl,ty,pos,af,gd⟩ true) (hc:CT P n e ⟨some d,.call cl,ty,pos,af,gd⟩ f vs) (hs:au P f vs.toArray Y A (fun v' A' N=>v'=v∧A'=B∧N = [])) (hr: ∀ w,St F0 w0 (R0::R1::R2::R3::R4::A::Rs) w→Src F0 w0 (R0::R1::R2::R3::R4::A::Rs) w 5 Y) (hd:Nat.blt d n=true) (h:TL P n F0 w0 ops l ((d,v)::e) (R0::R1::R2::R3::R4::B::Rs) Q):TL P n F0 w0 ops (i::l) e (R0::R1::R2::R3::R4::A::Rs) Q:=by
 refine AZ ho hw (Ef.call 5 hc rfl hs hr hd) ?_
 rintro _ _ ⟨_,_,_,⟨rfl,rfl,rfl⟩,rfl,rfl⟩
 exact h
theorem BB {R0 R1 R2 R3 R4:Res} {l:Sch} (ho:ops[i]? = some ⟨some d,.call cl,ty,pos,af,gd⟩) (hw:Wd n ops e ⟨some d,.call cl,ty,pos,af,gd⟩ true) (hc:CT P n e ⟨some d,.call cl,ty,pos,af,gd⟩ f vs) (hs:au P f vs.toArray Y A (fun v' A' N=>v'=v∧A'=B∧N = [])) (hr: ∀ w,St F0 w0 (R0::R1::R2::R3::R4::A::Rs) w→Src F0 w0 (R0::R1::R2::R3::R4::A::Rs) w 5 Y) (hd:Nat.blt d n=true) (is:List Nat) (hf:Sel (R0::R1::R2::R3::R4::B::Rs) is Rf) (h:TD P n F0 w0 ops l Rf ((d,v)::e) (R0::R1::R2::R3::R4::B::Rs) Q):TD P n F0 w0 ops (.e i l) Rf e (R0::R1::R2::R3::R4::A::Rs) Q:=by
 refine Bo ho hw (Ef.call 5 hc rfl hs hr hd) ?_
 rintro _ _ ⟨_,_,_,⟨rfl,rfl,rfl⟩,rfl,rfl⟩
 exact⟨Rf,fun w hw=>hw.sel is (hf),fun _ h=>h,h⟩
theorem TD.cg5 {R0 R1 R2 R3 R4:Res} {l:Sch} (ho:ops[i]? = some ⟨some d,.call cl,ty,pos,af,gd⟩) (hw:Wd n ops e ⟨some d,.call cl,ty,pos,af,gd⟩ true) (hc:CT P n e ⟨some d,.call cl,ty,pos,af,gd⟩ f vs) (hs:au P f vs.toArray Y A R) (hr: ∀ w,St F0 w0 (R0::R1::R2::R3::R4::A::Rs) w→Src F0 w0 (R0::R1::R2::R3::R4::A::Rs) w 5 Y) (hd:Nat.blt d n=true) (is:List Nat) (hf: ∀ v A' N,R v A' N→Sel (N++R0::R1::R2::R3::R4::A'::Rs) is Rf) (h: ∀ v A' N,R v A' N→TD P n F0 w0 ops l Rf ((d,v)::e) (N++R0::R1::R2::R3::R4::A'::Rs) Q):TD P n F0 w0 ops (.e i l) Rf e (R0::R1::R2::R3::R4::A::Rs) Q:=by
 refine Bo ho hw (Ef.call 5 hc rfl hs hr hd) ?_
 rintro _ _ ⟨v,A',N,hR,rfl,rfl⟩
 exact⟨Rf,fun w hw=>hw.sel is (hf v A' N hR),fun _ h=>h,h v A' N hR⟩
theorem TL.st6 {cs cs':Array Value} {R0 R1 R2 R3 R4 R5:Res} (ho:ops[i]? = some ⟨none,.store t x y,ty,pos,af,gd⟩) (hw:Wd n ops e ⟨none,.store t x y,ty,pos,af,gd⟩ true) (hx:e.ev x=some (.pointer (some ⟨b,o,none⟩))) (hy:e.ev y=some v) (hz: ∀ w,(sizeOf t).run P w= .ok z w) (hvz:Nat.beq v.cells.size z=true) (hf':Nat.ble (o+v.cells.size) cs.size=true) (ho':v.cells.toList.all (·.oneCell')=true) (hc:(cs.toList.take o++v.cells.toList++cs.toList.drop (o+v.cells.size)).toArray=cs') (h:TL P n F0 w0 ops l e (R0::R1::R2::R3::R4::R5::ay b T cs'::Rs) Q):TL P n F0 w0 ops (i::l) e (R0::R1::R2::R3::R4::R5::ay b T cs::Rs) Q:=by
 refine AZ ho hw (BH 6 hx hy hz rfl hvz hf' ho' hc) ?_
 rintro _ _ ⟨rfl,rfl⟩
 exact h
theorem BE {R0 R1 R2 R3 R4 R5:Res} {l:Sch} (ho:ops[i]? = some ⟨some d,.call cl,ty,pos,af,gd⟩) (hw:Wd n ops e ⟨some d,.call cl,ty,pos,af,gd⟩ true) (hc:CT P n e ⟨some d,.call cl,ty,pos,af,gd⟩ f vs) (hs:au P f vs.toArray Y A (fun v' A' N=>v'=v∧A'=B∧N = [])) (hr: ∀ w,St F0 w0 (R0::R1::R2::R3::R4::R5::A::Rs) w→Src F0 w0 (R0::R1::R2::R3::R4::R5::A::Rs) w 6 Y) (hd:Nat.blt d n=true) (is:List Nat) (hf:Sel (R0::R1::R2::R3::R4::R5::B::Rs) is Rf) (h:TD P n F0 w0 ops l Rf ((d,v)::e) (R0::R1::R2::R3::R4::R5::B::Rs) Q):TD P n F0 w0 ops (.e i l) Rf e (R0::R1::R2::R3::R4::R5::A::Rs) Q:=by
 refine Bo ho hw (Ef.call 6 hc rfl hs hr hd) ?_
 rintro _ _ ⟨_,_,_,⟨rfl,rfl,rfl⟩,rfl,rfl⟩
 exact⟨Rf,fun w hw=>hw.sel is (hf),fun _ h=>h,h⟩
theorem TL.c7 {R0 R1 R2 R3 R4 R5 R6:Res} (ho:ops[i]? = some ⟨some d,.call cl,ty,pos,af,gd⟩) (hw:Wd n ops e ⟨some d,.call cl,ty,pos,af,gd⟩ true) (hc:CT P n e ⟨some d,.call cl,ty,pos,af,gd⟩ f vs) (hs:au P f vs.toArray Y A (fun v' A' N=>v'=v∧A'=B∧N = [])) (hr: ∀ w,St F0 w0 (R0::R1::R2::R3::R4::R5::R6::A::Rs) w→Src F0 w0 (R0::R1::R2::R3::R4::R5::R6::A::Rs) w 7 Y) (hd:Nat.blt d n=true) (h:TL P n F0 w0 ops l ((d,v)::e) (R0::R1::R2::R3::R4::R5::R6::B::Rs) Q):TL P n F0 w0 ops (i::l) e (R0::R1::R2::R3::R4::R5::R6::A::Rs) Q:=by
 refine AZ ho hw (Ef.call 7 hc rfl hs hr hd) ?_
 rintro _ _ ⟨_,_,_,⟨rfl,rfl,rfl⟩,rfl,rfl⟩
 exact h
theorem AY  (ho:ops[i]? = some ⟨some d,.call cl,ty,pos,af,gd⟩) (hw:Wd n ops e ⟨some d,.call cl,ty,pos,af,gd⟩ true) (hc:CT P n e ⟨some d,.call cl,ty,pos,af,gd⟩ f vs) (hs:au P f vs.toArray Y aI R) (hr: ∀ w,St F0 w0 Rs w→Y.reads w (fun _=>False)) (hd:Nat.blt d n=true) (h: ∀ v A' N,R v A' N→TL P n F0 w0 ops l ((d,v)::e) (N++Rs) Q):TL P n F0 w0 ops (i::l) e Rs Q:=by
 refine AZ ho hw (Ef.callE hc hs hr hd) ?_
 rintro _ _ ⟨v,A',N,hR,rfl,rfl⟩
 exact h v A' N hR
theorem TD.cge  {l:Sch} (ho:ops[i]? = some ⟨some d,.call cl,ty,pos,af,gd⟩) (hw:Wd n ops e ⟨some d,.call cl,ty,pos,af,gd⟩ true) (hc:CT P n e ⟨some d,.call cl,ty,pos,af,gd⟩ f vs) (hs:au P f vs.toArray Y aI R) (hr: ∀ w,St F0 w0 Rs w→Y.reads w (fun _=>False)) (hd:Nat.blt d n=true) (is:List Nat) (hf: ∀ v A' N,R v A' N→Sel (N++Rs) is Rf) (h: ∀ v A' N,R v A' N→TD P n F0 w0 ops l Rf ((d,v)::e) (N++Rs) Q):TD P n F0 w0 ops (.e i l) Rf e Rs Q:=by
 refine Bo ho hw (Ef.callE hc hs hr hd) ?_
 rintro _ _ ⟨v,A',N,hR,rfl,rfl⟩
 exact⟨Rf,fun w hw=>hw.sel is (hf v A' N hR),fun _ h=>h,h v A' N hR⟩
theorem An  (ho:ops[i]? = some ⟨some d,.call cl,ty,pos,af,gd⟩) (hw:Wd n ops e ⟨some d,.call cl,ty,pos,af,gd⟩ true) (hc:CT P n e ⟨some d,.call cl,ty,pos,af,gd⟩ f vs) (hs:au P f vs.toArray Y aI (fun v' A' N=>v'=v∧A'=aI∧N = [])) (hr: ∀ w,St F0 w0 Rs w→Y.reads w (fun _=>False)) (hd:Nat.blt d n=true) (h:TL P n F0 w0 ops l ((d,v)::e) Rs Q):TL P n F0 w0 ops (i::l) e Rs Q:=by
 refine AZ ho hw (Ef.callE hc hs hr hd) ?_
 rintro _ _ ⟨_,_,_,⟨rfl,rfl,rfl⟩,rfl,rfl⟩
 exact h
theorem TD.ce  {l:Sch} (ho:ops[i]? = some ⟨some d,.call cl,ty,pos,af,gd⟩) (hw:Wd n ops e ⟨some d,.call cl,ty,pos,af,gd⟩ true) (hc:CT P n e ⟨some d,.call cl,ty,pos,af,gd⟩ f vs) (hs:au P f vs.toArray Y aI (fun v' A' N=>v'=v∧A'=aI∧N = [])) (hr: ∀ w,St F0 w0 Rs w→Y.reads w (fun _=>False)) (hd:Nat.blt d n=true) (is:List Nat) (hf:Sel Rs is Rf) (h:TD P n F0 w0 ops l Rf ((d,v)::e) Rs Q):TD P n F0 w0 ops (.e i l) Rf e Rs Q:=by
 refine Bo ho hw (Ef.callE hc hs hr hd) ?_
 rintro _ _ ⟨_,_,_,⟨rfl,rfl,rfl⟩,rfl,rfl⟩
 exact⟨Rf,fun w hw=>hw.sel is (hf),fun _ h=>h,h⟩
end
def nv:Rd Int:=⟨fun _ _ cs n=>cs = [.int .i64 n],fun h _=>h,fun h _=>h⟩
def oR:Rd (List UInt8):=⟨fun _ _ cs l=>cs = [.string (aC l)],fun h _=>h,fun h _=>h⟩
def uX:Rd Bl:=⟨fun _ _ cs x=>cs = [.bool x.null,.string (aC x.data)],fun h _=>h,fun h _=>h⟩
structure Pfx where
 Cn:Int
 Cr:Int
 Ch:Int
 CC:Int
 CE:Int
 Cl:Int
 B9:Int
 Cu:Int
 BX:Int
 B5:Int
 Ca:Int
 CD:Int
structure Hd where
 Cq:List UInt8
 Cb:Bl
def bT:Rd Hd where
 P:=fun _ _ cs x=>cs = [.string (aC x.Cq),.bool x.Cb.null,.string (aC x.Cb.data)]
 mono:=fun h _=>h
 move:=fun h _=>h
structure Rec where
 Co:Int
 Cd:Int
 Cq:Bl
 Cb:Bl
 B6:List Hd
def cn:Rd Rec where
 P:=fun w S cs x=> ∃ (A0:Option Addr) (c0:Nat),cs = [.int .i64 x.Co,.int .i64 x.Cd,.bool x.Cq.null,.string (aC x.Cq.data),.bool x.Cb.null,.string (aC x.Cb.data),.slice A0 x.B6.length c0]∧(an 3 bT).P w S [.slice A0 x.B6.length c0] x.B6
 mono:=fun ⟨A0,c0,e,h0⟩ k=>⟨A0,c0,e,(an 3 bT).mono h0 k⟩
 move:=fun ⟨A0,c0,e,h0⟩ k=>⟨A0,c0,e,(an 3 bT).move h0 k⟩
structure dv where
 Cm:Int
 Ce:Int
 Cv:Int
 Cg:Bl
structure Top where
 Ck:List UInt8
 B7:List Int
def aX:Rd Top where
 P:=fun w S cs x=> ∃ (A0:Option Addr) (c0:Nat),cs = [.string (aC x.Ck),.slice A0 x.B7.length c0]∧(an 1 nv).P w S [.slice A0 x.B7.length c0] x.B7
 mono:=fun ⟨A0,c0,e,h0⟩ k=>⟨A0,c0,e,(an 1 nv).mono h0 k⟩
 move:=fun ⟨A0,c0,e,h0⟩ k=>⟨A0,c0,e,(an 1 nv).move h0 k⟩
structure Val where
 BX:Int
 B5:Int
 B8:Int
 CA:Int
 BZ:List Top
 CK:Int
 CH:Int
structure Bat where
 Cn:Int
 Ch:Int
 CF:Bool
 CI:Bool
 Ct:Bool
 Cl:Int
 B9:Int
 Cu:Int
 BX:Int
 B5:Int
 Ca:Int
 B0:List Rec
def fb:Rd Bat where
 P:=fun w S cs x=> ∃ (A0:Option Addr) (c0:Nat),cs = [.int .i64 x.Cn,.int .i64 x.Ch,.bool x.CF,.bool x.CI,.bool x.Ct,.int .i64 x.Cl,.int .i64 x.B9,.int .i64 x.Cu,.int .i64 x.BX,.int .i64 x.B5,.int .i64 x.Ca,.slice A0 x.B0.length c0]∧(an 7 cn).P w S [.slice A0 x.B0.length c0] x.B0
 mono:=fun ⟨A0,c0,e,h0⟩ k=>⟨A0,c0,e,(an 7 cn).mono h0 k⟩
 move:=fun ⟨A0,c0,e,h0⟩ k=>⟨A0,c0,e,(an 7 cn).move h0 k⟩
structure bc where
 Cc:List UInt8
 BX:Int
 B5:Int
 Cw:Bool
structure aA where
 BX:Int
 B5:Int
 Cw:Bool
 BZ:List Top
 Ci:Int
def aM:Rd aA where
 P:=fun w S cs x=> ∃ (A0:Option Addr) (c0:Nat),cs = [.int .i64 x.BX,.int .i64 x.B5,.bool x.Cw,.slice A0 x.BZ.length c0,.int .i64 x.Ci]∧(an 2 aX).P w S [.slice A0 x.BZ.length c0] x.BZ
 mono:=fun ⟨A0,c0,e,h0⟩ k=>⟨A0,c0,e,(an 2 aX).mono h0 k⟩
 move:=fun ⟨A0,c0,e,h0⟩ k=>⟨A0,c0,e,(an 2 aX).move h0 k⟩
structure aD where
 Cc:Bl
 B8:Int
 BX:Int
 B5:Int
structure aW where
 Cs:Int
 Cf:List Bat
def bG:Rd aW where
 P:=fun w S cs x=> ∃ (A0:Option Addr) (c0:Nat),cs = [.int .i64 x.Cs,.slice A0 x.Cf.length c0]∧(an 12 fb).P w S [.slice A0 x.Cf.length c0] x.Cf
 mono:=fun ⟨A0,c0,e,h0⟩ k=>⟨A0,c0,e,(an 12 fb).mono h0 k⟩
 move:=fun ⟨A0,c0,e,h0⟩ k=>⟨A0,c0,e,(an 12 fb).move h0 k⟩
structure aB where
 Ck:List UInt8
 B7:List aW
def aw:Rd aB where
 P:=fun w S cs x=> ∃ (A0:Option Addr) (c0:Nat),cs = [.string (aC x.Ck),.slice A0 x.B7.length c0]∧(an 2 bG).P w S [.slice A0 x.B7.length c0] x.B7
 mono:=fun ⟨A0,c0,e,h0⟩ k=>⟨A0,c0,e,(an 2 bG).mono h0 k⟩
 move:=fun ⟨A0,c0,e,h0⟩ k=>⟨A0,c0,e,(an 2 bG).move h0 k⟩
structure ao where
 Cc:Bl
 CG:Int
 B8:Int
 BZ:List aB
structure bh where
 Cc:List UInt8
 BX:Int
 B5:Int
 BZ:List Top
structure ax where
 Cp:dv
 Cx:aD
 Cy:bh
 CJ:bc
 Cz:List aA
 Cj:ao
theorem cE {b:Bool} (h:b=false):(!b)=true:=by rw[h]; rfl
theorem cv {b:Bool} (h:b=true):(!b)=false:=by rw[h]; rfl
theorem ifT {α:Type} {c:Prop} [Decidable c] {x y z:α} (hc:c) (h:(if c then x else y)=z):x=z:=by rwa [if_pos hc] at h
theorem ifF {α:Type} {c:Prop} [Decidable c] {x y z:α} (hc: ¬ c) (h:(if c then x else y)=z):y=z:=by rwa [if_neg hc] at h
theorem uY {α:Type} (l:List α) (p:Nat):(l.drop p).take (l.length - p)=l.drop p:=by rw[← C1,List.take_length]
section
variable {P:Program} {n:Nat} {F0:Nat→Prop} {w0:World} {e:Env} {Rs Rf:List Res} {Q:Exit→Act→World→Prop} {ops:Array Oper} {i d:Nat} {ty t t' el:TypeId} {pos:String} {af:Array Edge} {gd:Option (Nat×Bool)} {v v':Value} {x y:Operand} {l:List Nat} {lo:Sch} {c:Code} {S:World→Prop}
theorem Ex.bEq {d:Option Tmp} {a b p q:Bool} (hx:e.ev x=some (.bool a)) (ha:a=p) (hy:e.ev y=some (.bool b)) (hb:b=q) (hu: ∀ w,(underlying t).run P w= .ok .bool w):Ex P n e S ⟨d,.binOp .eql t x y t',ty,pos,af,gd⟩ (.bool (p == q)):=by
 intro A w h _
 subst ha hb
 have h1: ∀ k,(Op.equalIn (k+1) t (.bool a) (.bool b)).run P w= .ok (a == b) w:=by
  intro k
  simp only[Op.equalIn,Sem.run_bind,hu,Result.andThen_ok]
  rfl
 have h2:(Op.equal t (.bool a) (.bool b)).run P w= .ok (a == b) w:=h1 9999
 have h4:(binOp .eql t (.bool a) (.bool b)).run P w= .ok (.bool (a == b)) w:=by
  simp only[binOp,Sem.run_bind,h2,Result.andThen_ok,Sem.run_pure]
 simp only[execOp,h.ev hx,h.ev hy,eqGuard]
 simp[h4]
theorem Bv {d:Option Tmp} {a b p q:Bool} (hx:e.ev x=some (.bool a)) (ha:a=p) (hy:e.ev y=some (.bool b)) (hb:b=q) (hu: ∀ w,(underlying t).run P w= .ok .bool w):Ex P n e S ⟨d,.binOp .neq t x y t',ty,pos,af,gd⟩ (.bool (!(p == q))):=by
 intro A w h _
 subst ha hb
 have h1: ∀ k,(Op.equalIn (k+1) t (.bool a) (.bool b)).run P w= .ok (a == b) w:=by
  intro k
  simp only[Op.equalIn,Sem.run_bind,hu,Result.andThen_ok]
  rfl
 have h2:(Op.equal t (.bool a) (.bool b)).run P w= .ok (a == b) w:=h1 9999
 have h4:(binOp .neq t (.bool a) (.bool b)).run P w= .ok (.bool (!(a == b))) w:=by
  simp only[binOp,Sem.run_bind,h2,Result.andThen_ok,Sem.run_pure]
 simp only[execOp,h.ev hx,h.ev hy,eqGuard]
 simp[h4]
theorem AD (is:List Nat) {Rs':List Res} (hr:Sel Rs is Rs') (h:TL P n F0 w0 ops l e Rs' Q):TL P n F0 w0 ops l e Rs Q:=fun a w ha hs=>h a w ha (hs.sel is hr)
theorem Bh (is:List Nat) {Rs':List Res} (hr:Sel Rs is Rs') (h:TD P n F0 w0 ops lo Rf e Rs' Q):TD P n F0 w0 ops lo Rf e Rs Q:=fun a w ha hs=>h a w ha (hs.sel is hr)
theorem AU {z:Exit} (is:List Nat) {Rs':List Res} (hr:Sel Rs is Rs') (h:X n F0 w0 e Rs' z Q):X n F0 w0 e Rs z Q:=fun a w ha hs=>h a w ha (hs.sel is hr)
theorem Has.as {a:Act} (ha:Has n e a) (hv:e.get d=some v) (h:v=v'):Has n ((d,v')::e) a:=ha.sub (fun t u hu=>by
 simp only[Env.get] at hu
 cases hb:Nat.beq d t with
 | true =>
  rw[hb] at hu
  obtain rfl:=Nat.eq_of_beq_eq_true hb
  injection hu with hu
  rw[hv,h,hu]
 | false=>rw[hb] at hu; exact hu)
theorem Ak {α:Type} {z:Exit} (size:Nat) (E:Rd α) (h:X n F0 w0 e (RdR (an size E) [.slice none 0 0] []::Rs) z Q):X n F0 w0 e Rs z Q:=fun a w ha hs=>h a w ha (RdR.nil size E hs)
theorem X.shut {α:Type} {z:Exit} {E:Rd α} {size:Nat} {T:TypeId} {u:Value} {xs:List α} (hp:0<size) (i:Nat) (hi:Rs[i]? = some (cD T size E u xs)) (h:X n F0 w0 e (Rs.set i (RdR (an size E) [u] xs)) z Q):X n F0 w0 e Rs z Q:=fun a w ha hs=>h a w ha (cD.shut hp i hs hi)
theorem aP.of_blk {b:Nat} {w:World} {G:Nat→Prop} (h:(ay b 112 #[.slice none 0 0,.int .i64 0]).P w G):(aP b ([],0)).P w G:=by
 obtain⟨h1,h2⟩:=h
 exact⟨_,h1,World.ownsRow_nil _ _ _ _,fun k=>by simp[h2 k,Value.ownBlock]⟩
theorem Bt {zv:Value} (ho:ops[i]? = some ⟨some d,.alloc t,ty,pos,af,gd⟩) (hw:Wd n ops e ⟨some d,.alloc t,ty,pos,af,gd⟩ true) (hz: ∀ w,(zeroValue t).run P w= .ok zv w) (hd:Nat.blt d n=true)
 (h: ∀ b,TL P n F0 w0 ops l ((d,.pointer (some ⟨b,0,none⟩))::e) (aP b ([],0)::Rs) Q) (ht:t=112:=by rfl) (hzv:zv= .agg #[.slice none 0 0,.int .i64 0]:=by rfl):TL P n F0 w0 ops (i::l) e Rs Q:=by
 refine TL.alloc ho hw hz hd (fun b=> ?_)
 intro a w ha hs
 subst ht hzv
 exact h b a w ha (hs.weaken 0 rfl (fun G hG=>aP.of_blk hG))
section
variable {α:Type} {E:Rd α} {sl:Operand} {T z bytes g ii jj:Nat} {zv:Value} {A:Option Addr} {cp:Nat} {Rs':List Res} {B:Res}
theorem TL.app1 (ii:Nat) {us:List Value} {u:α} {l:List α} {lr:List Nat} (ho:ops[i]? = some ⟨some d,.call ⟨.builtin .append,#[sl,x],#[t,t]⟩,ty,pos,af,gd⟩) (hw:Wd n ops e ⟨some d,.call ⟨.builtin .append,#[sl,x],#[t,t]⟩,ty,pos,af,gd⟩ true)
 (hu:P.underlying t=some (.slice T)) (hinfo:(P.info? T).map (fun i=>(i.zero,i.size,i.bytes))=some (some zv,z,bytes)) (hzv:zv.cells.size=z) (hp:0<z)
 (hs:e.ev sl=some (.slice A l.length cp)) (hx:e.ev x=some (.slice (some ⟨g,0,none⟩) 1 1)) (hR:Rs=ay g T us.toArray::Rs') (hi:Rs'[ii]? = some (cD T z E (.slice A l.length cp) l)) (hl:us.length=z) (hq:us.all (·.oneCell')=true) (hE: ∀ w S,E.P w S us u) (hb:(l.length+1)*bytes≤140737488355328) (hm:l.length+1≤140737488355328) (hd:Nat.blt d n=true)
 (h: ∀ A' c',TL P n F0 w0 ops lr ((d,.slice A' (l ++ [u]).length c')::e) (Rs'.set ii (cD T z E (.slice A' (l ++ [u]).length c') (l ++ [u]))) Q):TL P n F0 w0 ops (i::lr) e Rs Q:=by
 refine AZ ho hw (Ef.app1 ii hu hinfo hzv hp hs hx hR hi hl hq hE hb hm hd) ?_
 rintro _ _ ⟨A',c',rfl,rfl⟩
 exact h A' c'
theorem TL.app2 (ii jj:Nat) {us:List Value} {u:α} {l:List α} {lr:List Nat} (ho:ops[i]? = some ⟨some d,.call ⟨.builtin .append,#[sl,x],#[t,t]⟩,ty,pos,af,gd⟩) (hw:Wd n ops e ⟨some d,.call ⟨.builtin .append,#[sl,x],#[t,t]⟩,ty,pos,af,gd⟩ true)
 (hu:P.underlying t=some (.slice T)) (hinfo:(P.info? T).map (fun i=>(i.zero,i.size,i.bytes))=some (some zv,z,bytes)) (hzv:zv.cells.size=z) (hp:0<z)
 (hs:e.ev sl=some (.slice A l.length cp)) (hx:e.ev x=some (.slice (some ⟨g,0,none⟩) 1 1)) (hR:Rs=ay g T us.toArray::Rs') (hi:Rs'[ii]? = some (cD T z E (.slice A l.length cp) l)) (hj:(Rs'.eraseIdx ii)[jj]? = some B) (hl:us.length=z) (hq:us.all (·.oneCell')=true) (hE: ∀ w G,B.P w G→E.P w G us u) (hb:(l.length+1)*bytes≤140737488355328) (hm:l.length+1≤140737488355328) (hd:Nat.blt d n=true)
 (h: ∀ A' c',TL P n F0 w0 ops lr ((d,.slice A' (l ++ [u]).length c')::e) (cD T z E (.slice A' (l ++ [u]).length c') (l ++ [u])::(Rs'.eraseIdx ii).eraseIdx jj) Q):TL P n F0 w0 ops (i::lr) e Rs Q:=by
 refine AZ ho hw (Ef.app2 ii jj hu hinfo hzv hp hs hx hR hi hj hl hq hE hb hm hd) ?_
 rintro _ _ ⟨A',c',rfl,rfl⟩
 exact h A' c'
theorem TD.app1 (ii:Nat) {us:List Value} {u:α} {l:List α} {lr:Sch} (ho:ops[i]? = some ⟨some d,.call ⟨.builtin .append,#[sl,x],#[t,t]⟩,ty,pos,af,gd⟩) (hw:Wd n ops e ⟨some d,.call ⟨.builtin .append,#[sl,x],#[t,t]⟩,ty,pos,af,gd⟩ true)
 (hu:P.underlying t=some (.slice T)) (hinfo:(P.info? T).map (fun i=>(i.zero,i.size,i.bytes))=some (some zv,z,bytes)) (hzv:zv.cells.size=z) (hp:0<z)
 (hs:e.ev sl=some (.slice A l.length cp)) (hx:e.ev x=some (.slice (some ⟨g,0,none⟩) 1 1)) (hR:Rs=ay g T us.toArray::Rs') (hi:Rs'[ii]? = some (cD T z E (.slice A l.length cp) l)) (hl:us.length=z) (hq:us.all (·.oneCell')=true) (hE: ∀ w S,E.P w S us u) (hb:(l.length+1)*bytes≤140737488355328) (hm:l.length+1≤140737488355328) (hd:Nat.blt d n=true)
 (is:List Nat) (hf: ∀ A' c',Sel (Rs'.set ii (cD T z E (.slice A' (l ++ [u]).length c') (l ++ [u]))) is Rf)
 (h: ∀ A' c',TD P n F0 w0 ops lr Rf ((d,.slice A' (l ++ [u]).length c')::e) (Rs'.set ii (cD T z E (.slice A' (l ++ [u]).length c') (l ++ [u]))) Q):TD P n F0 w0 ops (.e i lr) Rf e Rs Q:=by
 refine Bo ho hw (Ef.app1 ii hu hinfo hzv hp hs hx hR hi hl hq hE hb hm hd) ?_
 rintro _ _ ⟨A',c',rfl,rfl⟩
 exact⟨Rf,fun w hw=>hw.sel is (hf A' c'),fun _ h=>h,h A' c'⟩
theorem BT (ii jj:Nat) {us:List Value} {u:α} {l:List α} {lr:Sch} (ho:ops[i]? = some ⟨some d,.call ⟨.builtin .append,#[sl,x],#[t,t]⟩,ty,pos,af,gd⟩) (hw:Wd n ops e ⟨some d,.call ⟨.builtin .append,#[sl,x],#[t,t]⟩,ty,pos,af,gd⟩ true)
 (hu:P.underlying t=some (.slice T)) (hinfo:(P.info? T).map (fun i=>(i.zero,i.size,i.bytes))=some (some zv,z,bytes)) (hzv:zv.cells.size=z) (hp:0<z)
 (hs:e.ev sl=some (.slice A l.length cp)) (hx:e.ev x=some (.slice (some ⟨g,0,none⟩) 1 1)) (hR:Rs=ay g T us.toArray::Rs') (hi:Rs'[ii]? = some (cD T z E (.slice A l.length cp) l)) (hj:(Rs'.eraseIdx ii)[jj]? = some B) (hl:us.length=z) (hq:us.all (·.oneCell')=true) (hE: ∀ w G,B.P w G→E.P w G us u) (hb:(l.length+1)*bytes≤140737488355328) (hm:l.length+1≤140737488355328) (hd:Nat.blt d n=true)
 (is:List Nat) (hf: ∀ A' c',Sel (cD T z E (.slice A' (l ++ [u]).length c') (l ++ [u])::(Rs'.eraseIdx ii).eraseIdx jj) is Rf)
 (h: ∀ A' c',TD P n F0 w0 ops lr Rf ((d,.slice A' (l ++ [u]).length c')::e) (cD T z E (.slice A' (l ++ [u]).length c') (l ++ [u])::(Rs'.eraseIdx ii).eraseIdx jj) Q):TD P n F0 w0 ops (.e i lr) Rf e Rs Q:=by
 refine Bo ho hw (Ef.app2 ii jj hu hinfo hzv hp hs hx hR hi hj hl hq hE hb hm hd) ?_
 rintro _ _ ⟨A',c',rfl,rfl⟩
 exact⟨Rf,fun w hw=>hw.sel is (hf A' c'),fun _ h=>h,h A' c'⟩
end
variable (P n F0 w0) in
def RV (e:Env) (Rs:List Res) (r:ResultVar) (v:Value):Prop:= ∀ a w,Has n e a→St F0 w0 Rs w→(resv a.tmps r).run P w= .ok v w
theorem z5 {k:Nat} (hv:e.get k=some v):RV P n F0 w0 e Rs (.tmp k) v:=by
 intro a w ha hs
 have h2:=ha.at_ k v hv
 simp[resv,h2]
theorem AA (i:Nat) {k b T:Nat} {us:Array Value} {z:Nat} (hk:e.get k=some (.pointer (some ⟨b,0,none⟩))) (ha: ∀ w,(isAgg t).run P w= .ok true w) (hz: ∀ w,(sizeOf t).run P w= .ok z w) (hi:Rs[i]? = some (ay b T us)) (hl:us.size=z):RV P n F0 w0 e Rs (.cell k t) (.agg us):=by
 intro a w h hs
 have h2:=h.at_ k _ hk
 have hb:=hs.blk i hi
 have h3:=mE (P:=P) (t:=t) (w:=w) (ad:=⟨b,0,none⟩) (cs:=us.toList) ha (by intro w; rw[hz]; simp[hl]) (fun j u hj=>by
  have e1:(⟨b,0,none⟩:Addr).add j=⟨b,j,none⟩:=by unfold Addr.add; split <;> simp_all
  rw[e1,aR hb]
  simpa using hj)
 simp[resv,h2,asAddr,h3]
section
variable {f:Func} {R:Value→Res→List Res→Prop} {A':Res} {Ns:List Res} {r1 r2 r3 r4:ResultVar} {v1 v2 v3 v4:Value} {z:Exit}
theorem X.fin (hR:R v A' Ns) (is:List Nat) (hr:Sel Rs is (A'::Ns)) (hx:z= .ret∨z= .normal) (h: ∀ a w,Has n e a→St F0 w0 Rs w→(results f a.tmps).run P w= .ok v w):X n F0 w0 e Rs z (bodyPost P f (ng R F0 w0)):=by
 intro a w ha hs
 have h:bodyPost P f (ng R F0 w0) .ret a w:=⟨ha.df,v,h a w ha hs,v,A',Ns,rfl,hR,hs.sel is hr⟩
 rcases hx with rfl | rfl <;> exact h
theorem Aw (is:List Nat) (hf:f.results= #[r1]) (h1:RV P n F0 w0 e Rs r1 v1) (hR:R v1 A' Ns) (hr:Sel Rs is (A'::Ns)) (hx:z= .ret∨z= .normal):X n F0 w0 e Rs z (bodyPost P f (ng R F0 w0)) :=
 X.fin hR is hr hx (fun a w ha hs=>by rw[jR,hf]; simp[h1 a w ha hs])
theorem Ax (is:List Nat) (hf:f.results= #[r1,r2]) (h1:RV P n F0 w0 e Rs r1 v1) (h2:RV P n F0 w0 e Rs r2 v2) (hR:R (.tuple #[v1,v2]) A' Ns) (hr:Sel Rs is (A'::Ns)) (hx:z= .ret∨z= .normal):X n F0 w0 e Rs z (bodyPost P f (ng R F0 w0)) :=
 X.fin hR is hr hx (fun a w ha hs=>by rw[jR,hf]; simp[h1 a w ha hs,h2 a w ha hs])
theorem BN (is:List Nat) (hf:f.results= #[r1,r2,r3]) (h1:RV P n F0 w0 e Rs r1 v1) (h2:RV P n F0 w0 e Rs r2 v2) (h3:RV P n F0 w0 e Rs r3 v3) (hR:R (.tuple #[v1,v2,v3]) A' Ns) (hr:Sel Rs is (A'::Ns)) (hx:z= .ret∨z= .normal):X n F0 w0 e Rs z (bodyPost P f (ng R F0 w0)) :=
 X.fin hR is hr hx (fun a w ha hs=>by rw[jR,hf]; simp[h1 a w ha hs,h2 a w ha hs,h3 a w ha hs])
end
theorem BOK.mk {zv:Value} {fs:Array Field} {pl:List (Nat×Nat)} {zs:Array Value} (hz: ∀ w,(zeroValue t).run P w= .ok zv w) (hu: ∀ w,(underlying t).run P w= .ok (.struct fs) w) (hp: ∀ w,(fs.mapM (fun f=>do pure (f.offset,← sizeOf f.type)):Sem (Array (Nat×Nat))).run P w= .ok pl.toArray w) (hzs:zv.cells=zs:=by rfl):BOK P t zs pl:=by
 intro parts cells w h
 subst hzs
 simp only[Instr.build,Sem.run_bind,hz,Result.andThen_ok,hu,hp]
 have h2:(fun (i:Nat)=>(pl.toArray)[i]?)=(fun (i:Nat)=>pl[i]?):=by funext i; simp
 simp[h2,h]
theorem SOK.mk {T m z:Nat} {zv:Value} {zs:Array Value} (hu: ∀ w,(underlying t).run P w= .ok (.slice T) w) (hz: ∀ w,(sizeOf T).run P w= .ok z w) (hzv: ∀ w,(zeroValue T).run P w= .ok zv w) (hm:0<m*z∧m*z≤16777216) (hzs:(Array.range (m*z)).map (fun i=>zv.cells[i % zv.cells.size]!)=zs):SOK P t T m z zs:=by
 intro parts cells w h
 have h1: ¬ (m*z>2 ^ 24):=by omega
 have h2: ¬ (m*z=0):=by omega
 subst hzs
 simp only[Instr.buildSlice,Sem.run_bind,hu,hz,Result.andThen_ok,h1,if_false,h2,hzv,Sem.run_pure]
 simp[h,newRow]
end
section
variable {P:Program} {t:TypeId}
end
section
variable {P:Program} {n:Nat} {F0:Nat→Prop} {w0:World} {e:Env} {Rs Rf:List Res} {Q:Exit→Act→World→Prop} {ops:Array Oper} {d:Option Tmp} {i:Nat} {ty t t' el:TypeId} {pos:String} {af:Array Edge} {gd:Option (Nat×Bool)} {v v':Value} {x y:Operand} {l:List Nat} {lo:Sch} {c:Code} {S:World→Prop}
theorem Wd.gu {op:Op} {j k:Nat} {want:Bool} (hj:(ops[j]?).bind (·.dst)=some k) (hv:e.get k=some undef):Wd n ops e ⟨d,op,ty,pos,af,some (j,want)⟩ false:=by
 intro a h
 simp only[Region.wanted,yielded,hj,CM,h.at_ k _ hv]
 rfl
end
section
variable {P:Program} {n:Nat} {F0:Nat→Prop} {w0 w:World} {e:Env} {Rs Rf:List Res} {Q:Exit→Act→World→Prop} {ops:Array Oper} {d:Option Tmp} {i:Nat} {ty t t' el:TypeId} {pos:String} {af:Array Edge} {gd:Option (Nat×Bool)} {v v':Value} {y z:Operand} {l:List Nat} {lo:Sch} {c:Code} {S:World→Prop}
variable {α:Type} {E:Rd α} {B:Res} {A:Option Addr} {m cp size k:Nat} {xs:List α} {x:α}
end
def RX.blk (b:Nat) (T:TypeId) (cs:Array Value):RX:=⟨fun w S=>w.heap[b]? = some (.cells cs T (0,0))∧S b,fun h k=>⟨h.1,k _ h.2⟩,fun h k=>⟨(k _ h.2).trans h.1,h.2⟩⟩
theorem qG {b:Nat} {T:TypeId} {cs:Array Value}: ∀ w G,(ay b T cs).P w G→(RX.blk b T cs).P w G:=fun _ _ h=>⟨h.1,(h.2 _).2 rfl⟩
section
variable {P:Program} {n:Nat} {F0:Nat→Prop} {w0 w:World} {e:Env} {Rs Rf:List Res} {Q:Exit→Act→World→Prop} {ops:Array Oper} {d:Option Tmp} {i:Nat} {ty t t' el:TypeId} {pos:String} {af:Array Edge} {gd:Option (Nat×Bool)} {v v':Value} {x y z:Operand} {l:List Nat} {lo:Sch} {c:Code} {S:World→Prop}
theorem uZ {b:Nat} {T:TypeId} {cs:Array Value} (hX:(RX.blk b T cs).reads w0 F0) (h:St F0 w0 Rs w):w.heap[b]? = some (.cells cs T (0,0)):=by
 obtain⟨S,⟨h1,h2⟩,h3⟩:=hX
 exact (h.fr.block b (h3 b h2).2 (h3 b h2).1).trans h1
theorem Ex.xb1 {b o:Nat} {T:TypeId} {cs:Array Value} (hX:(RX.blk b T cs).reads w0 F0) (hx:e.ev x=some (.pointer (some ⟨b,o,none⟩))) (ha: ∀ w,(isAgg t).run P w= .ok false w) (hv:cs[o]? = some v):Ex P n e (St F0 w0 Rs) ⟨d,.load t x,ty,pos,af,gd⟩ v :=
 Ex.ld1 hx ha (fun w hw=>(aR (uZ hX hw) o).trans hv)
theorem Ex.xbS {b o z:Nat} {T:TypeId} {cs:Array Value} {us:List Value} (hX:(RX.blk b T cs).reads w0 F0) (hx:e.ev x=some (.pointer (some ⟨b,o,none⟩))) (ha: ∀ w,(isAgg t).run P w= .ok true w) (hz: ∀ w,(sizeOf t).run P w= .ok z w)
 (hv:(cs.toList.drop o).take z=us) (hl:Nat.beq us.length z=true):Ex P n e (St F0 w0 Rs) ⟨d,.load t x,ty,pos,af,gd⟩ (.agg us.toArray):=by
 refine Ex.ldS hx ha hz (Nat.eq_of_beq_eq_true hl) (fun w hw j u hj=> ?_)
 have h2:(⟨b,o,none⟩:Addr).add j=⟨b,o+j,none⟩:=by unfold Addr.add; split <;> simp_all
 rw[h2,aR (uZ hX hw)]
 subst hv
 rw[List.getElem?_take] at hj
 split at hj
 ·rw[List.getElem?_drop] at hj
  simpa using hj
 ·cases hj
theorem Ex.mkI {fs:Array Field} (hx:e.ev x=some v) (hu: ∀ w,(underlying t).run P w= .ok (.struct fs) w):Ex P n e S ⟨d,.makeInterface t x,ty,pos,af,gd⟩ (.iface t v):=by
 intro a w ha _
 simp[execOp,ha.ev hx,Instr.makeInterface,hu]
theorem oT {nm:String} {f:FuncId} {fs:Array Field} {k:Nat} (hn:P.types.size+Made.depth=k+1) (hm:((P.info? t).bind fun i=>i.methods.find? (·.name == nm)).map (fun m=>(m.path.isEmpty,m.func))=some (true,some (f,false))) (hu: ∀ w,(underlying t).run P w= .ok (.struct fs) w) (u:Value) (w:World) :
 (method (P.types.size+Made.depth) t u nm).run P w= .ok (f,u) w:=by
 obtain⟨m,h1,h2⟩:=Option.map_eq_some_iff.1 hm
 obtain⟨ti,h3,h4⟩:=CL h1
 simp only[Prod.mk.injEq] at h2
 obtain⟨h5,h6⟩:=h2
 have h7:m.path.toList = []:=by
  have:m.path= #[]:=by simpa using h5
  simp[this]
 rw[hn]
 simp only[method,Sem.run_bind,typeInfo]
 simp[h3,h4,h7,follow,h6,receiverAt,hu,Place.get]
end
def gH (xs:List Int):List UInt8:=xs.map fun n=>UInt8.ofNat n.toNat
theorem oU: ∀ (xs:List Int) (l:List UInt8),xs.foldl (fun r n=>r.push (UInt8.ofNat n.toNat)) (aC l)=aC (l++gH xs)
 | [],l=>by simp[gH]
 | x::xs,l=>by
  rw[List.foldl_cons]
  have e:(aC l).push (UInt8.ofNat x.toNat)=aC (l ++ [UInt8.ofNat x.toNat]):=by simp[aC,ByteArray.push]
  rw[e,oU xs]
  simp[gH]
section
variable {P:Program} {n:Nat} {F0:Nat→Prop} {w0 w:World} {e:Env} {Rs:List Res} {d:Option Tmp} {ty t t' el:TypeId} {pos:String} {af:Array Edge} {gd:Option (Nat×Bool)} {x y:Operand} {S:World→Prop}
theorem Ex.blkStr {b T m:Nat} {cs:Array Value} {xs:List Int} (i:Nat) (hi:Rs[i]? = some (ay b T cs)) (hc:cs=(xs.map (Value.int .u8)).toArray) (hm:xs.length=m) (hx:e.ev x=some (.slice (some ⟨b,0,none⟩) m m)) (hs: ∀ w,(underlying t).run P w= .ok (.slice el) w) (hd: ∀ w,(underlying t').run P w= .ok .string w) (hel: ∀ w,(underlying el).run P w= .ok (.int .u8) w) :
 Ex P n e (St F0 w0 Rs) ⟨d,.convert t t' x,ty,pos,af,gd⟩ (.string (aC (gH xs))):=by
 subst hm
 intro a w ha hw
 have hl:(loadCells ⟨b,0,none⟩ xs.length).run P w= .ok (xs.map (Value.int .u8)).toArray w:=by
  have:=run_loadCells_list (P:=P) (w:=w) ⟨b,0,none⟩ (xs.map (Value.int .u8)) (fun j v hj=> ?_)
  ·rwa [List.length_map] at this
  ·have h2:(⟨b,0,none⟩:Addr).add j=⟨b,j,none⟩:=by unfold Addr.add; split <;> simp_all
   rw[h2,aR (hw.blk i hi),hc,List.getElem?_toArray]
   exact hj
 have h4:=run_bytesToString w ⟨b,0,none⟩ xs.length xs.length xs hl
 have h5:=oU xs []
 rw[CW] at h5
 have h6:(Conv.bytesToString (.slice (some ⟨b,0,none⟩) xs.length xs.length)).run P w= .ok (.string (aC (gH xs))) w:=by
  rw[h4]
  exact congrArg (fun s=>Result.ok (Value.string s) w) h5
 simp[execOp,ha.ev hx,convert,hs,hd,hel,h6]
end
section
variable {P:Program} {n:Nat} {F0:Nat→Prop} {w0:World} {e e':Env} {Rs Rs':List Res} {Q:Exit→Act→World→Prop} {c:Code} {d:Nat} {v v':Value}
def JK (n:Nat) (F0:Nat→Prop) (w0:World) (R:Env→List Res→Prop) (a:Act) (w:World):Prop:= ∃ e Rs,R e Rs∧Has n e a∧St F0 w0 Rs w
theorem AK (R:Env→List Res→Prop) (h:T P n F0 w0 e Rs c (Exit.then (JK n F0 w0 R) Q)) (k: ∀ e' Rs',R e' Rs'→X n F0 w0 e' Rs' .normal Q):T P n F0 w0 e Rs c Q:=by
 intro a w ha hs
 refine wp_mono (h a w ha hs) ?_
 intro x a' w' hx
 cases x <;> first | exact hx | skip
 obtain⟨e',Rs',hR,ha',hs'⟩:=hx
 exact k e' Rs' hR a' w' ha' hs'
theorem X.jq {R:Env→List Res→Prop} (is:List Nat) (hR:R e' Rs') (he:Sub e' e) (hr:Sel Rs is Rs'):X n F0 w0 e Rs .normal (Exit.then (JK n F0 w0 R) Q):=fun a w ha hs=>⟨e',Rs',hR,ha.sub he.get,hs.sel is hr⟩
theorem AS {z:Exit} (hv:e.get d=some v) (h:v=v') (k:X n F0 w0 ((d,v')::e) Rs z Q):X n F0 w0 e Rs z Q:=fun a w ha hs=>k a w (ha.as hv h) hs
end
section
variable {P:Program} {n:Nat} {F0:Nat→Prop} {w0:World} {e:Env} {Rs:List Res} {S:World→Prop} {d:Option Tmp} {ty:TypeId} {pos:String} {af:Array Edge} {gd:Option (Nat×Bool)} {v:Value} {x y ix:Operand} {t t' el:TypeId}
theorem Ex.ixP {g o m z k:Nat} {i:Int} {q:IntKind} (hx:e.ev x=some (.pointer (some ⟨g,o,none⟩))) (hi:e.ev ix=some (.int q i)) (hik:i=(k:Int)) (hu: ∀ w,(underlying t).run P w= .ok (.array m el) w) (hz: ∀ w,(sizeOf el).run P w= .ok z w) (hk:k<m) :
 Ex P n e S ⟨d,.indexAddr t x ix,ty,pos,af,gd⟩ (.pointer (some ⟨g,o+k*z,none⟩)):=by
 intro a w ha _
 subst hik
 have h1:(0:Int)≤(k:Int)∧(k:Int)<(m:Int):=by omega
 have h2:(⟨g,o,none⟩:Addr).add (k*z)=⟨g,o+k*z,none⟩:=by unfold Addr.add; split <;> simp_all
 have h3:(Instr.indexAt t (.pointer (some ⟨g,o,none⟩)) (.int q (k:Int))).run P w= .ok (.pointer (some ⟨g,o+k*z,none⟩)) w:=by
  simp only[Instr.indexAt,asIntOf,Sem.run_bind,Sem.run_pure,Result.andThen_ok,hu,Instr.sureAddr]
  rw[if_pos h1]
  simp only[Sem.run_bind,hz,Result.andThen_ok,Dx,h2,Sem.run_pure]
 simp[execOp,ha.ev hx,ha.ev hi,h3]
theorem AQ {g o m c z k:Nat} {i:Int} {q:IntKind} (hx:e.ev x=some (.slice (some ⟨g,o,none⟩) m c)) (hi:e.ev ix=some (.int q i)) (hik:i=(k:Int)) (hu: ∀ w,(underlying t).run P w= .ok (.slice el) w) (hz: ∀ w,(sizeOf el).run P w= .ok z w) (hk:k<m) {r:Nat} (hr:o+k*z=r) :
 Ex P n e S ⟨d,.indexAddr t x ix,ty,pos,af,gd⟩ (.pointer (some ⟨g,r,none⟩)):=by
 subst hr
 exact AN hx hi hik hu hz hk
end
open Go.RowKit Go.Deep Go.ChangeShapes
section
variable {α:Type} {w0 w w1:World} {S G F:Nat→Prop} {E:Rd α} {cs:List Value} {x:α} {X Y:RX} {size:Nat}
end
section
variable {P:Program} {n:Nat} {F0:Nat→Prop} {w0 w:World} {S:Nat→Prop} {e:Env} {Rs Rs' Rf Bs:List Res} {B:Res} {Xr Y:RX}
variable {d:Option Tmp} {ty:TypeId} {pos:String} {af:Array Edge} {gd:Option (Nat×Bool)}
variable {Q:Exit→Act→World→Prop} {ops:Array Oper} {i dd:Nat} {cl:Call} {f:FuncId} {vs:List Value}
variable {α:Type} {E:Rd α} {size:Nat} {T:TypeId} {u:Value} {xs:List α}
end
section
variable {α:Type} {size:Nat} {E:Rd α} {w:World} {S:Nat→Prop}
end
section
variable {P:Program} {n:Nat} {F0:Nat→Prop} {w0:World} {e:Env} {Rs Rf:List Res} {Q:Exit→Act→World→Prop} {ops:Array Oper} {d:Option Tmp} {i:Nat} {ty t t' el:TypeId} {pos:String} {af:Array Edge} {gd:Option (Nat×Bool)} {v v':Value} {x y:Operand} {l:List Nat} {lo:Sch} {c:Code} {S:World→Prop}
section
variable {α:Type} {E:Rd α} {T m cp size g o k off q z:Nat} {xs:List α} {u u':α}
end
section
variable {α:Type} {E:Rd α} {T bytes k:Nat} {zv:Value} {u:α} {m:Int} {kl:IntKind} {d':Nat}
end
def bitOp:BinOp→Bool
 | .and | .or | .xor | .andNot=>true
 | _=>false
theorem Ex.bitw {bo:BinOp} {k:IntKind} {p q:Int} (hb:bitOp bo=true) (hx:e.ev x=some (.int k p)) (hy:e.ev y=some (.int k q)):Ex P n e S ⟨d,.binOp bo t x y t',ty,pos,af,gd⟩ (.int k (Go.bits bo k p q)):=by
 intro a w ha _
 have h1:Op.intBits bo k p q=pure (.int k (Go.bits bo k p q)):=by cases bo <;> first | rfl | exact absurd hb (by decide)
 have h2:(binOp bo t (.int k p) (.int k q)).run P w= .ok (.int k (Go.bits bo k p q)) w:=by
  cases bo <;> first | exact absurd hb (by decide) | simp only[binOp,h1,ne_eq,not_true,if_false,Sem.run_pure]
 have h3:eqGuard bo t x y (.int k p) (.int k q)=pure ():=by cases bo <;> first | exact absurd hb (by decide) | rfl
 simp only[execOp,ha.ev hx,ha.ev hy,h3,Sem.run_bind,Sem.run_pure,Result.andThen_ok,h2]
def qc (k:IntKind) (p q:Int):Int:=p.fdiv (2 ^ min q.toNat k.bits)
theorem Ex.shr {k k':IntKind} {p q:Int} (hx:e.ev x=some (.int k p)) (hy:e.ev y=some (.int k' q)) (hq:0≤q):Ex P n e S ⟨d,.binOp .shr t x y t',ty,pos,af,gd⟩ (.int k (qc k p q)):=by
 intro a w ha _
 have h0: ¬ q<0:=by omega
 simp[execOp,ha.ev hx,ha.ev hy,eqGuard,binOp,Op.shift,h0,qc]
theorem Ex.notK {k:IntKind} {p:Int} (hx:e.ev x=some (.int k p)):Ex P n e S ⟨d,.unOp .xor t x,ty,pos,af,gd⟩ (.int k (Go.bits .xor k (if k.signed then -1 else k.max) p)):=by
 intro a w ha _
 have h1:Op.intBits .xor k (if k.signed then -1 else k.max) p=pure (.int k (Go.bits .xor k (if k.signed then -1 else k.max) p)):=rfl
 simp[execOp,ha.ev hx,Op.unary,h1]
end
def mF (l:List Int):Array Value:=(l.map (Value.int .u32)).toArray
def iU (T g:Nat) (l:List Int):Res where
 P:=fun w G=>(ay g T (mF l)).P w G∧l.length=256
 lt:=fun h=>(ay g T (mF l)).lt h.1
 move:=fun h hm=>⟨(ay g T (mF l)).move h.1 hm,h.2⟩
theorem xe {l:List Int} {k:Nat} {u:Int} (h:l[k]? = some u):(mF l)[k]? = some (.int .u32 u):=by
 unfold mF
 simp[h]
section
variable {P:Program} {n:Nat} {F0:Nat→Prop} {w0 w:World} {e:Env} {Rs Rf:List Res} {Q:Exit→Act→World→Prop} {ops:Array Oper} {d:Option Tmp} {i:Nat} {ty t t' el:TypeId} {pos:String} {af:Array Edge} {gd:Option (Nat×Bool)} {v v':Value} {x y ix:Operand} {L:List Nat} {lo:Sch} {c:Code} {S:World→Prop}
variable {T g k:Nat} {l:List Int} {u u':Int}
theorem u0 (j:Nat) (h:St F0 w0 Rs w) (hj:Rs[j]? = some (iU T g l)):l.length=256:=by
 obtain⟨G,hG,_⟩:=h.get j hj
 exact hG.2
theorem u4 (j:Nat) (h:St F0 w0 Rs w) (hj:Rs[j]? = some (iU T g l)):w.heap[g]? = some (.cells (mF l) T (0,0)):=by
 obtain⟨G,hG,_⟩:=h.get j hj
 exact hG.1.1
theorem Ex.tIx (j:Nat) {a:Int} {q:IntKind} (hx:e.ev x=some (.pointer (some ⟨g,0,none⟩))) (hi:e.ev ix=some (.int q a)) (hik:a=(k:Int)) (hu: ∀ w,(underlying t).run P w= .ok (.array 256 el) w) (hz: ∀ w,(sizeOf el).run P w= .ok 1 w) (hj:Rs[j]? = some (iU T g l)) (hk:l[k]? = some u) :
 Ex P n e (St F0 w0 Rs) ⟨d,.indexAddr t x ix,ty,pos,af,gd⟩ (.pointer (some ⟨g,k,none⟩)):=by
 intro A w ha hs
 have h1:=u0 j hs hj
 have h2:k<256:=by rw[← h1]; exact (CZ hk).1
 have h3:=Ex.ixP (S:=fun _=>True) (d:=d) (ty:=ty) (pos:=pos) (af:=af) (gd:=gd) hx hi hik hu hz h2 A w ha trivial
 rwa [show 0+k*1=k by omega] at h3
theorem Ex.tLd (j:Nat) (hx:e.ev x=some (.pointer (some ⟨g,k,none⟩))) (ha: ∀ w,(isAgg t).run P w= .ok false w) (hj:Rs[j]? = some (iU T g l)) (hk:l[k]? = some u) :
 Ex P n e (St F0 w0 Rs) ⟨d,.load t x,ty,pos,af,gd⟩ (.int .u32 u) :=
 Ex.ld1 hx ha (fun w hw=>(aR (u4 j hw hj) k).trans (xe hk))
theorem Ef.tSt (j:Nat) (hx:e.ev x=some (.pointer (some ⟨g,k,none⟩))) (hy:e.ev y=some (.int .u32 u')) (hz: ∀ w,(sizeOf t).run P w= .ok 1 w) (hj:Rs[j]? = some (iU T g l)) (hk:l[k]? = some u) :
 Ef P n F0 w0 e Rs ⟨none,.store t x y,ty,pos,af,gd⟩ (fun e' Rs'=>e'=e∧Rs'=Rs.set j (iU T g (l.set k u'))):=by
 intro a w K Q ha hs hk'
 have hb:=u4 j hs hj
 have hl:=u0 j hs hj
 have hkl:k<l.length:=(CZ hk).1
 have hc:((mF l).toList.take k ++ [Value.int .u32 u']++(mF l).toList.drop (k+1)).toArray=mF (l.set k u'):=by
  unfold mF
  rw[List.map_set,List.set_eq_take_append_cons_drop,if_pos (by rw[List.length_map]; exact hkl)]
  simp
 have h2:=run_storeCells_at (P:=P) g k T [Value.int .u32 u'] 0 (mF l) w hb (by simp[mF]; omega) (by simp[Value.oneCell'])
 simp only[Nat.add_zero,Ek] at h2
 rw[hc] at h2
 have h1:(execOp a.eval ⟨none,.store t x y,ty,pos,af,gd⟩).run P w= .ok .skip (w.setRow g (mF (l.set k u'))):=by
  simp[execOp,ha.ev hx,ha.ev hy,Instr.storeAt,Instr.sureAddr,storeVar,hz,Value.cells,h2]
 unfold Oper.wp
 rw[h1]
 refine hk' _ _ ⟨rfl,rfl⟩ _ _ ha.put0 (hs.step j hj (Ns := []) (fun G hG=> ?_))
 exact⟨⟨rfl,rfl,rfl,by simp[World.setRow],fun k hk hn=>setRow_other w g k _ (fun e=>hn (e ▸ (hG.1.2 g).2 rfl))⟩,G,⟨⟨setRow_heap w g _ _ T (0,0) hG.1.1,hG.1.2⟩,by rw[List.length_set]; exact hG.2⟩,fun k hk=> .inl hk,trivial⟩
theorem TL.tSt (j:Nat) (ho:ops[i]? = some ⟨none,.store t x y,ty,pos,af,gd⟩) (hw:Wd n ops e ⟨none,.store t x y,ty,pos,af,gd⟩ true) (hx:e.ev x=some (.pointer (some ⟨g,k,none⟩))) (hy:e.ev y=some (.int .u32 u')) (hz: ∀ w,(sizeOf t).run P w= .ok 1 w) (hj:Rs[j]? = some (iU T g l)) (hk:l[k]? = some u)
 (h:TL P n F0 w0 ops L e (Rs.set j (iU T g (l.set k u'))) Q):TL P n F0 w0 ops (i::L) e Rs Q:=by
 refine AZ ho hw (Ef.tSt j hx hy hz hj hk) ?_
 rintro _ _ ⟨rfl,rfl⟩
 exact h
theorem Ex.bldZ {m:Nat} {zs:Array Value} (hz: ∀ w,(zeroValue t).run P w= .ok (.agg zs) w) (hu: ∀ w,(underlying t).run P w= .ok (.array m el) w) (hs: ∀ w,(sizeOf el).run P w= .ok 1 w):Ex P n e S ⟨d,.build t #[],ty,pos,af,gd⟩ (.agg zs):=by
 intro a w ha _
 have h1:(Instr.build t #[]).run P w= .ok (.agg zs) w:=by
  simp only[Instr.build,Sem.run_bind,hz,hu,hs,Result.andThen_ok]
  rfl
 simp only[execOp,Sem.run_bind]
 simp[h1]
theorem TL.tNew {zs:Array Value} {d:Nat} (ho:ops[i]? = some ⟨some d,.box t x,ty,pos,af,gd⟩) (hw:Wd n ops e ⟨some d,.box t x,ty,pos,af,gd⟩ true) (hx:e.ev x=some (.agg zs)) (hzs:zs=mF (List.replicate 256 0)) (hd:Nat.blt d n=true)
 (h: ∀ b,TL P n F0 w0 ops L ((d,.pointer (some ⟨b,0,none⟩))::e) (iU t b (List.replicate 256 0)::Rs) Q):TL P n F0 w0 ops (i::L) e Rs Q:=by
 refine TL.box ho hw hx hd (fun b=> ?_)
 intro a w ha hs
 subst hzs
 exact h b a w ha (hs.weaken 0 rfl (fun G hG=>⟨hG,List.length_replicate ..⟩))
end
def LW (P:Program) (c:Code) (Q:Exit→Act→World→Prop) (a:Act) (w:World):Prop:= ∀ b k cs,∃ x a' w',Q x a' w'∧Arrives P (lone (b.at a (.code c :: .inLoop c::k)) cs w) b k cs x a' w'
def TW (P:Program) (n:Nat) (F0:Nat→Prop) (w0:World) (e:Env) (Rs:List Res) (c:Code) (Q:Exit→Act→World→Prop):Prop:= ∀ a w,Has n e a→St F0 w0 Rs w→LW P c Q a w
section
variable {P:Program} {n:Nat} {F0:Nat→Prop} {w0:World} {e:Env} {Rs:List Res} {Q:Exit→Act→World→Prop} {c:Code}
theorem T.unroll0 (h:TW P n F0 w0 e Rs c Q):T P n F0 w0 e Rs (.loop c) Q:=by
 intro a w ha hs b k cs
 obtain⟨x,a',w',hq,harr⟩:=h a w ha hs b k cs
 exact⟨x,a',w',hq,.of_steps (.one step_loop) harr⟩
theorem TW.step (h:T P n F0 w0 e Rs c (Exit.then (LW P c Q) Q)):TW P n F0 w0 e Rs c Q:=by
 intro a w ha hs b k cs
 obtain⟨x,a₁,w₁,hq,harr⟩:=h a w ha hs b (.inLoop c::k) cs
 cases x with
 | normal =>
  obtain⟨x₂,a₂,w₂,hq₂,harr₂⟩:=hq b k cs
  exact⟨x₂,a₂,w₂,hq₂,.of_steps (Steps.trans harr (.one step_inLoop)) harr₂⟩
 | exit id=>exact⟨_,a₁,w₁,hq,.pass (x:= .inLoop c) rfl (fun _ _=> .inl (by simp)) harr⟩
 | goto l=>exact⟨_,a₁,w₁,hq,.pass (x:= .inLoop c) rfl (fun _ _=> .inl (by simp)) harr⟩
 | ret=>exact⟨_,a₁,w₁,hq,.pass (x:= .inLoop c) rfl (fun _ _=> .inl (by simp)) harr⟩
 | panic ch=>exact⟨_,a₁,w₁,hq,.pass (x:= .inLoop c) rfl (fun _ _=> .inl (by simp)) harr⟩
 | outgrown=>exact⟨_,a₁,w₁,hq,.pass (x:= .inLoop c) rfl (fun _ _=> .inl (by simp)) harr⟩
theorem Bi (h:TW P n F0 w0 e Rs c Q):X n F0 w0 e Rs .normal (Exit.then (LW P c Q) Q):=h
end
section
variable {P:Program} {n:Nat} {F0:Nat→Prop} {w0 w:World} {e:Env} {Rs Rf:List Res} {Q:Exit→Act→World→Prop} {ops:Array Oper} {d:Option Tmp} {i:Nat} {ty t t' el:TypeId} {pos:String} {af:Array Edge} {gd:Option (Nat×Bool)} {v v':Value} {x y ix:Operand} {L:List Nat} {lo:Sch} {S:World→Prop}
variable {T b c k m:Nat} {xs:List Int} {u u':Int}
end
section
variable {P:Program} {n:Nat} {F0:Nat→Prop} {w0:World} {e:Env} {Rs Rf:List Res} {Q:Exit→Act→World→Prop} {ops:Array Oper} {i:Nat} {ty t:TypeId} {pos:String} {af:Array Edge} {gd:Option (Nat×Bool)} {x y:Operand} {L:List Nat} {lo:Sch} {b:Nat} {s:List UInt8×Int}
theorem Ef.outZ (j:Nat) (hx:e.ev x=some (.pointer (some ⟨b,0,none⟩))) (hy:e.ev y=some (.agg #[.slice none 0 0,.int .i64 0])) (hz: ∀ w,(sizeOf t).run P w= .ok 2 w) (hj:Rs[j]? = some (aP b s)) :
 Ef P n F0 w0 e Rs ⟨none,.store t x y,ty,pos,af,gd⟩ (fun e' Rs'=>e'=e∧Rs'=Rs.set j (aP b ([],0))):=by
 intro a w K Q ha hs hk
 obtain⟨G,⟨v,h1,_,_⟩,_⟩:=hs.get j hj
 have h2:=run_storeCells_at (P:=P) b 0 112 [Value.slice none 0 0,.int .i64 0] 0 _ w h1 (by simp) (by intro v hv; simp at hv; rcases hv with rfl | rfl <;> rfl)
 have h3:(execOp a.eval ⟨none,.store t x y,ty,pos,af,gd⟩).run P w= .ok .skip (w.setRow b #[.slice none 0 0,.int .i64 0]):=by
  simp at h2
  simp[execOp,ha.ev hx,ha.ev hy,Instr.storeAt,Instr.sureAddr,storeVar,hz,Value.cells,h2]
 unfold Oper.wp
 rw[h3]
 refine hk _ _ ⟨rfl,rfl⟩ _ _ ha.put0 (hs.step j hj (Ns := []) (fun G hG=> ?_))
 obtain⟨v',k1,k2,k3⟩:=hG
 refine⟨⟨rfl,rfl,rfl,by simp[World.setRow],fun q hq hn=>setRow_other w b q _ (fun e=>hn (e ▸ (k3 b).2 (.inl rfl)))⟩,fun q=>q=b,⟨_,setRow_heap w b _ _ _ (0,0) k1,World.ownsRow_nil _ _ _ _,fun q=>by simp[Value.ownBlock]⟩,fun q hq=> .inl ((k3 q).2 (.inl hq)),trivial⟩
theorem TL.outZ (j:Nat) (ho:ops[i]? = some ⟨none,.store t x y,ty,pos,af,gd⟩) (hw:Wd n ops e ⟨none,.store t x y,ty,pos,af,gd⟩ true) (hx:e.ev x=some (.pointer (some ⟨b,0,none⟩))) (hy:e.ev y=some (.agg #[.slice none 0 0,.int .i64 0])) (hz: ∀ w,(sizeOf t).run P w= .ok 2 w) (hj:Rs[j]? = some (aP b s))
 (h:TL P n F0 w0 ops L e (Rs.set j (aP b ([],0))) Q):TL P n F0 w0 ops (i::L) e Rs Q:=by
 refine AZ ho hw (Ef.outZ j hx hy hz hj) ?_
 rintro _ _ ⟨rfl,rfl⟩
 exact h
end
def mG (b:Nat) (l:List UInt8):Res where
 P:=fun w G=> ∃ p v,(p= .pointer none∨p= .pointer (some ⟨b,0,none⟩))∧w.heap[b]? = some (.cells #[p,v] 292 (0,0))∧w.ownsRow 0 5 1 v l.length (bN l)∧ ∀ k,G k↔k=b∨v.ownBlock=some k
 lt:=by
  rintro w G ⟨p,v,_,h1,h2,h3⟩ k hk
  rcases (h3 k).1 hk with rfl | h
  ·exact gR h1
  ·exact rp h2 k h
 move:=by
  rintro w w' G ⟨p,v,hp,h1,h2,h3⟩ hm
  exact⟨p,v,hp,(hm _ ((h3 _).2 (.inl rfl))).trans h1,mo h2 (fun k hk=>hm k ((h3 k).2 (.inr hk))),h3⟩
theorem vU {F:Nat→Prop} {w w':World} (h:Fr F w w') {p:Addr} (hp:F p.block) (n:Nat):Fr F w (w'.freeze p n):=by
 refine h.trans (G:=F) ?_ (fun _ h=> .inl h)
 unfold World.freeze
 split
 ·exact Fr.refl _ _
 ·exact⟨rfl,rfl,rfl,by simp,fun k hk hn=>by
   simp only[Array.getElem?_modify]
   rw[if_neg (fun h:p.block=k=>hn (by rw[← h]; exact hp))]⟩
theorem xf:(Tryz.prog.info? 292).map (·.size)=some 2:=by kernel_rfl
theorem xg:liesAt Tryz.prog Tryz.prog.depth 292 (2 / Tryz.prog.cellsOf 292) 0 292 1=true:=by kernel_rfl
theorem vV {w:World} {b:Nat} {p v:Value} (hb:w.heap[b]? = some (.cells #[p,v] 292 (0,0))):w.shape? b=some (292,2):=by simp[World.shape?,hb]
theorem vW (b:Nat) (w:World) (p v:Value) (hp:p= .pointer none∨p= .pointer (some ⟨b,0,none⟩)) (hb:w.heap[b]? = some (.cells #[p,v] 292 (0,0))) :
 Calls Tryz.prog 220 #[.pointer (some ⟨b,0,none⟩)] w fun e w'=>e= .returned (.tuple #[])∧w'.heap[b]? = some (.cells #[.pointer (some ⟨b,0,none⟩),v] 292 (0,0))∧Fr (fun k=>k=b) w w':=by
 obtain⟨j,hj,hjs⟩:=Option.map_eq_some_iff.1 xf
 have h0:w.cell? ⟨b,0,none⟩=some p:=(aR hb 0).trans rfl
 have f0:w.frozen? ⟨b,0,none⟩=false:=cF hb 0
 have hsh:=vV hb
 have HB:=Lib.hid hb
 clear hb
 rcases hp with rfl | rfl
 ·go_enter Tryz.func220,Tryz.ntmps220
  go_wp2
  rw[Lib.run_to_unsafe w ⟨b,0,none⟩ Tryz.underlying290 Tryz.underlying327 hj (by rw[hjs]; decide) hsh (Nat.zero_lt_succ 1)]
  simp only[Result.andThen]
  rw[Oper.upon_value]
  go_wp2
  rw[run_callFunc_extern Tryz.func233 (by kernel_rfl) (by kernel_rfl) (by kernel_rfl) (e:=Extern.AbiNoEscape.same) (by kernel_rfl)]
  rw[Lib.run_noEscape]
  simp only[Result.andThen]
  rw[Oper.upon_value]
  go_wp2
  rw[Lib.run_from_unsafe w ⟨b,0,none⟩ Tryz.underlying327 Tryz.underlying290 hj hsh xg]
  simp only[Result.andThen]
  rw[Oper.upon_value]
  go_wp2
  go_end0
  exact⟨rfl,by simpa using jr HB.out 0 (.pointer (some ⟨b,0,none⟩)),(Fr.refl (fun k=>k=b) w).set (p:=⟨b,0,none⟩) (.inl rfl) _⟩
 ·go_enter Tryz.func220,Tryz.ntmps220
  go_wp2
  rw[Lib.run_neq_ptr_same w _ Tryz.underlying290 hj]
  go_wp2
  go_end0
  exact⟨rfl,HB.out,Fr.refl _ _⟩
theorem mG.stored {b:Nat} {l m:List UInt8} {w w1 w2:World} {v v1:Value} {F:Nat→Prop} (hw:Fr (fun k=>k=b) w w1) (hF: ∀ k,F k↔k=b∨v.ownBlock=some k) (hb:w1.heap[b]? = some (.cells #[.pointer (some ⟨b,0,none⟩),v] 292 (0,0))) (ho:w1.ownsRow 0 5 1 v l.length (bN l))
 {n:Nat} (ho1:w2.ownsRow 0 5 1 v1 n (bN m)) (hg:w1.grownBy w2 v.ownBlock) (hat:v1.ownBlock=v.ownBlock∨ ∃ k,v1.ownBlock=some k∧w1.heap.size≤k) (hlt:b<w.heap.size) :
 St F w [mG b m] (w2.setCell ⟨b,1,none⟩ v1):=by
 have hn:n=m.length:=by have:=ho1.1; simpa [bN] using this.symm
 subst hn
 have hne:=jQ ho hb (by decide)
 have hb1:w2.heap[b]? = some (.cells #[.pointer (some ⟨b,0,none⟩),v] 292 (0,0)):=(hg.block b (gR hb) hne).trans hb
 have hne1:=jQ ho1 hb1 (by decide)
 have f1:Fr F w w1:=hw.mono (fun k hk=>(hF k).2 (.inl hk))
 have f2:Fr F w w2:=f1.trans (BP (F:=F) hg (fun k hk=>(hF k).2 (.inr hk))) (fun k hk=> .inl hk)
 refine⟨f2.set (p:=⟨b,1,none⟩) (.inl ((hF b).2 (.inl rfl))) v1,?_⟩
 refine⟨fun k=>k=b∨v1.ownBlock=some k,⟨_,v1,.inr rfl,by simpa using jr hb1 1 v1,ro ho1 hne1 v1,fun _=>Iff.rfl⟩,?_,trivial⟩
 rintro k (rfl | hk)
 ·exact .inl ((hF k).2 (.inl rfl))
 ·rcases hat with h | ⟨k',h,h'⟩
  ·rw[h] at hk
   exact .inl ((hF k).2 (.inr hk))
  ·rw[h] at hk
   injection hk with hk
   subst hk
   exact .inr (Nat.le_trans hw.size h')
theorem tZ (b:Nat) (l:List UInt8) (s:ByteArray) (hl:l.length+s.size≤140737488355328) :
 eF Tryz.prog 196 #[.pointer (some ⟨b,0,none⟩),.string s] (mG b l) (fun v A' N=>v= .tuple #[.int .i64 s.size,.nilIface]∧A'=mG b (l++s.data.toList)∧N = []):=by
 rintro F w ⟨p,v,hp,hb,ho,hF⟩
 have hne:=jQ ho hb (by decide)
 have HB:=Lib.hid hb
 have HO:=Lib.hid ho
 have HP:=Lib.hid hp
 clear hb ho hp
 go_enter Tryz.func196,Tryz.ntmps196
 go_wp2_with (go_at_call 220; refine (vW b _ p v HP.out HB.out).mono ?_)
 rintro e w1 ⟨rfl,hb1,hfr⟩
 have ho1:w1.ownsRow 0 5 1 v l.length (bN l):=mo HO.out (fun k hk=>hfr.block k (rp HO.out k hk) (fun h=>hne (h ▸ hk.symm)))
 have c0:w1.cell? ⟨b,0,none⟩=some (.pointer (some ⟨b,0,none⟩)):=(aR hb1 0).trans rfl
 have c1:w1.cell? ⟨b,1,none⟩=some v:=(aR hb1 1).trans rfl
 have HB1:=Lib.hid hb1
 have HO1:=Lib.hid ho1
 have HF:=Lib.hid hfr
 clear hb1 ho1 hfr
 go_wp2_with (at_builtin; refine jt w1 rfl _ _ _ _ rfl 5 Tryz.underlying72 Tryz.underlying9 oz v l.length (bN l) rfl HO1.out s rfl hl ?_; intro v1 w2 ho2 hg hat; obtain⟨a1,k1,rfl⟩:=ju ho2; have HO2:=Lib.hid ho2; clear ho2; have HN:=Lib.hid (jQ HO1.out HB1.out (by decide)); have HB2:=Lib.hid (show w2.heap[b]? = _ from (hg.block b (gR HB1.out) HN.out).trans HB1.out); have d0:w2.cell? ⟨b,0,none⟩=some (.pointer (some ⟨b,0,none⟩)):=(aR HB2.out 0).trans rfl; have d1:w2.cell? ⟨b,1,none⟩=some v:=(aR HB2.out 1).trans rfl; have e1:w2.frozen? ⟨b,1,none⟩=false:=cF HB2.out 1; have HG:=Lib.hid hg; have HAT:=Lib.hid hat; clear hg hat)
 go_ret2
 have ho2:=HO2.out
 rw[lG,← gD] at ho2
 refine⟨_,_,_,rfl,⟨rfl,rfl,rfl⟩,?_⟩
 exact mG.stored HF.out hF HB1.out HO1.out ho2 HG.out (by rcases HAT.out with h | h; exact .inl h; exact .inr ⟨_,h,Dc _⟩) (gR HB.out)
theorem sO (b:Nat) (l:List UInt8):eF Tryz.prog 197 #[.pointer (some ⟨b,0,none⟩)] (mG b l) (fun v A' N=>v= .string (aC l)∧A'=aI∧N = []):=by
 rintro F w ⟨p,v,hp,hb,ho,hF⟩
 have done: ∀ w',Fr F w w'→St F w [aI] w':=fun w' h=>⟨h,fun _=>False,fun _ h=>h,fun _ h=>h.elim,trivial⟩
 have DONE:=Lib.hid done
 clear done
 have hUS0: ∀ (W:World) (q:Option Addr),(Builtin.unsafeString_ #[319,3] 9 #[.pointer q,.int .i64 0]).run Tryz.prog W= .ok (.string .empty) W:=fun W q=>Lib.run_unsafeString_none W _ _ _ q
 have hl0:l = []∨l ≠ []:=by cases l; exact .inl rfl; exact .inr (by simp)
 rcases ho.2 with⟨rfl,hz⟩ | ⟨g,cap,cur,rfl,_,hg,hnc,hcm,hcs,htake⟩
 ·obtain rfl:l = []:=List.length_eq_zero_iff.1 hz
  have c1:w.drew.cell? ⟨b,1,none⟩=some (.slice none 0 0):=(aR (w:=w.drew) hb 1).trans rfl
  have hSD:(Builtin.unsafeSliceData_ #[72] 319 #[.slice none 0 0]).run Tryz.prog w.drew= .ok (.pointer none) w.drew:=rfl
  clear hb ho hp
  go_enter Tryz.func197,Tryz.ntmps197
  go_wp2
  go_region
  all_goals (go_wp2; go_ret; exact⟨_,_,_,rfl,⟨rfl,rfl,rfl⟩,DONE.out _ (Fr.refl F w).drew⟩)
 ·have hgF:F g:=(hF g).2 (.inr rfl)
  have HGF:=Lib.hid hgF
  clear hgF
  rcases hl0 with rfl | hl1
  ·by_cases hc0:cap=0
   ·subst hc0
    have hb':w.drew.heap[b]? = some (.cells #[p,.slice (some ⟨g,0,none⟩) 0 0] 292 (0,0)):=hb
    have c1:w.drew.cell? ⟨b,1,none⟩=some (.slice (some ⟨g,0,none⟩) 0 0):=(aR hb' 1).trans rfl
    have hSD:(Builtin.unsafeSliceData_ #[72] 319 #[.slice (some ⟨g,0,none⟩) 0 0]).run Tryz.prog w.drew= .ok (.pointer (some ⟨w.drew.heap.size,0,none⟩)) (w.drew.alloc (.view ⟨g,0,none⟩ 5)) :=
     Lib.run_unsafeSliceData_zero w.drew _ _ 5 Tryz.underlying319 ⟨g,0,none⟩ 0 (5,cur.size) (by have hg':w.drew.heap[g]? = some (.cells cur 5 (0,0)):=hg; simp[World.shape?,hg'])
    have c2:(w.drew.alloc (.view ⟨g,0,none⟩ 5)).cell? ⟨b,1,none⟩=some (.slice (some ⟨g,0,none⟩) 0 0):=by
     have h:=(Lib.alloc_old w.drew (.view ⟨g,0,none⟩ 5) b (gR hb')).trans hb'
     exact (aR h 1).trans rfl
    have c3:(w.alloc (.view ⟨g,0,none⟩ 5)).drew.cell? ⟨b,1,none⟩=some (.slice (some ⟨g,0,none⟩) 0 0):=c2
    have c0:w.cell? ⟨b,1,none⟩=some (.slice (some ⟨g,0,none⟩) 0 0):=c1
    clear hb hb' ho hp hg htake hcs
    go_enter Tryz.func197,Tryz.ntmps197
    go_wp2
    go_region
    all_goals (go_wp2; go_ret; exact⟨_,_,_,rfl,⟨rfl,rfl,rfl⟩,DONE.out _ ((Fr.refl F w).drew.alloc _)⟩)
   ·have c1:w.drew.cell? ⟨b,1,none⟩=some (.slice (some ⟨g,0,none⟩) 0 cap):=(aR (w:=w.drew) hb 1).trans rfl
    have hSD:(Builtin.unsafeSliceData_ #[72] 319 #[.slice (some ⟨g,0,none⟩) 0 cap]).run Tryz.prog w.drew= .ok (.pointer (some ⟨g,0,none⟩)) w.drew:=Lib.run_unsafeSliceData_row _ _ _ _ _ _ hc0
    clear hb ho hp hg htake hcs hc0
    go_enter Tryz.func197,Tryz.ntmps197
    go_wp2
    go_region
    all_goals (go_wp2; go_ret; exact⟨_,_,_,rfl,⟨rfl,rfl,rfl⟩,DONE.out _ (Fr.refl F w).drew⟩)
  ·have hlen:l.length≠0:=by simpa using hl1
   have c1:w.drew.cell? ⟨b,1,none⟩=some (.slice (some ⟨g,0,none⟩) l.length cap):=(aR (w:=w.drew) hb 1).trans rfl
   have hSD:(Builtin.unsafeSliceData_ #[72] 319 #[.slice (some ⟨g,0,none⟩) l.length cap]).run Tryz.prog w.drew= .ok (.pointer (some ⟨g,0,none⟩)) w.drew:=Lib.run_unsafeSliceData_row _ _ _ _ _ _ (by omega)
   have hUS:(Builtin.unsafeString_ #[319,3] 9 #[.pointer (some ⟨g,0,none⟩),.int .i64 l.length]).run Tryz.prog w.drew= .ok (.string ⟨l.toArray⟩) (w.drew.freeze ⟨g,0,none⟩ l.length):=by
    refine Lib.run_unsafeString_row w.drew 319 3 9 5 Tryz.underlying319 (by kernel_rfl) g cur.size (by have hg':w.drew.heap[g]? = some (.cells cur 5 (0,0)):=hg; simp[World.shape?,hg']) l hl1 (by omega) (by unfold maxLen at hcm; omega) ?_
    intro j x hx
    have:=ho.cells (g:=g) rfl j (.int .u8 x.toNat) (by simp[bN,hx])
    exact this
   clear hb ho hp hg htake hcs hl1 hlen hUS0
   go_enter Tryz.func197,Tryz.ntmps197
   go_wp2
   go_region
   all_goals (go_wp2; go_ret; exact⟨_,_,_,rfl,⟨rfl,rfl,rfl⟩,DONE.out _ (vU (Fr.refl F w).drew (p:=⟨g,0,none⟩) HGF.out _)⟩)
def oq (st:List UInt8) (s:List UInt8):Option (List UInt8):=if st.length+s.length≤140737488355328 then some (st++s) else none
theorem t6 (st:List UInt8) (s:List UInt8) (h:st.length+s.length≤140737488355328):oq st s=some (st++s):=if_pos h
theorem rB (g:Nat) (st:List UInt8) (s:List UInt8) (r:List UInt8) (h:oq st s=some r):au Tryz.prog 196 #[.pointer (some ⟨g,0,none⟩),.string (aC s)] .triv (mG g st) (fun v A' N=>v= .tuple #[.int .i64 (aC s).size,.nilIface]∧A'=mG g r∧N = []):=by
 unfold oq at h
 split at h
 ·rename_i h1
  obtain rfl:=CN h
  have k:=tZ g st (aC s) (by rw[bsOf_size]; exact h1)
  rw[az] at k
  exact Av k
 ·simp at h
def va (st:List UInt8):Option (List UInt8):=some st
theorem xh (st:List UInt8):va st=some st:=rfl
theorem t7 (g:Nat) (st:List UInt8) (r:List UInt8) (h:va st=some r):au Tryz.prog 197 #[.pointer (some ⟨g,0,none⟩)] .triv (mG g st) (fun v A' N=>v= .string (aC r)∧A'=aI∧N = []):=by
 unfold va at h
 obtain rfl:=CN h
 exact Av (sO g _)
section
variable {P:Program} {n:Nat} {F0:Nat→Prop} {w0:World} {e:Env} {Rs Rf:List Res} {Q:Exit→Act→World→Prop} {ops:Array Oper} {i d:Nat} {ty t:TypeId} {pos:String} {af:Array Edge} {gd:Option (Nat×Bool)} {l:List Nat} {lo:Sch}
theorem mG.of_blk {b:Nat} {w:World} {G:Nat→Prop} (h:(ay b 292 #[.pointer none,.slice none 0 0]).P w G):(mG b []).P w G:=by
 obtain⟨h1,h2⟩:=h
 exact⟨_,_,.inl rfl,h1,World.ownsRow_nil _ _ _ _,fun k=>by simp[h2 k,Value.ownBlock]⟩
theorem TL.newbld {zv:Value} (ho:ops[i]? = some ⟨some d,.alloc t,ty,pos,af,gd⟩) (hw:Wd n ops e ⟨some d,.alloc t,ty,pos,af,gd⟩ true) (hz: ∀ w,(zeroValue t).run P w= .ok zv w) (hd:Nat.blt d n=true)
 (h: ∀ b,TL P n F0 w0 ops l ((d,.pointer (some ⟨b,0,none⟩))::e) (mG b []::Rs) Q) (ht:t=292:=by rfl) (hzv:zv= .agg #[.pointer none,.slice none 0 0]:=by rfl):TL P n F0 w0 ops (i::l) e Rs Q:=by
 refine TL.alloc ho hw hz hd (fun b=> ?_)
 intro a w ha hs
 subst ht hzv
 exact h b a w ha (hs.weaken 0 rfl (fun G hG=>mG.of_blk hG))
end
section
variable {α:Type} {P:Program} {n:Nat} {F0:Nat→Prop} {w0:World} {e:Env} {Rs:List Res} {Q:Exit→Act→World→Prop} {ops:Array Oper} {l:List Nat} {c:Code} {S:Nat→Prop} {E:Rd α} {size m cp k:Nat} {A:Option Addr} {xs:List α} {x:α} {B:Res}
end
section
variable {P:Program} {n:Nat} {F0:Nat→Prop} {w0 w:World} {e:Env} {Rs Rs' Rf:List Res} {Q:Exit→Act→World→Prop} {ops:Array Oper} {l:List Nat} {c:Code} {x:Exit} {ι:Type} {f:ι→List Res}
end
section
variable {P:Program} {n:Nat} {F0:Nat→Prop} {w0 w:World} {e:Env} {Rs Rf:List Res} {Q:Exit→Act→World→Prop} {ops:Array Oper} {d:Option Tmp} {i:Nat} {ty t t' el:TypeId} {pos:String} {af:Array Edge} {gd:Option (Nat×Bool)} {v:Value} {x y:Operand} {L:List Nat} {lo:Sch} {cd:Code}
variable {U c m k:Nat} {A:Option Addr}
variable {α:Type} {E:Rd α} {z:Nat} {xs ys:List α}
end
section
variable {P:Program} {n:Nat} {F0:Nat→Prop} {w0:World} {e:Env} {Rs:List Res} {Q:Exit→Act→World→Prop}
end
section
variable {P:Program} {n:Nat} {F0:Nat→Prop} {w0 w:World} {e e':Env} {Rs Rs' Rf:List Res} {Q:Exit→Act→World→Prop} {ops:Array Oper} {L:List Nat} {lo:Sch} {cd:Code} {K:Act→World→Prop} {l id:Nat} {J:Nat→Nat→Env→List Res→Prop} {J':Nat→Act→World→Prop}
variable {d:Option Tmp} {i:Nat} {ty t t' el:TypeId} {pos:String} {af:Array Edge} {gd:Option (Nat×Bool)} {v:Value} {x y:Operand}
variable {α:Type} {E:Rd α} {z:Nat} {xs ys:List α} {A A2:Option Addr} {m c c2 k:Nat} {U bytes:Nat} {zv:Value}
end
section
variable {P:Program} {t el:TypeId}
end
def xi (ops:Array Oper) (e:Env):Option (Nat×Bool)→Option Bool
 | none=>some true
 | some (j,want)=>match (ops[j]?).bind (·.dst) with
  | some t=>match e.get t with
   | some (.bool b)=>some (match b with | true=>want | false=> !want)
   | some _=>some false
   | none=>none
  | none=>none
theorem jE {n:Nat} {ops:Array Oper} {e:Env} {d:Option Tmp} {op:Op} {ty:TypeId} {pos:String} {af:Array Edge} {g:Option (Nat×Bool)} {b:Bool} (h:xi ops e g=some b):Wd n ops e ⟨d,op,ty,pos,af,g⟩ b:=by
 intro a ha
 cases g with
 | none =>
  cases h
  rfl
 | some g =>
  obtain⟨j,want⟩:=g
  simp only[xi] at h
  split at h
  ·rename_i t hj
   split at h
   ·rename_i b' hv
    injection h with h
    subst h
    simp only[Region.wanted,yielded,hj,CM,ha.at_ t _ hv]
    cases b' <;> cases want <;> rfl
   ·rename_i v hne hv
    injection h with h
    subst h
    simp only[Region.wanted,yielded,hj,CM,ha.at_ t _ hv]
    cases v <;> first | rfl | exact absurd rfl (hne _)
   ·cases h
  ·cases h
def vX:List Nat→Nat→Bool
 | [],_=>false
 | a::r,t=>match Nat.beq a t with
  | true=>true
  | false=>vX r t
def NOK (P:Program):List Nat→Prop
 | []=>True
 | a::r=>(∀ w,(isAgg a).run P w= .ok false w)∧NOK P r
theorem NOK.get {P:Program}: ∀ {l:List Nat},NOK P l→ ∀ {t:Nat},vX l t=true→ ∀ w,(isAgg t).run P w= .ok false w
 | [],_,t,h=>by simp[vX] at h
 | a::r,⟨h1,h2⟩,t,h=>by
  simp only[vX] at h
  cases hb:Nat.beq a t with
  | true =>
   obtain rfl:=Nat.eq_of_beq_eq_true hb
   exact h1
  | false=>rw[hb] at h; exact NOK.get h2 h
def qH (ft:fj) (nt:List Nat) (cs:Array Value) (e:Env) (L:List Nat):Op→Option (Value×List Nat)
 | .pick c x y=>match e.ev c with
  | some (.bool b)=>match b with
   | true=>match e.ev x with
    | some v=>some (v,L)
    | none=>none
   | false=>match e.ev y with
    | some v=>some (v,L)
    | none=>none
  | _=>none
 | .load t x=>match vX nt t with
  | true=>match e.ev x with
   | some (.pointer (some ⟨b,o,none⟩))=>match cs[o]? with
    | some v=>some (v,b::L)
    | none=>none
   | _=>none
  | false=>none
 | op=>match sM ft e op with
  | some v=>some (v,L)
  | none=>none
def nw (ft:fj) (nt:List Nat) (cs:Array Value) (n:Nat) (ops:Array Oper):Env→List Nat→List Nat→Option (Env×List Nat)
 | e,L,[]=>some (e,L)
 | e,L,i::is=>match ops[i]? with
  | some ⟨d,op,_,_,_,g⟩=>match xi ops e g with
   | some true=>match d with
    | some d=>match Nat.blt d n with
     | true=>match qH ft nt cs e L op with
      | some (v,L')=>nw ft nt cs n ops ((d,v)::e) L' is
      | none=>none
     | false=>none
    | none=>none
   | some false=>match d with
    | some d=>match Nat.blt d n with
     | true=>nw ft nt cs n ops ((d,undef)::e) L is
     | false=>none
    | none=>nw ft nt cs n ops e L is
   | none=>none
  | none=>none
section
variable {P:Program} {n:Nat} {F0:Nat→Prop} {w0:World} {e e':Env} {Rs:List Res} {Q:Exit→Act→World→Prop} {ops:Array Oper} {ft:fj} {nt:List Nat} {cs:Array Value} {b T j:Nat} {L L' l:List Nat}
theorem vY {op:Op} {v:Value} (h:qH ft nt cs e L op=some (v,L')): ∀ x∈L,x∈L':=by
 unfold qH at h
 repeat' split at h
 all_goals first | cases h | skip
 all_goals first | exact fun x hx=>hx | exact fun x hx=>List.mem_cons_of_mem _ hx
theorem mH: ∀ (is:List Nat) {e e':Env} {L L':List Nat},nw ft nt cs n ops e L is=some (e',L')→ ∀ x∈L,x∈L'
 | [],e,e',L,L',h=>by
  cases h
  exact fun x hx=>hx
 | i::is,e,e',L,L',h=>by
  simp only[nw] at h
  repeat' split at h
  all_goals first | cases h | skip
  all_goals first | exact mH is h | (rename_i hp; exact fun x hx=>mH is h x (vY hp x hx))
theorem vZ {d:Option Tmp} {op:Op} {ty:TypeId} {pos:String} {af:Array Edge} {g:Option (Nat×Bool)} {v:Value} (hft:ft.OK P) (hnt:NOK P nt) (hi:Rs[j]? = some (ay b T cs)) (h:qH ft nt cs e L op=some (v,L')) (hL: ∀ x∈L',x=b) :
 Ex P n e (St F0 w0 Rs) ⟨d,op,ty,pos,af,g⟩ v:=by
 unfold qH at h
 split at h
 ·split at h
  ·rename_i hc
   split at h
   ·split at h
    ·rename_i hx
     cases h
     exact BD hc rfl hx
    ·cases h
   ·split at h
    ·rename_i hx
     cases h
     exact Bm hc rfl hx
    ·cases h
  ·cases h
 ·split at h
  ·rename_i ht
   split at h
   ·rename_i b' o hx
    split at h
    ·rename_i hv
     cases h
     obtain rfl:=hL b' (List.mem_cons_self ..)
     exact Aj j hx (hnt.get ht) hi hv
    ·cases h
   ·cases h
  ·cases h
 ·split at h
  ·rename_i hv
   cases h
   exact jD hft hv
  ·cases h
theorem TL.runB_ (hft:ft.OK P) (hnt:NOK P nt) (hi:Rs[j]? = some (ay b T cs)): ∀ (is:List Nat) {e e':Env} {L L' l:List Nat},nw ft nt cs n ops e L is=some (e',L')→(∀ x∈L',x=b)→TL P n F0 w0 ops l e' Rs Q→TL P n F0 w0 ops (is++l) e Rs Q
 | [],e,e',L,L',l,h,_,k=>by
  cases h
  exact k
 | i::is,e,e',L,L',l,h,hL,k=>by
  simp only[nw] at h
  split at h
  ·rename_i d op ty pos af g ho
   split at h
   ·rename_i hw
    split at h
    ·rename_i d
     split at h
     ·rename_i hd
      split at h
      ·rename_i v L1 hv
       exact TL.q ho (jE hw) (vZ hft hnt hi hv (fun x hx=>hL x (mH is h x hx))) hd (TL.runB_ hft hnt hi is h hL k)
      ·cases h
     ·cases h
    ·cases h
   ·rename_i hw
    split at h
    ·rename_i d
     split at h
     ·rename_i hd
      exact TL.no ho (jE hw) hd (TL.runB_ hft hnt hi is h hL k)
     ·cases h
    ·exact TL.no0 ho (jE hw) (TL.runB_ hft hnt hi is h hL k)
   ·cases h
  ·cases h
theorem z6 (hft:ft.OK P) (hnt:NOK P nt) (j:Nat) (hi:Rs[j]? = some (ay b T cs)) (k:Nat) (h:nw ft nt cs n ops e [] (l.take k)=some (e',L)) (hL:L=L.map fun _=>b) (K:TL P n F0 w0 ops (l.drop k) e' Rs Q):TL P n F0 w0 ops l e Rs Q:=by
 have h2: ∀ x∈L,x=b:=fun x hx=>by
  rw[hL] at hx
  obtain⟨_,_,rfl⟩:=List.mem_map.1 hx
  rfl
 have h3:=TL.runB_ hft hnt hi (l.take k) h h2 K
 rwa [List.take_append_drop] at h3
theorem BU (hft:ft.OK P): ∀ (is:List Nat) {e e':Env} {l:List Nat},nw ft [] #[] n ops e [] is=some (e',[])→TL P n F0 w0 ops l e' Rs Q→TL P n F0 w0 ops (is++l) e Rs Q
 | [],e,e',l,h,k=>by
  cases h
  exact k
 | i::is,e,e',l,h,k=>by
  simp only[nw] at h
  split at h
  ·rename_i d op ty pos af g ho
   split at h
   ·rename_i hw
    split at h
    ·rename_i d
     split at h
     ·rename_i hd
      split at h
      ·rename_i v L1 hv
       have hL1:L1 = []:=by
        cases L1 with
        | nil=>rfl
        | cons x r=>exact absurd (mH is h x (List.mem_cons_self ..)) (by simp)
       subst hL1
       have hx:Ex P n e (St F0 w0 Rs) ⟨some d,op,ty,pos,af,g⟩ v:=by
        unfold qH at hv
        split at hv
        ·split at hv
         ·rename_i hc
          split at hv
          ·split at hv
           ·rename_i hx
            cases hv
            exact BD hc rfl hx
           ·cases hv
          ·split at hv
           ·rename_i hx
            cases hv
            exact Bm hc rfl hx
           ·cases hv
         ·cases hv
        ·simp[vX] at hv
        ·split at hv
         ·rename_i hv'
          cases hv
          exact jD hft hv'
         ·cases hv
       exact TL.q ho (jE hw) hx hd (BU hft is h k)
      ·cases h
     ·cases h
    ·cases h
   ·rename_i hw
    split at h
    ·rename_i d
     split at h
     ·rename_i hd
      exact TL.no ho (jE hw) hd (BU hft is h k)
     ·cases h
    ·exact TL.no0 ho (jE hw) (BU hft is h k)
   ·cases h
  ·cases h
theorem Ac (hft:ft.OK P) (k:Nat) (h:nw ft [] #[] n ops e [] (l.take k)=some (e',[])) (K:TL P n F0 w0 ops (l.drop k) e' Rs Q):TL P n F0 w0 ops l e Rs Q:=by
 have h3:=BU hft (l.take k) h K
 rwa [List.take_append_drop] at h3
theorem z9 (d:Nat) {x y:Bool} (hv:e.get d=some (.bool x)) (h:x=y) (K:TL P n F0 w0 ops l ((d,.bool y)::e) Rs Q):TL P n F0 w0 ops l e Rs Q:=fun a w ha hs=>by
 refine K a w (ha.sub (fun t u hu=> ?_)) hs
 simp only[Env.get] at hu
 cases hb:Nat.beq d t with
 | true =>
  rw[hb] at hu
  obtain rfl:=Nat.eq_of_beq_eq_true hb
  injection hu with hu
  rw[hv,h,hu]
 | false=>rw[hb] at hu; exact hu
end
def dp (n:Int) (i:Nat):Bool:=decide (n / 2 ^ i % 2=1)
theorem rC (n:Int) (m:Nat) (hm:m<9223372036854775808):bits .and .i64 n m=(((n % 18446744073709551616).toNat &&& m:Nat):Int):=by
 have e1:(BitVec.ofInt 64 n).toNat=(n % 18446744073709551616).toNat:=by simp[BitVec.toNat_ofInt]
 have e2:(BitVec.ofInt 64 (m:Int)).toNat=m:=by
  rw[BitVec.ofInt_natCast,BitVec.toNat_ofNat,Nat.mod_eq_of_lt (by omega)]
 show IntKind.i64.wrap (((BitVec.ofInt 64 n) &&& (BitVec.ofInt 64 (m:Int))).toNat:Int)= _
 rw[BitVec.toNat_and,e1,e2]
 have h:(n % 18446744073709551616).toNat &&& m≤m:=Nat.and_le_right
 rw[IntKind.wrap_i64]
 omega
theorem zb (n:Int) (i:Nat) (hi:i<64):(n % 18446744073709551616).toNat.testBit i=dp n i:=by
 have hs:(18446744073709551616:Int)=2 ^ i*2 ^ (64 - i):=by
  rw[← Int.pow_add,show i+(64 - i)=64 by omega]
  rfl
 have h2:(2:Int) ^ (64 - i)=2*2 ^ (63 - i):=by
  rw[show 64 - i=1+(63 - i) by omega,Int.pow_add]
  rfl
 rw[Nat.testBit_eq_decide_div_mod_eq,dp]
 have hp:(0:Int)<2 ^ i:=Int.pow_pos (by decide)
 have h4:n % 18446744073709551616 / 2 ^ i=n / 2 ^ i % 2 ^ (64 - i):=by
  have e:n % 18446744073709551616=n - 2 ^ i*(2 ^ (64 - i)*(n / 18446744073709551616)):=by
   have:=Int.emod_def n 18446744073709551616
   rw[this,hs,Int.mul_assoc]
  rw[e,Int.sub_mul_ediv_left _ _ (by omega),Int.emod_def,Int.ediv_ediv_of_nonneg (Int.le_of_lt hp),← hs]
 have h5:n / 2 ^ i % 2 ^ (64 - i) % 2=n / 2 ^ i % 2:=by
  rw[h2]
  exact Int.emod_emod_of_dvd _ ⟨_,rfl⟩
 have h6:(((n % 18446744073709551616).toNat / 2 ^ i % 2:Nat):Int)=n / 2 ^ i % 2:=by
  have e:((n % 18446744073709551616).toNat:Int)=n % 18446744073709551616:=by omega
  rw[Int.natCast_emod,Int.natCast_ediv,e,Int.natCast_pow]
  show n % 18446744073709551616 / 2 ^ i % 2= _
  rw[h4,h5]
 congr 1
 apply propext
 omega
theorem rD (n:Int) (i:Nat) (hi:i<63):(bits .and .i64 n ((2 ^ i:Nat):Int) != 0)=dp n i:=by
 have hm:2 ^ i<9223372036854775808:=Nat.lt_of_lt_of_eq (Nat.pow_lt_pow_right (by decide) hi) (show 2 ^ 63=9223372036854775808 by decide)
 rw[rC n _ hm,← zb n i (by omega)]
 generalize (n % 18446744073709551616).toNat=a
 cases h:a.testBit i with
 | true =>
  have:(a &&& 2 ^ i)≠0:=by
   intro h0
   have:=congrArg (fun x=>Nat.testBit x i) h0
   simp[h,Nat.testBit_two_pow_self] at this
  simp; omega
 | false =>
  have:(a &&& 2 ^ i)=0:=by
   apply Nat.eq_of_testBit_eq
   intro j
   rw[Nat.testBit_and,Nat.testBit_two_pow]
   by_cases hj:i=j
   ·subst hj; simp[h]
   ·simp[hj]
  simp[this]
theorem v5 (n:Int):(bits .and .i64 n 7 != 0)=decide (n % 8≠0):=by
 have h:=rC n 7 (by decide)
 rw[show ((7:Nat):Int)=7 from rfl] at h
 rw[h,Nat.and_two_pow_sub_one_eq_mod _ 3]
 rw[Bool.eq_iff_iff]
 simp
 omega
theorem v6 (n:Int) (h8:n % 8=0) (h0: -9223372036854775808≤n) (h1:n≤9223372036854775807):(bits .andNot .i64 n 56 != 0)=decide (n<0∨63<n):=by
 have e1:(BitVec.ofInt 64 n).toNat=(n % 18446744073709551616).toNat:=by simp[BitVec.toNat_ofInt]
 have e2:(~~~ BitVec.ofInt 64 (56:Int)).toNat=18446744073709551559:=by decide
 have e3:bits .andNot .i64 n 56=IntKind.i64.wrap (((BitVec.ofInt 64 n) &&& ~~~ (BitVec.ofInt 64 (56:Int))).toNat:Int):=rfl
 rw[e3,BitVec.toNat_and,e1,e2]
 have ha:(n % 18446744073709551616).toNat % 8=0:=by omega
 have hb:(n % 18446744073709551616).toNat<64 ↔ ¬ (n<0∨63<n):=by omega
 have hc:(n % 18446744073709551616).toNat<18446744073709551616:=by omega
 generalize (n % 18446744073709551616).toNat=a at *
 have hw: ∀ x:Nat,x<18446744073709551616→((IntKind.i64.wrap (x:Int) != 0)=decide (x≠0)):=by
  intro x hx
  rw[IntKind.wrap_i64,Bool.eq_iff_iff]
  simp
  omega
 rw[hw _ (Nat.lt_of_le_of_lt Nat.and_le_left hc)]
 by_cases h:a<64
 ·have:a=0∨a=8∨a=16∨a=24∨a=32∨a=40∨a=48∨a=56:=by omega
  have hz:a &&& 18446744073709551559=0:=by rcases this with rfl | rfl | rfl | rfl | rfl | rfl | rfl | rfl <;> decide
  simp[hz,hb.1 h]
 ·have hz:a &&& 18446744073709551559≠0:=by
   intro h0
   have h2:=congrArg (fun x=>x >>> 6) h0
   simp only[Nat.shiftRight_and_distrib] at h2
   rw[show 18446744073709551559 >>> 6=2 ^ 58 - 1 from rfl,Nat.and_two_pow_sub_one_eq_mod,Nat.shiftRight_eq_div_pow] at h2
   simp at h2
   omega
  have:n<0∨63<n:=by
   rcases Classical.em (n<0∨63<n) with h2 | h2
   ·exact h2
   ·exact absurd (hb.2 h2) h
  simp[hz,this]
theorem and_8 (n:Int):(bits .and .i64 n 8 != 0)=dp n 3:=rD n 3 (by decide)
theorem xj (n:Int):(bits .and .i64 n 16 != 0)=dp n 4:=rD n 4 (by decide)
theorem xk (n:Int):(bits .and .i64 n 32 != 0)=dp n 5:=rD n 5 (by decide)
theorem xl {a b:Int} {c:Bool} (h:(a != b)=c):(a == b)= !c:=by rw[← h,bne,Bool.not_not]
theorem v7 (n:Int) (w:World) :
 Calls Tryz.prog 186 #[.int .i64 n] w fun e w'=>e= .returned (.tuple #[.bool (dp n 3),.bool (dp n 4),.bool (dp n 5)])∧w=w':=by
 have H1:=Lib.hid (and_8 n)
 have H2:=Lib.hid (xj n)
 have H3:=Lib.hid (xk n)
 go_enter Tryz.func186,Tryz.ntmps186
 go_wp2
 go_ret3
 exact⟨congrArg Ending.returned (show (Value.tuple #[.bool (bits .and .i64 n 8 != 0),.bool (bits .and .i64 n 16 != 0),.bool (bits .and .i64 n 32 != 0)])= _ by rw[H1.out,H2.out,H3.out]),rfl⟩
def dq (n:Int):Int:=if n % 8≠0 then 9 else if n<0∨63<n∨(dp n 5=true∧dp n 4=false) then 8 else 0
theorem t8 (n:Int) (h0: -9223372036854775808≤n) (h1:n≤9223372036854775807) (w:World) :
 Calls Tryz.prog 185 #[.int .i64 n] w fun e w'=>e= .returned (.int .i64 (dq n))∧w=w':=by
 have h7:=v5 n
 by_cases h8:n % 8=0
 ·have ha:=v6 n h8 h0 h1
  have h32:=xk n
  have h16:=xl (xj n)
  have H8:=Lib.hid h8
  simp only[h8] at h7
  by_cases hr:n<0∨63<n
  ·have HA:=Lib.hid (show dq n=8 by simp only[dq,h8]; rcases hr with h | h <;> simp[h])
   simp only[hr] at ha
   clear hr h8 h32 h16
   go_enter EN,EE
   go_wp2
   go_ret
   exact⟨iW (by rw[HA.out]),rfl⟩
  ·simp only[hr] at ha
   have HR:=Lib.hid hr
   clear hr h8
   cases b5:dp n 5 with
   | true =>
    cases b4:dp n 4 with
    | true =>
     have HA:=Lib.hid (show dq n=0 by have:=HR.out; simp[dq,H8.out,b5,b4]; omega)
     rw[b5] at h32
     rw[b4] at h16
     clear b5 b4
     go_enter EN,EE
     go_wp2
     go_ret
     exact⟨iW (by rw[HA.out]),rfl⟩
    | false =>
     have HA:=Lib.hid (show dq n=8 by simp[dq,H8.out,b5,b4])
     rw[b5] at h32
     rw[b4] at h16
     clear b5 b4
     go_enter EN,EE
     go_wp2
     go_ret
     exact⟨iW (by rw[HA.out]),rfl⟩
   | false =>
    have HA:=Lib.hid (show dq n=0 by have:=HR.out; simp[dq,H8.out,b5]; omega)
    rw[b5] at h32
    clear b5 h16
    go_enter EN,EE
    go_wp2
    go_ret
    exact⟨iW (by rw[HA.out]),rfl⟩
 ·have HA:=Lib.hid (show dq n=9 by simp[dq,h8])
  simp only[ne_eq,h8] at h7
  clear h8
  go_enter EN,EE
  go_wp2
  go_ret
  exact⟨iW (by rw[HA.out]),rfl⟩
def fJ (a t c:Bool):Int:=(if a then 8 else 0)+(if t then 16 else 0)+(if c then 32 else 0)
theorem sP {w W:World} (h:Below w.heap.size w W) (o:Obj):Below w.heap.size w (W.alloc o):=h.alloc h.size o
theorem Of_any (i0 i1 i5 i6 i7 i8 i9 i10:Int) (a t c:Bool) (A:Option Addr) (n k:Nat) (w:World) :
 Calls Tryz.prog 82 #[.agg #[.int .i64 i0,.int .i64 i1,.bool a,.bool t,.bool c,.int .i64 i5,.int .i64 i6,.int .i64 i7,.int .i64 i8,.int .i64 i9,.int .i64 i10,.slice A n k]] w fun e w' =>
  e= .returned (.int .i64 (fJ a t c))∧Below w.heap.size w w':=by
 have ix: ∀ (x0 x1 x2 x3 x4 x5: Value),(∀ w:World,(Instr.index 231 (.agg #[x0,x1,x2,x3,x4,x5]) (.int .i64 0)).run Tryz.prog w= .ok (.agg #[x0,x1]) w)∧(∀ w:World,(Instr.index 231 (.agg #[x0,x1,x2,x3,x4,x5]) (.int .i64 1)).run Tryz.prog w= .ok (.agg #[x2,x3]) w)∧(∀ w:World,(Instr.index 231 (.agg #[x0,x1,x2,x3,x4,x5]) (.int .i64 2)).run Tryz.prog w= .ok (.agg #[x4,x5]) w):=fun _ _ _ _ _ _=>⟨fun _=>by kernel_rfl,fun _=>by kernel_rfl,fun _=>by kernel_rfl⟩
 cases a <;> cases t <;> cases c <;>
 ·go_enter Tryz.func82,Tryz.ntmps82
  go_wp2_with fail
  refine wp_loop_rounds 4 ?_
  rw[rounds_succ]
  go_wp2_with fail
  rw[rounds_succ]
  go_wp2_with fail
  rw[rounds_succ]
  go_wp2_with fail
  rw[rounds_succ]
  go_wp2_with fail
  go_ret
  exact⟨rfl,by repeat (first | exact Below.refl _ _ | refine sP ?_ _)⟩
theorem zc (i0 i1 i5 i6 i7 i8 i9 i10:Int) (a t c:Bool) (A:Option Addr) (n k:Nat) :
 ka Tryz.prog 82 #[.agg #[.int .i64 i0,.int .i64 i1,.bool a,.bool t,.bool c,.int .i64 i5,.int .i64 i6,.int .i64 i7,.int .i64 i8,.int .i64 i9,.int .i64 i10,.slice A n k]] (fun v N=>v= .int .i64 (fJ a t c)∧N = []):=by
 intro w
 refine (Of_any i0 i1 i5 i6 i7 i8 i9 i10 a t c A n k w).mono ?_
 rintro e w' ⟨rfl,hb⟩
 exact⟨_,_,rfl,⟨rfl,rfl⟩,BO hb,trivial⟩
def t9 (n:Int):Option (Bool×Bool×Bool):=some (dp n 3,dp n 4,dp n 5)
theorem v8 (n:Int):t9 n=some (dp n 3,dp n 4,dp n 5):=rfl
theorem sQ (n:Int) (r:Bool×Bool×Bool) (h:t9 n=some r) (w:World):Calls Tryz.prog 186 #[.int .i64 n] w fun e w'=>e= .returned (.tuple #[.bool r.1,.bool r.2.1,.bool r.2.2])∧w=w':=by
 obtain rfl:=CN h
 exact v7 n w
def rE (n:Int):Option Int:=if -9223372036854775808≤n∧n≤9223372036854775807 then some (dq n) else none
theorem ua (n:Int) (h: -9223372036854775808≤n∧n≤9223372036854775807):rE n=some (dq n):=if_pos h
theorem rF (n:Int) (r:Int) (h:rE n=some r) (w:World):Calls Tryz.prog 185 #[.int .i64 n] w fun e w'=>e= .returned (.int .i64 r)∧w=w':=by
 obtain⟨h1,h⟩:=aH h
 obtain rfl:=CN h
 exact t8 n h1.1 h1.2 w
def gAOf (b:Bat):Option Int:=some (fJ b.CF b.CI b.Ct)
theorem zd (b:Bat):gAOf b=some (fJ b.CF b.CI b.Ct):=rfl
theorem qI (b:Bat) (A:Option Addr) (c:Nat) (r:Int) (h:gAOf b=some r):au Tryz.prog 82 #[.agg #[.int .i64 b.Cn,.int .i64 b.Ch,.bool b.CF,.bool b.CI,.bool b.Ct,.int .i64 b.Cl,.int .i64 b.B9,.int .i64 b.Cu,.int .i64 b.BX,.int .i64 b.B5,.int .i64 b.Ca,.slice A b.B0.length c]]
 (RX.of (an 7 cn) [.slice A b.B0.length c] b.B0) aI (fun u A' N=>u= .int .i64 r∧A'=aI∧N = []):=by
 obtain rfl:=CN h
 exact Be (zc _ _ _ _ _ _ _ _ _ _ _ _ _ _)
end Go.Proofs.YtheikonlgjdopaaGreat.Sl
