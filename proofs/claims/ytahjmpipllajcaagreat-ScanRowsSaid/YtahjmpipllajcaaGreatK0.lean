/- scanRows_holds: part 0. -/
import Derived.WalkKit
import Derived.Below
import Derived.Laws.OwnMore
import Derived.Deep.Draws
import Derived.Laws.Rows
import Derived.Lib.Hide
import Derived.Lib.AppendStr
import Derived.Maps.AppendAt
import Derived.OwnWalk
import Derived.Deep.AppendLies
import Derived.Laws.BytesArg
import Derived.Deep.WholeRow
import Derived.ChangeArms
import Derived.ChangeSlices
import Derived.Deep.Slices
import Derived.OpenShut
import Derived.WideShapes
import Derived.Test.YtahjmpipllajcaaGreatProg
import Derived.KernelRfl
import Derived.Deep.QuietTactic
import Derived.BigQuiet
import Derived.LoopN
import Derived.WalkSpells
import Derived.WalkLawsBesides
import Derived.Lib.Strings
import Derived.Laws.BitsLemmas
import Derived.Scope
import Derived.ScopeJumps
import Derived.WalkMore
import Derived.Deep.Quiet
import Derived.OrdersHeld
set_option maxRecDepth 100000
set_option maxHeartbeats 4000000
set_option linter.defProp false
namespace Go.Proofs.YtahjmpipllajcaaGreat.Sl
open Go.RowKit
set_option linter.unusedVariables false
abbrev jI (n : Int) : Value := .int .i64 n
abbrev jP (n : Nat) : Value := .pointer (some ⟨n, 0, none⟩)
theorem jF {α : Sort _} {P : Prop} [Decidable P] {a b c : α} (h : (if P then a else b) = c) : (P ∧ a = c) ∨ (¬P ∧ b = c) := by by_cases p : P; exact .inl ⟨p, (if_pos p).symm.trans h⟩; exact .inr ⟨p, (if_neg p).symm.trans h⟩
theorem Z {α : Sort _} {a : α} : a = a := rfl
def xO := @Option.some.inj
def xP := @Option.bind_some
def xR := @List.length_append
theorem xS {α : Type} {l : List α} {i : Nat} {a : α} (h : l[i]? = some a) : ∃ w : i < l.length, l[i] = a := List.getElem?_eq_some_iff.1 h
def xT := @List.length_drop
def ya := @List.append_assoc
def yd := @List.length_cons
def yj := @List.length_take
def yk := @List.nil_append
def yn := @Nat.le_refl
def yp := @List.append_nil
def yw := @Nat.zero_le
def yz := @List.drop_drop
def yA := @Int.toNat_natCast
def yQ := @List.length_nil
def zf := @List.length_map
structure Fr (F:Nat→Prop) (w w':World):Prop where
 os:w'.os=w.os
 tape:w'.tape=w.tape
 output:w'.output=w.output
 size:w.heap.size≤w'.heap.size
 block: ∀ k,k<w.heap.size→ ¬ F k→w'.heap[k]? = w.heap[k]?
theorem Fr.refl (F:Nat→Prop) (w:World):Fr F w w:=⟨rfl,rfl,rfl,yn _,fun _ _ _=>rfl⟩
theorem Fr.trans {F G:Nat→Prop} {a b c:World} (h:Fr F a b) (k:Fr G b c) (hg: ∀ k,G k→F k∨a.heap.size≤k):Fr F a c :=
 ⟨k.os.trans h.os,k.tape.trans h.tape,k.output.trans h.output,Nat.le_trans h.size k.size,fun i hi hn =>
  (k.block i (Nat.lt_of_lt_of_le hi h.size) (fun h2=>(hg i h2).elim hn (fun h3=>by omega))).trans (h.block i hi hn)⟩
theorem wY {F:Nat→Prop} {w w':World} (h:Below w.heap.size w w'):Fr F w w':=⟨h.os,h.tape,h.output,h.size,fun k hk _=>h.block k hk⟩
theorem Fr.below {w w':World} (h:Fr (fun _=>False) w w'):Below w.heap.size w w':=⟨h.os,h.tape,h.output,h.size,fun k hk=>h.block k hk (fun h=>h)⟩
theorem wD {F:Nat→Prop} {w w':World} {row:Option Nat} (h:w.grownBy w' row) (hr: ∀ k,row=some k→F k):Fr F w w' :=
 ⟨h.os,h.tape,h.output,h.size,fun k hk hn=>h.block k hk (fun e=>hn (hr k e.symm))⟩
theorem Fr.mono {F G:Nat→Prop} {w w':World} (h:Fr F w w') (hg: ∀ k,F k→G k):Fr G w w':=⟨h.os,h.tape,h.output,h.size,fun k hk hn=>h.block k hk (fun h2=>hn (hg k h2))⟩
theorem Fr.drew {F:Nat→Prop} {w w':World} (h:Fr F w w'):Fr F w w'.drew:=⟨h.os,h.tape,h.output,h.size,h.block⟩
theorem Fr.drewN {F:Nat→Prop} {w w':World} (h:Fr F w w') (n:Nat):Fr F w (w'.drewN n):=⟨h.os,h.tape,h.output,h.size,h.block⟩
theorem Fr.set {F:Nat→Prop} {w w':World} (h:Fr F w w') {p:Addr} (hp:F p.block∨w.heap.size≤p.block) (u:Value):Fr F w (w'.setCell p u) :=
 h.trans (G:=fun k=>k=p.block) ⟨rfl,rfl,rfl,by simp[World.setCell],fun k _ hn=>Below.heap_setCell _ _ _ _ hn⟩ (fun k hk=>by rw[hk]; exact hp)
structure Res where
 P:World→(Nat→Prop)→Prop
 lt: ∀ {w:World} {G:Nat→Prop},P w G→ ∀ k,G k→k<w.heap.size
 move: ∀ {w w':World} {G:Nat→Prop},P w G→(∀ k,G k→w'.heap[k]? = w.heap[k]?)→P w' G
def Sep:List Res→World→(Nat→Prop)→Prop
 | [],_,_=>True
 | R::Rs,w,F=> ∃ G,R.P w G∧(∀ k,G k→F k)∧Sep Rs w (fun k=>F k∧ ¬ G k)
theorem Sep.mono: ∀ {Rs:List Res} {w:World} {F F':Nat→Prop},Sep Rs w F→(∀ k,F k→F' k)→Sep Rs w F'
 | [],_,_,_,_,_=>trivial
 | _ :: _,_,_,_,⟨G,h1,h2,h3⟩,hf=>⟨G,h1,fun k hk=>hf k (h2 k hk),h3.mono (fun k hk=>⟨hf k hk.1,hk.2⟩)⟩
theorem Sep.inside: ∀ {Rs:List Res} {w:World} {F:Nat→Prop},Sep Rs w F→Sep Rs w (fun k=>F k∧k<w.heap.size)
 | [],_,_,_=>trivial
 | R :: _,_,_,⟨G,h1,h2,h3⟩=>⟨G,h1,fun k hk=>⟨h2 k hk,R.lt h1 k hk⟩,h3.inside.mono (fun k hk=>⟨⟨hk.1.1,hk.2⟩,hk.1.2⟩)⟩
theorem Sep.move_: ∀ {Rs:List Res} {w w':World} {F:Nat→Prop},Sep Rs w F→(∀ k,F k→w'.heap[k]? = w.heap[k]?)→Sep Rs w' F
 | [],_,_,_,_,_=>trivial
 | R :: _,_,_,_,⟨G,h1,h2,h3⟩,hm=>⟨G,R.move h1 (fun k hk=>hm k (h2 k hk)),h2,h3.move_ (fun k hk=>hm k hk.1)⟩
theorem Sep.move {Rs:List Res} {w w':World} {F:Nat→Prop} (h:Sep Rs w F) (hm: ∀ k,F k→k<w.heap.size→w'.heap[k]? = w.heap[k]?):Sep Rs w' F :=
 (h.inside.move_ (fun k hk=>hm k hk.1 hk.2)).mono (fun _ hk=>hk.1)
theorem Sep.pick: ∀ {Rs:List Res} (i:Nat) {A:Res} {w:World} {F:Nat→Prop},Rs[i]? = some A→Sep Rs w F→ ∃ G,A.P w G∧(∀ k,G k→F k)∧Sep (Rs.eraseIdx i) w (fun k=>F k∧ ¬ G k)
 | [],i,_,_,_,hi,_=>by simp at hi
 | R::Rs,0,A,w,F,hi,h=>by
  have e:R=A:=by simpa using hi
  subst e
  exact h
 | R::Rs,i+1,A,w,F,hi,⟨G,h1,h2,h3⟩=>by
  obtain⟨G',k1,k2,k3⟩:=Sep.pick i (by simpa using hi) h3
  exact⟨G',k1,fun k hk=>(k2 k hk).1,G,h1,fun k hk=>⟨h2 k hk,fun h=>(k2 k h).2 hk⟩,k3.mono (fun k hk=>⟨⟨hk.1.1,hk.2⟩,hk.1.2⟩)⟩
theorem Sep.back: ∀ {Rs:List Res} (i:Nat) {A A':Res} {w:World} {F G:Nat→Prop},Rs[i]? = some A→A'.P w G→(∀ k,G k→F k)→Sep (Rs.eraseIdx i) w (fun k=>F k∧ ¬ G k)→Sep (Rs.set i A') w F
 | [],i,_,_,_,_,_,hi,_,_,_=>by simp at hi
 | R::Rs,0,A,A',w,F,G,hi,h1,h2,h3=>⟨G,h1,h2,h3⟩
 | R::Rs,i+1,A,A',w,F,G,hi,h1,h2,⟨G',k1,k2,k3⟩ =>
  ⟨G',k1,fun k hk=>(k2 k hk).1,Sep.back i (by simpa using hi) h1 (fun k hk=>⟨h2 k hk,fun h=>(k2 k h).2 hk⟩) (k3.mono (fun k hk=>⟨⟨hk.1.1,hk.2⟩,hk.1.2⟩))⟩
theorem Sep.append: ∀ {Ns Rs:List Res} {w:World} {F G:Nat→Prop},Sep Ns w G→Sep Rs w (fun k=>F k∧ ¬ G k)→(∀ k,G k→F k)→Sep (Ns++Rs) w F
 | [],_,_,_,_,_,h,_=>h.mono (fun _ hk=>hk.1)
 | N::Ns,Rs,w,F,G,⟨H,h1,h2,h3⟩,h,hg =>
  ⟨H,h1,fun k hk=>hg k (h2 k hk),Sep.append h3 (h.mono (fun k hk=>⟨⟨hk.1,fun h4=>hk.2 (h2 k h4)⟩,fun h4=>hk.2 h4.1⟩)) (fun k hk=>⟨hg k hk.1,hk.2⟩)⟩
theorem Sep.one {R:Res} {w:World} {F:Nat→Prop} (h:R.P w F):Sep [R] w F:=⟨F,h,fun _ h=>h,trivial⟩
structure St (F0:Nat→Prop) (w0:World) (Rs:List Res) (w:World):Prop where
 fr:Fr F0 w0 w
 sep:Sep Rs w (fun k=>F0 k∨w0.heap.size≤k)
section
variable {F0:Nat→Prop} {w0 w w':World} {Rs:List Res} {A A':Res}
theorem vW (F0:Nat→Prop) (w:World) (h:Sep Rs w F0):St F0 w Rs w:=⟨Fr.refl _ _,h.mono (fun _ hk=> .inl hk)⟩
theorem wu (w:World):St (fun _=>False) w [] w:=⟨Fr.refl _ _,trivial⟩
theorem St.drew (h:St F0 w0 Rs w):St F0 w0 Rs w.drew:=⟨h.fr.drew,h.sep.move (fun _ _ _=>rfl)⟩
theorem St.drewN (h:St F0 w0 Rs w) (n:Nat):St F0 w0 Rs (w.drewN n):=⟨h.fr.drewN n,h.sep.move (fun _ _ _=>rfl)⟩
theorem St.drop_ (h:St F0 w0 (A::Rs) w):St F0 w0 Rs w:=by
 obtain⟨f,G,_,_,h3⟩:=h
 exact⟨f,h3.mono (fun _ hk=>hk.1)⟩
theorem St.del (i:Nat) (h:St F0 w0 Rs w) (hi:Rs[i]? = some A):St F0 w0 (Rs.eraseIdx i) w:=by
 obtain⟨f,hs⟩:=h
 obtain⟨G,_,_,h3⟩:=Sep.pick i hi hs
 exact⟨f,h3.mono (fun _ hk=>hk.1)⟩
theorem St.weaken (i:Nat) (h:St F0 w0 Rs w) (hi:Rs[i]? = some A) (hA: ∀ G,A.P w G→A'.P w G):St F0 w0 (Rs.set i A') w:=by
 obtain⟨f,hs⟩:=h
 obtain⟨G,h1,h2,h3⟩:=Sep.pick i hi hs
 exact⟨f,Sep.back i hi (hA _ h1) h2 h3⟩
theorem St.get (i:Nat) (h:St F0 w0 Rs w) (hi:Rs[i]? = some A): ∃ G,A.P w G∧(∀ k,G k→F0 k∨w0.heap.size≤k):=by
 obtain⟨G,h1,h2,_⟩:=Sep.pick i hi h.sep
 exact⟨G,h1,h2⟩
theorem St.step (i:Nat) (h:St F0 w0 Rs w) (hi:Rs[i]? = some A) {Ns:List Res}
 (hs: ∀ G,A.P w G→Fr G w w'∧Sep (A'::Ns) w' (fun k=>G k∨w.heap.size≤k)):St F0 w0 (Ns++Rs.set i A') w':=by
 obtain⟨f,hp⟩:=h
 obtain⟨G,h1,h2,h3⟩:=Sep.pick i hi hp
 obtain⟨f2,G2,k1,k2,k3⟩:=hs G h1
 refine⟨f.trans f2 h2,?_⟩
 have hle:=f.size
 have hR:Sep (Rs.eraseIdx i) w' (fun k=>((F0 k∨w0.heap.size≤k)∧ ¬ G k)∧k<w.heap.size):=h3.inside.move (fun k hk _=>f2.block k hk.2 hk.1.2)
 refine Sep.append k3 (F:=fun k=>F0 k∨w0.heap.size≤k) (Sep.back i hi k1 (fun k hk=>⟨?_,fun hn=>hn.2 hk⟩) (hR.mono (fun k hk=>⟨⟨hk.1.1,?_⟩,?_⟩))) ?_
 ·rcases k2 k hk with h4 | h4
  ·exact h2 k h4
  ·exact .inr (by omega)
 ·rintro⟨h4 | h4,_⟩
  ·exact hk.1.2 h4
  ·have:=hk.2; omega
 ·intro h4
  rcases k2 k h4 with h5 | h5
  ·exact hk.1.2 h5
  ·have:=hk.2; omega
 ·rintro k ⟨h4 | h4,_⟩
  ·exact h2 k h4
  ·exact .inr (by omega)
theorem St.grow (h:St F0 w0 Rs w) {Ns:List Res} (f2:Fr (fun _=>False) w w') (k3:Sep Ns w' (fun k=>w.heap.size≤k)):St F0 w0 (Ns++Rs) w':=by
 obtain⟨f,hp⟩:=h
 have hle:=f.size
 refine⟨f.trans f2 (fun _ h=>h.elim),Sep.append k3 ((hp.inside.move (fun k hk _=>f2.block k hk.2 (fun h=>h))).mono (fun k hk=>⟨hk.1,by have:=hk.2; omega⟩)) (fun k hk=> .inr (by omega))⟩
theorem St.below (h:St (fun _=>False) w0 Rs w):Below w0.heap.size w0 w:=h.fr.below
end
def aA (b:Nat) (T:TypeId) (cs:Array Value):Res where
 P:=fun w G=>w.heap[b]? = some (.cells cs T (0,0))∧ ∀ k,G k↔k=b
 lt:=fun h k hk=>by
  rw[(h.2 k).1 hk]
  exact (Array.getElem?_eq_some_iff.1 h.1).1
 move:=fun h hm=>⟨(hm _ ((h.2 _).2 rfl)).trans h.1,h.2⟩
section
variable {F0:Nat→Prop} {w0 w w':World} {Rs:List Res} {b:Nat} {T:TypeId} {cs:Array Value}
theorem aM (h:w.heap[b]? = some (.cells cs T (0,0))) (i:Nat):w.cell? ⟨b,i,none⟩=cs[i]? := cell_of_row w b i cs T (0,0) h
theorem ck (h:w.heap[b]? = some (.cells cs T (0,0))) (i:Nat):w.frozen? ⟨b,i,none⟩=false:=by simp[World.frozen?,h]
theorem jN (h:w.heap[b]? = some (.cells cs T (0,0))) (i:Nat) (u:Value):(w.setCell ⟨b,i,none⟩ u).heap[b]? = some (.cells (cs.setIfInBounds i u) T (0,0)):=by
 simp[World.setCell,Array.getElem?_modify,h]
theorem jO {o:Obj} (h:w.heap[b]? = some o):b<w.heap.size:=(Array.getElem?_eq_some_iff.1 h).1
theorem St.blk (i:Nat) (h:St F0 w0 Rs w) (hi:Rs[i]? = some (aA b T cs)):w.heap[b]? = some (.cells cs T (0,0)):=by
 obtain⟨G,h1,_⟩:=h.get i hi
 exact h1.1
theorem St.alloc (h:St F0 w0 Rs w) (cs:Array Value) (T:TypeId):St F0 w0 (aA w.heap.size T cs::Rs) (w.alloc (.cells cs T)) :=
 h.grow (Ns := [aA w.heap.size T cs]) (wY ((Below.refl _ _).alloc (yn _) _)) ⟨fun k=>k=w.heap.size,⟨heap_alloc_new w _,fun _=>Iff.rfl⟩,fun k hk=>by omega,trivial⟩
theorem St.set (i:Nat) (h:St F0 w0 Rs w) (hi:Rs[i]? = some (aA b T cs)) (j:Nat) (u:Value):St F0 w0 (Rs.set i (aA b T (cs.setIfInBounds j u))) (w.setCell ⟨b,j,none⟩ u):=by
 refine h.step i hi (Ns := []) (fun G hG=>⟨?_,G,⟨jN hG.1 j u,hG.2⟩,fun k hk=> .inl hk,trivial⟩)
 exact (Fr.refl G w).set (p:=⟨b,j,none⟩) (.inl ((hG.2 b).2 rfl)) u
end
def lD (Q:Value→Res→List Res→Prop) (F:Nat→Prop) (w:World) (e:Ending) (w':World):Prop:= ∃ v A' Ns,e= .returned v∧Q v A' Ns∧St F w (A'::Ns) w'
def Post0 (Q:Value→List Res→Prop) (w:World) (e:Ending) (w':World):Prop:= ∃ v Ns,e= .returned v∧Q v Ns∧St (fun _=>False) w Ns w'
def eh (P:Program) (f:FuncId) (args:Array Value) (A:Res) (Q:Value→Res→List Res→Prop):Prop :=
 ∀ F w,A.P w F→Calls P f args w (lD Q F w)
def e9 (P:Program) (f:FuncId) (args:Array Value) (Q:Value→List Res→Prop):Prop :=
 ∀ w,Calls P f args w (Post0 Q w)
section
variable {P:Program} {f:FuncId} {args:Array Value} {F0:Nat→Prop} {w0 w:World} {Rs:List Res} {A:Res}
theorem St.call {Q:Value→Res→List Res→Prop} (i:Nat) (h:St F0 w0 Rs w) (hi:Rs[i]? = some A) (hs:eh P f args A Q) :
 Calls P f args w fun e w'=> ∃ v A' Ns,e= .returned v∧Q v A' Ns∧St F0 w0 (Ns++Rs.set i A') w':=by
 obtain⟨G0,hG0,hsub⟩:=h.get i hi
 obtain⟨G,h1,h2,h3⟩:=Sep.pick i hi h.sep
 refine (hs G w h1).mono ?_
 rintro e w' ⟨v,A',Ns,rfl,hq,hst⟩
 refine⟨v,A',Ns,rfl,hq,?_⟩
 obtain⟨f2,G2,k1,k2,k3⟩:=hst
 have f:=h.fr
 refine⟨f.trans f2 h2,?_⟩
 have hle:=f.size
 have hR:Sep (Rs.eraseIdx i) w' (fun k=>((F0 k∨w0.heap.size≤k)∧ ¬ G k)∧k<w.heap.size):=h3.inside.move (fun k hk _=>f2.block k hk.2 hk.1.2)
 refine Sep.append k3 (F:=fun k=>F0 k∨w0.heap.size≤k) (Sep.back i hi k1 (fun k hk=>⟨?_,fun hn=>hn.2 hk⟩) (hR.mono (fun k hk=>⟨⟨hk.1.1,?_⟩,?_⟩))) ?_
 ·rcases k2 k hk with h4 | h4
  ·exact h2 k h4
  ·exact .inr (by omega)
 ·rintro⟨h4 | h4,_⟩
  ·exact hk.1.2 h4
  ·have:=hk.2; omega
 ·intro h4
  rcases k2 k h4 with h5 | h5
  ·exact hk.1.2 h5
  ·have:=hk.2; omega
 ·rintro k ⟨h4 | h4,_⟩
  ·exact h2 k h4
  ·exact .inr (by omega)
theorem St.call0 {Q:Value→List Res→Prop} (h:St F0 w0 Rs w) (hs:e9 P f args Q) :
 Calls P f args w fun e w'=> ∃ v Ns,e= .returned v∧Q v Ns∧St F0 w0 (Ns++Rs) w':=by
 refine (hs w).mono ?_
 rintro e w' ⟨v,Ns,rfl,hq,hst⟩
 refine⟨v,Ns,rfl,hq,h.grow hst.fr (hst.sep.mono (fun k hk=>hk.elim (fun h=>h.elim) id))⟩
end
def aD (l:List UInt8):List Value:=l.map fun b=>Value.int .u8 b.toNat
theorem gx (l m:List UInt8):aD (l++m)=aD l++aD m:=by simp[aD]
theorem jc (s:ByteArray):Lib.strCells s=aD s.data.toList:=rfl
section
variable {P:Program} (w:World)
theorem jd (t u ty e:TypeId) (i:TypeInfo) (ht:P.underlying t=some (.slice e)) (hu:P.underlying u=some .string) (hi:P.info? e=some i) (hz:i.zero=some (.int .u8 0))
 (hsize:i.size=1) (hby:i.bytes=1)
 (v:Value) (n:Nat) (xs:List Value) (hown:w.ownsRow 0 e 1 v n xs) (s:ByteArray) (hbytes:n+s.size≤140737488355328) :
 ∃ v' w',(Builtin.append_ #[t,u] ty #[v,.string s]).run P w= .ok v' w'∧w'.ownsRow 0 e 1 v' (n+s.size) (xs++Lib.strCells s)∧w.grownBy w' v.ownBlock ∧
  (v'.ownBlock=v.ownBlock∨v'.ownBlock=some w.heap.size):=by
 obtain⟨v',w',hr,h2,h3,h4⟩:=Lib.run_append_own_string (P:=P) w 0 t u ty e i ht hu hi hz hsize hby v n xs hown s (by simp only[maxLen]; omega) hbytes (yw _)
 refine⟨v',w',hr,h2,h3,?_⟩
 rcases hown.2 with⟨rfl,rfl⟩ | ⟨g,cap,cur,rfl,hbg,hg,hnc,hcm,hcs,htake⟩
 ·by_cases hm:s.size=0
  ·left
   rw[h4.2 ⟨rfl,hm⟩]
  ·right
   have hr2:=run_append_nil_string (P:=P) w t u ty e i (.int .u8 0) ht hu hi hz s (by omega) (by omega) (by rw[hby]; omega)
   rw[hr] at hr2
   injection hr2 with hv _
   rw[hv]
   rfl
 ·by_cases hroom:n+s.size≤cap
  ·left
   have hcs':cur.size=cap:=by simpa using hcs
   have hr2:=Lib.run_append_room_string (P:=P) w t u ty e i ht hu hi hsize g n cap cur hg s hroom (by omega)
   rw[hr] at hr2
   injection hr2 with hv _
   rw[hv]
   rfl
  ·right
   have hxl:xs.length=n:=by simpa using hown.1
   have holds: ∀ j u,xs[j]? = some u→w.cell? ((⟨g,0,none⟩:Addr).add j)=some u:=hown.cells (g:=g) rfl
   have hr2:=Lib.run_append_grow_string (P:=P) w t u ty e i (.int .u8 0) ht hu hi hz ⟨g,0,none⟩ n cap xs (by rw[hsize]; simpa using hxl) holds s (by omega) (by omega) (by rw[hby]; exact growslice_fits (by omega) (by omega))
   rw[hr] at hr2
   injection hr2 with hv _
   rw[hv]
   rfl
theorem ky {ops:Array Oper} {rest:List Oper} {o:Oper} {a:Act} {Q:Exit→Act→World→Prop} (hgd:o.guard=none) (sl x:Operand) (t u:TypeId)
 (ho:o.op= .call { callee:= .builtin .append,args:= #[sl,x],argTypes:= #[t,u] })
 (e:TypeId) (ht:P.underlying t=some (.slice e)) (hu:P.underlying u=some .string) (hinfo:(P.info? e).map (fun i=>(i.zero,i.size,i.bytes))=some (some (.int .u8 0),1,1))
 (v:Value) (n:Nat) (xs:List Value) (hs:a.eval sl=v) (hown:w.ownsRow 0 e 1 v n xs) (s:ByteArray) (hx:a.eval x= .string s) (hbytes:n+s.size≤140737488355328)
 (h: ∀ v' w',w'.ownsRow 0 e 1 v' (n+s.size) (xs++Lib.strCells s)→w.grownBy w' v.ownBlock→(v'.ownBlock=v.ownBlock∨v'.ownBlock=some w.heap.size)→wpList P ops Q rest (a.put o.dst v') w'):wpList P ops Q (o::rest) a w:=by
 obtain⟨i,hi,hzz⟩:=Option.map_eq_some_iff.1 hinfo
 simp only[Prod.mk.injEq] at hzz
 refine wpList_plain hgd fun K hK=> ?_
 obtain⟨v',w',hr,h2,h3,h4⟩:=jd (P:=P) w t u o.type e i ht hu hi hzz.1 hzz.2.1 hzz.2.2 v n xs hown s hbytes
 unfold Oper.wp execOp
 simp only[ho,resolve,invoke,builtin,Sem.run_bind,Sem.run_pure,Result.andThen_ok,List.map_toArray,List.map_cons,List.map_nil,hs,hx,hr]
 exact hK _ _ (h v' w' h2 h3 h4)
theorem gy {ops:Array Oper} {rest:List Oper} {o:Oper} {a:Act} {Q:Exit→Act→World→Prop} (hgd:o.guard=none) (sl x:Operand) (t:TypeId)
 (ho:o.op= .call { callee:= .builtin .append,args:= #[sl,x],argTypes:= #[t,t] })
 (e:TypeId) (z:Value) (bytes:Nat) (ht:P.underlying t=some (.slice e)) (hinfo:(P.info? e).map (fun i=>(i.zero,i.size,i.bytes))=some (some z,1,bytes)) (hz:z.cells.size=1)
 (v:Value) (n:Nat) (xs:List Value) (hs:a.eval sl=v) (hown:w.ownsRow 0 e 1 v n xs) (y:Value) (hy:y.oneCell'=true) (hx:a.eval x= .slice (some ⟨w.heap.size,0,none⟩) 1 1)
 (hbytes:(n+1)*bytes≤140737488355328) (hmax:n+1≤140737488355328)
 (h: ∀ v' w',w'.ownsRow 0 e 1 v' (n+1) (xs ++ [y])→w.grownBy w' v.ownBlock→(v'.ownBlock=v.ownBlock∨ ∃ k,v'.ownBlock=some k∧w.heap.size≤k)→wpList P ops Q rest (a.put o.dst v') w') :
 wpList P ops Q (o::rest) a (w.alloc (.cells #[y] e)):=by
 obtain⟨i,hi,hzz⟩:=Option.map_eq_some_iff.1 hinfo
 simp only[Prod.mk.injEq] at hzz
 obtain⟨hz0,hz1,hz2⟩:=hzz
 refine wpList_append_own_at (w.alloc (.cells #[y] e)) hgd sl x t ho 0 e i z 1 bytes ht hi hz0 hz1 hz2 hz (by omega) v n xs hs (hown.alloc _) ⟨w.heap.size,0,none⟩ 1 1 [y] hx rfl
  (by simpa using World.news_of_block (cs:= #[y]) (t:=e) (fr:=(0,0)) (heap_alloc_new w (.cells #[y] e))) (by simpa using hy) (by simp only[maxLen]; omega) hbytes (yw _) ?_
 intro v' w' hown' hg _ hat
 refine h v' w' hown' (World.grownBy.trans (World.grownBy_alloc w _ _) hg) ?_
 rcases hat with hat | hat
 ·exact .inl hat
 ·exact .inr ⟨_,hat,by simp⟩
theorem jl (w:World) {src dst e:TypeId} {v:Value} {l:List UInt8} {n:Nat} (hs:P.underlying src=some (.slice e)) (he:P.underlying e=some (.int .u8)) (hd:P.underlying dst=some .string)
 (h:w.ownsRow 0 e 1 v n (aD l)):(convert src dst v).run P w= .ok (.string ⟨l.toArray⟩) w:=by
 have hl:l.length=n:=by have:=h.1; simp[aD] at this; exact this
 have hstr:strOfNums (l.map fun b=>(b.toNat:Int))=⟨l.toArray⟩:=by
  unfold strOfNums
  congr 1
  simp[List.map_map,Function.comp_def]
 rcases h.2 with⟨rfl,rfl⟩ | ⟨g,cap,cur,rfl,_⟩
 ·obtain rfl:l = []:=List.eq_nil_of_length_eq_zero hl
  exact run_convert_bytes_nil w src e hs he 0 0 dst hd
 ·rw[← hstr]
  refine run_convert_bytes_arg w src e hs he g 0 n cap _ (by simpa using hl) (fun i hi=> ?_) dst hd
  have hc:=h.cells (g:=g) rfl i (.int .u8 ((l.map fun b=>(b.toNat:Int)).getD i 0)) (by simp[aD,List.getElem?_eq_getElem (show i<l.length by omega),List.getD_eq_getElem?_getD])
  have ha:(⟨g,0,none⟩:Addr).add i=⟨g,0+i,none⟩:=by unfold Addr.add; split <;> simp_all
  rwa [ha] at hc
theorem lY {w:World} {e t:TypeId} {size n b:Nat} {v:Value} {xs:List Value} {cs:Array Value} (h:w.ownsRow 0 e size v n xs) (hg:w.heap[b]? = some (.cells cs t (0,0))) (hne:e≠t):some b≠v.ownBlock:=by
 rcases h.2 with⟨rfl,_⟩ | ⟨g',cap,cur,rfl,_,hh,_⟩
 ·simp[Value.ownBlock]
 ·intro he
  have:b=g':=by simpa [Value.ownBlock] using he
  subst this
  rw[hg] at hh
  injection hh with hh
  injection hh with _ ht
  exact hne ht.symm
theorem rx {w:World} {e:TypeId} {size n:Nat} {v:Value} {xs:List Value} (h:w.ownsRow 0 e size v n xs) {p:Addr} (hne:some p.block≠v.ownBlock) (u:Value):(w.setCell p u).ownsRow 0 e size v n xs:=by
 obtain⟨h1,h2⟩:=h
 refine⟨h1,?_⟩
 rcases h2 with h2 | ⟨g,cap,cur,rfl,hg,hh,r⟩
 ·exact .inl h2
 ·exact .inr ⟨g,cap,cur,rfl,hg,by rw[Below.heap_setCell _ _ _ _ (fun e=>hne (by rw[e]; rfl))]; exact hh,r⟩
theorem lZ {w w':World} {e:TypeId} {size n:Nat} {v:Value} {xs:List Value} (h:w.ownsRow 0 e size v n xs) (hm: ∀ k,v.ownBlock=some k→w'.heap[k]? = w.heap[k]?):w'.ownsRow 0 e size v n xs:=by
 obtain⟨h1,h2⟩:=h
 refine⟨h1,?_⟩
 rcases h2 with h2 | ⟨g,cap,cur,rfl,hg,hh,r⟩
 ·exact .inl h2
 ·exact .inr ⟨g,cap,cur,rfl,hg,(hm g rfl).trans hh,r⟩
theorem fD {w:World} {e:TypeId} {size n:Nat} {v:Value} {xs:List Value} (h:w.ownsRow 0 e size v n xs): ∃ a c,v= .slice a n c:=by
 rcases h.2 with⟨rfl,rfl⟩ | ⟨g,cap,cur,rfl,_⟩
 ·exact⟨none,0,rfl⟩
 ·exact⟨_,cap,rfl⟩
theorem qk {w:World} {e:TypeId} {size n:Nat} {v:Value} {xs:List Value} (h:w.ownsRow 0 e size v n xs): ∀ k,v.ownBlock=some k→k<w.heap.size:=fun k hk=>(h.lt k hk).2
end
section
variable {P:Program}
end
def ei (T:TypeId) (size:Nat) (v:Value) (n:Nat) (xs:List Value):Res where
 P:=fun w G=>w.ownsRow 0 T size v n xs∧ ∀ k,G k↔v.ownBlock=some k
 lt:=by
  rintro w G ⟨h1,h2⟩ k hk
  exact qk h1 k ((h2 k).1 hk)
 move:=by
  rintro w w' G ⟨h1,h2⟩ hm
  exact⟨lZ h1 (fun k hk=>hm k ((h2 k).2 hk)),h2⟩
section
variable {F0:Nat→Prop} {w0 w w1:World} {Rs:List Res} {T:TypeId} {size n:Nat} {v v1:Value} {xs ys:List Value}
theorem wU (i:Nat) (h:St F0 w0 Rs w) (hi:Rs[i]? = some (ei T size v n xs)):w.ownsRow 0 T size v n xs:=(h.get i hi).choose_spec.1.1
theorem ei.lit (h:St F0 w0 Rs w) (cs:Array Value) (n:Nat) (hm:n≤maxLen) (hs:cs.size=n*size) :
 St F0 w0 (ei T size (.slice (some ⟨w.heap.size,0,none⟩) n n) n cs.toList::Rs) (w.alloc (.cells cs T)) :=
 h.grow (Ns := [ei T size (.slice (some ⟨w.heap.size,0,none⟩) n n) n cs.toList]) (wY ((Below.refl _ _).alloc (yn _) _))
  ⟨fun k=>k=w.heap.size,⟨World.ownsRow_lit w cs n (yw _) hm hs,fun k=>by simp[Value.ownBlock,eq_comm]⟩,fun k hk=>by omega,trivial⟩
theorem ei.grown (i:Nat) (h:St F0 w0 Rs w) (hi:Rs[i]? = some (ei T size v n xs)) {m:Nat} (ho:w1.ownsRow 0 T size v1 m ys) (hg:w.grownBy w1 v.ownBlock)
 (hat:v1.ownBlock=v.ownBlock∨ ∃ k,v1.ownBlock=some k∧w.heap.size≤k):St F0 w0 (Rs.set i (ei T size v1 m ys)) w1:=by
 refine h.step i hi (Ns := []) (fun G hG=>⟨wD hg (fun k hk=>(hG.2 k).2 hk),fun k=>v1.ownBlock=some k,⟨ho,fun _=>Iff.rfl⟩,fun k hk=> ?_,trivial⟩)
 rcases hat with h1 | ⟨k',h1,h2⟩
 ·rw[h1] at hk
  exact .inl ((hG.2 k).2 hk)
 ·rw[h1] at hk
  injection hk with hk
  subst hk
  exact .inr h2
theorem ei.set {g c:Nat} (i:Nat) (h:St F0 w0 Rs w) (hi:Rs[i]? = some (ei T size (.slice (some ⟨g,0,none⟩) n c) n xs)) (j:Nat) (u:Value) :
 St F0 w0 (Rs.set i (ei T size (.slice (some ⟨g,0,none⟩) n c) n (xs.set j u))) (w.setCell ⟨g,j,none⟩ u):=by
 have hr:=wU i h hi
 obtain⟨h1,h2⟩:=hr.stored j u
 exact ei.grown i h hi h1 h2 (.inl rfl)
theorem ei.cell {g c:Nat} (i:Nat) (h:St F0 w0 Rs w) (hi:Rs[i]? = some (ei T size (.slice (some ⟨g,0,none⟩) n c) n xs)) (j:Nat) (hj:j<n*size):w.cell? ⟨g,j,none⟩=xs[j]? ∧ w.frozen? ⟨g,j,none⟩=false :=
 ⟨(wU i h hi).cellAt j hj,(wU i h hi).frozenAt j⟩
theorem ei.form (i:Nat) (h:St F0 w0 Rs w) (hi:Rs[i]? = some (ei T size v n xs)) (hn:0<n): ∃ g c,v= .slice (some ⟨g,0,none⟩) n c:=by
 rcases (wU i h hi).2 with⟨_,h2⟩ | ⟨g,cap,cur,rfl,_⟩
 ·omega
 ·exact⟨g,cap,rfl⟩
end
open Go.RowKit Go.Deep Go.ChangeShapes
structure Rd (α:Type) where
 P:World→(Nat→Prop)→List Value→α→Prop
 mono: ∀ {w:World} {S S':Nat→Prop} {cs:List Value} {a:α},P w S cs a→(∀ k,S k→S' k)→P w S' cs a
 move: ∀ {w w':World} {S:Nat→Prop} {cs:List Value} {a:α},P w S cs a→(∀ k,S k→w'.heap[k]? = w.heap[k]?)→P w' S cs a
def intRd (q:IntKind):Rd Int where
 P:=fun _ _ cs n=>cs = [.int q n]∧(Lit.int q n).wf=true
 mono:=fun h _=>h
 move:=fun h _=>h
def boolRd:Rd Bool where
 P:=fun _ _ cs b=>cs = [.bool b]
 mono:=fun h _=>h
 move:=fun h _=>h
def unitRd:Rd Unit where
 P:=fun _ _ cs _=>cs = []
 mono:=fun h _=>h
 move:=fun h _=>h
def pairRd {α β:Type} (A:Rd α) (B:Rd β):Rd (α×β) where
 P:=fun w S cs x=> ∃ c d,cs=c++d∧A.P w S c x.1∧B.P w S d x.2
 mono:=fun ⟨c,d,h1,h2,h3⟩ hS=>⟨c,d,h1,A.mono h2 hS,B.mono h3 hS⟩
 move:=fun ⟨c,d,h1,h2,h3⟩ hS=>⟨c,d,h1,A.move h2 hS,B.move h3 hS⟩
def rowAt {α:Type} (size:Nat) (E:Rd α) (w:World) (S:Nat→Prop) (a:Addr) (l:List α):Prop :=
 ∀ i x,l[i]? = some x→ ∃ cs,cs.length=size∧(∀ j,j<size→w.cell? (a.add (i*size+j))=cs[j]?)∧E.P w S cs x
def aq {α:Type} (size:Nat) (E:Rd α):Rd (List α) where
 P:=fun w S cs l=>(cs = [.slice none 0 0]∧l = [])∨ ∃ a cap,cs = [.slice (some a) l.length cap]∧l.length≤cap∧cap≤maxLen∧(0<l.length→S a.block)∧rowAt size E w S a l
 mono:=by
  rintro w S S' cs l (h | ⟨a,cap,h1,h2,h3,h4,h5⟩) hS
  ·exact .inl h
  ·refine .inr ⟨a,cap,h1,h2,h3,fun h=>hS _ (h4 h),fun i x hx=> ?_⟩
   obtain⟨cs,k1,k2,k3⟩:=h5 i x hx
   exact⟨cs,k1,k2,E.mono k3 hS⟩
 move:=by
  rintro w w' S cs l (h | ⟨a,cap,h1,h2,h3,h4,h5⟩) hS
  ·exact .inl h
  ·refine .inr ⟨a,cap,h1,h2,h3,h4,fun i x hx=> ?_⟩
   obtain⟨cs,k1,k2,k3⟩:=h5 i x hx
   refine⟨cs,k1,fun j hj=> ?_,E.move k3 hS⟩
   rw[← k2 j hj]
   have hb:(a.add (i*size+j)).block=a.block:=block_add _ _
   have hl:0<l.length:=by have:=(xS hx).1; omega
   simp only[World.cell?,hb,hS _ (h4 hl)]
theorem ng {w:World} {b:Addr} {v:Value} (h:w.cell? b=some v):b=⟨b.block,b.off,none⟩:=by
 obtain⟨g,o,s⟩:=b
 cases s with
 | none=>rfl
 | some s =>
  simp only[World.cell?] at h
  split at h <;> simp at h
section
variable {H:Type} (enc:TypeId×Value→H) (P:Program)
def th {α:Type} (t:TypeId) (E:Rd α):Prop :=
 ∀ (w:World) (fuel:Nat) (cs:List Value) (x:DataW H×List MemPlace),DataW.trod enc P w 0 (fun _=>true) true fuel t cs=some x→ ∃ a,E.P w (fun k=>k<w.heap.size) cs a
variable {enc P}
theorem nh {t:TypeId} {q:IntKind} (ht:P.underlying t=some (.int q)):th enc P t (intRd q):=by
 intro w fuel cs x h
 obtain⟨n,rfl,_,hw⟩:=DataW.trod_int ht h
 exact⟨n,rfl,hw⟩
theorem ql {t:TypeId} (ht:P.underlying t=some .bool):th enc P t boolRd:=by
 intro w fuel cs x h
 obtain⟨b,rfl,_⟩:=DataW.trod_bool ht h
 exact⟨b,rfl⟩
variable (enc P) in
end
structure RX where
 P:World→(Nat→Prop)→Prop
 mono: ∀ {w:World} {S S':Nat→Prop},P w S→(∀ k,S k→S' k)→P w S'
 move: ∀ {w w':World} {S:Nat→Prop},P w S→(∀ k,S k→w'.heap[k]? = w.heap[k]?)→P w' S
def RX.triv:RX:=⟨fun _ _=>True,fun _ _=>trivial,fun _ _=>trivial⟩
def RX.and (X Y:RX):RX:=⟨fun w S=>X.P w S∧Y.P w S,fun h k=>⟨X.mono h.1 k,Y.mono h.2 k⟩,fun h k=>⟨X.move h.1 k,Y.move h.2 k⟩⟩
def RX.of {α:Type} (E:Rd α) (cs:List Value) (a:α):RX:=⟨fun w S=>E.P w S cs a,fun h k=>E.mono h k,fun h k=>E.move h k⟩
def RX.reads (X:RX) (w:World) (F:Nat→Prop):Prop:= ∃ S,X.P w S∧ ∀ k,S k→ ¬ F k∧k<w.heap.size
theorem vy (w:World) (F:Nat→Prop):RX.triv.reads w F:=⟨fun _=>False,trivial,fun _ h=>h.elim⟩
theorem RX.reads_and {X Y:RX} {w:World} {F:Nat→Prop} (h:X.reads w F) (k:Y.reads w F):(X.and Y).reads w F:=by
 obtain⟨S,h1,h2⟩:=h
 obtain⟨T,k1,k2⟩:=k
 exact⟨fun k=>S k∨T k,⟨X.mono h1 (fun _ h=> .inl h),Y.mono k1 (fun _ h=> .inr h)⟩,fun k hk=>hk.elim (h2 k) (k2 k)⟩
theorem wi {X Y:RX} {w:World} {F:Nat→Prop} (h:(X.and Y).reads w F):X.reads w F:=let ⟨S,h1,h2⟩:=h; ⟨S,h1.1,h2⟩
theorem wv {X Y:RX} {w:World} {F:Nat→Prop} (h:(X.and Y).reads w F):Y.reads w F:=let ⟨S,h1,h2⟩:=h; ⟨S,h1.2,h2⟩
theorem RX.reads_weaken {X:RX} {w:World} {F G:Nat→Prop} (h:X.reads w F) (hg: ∀ k,k<w.heap.size→G k→F k):X.reads w G:=let ⟨S,h1,h2⟩:=h; ⟨S,h1,fun k hk=>⟨fun g=>(h2 k hk).1 (hg k (h2 k hk).2 g),(h2 k hk).2⟩⟩
def av:Res where
 P:=fun _ G=> ∀ k,¬ G k
 lt:=fun h k hk=>(h k hk).elim
 move:=fun h _=>h
def RdR {α:Type} (E:Rd α) (cs:List Value) (a:α):Res where
 P:=fun w G=>E.P w G cs a∧ ∀ k,G k→k<w.heap.size
 lt:=fun h k hk=>h.2 k hk
 move:=fun {w w'} {G} h hm=>⟨E.move h.1 hm,fun k hk=>by
  have h1:=h.2 k hk
  have h2:=hm k hk
  rw[Array.getElem?_eq_getElem h1] at h2
  exact (Array.getElem?_eq_some_iff.1 h2).1⟩
def ar (P:Program) (f:FuncId) (args:Array Value) (X:RX) (A:Res) (Q:Value→Res→List Res→Prop):Prop :=
 ∀ F w,A.P w F→X.reads w F→Calls P f args w (lD Q F w)
section
variable {P:Program} {f:FuncId} {args:Array Value} {F0:Nat→Prop} {w0 w:World} {Rs:List Res} {A B:Res} {X Y:RX}
theorem vS {Q:Value→Res→List Res→Prop} (h:eh P f args A Q):ar P f args X A Q:=fun F w hA _=>h F w hA
theorem xj {Q:Value→List Res→Prop} (h:e9 P f args Q):ar P f args X av (fun v A' N=>A'=av∧Q v N):=by
 intro F w hA _
 refine (h w).mono ?_
 rintro e w' ⟨v,Ns,rfl,hq,hst⟩
 refine⟨v,av,Ns,rfl,⟨rfl,hq⟩,⟨hst.fr.mono (fun k h=>h.elim),fun _=>False,fun k h=>h,fun k h=>h.elim,hst.sep.mono (fun k hk=> ?_)⟩⟩
 exact⟨hk.elim (fun h=>h.elim) .inr,fun h=>h⟩
theorem wk {v:Value} (h:e9 P f args (fun u N=>u=v∧N = [])):ar P f args X av (fun u A' N=>u=v∧A'=av∧N = []):=by
 intro F w hA hX
 refine ((xj (X:=X) h) F w hA hX).mono ?_
 rintro e w' ⟨v,A',Ns,rfl,⟨rfl,rfl,rfl⟩,hst⟩
 exact⟨_,_,_,rfl,⟨rfl,rfl,rfl⟩,hst⟩
theorem wa {v:Value} (h: ∀ w,Calls P f args w fun e w'=>e= .returned v∧w=w'):ar P f args X av (fun v' A' N=>v'=v∧A'=av∧N = []):=by
 intro F w hA _
 refine (h w).mono ?_
 rintro e w' ⟨rfl,rfl⟩
 exact⟨v,av,[],rfl,⟨rfl,rfl,rfl⟩,Fr.refl _ _,fun _=>False,fun k h=>h,fun k h=>h.elim,trivial⟩
def Src (F0:Nat→Prop) (w0:World) (Rs:List Res) (w:World) (i:Nat) (X:RX):Prop :=
 ∀ A G,Rs[i]? = some A→A.P w G→(∀ k,G k→F0 k∨w0.heap.size≤k)→Sep (Rs.eraseIdx i) w (fun k=>(F0 k∨w0.heap.size≤k)∧ ¬ G k)→X.reads w G
theorem Src.triv (i:Nat):Src F0 w0 Rs w i .triv:=fun _ _ _ _ _ _=>vy _ _
theorem xk (h:St F0 w0 Rs w) (hX:X.reads w0 F0): ∃ S,X.P w S∧ ∀ k,S k→ ¬ F0 k∧k<w0.heap.size:=by
 obtain⟨S,h1,h2⟩:=hX
 exact⟨S,X.move h1 (fun k hk=>h.fr.block k (h2 k hk).2 (h2 k hk).1),h2⟩
theorem Src.old {i:Nat} (h:St F0 w0 Rs w) (hX:X.reads w0 F0):Src F0 w0 Rs w i X:=by
 intro A G _ _ h3 _
 obtain⟨S,h1,h2⟩:=xk h hX
 refine⟨S,h1,fun k hk=>⟨fun hg=> ?_,Nat.lt_of_lt_of_le (h2 k hk).2 h.fr.size⟩⟩
 rcases h3 k hg with h4 | h4
 ·exact (h2 k hk).1 h4
 ·have:=(h2 k hk).2; omega
theorem Src.res {i:Nat} (j:Nat) (hj:(Rs.eraseIdx i)[j]? = some B) (hB: ∀ w G,B.P w G→X.P w G):Src F0 w0 Rs w i X:=by
 intro A G _ _ _ h4
 obtain⟨G2,k1,k2,_⟩:=Sep.pick j hj h4
 exact⟨G2,hB w G2 k1,fun k hk=>⟨(k2 k hk).2,B.lt k1 k hk⟩⟩
theorem vK (h:St F0 w0 Rs w) (hX:X.reads w0 F0):X.reads w (fun _=>False):=by
 obtain⟨S,h1,h2⟩:=xk h hX
 exact⟨S,h1,fun k hk=>⟨fun h=>h,Nat.lt_of_lt_of_le (h2 k hk).2 h.fr.size⟩⟩
theorem wF (j:Nat) (h:St F0 w0 Rs w) (hj:Rs[j]? = some B) (hB: ∀ w G,B.P w G→X.P w G):X.reads w (fun _=>False):=by
 obtain⟨G,h1,_⟩:=h.get j hj
 exact⟨G,hB w G h1,fun k hk=>⟨fun h=>h,B.lt h1 k hk⟩⟩
theorem St.callX {Q:Value→Res→List Res→Prop} (i:Nat) (h:St F0 w0 Rs w) (hi:Rs[i]? = some A) (hs:ar P f args X A Q) (hr:Src F0 w0 Rs w i X) :
 Calls P f args w fun e w'=> ∃ v A' Ns,e= .returned v∧Q v A' Ns∧St F0 w0 (Ns++Rs.set i A') w':=by
 obtain⟨G,h1,h2,h3⟩:=Sep.pick i hi h.sep
 refine (hs G w h1 (hr A G hi h1 h2 h3)).mono ?_
 rintro e w' ⟨v,A',Ns,rfl,hq,hst⟩
 refine⟨v,A',Ns,rfl,hq,?_⟩
 obtain⟨f2,G2,k1,k2,k3⟩:=hst
 have f:=h.fr
 refine⟨f.trans f2 h2,?_⟩
 have hle:=f.size
 have hR:Sep (Rs.eraseIdx i) w' (fun k=>((F0 k∨w0.heap.size≤k)∧ ¬ G k)∧k<w.heap.size):=h3.inside.move (fun k hk _=>f2.block k hk.2 hk.1.2)
 refine Sep.append k3 (F:=fun k=>F0 k∨w0.heap.size≤k) (Sep.back i hi k1 (fun k hk=>⟨?_,fun hn=>hn.2 hk⟩) (hR.mono (fun k hk=>⟨⟨hk.1.1,?_⟩,?_⟩))) ?_
 ·rcases k2 k hk with h4 | h4
  ·exact h2 k h4
  ·exact .inr (by omega)
 ·rintro⟨h4 | h4,_⟩
  ·exact hk.1.2 h4
  ·have:=hk.2; omega
 ·intro h4
  rcases k2 k h4 with h5 | h5
  ·exact hk.1.2 h5
  ·have:=hk.2; omega
 ·rintro k ⟨h4 | h4,_⟩
  ·exact h2 k h4
  ·exact .inr (by omega)
theorem St.emp (h:St F0 w0 Rs w):St F0 w0 (av::Rs) w:=h.grow (Ns := [av]) (Fr.refl _ _) ⟨fun _=>False,fun _ h=>h,fun _ h=>h.elim,trivial⟩
theorem St.callE {Q:Value→Res→List Res→Prop} (h:St F0 w0 Rs w) (hs:ar P f args X av Q) (hr:X.reads w (fun _=>False)) :
 Calls P f args w fun e w'=> ∃ v A' Ns,e= .returned v∧Q v A' Ns∧St F0 w0 (Ns++Rs) w':=by
 have h':St F0 w0 (av::Rs) w:=h.emp
 refine (h'.callX 0 rfl hs ?_).mono ?_
 ·intro A G hA hG _ _
  have e:av=A:=by simpa using hA
  subst e
  exact RX.reads_weaken hr (fun k _ hk=>(hG k hk).elim)
 ·rintro e w' ⟨v,A',Ns,rfl,hq,hst⟩
  refine⟨v,A',Ns,rfl,hq,?_⟩
  have:=hst.del Ns.length (A:=A') (by simp)
  rwa [List.eraseIdx_append_of_length_le (yn _),Nat.sub_self] at this
theorem ak {α:Type} {c:Prop} [Decidable c] {T:Option α} {r:α} (h:(if c then T else none)=some r):c∧T=some r:=by
 by_cases hc:c
 ·rw[if_pos hc] at h; exact⟨hc,h⟩
 ·rw[if_neg hc] at h; cases h
theorem ar.start (h:A.P w F0):St F0 w [A] w:=vW F0 w (Sep.one h)
end
def resv (tmps:Array Value):ResultVar→Sem Value
 | .tmp t=>pure (tmps.getD t undef)
 | .cell a t=>do loadVar t (← asAddr (tmps.getD a undef))
section
variable {P:Program} {fn:Func} {tmps:Array Value} {w:World} {r1 r2 r3:ResultVar} {v1 v2 v3:Value}
theorem gV (fn:Func) (tmps:Array Value):results fn tmps=(do let vs ← fn.results.mapM (resv tmps); pure (if h:vs.size=1 then vs[0] else .tuple vs)):=by
 unfold results
 rfl
end
inductive Lp (R S:Type) where
 | ret (r:R)
 | go (s:S)
section
variable {α:Type}
def bV (size:Nat) (E:Rd α) (w:World) (S:Nat→Prop):List Value→List α→Prop
 | cs,[]=>cs = []
 | cs,x::xs=>(cs.take size).length=size∧E.P w S (cs.take size) x∧bV size E w S (cs.drop size) xs
variable {size:Nat} {E:Rd α} {w w':World} {S S':Nat→Prop}
theorem gW: ∀ {xs:List α} {cs:List Value},bV size E w S cs xs→(∀ k,S k→S' k)→bV size E w S' cs xs
 | [],_,h,_=>h
 | _ :: _,_,⟨h0,h1,h2⟩,k=>⟨h0,E.mono h1 k,gW h2 k⟩
theorem dM: ∀ {xs:List α} {cs:List Value},bV size E w S cs xs→(∀ k,S k→w'.heap[k]? = w.heap[k]?)→bV size E w' S cs xs
 | [],_,h,_=>h
 | _ :: _,_,⟨h0,h1,h2⟩,k=>⟨h0,E.move h1 k,dM h2 k⟩
theorem eE: ∀ {xs:List α} {cs:List Value},bV size E w S cs xs→cs.length=xs.length*size
 | [],cs,h=>by simp[show cs = [] from h]
 | x::xs,cs,⟨h0,_,h2⟩=>by
  have h3:=eE h2
  rw[yj] at h0
  rw[xT] at h3
  rw[yd,Nat.add_mul,Nat.one_mul]
  omega
theorem jo: ∀ {xs:List α} {cs news:List Value} {x:α},bV size E w S cs xs→news.length=size→E.P w S news x→bV size E w S (cs++news) (xs ++ [x])
 | [],cs,news,x,h,hl,hx=>by
  obtain rfl:cs = []:=h
  exact⟨by simp[hl],by rw[yk,List.take_of_length_le (by omega)]; exact hx,by rw[yk,List.drop_of_length_le (by omega)]; exact rfl⟩
 | y::ys,cs,news,x,⟨h0,h1,h2⟩,hl,hx=>by
  have hle:size≤cs.length:=by rw[yj] at h0; omega
  refine⟨?_,?_,?_⟩
  ·rw[List.take_append_of_le_length hle]; exact h0
  ·rw[List.take_append_of_le_length hle]; exact h1
  ·rw[List.drop_append_of_le_length hle]; exact jo h2 hl hx
theorem kz: ∀ {xs:List α} {cs:List Value} {i:Nat} {x:α},bV size E w S cs xs→xs[i]? = some x→((cs.drop (i*size)).take size).length=size∧E.P w S ((cs.drop (i*size)).take size) x
 | [],_,i,_,_,hi=>by simp at hi
 | y::ys,cs,0,x,⟨h0,h1,_⟩,hi=>by
  obtain rfl:y=x:=by simpa using hi
  rw[Nat.zero_mul,List.drop_zero]
  exact⟨h0,h1⟩
 | y::ys,cs,i+1,x,⟨_,_,h2⟩,hi=>by
  have h3:=kz (i:=i) h2 (by simpa using hi)
  rw[yz] at h3
  rwa [show size+i*size=(i+1)*size by rw[Nat.add_mul]; omega] at h3
def aF (T:TypeId) (size:Nat) (E:Rd α) (v:Value) (xs:List α):Res where
 P:=fun w G=> ∃ cells S,w.ownsRow 0 T size v xs.length cells∧bV size E w S cells xs∧(∀ k,S k→k<w.heap.size)∧(∀ k,v.ownBlock=some k→ ¬ S k)∧ ∀ k,G k↔v.ownBlock=some k∨S k
 lt:=by
  rintro w G ⟨cells,S,h1,h2,h3,h4,h5⟩ k hk
  rcases (h5 k).1 hk with h | h
  ·exact qk h1 k h
  ·exact h3 k h
 move:=by
  rintro w w' G ⟨cells,S,h1,h2,h3,h4,h5⟩ hm
  refine⟨cells,S,lZ h1 (fun k hk=>hm k ((h5 k).2 (.inl hk))),dM h2 (fun k hk=>hm k ((h5 k).2 (.inr hk))),fun k hk=> ?_,h4,h5⟩
  have h6:=h3 k hk
  have h7:=hm k ((h5 k).2 (.inr hk))
  rw[Array.getElem?_eq_getElem h6] at h7
  exact (Array.getElem?_eq_some_iff.1 h7).1
theorem ba {T:TypeId} {v:Value} {xs:List α} (hp:0<size): ∀ w G,(aF T size E v xs).P w G→(RX.of (aq size E) [v] xs).P w G:=by
 rintro w G ⟨cells,S,h1,h2,h3,h4,h5⟩
 have hb:=h1
 rcases h1.2 with⟨rfl,hn⟩ | ⟨g,cap,cur,rfl,hbg,hg,hnc,hcm,hcs,htake⟩
 ·exact .inl ⟨rfl,List.eq_nil_of_length_eq_zero hn⟩
 ·refine .inr ⟨⟨g,0,none⟩,cap,rfl,hnc,hcm,fun _=>(h5 g).2 (.inl rfl),fun i x hx=> ?_⟩
  obtain⟨k1,k2⟩:=kz h2 hx
  have hi:i<xs.length:=(xS hx).1
  refine⟨_,k1,fun j hj=> ?_,E.mono k2 (fun k hk=>(h5 k).2 (.inr hk))⟩
  have hadd:(⟨g,0,none⟩:Addr).add (i*size+j)=⟨g,i*size+j,none⟩:=by unfold Addr.add; split <;> simp_all
  have hlt:i*size+j<xs.length*size:=by
   have:(i+1)*size≤xs.length*size:=Nat.mul_le_mul_right _ (by omega)
   rw[Nat.add_mul] at this
   omega
  rw[hadd,hb.cellAt _ hlt,List.getElem?_take,if_pos hj,List.getElem?_drop]
theorem oZ {cs:List Value} {a:α}: ∀ w G,(RdR E cs a).P w G→(RX.of E cs a).P w G:=fun _ _ h=>h.1
theorem lE {F:Nat→Prop}:(RX.of (aq size E) [.slice none 0 0] []).reads w F:=⟨fun _=>False,.inl ⟨rfl,rfl⟩,fun _ h=>h.elim⟩
theorem vV {F:Nat→Prop} {A:Option Addr} {n c i:Nat} {l:List α} {x:α} (hp:0<size) (h:(RX.of (aq size E) [.slice A n c] l).reads w F) (hx:l[i]? = some x) :
 ∃ g o:Nat,A=some ⟨g,o,none⟩∧ ∃ cs,cs.length=size∧(∀ j,j<size→w.cell? ⟨g,o+i*size+j,none⟩=cs[j]?)∧(¬ F g∧g<w.heap.size)∧(RX.of E cs x).reads w F:=by
 obtain⟨S,h,hS⟩:=h
 rcases h with⟨h,rfl⟩ | ⟨a,cap,h,_,_,hb,h2⟩
 ·simp at hx
 ·injection h with h
  injection h with h3 h4 h5
  subst h3
  have hl:0<l.length:=by have:=(xS hx).1; omega
  obtain⟨cs0,k1,k2,_⟩:=h2 0 l[0] (List.getElem?_eq_getElem hl)
  have k3:=k2 0 hp
  rw[List.getElem?_eq_getElem (by omega)] at k3
  have k4:a.add (0*size+0)=a:=by simp[Addr.add]
  rw[k4] at k3
  have k5:=ng k3
  obtain⟨cs,k6,k7,k8⟩:=h2 i x hx
  refine⟨a.block,a.off,by rw[← k5],cs,k6,fun j hj=> ?_,hS _ (hb hl),S,k8,hS⟩
  rw[← k7 j hj,k5,WideShapes.add_plain,Nat.add_assoc]
theorem RX.elem' {F:Nat→Prop} {g o n c i:Nat} {l:List α} {x:α} (hp:0<size) (h:(RX.of (aq size E) [.slice (some ⟨g,o,none⟩) n c] l).reads w F) (hx:l[i]? = some x) :
 ∃ cs,cs.length=size∧(∀ j,j<size→w.cell? ⟨g,o+i*size+j,none⟩=cs[j]?)∧(¬ F g∧g<w.heap.size)∧(RX.of E cs x).reads w F:=by
 obtain⟨g',o',h1,cs,h2⟩:=vV hp h hx
 injection h1 with h1
 injection h1 with h3 h4
 subst h3 h4
 exact⟨cs,h2⟩
theorem wd {F:Nat→Prop} {A:Option Addr} {n c:Nat} {l:List α} (h:(RX.of (aq size E) [.slice A n c] l).reads w F):l.length≤9223372036854775807:=by
 obtain⟨S,h,hS⟩:=h
 rcases h with⟨h,rfl⟩ | ⟨a,cap,h,h1,h2,_⟩
 ·simp
 ·have:maxLen=9223372036854775807:=rfl
  omega
theorem St.old2 {F0:Nat→Prop} {w wr:World} {Rs:List Res} {v:Option Value} {g o:Nat} (h:St F0 w Rs wr) (hb: ¬ F0 g∧g<w.heap.size) (hc:w.cell? ⟨g,o,none⟩=v):wr.cell? ⟨g,o,none⟩=v:=by
 rw[← hc]
 have e:=h.fr.block g hb.2 hb.1
 simp only[World.cell?,e]
theorem cm {l:List α} {k:Nat} {x:α} (h:l[k]? = some x):l.drop k=x::l.drop (k+1):=by
 obtain⟨hk,rfl⟩:=xS h
 exact List.drop_eq_getElem_cons hk
theorem RdR.nil {F0:Nat→Prop} {w0:World} {Rs:List Res} (size:Nat) (E:Rd α) (h:St F0 w0 Rs w):St F0 w0 (RdR (aq size E) [.slice none 0 0] []::Rs) w :=
 h.grow (Ns := [RdR (aq size E) [.slice none 0 0] []]) (Fr.refl _ _) ⟨fun _=>False,⟨.inl ⟨rfl,rfl⟩,fun _ h=>h.elim⟩,fun _ h=>h.elim,trivial⟩
theorem aF.shut {F0:Nat→Prop} {w0:World} {Rs:List Res} {T:TypeId} {v:Value} {xs:List α} (hp:0<size) (i:Nat) (h:St F0 w0 Rs w) (hi:Rs[i]? = some (aF T size E v xs)):St F0 w0 (Rs.set i (RdR (aq size E) [v] xs)) w :=
 h.weaken i hi (fun G hG=>⟨ba hp _ _ hG,fun k hk=>(aF T size E v xs).lt hG k hk⟩)
section
variable {F0:Nat→Prop} {w0 w1:World} {Rs:List Res} {T:TypeId} {v v1:Value} {xs:List α} {B:Res}
theorem aF.nil (T:TypeId) (size:Nat) (E:Rd α) (h:St F0 w0 Rs w):St F0 w0 (aF T size E (.slice none 0 0) []::Rs) w :=
 h.grow (Ns := [aF T size E (.slice none 0 0) []]) (Fr.refl _ _) ⟨fun _=>False,⟨[],fun _=>False,World.ownsRow_nil _ _ _ _,rfl,fun _ h=>h.elim,fun _ _ h=>h,fun k=>by simp[Value.ownBlock]⟩,fun _ h=>h.elim,trivial⟩
theorem aF.lit (E:Rd α) (h:St F0 w0 Rs w) (cs:Array Value) (xs:List α) (hm:xs.length≤maxLen) (he:bV size E (w.alloc (.cells cs T)) (fun _=>False) cs.toList xs) :
 St F0 w0 (aF T size E (.slice (some ⟨w.heap.size,0,none⟩) xs.length xs.length) xs::Rs) (w.alloc (.cells cs T)) :=
 h.grow (Ns := [aF T size E (.slice (some ⟨w.heap.size,0,none⟩) xs.length xs.length) xs]) (wY ((Below.refl _ _).alloc (yn _) _))
  ⟨fun k=>k=w.heap.size,⟨cs.toList,fun _=>False,World.ownsRow_lit w cs xs.length (yw _) hm (by have:=eE he; simpa using this),he,fun _ h=>h.elim,fun _ _ h=>h,fun k=>by simp[Value.ownBlock,eq_comm]⟩,fun k hk=>by omega,trivial⟩
theorem aF.open_ (i:Nat) (h:St F0 w0 Rs w) (hi:Rs[i]? = some (aF T size E v xs)) :
 ∃ cells,w.ownsRow 0 T size v xs.length cells∧ ∀ v1 w1 news x,w1.ownsRow 0 T size v1 (xs.length+1) (cells++news)→w.grownBy w1 v.ownBlock→(v1.ownBlock=v.ownBlock∨ ∃ k,v1.ownBlock=some k∧w.heap.size≤k)→news.length=size →
  (∀ w S,E.P w S news x)→St F0 w0 (Rs.set i (aF T size E v1 (xs ++ [x]))) w1:=by
 obtain⟨f,hs⟩:=h
 obtain⟨G,⟨cells,S,h1,h2,h3,h4,h5⟩,hG,hr⟩:=Sep.pick i hi hs
 refine⟨cells,h1,fun v1 w1 news x ho hg hat hl hx=> ?_⟩
 have hst:St F0 w0 Rs w:=⟨f,hs⟩
 have hne: ∀ k,S k→k<w.heap.size∧some k≠v.ownBlock:=fun k hk=>⟨h3 k hk,fun e=>h4 k e.symm hk⟩
 have hS1:bV size E w1 S cells xs:=dM h2 (fun k hk=>hg.block k (hne k hk).1 (hne k hk).2)
 have hle:=hg.size
 have f2:Fr G w w1:=wD hg (fun k hk=>(h5 k).2 (.inl hk))
 refine⟨f.trans f2 hG,?_⟩
 have hfs:=f.size
 have hR:Sep (Rs.eraseIdx i) w1 (fun k=>((F0 k∨w0.heap.size≤k)∧ ¬ G k)∧k<w.heap.size):=hr.inside.move (fun k hk _=>f2.block k hk.2 hk.1.2)
 refine Sep.back (G:=fun k=>v1.ownBlock=some k∨S k) i hi ⟨cells++news,S,?_,jo hS1 hl (hx _ _),fun k hk=>Nat.lt_of_lt_of_le (h3 k hk) hle,?_,fun _=>Iff.rfl⟩ ?_ (hR.mono (fun k hk=>⟨hk.1.1,?_⟩))
 ·rw[xR]; exact ho
 ·intro k hk
  rcases hat with e | ⟨k',e,hk'⟩
  ·rw[e] at hk; exact h4 k hk
  ·rw[e] at hk
   injection hk with hk
   subst hk
   intro hs'
   have:=h3 _ hs'
   omega
 ·rintro k (hk | hk)
  ·rcases hat with e | ⟨k',e,hk'⟩
   ·rw[e] at hk; exact hG k ((h5 k).2 (.inl hk))
   ·rw[e] at hk
    injection hk with hk
    subst hk
    exact .inr (by omega)
  ·exact hG k ((h5 k).2 (.inr hk))
 ·rintro (h6 | h6)
  ·rcases hat with e | ⟨k',e,hk'⟩
   ·rw[e] at h6; exact hk.1.2 ((h5 k).2 (.inl h6))
   ·rw[e] at h6
    injection h6 with h6
    subst h6
    have:=hk.2
    omega
  ·exact hk.1.2 ((h5 k).2 (.inr h6))
theorem aF.open2 (i j:Nat) (h:St F0 w0 Rs w) (hi:Rs[i]? = some (aF T size E v xs)) (hj:(Rs.eraseIdx i)[j]? = some B) :
 ∃ cells,w.ownsRow 0 T size v xs.length cells∧ ∀ v1 w1 news x,w1.ownsRow 0 T size v1 (xs.length+1) (cells++news)→w.grownBy w1 v.ownBlock→(v1.ownBlock=v.ownBlock∨ ∃ k,v1.ownBlock=some k∧w.heap.size≤k)→news.length=size →
  (∀ w G,B.P w G→E.P w G news x)→St F0 w0 (aF T size E v1 (xs ++ [x])::(Rs.eraseIdx i).eraseIdx j) w1:=by
 obtain⟨f,hs⟩:=h
 obtain⟨G,⟨cells,S,h1,h2,h3,h4,h5⟩,hG,hr⟩:=Sep.pick i hi hs
 obtain⟨H,hB,hH,hr2⟩:=Sep.pick j hj hr
 refine⟨cells,h1,fun v1 w1 news x ho hg hat hl hx=> ?_⟩
 have hne: ∀ k,S k→k<w.heap.size∧some k≠v.ownBlock:=fun k hk=>⟨h3 k hk,fun e=>h4 k e.symm hk⟩
 have hS1:bV size E w1 S cells xs:=dM h2 (fun k hk=>hg.block k (hne k hk).1 (hne k hk).2)
 have hle:=hg.size
 have f2:Fr G w w1:=wD hg (fun k hk=>(h5 k).2 (.inl hk))
 have hfs:=f.size
 have hB1:B.P w1 H:=B.move hB (fun k hk=>f2.block k (B.lt hB k hk) (hH k hk).2)
 refine⟨f.trans f2 hG,?_⟩
 have hR:Sep ((Rs.eraseIdx i).eraseIdx j) w1 (fun k=>(((F0 k∨w0.heap.size≤k)∧ ¬ G k)∧ ¬ H k)∧k<w.heap.size):=hr2.inside.move (fun k hk _=>f2.block k hk.2 hk.1.1.2)
 have hlt1:=B.lt hB
 refine⟨fun k=>v1.ownBlock=some k∨(S k∨H k),⟨cells++news,fun k=>S k∨H k,?_,jo (gW hS1 (fun _ h=> .inl h)) hl (E.mono (hx _ _ hB1) (fun _ h=> .inr h)),?_,?_,fun _=>Iff.rfl⟩,?_,hR.mono (fun k hk=>⟨hk.1.1.1,?_⟩)⟩
 ·rw[xR]; exact ho
 ·rintro k (hk | hk)
  ·exact Nat.lt_of_lt_of_le (h3 k hk) hle
  ·exact Nat.lt_of_lt_of_le (hlt1 k hk) hle
 ·intro k hk
  rcases hat with e | ⟨k',e,hk'⟩
  ·rw[e] at hk
   rintro (h6 | h6)
   ·exact h4 k hk h6
   ·exact (hH k h6).2 ((h5 k).2 (.inl hk))
  ·rw[e] at hk
   injection hk with hk
   subst hk
   rintro (h6 | h6)
   ·have:=h3 _ h6; omega
   ·have:=hlt1 _ h6; omega
 ·rintro k (hk | hk | hk)
  ·rcases hat with e | ⟨k',e,hk'⟩
   ·rw[e] at hk; exact hG k ((h5 k).2 (.inl hk))
   ·rw[e] at hk
    injection hk with hk
    subst hk
    exact .inr (by omega)
  ·exact hG k ((h5 k).2 (.inr hk))
  ·exact (hH k hk).1
 ·rintro (h6 | h6 | h6)
  ·rcases hat with e | ⟨k',e,hk'⟩
   ·rw[e] at h6; exact hk.1.1.2 ((h5 k).2 (.inl h6))
   ·rw[e] at h6
    injection h6 with h6
    subst h6
    have:=hk.2
    omega
  ·exact hk.1.1.2 ((h5 k).2 (.inr h6))
  ·exact hk.1.2 h6
end
end
section
variable {P:Program} (w:World)
end
set_option linter.unusedSimpArgs false
def aU (b:Nat) (st:List UInt8×Int):Res where
 P:=fun w G=> ∃ v,w.heap[b]? = some (.cells #[v,.int .i64 st.2] 84 (0,0))∧w.ownsRow 0 5 1 v st.1.length (aD st.1)∧ ∀ k,G k↔k=b∨v.ownBlock=some k
 lt:=by
  rintro w G ⟨v,h1,h2,h3⟩ k hk
  rcases (h3 k).1 hk with rfl | h
  ·exact jO h1
  ·exact qk h2 k h
 move:=by
  rintro w w' G ⟨v,h1,h2,h3⟩ hm
  exact⟨v,(hm _ ((h3 _).2 (.inl rfl))).trans h1,lZ h2 (fun k hk=>hm k ((h3 k).2 (.inr hk))),h3⟩
theorem jQ:(Tryz.prog.info? 5).map (fun i=>(i.zero,i.size,i.bytes))=some (some (.int .u8 0),1,1):=by kernel_rfl
theorem aU.stored {b:Nat} {l m:List UInt8} {w w1:World} {v v1:Value} {F:Nat→Prop} (hb:w.heap[b]? = some (.cells #[v,.int .i64 0] 84 (0,0))) (ho:w.ownsRow 0 5 1 v l.length (aD l)) (hF: ∀ k,F k↔k=b∨v.ownBlock=some k)
 {n:Nat} (ho1:w1.ownsRow 0 5 1 v1 n (aD m)) (hg:w.grownBy w1 v.ownBlock) (hat:v1.ownBlock=v.ownBlock∨ ∃ k,v1.ownBlock=some k∧w.heap.size≤k) :
 St F w [aU b (m,0)] (w1.setCell ⟨b,0,none⟩ v1):=by
 have hn:n=m.length:=by have:=ho1.1; simpa [aD] using this.symm
 subst hn
 have hne:=lY ho hb (by decide)
 have hb1:w1.heap[b]? = some (.cells #[v,.int .i64 0] 84 (0,0)):=(hg.block b (jO hb) hne).trans hb
 have hne1:=lY ho1 hb1 (by decide)
 refine⟨((Fr.refl F w).trans (wD (F:=F) hg (fun k hk=>(hF k).2 (.inr hk))) (fun k hk=> .inl hk)).set (p:=⟨b,0,none⟩) (.inl ((hF b).2 (.inl rfl))) v1,?_⟩
 refine⟨fun k=>k=b∨v1.ownBlock=some k,⟨v1,by simpa using jN hb1 0 v1,rx ho1 hne1 v1,fun _=>Iff.rfl⟩,?_,trivial⟩
 rintro k (rfl | hk)
 ·exact .inl ((hF k).2 (.inl rfl))
 ·rcases hat with h | ⟨k',h,h'⟩
  ·rw[h] at hk
   exact .inl ((hF k).2 (.inr hk))
  ·rw[h] at hk
   injection hk with hk
   subst hk
   exact .inr h'
theorem xa {b:Nat} {st:List UInt8×Int} {w w':World} {F:Nat→Prop} (h:(aU b st).P w F) (n:Nat) (hw:w'=w.drewN n):St F w [aU b st] w':=by
 subst hw
 exact (vW F w (Sep.one h)).drewN n
def ed (st:List UInt8×Int) (l:List UInt8):List UInt8×Int:=if st.2=0 then (st.1++l,0) else st
def ga (st:List UInt8×Int) (e:Int):List UInt8×Int:=if st.2=0 then (st.1,e) else st
theorem iM (b:Nat) (st:List UInt8×Int) (e:Int):eh Tryz.prog 66 #[.pointer (some ⟨b,0,none⟩),.int .i64 e] (aU b st) (fun v A' N=>v= .tuple #[]∧A'=aU b (ga st e)∧N = []):=by
 rintro F w ⟨v,hb,ho,hF⟩
 obtain⟨l,er⟩:=st
 have c1:w.cell? ⟨b,1,none⟩=some (.int .i64 er):=(aM hb 1).trans rfl
 have f1:w.frozen? ⟨b,1,none⟩=false:=ck hb 1
 by_cases h0:er=0
 ·subst h0
  have HB:=Lib.hid hb
  have HO:=Lib.hid ho
  clear hb ho
  go_enter Tryz.func66,Tryz.ntmps66
  go_wp2
  go_end0
  refine⟨_,_,_,rfl,⟨rfl,rfl,rfl⟩,(Fr.refl F w).set (.inl ((hF b).2 (.inl rfl))) _,F,?_,fun k hk=> .inl hk,trivial⟩
  have hne:=lY HO.out HB.out (by decide)
  exact⟨v,by simpa [ga] using jN HB.out 1 (.int .i64 e),rx HO.out hne _,hF⟩
 ·have HB:=Lib.hid hb
  have HO:=Lib.hid ho
  have H0:(er == 0)=false:=beq_eq_false_iff_ne.2 h0
  clear hb ho
  go_enter Tryz.func66,Tryz.ntmps66
  go_wp2
  go_end0
  exact⟨_,_,_,rfl,⟨rfl,rfl,rfl⟩,xa ⟨v,by simpa [ga,h0] using HB.out,by simpa [ga,h0] using HO.out,hF⟩ 0 rfl⟩
theorem o4 (b:Nat) (st:List UInt8×Int) (s:ByteArray) (hl:st.1.length+s.size≤140737488355328) :
 eh Tryz.prog 40 #[.pointer (some ⟨b,0,none⟩),.string s] (aU b st) (fun v A' N=>v= .tuple #[]∧A'=aU b (ed st s.data.toList)∧N = []):=by
 rintro F w ⟨v,hb,ho,hF⟩
 obtain⟨l,er⟩:=st
 have c0:w.cell? ⟨b,0,none⟩=some v:=(aM hb 0).trans rfl
 have c1:w.cell? ⟨b,1,none⟩=some (.int .i64 er):=(aM hb 1).trans rfl
 by_cases h0:er=0
 ·subst h0
  have HB:=Lib.hid hb
  have HO:=Lib.hid ho
  clear hb ho
  go_enter Tryz.func40,Tryz.ntmps40
  go_wp2_with (at_builtin; refine ky w rfl _ _ _ _ rfl 5 Tryz.underlying22 Tryz.underlying9 jQ v l.length (aD l) rfl HO.out s rfl hl ?_; intro v1 w1 ho1 hg hat; obtain⟨a1,k1,rfl⟩:=fD ho1; have HO1:=Lib.hid ho1; clear ho1; have HN:=Lib.hid (lY HO.out HB.out (by decide)); have HB1:=Lib.hid (show w1.heap[b]? = _ from (hg.block b (jO HB.out) HN.out).trans HB.out); have d0:w1.cell? ⟨b,0,none⟩=some v:=(aM HB1.out 0).trans rfl; have e0:w1.frozen? ⟨b,0,none⟩=false:=ck HB1.out 0; have HG:=Lib.hid hg; have HAT:=Lib.hid hat; clear hg hat)
  go_end0
  have ho1:=HO1.out
  rw[jc,← gx] at ho1
  refine⟨_,_,_,rfl,⟨rfl,rfl,rfl⟩,?_⟩
  have:=aU.stored HB.out HO.out hF ho1 HG.out (by rcases HAT.out with h | h; exact .inl h; exact .inr ⟨_,h,yn _⟩)
  simpa [ed] using this
 ·have HB:=Lib.hid hb
  have HO:=Lib.hid ho
  have H0:(er == 0)=false:=beq_eq_false_iff_ne.2 h0
  clear hb ho
  go_enter Tryz.func40,Tryz.ntmps40
  go_wp2_with fail
  go_end0
  exact⟨_,_,_,rfl,⟨rfl,rfl,rfl⟩,xa ⟨v,by simpa [ed,h0] using HB.out,by simpa [ed,h0] using HO.out,hF⟩ 0 rfl⟩
theorem sk (b:Nat) (st:List UInt8×Int) (c:UInt8) (hl:st.1.length+1≤140737488355328) :
 eh Tryz.prog 89 #[.pointer (some ⟨b,0,none⟩),.int .u8 c.toNat] (aU b st) (fun v A' N=>v= .tuple #[]∧A'=aU b (ed st [c])∧N = []):=by
 rintro F w ⟨v,hb,ho,hF⟩
 obtain⟨l,er⟩:=st
 have c0:w.cell? ⟨b,0,none⟩=some v:=(aM hb 0).trans rfl
 have c1:w.cell? ⟨b,1,none⟩=some (.int .i64 er):=(aM hb 1).trans rfl
 by_cases h0:er=0
 ·subst h0
  have HB:=Lib.hid hb
  have HO:=Lib.hid ho
  clear hb ho
  go_enter Tryz.func89,Tryz.ntmps89
  go_wp2_with (at_builtin; refine gy w rfl _ _ _ rfl 5 (.int .u8 0) 1 Tryz.underlying22 jQ rfl v l.length (aD l) rfl HO.out (.int .u8 c.toNat) rfl rfl (by simpa using hl) hl ?_; intro v1 w1 ho1 hg hat; obtain⟨a1,k1,rfl⟩:=fD ho1; have HO1:=Lib.hid ho1; clear ho1; have HN:=Lib.hid (lY HO.out HB.out (by decide)); have HB1:=Lib.hid (show w1.heap[b]? = _ from (hg.block b (jO HB.out) HN.out).trans HB.out); have d0:w1.cell? ⟨b,0,none⟩=some v:=(aM HB1.out 0).trans rfl; have e0:w1.frozen? ⟨b,0,none⟩=false:=ck HB1.out 0; have HG:=Lib.hid hg; have HAT:=Lib.hid hat; clear hg hat)
  go_end0
  have ho1:=HO1.out
  rw[show ([Value.int .u8 c.toNat]:List Value)=aD [c] from rfl,← gx] at ho1
  refine⟨_,_,_,rfl,⟨rfl,rfl,rfl⟩,?_⟩
  have:=aU.stored HB.out HO.out hF ho1 HG.out HAT.out
  simpa [ed] using this
 ·have HB:=Lib.hid hb
  have HO:=Lib.hid ho
  have H0:(er == 0)=false:=beq_eq_false_iff_ne.2 h0
  clear hb ho
  go_enter Tryz.func89,Tryz.ntmps89
  go_wp2_with fail
  go_end0
  exact⟨_,_,_,rfl,⟨rfl,rfl,rfl⟩,xa ⟨v,by simpa [ed,h0] using HB.out,by simpa [ed,h0] using HO.out,hF⟩ 0 rfl⟩
def o5 (st:List UInt8×Int):Value:=if st.2=0 then .tuple #[.string ⟨st.1.toArray⟩,.int .i64 0] else .tuple #[.string ⟨#[]⟩,.int .i64 st.2]
theorem sn (b:Nat) (st:List UInt8×Int):eh Tryz.prog 35 #[.pointer (some ⟨b,0,none⟩)] (aU b st) (fun v A' N=>v=o5 st∧A'=aU b st∧N = []):=by
 rintro F w ⟨v,hb,ho,hF⟩
 obtain⟨l,er⟩:=st
 have c0:w.cell? ⟨b,0,none⟩=some v:=(aM hb 0).trans rfl
 have c1:w.cell? ⟨b,1,none⟩=some (.int .i64 er):=(aM hb 1).trans rfl
 have hc:=jl (P:=Tryz.prog) w (src:=22) (dst:=9) Tryz.underlying22 Tryz.underlying5 Tryz.underlying9 ho
 have HB:=Lib.hid hb
 have HO:=Lib.hid ho
 clear hb ho
 by_cases h0:er=0
 ·subst h0
  go_enter Tryz.func35,Tryz.ntmps35
  go_wp2
  go_ret2
  exact⟨_,_,_,rfl,⟨by simp[o5],rfl,rfl⟩,xa ⟨_,HB.out,HO.out,hF⟩ 0 rfl⟩
 ·have H0:(er != 0)=true:=bne_iff_ne.2 h0
  go_enter Tryz.func35,Tryz.ntmps35
  go_wp2
  go_quiet (fail)
  go_wp2
  go_ret2
  exact⟨_,_,_,rfl,⟨by simp[o5,h0],rfl,rfl⟩,xa ⟨_,HB.out,HO.out,hF⟩ _ rfl⟩
def bq (n size:Int):Bool:=decide (1≤size) && decide (size≤8) && decide (-(2 ^ (8*size.toNat - 1):Int)≤n) && decide (n≤(2 ^ (8*size.toNat - 1):Int) - 1)
theorem w64max:wrap64 (wrap64 9223372036854775808 - 1)=9223372036854775807:=by unfold wrap64; omega
theorem eF {k:IntKind} {a b:Int} (h:a=b):Ending.returned (.int k a)= .returned (.int k b):=by rw[h]
theorem l6 {a b:Bool} (h:a=b):Ending.returned (.bool a)= .returned (.bool b):=by rw[h]
theorem ij (n size:Int) (w:World) (h0: -9223372036854775808≤n) (h1:n≤9223372036854775807) :
 Calls Tryz.prog 85 #[.int .i64 n,.int .i64 size] w fun e w'=>e= .returned (.bool (bq n size))∧w=w':=by
 by_cases hs:1≤size∧size≤8
 ·have hk:size=1∨size=2∨size=3∨size=4∨size=5∨size=6∨size=7∨size=8:=by omega
  rcases hk with rfl | rfl | rfl | rfl | rfl | rfl | rfl | rfl
  all_goals
   clear hs
   go_enter Tryz.func85,Tryz.ntmps85
   go_wp2
   all_goals (go_ret; exact⟨l6 (by have:=w64max; rw[Bool.eq_iff_iff]; simp[bq,wrap64]; omega),rfl⟩)
 ·by_cases h2:size<1
  ·go_enter Tryz.func85,Tryz.ntmps85
   go_wp2
   go_ret
   exact⟨l6 (by simp[bq]; omega),rfl⟩
  ·have h3:8<size:=by omega
   go_enter Tryz.func85,Tryz.ntmps85
   go_wp2
   go_ret
   exact⟨l6 (by simp[bq]; omega),rfl⟩
def be (n:Int) (size:Nat):List UInt8:=(List.range size).map fun i=>UInt8.ofNat ((n / (2 ^ (8*(size - 1 - i)):Int)) % 256).toNat
def so (st:List UInt8×Int) (n size:Int):List UInt8×Int:=if bq n size then ed st (be n size.toNat) else ga st 11
theorem o6 (st:List UInt8×Int):ed st []=st:=by
 obtain⟨l,e⟩:=st
 by_cases h:e=0 <;> simp[ed,h]
theorem kA (st:List UInt8×Int) (a b:List UInt8):ed (ed st a) b=ed st (a++b):=by
 obtain⟨l,e⟩:=st
 by_cases h:e=0 <;> simp[ed,h]
theorem gX (b:Nat) (st:List UInt8×Int) (c:Int) (h0:0≤c) (h1:c<256) (hl:st.1.length+1≤140737488355328) :
 eh Tryz.prog 89 #[.pointer (some ⟨b,0,none⟩),.int .u8 c] (aU b st) (fun v A' N=>v= .tuple #[]∧A'=aU b (ed st [UInt8.ofNat c.toNat])∧N = []):=by
 have h:=sk b st (UInt8.ofNat c.toNat) hl
 rwa [show ((UInt8.ofNat c.toNat).toNat:Int)=c from by simp[UInt8.toNat_ofNat']; omega] at h
theorem l7 (st:List UInt8×Int) (a:List UInt8):(ed st a).1.length≤st.1.length+a.length:=by
 unfold ed; split <;> simp
theorem o7 (b:Nat) (st:List UInt8×Int) (n size:Int) (h0: -9223372036854775808≤n) (h1:n≤9223372036854775807) (hl:st.1.length+8≤140737488355328) :
 eh Tryz.prog 70 #[.pointer (some ⟨b,0,none⟩),.int .i64 n,.int .i64 size] (aU b st) (fun v A' N=>v= .tuple #[]∧A'=aU b (so st n size)∧N = []):=by
 intro F w hA
 by_cases hf:bq n size=true
 ·have hs:1≤size∧size≤8:=by simp[bq] at hf; omega
  obtain⟨k,rfl⟩: ∃ k:Nat,size=k:=⟨size.toNat,by omega⟩
  have HF:=Lib.hid hf
  clear hf
  have HA:=Lib.hid (vW F w (Sep.one hA))
  clear hA
  go_enter Tryz.func70,Tryz.ntmps70
  go_wp2_with fail
  refine (ij n k w h0 h1).mono ?_
  rintro e w' ⟨rfl,rfl⟩
  rw[HF.out]
  go_wp2_with fail
  go_loopw [6,14] (fun _ i wr=> ∃ j:Nat,j≤k∧i= .int .i64 j∧St F w [aU b (ed st ((be n k).take j))] wr) (fun _ i _=>k - (intOf i).toNat)
  case atStart=>exact⟨0,by omega,rfl,by simpa [o6] using HA.out⟩
  case round =>
   obtain⟨j,hj,rfl,hst⟩:=hrel
   have HS:=Lib.hid hst
   clear hst
   by_cases hlt:j<k
   ·go_wp2_with fail
    have hle:((be n k).take j).length=j:=by simp[be]; omega
    have hl2:=l7 st ((be n k).take j)
    refine (HS.out.call 0 rfl (gX b _ _ (by omega) (by omega) (by omega))).mono ?_
    rintro e w1 ⟨v,A',N,rfl,⟨rfl,rfl,rfl⟩,H1⟩
    have HS1:=Lib.hid H1
    clear H1 hle hl2
    go_wp2_with fail
    go_roundw
    case rel =>
     refine⟨j+1,by omega,by go_num,?_⟩
     have:=HS1.out
     rw[kA] at this
     have e1:(be n k).take (j+1)=(be n k).take j ++ [UInt8.ofNat ((n / (2 ^ (8*(k - 1 - j)):Int)) % 256).toNat]:=by
      rw[List.take_succ_eq_append_getElem (by simp[be]; omega)]
      simp[be]
     rw[e1]
     exact this
    case measure=>simp[intOf]; omega
   ·have e1:j=k:=by omega
    have e2:(be n k).take k=be n k:=List.take_of_length_le (by simp[be])
    go_wp2_with fail
    go_end0
    refine⟨_,_,_,rfl,⟨rfl,rfl,rfl⟩,?_⟩
    have:=HS.out
    rw[e1,e2] at this
    simpa [so,HF.out] using this
 ·have HF:=Lib.hid (show bq n size=false by simpa using hf)
  clear hf
  have HA:=Lib.hid (vW F w (Sep.one hA))
  clear hA
  go_enter Tryz.func70,Tryz.ntmps70
  go_wp2_with fail
  refine (ij n size w h0 h1).mono ?_
  rintro e w' ⟨rfl,rfl⟩
  rw[HF.out]
  go_wp2_with fail
  refine (HA.out.call 0 rfl (iM b _ 11)).mono ?_
  rintro e w1 ⟨v,A',N,rfl,⟨rfl,rfl,rfl⟩,H1⟩
  have HS1:=Lib.hid H1
  clear H1
  go_wp2_with fail
  go_end0
  refine⟨_,_,_,rfl,⟨rfl,rfl,rfl⟩,?_⟩
  simpa [so,HF.out] using HS1.out
structure I where
 rest:List UInt8
 pos:Nat
 err:Int
def aC (l:List UInt8):ByteArray:=⟨l.toArray⟩
abbrev jS (l:List UInt8):Value:= .string (aC l)
theorem aR (l:List UInt8):(aC l).size=l.length:=by simp[aC,ByteArray.size]
theorem cn (l:List UInt8):(aC l).data.toList=l:=by simp[aC]
theorem dr (l:List UInt8):(aC l).toList=l:=ByteArray.toList_mk l
theorem ik (s:ByteArray) (a b:Nat):s.extract a b=aC ((s.data.toList.drop a).take (b - a)):=by
 apply ByteArray.ext
 apply Array.ext'
 simp[aC,ByteArray.data_extract,List.extract_eq_take_drop]
def InR (b:Nat) (st:I):Res where
 P:=fun w G=> ∃ s:ByteArray,w.heap[b]? = some (.cells #[.string s,.int .i64 st.pos,.int .i64 st.err] 104 (0,0))∧st.pos+st.rest.length=s.size∧s.size≤9223372036854775807∧s.data.toList.drop st.pos=st.rest∧ ∀ k,G k↔k=b
 lt:=by
  rintro w G ⟨s,h1,_,_,_,h3⟩ k hk
  rw[(h3 k).1 hk]
  exact jO h1
 move:=by
  rintro w w' G ⟨s,h1,h2,h3,h4,h5⟩ hm
  exact⟨s,(hm _ ((h5 _).2 rfl)).trans h1,h2,h3,h4,h5⟩
theorem InR.kept {b:Nat} {st:I} {w w':World} {F:Nat→Prop} (h:(InR b st).P w F) (n:Nat) (hw:w'=w.drewN n):St F w [InR b st] w':=by
 subst hw
 exact (vW F w (Sep.one h)).drewN n
def cA (st:I) (e:Int):I:=if st.err=0 then { st with err:=e } else st
def bf (st:I) (n:Int):List UInt8×I :=
 if st.err≠0 then ([],st) else if n<0 then ([],{ st with err:=4 }) else if st.rest.length<n then ([],{ st with err:=1 })
 else (st.rest.take n.toNat,{ st with rest:=st.rest.drop n.toNat,pos:=st.pos+n.toNat })
theorem tj (s:ByteArray) (hs:s.size≤9223372036854775807) :
 e9 Tryz.prog 21 #[.string s] (fun v N=> ∃ b,v= .pointer (some ⟨b,0,none⟩)∧N = [InR b ⟨s.data.toList,0,0⟩]):=by
 intro w
 go_enter Tryz.func21,Tryz.ntmps21
 go_wp2
 go_ret
 refine⟨_,_,rfl,⟨_,rfl,rfl⟩,?_⟩
 refine (((wu w).alloc #[.string s,.int .i64 0,.int .i64 0] 104).weaken 0 rfl (A':=InR w.heap.size ⟨s.data.toList,0,0⟩) ?_)
 rintro G ⟨h1,h2⟩
 exact⟨s,h1,by simp,hs,rfl,h2⟩
theorem ej (b:Nat) (st:I) (e:Int):eh Tryz.prog 48 #[.pointer (some ⟨b,0,none⟩),.int .i64 e] (InR b st) (fun v A' N=>v= .tuple #[]∧A'=InR b (cA st e)∧N = []):=by
 rintro F w ⟨s,hb,h2,h3,h4,hF⟩
 have c2:w.cell? ⟨b,2,none⟩=some (.int .i64 st.err):=(aM hb 2).trans rfl
 have f2:w.frozen? ⟨b,2,none⟩=false:=ck hb 2
 have HB:=Lib.hid hb
 have H4:=Lib.hid h4
 have H2:=Lib.hid h2
 clear hb h4 h2
 by_cases h0:st.err=0
 ·have H0:(st.err == 0)=true:=beq_iff_eq.2 h0
  have HH:=Lib.hid h0
  clear h0
  go_enter Tryz.func48,Tryz.ntmps48
  go_wp2
  go_end0
  refine⟨_,_,_,rfl,⟨rfl,rfl,rfl⟩,(Fr.refl F w).set (.inl ((hF b).2 rfl)) _,F,?_,fun k hk=> .inl hk,trivial⟩
  exact⟨s,by simpa [cA,HH.out] using jN HB.out 2 (.int .i64 e),by simpa [cA,HH.out] using H2.out,h3,by simpa [cA,HH.out] using H4.out,hF⟩
 ·have H0:(st.err == 0)=false:=beq_eq_false_iff_ne.2 h0
  have HH:=Lib.hid h0
  clear h0
  go_enter Tryz.func48,Tryz.ntmps48
  go_wp2
  go_end0
  refine⟨_,_,_,rfl,⟨rfl,rfl,rfl⟩,InR.kept (st:=cA st e) ?_ 0 rfl⟩
  rw[show cA st e=st by simp[cA,HH.out]]
  exact⟨s,HB.out,H2.out,h3,H4.out,hF⟩
theorem kB (b:Nat) (st:I):eh Tryz.prog 80 #[.pointer (some ⟨b,0,none⟩)] (InR b st) (fun v A' N=>v= .int .i64 st.rest.length∧A'=InR b st∧N = []):=by
 rintro F w ⟨s,hb,h2,h3,h4,hF⟩
 have c0:w.cell? ⟨b,0,none⟩=some (.string s):=(aM hb 0).trans rfl
 have c1:w.cell? ⟨b,1,none⟩=some (.int .i64 st.pos):=(aM hb 1).trans rfl
 have HB:=Lib.hid hb
 have H4:=Lib.hid h4
 have H2:=Lib.hid h2
 have h2a:st.pos≤s.size:=by omega
 clear hb h4 h2
 go_enter Tryz.func80,Tryz.ntmps80
 go_wp2
 go_quiet (fail)
 go_wp2
 go_ret
 have e1:(s.size:Int) - st.pos=st.rest.length:=by have:=H2.out; omega
 exact⟨_,_,_,eF e1,⟨rfl,rfl,rfl⟩,InR.kept ⟨s,HB.out,H2.out,h3,H4.out,hF⟩ _ rfl⟩
theorem bU (b:Nat) (st:I) (n:Int) (hn0: -9223372036854775808≤n) (hn1:n≤9223372036854775807) :
 eh Tryz.prog 47 #[.pointer (some ⟨b,0,none⟩),.int .i64 n] (InR b st) (fun v A' N=>v= .string (aC (bf st n).1)∧A'=InR b (bf st n).2∧N = []):=by
 rintro F w ⟨s,hb,h2,h3,h4,hF⟩
 have hA:(InR b st).P w F:=⟨s,hb,h2,h3,h4,hF⟩
 have c0:w.cell? ⟨b,0,none⟩=some (.string s):=(aM hb 0).trans rfl
 have c1:w.cell? ⟨b,1,none⟩=some (.int .i64 st.pos):=(aM hb 1).trans rfl
 have c2:w.cell? ⟨b,2,none⟩=some (.int .i64 st.err):=(aM hb 2).trans rfl
 have f1:w.frozen? ⟨b,1,none⟩=false:=ck hb 1
 have HB:=Lib.hid hb
 have H4:=Lib.hid h4
 have H2:=Lib.hid h2
 have HA:=Lib.hid (vW F w (Sep.one hA))
 have h2a:st.pos≤s.size:=by omega
 have h2b: ¬ ((s.size:Int) - st.pos<n)↔n≤st.rest.length:=by omega
 have H2b:=Lib.hid h2b
 clear hb h4 h2 hA h2b
 by_cases h0:st.err=0
 ·have H0:(st.err != 0)=false:=by simp[h0]
  have HH:=Lib.hid h0
  clear h0
  by_cases hn:n<0
  ·have HT:=Lib.hid (show bf st n=([],cA st 4) by simp[bf,HH.out,hn,cA])
   go_enter Tryz.func47,Tryz.ntmps47
   go_wp2_with fail
   refine (HA.out.call 0 rfl (ej b st 4)).mono ?_
   rintro e w1 ⟨v,A',N,rfl,⟨rfl,rfl,rfl⟩,H1⟩
   have HS1:=Lib.hid H1
   clear H1
   go_wp2_with fail
   go_ret
   exact⟨_,_,_,rfl,⟨by rw[HT.out]; rfl,rfl,rfl⟩,by rw[HT.out]; exact HS1.out⟩
  ·by_cases hl:(st.rest.length:Int)<n
   ·have hl2:(s.size:Int) - st.pos<n:=by have:=H2.out; omega
    have HT:=Lib.hid (show bf st n=([],cA st 1) by simp[bf,HH.out,hn,cA,hl])
    go_enter Tryz.func47,Tryz.ntmps47
    go_wp2_with fail
    go_quiet (fail)
    go_wp2_with fail
    refine ((HA.out.drewN _).call 0 rfl (ej b st 1)).mono ?_
    rintro e w1 ⟨v,A',N,rfl,⟨rfl,rfl,rfl⟩,H1⟩
    have HS1:=Lib.hid H1
    clear H1
    go_wp2_with fail
    go_ret
    exact⟨_,_,_,rfl,⟨by rw[HT.out]; rfl,rfl,rfl⟩,by rw[HT.out]; exact HS1.out⟩
   ·have hl2: ¬ ((s.size:Int) - st.pos<n):=by have:=H2.out; omega
    obtain⟨m,rfl⟩: ∃ m:Nat,n=m:=⟨n.toNat,by omega⟩
    have hl3:st.pos+m≤s.size:=by omega
    have HT:=Lib.hid (show bf st m=(st.rest.take m,{ st with rest:=st.rest.drop m,pos:=st.pos+m }) by
     have: ¬ (st.rest.length<m):=by omega
     simp[bf,HH.out,this])
    go_enter Tryz.func47,Tryz.ntmps47
    go_wp2_with fail
    go_quiet (fail)
    go_wp2_with fail
    go_quiet (fail)
    go_wp2_with fail
    go_ret
    refine⟨.string (s.extract st.pos (st.pos+m)),_,_,rfl,⟨?_,rfl,rfl⟩,?_⟩
    ·rw[HT.out,ik,Nat.add_sub_cancel_left,H4.out]
    ·rw[HT.out]
     refine ((((vW F w (Sep.one (R:=aA b 104 #[.string s,.int .i64 st.pos,.int .i64 st.err]) ⟨HB.out,hF⟩)).drewN _).set 0 rfl 1 (.int .i64 (st.pos+m))).drewN _).weaken 0 rfl (A':=InR b { st with rest:=st.rest.drop m,pos:=st.pos+m }) ?_
     rintro G ⟨k1,k2⟩
     have h2:=H2.out
     refine⟨s,k1,?_,h3,?_,k2⟩
     ·simp only[xT]; omega
     ·simp only; rw[← H4.out,yz]
 ·have H0:(st.err != 0)=true:=bne_iff_ne.2 h0
  have HH:=Lib.hid h0
  clear h0
  go_enter Tryz.func47,Tryz.ntmps47
  go_wp2_with fail
  go_ret
  refine⟨_,_,_,rfl,⟨?_,rfl,rfl⟩,?_⟩
  ·simp[bf,HH.out,aC]
  ·simpa [bf,HH.out] using HA.out
theorem uE (x d:Int) (h0: -9223372036854775808≤x) (h1:x≤9223372036854775807) (hx:x % 256=0) (hd0:0≤d) (hd1:d<256):bits .or .i64 x d=x+d:=by
 have e1:(BitVec.ofInt 64 x).toNat=(x % 18446744073709551616).toNat:=by simp[BitVec.toNat_ofInt]
 have e2:(BitVec.ofInt 64 d).toNat=d.toNat:=by simp[BitVec.toNat_ofInt]; omega
 show IntKind.i64.wrap (((BitVec.ofInt 64 x) ||| (BitVec.ofInt 64 d)).toNat:Int)=x+d
 rw[BitVec.toNat_or,e1,e2]
 generalize ha:(x % 18446744073709551616).toNat=a
 have ha2:a % 256=0:=by omega
 have hq:a=2 ^ 8*(a / 256):=by omega
 have hb:d.toNat<2 ^ 8:=by omega
 have ho:a ||| d.toNat=a+d.toNat:=by
  rw[hq,← Nat.two_pow_add_eq_or_of_lt hb (a / 256)]
 rw[ho,IntKind.wrap_i64]
 omega
def sgn (c:UInt8):Int:=if c.toNat<128 then c.toNat else (c.toNat:Int) - 256
theorem tk (c:UInt8):wrap64 (IntKind.i8.wrap (c.toNat:Int))=sgn c:=by
 have:=c.toNat_lt
 have e:IntKind.i8.wrap (c.toNat:Int)=sgn c:=by
  unfold sgn
  simp[IntKind.wrap,IntKind.bits,IntKind.signed]
  split <;> split <;> omega
 rw[e]
 unfold sgn wrap64
 split <;> omega
def bL:List UInt8→Int
 | []=>0
 | c::cs=>cs.foldl (fun n d=>n*256+d.toNat) (sgn c)
theorem jp (l:List UInt8) (d:UInt8) (h:l ≠ []):bL (l ++ [d])=bL l*256+d.toNat:=by
 cases l with
 | nil=>exact absurd rfl h
 | cons c cs=>simp[bL]
theorem qm (cs:List UInt8): ∀ (n:Int) (m:Nat),1≤m→ -(2 ^ (m - 1):Int)≤n→n<(2 ^ (m - 1):Int) →
 -(2 ^ (m+8*cs.length - 1):Int)≤cs.foldl (fun n d=>n*256+(d.toNat:Int)) n∧cs.foldl (fun n d=>n*256+(d.toNat:Int)) n<(2 ^ (m+8*cs.length - 1):Int):=by
 induction cs with
 | nil=>intro n m _ h1 h2; exact⟨h1,h2⟩
 | cons c cs ih =>
  intro n m hm h1 h2
  have:=c.toNat_lt
  have e:(2 ^ (m+8 - 1):Int)=256*2 ^ (m - 1):=by
   rw[show m+8 - 1=8+(m - 1) by omega,Int.pow_add]
   rfl
  have h3:=ih (n*256+c.toNat) (m+8) (by omega) (by rw[e]; omega) (by rw[e]; omega)
  rw[show m+8*(c::cs).length - 1=m+8+8*cs.length - 1 by simp; omega]
  exact h3
theorem lf (l:List UInt8) (h:l ≠ []): -(2 ^ (8*l.length - 1):Int)≤bL l∧bL l<(2 ^ (8*l.length - 1):Int):=by
 cases l with
 | nil=>exact absurd rfl h
 | cons c cs =>
  have hc:=c.toNat_lt
  have:=qm cs (sgn c) 8 (by omega) (by unfold sgn; split <;> omega) (by unfold sgn; split <;> omega)
  rw[show 8*(c::cs).length - 1=8+8*cs.length - 1 by simp; omega]
  exact this
theorem jR (l:List UInt8) (h:l ≠ []) (h7:l.length≤7): -36028797018963968≤bL l∧bL l<36028797018963968:=by
 have hr:=lf l h
 have hp:(2 ^ (8*l.length - 1):Int)≤36028797018963968:=by
  have h1:(2 ^ (8*l.length - 1):Nat)≤2 ^ 55:=Nat.pow_le_pow_right (by decide) (by omega)
  have h2:((2 ^ (8*l.length - 1):Nat):Int)≤((2 ^ 55:Nat):Int):=Int.ofNat_le.2 h1
  rw[Int.natCast_pow,Int.natCast_pow] at h2
  exact h2
 generalize (2 ^ (8*l.length - 1):Int)=z at *
 omega
theorem qn (q d:Int) (h0: -36028797018963968≤q) (h1:q<36028797018963968) (hd0:0≤d) (hd1:d<256):bits .or .i64 (wrap64 (q*256)) (wrap64 d)=q*256+d:=by
 have e2:wrap64 (q*256)=q*256:=by unfold wrap64; omega
 have e3:wrap64 d=d:=by unfold wrap64; omega
 rw[e2,e3,uE _ _ (by omega) (by omega) (by omega) hd0 hd1]
theorem qo (l:List UInt8):(aC l).toList.isEmpty=l.isEmpty:=by
 have e:(aC l).toList=l:=ByteArray.toList_mk l
 rw[e]
theorem jT (l:List UInt8) (i:Nat) (h:i<(aC l).size):(aC l)[i]=l[i]'(by simpa [aR] using h):=by
 simp[aC]; rfl
def eV (st:I) (size:Int):Int×I:=if 1≤size∧size≤8 then (bL (bf st size).1,(bf st size).2) else (0,cA st 4)
theorem sp (st:I) (n:Int):(bf st n).1.length≤n.toNat:=by
 unfold bf
 split
 ·simp
 ·split
  ·simp
  ·split
   ·simp
   ·simp; omega
theorem sr (b:Nat) (st:I) (size:Int) :
 eh Tryz.prog 77 #[.pointer (some ⟨b,0,none⟩),.int .i64 size] (InR b st) (fun v A' N=>v= .int .i64 (eV st size).1∧A'=InR b (eV st size).2∧N = []):=by
 intro F w hA
 by_cases hs:1≤size∧size≤8
 ·obtain⟨k,rfl⟩: ∃ k:Nat,size=k:=⟨size.toNat,by omega⟩
  have HI:=Lib.hid (show eV st k=(bL (bf st k).1,(bf st k).2) by simp only[eV,hs]; simp)
  have HA:=Lib.hid (vW F w (Sep.one hA))
  clear hA
  go_enter Tryz.func77,Tryz.ntmps77
  go_wp2_with fail
  refine (HA.out.call 0 rfl (bU b st k (by omega) (by omega))).mono ?_
  rintro e w1 ⟨v,A',N,rfl,⟨rfl,rfl,rfl⟩,H1⟩
  have HS1:=Lib.hid H1
  have hlen:=sp st k
  clear H1
  generalize hl:(bf st k).1=l at *
  have hne:=qo l
  have HL:=Lib.hid hl
  clear hl
  cases l with
  | nil =>
   simp only[List.isEmpty_nil] at hne
   go_wp2_with fail
   go_ret
   exact⟨_,_,_,rfl,⟨by rw[HI.out]; rfl,rfl,rfl⟩,by rw[HI.out]; exact HS1.out⟩
  | cons c cs =>
   have hsz:=aR (c::cs)
   have h0:=jT (c::cs) 0 (by simp[aR])
   have HG:=Lib.hid (jT (c::cs))
   have hsg:=tk c
   have hl8:cs.length≤7:=by simp at hlen; omega
   simp only[List.getElem_cons_zero,List.isEmpty_cons] at h0 hne
   go_wp2_with fail
   go_loopw [6,7] (fun n i wr=>wr=w1∧ ∃ j:Nat,1≤j∧j≤cs.length+1∧i= .int .i64 j∧n= .int .i64 (bL ((c::cs).take j))) (fun _ i _=>cs.length+1 - (intOf i).toNat)
   case atStart=>exact⟨rfl,1,by omega,by omega,rfl,by simp[bL,hsg]⟩
   case round =>
    obtain⟨rfl,j,hj1,hj2,rfl,rfl⟩:=hrel
    by_cases hlt:j<cs.length+1
    ·have hgj:=HG.out j (by rw[hsz]; simpa using hlt)
     have hb:j≤9223372036854775806:=by omega
     have hnn:(c::cs).take j ≠ []:=by intro h; have:=congrArg List.length h; simp at this; omega
     have hr:=jR ((c::cs).take j) hnn (by simp; omega)
     generalize hq:bL ((c::cs).take j)=q at *
     have HQ:=Lib.hid hq
     have HR:=Lib.hid hr
     clear hq hr
     go_wp2_with fail
     go_roundw
     case rel =>
      refine⟨trivial,j+1,by omega,by omega,by go_num,?_⟩
      have hd:=((c::cs)[j]'(by simpa using hlt)).toNat_lt
      have e1:(c::cs).take (j+1)=(c::cs).take j ++ [(c::cs)[j]'(by simpa using hlt)]:=by
       rw[List.take_succ_eq_append_getElem (by simpa using hlt)]
      rw[e1,jp _ _ hnn,HQ.out,qn q _ HR.out.1 HR.out.2 (by omega) (by omega)]
     case measure=>simp[intOf]; omega
    ·have e1:j=cs.length+1:=by omega
     have e2:(c::cs).take (cs.length+1)=c::cs:=List.take_of_length_le (by simp)
     have hb:(c::cs).length=cs.length+1:=rfl
     go_wp2_with fail
     go_ret
     exact⟨_,_,_,rfl,⟨by rw[HI.out,e1,e2]; rfl,rfl,rfl⟩,by rw[HI.out]; exact HS1.out⟩
 ·have HI:=Lib.hid (show eV st size=(0,cA st 4) by simp only[eV,hs]; simp)
  have HA:=Lib.hid (vW F w (Sep.one hA))
  clear hA
  by_cases h1:size<1
  all_goals
   go_enter Tryz.func77,Tryz.ntmps77
   go_wp2_with fail
   refine (HA.out.call 0 rfl (ej b st 4)).mono ?_
   rintro e w1 ⟨v,A',N,rfl,⟨rfl,rfl,rfl⟩,H1⟩
   have HS1:=Lib.hid H1
   clear H1
   go_wp2_with fail
   go_ret
   exact⟨_,_,_,rfl,⟨by rw[HI.out]; rfl,rfl,rfl⟩,by rw[HI.out]; exact HS1.out⟩
theorem InR.err {b:Nat} {st:I} {w:World} {F0:Nat→Prop} {w0:World} {Rs:List Res} (i:Nat) (h:St F0 w0 Rs w) (hi:Rs[i]? = some (InR b st)) :
 w.cell? ⟨b,2,none⟩=some (.int .i64 st.err)∧w.cell? ⟨b,1,none⟩=some (.int .i64 st.pos):=by
 obtain⟨G,⟨s,h1,_⟩,_⟩:=h.get i hi
 exact⟨(aM h1 2).trans rfl,(aM h1 1).trans rfl⟩
theorem iN (b:Nat) (st:I):eh Tryz.prog 23 #[.pointer (some ⟨b,0,none⟩)] (InR b st) (fun v A' N=>v= .int .i64 st.err∧A'=InR b st∧N = []):=by
 intro F w hA
 have hs:=vW F w (Sep.one hA)
 have c2:=(InR.err 0 hs rfl).1
 have HS:=Lib.hid hs
 clear hs hA
 go_enter Tryz.func23,Tryz.ntmps23
 go_wp2
 go_ret
 exact⟨_,_,_,rfl,⟨rfl,rfl,rfl⟩,HS.out⟩
def du (st:I):I:=if st.rest = [] then st else cA st 2
theorem qp (b:Nat) (st:I):eh Tryz.prog 104 #[.pointer (some ⟨b,0,none⟩)] (InR b st) (fun v A' N=>v= .int .i64 (du st).err∧A'=InR b (du st)∧N = []):=by
 intro F w hA
 have HS:=Lib.hid (vW F w (Sep.one hA))
 clear hA
 by_cases h:st.rest = []
 ·have HC:=Lib.hid (show du st=st by simp[du,h])
  have hl:st.rest.length=0:=by simp[h]
  have HL:=Lib.hid hl
  have hl2: ¬ ((0:Int)<st.rest.length):=by omega
  clear h hl
  go_enter Tryz.func104,Tryz.ntmps104
  go_wp2_with fail
  refine (HS.out.call 0 rfl (kB b st)).mono ?_
  rintro e w1 ⟨v,A',N,rfl,⟨rfl,rfl,rfl⟩,H1⟩
  have c2:=(InR.err 0 H1 rfl).1
  have HS1:=Lib.hid H1
  clear H1
  go_wp2_with fail
  go_ret
  exact⟨_,_,_,rfl,⟨by rw[HC.out]; rfl,rfl,rfl⟩,by rw[HC.out]; exact HS1.out⟩
 ·have HC:=Lib.hid (show du st=cA st 2 by simp[du,h])
  have hl2:(0:Int)<st.rest.length:=by
   have:=List.length_pos_iff.2 h
   omega
  clear h
  go_enter Tryz.func104,Tryz.ntmps104
  go_wp2_with fail
  refine (HS.out.call 0 rfl (kB b st)).mono ?_
  rintro e w1 ⟨v,A',N,rfl,⟨rfl,rfl,rfl⟩,H1⟩
  have HS1:=Lib.hid H1
  clear H1
  go_wp2_with fail
  refine (HS1.out.call 0 rfl (ej b st 2)).mono ?_
  rintro e w2 ⟨v,A',N,rfl,⟨rfl,rfl,rfl⟩,H2⟩
  have c2:=(InR.err 0 H2 rfl).1
  have HS2:=Lib.hid H2
  clear H2
  go_wp2_with fail
  go_ret
  exact⟨_,_,_,rfl,⟨by rw[HC.out]; rfl,rfl,rfl⟩,by rw[HC.out]; exact HS2.out⟩
theorem jU (l:List UInt8) (j:Nat) (h:j<l.length):l.take (j+1)=l.take j ++ [l[j]]:=List.take_succ_eq_append_getElem h
theorem je {l:List UInt8} {j:Nat} (h:j<l.length) (h0:0<j):l.take j ≠ []:=by
 intro he
 have:=congrArg List.length he
 rw[yj,yQ] at this
 omega
theorem o8 (l:List UInt8) (h8:l.length≤8) (w:World) :
 Calls Tryz.prog 72 #[.string (aC l)] w fun e w'=>e= .returned (.int .i64 (bL l))∧w=w':=by
 have hsz:=aR l
 have hl8:(aC l).size≤8:=by omega
 have HG:=Lib.hid (jT l)
 go_enter Tryz.func72,Tryz.ntmps72
 go_wp2_with fail
 go_loop [3,4] (fun n i=> ∃ j:Nat,j≤l.length∧i= .int .i64 j∧n= .int .i64 (bL (l.take j))) (fun _ i=>l.length - (intOf i).toNat)
 case atStart=>exact⟨0,by omega,rfl,by simp[bL]⟩
 case round =>
  obtain⟨j,hj,rfl,rfl⟩:=hrel
  by_cases hlt:j<l.length
  ·have hgj:=HG.out j (by omega)
   have hs:j<(aC l).size:=by omega
   have HT:=Lib.hid (jU l j hlt)
   have hc:=l[j].toNat_lt
   generalize l[j]=c at *
   by_cases hj0:j=0
   ·subst hj0
    have HE:=Lib.hid (show bL (l.take (0+1))=sgn c by rw[HT.out]; simp[bL])
    have hb0:bL (l.take 0)=0:=by simp[bL]
    clear HT
    rw[hb0]
    clear hb0
    by_cases h128:c.toNat<128
    all_goals
     go_wp2_with fail
     go_round
     case rel=>exact⟨0+1,by omega,by go_num,by rw[HE.out]; simp[sgn]; first | done | omega⟩
     case measure=>simp[intOf]; omega
   ·have hne:=je hlt (by omega)
    have hr:=jR (l.take j) hne (by simp; omega)
    have HE:=Lib.hid (show bL (l.take (j+1))=bL (l.take j)*256+c.toNat by rw[HT.out,jp _ _ hne])
    clear HT
    have HN:=Lib.hid hne
    clear hne
    generalize bL (l.take j)=q at *
    have h0:((j:Int) == 0)=false:=by simp; omega
    have hr1:=hr.1
    have hr2:=hr.2
    go_wp2_with fail
    go_round
    case rel=>exact⟨j+1,by omega,by go_num,by rw[HE.out]⟩
    case measure=>simp[intOf]; omega
  ·have e1:j=l.length:=by omega
   have e2:=List.take_of_length_le (l:=l) (i:=l.length) (yn _)
   have E1:=Lib.hid e1
   have E2:=Lib.hid e2
   clear e1 e2
   go_wp2_with fail
   go_ret
   exact⟨eF (by rw[E1.out,E2.out]),rfl⟩
def dJ (l:List UInt8):Array Value:=(aD l).toArray
theorem o9 (l:List UInt8) (i:Nat):(dJ l)[i]? = l[i]?.map fun b=>Value.int .u8 b.toNat:=by simp[dJ,aD]
theorem pa (l:List UInt8) (i:Nat) (c:UInt8):(dJ l).setIfInBounds i (.int .u8 c.toNat)=dJ (l.set i c):=by
 simp[dJ,aD]
theorem aE (n:Int) (k:Nat):(be n k).length=k:=by simp[be]
theorem qq (k:Nat) (hk:k≤140737488355328) (w:World):(Instr.makeSlice 22 (.int .i64 k) (.int .i64 k)).run Tryz.prog w =
 .ok (.slice (some ⟨w.heap.size,0,none⟩) k k) (w.alloc (.cells (dJ (List.replicate k 0)) 5)):=by
 obtain⟨i,hi,hzz⟩:=Option.map_eq_some_iff.1 jQ
 simp only[Prod.mk.injEq] at hzz
 rw[run_make w 22 5 i (.int .u8 0) Tryz.underlying22 hi hzz.1 .i64 .i64 k k (by omega) (by omega) (by rw[hzz.2.2]; omega) (by omega)]
 have e:madeCells (Value.int .u8 0).cells ((k:Int).toNat*i.size)=dJ (List.replicate k 0):=by
  rw[hzz.2.1]
  simp[madeCells,dJ,aD,Value.cells]
  apply Array.ext
  ·simp
  ·intro j h1 h2
   simp[Nat.mod_one]
 rw[e]
 rfl
theorem uF (n:Int) (k m:Nat) (h:m<k):(be n k).drop m=UInt8.ofNat ((n / (2 ^ (8*(k - 1 - m)):Int)) % 256).toNat::(be n k).drop (m+1):=by
 rw[List.drop_eq_getElem_cons (by simpa [be] using h)]
 simp[be]
theorem tl (n:Int) (a:Nat):n / 2 ^ (8*a) / 256=n / (2 ^ (8*(a+1)):Int):=by
 have hp:(0:Int)<2 ^ (8*a):=Int.pow_pos (by decide)
 rw[show 8*(a+1)=8*a+8 by omega,Int.pow_add,← Int.ediv_ediv_of_nonneg (Int.le_of_lt hp)]
 rfl
theorem uG (q:Int):(q.tmod 256=q % 256∧0≤q.tmod 256)∨(q.tmod 256=q % 256 - 256∧q.tmod 256<0):=by
 rw[Int.tmod_eq_emod]
 split
 ·left; omega
 ·rename_i h
  right
  have: ¬ (256 ∣ q):=fun hd=>h (.inr hd)
  omega
theorem uH (q:Int):(q - q % 256).tdiv 256=q / 256:=by
 have e:q - q % 256=q / 256*256:=by omega
 rw[e,Int.mul_tdiv_cancel _ (by decide)]
theorem uI (n:Int) (a:Nat) (h0: -9223372036854775808≤n) (h1:n≤9223372036854775807): -9223372036854775808≤n / 2 ^ a∧n / 2 ^ a≤9223372036854775807:=by
 have hp:(0:Int)<2 ^ a:=Int.pow_pos (by decide)
 generalize (2 ^ a:Int)=p at *
 constructor
 ·rcases Int.lt_or_le n 0 with h | h
  ·have:n≤n / p:=by
    rw[Int.le_ediv_iff_mul_le hp]
    have:n*p≤n*1:=Int.mul_le_mul_of_nonpos_left (by omega) (by omega)
    omega
   omega
  ·have:=Int.ediv_nonneg h (Int.le_of_lt hp)
   omega
 ·rcases Int.lt_or_le n 0 with h | h
  ·have:=Int.ediv_neg_of_neg_of_pos h hp
   omega
  ·have:=Int.ediv_le_self p h
   omega
theorem lg {w wr:World} {g k m:Nat} {n q d:Int} (hm:m+1≤k) (hs:St (fun _=>False) w [aA g 5 (dJ (List.replicate (m+1) 0++(be n k).drop (m+1)))] wr)
 (hd:(be n k).drop m=UInt8.ofNat ((n / (2 ^ (8*(k - 1 - m)):Int)) % 256).toNat::(be n k).drop (m+1)) (hq:q=n / 2 ^ (8*(k - 1 - m))) (he:d=q % 256) :
 St (fun _=>False) w [aA g 5 (dJ (List.replicate m 0++(be n k).drop m))] (wr.setCell ⟨g,m,none⟩ (.int .u8 d)):=by
 have h:=hs.set 0 rfl m (.int .u8 d)
 have e:(.int .u8 d:Value)= .int .u8 (UInt8.ofNat (q % 256).toNat).toNat:=by
  congr 1
  simp[UInt8.toNat_ofNat']
  omega
 have e2:(List.replicate (m+1) (0:UInt8)++(be n k).drop (m+1)).set m (UInt8.ofNat (q % 256).toNat)=List.replicate m 0++(be n k).drop m:=by
  rw[hd,← hq,List.replicate_succ',ya,List.set_append_right _ _ (by simp)]
  simp
 rw[e,pa,e2,← e] at h
 exact h
theorem l8 (n:Int) (k:Nat) (h0: -9223372036854775808≤n) (h1:n≤9223372036854775807) (hk:k≤8) :
 e9 Tryz.prog 43 #[.int .i64 n,.int .i64 k] (fun v N=>v= .string (aC (be n k))∧N = []):=by
 intro w
 have hmk:=qq k (by omega)
 go_enter Tryz.func43,Tryz.ntmps43
 go_wp2_with fail
 have HW:=Lib.hid ((wu w).alloc (dJ (List.replicate k 0)) 5)
 clear hmk
 go_loopw [0,6] (fun q i wr=> ∃ j:Nat,j≤k∧i= .int .i64 ((j:Int) - 1)∧q= .int .i64 (n / 2 ^ (8*(k - j)))∧St (fun _=>False) w [aA w.heap.size 5 (dJ (List.replicate j 0++(be n k).drop j))] wr) (fun _ i _=>(intOf i+1).toNat)
 case atStart=>exact⟨k,by omega,rfl,by simp,by
  have e:(be n k).drop k = []:=List.drop_of_length_le (by simp[be])
  rw[e,yp]
  exact HW.out⟩
 case round =>
  obtain⟨j,hj,rfl,rfl,hst⟩:=hrel
  have hr:=uI n (8*(k - j)) h0 h1
  cases j with
  | zero =>
   have hs:=hst.blk 0 rfl
   have HS:=Lib.hid hst
   clear hst hr
   have hrow:wr.ownsRow 0 5 1 (.slice (some ⟨w.heap.size,0,none⟩) k k) k (aD (be n k)):=by
    refine⟨by simp[aD,be],.inr ⟨w.heap.size,k,_,rfl,yw _,hs,yn _,by simp[maxLen]; omega,?_,?_⟩⟩
    ·simp[dJ,aD,be]
    ·simp only[dJ,List.replicate_zero,yk,List.drop_zero,Nat.mul_one]
     exact List.take_of_length_le (by simp[aD,be])
   have hc:=jl (P:=Tryz.prog) wr (src:=22) (dst:=9) Tryz.underlying22 Tryz.underlying5 Tryz.underlying9 hrow
   have HR:=Lib.hid hrow
   clear hrow hs
   go_wp2_with fail
   go_ret
   exact⟨_,_,rfl,⟨rfl,rfl⟩,HS.out.drop_⟩
  | succ m =>
   rw[show ((m+1:Nat):Int) - 1=m by omega]
   have hs:=hst.blk 0 rfl
   have hcell:wr.cell? ⟨w.heap.size,m,none⟩=some (.int .u8 0):=by
    rw[aM hs m,o9,List.getElem?_append_left (by simp)]
    simp
   have hfree:wr.frozen? ⟨w.heap.size,m,none⟩=false:=ck hs m
   have HN:=Lib.hid (tl n (k - (m+1)))
   have HQ:=Lib.hid (show n / 2 ^ (8*(k - (m+1)))=n / 2 ^ (8*(k - 1 - m)) by rw[show k - (m+1)=k - 1 - m by omega])
   have HS:=Lib.hid hst
   clear hst hs
   have hr1:=hr.1
   have hr2:=hr.2
   clear hr
   have HD:=Lib.hid (uF n k m (by omega))
   generalize hq:n / 2 ^ (8*(k - (m+1)))=q at *
   clear hq
   have hd:=uH q
   rcases uG q with⟨hm,hneg⟩ | ⟨hm,hneg⟩
   ·have hb1:q.tmod 256<256:=by omega
    have hb2: -9223372036854775808≤q - q.tmod 256:=by omega
    have hb3:q - q.tmod 256≤9223372036854775807:=by omega
    have HM:=Lib.hid hm
    have HDV:=Lib.hid hd
    clear hm hd
    go_wp2_with fail
    go_roundw
    case rel =>
     refine⟨m,by omega,rfl,?_,lg hj HS.out HD.out HQ.out HM.out⟩
     rw[HM.out,HDV.out,HN.out,show k - (m+1)+1=k - m by omega]
    case measure=>simp[intOf]
   ·have hb1: -256≤q.tmod 256:=by omega
    have hb2: -9223372036854775808≤q - (q.tmod 256+256):=by omega
    have hb3:q - (q.tmod 256+256)≤9223372036854775807:=by omega
    have HM:=Lib.hid (show q.tmod 256+256=q % 256 by omega)
    have HDV:=Lib.hid hd
    clear hm hd
    go_wp2_with fail
    go_roundw
    case rel =>
     refine⟨m,by omega,rfl,?_,lg hj HS.out HD.out HQ.out HM.out⟩
     rw[HM.out,HDV.out,HN.out,show k - (m+1)+1=k - m by omega]
    case measure=>simp[intOf]
theorem ry (n:Int) (k j:Nat) (h:j<k):(be n k).take (j+1)=(be n k).take j ++ [UInt8.ofNat ((n / (2 ^ (8*(k - 1 - j)):Int)) % 256).toNat]:=by
 rw[List.take_succ_eq_append_getElem (by simpa [be] using h)]
 simp[be]
theorem pb (n:Int) (k:Nat) (h1:1≤k) (h8:k≤8):bq n k=true ↔ -(2 ^ (8*k - 1):Int)≤n∧n<(2 ^ (8*k - 1):Int):=by
 simp[bq]
 generalize (2 ^ (8*k - 1):Int)=z
 omega
theorem pc (q:Int):((UInt8.ofNat (q % 256).toNat).toNat:Int)=q % 256:=by
 simp[UInt8.toNat_ofNat']
 omega
theorem ss (n:Int) (k:Nat) (h8:k≤8) (hf:bq n k=true): ∀ j:Nat,j+1≤k→bL ((be n k).take (j+1))=n / 2 ^ (8*(k - 1 - j)):=by
 intro j
 induction j with
 | zero =>
  intro h
  have hb:=(pb n k (by omega) h8).1 hf
  rw[ry n k 0 (by omega)]
  have e1:(2 ^ (8*k - 1):Int)=128*2 ^ (8*(k - 1 - 0)):=by
   rw[show 8*k - 1=7+8*(k - 1 - 0) by omega,Int.pow_add]
   rfl
  rw[e1] at hb
  have hp:(0:Int)<2 ^ (8*(k - 1 - 0)):=Int.pow_pos (by decide)
  have hl: -128≤n / 2 ^ (8*(k - 1 - 0)):=by
   rw[Int.le_ediv_iff_mul_le hp]; omega
  have hu:n / 2 ^ (8*(k - 1 - 0))<128:=by
   rw[Int.ediv_lt_iff_lt_mul hp]; omega
  generalize n / 2 ^ (8*(k - 1 - 0))=q at *
  have hv:=pc q
  generalize (UInt8.ofNat (q % 256).toNat)=c at *
  simp[bL,sgn]
  split <;> omega
 | succ j ih =>
  intro h
  have h2:=ih (by omega)
  rw[ry n k (j+1) (by omega),jp _ _ (je (by simp[be]; omega) (by omega)),h2,pc]
  have h3:=tl n (k - 1 - (j+1))
  rw[show k - 1 - (j+1)+1=k - 1 - j by omega] at h3
  omega
theorem pd (n:Int) (k:Nat) (h1:1≤k) (h8:k≤8) (hf:bq n k=true):bL (be n k)=n:=by
 have h:=ss n k h8 hf (k - 1) (by omega)
 rw[show k - 1+1=k by omega,List.take_of_length_le (by simp[be])] at h
 rw[h,show k - 1 - (k - 1)=0 by omega]
 simp
theorem rz (n:Int) (k:Nat) (h1:1≤k) (h8:k≤8):(bL (be n k)=n)↔bq n k=true:=by
 constructor
 ·intro h
  rw[pb n k h1 h8,← h]
  have:=lf (be n k) (by intro he; have:=congrArg List.length he; simp[be] at this; omega)
  rw[aE] at this
  rw[h] at this ⊢
  exact this
 ·exact pd n k h1 h8
theorem su (n size:Int) (h0: -9223372036854775808≤n) (h1:n≤9223372036854775807) :
 e9 Tryz.prog 58 #[.int .i64 n,.int .i64 size] (fun v N=>v= .bool (bq n size)∧N = []):=by
 intro w
 have HS:=Lib.hid (wu w)
 by_cases hs:1≤size∧size≤8
 ·obtain⟨k,rfl⟩: ∃ k:Nat,size=k:=⟨size.toNat,by omega⟩
  have HI:=Lib.hid (rz n k (by omega) (by omega))
  have hlen:=aE n k
  go_enter Tryz.func58,Tryz.ntmps58
  go_wp2_with fail
  refine (HS.out.call0 (l8 n k h0 h1 (by omega))).mono ?_
  rintro e w1 ⟨v,N,rfl,⟨rfl,rfl⟩,H1⟩
  have HS1:=Lib.hid H1
  clear H1
  go_wp2_with fail
  refine (o8 (be n k) (by rw[hlen]; omega) w1).mono ?_
  rintro e w2 ⟨rfl,rfl⟩
  go_wp2_with fail
  go_ret
  exact⟨_,_,rfl,⟨congrArg Value.bool (show (bL (be n k) == n)=bq n k by rw[Bool.eq_iff_iff,beq_iff_eq]; exact HI.out),rfl⟩,HS1.out⟩
 ·have HI:=Lib.hid (show bq n size=false by simp[bq]; omega)
  by_cases h2:size<1
  all_goals
   go_enter Tryz.func58,Tryz.ntmps58
   go_wp2_with fail
   go_ret
   exact⟨_,_,rfl,⟨by rw[HI.out]; rfl,rfl⟩,HS.out⟩
def Exit.jumps (J:Nat→Act→World→Prop) (Q:Exit→Act→World→Prop):Exit→Act→World→Prop
 | .goto l,a,w=>J l a w
 | e,a,w=>Q e a w
section
variable {J:Nat→Act→World→Prop} {Q:Exit→Act→World→Prop} {a:Act} {w:World}
end
section
variable {P:Program} {a:Act} {w:World} {Q:Exit→Act→World→Prop}
theorem hY {c:Code} (J:Nat→Act→World→Prop) (μ:Nat→Act→World→Nat)
 (pass: ∀ l a w,J l a w→ ∃ rest,findLabel c l=some (Code.skip.seq rest)∧rest.wp P (Exit.jumps (fun l' a' w'=>J l' a' w'∧μ l' a' w'<μ l a w) Q) a w)
 (first:(∀ l rest a w,findLabel c l=some (Code.skip.seq rest)→J l a w→rest.wp P (Exit.jumps J Q) a w)→c.wp P (Exit.jumps J Q) a w):(Code.scope c).wp P Q a w:=by
 intro b k cs
 have hg: ∀ l rest,findLabel c l=some rest→gotoIn l (.inScope c::k)=some (.code rest :: .inScope c::k):=fun l rest hf=>by simp[gotoIn,hf]
 have key: ∀ n l rest a w,findLabel c l=some (Code.skip.seq rest)→μ l a w=n→J l a w→ ∃ e a' w',Q e a' w'∧Arrives P (lone (b.at a (.code (Code.skip.seq rest) :: .inScope c::k)) cs w) b k cs e a' w':=by
  intro n
  induction n using Nat.strongRecOn with
  | _ n ih =>
   intro l rest a w hf hn hJ
   obtain⟨rest',hf',hp⟩:=pass l a w hJ
   rw[hf] at hf'
   injection hf' with hf'
   injection hf' with _ hf'
   subst hf'
   obtain⟨e,a₁,w₁,hq,harr⟩:=wp_seq (wp_skip (Q:=Exit.then _ _) hp) b (.inScope c::k) cs
   cases e with
   | normal=>exact⟨.normal,a₁,w₁,hq,Steps.trans harr (.one step_inScope)⟩
   | exit id=>exact⟨.exit id,a₁,w₁,hq,fun k' hk=>harr k' (by simp[exitTo,hk])⟩
   | goto l' =>
    obtain⟨hJ',hlt⟩:=hq
    obtain⟨rest₂,hf₂,_⟩:=pass l' a₁ w₁ hJ'
    obtain⟨e₂,a₂,w₂,hq₂,harr₂⟩:=ih _ (by omega) l' rest₂ a₁ w₁ hf₂ rfl hJ'
    exact⟨e₂,a₂,w₂,hq₂,.of_steps (harr _ (hg _ _ hf₂)) harr₂⟩
   | ret=>exact⟨_,a₁,w₁,hq,harr⟩
   | panic ch=>exact⟨_,a₁,w₁,hq,harr⟩
   | outgrown=>exact⟨_,a₁,w₁,hq,harr⟩
 obtain⟨e,a₁,w₁,hq,harr⟩:=first (fun l rest a w hf hJ=>by
  obtain⟨rest',hf',hp⟩:=pass l a w hJ
  rw[hf] at hf'
  injection hf' with hf'
  injection hf' with _ hf'
  subst hf'
  refine wp_mono hp ?_
  intro e a' w' h
  cases e <;> first | exact h | exact h.1) b (.inScope c::k) cs
 cases e with
 | normal=>exact⟨.normal,a₁,w₁,hq,.head step_scope (Steps.trans harr (.one step_inScope))⟩
 | exit id=>exact⟨.exit id,a₁,w₁,hq,fun k' hk=> .head step_scope (harr k' (by simp[exitTo,hk]))⟩
 | goto l' =>
  obtain⟨rest₂,hf₂,_⟩:=pass l' a₁ w₁ hq
  obtain⟨e₂,a₂,w₂,hq₂,harr₂⟩:=key _ l' rest₂ a₁ w₁ hf₂ rfl hq
  exact⟨e₂,a₂,w₂,hq₂,.of_steps (.head step_scope (harr _ (hg _ _ hf₂))) harr₂⟩
 | ret=>exact⟨_,a₁,w₁,hq,.of_steps (.one step_scope) harr⟩
 | panic ch=>exact⟨_,a₁,w₁,hq,.of_steps (.one step_scope) harr⟩
 | outgrown=>exact⟨_,a₁,w₁,hq,.of_steps (.one step_scope) harr⟩
end
def aX (n:Nat):List UInt8:=if n<128 then [UInt8.ofNat n] else UInt8.ofNat (n % 128+128)::aX (n / 128)
termination_by n
decreasing_by omega
def aB (n:Int):Nat:=if n<0 then (-(n+1)).toNat*2+1 else n.toNat*2
def gz (n:Nat):Int:=if n % 2=1 then -((n / 2:Nat):Int) - 1 else ((n / 2:Nat):Int)
theorem pe (k:Nat): ∀ n:Nat,n<128 ^ (k+1)→(aX n).length≤k+1:=by
 induction k with
 | zero=>intro n h; rw[aX,if_pos (by simpa using h)]; simp
 | succ k ih =>
  intro n h
  rw[aX]
  split
  ·simp
  ·have:=ih (n / 128) (by rw[Nat.div_lt_iff_lt_mul (by decide)]; rwa [Nat.pow_succ] at h)
   simp; omega
theorem il (n:Nat):1≤(aX n).length:=by rw[aX]; split <;> simp
theorem dD (n:Nat) (h:n<18446744073709551616):(aX n).length≤10:=pe 9 n (by omega)
theorem cH (n:Int) (h0: -9223372036854775808≤n) (h1:n≤9223372036854775807):aB n<18446744073709551616:=by unfold aB; split <;> omega
theorem qr (n:Int):gz (aB n)=n:=by unfold gz aB; split <;> split <;> omega
theorem qt (n:Nat):aB (gz n)=n:=by unfold gz aB; split <;> split <;> omega
theorem uJ (n:Int) (h0: -9223372036854775808≤n) (h1:n≤9223372036854775807) :
 bits .xor .u64 (IntKind.u64.wrap (wrap64 (n*2))) (IntKind.u64.wrap (n / 9223372036854775808))=(aB n:Int):=by
 have e1:IntKind.u64.wrap (wrap64 (n*2))=(n*2) % 18446744073709551616:=by rw[IntKind.wrap_u64]; unfold wrap64; omega
 rw[e1]
 show IntKind.u64.wrap ((BitVec.ofInt 64 _ ^^^ BitVec.ofInt 64 _).toNat:Int)= _
 rcases Int.lt_or_le n 0 with h | h
 ·have e2:IntKind.u64.wrap (n / 9223372036854775808)=18446744073709551615:=by rw[IntKind.wrap_u64]; omega
  rw[e2,show BitVec.ofInt 64 18446744073709551615=BitVec.allOnes 64 by decide,BitVec.xor_allOnes,BitVec.toNat_not,BitVec.toNat_ofInt,IntKind.wrap_u64]
  simp only[aB,if_pos h]
  omega
 ·have e2:IntKind.u64.wrap (n / 9223372036854775808)=0:=by rw[IntKind.wrap_u64]; omega
  rw[e2,show BitVec.ofInt 64 0=0#64 by decide,BitVec.xor_zero,BitVec.toNat_ofInt,IntKind.wrap_u64]
  simp only[aB,if_neg (show ¬ n<0 by omega)]
  omega
theorem rA (n m:Nat) (hn:n<18446744073709551616) (hm:m<18446744073709551616):bits .and .u64 n m=((n &&& m:Nat):Int):=by
 show IntKind.u64.wrap ((BitVec.ofInt 64 _ &&& BitVec.ofInt 64 _).toNat:Int)= _
 rw[BitVec.toNat_and,BitVec.toNat_ofInt,BitVec.toNat_ofInt,IntKind.wrap_u64]
 have e1:((n:Int) % (2 ^ 64:Nat)).toNat=n:=by omega
 have e2:((m:Int) % (2 ^ 64:Nat)).toNat=m:=by omega
 rw[e1,e2]
 have:n &&& m≤m:=Nat.and_le_right
 omega
theorem sv (n:Nat) (hn:n<18446744073709551616):bits .and .u64 n 1=((n % 2:Nat):Int):=by
 have h:=rA n 1 hn (by decide)
 rw[Nat.and_one_is_mod] at h
 exact h
theorem uK (n:Nat) (hn:n<18446744073709551616):bits .xor .i64 ((n:Int) / 2) (wrap64 (-wrap64 (bits .and .u64 n 1)))=gz n:=by
 rw[sv n hn]
 show IntKind.i64.wrap ((BitVec.ofInt 64 _ ^^^ BitVec.ofInt 64 _).toNat:Int)= _
 rcases Nat.mod_two_eq_zero_or_one n with h | h
 ·rw[h]
  have e2:wrap64 (-wrap64 ((0:Nat):Int))=0:=by unfold wrap64; omega
  rw[e2,show BitVec.ofInt 64 0=0#64 by decide,BitVec.xor_zero,BitVec.toNat_ofInt,IntKind.wrap_i64]
  simp only[gz,h]
  simp
  omega
 ·rw[h]
  have e2:wrap64 (-wrap64 ((1:Nat):Int))= -1:=by unfold wrap64; omega
  rw[e2,show BitVec.ofInt 64 (-1)=BitVec.allOnes 64 by decide,BitVec.xor_allOnes,BitVec.toNat_not,BitVec.toNat_ofInt,IntKind.wrap_i64]
  simp only[gz,h]
  simp
  omega
theorem uL: ∀ x:Fin 256,bits .or .u8 ((x.val:Nat):Int) 128=((x.val % 128+128:Nat):Int):=by decide
theorem or_128 (x:Nat) (h:x<256):bits .or .u8 (x:Int) 128=((x % 128+128:Nat):Int):=uL ⟨x,h⟩
theorem ni (n:Int) (h0: -9223372036854775808≤n) (h1:n≤9223372036854775807) (w:World) :
 Calls Tryz.prog 109 #[.int .i64 n] w fun e w'=>e= .returned (.int .u64 (aB n))∧w=w':=by
 have H:=Lib.hid (uJ n h0 h1)
 go_enter Tryz.func109,Tryz.ntmps109
 go_wp2_with fail
 go_ret
 exact⟨eF H.out,rfl⟩
theorem nj (n:Nat) (hn:n<18446744073709551616) (w:World) :
 Calls Tryz.prog 113 #[.int .u64 n] w fun e w'=>e= .returned (.int .i64 (gz n))∧w=w':=by
 have H:=Lib.hid (uK n hn)
 go_enter Tryz.func113,Tryz.ntmps113
 go_wp2_with fail
 go_ret
 exact⟨eF H.out,rfl⟩
theorem nk (b:Nat) (st:List UInt8×Int) (n:Nat) (hn:n<18446744073709551616) (hl:st.1.length+10≤140737488355328) :
 eh Tryz.prog 108 #[.pointer (some ⟨b,0,none⟩),.int .u64 n] (aU b st) (fun v A' N=>v= .tuple #[]∧A'=aU b (ed st (aX n))∧N = []):=by
 intro F w hA
 have HA:=Lib.hid (vW F w (Sep.one hA))
 clear hA
 have HT:=Lib.hid (dD n hn)
 go_enter Tryz.func108,Tryz.ntmps108
 go_wp2_with fail
 go_loopw [1] (fun i wr=> ∃ (m:Nat) (p:List UInt8),m≤n∧p++aX m=aX n∧i= .int .u64 m∧St F w [aU b (ed st p)] wr) (fun i _=>(intOf i).toNat)
 case atStart=>exact⟨n,[],yn _,rfl,rfl,by rw[o6]; exact HA.out⟩
 case round =>
  obtain⟨m,p,hm,hp,rfl,hst⟩:=hrel
  have hlen:(ed st p).1.length+1≤140737488355328:=by
   have h1:=l7 st p
   have h2:=HT.out
   have h3:=il m
   rw[← hp,xR] at h2
   omega
  have HS:=Lib.hid hst
  clear hst
  by_cases hlt:128≤m
  ·have ho:=or_128 (m % 256) (by omega)
   have e1:(m:Int) % 256=((m % 256:Nat):Int):=by omega
   rw[← e1] at ho
   have e2:m % 256 % 128=m % 128:=by omega
   rw[e2] at ho
   have HO:=Lib.hid ho
   have HP:=Lib.hid (show p ++ [UInt8.ofNat (m % 128+128)]++aX (m / 128)=aX n by rw[← hp,aX.eq_1 m,if_neg (by omega)]; simp)
   clear hp ho e1 e2
   go_wp2_with fail
   rw[HO.out]
   refine (HS.out.call 0 rfl (gX b _ ((m % 128+128:Nat):Int) (by omega) (by omega) hlen)).mono ?_
   rintro e w1 ⟨v,A',N,rfl,⟨rfl,rfl,rfl⟩,H1⟩
   rw[kA,yA] at H1
   have HS1:=Lib.hid H1
   clear H1
   go_wp2_with fail
   go_roundw
   case rel=>exact⟨m / 128,_,by omega,HP.out,by go_num,HS1.out⟩
   case measure=>simp[intOf]; omega
  ·have e1:(m:Int) % 256=((m:Nat):Int):=by omega
   have HO:=Lib.hid e1
   have HP:=Lib.hid (show p ++ [UInt8.ofNat m]=aX n by rw[← hp,aX.eq_1 m,if_pos (by omega)])
   clear hp e1
   go_wp2_with fail
   refine (HS.out.call 0 rfl (gX b _ (m:Int) (by omega) (by omega) hlen)).mono ?_
   rintro e w1 ⟨v,A',N,rfl,⟨rfl,rfl,rfl⟩,H1⟩
   rw[kA,yA,HP.out] at H1
   have HS1:=Lib.hid H1
   clear H1
   go_wp2_with fail
   go_end0
   exact⟨_,_,_,rfl,⟨rfl,rfl,rfl⟩,HS1.out⟩
theorem mU (b:Nat) (st:List UInt8×Int) (n:Int) (h0: -9223372036854775808≤n) (h1:n≤9223372036854775807) (hl:st.1.length+10≤140737488355328) :
 eh Tryz.prog 90 #[.pointer (some ⟨b,0,none⟩),.int .i64 n] (aU b st) (fun v A' N=>v= .tuple #[]∧A'=aU b (ed st (aX (aB n)))∧N = []):=by
 intro F w hA
 have HA:=Lib.hid (vW F w (Sep.one hA))
 clear hA
 go_enter Tryz.func90,Tryz.ntmps90
 go_wp2_with fail
 refine (ni n h0 h1 w).mono ?_
 rintro e w' ⟨rfl,rfl⟩
 go_wp2_with fail
 refine (HA.out.call 0 rfl (nk b _ (aB n) (cH n h0 h1) hl)).mono ?_
 rintro e w1 ⟨v,A',N,rfl,⟨rfl,rfl,rfl⟩,H1⟩
 have HS1:=Lib.hid H1
 clear H1
 go_wp2_with fail
 go_end0
 exact⟨_,_,_,rfl,⟨rfl,rfl,rfl⟩,HS1.out⟩
def fy (st:List UInt8×Int) (n:Int):List UInt8×Int:=if -2147483648≤n∧n≤2147483647 then ed st (aX (aB n)) else ga st 11
theorem gp (n:Int):bq n 4=decide (-2147483648≤n∧n≤2147483647):=by
 have h1:(2 ^ (8*(4:Int).toNat - 1):Int)=2147483648:=by decide
 unfold bq
 rw[h1,Bool.eq_iff_iff]
 simp
theorem jV (b:Nat) (st:List UInt8×Int) (n:Int) (h0: -9223372036854775808≤n) (h1:n≤9223372036854775807) (hl:st.1.length+10≤140737488355328) :
 eh Tryz.prog 91 #[.pointer (some ⟨b,0,none⟩),.int .i64 n] (aU b st) (fun v A' N=>v= .tuple #[]∧A'=aU b (fy st n)∧N = []):=by
 intro F w hA
 have HA:=Lib.hid (vW F w (Sep.one hA))
 clear hA
 by_cases hf: -2147483648≤n∧n≤2147483647
 ·have HF:=Lib.hid (show bq n 4=true by rw[gp]; simp[hf])
  have HE:=Lib.hid (show fy st n=ed st (aX (aB n)) by simp[fy,hf])
  go_enter Tryz.func91,Tryz.ntmps91
  go_wp2_with fail
  refine (ij n 4 w h0 h1).mono ?_
  rintro e w' ⟨rfl,rfl⟩
  rw[HF.out]
  go_wp2_with fail
  refine (ni n h0 h1 w).mono ?_
  rintro e w' ⟨rfl,rfl⟩
  go_wp2_with fail
  refine (HA.out.call 0 rfl (nk b _ (aB n) (cH n h0 h1) hl)).mono ?_
  rintro e w1 ⟨v,A',N,rfl,⟨rfl,rfl,rfl⟩,H1⟩
  have HS1:=Lib.hid H1
  clear H1
  go_wp2_with fail
  go_end0
  exact⟨_,_,_,rfl,⟨rfl,by rw[HE.out],rfl⟩,HS1.out⟩
 ·have HF:=Lib.hid (show bq n 4=false by rw[gp]; simp; omega)
  have HE:=Lib.hid (show fy st n=ga st 11 by simp[fy,hf])
  clear hf
  go_enter Tryz.func91,Tryz.ntmps91
  go_wp2_with fail
  refine (ij n 4 w h0 h1).mono ?_
  rintro e w' ⟨rfl,rfl⟩
  rw[HF.out]
  go_wp2_with fail
  refine (HA.out.call 0 rfl (iM b st 11)).mono ?_
  rintro e w1 ⟨v,A',N,rfl,⟨rfl,rfl,rfl⟩,H1⟩
  have HS1:=Lib.hid H1
  clear H1
  go_wp2_with fail
  go_end0
  exact⟨_,_,_,rfl,⟨rfl,by rw[HE.out],rfl⟩,HS1.out⟩
def vgo (bits:Int):List UInt8→Nat→Nat→Nat→Nat×I
 | [],pos,acc,i=>(0,⟨[],pos,1⟩)
 | c::l,pos,acc,i =>
  if bits - 7*i≤0∨(bits - 7*i<7∧c.toNat % 128 / 2 ^ (bits - 7*i).toNat≠0) then (0,⟨l,pos+1,3⟩)
  else if 128≤c.toNat then vgo bits l (pos+1) (acc+c.toNat % 128*2 ^ (7*i)) (i+1)
  else if c.toNat=0∧0<i then (0,⟨l,pos+1,3⟩)
  else (acc+c.toNat % 128*2 ^ (7*i),⟨l,pos+1,0⟩)
def co (bits:Int) (st:I):Nat×I:=if st.err≠0 then (0,st) else vgo bits st.rest st.pos 0 0
theorem sw (c:UInt8) (l:List UInt8) (pos:Nat):bf ⟨c::l,pos,0⟩ 1=([c],⟨l,pos+1,0⟩):=by
 unfold bf
 rw[if_neg (by simp),if_neg (by omega),if_neg (by simp only[yd]; omega)]
 simp
theorem qu (pos:Nat):bf ⟨[],pos,0⟩ 1=([],⟨[],pos,1⟩):=by
 unfold bf
 rw[if_neg (by simp),if_neg (by omega),if_pos (by simp)]
 done
theorem lh (d:Nat) (hd:d<256):bits .and .u64 d 127=((d % 128:Nat):Int):=by
 have h:=rA d 127 (by omega) (by decide)
 rw[Nat.and_two_pow_sub_one_eq_mod d 7] at h
 exact h
theorem nl (k:Nat) {d:Nat} (hd:d<256):(bits .and .u64 d 127 / 2 ^ k != 0)=decide (d % 128 / 2 ^ k≠0):=by
 rw[lh d hd,show ((d % 128:Nat):Int) / 2 ^ k=((d % 128 / 2 ^ k:Nat):Int) by rw[Int.natCast_ediv,Int.natCast_pow]; rfl]
 generalize d % 128 / 2 ^ k=z
 rw[Bool.eq_iff_iff]
 simp
theorem ob: ∀ d:Fin 256,(bits .and .u64 ((d.val:Nat):Int) 128 != 0)=decide (128≤d.val):=by decide
theorem gb (d:Nat) (hd:d<256):(bits .and .u64 d 128 != 0)=decide (128≤d):=ob ⟨d,hd⟩
theorem jW (bs:Int) (hb:bs=32∨bs=64) (acc x i:Nat) (hacc:acc<2 ^ (7*i)) (hl:0<bs - 7*i) (hx:x<128) (hd: ¬ (bs - 7*i<7∧x / 2 ^ (bs - 7*i).toNat≠0)) :
 acc+x*2 ^ (7*i)<2 ^ (7*(i+1))∧acc+x*2 ^ (7*i)<2 ^ bs.toNat:=by
 have e1:2 ^ (7*(i+1))=128*2 ^ (7*i):=by rw[show 7*(i+1)=7+7*i by omega,Nat.pow_add]
 have e2:2 ^ bs.toNat=2 ^ (bs - 7*i).toNat*2 ^ (7*i):=by rw[← Nat.pow_add]; congr 1; omega
 have h1:x<2 ^ (bs - 7*i).toNat:=by
  by_cases h7:bs - 7*i<7
  ·have h2:x / 2 ^ (bs - 7*i).toNat=0:=by
    rcases Nat.eq_zero_or_pos (x / 2 ^ (bs - 7*i).toNat) with h | h
    ·exact h
    ·exact absurd ⟨h7,by omega⟩ hd
   exact (Nat.div_eq_zero_iff.1 h2).resolve_left (by have:=Nat.two_pow_pos (bs - 7*i).toNat; omega)
  ·have:2 ^ 7≤2 ^ (bs - 7*i).toNat:=Nat.pow_le_pow_right (by decide) (by omega)
   omega
 have h3:(x+1)*2 ^ (7*i)≤2 ^ (bs - 7*i).toNat*2 ^ (7*i):=Nat.mul_le_mul_right _ h1
 have h4:(x+1)*2 ^ (7*i)≤128*2 ^ (7*i):=Nat.mul_le_mul_right _ hx
 rw[Nat.add_mul] at h3 h4
 rw[e1,e2]
 omega
theorem rB (bs:Int) (hb:bs=32∨bs=64) (acc d i:Nat) (hacc:acc<2 ^ (7*i)) (hdd:d<256) (hl:0<bs - 7*i) (hd: ¬ (bs - 7*i<7∧d % 128 / 2 ^ (bs - 7*i).toNat≠0)) :
 bits .or .u64 acc (IntKind.u64.wrap (bits .and .u64 d 127*2 ^ (7*i)))=((acc+d % 128*2 ^ (7*i):Nat):Int):=by
 obtain⟨_,h2⟩:=jW bs hb acc (d % 128) i hacc hl (by omega) hd
 have h3:2 ^ bs.toNat≤18446744073709551616:=by rcases hb with rfl | rfl <;> decide
 have hlt:acc+d % 128*2 ^ (7*i)<18446744073709551616:=by omega
 rw[lh d hdd]
 have e1:((d % 128:Nat):Int)*2 ^ (7*i)=((d % 128*2 ^ (7*i):Nat):Int):=by rw[Int.natCast_mul,Int.natCast_pow]; rfl
 have e0:=Nat.two_pow_add_eq_or_of_lt hacc (d % 128)
 rw[Nat.mul_comm] at e0
 rw[e1]
 generalize d % 128*2 ^ (7*i)=y at *
 have e2:IntKind.u64.wrap (y:Int)=y:=by rw[IntKind.wrap_u64]; omega
 rw[e2]
 show IntKind.u64.wrap ((BitVec.ofInt 64 _ ||| BitVec.ofInt 64 _).toNat:Int)= _
 rw[BitVec.toNat_or,BitVec.toNat_ofInt,BitVec.toNat_ofInt]
 have e3:((acc:Int) % (2 ^ 64:Nat)).toNat=acc:=by omega
 have e4:((y:Int) % (2 ^ 64:Nat)).toNat=y:=by omega
 rw[e3,e4,Nat.or_comm,← e0,IntKind.wrap_u64]
 omega
attribute [local go_sem] dr aR
theorem tn (b:Nat) (st:I) (bs:Int) (h0:st.err≠0) :
 eh Tryz.prog 114 #[.pointer (some ⟨b,0,none⟩),.int .i64 bs] (InR b st) (fun v A' N=>v= .int .u64 0∧A'=InR b st∧N = []):=by
 intro F w hA
 have HA:=Lib.hid (vW F w (Sep.one hA))
 clear hA
 have HT:=Lib.hid (show bf st 1=([],st) by simp[bf,h0])
 go_enter Tryz.func114,Tryz.ntmps114
 go_wp2_with fail
 go_step3
 go_wp2_with fail
 go_step3
 go_wp2_with fail
 refine (HA.out.call 0 rfl (bU b st 1 (by omega) (by omega))).mono ?_
 rintro e w1 ⟨v,A',N,rfl,⟨rfl,rfl,rfl⟩,H1⟩
 rw[HT.out] at H1 ⊢
 have HS1:=Lib.hid H1
 clear H1
 go_wp2_with fail
 go_ret
 exact⟨_,_,_,rfl,⟨rfl,rfl,rfl⟩,HS1.out⟩
def VJ (F:Nat→Prop) (w:World) (b:Nat) (bs:Int) (res:Nat×I) (lab:Nat) (a':Act) (w':World):Prop :=
 (lab=0∧ ∃ (l1:List UInt8) (pos1 acc i:Nat),St F w [InR b ⟨l1,pos1,0⟩] w'∧acc<2 ^ (7*i)∧7*i<bs+7∧vgo bs l1 pos1 acc i=res ∧
  ∃ u7 u8 u9 u10 u11 u12 u13 u14 u15 u16 u17 u18 u19 u20 u21 u22 u23 u24 u25 u26 u27 u28 u29 u30 u31 u32 u33 u34 u35 u36 u37 u38 u39 u40 u41 u42 u43 u44 u45 u46 u47 u48 u49 u50 u51 u52 u53 u54 u55,a' = { tmps:= #[.pointer (some ⟨b,0,none⟩),.int .i64 bs,undef,undef,.int .u64 0,.int .u64 acc,.int .i64 (7*i),u7,u8,u9,u10,u11,u12,u13,u14,u15,u16,u17,u18,u19,u20,u21,u22,u23,u24,u25,u26,u27,u28,u29,u30,u31,u32,u33,u34,u35,u36,u37,u38,u39,u40,u41,u42,u43,u44,u45,u46,u47,u48,u49,u50,u51,u52,u53,u54,u55],defers := [] }) ∨
 (lab=1∧ ∃ (l1:List UInt8) (pos1:Nat),St F w [InR b ⟨l1,pos1,0⟩] w'∧(0,⟨l1,pos1,3⟩)=res ∧
  ∃ u5 u6 u7 u8 u9 u10 u11 u12 u13 u14 u15 u16 u17 u18 u19 u20 u21 u22 u23 u24 u25 u26 u27 u28 u29 u30 u31 u32 u33 u34 u35 u36 u37 u38 u39 u40 u41 u42 u43 u44 u45 u46 u47 u48 u49 u50 u51 u52 u53 u54 u55,a' = { tmps:= #[.pointer (some ⟨b,0,none⟩),.int .i64 bs,undef,undef,.int .u64 0,u5,u6,u7,u8,u9,u10,u11,u12,u13,u14,u15,u16,u17,u18,u19,u20,u21,u22,u23,u24,u25,u26,u27,u28,u29,u30,u31,u32,u33,u34,u35,u36,u37,u38,u39,u40,u41,u42,u43,u44,u45,u46,u47,u48,u49,u50,u51,u52,u53,u54,u55],defers := [] })
def VM (lab:Nat) (a':Act) (_:World):Nat:=if lab=1 then 0 else 100 - (intOf (a'.tmps.getD 6 undef)).toNat
theorem Uns_go (b:Nat) (l:List UInt8) (pos:Nat) (bs:Int) (hb:bs=32∨bs=64) :
 eh Tryz.prog 114 #[.pointer (some ⟨b,0,none⟩),.int .i64 bs] (InR b ⟨l,pos,0⟩) (fun v A' N=>v= .int .u64 (vgo bs l pos 0 0).1∧A'=InR b (vgo bs l pos 0 0).2∧N = []):=by
 intro F w hA
 have HA:=Lib.hid (vW F w (Sep.one hA))
 clear hA
 generalize hres:vgo bs l pos 0 0=res
 go_enter Tryz.func114,Tryz.ntmps114
 go_wp2_with fail
 refine hY (VJ F w b bs res) VM ?_ ?_
 ·rintro lab a' w1 (⟨rfl,l1,pos1,acc,i,hst,hacc,hi,hg,u7,u8,u9,u10,u11,u12,u13,u14,u15,u16,u17,u18,u19,u20,u21,u22,u23,u24,u25,u26,u27,u28,u29,u30,u31,u32,u33,u34,u35,u36,u37,u38,u39,u40,u41,u42,u43,u44,u45,u46,u47,u48,u49,u50,u51,u52,u53,u54,u55,rfl⟩ | ⟨rfl,l1,pos1,hst,hg,u5,u6,u7,u8,u9,u10,u11,u12,u13,u14,u15,u16,u17,u18,u19,u20,u21,u22,u23,u24,u25,u26,u27,u28,u29,u30,u31,u32,u33,u34,u35,u36,u37,u38,u39,u40,u41,u42,u43,u44,u45,u46,u47,u48,u49,u50,u51,u52,u53,u54,u55,rfl⟩)
  ·refine⟨_,rfl,?_⟩
   have HS:=Lib.hid hst
   have HG:=Lib.hid hg
   have HACC:=Lib.hid hacc
   have hb1:bs≤64:=by omega
   clear hst hg hacc
   cases l1 with
   | nil =>
    have HT:=Lib.hid (qu pos1)
    go_wp2_with fail
    refine (HS.out.call 0 rfl (bU b _ 1 (by omega) (by omega))).mono ?_
    rintro e w2 ⟨v,A',N,rfl,⟨rfl,rfl,rfl⟩,H1⟩
    rw[HT.out] at H1 ⊢
    have HS1:=Lib.hid H1
    clear H1
    go_wp2_with fail
    go_ret
    exact⟨_,_,_,rfl,⟨by rw[← HG.out]; rfl,by rw[← HG.out]; rfl,rfl⟩,HS1.out⟩
   | cons c l2 =>
    have HT:=Lib.hid (sw c l2 pos1)
    have hsz:=aR [c]
    have h0:=jT [c] 0 (by simp[aR])
    simp only[List.getElem_cons_zero] at h0
    have hc:c.toNat<256:=c.toNat_lt
    by_cases hl:bs - 7*i≤0
    ·have HV:=Lib.hid (show (0,⟨l2,pos1+1,3⟩)=res by rw[← HG.out,vgo,if_pos (by first | exact .inl hl | exact .inr ⟨by omega,hq⟩)])
     by_cases hz:(bits .and .u64 c.toNat 127 != 0)=true
     ·go_wp2_with fail
      refine (HS.out.call 0 rfl (bU b _ 1 (by omega) (by omega))).mono ?_
      rintro e w2 ⟨v,A',N,rfl,⟨rfl,rfl,rfl⟩,H1⟩
      rw[HT.out] at H1 ⊢
      have HS1:=Lib.hid H1
      clear H1
      go_wp2_with fail
      go_step3
      exact⟨.inr ⟨rfl,l2,pos1+1,HS1.out,HV.out,_,_,_,_,_,_,_,_,_,_,_,_,_,_,_,_,_,_,_,_,_,_,_,_,_,_,_,_,_,_,_,_,_,_,_,_,_,_,_,_,_,_,_,_,_,_,_,_,_,_,_,rfl⟩,by simp[VM,intOf]; omega⟩
     ·have hz':(bits .and .u64 c.toNat 127 != 0)=false:=by simpa using hz
      go_wp2_with fail
      refine (HS.out.call 0 rfl (bU b _ 1 (by omega) (by omega))).mono ?_
      rintro e w2 ⟨v,A',N,rfl,⟨rfl,rfl,rfl⟩,H1⟩
      rw[HT.out] at H1 ⊢
      have HS1:=Lib.hid H1
      clear H1
      go_wp2_with fail
      go_step3
      exact⟨.inr ⟨rfl,l2,pos1+1,HS1.out,HV.out,_,_,_,_,_,_,_,_,_,_,_,_,_,_,_,_,_,_,_,_,_,_,_,_,_,_,_,_,_,_,_,_,_,_,_,_,_,_,_,_,_,_,_,_,_,_,_,_,_,_,_,rfl⟩,by simp[VM,intOf]; omega⟩
    ·have hl':0<bs - 7*i:=by omega
     by_cases hl7:7≤bs - 7*i
     ·have HD:=Lib.hid (show ¬ (bs - 7*i<7∧c.toNat % 128 / 2 ^ (bs - 7*i).toNat≠0) by omega)
      have HA2:=Lib.hid (rB bs hb acc c.toNat i HACC.out (by omega) hl' HD.out)
      have HLT:=Lib.hid (jW bs hb acc (c.toNat % 128) i HACC.out hl' (by omega) HD.out)
      have HN:=Lib.hid (show ¬ (bs - 7*i≤0∨(bs - 7*i<7∧c.toNat % 128 / 2 ^ (bs - 7*i).toNat≠0)) from fun h=>h.elim (fun h=>by omega) HD.out)
      by_cases h128:128≤c.toNat
      ·have HV:=Lib.hid (show vgo bs l2 (pos1+1) (acc+c.toNat % 128*2 ^ (7*i)) (i+1)=res by rw[← HG.out,vgo,if_neg HN.out,if_pos h128])
       have hbt:(bits .and .u64 c.toNat 128 != 0)=true:=by rw[gb _ hc]; simpa using h128
       go_wp2_with fail
       refine (HS.out.call 0 rfl (bU b _ 1 (by omega) (by omega))).mono ?_
       rintro e w2 ⟨v,A',N,rfl,⟨rfl,rfl,rfl⟩,H1⟩
       rw[HT.out] at H1 ⊢
       have HS1:=Lib.hid H1
       clear H1
       go_wp2_with fail
       go_step3
       rw[HA2.out,show (7*(i:Int)+7)=7*((i+1:Nat):Int) by omega]
       exact⟨.inl ⟨rfl,l2,pos1+1,_,i+1,HS1.out,HLT.out.1,by omega,HV.out,_,_,_,_,_,_,_,_,_,_,_,_,_,_,_,_,_,_,_,_,_,_,_,_,_,_,_,_,_,_,_,_,_,_,_,_,_,_,_,_,_,_,_,_,_,_,_,_,_,rfl⟩,by simp[VM,intOf]; omega⟩
      ·have hbt:(bits .and .u64 c.toNat 128 != 0)=false:=by rw[gb _ hc]; simpa using h128
       by_cases hz:c.toNat=0∧0<i
       ·have HV:=Lib.hid (show (0,⟨l2,pos1+1,3⟩)=res by rw[← HG.out,vgo,if_neg HN.out,if_neg h128,if_pos hz])
        obtain⟨hz1,hz2⟩:=hz
        have hz0:((c.toNat:Int) == 0)=true:=by simp[hz1]
        try (have hq0:(bits .and .u64 0 127 / 2 ^ (bs - 7*i).toNat != 0)=false:=by (rw[← hqb,hz1]; rfl))
        have hi0:0<7*(i:Int):=by omega
        go_wp2_with fail
        refine (HS.out.call 0 rfl (bU b _ 1 (by omega) (by omega))).mono ?_
        rintro e w2 ⟨v,A',N,rfl,⟨rfl,rfl,rfl⟩,H1⟩
        rw[HT.out] at H1 ⊢
        have HS1:=Lib.hid H1
        clear H1
        go_wp2_with fail
        go_step3
        exact⟨.inr ⟨rfl,l2,pos1+1,HS1.out,HV.out,_,_,_,_,_,_,_,_,_,_,_,_,_,_,_,_,_,_,_,_,_,_,_,_,_,_,_,_,_,_,_,_,_,_,_,_,_,_,_,_,_,_,_,_,_,_,_,_,_,_,_,rfl⟩,by simp[VM,intOf]; omega⟩
       ·have HV:=Lib.hid (show (acc+c.toNat % 128*2 ^ (7*i),⟨l2,pos1+1,0⟩)=res by rw[← HG.out,vgo,if_neg HN.out,if_neg h128,if_neg hz])
        by_cases hz1:c.toNat=0
        ·have hz0:((c.toNat:Int) == 0)=true:=by simp[hz1]
         try (have hq0:(bits .and .u64 0 127 / 2 ^ (bs - 7*i).toNat != 0)=false:=by (rw[← hqb,hz1]; rfl))
         have HA3:=Lib.hid (show bits .or .u64 acc (IntKind.u64.wrap (bits .and .u64 0 127*2 ^ (7*i)))=((acc+c.toNat % 128*2 ^ (7*i):Nat):Int) by rw[← HA2.out,hz1]; rfl)
         have hi0: ¬ (0<7*(i:Int)):=by omega
         go_wp2_with fail
         refine (HS.out.call 0 rfl (bU b _ 1 (by omega) (by omega))).mono ?_
         rintro e w2 ⟨v,A',N,rfl,⟨rfl,rfl,rfl⟩,H1⟩
         rw[HT.out] at H1 ⊢
         have HS1:=Lib.hid H1
         clear H1
         go_wp2_with fail
         all_goals
          go_ret
          exact⟨_,_,_,rfl,⟨by rw[← HV.out]; exact congrArg (Value.int IntKind.u64) HA3.out,by rw[← HV.out],rfl⟩,HS1.out⟩
        ·have hz0:((c.toNat:Int) == 0)=false:=by simp; omega
         go_wp2_with fail
         refine (HS.out.call 0 rfl (bU b _ 1 (by omega) (by omega))).mono ?_
         rintro e w2 ⟨v,A',N,rfl,⟨rfl,rfl,rfl⟩,H1⟩
         rw[HT.out] at H1 ⊢
         have HS1:=Lib.hid H1
         clear H1
         go_wp2_with fail
         go_ret
         exact⟨_,_,_,rfl,⟨by rw[← HV.out]; exact congrArg (Value.int IntKind.u64) HA2.out,by rw[← HV.out],rfl⟩,HS1.out⟩
     ·by_cases hq:c.toNat % 128 / 2 ^ (bs - 7*i).toNat≠0
      ·have HV:=Lib.hid (show (0,⟨l2,pos1+1,3⟩)=res by rw[← HG.out,vgo,if_pos (by first | exact .inl hl | exact .inr ⟨by omega,hq⟩)])
       have hqb:(bits .and .u64 c.toNat 127 / 2 ^ (bs - 7*i).toNat != 0)=true:=by rw[nl _ hc]; simpa using hq
       go_wp2_with fail
       refine (HS.out.call 0 rfl (bU b _ 1 (by omega) (by omega))).mono ?_
       rintro e w2 ⟨v,A',N,rfl,⟨rfl,rfl,rfl⟩,H1⟩
       rw[HT.out] at H1 ⊢
       have HS1:=Lib.hid H1
       clear H1
       go_wp2_with fail
       go_step3
       exact⟨.inr ⟨rfl,l2,pos1+1,HS1.out,HV.out,_,_,_,_,_,_,_,_,_,_,_,_,_,_,_,_,_,_,_,_,_,_,_,_,_,_,_,_,_,_,_,_,_,_,_,_,_,_,_,_,_,_,_,_,_,_,_,_,_,_,_,rfl⟩,by simp[VM,intOf]; omega⟩
      ·have hqb:(bits .and .u64 c.toNat 127 / 2 ^ (bs - 7*i).toNat != 0)=false:=by rw[nl _ hc]; simpa using hq
       have HD:=Lib.hid (show ¬ (bs - 7*i<7∧c.toNat % 128 / 2 ^ (bs - 7*i).toNat≠0) by omega)
       have HA2:=Lib.hid (rB bs hb acc c.toNat i HACC.out (by omega) hl' HD.out)
       have HLT:=Lib.hid (jW bs hb acc (c.toNat % 128) i HACC.out hl' (by omega) HD.out)
       have HN:=Lib.hid (show ¬ (bs - 7*i≤0∨(bs - 7*i<7∧c.toNat % 128 / 2 ^ (bs - 7*i).toNat≠0)) from fun h=>h.elim (fun h=>by omega) HD.out)
       by_cases h128:128≤c.toNat
       ·have HV:=Lib.hid (show vgo bs l2 (pos1+1) (acc+c.toNat % 128*2 ^ (7*i)) (i+1)=res by rw[← HG.out,vgo,if_neg HN.out,if_pos h128])
        have hbt:(bits .and .u64 c.toNat 128 != 0)=true:=by rw[gb _ hc]; simpa using h128
        go_wp2_with fail
        refine (HS.out.call 0 rfl (bU b _ 1 (by omega) (by omega))).mono ?_
        rintro e w2 ⟨v,A',N,rfl,⟨rfl,rfl,rfl⟩,H1⟩
        rw[HT.out] at H1 ⊢
        have HS1:=Lib.hid H1
        clear H1
        go_wp2_with fail
        go_step3
        rw[HA2.out,show (7*(i:Int)+7)=7*((i+1:Nat):Int) by omega]
        exact⟨.inl ⟨rfl,l2,pos1+1,_,i+1,HS1.out,HLT.out.1,by omega,HV.out,_,_,_,_,_,_,_,_,_,_,_,_,_,_,_,_,_,_,_,_,_,_,_,_,_,_,_,_,_,_,_,_,_,_,_,_,_,_,_,_,_,_,_,_,_,_,_,_,_,rfl⟩,by simp[VM,intOf]; omega⟩
       ·have hbt:(bits .and .u64 c.toNat 128 != 0)=false:=by rw[gb _ hc]; simpa using h128
        by_cases hz:c.toNat=0∧0<i
        ·have HV:=Lib.hid (show (0,⟨l2,pos1+1,3⟩)=res by rw[← HG.out,vgo,if_neg HN.out,if_neg h128,if_pos hz])
         obtain⟨hz1,hz2⟩:=hz
         have hz0:((c.toNat:Int) == 0)=true:=by simp[hz1]
         try (have hq0:(bits .and .u64 0 127 / 2 ^ (bs - 7*i).toNat != 0)=false:=by (rw[← hqb,hz1]; rfl))
         have hi0:0<7*(i:Int):=by omega
         go_wp2_with fail
         refine (HS.out.call 0 rfl (bU b _ 1 (by omega) (by omega))).mono ?_
         rintro e w2 ⟨v,A',N,rfl,⟨rfl,rfl,rfl⟩,H1⟩
         rw[HT.out] at H1 ⊢
         have HS1:=Lib.hid H1
         clear H1
         go_wp2_with fail
         go_step3
         exact⟨.inr ⟨rfl,l2,pos1+1,HS1.out,HV.out,_,_,_,_,_,_,_,_,_,_,_,_,_,_,_,_,_,_,_,_,_,_,_,_,_,_,_,_,_,_,_,_,_,_,_,_,_,_,_,_,_,_,_,_,_,_,_,_,_,_,_,rfl⟩,by simp[VM,intOf]; omega⟩
        ·have HV:=Lib.hid (show (acc+c.toNat % 128*2 ^ (7*i),⟨l2,pos1+1,0⟩)=res by rw[← HG.out,vgo,if_neg HN.out,if_neg h128,if_neg hz])
         by_cases hz1:c.toNat=0
         ·have hz0:((c.toNat:Int) == 0)=true:=by simp[hz1]
          try (have hq0:(bits .and .u64 0 127 / 2 ^ (bs - 7*i).toNat != 0)=false:=by (rw[← hqb,hz1]; rfl))
          have HA3:=Lib.hid (show bits .or .u64 acc (IntKind.u64.wrap (bits .and .u64 0 127*2 ^ (7*i)))=((acc+c.toNat % 128*2 ^ (7*i):Nat):Int) by rw[← HA2.out,hz1]; rfl)
          have hi0: ¬ (0<7*(i:Int)):=by omega
          go_wp2_with fail
          refine (HS.out.call 0 rfl (bU b _ 1 (by omega) (by omega))).mono ?_
          rintro e w2 ⟨v,A',N,rfl,⟨rfl,rfl,rfl⟩,H1⟩
          rw[HT.out] at H1 ⊢
          have HS1:=Lib.hid H1
          clear H1
          go_wp2_with fail
          all_goals
           go_ret
           exact⟨_,_,_,rfl,⟨by rw[← HV.out]; exact congrArg (Value.int IntKind.u64) HA3.out,by rw[← HV.out],rfl⟩,HS1.out⟩
         ·have hz0:((c.toNat:Int) == 0)=false:=by simp; omega
          go_wp2_with fail
          refine (HS.out.call 0 rfl (bU b _ 1 (by omega) (by omega))).mono ?_
          rintro e w2 ⟨v,A',N,rfl,⟨rfl,rfl,rfl⟩,H1⟩
          rw[HT.out] at H1 ⊢
          have HS1:=Lib.hid H1
          clear H1
          go_wp2_with fail
          go_ret
          exact⟨_,_,_,rfl,⟨by rw[← HV.out]; exact congrArg (Value.int IntKind.u64) HA2.out,by rw[← HV.out],rfl⟩,HS1.out⟩
  ·refine⟨_,rfl,?_⟩
   have HS:=Lib.hid hst
   have HG:=Lib.hid hg
   clear hst hg
   go_wp2_with fail
   refine (HS.out.call 0 rfl (ej b _ 3)).mono ?_
   rintro e w2 ⟨v,A',N,rfl,⟨rfl,rfl,rfl⟩,H1⟩
   have HS1:=Lib.hid H1
   clear H1
   go_wp2_with fail
   go_ret
   exact⟨_,_,_,rfl,⟨by rw[← HG.out]; rfl,by rw[← HG.out]; rfl,rfl⟩,HS1.out⟩
 ·intro again
  have AG:=Lib.hid again
  clear again
  go_wp2_with fail
  go_step3
  rename_i hK
  exact hK _ _ (AG.out 0 _ _ _ rfl (.inl ⟨rfl,l,pos,0,0,HA.out,by omega,by omega,hres,_,_,_,_,_,_,_,_,_,_,_,_,_,_,_,_,_,_,_,_,_,_,_,_,_,_,_,_,_,_,_,_,_,_,_,_,_,_,_,_,_,_,_,_,_,_,_,_,_,rfl⟩))
theorem pf (b:Nat) (st:I) (bs:Int) (hb:bs=32∨bs=64) :
 eh Tryz.prog 114 #[.pointer (some ⟨b,0,none⟩),.int .i64 bs] (InR b st) (fun v A' N=>v= .int .u64 (co bs st).1∧A'=InR b (co bs st).2∧N = []):=by
 obtain⟨l,pos,er⟩:=st
 by_cases h0:er=0
 ·subst h0
  exact Uns_go b l pos bs hb
 ·have h:=tn b ⟨l,pos,er⟩ bs h0
  have e:co bs ⟨l,pos,er⟩=(0,⟨l,pos,er⟩):=by simp[co,h0]
  rw[e]
  exact h
theorem vgo_lt (bs:Int) (hb:bs=32∨bs=64): ∀ (l:List UInt8) (pos acc i:Nat),acc<2 ^ (7*i)→(vgo bs l pos acc i).1<2 ^ bs.toNat:=by
 have hp:0<2 ^ bs.toNat:=Nat.two_pow_pos _
 intro l
 induction l with
 | nil=>intro pos acc i _; exact hp
 | cons c l ih =>
  intro pos acc i hacc
  unfold vgo
  split
  ·exact hp
  ·rename_i hn
   have h:=jW bs hb acc (c.toNat % 128) i hacc (by omega) (by omega) (fun h=>hn (.inr h))
   split
   ·exact ih _ _ _ h.1
   ·split
    ·exact hp
    ·exact h.2
theorem tp (bs:Int) (hb:bs=32∨bs=64) (st:I):(co bs st).1<2 ^ bs.toNat:=by
 unfold co
 split
 ·exact Nat.two_pow_pos _
 ·exact vgo_lt bs hb _ _ _ _ (by simp)
theorem jr (bs:Int) (hb:bs=32∨bs=64) (st:I):(co bs st).1<18446744073709551616:=by
 have h:=tp bs hb st
 rcases hb with rfl | rfl
 ·have e:2 ^ (32:Int).toNat=4294967296:=by decide
  omega
 ·have e:2 ^ (64:Int).toNat=18446744073709551616:=by decide
  omega
def dg (r:Nat×I):Int×I:=(gz r.1,r.2)
theorem nn (b:Nat) (st:I) :
 eh Tryz.prog 101 #[.pointer (some ⟨b,0,none⟩)] (InR b st) (fun v A' N=>v= .int .i64 (dg (co 32 st)).1∧A'=InR b (dg (co 32 st)).2∧N = []):=by
 intro F w hA
 have HA:=Lib.hid (vW F w (Sep.one hA))
 clear hA
 have hs:=pf b st 32 (.inl rfl)
 have hlt:=jr 32 (.inl rfl) st
 generalize co 32 st=r at *
 have HS:=Lib.hid hs
 clear hs
 go_enter Tryz.func101,Tryz.ntmps101
 go_wp2_with fail
 refine (HA.out.call 0 rfl HS.out).mono ?_
 rintro e w1 ⟨v,A',N,rfl,⟨rfl,rfl,rfl⟩,H1⟩
 have HS1:=Lib.hid H1
 clear H1
 go_wp2_with fail
 refine (nj r.1 hlt w1).mono ?_
 rintro e w' ⟨rfl,rfl⟩
 go_wp2_with fail
 go_ret
 exact⟨_,_,_,rfl,⟨rfl,rfl,rfl⟩,HS1.out⟩
theorem qv (b:Nat) (st:I) :
 eh Tryz.prog 100 #[.pointer (some ⟨b,0,none⟩)] (InR b st) (fun v A' N=>v= .int .i64 (dg (co 64 st)).1∧A'=InR b (dg (co 64 st)).2∧N = []):=by
 intro F w hA
 have HA:=Lib.hid (vW F w (Sep.one hA))
 clear hA
 have hs:=pf b st 64 (.inr rfl)
 have hlt:=jr 64 (.inr rfl) st
 generalize co 64 st=r at *
 have HS:=Lib.hid hs
 clear hs
 go_enter Tryz.func100,Tryz.ntmps100
 go_wp2_with fail
 refine (HA.out.call 0 rfl HS.out).mono ?_
 rintro e w1 ⟨v,A',N,rfl,⟨rfl,rfl,rfl⟩,H1⟩
 have HS1:=Lib.hid H1
 clear H1
 go_wp2_with fail
 refine (nj r.1 hlt w1).mono ?_
 rintro e w' ⟨rfl,rfl⟩
 go_wp2_with fail
 go_ret
 exact⟨_,_,_,rfl,⟨rfl,rfl,rfl⟩,HS1.out⟩
theorem mV {a b:Nat} (h:2 ^ a<2 ^ b):a<b:=(Nat.pow_lt_pow_iff_right (by decide)).1 h
theorem uM (bs:Int) (hb:0<bs): ∀ (v pos acc i:Nat) (r:List UInt8),acc+v*2 ^ (7*i)<2 ^ bs.toNat→(0<i→0<v) →
 vgo bs (aX v++r) pos acc i=(acc+v*2 ^ (7*i),⟨r,pos+(aX v).length,0⟩):=by
 intro v
 induction v using Nat.strongRecOn with
 | _ v ih =>
  intro pos acc i r h hi
  have h7:(7*i:Int)<bs:=by
   rcases Nat.eq_zero_or_pos i with h0 | h0
   ·subst h0; omega
   ·have hv:=hi h0
    have h2:1*2 ^ (7*i)≤v*2 ^ (7*i):=Nat.mul_le_mul_right _ hv
    have h3:=mV (show 2 ^ (7*i)<2 ^ bs.toNat by omega)
    omega
  have hleft: ∀ d:Nat,d≤v→d / 2 ^ (bs - 7*i).toNat=0:=by
   intro d hd
   have e:2 ^ bs.toNat=2 ^ (bs - 7*i).toNat*2 ^ (7*i):=by rw[← Nat.pow_add]; congr 1; omega
   have h2:d*2 ^ (7*i)≤v*2 ^ (7*i):=Nat.mul_le_mul_right _ hd
   have h3:d<2 ^ (bs - 7*i).toNat:=by
    apply Nat.lt_of_mul_lt_mul_right (a:=2 ^ (7*i))
    omega
   exact Nat.div_eq_of_lt h3
  rw[aX]
  split
  ·rename_i hlt
   have hc:(UInt8.ofNat v).toNat=v:=by simp[UInt8.toNat_ofNat']; omega
   simp only[List.cons_append,yk,vgo,hc,Nat.mod_eq_of_lt hlt,hleft v (yn _)]
   rw[if_neg (by simp; omega),if_neg (by omega),if_neg (by rintro⟨h1,h2⟩; have:=hi h2; omega)]
   simp
  ·rename_i hge
   have hc:(UInt8.ofNat (v % 128+128)).toNat=v % 128+128:=by simp[UInt8.toNat_ofNat']; omega
   have e2:2 ^ (7*(i+1))=128*2 ^ (7*i):=by rw[show 7*(i+1)=7+7*i by omega,Nat.pow_add]
   have e3:acc+v % 128*2 ^ (7*i)+v / 128*2 ^ (7*(i+1))=acc+v*2 ^ (7*i):=by
    rw[e2]
    generalize 2 ^ (7*i)=z
    have h1:v / 128*(128*z)=v / 128*128*z:=by rw[Nat.mul_assoc]
    rw[h1,Nat.add_assoc,← Nat.add_mul]
    congr 2
    omega
   simp only[List.cons_append,vgo,hc]
   rw[show (v % 128+128) % 128=v % 128 by omega,hleft (v % 128) (Nat.mod_le _ _),if_neg (by simp; omega),if_pos (by omega),ih (v / 128) (by omega) _ _ _ _ (by rw[e3]; exact h) (by omega),e3]
   simp; omega
theorem qw (n:Int) (h: -2147483648≤n∧n≤2147483647):aB n<4294967296:=by unfold aB; split <;> omega
theorem vgo_ok (bs:Int): ∀ (l:List UInt8) (pos acc i u:Nat) (s:I),vgo bs l pos acc i=(u,s)→s.err=0 →
 ∃ k v,s=⟨l.drop k,pos+k,0⟩∧k≤l.length∧u=acc+v*2 ^ (7*i)∧aX v=l.take k∧(0<i→0<v):=by
 intro l
 induction l with
 | nil=>intro pos acc i u s h h0; simp only[vgo,Prod.mk.injEq] at h; rw[← h.2] at h0; simp at h0
 | cons c l ih =>
  intro pos acc i u s h h0
  unfold vgo at h
  split at h
  ·simp only[Prod.mk.injEq] at h; rw[← h.2] at h0; simp at h0
  ·split at h
   ·rename_i h128
    obtain⟨k,v,h1,h2,h3,h4,h5⟩:=ih _ _ _ _ _ h h0
    have hv:=h5 (by omega)
    have hc:=c.toNat_lt
    refine⟨k+1,c.toNat % 128+128*v,?_,by simpa using h2,?_,?_,by omega⟩
    ·rw[h1]; simp; omega
    ·have e:2 ^ (7*(i+1))=128*2 ^ (7*i):=by rw[show 7*(i+1)=7+7*i by omega,Nat.pow_add]
     rw[h3,e,Nat.add_mul]
     generalize 2 ^ (7*i)=z
     have:v*(128*z)=128*v*z:=by rw[Nat.mul_comm 128 v,Nat.mul_assoc]
     omega
    ·rw[aX,if_neg (by omega),show (c.toNat % 128+128*v) / 128=v by omega,h4,List.take_succ_cons]
     congr 1
     rw[show (c.toNat % 128+128*v) % 128+128=c.toNat by omega]
     exact UInt8.ofNat_toNat
   ·rename_i h128
    split at h
    ·simp only[Prod.mk.injEq] at h; rw[← h.2] at h0; simp at h0
    ·rename_i hz
     have hc:=c.toNat_lt
     simp only[Prod.mk.injEq] at h
     refine⟨1,c.toNat,by rw[← h.2]; simp,by simp,by rw[← h.1,Nat.mod_eq_of_lt (by omega)],?_,?_⟩
     ·rw[aX,if_pos (by omega)]; simp
     ·intro hi
      rcases Nat.eq_zero_or_pos c.toNat with h6 | h6
      ·exact absurd ⟨h6,hi⟩ hz
      ·exact h6
attribute [local go_sem] dr aR
structure Bl where
 null:Bool
 data:List UInt8
@[go_sem] def blV (b:Bl):Value:= .agg #[.bool b.null,.string (aC b.data)]
theorem kC:(Tryz.prog.info? 66).map (·.size)=some 2:=by kernel_rfl
theorem pg (l:List UInt8):e9 Tryz.prog 94 #[.string (aC l)] (fun v N=>v=blV ⟨false,l⟩∧N = []):=by
 intro w
 have HS:=Lib.hid (wu w)
 go_enter Tryz.func94,Tryz.ntmps94
 go_wp2_with fail
 refine bodyPost_ret (v:=blV ⟨false,l⟩) (results_cell_row (by rfl) _ _ w.heap.size 66 #[.bool false,.string (aC l)] (0,0) _ rfl (heap_alloc_new w _) Tryz.underlying66 rfl kC) rfl ?_
 exact⟨_,_,rfl,⟨rfl,rfl⟩,(HS.out.alloc _ _).drop_⟩
theorem qx:e9 Tryz.prog 116 #[] (fun v N=>v=blV ⟨true,[]⟩∧N = []):=by
 intro w
 have HS:=Lib.hid (wu w)
 go_enter Tryz.func116,Tryz.ntmps116
 go_wp2_with fail
 refine bodyPost_ret (v:=blV ⟨true,[]⟩) (results_cell_row (by rfl) _ _ w.heap.size 66 #[.bool true,.string (aC [])] (0,0) _ rfl (heap_alloc_new w _) Tryz.underlying66 rfl kC) rfl ?_
 exact⟨_,_,rfl,⟨rfl,rfl⟩,(HS.out.alloc _ _).drop_⟩
def aY (b:Bl):Bool:= !b.null || b.data.isEmpty
theorem im (b:Bl):e9 Tryz.prog 106 #[blV b] (fun v N=>v= .bool (aY b)∧N = []):=by
 intro w
 have HS:=Lib.hid (wu w)
 obtain⟨n,l⟩:=b
 have HB:=Lib.hid (show (l == [])=l.isEmpty by cases l <;> rfl)
 cases n
 ·go_enter Tryz.func106,Tryz.ntmps106
  go_wp2_with fail
  go_ret
  exact⟨_,_,rfl,⟨rfl,rfl⟩,(HS.out.alloc _ _).drop_⟩
 ·go_enter Tryz.func106,Tryz.ntmps106
  go_wp2_with fail
  go_ret
  exact⟨_,_,rfl,⟨congrArg Value.bool (by simp[aY]),rfl⟩,(HS.out.alloc _ _).drop_⟩
def cT (b:Bl):Int:=if b.null then -1 else b.data.length
theorem sx (b:Bl):e9 Tryz.prog 110 #[blV b] (fun v N=>v= .int .i64 (cT b)∧N = []):=by
 intro w
 have HS:=Lib.hid (wu w)
 obtain⟨n,l⟩:=b
 cases n
 all_goals
  go_enter Tryz.func110,Tryz.ntmps110
  go_wp2_with fail
  go_ret
  exact⟨_,_,rfl,⟨rfl,rfl⟩,(HS.out.alloc _ _).drop_⟩
def fH (st:I) (n:Int):Bl×I:=if st.err≠0 then (⟨false,[]⟩,st) else if n= -1 then (⟨true,[]⟩,st) else (⟨false,(bf st n).1⟩,(bf st n).2)
theorem qy (g:Nat) (st:I) (n:Int) (h0: -9223372036854775808≤n) (h1:n≤9223372036854775807) :
 eh Tryz.prog 115 #[.pointer (some ⟨g,0,none⟩),.int .i64 n] (InR g st) (fun v A' N=>v=blV (fH st n).1∧A'=InR g (fH st n).2∧N = []):=by
 intro F w hA
 have HA:=Lib.hid (vW F w (Sep.one hA))
 clear hA
 have HB:=Lib.hid (HA.out.alloc #[.bool false,.string ⟨#[]⟩] 66)
 by_cases he:st.err=0
 ·by_cases hn:n= -1
  ·subst hn
   have HQ:=Lib.hid (show fH st (-1)=(⟨true,[]⟩,st) by simp[fH,he])
   have hb:(st.err != 0)=false:=by simp[he]
   clear he
   go_enter Tryz.func115,Tryz.ntmps115
   go_wp2_with fail
   refine (St.call 1 (HB).out rfl (iN g _)).mono ?_
   rintro e w1 ⟨v,A',N,rfl,⟨rfl,rfl,rfl⟩,H1⟩
   try simp only[List.cons_append,yk,List.set_cons_zero,List.set_cons_succ,cn] at H1
   have HC:=Lib.hid H1
   clear H1
   go_wp2_with fail
   refine (St.call0 HC.out qx).mono ?_
   rintro e w2 ⟨v,N,rfl,⟨rfl,rfl⟩,H2⟩
   have d0:w2.cell? ⟨w.heap.size,0,none⟩=some (.bool false):=aM (St.blk 0 H2 rfl) 0
   have d1:w2.cell? ⟨w.heap.size,1,none⟩=some (.string ⟨#[]⟩):=aM (St.blk 0 H2 rfl) 1
   have f0:w2.frozen? ⟨w.heap.size,0,none⟩=false:=ck (St.blk 0 H2 rfl) 0
   have f1:w2.frozen? ⟨w.heap.size,1,none⟩=false:=ck (St.blk 0 H2 rfl) 1
   have HD:=Lib.hid H2
   clear H2
   go_wp2_with fail
   have HE:=((HD.out.set 0 rfl 0 (.bool true)).set 0 rfl 1 (.string (aC [])))
   refine bodyPost_ret (v:=blV ⟨true,[]⟩) (results_cell_row (by rfl) _ _ w.heap.size 66 #[.bool true,.string (aC [])] (0,0) _ rfl (St.blk 0 HE rfl) Tryz.underlying66 rfl kC) rfl ?_
   exact⟨_,_,_,rfl,⟨by rw[HQ.out],by rw[HQ.out],rfl⟩,HE.drop_⟩
  ·have HQ:=Lib.hid (show fH st n=(⟨false,(bf st n).1⟩,(bf st n).2) by simp[fH,he,hn])
   have hb:(st.err != 0)=false:=by simp[he]
   have hnb:(n == -1)=false:=beq_eq_false_iff_ne.2 hn
   clear he hn
   go_enter Tryz.func115,Tryz.ntmps115
   go_wp2_with fail
   refine (St.call 1 (HB).out rfl (iN g _)).mono ?_
   rintro e w1 ⟨v,A',N,rfl,⟨rfl,rfl,rfl⟩,H1⟩
   try simp only[List.cons_append,yk,List.set_cons_zero,List.set_cons_succ,cn] at H1
   have HC:=Lib.hid H1
   clear H1
   go_wp2_with fail
   refine (St.call 1 (HC).out rfl (bU g st n h0 h1)).mono ?_
   rintro e w1 ⟨v,A',N,rfl,⟨rfl,rfl,rfl⟩,H1⟩
   try simp only[List.cons_append,yk,List.set_cons_zero,List.set_cons_succ,cn] at H1
   have HC2:=Lib.hid H1
   clear H1
   go_wp2_with fail
   refine (St.call0 HC2.out (pg (bf st n).1)).mono ?_
   rintro e w2 ⟨v,N,rfl,⟨rfl,rfl⟩,H2⟩
   have d0:w2.cell? ⟨w.heap.size,0,none⟩=some (.bool false):=aM (St.blk 0 H2 rfl) 0
   have d1:w2.cell? ⟨w.heap.size,1,none⟩=some (.string ⟨#[]⟩):=aM (St.blk 0 H2 rfl) 1
   have f0:w2.frozen? ⟨w.heap.size,0,none⟩=false:=ck (St.blk 0 H2 rfl) 0
   have f1:w2.frozen? ⟨w.heap.size,1,none⟩=false:=ck (St.blk 0 H2 rfl) 1
   have HD:=Lib.hid H2
   clear H2
   go_wp2_with fail
   have HE:=((HD.out.set 0 rfl 0 (.bool false)).set 0 rfl 1 (.string (aC (bf st n).1)))
   refine bodyPost_ret (v:=blV ⟨false,(bf st n).1⟩) (results_cell_row (by rfl) _ _ w.heap.size 66 #[.bool false,.string (aC (bf st n).1)] (0,0) _ rfl (St.blk 0 HE rfl) Tryz.underlying66 rfl kC) rfl ?_
   exact⟨_,_,_,rfl,⟨by rw[HQ.out],by rw[HQ.out],rfl⟩,HE.drop_⟩
 ·have HQ:=Lib.hid (show fH st n=(⟨false,[]⟩,st) by simp[fH,he])
  have hb:(st.err != 0)=true:=bne_iff_ne.2 he
  clear he
  go_enter Tryz.func115,Tryz.ntmps115
  go_wp2_with fail
  refine (St.call 1 HB.out rfl (iN g _)).mono ?_
  rintro e w2 ⟨v,A',N,rfl,⟨rfl,rfl,rfl⟩,H2⟩
  have d0:w2.cell? ⟨w.heap.size,0,none⟩=some (.bool false):=aM (St.blk 0 H2 rfl) 0
  have d1:w2.cell? ⟨w.heap.size,1,none⟩=some (.string ⟨#[]⟩):=aM (St.blk 0 H2 rfl) 1
  have f0:w2.frozen? ⟨w.heap.size,0,none⟩=false:=ck (St.blk 0 H2 rfl) 0
  have f1:w2.frozen? ⟨w.heap.size,1,none⟩=false:=ck (St.blk 0 H2 rfl) 1
  have HD:=Lib.hid H2
  clear H2
  go_wp2_with fail
  have HE:=((HD.out.set 0 rfl 0 (.bool false)).set 0 rfl 1 (.string (aC [])))
  refine bodyPost_ret (v:=blV ⟨false,[]⟩) (results_cell_row (by rfl) _ _ w.heap.size 66 #[.bool false,.string (aC [])] (0,0) _ rfl (St.blk 0 HE rfl) Tryz.underlying66 rfl kC) rfl ?_
  exact⟨_,_,_,rfl,⟨by rw[HQ.out],by rw[HQ.out],rfl⟩,HE.drop_⟩
theorem np (st:I): -9223372036854775808≤(dg (co 32 st)).1∧(dg (co 32 st)).1≤9223372036854775807:=by
 have h:=jr 32 (.inl rfl) st
 unfold dg gz
 simp only
 split <;> omega
theorem l9 (b:Bl) (h:b.data.length≤9223372036854775807): -9223372036854775808≤cT b∧cT b≤9223372036854775807:=by unfold cT; split <;> omega
def kD (st:List UInt8×Int) (b:Bl):List UInt8×Int:=if aY b then ed st b.data else ga st 4
def jt (st:List UInt8×Int) (b:Bl):List UInt8×Int:=kD (fy st (cT b)) b
def dK (st:I):Bl×I:=fH (dg (co 32 st)).2 (dg (co 32 st)).1
def nq (r:Bl×I):List UInt8×I:=(r.1.data,if r.1.null then cA r.2 4 else r.2)
theorem ph (g:Nat) (st:List UInt8×Int) (b:Bl) (hl:st.1.length+b.data.length≤140737488355328) :
 eh Tryz.prog 111 #[.pointer (some ⟨g,0,none⟩),blV b] (aU g st) (fun v A' N=>v= .tuple #[]∧A'=aU g (kD st b)∧N = []):=by
 intro F w hA
 have HA:=Lib.hid (vW F w (Sep.one hA))
 clear hA
 have HB:=Lib.hid (HA.out.alloc #[.bool b.null,.string (aC b.data)] 66)
 by_cases hr:aY b=true
 ·have HQ:=Lib.hid (show kD st b=ed st b.data by simp[kD,hr])
  have HR:=Lib.hid hr
  clear hr
  go_enter Tryz.func111,Tryz.ntmps111
  go_wp2_with fail
  refine (St.call0 HB.out (im b)).mono ?_
  rintro e w2 ⟨v,N,rfl,⟨rfl,rfl⟩,H2⟩
  rw[HR.out]
  have d0:w2.cell? ⟨w.heap.size,0,none⟩=some (.bool b.null):=aM (St.blk 0 H2 rfl) 0
  have d1:w2.cell? ⟨w.heap.size,1,none⟩=some (.string (aC b.data)):=aM (St.blk 0 H2 rfl) 1
  have HD:=Lib.hid H2
  clear H2
  go_wp2_with fail
  refine (St.call 1 HD.out rfl (o4 g st (aC b.data) (by rw[aR]; exact hl))).mono ?_
  rintro e w3 ⟨v,A',N,rfl,⟨rfl,rfl,rfl⟩,H3⟩
  rw[cn] at H3
  have HE:=Lib.hid H3
  clear H3
  go_wp2_with fail
  go_end0
  exact⟨_,_,_,rfl,⟨rfl,by rw[HQ.out],rfl⟩,HE.out.drop_⟩
 ·have HQ:=Lib.hid (show kD st b=ga st 4 by simp[kD,hr])
  have HR:=Lib.hid (show aY b=false by simpa using hr)
  clear hr
  go_enter Tryz.func111,Tryz.ntmps111
  go_wp2_with fail
  refine (St.call0 HB.out (im b)).mono ?_
  rintro e w2 ⟨v,N,rfl,⟨rfl,rfl⟩,H2⟩
  rw[HR.out]
  have HD:=Lib.hid H2
  clear H2
  go_wp2_with fail
  refine (St.call 1 (HD).out rfl (iM g st 4)).mono ?_
  rintro e w1 ⟨v,A',N,rfl,⟨rfl,rfl,rfl⟩,H1⟩
  try simp only[List.cons_append,yk,List.set_cons_zero,List.set_cons_succ,cn] at H1
  have HE:=Lib.hid H1
  clear H1
  go_wp2_with fail
  go_end0
  exact⟨_,_,_,rfl,⟨rfl,by rw[HQ.out],rfl⟩,HE.out.drop_⟩
theorem pi (st:List UInt8×Int) (n:Int):(fy st n).1.length≤st.1.length+10:=by
 unfold fy
 split
 ·rename_i h
  have h1:=l7 st (aX (aB n))
  have h2:=dD (aB n) (cH n (by omega) (by omega))
  omega
 ·unfold ga; split <;> simp
theorem hZ (g:Nat) (st:List UInt8×Int) (b:Bl) (hl:st.1.length+10+b.data.length≤140737488355328) :
 eh Tryz.prog 92 #[.pointer (some ⟨g,0,none⟩),blV b] (aU g st) (fun v A' N=>v= .tuple #[]∧A'=aU g (jt st b)∧N = []):=by
 intro F w hA
 have HA:=Lib.hid (vW F w (Sep.one hA))
 clear hA
 have HB:=Lib.hid (HA.out.alloc #[.bool b.null,.string (aC b.data)] 66)
 have hbl:=l9 b (by omega)
 have hb1:=hbl.1
 have hb2:=hbl.2
 clear hbl
 go_enter Tryz.func92,Tryz.ntmps92
 go_wp2_with fail
 refine (St.call0 HB.out (sx b)).mono ?_
 rintro e w2 ⟨v,N,rfl,⟨rfl,rfl⟩,H2⟩
 have HC:=Lib.hid H2
 clear H2
 go_wp2_with fail
 refine (St.call 1 HC.out rfl (jV g st (cT b) hb1 hb2 (by omega))).mono ?_
 rintro e w3 ⟨v,A',N,rfl,⟨rfl,rfl,rfl⟩,H3⟩
 have d0:w3.cell? ⟨w.heap.size,0,none⟩=some (.bool b.null):=aM (St.blk 0 H3 rfl) 0
 have d1:w3.cell? ⟨w.heap.size,1,none⟩=some (.string (aC b.data)):=aM (St.blk 0 H3 rfl) 1
 have HD:=Lib.hid H3
 clear H3
 go_wp2_with fail
 refine (St.call 1 HD.out rfl (ph g _ b (by have:=pi st (cT b); omega))).mono ?_
 rintro e w4 ⟨v,A',N,rfl,⟨rfl,rfl,rfl⟩,H4⟩
 have HE:=Lib.hid H4
 clear H4
 go_wp2_with fail
 go_end0
 exact⟨_,_,_,rfl,⟨rfl,rfl,rfl⟩,HE.out.drop_⟩
def pj (st:List UInt8×Int) (l:List UInt8):List UInt8×Int:=jt st ⟨false,l⟩
theorem mW (g:Nat) (st:List UInt8×Int) (l:List UInt8) (hl:st.1.length+10+l.length≤140737488355328) :
 eh Tryz.prog 68 #[.pointer (some ⟨g,0,none⟩),.string (aC l)] (aU g st) (fun v A' N=>v= .tuple #[]∧A'=aU g (pj st l)∧N = []):=by
 intro F w hA
 have HA:=Lib.hid (vW F w (Sep.one hA))
 clear hA
 go_enter Tryz.func68,Tryz.ntmps68
 go_wp2_with fail
 refine (St.call0 (HA).out (pg l)).mono ?_
 rintro e w1 ⟨v,N,rfl,⟨rfl,rfl⟩,H1⟩
 try simp only[List.cons_append,yk,List.set_cons_zero,List.set_cons_succ,cn] at H1
 have HB:=Lib.hid H1
 clear H1
 go_wp2_with fail
 refine (St.call 0 (HB).out rfl (hZ g st ⟨false,l⟩ hl)).mono ?_
 rintro e w1 ⟨v,A',N,rfl,⟨rfl,rfl,rfl⟩,H1⟩
 try simp only[List.cons_append,yk,List.set_cons_zero,List.set_cons_succ,cn] at H1
 have HC:=Lib.hid H1
 clear H1
 go_wp2_with fail
 go_end0
 exact⟨_,_,_,rfl,⟨rfl,rfl,rfl⟩,HC.out⟩
theorem jX (g:Nat) (st:I) :
 eh Tryz.prog 102 #[.pointer (some ⟨g,0,none⟩)] (InR g st) (fun v A' N=>v=blV (dK st).1∧A'=InR g (dK st).2∧N = []):=by
 intro F w hA
 have HA:=Lib.hid (vW F w (Sep.one hA))
 clear hA
 have HB:=Lib.hid (HA.out.alloc #[.bool false,.string ⟨#[]⟩] 66)
 go_enter Tryz.func102,Tryz.ntmps102
 go_wp2_with fail
 refine (St.call 1 (HB).out rfl (nn g st)).mono ?_
 rintro e w1 ⟨v,A',N,rfl,⟨rfl,rfl,rfl⟩,H1⟩
 try simp only[List.cons_append,yk,List.set_cons_zero,List.set_cons_succ,cn] at H1
 have HC:=Lib.hid H1
 clear H1
 go_wp2_with fail
 refine (St.call 1 HC.out rfl (qy g _ _ (np st).1 (np st).2)).mono ?_
 rintro e w2 ⟨v,A',N,rfl,⟨rfl,rfl,rfl⟩,H2⟩
 have d0:w2.cell? ⟨w.heap.size,0,none⟩=some (.bool false):=aM (St.blk 0 H2 rfl) 0
 have d1:w2.cell? ⟨w.heap.size,1,none⟩=some (.string ⟨#[]⟩):=aM (St.blk 0 H2 rfl) 1
 have f0:w2.frozen? ⟨w.heap.size,0,none⟩=false:=ck (St.blk 0 H2 rfl) 0
 have f1:w2.frozen? ⟨w.heap.size,1,none⟩=false:=ck (St.blk 0 H2 rfl) 1
 have HD:=Lib.hid H2
 clear H2
 go_wp2_with fail
 have HE:=((HD.out.set 0 rfl 0 (.bool (dK st).1.null)).set 0 rfl 1 (.string (aC (dK st).1.data)))
 refine bodyPost_ret (v:=blV (dK st).1) (results_cell_row (by rfl) _ _ w.heap.size 66 #[.bool (dK st).1.null,.string (aC (dK st).1.data)] (0,0) _ rfl (St.blk 0 HE rfl) Tryz.underlying66 rfl kC) rfl ?_
 exact⟨_,_,_,rfl,⟨rfl,rfl,rfl⟩,HE.drop_⟩
theorem qz (g:Nat) (r:Bl×I) :
 eh Tryz.prog 112 #[.pointer (some ⟨g,0,none⟩),blV r.1] (InR g r.2) (fun v A' N=>v= .string (aC (nq r).1)∧A'=InR g (nq r).2∧N = []):=by
 intro F w hA
 obtain⟨b,st⟩:=r
 obtain⟨n,l⟩:=b
 have HA:=Lib.hid (vW F w (Sep.one hA))
 clear hA
 have HB:=Lib.hid (HA.out.alloc #[.bool n,.string (aC l)] 66)
 cases n
 ·go_enter Tryz.func112,Tryz.ntmps112
  go_wp2_with fail
  go_ret
  exact⟨_,_,_,rfl,⟨rfl,rfl,rfl⟩,HB.out.drop_⟩
 ·go_enter Tryz.func112,Tryz.ntmps112
  go_wp2_with fail
  refine (St.call 1 HB.out rfl (ej g st 4)).mono ?_
  rintro e w2 ⟨v,A',N,rfl,⟨rfl,rfl,rfl⟩,H2⟩
  have d1:w2.cell? ⟨w.heap.size,1,none⟩=some (.string (aC l)):=aM (St.blk 0 H2 rfl) 1
  have HD:=Lib.hid H2
  clear H2
  go_wp2_with fail
  go_ret
  exact⟨_,_,_,rfl,⟨rfl,rfl,rfl⟩,HD.out.drop_⟩
def rC (st:I):List UInt8×I:=nq (dK st)
theorem qA (g:Nat) (st:I) :
 eh Tryz.prog 99 #[.pointer (some ⟨g,0,none⟩)] (InR g st) (fun v A' N=>v= .string (aC (rC st).1)∧A'=InR g (rC st).2∧N = []):=by
 intro F w hA
 have HA:=Lib.hid (vW F w (Sep.one hA))
 clear hA
 go_enter Tryz.func99,Tryz.ntmps99
 go_wp2_with fail
 refine (St.call 0 (HA).out rfl (jX g st)).mono ?_
 rintro e w1 ⟨v,A',N,rfl,⟨rfl,rfl,rfl⟩,H1⟩
 try simp only[List.cons_append,yk,List.set_cons_zero,List.set_cons_succ,cn] at H1
 have HB:=Lib.hid H1
 clear H1
 go_wp2_with fail
 refine (St.call 0 (HB).out rfl (qz g (dK st))).mono ?_
 rintro e w1 ⟨v,A',N,rfl,⟨rfl,rfl,rfl⟩,H1⟩
 try simp only[List.cons_append,yk,List.set_cons_zero,List.set_cons_succ,cn] at H1
 have HC:=Lib.hid H1
 clear H1
 go_wp2_with fail
 go_ret
 exact⟨_,_,_,rfl,⟨rfl,rfl,rfl⟩,HC.out⟩
def dN:Rd Int:=⟨fun _ _ cs n=>cs = [.int .i64 n],fun h _=>h,fun h _=>h⟩
def u8E:Rd Int:=⟨fun _ _ cs n=>cs = [.int .u8 n],fun h _=>h,fun h _=>h⟩
def boolE:Rd Bool:=⟨fun _ _ cs n=>cs = [.bool n],fun h _=>h,fun h _=>h⟩
def gY:Rd (List UInt8):=⟨fun _ _ cs l=>cs = [.string (aC l)],fun h _=>h,fun h _=>h⟩
def pk:Rd Bl:=⟨fun _ _ cs x=>cs = [.bool x.null,.string (aC x.data)],fun h _=>h,fun h _=>h⟩
structure Pfx where
 xy:Int
 xD:Int
 xt:Int
 xG:Int
 xH:Int
 xw:Int
 xr:Int
 xB:Int
 xq:Int
 xv:Int
 xo:Int
 xF:Int
structure Hd where
 xu:List UInt8
 xn:Bl
def bg:Rd Hd where
 P:=fun _ _ cs x=>cs = [.string (aC x.xu),.bool x.xn.null,.string (aC x.xn.data)]
 mono:=fun h _=>h
 move:=fun h _=>h
structure Rec where
 xC:Int
 xx:Int
 xu:Bl
 xn:Bl
 xp:List Hd
def bj:Rd Rec where
 P:=fun w S cs x=> ∃ (A0:Option Addr) (c0:Nat),cs = [.int .i64 x.xC,.int .i64 x.xx,.bool x.xu.null,.string (aC x.xu.data),.bool x.xn.null,.string (aC x.xn.data),.slice A0 x.xp.length c0]∧(aq 3 bg).P w S [.slice A0 x.xp.length c0] x.xp
 mono:=fun ⟨A0,c0,e,h0⟩ k=>⟨A0,c0,e,(aq 3 bg).mono h0 k⟩
 move:=fun ⟨A0,c0,e,h0⟩ k=>⟨A0,c0,e,(aq 3 bg).move h0 k⟩
structure Bat where
 xy:Int
 xt:Int
 xA:Bool
 xE:Bool
 xz:Bool
 xw:Int
 xr:Int
 xB:Int
 xq:Int
 xv:Int
 xo:Int
 xm:List Rec
def dl:Rd Bat where
 P:=fun w S cs x=> ∃ (A0:Option Addr) (c0:Nat),cs = [.int .i64 x.xy,.int .i64 x.xt,.bool x.xA,.bool x.xE,.bool x.xz,.int .i64 x.xw,.int .i64 x.xr,.int .i64 x.xB,.int .i64 x.xq,.int .i64 x.xv,.int .i64 x.xo,.slice A0 x.xm.length c0]∧(aq 7 bj).P w S [.slice A0 x.xm.length c0] x.xm
 mono:=fun ⟨A0,c0,e,h0⟩ k=>⟨A0,c0,e,(aq 7 bj).mono h0 k⟩
 move:=fun ⟨A0,c0,e,h0⟩ k=>⟨A0,c0,e,(aq 7 bj).move h0 k⟩
structure dO where
 xI:Int
 xJ:Int
 xK:Int
structure aG where
 fheld:List Int
 fvalid:Int
 ferr:Int
def gA {α:Type} (E:Rd α) (W:α→Prop):Rd α:=⟨fun w S cs a=>E.P w S cs a∧W a,fun h k=>⟨E.mono h.1 k,h.2⟩,fun h k=>⟨E.move h.1 k,h.2⟩⟩
section
variable {H:Type} (enc:TypeId×Value→H) (P:Program) {α β:Type}
def d8 (t:TypeId) (E:Rd α):Prop :=
 ∀ (w:World) (fuel:Nat) (cs:List Value) (x:DataW H×List MemPlace),DataW.trod enc P w 0 (fun _=>true) true fuel t cs=some x→(∀ m,m∈x.1.weights P t→m≤reachBytes)→ ∃ a,E.P w (fun k=>k<w.heap.size) cs a
def jY (off:Nat) (fs:List Field) (n:Nat) (E:Rd α):Prop :=
 ∀ (w:World) (fuel:Nat) (cs:List Value) (xs:List (DataW H×List MemPlace)),cs.length=off+n→xs.length=fs.length →
  (∀ (i:Nat) (f:Field),fs[i]? = some f→DataW.trod enc P w 0 (fun _=>true) true fuel f.type ((cs.drop f.offset).take (P.cellsOf f.type))=xs[i]?) →
  (∀ m,m∈DataW.weightsEach P (fs.map (·.type)) (xs.map (·.1))→m≤reachBytes)→ ∃ a,E.P w (fun k=>k<w.heap.size) (cs.drop off) a
variable {enc P}
theorem gc {t:TypeId} {E:Rd α} {E':Rd β} (f:α→β) (h:d8 enc P t E) (hf: ∀ w S cs a,E.P w S cs a→E'.P w S cs (f a)):d8 enc P t E':=by
 intro w fuel cs x hx hw
 obtain⟨a,ha⟩:=h w fuel cs x hx hw
 exact⟨f a,hf _ _ _ _ ha⟩
theorem kE {t:TypeId} {E:Rd α} {E':Rd β} (f:α→β) (h:th enc P t E) (hf: ∀ w S cs a,E.P w S cs a→E'.P w S cs (f a)):d8 enc P t E':=by
 intro w fuel cs x hx hw
 obtain⟨a,ha⟩:=h w fuel cs x hx
 exact⟨f a,hf _ _ _ _ ha⟩
def wI (n:Int):Prop:= -9223372036854775808≤n∧n≤9223372036854775807
def wB (_:Bool):Prop:=True
def wS (l:List UInt8):Prop:=l.length≤140737488351232
def wU8 (n:Int):Prop:=0≤n∧n≤255
def wL (W:α→Prop) (l:List α):Prop:=l.length≤140737488351232∧ ∀ x,x∈l→W x
theorem gq {t:TypeId} (ht:P.underlying t=some (.int .i64)):d8 enc P t (gA dN wI):=kE id (nh ht) (fun w S cs a h=>⟨h.1,Go.bounds_i64 h.2⟩)
theorem op_u8 {t:TypeId} (ht:P.underlying t=some (.int .u8)):d8 enc P t (gA u8E wU8):=kE id (nh ht) (fun w S cs a h=>⟨h.1,Go.bounds_u8 h.2⟩)
theorem lN {t:TypeId} (ht:P.underlying t=some .bool):d8 enc P t (gA boolE wB):=kE id (ql ht) (fun w S cs a h=>⟨h,trivial⟩)
theorem tq {t:TypeId} (ht:P.underlying t=some .string):d8 enc P t (gA gY wS):=by
 intro w fuel cs x h hw
 obtain⟨s,rfl,rfl,hs⟩:=DataW.trod_string ht h
 have:=hw s.data.toList.length (by simp[DataW.weights])
 exact⟨s.data.toList,by cases s; simp[gY,aC],this⟩
theorem sy {size:Nat} {E:Rd α} {W:α→Prop} {w:World} {S:Nat→Prop} {cs:List Value} {l:List α} (h:(aq size (gA E W)).P w S cs l):(aq size E).P w S cs l∧ ∀ x,x∈l→W x:=by
 rcases h with⟨h,rfl⟩ | ⟨a,cap,h1,h2,h3,h4,h5⟩
 ·exact⟨.inl ⟨h,rfl⟩,fun x hx=>by simp at hx⟩
 ·refine⟨.inr ⟨a,cap,h1,h2,h3,h4,fun i x hx=> ?_⟩,fun x hx=> ?_⟩
  ·obtain⟨cs,k1,k2,k3⟩:=h5 i x hx
   exact⟨cs,k1,k2,k3.1⟩
  ·obtain⟨i,hi⟩:=List.getElem?_of_mem hx
   obtain⟨cs,k1,k2,k3⟩:=h5 i x hi
   exact k3.2
theorem ma {e:TypeId} {l:List (DataW H)} {d:DataW H} {m:Nat} (hd:d∈l) (hm:m∈d.weights P e):m∈DataW.weightsAll P e l:=by
 induction l with
 | nil=>simp at hd
 | cons x l ih =>
  simp only[DataW.weightsAll,List.mem_append]
  rcases List.mem_cons.1 hd with rfl | h
  ·exact .inl hm
  ·exact .inr (ih h)
theorem op_slice {t e:TypeId} {E:Rd α} {W:α→Prop} (size bytes:Nat) (ht:P.underlying t=some (.slice e)) (hc:P.cellsOf e=size) (hb:P.bytesOf e=bytes) (hp:0<size) (hpb:0<bytes) (he:d8 enc P e (gA E W)):d8 enc P t (gA (aq size E) (wL W)):=by
 intro w fuel cs x h hw
 rcases open_slice ht h with⟨rfl,_⟩ | ⟨a,len,cap,m,n,D,Pl,rfl,_,hl,hm,hmm,rfl,hx⟩
 ·exact⟨[],.inl ⟨rfl,rfl⟩,by simp,fun x hx=>by simp at hx⟩
 have hlm:len≤m:=by rw[hmm]; split <;> omega
 have hlen:len≤140737488351232:=by
  have h1:=hw ((((List.range len).map D).length+((List.range (m - len)).map fun j=>D (len+j)).length)*P.bytesOf e) (by simp only[DataW.weights,ht]; exact List.mem_cons_self)
  rw[hb] at h1
  simp only[zf,List.length_range] at h1
  have h2:(len+(m - len))*1≤(len+(m - len))*bytes:=Nat.mul_le_mul_left _ hpb
  have h3:reachBytes=140737488351232:=rfl
  omega
 have hwe: ∀ i,i<len→ ∀ z,z∈(D i).weights P e→z≤reachBytes:=by
  intro i hi z hz
  apply hw
  simp only[DataW.weights,ht]
  exact List.mem_cons_of_mem _ (List.mem_append.2 (.inl (ma (d:=D i) (List.mem_map.2 ⟨i,List.mem_range.2 hi,rfl⟩) hz)))
 rw[hc] at hx
 have each: ∀ i:Fin len,∃ y:α,∃ cs,cs.length=size∧(∀ j,j<size→w.cell? (a.add (i.val*size+j))=cs[j]?)∧(gA E W).P w (fun k=>k<w.heap.size) cs y:=by
  intro i
  obtain⟨cs',h1,h2⟩:=hx i.val (by have:=i.isLt; omega)
  obtain⟨_,h3,h4⟩:=World.cells?_some h1
  obtain⟨y,hy⟩:=he _ _ _ _ h2 (hwe i.val i.isLt)
  refine⟨y,cs',h3,fun j hj=> ?_,hy⟩
  rw[← h4 j hj,add_add]
 obtain⟨f,hf⟩:=Classical.axiomOfChoice each
 have hs:(aq size (gA E W)).P w (fun k=>k<w.heap.size) [.slice (some a) len cap] ((List.finRange len).map f):=by
  refine .inr ⟨a,cap,by simp,by simpa using hl,hm,fun hz=> ?_,?_⟩
  ·simp at hz
   obtain⟨cs',k1,k2,k3⟩:=hf ⟨0,by omega⟩
   have:=k2 0 hp
   rw[List.getElem?_eq_getElem (by omega)] at this
   simp only[World.cell?] at this
   rw[block_add] at this
   rcases Nat.lt_or_ge a.block w.heap.size with h | h
   ·exact h
   ·rw[Array.getElem?_eq_none h] at this
    simp at this
  ·intro i x hx
   rw[List.getElem?_map,Option.map_eq_some_iff] at hx
   obtain⟨j,hj,rfl⟩:=hx
   have e:j.val=i:=by
    obtain⟨h1,h2⟩:=xS hj
    rw[← h2]
    simp
   rw[← e]
   exact hf j
 obtain⟨k1,k2⟩:=sy hs
 exact⟨_,k1,by simpa using hlen,k2⟩
theorem fz (off:Nat):jY enc P off [] 0 unitRd:=by
 intro w fuel cs xs hl _ _ _
 exact⟨(),List.drop_of_length_le (by omega)⟩
theorem aI {off n:Nat} (m:Nat) {f:Field} {fs:List Field} {A:Rd α} {B:Rd β} (ho:f.offset=off) (hc:P.cellsOf f.type=m) (hA:d8 enc P f.type A) (hB:jY enc P (off+m) fs n B) :
 jY enc P off (f::fs) (m+n) (pairRd A B):=by
 intro w fuel cs xs hl hx h hw
 cases xs with
 | nil=>simp at hx
 | cons x xs =>
  have h0:=h 0 f rfl
  rw[ho,hc] at h0
  simp only[List.map_cons,DataW.weightsEach,List.mem_append] at hw
  obtain⟨a,ha⟩:=hA _ _ _ _ h0 (fun m hm=>hw m (.inl hm))
  obtain⟨b,hb⟩:=hB w fuel cs xs (by omega) (by simpa using hx) (fun i f' hf=>by simpa using h (i+1) f' (by simpa using hf)) (fun m hm=>hw m (.inr hm))
  refine⟨(a,b),(cs.drop off).take m,cs.drop (off+m),?_,ha,hb⟩
  rw[← yz,List.take_append_drop]
theorem e7 {t:TypeId} {fs:Array Field} {n:Nat} {E:Rd α} (ht:P.underlying t=some (.struct fs)) (hc:P.cellsOf t=n) (h:jY enc P 0 fs.toList n E):d8 enc P t E:=by
 intro w fuel cs x hx hw
 obtain⟨xs,k,rfl,rfl,hl,hxl,hf⟩:=DataW.trod_struct ht hx
 simp only[DataW.weights,ht] at hw
 obtain⟨a,ha⟩:=h w k cs xs (by omega) (by simpa using hxl) (fun i f hi=>hf i f (by simpa using hi)) hw
 exact⟨a,by simpa using ha⟩
theorem weights_in: ∀ {ts:List TypeId} {ds:List (DataW H)} (j:Nat) {t:TypeId} {d:DataW H} {m:Nat},ts[j]? = some t→ds[j]? = some d→m∈d.weights P t→m∈DataW.weightsEach P ts ds
 | [],_,j,_,_,_,ht,_,_=>by simp at ht
 | _ :: _,[],j,_,_,_,_,hd,_=>by simp at hd
 | t::ts,d::ds,0,_,_,_,ht,hd,hm=>by
  obtain rfl:t= _:=by simpa using ht
  obtain rfl:d= _:=by simpa using hd
  simp only[DataW.weightsEach,List.mem_append]
  exact .inl hm
 | t::ts,d::ds,j+1,_,_,_,ht,hd,hm=>by
  simp only[DataW.weightsEach,List.mem_append]
  exact .inr (weights_in j (by simpa using ht) (by simpa using hd) hm)
theorem slice_cells {size:Nat} {E:Rd α} {w:World} {S:Nat→Prop} {cs:List Value} {l:List α} (h:(aq size E).P w S cs l): ∃ A c,cs = [.slice A l.length c]:=by
 rcases h with⟨h,rfl⟩ | ⟨a,cap,h,_⟩
 ·exact⟨none,0,h⟩
 ·exact⟨_,_,h⟩
theorem opens_arg1 {t e:TypeId} {E:Rd α} {r:Reach} {b0:Nat} {w:World} {v:Value} {d:DataW H} {p:List MemPlace} (ht:P.underlying t=some (.slice e)) (hval:Value.okWide P w r b0 t v) (h:d8 enc P t E)
 (hv:DataW.Trod enc P w 0 (fun _=>true) true t v d p) (hw: ∀ m,m∈d.weights P t→m≤reachBytes): ∃ a,E.P w (fun k=>k<w.heap.size) [v] a:=by
 obtain⟨a0,len,cap,rfl⟩:=Go.WideShapes.okWide_slice ht hval
 obtain⟨fuel,hf⟩:=hv
 exact h _ _ _ _ hf hw
theorem RX.reads_all {E:Rd α} {w:World} {cs:List Value} {a:α} (h:E.P w (fun k=>k<w.heap.size) cs a):(RX.of E cs a).reads w (fun _=>False):=⟨_,h,fun k hk=>⟨fun h=>h,hk⟩⟩
end
def rD (x:Bl):Prop:=wB x.null∧wS x.data
def tr (x:Hd):Prop:=wS x.xu∧rD x.xn
def mb (x:Rec):Prop:=wI x.xC∧wI x.xx∧rD x.xu∧rD x.xn∧(wL tr) x.xp
def gr (x:Bat):Prop:=wI x.xy∧wI x.xt∧wB x.xA∧wB x.xE∧wB x.xz∧wI x.xw∧wI x.xr∧wI x.xB∧wI x.xq∧wI x.xv∧wI x.xo∧(wL mb) x.xm
attribute [local go_sem] dr aR
@[go_sem] def strErr (x:List UInt8×Int):Value:= .tuple #[.string (aC x.1),.int .i64 x.2]
def otx (st:List UInt8×Int):List UInt8×Int:=if st.2=0 then (st.1,0) else ([],st.2)
theorem oc (st:List UInt8×Int):o5 st=strErr (otx st):=by unfold o5 otx; split <;> rfl
theorem kF {st:I} (h:st.err≠0) (e:Int):cA st e=st:=by simp[cA,h]
theorem sA {st:I} (h:st.err≠0) (n:Int):bf st n=([],st):=by simp[bf,h]
theorem pm {st:I} (h:st.err≠0) (n:Int):eV st n=(0,st):=by
 unfold eV
 split
 ·rw[sA h]; rfl
 ·rw[kF h]
theorem nr {st:I} (h:st.err≠0) (n:Int):fH st n=(⟨false,[]⟩,st):=by simp[fH,h]
theorem mc {st:I} (h:st.err≠0):du st=st:=by unfold du; split; rfl; exact kF h 2
theorem po (l:List UInt8) (p:Nat) (n:Nat) (h:n≤l.length):bf ⟨l,p,0⟩ n=(l.take n,⟨l.drop n,p+n,0⟩):=by
 unfold bf
 rw[if_neg (by simp),if_neg (by omega),if_neg (by simp only; omega)]
 simp
theorem li (l:List UInt8) (p:Nat) (n:Int) (h:(l.length:Int)<n):bf ⟨l,p,0⟩ n=([],⟨l,p,1⟩):=by
 unfold bf
 rw[if_neg (by simp),if_neg (by omega),if_pos (by simp only; omega)]
theorem sB (l:List UInt8) (p:Nat) (n:Int) (h:n<0):bf ⟨l,p,0⟩ n=([],⟨l,p,4⟩):=by
 unfold bf
 rw[if_neg (by simp),if_pos h]
theorem od (l:List UInt8) (p:Nat) (n:Nat) (h1:1≤n) (h8:n≤8) (h:n≤l.length):eV ⟨l,p,0⟩ n=(bL (l.take n),⟨l.drop n,p+n,0⟩):=by
 unfold eV
 rw[if_pos (by omega),po l p n h]
theorem ju (l:List UInt8) (p:Nat) (n:Int) (h1:1≤n) (h8:n≤8) (h:(l.length:Int)<n):eV ⟨l,p,0⟩ n=(0,⟨l,p,1⟩):=by
 unfold eV
 rw[if_pos (by omega),li l p n h]
 rfl
def fY (n:Nat):List UInt8:=if n<128 then [UInt8.ofNat n] else UInt8.ofNat (n % 128)::fY (n / 128)
termination_by n
decreasing_by omega
theorem md (n:Nat):1≤(fY n).length:=by rw[fY]; split <;> simp
theorem lj (n:Nat):(fY n).length=(aX n).length:=by
 induction n using Nat.strongRecOn with
 | _ n ih =>
  rw[fY,aX]
  split
  ·rfl
  ·have:=ih (n / 128) (by omega)
   simp[this]
theorem sC (n:Nat):aX n=((fY n).take ((fY n).length - 1)).map (· + 128)++(fY n).drop ((fY n).length - 1):=by
 induction n using Nat.strongRecOn with
 | _ n ih =>
  rw[fY,aX]
  split
  ·rfl
  ·have h:=ih (n / 128) (by omega)
   have hp:=md (n / 128)
   rw[h]
   obtain⟨k,hk⟩: ∃ k,(fY (n / 128)).length=k+1:=⟨_,(Nat.sub_add_cancel hp).symm⟩
   simp only[yd,hk,Nat.add_sub_cancel,List.take_succ_cons,List.map_cons,List.drop_succ_cons,List.cons_append]
   congr 1
   apply UInt8.toNat_inj.1
   simp[UInt8.toNat_ofNat',UInt8.toNat_add]
theorem nt (n:Int) (h0: -9223372036854775808≤n) (h1:n≤9223372036854775807) (w:World) :
 Calls Tryz.prog 83 #[.int .i64 n] w fun e w'=>e= .returned (.int .u64 (aB n))∧w=w':=by
 have H:=cH n h0 h1
 by_cases h:n<0
 ·have HV:=Lib.hid (show (aB n:Int)= -(n+1)*2+1 by unfold aB; rw[if_pos h]; omega)
  go_enter Tryz.func83,Tryz.ntmps83
  go_wp2_with fail
  go_ret
  exact⟨eF (by rw[HV.out]),rfl⟩
 ·have HV:=Lib.hid (show (aB n:Int)=n*2 by unfold aB; rw[if_neg h]; omega)
  go_enter Tryz.func83,Tryz.ntmps83
  go_wp2_with fail
  go_ret
  exact⟨eF (by rw[HV.out]),rfl⟩
theorem oe (n:Nat) (hn:n<18446744073709551616) :
 e9 Tryz.prog 105 #[.int .u64 n] (fun v N=>N = [ei 5 1 v (fY n).length (aD (fY n))]):=by
 intro w
 have HS:=Lib.hid (wu w)
 have HT:=Lib.hid (lj n ▸ dD n hn)
 go_enter Tryz.func105,Tryz.ntmps105
 go_wp2_with fail
 go_loopw [0,3] (fun nv ov wr=> ∃ (m:Nat) (p:List UInt8),m≤n∧p++fY m=fY n∧nv= .int .u64 m∧St (fun _=>False) w [ei 5 1 ov (p.length+1) (aD (p ++ [UInt8.ofNat (m % 128)]))] wr) (fun i _ _=>(intOf i).toNat)
 case atStart =>
  refine⟨n,[],yn _,rfl,rfl,?_⟩
  have h:=ei.lit (T:=5) (size:=1) HS.out #[.int .u8 ((n:Int) % 128)] 1 (by decide) rfl
  have e:aD ([] ++ [UInt8.ofNat (n % 128)]) = [.int .u8 ((n:Int) % 128)]:=by simp[aD,UInt8.toNat_ofNat']; omega
  rw[e]
  exact h
 case round =>
  obtain⟨m,p,hm,hp,rfl,hst⟩:=hrel
  obtain⟨g1,c1,rfl⟩:=ei.form 0 hst rfl (by omega)
  have hrow:=wU 0 hst rfl
  have HST:=Lib.hid hst
  by_cases h128:128≤m
  ·have hlen:p.length+1≤10:=by
    have h1:=congrArg List.length hp
    have h2:=HT.out
    have h3:=md m
    rw[xR] at h1
    omega
   have HP:=Lib.hid (show (p ++ [UInt8.ofNat (m % 128)])++fY (m / 128)=fY n by rw[← hp,fY.eq_1 m,if_neg (by omega)]; simp)
   have HE:=Lib.hid (show aD (p ++ [UInt8.ofNat (m % 128)]) ++ [.int .u8 ((m:Int) / 128 % 128)]=aD (p ++ [UInt8.ofNat (m % 128)] ++ [UInt8.ofNat (m / 128 % 128)]) by simp[aD,UInt8.toNat_ofNat']; omega)
   have HR:=Lib.hid hrow
   clear hrow hp hst
   go_wp2_with (at_builtin; refine gy wr rfl _ _ _ rfl 5 (.int .u8 0) 1 Tryz.underlying22 jQ rfl (.slice (some ⟨g1,0,none⟩) (p.length+1) c1) (p.length+1) (aD (p ++ [UInt8.ofNat (m % 128)])) rfl HR.out (.int .u8 ((m:Int) / 128 % 128)) rfl rfl (by omega) (by omega) ?_; intro v1 w1 ho1 hg hat; have H1:=Lib.hid (ei.grown 0 HST.out rfl ho1 hg hat); clear ho1 hg hat)
   go_roundw
   case rel=>exact⟨m / 128,_,by omega,HP.out,by go_num,by rw[← HE.out]; simpa using H1.out⟩
   case measure=>simp[intOf]; omega
  ·have HP:=Lib.hid (show p ++ [UInt8.ofNat (m % 128)]=fY n by rw[← hp,fY.eq_1 m,if_pos (by omega),Nat.mod_eq_of_lt (by omega)])
   have HL:=Lib.hid (show p.length+1=(fY n).length by rw[← HP.out]; simp)
   clear hrow hp hst
   go_wp2_with fail
   go_ret
   refine⟨_,_,rfl,rfl,?_⟩
   have h:=HST.out
   rw[HP.out] at h
   rw[← HL.out]
   exact h
def io (l:List UInt8) (i:Nat):List UInt8:=(l.take i).map (· + 128)++l.drop i
theorem qB (l:List UInt8) (i:Nat) (h:i<l.length):(io l i)[i]? = some l[i]:=by
 unfold io
 rw[List.getElem?_append_right (by simp; omega)]
 simp only[zf,yj,List.getElem?_drop]
 rw[show i+(i - min i l.length)=i by omega,List.getElem?_eq_getElem h]
theorem qC (l:List UInt8) (i:Nat) (h:i<l.length):(io l i).set i (l[i]+128)=io l (i+1):=by
 unfold io
 have hl:((l.take i).map (· + 128)).length=i:=by simp; omega
 rw[List.set_append_right _ _ (by omega),hl,Nat.sub_self,List.drop_eq_getElem_cons h,List.set_cons_zero,jU l i h,List.map_append,ya]
 rfl
theorem mX (l:List UInt8) (i:Nat) (c:UInt8):(aD l).set i (.int .u8 c.toNat)=aD (l.set i c):=by simp[aD,List.map_set]
theorem mY (l:List UInt8) (i:Nat):(aD l)[i]? = l[i]?.map fun c=>Value.int .u8 c.toNat:=by simp[aD]
theorem add128 (c:UInt8):((c.toNat:Int)+128) % 256=(c+128).toNat:=by simp[UInt8.toNat_add]
theorem nw (n:Nat) (hn:n<18446744073709551616) :
 e9 Tryz.prog 82 #[.int .u64 n] (fun v N=>v= .string (aC (aX n))∧N = []):=by
 intro w
 have HS:=Lib.hid (wu w)
 have HT:=Lib.hid (lj n ▸ dD n hn)
 have HP:=Lib.hid (md n)
 have HV:=Lib.hid (sC n)
 go_enter Tryz.func82,Tryz.ntmps82
 go_wp2_with fail
 refine (HS.out.call0 (oe n hn)).mono ?_
 rintro e w1 ⟨v,N,rfl,rfl,H1⟩
 generalize fY n=l at *
 obtain⟨g,c,rfl⟩:=ei.form 0 H1 rfl HP.out
 have HS1:=Lib.hid H1
 clear H1
 have hp:=HP.out
 have hl:=HT.out
 go_wp2_with fail
 go_loopw [4] (fun iv wr=> ∃ i:Nat,i≤l.length - 1∧iv= .int .i64 i∧St (fun _=>False) w [ei 5 1 (.slice (some ⟨g,0,none⟩) l.length c) l.length (aD (io l i))] wr) (fun i _=>l.length - (intOf i).toNat)
 case atStart=>exact⟨0,by omega,rfl,by simpa [io] using HS1.out⟩
 case round =>
  obtain⟨i,hi,rfl,hst⟩:=hrel
  by_cases hlt:i<l.length - 1
  ·obtain⟨hc,hf⟩:=ei.cell 0 hst rfl i (by omega)
   rw[mY,qB l i (by omega)] at hc
   have HC:=Lib.hid (qC l i (by omega))
   have HA:=Lib.hid (add128 (l[i]'(by omega)))
   generalize l[i]'(by omega)=b at *
   have hb:=b.toNat_lt
   simp only[Option.map_some] at hc
   have HST:=Lib.hid hst
   clear hst
   go_wp2_with fail
   go_roundw
   case rel =>
    refine⟨i+1,by omega,by go_num,?_⟩
    have h:=ei.set 0 HST.out rfl i (.int .u8 (b+128).toNat)
    rw[mX,HC.out,← HA.out] at h
    exact h
   case measure=>simp[intOf]; omega
  ·have HE:=Lib.hid (show io l i=aX n by rw[HV.out,show i=l.length - 1 by omega]; rfl)
   have hc:=jl (P:=Tryz.prog) wr (src:=22) (dst:=9) Tryz.underlying22 Tryz.underlying5 Tryz.underlying9 (wU 0 hst rfl)
   have HST:=Lib.hid hst
   clear hst
   go_wp2_with fail
   go_ret
   exact⟨_,_,rfl,⟨by rw[HE.out]; rfl,rfl⟩,HST.out.drop_⟩
attribute [local go_sem] dr aR
def vgetV (x:Nat×Nat×Int):Value:= .tuple #[.int .u64 x.1,.int .i64 x.2.1,.int .i64 x.2.2]
theorem og {P:Program} {id:Nat} {Q:Exit→Act→World→Prop} {a:Act} {w:World} {l:List Oper} {F0:Nat→Prop} {w0:World} {Rs:List Res} (hs:St F0 w0 Rs w)
 (hm:P.follows .mixedOrders=true) (hB:Region.lexB .any l.toArray=true)
 (h:wpQuiet P l.toArray (fun w'=>St F0 w0 Rs w') (fun a'=> ∀ w',St F0 w0 Rs w'→Q .normal a' w') l a):(Code.region id l.toArray true).wp P Q a w:=by
 refine wp_region_quiet (C:=fun w'=>St F0 w0 Rs w') hm hB ?_ (by simpa using h)
 exact hs.drew
theorem lk (a b:List UInt8):aC a++aC b=aC (a++b):=by
 apply ByteArray.ext
 simp[aC]
attribute [local go_sem] dr aR lk
theorem qD (b:Bl):e9 Tryz.prog 84 #[blV b] (fun v N=>v= .int .i64 (cT b)∧N = []):=by
 intro w
 have HS:=Lib.hid (wu w)
 obtain⟨n,l⟩:=b
 cases n
 all_goals
  go_enter Tryz.func84,Tryz.ntmps84
  go_wp2_with fail
  go_ret
  exact⟨_,_,rfl,⟨rfl,rfl⟩,(HS.out.alloc _ _).drop_⟩
theorem mZ (b:Bl) (hl:b.data.length≤140737488355328):e9 Tryz.prog 56 #[blV b] (fun v N=>v= .string (aC (aX (aB (cT b))++b.data))∧N = []):=by
 intro w
 have HS:=Lib.hid ((wu w).alloc #[.bool b.null,.string (aC b.data)] 66)
 have hr:=l9 b (by omega)
 have hv10:=dD _ (cH (cT b) hr.1 hr.2)
 have hsum:(aX (aB (cT b))).length+b.data.length≤9223372036854775807:=by omega
 go_enter Tryz.func56,Tryz.ntmps56
 go_wp2_with fail
 refine og HS.out (by kernel_rfl) (by kernel_rfl) ?_
 refine wpQuiet_step (fun K hK=> ?_)
 go_simp
 refine⟨.agg #[.bool b.null,.string (aC b.data)],fun w1 hw1=> ?_,hK _ ?_⟩
 ·have d0:w1.cell? ⟨w.heap.size,0,none⟩=some (.bool b.null):=aM (St.blk 0 hw1 rfl) 0
  have d1:w1.cell? ⟨w.heap.size,1,none⟩=some (.string (aC b.data)):=aM (St.blk 0 hw1 rfl) 1
  simp[d0,d1,Result.andThen]
 clear hK K
 refine wpQuiet_step (fun K hK=> ?_)
 go_simp
 refine⟨.int .i64 (cT b),fun w1 hw1=> ?_,hK _ ?_⟩
 ·exact (hw1.call0 (qD b)).mono (by rintro e w2 ⟨v,N,rfl,⟨rfl,rfl⟩,H⟩; exact⟨rfl,H⟩)
 clear hK K
 refine wpQuiet_step (fun K hK=> ?_)
 go_simp
 refine⟨.int .u64 (aB (cT b)),fun w1 hw1=> ?_,hK _ ?_⟩
 ·exact (nt (cT b) hr.1 hr.2 w1).mono (by rintro e w2 ⟨rfl,rfl⟩; exact⟨rfl,hw1⟩)
 clear hK K
 refine wpQuiet_step (fun K hK=> ?_)
 go_simp
 refine⟨.string (aC (aX (aB (cT b)))),fun w1 hw1=> ?_,hK _ ?_⟩
 ·exact (hw1.call0 (nw (aB (cT b)) (cH _ hr.1 hr.2))).mono (by rintro e w2 ⟨v,N,rfl,⟨rfl,rfl⟩,H⟩; exact⟨rfl,H⟩)
 clear hK K
 refine wpQuiet_step (fun K hK=> ?_)
 go_simp
 refine⟨_,fun w1 hw1=>rfl,hK _ ?_⟩
 clear hK K
 refine wpQuiet_step (fun K hK=> ?_)
 go_simp
 refine⟨.string (aC b.data),fun w1 hw1=> ?_,hK _ ?_⟩
 ·have d1:w1.cell? ⟨w.heap.size,1,none⟩=some (.string (aC b.data)):=aM (St.blk 0 hw1 rfl) 1
  simp[d1,Result.andThen]
 clear hK K
 refine wpQuiet_step (fun K hK=> ?_)
 go_simp
 refine⟨.string (aC (aX (aB (cT b))++b.data)),fun w1 hw1=> ?_,hK _ ?_⟩
 ·rw[if_neg (by omega)]
  exact⟨rfl,rfl⟩
 clear hK K
 refine wpQuiet_step (fun K hK=> ?_)
 go_simp
 refine⟨_,fun w1 hw1=>rfl,hK _ ?_⟩
 clear hK K
 refine wpQuiet_nil ?_
 intro w1 hw1
 have HS1:=Lib.hid hw1
 clear hw1
 go_wp2_with fail
 go_ret
 exact⟨_,_,rfl,⟨rfl,rfl⟩,HS1.out.drop_⟩
attribute [local go_sem] dr aR lk
theorem qE (l:List UInt8) (k:Nat):(aC l).extract 0 k=aC (l.take k):=by rw[ik,cn]; simp
attribute [local go_sem] qE
attribute [local go_sem] vgetV
theorem qF (b:Nat) (st:List UInt8×Int) (s:List UInt8) (hl:st.1.length+s.length≤140737488355328) :
 eh Tryz.prog 40 #[.pointer (some ⟨b,0,none⟩),.string (aC s)] (aU b st) (fun v A' N=>v= .tuple #[]∧A'=aU b (ed st s)∧N = []):=by
 have h:=o4 b st (aC s) (by rw[aR]; exact hl)
 rwa [cn] at h
theorem pp (b:Nat) (st:List UInt8×Int):eh Tryz.prog 35 #[.pointer (some ⟨b,0,none⟩)] (aU b st) (fun v A' N=>v= .tuple #[.string (aC (otx st).1),.int .i64 (otx st).2]∧A'=aU b st∧N = []):=by
 have h:=sn b st
 rwa [oc] at h
theorem pq (n k:Int) (h0: -9223372036854775808≤n) (h1:n≤9223372036854775807) (hk0:0≤k) (hk:k≤8) :
 e9 Tryz.prog 43 #[.int .i64 n,.int .i64 k] (fun v N=>v= .string (aC (be n k.toNat))∧N = []):=by
 have h:=l8 n k.toNat h0 h1 (by omega)
 rwa [show ((k.toNat:Nat):Int)=k by omega] at h
theorem qG (n:Int) (h0:0≤n) (hn:n<18446744073709551616):e9 Tryz.prog 82 #[.int .u64 n] (fun v N=>v= .string (aC (aX n.toNat))∧N = []):=by
 have h:=nw n.toNat (by omega)
 rwa [show ((n.toNat:Nat):Int)=n by omega] at h
def jv (st:List UInt8×Int) (e:Int):Option (List UInt8×Int):=some (ga st e)
theorem ip (g:Nat) (st:List UInt8×Int) (e:Int) (r:List UInt8×Int) (h:jv st e=some r):ar Tryz.prog 66 #[.pointer (some ⟨g,0,none⟩),.int .i64 e] .triv (aU g st) (fun v A' N=>v= .tuple #[]∧A'=aU g r∧N = []):=by
 unfold jv at h
 obtain rfl:=xO h
 exact vS (iM g st e)
def tt (st:List UInt8×Int) (s:List UInt8):Option (List UInt8×Int):=if st.1.length+s.length≤140737488355328 then some (ed st s) else none
theorem qH (g:Nat) (st:List UInt8×Int) (s:List UInt8) (r:List UInt8×Int) (h:tt st s=some r):ar Tryz.prog 40 #[.pointer (some ⟨g,0,none⟩),.string (aC s)] .triv (aU g st) (fun v A' N=>v= .tuple #[]∧A'=aU g r∧N = []):=by
 unfold tt at h
 split at h
 ·rename_i h1
  obtain rfl:=xO h
  exact vS (qF g st s h1)
 ·simp at h
def qI (st:List UInt8×Int) (c:Int):Option (List UInt8×Int):=if 0≤c∧c<256∧st.1.length+1≤140737488355328 then some (ed st [UInt8.ofNat c.toNat]) else none
theorem pt (g:Nat) (st:List UInt8×Int) (c:Int) (r:List UInt8×Int) (h:qI st c=some r):ar Tryz.prog 89 #[.pointer (some ⟨g,0,none⟩),.int .u8 c] .triv (aU g st) (fun v A' N=>v= .tuple #[]∧A'=aU g r∧N = []):=by
 unfold qI at h
 split at h
 ·rename_i h1
  obtain rfl:=xO h
  exact vS (gX g st c h1.1 h1.2.1 h1.2.2)
 ·simp at h
def iq (st:List UInt8×Int)  : Option (List UInt8×Int×(List UInt8×Int)):=some ((otx st).1,(otx st).2,st)
theorem sD (st:List UInt8×Int)  : iq st  = some ((otx st).1,(otx st).2,st):=rfl
theorem fa (g:Nat) (st:List UInt8×Int)  (r:List UInt8×Int×(List UInt8×Int)) (h:iq st  = some r):ar Tryz.prog 35 #[.pointer (some ⟨g,0,none⟩)] .triv (aU g st) (fun v A' N=>v= .tuple #[.string (aC r.1),.int .i64 r.2.1]∧A'=aU g r.2.2∧N = []):=by
 unfold iq at h
 obtain rfl:=xO h
 exact vS (pp g st)
def eR (st:List UInt8×Int) (n:Int) (size:Int):Option (List UInt8×Int):=if (-9223372036854775808≤n∧n≤9223372036854775807)∧st.1.length+8≤140737488355328 then some (so st n size) else none
theorem tu (st:List UInt8×Int) (n:Int) (size:Int) (h:(-9223372036854775808≤n∧n≤9223372036854775807)∧st.1.length+8≤140737488355328):eR st n size=some (so st n size):=if_pos h
theorem bY (g:Nat) (st:List UInt8×Int) (n:Int) (size:Int) (r:List UInt8×Int) (h:eR st n size=some r):ar Tryz.prog 70 #[.pointer (some ⟨g,0,none⟩),.int .i64 n,.int .i64 size] .triv (aU g st) (fun v A' N=>v= .tuple #[]∧A'=aU g r∧N = []):=by
 unfold eR at h
 split at h
 ·rename_i h1
  obtain rfl:=xO h
  exact vS (o7 g st n size h1.1.1 h1.1.2 h1.2)
 ·simp at h
def jf  (n:Int) (size:Int):Option (Bool):=if (-9223372036854775808≤n∧n≤9223372036854775807) then some (bq n size) else none
theorem ir  (n:Int) (size:Int) (h:(-9223372036854775808≤n∧n≤9223372036854775807)):jf  n size=some (bq n size):=if_pos h
theorem en (n:Int) (size:Int) (r:Bool) (h:jf  n size=some r) (w:World):Calls Tryz.prog 85 #[.int .i64 n,.int .i64 size] w fun e w'=>e= .returned (.bool r)∧w=w':=by
 unfold jf at h
 split at h
 ·rename_i h1
  obtain rfl:=xO h
  exact ij n size w h1.1 h1.2
 ·simp at h
def oh  (s:List UInt8):Option (I):=if s.length≤9223372036854775807 then some (⟨s,0,0⟩:I) else none
theorem ge  (s:List UInt8) (h:s.length≤9223372036854775807):oh  s=some (⟨s,0,0⟩:I):=if_pos h
theorem fE (s:List UInt8) (r:I) (h:oh  s=some r):ar Tryz.prog 21 #[.string (aC s)] .triv av (fun v A' N=> ∃ g,v= .pointer (some ⟨g,0,none⟩)∧A'=av∧N = [InR g r]):=by
 unfold oh at h
 split at h
 ·rename_i h1
  obtain rfl:=xO h
  have k:=xj (X:= .triv) (tj (aC s) (by rw[aR]; omega))
  intro F w hA hX
  refine (k F w hA hX).mono ?_
  rintro e w' ⟨v,A',Ns,rfl,⟨rfl,b,rfl,rfl⟩,hst⟩
  rw[cn] at hst
  exact⟨_,_,_,rfl,⟨b,rfl,rfl,rfl⟩,hst⟩
 ·simp at h
def bl (st:I) (e:Int):Option (I):=some (cA st e)
theorem dW (st:I) (e:Int):bl st e=some (cA st e):=rfl
theorem aZ (g:Nat) (st:I) (e:Int) (r:I) (h:bl st e=some r):ar Tryz.prog 48 #[.pointer (some ⟨g,0,none⟩),.int .i64 e] .triv (InR g st) (fun v A' N=>v= .tuple #[]∧A'=InR g r∧N = []):=by
 unfold bl at h
 obtain rfl:=xO h
 exact vS (ej g st e)
def nx (st:I)  : Option (Int×I):=some ((st.rest.length:Int),st)
theorem me (st:I)  : nx st  = some ((st.rest.length:Int),st):=rfl
theorem jw (g:Nat) (st:I)  (r:Int×I) (h:nx st  = some r):ar Tryz.prog 80 #[.pointer (some ⟨g,0,none⟩)] .triv (InR g st) (fun v A' N=>v= .int .i64 r.1∧A'=InR g r.2∧N = []):=by
 unfold nx at h
 obtain rfl:=xO h
 exact vS (kB g st)
def rE (st:I) (n:Int):Option (List UInt8×I):=if (-9223372036854775808≤n∧n≤9223372036854775807) then some ((bf st n).1,(bf st n).2) else none
theorem mf (st:I) (n:Int) (h:(-9223372036854775808≤n∧n≤9223372036854775807)):rE st n=some ((bf st n).1,(bf st n).2):=if_pos h
theorem qJ (g:Nat) (st:I) (n:Int) (r:List UInt8×I) (h:rE st n=some r):ar Tryz.prog 47 #[.pointer (some ⟨g,0,none⟩),.int .i64 n] .triv (InR g st) (fun v A' N=>v= .string (aC r.1)∧A'=InR g r.2∧N = []):=by
 unfold rE at h
 split at h
 ·rename_i h1
  obtain rfl:=xO h
  exact vS (bU g st n h1.1 h1.2)
 ·simp at h
def eQ (st:I) (size:Int):Option (Int×I):=some ((eV st size).1,(eV st size).2)
theorem gf (st:I) (size:Int):eQ st size=some ((eV st size).1,(eV st size).2):=rfl
theorem bJ (g:Nat) (st:I) (size:Int) (r:Int×I) (h:eQ st size=some r):ar Tryz.prog 77 #[.pointer (some ⟨g,0,none⟩),.int .i64 size] .triv (InR g st) (fun v A' N=>v= .int .i64 r.1∧A'=InR g r.2∧N = []):=by
 unfold eQ at h
 obtain rfl:=xO h
 exact vS (sr g st size)
def jZ (st:I)  : Option (Int×I):=some (st.err,st)
theorem bX (st:I)  : jZ st  = some (st.err,st):=rfl
theorem dX (g:Nat) (st:I)  (r:Int×I) (h:jZ st  = some r):ar Tryz.prog 23 #[.pointer (some ⟨g,0,none⟩)] .triv (InR g st) (fun v A' N=>v= .int .i64 r.1∧A'=InR g r.2∧N = []):=by
 unfold jZ at h
 obtain rfl:=xO h
 exact vS (iN g st)
def cI (st:I)  : Option (Int×I):=some ((du st).err,du st)
theorem eW (st:I)  : cI st  = some ((du st).err,du st):=rfl
theorem cU (g:Nat) (st:I)  (r:Int×I) (h:cI st  = some r):ar Tryz.prog 104 #[.pointer (some ⟨g,0,none⟩)] .triv (InR g st) (fun v A' N=>v= .int .i64 r.1∧A'=InR g r.2∧N = []):=by
 unfold cI at h
 obtain rfl:=xO h
 exact vS (qp g st)
def ib (st:I)  : Option (Int×I):=some ((dg (co 32 st)).1,(dg (co 32 st)).2)
theorem tv (st:I)  : ib st  = some ((dg (co 32 st)).1,(dg (co 32 st)).2):=rfl
theorem jx (g:Nat) (st:I)  (r:Int×I) (h:ib st  = some r):ar Tryz.prog 101 #[.pointer (some ⟨g,0,none⟩)] .triv (InR g st) (fun v A' N=>v= .int .i64 r.1∧A'=InR g r.2∧N = []):=by
 unfold ib at h
 obtain rfl:=xO h
 exact vS (nn g st)
def fI (st:I)  : Option (Int×I):=some ((dg (co 64 st)).1,(dg (co 64 st)).2)
theorem sE (st:I)  : fI st  = some ((dg (co 64 st)).1,(dg (co 64 st)).2):=rfl
theorem ll (g:Nat) (st:I)  (r:Int×I) (h:fI st  = some r):ar Tryz.prog 100 #[.pointer (some ⟨g,0,none⟩)] .triv (InR g st) (fun v A' N=>v= .int .i64 r.1∧A'=InR g r.2∧N = []):=by
 unfold fI at h
 obtain rfl:=xO h
 exact vS (qv g st)
def mh (st:List UInt8×Int) (n:Int):Option (List UInt8×Int):=if (-9223372036854775808≤n∧n≤9223372036854775807)∧st.1.length+10≤140737488355328 then some (ed st (aX (aB n))) else none
theorem m0 (g:Nat) (st:List UInt8×Int) (n:Int) (r:List UInt8×Int) (h:mh st n=some r):ar Tryz.prog 90 #[.pointer (some ⟨g,0,none⟩),.int .i64 n] .triv (aU g st) (fun v A' N=>v= .tuple #[]∧A'=aU g r∧N = []):=by
 unfold mh at h
 split at h
 ·rename_i h1
  obtain rfl:=xO h
  exact vS (mU g st n h1.1.1 h1.1.2 h1.2)
 ·simp at h
def lO (st:List UInt8×Int) (n:Int):Option (List UInt8×Int):=if (-9223372036854775808≤n∧n≤9223372036854775807)∧st.1.length+10≤140737488355328 then some (fy st n) else none
theorem j0 (g:Nat) (st:List UInt8×Int) (n:Int) (r:List UInt8×Int) (h:lO st n=some r):ar Tryz.prog 91 #[.pointer (some ⟨g,0,none⟩),.int .i64 n] .triv (aU g st) (fun v A' N=>v= .tuple #[]∧A'=aU g r∧N = []):=by
 unfold lO at h
 split at h
 ·rename_i h1
  obtain rfl:=xO h
  exact vS (jV g st n h1.1.1 h1.1.2 h1.2)
 ·simp at h
def mi  (s:List UInt8):Option (Int):=if s.length≤8 then some (bL s) else none
theorem j6  (s:List UInt8) (h:s.length≤8):mi  s=some (bL s):=if_pos h
theorem gZ (s:List UInt8) (r:Int) (h:mi  s=some r) (w:World):Calls Tryz.prog 72 #[.string (aC s)] w fun e w'=>e= .returned (.int .i64 r)∧w=w':=by
 unfold mi at h
 split at h
 ·rename_i h1
  obtain rfl:=xO h
  exact o8 s h1 w
 ·simp at h
def iO  (n:Int) (k:Int):Option (List UInt8):=if (-9223372036854775808≤n∧n≤9223372036854775807)∧0≤k∧k≤8 then some (be n k.toNat) else none
theorem jy  (n:Int) (k:Int) (h:(-9223372036854775808≤n∧n≤9223372036854775807)∧0≤k∧k≤8):iO  n k=some (be n k.toNat):=if_pos h
theorem g6 (n:Int) (k:Int) (r:List UInt8) (h:iO  n k=some r):ar Tryz.prog 43 #[.int .i64 n,.int .i64 k] .triv av (fun v A' N=>v= .string (aC r)∧A'=av∧N = []):=by
 unfold iO at h
 split at h
 ·rename_i h1
  obtain rfl:=xO h
  exact wk (pq n k h1.1.1 h1.1.2 h1.2.1 h1.2.2)
 ·simp at h
def mj  (n:Int) (size:Int):Option (Bool):=if (-9223372036854775808≤n∧n≤9223372036854775807) then some (bq n size) else none
theorem nA  (n:Int) (size:Int) (h:(-9223372036854775808≤n∧n≤9223372036854775807)):mj  n size=some (bq n size):=if_pos h
theorem lm (n:Int) (size:Int) (r:Bool) (h:mj  n size=some r):ar Tryz.prog 58 #[.int .i64 n,.int .i64 size] .triv av (fun v A' N=>v= .bool r∧A'=av∧N = []):=by
 unfold mj at h
 split at h
 ·rename_i h1
  obtain rfl:=xO h
  exact wk (su n size h1.1 h1.2)
 ·simp at h
def ol  (n:Int):Option (Int):=if (-9223372036854775808≤n∧n≤9223372036854775807) then some (aB n:Int) else none
theorem sF  (n:Int) (h:(-9223372036854775808≤n∧n≤9223372036854775807)):ol  n=some (aB n:Int):=if_pos h
theorem pu (n:Int) (r:Int) (h:ol  n=some r) (w:World):Calls Tryz.prog 83 #[.int .i64 n] w fun e w'=>e= .returned (.int .u64 r)∧w=w':=by
 unfold ol at h
 split at h
 ·rename_i h1
  obtain rfl:=xO h
  exact nt n h1.1 h1.2 w
 ·simp at h
def rF  (n:Int):Option (List UInt8):=if 0≤n∧n<18446744073709551616 then some (aX n.toNat) else none
theorem tw  (n:Int) (h:0≤n∧n<18446744073709551616):rF  n=some (aX n.toNat):=if_pos h
theorem qK (n:Int) (r:List UInt8) (h:rF  n=some r):ar Tryz.prog 82 #[.int .u64 n] .triv av (fun v A' N=>v= .string (aC r)∧A'=av∧N = []):=by
 unfold rF at h
 split at h
 ·rename_i h1
  obtain rfl:=xO h
  exact wk (qG n h1.1 h1.2)
 ·simp at h
def om  (b:Bl):Option (Bool):=some (aY b)
theorem sG  (b:Bl):om  b=some (aY b):=rfl
theorem pv (b:Bl) (r:Bool) (h:om  b=some r):ar Tryz.prog 106 #[.agg #[.bool b.null,.string (aC b.data)]] .triv av (fun v A' N=>v= .bool r∧A'=av∧N = []):=by
 unfold om at h
 obtain rfl:=xO h
 exact wk (im b)
def fJ (st:List UInt8×Int) (b:Bl):Option (List UInt8×Int):=if st.1.length+10+b.data.length≤140737488355328 then some (jt st b) else none
theorem fq (g:Nat) (st:List UInt8×Int) (b:Bl) (r:List UInt8×Int) (h:fJ st b=some r):ar Tryz.prog 92 #[.pointer (some ⟨g,0,none⟩),.agg #[.bool b.null,.string (aC b.data)]] .triv (aU g st) (fun v A' N=>v= .tuple #[]∧A'=aU g r∧N = []):=by
 unfold fJ at h
 split at h
 ·rename_i h1
  obtain rfl:=xO h
  exact vS (hZ g st b h1)
 ·simp at h
def j7 (st:List UInt8×Int) (s:List UInt8):Option (List UInt8×Int):=if st.1.length+10+s.length≤140737488355328 then some (pj st s) else none
theorem jg (g:Nat) (st:List UInt8×Int) (s:List UInt8) (r:List UInt8×Int) (h:j7 st s=some r):ar Tryz.prog 68 #[.pointer (some ⟨g,0,none⟩),.string (aC s)] .triv (aU g st) (fun v A' N=>v= .tuple #[]∧A'=aU g r∧N = []):=by
 unfold j7 at h
 split at h
 ·rename_i h1
  obtain rfl:=xO h
  exact vS (mW g st s h1)
 ·simp at h
def bb (st:I)  : Option (Bl×I):=some ((dK st).1,(dK st).2)
theorem qL (st:I)  : bb st  = some ((dK st).1,(dK st).2):=rfl
theorem cy (g:Nat) (st:I)  (r:Bl×I) (h:bb st  = some r):ar Tryz.prog 102 #[.pointer (some ⟨g,0,none⟩)] .triv (InR g st) (fun v A' N=>v= .agg #[.bool r.1.null,.string (aC r.1.data)]∧A'=InR g r.2∧N = []):=by
 unfold bb at h
 obtain rfl:=xO h
 exact vS (jX g st)
def ml (st:I)  : Option (List UInt8×I):=some ((rC st).1,(rC st).2)
theorem mn (g:Nat) (st:I)  (r:List UInt8×I) (h:ml st  = some r):ar Tryz.prog 99 #[.pointer (some ⟨g,0,none⟩)] .triv (InR g st) (fun v A' N=>v= .string (aC r.1)∧A'=InR g r.2∧N = []):=by
 unfold ml at h
 obtain rfl:=xO h
 exact vS (qA g st)
def eX  (b:Bl):Option (List UInt8):=if b.data.length≤140737488355328 then some (aX (aB (cT b))++b.data) else none
theorem fA  (b:Bl) (h:b.data.length≤140737488355328):eX  b=some (aX (aB (cT b))++b.data):=if_pos h
theorem bh (b:Bl) (r:List UInt8) (h:eX  b=some r):ar Tryz.prog 56 #[.agg #[.bool b.null,.string (aC b.data)]] .triv av (fun v A' N=>v= .string (aC r)∧A'=av∧N = []):=by
 unfold eX at h
 split at h
 ·rename_i h1
  obtain rfl:=xO h
  exact wk (mZ b h1)
 ·simp at h
abbrev Env:=List (Nat×Value)
def Env.get:Env→Nat→Option Value
 | [],_=>none
 | (k,v)::e,t=>match Nat.beq k t with | true=>some v | false=>Env.get e t
def Env.ev (e:Env):Operand→Option Value
 | .tmp t=>e.get t
 | .const v=>some v
 | .func f=>some (.func (.func f) #[] #[])
 | .global g=>some (.pointer (some ⟨g,0,none⟩))
def Env.evs (e:Env):List Operand→Option (List Value)
 | []=>some []
 | x::xs=>match e.ev x with
  | some v=>match Env.evs e xs with
   | some vs=>some (v::vs)
   | none=>none
  | none=>none
structure Has (n:Nat) (e:Env) (a:Act):Prop where
 df:a.defers = []
 sz:a.tmps.size=n
 at_: ∀ t v,e.get t=some v→a.tmps[t]? = some v
section
variable {n:Nat} {e e':Env} {a:Act} {v:Value} {vs:List Value} {x:Operand} {xs:List Operand} {d:Nat}
theorem Has.put (h:Has n e a) (hd:Nat.blt d n=true):Has n ((d,v)::e) (a.put (some d) v):=by
 have hd':d<n:=by simpa [Nat.blt_eq] using hd
 refine⟨h.df,by simp[Act.put,h.sz],fun t u hu=> ?_⟩
 simp only[Env.get] at hu
 cases hb:Nat.beq d t with
 | true =>
  rw[hb] at hu
  obtain rfl:=Nat.eq_of_beq_eq_true hb
  injection hu with hu
  subst hu
  simp[Act.put,h.sz,hd']
 | false =>
  rw[hb] at hu
  have hne:d≠t:=Nat.ne_of_beq_eq_false hb
  have h2:=h.at_ t u hu
  simp only[Act.put]
  rw[Array.getElem?_setIfInBounds_ne hne]
  exact h2
theorem Has.put0 (h:Has n e a):Has n e (a.put none v):=h
theorem Has.ev (h:Has n e a) (hx:e.ev x=some v):a.eval x=v:=by
 cases x with
 | tmp t =>
  have:=h.at_ t v hx
  simp[Act.eval,this]
 | const u=>simpa [Env.ev,Act.eval] using hx
 | func f=>simpa [Env.ev,Act.eval] using hx
 | global g=>simpa [Env.ev,Act.eval] using hx
theorem Has.evs (h:Has n e a): ∀ {xs:List Operand} {vs:List Value},e.evs xs=some vs→xs.map a.eval=vs
 | [],vs,hx=>by simpa [Env.evs] using hx
 | x::xs,vs,hx=>by
  simp only[Env.evs] at hx
  cases h1:e.ev x with
  | none=>rw[h1] at hx; cases hx
  | some u =>
   cases h2:e.evs xs with
   | none=>rw[h1,h2] at hx; cases hx
   | some us =>
    rw[h1,h2] at hx
    injection hx with hx
    subst hx
    simp[h.ev h1,h.evs h2]
theorem Has.sub (h:Has n e a) (hs: ∀ t v,Env.get e' t=some v→e.get t=some v):Has n e' a:=⟨h.df,h.sz,fun t v hv=>h.at_ t v (hs t v hv)⟩
end
def Env.gets (e:Env):List Nat→Option (List Value)
 | []=>some []
 | t::ts=>match e.get t with
  | some v=>match Env.gets e ts with
   | some vs=>some (v::vs)
   | none=>none
  | none=>none
def Env.ks:Env→List Nat
 | [] => []
 | (t,_)::r=>t::Env.ks r
def Env.vs:Env→List Value
 | [] => []
 | (_,v)::r=>v::Env.vs r
def Sub (e' e:Env):Prop:=e.gets e'.ks=some e'.vs
theorem Sub.get: ∀ {e' e:Env},Sub e' e→ ∀ t v,Env.get e' t=some v→e.get t=some v
 | [],_,_,t,v,h=>by simp[Env.get] at h
 | (k,u)::r,e,hs,t,v,h=>by
  simp only[Sub,Env.ks,Env.vs,Env.gets] at hs
  cases h1:e.get k with
  | none=>rw[h1] at hs; cases hs
  | some u' =>
   cases h2:e.gets (Env.ks r) with
   | none=>rw[h1,h2] at hs; cases hs
   | some us =>
    rw[h1,h2] at hs
    injection hs with hs
    injection hs with hs1 hs2
    subst hs1 hs2
    simp only[Env.get] at h
    cases hb:Nat.beq k t with
    | true =>
     rw[hb] at h
     obtain rfl:=Nat.eq_of_beq_eq_true hb
     injection h with h
     subst h
     exact h1
    | false =>
     rw[hb] at h
     exact Sub.get (e':=r) h2 t v h
def selR:List Res→List Nat→Option (List Res)
 | _,[]=>some []
 | Rs,i::is=>match Rs[i]? with
  | some A=>match selR (Rs.eraseIdx i) is with
   | some l=>some (A::l)
   | none=>none
  | none=>none
def Sel (Rs:List Res) (is:List Nat) (l:List Res):Prop:=selR Rs is=some l
theorem Sel.sep: ∀ {is:List Nat} {Rs l:List Res} {w:World} {F:Nat→Prop},Sel Rs is l→Sep Rs w F→Sep l w F
 | [],Rs,l,w,F,h,hs=>by
  injection h with h
  subst h
  exact trivial
 | i::is,Rs,l,w,F,h,hs=>by
  simp only[Sel,selR] at h
  cases h1:Rs[i]? with
  | none=>rw[h1] at h; cases h
  | some A =>
   cases h2:selR (Rs.eraseIdx i) is with
   | none=>rw[h1,h2] at h; cases h
   | some l' =>
    rw[h1,h2] at h
    injection h with h
    subst h
    obtain⟨G,k1,k2,k3⟩:=Sep.pick i h1 hs
    exact⟨G,k1,k2,Sel.sep h2 k3⟩
theorem St.sel {F0:Nat→Prop} {w0 w:World} {Rs l:List Res} (is:List Nat) (h:St F0 w0 Rs w) (hl:Sel Rs is l):St F0 w0 l w:=⟨h.fr,hl.sep h.sep⟩
section
variable (P:Program) (n:Nat) (F0:Nat→Prop) (w0:World)
def Ex (e:Env) (S:World→Prop) (o:Oper) (v:Value):Prop:= ∀ a w,Has n e a→S w→(execOp a.eval o).run P w= .ok (.value v) w
def T (e:Env) (Rs:List Res) (c:Code) (Q:Exit→Act→World→Prop):Prop:= ∀ a w,Has n e a→St F0 w0 Rs w→c.wp P Q a w
def X (e:Env) (Rs:List Res) (x:Exit) (Q:Exit→Act→World→Prop):Prop:= ∀ a w,Has n e a→St F0 w0 Rs w→Q x a w
def TL (ops:Array Oper) (l:List Nat) (e:Env) (Rs:List Res) (Q:Exit→Act→World→Prop):Prop:= ∀ a w,Has n e a→St F0 w0 Rs w→wpOps P ops Q l a w
def Ef (e:Env) (Rs:List Res) (o:Oper) (R:Env→List Res→Prop):Prop :=
 ∀ a w K Q,Has n e a→St F0 w0 Rs w→(∀ e' Rs',R e' Rs'→ ∀ a' w',Has n e' a'→St F0 w0 Rs' w'→K a' w')→o.wp P a w K Q
def Wd (ops:Array Oper) (e:Env) (o:Oper) (b:Bool):Prop:= ∀ a,Has n e a→Region.wanted o (yielded ops a.tmps)=b
end
section
variable {P:Program} {n:Nat} {F0:Nat→Prop} {w0:World} {e e':Env} {Rs Rs':List Res} {Q:Exit→Act→World→Prop} {ops:Array Oper} {o:Oper} {v:Value} {l:List Nat}
theorem Wd.u {d:Option Tmp} {op:Op} {ty:TypeId} {pos:String} {af:Array Edge}:Wd n ops e ⟨d,op,ty,pos,af,none⟩ true:=fun _ _=>rfl
theorem Wd.g {d:Option Tmp} {op:Op} {ty:TypeId} {pos:String} {af:Array Edge} {j t:Nat} {b want:Bool} (hj:(ops[j]?).bind (·.dst)=some t) (hv:e.get t=some (.bool b)) (hb:b=want) :
 Wd n ops e ⟨d,op,ty,pos,af,some (j,want)⟩ true:=by
 intro a h
 subst hb
 simp only[Region.wanted,yielded,hj,xP,h.at_ t _ hv,beq_self_eq_true]
theorem Wd.gn {d:Option Tmp} {op:Op} {ty:TypeId} {pos:String} {af:Array Edge} {j t:Nat} {b want:Bool} (hj:(ops[j]?).bind (·.dst)=some t) (hv:e.get t=some (.bool b)) (hb:b= !want) :
 Wd n ops e ⟨d,op,ty,pos,af,some (j,want)⟩ false:=by
 intro a h
 subst hb
 simp only[Region.wanted,yielded,hj,xP,h.at_ t _ hv]
 cases want <;> rfl
theorem pw {o:Oper} {v:Value} {a:Act} {w:World} {K:Act→World→Prop} {S:World→Prop} (hx:Ex P n e S o v) (ha:Has n e a) (hw:S w) (hk:K (a.put o.dst v) w):o.wp P a w K Q:=by
 unfold Oper.wp
 rw[hx a w ha hw]
 exact hk
theorem TL.nil (h:X n F0 w0 e Rs .normal Q):TL P n F0 w0 ops [] e Rs Q:=fun a w ha hw=>h a w ha hw
theorem TL.q {i d:Nat} {op:Op} {ty:TypeId} {pos:String} {af:Array Edge} {g:Option (Nat×Bool)} (ho:ops[i]? = some ⟨some d,op,ty,pos,af,g⟩) (hw:Wd n ops e ⟨some d,op,ty,pos,af,g⟩ true)
 (hx:Ex P n e (St F0 w0 Rs) ⟨some d,op,ty,pos,af,g⟩ v) (hd:Nat.blt d n=true) (h:TL P n F0 w0 ops l ((d,v)::e) Rs Q):TL P n F0 w0 ops (i::l) e Rs Q:=by
 intro a w ha hs
 rw[wpOps_cons,wpOp,ho]
 simp only[hw a ha,if_true]
 exact .inl (pw hx ha hs (h _ _ (ha.put hd) hs))
theorem vv {i d:Nat} {op:Op} {ty:TypeId} {pos:String} {af:Array Edge} {g:Option (Nat×Bool)} (ho:ops[i]? = some ⟨some d,op,ty,pos,af,g⟩) (hw:Wd n ops e ⟨some d,op,ty,pos,af,g⟩ false)
 (hd:Nat.blt d n=true) (h:TL P n F0 w0 ops l ((d,undef)::e) Rs Q):TL P n F0 w0 ops (i::l) e Rs Q:=by
 intro a w ha hs
 rw[wpOps_cons,wpOp,ho]
 simp only[hw a ha]
 exact h _ _ (ha.put hd) hs
theorem v8 {i:Nat} {R:Env→List Res→Prop} (ho:ops[i]? = some o) (hw:Wd n ops e o true) (hx:Ef P n F0 w0 e Rs o R) (h: ∀ e' Rs',R e' Rs'→TL P n F0 w0 ops l e' Rs' Q):TL P n F0 w0 ops (i::l) e Rs Q:=by
 intro a w ha hs
 rw[wpOps_cons,wpOp,ho]
 simp only[hw a ha,if_true]
 exact .inl (hx a w _ _ ha hs (fun e' Rs' hr a' w' ha' hs'=>h e' Rs' hr a' w' ha' hs'))
theorem T.region {id:Nat} {os:List Oper} (hl:List.range os.toArray.size=l) (h:TL P n F0 w0 os.toArray l e Rs Q):T P n F0 w0 e Rs (.region id os.toArray false) Q:=fun a w ha hs=>wp_region (hl ▸ h a w ha hs)
theorem T.seq {x y:Code} (h:T P n F0 w0 e Rs x (Exit.then (y.wp P Q) Q)):T P n F0 w0 e Rs (.seq x y) Q:=fun a w ha hs=>wp_seq (h a w ha hs)
theorem T.skip (h:X n F0 w0 e Rs .normal Q):T P n F0 w0 e Rs .skip Q:=fun a w ha hs=>wp_skip (h a w ha hs)
theorem T.ret (h:X n F0 w0 e Rs .ret Q):T P n F0 w0 e Rs .ret Q:=fun a w ha hs=>wp_ret (h a w ha hs)
theorem T.exit {i:Nat} (h:X n F0 w0 e Rs (.exit i) Q):T P n F0 w0 e Rs (.exit i) Q:=fun a w ha hs=>wp_exit (h a w ha hs)
theorem T.goto {i:Nat} (h:X n F0 w0 e Rs (.goto i) Q):T P n F0 w0 e Rs (.goto i) Q:=fun a w ha hs=>wp_goto (h a w ha hs)
theorem T.label {i:Nat} (h:X n F0 w0 e Rs .normal Q):T P n F0 w0 e Rs (.label i) Q:=fun a w ha hs=>wp_label (h a w ha hs)
theorem vw {c:Operand} {x y:Code} {b:Bool} (hc:e.ev c=some (.bool b)) (hb:b=true) (h:T P n F0 w0 e Rs x Q):T P n F0 w0 e Rs (.cond c x y) Q:=fun a w ha hs=>wp_cond_true (by rw[ha.ev hc,hb]) (h a w ha hs)
theorem vC {c:Operand} {x y:Code} {b:Bool} (hc:e.ev c=some (.bool b)) (hb:b=false) (h:T P n F0 w0 e Rs y Q):T P n F0 w0 e Rs (.cond c x y) Q:=fun a w ha hs=>wp_cond_false (by rw[ha.ev hc,hb]) (h a w ha hs)
theorem T.block {id:Nat} {c:Code} (h:T P n F0 w0 e Rs c (Exit.inBlock id Q)):T P n F0 w0 e Rs (.block id c) Q:=fun a w ha hs=>wp_block (h a w ha hs)
theorem T.loop {c:Code} (I:Nat→Env→List Res→Prop) (m:Nat) (h0:I m e Rs) (h: ∀ m e Rs,I m e Rs→T P n F0 w0 e Rs c (Exit.then (fun a w=> ∃ m' e' Rs',m'<m∧I m' e' Rs'∧Has n e' a∧St F0 w0 Rs' w) Q)):T P n F0 w0 e Rs (.loop c) Q:=by
 intro a w ha hs b k cs
 have key: ∀ m e Rs a w,I m e Rs→Has n e a→St F0 w0 Rs w→ ∃ x a' w',Q x a' w'∧Arrives P (lone (b.at a (.code c :: .inLoop c::k)) cs w) b k cs x a' w':=by
  intro m
  induction m using Nat.strongRecOn with
  | _ m ih =>
   intro e Rs a w hI ha hs
   obtain⟨x,a₁,w₁,hq,harr⟩:=h m e Rs hI a w ha hs b (.inLoop c::k) cs
   cases x with
   | normal =>
    obtain⟨m',e',Rs',hlt,hI',ha',hs'⟩:=hq
    obtain⟨x₂,a₂,w₂,hq₂,harr₂⟩:=ih m' hlt e' Rs' a₁ w₁ hI' ha' hs'
    exact⟨x₂,a₂,w₂,hq₂,.of_steps (Steps.trans harr (.one step_inLoop)) harr₂⟩
   | exit id=>exact⟨_,a₁,w₁,hq,.pass (x:= .inLoop c) rfl (fun _ _=> .inl (by simp)) harr⟩
   | goto l=>exact⟨_,a₁,w₁,hq,.pass (x:= .inLoop c) rfl (fun _ _=> .inl (by simp)) harr⟩
   | ret=>exact⟨_,a₁,w₁,hq,.pass (x:= .inLoop c) rfl (fun _ _=> .inl (by simp)) harr⟩
   | panic ch=>exact⟨_,a₁,w₁,hq,.pass (x:= .inLoop c) rfl (fun _ _=> .inl (by simp)) harr⟩
   | outgrown=>exact⟨_,a₁,w₁,hq,.pass (x:= .inLoop c) rfl (fun _ _=> .inl (by simp)) harr⟩
 obtain⟨x,a',w',hq,harr⟩:=key m e Rs a w h0 ha hs
 exact⟨x,a',w',hq,.of_steps (.one step_loop) harr⟩
theorem v9 {c:Code} (I:Nat→Env→List Res→Prop) (m:Nat) {e0:Env} {Rs0:List Res} (is:List Nat) (h0:I m e0 Rs0) (he:Sub e0 e) (hr:Sel Rs is Rs0) (h: ∀ m e Rs,I m e Rs→T P n F0 w0 e Rs c (Exit.then (fun a w=> ∃ m' e' Rs',m'<m∧I m' e' Rs'∧Has n e' a∧St F0 w0 Rs' w) Q)):T P n F0 w0 e Rs (.loop c) Q :=
 fun a w ha hs=>T.loop I m h0 h a w (ha.sub he.get) (hs.sel is hr)
end
end Go.Proofs.YtahjmpipllajcaaGreat.Sl
