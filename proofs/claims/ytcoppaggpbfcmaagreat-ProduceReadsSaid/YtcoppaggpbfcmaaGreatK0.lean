/- produceReads_holds: part 0. -/
import Derived.WalkKit
import Derived.Below
import Derived.Laws.OwnMore
import Derived.Deep.Draws
import Derived.Laws.Rows
import Derived.Lib.Hide
import Derived.Lib.AppendStr
import Derived.Maps.AppendAt
import Derived.OwnWalk
import Derived.Deep.AppendLies
import Derived.Laws.BytesArg
import Derived.Deep.WholeRow
import Derived.ChangeArms
import Derived.ChangeSlices
import Derived.Deep.Slices
import Derived.OpenShut
import Derived.WideShapes
import Derived.Test.YtcoppaggpbfcmaaGreatProg
import Derived.KernelRfl
import Derived.Deep.QuietTactic
import Derived.BigQuiet
import Derived.LoopN
import Derived.WalkSpells
import Derived.WalkLawsBesides
import Derived.Lib.Strings
import Derived.Laws.BitsLemmas
import Derived.Scope
import Derived.ScopeJumps
import Derived.WalkMore
import Derived.Deep.Quiet
set_option maxRecDepth 100000
set_option maxHeartbeats 4000000
set_option linter.defProp false
namespace Go.Proofs.YtcoppaggpbfcmaaGreat.Sl
open Go.RowKit
set_option linter.unusedVariables false
abbrev jI (n : Int) : Value := .int .i64 n
abbrev jP (n : Nat) : Value := .pointer (some ⟨n, 0, none⟩)
theorem jF {α : Sort _} {P : Prop} [Decidable P] {a b c : α} (h : (if P then a else b) = c) : (P ∧ a = c) ∨ (¬P ∧ b = c) := by by_cases p : P; exact .inl ⟨p, (if_pos p).symm.trans h⟩; exact .inr ⟨p, (if_neg p).symm.trans h⟩
theorem Z {α : Sort _} {a : α} : a = a := rfl
theorem CU {α : Type} {l : List α} {i : Nat} {a : α} (h : l[i]? = some a) : ∃ w : i < l.length, l[i] = a := List.getElem?_eq_some_iff.1 h
def CW := @List.length_append
def C0 := @List.length_drop
def C2 := @List.append_assoc
def C5 := @List.length_cons
def Db := @List.nil_append
def Dg := @Int.toNat_natCast
def Dh := @List.length_map
def Dq := @List.drop_drop
def Dt := @List.length_take
def Du := @Nat.zero_le
def Dy := @Nat.le_refl
def DE := @List.append_nil
def D3 := @List.length_nil
def Fg := @Tryz.ntmps58
structure Fr (F:Nat→Prop) (w w':World):Prop where
 os:w'.os=w.os
 tape:w'.tape=w.tape
 output:w'.output=w.output
 size:w.heap.size≤w'.heap.size
 block: ∀ k,k<w.heap.size→ ¬ F k→w'.heap[k]? = w.heap[k]?
theorem Fr.refl (F:Nat→Prop) (w:World):Fr F w w:=⟨rfl,rfl,rfl,Dy _,fun _ _ _=>rfl⟩
theorem Fr.trans {F G:Nat→Prop} {a b c:World} (h:Fr F a b) (k:Fr G b c) (hg: ∀ k,G k→F k∨a.heap.size≤k):Fr F a c :=
 ⟨k.os.trans h.os,k.tape.trans h.tape,k.output.trans h.output,Nat.le_trans h.size k.size,fun i hi hn =>
  (k.block i (Nat.lt_of_lt_of_le hi h.size) (fun h2=>(hg i h2).elim hn (fun h3=>by omega))).trans (h.block i hi hn)⟩
theorem BJ {F:Nat→Prop} {w w':World} (h:Below w.heap.size w w'):Fr F w w':=⟨h.os,h.tape,h.output,h.size,fun k hk _=>h.block k hk⟩
theorem Fr.below {w w':World} (h:Fr (fun _=>False) w w'):Below w.heap.size w w':=⟨h.os,h.tape,h.output,h.size,fun k hk=>h.block k hk (fun h=>h)⟩
theorem BK {F:Nat→Prop} {w w':World} {row:Option Nat} (h:w.grownBy w' row) (hr: ∀ k,row=some k→F k):Fr F w w' :=
 ⟨h.os,h.tape,h.output,h.size,fun k hk hn=>h.block k hk (fun e=>hn (hr k e.symm))⟩
theorem Fr.mono {F G:Nat→Prop} {w w':World} (h:Fr F w w') (hg: ∀ k,F k→G k):Fr G w w':=⟨h.os,h.tape,h.output,h.size,fun k hk hn=>h.block k hk (fun h2=>hn (hg k h2))⟩
theorem Fr.alloc {F:Nat→Prop} {w w':World} (h:Fr F w w') (o:Obj):Fr F w (w'.alloc o) :=
 h.trans (BJ (F:=fun _=>False) ((Below.refl _ _).alloc (Dy _) o)) (fun _ h=>h.elim)
theorem Fr.drew {F:Nat→Prop} {w w':World} (h:Fr F w w'):Fr F w w'.drew:=⟨h.os,h.tape,h.output,h.size,h.block⟩
theorem Fr.drewN {F:Nat→Prop} {w w':World} (h:Fr F w w') (n:Nat):Fr F w (w'.drewN n):=⟨h.os,h.tape,h.output,h.size,h.block⟩
theorem Fr.set {F:Nat→Prop} {w w':World} (h:Fr F w w') {p:Addr} (hp:F p.block∨w.heap.size≤p.block) (u:Value):Fr F w (w'.setCell p u) :=
 h.trans (G:=fun k=>k=p.block) ⟨rfl,rfl,rfl,by simp[World.setCell],fun k _ hn=>Below.heap_setCell _ _ _ _ hn⟩ (fun k hk=>by rw[hk]; exact hp)
structure Res where
 P:World→(Nat→Prop)→Prop
 lt: ∀ {w:World} {G:Nat→Prop},P w G→ ∀ k,G k→k<w.heap.size
 move: ∀ {w w':World} {G:Nat→Prop},P w G→(∀ k,G k→w'.heap[k]? = w.heap[k]?)→P w' G
def Sep:List Res→World→(Nat→Prop)→Prop
 | [],_,_=>True
 | R::Rs,w,F=> ∃ G,R.P w G∧(∀ k,G k→F k)∧Sep Rs w (fun k=>F k∧ ¬ G k)
theorem Sep.mono: ∀ {Rs:List Res} {w:World} {F F':Nat→Prop},Sep Rs w F→(∀ k,F k→F' k)→Sep Rs w F'
 | [],_,_,_,_,_=>trivial
 | _ :: _,_,_,_,⟨G,h1,h2,h3⟩,hf=>⟨G,h1,fun k hk=>hf k (h2 k hk),h3.mono (fun k hk=>⟨hf k hk.1,hk.2⟩)⟩
theorem Sep.inside: ∀ {Rs:List Res} {w:World} {F:Nat→Prop},Sep Rs w F→Sep Rs w (fun k=>F k∧k<w.heap.size)
 | [],_,_,_=>trivial
 | R :: _,_,_,⟨G,h1,h2,h3⟩=>⟨G,h1,fun k hk=>⟨h2 k hk,R.lt h1 k hk⟩,h3.inside.mono (fun k hk=>⟨⟨hk.1.1,hk.2⟩,hk.1.2⟩)⟩
theorem Sep.move_: ∀ {Rs:List Res} {w w':World} {F:Nat→Prop},Sep Rs w F→(∀ k,F k→w'.heap[k]? = w.heap[k]?)→Sep Rs w' F
 | [],_,_,_,_,_=>trivial
 | R :: _,_,_,_,⟨G,h1,h2,h3⟩,hm=>⟨G,R.move h1 (fun k hk=>hm k (h2 k hk)),h2,h3.move_ (fun k hk=>hm k hk.1)⟩
theorem Sep.move {Rs:List Res} {w w':World} {F:Nat→Prop} (h:Sep Rs w F) (hm: ∀ k,F k→k<w.heap.size→w'.heap[k]? = w.heap[k]?):Sep Rs w' F :=
 (h.inside.move_ (fun k hk=>hm k hk.1 hk.2)).mono (fun _ hk=>hk.1)
theorem Sep.pick: ∀ {Rs:List Res} (i:Nat) {A:Res} {w:World} {F:Nat→Prop},Rs[i]? = some A→Sep Rs w F→ ∃ G,A.P w G∧(∀ k,G k→F k)∧Sep (Rs.eraseIdx i) w (fun k=>F k∧ ¬ G k)
 | [],i,_,_,_,hi,_=>by simp at hi
 | R::Rs,0,A,w,F,hi,h=>by
  have e:R=A:=by simpa using hi
  subst e
  exact h
 | R::Rs,i+1,A,w,F,hi,⟨G,h1,h2,h3⟩=>by
  obtain⟨G',k1,k2,k3⟩:=Sep.pick i (by simpa using hi) h3
  exact⟨G',k1,fun k hk=>(k2 k hk).1,G,h1,fun k hk=>⟨h2 k hk,fun h=>(k2 k h).2 hk⟩,k3.mono (fun k hk=>⟨⟨hk.1.1,hk.2⟩,hk.1.2⟩)⟩
theorem Sep.back: ∀ {Rs:List Res} (i:Nat) {A A':Res} {w:World} {F G:Nat→Prop},Rs[i]? = some A→A'.P w G→(∀ k,G k→F k)→Sep (Rs.eraseIdx i) w (fun k=>F k∧ ¬ G k)→Sep (Rs.set i A') w F
 | [],i,_,_,_,_,_,hi,_,_,_=>by simp at hi
 | R::Rs,0,A,A',w,F,G,hi,h1,h2,h3=>⟨G,h1,h2,h3⟩
 | R::Rs,i+1,A,A',w,F,G,hi,h1,h2,⟨G',k1,k2,k3⟩ =>
  ⟨G',k1,fun k hk=>(k2 k hk).1,Sep.back i (by simpa using hi) h1 (fun k hk=>⟨h2 k hk,fun h=>(k2 k h).2 hk⟩) (k3.mono (fun k hk=>⟨⟨hk.1.1,hk.2⟩,hk.1.2⟩))⟩
theorem Sep.append: ∀ {Ns Rs:List Res} {w:World} {F G:Nat→Prop},Sep Ns w G→Sep Rs w (fun k=>F k∧ ¬ G k)→(∀ k,G k→F k)→Sep (Ns++Rs) w F
 | [],_,_,_,_,_,h,_=>h.mono (fun _ hk=>hk.1)
 | N::Ns,Rs,w,F,G,⟨H,h1,h2,h3⟩,h,hg =>
  ⟨H,h1,fun k hk=>hg k (h2 k hk),Sep.append h3 (h.mono (fun k hk=>⟨⟨hk.1,fun h4=>hk.2 (h2 k h4)⟩,fun h4=>hk.2 h4.1⟩)) (fun k hk=>⟨hg k hk.1,hk.2⟩)⟩
theorem Sep.one {R:Res} {w:World} {F:Nat→Prop} (h:R.P w F):Sep [R] w F:=⟨F,h,fun _ h=>h,trivial⟩
structure St (F0:Nat→Prop) (w0:World) (Rs:List Res) (w:World):Prop where
 fr:Fr F0 w0 w
 sep:Sep Rs w (fun k=>F0 k∨w0.heap.size≤k)
section
variable {F0:Nat→Prop} {w0 w w':World} {Rs:List Res} {A A':Res}
theorem AU (F0:Nat→Prop) (w:World) (h:Sep Rs w F0):St F0 w Rs w:=⟨Fr.refl _ _,h.mono (fun _ hk=> .inl hk)⟩
theorem Bm (w:World):St (fun _=>False) w [] w:=⟨Fr.refl _ _,trivial⟩
theorem St.drew (h:St F0 w0 Rs w):St F0 w0 Rs w.drew:=⟨h.fr.drew,h.sep.move (fun _ _ _=>rfl)⟩
theorem St.drewN (h:St F0 w0 Rs w) (n:Nat):St F0 w0 Rs (w.drewN n):=⟨h.fr.drewN n,h.sep.move (fun _ _ _=>rfl)⟩
theorem St.drop_ (h:St F0 w0 (A::Rs) w):St F0 w0 Rs w:=by
 obtain⟨f,G,_,_,h3⟩:=h
 exact⟨f,h3.mono (fun _ hk=>hk.1)⟩
theorem St.del (i:Nat) (h:St F0 w0 Rs w) (hi:Rs[i]? = some A):St F0 w0 (Rs.eraseIdx i) w:=by
 obtain⟨f,hs⟩:=h
 obtain⟨G,_,_,h3⟩:=Sep.pick i hi hs
 exact⟨f,h3.mono (fun _ hk=>hk.1)⟩
theorem St.weaken (i:Nat) (h:St F0 w0 Rs w) (hi:Rs[i]? = some A) (hA: ∀ G,A.P w G→A'.P w G):St F0 w0 (Rs.set i A') w:=by
 obtain⟨f,hs⟩:=h
 obtain⟨G,h1,h2,h3⟩:=Sep.pick i hi hs
 exact⟨f,Sep.back i hi (hA _ h1) h2 h3⟩
theorem St.get (i:Nat) (h:St F0 w0 Rs w) (hi:Rs[i]? = some A): ∃ G,A.P w G∧(∀ k,G k→F0 k∨w0.heap.size≤k):=by
 obtain⟨G,h1,h2,_⟩:=Sep.pick i hi h.sep
 exact⟨G,h1,h2⟩
theorem St.step (i:Nat) (h:St F0 w0 Rs w) (hi:Rs[i]? = some A) {Ns:List Res}
 (hs: ∀ G,A.P w G→Fr G w w'∧Sep (A'::Ns) w' (fun k=>G k∨w.heap.size≤k)):St F0 w0 (Ns++Rs.set i A') w':=by
 obtain⟨f,hp⟩:=h
 obtain⟨G,h1,h2,h3⟩:=Sep.pick i hi hp
 obtain⟨f2,G2,k1,k2,k3⟩:=hs G h1
 refine⟨f.trans f2 h2,?_⟩
 have hle:=f.size
 have hR:Sep (Rs.eraseIdx i) w' (fun k=>((F0 k∨w0.heap.size≤k)∧ ¬ G k)∧k<w.heap.size):=h3.inside.move (fun k hk _=>f2.block k hk.2 hk.1.2)
 refine Sep.append k3 (F:=fun k=>F0 k∨w0.heap.size≤k) (Sep.back i hi k1 (fun k hk=>⟨?_,fun hn=>hn.2 hk⟩) (hR.mono (fun k hk=>⟨⟨hk.1.1,?_⟩,?_⟩))) ?_
 ·rcases k2 k hk with h4 | h4
  ·exact h2 k h4
  ·exact .inr (by omega)
 ·rintro⟨h4 | h4,_⟩
  ·exact hk.1.2 h4
  ·have:=hk.2; omega
 ·intro h4
  rcases k2 k h4 with h5 | h5
  ·exact hk.1.2 h5
  ·have:=hk.2; omega
 ·rintro k ⟨h4 | h4,_⟩
  ·exact h2 k h4
  ·exact .inr (by omega)
theorem St.grow (h:St F0 w0 Rs w) {Ns:List Res} (f2:Fr (fun _=>False) w w') (k3:Sep Ns w' (fun k=>w.heap.size≤k)):St F0 w0 (Ns++Rs) w':=by
 obtain⟨f,hp⟩:=h
 have hle:=f.size
 refine⟨f.trans f2 (fun _ h=>h.elim),Sep.append k3 ((hp.inside.move (fun k hk _=>f2.block k hk.2 (fun h=>h))).mono (fun k hk=>⟨hk.1,by have:=hk.2; omega⟩)) (fun k hk=> .inr (by omega))⟩
theorem St.below (h:St (fun _=>False) w0 Rs w):Below w0.heap.size w0 w:=h.fr.below
end
def aC (b:Nat) (T:TypeId) (cs:Array Value):Res where
 P:=fun w G=>w.heap[b]? = some (.cells cs T (0,0))∧ ∀ k,G k↔k=b
 lt:=fun h k hk=>by
  rw[(h.2 k).1 hk]
  exact (Array.getElem?_eq_some_iff.1 h.1).1
 move:=fun h hm=>⟨(hm _ ((h.2 _).2 rfl)).trans h.1,h.2⟩
section
variable {F0:Nat→Prop} {w0 w w':World} {Rs:List Res} {b:Nat} {T:TypeId} {cs:Array Value}
theorem aI (h:w.heap[b]? = some (.cells cs T (0,0))) (i:Nat):w.cell? ⟨b,i,none⟩=cs[i]? := cell_of_row w b i cs T (0,0) h
theorem bd (h:w.heap[b]? = some (.cells cs T (0,0))) (i:Nat):w.frozen? ⟨b,i,none⟩=false:=by simp[World.frozen?,h]
theorem jO (h:w.heap[b]? = some (.cells cs T (0,0))) (i:Nat) (u:Value):(w.setCell ⟨b,i,none⟩ u).heap[b]? = some (.cells (cs.setIfInBounds i u) T (0,0)):=by
 simp[World.setCell,Array.getElem?_modify,h]
theorem gU {o:Obj} (h:w.heap[b]? = some o):b<w.heap.size:=(Array.getElem?_eq_some_iff.1 h).1
theorem St.blk (i:Nat) (h:St F0 w0 Rs w) (hi:Rs[i]? = some (aC b T cs)):w.heap[b]? = some (.cells cs T (0,0)):=by
 obtain⟨G,h1,_⟩:=h.get i hi
 exact h1.1
theorem St.alloc (h:St F0 w0 Rs w) (cs:Array Value) (T:TypeId):St F0 w0 (aC w.heap.size T cs::Rs) (w.alloc (.cells cs T)) :=
 h.grow (Ns := [aC w.heap.size T cs]) (BJ ((Below.refl _ _).alloc (Dy _) _)) ⟨fun k=>k=w.heap.size,⟨heap_alloc_new w _,fun _=>Iff.rfl⟩,fun k hk=>by omega,trivial⟩
theorem St.set (i:Nat) (h:St F0 w0 Rs w) (hi:Rs[i]? = some (aC b T cs)) (j:Nat) (u:Value):St F0 w0 (Rs.set i (aC b T (cs.setIfInBounds j u))) (w.setCell ⟨b,j,none⟩ u):=by
 refine h.step i hi (Ns := []) (fun G hG=>⟨?_,G,⟨jO hG.1 j u,hG.2⟩,fun k hk=> .inl hk,trivial⟩)
 exact (Fr.refl G w).set (p:=⟨b,j,none⟩) (.inl ((hG.2 b).2 rfl)) u
end
def mV (Q:Value→Res→List Res→Prop) (F:Nat→Prop) (w:World) (e:Ending) (w':World):Prop:= ∃ v A' Ns,e= .returned v∧Q v A' Ns∧St F w (A'::Ns) w'
def Post0 (Q:Value→List Res→Prop) (w:World) (e:Ending) (w':World):Prop:= ∃ v Ns,e= .returned v∧Q v Ns∧St (fun _=>False) w Ns w'
def ez (P:Program) (f:FuncId) (args:Array Value) (A:Res) (Q:Value→Res→List Res→Prop):Prop :=
 ∀ F w,A.P w F→Calls P f args w (mV Q F w)
def e8 (P:Program) (f:FuncId) (args:Array Value) (Q:Value→List Res→Prop):Prop :=
 ∀ w,Calls P f args w (Post0 Q w)
section
variable {P:Program} {f:FuncId} {args:Array Value} {F0:Nat→Prop} {w0 w:World} {Rs:List Res} {A:Res}
theorem St.call {Q:Value→Res→List Res→Prop} (i:Nat) (h:St F0 w0 Rs w) (hi:Rs[i]? = some A) (hs:ez P f args A Q) :
 Calls P f args w fun e w'=> ∃ v A' Ns,e= .returned v∧Q v A' Ns∧St F0 w0 (Ns++Rs.set i A') w':=by
 obtain⟨G0,hG0,hsub⟩:=h.get i hi
 obtain⟨G,h1,h2,h3⟩:=Sep.pick i hi h.sep
 refine (hs G w h1).mono ?_
 rintro e w' ⟨v,A',Ns,rfl,hq,hst⟩
 refine⟨v,A',Ns,rfl,hq,?_⟩
 obtain⟨f2,G2,k1,k2,k3⟩:=hst
 have f:=h.fr
 refine⟨f.trans f2 h2,?_⟩
 have hle:=f.size
 have hR:Sep (Rs.eraseIdx i) w' (fun k=>((F0 k∨w0.heap.size≤k)∧ ¬ G k)∧k<w.heap.size):=h3.inside.move (fun k hk _=>f2.block k hk.2 hk.1.2)
 refine Sep.append k3 (F:=fun k=>F0 k∨w0.heap.size≤k) (Sep.back i hi k1 (fun k hk=>⟨?_,fun hn=>hn.2 hk⟩) (hR.mono (fun k hk=>⟨⟨hk.1.1,?_⟩,?_⟩))) ?_
 ·rcases k2 k hk with h4 | h4
  ·exact h2 k h4
  ·exact .inr (by omega)
 ·rintro⟨h4 | h4,_⟩
  ·exact hk.1.2 h4
  ·have:=hk.2; omega
 ·intro h4
  rcases k2 k h4 with h5 | h5
  ·exact hk.1.2 h5
  ·have:=hk.2; omega
 ·rintro k ⟨h4 | h4,_⟩
  ·exact h2 k h4
  ·exact .inr (by omega)
theorem St.call0 {Q:Value→List Res→Prop} (h:St F0 w0 Rs w) (hs:e8 P f args Q) :
 Calls P f args w fun e w'=> ∃ v Ns,e= .returned v∧Q v Ns∧St F0 w0 (Ns++Rs) w':=by
 refine (hs w).mono ?_
 rintro e w' ⟨v,Ns,rfl,hq,hst⟩
 refine⟨v,Ns,rfl,hq,h.grow hst.fr (hst.sep.mono (fun k hk=>hk.elim (fun h=>h.elim) id))⟩
end
def aK (l:List UInt8):List Value:=l.map fun b=>Value.int .u8 b.toNat
theorem gH (l m:List UInt8):aK (l++m)=aK l++aK m:=by simp[aK]
theorem mr (s:ByteArray):Lib.strCells s=aK s.data.toList:=rfl
section
variable {P:Program} (w:World)
theorem qY (t u ty e:TypeId) (i:TypeInfo) (ht:P.underlying t=some (.slice e)) (hu:P.underlying u=some .string) (hi:P.info? e=some i) (hz:i.zero=some (.int .u8 0))
 (hsize:i.size=1) (hby:i.bytes=1)
 (v:Value) (n:Nat) (xs:List Value) (hown:w.ownsRow 0 e 1 v n xs) (s:ByteArray) (hbytes:n+s.size≤140737488355328) :
 ∃ v' w',(Builtin.append_ #[t,u] ty #[v,.string s]).run P w= .ok v' w'∧w'.ownsRow 0 e 1 v' (n+s.size) (xs++Lib.strCells s)∧w.grownBy w' v.ownBlock ∧
  (v'.ownBlock=v.ownBlock∨v'.ownBlock=some w.heap.size):=by
 obtain⟨v',w',hr,h2,h3,h4⟩:=Lib.run_append_own_string (P:=P) w 0 t u ty e i ht hu hi hz hsize hby v n xs hown s (by simp only[maxLen]; omega) hbytes (Du _)
 refine⟨v',w',hr,h2,h3,?_⟩
 rcases hown.2 with⟨rfl,rfl⟩ | ⟨g,cap,cur,rfl,hbg,hg,hnc,hcm,hcs,htake⟩
 ·by_cases hm:s.size=0
  ·left
   rw[h4.2 ⟨rfl,hm⟩]
  ·right
   have hr2:=run_append_nil_string (P:=P) w t u ty e i (.int .u8 0) ht hu hi hz s (by omega) (by omega) (by rw[hby]; omega)
   rw[hr] at hr2
   injection hr2 with hv _
   rw[hv]
   rfl
 ·by_cases hroom:n+s.size≤cap
  ·left
   have hcs':cur.size=cap:=by simpa using hcs
   have hr2:=Lib.run_append_room_string (P:=P) w t u ty e i ht hu hi hsize g n cap cur hg s hroom (by omega)
   rw[hr] at hr2
   injection hr2 with hv _
   rw[hv]
   rfl
  ·right
   have hxl:xs.length=n:=by simpa using hown.1
   have holds: ∀ j u,xs[j]? = some u→w.cell? ((⟨g,0,none⟩:Addr).add j)=some u:=hown.cells (g:=g) rfl
   have hr2:=Lib.run_append_grow_string (P:=P) w t u ty e i (.int .u8 0) ht hu hi hz ⟨g,0,none⟩ n cap xs (by rw[hsize]; simpa using hxl) holds s (by omega) (by omega) (by rw[hby]; exact growslice_fits (by omega) (by omega))
   rw[hr] at hr2
   injection hr2 with hv _
   rw[hv]
   rfl
theorem jQ {ops:Array Oper} {rest:List Oper} {o:Oper} {a:Act} {Q:Exit→Act→World→Prop} (hgd:o.guard=none) (sl x:Operand) (t u:TypeId)
 (ho:o.op= .call { callee:= .builtin .append,args:= #[sl,x],argTypes:= #[t,u] })
 (e:TypeId) (ht:P.underlying t=some (.slice e)) (hu:P.underlying u=some .string) (hinfo:(P.info? e).map (fun i=>(i.zero,i.size,i.bytes))=some (some (.int .u8 0),1,1))
 (v:Value) (n:Nat) (xs:List Value) (hs:a.eval sl=v) (hown:w.ownsRow 0 e 1 v n xs) (s:ByteArray) (hx:a.eval x= .string s) (hbytes:n+s.size≤140737488355328)
 (h: ∀ v' w',w'.ownsRow 0 e 1 v' (n+s.size) (xs++Lib.strCells s)→w.grownBy w' v.ownBlock→(v'.ownBlock=v.ownBlock∨v'.ownBlock=some w.heap.size)→wpList P ops Q rest (a.put o.dst v') w'):wpList P ops Q (o::rest) a w:=by
 obtain⟨i,hi,hzz⟩:=Option.map_eq_some_iff.1 hinfo
 simp only[Prod.mk.injEq] at hzz
 refine wpList_plain hgd fun K hK=> ?_
 obtain⟨v',w',hr,h2,h3,h4⟩:=qY (P:=P) w t u o.type e i ht hu hi hzz.1 hzz.2.1 hzz.2.2 v n xs hown s hbytes
 unfold Oper.wp execOp
 simp only[ho,resolve,invoke,builtin,Sem.run_bind,Sem.run_pure,Result.andThen_ok,List.map_toArray,List.map_cons,List.map_nil,hs,hx,hr]
 exact hK _ _ (h v' w' h2 h3 h4)
theorem jR {ops:Array Oper} {rest:List Oper} {o:Oper} {a:Act} {Q:Exit→Act→World→Prop} (hgd:o.guard=none) (sl x:Operand) (t:TypeId)
 (ho:o.op= .call { callee:= .builtin .append,args:= #[sl,x],argTypes:= #[t,t] })
 (e:TypeId) (z:Value) (bytes:Nat) (ht:P.underlying t=some (.slice e)) (hinfo:(P.info? e).map (fun i=>(i.zero,i.size,i.bytes))=some (some z,1,bytes)) (hz:z.cells.size=1)
 (v:Value) (n:Nat) (xs:List Value) (hs:a.eval sl=v) (hown:w.ownsRow 0 e 1 v n xs) (y:Value) (hy:y.oneCell'=true) (hx:a.eval x= .slice (some ⟨w.heap.size,0,none⟩) 1 1)
 (hbytes:(n+1)*bytes≤140737488355328) (hmax:n+1≤140737488355328)
 (h: ∀ v' w',w'.ownsRow 0 e 1 v' (n+1) (xs ++ [y])→w.grownBy w' v.ownBlock→(v'.ownBlock=v.ownBlock∨ ∃ k,v'.ownBlock=some k∧w.heap.size≤k)→wpList P ops Q rest (a.put o.dst v') w') :
 wpList P ops Q (o::rest) a (w.alloc (.cells #[y] e)):=by
 obtain⟨i,hi,hzz⟩:=Option.map_eq_some_iff.1 hinfo
 simp only[Prod.mk.injEq] at hzz
 obtain⟨hz0,hz1,hz2⟩:=hzz
 refine wpList_append_own_at (w.alloc (.cells #[y] e)) hgd sl x t ho 0 e i z 1 bytes ht hi hz0 hz1 hz2 hz (by omega) v n xs hs (hown.alloc _) ⟨w.heap.size,0,none⟩ 1 1 [y] hx rfl
  (by simpa using World.news_of_block (cs:= #[y]) (t:=e) (fr:=(0,0)) (heap_alloc_new w (.cells #[y] e))) (by simpa using hy) (by simp only[maxLen]; omega) hbytes (Du _) ?_
 intro v' w' hown' hg _ hat
 refine h v' w' hown' (World.grownBy.trans (World.grownBy_alloc w _ _) hg) ?_
 rcases hat with hat | hat
 ·exact .inl hat
 ·exact .inr ⟨_,hat,by simp⟩
theorem mA (w:World) {src dst e:TypeId} {v:Value} {l:List UInt8} {n:Nat} (hs:P.underlying src=some (.slice e)) (he:P.underlying e=some (.int .u8)) (hd:P.underlying dst=some .string)
 (h:w.ownsRow 0 e 1 v n (aK l)):(convert src dst v).run P w= .ok (.string ⟨l.toArray⟩) w:=by
 have hl:l.length=n:=by have:=h.1; simp[aK] at this; exact this
 have hstr:strOfNums (l.map fun b=>(b.toNat:Int))=⟨l.toArray⟩:=by
  unfold strOfNums
  congr 1
  simp[List.map_map,Function.comp_def]
 rcases h.2 with⟨rfl,rfl⟩ | ⟨g,cap,cur,rfl,_⟩
 ·obtain rfl:l = []:=List.eq_nil_of_length_eq_zero hl
  exact run_convert_bytes_nil w src e hs he 0 0 dst hd
 ·rw[← hstr]
  refine run_convert_bytes_arg w src e hs he g 0 n cap _ (by simpa using hl) (fun i hi=> ?_) dst hd
  have hc:=h.cells (g:=g) rfl i (.int .u8 ((l.map fun b=>(b.toNat:Int)).getD i 0)) (by simp[aK,List.getElem?_eq_getElem (show i<l.length by omega),List.getD_eq_getElem?_getD])
  have ha:(⟨g,0,none⟩:Addr).add i=⟨g,0+i,none⟩:=by unfold Addr.add; split <;> simp_all
  rwa [ha] at hc
theorem ko {w:World} {e t:TypeId} {size n b:Nat} {v:Value} {xs:List Value} {cs:Array Value} (h:w.ownsRow 0 e size v n xs) (hg:w.heap[b]? = some (.cells cs t (0,0))) (hne:e≠t):some b≠v.ownBlock:=by
 rcases h.2 with⟨rfl,_⟩ | ⟨g',cap,cur,rfl,_,hh,_⟩
 ·simp[Value.ownBlock]
 ·intro he
  have:b=g':=by simpa [Value.ownBlock] using he
  subst this
  rw[hg] at hh
  injection hh with hh
  injection hh with _ ht
  exact hne ht.symm
theorem sk {w:World} {e:TypeId} {size n:Nat} {v:Value} {xs:List Value} (h:w.ownsRow 0 e size v n xs) {p:Addr} (hne:some p.block≠v.ownBlock) (u:Value):(w.setCell p u).ownsRow 0 e size v n xs:=by
 obtain⟨h1,h2⟩:=h
 refine⟨h1,?_⟩
 rcases h2 with h2 | ⟨g,cap,cur,rfl,hg,hh,r⟩
 ·exact .inl h2
 ·exact .inr ⟨g,cap,cur,rfl,hg,by rw[Below.heap_setCell _ _ _ _ (fun e=>hne (by rw[e]; rfl))]; exact hh,r⟩
theorem lf {w w':World} {e:TypeId} {size n:Nat} {v:Value} {xs:List Value} (h:w.ownsRow 0 e size v n xs) (hm: ∀ k,v.ownBlock=some k→w'.heap[k]? = w.heap[k]?):w'.ownsRow 0 e size v n xs:=by
 obtain⟨h1,h2⟩:=h
 refine⟨h1,?_⟩
 rcases h2 with h2 | ⟨g,cap,cur,rfl,hg,hh,r⟩
 ·exact .inl h2
 ·exact .inr ⟨g,cap,cur,rfl,hg,(hm g rfl).trans hh,r⟩
theorem jT {w:World} {e:TypeId} {size n:Nat} {v:Value} {xs:List Value} (h:w.ownsRow 0 e size v n xs): ∃ a c,v= .slice a n c:=by
 rcases h.2 with⟨rfl,rfl⟩ | ⟨g,cap,cur,rfl,_⟩
 ·exact⟨none,0,rfl⟩
 ·exact⟨_,cap,rfl⟩
theorem pO {w:World} {e:TypeId} {size n:Nat} {v:Value} {xs:List Value} (h:w.ownsRow 0 e size v n xs): ∀ k,v.ownBlock=some k→k<w.heap.size:=fun k hk=>(h.lt k hk).2
end
section
variable {P:Program}
end
def fP (T:TypeId) (size:Nat) (v:Value) (n:Nat) (xs:List Value):Res where
 P:=fun w G=>w.ownsRow 0 T size v n xs∧ ∀ k,G k↔v.ownBlock=some k
 lt:=by
  rintro w G ⟨h1,h2⟩ k hk
  exact pO h1 k ((h2 k).1 hk)
 move:=by
  rintro w w' G ⟨h1,h2⟩ hm
  exact⟨lf h1 (fun k hk=>hm k ((h2 k).2 hk)),h2⟩
section
variable {F0:Nat→Prop} {w0 w w1:World} {Rs:List Res} {T:TypeId} {size n:Nat} {v v1:Value} {xs ys:List Value}
theorem BV (i:Nat) (h:St F0 w0 Rs w) (hi:Rs[i]? = some (fP T size v n xs)):w.ownsRow 0 T size v n xs:=(h.get i hi).choose_spec.1.1
theorem fP.lit (h:St F0 w0 Rs w) (cs:Array Value) (n:Nat) (hm:n≤maxLen) (hs:cs.size=n*size) :
 St F0 w0 (fP T size (.slice (some ⟨w.heap.size,0,none⟩) n n) n cs.toList::Rs) (w.alloc (.cells cs T)) :=
 h.grow (Ns := [fP T size (.slice (some ⟨w.heap.size,0,none⟩) n n) n cs.toList]) (BJ ((Below.refl _ _).alloc (Dy _) _))
  ⟨fun k=>k=w.heap.size,⟨World.ownsRow_lit w cs n (Du _) hm hs,fun k=>by simp[Value.ownBlock,eq_comm]⟩,fun k hk=>by omega,trivial⟩
theorem fP.grown (i:Nat) (h:St F0 w0 Rs w) (hi:Rs[i]? = some (fP T size v n xs)) {m:Nat} (ho:w1.ownsRow 0 T size v1 m ys) (hg:w.grownBy w1 v.ownBlock)
 (hat:v1.ownBlock=v.ownBlock∨ ∃ k,v1.ownBlock=some k∧w.heap.size≤k):St F0 w0 (Rs.set i (fP T size v1 m ys)) w1:=by
 refine h.step i hi (Ns := []) (fun G hG=>⟨BK hg (fun k hk=>(hG.2 k).2 hk),fun k=>v1.ownBlock=some k,⟨ho,fun _=>Iff.rfl⟩,fun k hk=> ?_,trivial⟩)
 rcases hat with h1 | ⟨k',h1,h2⟩
 ·rw[h1] at hk
  exact .inl ((hG.2 k).2 hk)
 ·rw[h1] at hk
  injection hk with hk
  subst hk
  exact .inr h2
theorem fP.set {g c:Nat} (i:Nat) (h:St F0 w0 Rs w) (hi:Rs[i]? = some (fP T size (.slice (some ⟨g,0,none⟩) n c) n xs)) (j:Nat) (u:Value) :
 St F0 w0 (Rs.set i (fP T size (.slice (some ⟨g,0,none⟩) n c) n (xs.set j u))) (w.setCell ⟨g,j,none⟩ u):=by
 have hr:=BV i h hi
 obtain⟨h1,h2⟩:=hr.stored j u
 exact fP.grown i h hi h1 h2 (.inl rfl)
theorem fP.cell {g c:Nat} (i:Nat) (h:St F0 w0 Rs w) (hi:Rs[i]? = some (fP T size (.slice (some ⟨g,0,none⟩) n c) n xs)) (j:Nat) (hj:j<n*size):w.cell? ⟨g,j,none⟩=xs[j]? ∧ w.frozen? ⟨g,j,none⟩=false :=
 ⟨(BV i h hi).cellAt j hj,(BV i h hi).frozenAt j⟩
theorem fP.form (i:Nat) (h:St F0 w0 Rs w) (hi:Rs[i]? = some (fP T size v n xs)) (hn:0<n): ∃ g c,v= .slice (some ⟨g,0,none⟩) n c:=by
 rcases (BV i h hi).2 with⟨_,h2⟩ | ⟨g,cap,cur,rfl,_⟩
 ·omega
 ·exact⟨g,cap,rfl⟩
end
open Go.RowKit Go.Deep Go.ChangeShapes
structure Rd (α:Type) where
 P:World→(Nat→Prop)→List Value→α→Prop
 mono: ∀ {w:World} {S S':Nat→Prop} {cs:List Value} {a:α},P w S cs a→(∀ k,S k→S' k)→P w S' cs a
 move: ∀ {w w':World} {S:Nat→Prop} {cs:List Value} {a:α},P w S cs a→(∀ k,S k→w'.heap[k]? = w.heap[k]?)→P w' S cs a
def rowAt {α:Type} (size:Nat) (E:Rd α) (w:World) (S:Nat→Prop) (a:Addr) (l:List α):Prop :=
 ∀ i x,l[i]? = some x→ ∃ cs,cs.length=size∧(∀ j,j<size→w.cell? (a.add (i*size+j))=cs[j]?)∧E.P w S cs x
def av {α:Type} (size:Nat) (E:Rd α):Rd (List α) where
 P:=fun w S cs l=>(cs = [.slice none 0 0]∧l = [])∨ ∃ a cap,cs = [.slice (some a) l.length cap]∧l.length≤cap∧cap≤maxLen∧(0<l.length→S a.block)∧rowAt size E w S a l
 mono:=by
  rintro w S S' cs l (h | ⟨a,cap,h1,h2,h3,h4,h5⟩) hS
  ·exact .inl h
  ·refine .inr ⟨a,cap,h1,h2,h3,fun h=>hS _ (h4 h),fun i x hx=> ?_⟩
   obtain⟨cs,k1,k2,k3⟩:=h5 i x hx
   exact⟨cs,k1,k2,E.mono k3 hS⟩
 move:=by
  rintro w w' S cs l (h | ⟨a,cap,h1,h2,h3,h4,h5⟩) hS
  ·exact .inl h
  ·refine .inr ⟨a,cap,h1,h2,h3,h4,fun i x hx=> ?_⟩
   obtain⟨cs,k1,k2,k3⟩:=h5 i x hx
   refine⟨cs,k1,fun j hj=> ?_,E.move k3 hS⟩
   rw[← k2 j hj]
   have hb:(a.add (i*size+j)).block=a.block:=block_add _ _
   have hl:0<l.length:=by have:=(CU hx).1; omega
   simp only[World.cell?,hb,hS _ (h4 hl)]
theorem nE {w:World} {b:Addr} {v:Value} (h:w.cell? b=some v):b=⟨b.block,b.off,none⟩:=by
 obtain⟨g,o,s⟩:=b
 cases s with
 | none=>rfl
 | some s =>
  simp only[World.cell?] at h
  split at h <;> simp at h
section
variable {H:Type} (enc:TypeId×Value→H) (P:Program)
variable {enc P}
variable (enc P) in
end
structure RX where
 P:World→(Nat→Prop)→Prop
 mono: ∀ {w:World} {S S':Nat→Prop},P w S→(∀ k,S k→S' k)→P w S'
 move: ∀ {w w':World} {S:Nat→Prop},P w S→(∀ k,S k→w'.heap[k]? = w.heap[k]?)→P w' S
def RX.triv:RX:=⟨fun _ _=>True,fun _ _=>trivial,fun _ _=>trivial⟩
def RX.and (X Y:RX):RX:=⟨fun w S=>X.P w S∧Y.P w S,fun h k=>⟨X.mono h.1 k,Y.mono h.2 k⟩,fun h k=>⟨X.move h.1 k,Y.move h.2 k⟩⟩
def RX.of {α:Type} (E:Rd α) (cs:List Value) (a:α):RX:=⟨fun w S=>E.P w S cs a,fun h k=>E.mono h k,fun h k=>E.move h k⟩
def RX.reads (X:RX) (w:World) (F:Nat→Prop):Prop:= ∃ S,X.P w S∧ ∀ k,S k→ ¬ F k∧k<w.heap.size
theorem RX.reads_triv (w:World) (F:Nat→Prop):RX.triv.reads w F:=⟨fun _=>False,trivial,fun _ h=>h.elim⟩
theorem BB {X Y:RX} {w:World} {F:Nat→Prop} (h:X.reads w F) (k:Y.reads w F):(X.and Y).reads w F:=by
 obtain⟨S,h1,h2⟩:=h
 obtain⟨T,k1,k2⟩:=k
 exact⟨fun k=>S k∨T k,⟨X.mono h1 (fun _ h=> .inl h),Y.mono k1 (fun _ h=> .inr h)⟩,fun k hk=>hk.elim (h2 k) (k2 k)⟩
theorem BD {X Y:RX} {w:World} {F:Nat→Prop} (h:(X.and Y).reads w F):X.reads w F:=let ⟨S,h1,h2⟩:=h; ⟨S,h1.1,h2⟩
theorem Br {X Y:RX} {w:World} {F:Nat→Prop} (h:(X.and Y).reads w F):Y.reads w F:=let ⟨S,h1,h2⟩:=h; ⟨S,h1.2,h2⟩
theorem RX.reads_weaken {X:RX} {w:World} {F G:Nat→Prop} (h:X.reads w F) (hg: ∀ k,k<w.heap.size→G k→F k):X.reads w G:=let ⟨S,h1,h2⟩:=h; ⟨S,h1,fun k hk=>⟨fun g=>(h2 k hk).1 (hg k (h2 k hk).2 g),(h2 k hk).2⟩⟩
def aB:Res where
 P:=fun _ G=> ∀ k,¬ G k
 lt:=fun h k hk=>(h k hk).elim
 move:=fun h _=>h
def RdR {α:Type} (E:Rd α) (cs:List Value) (a:α):Res where
 P:=fun w G=>E.P w G cs a∧ ∀ k,G k→k<w.heap.size
 lt:=fun h k hk=>h.2 k hk
 move:=fun {w w'} {G} h hm=>⟨E.move h.1 hm,fun k hk=>by
  have h1:=h.2 k hk
  have h2:=hm k hk
  rw[Array.getElem?_eq_getElem h1] at h2
  exact (Array.getElem?_eq_some_iff.1 h2).1⟩
def ay (P:Program) (f:FuncId) (args:Array Value) (X:RX) (A:Res) (Q:Value→Res→List Res→Prop):Prop :=
 ∀ F w,A.P w F→X.reads w F→Calls P f args w (mV Q F w)
section
variable {P:Program} {f:FuncId} {args:Array Value} {F0:Nat→Prop} {w0 w:World} {Rs:List Res} {A B:Res} {X Y:RX}
theorem AJ {Q:Value→Res→List Res→Prop} (h:ez P f args A Q):ay P f args X A Q:=fun F w hA _=>h F w hA
theorem Cc {Q:Value→List Res→Prop} (h:e8 P f args Q):ay P f args X aB (fun v A' N=>A'=aB∧Q v N):=by
 intro F w hA _
 refine (h w).mono ?_
 rintro e w' ⟨v,Ns,rfl,hq,hst⟩
 refine⟨v,aB,Ns,rfl,⟨rfl,hq⟩,⟨hst.fr.mono (fun k h=>h.elim),fun _=>False,fun k h=>h,fun k h=>h.elim,hst.sep.mono (fun k hk=> ?_)⟩⟩
 exact⟨hk.elim (fun h=>h.elim) .inr,fun h=>h⟩
theorem Bc {v:Value} (h:e8 P f args (fun u N=>u=v∧N = [])):ay P f args X aB (fun u A' N=>u=v∧A'=aB∧N = []):=by
 intro F w hA hX
 refine ((Cc (X:=X) h) F w hA hX).mono ?_
 rintro e w' ⟨v,A',Ns,rfl,⟨rfl,rfl,rfl⟩,hst⟩
 exact⟨_,_,_,rfl,⟨rfl,rfl,rfl⟩,hst⟩
theorem AN {v:Value} (h: ∀ w,Calls P f args w fun e w'=>e= .returned v∧w=w'):ay P f args X aB (fun v' A' N=>v'=v∧A'=aB∧N = []):=by
 intro F w hA _
 refine (h w).mono ?_
 rintro e w' ⟨rfl,rfl⟩
 exact⟨v,aB,[],rfl,⟨rfl,rfl,rfl⟩,Fr.refl _ _,fun _=>False,fun k h=>h,fun k h=>h.elim,trivial⟩
def Src (F0:Nat→Prop) (w0:World) (Rs:List Res) (w:World) (i:Nat) (X:RX):Prop :=
 ∀ A G,Rs[i]? = some A→A.P w G→(∀ k,G k→F0 k∨w0.heap.size≤k)→Sep (Rs.eraseIdx i) w (fun k=>(F0 k∨w0.heap.size≤k)∧ ¬ G k)→X.reads w G
theorem Src.triv (i:Nat):Src F0 w0 Rs w i .triv:=fun _ _ _ _ _ _=>RX.reads_triv _ _
theorem Cd (h:St F0 w0 Rs w) (hX:X.reads w0 F0): ∃ S,X.P w S∧ ∀ k,S k→ ¬ F0 k∧k<w0.heap.size:=by
 obtain⟨S,h1,h2⟩:=hX
 exact⟨S,X.move h1 (fun k hk=>h.fr.block k (h2 k hk).2 (h2 k hk).1),h2⟩
theorem Src.old {i:Nat} (h:St F0 w0 Rs w) (hX:X.reads w0 F0):Src F0 w0 Rs w i X:=by
 intro A G _ _ h3 _
 obtain⟨S,h1,h2⟩:=Cd h hX
 refine⟨S,h1,fun k hk=>⟨fun hg=> ?_,Nat.lt_of_lt_of_le (h2 k hk).2 h.fr.size⟩⟩
 rcases h3 k hg with h4 | h4
 ·exact (h2 k hk).1 h4
 ·have:=(h2 k hk).2; omega
theorem Src.res {i:Nat} (j:Nat) (hj:(Rs.eraseIdx i)[j]? = some B) (hB: ∀ w G,B.P w G→X.P w G):Src F0 w0 Rs w i X:=by
 intro A G _ _ _ h4
 obtain⟨G2,k1,k2,_⟩:=Sep.pick j hj h4
 exact⟨G2,hB w G2 k1,fun k hk=>⟨(k2 k hk).2,B.lt k1 k hk⟩⟩
theorem AE (h:St F0 w0 Rs w) (hX:X.reads w0 F0):X.reads w (fun _=>False):=by
 obtain⟨S,h1,h2⟩:=Cd h hX
 exact⟨S,h1,fun k hk=>⟨fun h=>h,Nat.lt_of_lt_of_le (h2 k hk).2 h.fr.size⟩⟩
theorem SrcE.res (j:Nat) (h:St F0 w0 Rs w) (hj:Rs[j]? = some B) (hB: ∀ w G,B.P w G→X.P w G):X.reads w (fun _=>False):=by
 obtain⟨G,h1,_⟩:=h.get j hj
 exact⟨G,hB w G h1,fun k hk=>⟨fun h=>h,B.lt h1 k hk⟩⟩
theorem St.callX {Q:Value→Res→List Res→Prop} (i:Nat) (h:St F0 w0 Rs w) (hi:Rs[i]? = some A) (hs:ay P f args X A Q) (hr:Src F0 w0 Rs w i X) :
 Calls P f args w fun e w'=> ∃ v A' Ns,e= .returned v∧Q v A' Ns∧St F0 w0 (Ns++Rs.set i A') w':=by
 obtain⟨G,h1,h2,h3⟩:=Sep.pick i hi h.sep
 refine (hs G w h1 (hr A G hi h1 h2 h3)).mono ?_
 rintro e w' ⟨v,A',Ns,rfl,hq,hst⟩
 refine⟨v,A',Ns,rfl,hq,?_⟩
 obtain⟨f2,G2,k1,k2,k3⟩:=hst
 have f:=h.fr
 refine⟨f.trans f2 h2,?_⟩
 have hle:=f.size
 have hR:Sep (Rs.eraseIdx i) w' (fun k=>((F0 k∨w0.heap.size≤k)∧ ¬ G k)∧k<w.heap.size):=h3.inside.move (fun k hk _=>f2.block k hk.2 hk.1.2)
 refine Sep.append k3 (F:=fun k=>F0 k∨w0.heap.size≤k) (Sep.back i hi k1 (fun k hk=>⟨?_,fun hn=>hn.2 hk⟩) (hR.mono (fun k hk=>⟨⟨hk.1.1,?_⟩,?_⟩))) ?_
 ·rcases k2 k hk with h4 | h4
  ·exact h2 k h4
  ·exact .inr (by omega)
 ·rintro⟨h4 | h4,_⟩
  ·exact hk.1.2 h4
  ·have:=hk.2; omega
 ·intro h4
  rcases k2 k h4 with h5 | h5
  ·exact hk.1.2 h5
  ·have:=hk.2; omega
 ·rintro k ⟨h4 | h4,_⟩
  ·exact h2 k h4
  ·exact .inr (by omega)
theorem St.emp (h:St F0 w0 Rs w):St F0 w0 (aB::Rs) w:=h.grow (Ns := [aB]) (Fr.refl _ _) ⟨fun _=>False,fun _ h=>h,fun _ h=>h.elim,trivial⟩
theorem St.callE {Q:Value→Res→List Res→Prop} (h:St F0 w0 Rs w) (hs:ay P f args X aB Q) (hr:X.reads w (fun _=>False)) :
 Calls P f args w fun e w'=> ∃ v A' Ns,e= .returned v∧Q v A' Ns∧St F0 w0 (Ns++Rs) w':=by
 have h':St F0 w0 (aB::Rs) w:=h.emp
 refine (h'.callX 0 rfl hs ?_).mono ?_
 ·intro A G hA hG _ _
  have e:aB=A:=by simpa using hA
  subst e
  exact RX.reads_weaken hr (fun k _ hk=>(hG k hk).elim)
 ·rintro e w' ⟨v,A',Ns,rfl,hq,hst⟩
  refine⟨v,A',Ns,rfl,hq,?_⟩
  have:=hst.del Ns.length (A:=A') (by simp)
  rwa [List.eraseIdx_append_of_length_le (Dy _),Nat.sub_self] at this
theorem ak {α:Type} {c:Prop} [Decidable c] {T:Option α} {r:α} (h:(if c then T else none)=some r):c∧T=some r:=by
 by_cases hc:c
 ·rw[if_pos hc] at h; exact⟨hc,h⟩
 ·rw[if_neg hc] at h; cases h
theorem ay.start (h:A.P w F0):St F0 w [A] w:=AU F0 w (Sep.one h)
end
def resv (tmps:Array Value):ResultVar→Sem Value
 | .tmp t=>pure (tmps.getD t undef)
 | .cell a t=>do loadVar t (← asAddr (tmps.getD a undef))
section
variable {P:Program} {fn:Func} {tmps:Array Value} {w:World} {r1 r2 r3:ResultVar} {v1 v2 v3:Value}
theorem kp (fn:Func) (tmps:Array Value):results fn tmps=(do let vs ← fn.results.mapM (resv tmps); pure (if h:vs.size=1 then vs[0] else .tuple vs)):=by
 unfold results
 rfl
end
inductive Lp (R S:Type) where
 | ret (r:R)
 | go (s:S)
section
variable {α:Type}
def fE (size:Nat) (E:Rd α) (w:World) (S:Nat→Prop):List Value→List α→Prop
 | cs,[]=>cs = []
 | cs,x::xs=>(cs.take size).length=size∧E.P w S (cs.take size) x∧fE size E w S (cs.drop size) xs
variable {size:Nat} {E:Rd α} {w w':World} {S S':Nat→Prop}
theorem pP: ∀ {xs:List α} {cs:List Value},fE size E w S cs xs→(∀ k,S k→S' k)→fE size E w S' cs xs
 | [],_,h,_=>h
 | _ :: _,_,⟨h0,h1,h2⟩,k=>⟨h0,E.mono h1 k,pP h2 k⟩
theorem iL: ∀ {xs:List α} {cs:List Value},fE size E w S cs xs→(∀ k,S k→w'.heap[k]? = w.heap[k]?)→fE size E w' S cs xs
 | [],_,h,_=>h
 | _ :: _,_,⟨h0,h1,h2⟩,k=>⟨h0,E.move h1 k,iL h2 k⟩
theorem gc: ∀ {xs:List α} {cs:List Value},fE size E w S cs xs→cs.length=xs.length*size
 | [],cs,h=>by simp[show cs = [] from h]
 | x::xs,cs,⟨h0,_,h2⟩=>by
  have h3:=gc h2
  rw[Dt] at h0
  rw[C0] at h3
  rw[C5,Nat.add_mul,Nat.one_mul]
  omega
theorem mB: ∀ {xs:List α} {cs news:List Value} {x:α},fE size E w S cs xs→news.length=size→E.P w S news x→fE size E w S (cs++news) (xs ++ [x])
 | [],cs,news,x,h,hl,hx=>by
  obtain rfl:cs = []:=h
  exact⟨by simp[hl],by rw[Db,List.take_of_length_le (by omega)]; exact hx,by rw[Db,List.drop_of_length_le (by omega)]; exact rfl⟩
 | y::ys,cs,news,x,⟨h0,h1,h2⟩,hl,hx=>by
  have hle:size≤cs.length:=by rw[Dt] at h0; omega
  refine⟨?_,?_,?_⟩
  ·rw[List.take_append_of_le_length hle]; exact h0
  ·rw[List.take_append_of_le_length hle]; exact h1
  ·rw[List.drop_append_of_le_length hle]; exact mB h2 hl hx
theorem lX: ∀ {xs:List α} {cs:List Value} {i:Nat} {x:α},fE size E w S cs xs→xs[i]? = some x→((cs.drop (i*size)).take size).length=size∧E.P w S ((cs.drop (i*size)).take size) x
 | [],_,i,_,_,hi=>by simp at hi
 | y::ys,cs,0,x,⟨h0,h1,_⟩,hi=>by
  obtain rfl:y=x:=by simpa using hi
  rw[Nat.zero_mul,List.drop_zero]
  exact⟨h0,h1⟩
 | y::ys,cs,i+1,x,⟨_,_,h2⟩,hi=>by
  have h3:=lX (i:=i) h2 (by simpa using hi)
  rw[Dq] at h3
  rwa [show size+i*size=(i+1)*size by rw[Nat.add_mul]; omega] at h3
def aZ (T:TypeId) (size:Nat) (E:Rd α) (v:Value) (xs:List α):Res where
 P:=fun w G=> ∃ cells S,w.ownsRow 0 T size v xs.length cells∧fE size E w S cells xs∧(∀ k,S k→k<w.heap.size)∧(∀ k,v.ownBlock=some k→ ¬ S k)∧ ∀ k,G k↔v.ownBlock=some k∨S k
 lt:=by
  rintro w G ⟨cells,S,h1,h2,h3,h4,h5⟩ k hk
  rcases (h5 k).1 hk with h | h
  ·exact pO h1 k h
  ·exact h3 k h
 move:=by
  rintro w w' G ⟨cells,S,h1,h2,h3,h4,h5⟩ hm
  refine⟨cells,S,lf h1 (fun k hk=>hm k ((h5 k).2 (.inl hk))),iL h2 (fun k hk=>hm k ((h5 k).2 (.inr hk))),fun k hk=> ?_,h4,h5⟩
  have h6:=h3 k hk
  have h7:=hm k ((h5 k).2 (.inr hk))
  rw[Array.getElem?_eq_getElem h6] at h7
  exact (Array.getElem?_eq_some_iff.1 h7).1
theorem aP {T:TypeId} {v:Value} {xs:List α} (hp:0<size): ∀ w G,(aZ T size E v xs).P w G→(RX.of (av size E) [v] xs).P w G:=by
 rintro w G ⟨cells,S,h1,h2,h3,h4,h5⟩
 have hb:=h1
 rcases h1.2 with⟨rfl,hn⟩ | ⟨g,cap,cur,rfl,hbg,hg,hnc,hcm,hcs,htake⟩
 ·exact .inl ⟨rfl,List.eq_nil_of_length_eq_zero hn⟩
 ·refine .inr ⟨⟨g,0,none⟩,cap,rfl,hnc,hcm,fun _=>(h5 g).2 (.inl rfl),fun i x hx=> ?_⟩
  obtain⟨k1,k2⟩:=lX h2 hx
  have hi:i<xs.length:=(CU hx).1
  refine⟨_,k1,fun j hj=> ?_,E.mono k2 (fun k hk=>(h5 k).2 (.inr hk))⟩
  have hadd:(⟨g,0,none⟩:Addr).add (i*size+j)=⟨g,i*size+j,none⟩:=by unfold Addr.add; split <;> simp_all
  have hlt:i*size+j<xs.length*size:=by
   have:(i+1)*size≤xs.length*size:=Nat.mul_le_mul_right _ (by omega)
   rw[Nat.add_mul] at this
   omega
  rw[hadd,hb.cellAt _ hlt,List.getElem?_take,if_pos hj,List.getElem?_drop]
theorem dL {cs:List Value} {a:α}: ∀ w G,(RdR E cs a).P w G→(RX.of E cs a).P w G:=fun _ _ h=>h.1
theorem AK {F:Nat→Prop} {A:Option Addr} {n c i:Nat} {l:List α} {x:α} (hp:0<size) (h:(RX.of (av size E) [.slice A n c] l).reads w F) (hx:l[i]? = some x) :
 ∃ g o:Nat,A=some ⟨g,o,none⟩∧ ∃ cs,cs.length=size∧(∀ j,j<size→w.cell? ⟨g,o+i*size+j,none⟩=cs[j]?)∧(¬ F g∧g<w.heap.size)∧(RX.of E cs x).reads w F:=by
 obtain⟨S,h,hS⟩:=h
 rcases h with⟨h,rfl⟩ | ⟨a,cap,h,_,_,hb,h2⟩
 ·simp at hx
 ·injection h with h
  injection h with h3 h4 h5
  subst h3
  have hl:0<l.length:=by have:=(CU hx).1; omega
  obtain⟨cs0,k1,k2,_⟩:=h2 0 l[0] (List.getElem?_eq_getElem hl)
  have k3:=k2 0 hp
  rw[List.getElem?_eq_getElem (by omega)] at k3
  have k4:a.add (0*size+0)=a:=by simp[Addr.add]
  rw[k4] at k3
  have k5:=nE k3
  obtain⟨cs,k6,k7,k8⟩:=h2 i x hx
  refine⟨a.block,a.off,by rw[← k5],cs,k6,fun j hj=> ?_,hS _ (hb hl),S,k8,hS⟩
  rw[← k7 j hj,k5,WideShapes.add_plain,Nat.add_assoc]
theorem BN {F:Nat→Prop} {g o n c i:Nat} {l:List α} {x:α} (hp:0<size) (h:(RX.of (av size E) [.slice (some ⟨g,o,none⟩) n c] l).reads w F) (hx:l[i]? = some x) :
 ∃ cs,cs.length=size∧(∀ j,j<size→w.cell? ⟨g,o+i*size+j,none⟩=cs[j]?)∧(¬ F g∧g<w.heap.size)∧(RX.of E cs x).reads w F:=by
 obtain⟨g',o',h1,cs,h2⟩:=AK hp h hx
 injection h1 with h1
 injection h1 with h3 h4
 subst h3 h4
 exact⟨cs,h2⟩
theorem Bf {F:Nat→Prop} {A:Option Addr} {n c:Nat} {l:List α} (h:(RX.of (av size E) [.slice A n c] l).reads w F):l.length≤9223372036854775807:=by
 obtain⟨S,h,hS⟩:=h
 rcases h with⟨h,rfl⟩ | ⟨a,cap,h,h1,h2,_⟩
 ·simp
 ·have:maxLen=9223372036854775807:=rfl
  omega
theorem St.old2 {F0:Nat→Prop} {w wr:World} {Rs:List Res} {v:Option Value} {g o:Nat} (h:St F0 w Rs wr) (hb: ¬ F0 g∧g<w.heap.size) (hc:w.cell? ⟨g,o,none⟩=v):wr.cell? ⟨g,o,none⟩=v:=by
 rw[← hc]
 have e:=h.fr.block g hb.2 hb.1
 simp only[World.cell?,e]
theorem bU {l:List α} {k:Nat} {x:α} (h:l[k]? = some x):l.drop k=x::l.drop (k+1):=by
 obtain⟨hk,rfl⟩:=CU h
 exact List.drop_eq_getElem_cons hk
theorem RdR.nil {F0:Nat→Prop} {w0:World} {Rs:List Res} (size:Nat) (E:Rd α) (h:St F0 w0 Rs w):St F0 w0 (RdR (av size E) [.slice none 0 0] []::Rs) w :=
 h.grow (Ns := [RdR (av size E) [.slice none 0 0] []]) (Fr.refl _ _) ⟨fun _=>False,⟨.inl ⟨rfl,rfl⟩,fun _ h=>h.elim⟩,fun _ h=>h.elim,trivial⟩
theorem aZ.shut {F0:Nat→Prop} {w0:World} {Rs:List Res} {T:TypeId} {v:Value} {xs:List α} (hp:0<size) (i:Nat) (h:St F0 w0 Rs w) (hi:Rs[i]? = some (aZ T size E v xs)):St F0 w0 (Rs.set i (RdR (av size E) [v] xs)) w :=
 h.weaken i hi (fun G hG=>⟨aP hp _ _ hG,fun k hk=>(aZ T size E v xs).lt hG k hk⟩)
section
variable {F0:Nat→Prop} {w0 w1:World} {Rs:List Res} {T:TypeId} {v v1:Value} {xs:List α} {B:Res}
theorem aZ.nil (T:TypeId) (size:Nat) (E:Rd α) (h:St F0 w0 Rs w):St F0 w0 (aZ T size E (.slice none 0 0) []::Rs) w :=
 h.grow (Ns := [aZ T size E (.slice none 0 0) []]) (Fr.refl _ _) ⟨fun _=>False,⟨[],fun _=>False,World.ownsRow_nil _ _ _ _,rfl,fun _ h=>h.elim,fun _ _ h=>h,fun k=>by simp[Value.ownBlock]⟩,fun _ h=>h.elim,trivial⟩
theorem aZ.lit (E:Rd α) (h:St F0 w0 Rs w) (cs:Array Value) (xs:List α) (hm:xs.length≤maxLen) (he:fE size E (w.alloc (.cells cs T)) (fun _=>False) cs.toList xs) :
 St F0 w0 (aZ T size E (.slice (some ⟨w.heap.size,0,none⟩) xs.length xs.length) xs::Rs) (w.alloc (.cells cs T)) :=
 h.grow (Ns := [aZ T size E (.slice (some ⟨w.heap.size,0,none⟩) xs.length xs.length) xs]) (BJ ((Below.refl _ _).alloc (Dy _) _))
  ⟨fun k=>k=w.heap.size,⟨cs.toList,fun _=>False,World.ownsRow_lit w cs xs.length (Du _) hm (by have:=gc he; simpa using this),he,fun _ h=>h.elim,fun _ _ h=>h,fun k=>by simp[Value.ownBlock,eq_comm]⟩,fun k hk=>by omega,trivial⟩
theorem aZ.open_ (i:Nat) (h:St F0 w0 Rs w) (hi:Rs[i]? = some (aZ T size E v xs)) :
 ∃ cells,w.ownsRow 0 T size v xs.length cells∧ ∀ v1 w1 news x,w1.ownsRow 0 T size v1 (xs.length+1) (cells++news)→w.grownBy w1 v.ownBlock→(v1.ownBlock=v.ownBlock∨ ∃ k,v1.ownBlock=some k∧w.heap.size≤k)→news.length=size →
  (∀ w S,E.P w S news x)→St F0 w0 (Rs.set i (aZ T size E v1 (xs ++ [x]))) w1:=by
 obtain⟨f,hs⟩:=h
 obtain⟨G,⟨cells,S,h1,h2,h3,h4,h5⟩,hG,hr⟩:=Sep.pick i hi hs
 refine⟨cells,h1,fun v1 w1 news x ho hg hat hl hx=> ?_⟩
 have hst:St F0 w0 Rs w:=⟨f,hs⟩
 have hne: ∀ k,S k→k<w.heap.size∧some k≠v.ownBlock:=fun k hk=>⟨h3 k hk,fun e=>h4 k e.symm hk⟩
 have hS1:fE size E w1 S cells xs:=iL h2 (fun k hk=>hg.block k (hne k hk).1 (hne k hk).2)
 have hle:=hg.size
 have f2:Fr G w w1:=BK hg (fun k hk=>(h5 k).2 (.inl hk))
 refine⟨f.trans f2 hG,?_⟩
 have hfs:=f.size
 have hR:Sep (Rs.eraseIdx i) w1 (fun k=>((F0 k∨w0.heap.size≤k)∧ ¬ G k)∧k<w.heap.size):=hr.inside.move (fun k hk _=>f2.block k hk.2 hk.1.2)
 refine Sep.back (G:=fun k=>v1.ownBlock=some k∨S k) i hi ⟨cells++news,S,?_,mB hS1 hl (hx _ _),fun k hk=>Nat.lt_of_lt_of_le (h3 k hk) hle,?_,fun _=>Iff.rfl⟩ ?_ (hR.mono (fun k hk=>⟨hk.1.1,?_⟩))
 ·rw[CW]; exact ho
 ·intro k hk
  rcases hat with e | ⟨k',e,hk'⟩
  ·rw[e] at hk; exact h4 k hk
  ·rw[e] at hk
   injection hk with hk
   subst hk
   intro hs'
   have:=h3 _ hs'
   omega
 ·rintro k (hk | hk)
  ·rcases hat with e | ⟨k',e,hk'⟩
   ·rw[e] at hk; exact hG k ((h5 k).2 (.inl hk))
   ·rw[e] at hk
    injection hk with hk
    subst hk
    exact .inr (by omega)
  ·exact hG k ((h5 k).2 (.inr hk))
 ·rintro (h6 | h6)
  ·rcases hat with e | ⟨k',e,hk'⟩
   ·rw[e] at h6; exact hk.1.2 ((h5 k).2 (.inl h6))
   ·rw[e] at h6
    injection h6 with h6
    subst h6
    have:=hk.2
    omega
  ·exact hk.1.2 ((h5 k).2 (.inr h6))
theorem aZ.open2 (i j:Nat) (h:St F0 w0 Rs w) (hi:Rs[i]? = some (aZ T size E v xs)) (hj:(Rs.eraseIdx i)[j]? = some B) :
 ∃ cells,w.ownsRow 0 T size v xs.length cells∧ ∀ v1 w1 news x,w1.ownsRow 0 T size v1 (xs.length+1) (cells++news)→w.grownBy w1 v.ownBlock→(v1.ownBlock=v.ownBlock∨ ∃ k,v1.ownBlock=some k∧w.heap.size≤k)→news.length=size →
  (∀ w G,B.P w G→E.P w G news x)→St F0 w0 (aZ T size E v1 (xs ++ [x])::(Rs.eraseIdx i).eraseIdx j) w1:=by
 obtain⟨f,hs⟩:=h
 obtain⟨G,⟨cells,S,h1,h2,h3,h4,h5⟩,hG,hr⟩:=Sep.pick i hi hs
 obtain⟨H,hB,hH,hr2⟩:=Sep.pick j hj hr
 refine⟨cells,h1,fun v1 w1 news x ho hg hat hl hx=> ?_⟩
 have hne: ∀ k,S k→k<w.heap.size∧some k≠v.ownBlock:=fun k hk=>⟨h3 k hk,fun e=>h4 k e.symm hk⟩
 have hS1:fE size E w1 S cells xs:=iL h2 (fun k hk=>hg.block k (hne k hk).1 (hne k hk).2)
 have hle:=hg.size
 have f2:Fr G w w1:=BK hg (fun k hk=>(h5 k).2 (.inl hk))
 have hfs:=f.size
 have hB1:B.P w1 H:=B.move hB (fun k hk=>f2.block k (B.lt hB k hk) (hH k hk).2)
 refine⟨f.trans f2 hG,?_⟩
 have hR:Sep ((Rs.eraseIdx i).eraseIdx j) w1 (fun k=>(((F0 k∨w0.heap.size≤k)∧ ¬ G k)∧ ¬ H k)∧k<w.heap.size):=hr2.inside.move (fun k hk _=>f2.block k hk.2 hk.1.1.2)
 have hlt1:=B.lt hB
 refine⟨fun k=>v1.ownBlock=some k∨(S k∨H k),⟨cells++news,fun k=>S k∨H k,?_,mB (pP hS1 (fun _ h=> .inl h)) hl (E.mono (hx _ _ hB1) (fun _ h=> .inr h)),?_,?_,fun _=>Iff.rfl⟩,?_,hR.mono (fun k hk=>⟨hk.1.1.1,?_⟩)⟩
 ·rw[CW]; exact ho
 ·rintro k (hk | hk)
  ·exact Nat.lt_of_lt_of_le (h3 k hk) hle
  ·exact Nat.lt_of_lt_of_le (hlt1 k hk) hle
 ·intro k hk
  rcases hat with e | ⟨k',e,hk'⟩
  ·rw[e] at hk
   rintro (h6 | h6)
   ·exact h4 k hk h6
   ·exact (hH k h6).2 ((h5 k).2 (.inl hk))
  ·rw[e] at hk
   injection hk with hk
   subst hk
   rintro (h6 | h6)
   ·have:=h3 _ h6; omega
   ·have:=hlt1 _ h6; omega
 ·rintro k (hk | hk | hk)
  ·rcases hat with e | ⟨k',e,hk'⟩
   ·rw[e] at hk; exact hG k ((h5 k).2 (.inl hk))
   ·rw[e] at hk
    injection hk with hk
    subst hk
    exact .inr (by omega)
  ·exact hG k ((h5 k).2 (.inr hk))
  ·exact (hH k hk).1
 ·rintro (h6 | h6 | h6)
  ·rcases hat with e | ⟨k',e,hk'⟩
   ·rw[e] at h6; exact hk.1.1.2 ((h5 k).2 (.inl h6))
   ·rw[e] at h6
    injection h6 with h6
    subst h6
    have:=hk.2
    omega
  ·exact hk.1.1.2 ((h5 k).2 (.inr h6))
  ·exact hk.1.2 h6
end
end
section
variable {P:Program} (w:World)
end
set_option linter.unusedSimpArgs false
def aW (b:Nat) (st:List UInt8×Int):Res where
 P:=fun w G=> ∃ v,w.heap[b]? = some (.cells #[v,.int .i64 st.2] 66 (0,0))∧w.ownsRow 0 5 1 v st.1.length (aK st.1)∧ ∀ k,G k↔k=b∨v.ownBlock=some k
 lt:=by
  rintro w G ⟨v,h1,h2,h3⟩ k hk
  rcases (h3 k).1 hk with rfl | h
  ·exact gU h1
  ·exact pO h2 k h
 move:=by
  rintro w w' G ⟨v,h1,h2,h3⟩ hm
  exact⟨v,(hm _ ((h3 _).2 (.inl rfl))).trans h1,lf h2 (fun k hk=>hm k ((h3 k).2 (.inr hk))),h3⟩
theorem lg:(Tryz.prog.info? 5).map (fun i=>(i.zero,i.size,i.bytes))=some (some (.int .u8 0),1,1):=by kernel_rfl
theorem aW.stored {b:Nat} {l m:List UInt8} {w w1:World} {v v1:Value} {F:Nat→Prop} (hb:w.heap[b]? = some (.cells #[v,.int .i64 0] 66 (0,0))) (ho:w.ownsRow 0 5 1 v l.length (aK l)) (hF: ∀ k,F k↔k=b∨v.ownBlock=some k)
 {n:Nat} (ho1:w1.ownsRow 0 5 1 v1 n (aK m)) (hg:w.grownBy w1 v.ownBlock) (hat:v1.ownBlock=v.ownBlock∨ ∃ k,v1.ownBlock=some k∧w.heap.size≤k) :
 St F w [aW b (m,0)] (w1.setCell ⟨b,0,none⟩ v1):=by
 have hn:n=m.length:=by have:=ho1.1; simpa [aK] using this.symm
 subst hn
 have hne:=ko ho hb (by decide)
 have hb1:w1.heap[b]? = some (.cells #[v,.int .i64 0] 66 (0,0)):=(hg.block b (gU hb) hne).trans hb
 have hne1:=ko ho1 hb1 (by decide)
 refine⟨((Fr.refl F w).trans (BK (F:=F) hg (fun k hk=>(hF k).2 (.inr hk))) (fun k hk=> .inl hk)).set (p:=⟨b,0,none⟩) (.inl ((hF b).2 (.inl rfl))) v1,?_⟩
 refine⟨fun k=>k=b∨v1.ownBlock=some k,⟨v1,by simpa using jO hb1 0 v1,sk ho1 hne1 v1,fun _=>Iff.rfl⟩,?_,trivial⟩
 rintro k (rfl | hk)
 ·exact .inl ((hF k).2 (.inl rfl))
 ·rcases hat with h | ⟨k',h,h'⟩
  ·rw[h] at hk
   exact .inl ((hF k).2 (.inr hk))
  ·rw[h] at hk
   injection hk with hk
   subst hk
   exact .inr h'
theorem B4 {b:Nat} {st:List UInt8×Int} {w w':World} {F:Nat→Prop} (h:(aW b st).P w F) (n:Nat) (hw:w'=w.drewN n):St F w [aW b st] w':=by
 subst hw
 exact (AU F w (Sep.one h)).drewN n
def fF (st:List UInt8×Int) (l:List UInt8):List UInt8×Int:=if st.2=0 then (st.1++l,0) else st
def iM (st:List UInt8×Int) (e:Int):List UInt8×Int:=if st.2=0 then (st.1,e) else st
theorem lY (b:Nat) (st:List UInt8×Int) (e:Int):ez Tryz.prog 69 #[.pointer (some ⟨b,0,none⟩),.int .i64 e] (aW b st) (fun v A' N=>v= .tuple #[]∧A'=aW b (iM st e)∧N = []):=by
 rintro F w ⟨v,hb,ho,hF⟩
 obtain⟨l,er⟩:=st
 have c1:w.cell? ⟨b,1,none⟩=some (.int .i64 er):=(aI hb 1).trans rfl
 have f1:w.frozen? ⟨b,1,none⟩=false:=bd hb 1
 by_cases h0:er=0
 ·subst h0
  have HB:=Lib.hid hb
  have HO:=Lib.hid ho
  clear hb ho
  go_enter Tryz.func69,Tryz.ntmps69
  go_wp2
  go_end0
  refine⟨_,_,_,rfl,⟨rfl,rfl,rfl⟩,(Fr.refl F w).set (.inl ((hF b).2 (.inl rfl))) _,F,?_,fun k hk=> .inl hk,trivial⟩
  have hne:=ko HO.out HB.out (by decide)
  exact⟨v,by simpa [iM] using jO HB.out 1 (.int .i64 e),sk HO.out hne _,hF⟩
 ·have HB:=Lib.hid hb
  have HO:=Lib.hid ho
  have H0:(er == 0)=false:=beq_eq_false_iff_ne.2 h0
  clear hb ho
  go_enter Tryz.func69,Tryz.ntmps69
  go_wp2
  go_end0
  exact⟨_,_,_,rfl,⟨rfl,rfl,rfl⟩,B4 ⟨v,by simpa [iM,h0] using HB.out,by simpa [iM,h0] using HO.out,hF⟩ 0 rfl⟩
theorem tc (b:Nat) (st:List UInt8×Int) (s:ByteArray) (hl:st.1.length+s.size≤140737488355328) :
 ez Tryz.prog 101 #[.pointer (some ⟨b,0,none⟩),.string s] (aW b st) (fun v A' N=>v= .tuple #[]∧A'=aW b (fF st s.data.toList)∧N = []):=by
 rintro F w ⟨v,hb,ho,hF⟩
 obtain⟨l,er⟩:=st
 have c0:w.cell? ⟨b,0,none⟩=some v:=(aI hb 0).trans rfl
 have c1:w.cell? ⟨b,1,none⟩=some (.int .i64 er):=(aI hb 1).trans rfl
 by_cases h0:er=0
 ·subst h0
  have HB:=Lib.hid hb
  have HO:=Lib.hid ho
  clear hb ho
  go_enter Tryz.func101,Tryz.ntmps101
  go_wp2_with (at_builtin; refine jQ w rfl _ _ _ _ rfl 5 Tryz.underlying64 Tryz.underlying9 lg v l.length (aK l) rfl HO.out s rfl hl ?_; intro v1 w1 ho1 hg hat; obtain⟨a1,k1,rfl⟩:=jT ho1; have HO1:=Lib.hid ho1; clear ho1; have HN:=Lib.hid (ko HO.out HB.out (by decide)); have HB1:=Lib.hid (show w1.heap[b]? = _ from (hg.block b (gU HB.out) HN.out).trans HB.out); have d0:w1.cell? ⟨b,0,none⟩=some v:=(aI HB1.out 0).trans rfl; have e0:w1.frozen? ⟨b,0,none⟩=false:=bd HB1.out 0; have HG:=Lib.hid hg; have HAT:=Lib.hid hat; clear hg hat)
  go_end0
  have ho1:=HO1.out
  rw[mr,← gH] at ho1
  refine⟨_,_,_,rfl,⟨rfl,rfl,rfl⟩,?_⟩
  have:=aW.stored HB.out HO.out hF ho1 HG.out (by rcases HAT.out with h | h; exact .inl h; exact .inr ⟨_,h,Dy _⟩)
  simpa [fF] using this
 ·have HB:=Lib.hid hb
  have HO:=Lib.hid ho
  have H0:(er == 0)=false:=beq_eq_false_iff_ne.2 h0
  clear hb ho
  go_enter Tryz.func101,Tryz.ntmps101
  go_wp2_with fail
  go_end0
  exact⟨_,_,_,rfl,⟨rfl,rfl,rfl⟩,B4 ⟨v,by simpa [fF,h0] using HB.out,by simpa [fF,h0] using HO.out,hF⟩ 0 rfl⟩
theorem wK (b:Nat) (st:List UInt8×Int) (c:UInt8) (hl:st.1.length+1≤140737488355328) :
 ez Tryz.prog 126 #[.pointer (some ⟨b,0,none⟩),.int .u8 c.toNat] (aW b st) (fun v A' N=>v= .tuple #[]∧A'=aW b (fF st [c])∧N = []):=by
 rintro F w ⟨v,hb,ho,hF⟩
 obtain⟨l,er⟩:=st
 have c0:w.cell? ⟨b,0,none⟩=some v:=(aI hb 0).trans rfl
 have c1:w.cell? ⟨b,1,none⟩=some (.int .i64 er):=(aI hb 1).trans rfl
 by_cases h0:er=0
 ·subst h0
  have HB:=Lib.hid hb
  have HO:=Lib.hid ho
  clear hb ho
  go_enter Tryz.func126,Tryz.ntmps126
  go_wp2_with (at_builtin; refine jR w rfl _ _ _ rfl 5 (.int .u8 0) 1 Tryz.underlying64 lg rfl v l.length (aK l) rfl HO.out (.int .u8 c.toNat) rfl rfl (by simpa using hl) hl ?_; intro v1 w1 ho1 hg hat; obtain⟨a1,k1,rfl⟩:=jT ho1; have HO1:=Lib.hid ho1; clear ho1; have HN:=Lib.hid (ko HO.out HB.out (by decide)); have HB1:=Lib.hid (show w1.heap[b]? = _ from (hg.block b (gU HB.out) HN.out).trans HB.out); have d0:w1.cell? ⟨b,0,none⟩=some v:=(aI HB1.out 0).trans rfl; have e0:w1.frozen? ⟨b,0,none⟩=false:=bd HB1.out 0; have HG:=Lib.hid hg; have HAT:=Lib.hid hat; clear hg hat)
  go_end0
  have ho1:=HO1.out
  rw[show ([Value.int .u8 c.toNat]:List Value)=aK [c] from rfl,← gH] at ho1
  refine⟨_,_,_,rfl,⟨rfl,rfl,rfl⟩,?_⟩
  have:=aW.stored HB.out HO.out hF ho1 HG.out HAT.out
  simpa [fF] using this
 ·have HB:=Lib.hid hb
  have HO:=Lib.hid ho
  have H0:(er == 0)=false:=beq_eq_false_iff_ne.2 h0
  clear hb ho
  go_enter Tryz.func126,Tryz.ntmps126
  go_wp2_with fail
  go_end0
  exact⟨_,_,_,rfl,⟨rfl,rfl,rfl⟩,B4 ⟨v,by simpa [fF,h0] using HB.out,by simpa [fF,h0] using HO.out,hF⟩ 0 rfl⟩
def td (st:List UInt8×Int):Value:=if st.2=0 then .tuple #[.string ⟨st.1.toArray⟩,.int .i64 0] else .tuple #[.string ⟨#[]⟩,.int .i64 st.2]
theorem wM (b:Nat) (st:List UInt8×Int):ez Tryz.prog 28 #[.pointer (some ⟨b,0,none⟩)] (aW b st) (fun v A' N=>v=td st∧A'=aW b st∧N = []):=by
 rintro F w ⟨v,hb,ho,hF⟩
 obtain⟨l,er⟩:=st
 have c0:w.cell? ⟨b,0,none⟩=some v:=(aI hb 0).trans rfl
 have c1:w.cell? ⟨b,1,none⟩=some (.int .i64 er):=(aI hb 1).trans rfl
 have hc:=mA (P:=Tryz.prog) w (src:=64) (dst:=9) Tryz.underlying64 Tryz.underlying5 Tryz.underlying9 ho
 have HB:=Lib.hid hb
 have HO:=Lib.hid ho
 clear hb ho
 by_cases h0:er=0
 ·subst h0
  go_enter Tryz.func28,Tryz.ntmps28
  go_wp2
  go_ret2
  exact⟨_,_,_,rfl,⟨by simp[td],rfl,rfl⟩,B4 ⟨_,HB.out,HO.out,hF⟩ 0 rfl⟩
 ·have H0:(er != 0)=true:=bne_iff_ne.2 h0
  go_enter Tryz.func28,Tryz.ntmps28
  go_wp2
  go_quiet (fail)
  go_wp2
  go_ret2
  exact⟨_,_,_,rfl,⟨by simp[td,h0],rfl,rfl⟩,B4 ⟨_,HB.out,HO.out,hF⟩ _ rfl⟩
def bu (n size:Int):Bool:=decide (1≤size) && decide (size≤8) && decide (-(2 ^ (8*size.toNat - 1):Int)≤n) && decide (n≤(2 ^ (8*size.toNat - 1):Int) - 1)
theorem w64max:wrap64 (wrap64 9223372036854775808 - 1)=9223372036854775807:=by unfold wrap64; omega
theorem fu {k:IntKind} {a b:Int} (h:a=b):Ending.returned (.int k a)= .returned (.int k b):=by rw[h]
theorem lh {a b:Bool} (h:a=b):Ending.returned (.bool a)= .returned (.bool b):=by rw[h]
theorem li (n size:Int) (w:World) (h0: -9223372036854775808≤n) (h1:n≤9223372036854775807) :
 Calls Tryz.prog 78 #[.int .i64 n,.int .i64 size] w fun e w'=>e= .returned (.bool (bu n size))∧w=w':=by
 by_cases hs:1≤size∧size≤8
 ·have hk:size=1∨size=2∨size=3∨size=4∨size=5∨size=6∨size=7∨size=8:=by omega
  rcases hk with rfl | rfl | rfl | rfl | rfl | rfl | rfl | rfl
  all_goals
   clear hs
   go_enter Tryz.func78,Tryz.ntmps78
   go_wp2
   all_goals (go_ret; exact⟨lh (by have:=w64max; rw[Bool.eq_iff_iff]; simp[bu,wrap64]; omega),rfl⟩)
 ·by_cases h2:size<1
  ·go_enter Tryz.func78,Tryz.ntmps78
   go_wp2
   go_ret
   exact⟨lh (by simp[bu]; omega),rfl⟩
  ·have h3:8<size:=by omega
   go_enter Tryz.func78,Tryz.ntmps78
   go_wp2
   go_ret
   exact⟨lh (by simp[bu]; omega),rfl⟩
def be (n:Int) (size:Nat):List UInt8:=(List.range size).map fun i=>UInt8.ofNat ((n / (2 ^ (8*(size - 1 - i)):Int)) % 256).toNat
def sn (st:List UInt8×Int) (n size:Int):List UInt8×Int:=if bu n size then fF st (be n size.toNat) else iM st 11
theorem te (st:List UInt8×Int):fF st []=st:=by
 obtain⟨l,e⟩:=st
 by_cases h:e=0 <;> simp[fF,h]
theorem nF (st:List UInt8×Int) (a b:List UInt8):fF (fF st a) b=fF st (a++b):=by
 obtain⟨l,e⟩:=st
 by_cases h:e=0 <;> simp[fF,h]
theorem kq (b:Nat) (st:List UInt8×Int) (c:Int) (h0:0≤c) (h1:c<256) (hl:st.1.length+1≤140737488355328) :
 ez Tryz.prog 126 #[.pointer (some ⟨b,0,none⟩),.int .u8 c] (aW b st) (fun v A' N=>v= .tuple #[]∧A'=aW b (fF st [UInt8.ofNat c.toNat])∧N = []):=by
 have h:=wK b st (UInt8.ofNat c.toNat) hl
 rwa [show ((UInt8.ofNat c.toNat).toNat:Int)=c from by simp[UInt8.toNat_ofNat']; omega] at h
theorem mW (st:List UInt8×Int) (a:List UInt8):(fF st a).1.length≤st.1.length+a.length:=by
 unfold fF; split <;> simp
theorem oF (b:Nat) (st:List UInt8×Int) (n size:Int) (h0: -9223372036854775808≤n) (h1:n≤9223372036854775807) (hl:st.1.length+8≤140737488355328) :
 ez Tryz.prog 71 #[.pointer (some ⟨b,0,none⟩),.int .i64 n,.int .i64 size] (aW b st) (fun v A' N=>v= .tuple #[]∧A'=aW b (sn st n size)∧N = []):=by
 intro F w hA
 by_cases hf:bu n size=true
 ·have hs:1≤size∧size≤8:=by simp[bu] at hf; omega
  obtain⟨k,rfl⟩: ∃ k:Nat,size=k:=⟨size.toNat,by omega⟩
  have HF:=Lib.hid hf
  clear hf
  have HA:=Lib.hid (AU F w (Sep.one hA))
  clear hA
  go_enter Tryz.func71,Tryz.ntmps71
  go_wp2_with fail
  refine (li n k w h0 h1).mono ?_
  rintro e w' ⟨rfl,rfl⟩
  rw[HF.out]
  go_wp2_with fail
  go_loopw [6,14] (fun _ i wr=> ∃ j:Nat,j≤k∧i= .int .i64 j∧St F w [aW b (fF st ((be n k).take j))] wr) (fun _ i _=>k - (intOf i).toNat)
  case atStart=>exact⟨0,by omega,rfl,by simpa [te] using HA.out⟩
  case round =>
   obtain⟨j,hj,rfl,hst⟩:=hrel
   have HS:=Lib.hid hst
   clear hst
   by_cases hlt:j<k
   ·go_wp2_with fail
    have hle:((be n k).take j).length=j:=by simp[be]; omega
    have hl2:=mW st ((be n k).take j)
    refine (HS.out.call 0 rfl (kq b _ _ (by omega) (by omega) (by omega))).mono ?_
    rintro e w1 ⟨v,A',N,rfl,⟨rfl,rfl,rfl⟩,H1⟩
    have HS1:=Lib.hid H1
    clear H1 hle hl2
    go_wp2_with fail
    go_roundw
    case rel =>
     refine⟨j+1,by omega,by go_num,?_⟩
     have:=HS1.out
     rw[nF] at this
     have e1:(be n k).take (j+1)=(be n k).take j ++ [UInt8.ofNat ((n / (2 ^ (8*(k - 1 - j)):Int)) % 256).toNat]:=by
      rw[List.take_succ_eq_append_getElem (by simp[be]; omega)]
      simp[be]
     rw[e1]
     exact this
    case measure=>simp[intOf]; omega
   ·have e1:j=k:=by omega
    have e2:(be n k).take k=be n k:=List.take_of_length_le (by simp[be])
    go_wp2_with fail
    go_end0
    refine⟨_,_,_,rfl,⟨rfl,rfl,rfl⟩,?_⟩
    have:=HS.out
    rw[e1,e2] at this
    simpa [sn,HF.out] using this
 ·have HF:=Lib.hid (show bu n size=false by simpa using hf)
  clear hf
  have HA:=Lib.hid (AU F w (Sep.one hA))
  clear hA
  go_enter Tryz.func71,Tryz.ntmps71
  go_wp2_with fail
  refine (li n size w h0 h1).mono ?_
  rintro e w' ⟨rfl,rfl⟩
  rw[HF.out]
  go_wp2_with fail
  refine (HA.out.call 0 rfl (lY b _ 11)).mono ?_
  rintro e w1 ⟨v,A',N,rfl,⟨rfl,rfl,rfl⟩,H1⟩
  have HS1:=Lib.hid H1
  clear H1
  go_wp2_with fail
  go_end0
  refine⟨_,_,_,rfl,⟨rfl,rfl,rfl⟩,?_⟩
  simpa [sn,HF.out] using HS1.out
structure I where
 rest:List UInt8
 pos:Nat
 err:Int
def aF (l:List UInt8):ByteArray:=⟨l.toArray⟩
abbrev jS (l:List UInt8):Value:= .string (aF l)
theorem bsOf_size (l:List UInt8):(aF l).size=l.length:=by simp[aF,ByteArray.size]
theorem bH (l:List UInt8):(aF l).data.toList=l:=by simp[aF]
theorem dz (l:List UInt8):(aF l).toList=l:=ByteArray.toList_mk l
theorem wN (s:ByteArray):aF s.data.toList=s:=by cases s; simp[aF]
theorem jm (s:ByteArray) (a b:Nat):s.extract a b=aF ((s.data.toList.drop a).take (b - a)):=by
 apply ByteArray.ext
 apply Array.ext'
 simp[aF,ByteArray.data_extract,List.extract_eq_take_drop]
def InR (b:Nat) (st:I):Res where
 P:=fun w G=> ∃ s:ByteArray,w.heap[b]? = some (.cells #[.string s,.int .i64 st.pos,.int .i64 st.err] 111 (0,0))∧st.pos+st.rest.length=s.size∧s.size≤9223372036854775807∧s.data.toList.drop st.pos=st.rest∧ ∀ k,G k↔k=b
 lt:=by
  rintro w G ⟨s,h1,_,_,_,h3⟩ k hk
  rw[(h3 k).1 hk]
  exact gU h1
 move:=by
  rintro w w' G ⟨s,h1,h2,h3,h4,h5⟩ hm
  exact⟨s,(hm _ ((h5 _).2 rfl)).trans h1,h2,h3,h4,h5⟩
theorem InR.kept {b:Nat} {st:I} {w w':World} {F:Nat→Prop} (h:(InR b st).P w F) (n:Nat) (hw:w'=w.drewN n):St F w [InR b st] w':=by
 subst hw
 exact (AU F w (Sep.one h)).drewN n
def cE (st:I) (e:Int):I:=if st.err=0 then { st with err:=e } else st
def bG (st:I) (n:Int):List UInt8×I :=
 if st.err≠0 then ([],st) else if n<0 then ([],{ st with err:=4 }) else if st.rest.length<n then ([],{ st with err:=1 })
 else (st.rest.take n.toNat,{ st with rest:=st.rest.drop n.toNat,pos:=st.pos+n.toNat })
theorem xK (s:ByteArray) (hs:s.size≤9223372036854775807) :
 e8 Tryz.prog 18 #[.string s] (fun v N=> ∃ b,v= .pointer (some ⟨b,0,none⟩)∧N = [InR b ⟨s.data.toList,0,0⟩]):=by
 intro w
 go_enter Tryz.func18,Tryz.ntmps18
 go_wp2
 go_ret
 refine⟨_,_,rfl,⟨_,rfl,rfl⟩,?_⟩
 refine (((Bm w).alloc #[.string s,.int .i64 0,.int .i64 0] 111).weaken 0 rfl (A':=InR w.heap.size ⟨s.data.toList,0,0⟩) ?_)
 rintro G ⟨h1,h2⟩
 exact⟨s,h1,by simp,hs,rfl,h2⟩
theorem eA (b:Nat) (st:I) (e:Int):ez Tryz.prog 61 #[.pointer (some ⟨b,0,none⟩),.int .i64 e] (InR b st) (fun v A' N=>v= .tuple #[]∧A'=InR b (cE st e)∧N = []):=by
 rintro F w ⟨s,hb,h2,h3,h4,hF⟩
 have c2:w.cell? ⟨b,2,none⟩=some (.int .i64 st.err):=(aI hb 2).trans rfl
 have f2:w.frozen? ⟨b,2,none⟩=false:=bd hb 2
 have HB:=Lib.hid hb
 have H4:=Lib.hid h4
 have H2:=Lib.hid h2
 clear hb h4 h2
 by_cases h0:st.err=0
 ·have H0:(st.err == 0)=true:=beq_iff_eq.2 h0
  have HH:=Lib.hid h0
  clear h0
  go_enter Tryz.func61,Tryz.ntmps61
  go_wp2
  go_end0
  refine⟨_,_,_,rfl,⟨rfl,rfl,rfl⟩,(Fr.refl F w).set (.inl ((hF b).2 rfl)) _,F,?_,fun k hk=> .inl hk,trivial⟩
  exact⟨s,by simpa [cE,HH.out] using jO HB.out 2 (.int .i64 e),by simpa [cE,HH.out] using H2.out,h3,by simpa [cE,HH.out] using H4.out,hF⟩
 ·have H0:(st.err == 0)=false:=beq_eq_false_iff_ne.2 h0
  have HH:=Lib.hid h0
  clear h0
  go_enter Tryz.func61,Tryz.ntmps61
  go_wp2
  go_end0
  refine⟨_,_,_,rfl,⟨rfl,rfl,rfl⟩,InR.kept (st:=cE st e) ?_ 0 rfl⟩
  rw[show cE st e=st by simp[cE,HH.out]]
  exact⟨s,HB.out,H2.out,h3,H4.out,hF⟩
theorem jU (b:Nat) (st:I):ez Tryz.prog 82 #[.pointer (some ⟨b,0,none⟩)] (InR b st) (fun v A' N=>v= .int .i64 st.rest.length∧A'=InR b st∧N = []):=by
 rintro F w ⟨s,hb,h2,h3,h4,hF⟩
 have c0:w.cell? ⟨b,0,none⟩=some (.string s):=(aI hb 0).trans rfl
 have c1:w.cell? ⟨b,1,none⟩=some (.int .i64 st.pos):=(aI hb 1).trans rfl
 have HB:=Lib.hid hb
 have H4:=Lib.hid h4
 have H2:=Lib.hid h2
 have h2a:st.pos≤s.size:=by omega
 clear hb h4 h2
 go_enter Tryz.func82,Tryz.ntmps82
 go_wp2
 go_quiet (fail)
 go_wp2
 go_ret
 have e1:(s.size:Int) - st.pos=st.rest.length:=by have:=H2.out; omega
 exact⟨_,_,_,fu e1,⟨rfl,rfl,rfl⟩,InR.kept ⟨s,HB.out,H2.out,h3,H4.out,hF⟩ _ rfl⟩
theorem cW (b:Nat) (st:I) (n:Int) (hn0: -9223372036854775808≤n) (hn1:n≤9223372036854775807) :
 ez Tryz.prog 109 #[.pointer (some ⟨b,0,none⟩),.int .i64 n] (InR b st) (fun v A' N=>v= .string (aF (bG st n).1)∧A'=InR b (bG st n).2∧N = []):=by
 rintro F w ⟨s,hb,h2,h3,h4,hF⟩
 have hA:(InR b st).P w F:=⟨s,hb,h2,h3,h4,hF⟩
 have c0:w.cell? ⟨b,0,none⟩=some (.string s):=(aI hb 0).trans rfl
 have c1:w.cell? ⟨b,1,none⟩=some (.int .i64 st.pos):=(aI hb 1).trans rfl
 have c2:w.cell? ⟨b,2,none⟩=some (.int .i64 st.err):=(aI hb 2).trans rfl
 have f1:w.frozen? ⟨b,1,none⟩=false:=bd hb 1
 have HB:=Lib.hid hb
 have H4:=Lib.hid h4
 have H2:=Lib.hid h2
 have HA:=Lib.hid (AU F w (Sep.one hA))
 have h2a:st.pos≤s.size:=by omega
 have h2b: ¬ ((s.size:Int) - st.pos<n)↔n≤st.rest.length:=by omega
 have H2b:=Lib.hid h2b
 clear hb h4 h2 hA h2b
 by_cases h0:st.err=0
 ·have H0:(st.err != 0)=false:=by simp[h0]
  have HH:=Lib.hid h0
  clear h0
  by_cases hn:n<0
  ·have HT:=Lib.hid (show bG st n=([],cE st 4) by simp[bG,HH.out,hn,cE])
   go_enter Tryz.func109,Tryz.ntmps109
   go_wp2_with fail
   refine (HA.out.call 0 rfl (eA b st 4)).mono ?_
   rintro e w1 ⟨v,A',N,rfl,⟨rfl,rfl,rfl⟩,H1⟩
   have HS1:=Lib.hid H1
   clear H1
   go_wp2_with fail
   go_ret
   exact⟨_,_,_,rfl,⟨by rw[HT.out]; rfl,rfl,rfl⟩,by rw[HT.out]; exact HS1.out⟩
  ·by_cases hl:(st.rest.length:Int)<n
   ·have hl2:(s.size:Int) - st.pos<n:=by have:=H2.out; omega
    have HT:=Lib.hid (show bG st n=([],cE st 1) by simp[bG,HH.out,hn,cE,hl])
    go_enter Tryz.func109,Tryz.ntmps109
    go_wp2_with fail
    go_quiet (fail)
    go_wp2_with fail
    refine ((HA.out.drewN _).call 0 rfl (eA b st 1)).mono ?_
    rintro e w1 ⟨v,A',N,rfl,⟨rfl,rfl,rfl⟩,H1⟩
    have HS1:=Lib.hid H1
    clear H1
    go_wp2_with fail
    go_ret
    exact⟨_,_,_,rfl,⟨by rw[HT.out]; rfl,rfl,rfl⟩,by rw[HT.out]; exact HS1.out⟩
   ·have hl2: ¬ ((s.size:Int) - st.pos<n):=by have:=H2.out; omega
    obtain⟨m,rfl⟩: ∃ m:Nat,n=m:=⟨n.toNat,by omega⟩
    have hl3:st.pos+m≤s.size:=by omega
    have HT:=Lib.hid (show bG st m=(st.rest.take m,{ st with rest:=st.rest.drop m,pos:=st.pos+m }) by
     have: ¬ (st.rest.length<m):=by omega
     simp[bG,HH.out,this])
    go_enter Tryz.func109,Tryz.ntmps109
    go_wp2_with fail
    go_quiet (fail)
    go_wp2_with fail
    go_quiet (fail)
    go_wp2_with fail
    go_ret
    refine⟨.string (s.extract st.pos (st.pos+m)),_,_,rfl,⟨?_,rfl,rfl⟩,?_⟩
    ·rw[HT.out,jm,Nat.add_sub_cancel_left,H4.out]
    ·rw[HT.out]
     refine ((((AU F w (Sep.one (R:=aC b 111 #[.string s,.int .i64 st.pos,.int .i64 st.err]) ⟨HB.out,hF⟩)).drewN _).set 0 rfl 1 (.int .i64 (st.pos+m))).drewN _).weaken 0 rfl (A':=InR b { st with rest:=st.rest.drop m,pos:=st.pos+m }) ?_
     rintro G ⟨k1,k2⟩
     have h2:=H2.out
     refine⟨s,k1,?_,h3,?_,k2⟩
     ·simp only[C0]; omega
     ·simp only; rw[← H4.out,Dq]
 ·have H0:(st.err != 0)=true:=bne_iff_ne.2 h0
  have HH:=Lib.hid h0
  clear h0
  go_enter Tryz.func109,Tryz.ntmps109
  go_wp2_with fail
  go_ret
  refine⟨_,_,_,rfl,⟨?_,rfl,rfl⟩,?_⟩
  ·simp[bG,HH.out,aF]
  ·simpa [bG,HH.out] using HA.out
theorem zA (x d:Int) (h0: -9223372036854775808≤x) (h1:x≤9223372036854775807) (hx:x % 256=0) (hd0:0≤d) (hd1:d<256):bits .or .i64 x d=x+d:=by
 have e1:(BitVec.ofInt 64 x).toNat=(x % 18446744073709551616).toNat:=by simp[BitVec.toNat_ofInt]
 have e2:(BitVec.ofInt 64 d).toNat=d.toNat:=by simp[BitVec.toNat_ofInt]; omega
 show IntKind.i64.wrap (((BitVec.ofInt 64 x) ||| (BitVec.ofInt 64 d)).toNat:Int)=x+d
 rw[BitVec.toNat_or,e1,e2]
 generalize ha:(x % 18446744073709551616).toNat=a
 have ha2:a % 256=0:=by omega
 have hq:a=2 ^ 8*(a / 256):=by omega
 have hb:d.toNat<2 ^ 8:=by omega
 have ho:a ||| d.toNat=a+d.toNat:=by
  rw[hq,← Nat.two_pow_add_eq_or_of_lt hb (a / 256)]
 rw[ho,IntKind.wrap_i64]
 omega
def sgn (c:UInt8):Int:=if c.toNat<128 then c.toNat else (c.toNat:Int) - 256
theorem xL (c:UInt8):wrap64 (IntKind.i8.wrap (c.toNat:Int))=sgn c:=by
 have:=c.toNat_lt
 have e:IntKind.i8.wrap (c.toNat:Int)=sgn c:=by
  unfold sgn
  simp[IntKind.wrap,IntKind.bits,IntKind.signed]
  split <;> split <;> omega
 rw[e]
 unfold sgn wrap64
 split <;> omega
def bk:List UInt8→Int
 | []=>0
 | c::cs=>cs.foldl (fun n d=>n*256+d.toNat) (sgn c)
theorem mC (l:List UInt8) (d:UInt8) (h:l ≠ []):bk (l ++ [d])=bk l*256+d.toNat:=by
 cases l with
 | nil=>exact absurd rfl h
 | cons c cs=>simp[bk]
theorem uu (cs:List UInt8): ∀ (n:Int) (m:Nat),1≤m→ -(2 ^ (m - 1):Int)≤n→n<(2 ^ (m - 1):Int) →
 -(2 ^ (m+8*cs.length - 1):Int)≤cs.foldl (fun n d=>n*256+(d.toNat:Int)) n∧cs.foldl (fun n d=>n*256+(d.toNat:Int)) n<(2 ^ (m+8*cs.length - 1):Int):=by
 induction cs with
 | nil=>intro n m _ h1 h2; exact⟨h1,h2⟩
 | cons c cs ih =>
  intro n m hm h1 h2
  have:=c.toNat_lt
  have e:(2 ^ (m+8 - 1):Int)=256*2 ^ (m - 1):=by
   rw[show m+8 - 1=8+(m - 1) by omega,Int.pow_add]
   rfl
  have h3:=ih (n*256+c.toNat) (m+8) (by omega) (by rw[e]; omega) (by rw[e]; omega)
  rw[show m+8*(c::cs).length - 1=m+8+8*cs.length - 1 by simp; omega]
  exact h3
theorem lj (l:List UInt8) (h:l ≠ []): -(2 ^ (8*l.length - 1):Int)≤bk l∧bk l<(2 ^ (8*l.length - 1):Int):=by
 cases l with
 | nil=>exact absurd rfl h
 | cons c cs =>
  have hc:=c.toNat_lt
  have:=uu cs (sgn c) 8 (by omega) (by unfold sgn; split <;> omega) (by unfold sgn; split <;> omega)
  rw[show 8*(c::cs).length - 1=8+8*cs.length - 1 by simp; omega]
  exact this
theorem mX (l:List UInt8) (h:l ≠ []) (h7:l.length≤7): -36028797018963968≤bk l∧bk l<36028797018963968:=by
 have hr:=lj l h
 have hp:(2 ^ (8*l.length - 1):Int)≤36028797018963968:=by
  have h1:(2 ^ (8*l.length - 1):Nat)≤2 ^ 55:=Nat.pow_le_pow_right (by decide) (by omega)
  have h2:((2 ^ (8*l.length - 1):Nat):Int)≤((2 ^ 55:Nat):Int):=Int.ofNat_le.2 h1
  rw[Int.natCast_pow,Int.natCast_pow] at h2
  exact h2
 generalize (2 ^ (8*l.length - 1):Int)=z at *
 omega
theorem uw (q d:Int) (h0: -36028797018963968≤q) (h1:q<36028797018963968) (hd0:0≤d) (hd1:d<256):bits .or .i64 (wrap64 (q*256)) (wrap64 d)=q*256+d:=by
 have e2:wrap64 (q*256)=q*256:=by unfold wrap64; omega
 have e3:wrap64 d=d:=by unfold wrap64; omega
 rw[e2,e3,zA _ _ (by omega) (by omega) (by omega) hd0 hd1]
theorem ux (l:List UInt8):(aF l).toList.isEmpty=l.isEmpty:=by
 have e:(aF l).toList=l:=ByteArray.toList_mk l
 rw[e]
theorem lk (l:List UInt8) (i:Nat) (h:i<(aF l).size):(aF l)[i]=l[i]'(by simpa [bsOf_size] using h):=by
 simp[aF]; rfl
def di (st:I) (size:Int):Int×I:=if 1≤size∧size≤8 then (bk (bG st size).1,(bG st size).2) else (0,cE st 4)
theorem rm (st:I) (n:Int):(bG st n).1.length≤n.toNat:=by
 unfold bG
 split
 ·simp
 ·split
  ·simp
  ·split
   ·simp
   ·simp; omega
theorem nG (b:Nat) (st:I) (size:Int) :
 ez Tryz.prog 57 #[.pointer (some ⟨b,0,none⟩),.int .i64 size] (InR b st) (fun v A' N=>v= .int .i64 (di st size).1∧A'=InR b (di st size).2∧N = []):=by
 intro F w hA
 by_cases hs:1≤size∧size≤8
 ·obtain⟨k,rfl⟩: ∃ k:Nat,size=k:=⟨size.toNat,by omega⟩
  have HI:=Lib.hid (show di st k=(bk (bG st k).1,(bG st k).2) by simp only[di,hs]; simp)
  have HA:=Lib.hid (AU F w (Sep.one hA))
  clear hA
  go_enter Tryz.func57,Tryz.ntmps57
  go_wp2_with fail
  refine (HA.out.call 0 rfl (cW b st k (by omega) (by omega))).mono ?_
  rintro e w1 ⟨v,A',N,rfl,⟨rfl,rfl,rfl⟩,H1⟩
  have HS1:=Lib.hid H1
  have hlen:=rm st k
  clear H1
  generalize hl:(bG st k).1=l at *
  have hne:=ux l
  have HL:=Lib.hid hl
  clear hl
  cases l with
  | nil =>
   simp only[List.isEmpty_nil] at hne
   go_wp2_with fail
   go_ret
   exact⟨_,_,_,rfl,⟨by rw[HI.out]; rfl,rfl,rfl⟩,by rw[HI.out]; exact HS1.out⟩
  | cons c cs =>
   have hsz:=bsOf_size (c::cs)
   have h0:=lk (c::cs) 0 (by simp[bsOf_size])
   have HG:=Lib.hid (lk (c::cs))
   have hsg:=xL c
   have hl8:cs.length≤7:=by simp at hlen; omega
   simp only[List.getElem_cons_zero,List.isEmpty_cons] at h0 hne
   go_wp2_with fail
   go_loopw [6,7] (fun n i wr=>wr=w1∧ ∃ j:Nat,1≤j∧j≤cs.length+1∧i= .int .i64 j∧n= .int .i64 (bk ((c::cs).take j))) (fun _ i _=>cs.length+1 - (intOf i).toNat)
   case atStart=>exact⟨rfl,1,by omega,by omega,rfl,by simp[bk,hsg]⟩
   case round =>
    obtain⟨rfl,j,hj1,hj2,rfl,rfl⟩:=hrel
    by_cases hlt:j<cs.length+1
    ·have hgj:=HG.out j (by rw[hsz]; simpa using hlt)
     have hb:j≤9223372036854775806:=by omega
     have hnn:(c::cs).take j ≠ []:=by intro h; have:=congrArg List.length h; simp at this; omega
     have hr:=mX ((c::cs).take j) hnn (by simp; omega)
     generalize hq:bk ((c::cs).take j)=q at *
     have HQ:=Lib.hid hq
     have HR:=Lib.hid hr
     clear hq hr
     go_wp2_with fail
     go_roundw
     case rel =>
      refine⟨trivial,j+1,by omega,by omega,by go_num,?_⟩
      have hd:=((c::cs)[j]'(by simpa using hlt)).toNat_lt
      have e1:(c::cs).take (j+1)=(c::cs).take j ++ [(c::cs)[j]'(by simpa using hlt)]:=by
       rw[List.take_succ_eq_append_getElem (by simpa using hlt)]
      rw[e1,mC _ _ hnn,HQ.out,uw q _ HR.out.1 HR.out.2 (by omega) (by omega)]
     case measure=>simp[intOf]; omega
    ·have e1:j=cs.length+1:=by omega
     have e2:(c::cs).take (cs.length+1)=c::cs:=List.take_of_length_le (by simp)
     have hb:(c::cs).length=cs.length+1:=rfl
     go_wp2_with fail
     go_ret
     exact⟨_,_,_,rfl,⟨by rw[HI.out,e1,e2]; rfl,rfl,rfl⟩,by rw[HI.out]; exact HS1.out⟩
 ·have HI:=Lib.hid (show di st size=(0,cE st 4) by simp only[di,hs]; simp)
  have HA:=Lib.hid (AU F w (Sep.one hA))
  clear hA
  by_cases h1:size<1
  all_goals
   go_enter Tryz.func57,Tryz.ntmps57
   go_wp2_with fail
   refine (HA.out.call 0 rfl (eA b st 4)).mono ?_
   rintro e w1 ⟨v,A',N,rfl,⟨rfl,rfl,rfl⟩,H1⟩
   have HS1:=Lib.hid H1
   clear H1
   go_wp2_with fail
   go_ret
   exact⟨_,_,_,rfl,⟨by rw[HI.out]; rfl,rfl,rfl⟩,by rw[HI.out]; exact HS1.out⟩
theorem InR.err {b:Nat} {st:I} {w:World} {F0:Nat→Prop} {w0:World} {Rs:List Res} (i:Nat) (h:St F0 w0 Rs w) (hi:Rs[i]? = some (InR b st)) :
 w.cell? ⟨b,2,none⟩=some (.int .i64 st.err)∧w.cell? ⟨b,1,none⟩=some (.int .i64 st.pos):=by
 obtain⟨G,⟨s,h1,_⟩,_⟩:=h.get i hi
 exact⟨(aI h1 2).trans rfl,(aI h1 1).trans rfl⟩
theorem InR.len {b:Nat} {st:I} {w:World} {F0:Nat→Prop} {w0:World} {Rs:List Res} (i:Nat) (h:St F0 w0 Rs w) (hi:Rs[i]? = some (InR b st)):st.rest.length≤9223372036854775807:=by
 obtain⟨G,⟨s,h1,h2,h3,_⟩,_⟩:=h.get i hi
 omega
theorem lZ (b:Nat) (st:I):ez Tryz.prog 21 #[.pointer (some ⟨b,0,none⟩)] (InR b st) (fun v A' N=>v= .int .i64 st.err∧A'=InR b st∧N = []):=by
 intro F w hA
 have hs:=AU F w (Sep.one hA)
 have c2:=(InR.err 0 hs rfl).1
 have HS:=Lib.hid hs
 clear hs hA
 go_enter Tryz.func21,Tryz.ntmps21
 go_wp2
 go_ret
 exact⟨_,_,_,rfl,⟨rfl,rfl,rfl⟩,HS.out⟩
theorem zB (b:Nat) (st:I):ez Tryz.prog 24 #[.pointer (some ⟨b,0,none⟩)] (InR b st) (fun v A' N=>v= .int .i64 st.pos∧A'=InR b st∧N = []):=by
 intro F w hA
 have hs:=AU F w (Sep.one hA)
 have c2:=(InR.err 0 hs rfl).2
 have HS:=Lib.hid hs
 clear hs hA
 go_enter Tryz.func24,Tryz.ntmps24
 go_wp2
 go_ret
 exact⟨_,_,_,rfl,⟨rfl,rfl,rfl⟩,HS.out⟩
def eB (st:I):I:=if st.rest = [] then st else cE st 2
theorem uy (b:Nat) (st:I):ez Tryz.prog 32 #[.pointer (some ⟨b,0,none⟩)] (InR b st) (fun v A' N=>v= .int .i64 (eB st).err∧A'=InR b (eB st)∧N = []):=by
 intro F w hA
 have HS:=Lib.hid (AU F w (Sep.one hA))
 clear hA
 by_cases h:st.rest = []
 ·have HC:=Lib.hid (show eB st=st by simp[eB,h])
  have hl:st.rest.length=0:=by simp[h]
  have HL:=Lib.hid hl
  have hl2: ¬ ((0:Int)<st.rest.length):=by omega
  clear h hl
  go_enter Tryz.func32,Tryz.ntmps32
  go_wp2_with fail
  refine (HS.out.call 0 rfl (jU b st)).mono ?_
  rintro e w1 ⟨v,A',N,rfl,⟨rfl,rfl,rfl⟩,H1⟩
  have c2:=(InR.err 0 H1 rfl).1
  have HS1:=Lib.hid H1
  clear H1
  go_wp2_with fail
  go_ret
  exact⟨_,_,_,rfl,⟨by rw[HC.out]; rfl,rfl,rfl⟩,by rw[HC.out]; exact HS1.out⟩
 ·have HC:=Lib.hid (show eB st=cE st 2 by simp[eB,h])
  have hl2:(0:Int)<st.rest.length:=by
   have:=List.length_pos_iff.2 h
   omega
  clear h
  go_enter Tryz.func32,Tryz.ntmps32
  go_wp2_with fail
  refine (HS.out.call 0 rfl (jU b st)).mono ?_
  rintro e w1 ⟨v,A',N,rfl,⟨rfl,rfl,rfl⟩,H1⟩
  have HS1:=Lib.hid H1
  clear H1
  go_wp2_with fail
  refine (HS1.out.call 0 rfl (eA b st 2)).mono ?_
  rintro e w2 ⟨v,A',N,rfl,⟨rfl,rfl,rfl⟩,H2⟩
  have c2:=(InR.err 0 H2 rfl).1
  have HS2:=Lib.hid H2
  clear H2
  go_wp2_with fail
  go_ret
  exact⟨_,_,_,rfl,⟨by rw[HC.out]; rfl,rfl,rfl⟩,by rw[HC.out]; exact HS2.out⟩
def ij (st:I) (size each:Int):Int×I :=
 if (di st size).2.err≠0 then (0,(di st size).2)
 else if (di st size).1<0 then (0,cE (di st size).2 4)
 else if 0<each∧((di st size).2.rest.length:Int) / each<(di st size).1 then (0,cE (di st size).2 1)
 else di st size
theorem uz (b:Nat) (st:I) (size each:Int) :
 ez Tryz.prog 58 #[.pointer (some ⟨b,0,none⟩),.int .i64 size,.int .i64 each] (InR b st) (fun v A' N=>v= .int .i64 (ij st size each).1∧A'=InR b (ij st size each).2∧N = []):=by
 intro F w hA
 have HS:=Lib.hid (AU F w (Sep.one hA))
 clear hA
 have HC:=Lib.hid (show ij st size each= _ from rfl)
 generalize hq:ij st size each=q at HC ⊢
 have HC2:=Lib.hid (show q=ij st size each from hq.symm)
 clear hq HC
 have HC3:=Lib.hid (show q=(if (di st size).2.err≠0 then (0,(di st size).2)
  else if (di st size).1<0 then (0,cE (di st size).2 4)
  else if 0<each∧((di st size).2.rest.length:Int) / each<(di st size).1 then (0,cE (di st size).2 1)
  else di st size) from HC2.out)
 clear HC2
 have h1:=nG b st size
 generalize di st size=r at *
 obtain⟨n,st1⟩:=r
 have HN:=Lib.hid h1
 clear h1
 by_cases h0:st1.err=0
 ·have H0:(st1.err != 0)=false:=by simp[h0]
  have HH:=Lib.hid h0
  clear h0
  by_cases hn:n<0
  ·have HQ:=Lib.hid (show q=(0,cE st1 4) by rw[HC3.out]; simp[HH.out,hn])
   go_enter Tryz.func58,Fg
   go_wp2_with fail
   refine (HS.out.call 0 rfl HN.out).mono ?_
   rintro e w1 ⟨v,A',N,rfl,⟨rfl,rfl,rfl⟩,H1⟩
   have c2:=(InR.err 0 H1 rfl).1
   have HS1:=Lib.hid H1
   clear H1
   go_wp2_with fail
   refine (HS1.out.call 0 rfl (eA b st1 4)).mono ?_
   rintro e w2 ⟨v,A',N,rfl,⟨rfl,rfl,rfl⟩,H2⟩
   have HS2:=Lib.hid H2
   clear H2
   go_wp2_with fail
   go_ret
   exact⟨_,_,_,rfl,⟨by rw[HQ.out]; rfl,rfl,rfl⟩,by rw[HQ.out]; exact HS2.out⟩
  ·by_cases he:0<each
   ·have hd0:0≤(st1.rest.length:Int):=by omega
    by_cases hc:(st1.rest.length:Int) / each<n
    ·have HQ:=Lib.hid (show q=(0,cE st1 1) by rw[HC3.out]; simp[HH.out,hn,he,hc])
     go_enter Tryz.func58,Fg
     go_wp2_with fail
     refine (HS.out.call 0 rfl HN.out).mono ?_
     rintro e w1 ⟨v,A',N,rfl,⟨rfl,rfl,rfl⟩,H1⟩
     have c2:=(InR.err 0 H1 rfl).1
     have hb:=InR.len 0 H1 rfl
     have hq1:0≤(st1.rest.length:Int) / each:=Int.ediv_nonneg hd0 (by omega)
     have hq2:(st1.rest.length:Int) / each≤9223372036854775807:=Int.le_trans (Int.ediv_le_self each hd0) (by omega)
     have HS1:=Lib.hid H1
     clear H1
     go_wp2_with fail
     refine (HS1.out.call 0 rfl (jU b st1)).mono ?_
     rintro e w2 ⟨v,A',N,rfl,⟨rfl,rfl,rfl⟩,H2⟩
     have HS2:=Lib.hid H2
     clear H2
     go_wp2_with fail
     refine (HS2.out.call 0 rfl (eA b st1 1)).mono ?_
     rintro e w2 ⟨v,A',N,rfl,⟨rfl,rfl,rfl⟩,H3⟩
     have HS3:=Lib.hid H3
     clear H3
     go_wp2_with fail
     go_ret
     exact⟨_,_,_,rfl,⟨by rw[HQ.out]; rfl,rfl,rfl⟩,by rw[HQ.out]; exact HS3.out⟩
    ·have HQ:=Lib.hid (show q=(n,st1) by rw[HC3.out]; simp[HH.out,hn,hc])
     go_enter Tryz.func58,Fg
     go_wp2_with fail
     refine (HS.out.call 0 rfl HN.out).mono ?_
     rintro e w1 ⟨v,A',N,rfl,⟨rfl,rfl,rfl⟩,H1⟩
     have c2:=(InR.err 0 H1 rfl).1
     have hb:=InR.len 0 H1 rfl
     have hq1:0≤(st1.rest.length:Int) / each:=Int.ediv_nonneg hd0 (by omega)
     have hq2:(st1.rest.length:Int) / each≤9223372036854775807:=Int.le_trans (Int.ediv_le_self each hd0) (by omega)
     have HS1:=Lib.hid H1
     clear H1
     go_wp2_with fail
     refine (HS1.out.call 0 rfl (jU b st1)).mono ?_
     rintro e w2 ⟨v,A',N,rfl,⟨rfl,rfl,rfl⟩,H2⟩
     have HS2:=Lib.hid H2
     clear H2
     go_wp2_with fail
     go_ret
     exact⟨_,_,_,rfl,⟨by rw[HQ.out]; rfl,rfl,rfl⟩,by rw[HQ.out]; exact HS2.out⟩
   ·have HQ:=Lib.hid (show q=(n,st1) by rw[HC3.out]; simp[HH.out,hn,he])
    go_enter Tryz.func58,Fg
    go_wp2_with fail
    refine (HS.out.call 0 rfl HN.out).mono ?_
    rintro e w1 ⟨v,A',N,rfl,⟨rfl,rfl,rfl⟩,H1⟩
    have c2:=(InR.err 0 H1 rfl).1
    have HS1:=Lib.hid H1
    clear H1
    go_wp2_with fail
    go_ret
    exact⟨_,_,_,rfl,⟨by rw[HQ.out]; rfl,rfl,rfl⟩,by rw[HQ.out]; exact HS1.out⟩
 ·have H0:(st1.err != 0)=true:=bne_iff_ne.2 h0
  have HQ:=Lib.hid (show q=(0,st1) by rw[HC3.out]; simp[h0])
  clear h0
  go_enter Tryz.func58,Fg
  go_wp2_with fail
  refine (HS.out.call 0 rfl HN.out).mono ?_
  rintro e w1 ⟨v,A',N,rfl,⟨rfl,rfl,rfl⟩,H1⟩
  have c2:=(InR.err 0 H1 rfl).1
  have HS1:=Lib.hid H1
  clear H1
  go_wp2_with fail
  go_ret
  exact⟨_,_,_,rfl,⟨by rw[HQ.out]; rfl,rfl,rfl⟩,by rw[HQ.out]; exact HS1.out⟩
theorem xM (l:List UInt8) (p:Nat) (h1:1≤l.length) (h8:l.length≤8) (m:List UInt8):di ⟨l++m,p,0⟩ l.length=(bk l,⟨m,p+l.length,0⟩):=by
 have e:bG ⟨l++m,p,0⟩ l.length=(l,⟨m,p+l.length,0⟩):=by
  unfold bG
  rw[if_neg (by simp),if_neg (by omega),if_neg (by simp only[CW]; omega)]
  simp
 have hc:(1:Int)≤l.length∧(l.length:Int)≤8:=by omega
 simp only[di,hc,e]
 simp
theorem bsOf_of (s:ByteArray): ∃ l,s=aF l:=⟨s.data.toList,(wN s).symm⟩
theorem mY (l:List UInt8) (j:Nat) (h:j<l.length):l.take (j+1)=l.take j ++ [l[j]]:=List.take_succ_eq_append_getElem h
theorem ms {l:List UInt8} {j:Nat} (h:j<l.length) (h0:0<j):l.take j ≠ []:=by
 intro he
 have:=congrArg List.length he
 rw[Dt,D3] at this
 omega
theorem pQ (l:List UInt8) (h8:l.length≤8) (w:World) :
 Calls Tryz.prog 63 #[.string (aF l)] w fun e w'=>e= .returned (.int .i64 (bk l))∧w=w':=by
 have hsz:=bsOf_size l
 have hl8:(aF l).size≤8:=by omega
 have HG:=Lib.hid (lk l)
 go_enter Tryz.func63,Tryz.ntmps63
 go_wp2_with fail
 go_loop [3,4] (fun n i=> ∃ j:Nat,j≤l.length∧i= .int .i64 j∧n= .int .i64 (bk (l.take j))) (fun _ i=>l.length - (intOf i).toNat)
 case atStart=>exact⟨0,by omega,rfl,by simp[bk]⟩
 case round =>
  obtain⟨j,hj,rfl,rfl⟩:=hrel
  by_cases hlt:j<l.length
  ·have hgj:=HG.out j (by omega)
   have hs:j<(aF l).size:=by omega
   have HT:=Lib.hid (mY l j hlt)
   have hc:=l[j].toNat_lt
   generalize l[j]=c at *
   by_cases hj0:j=0
   ·subst hj0
    have HE:=Lib.hid (show bk (l.take (0+1))=sgn c by rw[HT.out]; simp[bk])
    have hb0:bk (l.take 0)=0:=by simp[bk]
    clear HT
    rw[hb0]
    clear hb0
    by_cases h128:c.toNat<128
    all_goals
     go_wp2_with fail
     go_round
     case rel=>exact⟨0+1,by omega,by go_num,by rw[HE.out]; simp[sgn]; first | done | omega⟩
     case measure=>simp[intOf]; omega
   ·have hne:=ms hlt (by omega)
    have hr:=mX (l.take j) hne (by simp; omega)
    have HE:=Lib.hid (show bk (l.take (j+1))=bk (l.take j)*256+c.toNat by rw[HT.out,mC _ _ hne])
    clear HT
    have HN:=Lib.hid hne
    clear hne
    generalize bk (l.take j)=q at *
    have h0:((j:Int) == 0)=false:=by simp; omega
    have hr1:=hr.1
    have hr2:=hr.2
    go_wp2_with fail
    go_round
    case rel=>exact⟨j+1,by omega,by go_num,by rw[HE.out]⟩
    case measure=>simp[intOf]; omega
  ·have e1:j=l.length:=by omega
   have e2:=List.take_of_length_le (l:=l) (i:=l.length) (Dy _)
   have E1:=Lib.hid e1
   have E2:=Lib.hid e2
   clear e1 e2
   go_wp2_with fail
   go_ret
   exact⟨fu (by rw[E1.out,E2.out]),rfl⟩
def eV (l:List UInt8):Array Value:=(aK l).toArray
theorem tf (l:List UInt8) (i:Nat):(eV l)[i]? = l[i]?.map fun b=>Value.int .u8 b.toNat:=by simp[eV,aK]
theorem tg (l:List UInt8) (i:Nat) (c:UInt8):(eV l).setIfInBounds i (.int .u8 c.toNat)=eV (l.set i c):=by
 simp[eV,aK]
theorem aA (n:Int) (k:Nat):(be n k).length=k:=by simp[be]
theorem uA (k:Nat) (hk:k≤140737488355328) (w:World):(Instr.makeSlice 64 (.int .i64 k) (.int .i64 k)).run Tryz.prog w =
 .ok (.slice (some ⟨w.heap.size,0,none⟩) k k) (w.alloc (.cells (eV (List.replicate k 0)) 5)):=by
 obtain⟨i,hi,hzz⟩:=Option.map_eq_some_iff.1 lg
 simp only[Prod.mk.injEq] at hzz
 rw[run_make w 64 5 i (.int .u8 0) Tryz.underlying64 hi hzz.1 .i64 .i64 k k (by omega) (by omega) (by rw[hzz.2.2]; omega) (by omega)]
 have e:madeCells (Value.int .u8 0).cells ((k:Int).toNat*i.size)=eV (List.replicate k 0):=by
  rw[hzz.2.1]
  simp[madeCells,eV,aK,Value.cells]
  apply Array.ext
  ·simp
  ·intro j h1 h2
   simp[Nat.mod_one]
 rw[e]
 rfl
theorem zC (n:Int) (k m:Nat) (h:m<k):(be n k).drop m=UInt8.ofNat ((n / (2 ^ (8*(k - 1 - m)):Int)) % 256).toNat::(be n k).drop (m+1):=by
 rw[List.drop_eq_getElem_cons (by simpa [be] using h)]
 simp[be]
theorem xN (n:Int) (a:Nat):n / 2 ^ (8*a) / 256=n / (2 ^ (8*(a+1)):Int):=by
 have hp:(0:Int)<2 ^ (8*a):=Int.pow_pos (by decide)
 rw[show 8*(a+1)=8*a+8 by omega,Int.pow_add,← Int.ediv_ediv_of_nonneg (Int.le_of_lt hp)]
 rfl
theorem zD (q:Int):(q.tmod 256=q % 256∧0≤q.tmod 256)∨(q.tmod 256=q % 256 - 256∧q.tmod 256<0):=by
 rw[Int.tmod_eq_emod]
 split
 ·left; omega
 ·rename_i h
  right
  have: ¬ (256 ∣ q):=fun hd=>h (.inr hd)
  omega
theorem zE (q:Int):(q - q % 256).tdiv 256=q / 256:=by
 have e:q - q % 256=q / 256*256:=by omega
 rw[e,Int.mul_tdiv_cancel _ (by decide)]
theorem zF (n:Int) (a:Nat) (h0: -9223372036854775808≤n) (h1:n≤9223372036854775807): -9223372036854775808≤n / 2 ^ a∧n / 2 ^ a≤9223372036854775807:=by
 have hp:(0:Int)<2 ^ a:=Int.pow_pos (by decide)
 generalize (2 ^ a:Int)=p at *
 constructor
 ·rcases Int.lt_or_le n 0 with h | h
  ·have:n≤n / p:=by
    rw[Int.le_ediv_iff_mul_le hp]
    have:n*p≤n*1:=Int.mul_le_mul_of_nonpos_left (by omega) (by omega)
    omega
   omega
  ·have:=Int.ediv_nonneg h (Int.le_of_lt hp)
   omega
 ·rcases Int.lt_or_le n 0 with h | h
  ·have:=Int.ediv_neg_of_neg_of_pos h hp
   omega
  ·have:=Int.ediv_le_self p h
   omega
theorem oG {w wr:World} {g k m:Nat} {n q d:Int} (hm:m+1≤k) (hs:St (fun _=>False) w [aC g 5 (eV (List.replicate (m+1) 0++(be n k).drop (m+1)))] wr)
 (hd:(be n k).drop m=UInt8.ofNat ((n / (2 ^ (8*(k - 1 - m)):Int)) % 256).toNat::(be n k).drop (m+1)) (hq:q=n / 2 ^ (8*(k - 1 - m))) (he:d=q % 256) :
 St (fun _=>False) w [aC g 5 (eV (List.replicate m 0++(be n k).drop m))] (wr.setCell ⟨g,m,none⟩ (.int .u8 d)):=by
 have h:=hs.set 0 rfl m (.int .u8 d)
 have e:(.int .u8 d:Value)= .int .u8 (UInt8.ofNat (q % 256).toNat).toNat:=by
  congr 1
  simp[UInt8.toNat_ofNat']
  omega
 have e2:(List.replicate (m+1) (0:UInt8)++(be n k).drop (m+1)).set m (UInt8.ofNat (q % 256).toNat)=List.replicate m 0++(be n k).drop m:=by
  rw[hd,← hq,List.replicate_succ',C2,List.set_append_right _ _ (by simp)]
  simp
 rw[e,tg,e2,← e] at h
 exact h
theorem mD (n:Int) (k:Nat) (h0: -9223372036854775808≤n) (h1:n≤9223372036854775807) (hk:k≤8) :
 e8 Tryz.prog 42 #[.int .i64 n,.int .i64 k] (fun v N=>v= .string (aF (be n k))∧N = []):=by
 intro w
 have hmk:=uA k (by omega)
 go_enter Tryz.func42,Tryz.ntmps42
 go_wp2_with fail
 have HW:=Lib.hid ((Bm w).alloc (eV (List.replicate k 0)) 5)
 clear hmk
 go_loopw [0,6] (fun q i wr=> ∃ j:Nat,j≤k∧i= .int .i64 ((j:Int) - 1)∧q= .int .i64 (n / 2 ^ (8*(k - j)))∧St (fun _=>False) w [aC w.heap.size 5 (eV (List.replicate j 0++(be n k).drop j))] wr) (fun _ i _=>(intOf i+1).toNat)
 case atStart=>exact⟨k,by omega,rfl,by simp,by
  have e:(be n k).drop k = []:=List.drop_of_length_le (by simp[be])
  rw[e,DE]
  exact HW.out⟩
 case round =>
  obtain⟨j,hj,rfl,rfl,hst⟩:=hrel
  have hr:=zF n (8*(k - j)) h0 h1
  cases j with
  | zero =>
   have hs:=hst.blk 0 rfl
   have HS:=Lib.hid hst
   clear hst hr
   have hrow:wr.ownsRow 0 5 1 (.slice (some ⟨w.heap.size,0,none⟩) k k) k (aK (be n k)):=by
    refine⟨by simp[aK,be],.inr ⟨w.heap.size,k,_,rfl,Du _,hs,Dy _,by simp[maxLen]; omega,?_,?_⟩⟩
    ·simp[eV,aK,be]
    ·simp only[eV,List.replicate_zero,Db,List.drop_zero,Nat.mul_one]
     exact List.take_of_length_le (by simp[aK,be])
   have hc:=mA (P:=Tryz.prog) wr (src:=64) (dst:=9) Tryz.underlying64 Tryz.underlying5 Tryz.underlying9 hrow
   have HR:=Lib.hid hrow
   clear hrow hs
   go_wp2_with fail
   go_ret
   exact⟨_,_,rfl,⟨rfl,rfl⟩,HS.out.drop_⟩
  | succ m =>
   rw[show ((m+1:Nat):Int) - 1=m by omega]
   have hs:=hst.blk 0 rfl
   have hcell:wr.cell? ⟨w.heap.size,m,none⟩=some (.int .u8 0):=by
    rw[aI hs m,tf,List.getElem?_append_left (by simp)]
    simp
   have hfree:wr.frozen? ⟨w.heap.size,m,none⟩=false:=bd hs m
   have HN:=Lib.hid (xN n (k - (m+1)))
   have HQ:=Lib.hid (show n / 2 ^ (8*(k - (m+1)))=n / 2 ^ (8*(k - 1 - m)) by rw[show k - (m+1)=k - 1 - m by omega])
   have HS:=Lib.hid hst
   clear hst hs
   have hr1:=hr.1
   have hr2:=hr.2
   clear hr
   have HD:=Lib.hid (zC n k m (by omega))
   generalize hq:n / 2 ^ (8*(k - (m+1)))=q at *
   clear hq
   have hd:=zE q
   rcases zD q with⟨hm,hneg⟩ | ⟨hm,hneg⟩
   ·have hb1:q.tmod 256<256:=by omega
    have hb2: -9223372036854775808≤q - q.tmod 256:=by omega
    have hb3:q - q.tmod 256≤9223372036854775807:=by omega
    have HM:=Lib.hid hm
    have HDV:=Lib.hid hd
    clear hm hd
    go_wp2_with fail
    go_roundw
    case rel =>
     refine⟨m,by omega,rfl,?_,oG hj HS.out HD.out HQ.out HM.out⟩
     rw[HM.out,HDV.out,HN.out,show k - (m+1)+1=k - m by omega]
    case measure=>simp[intOf]
   ·have hb1: -256≤q.tmod 256:=by omega
    have hb2: -9223372036854775808≤q - (q.tmod 256+256):=by omega
    have hb3:q - (q.tmod 256+256)≤9223372036854775807:=by omega
    have HM:=Lib.hid (show q.tmod 256+256=q % 256 by omega)
    have HDV:=Lib.hid hd
    clear hm hd
    go_wp2_with fail
    go_roundw
    case rel =>
     refine⟨m,by omega,rfl,?_,oG hj HS.out HD.out HQ.out HM.out⟩
     rw[HM.out,HDV.out,HN.out,show k - (m+1)+1=k - m by omega]
    case measure=>simp[intOf]
theorem vM (n:Int) (k j:Nat) (h:j<k):(be n k).take (j+1)=(be n k).take j ++ [UInt8.ofNat ((n / (2 ^ (8*(k - 1 - j)):Int)) % 256).toNat]:=by
 rw[List.take_succ_eq_append_getElem (by simpa [be] using h)]
 simp[be]
theorem th (n:Int) (k:Nat) (h1:1≤k) (h8:k≤8):bu n k=true ↔ -(2 ^ (8*k - 1):Int)≤n∧n<(2 ^ (8*k - 1):Int):=by
 simp[bu]
 generalize (2 ^ (8*k - 1):Int)=z
 omega
theorem tj (q:Int):((UInt8.ofNat (q % 256).toNat).toNat:Int)=q % 256:=by
 simp[UInt8.toNat_ofNat']
 omega
theorem wO (n:Int) (k:Nat) (h8:k≤8) (hf:bu n k=true): ∀ j:Nat,j+1≤k→bk ((be n k).take (j+1))=n / 2 ^ (8*(k - 1 - j)):=by
 intro j
 induction j with
 | zero =>
  intro h
  have hb:=(th n k (by omega) h8).1 hf
  rw[vM n k 0 (by omega)]
  have e1:(2 ^ (8*k - 1):Int)=128*2 ^ (8*(k - 1 - 0)):=by
   rw[show 8*k - 1=7+8*(k - 1 - 0) by omega,Int.pow_add]
   rfl
  rw[e1] at hb
  have hp:(0:Int)<2 ^ (8*(k - 1 - 0)):=Int.pow_pos (by decide)
  have hl: -128≤n / 2 ^ (8*(k - 1 - 0)):=by
   rw[Int.le_ediv_iff_mul_le hp]; omega
  have hu:n / 2 ^ (8*(k - 1 - 0))<128:=by
   rw[Int.ediv_lt_iff_lt_mul hp]; omega
  generalize n / 2 ^ (8*(k - 1 - 0))=q at *
  have hv:=tj q
  generalize (UInt8.ofNat (q % 256).toNat)=c at *
  simp[bk,sgn]
  split <;> omega
 | succ j ih =>
  intro h
  have h2:=ih (by omega)
  rw[vM n k (j+1) (by omega),mC _ _ (ms (by simp[be]; omega) (by omega)),h2,tj]
  have h3:=xN n (k - 1 - (j+1))
  rw[show k - 1 - (j+1)+1=k - 1 - j by omega] at h3
  omega
theorem tk (n:Int) (k:Nat) (h1:1≤k) (h8:k≤8) (hf:bu n k=true):bk (be n k)=n:=by
 have h:=wO n k h8 hf (k - 1) (by omega)
 rw[show k - 1+1=k by omega,List.take_of_length_le (by simp[be])] at h
 rw[h,show k - 1 - (k - 1)=0 by omega]
 simp
theorem vN (n:Int) (k:Nat) (h1:1≤k) (h8:k≤8):(bk (be n k)=n)↔bu n k=true:=by
 constructor
 ·intro h
  rw[th n k h1 h8,← h]
  have:=lj (be n k) (by intro he; have:=congrArg List.length he; simp[be] at this; omega)
  rw[aA] at this
  rw[h] at this ⊢
  exact this
 ·exact tk n k h1 h8
theorem wQ (n size:Int) (h0: -9223372036854775808≤n) (h1:n≤9223372036854775807) :
 e8 Tryz.prog 116 #[.int .i64 n,.int .i64 size] (fun v N=>v= .bool (bu n size)∧N = []):=by
 intro w
 have HS:=Lib.hid (Bm w)
 by_cases hs:1≤size∧size≤8
 ·obtain⟨k,rfl⟩: ∃ k:Nat,size=k:=⟨size.toNat,by omega⟩
  have HI:=Lib.hid (vN n k (by omega) (by omega))
  have hlen:=aA n k
  go_enter Tryz.func116,Tryz.ntmps116
  go_wp2_with fail
  refine (HS.out.call0 (mD n k h0 h1 (by omega))).mono ?_
  rintro e w1 ⟨v,N,rfl,⟨rfl,rfl⟩,H1⟩
  have HS1:=Lib.hid H1
  clear H1
  go_wp2_with fail
  refine (pQ (be n k) (by rw[hlen]; omega) w1).mono ?_
  rintro e w2 ⟨rfl,rfl⟩
  go_wp2_with fail
  go_ret
  exact⟨_,_,rfl,⟨congrArg Value.bool (show (bk (be n k) == n)=bu n k by rw[Bool.eq_iff_iff,beq_iff_eq]; exact HI.out),rfl⟩,HS1.out⟩
 ·have HI:=Lib.hid (show bu n size=false by simp[bu]; omega)
  by_cases h2:size<1
  all_goals
   go_enter Tryz.func116,Tryz.ntmps116
   go_wp2_with fail
   go_ret
   exact⟨_,_,rfl,⟨by rw[HI.out]; rfl,rfl⟩,HS.out⟩
def Exit.jumps (J:Nat→Act→World→Prop) (Q:Exit→Act→World→Prop):Exit→Act→World→Prop
 | .goto l,a,w=>J l a w
 | e,a,w=>Q e a w
section
variable {J:Nat→Act→World→Prop} {Q:Exit→Act→World→Prop} {a:Act} {w:World}
end
section
variable {P:Program} {a:Act} {w:World} {Q:Exit→Act→World→Prop}
theorem pb {c:Code} (J:Nat→Act→World→Prop) (μ:Nat→Act→World→Nat)
 (pass: ∀ l a w,J l a w→ ∃ rest,findLabel c l=some (Code.skip.seq rest)∧rest.wp P (Exit.jumps (fun l' a' w'=>J l' a' w'∧μ l' a' w'<μ l a w) Q) a w)
 (first:(∀ l rest a w,findLabel c l=some (Code.skip.seq rest)→J l a w→rest.wp P (Exit.jumps J Q) a w)→c.wp P (Exit.jumps J Q) a w):(Code.scope c).wp P Q a w:=by
 intro b k cs
 have hg: ∀ l rest,findLabel c l=some rest→gotoIn l (.inScope c::k)=some (.code rest :: .inScope c::k):=fun l rest hf=>by simp[gotoIn,hf]
 have key: ∀ n l rest a w,findLabel c l=some (Code.skip.seq rest)→μ l a w=n→J l a w→ ∃ e a' w',Q e a' w'∧Arrives P (lone (b.at a (.code (Code.skip.seq rest) :: .inScope c::k)) cs w) b k cs e a' w':=by
  intro n
  induction n using Nat.strongRecOn with
  | _ n ih =>
   intro l rest a w hf hn hJ
   obtain⟨rest',hf',hp⟩:=pass l a w hJ
   rw[hf] at hf'
   injection hf' with hf'
   injection hf' with _ hf'
   subst hf'
   obtain⟨e,a₁,w₁,hq,harr⟩:=wp_seq (wp_skip (Q:=Exit.then _ _) hp) b (.inScope c::k) cs
   cases e with
   | normal=>exact⟨.normal,a₁,w₁,hq,Steps.trans harr (.one step_inScope)⟩
   | exit id=>exact⟨.exit id,a₁,w₁,hq,fun k' hk=>harr k' (by simp[exitTo,hk])⟩
   | goto l' =>
    obtain⟨hJ',hlt⟩:=hq
    obtain⟨rest₂,hf₂,_⟩:=pass l' a₁ w₁ hJ'
    obtain⟨e₂,a₂,w₂,hq₂,harr₂⟩:=ih _ (by omega) l' rest₂ a₁ w₁ hf₂ rfl hJ'
    exact⟨e₂,a₂,w₂,hq₂,.of_steps (harr _ (hg _ _ hf₂)) harr₂⟩
   | ret=>exact⟨_,a₁,w₁,hq,harr⟩
   | panic ch=>exact⟨_,a₁,w₁,hq,harr⟩
   | outgrown=>exact⟨_,a₁,w₁,hq,harr⟩
 obtain⟨e,a₁,w₁,hq,harr⟩:=first (fun l rest a w hf hJ=>by
  obtain⟨rest',hf',hp⟩:=pass l a w hJ
  rw[hf] at hf'
  injection hf' with hf'
  injection hf' with _ hf'
  subst hf'
  refine wp_mono hp ?_
  intro e a' w' h
  cases e <;> first | exact h | exact h.1) b (.inScope c::k) cs
 cases e with
 | normal=>exact⟨.normal,a₁,w₁,hq,.head step_scope (Steps.trans harr (.one step_inScope))⟩
 | exit id=>exact⟨.exit id,a₁,w₁,hq,fun k' hk=> .head step_scope (harr k' (by simp[exitTo,hk]))⟩
 | goto l' =>
  obtain⟨rest₂,hf₂,_⟩:=pass l' a₁ w₁ hq
  obtain⟨e₂,a₂,w₂,hq₂,harr₂⟩:=key _ l' rest₂ a₁ w₁ hf₂ rfl hq
  exact⟨e₂,a₂,w₂,hq₂,.of_steps (.head step_scope (harr _ (hg _ _ hf₂))) harr₂⟩
 | ret=>exact⟨_,a₁,w₁,hq,.of_steps (.one step_scope) harr⟩
 | panic ch=>exact⟨_,a₁,w₁,hq,.of_steps (.one step_scope) harr⟩
 | outgrown=>exact⟨_,a₁,w₁,hq,.of_steps (.one step_scope) harr⟩
end
def bB (n:Nat):List UInt8:=if n<128 then [UInt8.ofNat n] else UInt8.ofNat (n % 128+128)::bB (n / 128)
termination_by n
decreasing_by omega
def aN (n:Int):Nat:=if n<0 then (-(n+1)).toNat*2+1 else n.toNat*2
def cY (n:Nat):Int:=if n % 2=1 then -((n / 2:Nat):Int) - 1 else ((n / 2:Nat):Int)
theorem tl (k:Nat): ∀ n:Nat,n<128 ^ (k+1)→(bB n).length≤k+1:=by
 induction k with
 | zero=>intro n h; rw[bB,if_pos (by simpa using h)]; simp
 | succ k ih =>
  intro n h
  rw[bB]
  split
  ·simp
  ·have:=ih (n / 128) (by rw[Nat.div_lt_iff_lt_mul (by decide)]; rwa [Nat.pow_succ] at h)
   simp; omega
theorem iN (n:Nat):1≤(bB n).length:=by rw[bB]; split <;> simp
theorem e9 (n:Nat) (h:n<18446744073709551616):(bB n).length≤10:=tl 9 n (by omega)
theorem en (n:Int) (h0: -9223372036854775808≤n) (h1:n≤9223372036854775807):aN n<18446744073709551616:=by unfold aN; split <;> omega
theorem uB (n:Int):cY (aN n)=n:=by unfold cY aN; split <;> split <;> omega
theorem uC (n:Nat):aN (cY n)=n:=by unfold cY aN; split <;> split <;> omega
theorem zG (n:Int) (h0: -9223372036854775808≤n) (h1:n≤9223372036854775807) :
 bits .xor .u64 (IntKind.u64.wrap (wrap64 (n*2))) (IntKind.u64.wrap (n / 9223372036854775808))=(aN n:Int):=by
 have e1:IntKind.u64.wrap (wrap64 (n*2))=(n*2) % 18446744073709551616:=by rw[IntKind.wrap_u64]; unfold wrap64; omega
 rw[e1]
 show IntKind.u64.wrap ((BitVec.ofInt 64 _ ^^^ BitVec.ofInt 64 _).toNat:Int)= _
 rcases Int.lt_or_le n 0 with h | h
 ·have e2:IntKind.u64.wrap (n / 9223372036854775808)=18446744073709551615:=by rw[IntKind.wrap_u64]; omega
  rw[e2,show BitVec.ofInt 64 18446744073709551615=BitVec.allOnes 64 by decide,BitVec.xor_allOnes,BitVec.toNat_not,BitVec.toNat_ofInt,IntKind.wrap_u64]
  simp only[aN,if_pos h]
  omega
 ·have e2:IntKind.u64.wrap (n / 9223372036854775808)=0:=by rw[IntKind.wrap_u64]; omega
  rw[e2,show BitVec.ofInt 64 0=0#64 by decide,BitVec.xor_zero,BitVec.toNat_ofInt,IntKind.wrap_u64]
  simp only[aN,if_neg (show ¬ n<0 by omega)]
  omega
theorem vO (n m:Nat) (hn:n<18446744073709551616) (hm:m<18446744073709551616):bits .and .u64 n m=((n &&& m:Nat):Int):=by
 show IntKind.u64.wrap ((BitVec.ofInt 64 _ &&& BitVec.ofInt 64 _).toNat:Int)= _
 rw[BitVec.toNat_and,BitVec.toNat_ofInt,BitVec.toNat_ofInt,IntKind.wrap_u64]
 have e1:((n:Int) % (2 ^ 64:Nat)).toNat=n:=by omega
 have e2:((m:Int) % (2 ^ 64:Nat)).toNat=m:=by omega
 rw[e1,e2]
 have:n &&& m≤m:=Nat.and_le_right
 omega
theorem wR (n:Nat) (hn:n<18446744073709551616):bits .and .u64 n 1=((n % 2:Nat):Int):=by
 have h:=vO n 1 hn (by decide)
 rw[Nat.and_one_is_mod] at h
 exact h
theorem zH (n:Nat) (hn:n<18446744073709551616):bits .xor .i64 ((n:Int) / 2) (wrap64 (-wrap64 (bits .and .u64 n 1)))=cY n:=by
 rw[wR n hn]
 show IntKind.i64.wrap ((BitVec.ofInt 64 _ ^^^ BitVec.ofInt 64 _).toNat:Int)= _
 rcases Nat.mod_two_eq_zero_or_one n with h | h
 ·rw[h]
  have e2:wrap64 (-wrap64 ((0:Nat):Int))=0:=by unfold wrap64; omega
  rw[e2,show BitVec.ofInt 64 0=0#64 by decide,BitVec.xor_zero,BitVec.toNat_ofInt,IntKind.wrap_i64]
  simp only[cY,h]
  simp
  omega
 ·rw[h]
  have e2:wrap64 (-wrap64 ((1:Nat):Int))= -1:=by unfold wrap64; omega
  rw[e2,show BitVec.ofInt 64 (-1)=BitVec.allOnes 64 by decide,BitVec.xor_allOnes,BitVec.toNat_not,BitVec.toNat_ofInt,IntKind.wrap_i64]
  simp only[cY,h]
  simp
  omega
theorem zI: ∀ x:Fin 256,bits .or .u8 ((x.val:Nat):Int) 128=((x.val % 128+128:Nat):Int):=by decide
theorem or_128 (x:Nat) (h:x<256):bits .or .u8 (x:Int) 128=((x % 128+128:Nat):Int):=zI ⟨x,h⟩
theorem rn (n:Int) (h0: -9223372036854775808≤n) (h1:n≤9223372036854775807) (w:World) :
 Calls Tryz.prog 176 #[.int .i64 n] w fun e w'=>e= .returned (.int .u64 (aN n))∧w=w':=by
 have H:=Lib.hid (zG n h0 h1)
 go_enter Tryz.func176,Tryz.ntmps176
 go_wp2_with fail
 go_ret
 exact⟨fu H.out,rfl⟩
theorem ro (n:Nat) (hn:n<18446744073709551616) (w:World) :
 Calls Tryz.prog 177 #[.int .u64 n] w fun e w'=>e= .returned (.int .i64 (cY n))∧w=w':=by
 have H:=Lib.hid (zH n hn)
 go_enter Tryz.func177,Tryz.ntmps177
 go_wp2_with fail
 go_ret
 exact⟨fu H.out,rfl⟩
theorem rp (b:Nat) (st:List UInt8×Int) (n:Nat) (hn:n<18446744073709551616) (hl:st.1.length+10≤140737488355328) :
 ez Tryz.prog 175 #[.pointer (some ⟨b,0,none⟩),.int .u64 n] (aW b st) (fun v A' N=>v= .tuple #[]∧A'=aW b (fF st (bB n))∧N = []):=by
 intro F w hA
 have HA:=Lib.hid (AU F w (Sep.one hA))
 clear hA
 have HT:=Lib.hid (e9 n hn)
 go_enter Tryz.func175,Tryz.ntmps175
 go_wp2_with fail
 go_loopw [1] (fun i wr=> ∃ (m:Nat) (p:List UInt8),m≤n∧p++bB m=bB n∧i= .int .u64 m∧St F w [aW b (fF st p)] wr) (fun i _=>(intOf i).toNat)
 case atStart=>exact⟨n,[],Dy _,rfl,rfl,by rw[te]; exact HA.out⟩
 case round =>
  obtain⟨m,p,hm,hp,rfl,hst⟩:=hrel
  have hlen:(fF st p).1.length+1≤140737488355328:=by
   have h1:=mW st p
   have h2:=HT.out
   have h3:=iN m
   rw[← hp,CW] at h2
   omega
  have HS:=Lib.hid hst
  clear hst
  by_cases hlt:128≤m
  ·have ho:=or_128 (m % 256) (by omega)
   have e1:(m:Int) % 256=((m % 256:Nat):Int):=by omega
   rw[← e1] at ho
   have e2:m % 256 % 128=m % 128:=by omega
   rw[e2] at ho
   have HO:=Lib.hid ho
   have HP:=Lib.hid (show p ++ [UInt8.ofNat (m % 128+128)]++bB (m / 128)=bB n by rw[← hp,bB.eq_1 m,if_neg (by omega)]; simp)
   clear hp ho e1 e2
   go_wp2_with fail
   rw[HO.out]
   refine (HS.out.call 0 rfl (kq b _ ((m % 128+128:Nat):Int) (by omega) (by omega) hlen)).mono ?_
   rintro e w1 ⟨v,A',N,rfl,⟨rfl,rfl,rfl⟩,H1⟩
   rw[nF,Dg] at H1
   have HS1:=Lib.hid H1
   clear H1
   go_wp2_with fail
   go_roundw
   case rel=>exact⟨m / 128,_,by omega,HP.out,by go_num,HS1.out⟩
   case measure=>simp[intOf]; omega
  ·have e1:(m:Int) % 256=((m:Nat):Int):=by omega
   have HO:=Lib.hid e1
   have HP:=Lib.hid (show p ++ [UInt8.ofNat m]=bB n by rw[← hp,bB.eq_1 m,if_pos (by omega)])
   clear hp e1
   go_wp2_with fail
   refine (HS.out.call 0 rfl (kq b _ (m:Int) (by omega) (by omega) hlen)).mono ?_
   rintro e w1 ⟨v,A',N,rfl,⟨rfl,rfl,rfl⟩,H1⟩
   rw[nF,Dg,HP.out] at H1
   have HS1:=Lib.hid H1
   clear H1
   go_wp2_with fail
   go_end0
   exact⟨_,_,_,rfl,⟨rfl,rfl,rfl⟩,HS1.out⟩
theorem qZ (b:Nat) (st:List UInt8×Int) (n:Int) (h0: -9223372036854775808≤n) (h1:n≤9223372036854775807) (hl:st.1.length+10≤140737488355328) :
 ez Tryz.prog 159 #[.pointer (some ⟨b,0,none⟩),.int .i64 n] (aW b st) (fun v A' N=>v= .tuple #[]∧A'=aW b (fF st (bB (aN n)))∧N = []):=by
 intro F w hA
 have HA:=Lib.hid (AU F w (Sep.one hA))
 clear hA
 go_enter Tryz.func159,Tryz.ntmps159
 go_wp2_with fail
 refine (rn n h0 h1 w).mono ?_
 rintro e w' ⟨rfl,rfl⟩
 go_wp2_with fail
 refine (HA.out.call 0 rfl (rp b _ (aN n) (en n h0 h1) hl)).mono ?_
 rintro e w1 ⟨v,A',N,rfl,⟨rfl,rfl,rfl⟩,H1⟩
 have HS1:=Lib.hid H1
 clear H1
 go_wp2_with fail
 go_end0
 exact⟨_,_,_,rfl,⟨rfl,rfl,rfl⟩,HS1.out⟩
def iA (st:List UInt8×Int) (n:Int):List UInt8×Int:=if -2147483648≤n∧n≤2147483647 then fF st (bB (aN n)) else iM st 11
theorem ik (n:Int):bu n 4=decide (-2147483648≤n∧n≤2147483647):=by
 have h1:(2 ^ (8*(4:Int).toNat - 1):Int)=2147483648:=by decide
 unfold bu
 rw[h1,Bool.eq_iff_iff]
 simp
theorem mZ (b:Nat) (st:List UInt8×Int) (n:Int) (h0: -9223372036854775808≤n) (h1:n≤9223372036854775807) (hl:st.1.length+10≤140737488355328) :
 ez Tryz.prog 160 #[.pointer (some ⟨b,0,none⟩),.int .i64 n] (aW b st) (fun v A' N=>v= .tuple #[]∧A'=aW b (iA st n)∧N = []):=by
 intro F w hA
 have HA:=Lib.hid (AU F w (Sep.one hA))
 clear hA
 by_cases hf: -2147483648≤n∧n≤2147483647
 ·have HF:=Lib.hid (show bu n 4=true by rw[ik]; simp[hf])
  have HE:=Lib.hid (show iA st n=fF st (bB (aN n)) by simp[iA,hf])
  go_enter Tryz.func160,Tryz.ntmps160
  go_wp2_with fail
  refine (li n 4 w h0 h1).mono ?_
  rintro e w' ⟨rfl,rfl⟩
  rw[HF.out]
  go_wp2_with fail
  refine (rn n h0 h1 w).mono ?_
  rintro e w' ⟨rfl,rfl⟩
  go_wp2_with fail
  refine (HA.out.call 0 rfl (rp b _ (aN n) (en n h0 h1) hl)).mono ?_
  rintro e w1 ⟨v,A',N,rfl,⟨rfl,rfl,rfl⟩,H1⟩
  have HS1:=Lib.hid H1
  clear H1
  go_wp2_with fail
  go_end0
  exact⟨_,_,_,rfl,⟨rfl,by rw[HE.out],rfl⟩,HS1.out⟩
 ·have HF:=Lib.hid (show bu n 4=false by rw[ik]; simp; omega)
  have HE:=Lib.hid (show iA st n=iM st 11 by simp[iA,hf])
  clear hf
  go_enter Tryz.func160,Tryz.ntmps160
  go_wp2_with fail
  refine (li n 4 w h0 h1).mono ?_
  rintro e w' ⟨rfl,rfl⟩
  rw[HF.out]
  go_wp2_with fail
  refine (HA.out.call 0 rfl (lY b st 11)).mono ?_
  rintro e w1 ⟨v,A',N,rfl,⟨rfl,rfl,rfl⟩,H1⟩
  have HS1:=Lib.hid H1
  clear H1
  go_wp2_with fail
  go_end0
  exact⟨_,_,_,rfl,⟨rfl,by rw[HE.out],rfl⟩,HS1.out⟩
def vgo (bits:Int):List UInt8→Nat→Nat→Nat→Nat×I
 | [],pos,acc,i=>(0,⟨[],pos,1⟩)
 | c::l,pos,acc,i =>
  if bits - 7*i≤0∨(bits - 7*i<7∧c.toNat % 128 / 2 ^ (bits - 7*i).toNat≠0) then (0,⟨l,pos+1,3⟩)
  else if 128≤c.toNat then vgo bits l (pos+1) (acc+c.toNat % 128*2 ^ (7*i)) (i+1)
  else if c.toNat=0∧0<i then (0,⟨l,pos+1,3⟩)
  else (acc+c.toNat % 128*2 ^ (7*i),⟨l,pos+1,0⟩)
def dq (bits:Int) (st:I):Nat×I:=if st.err≠0 then (0,st) else vgo bits st.rest st.pos 0 0
theorem wT (c:UInt8) (l:List UInt8) (pos:Nat):bG ⟨c::l,pos,0⟩ 1=([c],⟨l,pos+1,0⟩):=by
 unfold bG
 rw[if_neg (by simp),if_neg (by omega),if_neg (by simp only[C5]; omega)]
 simp
theorem uD (pos:Nat):bG ⟨[],pos,0⟩ 1=([],⟨[],pos,1⟩):=by
 unfold bG
 rw[if_neg (by simp),if_neg (by omega),if_pos (by simp)]
 done
theorem oH (d:Nat) (hd:d<256):bits .and .u64 d 127=((d % 128:Nat):Int):=by
 have h:=vO d 127 (by omega) (by decide)
 rw[Nat.and_two_pow_sub_one_eq_mod d 7] at h
 exact h
theorem rq (k:Nat) {d:Nat} (hd:d<256):(bits .and .u64 d 127 / 2 ^ k != 0)=decide (d % 128 / 2 ^ k≠0):=by
 rw[oH d hd,show ((d % 128:Nat):Int) / 2 ^ k=((d % 128 / 2 ^ k:Nat):Int) by rw[Int.natCast_ediv,Int.natCast_pow]; rfl]
 generalize d % 128 / 2 ^ k=z
 rw[Bool.eq_iff_iff]
 simp
theorem so: ∀ d:Fin 256,(bits .and .u64 ((d.val:Nat):Int) 128 != 0)=decide (128≤d.val):=by decide
theorem jo (d:Nat) (hd:d<256):(bits .and .u64 d 128 != 0)=decide (128≤d):=so ⟨d,hd⟩
theorem jp (bs:Int) (hb:bs=32∨bs=64) (acc x i:Nat) (hacc:acc<2 ^ (7*i)) (hl:0<bs - 7*i) (hx:x<128) (hd: ¬ (bs - 7*i<7∧x / 2 ^ (bs - 7*i).toNat≠0)) :
 acc+x*2 ^ (7*i)<2 ^ (7*(i+1))∧acc+x*2 ^ (7*i)<2 ^ bs.toNat:=by
 have e1:2 ^ (7*(i+1))=128*2 ^ (7*i):=by rw[show 7*(i+1)=7+7*i by omega,Nat.pow_add]
 have e2:2 ^ bs.toNat=2 ^ (bs - 7*i).toNat*2 ^ (7*i):=by rw[← Nat.pow_add]; congr 1; omega
 have h1:x<2 ^ (bs - 7*i).toNat:=by
  by_cases h7:bs - 7*i<7
  ·have h2:x / 2 ^ (bs - 7*i).toNat=0:=by
    rcases Nat.eq_zero_or_pos (x / 2 ^ (bs - 7*i).toNat) with h | h
    ·exact h
    ·exact absurd ⟨h7,by omega⟩ hd
   exact (Nat.div_eq_zero_iff.1 h2).resolve_left (by have:=Nat.two_pow_pos (bs - 7*i).toNat; omega)
  ·have:2 ^ 7≤2 ^ (bs - 7*i).toNat:=Nat.pow_le_pow_right (by decide) (by omega)
   omega
 have h3:(x+1)*2 ^ (7*i)≤2 ^ (bs - 7*i).toNat*2 ^ (7*i):=Nat.mul_le_mul_right _ h1
 have h4:(x+1)*2 ^ (7*i)≤128*2 ^ (7*i):=Nat.mul_le_mul_right _ hx
 rw[Nat.add_mul] at h3 h4
 rw[e1,e2]
 omega
theorem vP (bs:Int) (hb:bs=32∨bs=64) (acc d i:Nat) (hacc:acc<2 ^ (7*i)) (hdd:d<256) (hl:0<bs - 7*i) (hd: ¬ (bs - 7*i<7∧d % 128 / 2 ^ (bs - 7*i).toNat≠0)) :
 bits .or .u64 acc (IntKind.u64.wrap (bits .and .u64 d 127*2 ^ (7*i)))=((acc+d % 128*2 ^ (7*i):Nat):Int):=by
 obtain⟨_,h2⟩:=jp bs hb acc (d % 128) i hacc hl (by omega) hd
 have h3:2 ^ bs.toNat≤18446744073709551616:=by rcases hb with rfl | rfl <;> decide
 have hlt:acc+d % 128*2 ^ (7*i)<18446744073709551616:=by omega
 rw[oH d hdd]
 have e1:((d % 128:Nat):Int)*2 ^ (7*i)=((d % 128*2 ^ (7*i):Nat):Int):=by rw[Int.natCast_mul,Int.natCast_pow]; rfl
 have e0:=Nat.two_pow_add_eq_or_of_lt hacc (d % 128)
 rw[Nat.mul_comm] at e0
 rw[e1]
 generalize d % 128*2 ^ (7*i)=y at *
 have e2:IntKind.u64.wrap (y:Int)=y:=by rw[IntKind.wrap_u64]; omega
 rw[e2]
 show IntKind.u64.wrap ((BitVec.ofInt 64 _ ||| BitVec.ofInt 64 _).toNat:Int)= _
 rw[BitVec.toNat_or,BitVec.toNat_ofInt,BitVec.toNat_ofInt]
 have e3:((acc:Int) % (2 ^ 64:Nat)).toNat=acc:=by omega
 have e4:((y:Int) % (2 ^ 64:Nat)).toNat=y:=by omega
 rw[e3,e4,Nat.or_comm,← e0,IntKind.wrap_u64]
 omega
attribute [local go_sem] dz bsOf_size
theorem xO (b:Nat) (st:I) (bs:Int) (h0:st.err≠0) :
 ez Tryz.prog 178 #[.pointer (some ⟨b,0,none⟩),.int .i64 bs] (InR b st) (fun v A' N=>v= .int .u64 0∧A'=InR b st∧N = []):=by
 intro F w hA
 have HA:=Lib.hid (AU F w (Sep.one hA))
 clear hA
 have HT:=Lib.hid (show bG st 1=([],st) by simp[bG,h0])
 go_enter Tryz.func178,Tryz.ntmps178
 go_wp2_with fail
 go_step3
 go_wp2_with fail
 go_step3
 go_wp2_with fail
 refine (HA.out.call 0 rfl (cW b st 1 (by omega) (by omega))).mono ?_
 rintro e w1 ⟨v,A',N,rfl,⟨rfl,rfl,rfl⟩,H1⟩
 rw[HT.out] at H1 ⊢
 have HS1:=Lib.hid H1
 clear H1
 go_wp2_with fail
 go_ret
 exact⟨_,_,_,rfl,⟨rfl,rfl,rfl⟩,HS1.out⟩
def VJ (F:Nat→Prop) (w:World) (b:Nat) (bs:Int) (res:Nat×I) (lab:Nat) (a':Act) (w':World):Prop :=
 (lab=0∧ ∃ (l1:List UInt8) (pos1 acc i:Nat),St F w [InR b ⟨l1,pos1,0⟩] w'∧acc<2 ^ (7*i)∧7*i<bs+7∧vgo bs l1 pos1 acc i=res ∧
  ∃ u7 u8 u9 u10 u11 u12 u13 u14 u15 u16 u17 u18 u19 u20 u21 u22 u23 u24 u25 u26 u27 u28 u29 u30 u31 u32 u33 u34 u35 u36 u37 u38 u39 u40 u41 u42 u43 u44 u45 u46 u47 u48 u49 u50 u51 u52 u53 u54 u55,a' = { tmps:= #[.pointer (some ⟨b,0,none⟩),.int .i64 bs,undef,undef,.int .u64 0,.int .u64 acc,.int .i64 (7*i),u7,u8,u9,u10,u11,u12,u13,u14,u15,u16,u17,u18,u19,u20,u21,u22,u23,u24,u25,u26,u27,u28,u29,u30,u31,u32,u33,u34,u35,u36,u37,u38,u39,u40,u41,u42,u43,u44,u45,u46,u47,u48,u49,u50,u51,u52,u53,u54,u55],defers := [] }) ∨
 (lab=1∧ ∃ (l1:List UInt8) (pos1:Nat),St F w [InR b ⟨l1,pos1,0⟩] w'∧(0,⟨l1,pos1,3⟩)=res ∧
  ∃ u5 u6 u7 u8 u9 u10 u11 u12 u13 u14 u15 u16 u17 u18 u19 u20 u21 u22 u23 u24 u25 u26 u27 u28 u29 u30 u31 u32 u33 u34 u35 u36 u37 u38 u39 u40 u41 u42 u43 u44 u45 u46 u47 u48 u49 u50 u51 u52 u53 u54 u55,a' = { tmps:= #[.pointer (some ⟨b,0,none⟩),.int .i64 bs,undef,undef,.int .u64 0,u5,u6,u7,u8,u9,u10,u11,u12,u13,u14,u15,u16,u17,u18,u19,u20,u21,u22,u23,u24,u25,u26,u27,u28,u29,u30,u31,u32,u33,u34,u35,u36,u37,u38,u39,u40,u41,u42,u43,u44,u45,u46,u47,u48,u49,u50,u51,u52,u53,u54,u55],defers := [] })
def VM (lab:Nat) (a':Act) (_:World):Nat:=if lab=1 then 0 else 100 - (intOf (a'.tmps.getD 6 undef)).toNat
theorem Uns_go (b:Nat) (l:List UInt8) (pos:Nat) (bs:Int) (hb:bs=32∨bs=64) :
 ez Tryz.prog 178 #[.pointer (some ⟨b,0,none⟩),.int .i64 bs] (InR b ⟨l,pos,0⟩) (fun v A' N=>v= .int .u64 (vgo bs l pos 0 0).1∧A'=InR b (vgo bs l pos 0 0).2∧N = []):=by
 intro F w hA
 have HA:=Lib.hid (AU F w (Sep.one hA))
 clear hA
 generalize hres:vgo bs l pos 0 0=res
 go_enter Tryz.func178,Tryz.ntmps178
 go_wp2_with fail
 refine pb (VJ F w b bs res) VM ?_ ?_
 ·rintro lab a' w1 (⟨rfl,l1,pos1,acc,i,hst,hacc,hi,hg,u7,u8,u9,u10,u11,u12,u13,u14,u15,u16,u17,u18,u19,u20,u21,u22,u23,u24,u25,u26,u27,u28,u29,u30,u31,u32,u33,u34,u35,u36,u37,u38,u39,u40,u41,u42,u43,u44,u45,u46,u47,u48,u49,u50,u51,u52,u53,u54,u55,rfl⟩ | ⟨rfl,l1,pos1,hst,hg,u5,u6,u7,u8,u9,u10,u11,u12,u13,u14,u15,u16,u17,u18,u19,u20,u21,u22,u23,u24,u25,u26,u27,u28,u29,u30,u31,u32,u33,u34,u35,u36,u37,u38,u39,u40,u41,u42,u43,u44,u45,u46,u47,u48,u49,u50,u51,u52,u53,u54,u55,rfl⟩)
  ·refine⟨_,rfl,?_⟩
   have HS:=Lib.hid hst
   have HG:=Lib.hid hg
   have HACC:=Lib.hid hacc
   have hb1:bs≤64:=by omega
   clear hst hg hacc
   cases l1 with
   | nil =>
    have HT:=Lib.hid (uD pos1)
    go_wp2_with fail
    refine (HS.out.call 0 rfl (cW b _ 1 (by omega) (by omega))).mono ?_
    rintro e w2 ⟨v,A',N,rfl,⟨rfl,rfl,rfl⟩,H1⟩
    rw[HT.out] at H1 ⊢
    have HS1:=Lib.hid H1
    clear H1
    go_wp2_with fail
    go_ret
    exact⟨_,_,_,rfl,⟨by rw[← HG.out]; rfl,by rw[← HG.out]; rfl,rfl⟩,HS1.out⟩
   | cons c l2 =>
    have HT:=Lib.hid (wT c l2 pos1)
    have hsz:=bsOf_size [c]
    have h0:=lk [c] 0 (by simp[bsOf_size])
    simp only[List.getElem_cons_zero] at h0
    have hc:c.toNat<256:=c.toNat_lt
    by_cases hl:bs - 7*i≤0
    ·have HV:=Lib.hid (show (0,⟨l2,pos1+1,3⟩)=res by rw[← HG.out,vgo,if_pos (by first | exact .inl hl | exact .inr ⟨by omega,hq⟩)])
     by_cases hz:(bits .and .u64 c.toNat 127 != 0)=true
     ·go_wp2_with fail
      refine (HS.out.call 0 rfl (cW b _ 1 (by omega) (by omega))).mono ?_
      rintro e w2 ⟨v,A',N,rfl,⟨rfl,rfl,rfl⟩,H1⟩
      rw[HT.out] at H1 ⊢
      have HS1:=Lib.hid H1
      clear H1
      go_wp2_with fail
      go_step3
      exact⟨.inr ⟨rfl,l2,pos1+1,HS1.out,HV.out,_,_,_,_,_,_,_,_,_,_,_,_,_,_,_,_,_,_,_,_,_,_,_,_,_,_,_,_,_,_,_,_,_,_,_,_,_,_,_,_,_,_,_,_,_,_,_,_,_,_,_,rfl⟩,by simp[VM,intOf]; omega⟩
     ·have hz':(bits .and .u64 c.toNat 127 != 0)=false:=by simpa using hz
      go_wp2_with fail
      refine (HS.out.call 0 rfl (cW b _ 1 (by omega) (by omega))).mono ?_
      rintro e w2 ⟨v,A',N,rfl,⟨rfl,rfl,rfl⟩,H1⟩
      rw[HT.out] at H1 ⊢
      have HS1:=Lib.hid H1
      clear H1
      go_wp2_with fail
      go_step3
      exact⟨.inr ⟨rfl,l2,pos1+1,HS1.out,HV.out,_,_,_,_,_,_,_,_,_,_,_,_,_,_,_,_,_,_,_,_,_,_,_,_,_,_,_,_,_,_,_,_,_,_,_,_,_,_,_,_,_,_,_,_,_,_,_,_,_,_,_,rfl⟩,by simp[VM,intOf]; omega⟩
    ·have hl':0<bs - 7*i:=by omega
     by_cases hl7:7≤bs - 7*i
     ·have HD:=Lib.hid (show ¬ (bs - 7*i<7∧c.toNat % 128 / 2 ^ (bs - 7*i).toNat≠0) by omega)
      have HA2:=Lib.hid (vP bs hb acc c.toNat i HACC.out (by omega) hl' HD.out)
      have HLT:=Lib.hid (jp bs hb acc (c.toNat % 128) i HACC.out hl' (by omega) HD.out)
      have HN:=Lib.hid (show ¬ (bs - 7*i≤0∨(bs - 7*i<7∧c.toNat % 128 / 2 ^ (bs - 7*i).toNat≠0)) from fun h=>h.elim (fun h=>by omega) HD.out)
      by_cases h128:128≤c.toNat
      ·have HV:=Lib.hid (show vgo bs l2 (pos1+1) (acc+c.toNat % 128*2 ^ (7*i)) (i+1)=res by rw[← HG.out,vgo,if_neg HN.out,if_pos h128])
       have hbt:(bits .and .u64 c.toNat 128 != 0)=true:=by rw[jo _ hc]; simpa using h128
       go_wp2_with fail
       refine (HS.out.call 0 rfl (cW b _ 1 (by omega) (by omega))).mono ?_
       rintro e w2 ⟨v,A',N,rfl,⟨rfl,rfl,rfl⟩,H1⟩
       rw[HT.out] at H1 ⊢
       have HS1:=Lib.hid H1
       clear H1
       go_wp2_with fail
       go_step3
       rw[HA2.out,show (7*(i:Int)+7)=7*((i+1:Nat):Int) by omega]
       exact⟨.inl ⟨rfl,l2,pos1+1,_,i+1,HS1.out,HLT.out.1,by omega,HV.out,_,_,_,_,_,_,_,_,_,_,_,_,_,_,_,_,_,_,_,_,_,_,_,_,_,_,_,_,_,_,_,_,_,_,_,_,_,_,_,_,_,_,_,_,_,_,_,_,_,rfl⟩,by simp[VM,intOf]; omega⟩
      ·have hbt:(bits .and .u64 c.toNat 128 != 0)=false:=by rw[jo _ hc]; simpa using h128
       by_cases hz:c.toNat=0∧0<i
       ·have HV:=Lib.hid (show (0,⟨l2,pos1+1,3⟩)=res by rw[← HG.out,vgo,if_neg HN.out,if_neg h128,if_pos hz])
        obtain⟨hz1,hz2⟩:=hz
        have hz0:((c.toNat:Int) == 0)=true:=by simp[hz1]
        try (have hq0:(bits .and .u64 0 127 / 2 ^ (bs - 7*i).toNat != 0)=false:=by (rw[← hqb,hz1]; rfl))
        have hi0:0<7*(i:Int):=by omega
        go_wp2_with fail
        refine (HS.out.call 0 rfl (cW b _ 1 (by omega) (by omega))).mono ?_
        rintro e w2 ⟨v,A',N,rfl,⟨rfl,rfl,rfl⟩,H1⟩
        rw[HT.out] at H1 ⊢
        have HS1:=Lib.hid H1
        clear H1
        go_wp2_with fail
        go_step3
        exact⟨.inr ⟨rfl,l2,pos1+1,HS1.out,HV.out,_,_,_,_,_,_,_,_,_,_,_,_,_,_,_,_,_,_,_,_,_,_,_,_,_,_,_,_,_,_,_,_,_,_,_,_,_,_,_,_,_,_,_,_,_,_,_,_,_,_,_,rfl⟩,by simp[VM,intOf]; omega⟩
       ·have HV:=Lib.hid (show (acc+c.toNat % 128*2 ^ (7*i),⟨l2,pos1+1,0⟩)=res by rw[← HG.out,vgo,if_neg HN.out,if_neg h128,if_neg hz])
        by_cases hz1:c.toNat=0
        ·have hz0:((c.toNat:Int) == 0)=true:=by simp[hz1]
         try (have hq0:(bits .and .u64 0 127 / 2 ^ (bs - 7*i).toNat != 0)=false:=by (rw[← hqb,hz1]; rfl))
         have HA3:=Lib.hid (show bits .or .u64 acc (IntKind.u64.wrap (bits .and .u64 0 127*2 ^ (7*i)))=((acc+c.toNat % 128*2 ^ (7*i):Nat):Int) by rw[← HA2.out,hz1]; rfl)
         have hi0: ¬ (0<7*(i:Int)):=by omega
         go_wp2_with fail
         refine (HS.out.call 0 rfl (cW b _ 1 (by omega) (by omega))).mono ?_
         rintro e w2 ⟨v,A',N,rfl,⟨rfl,rfl,rfl⟩,H1⟩
         rw[HT.out] at H1 ⊢
         have HS1:=Lib.hid H1
         clear H1
         go_wp2_with fail
         all_goals
          go_ret
          exact⟨_,_,_,rfl,⟨by rw[← HV.out]; exact congrArg (Value.int IntKind.u64) HA3.out,by rw[← HV.out],rfl⟩,HS1.out⟩
        ·have hz0:((c.toNat:Int) == 0)=false:=by simp; omega
         go_wp2_with fail
         refine (HS.out.call 0 rfl (cW b _ 1 (by omega) (by omega))).mono ?_
         rintro e w2 ⟨v,A',N,rfl,⟨rfl,rfl,rfl⟩,H1⟩
         rw[HT.out] at H1 ⊢
         have HS1:=Lib.hid H1
         clear H1
         go_wp2_with fail
         go_ret
         exact⟨_,_,_,rfl,⟨by rw[← HV.out]; exact congrArg (Value.int IntKind.u64) HA2.out,by rw[← HV.out],rfl⟩,HS1.out⟩
     ·by_cases hq:c.toNat % 128 / 2 ^ (bs - 7*i).toNat≠0
      ·have HV:=Lib.hid (show (0,⟨l2,pos1+1,3⟩)=res by rw[← HG.out,vgo,if_pos (by first | exact .inl hl | exact .inr ⟨by omega,hq⟩)])
       have hqb:(bits .and .u64 c.toNat 127 / 2 ^ (bs - 7*i).toNat != 0)=true:=by rw[rq _ hc]; simpa using hq
       go_wp2_with fail
       refine (HS.out.call 0 rfl (cW b _ 1 (by omega) (by omega))).mono ?_
       rintro e w2 ⟨v,A',N,rfl,⟨rfl,rfl,rfl⟩,H1⟩
       rw[HT.out] at H1 ⊢
       have HS1:=Lib.hid H1
       clear H1
       go_wp2_with fail
       go_step3
       exact⟨.inr ⟨rfl,l2,pos1+1,HS1.out,HV.out,_,_,_,_,_,_,_,_,_,_,_,_,_,_,_,_,_,_,_,_,_,_,_,_,_,_,_,_,_,_,_,_,_,_,_,_,_,_,_,_,_,_,_,_,_,_,_,_,_,_,_,rfl⟩,by simp[VM,intOf]; omega⟩
      ·have hqb:(bits .and .u64 c.toNat 127 / 2 ^ (bs - 7*i).toNat != 0)=false:=by rw[rq _ hc]; simpa using hq
       have HD:=Lib.hid (show ¬ (bs - 7*i<7∧c.toNat % 128 / 2 ^ (bs - 7*i).toNat≠0) by omega)
       have HA2:=Lib.hid (vP bs hb acc c.toNat i HACC.out (by omega) hl' HD.out)
       have HLT:=Lib.hid (jp bs hb acc (c.toNat % 128) i HACC.out hl' (by omega) HD.out)
       have HN:=Lib.hid (show ¬ (bs - 7*i≤0∨(bs - 7*i<7∧c.toNat % 128 / 2 ^ (bs - 7*i).toNat≠0)) from fun h=>h.elim (fun h=>by omega) HD.out)
       by_cases h128:128≤c.toNat
       ·have HV:=Lib.hid (show vgo bs l2 (pos1+1) (acc+c.toNat % 128*2 ^ (7*i)) (i+1)=res by rw[← HG.out,vgo,if_neg HN.out,if_pos h128])
        have hbt:(bits .and .u64 c.toNat 128 != 0)=true:=by rw[jo _ hc]; simpa using h128
        go_wp2_with fail
        refine (HS.out.call 0 rfl (cW b _ 1 (by omega) (by omega))).mono ?_
        rintro e w2 ⟨v,A',N,rfl,⟨rfl,rfl,rfl⟩,H1⟩
        rw[HT.out] at H1 ⊢
        have HS1:=Lib.hid H1
        clear H1
        go_wp2_with fail
        go_step3
        rw[HA2.out,show (7*(i:Int)+7)=7*((i+1:Nat):Int) by omega]
        exact⟨.inl ⟨rfl,l2,pos1+1,_,i+1,HS1.out,HLT.out.1,by omega,HV.out,_,_,_,_,_,_,_,_,_,_,_,_,_,_,_,_,_,_,_,_,_,_,_,_,_,_,_,_,_,_,_,_,_,_,_,_,_,_,_,_,_,_,_,_,_,_,_,_,_,rfl⟩,by simp[VM,intOf]; omega⟩
       ·have hbt:(bits .and .u64 c.toNat 128 != 0)=false:=by rw[jo _ hc]; simpa using h128
        by_cases hz:c.toNat=0∧0<i
        ·have HV:=Lib.hid (show (0,⟨l2,pos1+1,3⟩)=res by rw[← HG.out,vgo,if_neg HN.out,if_neg h128,if_pos hz])
         obtain⟨hz1,hz2⟩:=hz
         have hz0:((c.toNat:Int) == 0)=true:=by simp[hz1]
         try (have hq0:(bits .and .u64 0 127 / 2 ^ (bs - 7*i).toNat != 0)=false:=by (rw[← hqb,hz1]; rfl))
         have hi0:0<7*(i:Int):=by omega
         go_wp2_with fail
         refine (HS.out.call 0 rfl (cW b _ 1 (by omega) (by omega))).mono ?_
         rintro e w2 ⟨v,A',N,rfl,⟨rfl,rfl,rfl⟩,H1⟩
         rw[HT.out] at H1 ⊢
         have HS1:=Lib.hid H1
         clear H1
         go_wp2_with fail
         go_step3
         exact⟨.inr ⟨rfl,l2,pos1+1,HS1.out,HV.out,_,_,_,_,_,_,_,_,_,_,_,_,_,_,_,_,_,_,_,_,_,_,_,_,_,_,_,_,_,_,_,_,_,_,_,_,_,_,_,_,_,_,_,_,_,_,_,_,_,_,_,rfl⟩,by simp[VM,intOf]; omega⟩
        ·have HV:=Lib.hid (show (acc+c.toNat % 128*2 ^ (7*i),⟨l2,pos1+1,0⟩)=res by rw[← HG.out,vgo,if_neg HN.out,if_neg h128,if_neg hz])
         by_cases hz1:c.toNat=0
         ·have hz0:((c.toNat:Int) == 0)=true:=by simp[hz1]
          try (have hq0:(bits .and .u64 0 127 / 2 ^ (bs - 7*i).toNat != 0)=false:=by (rw[← hqb,hz1]; rfl))
          have HA3:=Lib.hid (show bits .or .u64 acc (IntKind.u64.wrap (bits .and .u64 0 127*2 ^ (7*i)))=((acc+c.toNat % 128*2 ^ (7*i):Nat):Int) by rw[← HA2.out,hz1]; rfl)
          have hi0: ¬ (0<7*(i:Int)):=by omega
          go_wp2_with fail
          refine (HS.out.call 0 rfl (cW b _ 1 (by omega) (by omega))).mono ?_
          rintro e w2 ⟨v,A',N,rfl,⟨rfl,rfl,rfl⟩,H1⟩
          rw[HT.out] at H1 ⊢
          have HS1:=Lib.hid H1
          clear H1
          go_wp2_with fail
          all_goals
           go_ret
           exact⟨_,_,_,rfl,⟨by rw[← HV.out]; exact congrArg (Value.int IntKind.u64) HA3.out,by rw[← HV.out],rfl⟩,HS1.out⟩
         ·have hz0:((c.toNat:Int) == 0)=false:=by simp; omega
          go_wp2_with fail
          refine (HS.out.call 0 rfl (cW b _ 1 (by omega) (by omega))).mono ?_
          rintro e w2 ⟨v,A',N,rfl,⟨rfl,rfl,rfl⟩,H1⟩
          rw[HT.out] at H1 ⊢
          have HS1:=Lib.hid H1
          clear H1
          go_wp2_with fail
          go_ret
          exact⟨_,_,_,rfl,⟨by rw[← HV.out]; exact congrArg (Value.int IntKind.u64) HA2.out,by rw[← HV.out],rfl⟩,HS1.out⟩
  ·refine⟨_,rfl,?_⟩
   have HS:=Lib.hid hst
   have HG:=Lib.hid hg
   clear hst hg
   go_wp2_with fail
   refine (HS.out.call 0 rfl (eA b _ 3)).mono ?_
   rintro e w2 ⟨v,A',N,rfl,⟨rfl,rfl,rfl⟩,H1⟩
   have HS1:=Lib.hid H1
   clear H1
   go_wp2_with fail
   go_ret
   exact⟨_,_,_,rfl,⟨by rw[← HG.out]; rfl,by rw[← HG.out]; rfl,rfl⟩,HS1.out⟩
 ·intro again
  have AG:=Lib.hid again
  clear again
  go_wp2_with fail
  go_step3
  rename_i hK
  exact hK _ _ (AG.out 0 _ _ _ rfl (.inl ⟨rfl,l,pos,0,0,HA.out,by omega,by omega,hres,_,_,_,_,_,_,_,_,_,_,_,_,_,_,_,_,_,_,_,_,_,_,_,_,_,_,_,_,_,_,_,_,_,_,_,_,_,_,_,_,_,_,_,_,_,_,_,_,_,rfl⟩))
theorem tn (b:Nat) (st:I) (bs:Int) (hb:bs=32∨bs=64) :
 ez Tryz.prog 178 #[.pointer (some ⟨b,0,none⟩),.int .i64 bs] (InR b st) (fun v A' N=>v= .int .u64 (dq bs st).1∧A'=InR b (dq bs st).2∧N = []):=by
 obtain⟨l,pos,er⟩:=st
 by_cases h0:er=0
 ·subst h0
  exact Uns_go b l pos bs hb
 ·have h:=xO b ⟨l,pos,er⟩ bs h0
  have e:dq bs ⟨l,pos,er⟩=(0,⟨l,pos,er⟩):=by simp[dq,h0]
  rw[e]
  exact h
theorem xP (bs:Int) (hb:bs=32∨bs=64): ∀ (l:List UInt8) (pos acc i:Nat),acc<2 ^ (7*i)→(vgo bs l pos acc i).1<2 ^ bs.toNat:=by
 have hp:0<2 ^ bs.toNat:=Nat.two_pow_pos _
 intro l
 induction l with
 | nil=>intro pos acc i _; exact hp
 | cons c l ih =>
  intro pos acc i hacc
  unfold vgo
  split
  ·exact hp
  ·rename_i hn
   have h:=jp bs hb acc (c.toNat % 128) i hacc (by omega) (by omega) (fun h=>hn (.inr h))
   split
   ·exact ih _ _ _ h.1
   ·split
    ·exact hp
    ·exact h.2
theorem xQ (bs:Int) (hb:bs=32∨bs=64) (st:I):(dq bs st).1<2 ^ bs.toNat:=by
 unfold dq
 split
 ·exact Nat.two_pow_pos _
 ·exact xP bs hb _ _ _ _ (by simp)
theorem mE (bs:Int) (hb:bs=32∨bs=64) (st:I):(dq bs st).1<18446744073709551616:=by
 have h:=xQ bs hb st
 rcases hb with rfl | rfl
 ·have e:2 ^ (32:Int).toNat=4294967296:=by decide
  omega
 ·have e:2 ^ (64:Int).toNat=18446744073709551616:=by decide
  omega
def eg (r:Nat×I):Int×I:=(cY r.1,r.2)
theorem rr (b:Nat) (st:I) :
 ez Tryz.prog 165 #[.pointer (some ⟨b,0,none⟩)] (InR b st) (fun v A' N=>v= .int .i64 (eg (dq 32 st)).1∧A'=InR b (eg (dq 32 st)).2∧N = []):=by
 intro F w hA
 have HA:=Lib.hid (AU F w (Sep.one hA))
 clear hA
 have hs:=tn b st 32 (.inl rfl)
 have hlt:=mE 32 (.inl rfl) st
 generalize dq 32 st=r at *
 have HS:=Lib.hid hs
 clear hs
 go_enter Tryz.func165,Tryz.ntmps165
 go_wp2_with fail
 refine (HA.out.call 0 rfl HS.out).mono ?_
 rintro e w1 ⟨v,A',N,rfl,⟨rfl,rfl,rfl⟩,H1⟩
 have HS1:=Lib.hid H1
 clear H1
 go_wp2_with fail
 refine (ro r.1 hlt w1).mono ?_
 rintro e w' ⟨rfl,rfl⟩
 go_wp2_with fail
 go_ret
 exact⟨_,_,_,rfl,⟨rfl,rfl,rfl⟩,HS1.out⟩
theorem uE (b:Nat) (st:I) :
 ez Tryz.prog 164 #[.pointer (some ⟨b,0,none⟩)] (InR b st) (fun v A' N=>v= .int .i64 (eg (dq 64 st)).1∧A'=InR b (eg (dq 64 st)).2∧N = []):=by
 intro F w hA
 have HA:=Lib.hid (AU F w (Sep.one hA))
 clear hA
 have hs:=tn b st 64 (.inr rfl)
 have hlt:=mE 64 (.inr rfl) st
 generalize dq 64 st=r at *
 have HS:=Lib.hid hs
 clear hs
 go_enter Tryz.func164,Tryz.ntmps164
 go_wp2_with fail
 refine (HA.out.call 0 rfl HS.out).mono ?_
 rintro e w1 ⟨v,A',N,rfl,⟨rfl,rfl,rfl⟩,H1⟩
 have HS1:=Lib.hid H1
 clear H1
 go_wp2_with fail
 refine (ro r.1 hlt w1).mono ?_
 rintro e w' ⟨rfl,rfl⟩
 go_wp2_with fail
 go_ret
 exact⟨_,_,_,rfl,⟨rfl,rfl,rfl⟩,HS1.out⟩
theorem q7 {a b:Nat} (h:2 ^ a<2 ^ b):a<b:=(Nat.pow_lt_pow_iff_right (by decide)).1 h
theorem zJ (bs:Int) (hb:0<bs): ∀ (v pos acc i:Nat) (r:List UInt8),acc+v*2 ^ (7*i)<2 ^ bs.toNat→(0<i→0<v) →
 vgo bs (bB v++r) pos acc i=(acc+v*2 ^ (7*i),⟨r,pos+(bB v).length,0⟩):=by
 intro v
 induction v using Nat.strongRecOn with
 | _ v ih =>
  intro pos acc i r h hi
  have h7:(7*i:Int)<bs:=by
   rcases Nat.eq_zero_or_pos i with h0 | h0
   ·subst h0; omega
   ·have hv:=hi h0
    have h2:1*2 ^ (7*i)≤v*2 ^ (7*i):=Nat.mul_le_mul_right _ hv
    have h3:=q7 (show 2 ^ (7*i)<2 ^ bs.toNat by omega)
    omega
  have hleft: ∀ d:Nat,d≤v→d / 2 ^ (bs - 7*i).toNat=0:=by
   intro d hd
   have e:2 ^ bs.toNat=2 ^ (bs - 7*i).toNat*2 ^ (7*i):=by rw[← Nat.pow_add]; congr 1; omega
   have h2:d*2 ^ (7*i)≤v*2 ^ (7*i):=Nat.mul_le_mul_right _ hd
   have h3:d<2 ^ (bs - 7*i).toNat:=by
    apply Nat.lt_of_mul_lt_mul_right (a:=2 ^ (7*i))
    omega
   exact Nat.div_eq_of_lt h3
  rw[bB]
  split
  ·rename_i hlt
   have hc:(UInt8.ofNat v).toNat=v:=by simp[UInt8.toNat_ofNat']; omega
   simp only[List.cons_append,Db,vgo,hc,Nat.mod_eq_of_lt hlt,hleft v (Dy _)]
   rw[if_neg (by simp; omega),if_neg (by omega),if_neg (by rintro⟨h1,h2⟩; have:=hi h2; omega)]
   simp
  ·rename_i hge
   have hc:(UInt8.ofNat (v % 128+128)).toNat=v % 128+128:=by simp[UInt8.toNat_ofNat']; omega
   have e2:2 ^ (7*(i+1))=128*2 ^ (7*i):=by rw[show 7*(i+1)=7+7*i by omega,Nat.pow_add]
   have e3:acc+v % 128*2 ^ (7*i)+v / 128*2 ^ (7*(i+1))=acc+v*2 ^ (7*i):=by
    rw[e2]
    generalize 2 ^ (7*i)=z
    have h1:v / 128*(128*z)=v / 128*128*z:=by rw[Nat.mul_assoc]
    rw[h1,Nat.add_assoc,← Nat.add_mul]
    congr 2
    omega
   simp only[List.cons_append,vgo,hc]
   rw[show (v % 128+128) % 128=v % 128 by omega,hleft (v % 128) (Nat.mod_le _ _),if_neg (by simp; omega),if_pos (by omega),ih (v / 128) (by omega) _ _ _ _ (by rw[e3]; exact h) (by omega),e3]
   simp; omega
theorem vgo_ok (bs:Int): ∀ (l:List UInt8) (pos acc i u:Nat) (s:I),vgo bs l pos acc i=(u,s)→s.err=0 →
 ∃ k v,s=⟨l.drop k,pos+k,0⟩∧k≤l.length∧u=acc+v*2 ^ (7*i)∧bB v=l.take k∧(0<i→0<v):=by
 intro l
 induction l with
 | nil=>intro pos acc i u s h h0; simp only[vgo,Prod.mk.injEq] at h; rw[← h.2] at h0; simp at h0
 | cons c l ih =>
  intro pos acc i u s h h0
  unfold vgo at h
  split at h
  ·simp only[Prod.mk.injEq] at h; rw[← h.2] at h0; simp at h0
  ·split at h
   ·rename_i h128
    obtain⟨k,v,h1,h2,h3,h4,h5⟩:=ih _ _ _ _ _ h h0
    have hv:=h5 (by omega)
    have hc:=c.toNat_lt
    refine⟨k+1,c.toNat % 128+128*v,?_,by simpa using h2,?_,?_,by omega⟩
    ·rw[h1]; simp; omega
    ·have e:2 ^ (7*(i+1))=128*2 ^ (7*i):=by rw[show 7*(i+1)=7+7*i by omega,Nat.pow_add]
     rw[h3,e,Nat.add_mul]
     generalize 2 ^ (7*i)=z
     have:v*(128*z)=128*v*z:=by rw[Nat.mul_comm 128 v,Nat.mul_assoc]
     omega
    ·rw[bB,if_neg (by omega),show (c.toNat % 128+128*v) / 128=v by omega,h4,List.take_succ_cons]
     congr 1
     rw[show (c.toNat % 128+128*v) % 128+128=c.toNat by omega]
     exact UInt8.ofNat_toNat
   ·rename_i h128
    split at h
    ·simp only[Prod.mk.injEq] at h; rw[← h.2] at h0; simp at h0
    ·rename_i hz
     have hc:=c.toNat_lt
     simp only[Prod.mk.injEq] at h
     refine⟨1,c.toNat,by rw[← h.2]; simp,by simp,by rw[← h.1,Nat.mod_eq_of_lt (by omega)],?_,?_⟩
     ·rw[bB,if_pos (by omega)]; simp
     ·intro hi
      rcases Nat.eq_zero_or_pos c.toNat with h6 | h6
      ·exact absurd ⟨h6,hi⟩ hz
      ·exact h6
attribute [local go_sem] dz bsOf_size
structure Bl where
 null:Bool
 data:List UInt8
@[go_sem] def blV (b:Bl):Value:= .agg #[.bool b.null,.string (aF b.data)]
theorem mF:(Tryz.prog.info? 35).map (·.size)=some 2:=by kernel_rfl
theorem m0 (l:List UInt8):e8 Tryz.prog 73 #[.string (aF l)] (fun v N=>v=blV ⟨false,l⟩∧N = []):=by
 intro w
 have HS:=Lib.hid (Bm w)
 go_enter Tryz.func73,Tryz.ntmps73
 go_wp2_with fail
 refine bodyPost_ret (v:=blV ⟨false,l⟩) (results_cell_row (by rfl) _ _ w.heap.size 35 #[.bool false,.string (aF l)] (0,0) _ rfl (heap_alloc_new w _) Tryz.underlying35 rfl mF) rfl ?_
 exact⟨_,_,rfl,⟨rfl,rfl⟩,(HS.out.alloc _ _).drop_⟩
theorem uF:e8 Tryz.prog 149 #[] (fun v N=>v=blV ⟨true,[]⟩∧N = []):=by
 intro w
 have HS:=Lib.hid (Bm w)
 go_enter Tryz.func149,Tryz.ntmps149
 go_wp2_with fail
 refine bodyPost_ret (v:=blV ⟨true,[]⟩) (results_cell_row (by rfl) _ _ w.heap.size 35 #[.bool true,.string (aF [])] (0,0) _ rfl (heap_alloc_new w _) Tryz.underlying35 rfl mF) rfl ?_
 exact⟨_,_,rfl,⟨rfl,rfl⟩,(HS.out.alloc _ _).drop_⟩
def bh (b:Bl):Bool:= !b.null || b.data.isEmpty
theorem ll (b:Bl):e8 Tryz.prog 76 #[blV b] (fun v N=>v= .bool (bh b)∧N = []):=by
 intro w
 have HS:=Lib.hid (Bm w)
 obtain⟨n,l⟩:=b
 have HB:=Lib.hid (show (l == [])=l.isEmpty by cases l <;> rfl)
 cases n
 ·go_enter Tryz.func76,Tryz.ntmps76
  go_wp2_with fail
  go_ret
  exact⟨_,_,rfl,⟨rfl,rfl⟩,(HS.out.alloc _ _).drop_⟩
 ·go_enter Tryz.func76,Tryz.ntmps76
  go_wp2_with fail
  go_ret
  exact⟨_,_,rfl,⟨congrArg Value.bool (by simp[bh]),rfl⟩,(HS.out.alloc _ _).drop_⟩
def cg (b:Bl):Int:=if b.null then -1 else b.data.length
theorem rt (b:Bl):e8 Tryz.prog 124 #[blV b] (fun v N=>v= .int .i64 (cg b)∧N = []):=by
 intro w
 have HS:=Lib.hid (Bm w)
 obtain⟨n,l⟩:=b
 cases n
 all_goals
  go_enter Tryz.func124,Tryz.ntmps124
  go_wp2_with fail
  go_ret
  exact⟨_,_,rfl,⟨rfl,rfl⟩,(HS.out.alloc _ _).drop_⟩
def iu (st:I) (n:Int):Bl×I:=if st.err≠0 then (⟨false,[]⟩,st) else if n= -1 then (⟨true,[]⟩,st) else (⟨false,(bG st n).1⟩,(bG st n).2)
theorem pR (g:Nat) (st:I) (n:Int) (h0: -9223372036854775808≤n) (h1:n≤9223372036854775807) :
 ez Tryz.prog 119 #[.pointer (some ⟨g,0,none⟩),.int .i64 n] (InR g st) (fun v A' N=>v=blV (iu st n).1∧A'=InR g (iu st n).2∧N = []):=by
 intro F w hA
 have HA:=Lib.hid (AU F w (Sep.one hA))
 clear hA
 have HB:=Lib.hid (HA.out.alloc #[.bool false,.string ⟨#[]⟩] 35)
 by_cases he:st.err=0
 ·by_cases hn:n= -1
  ·subst hn
   have HQ:=Lib.hid (show iu st (-1)=(⟨true,[]⟩,st) by simp[iu,he])
   have hb:(st.err != 0)=false:=by simp[he]
   clear he
   go_enter Tryz.func119,Tryz.ntmps119
   go_wp2_with fail
   refine (St.call 1 (HB).out rfl (lZ g _)).mono ?_
   rintro e w1 ⟨v,A',N,rfl,⟨rfl,rfl,rfl⟩,H1⟩
   try simp only[List.cons_append,Db,List.set_cons_zero,List.set_cons_succ,bH] at H1
   have HC:=Lib.hid H1
   clear H1
   go_wp2_with fail
   refine (St.call0 HC.out uF).mono ?_
   rintro e w2 ⟨v,N,rfl,⟨rfl,rfl⟩,H2⟩
   have d0:w2.cell? ⟨w.heap.size,0,none⟩=some (.bool false):=aI (St.blk 0 H2 rfl) 0
   have d1:w2.cell? ⟨w.heap.size,1,none⟩=some (.string ⟨#[]⟩):=aI (St.blk 0 H2 rfl) 1
   have f0:w2.frozen? ⟨w.heap.size,0,none⟩=false:=bd (St.blk 0 H2 rfl) 0
   have f1:w2.frozen? ⟨w.heap.size,1,none⟩=false:=bd (St.blk 0 H2 rfl) 1
   have HD:=Lib.hid H2
   clear H2
   go_wp2_with fail
   have HE:=((HD.out.set 0 rfl 0 (.bool true)).set 0 rfl 1 (.string (aF [])))
   refine bodyPost_ret (v:=blV ⟨true,[]⟩) (results_cell_row (by rfl) _ _ w.heap.size 35 #[.bool true,.string (aF [])] (0,0) _ rfl (St.blk 0 HE rfl) Tryz.underlying35 rfl mF) rfl ?_
   exact⟨_,_,_,rfl,⟨by rw[HQ.out],by rw[HQ.out],rfl⟩,HE.drop_⟩
  ·have HQ:=Lib.hid (show iu st n=(⟨false,(bG st n).1⟩,(bG st n).2) by simp[iu,he,hn])
   have hb:(st.err != 0)=false:=by simp[he]
   have hnb:(n == -1)=false:=beq_eq_false_iff_ne.2 hn
   clear he hn
   go_enter Tryz.func119,Tryz.ntmps119
   go_wp2_with fail
   refine (St.call 1 (HB).out rfl (lZ g _)).mono ?_
   rintro e w1 ⟨v,A',N,rfl,⟨rfl,rfl,rfl⟩,H1⟩
   try simp only[List.cons_append,Db,List.set_cons_zero,List.set_cons_succ,bH] at H1
   have HC:=Lib.hid H1
   clear H1
   go_wp2_with fail
   refine (St.call 1 (HC).out rfl (cW g st n h0 h1)).mono ?_
   rintro e w1 ⟨v,A',N,rfl,⟨rfl,rfl,rfl⟩,H1⟩
   try simp only[List.cons_append,Db,List.set_cons_zero,List.set_cons_succ,bH] at H1
   have HC2:=Lib.hid H1
   clear H1
   go_wp2_with fail
   refine (St.call0 HC2.out (m0 (bG st n).1)).mono ?_
   rintro e w2 ⟨v,N,rfl,⟨rfl,rfl⟩,H2⟩
   have d0:w2.cell? ⟨w.heap.size,0,none⟩=some (.bool false):=aI (St.blk 0 H2 rfl) 0
   have d1:w2.cell? ⟨w.heap.size,1,none⟩=some (.string ⟨#[]⟩):=aI (St.blk 0 H2 rfl) 1
   have f0:w2.frozen? ⟨w.heap.size,0,none⟩=false:=bd (St.blk 0 H2 rfl) 0
   have f1:w2.frozen? ⟨w.heap.size,1,none⟩=false:=bd (St.blk 0 H2 rfl) 1
   have HD:=Lib.hid H2
   clear H2
   go_wp2_with fail
   have HE:=((HD.out.set 0 rfl 0 (.bool false)).set 0 rfl 1 (.string (aF (bG st n).1)))
   refine bodyPost_ret (v:=blV ⟨false,(bG st n).1⟩) (results_cell_row (by rfl) _ _ w.heap.size 35 #[.bool false,.string (aF (bG st n).1)] (0,0) _ rfl (St.blk 0 HE rfl) Tryz.underlying35 rfl mF) rfl ?_
   exact⟨_,_,_,rfl,⟨by rw[HQ.out],by rw[HQ.out],rfl⟩,HE.drop_⟩
 ·have HQ:=Lib.hid (show iu st n=(⟨false,[]⟩,st) by simp[iu,he])
  have hb:(st.err != 0)=true:=bne_iff_ne.2 he
  clear he
  go_enter Tryz.func119,Tryz.ntmps119
  go_wp2_with fail
  refine (St.call 1 HB.out rfl (lZ g _)).mono ?_
  rintro e w2 ⟨v,A',N,rfl,⟨rfl,rfl,rfl⟩,H2⟩
  have d0:w2.cell? ⟨w.heap.size,0,none⟩=some (.bool false):=aI (St.blk 0 H2 rfl) 0
  have d1:w2.cell? ⟨w.heap.size,1,none⟩=some (.string ⟨#[]⟩):=aI (St.blk 0 H2 rfl) 1
  have f0:w2.frozen? ⟨w.heap.size,0,none⟩=false:=bd (St.blk 0 H2 rfl) 0
  have f1:w2.frozen? ⟨w.heap.size,1,none⟩=false:=bd (St.blk 0 H2 rfl) 1
  have HD:=Lib.hid H2
  clear H2
  go_wp2_with fail
  have HE:=((HD.out.set 0 rfl 0 (.bool false)).set 0 rfl 1 (.string (aF [])))
  refine bodyPost_ret (v:=blV ⟨false,[]⟩) (results_cell_row (by rfl) _ _ w.heap.size 35 #[.bool false,.string (aF [])] (0,0) _ rfl (St.blk 0 HE rfl) Tryz.underlying35 rfl mF) rfl ?_
  exact⟨_,_,_,rfl,⟨by rw[HQ.out],by rw[HQ.out],rfl⟩,HE.drop_⟩
theorem mG (st:I) (size:Int): -9223372036854775808≤(di st size).1∧(di st size).1≤9223372036854775807:=by
 unfold di
 split
 ·rename_i hs
  have hl:=rm st size
  simp only
  generalize (bG st size).1=l at *
  by_cases hn:l = []
  ·subst hn; simp[bk]
  ·have hr:=lj l hn
   have hp:(2 ^ (8*l.length - 1):Int)≤9223372036854775808:=by
    have h1:(2 ^ (8*l.length - 1):Nat)≤2 ^ 63:=Nat.pow_le_pow_right (by decide) (by omega)
    have h2:((2 ^ (8*l.length - 1):Nat):Int)≤((2 ^ 63:Nat):Int):=Int.ofNat_le.2 h1
    rw[Int.natCast_pow,Int.natCast_pow] at h2
    exact h2
   generalize (2 ^ (8*l.length - 1):Int)=z at *
   omega
 ·simp
theorem ru (st:I): -9223372036854775808≤(eg (dq 32 st)).1∧(eg (dq 32 st)).1≤9223372036854775807:=by
 have h:=mE 32 (.inl rfl) st
 unfold eg cY
 simp only
 split <;> omega
theorem kr (b:Bl) (h:b.data.length≤9223372036854775807): -9223372036854775808≤cg b∧cg b≤9223372036854775807:=by unfold cg; split <;> omega
def mH (st:List UInt8×Int) (b:Bl):List UInt8×Int:=if bh b then fF st b.data else iM st 4
def nH (st:List UInt8×Int) (b:Bl) (size:Int):List UInt8×Int:=mH (sn st (cg b) size) b
def mI (st:List UInt8×Int) (b:Bl):List UInt8×Int:=mH (iA st (cg b)) b
def fA (st:I) (size:Int):Bl×I:=iu (di st size).2 (di st size).1
def eW (st:I):Bl×I:=iu (eg (dq 32 st)).2 (eg (dq 32 st)).1
def pS (r:Bl×I):List UInt8×I:=(r.1.data,if r.1.null then cE r.2 4 else r.2)
theorem oI (g:Nat) (st:List UInt8×Int) (b:Bl) (hl:st.1.length+b.data.length≤140737488355328) :
 ez Tryz.prog 125 #[.pointer (some ⟨g,0,none⟩),blV b] (aW g st) (fun v A' N=>v= .tuple #[]∧A'=aW g (mH st b)∧N = []):=by
 intro F w hA
 have HA:=Lib.hid (AU F w (Sep.one hA))
 clear hA
 have HB:=Lib.hid (HA.out.alloc #[.bool b.null,.string (aF b.data)] 35)
 by_cases hr:bh b=true
 ·have HQ:=Lib.hid (show mH st b=fF st b.data by simp[mH,hr])
  have HR:=Lib.hid hr
  clear hr
  go_enter Tryz.func125,Tryz.ntmps125
  go_wp2_with fail
  refine (St.call0 HB.out (ll b)).mono ?_
  rintro e w2 ⟨v,N,rfl,⟨rfl,rfl⟩,H2⟩
  rw[HR.out]
  have d0:w2.cell? ⟨w.heap.size,0,none⟩=some (.bool b.null):=aI (St.blk 0 H2 rfl) 0
  have d1:w2.cell? ⟨w.heap.size,1,none⟩=some (.string (aF b.data)):=aI (St.blk 0 H2 rfl) 1
  have HD:=Lib.hid H2
  clear H2
  go_wp2_with fail
  refine (St.call 1 HD.out rfl (tc g st (aF b.data) (by rw[bsOf_size]; exact hl))).mono ?_
  rintro e w3 ⟨v,A',N,rfl,⟨rfl,rfl,rfl⟩,H3⟩
  rw[bH] at H3
  have HE:=Lib.hid H3
  clear H3
  go_wp2_with fail
  go_end0
  exact⟨_,_,_,rfl,⟨rfl,by rw[HQ.out],rfl⟩,HE.out.drop_⟩
 ·have HQ:=Lib.hid (show mH st b=iM st 4 by simp[mH,hr])
  have HR:=Lib.hid (show bh b=false by simpa using hr)
  clear hr
  go_enter Tryz.func125,Tryz.ntmps125
  go_wp2_with fail
  refine (St.call0 HB.out (ll b)).mono ?_
  rintro e w2 ⟨v,N,rfl,⟨rfl,rfl⟩,H2⟩
  rw[HR.out]
  have HD:=Lib.hid H2
  clear H2
  go_wp2_with fail
  refine (St.call 1 (HD).out rfl (lY g st 4)).mono ?_
  rintro e w1 ⟨v,A',N,rfl,⟨rfl,rfl,rfl⟩,H1⟩
  try simp only[List.cons_append,Db,List.set_cons_zero,List.set_cons_succ,bH] at H1
  have HE:=Lib.hid H1
  clear H1
  go_wp2_with fail
  go_end0
  exact⟨_,_,_,rfl,⟨rfl,by rw[HQ.out],rfl⟩,HE.out.drop_⟩
theorem xR (st:List UInt8×Int) (n size:Int):(sn st n size).1.length≤st.1.length+8:=by
 unfold sn
 split
 ·rename_i h
  have h1:=mW st (be n size.toNat)
  rw[aA] at h1
  simp[bu] at h
  omega
 ·unfold iM; split <;> simp
theorem lm (g:Nat) (st:List UInt8×Int) (b:Bl) (size:Int) (h0: -9223372036854775808≤size) (h1:size≤9223372036854775807) (hl:st.1.length+8+b.data.length≤140737488355328) :
 ez Tryz.prog 70 #[.pointer (some ⟨g,0,none⟩),blV b,.int .i64 size] (aW g st) (fun v A' N=>v= .tuple #[]∧A'=aW g (nH st b size)∧N = []):=by
 intro F w hA
 have HA:=Lib.hid (AU F w (Sep.one hA))
 clear hA
 have HB:=Lib.hid (HA.out.alloc #[.bool b.null,.string (aF b.data)] 35)
 have hbl:=kr b (by omega)
 have hb1:=hbl.1
 have hb2:=hbl.2
 clear hbl
 go_enter Tryz.func70,Tryz.ntmps70
 go_wp2_with fail
 refine (St.call0 HB.out (rt b)).mono ?_
 rintro e w2 ⟨v,N,rfl,⟨rfl,rfl⟩,H2⟩
 have HC:=Lib.hid H2
 clear H2
 go_wp2_with fail
 refine (St.call 1 HC.out rfl (oF g st (cg b) size hb1 hb2 (by omega))).mono ?_
 rintro e w3 ⟨v,A',N,rfl,⟨rfl,rfl,rfl⟩,H3⟩
 have d0:w3.cell? ⟨w.heap.size,0,none⟩=some (.bool b.null):=aI (St.blk 0 H3 rfl) 0
 have d1:w3.cell? ⟨w.heap.size,1,none⟩=some (.string (aF b.data)):=aI (St.blk 0 H3 rfl) 1
 have HD:=Lib.hid H3
 clear H3
 go_wp2_with fail
 refine (St.call 1 HD.out rfl (oI g _ b (by have:=xR st (cg b) size; omega))).mono ?_
 rintro e w4 ⟨v,A',N,rfl,⟨rfl,rfl,rfl⟩,H4⟩
 have HE:=Lib.hid H4
 clear H4
 go_wp2_with fail
 go_end0
 exact⟨_,_,_,rfl,⟨rfl,rfl,rfl⟩,HE.out.drop_⟩
theorem tp (st:List UInt8×Int) (n:Int):(iA st n).1.length≤st.1.length+10:=by
 unfold iA
 split
 ·rename_i h
  have h1:=mW st (bB (aN n))
  have h2:=e9 (aN n) (en n (by omega) (by omega))
  omega
 ·unfold iM; split <;> simp
theorem kM (g:Nat) (st:List UInt8×Int) (b:Bl) (hl:st.1.length+10+b.data.length≤140737488355328) :
 ez Tryz.prog 161 #[.pointer (some ⟨g,0,none⟩),blV b] (aW g st) (fun v A' N=>v= .tuple #[]∧A'=aW g (mI st b)∧N = []):=by
 intro F w hA
 have HA:=Lib.hid (AU F w (Sep.one hA))
 clear hA
 have HB:=Lib.hid (HA.out.alloc #[.bool b.null,.string (aF b.data)] 35)
 have hbl:=kr b (by omega)
 have hb1:=hbl.1
 have hb2:=hbl.2
 clear hbl
 go_enter Tryz.func161,Tryz.ntmps161
 go_wp2_with fail
 refine (St.call0 HB.out (rt b)).mono ?_
 rintro e w2 ⟨v,N,rfl,⟨rfl,rfl⟩,H2⟩
 have HC:=Lib.hid H2
 clear H2
 go_wp2_with fail
 refine (St.call 1 HC.out rfl (mZ g st (cg b) hb1 hb2 (by omega))).mono ?_
 rintro e w3 ⟨v,A',N,rfl,⟨rfl,rfl,rfl⟩,H3⟩
 have d0:w3.cell? ⟨w.heap.size,0,none⟩=some (.bool b.null):=aI (St.blk 0 H3 rfl) 0
 have d1:w3.cell? ⟨w.heap.size,1,none⟩=some (.string (aF b.data)):=aI (St.blk 0 H3 rfl) 1
 have HD:=Lib.hid H3
 clear H3
 go_wp2_with fail
 refine (St.call 1 HD.out rfl (oI g _ b (by have:=tp st (cg b); omega))).mono ?_
 rintro e w4 ⟨v,A',N,rfl,⟨rfl,rfl,rfl⟩,H4⟩
 have HE:=Lib.hid H4
 clear H4
 go_wp2_with fail
 go_end0
 exact⟨_,_,_,rfl,⟨rfl,rfl,rfl⟩,HE.out.drop_⟩
def tq (st:List UInt8×Int) (l:List UInt8):List UInt8×Int:=nH st ⟨false,l⟩ 2
theorem q8 (g:Nat) (st:List UInt8×Int) (l:List UInt8) (hl:st.1.length+8+l.length≤140737488355328) :
 ez Tryz.prog 72 #[.pointer (some ⟨g,0,none⟩),.string (aF l)] (aW g st) (fun v A' N=>v= .tuple #[]∧A'=aW g (tq st l)∧N = []):=by
 intro F w hA
 have HA:=Lib.hid (AU F w (Sep.one hA))
 clear hA
 go_enter Tryz.func72,Tryz.ntmps72
 go_wp2_with fail
 refine (St.call0 (HA).out (m0 l)).mono ?_
 rintro e w1 ⟨v,N,rfl,⟨rfl,rfl⟩,H1⟩
 try simp only[List.cons_append,Db,List.set_cons_zero,List.set_cons_succ,bH] at H1
 have HB:=Lib.hid H1
 clear H1
 go_wp2_with fail
 refine (St.call 0 (HB).out rfl (lm g st ⟨false,l⟩ 2 (by omega) (by omega) hl)).mono ?_
 rintro e w1 ⟨v,A',N,rfl,⟨rfl,rfl,rfl⟩,H1⟩
 try simp only[List.cons_append,Db,List.set_cons_zero,List.set_cons_succ,bH] at H1
 have HC:=Lib.hid H1
 clear H1
 go_wp2_with fail
 go_end0
 exact⟨_,_,_,rfl,⟨rfl,rfl,rfl⟩,HC.out⟩
def tr (st:List UInt8×Int) (l:List UInt8):List UInt8×Int:=mI st ⟨false,l⟩
theorem q9 (g:Nat) (st:List UInt8×Int) (l:List UInt8) (hl:st.1.length+10+l.length≤140737488355328) :
 ez Tryz.prog 140 #[.pointer (some ⟨g,0,none⟩),.string (aF l)] (aW g st) (fun v A' N=>v= .tuple #[]∧A'=aW g (tr st l)∧N = []):=by
 intro F w hA
 have HA:=Lib.hid (AU F w (Sep.one hA))
 clear hA
 go_enter Tryz.func140,Tryz.ntmps140
 go_wp2_with fail
 refine (St.call0 (HA).out (m0 l)).mono ?_
 rintro e w1 ⟨v,N,rfl,⟨rfl,rfl⟩,H1⟩
 try simp only[List.cons_append,Db,List.set_cons_zero,List.set_cons_succ,bH] at H1
 have HB:=Lib.hid H1
 clear H1
 go_wp2_with fail
 refine (St.call 0 (HB).out rfl (kM g st ⟨false,l⟩ hl)).mono ?_
 rintro e w1 ⟨v,A',N,rfl,⟨rfl,rfl,rfl⟩,H1⟩
 try simp only[List.cons_append,Db,List.set_cons_zero,List.set_cons_succ,bH] at H1
 have HC:=Lib.hid H1
 clear H1
 go_wp2_with fail
 go_end0
 exact⟨_,_,_,rfl,⟨rfl,rfl,rfl⟩,HC.out⟩
theorem oJ (g:Nat) (st:I) (size:Int) :
 ez Tryz.prog 56 #[.pointer (some ⟨g,0,none⟩),.int .i64 size] (InR g st) (fun v A' N=>v=blV (fA st size).1∧A'=InR g (fA st size).2∧N = []):=by
 intro F w hA
 have HA:=Lib.hid (AU F w (Sep.one hA))
 clear hA
 have HB:=Lib.hid (HA.out.alloc #[.bool false,.string ⟨#[]⟩] 35)
 go_enter Tryz.func56,Tryz.ntmps56
 go_wp2_with fail
 refine (St.call 1 (HB).out rfl (nG g st size)).mono ?_
 rintro e w1 ⟨v,A',N,rfl,⟨rfl,rfl,rfl⟩,H1⟩
 try simp only[List.cons_append,Db,List.set_cons_zero,List.set_cons_succ,bH] at H1
 have HC:=Lib.hid H1
 clear H1
 go_wp2_with fail
 refine (St.call 1 HC.out rfl (pR g _ _ (mG st size).1 (mG st size).2)).mono ?_
 rintro e w2 ⟨v,A',N,rfl,⟨rfl,rfl,rfl⟩,H2⟩
 have d0:w2.cell? ⟨w.heap.size,0,none⟩=some (.bool false):=aI (St.blk 0 H2 rfl) 0
 have d1:w2.cell? ⟨w.heap.size,1,none⟩=some (.string ⟨#[]⟩):=aI (St.blk 0 H2 rfl) 1
 have f0:w2.frozen? ⟨w.heap.size,0,none⟩=false:=bd (St.blk 0 H2 rfl) 0
 have f1:w2.frozen? ⟨w.heap.size,1,none⟩=false:=bd (St.blk 0 H2 rfl) 1
 have HD:=Lib.hid H2
 clear H2
 go_wp2_with fail
 have HE:=((HD.out.set 0 rfl 0 (.bool (fA st size).1.null)).set 0 rfl 1 (.string (aF (fA st size).1.data)))
 refine bodyPost_ret (v:=blV (fA st size).1) (results_cell_row (by rfl) _ _ w.heap.size 35 #[.bool (fA st size).1.null,.string (aF (fA st size).1.data)] (0,0) _ rfl (St.blk 0 HE rfl) Tryz.underlying35 rfl mF) rfl ?_
 exact⟨_,_,_,rfl,⟨rfl,rfl,rfl⟩,HE.drop_⟩
theorem m1 (g:Nat) (st:I) :
 ez Tryz.prog 166 #[.pointer (some ⟨g,0,none⟩)] (InR g st) (fun v A' N=>v=blV (eW st).1∧A'=InR g (eW st).2∧N = []):=by
 intro F w hA
 have HA:=Lib.hid (AU F w (Sep.one hA))
 clear hA
 have HB:=Lib.hid (HA.out.alloc #[.bool false,.string ⟨#[]⟩] 35)
 go_enter Tryz.func166,Tryz.ntmps166
 go_wp2_with fail
 refine (St.call 1 (HB).out rfl (rr g st)).mono ?_
 rintro e w1 ⟨v,A',N,rfl,⟨rfl,rfl,rfl⟩,H1⟩
 try simp only[List.cons_append,Db,List.set_cons_zero,List.set_cons_succ,bH] at H1
 have HC:=Lib.hid H1
 clear H1
 go_wp2_with fail
 refine (St.call 1 HC.out rfl (pR g _ _ (ru st).1 (ru st).2)).mono ?_
 rintro e w2 ⟨v,A',N,rfl,⟨rfl,rfl,rfl⟩,H2⟩
 have d0:w2.cell? ⟨w.heap.size,0,none⟩=some (.bool false):=aI (St.blk 0 H2 rfl) 0
 have d1:w2.cell? ⟨w.heap.size,1,none⟩=some (.string ⟨#[]⟩):=aI (St.blk 0 H2 rfl) 1
 have f0:w2.frozen? ⟨w.heap.size,0,none⟩=false:=bd (St.blk 0 H2 rfl) 0
 have f1:w2.frozen? ⟨w.heap.size,1,none⟩=false:=bd (St.blk 0 H2 rfl) 1
 have HD:=Lib.hid H2
 clear H2
 go_wp2_with fail
 have HE:=((HD.out.set 0 rfl 0 (.bool (eW st).1.null)).set 0 rfl 1 (.string (aF (eW st).1.data)))
 refine bodyPost_ret (v:=blV (eW st).1) (results_cell_row (by rfl) _ _ w.heap.size 35 #[.bool (eW st).1.null,.string (aF (eW st).1.data)] (0,0) _ rfl (St.blk 0 HE rfl) Tryz.underlying35 rfl mF) rfl ?_
 exact⟨_,_,_,rfl,⟨rfl,rfl,rfl⟩,HE.drop_⟩
theorem pT (g:Nat) (r:Bl×I) :
 ez Tryz.prog 120 #[.pointer (some ⟨g,0,none⟩),blV r.1] (InR g r.2) (fun v A' N=>v= .string (aF (pS r).1)∧A'=InR g (pS r).2∧N = []):=by
 intro F w hA
 obtain⟨b,st⟩:=r
 obtain⟨n,l⟩:=b
 have HA:=Lib.hid (AU F w (Sep.one hA))
 clear hA
 have HB:=Lib.hid (HA.out.alloc #[.bool n,.string (aF l)] 35)
 cases n
 ·go_enter Tryz.func120,Tryz.ntmps120
  go_wp2_with fail
  go_ret
  exact⟨_,_,_,rfl,⟨rfl,rfl,rfl⟩,HB.out.drop_⟩
 ·go_enter Tryz.func120,Tryz.ntmps120
  go_wp2_with fail
  refine (St.call 1 HB.out rfl (eA g st 4)).mono ?_
  rintro e w2 ⟨v,A',N,rfl,⟨rfl,rfl,rfl⟩,H2⟩
  have d1:w2.cell? ⟨w.heap.size,1,none⟩=some (.string (aF l)):=aI (St.blk 0 H2 rfl) 1
  have HD:=Lib.hid H2
  clear H2
  go_wp2_with fail
  go_ret
  exact⟨_,_,_,rfl,⟨rfl,rfl,rfl⟩,HD.out.drop_⟩
def vQ (st:I):List UInt8×I:=pS (fA st 2)
theorem uG (g:Nat) (st:I) :
 ez Tryz.prog 59 #[.pointer (some ⟨g,0,none⟩)] (InR g st) (fun v A' N=>v= .string (aF (vQ st).1)∧A'=InR g (vQ st).2∧N = []):=by
 intro F w hA
 have HA:=Lib.hid (AU F w (Sep.one hA))
 clear hA
 go_enter Tryz.func59,Tryz.ntmps59
 go_wp2_with fail
 refine (St.call 0 (HA).out rfl (oJ g st 2)).mono ?_
 rintro e w1 ⟨v,A',N,rfl,⟨rfl,rfl,rfl⟩,H1⟩
 try simp only[List.cons_append,Db,List.set_cons_zero,List.set_cons_succ,bH] at H1
 have HB:=Lib.hid H1
 clear H1
 go_wp2_with fail
 refine (St.call 0 (HB).out rfl (pT g (fA st 2))).mono ?_
 rintro e w1 ⟨v,A',N,rfl,⟨rfl,rfl,rfl⟩,H1⟩
 try simp only[List.cons_append,Db,List.set_cons_zero,List.set_cons_succ,bH] at H1
 have HC:=Lib.hid H1
 clear H1
 go_wp2_with fail
 go_ret
 exact⟨_,_,_,rfl,⟨rfl,rfl,rfl⟩,HC.out⟩
def vR (st:I):List UInt8×I:=pS (eW st)
theorem uH (g:Nat) (st:I) :
 ez Tryz.prog 163 #[.pointer (some ⟨g,0,none⟩)] (InR g st) (fun v A' N=>v= .string (aF (vR st).1)∧A'=InR g (vR st).2∧N = []):=by
 intro F w hA
 have HA:=Lib.hid (AU F w (Sep.one hA))
 clear hA
 go_enter Tryz.func163,Tryz.ntmps163
 go_wp2_with fail
 refine (St.call 0 (HA).out rfl (m1 g st)).mono ?_
 rintro e w1 ⟨v,A',N,rfl,⟨rfl,rfl,rfl⟩,H1⟩
 try simp only[List.cons_append,Db,List.set_cons_zero,List.set_cons_succ,bH] at H1
 have HB:=Lib.hid H1
 clear H1
 go_wp2_with fail
 refine (St.call 0 (HB).out rfl (pT g (eW st))).mono ?_
 rintro e w1 ⟨v,A',N,rfl,⟨rfl,rfl,rfl⟩,H1⟩
 try simp only[List.cons_append,Db,List.set_cons_zero,List.set_cons_succ,bH] at H1
 have HC:=Lib.hid H1
 clear H1
 go_wp2_with fail
 go_ret
 exact⟨_,_,_,rfl,⟨rfl,rfl,rfl⟩,HC.out⟩
def bP:Rd Int:=⟨fun _ _ cs n=>cs = [.int .i64 n],fun h _=>h,fun h _=>h⟩
def uI:Rd (List UInt8):=⟨fun _ _ cs l=>cs = [.string (aF l)],fun h _=>h,fun h _=>h⟩
def vS:Rd Bl:=⟨fun _ _ cs x=>cs = [.bool x.null,.string (aF x.data)],fun h _=>h,fun h _=>h⟩
structure Pfx where
 Cu:Int
 CF:Int
 Co:Int
 CL:Int
 CJ:Int
 Cr:Int
 Cl:Int
 Cy:Int
 Ci:Int
 Cp:Int
 Ch:Int
 CK:Int
structure Hd where
 Cs:List UInt8
 Cg:Bl
def bf:Rd Hd where
 P:=fun _ _ cs x=>cs = [.string (aF x.Cs),.bool x.Cg.null,.string (aF x.Cg.data)]
 mono:=fun h _=>h
 move:=fun h _=>h
structure Rec where
 CC:Int
 Cv:Int
 Cs:Bl
 Cg:Bl
 Cn:List Hd
def aU:Rd Rec where
 P:=fun w S cs x=> ∃ (A0:Option Addr) (c0:Nat),cs = [.int .i64 x.CC,.int .i64 x.Cv,.bool x.Cs.null,.string (aF x.Cs.data),.bool x.Cg.null,.string (aF x.Cg.data),.slice A0 x.Cn.length c0]∧(av 3 bf).P w S [.slice A0 x.Cn.length c0] x.Cn
 mono:=fun ⟨A0,c0,e,h0⟩ k=>⟨A0,c0,e,(av 3 bf).mono h0 k⟩
 move:=fun ⟨A0,c0,e,h0⟩ k=>⟨A0,c0,e,(av 3 bf).move h0 k⟩
structure Top where
 Cx:List UInt8
 Cj:List Int
def sp:Rd Top where
 P:=fun w S cs x=> ∃ (A0:Option Addr) (c0:Nat),cs = [.string (aF x.Cx),.slice A0 x.Cj.length c0]∧(av 1 bP).P w S [.slice A0 x.Cj.length c0] x.Cj
 mono:=fun ⟨A0,c0,e,h0⟩ k=>⟨A0,c0,e,(av 1 bP).mono h0 k⟩
 move:=fun ⟨A0,c0,e,h0⟩ k=>⟨A0,c0,e,(av 1 bP).move h0 k⟩
structure Bat where
 Cu:Int
 Co:Int
 Cw:Bool
 CE:Bool
 Cq:Bool
 Cr:Int
 Cl:Int
 Cy:Int
 Ci:Int
 Cp:Int
 Ch:Int
 Ce:List Rec
def bD:Rd Bat where
 P:=fun w S cs x=> ∃ (A0:Option Addr) (c0:Nat),cs = [.int .i64 x.Cu,.int .i64 x.Co,.bool x.Cw,.bool x.CE,.bool x.Cq,.int .i64 x.Cr,.int .i64 x.Cl,.int .i64 x.Cy,.int .i64 x.Ci,.int .i64 x.Cp,.int .i64 x.Ch,.slice A0 x.Ce.length c0]∧(av 7 aU).P w S [.slice A0 x.Ce.length c0] x.Ce
 mono:=fun ⟨A0,c0,e,h0⟩ k=>⟨A0,c0,e,(av 7 aU).mono h0 k⟩
 move:=fun ⟨A0,c0,e,h0⟩ k=>⟨A0,c0,e,(av 7 aU).move h0 k⟩
structure jB where
 Ck:Rec
 CH:Int
 CI:Int
structure aE where
 CD:Int
 Ct:List Bat
def bm:Rd aE where
 P:=fun w S cs x=> ∃ (A0:Option Addr) (c0:Nat),cs = [.int .i64 x.CD,.slice A0 x.Ct.length c0]∧(av 12 bD).P w S [.slice A0 x.Ct.length c0] x.Ct
 mono:=fun ⟨A0,c0,e,h0⟩ k=>⟨A0,c0,e,(av 12 bD).mono h0 k⟩
 move:=fun ⟨A0,c0,e,h0⟩ k=>⟨A0,c0,e,(av 12 bD).move h0 k⟩
structure ax where
 Cx:List UInt8
 Cj:List aE
def aO:Rd ax where
 P:=fun w S cs x=> ∃ (A0:Option Addr) (c0:Nat),cs = [.string (aF x.Cx),.slice A0 x.Cj.length c0]∧(av 2 bm).P w S [.slice A0 x.Cj.length c0] x.Cj
 mono:=fun ⟨A0,c0,e,h0⟩ k=>⟨A0,c0,e,(av 2 bm).mono h0 k⟩
 move:=fun ⟨A0,c0,e,h0⟩ k=>⟨A0,c0,e,(av 2 bm).move h0 k⟩
structure aw where
 CA:Bl
 CG:Int
 Cz:Int
 Cm:List ax
structure cB where
 CD:Int
 Ct:List Bat
def cF:Rd cB where
 P:=fun w S cs x=> ∃ (A0:Option Addr) (c0:Nat),cs = [.int .i64 x.CD,.slice A0 x.Ct.length c0]∧(av 12 bD).P w S [.slice A0 x.Ct.length c0] x.Ct
 mono:=fun ⟨A0,c0,e,h0⟩ k=>⟨A0,c0,e,(av 12 bD).mono h0 k⟩
 move:=fun ⟨A0,c0,e,h0⟩ k=>⟨A0,c0,e,(av 12 bD).move h0 k⟩
structure aV where
 Cx:List UInt8
 Cj:List cB
def aR:Rd aV where
 P:=fun w S cs x=> ∃ (A0:Option Addr) (c0:Nat),cs = [.string (aF x.Cx),.slice A0 x.Cj.length c0]∧(av 2 cF).P w S [.slice A0 x.Cj.length c0] x.Cj
 mono:=fun ⟨A0,c0,e,h0⟩ k=>⟨A0,c0,e,(av 2 cF).mono h0 k⟩
 move:=fun ⟨A0,c0,e,h0⟩ k=>⟨A0,c0,e,(av 2 cF).move h0 k⟩
structure aG where
 CA:Bl
 CG:Int
 Cz:Int
 Cm:List aV
structure ge where
 Cf:Bat
 CH:Int
 CI:Int
section
variable {H:Type} (enc:TypeId×Value→H) (P:Program) {α β:Type}
variable {enc P}
def wI (n:Int):Prop:= -9223372036854775808≤n∧n≤9223372036854775807
def wB (_:Bool):Prop:=True
def wS (l:List UInt8):Prop:=l.length≤140737488351232
def wL (W:α→Prop) (l:List α):Prop:=l.length≤140737488351232∧ ∀ x,x∈l→W x
end
def xS (x:Bl):Prop:=wB x.null∧wS x.data
def wf_Hd (x:Hd):Prop:=wS x.Cs∧xS x.Cg
def uJ (x:Rec):Prop:=wI x.CC∧wI x.Cv∧xS x.Cs∧xS x.Cg∧(wL wf_Hd) x.Cn
def sr (x:Bat):Prop:=wI x.Cu∧wI x.Co∧wB x.Cw∧wB x.CE∧wB x.Cq∧wI x.Cr∧wI x.Cl∧wI x.Cy∧wI x.Ci∧wI x.Cp∧wI x.Ch∧(wL uJ) x.Ce
attribute [local go_sem] dz bsOf_size
@[go_sem] def strErr (x:List UInt8×Int):Value:= .tuple #[.string (aF x.1),.int .i64 x.2]
def otx (st:List UInt8×Int):List UInt8×Int:=if st.2=0 then (st.1,0) else ([],st.2)
theorem ss (st:List UInt8×Int):td st=strErr (otx st):=by unfold td otx; split <;> rfl
theorem nI {st:I} (h:st.err≠0) (e:Int):cE st e=st:=by simp[cE,h]
theorem wU {st:I} (h:st.err≠0) (n:Int):bG st n=([],st):=by simp[bG,h]
theorem jV {st:I} (h:st.err≠0) (n:Int):di st n=(0,st):=by
 unfold di
 split
 ·rw[wU h]; rfl
 ·rw[nI h]
theorem nJ {st:I} (h:st.err≠0) (n:Int):iu st n=(⟨false,[]⟩,st):=by simp[iu,h]
theorem uK {st:I} (h:st.err≠0) (n:Int):fA st n=(⟨false,[]⟩,st):=by unfold fA; rw[jV h,nJ h]
theorem pU {st:I} (h:st.err≠0):eB st=st:=by unfold eB; split; rfl; exact nI h 2
theorem tt (l:List UInt8) (p:Nat) (n:Nat) (h:n≤l.length):bG ⟨l,p,0⟩ n=(l.take n,⟨l.drop n,p+n,0⟩):=by
 unfold bG
 rw[if_neg (by simp),if_neg (by omega),if_neg (by simp only; omega)]
 simp
theorem oK (l:List UInt8) (p:Nat) (n:Int) (h:(l.length:Int)<n):bG ⟨l,p,0⟩ n=([],⟨l,p,1⟩):=by
 unfold bG
 rw[if_neg (by simp),if_neg (by omega),if_pos (by simp only; omega)]
theorem wV (l:List UInt8) (p:Nat) (n:Int) (h:n<0):bG ⟨l,p,0⟩ n=([],⟨l,p,4⟩):=by
 unfold bG
 rw[if_neg (by simp),if_pos h]
theorem su (l:List UInt8) (p:Nat) (n:Nat) (h1:1≤n) (h8:n≤8) (h:n≤l.length):di ⟨l,p,0⟩ n=(bk (l.take n),⟨l.drop n,p+n,0⟩):=by
 unfold di
 rw[if_pos (by omega),tt l p n h]
theorem mJ (l:List UInt8) (p:Nat) (n:Int) (h1:1≤n) (h8:n≤8) (h:(l.length:Int)<n):di ⟨l,p,0⟩ n=(0,⟨l,p,1⟩):=by
 unfold di
 rw[if_pos (by omega),oK l p n h]
 rfl
def kt (l:List UInt8):Bool:= !l.isEmpty && decide ((l.length:Int)≤32767)
theorem uL (l:List UInt8) (w:World):Calls Tryz.prog 77 #[.string (aF l)] w fun e w'=>e= .returned (.bool (kt l))∧w=w':=by
 cases l with
 | nil =>
  go_enter Tryz.func77,Tryz.ntmps77
  go_wp2_with fail
  go_ret
  exact⟨lh (by simp[kt]),rfl⟩
 | cons c l =>
  go_enter Tryz.func77,Tryz.ntmps77
  go_wp2_with fail
  go_ret
  exact⟨lh (by simp[kt]),rfl⟩
def ji (n:Nat):List UInt8:=if n<128 then [UInt8.ofNat n] else UInt8.ofNat (n % 128)::ji (n / 128)
termination_by n
decreasing_by omega
theorem pV (n:Nat):1≤(ji n).length:=by rw[ji]; split <;> simp
theorem oL (n:Nat):(ji n).length=(bB n).length:=by
 induction n using Nat.strongRecOn with
 | _ n ih =>
  rw[ji,bB]
  split
  ·rfl
  ·have:=ih (n / 128) (by omega)
   simp[this]
theorem wW (n:Nat):bB n=((ji n).take ((ji n).length - 1)).map (· + 128)++(ji n).drop ((ji n).length - 1):=by
 induction n using Nat.strongRecOn with
 | _ n ih =>
  rw[ji,bB]
  split
  ·rfl
  ·have h:=ih (n / 128) (by omega)
   have hp:=pV (n / 128)
   rw[h]
   obtain⟨k,hk⟩: ∃ k,(ji (n / 128)).length=k+1:=⟨_,(Nat.sub_add_cancel hp).symm⟩
   simp only[C5,hk,Nat.add_sub_cancel,List.take_succ_cons,List.map_cons,List.drop_succ_cons,List.cons_append]
   congr 1
   apply UInt8.toNat_inj.1
   simp[UInt8.toNat_ofNat',UInt8.toNat_add]
theorem rv (n:Int) (h0: -9223372036854775808≤n) (h1:n≤9223372036854775807) (w:World) :
 Calls Tryz.prog 148 #[.int .i64 n] w fun e w'=>e= .returned (.int .u64 (aN n))∧w=w':=by
 have H:=en n h0 h1
 by_cases h:n<0
 ·have HV:=Lib.hid (show (aN n:Int)= -(n+1)*2+1 by unfold aN; rw[if_pos h]; omega)
  go_enter Tryz.func148,Tryz.ntmps148
  go_wp2_with fail
  go_ret
  exact⟨fu (by rw[HV.out]),rfl⟩
 ·have HV:=Lib.hid (show (aN n:Int)=n*2 by unfold aN; rw[if_neg h]; omega)
  go_enter Tryz.func148,Tryz.ntmps148
  go_wp2_with fail
  go_ret
  exact⟨fu (by rw[HV.out]),rfl⟩
theorem sv (n:Nat) (hn:n<18446744073709551616) :
 e8 Tryz.prog 168 #[.int .u64 n] (fun v N=>N = [fP 5 1 v (ji n).length (aK (ji n))]):=by
 intro w
 have HS:=Lib.hid (Bm w)
 have HT:=Lib.hid (oL n ▸ e9 n hn)
 go_enter Tryz.func168,Tryz.ntmps168
 go_wp2_with fail
 go_loopw [0,3] (fun nv ov wr=> ∃ (m:Nat) (p:List UInt8),m≤n∧p++ji m=ji n∧nv= .int .u64 m∧St (fun _=>False) w [fP 5 1 ov (p.length+1) (aK (p ++ [UInt8.ofNat (m % 128)]))] wr) (fun i _ _=>(intOf i).toNat)
 case atStart =>
  refine⟨n,[],Dy _,rfl,rfl,?_⟩
  have h:=fP.lit (T:=5) (size:=1) HS.out #[.int .u8 ((n:Int) % 128)] 1 (by decide) rfl
  have e:aK ([] ++ [UInt8.ofNat (n % 128)]) = [.int .u8 ((n:Int) % 128)]:=by simp[aK,UInt8.toNat_ofNat']; omega
  rw[e]
  exact h
 case round =>
  obtain⟨m,p,hm,hp,rfl,hst⟩:=hrel
  obtain⟨g1,c1,rfl⟩:=fP.form 0 hst rfl (by omega)
  have hrow:=BV 0 hst rfl
  have HST:=Lib.hid hst
  by_cases h128:128≤m
  ·have hlen:p.length+1≤10:=by
    have h1:=congrArg List.length hp
    have h2:=HT.out
    have h3:=pV m
    rw[CW] at h1
    omega
   have HP:=Lib.hid (show (p ++ [UInt8.ofNat (m % 128)])++ji (m / 128)=ji n by rw[← hp,ji.eq_1 m,if_neg (by omega)]; simp)
   have HE:=Lib.hid (show aK (p ++ [UInt8.ofNat (m % 128)]) ++ [.int .u8 ((m:Int) / 128 % 128)]=aK (p ++ [UInt8.ofNat (m % 128)] ++ [UInt8.ofNat (m / 128 % 128)]) by simp[aK,UInt8.toNat_ofNat']; omega)
   have HR:=Lib.hid hrow
   clear hrow hp hst
   go_wp2_with (at_builtin; refine jR wr rfl _ _ _ rfl 5 (.int .u8 0) 1 Tryz.underlying64 lg rfl (.slice (some ⟨g1,0,none⟩) (p.length+1) c1) (p.length+1) (aK (p ++ [UInt8.ofNat (m % 128)])) rfl HR.out (.int .u8 ((m:Int) / 128 % 128)) rfl rfl (by omega) (by omega) ?_; intro v1 w1 ho1 hg hat; have H1:=Lib.hid (fP.grown 0 HST.out rfl ho1 hg hat); clear ho1 hg hat)
   go_roundw
   case rel=>exact⟨m / 128,_,by omega,HP.out,by go_num,by rw[← HE.out]; simpa using H1.out⟩
   case measure=>simp[intOf]; omega
  ·have HP:=Lib.hid (show p ++ [UInt8.ofNat (m % 128)]=ji n by rw[← hp,ji.eq_1 m,if_pos (by omega),Nat.mod_eq_of_lt (by omega)])
   have HL:=Lib.hid (show p.length+1=(ji n).length by rw[← HP.out]; simp)
   clear hrow hp hst
   go_wp2_with fail
   go_ret
   refine⟨_,_,rfl,rfl,?_⟩
   have h:=HST.out
   rw[HP.out] at h
   rw[← HL.out]
   exact h
def ln (l:List UInt8) (i:Nat):List UInt8:=(l.take i).map (· + 128)++l.drop i
theorem uM (l:List UInt8) (i:Nat) (h:i<l.length):(ln l i)[i]? = some l[i]:=by
 unfold ln
 rw[List.getElem?_append_right (by simp; omega)]
 simp only[Dh,Dt,List.getElem?_drop]
 rw[show i+(i - min i l.length)=i by omega,List.getElem?_eq_getElem h]
theorem uN (l:List UInt8) (i:Nat) (h:i<l.length):(ln l i).set i (l[i]+128)=ln l (i+1):=by
 unfold ln
 have hl:((l.take i).map (· + 128)).length=i:=by simp; omega
 rw[List.set_append_right _ _ (by omega),hl,Nat.sub_self,List.drop_eq_getElem_cons h,List.set_cons_zero,mY l i h,List.map_append,C2]
 rfl
theorem ra (l:List UInt8) (i:Nat) (c:UInt8):(aK l).set i (.int .u8 c.toNat)=aK (l.set i c):=by simp[aK,List.map_set]
theorem rc (l:List UInt8) (i:Nat):(aK l)[i]? = l[i]?.map fun c=>Value.int .u8 c.toNat:=by simp[aK]
theorem add128 (c:UInt8):((c.toNat:Int)+128) % 256=(c+128).toNat:=by simp[UInt8.toNat_add]
theorem rx (n:Nat) (hn:n<18446744073709551616) :
 e8 Tryz.prog 147 #[.int .u64 n] (fun v N=>v= .string (aF (bB n))∧N = []):=by
 intro w
 have HS:=Lib.hid (Bm w)
 have HT:=Lib.hid (oL n ▸ e9 n hn)
 have HP:=Lib.hid (pV n)
 have HV:=Lib.hid (wW n)
 go_enter Tryz.func147,Tryz.ntmps147
 go_wp2_with fail
 refine (HS.out.call0 (sv n hn)).mono ?_
 rintro e w1 ⟨v,N,rfl,rfl,H1⟩
 generalize ji n=l at *
 obtain⟨g,c,rfl⟩:=fP.form 0 H1 rfl HP.out
 have HS1:=Lib.hid H1
 clear H1
 have hp:=HP.out
 have hl:=HT.out
 go_wp2_with fail
 go_loopw [4] (fun iv wr=> ∃ i:Nat,i≤l.length - 1∧iv= .int .i64 i∧St (fun _=>False) w [fP 5 1 (.slice (some ⟨g,0,none⟩) l.length c) l.length (aK (ln l i))] wr) (fun i _=>l.length - (intOf i).toNat)
 case atStart=>exact⟨0,by omega,rfl,by simpa [ln] using HS1.out⟩
 case round =>
  obtain⟨i,hi,rfl,hst⟩:=hrel
  by_cases hlt:i<l.length - 1
  ·obtain⟨hc,hf⟩:=fP.cell 0 hst rfl i (by omega)
   rw[rc,uM l i (by omega)] at hc
   have HC:=Lib.hid (uN l i (by omega))
   have HA:=Lib.hid (add128 (l[i]'(by omega)))
   generalize l[i]'(by omega)=b at *
   have hb:=b.toNat_lt
   simp only[Option.map_some] at hc
   have HST:=Lib.hid hst
   clear hst
   go_wp2_with fail
   go_roundw
   case rel =>
    refine⟨i+1,by omega,by go_num,?_⟩
    have h:=fP.set 0 HST.out rfl i (.int .u8 (b+128).toNat)
    rw[ra,HC.out,← HA.out] at h
    exact h
   case measure=>simp[intOf]; omega
  ·have HE:=Lib.hid (show ln l i=bB n by rw[HV.out,show i=l.length - 1 by omega]; rfl)
   have hc:=mA (P:=Tryz.prog) wr (src:=64) (dst:=9) Tryz.underlying64 Tryz.underlying5 Tryz.underlying9 (BV 0 hst rfl)
   have HST:=Lib.hid hst
   clear hst
   go_wp2_with fail
   go_ret
   exact⟨_,_,rfl,⟨by rw[HE.out]; rfl,rfl⟩,HST.out.drop_⟩
attribute [local go_sem] dz bsOf_size
theorem ry (n:Nat) (hn:n<18446744073709551616) (w:World) :
 Calls Tryz.prog 180 #[.int .u64 n] w fun e w'=>e= .returned (.int .i64 (cY n))∧w=w':=by
 by_cases h:n % 2=1
 ·have HV:=Lib.hid (show cY n= -((n:Int) / 2) - 1 by unfold cY; rw[if_pos h]; omega)
  have hb:((n:Int) % 2 == 1)=true:=by simp; omega
  go_enter Tryz.func180,Tryz.ntmps180
  go_wp2_with fail
  go_ret
  exact⟨fu (by rw[HV.out]),rfl⟩
 ·have HV:=Lib.hid (show cY n=(n:Int) / 2 by unfold cY; rw[if_neg h]; omega)
  have hb:((n:Int) % 2 == 1)=false:=by simp; omega
  go_enter Tryz.func180,Tryz.ntmps180
  go_wp2_with fail
  go_ret
  exact⟨fu (by rw[HV.out]),rfl⟩
def fQ (r:Nat×I):Nat×Nat×Int:=if r.2.err=0 then (r.1,r.2.pos,0) else (0,0,r.2.err)
def tu (x:Nat×Nat×Int):Value:= .tuple #[.int .u64 x.1,.int .i64 x.2.1,.int .i64 x.2.2]
theorem tv (l:List UInt8) (bs:Int) (hb:bs=32∨bs=64) (hl:l.length≤140737488355328) (w:World) :
 Calls Tryz.prog 179 #[.string (aF l),.int .i64 bs] w fun e w'=>e= .returned (tu (fQ (vgo bs l 0 0 0)))∧w=w':=by
 generalize hr:vgo bs l 0 0 0=r
 have HR:=Lib.hid hr
 have hb1:32≤bs:=by omega
 have hb2:bs≤64:=by omega
 have HB:=Lib.hid hb
 have HG:=Lib.hid (lk l)
 clear hr hb
 go_enter Tryz.func179,Tryz.ntmps179
 go_wp2_with fail
 go_loop [7,8,9,10] (fun nv ov uv iv=> ∃ (i acc o:Nat),i≤l.length∧iv= .int .i64 i∧nv= .int .u64 acc∧ov= .int .u64 o∧uv= .int .i64 (7*i)∧7*i<bs+7∧(7*i<bs→o=2 ^ (7*i))∧acc<2 ^ (7*i)∧vgo bs (l.drop i) i acc i=r) (fun _ _ _ i=>l.length - (intOf i).toNat)
 case atStart=>exact⟨0,0,1,by omega,rfl,rfl,rfl,rfl,by omega,by simp,by simp,HR.out⟩
 case round =>
  obtain⟨i,acc,o,hi,rfl,rfl,rfl,rfl,h7,ho,hacc,hv⟩:=hrel
  by_cases hlt:i<l.length
  ·rw[List.drop_eq_getElem_cons hlt] at hv
   have hgi:=HG.out i (by rw[bsOf_size]; exact hlt)
   have hs:i<(aF l).size:=by rw[bsOf_size]; exact hlt
   have hc:=l[i].toNat_lt
   generalize l[i]=c at *
   have HV:=Lib.hid hv
   have HO:=Lib.hid ho
   have HACC:=Lib.hid hacc
   clear hv ho hacc
   by_cases hroom:7<bs - 7*i
   ·have hnb: ¬ (bs - 7*(i:Nat)≤0∨(bs - 7*(i:Nat)<7∧c.toNat % 128 / 2 ^ (bs - 7*(i:Nat)).toNat≠0)):=by omega
    have hz:=HO.out (by omega)
    obtain⟨hA1,hA2⟩:=jp bs HB.out acc (c.toNat % 128) i HACC.out (by omega) (by omega) (fun h=>hnb (.inr h))
    have h64:2 ^ bs.toNat≤18446744073709551616:=by rcases HB.out with h | h <;> rw[h] <;> decide
    have hp2:2 ^ (7*(i+1))=2 ^ (7*i)*128:=by rw[show 7*(i+1)=7*i+7 by omega,Nat.pow_add]
    rw[← hz] at hA1 hA2 hp2
    have hA3:acc+c.toNat % 128*o<18446744073709551616:=by omega
    have HA1:=Lib.hid hA1
    have HP2:=Lib.hid hp2
    have hmul:((c.toNat:Int) % 128*o)=((c.toNat % 128*o:Nat):Int):=by rw[Int.natCast_mul,Int.natCast_emod]; rfl
    have HMUL:=Lib.hid hmul
    have HVV:=HV.out
    rw[vgo,if_neg hnb,← hz] at HVV
    generalize hy:c.toNat % 128*o=y at *
    have hy0:(0:Int)≤(c.toNat:Int) % 128*o:=by rw[hmul]; omega
    have hy1:(c.toNat:Int) % 128*o≤18446744073709551615:=by rw[hmul]; omega
    have hy2:(acc:Int)+(c.toNat:Int) % 128*o≤18446744073709551615:=by rw[hmul]; omega
    have HY:=Lib.hid hy
    have HZ:=Lib.hid hz
    clear hy hz hA1 hA2 hp2 hmul h64 hnb
    by_cases h128:128≤c.toNat
    ·have HN:=Lib.hid (show vgo bs (l.drop (i+1)) (i+1) (acc+y) (i+1)=r by rw[if_pos h128] at HVV; exact HVV)
     clear HVV
     go_wp2_with fail
     refine wp_loop_rounds 8 ?_
     repeat (rw[rounds_succ]; go_wp2_with fail)
     go_round
     case rel =>
      refine⟨i+1,acc+y,(o*128) % 18446744073709551616,by omega,by go_num,?_,?_,by go_num,by omega,?_,HA1.out,HN.out⟩
      ·rw[HMUL.out]; simp
      ·first | rfl | simp
      ·intro h
       have h1:=HP2.out
       have h2:2 ^ (7*(i+1))≤2 ^ 63:=Nat.pow_le_pow_right (by decide) (by omega)
       rw[h1] at h2 ⊢
       have h3:(2:Nat) ^ 63=9223372036854775808:=by decide
       omega
     case measure=>simp[intOf]; omega
    ·rw[if_neg h128] at HVV
     by_cases hz0:c.toNat=0∧0<i
     ·have HE:=Lib.hid (show fQ r=(0,0,3) by rw[if_pos hz0] at HVV; rw[← HVV]; rfl)
      clear HVV
      obtain⟨hc0,hi0⟩:=hz0
      have hcz:((c.toNat:Int) == 0)=true:=by simp[hc0]
      go_wp2_with fail
      refine wp_loop_rounds 8 ?_
      repeat (rw[rounds_succ]; go_wp2_with fail)
      go_ret3
      exact⟨congrArg Ending.returned (by rw[HE.out]; rfl),rfl⟩
     ·have HE:=Lib.hid (show fQ r=(acc+y,i+1,0) by rw[if_neg hz0] at HVV; rw[← HVV]; rfl)
      clear HVV
      by_cases hc0:c.toNat=0
      ·have hi0: ¬ (0<(i:Int)):=by omega
       have hcz:((c.toNat:Int) == 0)=true:=by simp[hc0]
       have HE2:=Lib.hid (show fQ r=(acc,i+1,0) by rw[HE.out,← HY.out,hc0]; simp)
       go_wp2_with fail
       refine wp_loop_rounds 8 ?_
       repeat (rw[rounds_succ]; go_wp2_with fail)
       all_goals
        go_ret3
        exact⟨congrArg Ending.returned (by rw[HE2.out]; rfl),rfl⟩
      ·have hcz:((c.toNat:Int) == 0)=false:=by simp; omega
       go_wp2_with fail
       refine wp_loop_rounds 8 ?_
       repeat (rw[rounds_succ]; go_wp2_with fail)
       go_ret3
       exact⟨congrArg Ending.returned (by rw[HE.out]; simp only[tu]; rw[Int.natCast_add,← HMUL.out]; rfl),rfl⟩
   ·have hcase:(bs=32∧i=4)∨(bs=32∧i=5)∨(bs=64∧i=9)∨(bs=64∧i=10):=by
     have:=HB.out
     omega
    clear hroom
    rcases hcase with⟨rfl,rfl⟩ | ⟨rfl,rfl⟩ | ⟨rfl,rfl⟩ | ⟨rfl,rfl⟩
    ·by_cases hd:c.toNat % 128<16
     ·have hdd:(c.toNat:Int) % 128≤15:=by omega
      have hnb: ¬ ((32:Int) - 7*(4:Nat)≤0∨((32:Int) - 7*(4:Nat)<7∧c.toNat % 128 / 2 ^ ((32:Int) - 7*(4:Nat)).toNat≠0)):=by
       have e:c.toNat % 128 / 2 ^ ((32:Int) - 7*(4:Nat)).toNat=0:=Nat.div_eq_of_lt hd
       rw[e]; omega
      have hz:=HO.out (by omega)
      obtain⟨hA1,hA2⟩:=jp (32:Int) HB.out acc (c.toNat % 128) 4 HACC.out (by omega) (by omega) (fun h=>hnb (.inr h))
      have h64:2 ^ (32:Int).toNat≤18446744073709551616:=by rcases HB.out with h | h <;> rw[h] <;> decide
      have hp2:2 ^ (7*(4+1))=2 ^ (7*4)*128:=by rw[show 7*(4+1)=7*4+7 by omega,Nat.pow_add]
      rw[← hz] at hA1 hA2 hp2
      have hA3:acc+c.toNat % 128*o<18446744073709551616:=by omega
      have HA1:=Lib.hid hA1
      have HP2:=Lib.hid hp2
      have hmul:((c.toNat:Int) % 128*o)=((c.toNat % 128*o:Nat):Int):=by rw[Int.natCast_mul,Int.natCast_emod]; rfl
      have HMUL:=Lib.hid hmul
      have HVV:=HV.out
      rw[vgo,if_neg hnb,← hz] at HVV
      generalize hy:c.toNat % 128*o=y at *
      have hy0:(0:Int)≤(c.toNat:Int) % 128*o:=by rw[hmul]; omega
      have hy1:(c.toNat:Int) % 128*o≤18446744073709551615:=by rw[hmul]; omega
      have hy2:(acc:Int)+(c.toNat:Int) % 128*o≤18446744073709551615:=by rw[hmul]; omega
      have HY:=Lib.hid hy
      have HZ:=Lib.hid hz
      clear hy hz hA1 hA2 hp2 hmul h64 hnb
      by_cases h128:128≤c.toNat
      ·have HN:=Lib.hid (show vgo (32:Int) (l.drop (4+1)) (4+1) (acc+y) (4+1)=r by rw[if_pos h128] at HVV; exact HVV)
       clear HVV
       go_wp2_with fail
       refine wp_loop_rounds 5 ?_
       repeat (rw[rounds_succ]; go_wp2_with fail)
       go_round
       case rel =>
        refine⟨4+1,acc+y,(o*128) % 18446744073709551616,by omega,by go_num,?_,?_,by go_num,by omega,?_,HA1.out,HN.out⟩
        ·rw[HMUL.out]; simp
        ·first | rfl | simp
        ·intro h
         have h1:=HP2.out
         have h2:2 ^ (7*(4+1))≤2 ^ 63:=Nat.pow_le_pow_right (by decide) (by omega)
         rw[h1] at h2 ⊢
         have h3:(2:Nat) ^ 63=9223372036854775808:=by decide
         omega
       case measure=>simp[intOf]; omega
      ·rw[if_neg h128] at HVV
       by_cases hz0:c.toNat=0∧0<4
       ·have HE:=Lib.hid (show fQ r=(0,0,3) by rw[if_pos hz0] at HVV; rw[← HVV]; rfl)
        clear HVV
        obtain⟨hc0,hi0⟩:=hz0
        have hcz:((c.toNat:Int) == 0)=true:=by simp[hc0]
        go_wp2_with fail
        refine wp_loop_rounds 5 ?_
        repeat (rw[rounds_succ]; go_wp2_with fail)
        go_ret3
        exact⟨congrArg Ending.returned (by rw[HE.out]; rfl),rfl⟩
       ·have HE:=Lib.hid (show fQ r=(acc+y,4+1,0) by rw[if_neg hz0] at HVV; rw[← HVV]; rfl)
        clear HVV
        by_cases hc0:c.toNat=0
        ·exact absurd ⟨hc0,by omega⟩ hz0
        ·have hcz:((c.toNat:Int) == 0)=false:=by simp; omega
         go_wp2_with fail
         refine wp_loop_rounds 5 ?_
         repeat (rw[rounds_succ]; go_wp2_with fail)
         go_ret3
         exact⟨congrArg Ending.returned (by rw[HE.out]; simp only[tu]; rw[Int.natCast_add,← HMUL.out]; rfl),rfl⟩
     ·have HE:=Lib.hid (show fQ r=(0,0,3) by rw[← HV.out,vgo,if_pos (by exact .inr ⟨by omega,by rw[show ((32:Int) - 7*((4:Nat):Int)).toNat=4 by decide]; omega⟩)]; rfl)
      have hdd:15<(c.toNat:Int) % 128:=by omega
      go_wp2_with fail
      refine wp_loop_rounds 5 ?_
      repeat (rw[rounds_succ]; go_wp2_with fail)
      go_ret3
      exact⟨congrArg Ending.returned (by rw[HE.out]; rfl),rfl⟩
    ·have HE:=Lib.hid (show fQ r=(0,0,3) by rw[← HV.out,vgo,if_pos (by left; omega)]; rfl)
     go_wp2_with fail
     refine wp_loop_rounds 1 ?_
     repeat (rw[rounds_succ]; go_wp2_with fail)
     go_ret3
     exact⟨congrArg Ending.returned (by rw[HE.out]; rfl),rfl⟩
    ·by_cases hd:c.toNat % 128<2
     ·have hdd:(c.toNat:Int) % 128≤1:=by omega
      have hnb: ¬ ((64:Int) - 7*(9:Nat)≤0∨((64:Int) - 7*(9:Nat)<7∧c.toNat % 128 / 2 ^ ((64:Int) - 7*(9:Nat)).toNat≠0)):=by
       have e:c.toNat % 128 / 2 ^ ((64:Int) - 7*(9:Nat)).toNat=0:=Nat.div_eq_of_lt hd
       rw[e]; omega
      have hz:=HO.out (by omega)
      obtain⟨hA1,hA2⟩:=jp (64:Int) HB.out acc (c.toNat % 128) 9 HACC.out (by omega) (by omega) (fun h=>hnb (.inr h))
      have h64:2 ^ (64:Int).toNat≤18446744073709551616:=by rcases HB.out with h | h <;> rw[h] <;> decide
      have hp2:2 ^ (7*(9+1))=2 ^ (7*9)*128:=by rw[show 7*(9+1)=7*9+7 by omega,Nat.pow_add]
      rw[← hz] at hA1 hA2 hp2
      have hA3:acc+c.toNat % 128*o<18446744073709551616:=by omega
      have HA1:=Lib.hid hA1
      have HP2:=Lib.hid hp2
      have hmul:((c.toNat:Int) % 128*o)=((c.toNat % 128*o:Nat):Int):=by rw[Int.natCast_mul,Int.natCast_emod]; rfl
      have HMUL:=Lib.hid hmul
      have HVV:=HV.out
      rw[vgo,if_neg hnb,← hz] at HVV
      generalize hy:c.toNat % 128*o=y at *
      have hy0:(0:Int)≤(c.toNat:Int) % 128*o:=by rw[hmul]; omega
      have hy1:(c.toNat:Int) % 128*o≤18446744073709551615:=by rw[hmul]; omega
      have hy2:(acc:Int)+(c.toNat:Int) % 128*o≤18446744073709551615:=by rw[hmul]; omega
      have HY:=Lib.hid hy
      have HZ:=Lib.hid hz
      clear hy hz hA1 hA2 hp2 hmul h64 hnb
      by_cases h128:128≤c.toNat
      ·have HN:=Lib.hid (show vgo (64:Int) (l.drop (9+1)) (9+1) (acc+y) (9+1)=r by rw[if_pos h128] at HVV; exact HVV)
       clear HVV
       go_wp2_with fail
       refine wp_loop_rounds 2 ?_
       repeat (rw[rounds_succ]; go_wp2_with fail)
       go_round
       case rel =>
        refine⟨9+1,acc+y,(o*128) % 18446744073709551616,by omega,by go_num,?_,?_,by go_num,by omega,?_,HA1.out,HN.out⟩
        ·rw[HMUL.out]; simp
        ·first | rfl | simp
        ·intro h
         have h1:=HP2.out
         have h2:2 ^ (7*(9+1))≤2 ^ 63:=Nat.pow_le_pow_right (by decide) (by omega)
         rw[h1] at h2 ⊢
         have h3:(2:Nat) ^ 63=9223372036854775808:=by decide
         omega
       case measure=>simp[intOf]; omega
      ·rw[if_neg h128] at HVV
       by_cases hz0:c.toNat=0∧0<9
       ·have HE:=Lib.hid (show fQ r=(0,0,3) by rw[if_pos hz0] at HVV; rw[← HVV]; rfl)
        clear HVV
        obtain⟨hc0,hi0⟩:=hz0
        have hcz:((c.toNat:Int) == 0)=true:=by simp[hc0]
        go_wp2_with fail
        refine wp_loop_rounds 2 ?_
        repeat (rw[rounds_succ]; go_wp2_with fail)
        go_ret3
        exact⟨congrArg Ending.returned (by rw[HE.out]; rfl),rfl⟩
       ·have HE:=Lib.hid (show fQ r=(acc+y,9+1,0) by rw[if_neg hz0] at HVV; rw[← HVV]; rfl)
        clear HVV
        by_cases hc0:c.toNat=0
        ·exact absurd ⟨hc0,by omega⟩ hz0
        ·have hcz:((c.toNat:Int) == 0)=false:=by simp; omega
         go_wp2_with fail
         refine wp_loop_rounds 2 ?_
         repeat (rw[rounds_succ]; go_wp2_with fail)
         go_ret3
         exact⟨congrArg Ending.returned (by rw[HE.out]; simp only[tu]; rw[Int.natCast_add,← HMUL.out]; rfl),rfl⟩
     ·have HE:=Lib.hid (show fQ r=(0,0,3) by rw[← HV.out,vgo,if_pos (by exact .inr ⟨by omega,by rw[show ((64:Int) - 7*((9:Nat):Int)).toNat=1 by decide]; omega⟩)]; rfl)
      have hdd:1<(c.toNat:Int) % 128:=by omega
      go_wp2_with fail
      refine wp_loop_rounds 2 ?_
      repeat (rw[rounds_succ]; go_wp2_with fail)
      go_ret3
      exact⟨congrArg Ending.returned (by rw[HE.out]; rfl),rfl⟩
    ·have HE:=Lib.hid (show fQ r=(0,0,3) by rw[← HV.out,vgo,if_pos (by left; omega)]; rfl)
     go_wp2_with fail
     refine wp_loop_rounds 1 ?_
     repeat (rw[rounds_succ]; go_wp2_with fail)
     go_ret3
     exact⟨congrArg Ending.returned (by rw[HE.out]; rfl),rfl⟩
  ·have e1:i=l.length:=by omega
   have HE:=Lib.hid (show fQ r=(0,0,1) by rw[e1,List.drop_length] at hv; rw[← hv]; rfl)
   clear hv ho hacc
   go_wp2_with fail
   go_ret3
   exact⟨congrArg Ending.returned (by rw[HE.out]; rfl),rfl⟩
theorem m4 {P:Program} {id:Nat} {Q:Exit→Act→World→Prop} {a:Act} {w:World} {l:List Oper} {F0:Nat→Prop} {w0:World} {Rs:List Res} (hs:St F0 w0 Rs w)
 (hm:P.follows .mixedOrders=true) (hB:Region.lexB .any l.toArray=true)
 (h:wpQuiet P l.toArray (fun w'=>St F0 w0 Rs w') (fun a'=> ∀ w',St F0 w0 Rs w'→Q .normal a' w') l a):(Code.region id l.toArray true).wp P Q a w:=by
 refine wp_region_quiet (C:=fun w'=>St F0 w0 Rs w') hm hB ?_ (by simpa using h)
 exact hs.drew
theorem oM (a b:List UInt8):aF a++aF b=aF (a++b):=by
 apply ByteArray.ext
 simp[aF]
attribute [local go_sem] dz bsOf_size oM
theorem pW (b:Bl):e8 Tryz.prog 123 #[blV b] (fun v N=>v= .int .i64 (cg b)∧N = []):=by
 intro w
 have HS:=Lib.hid (Bm w)
 obtain⟨n,l⟩:=b
 cases n
 all_goals
  go_enter Tryz.func123,Tryz.ntmps123
  go_wp2_with fail
  go_ret
  exact⟨_,_,rfl,⟨rfl,rfl⟩,(HS.out.alloc _ _).drop_⟩
theorem sw (b:Bl) (k:Nat) (hk:k≤8) (hl:b.data.length≤140737488355328):e8 Tryz.prog 67 #[blV b,.int .i64 k] (fun v N=>v= .string (aF (be (cg b) k++b.data))∧N = []):=by
 intro w
 have HS:=Lib.hid ((Bm w).alloc #[.bool b.null,.string (aF b.data)] 35)
 have hr:=kr b (by omega)
 have hsum:(be (cg b) k).length+b.data.length≤9223372036854775807:=by rw[aA]; omega
 go_enter Tryz.func67,Tryz.ntmps67
 go_wp2_with fail
 refine m4 HS.out (by kernel_rfl) (by kernel_rfl) ?_
 refine wpQuiet_step (fun K hK=> ?_)
 go_simp
 refine⟨.agg #[.bool b.null,.string (aF b.data)],fun w1 hw1=> ?_,hK _ ?_⟩
 ·have d0:w1.cell? ⟨w.heap.size,0,none⟩=some (.bool b.null):=aI (St.blk 0 hw1 rfl) 0
  have d1:w1.cell? ⟨w.heap.size,1,none⟩=some (.string (aF b.data)):=aI (St.blk 0 hw1 rfl) 1
  simp[d0,d1,Result.andThen]
 clear hK K
 refine wpQuiet_step (fun K hK=> ?_)
 go_simp
 refine⟨.int .i64 (cg b),fun w1 hw1=> ?_,hK _ ?_⟩
 ·exact (hw1.call0 (pW b)).mono (by rintro e w2 ⟨v,N,rfl,⟨rfl,rfl⟩,H⟩; exact⟨rfl,H⟩)
 clear hK K
 refine wpQuiet_step (fun K hK=> ?_)
 go_simp
 refine⟨_,fun w1 hw1=>rfl,hK _ ?_⟩
 clear hK K
 refine wpQuiet_step (fun K hK=> ?_)
 go_simp
 refine⟨.string (aF (be (cg b) k)),fun w1 hw1=> ?_,hK _ ?_⟩
 ·exact (hw1.call0 (mD (cg b) k hr.1 hr.2 hk)).mono (by rintro e w2 ⟨v,N,rfl,⟨rfl,rfl⟩,H⟩; exact⟨rfl,H⟩)
 clear hK K
 refine wpQuiet_step (fun K hK=> ?_)
 go_simp
 refine⟨_,fun w1 hw1=>rfl,hK _ ?_⟩
 clear hK K
 refine wpQuiet_step (fun K hK=> ?_)
 go_simp
 refine⟨.string (aF b.data),fun w1 hw1=> ?_,hK _ ?_⟩
 ·have d1:w1.cell? ⟨w.heap.size,1,none⟩=some (.string (aF b.data)):=aI (St.blk 0 hw1 rfl) 1
  simp[d1,Result.andThen]
 clear hK K
 refine wpQuiet_step (fun K hK=> ?_)
 go_simp
 refine⟨.string (aF (be (cg b) k++b.data)),fun w1 hw1=> ?_,hK _ ?_⟩
 ·rw[if_neg (by omega)]
  exact⟨rfl,rfl⟩
 clear hK K
 refine wpQuiet_step (fun K hK=> ?_)
 go_simp
 refine⟨_,fun w1 hw1=>rfl,hK _ ?_⟩
 clear hK K
 refine wpQuiet_nil ?_
 intro w1 hw1
 have HS1:=Lib.hid hw1
 clear hw1
 go_wp2_with fail
 go_ret
 exact⟨_,_,rfl,⟨rfl,rfl⟩,HS1.out.drop_⟩
theorem rd (b:Bl) (hl:b.data.length≤140737488355328):e8 Tryz.prog 114 #[blV b] (fun v N=>v= .string (aF (bB (aN (cg b))++b.data))∧N = []):=by
 intro w
 have HS:=Lib.hid ((Bm w).alloc #[.bool b.null,.string (aF b.data)] 35)
 have hr:=kr b (by omega)
 have hv10:=e9 _ (en (cg b) hr.1 hr.2)
 have hsum:(bB (aN (cg b))).length+b.data.length≤9223372036854775807:=by omega
 go_enter Tryz.func114,Tryz.ntmps114
 go_wp2_with fail
 refine m4 HS.out (by kernel_rfl) (by kernel_rfl) ?_
 refine wpQuiet_step (fun K hK=> ?_)
 go_simp
 refine⟨.agg #[.bool b.null,.string (aF b.data)],fun w1 hw1=> ?_,hK _ ?_⟩
 ·have d0:w1.cell? ⟨w.heap.size,0,none⟩=some (.bool b.null):=aI (St.blk 0 hw1 rfl) 0
  have d1:w1.cell? ⟨w.heap.size,1,none⟩=some (.string (aF b.data)):=aI (St.blk 0 hw1 rfl) 1
  simp[d0,d1,Result.andThen]
 clear hK K
 refine wpQuiet_step (fun K hK=> ?_)
 go_simp
 refine⟨.int .i64 (cg b),fun w1 hw1=> ?_,hK _ ?_⟩
 ·exact (hw1.call0 (pW b)).mono (by rintro e w2 ⟨v,N,rfl,⟨rfl,rfl⟩,H⟩; exact⟨rfl,H⟩)
 clear hK K
 refine wpQuiet_step (fun K hK=> ?_)
 go_simp
 refine⟨.int .u64 (aN (cg b)),fun w1 hw1=> ?_,hK _ ?_⟩
 ·exact (rv (cg b) hr.1 hr.2 w1).mono (by rintro e w2 ⟨rfl,rfl⟩; exact⟨rfl,hw1⟩)
 clear hK K
 refine wpQuiet_step (fun K hK=> ?_)
 go_simp
 refine⟨.string (aF (bB (aN (cg b)))),fun w1 hw1=> ?_,hK _ ?_⟩
 ·exact (hw1.call0 (rx (aN (cg b)) (en _ hr.1 hr.2))).mono (by rintro e w2 ⟨v,N,rfl,⟨rfl,rfl⟩,H⟩; exact⟨rfl,H⟩)
 clear hK K
 refine wpQuiet_step (fun K hK=> ?_)
 go_simp
 refine⟨_,fun w1 hw1=>rfl,hK _ ?_⟩
 clear hK K
 refine wpQuiet_step (fun K hK=> ?_)
 go_simp
 refine⟨.string (aF b.data),fun w1 hw1=> ?_,hK _ ?_⟩
 ·have d1:w1.cell? ⟨w.heap.size,1,none⟩=some (.string (aF b.data)):=aI (St.blk 0 hw1 rfl) 1
  simp[d1,Result.andThen]
 clear hK K
 refine wpQuiet_step (fun K hK=> ?_)
 go_simp
 refine⟨.string (aF (bB (aN (cg b))++b.data)),fun w1 hw1=> ?_,hK _ ?_⟩
 ·rw[if_neg (by omega)]
  exact⟨rfl,rfl⟩
 clear hK K
 refine wpQuiet_step (fun K hK=> ?_)
 go_simp
 refine⟨_,fun w1 hw1=>rfl,hK _ ?_⟩
 clear hK K
 refine wpQuiet_nil ?_
 intro w1 hw1
 have HS1:=Lib.hid hw1
 clear hw1
 go_wp2_with fail
 go_ret
 exact⟨_,_,rfl,⟨rfl,rfl⟩,HS1.out.drop_⟩
attribute [local go_sem] dz bsOf_size oM
structure Gt where
 blob:Bl
 many:Int
 err:Int
@[go_sem] def gtV (x:Gt):Value:= .agg #[.bool x.blob.null,.string (aF x.blob.data),.int .i64 x.many,.int .i64 x.err]
theorem lq:(Tryz.prog.info? 119).map (·.size)=some 4:=by kernel_rfl
def kR (l:List UInt8) (head:Nat) (n:Int):Gt :=
 if n= -1 then ⟨⟨true,[]⟩,head,0⟩ else if n<0 then ⟨⟨false,[]⟩,0,4⟩ else if (l.length:Int) - head<n then ⟨⟨false,[]⟩,0,1⟩ else ⟨⟨false,(l.drop head).take n.toNat⟩,head+n,0⟩
theorem xT (l:List UInt8) (a:Nat) (n:Nat):(aF l).extract a (a+n)=aF ((l.drop a).take n):=by rw[jm,bH,Nat.add_sub_cancel_left]
theorem rz (l:List UInt8) (head:Nat) (n:Int) (hh:head≤l.length) (hl:l.length≤140737488355328) (h0: -9223372036854775808≤n) (h1:n≤9223372036854775807) :
 e8 Tryz.prog 121 #[.string (aF l),.int .i64 head,.int .i64 n] (fun v N=>v=gtV (kR l head n)∧N = []):=by
 intro w
 have HS:=Lib.hid (Bm w)
 by_cases a1:n= -1
 ·have HQ:=Lib.hid (show kR l head n=⟨⟨true,[]⟩,head,0⟩ by unfold kR; rw[if_pos a1])
  have hb:(n == -1)=true:=by simp[a1]
  clear a1
  go_enter Tryz.func121,Tryz.ntmps121
  go_wp2_with fail
  refine bodyPost_ret (v:=gtV ⟨⟨true,[]⟩,head,0⟩) (results_cell_row (by rfl) _ _ w.heap.size 119 #[.bool true,.string (aF []),.int .i64 head,.int .i64 0] (0,0) _ rfl (heap_alloc_new w _) Tryz.underlying119 rfl lq) rfl ?_
  exact⟨_,_,rfl,⟨congrArg gtV HQ.out.symm,rfl⟩,(HS.out.alloc _ _).drop_⟩
 have hb:(n == -1)=false:=beq_eq_false_iff_ne.2 a1
 by_cases a2:n<0
 ·have HQ:=Lib.hid (show kR l head n=⟨⟨false,[]⟩,0,4⟩ by unfold kR; rw[if_neg a1,if_pos a2])
  clear a1
  go_enter Tryz.func121,Tryz.ntmps121
  go_wp2_with fail
  refine bodyPost_ret (v:=gtV ⟨⟨false,[]⟩,0,4⟩) (results_cell_row (by rfl) _ _ w.heap.size 119 #[.bool false,.string (aF []),.int .i64 0,.int .i64 4] (0,0) _ rfl (heap_alloc_new w _) Tryz.underlying119 rfl lq) rfl ?_
  exact⟨_,_,rfl,⟨congrArg gtV HQ.out.symm,rfl⟩,(HS.out.alloc _ _).drop_⟩
 by_cases a3:(l.length:Int) - head<n
 ·have HQ:=Lib.hid (show kR l head n=⟨⟨false,[]⟩,0,1⟩ by unfold kR; rw[if_neg a1,if_neg a2,if_pos a3])
  clear a1
  go_enter Tryz.func121,Tryz.ntmps121
  go_wp2_with fail
  refine bodyPost_ret (v:=gtV ⟨⟨false,[]⟩,0,1⟩) (results_cell_row (by rfl) _ _ w.heap.size 119 #[.bool false,.string (aF []),.int .i64 0,.int .i64 1] (0,0) _ rfl (heap_alloc_new w _) Tryz.underlying119 rfl lq) rfl ?_
  exact⟨_,_,rfl,⟨congrArg gtV HQ.out.symm,rfl⟩,(HS.out.alloc _ _).drop_⟩
 ·obtain⟨k,rfl⟩: ∃ k:Nat,n=k:=⟨n.toNat,by omega⟩
  have HQ:=Lib.hid (show kR l head k=⟨⟨false,(l.drop head).take k⟩,head+k,0⟩ by unfold kR; rw[if_neg a1,if_neg a2,if_neg a3]; rfl)
  have hx:=xT l head k
  clear a1 a2
  go_enter Tryz.func121,Tryz.ntmps121
  go_wp2_with fail
  refine bodyPost_ret (v:=gtV ⟨⟨false,(l.drop head).take k⟩,head+k,0⟩) (results_cell_row (by rfl) _ _ w.heap.size 119 #[.bool false,.string (aF ((l.drop head).take k)),.int .i64 (head+k),.int .i64 0] (0,0) _ rfl ?_ Tryz.underlying119 rfl lq) rfl ?_
  ·simp only[heap_alloc_new,hx]
  ·exact⟨_,_,rfl,⟨congrArg gtV HQ.out.symm,rfl⟩,(HS.out.alloc _ _).drop_⟩
def iO (l:List UInt8) (k:Nat):Gt:=if l.length<k then ⟨⟨false,[]⟩,0,1⟩ else kR l k (bk (l.take k))
theorem uO (l:List UInt8) (k:Nat):(aF l).extract 0 k=aF (l.take k):=by rw[jm,bH]; simp
theorem wX (l:List UInt8) (h:l.length≤8): -9223372036854775808≤bk l∧bk l≤9223372036854775807:=by
 have h1:=mG ⟨l,0,0⟩ l.length
 by_cases hl:1≤l.length
 ·have h2:=xM l 0 hl h []
  rw[DE] at h2
  rw[h2] at h1
  exact h1
 ·have:l = []:=List.eq_nil_of_length_eq_zero (by omega)
  subst this
  simp[bk]
attribute [local go_sem] uO
theorem tw (l:List UInt8) (k:Nat) (hk:k≤8) (hl:l.length≤140737488355328) :
 e8 Tryz.prog 62 #[.string (aF l),.int .i64 k] (fun v N=>v=gtV (iO l k)∧N = []):=by
 intro w
 have HS:=Lib.hid ((Bm w).alloc #[.bool false,.string ⟨#[]⟩,.int .i64 0,.int .i64 0] 119)
 by_cases h:l.length<k
 ·have HQ:=Lib.hid (show iO l k=⟨⟨false,[]⟩,0,1⟩ by unfold iO; rw[if_pos h])
  go_enter Tryz.func62,Tryz.ntmps62
  go_wp2_with fail
  refine bodyPost_ret (v:=gtV ⟨⟨false,[]⟩,0,1⟩) (results_cell_row (by rfl) _ _ w.heap.size 119 #[.bool false,.string (aF []),.int .i64 0,.int .i64 1] (0,0) _ rfl (heap_alloc_new w _) Tryz.underlying119 rfl lq) rfl ?_
  exact⟨_,_,rfl,⟨congrArg gtV HQ.out.symm,rfl⟩,((Bm w).alloc _ _).drop_⟩
 ·have HQ:=Lib.hid (show iO l k=kR l k (bk (l.take k)) by unfold iO; rw[if_neg h])
  have hb:=wX (l.take k) (by rw[Dt]; omega)
  have hk1:k≤l.length:=by omega
  go_enter Tryz.func62,Tryz.ntmps62
  go_wp2_with fail
  refine ((pQ (l.take k) (by rw[Dt]; omega) _)).mono ?_
  rintro e w1 ⟨rfl,rfl⟩
  go_wp2_with fail
  refine (St.call0 HS.out (rz l k (bk (l.take k)) hk1 hl hb.1 hb.2)).mono ?_
  rintro e w2 ⟨v,N,rfl,⟨rfl,rfl⟩,H2⟩
  generalize hq:kR l k (bk (l.take k))=q at *
  have d0:w2.cell? ⟨w.heap.size,0,none⟩=some (.bool false):=aI (St.blk 0 H2 rfl) 0
  have f0:w2.frozen? ⟨w.heap.size,0,none⟩=false:=bd (St.blk 0 H2 rfl) 0
  have d1:w2.cell? ⟨w.heap.size,1,none⟩=some (.string ⟨#[]⟩):=aI (St.blk 0 H2 rfl) 1
  have f1:w2.frozen? ⟨w.heap.size,1,none⟩=false:=bd (St.blk 0 H2 rfl) 1
  have d2:w2.cell? ⟨w.heap.size,2,none⟩=some (.int .i64 0):=aI (St.blk 0 H2 rfl) 2
  have f2:w2.frozen? ⟨w.heap.size,2,none⟩=false:=bd (St.blk 0 H2 rfl) 2
  have d3:w2.cell? ⟨w.heap.size,3,none⟩=some (.int .i64 0):=aI (St.blk 0 H2 rfl) 3
  have f3:w2.frozen? ⟨w.heap.size,3,none⟩=false:=bd (St.blk 0 H2 rfl) 3
  have HD:=Lib.hid H2
  have HQ2:=Lib.hid hq
  clear H2 hq
  go_wp2_with fail
  have HE:=(((HD.out.set 0 rfl 0 (.bool q.blob.null)).set 0 rfl 1 (.string (aF q.blob.data))).set 0 rfl 2 (.int .i64 q.many)).set 0 rfl 3 (.int .i64 q.err)
  refine bodyPost_ret (v:=gtV q) (results_cell_row (by rfl) _ _ w.heap.size 119 #[.bool q.blob.null,.string (aF q.blob.data),.int .i64 q.many,.int .i64 q.err] (0,0) _ rfl (St.blk 0 HE rfl) Tryz.underlying119 rfl lq) rfl ?_
  exact⟨_,_,rfl,⟨congrArg gtV HQ.out.symm,rfl⟩,HE.drop_⟩
def ls (l:List UInt8) (x:Nat×Nat×Int):Gt:=if x.2.2≠0 then ⟨⟨false,[]⟩,0,x.2.2⟩ else kR l x.2.1 (cY x.1)
def iB (l:List UInt8):Gt:=ls l (fQ (vgo 32 l 0 0 0))
theorem zK (bs:Int): ∀ (l:List UInt8) (pos acc i:Nat),(vgo bs l pos acc i).2.pos≤pos+l.length:=by
 intro l
 induction l with
 | nil=>intro pos acc i; simp[vgo]
 | cons c l ih =>
  intro pos acc i
  unfold vgo
  have h:=ih (pos+1) (acc+c.toNat % 128*2 ^ (7*i)) (i+1)
  simp only[C5]
  split
  ·simp only; omega
  ·split
   ·omega
   ·split
    ·simp only; omega
    ·simp only; omega
attribute [local go_sem] tu
theorem sx (l:List UInt8) (hl:l.length≤140737488355328) :
 e8 Tryz.prog 170 #[.string (aF l)] (fun v N=>v=gtV (iB l)∧N = []):=by
 intro w
 have HS:=Lib.hid ((Bm w).alloc #[.bool false,.string ⟨#[]⟩,.int .i64 0,.int .i64 0] 119)
 have hq0:iB l=ls l (fQ (vgo 32 l 0 0 0)):=rfl
 have hp:=zK 32 l 0 0 0
 have hlt:=xP 32 (.inl rfl) l 0 0 0 (by simp)
 rw[show 2 ^ (32:Int).toNat=4294967296 by decide] at hlt
 have hx1:(fQ (vgo 32 l 0 0 0)).1<4294967296:=by unfold fQ; split; exact hlt; simp
 have hx2:(fQ (vgo 32 l 0 0 0)).2.1≤l.length:=by unfold fQ; split; (simp only; omega); simp
 have HG:=Lib.hid (tv l 32 (.inl rfl) hl)
 generalize fQ (vgo 32 l 0 0 0)=x at *
 obtain⟨n,many,er⟩:=x
 simp only at hx1 hx2
 clear hp hlt
 by_cases h:er≠0
 ·have HQ:=Lib.hid (show iB l=⟨⟨false,[]⟩,0,er⟩ by rw[hq0]; unfold ls; rw[if_pos h])
  have hb:(er != 0)=true:=bne_iff_ne.2 h
  clear h hq0
  go_enter Tryz.func170,Tryz.ntmps170
  go_wp2_with fail
  refine ((HG.out _)).mono ?_
  rintro e w1 ⟨rfl,rfl⟩
  go_wp2_with fail
  refine bodyPost_ret (v:=gtV ⟨⟨false,[]⟩,0,er⟩) (results_cell_row (by rfl) _ _ w.heap.size 119 #[.bool false,.string (aF []),.int .i64 0,.int .i64 er] (0,0) _ rfl (heap_alloc_new w _) Tryz.underlying119 rfl lq) rfl ?_
  exact⟨_,_,rfl,⟨congrArg gtV HQ.out.symm,rfl⟩,((Bm w).alloc _ _).drop_⟩
 ·have h0:er=0:=by simpa using h
  have HQ:=Lib.hid (show iB l=kR l many (cY n) by rw[hq0]; unfold ls; rw[if_neg h])
  have hb:(er != 0)=false:=by simp[h0]
  have hvr: -9223372036854775808≤cY n∧cY n≤9223372036854775807:=by unfold cY; split <;> omega
  clear h h0 hq0
  go_enter Tryz.func170,Tryz.ntmps170
  go_wp2_with fail
  refine ((HG.out _)).mono ?_
  rintro e w1 ⟨rfl,rfl⟩
  go_wp2_with fail
  refine ((ry n (by omega) _)).mono ?_
  rintro e w1 ⟨rfl,rfl⟩
  go_wp2_with fail
  refine (St.call0 HS.out (rz l many (cY n) hx2 hl hvr.1 hvr.2)).mono ?_
  rintro e w2 ⟨v,N,rfl,⟨rfl,rfl⟩,H2⟩
  generalize hq:kR l many (cY n)=q at *
  have d0:w2.cell? ⟨w.heap.size,0,none⟩=some (.bool false):=aI (St.blk 0 H2 rfl) 0
  have f0:w2.frozen? ⟨w.heap.size,0,none⟩=false:=bd (St.blk 0 H2 rfl) 0
  have d1:w2.cell? ⟨w.heap.size,1,none⟩=some (.string ⟨#[]⟩):=aI (St.blk 0 H2 rfl) 1
  have f1:w2.frozen? ⟨w.heap.size,1,none⟩=false:=bd (St.blk 0 H2 rfl) 1
  have d2:w2.cell? ⟨w.heap.size,2,none⟩=some (.int .i64 0):=aI (St.blk 0 H2 rfl) 2
  have f2:w2.frozen? ⟨w.heap.size,2,none⟩=false:=bd (St.blk 0 H2 rfl) 2
  have d3:w2.cell? ⟨w.heap.size,3,none⟩=some (.int .i64 0):=aI (St.blk 0 H2 rfl) 3
  have f3:w2.frozen? ⟨w.heap.size,3,none⟩=false:=bd (St.blk 0 H2 rfl) 3
  have HD:=Lib.hid H2
  have HQ2:=Lib.hid hq
  clear H2 hq
  go_wp2_with fail
  have HE:=(((HD.out.set 0 rfl 0 (.bool q.blob.null)).set 0 rfl 1 (.string (aF q.blob.data))).set 0 rfl 2 (.int .i64 q.many)).set 0 rfl 3 (.int .i64 q.err)
  refine bodyPost_ret (v:=gtV q) (results_cell_row (by rfl) _ _ w.heap.size 119 #[.bool q.blob.null,.string (aF q.blob.data),.int .i64 q.many,.int .i64 q.err] (0,0) _ rfl (St.blk 0 HE rfl) Tryz.underlying119 rfl lq) rfl ?_
  exact⟨_,_,rfl,⟨congrArg gtV HQ.out.symm,rfl⟩,HE.drop_⟩
end Go.Proofs.YtcoppaggpbfcmaaGreat.Sl
