/- produceWrites_holds: part 0. -/
import Derived.WalkKit
import Derived.Below
import Derived.Laws.OwnMore
import Derived.Deep.Draws
import Derived.Laws.Rows
import Derived.Lib.Hide
import Derived.Lib.AppendStr
import Derived.Maps.AppendAt
import Derived.OwnWalk
import Derived.Deep.AppendLies
import Derived.Laws.BytesArg
import Derived.Deep.WholeRow
import Derived.ChangeArms
import Derived.ChangeSlices
import Derived.Deep.Slices
import Derived.OpenShut
import Derived.WideShapes
import Derived.Test.YtcoppaggpbfcmaaGreatProg
import Derived.KernelRfl
import Derived.Deep.QuietTactic
import Derived.BigQuiet
import Derived.LoopN
import Derived.WalkSpells
import Derived.WalkLawsBesides
import Derived.Lib.Strings
import Derived.Laws.BitsLemmas
import Derived.Scope
import Derived.ScopeJumps
import Derived.WalkMore
import Derived.Deep.Quiet
set_option maxRecDepth 100000
set_option maxHeartbeats 4000000
set_option linter.defProp false
namespace Go.Proofs.YtcoppaggpbfcmaaGreat.Sl
open Go.RowKit
set_option linter.unusedVariables false
abbrev jI (n : Int) : Value := .int .i64 n
abbrev jP (n : Nat) : Value := .pointer (some ⟨n, 0, none⟩)
theorem jF {α : Sort _} {P : Prop} [Decidable P] {a b c : α} (h : (if P then a else b) = c) : (P ∧ a = c) ∨ (¬P ∧ b = c) := by by_cases p : P; exact .inl ⟨p, (if_pos p).symm.trans h⟩; exact .inr ⟨p, (if_neg p).symm.trans h⟩
theorem Z {α : Sort _} {a : α} : a = a := rfl
def C8 := @Option.some.inj
theorem Da {α : Type} {l : List α} {i : Nat} {a : α} (h : l[i]? = some a) : ∃ w : i < l.length, l[i] = a := List.getElem?_eq_some_iff.1 h
def Db := @List.length_append
def Df := @List.append_assoc
def Dh := @List.length_cons
def Dn := @List.length_drop
def Ds := @List.nil_append
def Dy := @List.length_map
def DJ := @Nat.le_refl
def DS := @List.append_nil
def DV := @Nat.zero_le
def DW := @List.drop_drop
def D3 := @List.length_take
def D4 := @Int.toNat_natCast
def Eo := @List.length_nil
def Fn := @Tryz.ntmps58
structure Fr (F:Nat→Prop) (w w':World):Prop where
 os:w'.os=w.os
 tape:w'.tape=w.tape
 output:w'.output=w.output
 size:w.heap.size≤w'.heap.size
 block: ∀ k,k<w.heap.size→ ¬ F k→w'.heap[k]? = w.heap[k]?
theorem Fr.refl (F:Nat→Prop) (w:World):Fr F w w:=⟨rfl,rfl,rfl,DJ _,fun _ _ _=>rfl⟩
theorem Fr.trans {F G:Nat→Prop} {a b c:World} (h:Fr F a b) (k:Fr G b c) (hg: ∀ k,G k→F k∨a.heap.size≤k):Fr F a c :=
 ⟨k.os.trans h.os,k.tape.trans h.tape,k.output.trans h.output,Nat.le_trans h.size k.size,fun i hi hn =>
  (k.block i (Nat.lt_of_lt_of_le hi h.size) (fun h2=>(hg i h2).elim hn (fun h3=>by omega))).trans (h.block i hi hn)⟩
theorem B7 {F:Nat→Prop} {w w':World} (h:Below w.heap.size w w'):Fr F w w':=⟨h.os,h.tape,h.output,h.size,fun k hk _=>h.block k hk⟩
theorem Fr.below {w w':World} (h:Fr (fun _=>False) w w'):Below w.heap.size w w':=⟨h.os,h.tape,h.output,h.size,fun k hk=>h.block k hk (fun h=>h)⟩
theorem B8 {F:Nat→Prop} {w w':World} {row:Option Nat} (h:w.grownBy w' row) (hr: ∀ k,row=some k→F k):Fr F w w' :=
 ⟨h.os,h.tape,h.output,h.size,fun k hk hn=>h.block k hk (fun e=>hn (hr k e.symm))⟩
theorem Fr.mono {F G:Nat→Prop} {w w':World} (h:Fr F w w') (hg: ∀ k,F k→G k):Fr G w w':=⟨h.os,h.tape,h.output,h.size,fun k hk hn=>h.block k hk (fun h2=>hn (hg k h2))⟩
theorem Fr.alloc {F:Nat→Prop} {w w':World} (h:Fr F w w') (o:Obj):Fr F w (w'.alloc o) :=
 h.trans (B7 (F:=fun _=>False) ((Below.refl _ _).alloc (DJ _) o)) (fun _ h=>h.elim)
theorem Fr.drew {F:Nat→Prop} {w w':World} (h:Fr F w w'):Fr F w w'.drew:=⟨h.os,h.tape,h.output,h.size,h.block⟩
theorem Fr.drewN {F:Nat→Prop} {w w':World} (h:Fr F w w') (n:Nat):Fr F w (w'.drewN n):=⟨h.os,h.tape,h.output,h.size,h.block⟩
theorem Fr.set {F:Nat→Prop} {w w':World} (h:Fr F w w') {p:Addr} (hp:F p.block∨w.heap.size≤p.block) (u:Value):Fr F w (w'.setCell p u) :=
 h.trans (G:=fun k=>k=p.block) ⟨rfl,rfl,rfl,by simp[World.setCell],fun k _ hn=>Below.heap_setCell _ _ _ _ hn⟩ (fun k hk=>by rw[hk]; exact hp)
structure Res where
 P:World→(Nat→Prop)→Prop
 lt: ∀ {w:World} {G:Nat→Prop},P w G→ ∀ k,G k→k<w.heap.size
 move: ∀ {w w':World} {G:Nat→Prop},P w G→(∀ k,G k→w'.heap[k]? = w.heap[k]?)→P w' G
def Sep:List Res→World→(Nat→Prop)→Prop
 | [],_,_=>True
 | R::Rs,w,F=> ∃ G,R.P w G∧(∀ k,G k→F k)∧Sep Rs w (fun k=>F k∧ ¬ G k)
theorem Sep.mono: ∀ {Rs:List Res} {w:World} {F F':Nat→Prop},Sep Rs w F→(∀ k,F k→F' k)→Sep Rs w F'
 | [],_,_,_,_,_=>trivial
 | _ :: _,_,_,_,⟨G,h1,h2,h3⟩,hf=>⟨G,h1,fun k hk=>hf k (h2 k hk),h3.mono (fun k hk=>⟨hf k hk.1,hk.2⟩)⟩
theorem Sep.inside: ∀ {Rs:List Res} {w:World} {F:Nat→Prop},Sep Rs w F→Sep Rs w (fun k=>F k∧k<w.heap.size)
 | [],_,_,_=>trivial
 | R :: _,_,_,⟨G,h1,h2,h3⟩=>⟨G,h1,fun k hk=>⟨h2 k hk,R.lt h1 k hk⟩,h3.inside.mono (fun k hk=>⟨⟨hk.1.1,hk.2⟩,hk.1.2⟩)⟩
theorem Sep.move_: ∀ {Rs:List Res} {w w':World} {F:Nat→Prop},Sep Rs w F→(∀ k,F k→w'.heap[k]? = w.heap[k]?)→Sep Rs w' F
 | [],_,_,_,_,_=>trivial
 | R :: _,_,_,_,⟨G,h1,h2,h3⟩,hm=>⟨G,R.move h1 (fun k hk=>hm k (h2 k hk)),h2,h3.move_ (fun k hk=>hm k hk.1)⟩
theorem Sep.move {Rs:List Res} {w w':World} {F:Nat→Prop} (h:Sep Rs w F) (hm: ∀ k,F k→k<w.heap.size→w'.heap[k]? = w.heap[k]?):Sep Rs w' F :=
 (h.inside.move_ (fun k hk=>hm k hk.1 hk.2)).mono (fun _ hk=>hk.1)
theorem Sep.pick: ∀ {Rs:List Res} (i:Nat) {A:Res} {w:World} {F:Nat→Prop},Rs[i]? = some A→Sep Rs w F→ ∃ G,A.P w G∧(∀ k,G k→F k)∧Sep (Rs.eraseIdx i) w (fun k=>F k∧ ¬ G k)
 | [],i,_,_,_,hi,_=>by simp at hi
 | R::Rs,0,A,w,F,hi,h=>by
  have e:R=A:=by simpa using hi
  subst e
  exact h
 | R::Rs,i+1,A,w,F,hi,⟨G,h1,h2,h3⟩=>by
  obtain⟨G',k1,k2,k3⟩:=Sep.pick i (by simpa using hi) h3
  exact⟨G',k1,fun k hk=>(k2 k hk).1,G,h1,fun k hk=>⟨h2 k hk,fun h=>(k2 k h).2 hk⟩,k3.mono (fun k hk=>⟨⟨hk.1.1,hk.2⟩,hk.1.2⟩)⟩
theorem Sep.back: ∀ {Rs:List Res} (i:Nat) {A A':Res} {w:World} {F G:Nat→Prop},Rs[i]? = some A→A'.P w G→(∀ k,G k→F k)→Sep (Rs.eraseIdx i) w (fun k=>F k∧ ¬ G k)→Sep (Rs.set i A') w F
 | [],i,_,_,_,_,_,hi,_,_,_=>by simp at hi
 | R::Rs,0,A,A',w,F,G,hi,h1,h2,h3=>⟨G,h1,h2,h3⟩
 | R::Rs,i+1,A,A',w,F,G,hi,h1,h2,⟨G',k1,k2,k3⟩ =>
  ⟨G',k1,fun k hk=>(k2 k hk).1,Sep.back i (by simpa using hi) h1 (fun k hk=>⟨h2 k hk,fun h=>(k2 k h).2 hk⟩) (k3.mono (fun k hk=>⟨⟨hk.1.1,hk.2⟩,hk.1.2⟩))⟩
theorem Sep.append: ∀ {Ns Rs:List Res} {w:World} {F G:Nat→Prop},Sep Ns w G→Sep Rs w (fun k=>F k∧ ¬ G k)→(∀ k,G k→F k)→Sep (Ns++Rs) w F
 | [],_,_,_,_,_,h,_=>h.mono (fun _ hk=>hk.1)
 | N::Ns,Rs,w,F,G,⟨H,h1,h2,h3⟩,h,hg =>
  ⟨H,h1,fun k hk=>hg k (h2 k hk),Sep.append h3 (h.mono (fun k hk=>⟨⟨hk.1,fun h4=>hk.2 (h2 k h4)⟩,fun h4=>hk.2 h4.1⟩)) (fun k hk=>⟨hg k hk.1,hk.2⟩)⟩
theorem Sep.one {R:Res} {w:World} {F:Nat→Prop} (h:R.P w F):Sep [R] w F:=⟨F,h,fun _ h=>h,trivial⟩
structure St (F0:Nat→Prop) (w0:World) (Rs:List Res) (w:World):Prop where
 fr:Fr F0 w0 w
 sep:Sep Rs w (fun k=>F0 k∨w0.heap.size≤k)
section
variable {F0:Nat→Prop} {w0 w w':World} {Rs:List Res} {A A':Res}
theorem Bo (F0:Nat→Prop) (w:World) (h:Sep Rs w F0):St F0 w Rs w:=⟨Fr.refl _ _,h.mono (fun _ hk=> .inl hk)⟩
theorem BS (w:World):St (fun _=>False) w [] w:=⟨Fr.refl _ _,trivial⟩
theorem St.drew (h:St F0 w0 Rs w):St F0 w0 Rs w.drew:=⟨h.fr.drew,h.sep.move (fun _ _ _=>rfl)⟩
theorem St.drewN (h:St F0 w0 Rs w) (n:Nat):St F0 w0 Rs (w.drewN n):=⟨h.fr.drewN n,h.sep.move (fun _ _ _=>rfl)⟩
theorem St.drop_ (h:St F0 w0 (A::Rs) w):St F0 w0 Rs w:=by
 obtain⟨f,G,_,_,h3⟩:=h
 exact⟨f,h3.mono (fun _ hk=>hk.1)⟩
theorem St.del (i:Nat) (h:St F0 w0 Rs w) (hi:Rs[i]? = some A):St F0 w0 (Rs.eraseIdx i) w:=by
 obtain⟨f,hs⟩:=h
 obtain⟨G,_,_,h3⟩:=Sep.pick i hi hs
 exact⟨f,h3.mono (fun _ hk=>hk.1)⟩
theorem St.weaken (i:Nat) (h:St F0 w0 Rs w) (hi:Rs[i]? = some A) (hA: ∀ G,A.P w G→A'.P w G):St F0 w0 (Rs.set i A') w:=by
 obtain⟨f,hs⟩:=h
 obtain⟨G,h1,h2,h3⟩:=Sep.pick i hi hs
 exact⟨f,Sep.back i hi (hA _ h1) h2 h3⟩
theorem St.get (i:Nat) (h:St F0 w0 Rs w) (hi:Rs[i]? = some A): ∃ G,A.P w G∧(∀ k,G k→F0 k∨w0.heap.size≤k):=by
 obtain⟨G,h1,h2,_⟩:=Sep.pick i hi h.sep
 exact⟨G,h1,h2⟩
theorem St.step (i:Nat) (h:St F0 w0 Rs w) (hi:Rs[i]? = some A) {Ns:List Res}
 (hs: ∀ G,A.P w G→Fr G w w'∧Sep (A'::Ns) w' (fun k=>G k∨w.heap.size≤k)):St F0 w0 (Ns++Rs.set i A') w':=by
 obtain⟨f,hp⟩:=h
 obtain⟨G,h1,h2,h3⟩:=Sep.pick i hi hp
 obtain⟨f2,G2,k1,k2,k3⟩:=hs G h1
 refine⟨f.trans f2 h2,?_⟩
 have hle:=f.size
 have hR:Sep (Rs.eraseIdx i) w' (fun k=>((F0 k∨w0.heap.size≤k)∧ ¬ G k)∧k<w.heap.size):=h3.inside.move (fun k hk _=>f2.block k hk.2 hk.1.2)
 refine Sep.append k3 (F:=fun k=>F0 k∨w0.heap.size≤k) (Sep.back i hi k1 (fun k hk=>⟨?_,fun hn=>hn.2 hk⟩) (hR.mono (fun k hk=>⟨⟨hk.1.1,?_⟩,?_⟩))) ?_
 ·rcases k2 k hk with h4 | h4
  ·exact h2 k h4
  ·exact .inr (by omega)
 ·rintro⟨h4 | h4,_⟩
  ·exact hk.1.2 h4
  ·have:=hk.2; omega
 ·intro h4
  rcases k2 k h4 with h5 | h5
  ·exact hk.1.2 h5
  ·have:=hk.2; omega
 ·rintro k ⟨h4 | h4,_⟩
  ·exact h2 k h4
  ·exact .inr (by omega)
theorem St.grow (h:St F0 w0 Rs w) {Ns:List Res} (f2:Fr (fun _=>False) w w') (k3:Sep Ns w' (fun k=>w.heap.size≤k)):St F0 w0 (Ns++Rs) w':=by
 obtain⟨f,hp⟩:=h
 have hle:=f.size
 refine⟨f.trans f2 (fun _ h=>h.elim),Sep.append k3 ((hp.inside.move (fun k hk _=>f2.block k hk.2 (fun h=>h))).mono (fun k hk=>⟨hk.1,by have:=hk.2; omega⟩)) (fun k hk=> .inr (by omega))⟩
theorem St.below (h:St (fun _=>False) w0 Rs w):Below w0.heap.size w0 w:=h.fr.below
end
def aC (b:Nat) (T:TypeId) (cs:Array Value):Res where
 P:=fun w G=>w.heap[b]? = some (.cells cs T (0,0))∧ ∀ k,G k↔k=b
 lt:=fun h k hk=>by
  rw[(h.2 k).1 hk]
  exact (Array.getElem?_eq_some_iff.1 h.1).1
 move:=fun h hm=>⟨(hm _ ((h.2 _).2 rfl)).trans h.1,h.2⟩
section
variable {F0:Nat→Prop} {w0 w w':World} {Rs:List Res} {b:Nat} {T:TypeId} {cs:Array Value}
theorem aN (h:w.heap[b]? = some (.cells cs T (0,0))) (i:Nat):w.cell? ⟨b,i,none⟩=cs[i]? := cell_of_row w b i cs T (0,0) h
theorem ck (h:w.heap[b]? = some (.cells cs T (0,0))) (i:Nat):w.frozen? ⟨b,i,none⟩=false:=by simp[World.frozen?,h]
theorem jT (h:w.heap[b]? = some (.cells cs T (0,0))) (i:Nat) (u:Value):(w.setCell ⟨b,i,none⟩ u).heap[b]? = some (.cells (cs.setIfInBounds i u) T (0,0)):=by
 simp[World.setCell,Array.getElem?_modify,h]
theorem gX {o:Obj} (h:w.heap[b]? = some o):b<w.heap.size:=(Array.getElem?_eq_some_iff.1 h).1
theorem St.blk (i:Nat) (h:St F0 w0 Rs w) (hi:Rs[i]? = some (aC b T cs)):w.heap[b]? = some (.cells cs T (0,0)):=by
 obtain⟨G,h1,_⟩:=h.get i hi
 exact h1.1
theorem St.alloc (h:St F0 w0 Rs w) (cs:Array Value) (T:TypeId):St F0 w0 (aC w.heap.size T cs::Rs) (w.alloc (.cells cs T)) :=
 h.grow (Ns := [aC w.heap.size T cs]) (B7 ((Below.refl _ _).alloc (DJ _) _)) ⟨fun k=>k=w.heap.size,⟨heap_alloc_new w _,fun _=>Iff.rfl⟩,fun k hk=>by omega,trivial⟩
theorem St.set (i:Nat) (h:St F0 w0 Rs w) (hi:Rs[i]? = some (aC b T cs)) (j:Nat) (u:Value):St F0 w0 (Rs.set i (aC b T (cs.setIfInBounds j u))) (w.setCell ⟨b,j,none⟩ u):=by
 refine h.step i hi (Ns := []) (fun G hG=>⟨?_,G,⟨jT hG.1 j u,hG.2⟩,fun k hk=> .inl hk,trivial⟩)
 exact (Fr.refl G w).set (p:=⟨b,j,none⟩) (.inl ((hG.2 b).2 rfl)) u
end
def mN (Q:Value→Res→List Res→Prop) (F:Nat→Prop) (w:World) (e:Ending) (w':World):Prop:= ∃ v A' Ns,e= .returned v∧Q v A' Ns∧St F w (A'::Ns) w'
def Post0 (Q:Value→List Res→Prop) (w:World) (e:Ending) (w':World):Prop:= ∃ v Ns,e= .returned v∧Q v Ns∧St (fun _=>False) w Ns w'
def eR (P:Program) (f:FuncId) (args:Array Value) (A:Res) (Q:Value→Res→List Res→Prop):Prop :=
 ∀ F w,A.P w F→Calls P f args w (mN Q F w)
def gi (P:Program) (f:FuncId) (args:Array Value) (Q:Value→List Res→Prop):Prop :=
 ∀ w,Calls P f args w (Post0 Q w)
section
variable {P:Program} {f:FuncId} {args:Array Value} {F0:Nat→Prop} {w0 w:World} {Rs:List Res} {A:Res}
theorem St.call {Q:Value→Res→List Res→Prop} (i:Nat) (h:St F0 w0 Rs w) (hi:Rs[i]? = some A) (hs:eR P f args A Q) :
 Calls P f args w fun e w'=> ∃ v A' Ns,e= .returned v∧Q v A' Ns∧St F0 w0 (Ns++Rs.set i A') w':=by
 obtain⟨G0,hG0,hsub⟩:=h.get i hi
 obtain⟨G,h1,h2,h3⟩:=Sep.pick i hi h.sep
 refine (hs G w h1).mono ?_
 rintro e w' ⟨v,A',Ns,rfl,hq,hst⟩
 refine⟨v,A',Ns,rfl,hq,?_⟩
 obtain⟨f2,G2,k1,k2,k3⟩:=hst
 have f:=h.fr
 refine⟨f.trans f2 h2,?_⟩
 have hle:=f.size
 have hR:Sep (Rs.eraseIdx i) w' (fun k=>((F0 k∨w0.heap.size≤k)∧ ¬ G k)∧k<w.heap.size):=h3.inside.move (fun k hk _=>f2.block k hk.2 hk.1.2)
 refine Sep.append k3 (F:=fun k=>F0 k∨w0.heap.size≤k) (Sep.back i hi k1 (fun k hk=>⟨?_,fun hn=>hn.2 hk⟩) (hR.mono (fun k hk=>⟨⟨hk.1.1,?_⟩,?_⟩))) ?_
 ·rcases k2 k hk with h4 | h4
  ·exact h2 k h4
  ·exact .inr (by omega)
 ·rintro⟨h4 | h4,_⟩
  ·exact hk.1.2 h4
  ·have:=hk.2; omega
 ·intro h4
  rcases k2 k h4 with h5 | h5
  ·exact hk.1.2 h5
  ·have:=hk.2; omega
 ·rintro k ⟨h4 | h4,_⟩
  ·exact h2 k h4
  ·exact .inr (by omega)
theorem St.call0 {Q:Value→List Res→Prop} (h:St F0 w0 Rs w) (hs:gi P f args Q) :
 Calls P f args w fun e w'=> ∃ v Ns,e= .returned v∧Q v Ns∧St F0 w0 (Ns++Rs) w':=by
 refine (hs w).mono ?_
 rintro e w' ⟨v,Ns,rfl,hq,hst⟩
 refine⟨v,Ns,rfl,hq,h.grow hst.fr (hst.sep.mono (fun k hk=>hk.elim (fun h=>h.elim) id))⟩
end
def aL (l:List UInt8):List Value:=l.map fun b=>Value.int .u8 b.toNat
theorem gG (l m:List UInt8):aL (l++m)=aL l++aL m:=by simp[aL]
theorem mh (s:ByteArray):Lib.strCells s=aL s.data.toList:=rfl
section
variable {P:Program} (w:World)
theorem rf (t u ty e:TypeId) (i:TypeInfo) (ht:P.underlying t=some (.slice e)) (hu:P.underlying u=some .string) (hi:P.info? e=some i) (hz:i.zero=some (.int .u8 0))
 (hsize:i.size=1) (hby:i.bytes=1)
 (v:Value) (n:Nat) (xs:List Value) (hown:w.ownsRow 0 e 1 v n xs) (s:ByteArray) (hbytes:n+s.size≤140737488355328) :
 ∃ v' w',(Builtin.append_ #[t,u] ty #[v,.string s]).run P w= .ok v' w'∧w'.ownsRow 0 e 1 v' (n+s.size) (xs++Lib.strCells s)∧w.grownBy w' v.ownBlock ∧
  (v'.ownBlock=v.ownBlock∨v'.ownBlock=some w.heap.size):=by
 obtain⟨v',w',hr,h2,h3,h4⟩:=Lib.run_append_own_string (P:=P) w 0 t u ty e i ht hu hi hz hsize hby v n xs hown s (by simp only[maxLen]; omega) hbytes (DV _)
 refine⟨v',w',hr,h2,h3,?_⟩
 rcases hown.2 with⟨rfl,rfl⟩ | ⟨g,cap,cur,rfl,hbg,hg,hnc,hcm,hcs,htake⟩
 ·by_cases hm:s.size=0
  ·left
   rw[h4.2 ⟨rfl,hm⟩]
  ·right
   have hr2:=run_append_nil_string (P:=P) w t u ty e i (.int .u8 0) ht hu hi hz s (by omega) (by omega) (by rw[hby]; omega)
   rw[hr] at hr2
   injection hr2 with hv _
   rw[hv]
   rfl
 ·by_cases hroom:n+s.size≤cap
  ·left
   have hcs':cur.size=cap:=by simpa using hcs
   have hr2:=Lib.run_append_room_string (P:=P) w t u ty e i ht hu hi hsize g n cap cur hg s hroom (by omega)
   rw[hr] at hr2
   injection hr2 with hv _
   rw[hv]
   rfl
  ·right
   have hxl:xs.length=n:=by simpa using hown.1
   have holds: ∀ j u,xs[j]? = some u→w.cell? ((⟨g,0,none⟩:Addr).add j)=some u:=hown.cells (g:=g) rfl
   have hr2:=Lib.run_append_grow_string (P:=P) w t u ty e i (.int .u8 0) ht hu hi hz ⟨g,0,none⟩ n cap xs (by rw[hsize]; simpa using hxl) holds s (by omega) (by omega) (by rw[hby]; exact growslice_fits (by omega) (by omega))
   rw[hr] at hr2
   injection hr2 with hv _
   rw[hv]
   rfl
theorem jU {ops:Array Oper} {rest:List Oper} {o:Oper} {a:Act} {Q:Exit→Act→World→Prop} (hgd:o.guard=none) (sl x:Operand) (t u:TypeId)
 (ho:o.op= .call { callee:= .builtin .append,args:= #[sl,x],argTypes:= #[t,u] })
 (e:TypeId) (ht:P.underlying t=some (.slice e)) (hu:P.underlying u=some .string) (hinfo:(P.info? e).map (fun i=>(i.zero,i.size,i.bytes))=some (some (.int .u8 0),1,1))
 (v:Value) (n:Nat) (xs:List Value) (hs:a.eval sl=v) (hown:w.ownsRow 0 e 1 v n xs) (s:ByteArray) (hx:a.eval x= .string s) (hbytes:n+s.size≤140737488355328)
 (h: ∀ v' w',w'.ownsRow 0 e 1 v' (n+s.size) (xs++Lib.strCells s)→w.grownBy w' v.ownBlock→(v'.ownBlock=v.ownBlock∨v'.ownBlock=some w.heap.size)→wpList P ops Q rest (a.put o.dst v') w'):wpList P ops Q (o::rest) a w:=by
 obtain⟨i,hi,hzz⟩:=Option.map_eq_some_iff.1 hinfo
 simp only[Prod.mk.injEq] at hzz
 refine wpList_plain hgd fun K hK=> ?_
 obtain⟨v',w',hr,h2,h3,h4⟩:=rf (P:=P) w t u o.type e i ht hu hi hzz.1 hzz.2.1 hzz.2.2 v n xs hown s hbytes
 unfold Oper.wp execOp
 simp only[ho,resolve,invoke,builtin,Sem.run_bind,Sem.run_pure,Result.andThen_ok,List.map_toArray,List.map_cons,List.map_nil,hs,hx,hr]
 exact hK _ _ (h v' w' h2 h3 h4)
theorem jV {ops:Array Oper} {rest:List Oper} {o:Oper} {a:Act} {Q:Exit→Act→World→Prop} (hgd:o.guard=none) (sl x:Operand) (t:TypeId)
 (ho:o.op= .call { callee:= .builtin .append,args:= #[sl,x],argTypes:= #[t,t] })
 (e:TypeId) (z:Value) (bytes:Nat) (ht:P.underlying t=some (.slice e)) (hinfo:(P.info? e).map (fun i=>(i.zero,i.size,i.bytes))=some (some z,1,bytes)) (hz:z.cells.size=1)
 (v:Value) (n:Nat) (xs:List Value) (hs:a.eval sl=v) (hown:w.ownsRow 0 e 1 v n xs) (y:Value) (hy:y.oneCell'=true) (hx:a.eval x= .slice (some ⟨w.heap.size,0,none⟩) 1 1)
 (hbytes:(n+1)*bytes≤140737488355328) (hmax:n+1≤140737488355328)
 (h: ∀ v' w',w'.ownsRow 0 e 1 v' (n+1) (xs ++ [y])→w.grownBy w' v.ownBlock→(v'.ownBlock=v.ownBlock∨ ∃ k,v'.ownBlock=some k∧w.heap.size≤k)→wpList P ops Q rest (a.put o.dst v') w') :
 wpList P ops Q (o::rest) a (w.alloc (.cells #[y] e)):=by
 obtain⟨i,hi,hzz⟩:=Option.map_eq_some_iff.1 hinfo
 simp only[Prod.mk.injEq] at hzz
 obtain⟨hz0,hz1,hz2⟩:=hzz
 refine wpList_append_own_at (w.alloc (.cells #[y] e)) hgd sl x t ho 0 e i z 1 bytes ht hi hz0 hz1 hz2 hz (by omega) v n xs hs (hown.alloc _) ⟨w.heap.size,0,none⟩ 1 1 [y] hx rfl
  (by simpa using World.news_of_block (cs:= #[y]) (t:=e) (fr:=(0,0)) (heap_alloc_new w (.cells #[y] e))) (by simpa using hy) (by simp only[maxLen]; omega) hbytes (DV _) ?_
 intro v' w' hown' hg _ hat
 refine h v' w' hown' (World.grownBy.trans (World.grownBy_alloc w _ _) hg) ?_
 rcases hat with hat | hat
 ·exact .inl hat
 ·exact .inr ⟨_,hat,by simp⟩
theorem mp (w:World) {src dst e:TypeId} {v:Value} {l:List UInt8} {n:Nat} (hs:P.underlying src=some (.slice e)) (he:P.underlying e=some (.int .u8)) (hd:P.underlying dst=some .string)
 (h:w.ownsRow 0 e 1 v n (aL l)):(convert src dst v).run P w= .ok (.string ⟨l.toArray⟩) w:=by
 have hl:l.length=n:=by have:=h.1; simp[aL] at this; exact this
 have hstr:strOfNums (l.map fun b=>(b.toNat:Int))=⟨l.toArray⟩:=by
  unfold strOfNums
  congr 1
  simp[List.map_map,Function.comp_def]
 rcases h.2 with⟨rfl,rfl⟩ | ⟨g,cap,cur,rfl,_⟩
 ·obtain rfl:l = []:=List.eq_nil_of_length_eq_zero hl
  exact run_convert_bytes_nil w src e hs he 0 0 dst hd
 ·rw[← hstr]
  refine run_convert_bytes_arg w src e hs he g 0 n cap _ (by simpa using hl) (fun i hi=> ?_) dst hd
  have hc:=h.cells (g:=g) rfl i (.int .u8 ((l.map fun b=>(b.toNat:Int)).getD i 0)) (by simp[aL,List.getElem?_eq_getElem (show i<l.length by omega),List.getD_eq_getElem?_getD])
  have ha:(⟨g,0,none⟩:Addr).add i=⟨g,0+i,none⟩:=by unfold Addr.add; split <;> simp_all
  rwa [ha] at hc
theorem kn {w:World} {e t:TypeId} {size n b:Nat} {v:Value} {xs:List Value} {cs:Array Value} (h:w.ownsRow 0 e size v n xs) (hg:w.heap[b]? = some (.cells cs t (0,0))) (hne:e≠t):some b≠v.ownBlock:=by
 rcases h.2 with⟨rfl,_⟩ | ⟨g',cap,cur,rfl,_,hh,_⟩
 ·simp[Value.ownBlock]
 ·intro he
  have:b=g':=by simpa [Value.ownBlock] using he
  subst this
  rw[hg] at hh
  injection hh with hh
  injection hh with _ ht
  exact hne ht.symm
theorem sF {w:World} {e:TypeId} {size n:Nat} {v:Value} {xs:List Value} (h:w.ownsRow 0 e size v n xs) {p:Addr} (hne:some p.block≠v.ownBlock) (u:Value):(w.setCell p u).ownsRow 0 e size v n xs:=by
 obtain⟨h1,h2⟩:=h
 refine⟨h1,?_⟩
 rcases h2 with h2 | ⟨g,cap,cur,rfl,hg,hh,r⟩
 ·exact .inl h2
 ·exact .inr ⟨g,cap,cur,rfl,hg,by rw[Below.heap_setCell _ _ _ _ (fun e=>hne (by rw[e]; rfl))]; exact hh,r⟩
theorem kW {w w':World} {e:TypeId} {size n:Nat} {v:Value} {xs:List Value} (h:w.ownsRow 0 e size v n xs) (hm: ∀ k,v.ownBlock=some k→w'.heap[k]? = w.heap[k]?):w'.ownsRow 0 e size v n xs:=by
 obtain⟨h1,h2⟩:=h
 refine⟨h1,?_⟩
 rcases h2 with h2 | ⟨g,cap,cur,rfl,hg,hh,r⟩
 ·exact .inl h2
 ·exact .inr ⟨g,cap,cur,rfl,hg,(hm g rfl).trans hh,r⟩
theorem jW {w:World} {e:TypeId} {size n:Nat} {v:Value} {xs:List Value} (h:w.ownsRow 0 e size v n xs): ∃ a c,v= .slice a n c:=by
 rcases h.2 with⟨rfl,rfl⟩ | ⟨g,cap,cur,rfl,_⟩
 ·exact⟨none,0,rfl⟩
 ·exact⟨_,cap,rfl⟩
theorem pJ {w:World} {e:TypeId} {size n:Nat} {v:Value} {xs:List Value} (h:w.ownsRow 0 e size v n xs): ∀ k,v.ownBlock=some k→k<w.heap.size:=fun k hk=>(h.lt k hk).2
end
section
variable {P:Program}
end
def fW (T:TypeId) (size:Nat) (v:Value) (n:Nat) (xs:List Value):Res where
 P:=fun w G=>w.ownsRow 0 T size v n xs∧ ∀ k,G k↔v.ownBlock=some k
 lt:=by
  rintro w G ⟨h1,h2⟩ k hk
  exact pJ h1 k ((h2 k).1 hk)
 move:=by
  rintro w w' G ⟨h1,h2⟩ hm
  exact⟨kW h1 (fun k hk=>hm k ((h2 k).2 hk)),h2⟩
section
variable {F0:Nat→Prop} {w0 w w1:World} {Rs:List Res} {T:TypeId} {size n:Nat} {v v1:Value} {xs ys:List Value}
theorem Ch (i:Nat) (h:St F0 w0 Rs w) (hi:Rs[i]? = some (fW T size v n xs)):w.ownsRow 0 T size v n xs:=(h.get i hi).choose_spec.1.1
theorem fW.lit (h:St F0 w0 Rs w) (cs:Array Value) (n:Nat) (hm:n≤maxLen) (hs:cs.size=n*size) :
 St F0 w0 (fW T size (.slice (some ⟨w.heap.size,0,none⟩) n n) n cs.toList::Rs) (w.alloc (.cells cs T)) :=
 h.grow (Ns := [fW T size (.slice (some ⟨w.heap.size,0,none⟩) n n) n cs.toList]) (B7 ((Below.refl _ _).alloc (DJ _) _))
  ⟨fun k=>k=w.heap.size,⟨World.ownsRow_lit w cs n (DV _) hm hs,fun k=>by simp[Value.ownBlock,eq_comm]⟩,fun k hk=>by omega,trivial⟩
theorem fW.grown (i:Nat) (h:St F0 w0 Rs w) (hi:Rs[i]? = some (fW T size v n xs)) {m:Nat} (ho:w1.ownsRow 0 T size v1 m ys) (hg:w.grownBy w1 v.ownBlock)
 (hat:v1.ownBlock=v.ownBlock∨ ∃ k,v1.ownBlock=some k∧w.heap.size≤k):St F0 w0 (Rs.set i (fW T size v1 m ys)) w1:=by
 refine h.step i hi (Ns := []) (fun G hG=>⟨B8 hg (fun k hk=>(hG.2 k).2 hk),fun k=>v1.ownBlock=some k,⟨ho,fun _=>Iff.rfl⟩,fun k hk=> ?_,trivial⟩)
 rcases hat with h1 | ⟨k',h1,h2⟩
 ·rw[h1] at hk
  exact .inl ((hG.2 k).2 hk)
 ·rw[h1] at hk
  injection hk with hk
  subst hk
  exact .inr h2
theorem fW.set {g c:Nat} (i:Nat) (h:St F0 w0 Rs w) (hi:Rs[i]? = some (fW T size (.slice (some ⟨g,0,none⟩) n c) n xs)) (j:Nat) (u:Value) :
 St F0 w0 (Rs.set i (fW T size (.slice (some ⟨g,0,none⟩) n c) n (xs.set j u))) (w.setCell ⟨g,j,none⟩ u):=by
 have hr:=Ch i h hi
 obtain⟨h1,h2⟩:=hr.stored j u
 exact fW.grown i h hi h1 h2 (.inl rfl)
theorem fW.cell {g c:Nat} (i:Nat) (h:St F0 w0 Rs w) (hi:Rs[i]? = some (fW T size (.slice (some ⟨g,0,none⟩) n c) n xs)) (j:Nat) (hj:j<n*size):w.cell? ⟨g,j,none⟩=xs[j]? ∧ w.frozen? ⟨g,j,none⟩=false :=
 ⟨(Ch i h hi).cellAt j hj,(Ch i h hi).frozenAt j⟩
theorem fW.form (i:Nat) (h:St F0 w0 Rs w) (hi:Rs[i]? = some (fW T size v n xs)) (hn:0<n): ∃ g c,v= .slice (some ⟨g,0,none⟩) n c:=by
 rcases (Ch i h hi).2 with⟨_,h2⟩ | ⟨g,cap,cur,rfl,_⟩
 ·omega
 ·exact⟨g,cap,rfl⟩
end
open Go.RowKit Go.Deep Go.ChangeShapes
structure Rd (α:Type) where
 P:World→(Nat→Prop)→List Value→α→Prop
 mono: ∀ {w:World} {S S':Nat→Prop} {cs:List Value} {a:α},P w S cs a→(∀ k,S k→S' k)→P w S' cs a
 move: ∀ {w w':World} {S:Nat→Prop} {cs:List Value} {a:α},P w S cs a→(∀ k,S k→w'.heap[k]? = w.heap[k]?)→P w' S cs a
def intRd (q:IntKind):Rd Int where
 P:=fun _ _ cs n=>cs = [.int q n]∧(Lit.int q n).wf=true
 mono:=fun h _=>h
 move:=fun h _=>h
def boolRd:Rd Bool where
 P:=fun _ _ cs b=>cs = [.bool b]
 mono:=fun h _=>h
 move:=fun h _=>h
def unitRd:Rd Unit where
 P:=fun _ _ cs _=>cs = []
 mono:=fun h _=>h
 move:=fun h _=>h
def pairRd {α β:Type} (A:Rd α) (B:Rd β):Rd (α×β) where
 P:=fun w S cs x=> ∃ c d,cs=c++d∧A.P w S c x.1∧B.P w S d x.2
 mono:=fun ⟨c,d,h1,h2,h3⟩ hS=>⟨c,d,h1,A.mono h2 hS,B.mono h3 hS⟩
 move:=fun ⟨c,d,h1,h2,h3⟩ hS=>⟨c,d,h1,A.move h2 hS,B.move h3 hS⟩
def rowAt {α:Type} (size:Nat) (E:Rd α) (w:World) (S:Nat→Prop) (a:Addr) (l:List α):Prop :=
 ∀ i x,l[i]? = some x→ ∃ cs,cs.length=size∧(∀ j,j<size→w.cell? (a.add (i*size+j))=cs[j]?)∧E.P w S cs x
def ar {α:Type} (size:Nat) (E:Rd α):Rd (List α) where
 P:=fun w S cs l=>(cs = [.slice none 0 0]∧l = [])∨ ∃ a cap,cs = [.slice (some a) l.length cap]∧l.length≤cap∧cap≤maxLen∧(0<l.length→S a.block)∧rowAt size E w S a l
 mono:=by
  rintro w S S' cs l (h | ⟨a,cap,h1,h2,h3,h4,h5⟩) hS
  ·exact .inl h
  ·refine .inr ⟨a,cap,h1,h2,h3,fun h=>hS _ (h4 h),fun i x hx=> ?_⟩
   obtain⟨cs,k1,k2,k3⟩:=h5 i x hx
   exact⟨cs,k1,k2,E.mono k3 hS⟩
 move:=by
  rintro w w' S cs l (h | ⟨a,cap,h1,h2,h3,h4,h5⟩) hS
  ·exact .inl h
  ·refine .inr ⟨a,cap,h1,h2,h3,h4,fun i x hx=> ?_⟩
   obtain⟨cs,k1,k2,k3⟩:=h5 i x hx
   refine⟨cs,k1,fun j hj=> ?_,E.move k3 hS⟩
   rw[← k2 j hj]
   have hb:(a.add (i*size+j)).block=a.block:=block_add _ _
   have hl:0<l.length:=by have:=(Da hx).1; omega
   simp only[World.cell?,hb,hS _ (h4 hl)]
theorem nI {w:World} {b:Addr} {v:Value} (h:w.cell? b=some v):b=⟨b.block,b.off,none⟩:=by
 obtain⟨g,o,s⟩:=b
 cases s with
 | none=>rfl
 | some s =>
  simp only[World.cell?] at h
  split at h <;> simp at h
section
variable {H:Type} (enc:TypeId×Value→H) (P:Program)
def yv {α:Type} (t:TypeId) (E:Rd α):Prop :=
 ∀ (w:World) (fuel:Nat) (cs:List Value) (x:DataW H×List MemPlace),DataW.trod enc P w 0 (fun _=>true) true fuel t cs=some x→ ∃ a,E.P w (fun k=>k<w.heap.size) cs a
variable {enc P}
theorem xr {t:TypeId} {q:IntKind} (ht:P.underlying t=some (.int q)):yv enc P t (intRd q):=by
 intro w fuel cs x h
 obtain⟨n,rfl,_,hw⟩:=DataW.trod_int ht h
 exact⟨n,rfl,hw⟩
theorem uX {t:TypeId} (ht:P.underlying t=some .bool):yv enc P t boolRd:=by
 intro w fuel cs x h
 obtain⟨b,rfl,_⟩:=DataW.trod_bool ht h
 exact⟨b,rfl⟩
variable (enc P) in
end
structure RX where
 P:World→(Nat→Prop)→Prop
 mono: ∀ {w:World} {S S':Nat→Prop},P w S→(∀ k,S k→S' k)→P w S'
 move: ∀ {w w':World} {S:Nat→Prop},P w S→(∀ k,S k→w'.heap[k]? = w.heap[k]?)→P w' S
def RX.triv:RX:=⟨fun _ _=>True,fun _ _=>trivial,fun _ _=>trivial⟩
def RX.and (X Y:RX):RX:=⟨fun w S=>X.P w S∧Y.P w S,fun h k=>⟨X.mono h.1 k,Y.mono h.2 k⟩,fun h k=>⟨X.move h.1 k,Y.move h.2 k⟩⟩
def RX.of {α:Type} (E:Rd α) (cs:List Value) (a:α):RX:=⟨fun w S=>E.P w S cs a,fun h k=>E.mono h k,fun h k=>E.move h k⟩
def RX.reads (X:RX) (w:World) (F:Nat→Prop):Prop:= ∃ S,X.P w S∧ ∀ k,S k→ ¬ F k∧k<w.heap.size
theorem AQ (w:World) (F:Nat→Prop):RX.triv.reads w F:=⟨fun _=>False,trivial,fun _ h=>h.elim⟩
theorem BJ {X Y:RX} {w:World} {F:Nat→Prop} (h:X.reads w F) (k:Y.reads w F):(X.and Y).reads w F:=by
 obtain⟨S,h1,h2⟩:=h
 obtain⟨T,k1,k2⟩:=k
 exact⟨fun k=>S k∨T k,⟨X.mono h1 (fun _ h=> .inl h),Y.mono k1 (fun _ h=> .inr h)⟩,fun k hk=>hk.elim (h2 k) (k2 k)⟩
theorem Bx {X Y:RX} {w:World} {F:Nat→Prop} (h:(X.and Y).reads w F):X.reads w F:=let ⟨S,h1,h2⟩:=h; ⟨S,h1.1,h2⟩
theorem Bz {X Y:RX} {w:World} {F:Nat→Prop} (h:(X.and Y).reads w F):Y.reads w F:=let ⟨S,h1,h2⟩:=h; ⟨S,h1.2,h2⟩
theorem RX.reads_weaken {X:RX} {w:World} {F G:Nat→Prop} (h:X.reads w F) (hg: ∀ k,k<w.heap.size→G k→F k):X.reads w G:=let ⟨S,h1,h2⟩:=h; ⟨S,h1,fun k hk=>⟨fun g=>(h2 k hk).1 (hg k (h2 k hk).2 g),(h2 k hk).2⟩⟩
def aD:Res where
 P:=fun _ G=> ∀ k,¬ G k
 lt:=fun h k hk=>(h k hk).elim
 move:=fun h _=>h
def RdR {α:Type} (E:Rd α) (cs:List Value) (a:α):Res where
 P:=fun w G=>E.P w G cs a∧ ∀ k,G k→k<w.heap.size
 lt:=fun h k hk=>h.2 k hk
 move:=fun {w w'} {G} h hm=>⟨E.move h.1 hm,fun k hk=>by
  have h1:=h.2 k hk
  have h2:=hm k hk
  rw[Array.getElem?_eq_getElem h1] at h2
  exact (Array.getElem?_eq_some_iff.1 h2).1⟩
def aA (P:Program) (f:FuncId) (args:Array Value) (X:RX) (A:Res) (Q:Value→Res→List Res→Prop):Prop :=
 ∀ F w,A.P w F→X.reads w F→Calls P f args w (mN Q F w)
section
variable {P:Program} {f:FuncId} {args:Array Value} {F0:Nat→Prop} {w0 w:World} {Rs:List Res} {A B:Res} {X Y:RX}
theorem Be {Q:Value→Res→List Res→Prop} (h:eR P f args A Q):aA P f args X A Q:=fun F w hA _=>h F w hA
theorem Cw {Q:Value→List Res→Prop} (h:gi P f args Q):aA P f args X aD (fun v A' N=>A'=aD∧Q v N):=by
 intro F w hA _
 refine (h w).mono ?_
 rintro e w' ⟨v,Ns,rfl,hq,hst⟩
 refine⟨v,aD,Ns,rfl,⟨rfl,hq⟩,⟨hst.fr.mono (fun k h=>h.elim),fun _=>False,fun k h=>h,fun k h=>h.elim,hst.sep.mono (fun k hk=> ?_)⟩⟩
 exact⟨hk.elim (fun h=>h.elim) .inr,fun h=>h⟩
theorem BK {v:Value} (h:gi P f args (fun u N=>u=v∧N = [])):aA P f args X aD (fun u A' N=>u=v∧A'=aD∧N = []):=by
 intro F w hA hX
 refine ((Cw (X:=X) h) F w hA hX).mono ?_
 rintro e w' ⟨v,A',Ns,rfl,⟨rfl,rfl,rfl⟩,hst⟩
 exact⟨_,_,_,rfl,⟨rfl,rfl,rfl⟩,hst⟩
theorem BA {v:Value} (h: ∀ w,Calls P f args w fun e w'=>e= .returned v∧w=w'):aA P f args X aD (fun v' A' N=>v'=v∧A'=aD∧N = []):=by
 intro F w hA _
 refine (h w).mono ?_
 rintro e w' ⟨rfl,rfl⟩
 exact⟨v,aD,[],rfl,⟨rfl,rfl,rfl⟩,Fr.refl _ _,fun _=>False,fun k h=>h,fun k h=>h.elim,trivial⟩
def Src (F0:Nat→Prop) (w0:World) (Rs:List Res) (w:World) (i:Nat) (X:RX):Prop :=
 ∀ A G,Rs[i]? = some A→A.P w G→(∀ k,G k→F0 k∨w0.heap.size≤k)→Sep (Rs.eraseIdx i) w (fun k=>(F0 k∨w0.heap.size≤k)∧ ¬ G k)→X.reads w G
theorem Src.triv (i:Nat):Src F0 w0 Rs w i .triv:=fun _ _ _ _ _ _=>AQ _ _
theorem Cx (h:St F0 w0 Rs w) (hX:X.reads w0 F0): ∃ S,X.P w S∧ ∀ k,S k→ ¬ F0 k∧k<w0.heap.size:=by
 obtain⟨S,h1,h2⟩:=hX
 exact⟨S,X.move h1 (fun k hk=>h.fr.block k (h2 k hk).2 (h2 k hk).1),h2⟩
theorem Src.old {i:Nat} (h:St F0 w0 Rs w) (hX:X.reads w0 F0):Src F0 w0 Rs w i X:=by
 intro A G _ _ h3 _
 obtain⟨S,h1,h2⟩:=Cx h hX
 refine⟨S,h1,fun k hk=>⟨fun hg=> ?_,Nat.lt_of_lt_of_le (h2 k hk).2 h.fr.size⟩⟩
 rcases h3 k hg with h4 | h4
 ·exact (h2 k hk).1 h4
 ·have:=(h2 k hk).2; omega
theorem Src.res {i:Nat} (j:Nat) (hj:(Rs.eraseIdx i)[j]? = some B) (hB: ∀ w G,B.P w G→X.P w G):Src F0 w0 Rs w i X:=by
 intro A G _ _ _ h4
 obtain⟨G2,k1,k2,_⟩:=Sep.pick j hj h4
 exact⟨G2,hB w G2 k1,fun k hk=>⟨(k2 k hk).2,B.lt k1 k hk⟩⟩
theorem Ba (h:St F0 w0 Rs w) (hX:X.reads w0 F0):X.reads w (fun _=>False):=by
 obtain⟨S,h1,h2⟩:=Cx h hX
 exact⟨S,h1,fun k hk=>⟨fun h=>h,Nat.lt_of_lt_of_le (h2 k hk).2 h.fr.size⟩⟩
theorem SrcE.res (j:Nat) (h:St F0 w0 Rs w) (hj:Rs[j]? = some B) (hB: ∀ w G,B.P w G→X.P w G):X.reads w (fun _=>False):=by
 obtain⟨G,h1,_⟩:=h.get j hj
 exact⟨G,hB w G h1,fun k hk=>⟨fun h=>h,B.lt h1 k hk⟩⟩
theorem St.callX {Q:Value→Res→List Res→Prop} (i:Nat) (h:St F0 w0 Rs w) (hi:Rs[i]? = some A) (hs:aA P f args X A Q) (hr:Src F0 w0 Rs w i X) :
 Calls P f args w fun e w'=> ∃ v A' Ns,e= .returned v∧Q v A' Ns∧St F0 w0 (Ns++Rs.set i A') w':=by
 obtain⟨G,h1,h2,h3⟩:=Sep.pick i hi h.sep
 refine (hs G w h1 (hr A G hi h1 h2 h3)).mono ?_
 rintro e w' ⟨v,A',Ns,rfl,hq,hst⟩
 refine⟨v,A',Ns,rfl,hq,?_⟩
 obtain⟨f2,G2,k1,k2,k3⟩:=hst
 have f:=h.fr
 refine⟨f.trans f2 h2,?_⟩
 have hle:=f.size
 have hR:Sep (Rs.eraseIdx i) w' (fun k=>((F0 k∨w0.heap.size≤k)∧ ¬ G k)∧k<w.heap.size):=h3.inside.move (fun k hk _=>f2.block k hk.2 hk.1.2)
 refine Sep.append k3 (F:=fun k=>F0 k∨w0.heap.size≤k) (Sep.back i hi k1 (fun k hk=>⟨?_,fun hn=>hn.2 hk⟩) (hR.mono (fun k hk=>⟨⟨hk.1.1,?_⟩,?_⟩))) ?_
 ·rcases k2 k hk with h4 | h4
  ·exact h2 k h4
  ·exact .inr (by omega)
 ·rintro⟨h4 | h4,_⟩
  ·exact hk.1.2 h4
  ·have:=hk.2; omega
 ·intro h4
  rcases k2 k h4 with h5 | h5
  ·exact hk.1.2 h5
  ·have:=hk.2; omega
 ·rintro k ⟨h4 | h4,_⟩
  ·exact h2 k h4
  ·exact .inr (by omega)
theorem St.emp (h:St F0 w0 Rs w):St F0 w0 (aD::Rs) w:=h.grow (Ns := [aD]) (Fr.refl _ _) ⟨fun _=>False,fun _ h=>h,fun _ h=>h.elim,trivial⟩
theorem St.callE {Q:Value→Res→List Res→Prop} (h:St F0 w0 Rs w) (hs:aA P f args X aD Q) (hr:X.reads w (fun _=>False)) :
 Calls P f args w fun e w'=> ∃ v A' Ns,e= .returned v∧Q v A' Ns∧St F0 w0 (Ns++Rs) w':=by
 have h':St F0 w0 (aD::Rs) w:=h.emp
 refine (h'.callX 0 rfl hs ?_).mono ?_
 ·intro A G hA hG _ _
  have e:aD=A:=by simpa using hA
  subst e
  exact RX.reads_weaken hr (fun k _ hk=>(hG k hk).elim)
 ·rintro e w' ⟨v,A',Ns,rfl,hq,hst⟩
  refine⟨v,A',Ns,rfl,hq,?_⟩
  have:=hst.del Ns.length (A:=A') (by simp)
  rwa [List.eraseIdx_append_of_length_le (DJ _),Nat.sub_self] at this
theorem an {α:Type} {c:Prop} [Decidable c] {T:Option α} {r:α} (h:(if c then T else none)=some r):c∧T=some r:=by
 by_cases hc:c
 ·rw[if_pos hc] at h; exact⟨hc,h⟩
 ·rw[if_neg hc] at h; cases h
theorem aA.start (h:A.P w F0):St F0 w [A] w:=Bo F0 w (Sep.one h)
end
def resv (tmps:Array Value):ResultVar→Sem Value
 | .tmp t=>pure (tmps.getD t undef)
 | .cell a t=>do loadVar t (← asAddr (tmps.getD a undef))
section
variable {P:Program} {fn:Func} {tmps:Array Value} {w:World} {r1 r2 r3:ResultVar} {v1 v2 v3:Value}
theorem ko (fn:Func) (tmps:Array Value):results fn tmps=(do let vs ← fn.results.mapM (resv tmps); pure (if h:vs.size=1 then vs[0] else .tuple vs)):=by
 unfold results
 rfl
end
inductive Lp (R S:Type) where
 | ret (r:R)
 | go (s:S)
section
variable {α:Type}
def fL (size:Nat) (E:Rd α) (w:World) (S:Nat→Prop):List Value→List α→Prop
 | cs,[]=>cs = []
 | cs,x::xs=>(cs.take size).length=size∧E.P w S (cs.take size) x∧fL size E w S (cs.drop size) xs
variable {size:Nat} {E:Rd α} {w w':World} {S S':Nat→Prop}
theorem pK: ∀ {xs:List α} {cs:List Value},fL size E w S cs xs→(∀ k,S k→S' k)→fL size E w S' cs xs
 | [],_,h,_=>h
 | _ :: _,_,⟨h0,h1,h2⟩,k=>⟨h0,E.mono h1 k,pK h2 k⟩
theorem iU: ∀ {xs:List α} {cs:List Value},fL size E w S cs xs→(∀ k,S k→w'.heap[k]? = w.heap[k]?)→fL size E w' S cs xs
 | [],_,h,_=>h
 | _ :: _,_,⟨h0,h1,h2⟩,k=>⟨h0,E.move h1 k,iU h2 k⟩
theorem gj: ∀ {xs:List α} {cs:List Value},fL size E w S cs xs→cs.length=xs.length*size
 | [],cs,h=>by simp[show cs = [] from h]
 | x::xs,cs,⟨h0,_,h2⟩=>by
  have h3:=gj h2
  rw[D3] at h0
  rw[Dn] at h3
  rw[Dh,Nat.add_mul,Nat.one_mul]
  omega
theorem mq: ∀ {xs:List α} {cs news:List Value} {x:α},fL size E w S cs xs→news.length=size→E.P w S news x→fL size E w S (cs++news) (xs ++ [x])
 | [],cs,news,x,h,hl,hx=>by
  obtain rfl:cs = []:=h
  exact⟨by simp[hl],by rw[Ds,List.take_of_length_le (by omega)]; exact hx,by rw[Ds,List.drop_of_length_le (by omega)]; exact rfl⟩
 | y::ys,cs,news,x,⟨h0,h1,h2⟩,hl,hx=>by
  have hle:size≤cs.length:=by rw[D3] at h0; omega
  refine⟨?_,?_,?_⟩
  ·rw[List.take_append_of_le_length hle]; exact h0
  ·rw[List.take_append_of_le_length hle]; exact h1
  ·rw[List.drop_append_of_le_length hle]; exact mq h2 hl hx
theorem lN: ∀ {xs:List α} {cs:List Value} {i:Nat} {x:α},fL size E w S cs xs→xs[i]? = some x→((cs.drop (i*size)).take size).length=size∧E.P w S ((cs.drop (i*size)).take size) x
 | [],_,i,_,_,hi=>by simp at hi
 | y::ys,cs,0,x,⟨h0,h1,_⟩,hi=>by
  obtain rfl:y=x:=by simpa using hi
  rw[Nat.zero_mul,List.drop_zero]
  exact⟨h0,h1⟩
 | y::ys,cs,i+1,x,⟨_,_,h2⟩,hi=>by
  have h3:=lN (i:=i) h2 (by simpa using hi)
  rw[DW] at h3
  rwa [show size+i*size=(i+1)*size by rw[Nat.add_mul]; omega] at h3
def bp (T:TypeId) (size:Nat) (E:Rd α) (v:Value) (xs:List α):Res where
 P:=fun w G=> ∃ cells S,w.ownsRow 0 T size v xs.length cells∧fL size E w S cells xs∧(∀ k,S k→k<w.heap.size)∧(∀ k,v.ownBlock=some k→ ¬ S k)∧ ∀ k,G k↔v.ownBlock=some k∨S k
 lt:=by
  rintro w G ⟨cells,S,h1,h2,h3,h4,h5⟩ k hk
  rcases (h5 k).1 hk with h | h
  ·exact pJ h1 k h
  ·exact h3 k h
 move:=by
  rintro w w' G ⟨cells,S,h1,h2,h3,h4,h5⟩ hm
  refine⟨cells,S,kW h1 (fun k hk=>hm k ((h5 k).2 (.inl hk))),iU h2 (fun k hk=>hm k ((h5 k).2 (.inr hk))),fun k hk=> ?_,h4,h5⟩
  have h6:=h3 k hk
  have h7:=hm k ((h5 k).2 (.inr hk))
  rw[Array.getElem?_eq_getElem h6] at h7
  exact (Array.getElem?_eq_some_iff.1 h7).1
theorem bA {T:TypeId} {v:Value} {xs:List α} (hp:0<size): ∀ w G,(bp T size E v xs).P w G→(RX.of (ar size E) [v] xs).P w G:=by
 rintro w G ⟨cells,S,h1,h2,h3,h4,h5⟩
 have hb:=h1
 rcases h1.2 with⟨rfl,hn⟩ | ⟨g,cap,cur,rfl,hbg,hg,hnc,hcm,hcs,htake⟩
 ·exact .inl ⟨rfl,List.eq_nil_of_length_eq_zero hn⟩
 ·refine .inr ⟨⟨g,0,none⟩,cap,rfl,hnc,hcm,fun _=>(h5 g).2 (.inl rfl),fun i x hx=> ?_⟩
  obtain⟨k1,k2⟩:=lN h2 hx
  have hi:i<xs.length:=(Da hx).1
  refine⟨_,k1,fun j hj=> ?_,E.mono k2 (fun k hk=>(h5 k).2 (.inr hk))⟩
  have hadd:(⟨g,0,none⟩:Addr).add (i*size+j)=⟨g,i*size+j,none⟩:=by unfold Addr.add; split <;> simp_all
  have hlt:i*size+j<xs.length*size:=by
   have:(i+1)*size≤xs.length*size:=Nat.mul_le_mul_right _ (by omega)
   rw[Nat.add_mul] at this
   omega
  rw[hadd,hb.cellAt _ hlt,List.getElem?_take,if_pos hj,List.getElem?_drop]
theorem tC {cs:List Value} {a:α}: ∀ w G,(RdR E cs a).P w G→(RX.of E cs a).P w G:=fun _ _ h=>h.1
theorem Bb {F:Nat→Prop} {A:Option Addr} {n c i:Nat} {l:List α} {x:α} (hp:0<size) (h:(RX.of (ar size E) [.slice A n c] l).reads w F) (hx:l[i]? = some x) :
 ∃ g o:Nat,A=some ⟨g,o,none⟩∧ ∃ cs,cs.length=size∧(∀ j,j<size→w.cell? ⟨g,o+i*size+j,none⟩=cs[j]?)∧(¬ F g∧g<w.heap.size)∧(RX.of E cs x).reads w F:=by
 obtain⟨S,h,hS⟩:=h
 rcases h with⟨h,rfl⟩ | ⟨a,cap,h,_,_,hb,h2⟩
 ·simp at hx
 ·injection h with h
  injection h with h3 h4 h5
  subst h3
  have hl:0<l.length:=by have:=(Da hx).1; omega
  obtain⟨cs0,k1,k2,_⟩:=h2 0 l[0] (List.getElem?_eq_getElem hl)
  have k3:=k2 0 hp
  rw[List.getElem?_eq_getElem (by omega)] at k3
  have k4:a.add (0*size+0)=a:=by simp[Addr.add]
  rw[k4] at k3
  have k5:=nI k3
  obtain⟨cs,k6,k7,k8⟩:=h2 i x hx
  refine⟨a.block,a.off,by rw[← k5],cs,k6,fun j hj=> ?_,hS _ (hb hl),S,k8,hS⟩
  rw[← k7 j hj,k5,WideShapes.add_plain,Nat.add_assoc]
theorem Cd {F:Nat→Prop} {g o n c i:Nat} {l:List α} {x:α} (hp:0<size) (h:(RX.of (ar size E) [.slice (some ⟨g,o,none⟩) n c] l).reads w F) (hx:l[i]? = some x) :
 ∃ cs,cs.length=size∧(∀ j,j<size→w.cell? ⟨g,o+i*size+j,none⟩=cs[j]?)∧(¬ F g∧g<w.heap.size)∧(RX.of E cs x).reads w F:=by
 obtain⟨g',o',h1,cs,h2⟩:=Bb hp h hx
 injection h1 with h1
 injection h1 with h3 h4
 subst h3 h4
 exact⟨cs,h2⟩
theorem Bm {F:Nat→Prop} {A:Option Addr} {n c:Nat} {l:List α} (h:(RX.of (ar size E) [.slice A n c] l).reads w F):l.length≤9223372036854775807:=by
 obtain⟨S,h,hS⟩:=h
 rcases h with⟨h,rfl⟩ | ⟨a,cap,h,h1,h2,_⟩
 ·simp
 ·have:maxLen=9223372036854775807:=rfl
  omega
theorem St.old2 {F0:Nat→Prop} {w wr:World} {Rs:List Res} {v:Option Value} {g o:Nat} (h:St F0 w Rs wr) (hb: ¬ F0 g∧g<w.heap.size) (hc:w.cell? ⟨g,o,none⟩=v):wr.cell? ⟨g,o,none⟩=v:=by
 rw[← hc]
 have e:=h.fr.block g hb.2 hb.1
 simp only[World.cell?,e]
theorem aX {l:List α} {k:Nat} {x:α} (h:l[k]? = some x):l.drop k=x::l.drop (k+1):=by
 obtain⟨hk,rfl⟩:=Da h
 exact List.drop_eq_getElem_cons hk
theorem RdR.nil {F0:Nat→Prop} {w0:World} {Rs:List Res} (size:Nat) (E:Rd α) (h:St F0 w0 Rs w):St F0 w0 (RdR (ar size E) [.slice none 0 0] []::Rs) w :=
 h.grow (Ns := [RdR (ar size E) [.slice none 0 0] []]) (Fr.refl _ _) ⟨fun _=>False,⟨.inl ⟨rfl,rfl⟩,fun _ h=>h.elim⟩,fun _ h=>h.elim,trivial⟩
theorem bp.shut {F0:Nat→Prop} {w0:World} {Rs:List Res} {T:TypeId} {v:Value} {xs:List α} (hp:0<size) (i:Nat) (h:St F0 w0 Rs w) (hi:Rs[i]? = some (bp T size E v xs)):St F0 w0 (Rs.set i (RdR (ar size E) [v] xs)) w :=
 h.weaken i hi (fun G hG=>⟨bA hp _ _ hG,fun k hk=>(bp T size E v xs).lt hG k hk⟩)
section
variable {F0:Nat→Prop} {w0 w1:World} {Rs:List Res} {T:TypeId} {v v1:Value} {xs:List α} {B:Res}
theorem bp.nil (T:TypeId) (size:Nat) (E:Rd α) (h:St F0 w0 Rs w):St F0 w0 (bp T size E (.slice none 0 0) []::Rs) w :=
 h.grow (Ns := [bp T size E (.slice none 0 0) []]) (Fr.refl _ _) ⟨fun _=>False,⟨[],fun _=>False,World.ownsRow_nil _ _ _ _,rfl,fun _ h=>h.elim,fun _ _ h=>h,fun k=>by simp[Value.ownBlock]⟩,fun _ h=>h.elim,trivial⟩
theorem bp.lit (E:Rd α) (h:St F0 w0 Rs w) (cs:Array Value) (xs:List α) (hm:xs.length≤maxLen) (he:fL size E (w.alloc (.cells cs T)) (fun _=>False) cs.toList xs) :
 St F0 w0 (bp T size E (.slice (some ⟨w.heap.size,0,none⟩) xs.length xs.length) xs::Rs) (w.alloc (.cells cs T)) :=
 h.grow (Ns := [bp T size E (.slice (some ⟨w.heap.size,0,none⟩) xs.length xs.length) xs]) (B7 ((Below.refl _ _).alloc (DJ _) _))
  ⟨fun k=>k=w.heap.size,⟨cs.toList,fun _=>False,World.ownsRow_lit w cs xs.length (DV _) hm (by have:=gj he; simpa using this),he,fun _ h=>h.elim,fun _ _ h=>h,fun k=>by simp[Value.ownBlock,eq_comm]⟩,fun k hk=>by omega,trivial⟩
theorem bp.open_ (i:Nat) (h:St F0 w0 Rs w) (hi:Rs[i]? = some (bp T size E v xs)) :
 ∃ cells,w.ownsRow 0 T size v xs.length cells∧ ∀ v1 w1 news x,w1.ownsRow 0 T size v1 (xs.length+1) (cells++news)→w.grownBy w1 v.ownBlock→(v1.ownBlock=v.ownBlock∨ ∃ k,v1.ownBlock=some k∧w.heap.size≤k)→news.length=size →
  (∀ w S,E.P w S news x)→St F0 w0 (Rs.set i (bp T size E v1 (xs ++ [x]))) w1:=by
 obtain⟨f,hs⟩:=h
 obtain⟨G,⟨cells,S,h1,h2,h3,h4,h5⟩,hG,hr⟩:=Sep.pick i hi hs
 refine⟨cells,h1,fun v1 w1 news x ho hg hat hl hx=> ?_⟩
 have hst:St F0 w0 Rs w:=⟨f,hs⟩
 have hne: ∀ k,S k→k<w.heap.size∧some k≠v.ownBlock:=fun k hk=>⟨h3 k hk,fun e=>h4 k e.symm hk⟩
 have hS1:fL size E w1 S cells xs:=iU h2 (fun k hk=>hg.block k (hne k hk).1 (hne k hk).2)
 have hle:=hg.size
 have f2:Fr G w w1:=B8 hg (fun k hk=>(h5 k).2 (.inl hk))
 refine⟨f.trans f2 hG,?_⟩
 have hfs:=f.size
 have hR:Sep (Rs.eraseIdx i) w1 (fun k=>((F0 k∨w0.heap.size≤k)∧ ¬ G k)∧k<w.heap.size):=hr.inside.move (fun k hk _=>f2.block k hk.2 hk.1.2)
 refine Sep.back (G:=fun k=>v1.ownBlock=some k∨S k) i hi ⟨cells++news,S,?_,mq hS1 hl (hx _ _),fun k hk=>Nat.lt_of_lt_of_le (h3 k hk) hle,?_,fun _=>Iff.rfl⟩ ?_ (hR.mono (fun k hk=>⟨hk.1.1,?_⟩))
 ·rw[Db]; exact ho
 ·intro k hk
  rcases hat with e | ⟨k',e,hk'⟩
  ·rw[e] at hk; exact h4 k hk
  ·rw[e] at hk
   injection hk with hk
   subst hk
   intro hs'
   have:=h3 _ hs'
   omega
 ·rintro k (hk | hk)
  ·rcases hat with e | ⟨k',e,hk'⟩
   ·rw[e] at hk; exact hG k ((h5 k).2 (.inl hk))
   ·rw[e] at hk
    injection hk with hk
    subst hk
    exact .inr (by omega)
  ·exact hG k ((h5 k).2 (.inr hk))
 ·rintro (h6 | h6)
  ·rcases hat with e | ⟨k',e,hk'⟩
   ·rw[e] at h6; exact hk.1.2 ((h5 k).2 (.inl h6))
   ·rw[e] at h6
    injection h6 with h6
    subst h6
    have:=hk.2
    omega
  ·exact hk.1.2 ((h5 k).2 (.inr h6))
theorem bp.open2 (i j:Nat) (h:St F0 w0 Rs w) (hi:Rs[i]? = some (bp T size E v xs)) (hj:(Rs.eraseIdx i)[j]? = some B) :
 ∃ cells,w.ownsRow 0 T size v xs.length cells∧ ∀ v1 w1 news x,w1.ownsRow 0 T size v1 (xs.length+1) (cells++news)→w.grownBy w1 v.ownBlock→(v1.ownBlock=v.ownBlock∨ ∃ k,v1.ownBlock=some k∧w.heap.size≤k)→news.length=size →
  (∀ w G,B.P w G→E.P w G news x)→St F0 w0 (bp T size E v1 (xs ++ [x])::(Rs.eraseIdx i).eraseIdx j) w1:=by
 obtain⟨f,hs⟩:=h
 obtain⟨G,⟨cells,S,h1,h2,h3,h4,h5⟩,hG,hr⟩:=Sep.pick i hi hs
 obtain⟨H,hB,hH,hr2⟩:=Sep.pick j hj hr
 refine⟨cells,h1,fun v1 w1 news x ho hg hat hl hx=> ?_⟩
 have hne: ∀ k,S k→k<w.heap.size∧some k≠v.ownBlock:=fun k hk=>⟨h3 k hk,fun e=>h4 k e.symm hk⟩
 have hS1:fL size E w1 S cells xs:=iU h2 (fun k hk=>hg.block k (hne k hk).1 (hne k hk).2)
 have hle:=hg.size
 have f2:Fr G w w1:=B8 hg (fun k hk=>(h5 k).2 (.inl hk))
 have hfs:=f.size
 have hB1:B.P w1 H:=B.move hB (fun k hk=>f2.block k (B.lt hB k hk) (hH k hk).2)
 refine⟨f.trans f2 hG,?_⟩
 have hR:Sep ((Rs.eraseIdx i).eraseIdx j) w1 (fun k=>(((F0 k∨w0.heap.size≤k)∧ ¬ G k)∧ ¬ H k)∧k<w.heap.size):=hr2.inside.move (fun k hk _=>f2.block k hk.2 hk.1.1.2)
 have hlt1:=B.lt hB
 refine⟨fun k=>v1.ownBlock=some k∨(S k∨H k),⟨cells++news,fun k=>S k∨H k,?_,mq (pK hS1 (fun _ h=> .inl h)) hl (E.mono (hx _ _ hB1) (fun _ h=> .inr h)),?_,?_,fun _=>Iff.rfl⟩,?_,hR.mono (fun k hk=>⟨hk.1.1.1,?_⟩)⟩
 ·rw[Db]; exact ho
 ·rintro k (hk | hk)
  ·exact Nat.lt_of_lt_of_le (h3 k hk) hle
  ·exact Nat.lt_of_lt_of_le (hlt1 k hk) hle
 ·intro k hk
  rcases hat with e | ⟨k',e,hk'⟩
  ·rw[e] at hk
   rintro (h6 | h6)
   ·exact h4 k hk h6
   ·exact (hH k h6).2 ((h5 k).2 (.inl hk))
  ·rw[e] at hk
   injection hk with hk
   subst hk
   rintro (h6 | h6)
   ·have:=h3 _ h6; omega
   ·have:=hlt1 _ h6; omega
 ·rintro k (hk | hk | hk)
  ·rcases hat with e | ⟨k',e,hk'⟩
   ·rw[e] at hk; exact hG k ((h5 k).2 (.inl hk))
   ·rw[e] at hk
    injection hk with hk
    subst hk
    exact .inr (by omega)
  ·exact hG k ((h5 k).2 (.inr hk))
  ·exact (hH k hk).1
 ·rintro (h6 | h6 | h6)
  ·rcases hat with e | ⟨k',e,hk'⟩
   ·rw[e] at h6; exact hk.1.1.2 ((h5 k).2 (.inl h6))
   ·rw[e] at h6
    injection h6 with h6
    subst h6
    have:=hk.2
    omega
  ·exact hk.1.1.2 ((h5 k).2 (.inr h6))
  ·exact hk.1.2 h6
end
end
section
variable {P:Program} (w:World)
end
set_option linter.unusedSimpArgs false
def ba (b:Nat) (st:List UInt8×Int):Res where
 P:=fun w G=> ∃ v,w.heap[b]? = some (.cells #[v,.int .i64 st.2] 66 (0,0))∧w.ownsRow 0 5 1 v st.1.length (aL st.1)∧ ∀ k,G k↔k=b∨v.ownBlock=some k
 lt:=by
  rintro w G ⟨v,h1,h2,h3⟩ k hk
  rcases (h3 k).1 hk with rfl | h
  ·exact gX h1
  ·exact pJ h2 k h
 move:=by
  rintro w w' G ⟨v,h1,h2,h3⟩ hm
  exact⟨v,(hm _ ((h3 _).2 (.inl rfl))).trans h1,kW h2 (fun k hk=>hm k ((h3 k).2 (.inr hk))),h3⟩
theorem kX:(Tryz.prog.info? 5).map (fun i=>(i.zero,i.size,i.bytes))=some (some (.int .u8 0),1,1):=by kernel_rfl
theorem ba.stored {b:Nat} {l m:List UInt8} {w w1:World} {v v1:Value} {F:Nat→Prop} (hb:w.heap[b]? = some (.cells #[v,.int .i64 0] 66 (0,0))) (ho:w.ownsRow 0 5 1 v l.length (aL l)) (hF: ∀ k,F k↔k=b∨v.ownBlock=some k)
 {n:Nat} (ho1:w1.ownsRow 0 5 1 v1 n (aL m)) (hg:w.grownBy w1 v.ownBlock) (hat:v1.ownBlock=v.ownBlock∨ ∃ k,v1.ownBlock=some k∧w.heap.size≤k) :
 St F w [ba b (m,0)] (w1.setCell ⟨b,0,none⟩ v1):=by
 have hn:n=m.length:=by have:=ho1.1; simpa [aL] using this.symm
 subst hn
 have hne:=kn ho hb (by decide)
 have hb1:w1.heap[b]? = some (.cells #[v,.int .i64 0] 66 (0,0)):=(hg.block b (gX hb) hne).trans hb
 have hne1:=kn ho1 hb1 (by decide)
 refine⟨((Fr.refl F w).trans (B8 (F:=F) hg (fun k hk=>(hF k).2 (.inr hk))) (fun k hk=> .inl hk)).set (p:=⟨b,0,none⟩) (.inl ((hF b).2 (.inl rfl))) v1,?_⟩
 refine⟨fun k=>k=b∨v1.ownBlock=some k,⟨v1,by simpa using jT hb1 0 v1,sF ho1 hne1 v1,fun _=>Iff.rfl⟩,?_,trivial⟩
 rintro k (rfl | hk)
 ·exact .inl ((hF k).2 (.inl rfl))
 ·rcases hat with h | ⟨k',h,h'⟩
  ·rw[h] at hk
   exact .inl ((hF k).2 (.inr hk))
  ·rw[h] at hk
   injection hk with hk
   subst hk
   exact .inr h'
theorem Cm {b:Nat} {st:List UInt8×Int} {w w':World} {F:Nat→Prop} (h:(ba b st).P w F) (n:Nat) (hw:w'=w.drewN n):St F w [ba b st] w':=by
 subst hw
 exact (Bo F w (Sep.one h)).drewN n
def fb (st:List UInt8×Int) (l:List UInt8):List UInt8×Int:=if st.2=0 then (st.1++l,0) else st
def g7 (st:List UInt8×Int) (e:Int):List UInt8×Int:=if st.2=0 then (st.1,e) else st
theorem lO (b:Nat) (st:List UInt8×Int) (e:Int):eR Tryz.prog 69 #[.pointer (some ⟨b,0,none⟩),.int .i64 e] (ba b st) (fun v A' N=>v= .tuple #[]∧A'=ba b (g7 st e)∧N = []):=by
 rintro F w ⟨v,hb,ho,hF⟩
 obtain⟨l,er⟩:=st
 have c1:w.cell? ⟨b,1,none⟩=some (.int .i64 er):=(aN hb 1).trans rfl
 have f1:w.frozen? ⟨b,1,none⟩=false:=ck hb 1
 by_cases h0:er=0
 ·subst h0
  have HB:=Lib.hid hb
  have HO:=Lib.hid ho
  clear hb ho
  go_enter Tryz.func69,Tryz.ntmps69
  go_wp2
  go_end0
  refine⟨_,_,_,rfl,⟨rfl,rfl,rfl⟩,(Fr.refl F w).set (.inl ((hF b).2 (.inl rfl))) _,F,?_,fun k hk=> .inl hk,trivial⟩
  have hne:=kn HO.out HB.out (by decide)
  exact⟨v,by simpa [g7] using jT HB.out 1 (.int .i64 e),sF HO.out hne _,hF⟩
 ·have HB:=Lib.hid hb
  have HO:=Lib.hid ho
  have H0:(er == 0)=false:=beq_eq_false_iff_ne.2 h0
  clear hb ho
  go_enter Tryz.func69,Tryz.ntmps69
  go_wp2
  go_end0
  exact⟨_,_,_,rfl,⟨rfl,rfl,rfl⟩,Cm ⟨v,by simpa [g7,h0] using HB.out,by simpa [g7,h0] using HO.out,hF⟩ 0 rfl⟩
theorem tD (b:Nat) (st:List UInt8×Int) (s:ByteArray) (hl:st.1.length+s.size≤140737488355328) :
 eR Tryz.prog 101 #[.pointer (some ⟨b,0,none⟩),.string s] (ba b st) (fun v A' N=>v= .tuple #[]∧A'=ba b (fb st s.data.toList)∧N = []):=by
 rintro F w ⟨v,hb,ho,hF⟩
 obtain⟨l,er⟩:=st
 have c0:w.cell? ⟨b,0,none⟩=some v:=(aN hb 0).trans rfl
 have c1:w.cell? ⟨b,1,none⟩=some (.int .i64 er):=(aN hb 1).trans rfl
 by_cases h0:er=0
 ·subst h0
  have HB:=Lib.hid hb
  have HO:=Lib.hid ho
  clear hb ho
  go_enter Tryz.func101,Tryz.ntmps101
  go_wp2_with (at_builtin; refine jU w rfl _ _ _ _ rfl 5 Tryz.underlying64 Tryz.underlying9 kX v l.length (aL l) rfl HO.out s rfl hl ?_; intro v1 w1 ho1 hg hat; obtain⟨a1,k1,rfl⟩:=jW ho1; have HO1:=Lib.hid ho1; clear ho1; have HN:=Lib.hid (kn HO.out HB.out (by decide)); have HB1:=Lib.hid (show w1.heap[b]? = _ from (hg.block b (gX HB.out) HN.out).trans HB.out); have d0:w1.cell? ⟨b,0,none⟩=some v:=(aN HB1.out 0).trans rfl; have e0:w1.frozen? ⟨b,0,none⟩=false:=ck HB1.out 0; have HG:=Lib.hid hg; have HAT:=Lib.hid hat; clear hg hat)
  go_end0
  have ho1:=HO1.out
  rw[mh,← gG] at ho1
  refine⟨_,_,_,rfl,⟨rfl,rfl,rfl⟩,?_⟩
  have:=ba.stored HB.out HO.out hF ho1 HG.out (by rcases HAT.out with h | h; exact .inl h; exact .inr ⟨_,h,DJ _⟩)
  simpa [fb] using this
 ·have HB:=Lib.hid hb
  have HO:=Lib.hid ho
  have H0:(er == 0)=false:=beq_eq_false_iff_ne.2 h0
  clear hb ho
  go_enter Tryz.func101,Tryz.ntmps101
  go_wp2_with fail
  go_end0
  exact⟨_,_,_,rfl,⟨rfl,rfl,rfl⟩,Cm ⟨v,by simpa [fb,h0] using HB.out,by simpa [fb,h0] using HO.out,hF⟩ 0 rfl⟩
theorem xt (b:Nat) (st:List UInt8×Int) (c:UInt8) (hl:st.1.length+1≤140737488355328) :
 eR Tryz.prog 126 #[.pointer (some ⟨b,0,none⟩),.int .u8 c.toNat] (ba b st) (fun v A' N=>v= .tuple #[]∧A'=ba b (fb st [c])∧N = []):=by
 rintro F w ⟨v,hb,ho,hF⟩
 obtain⟨l,er⟩:=st
 have c0:w.cell? ⟨b,0,none⟩=some v:=(aN hb 0).trans rfl
 have c1:w.cell? ⟨b,1,none⟩=some (.int .i64 er):=(aN hb 1).trans rfl
 by_cases h0:er=0
 ·subst h0
  have HB:=Lib.hid hb
  have HO:=Lib.hid ho
  clear hb ho
  go_enter Tryz.func126,Tryz.ntmps126
  go_wp2_with (at_builtin; refine jV w rfl _ _ _ rfl 5 (.int .u8 0) 1 Tryz.underlying64 kX rfl v l.length (aL l) rfl HO.out (.int .u8 c.toNat) rfl rfl (by simpa using hl) hl ?_; intro v1 w1 ho1 hg hat; obtain⟨a1,k1,rfl⟩:=jW ho1; have HO1:=Lib.hid ho1; clear ho1; have HN:=Lib.hid (kn HO.out HB.out (by decide)); have HB1:=Lib.hid (show w1.heap[b]? = _ from (hg.block b (gX HB.out) HN.out).trans HB.out); have d0:w1.cell? ⟨b,0,none⟩=some v:=(aN HB1.out 0).trans rfl; have e0:w1.frozen? ⟨b,0,none⟩=false:=ck HB1.out 0; have HG:=Lib.hid hg; have HAT:=Lib.hid hat; clear hg hat)
  go_end0
  have ho1:=HO1.out
  rw[show ([Value.int .u8 c.toNat]:List Value)=aL [c] from rfl,← gG] at ho1
  refine⟨_,_,_,rfl,⟨rfl,rfl,rfl⟩,?_⟩
  have:=ba.stored HB.out HO.out hF ho1 HG.out HAT.out
  simpa [fb] using this
 ·have HB:=Lib.hid hb
  have HO:=Lib.hid ho
  have H0:(er == 0)=false:=beq_eq_false_iff_ne.2 h0
  clear hb ho
  go_enter Tryz.func126,Tryz.ntmps126
  go_wp2_with fail
  go_end0
  exact⟨_,_,_,rfl,⟨rfl,rfl,rfl⟩,Cm ⟨v,by simpa [fb,h0] using HB.out,by simpa [fb,h0] using HO.out,hF⟩ 0 rfl⟩
def tE (st:List UInt8×Int):Value:=if st.2=0 then .tuple #[.string ⟨st.1.toArray⟩,.int .i64 0] else .tuple #[.string ⟨#[]⟩,.int .i64 st.2]
theorem xu (b:Nat) (st:List UInt8×Int):eR Tryz.prog 28 #[.pointer (some ⟨b,0,none⟩)] (ba b st) (fun v A' N=>v=tE st∧A'=ba b st∧N = []):=by
 rintro F w ⟨v,hb,ho,hF⟩
 obtain⟨l,er⟩:=st
 have c0:w.cell? ⟨b,0,none⟩=some v:=(aN hb 0).trans rfl
 have c1:w.cell? ⟨b,1,none⟩=some (.int .i64 er):=(aN hb 1).trans rfl
 have hc:=mp (P:=Tryz.prog) w (src:=64) (dst:=9) Tryz.underlying64 Tryz.underlying5 Tryz.underlying9 ho
 have HB:=Lib.hid hb
 have HO:=Lib.hid ho
 clear hb ho
 by_cases h0:er=0
 ·subst h0
  go_enter Tryz.func28,Tryz.ntmps28
  go_wp2
  go_ret2
  exact⟨_,_,_,rfl,⟨by simp[tE],rfl,rfl⟩,Cm ⟨_,HB.out,HO.out,hF⟩ 0 rfl⟩
 ·have H0:(er != 0)=true:=bne_iff_ne.2 h0
  go_enter Tryz.func28,Tryz.ntmps28
  go_wp2
  go_quiet (fail)
  go_wp2
  go_ret2
  exact⟨_,_,_,rfl,⟨by simp[tE,h0],rfl,rfl⟩,Cm ⟨_,HB.out,HO.out,hF⟩ _ rfl⟩
def bj (n size:Int):Bool:=decide (1≤size) && decide (size≤8) && decide (-(2 ^ (8*size.toNat - 1):Int)≤n) && decide (n≤(2 ^ (8*size.toNat - 1):Int) - 1)
theorem w64max:wrap64 (wrap64 9223372036854775808 - 1)=9223372036854775807:=by unfold wrap64; omega
theorem gk {k:IntKind} {a b:Int} (h:a=b):Ending.returned (.int k a)= .returned (.int k b):=by rw[h]
theorem kY {a b:Bool} (h:a=b):Ending.returned (.bool a)= .returned (.bool b):=by rw[h]
theorem kZ (n size:Int) (w:World) (h0: -9223372036854775808≤n) (h1:n≤9223372036854775807) :
 Calls Tryz.prog 78 #[.int .i64 n,.int .i64 size] w fun e w'=>e= .returned (.bool (bj n size))∧w=w':=by
 by_cases hs:1≤size∧size≤8
 ·have hk:size=1∨size=2∨size=3∨size=4∨size=5∨size=6∨size=7∨size=8:=by omega
  rcases hk with rfl | rfl | rfl | rfl | rfl | rfl | rfl | rfl
  all_goals
   clear hs
   go_enter Tryz.func78,Tryz.ntmps78
   go_wp2
   all_goals (go_ret; exact⟨kY (by have:=w64max; rw[Bool.eq_iff_iff]; simp[bj,wrap64]; omega),rfl⟩)
 ·by_cases h2:size<1
  ·go_enter Tryz.func78,Tryz.ntmps78
   go_wp2
   go_ret
   exact⟨kY (by simp[bj]; omega),rfl⟩
  ·have h3:8<size:=by omega
   go_enter Tryz.func78,Tryz.ntmps78
   go_wp2
   go_ret
   exact⟨kY (by simp[bj]; omega),rfl⟩
def be (n:Int) (size:Nat):List UInt8:=(List.range size).map fun i=>UInt8.ofNat ((n / (2 ^ (8*(size - 1 - i)):Int)) % 256).toNat
def rg (st:List UInt8×Int) (n size:Int):List UInt8×Int:=if bj n size then fb st (be n size.toNat) else g7 st 11
theorem tF (st:List UInt8×Int):fb st []=st:=by
 obtain⟨l,e⟩:=st
 by_cases h:e=0 <;> simp[fb,h]
theorem nJ (st:List UInt8×Int) (a b:List UInt8):fb (fb st a) b=fb st (a++b):=by
 obtain⟨l,e⟩:=st
 by_cases h:e=0 <;> simp[fb,h]
theorem kp (b:Nat) (st:List UInt8×Int) (c:Int) (h0:0≤c) (h1:c<256) (hl:st.1.length+1≤140737488355328) :
 eR Tryz.prog 126 #[.pointer (some ⟨b,0,none⟩),.int .u8 c] (ba b st) (fun v A' N=>v= .tuple #[]∧A'=ba b (fb st [UInt8.ofNat c.toNat])∧N = []):=by
 have h:=xt b st (UInt8.ofNat c.toNat) hl
 rwa [show ((UInt8.ofNat c.toNat).toNat:Int)=c from by simp[UInt8.toNat_ofNat']; omega] at h
theorem mO (st:List UInt8×Int) (a:List UInt8):(fb st a).1.length≤st.1.length+a.length:=by
 unfold fb; split <;> simp
theorem oL (b:Nat) (st:List UInt8×Int) (n size:Int) (h0: -9223372036854775808≤n) (h1:n≤9223372036854775807) (hl:st.1.length+8≤140737488355328) :
 eR Tryz.prog 71 #[.pointer (some ⟨b,0,none⟩),.int .i64 n,.int .i64 size] (ba b st) (fun v A' N=>v= .tuple #[]∧A'=ba b (rg st n size)∧N = []):=by
 intro F w hA
 by_cases hf:bj n size=true
 ·have hs:1≤size∧size≤8:=by simp[bj] at hf; omega
  obtain⟨k,rfl⟩: ∃ k:Nat,size=k:=⟨size.toNat,by omega⟩
  have HF:=Lib.hid hf
  clear hf
  have HA:=Lib.hid (Bo F w (Sep.one hA))
  clear hA
  go_enter Tryz.func71,Tryz.ntmps71
  go_wp2_with fail
  refine (kZ n k w h0 h1).mono ?_
  rintro e w' ⟨rfl,rfl⟩
  rw[HF.out]
  go_wp2_with fail
  go_loopw [6,14] (fun _ i wr=> ∃ j:Nat,j≤k∧i= .int .i64 j∧St F w [ba b (fb st ((be n k).take j))] wr) (fun _ i _=>k - (intOf i).toNat)
  case atStart=>exact⟨0,by omega,rfl,by simpa [tF] using HA.out⟩
  case round =>
   obtain⟨j,hj,rfl,hst⟩:=hrel
   have HS:=Lib.hid hst
   clear hst
   by_cases hlt:j<k
   ·go_wp2_with fail
    have hle:((be n k).take j).length=j:=by simp[be]; omega
    have hl2:=mO st ((be n k).take j)
    refine (HS.out.call 0 rfl (kp b _ _ (by omega) (by omega) (by omega))).mono ?_
    rintro e w1 ⟨v,A',N,rfl,⟨rfl,rfl,rfl⟩,H1⟩
    have HS1:=Lib.hid H1
    clear H1 hle hl2
    go_wp2_with fail
    go_roundw
    case rel =>
     refine⟨j+1,by omega,by go_num,?_⟩
     have:=HS1.out
     rw[nJ] at this
     have e1:(be n k).take (j+1)=(be n k).take j ++ [UInt8.ofNat ((n / (2 ^ (8*(k - 1 - j)):Int)) % 256).toNat]:=by
      rw[List.take_succ_eq_append_getElem (by simp[be]; omega)]
      simp[be]
     rw[e1]
     exact this
    case measure=>simp[intOf]; omega
   ·have e1:j=k:=by omega
    have e2:(be n k).take k=be n k:=List.take_of_length_le (by simp[be])
    go_wp2_with fail
    go_end0
    refine⟨_,_,_,rfl,⟨rfl,rfl,rfl⟩,?_⟩
    have:=HS.out
    rw[e1,e2] at this
    simpa [rg,HF.out] using this
 ·have HF:=Lib.hid (show bj n size=false by simpa using hf)
  clear hf
  have HA:=Lib.hid (Bo F w (Sep.one hA))
  clear hA
  go_enter Tryz.func71,Tryz.ntmps71
  go_wp2_with fail
  refine (kZ n size w h0 h1).mono ?_
  rintro e w' ⟨rfl,rfl⟩
  rw[HF.out]
  go_wp2_with fail
  refine (HA.out.call 0 rfl (lO b _ 11)).mono ?_
  rintro e w1 ⟨v,A',N,rfl,⟨rfl,rfl,rfl⟩,H1⟩
  have HS1:=Lib.hid H1
  clear H1
  go_wp2_with fail
  go_end0
  refine⟨_,_,_,rfl,⟨rfl,rfl,rfl⟩,?_⟩
  simpa [rg,HF.out] using HS1.out
structure I where
 rest:List UInt8
 pos:Nat
 err:Int
def bsOf (l:List UInt8):ByteArray:=⟨l.toArray⟩
abbrev jS (l:List UInt8):Value:= .string (bsOf l)
theorem bq (l:List UInt8):(bsOf l).size=l.length:=by simp[bsOf,ByteArray.size]
theorem bQ (l:List UInt8):(bsOf l).data.toList=l:=by simp[bsOf]
theorem dA (l:List UInt8):(bsOf l).toList=l:=ByteArray.toList_mk l
theorem lb (s:ByteArray) (a b:Nat):s.extract a b=bsOf ((s.data.toList.drop a).take (b - a)):=by
 apply ByteArray.ext
 apply Array.ext'
 simp[bsOf,ByteArray.data_extract,List.extract_eq_take_drop]
def InR (b:Nat) (st:I):Res where
 P:=fun w G=> ∃ s:ByteArray,w.heap[b]? = some (.cells #[.string s,.int .i64 st.pos,.int .i64 st.err] 111 (0,0))∧st.pos+st.rest.length=s.size∧s.size≤9223372036854775807∧s.data.toList.drop st.pos=st.rest∧ ∀ k,G k↔k=b
 lt:=by
  rintro w G ⟨s,h1,_,_,_,h3⟩ k hk
  rw[(h3 k).1 hk]
  exact gX h1
 move:=by
  rintro w w' G ⟨s,h1,h2,h3,h4,h5⟩ hm
  exact⟨s,(hm _ ((h5 _).2 rfl)).trans h1,h2,h3,h4,h5⟩
theorem InR.kept {b:Nat} {st:I} {w w':World} {F:Nat→Prop} (h:(InR b st).P w F) (n:Nat) (hw:w'=w.drewN n):St F w [InR b st] w':=by
 subst hw
 exact (Bo F w (Sep.one h)).drewN n
def cB (st:I) (e:Int):I:=if st.err=0 then { st with err:=e } else st
def bK (st:I) (n:Int):List UInt8×I :=
 if st.err≠0 then ([],st) else if n<0 then ([],{ st with err:=4 }) else if st.rest.length<n then ([],{ st with err:=1 })
 else (st.rest.take n.toNat,{ st with rest:=st.rest.drop n.toNat,pos:=st.pos+n.toNat })
theorem yw (s:ByteArray) (hs:s.size≤9223372036854775807) :
 gi Tryz.prog 18 #[.string s] (fun v N=> ∃ b,v= .pointer (some ⟨b,0,none⟩)∧N = [InR b ⟨s.data.toList,0,0⟩]):=by
 intro w
 go_enter Tryz.func18,Tryz.ntmps18
 go_wp2
 go_ret
 refine⟨_,_,rfl,⟨_,rfl,rfl⟩,?_⟩
 refine (((BS w).alloc #[.string s,.int .i64 0,.int .i64 0] 111).weaken 0 rfl (A':=InR w.heap.size ⟨s.data.toList,0,0⟩) ?_)
 rintro G ⟨h1,h2⟩
 exact⟨s,h1,by simp,hs,rfl,h2⟩
theorem eE (b:Nat) (st:I) (e:Int):eR Tryz.prog 61 #[.pointer (some ⟨b,0,none⟩),.int .i64 e] (InR b st) (fun v A' N=>v= .tuple #[]∧A'=InR b (cB st e)∧N = []):=by
 rintro F w ⟨s,hb,h2,h3,h4,hF⟩
 have c2:w.cell? ⟨b,2,none⟩=some (.int .i64 st.err):=(aN hb 2).trans rfl
 have f2:w.frozen? ⟨b,2,none⟩=false:=ck hb 2
 have HB:=Lib.hid hb
 have H4:=Lib.hid h4
 have H2:=Lib.hid h2
 clear hb h4 h2
 by_cases h0:st.err=0
 ·have H0:(st.err == 0)=true:=beq_iff_eq.2 h0
  have HH:=Lib.hid h0
  clear h0
  go_enter Tryz.func61,Tryz.ntmps61
  go_wp2
  go_end0
  refine⟨_,_,_,rfl,⟨rfl,rfl,rfl⟩,(Fr.refl F w).set (.inl ((hF b).2 rfl)) _,F,?_,fun k hk=> .inl hk,trivial⟩
  exact⟨s,by simpa [cB,HH.out] using jT HB.out 2 (.int .i64 e),by simpa [cB,HH.out] using H2.out,h3,by simpa [cB,HH.out] using H4.out,hF⟩
 ·have H0:(st.err == 0)=false:=beq_eq_false_iff_ne.2 h0
  have HH:=Lib.hid h0
  clear h0
  go_enter Tryz.func61,Tryz.ntmps61
  go_wp2
  go_end0
  refine⟨_,_,_,rfl,⟨rfl,rfl,rfl⟩,InR.kept (st:=cB st e) ?_ 0 rfl⟩
  rw[show cB st e=st by simp[cB,HH.out]]
  exact⟨s,HB.out,H2.out,h3,H4.out,hF⟩
theorem jX (b:Nat) (st:I):eR Tryz.prog 82 #[.pointer (some ⟨b,0,none⟩)] (InR b st) (fun v A' N=>v= .int .i64 st.rest.length∧A'=InR b st∧N = []):=by
 rintro F w ⟨s,hb,h2,h3,h4,hF⟩
 have c0:w.cell? ⟨b,0,none⟩=some (.string s):=(aN hb 0).trans rfl
 have c1:w.cell? ⟨b,1,none⟩=some (.int .i64 st.pos):=(aN hb 1).trans rfl
 have HB:=Lib.hid hb
 have H4:=Lib.hid h4
 have H2:=Lib.hid h2
 have h2a:st.pos≤s.size:=by omega
 clear hb h4 h2
 go_enter Tryz.func82,Tryz.ntmps82
 go_wp2
 go_quiet (fail)
 go_wp2
 go_ret
 have e1:(s.size:Int) - st.pos=st.rest.length:=by have:=H2.out; omega
 exact⟨_,_,_,gk e1,⟨rfl,rfl,rfl⟩,InR.kept ⟨s,HB.out,H2.out,h3,H4.out,hF⟩ _ rfl⟩
theorem cV (b:Nat) (st:I) (n:Int) (hn0: -9223372036854775808≤n) (hn1:n≤9223372036854775807) :
 eR Tryz.prog 109 #[.pointer (some ⟨b,0,none⟩),.int .i64 n] (InR b st) (fun v A' N=>v= .string (bsOf (bK st n).1)∧A'=InR b (bK st n).2∧N = []):=by
 rintro F w ⟨s,hb,h2,h3,h4,hF⟩
 have hA:(InR b st).P w F:=⟨s,hb,h2,h3,h4,hF⟩
 have c0:w.cell? ⟨b,0,none⟩=some (.string s):=(aN hb 0).trans rfl
 have c1:w.cell? ⟨b,1,none⟩=some (.int .i64 st.pos):=(aN hb 1).trans rfl
 have c2:w.cell? ⟨b,2,none⟩=some (.int .i64 st.err):=(aN hb 2).trans rfl
 have f1:w.frozen? ⟨b,1,none⟩=false:=ck hb 1
 have HB:=Lib.hid hb
 have H4:=Lib.hid h4
 have H2:=Lib.hid h2
 have HA:=Lib.hid (Bo F w (Sep.one hA))
 have h2a:st.pos≤s.size:=by omega
 have h2b: ¬ ((s.size:Int) - st.pos<n)↔n≤st.rest.length:=by omega
 have H2b:=Lib.hid h2b
 clear hb h4 h2 hA h2b
 by_cases h0:st.err=0
 ·have H0:(st.err != 0)=false:=by simp[h0]
  have HH:=Lib.hid h0
  clear h0
  by_cases hn:n<0
  ·have HT:=Lib.hid (show bK st n=([],cB st 4) by simp[bK,HH.out,hn,cB])
   go_enter Tryz.func109,Tryz.ntmps109
   go_wp2_with fail
   refine (HA.out.call 0 rfl (eE b st 4)).mono ?_
   rintro e w1 ⟨v,A',N,rfl,⟨rfl,rfl,rfl⟩,H1⟩
   have HS1:=Lib.hid H1
   clear H1
   go_wp2_with fail
   go_ret
   exact⟨_,_,_,rfl,⟨by rw[HT.out]; rfl,rfl,rfl⟩,by rw[HT.out]; exact HS1.out⟩
  ·by_cases hl:(st.rest.length:Int)<n
   ·have hl2:(s.size:Int) - st.pos<n:=by have:=H2.out; omega
    have HT:=Lib.hid (show bK st n=([],cB st 1) by simp[bK,HH.out,hn,cB,hl])
    go_enter Tryz.func109,Tryz.ntmps109
    go_wp2_with fail
    go_quiet (fail)
    go_wp2_with fail
    refine ((HA.out.drewN _).call 0 rfl (eE b st 1)).mono ?_
    rintro e w1 ⟨v,A',N,rfl,⟨rfl,rfl,rfl⟩,H1⟩
    have HS1:=Lib.hid H1
    clear H1
    go_wp2_with fail
    go_ret
    exact⟨_,_,_,rfl,⟨by rw[HT.out]; rfl,rfl,rfl⟩,by rw[HT.out]; exact HS1.out⟩
   ·have hl2: ¬ ((s.size:Int) - st.pos<n):=by have:=H2.out; omega
    obtain⟨m,rfl⟩: ∃ m:Nat,n=m:=⟨n.toNat,by omega⟩
    have hl3:st.pos+m≤s.size:=by omega
    have HT:=Lib.hid (show bK st m=(st.rest.take m,{ st with rest:=st.rest.drop m,pos:=st.pos+m }) by
     have: ¬ (st.rest.length<m):=by omega
     simp[bK,HH.out,this])
    go_enter Tryz.func109,Tryz.ntmps109
    go_wp2_with fail
    go_quiet (fail)
    go_wp2_with fail
    go_quiet (fail)
    go_wp2_with fail
    go_ret
    refine⟨.string (s.extract st.pos (st.pos+m)),_,_,rfl,⟨?_,rfl,rfl⟩,?_⟩
    ·rw[HT.out,lb,Nat.add_sub_cancel_left,H4.out]
    ·rw[HT.out]
     refine ((((Bo F w (Sep.one (R:=aC b 111 #[.string s,.int .i64 st.pos,.int .i64 st.err]) ⟨HB.out,hF⟩)).drewN _).set 0 rfl 1 (.int .i64 (st.pos+m))).drewN _).weaken 0 rfl (A':=InR b { st with rest:=st.rest.drop m,pos:=st.pos+m }) ?_
     rintro G ⟨k1,k2⟩
     have h2:=H2.out
     refine⟨s,k1,?_,h3,?_,k2⟩
     ·simp only[Dn]; omega
     ·simp only; rw[← H4.out,DW]
 ·have H0:(st.err != 0)=true:=bne_iff_ne.2 h0
  have HH:=Lib.hid h0
  clear h0
  go_enter Tryz.func109,Tryz.ntmps109
  go_wp2_with fail
  go_ret
  refine⟨_,_,_,rfl,⟨?_,rfl,rfl⟩,?_⟩
  ·simp[bK,HH.out,bsOf]
  ·simpa [bK,HH.out] using HA.out
theorem Ab (x d:Int) (h0: -9223372036854775808≤x) (h1:x≤9223372036854775807) (hx:x % 256=0) (hd0:0≤d) (hd1:d<256):bits .or .i64 x d=x+d:=by
 have e1:(BitVec.ofInt 64 x).toNat=(x % 18446744073709551616).toNat:=by simp[BitVec.toNat_ofInt]
 have e2:(BitVec.ofInt 64 d).toNat=d.toNat:=by simp[BitVec.toNat_ofInt]; omega
 show IntKind.i64.wrap (((BitVec.ofInt 64 x) ||| (BitVec.ofInt 64 d)).toNat:Int)=x+d
 rw[BitVec.toNat_or,e1,e2]
 generalize ha:(x % 18446744073709551616).toNat=a
 have ha2:a % 256=0:=by omega
 have hq:a=2 ^ 8*(a / 256):=by omega
 have hb:d.toNat<2 ^ 8:=by omega
 have ho:a ||| d.toNat=a+d.toNat:=by
  rw[hq,← Nat.two_pow_add_eq_or_of_lt hb (a / 256)]
 rw[ho,IntKind.wrap_i64]
 omega
def sgn (c:UInt8):Int:=if c.toNat<128 then c.toNat else (c.toNat:Int) - 256
theorem yx (c:UInt8):wrap64 (IntKind.i8.wrap (c.toNat:Int))=sgn c:=by
 have:=c.toNat_lt
 have e:IntKind.i8.wrap (c.toNat:Int)=sgn c:=by
  unfold sgn
  simp[IntKind.wrap,IntKind.bits,IntKind.signed]
  split <;> split <;> omega
 rw[e]
 unfold sgn wrap64
 split <;> omega
def cG:List UInt8→Int
 | []=>0
 | c::cs=>cs.foldl (fun n d=>n*256+d.toNat) (sgn c)
theorem mr (l:List UInt8) (d:UInt8) (h:l ≠ []):cG (l ++ [d])=cG l*256+d.toNat:=by
 cases l with
 | nil=>exact absurd rfl h
 | cons c cs=>simp[cG]
theorem uY (cs:List UInt8): ∀ (n:Int) (m:Nat),1≤m→ -(2 ^ (m - 1):Int)≤n→n<(2 ^ (m - 1):Int) →
 -(2 ^ (m+8*cs.length - 1):Int)≤cs.foldl (fun n d=>n*256+(d.toNat:Int)) n∧cs.foldl (fun n d=>n*256+(d.toNat:Int)) n<(2 ^ (m+8*cs.length - 1):Int):=by
 induction cs with
 | nil=>intro n m _ h1 h2; exact⟨h1,h2⟩
 | cons c cs ih =>
  intro n m hm h1 h2
  have:=c.toNat_lt
  have e:(2 ^ (m+8 - 1):Int)=256*2 ^ (m - 1):=by
   rw[show m+8 - 1=8+(m - 1) by omega,Int.pow_add]
   rfl
  have h3:=ih (n*256+c.toNat) (m+8) (by omega) (by rw[e]; omega) (by rw[e]; omega)
  rw[show m+8*(c::cs).length - 1=m+8+8*cs.length - 1 by simp; omega]
  exact h3
theorem lc (l:List UInt8) (h:l ≠ []): -(2 ^ (8*l.length - 1):Int)≤cG l∧cG l<(2 ^ (8*l.length - 1):Int):=by
 cases l with
 | nil=>exact absurd rfl h
 | cons c cs =>
  have hc:=c.toNat_lt
  have:=uY cs (sgn c) 8 (by omega) (by unfold sgn; split <;> omega) (by unfold sgn; split <;> omega)
  rw[show 8*(c::cs).length - 1=8+8*cs.length - 1 by simp; omega]
  exact this
theorem mP (l:List UInt8) (h:l ≠ []) (h7:l.length≤7): -36028797018963968≤cG l∧cG l<36028797018963968:=by
 have hr:=lc l h
 have hp:(2 ^ (8*l.length - 1):Int)≤36028797018963968:=by
  have h1:(2 ^ (8*l.length - 1):Nat)≤2 ^ 55:=Nat.pow_le_pow_right (by decide) (by omega)
  have h2:((2 ^ (8*l.length - 1):Nat):Int)≤((2 ^ 55:Nat):Int):=Int.ofNat_le.2 h1
  rw[Int.natCast_pow,Int.natCast_pow] at h2
  exact h2
 generalize (2 ^ (8*l.length - 1):Int)=z at *
 omega
theorem uZ (q d:Int) (h0: -36028797018963968≤q) (h1:q<36028797018963968) (hd0:0≤d) (hd1:d<256):bits .or .i64 (wrap64 (q*256)) (wrap64 d)=q*256+d:=by
 have e2:wrap64 (q*256)=q*256:=by unfold wrap64; omega
 have e3:wrap64 d=d:=by unfold wrap64; omega
 rw[e2,e3,Ab _ _ (by omega) (by omega) (by omega) hd0 hd1]
theorem u0 (l:List UInt8):(bsOf l).toList.isEmpty=l.isEmpty:=by
 have e:(bsOf l).toList=l:=ByteArray.toList_mk l
 rw[e]
theorem mQ (l:List UInt8) (i:Nat) (h:i<(bsOf l).size):(bsOf l)[i]=l[i]'(by simpa [bq] using h):=by
 simp[bsOf]; rfl
def dr (st:I) (size:Int):Int×I:=if 1≤size∧size≤8 then (cG (bK st size).1,(bK st size).2) else (0,cB st 4)
theorem rE (st:I) (n:Int):(bK st n).1.length≤n.toNat:=by
 unfold bK
 split
 ·simp
 ·split
  ·simp
  ·split
   ·simp
   ·simp; omega
theorem nK (b:Nat) (st:I) (size:Int) :
 eR Tryz.prog 57 #[.pointer (some ⟨b,0,none⟩),.int .i64 size] (InR b st) (fun v A' N=>v= .int .i64 (dr st size).1∧A'=InR b (dr st size).2∧N = []):=by
 intro F w hA
 by_cases hs:1≤size∧size≤8
 ·obtain⟨k,rfl⟩: ∃ k:Nat,size=k:=⟨size.toNat,by omega⟩
  have HI:=Lib.hid (show dr st k=(cG (bK st k).1,(bK st k).2) by simp only[dr,hs]; simp)
  have HA:=Lib.hid (Bo F w (Sep.one hA))
  clear hA
  go_enter Tryz.func57,Tryz.ntmps57
  go_wp2_with fail
  refine (HA.out.call 0 rfl (cV b st k (by omega) (by omega))).mono ?_
  rintro e w1 ⟨v,A',N,rfl,⟨rfl,rfl,rfl⟩,H1⟩
  have HS1:=Lib.hid H1
  have hlen:=rE st k
  clear H1
  generalize hl:(bK st k).1=l at *
  have hne:=u0 l
  have HL:=Lib.hid hl
  clear hl
  cases l with
  | nil =>
   simp only[List.isEmpty_nil] at hne
   go_wp2_with fail
   go_ret
   exact⟨_,_,_,rfl,⟨by rw[HI.out]; rfl,rfl,rfl⟩,by rw[HI.out]; exact HS1.out⟩
  | cons c cs =>
   have hsz:=bq (c::cs)
   have h0:=mQ (c::cs) 0 (by simp[bq])
   have HG:=Lib.hid (mQ (c::cs))
   have hsg:=yx c
   have hl8:cs.length≤7:=by simp at hlen; omega
   simp only[List.getElem_cons_zero,List.isEmpty_cons] at h0 hne
   go_wp2_with fail
   go_loopw [6,7] (fun n i wr=>wr=w1∧ ∃ j:Nat,1≤j∧j≤cs.length+1∧i= .int .i64 j∧n= .int .i64 (cG ((c::cs).take j))) (fun _ i _=>cs.length+1 - (intOf i).toNat)
   case atStart=>exact⟨rfl,1,by omega,by omega,rfl,by simp[cG,hsg]⟩
   case round =>
    obtain⟨rfl,j,hj1,hj2,rfl,rfl⟩:=hrel
    by_cases hlt:j<cs.length+1
    ·have hgj:=HG.out j (by rw[hsz]; simpa using hlt)
     have hb:j≤9223372036854775806:=by omega
     have hnn:(c::cs).take j ≠ []:=by intro h; have:=congrArg List.length h; simp at this; omega
     have hr:=mP ((c::cs).take j) hnn (by simp; omega)
     generalize hq:cG ((c::cs).take j)=q at *
     have HQ:=Lib.hid hq
     have HR:=Lib.hid hr
     clear hq hr
     go_wp2_with fail
     go_roundw
     case rel =>
      refine⟨trivial,j+1,by omega,by omega,by go_num,?_⟩
      have hd:=((c::cs)[j]'(by simpa using hlt)).toNat_lt
      have e1:(c::cs).take (j+1)=(c::cs).take j ++ [(c::cs)[j]'(by simpa using hlt)]:=by
       rw[List.take_succ_eq_append_getElem (by simpa using hlt)]
      rw[e1,mr _ _ hnn,HQ.out,uZ q _ HR.out.1 HR.out.2 (by omega) (by omega)]
     case measure=>simp[intOf]; omega
    ·have e1:j=cs.length+1:=by omega
     have e2:(c::cs).take (cs.length+1)=c::cs:=List.take_of_length_le (by simp)
     have hb:(c::cs).length=cs.length+1:=rfl
     go_wp2_with fail
     go_ret
     exact⟨_,_,_,rfl,⟨by rw[HI.out,e1,e2]; rfl,rfl,rfl⟩,by rw[HI.out]; exact HS1.out⟩
 ·have HI:=Lib.hid (show dr st size=(0,cB st 4) by simp only[dr,hs]; simp)
  have HA:=Lib.hid (Bo F w (Sep.one hA))
  clear hA
  by_cases h1:size<1
  all_goals
   go_enter Tryz.func57,Tryz.ntmps57
   go_wp2_with fail
   refine (HA.out.call 0 rfl (eE b st 4)).mono ?_
   rintro e w1 ⟨v,A',N,rfl,⟨rfl,rfl,rfl⟩,H1⟩
   have HS1:=Lib.hid H1
   clear H1
   go_wp2_with fail
   go_ret
   exact⟨_,_,_,rfl,⟨by rw[HI.out]; rfl,rfl,rfl⟩,by rw[HI.out]; exact HS1.out⟩
theorem InR.err {b:Nat} {st:I} {w:World} {F0:Nat→Prop} {w0:World} {Rs:List Res} (i:Nat) (h:St F0 w0 Rs w) (hi:Rs[i]? = some (InR b st)) :
 w.cell? ⟨b,2,none⟩=some (.int .i64 st.err)∧w.cell? ⟨b,1,none⟩=some (.int .i64 st.pos):=by
 obtain⟨G,⟨s,h1,_⟩,_⟩:=h.get i hi
 exact⟨(aN h1 2).trans rfl,(aN h1 1).trans rfl⟩
theorem InR.len {b:Nat} {st:I} {w:World} {F0:Nat→Prop} {w0:World} {Rs:List Res} (i:Nat) (h:St F0 w0 Rs w) (hi:Rs[i]? = some (InR b st)):st.rest.length≤9223372036854775807:=by
 obtain⟨G,⟨s,h1,h2,h3,_⟩,_⟩:=h.get i hi
 omega
theorem lP (b:Nat) (st:I):eR Tryz.prog 21 #[.pointer (some ⟨b,0,none⟩)] (InR b st) (fun v A' N=>v= .int .i64 st.err∧A'=InR b st∧N = []):=by
 intro F w hA
 have hs:=Bo F w (Sep.one hA)
 have c2:=(InR.err 0 hs rfl).1
 have HS:=Lib.hid hs
 clear hs hA
 go_enter Tryz.func21,Tryz.ntmps21
 go_wp2
 go_ret
 exact⟨_,_,_,rfl,⟨rfl,rfl,rfl⟩,HS.out⟩
def eF (st:I):I:=if st.rest = [] then st else cB st 2
theorem u4 (b:Nat) (st:I):eR Tryz.prog 32 #[.pointer (some ⟨b,0,none⟩)] (InR b st) (fun v A' N=>v= .int .i64 (eF st).err∧A'=InR b (eF st)∧N = []):=by
 intro F w hA
 have HS:=Lib.hid (Bo F w (Sep.one hA))
 clear hA
 by_cases h:st.rest = []
 ·have HC:=Lib.hid (show eF st=st by simp[eF,h])
  have hl:st.rest.length=0:=by simp[h]
  have HL:=Lib.hid hl
  have hl2: ¬ ((0:Int)<st.rest.length):=by omega
  clear h hl
  go_enter Tryz.func32,Tryz.ntmps32
  go_wp2_with fail
  refine (HS.out.call 0 rfl (jX b st)).mono ?_
  rintro e w1 ⟨v,A',N,rfl,⟨rfl,rfl,rfl⟩,H1⟩
  have c2:=(InR.err 0 H1 rfl).1
  have HS1:=Lib.hid H1
  clear H1
  go_wp2_with fail
  go_ret
  exact⟨_,_,_,rfl,⟨by rw[HC.out]; rfl,rfl,rfl⟩,by rw[HC.out]; exact HS1.out⟩
 ·have HC:=Lib.hid (show eF st=cB st 2 by simp[eF,h])
  have hl2:(0:Int)<st.rest.length:=by
   have:=List.length_pos_iff.2 h
   omega
  clear h
  go_enter Tryz.func32,Tryz.ntmps32
  go_wp2_with fail
  refine (HS.out.call 0 rfl (jX b st)).mono ?_
  rintro e w1 ⟨v,A',N,rfl,⟨rfl,rfl,rfl⟩,H1⟩
  have HS1:=Lib.hid H1
  clear H1
  go_wp2_with fail
  refine (HS1.out.call 0 rfl (eE b st 2)).mono ?_
  rintro e w2 ⟨v,A',N,rfl,⟨rfl,rfl,rfl⟩,H2⟩
  have c2:=(InR.err 0 H2 rfl).1
  have HS2:=Lib.hid H2
  clear H2
  go_wp2_with fail
  go_ret
  exact⟨_,_,_,rfl,⟨by rw[HC.out]; rfl,rfl,rfl⟩,by rw[HC.out]; exact HS2.out⟩
def iy (st:I) (size each:Int):Int×I :=
 if (dr st size).2.err≠0 then (0,(dr st size).2)
 else if (dr st size).1<0 then (0,cB (dr st size).2 4)
 else if 0<each∧((dr st size).2.rest.length:Int) / each<(dr st size).1 then (0,cB (dr st size).2 1)
 else dr st size
theorem va (b:Nat) (st:I) (size each:Int) :
 eR Tryz.prog 58 #[.pointer (some ⟨b,0,none⟩),.int .i64 size,.int .i64 each] (InR b st) (fun v A' N=>v= .int .i64 (iy st size each).1∧A'=InR b (iy st size each).2∧N = []):=by
 intro F w hA
 have HS:=Lib.hid (Bo F w (Sep.one hA))
 clear hA
 have HC:=Lib.hid (show iy st size each= _ from rfl)
 generalize hq:iy st size each=q at HC ⊢
 have HC2:=Lib.hid (show q=iy st size each from hq.symm)
 clear hq HC
 have HC3:=Lib.hid (show q=(if (dr st size).2.err≠0 then (0,(dr st size).2)
  else if (dr st size).1<0 then (0,cB (dr st size).2 4)
  else if 0<each∧((dr st size).2.rest.length:Int) / each<(dr st size).1 then (0,cB (dr st size).2 1)
  else dr st size) from HC2.out)
 clear HC2
 have h1:=nK b st size
 generalize dr st size=r at *
 obtain⟨n,st1⟩:=r
 have HN:=Lib.hid h1
 clear h1
 by_cases h0:st1.err=0
 ·have H0:(st1.err != 0)=false:=by simp[h0]
  have HH:=Lib.hid h0
  clear h0
  by_cases hn:n<0
  ·have HQ:=Lib.hid (show q=(0,cB st1 4) by rw[HC3.out]; simp[HH.out,hn])
   go_enter Tryz.func58,Fn
   go_wp2_with fail
   refine (HS.out.call 0 rfl HN.out).mono ?_
   rintro e w1 ⟨v,A',N,rfl,⟨rfl,rfl,rfl⟩,H1⟩
   have c2:=(InR.err 0 H1 rfl).1
   have HS1:=Lib.hid H1
   clear H1
   go_wp2_with fail
   refine (HS1.out.call 0 rfl (eE b st1 4)).mono ?_
   rintro e w2 ⟨v,A',N,rfl,⟨rfl,rfl,rfl⟩,H2⟩
   have HS2:=Lib.hid H2
   clear H2
   go_wp2_with fail
   go_ret
   exact⟨_,_,_,rfl,⟨by rw[HQ.out]; rfl,rfl,rfl⟩,by rw[HQ.out]; exact HS2.out⟩
  ·by_cases he:0<each
   ·have hd0:0≤(st1.rest.length:Int):=by omega
    by_cases hc:(st1.rest.length:Int) / each<n
    ·have HQ:=Lib.hid (show q=(0,cB st1 1) by rw[HC3.out]; simp[HH.out,hn,he,hc])
     go_enter Tryz.func58,Fn
     go_wp2_with fail
     refine (HS.out.call 0 rfl HN.out).mono ?_
     rintro e w1 ⟨v,A',N,rfl,⟨rfl,rfl,rfl⟩,H1⟩
     have c2:=(InR.err 0 H1 rfl).1
     have hb:=InR.len 0 H1 rfl
     have hq1:0≤(st1.rest.length:Int) / each:=Int.ediv_nonneg hd0 (by omega)
     have hq2:(st1.rest.length:Int) / each≤9223372036854775807:=Int.le_trans (Int.ediv_le_self each hd0) (by omega)
     have HS1:=Lib.hid H1
     clear H1
     go_wp2_with fail
     refine (HS1.out.call 0 rfl (jX b st1)).mono ?_
     rintro e w2 ⟨v,A',N,rfl,⟨rfl,rfl,rfl⟩,H2⟩
     have HS2:=Lib.hid H2
     clear H2
     go_wp2_with fail
     refine (HS2.out.call 0 rfl (eE b st1 1)).mono ?_
     rintro e w2 ⟨v,A',N,rfl,⟨rfl,rfl,rfl⟩,H3⟩
     have HS3:=Lib.hid H3
     clear H3
     go_wp2_with fail
     go_ret
     exact⟨_,_,_,rfl,⟨by rw[HQ.out]; rfl,rfl,rfl⟩,by rw[HQ.out]; exact HS3.out⟩
    ·have HQ:=Lib.hid (show q=(n,st1) by rw[HC3.out]; simp[HH.out,hn,hc])
     go_enter Tryz.func58,Fn
     go_wp2_with fail
     refine (HS.out.call 0 rfl HN.out).mono ?_
     rintro e w1 ⟨v,A',N,rfl,⟨rfl,rfl,rfl⟩,H1⟩
     have c2:=(InR.err 0 H1 rfl).1
     have hb:=InR.len 0 H1 rfl
     have hq1:0≤(st1.rest.length:Int) / each:=Int.ediv_nonneg hd0 (by omega)
     have hq2:(st1.rest.length:Int) / each≤9223372036854775807:=Int.le_trans (Int.ediv_le_self each hd0) (by omega)
     have HS1:=Lib.hid H1
     clear H1
     go_wp2_with fail
     refine (HS1.out.call 0 rfl (jX b st1)).mono ?_
     rintro e w2 ⟨v,A',N,rfl,⟨rfl,rfl,rfl⟩,H2⟩
     have HS2:=Lib.hid H2
     clear H2
     go_wp2_with fail
     go_ret
     exact⟨_,_,_,rfl,⟨by rw[HQ.out]; rfl,rfl,rfl⟩,by rw[HQ.out]; exact HS2.out⟩
   ·have HQ:=Lib.hid (show q=(n,st1) by rw[HC3.out]; simp[HH.out,hn,he])
    go_enter Tryz.func58,Fn
    go_wp2_with fail
    refine (HS.out.call 0 rfl HN.out).mono ?_
    rintro e w1 ⟨v,A',N,rfl,⟨rfl,rfl,rfl⟩,H1⟩
    have c2:=(InR.err 0 H1 rfl).1
    have HS1:=Lib.hid H1
    clear H1
    go_wp2_with fail
    go_ret
    exact⟨_,_,_,rfl,⟨by rw[HQ.out]; rfl,rfl,rfl⟩,by rw[HQ.out]; exact HS1.out⟩
 ·have H0:(st1.err != 0)=true:=bne_iff_ne.2 h0
  have HQ:=Lib.hid (show q=(0,st1) by rw[HC3.out]; simp[h0])
  clear h0
  go_enter Tryz.func58,Fn
  go_wp2_with fail
  refine (HS.out.call 0 rfl HN.out).mono ?_
  rintro e w1 ⟨v,A',N,rfl,⟨rfl,rfl,rfl⟩,H1⟩
  have c2:=(InR.err 0 H1 rfl).1
  have HS1:=Lib.hid H1
  clear H1
  go_wp2_with fail
  go_ret
  exact⟨_,_,_,rfl,⟨by rw[HQ.out]; rfl,rfl,rfl⟩,by rw[HQ.out]; exact HS1.out⟩
theorem mR (l:List UInt8) (j:Nat) (h:j<l.length):l.take (j+1)=l.take j ++ [l[j]]:=List.take_succ_eq_append_getElem h
theorem mi {l:List UInt8} {j:Nat} (h:j<l.length) (h0:0<j):l.take j ≠ []:=by
 intro he
 have:=congrArg List.length he
 rw[D3,Eo] at this
 omega
theorem tG (l:List UInt8) (h8:l.length≤8) (w:World) :
 Calls Tryz.prog 63 #[.string (bsOf l)] w fun e w'=>e= .returned (.int .i64 (cG l))∧w=w':=by
 have hsz:=bq l
 have hl8:(bsOf l).size≤8:=by omega
 have HG:=Lib.hid (mQ l)
 go_enter Tryz.func63,Tryz.ntmps63
 go_wp2_with fail
 go_loop [3,4] (fun n i=> ∃ j:Nat,j≤l.length∧i= .int .i64 j∧n= .int .i64 (cG (l.take j))) (fun _ i=>l.length - (intOf i).toNat)
 case atStart=>exact⟨0,by omega,rfl,by simp[cG]⟩
 case round =>
  obtain⟨j,hj,rfl,rfl⟩:=hrel
  by_cases hlt:j<l.length
  ·have hgj:=HG.out j (by omega)
   have hs:j<(bsOf l).size:=by omega
   have HT:=Lib.hid (mR l j hlt)
   have hc:=l[j].toNat_lt
   generalize l[j]=c at *
   by_cases hj0:j=0
   ·subst hj0
    have HE:=Lib.hid (show cG (l.take (0+1))=sgn c by rw[HT.out]; simp[cG])
    have hb0:cG (l.take 0)=0:=by simp[cG]
    clear HT
    rw[hb0]
    clear hb0
    by_cases h128:c.toNat<128
    all_goals
     go_wp2_with fail
     go_round
     case rel=>exact⟨0+1,by omega,by go_num,by rw[HE.out]; simp[sgn]; first | done | omega⟩
     case measure=>simp[intOf]; omega
   ·have hne:=mi hlt (by omega)
    have hr:=mP (l.take j) hne (by simp; omega)
    have HE:=Lib.hid (show cG (l.take (j+1))=cG (l.take j)*256+c.toNat by rw[HT.out,mr _ _ hne])
    clear HT
    have HN:=Lib.hid hne
    clear hne
    generalize cG (l.take j)=q at *
    have h0:((j:Int) == 0)=false:=by simp; omega
    have hr1:=hr.1
    have hr2:=hr.2
    go_wp2_with fail
    go_round
    case rel=>exact⟨j+1,by omega,by go_num,by rw[HE.out]⟩
    case measure=>simp[intOf]; omega
  ·have e1:j=l.length:=by omega
   have e2:=List.take_of_length_le (l:=l) (i:=l.length) (DJ _)
   have E1:=Lib.hid e1
   have E2:=Lib.hid e2
   clear e1 e2
   go_wp2_with fail
   go_ret
   exact⟨gk (by rw[E1.out,E2.out]),rfl⟩
def eZ (l:List UInt8):Array Value:=(aL l).toArray
theorem tH (l:List UInt8) (i:Nat):(eZ l)[i]? = l[i]?.map fun b=>Value.int .u8 b.toNat:=by simp[eZ,aL]
theorem tI (l:List UInt8) (i:Nat) (c:UInt8):(eZ l).setIfInBounds i (.int .u8 c.toNat)=eZ (l.set i c):=by
 simp[eZ,aL]
theorem az (n:Int) (k:Nat):(be n k).length=k:=by simp[be]
theorem vb (k:Nat) (hk:k≤140737488355328) (w:World):(Instr.makeSlice 64 (.int .i64 k) (.int .i64 k)).run Tryz.prog w =
 .ok (.slice (some ⟨w.heap.size,0,none⟩) k k) (w.alloc (.cells (eZ (List.replicate k 0)) 5)):=by
 obtain⟨i,hi,hzz⟩:=Option.map_eq_some_iff.1 kX
 simp only[Prod.mk.injEq] at hzz
 rw[run_make w 64 5 i (.int .u8 0) Tryz.underlying64 hi hzz.1 .i64 .i64 k k (by omega) (by omega) (by rw[hzz.2.2]; omega) (by omega)]
 have e:madeCells (Value.int .u8 0).cells ((k:Int).toNat*i.size)=eZ (List.replicate k 0):=by
  rw[hzz.2.1]
  simp[madeCells,eZ,aL,Value.cells]
  apply Array.ext
  ·simp
  ·intro j h1 h2
   simp[Nat.mod_one]
 rw[e]
 rfl
theorem Ac (n:Int) (k m:Nat) (h:m<k):(be n k).drop m=UInt8.ofNat ((n / (2 ^ (8*(k - 1 - m)):Int)) % 256).toNat::(be n k).drop (m+1):=by
 rw[List.drop_eq_getElem_cons (by simpa [be] using h)]
 simp[be]
theorem yy (n:Int) (a:Nat):n / 2 ^ (8*a) / 256=n / (2 ^ (8*(a+1)):Int):=by
 have hp:(0:Int)<2 ^ (8*a):=Int.pow_pos (by decide)
 rw[show 8*(a+1)=8*a+8 by omega,Int.pow_add,← Int.ediv_ediv_of_nonneg (Int.le_of_lt hp)]
 rfl
theorem Ad (q:Int):(q.tmod 256=q % 256∧0≤q.tmod 256)∨(q.tmod 256=q % 256 - 256∧q.tmod 256<0):=by
 rw[Int.tmod_eq_emod]
 split
 ·left; omega
 ·rename_i h
  right
  have: ¬ (256 ∣ q):=fun hd=>h (.inr hd)
  omega
theorem Ae (q:Int):(q - q % 256).tdiv 256=q / 256:=by
 have e:q - q % 256=q / 256*256:=by omega
 rw[e,Int.mul_tdiv_cancel _ (by decide)]
theorem Af (n:Int) (a:Nat) (h0: -9223372036854775808≤n) (h1:n≤9223372036854775807): -9223372036854775808≤n / 2 ^ a∧n / 2 ^ a≤9223372036854775807:=by
 have hp:(0:Int)<2 ^ a:=Int.pow_pos (by decide)
 generalize (2 ^ a:Int)=p at *
 constructor
 ·rcases Int.lt_or_le n 0 with h | h
  ·have:n≤n / p:=by
    rw[Int.le_ediv_iff_mul_le hp]
    have:n*p≤n*1:=Int.mul_le_mul_of_nonpos_left (by omega) (by omega)
    omega
   omega
  ·have:=Int.ediv_nonneg h (Int.le_of_lt hp)
   omega
 ·rcases Int.lt_or_le n 0 with h | h
  ·have:=Int.ediv_neg_of_neg_of_pos h hp
   omega
  ·have:=Int.ediv_le_self p h
   omega
theorem oM {w wr:World} {g k m:Nat} {n q d:Int} (hm:m+1≤k) (hs:St (fun _=>False) w [aC g 5 (eZ (List.replicate (m+1) 0++(be n k).drop (m+1)))] wr)
 (hd:(be n k).drop m=UInt8.ofNat ((n / (2 ^ (8*(k - 1 - m)):Int)) % 256).toNat::(be n k).drop (m+1)) (hq:q=n / 2 ^ (8*(k - 1 - m))) (he:d=q % 256) :
 St (fun _=>False) w [aC g 5 (eZ (List.replicate m 0++(be n k).drop m))] (wr.setCell ⟨g,m,none⟩ (.int .u8 d)):=by
 have h:=hs.set 0 rfl m (.int .u8 d)
 have e:(.int .u8 d:Value)= .int .u8 (UInt8.ofNat (q % 256).toNat).toNat:=by
  congr 1
  simp[UInt8.toNat_ofNat']
  omega
 have e2:(List.replicate (m+1) (0:UInt8)++(be n k).drop (m+1)).set m (UInt8.ofNat (q % 256).toNat)=List.replicate m 0++(be n k).drop m:=by
  rw[hd,← hq,List.replicate_succ',Df,List.set_append_right _ _ (by simp)]
  simp
 rw[e,tI,e2,← e] at h
 exact h
theorem ms (n:Int) (k:Nat) (h0: -9223372036854775808≤n) (h1:n≤9223372036854775807) (hk:k≤8) :
 gi Tryz.prog 42 #[.int .i64 n,.int .i64 k] (fun v N=>v= .string (bsOf (be n k))∧N = []):=by
 intro w
 have hmk:=vb k (by omega)
 go_enter Tryz.func42,Tryz.ntmps42
 go_wp2_with fail
 have HW:=Lib.hid ((BS w).alloc (eZ (List.replicate k 0)) 5)
 clear hmk
 go_loopw [0,6] (fun q i wr=> ∃ j:Nat,j≤k∧i= .int .i64 ((j:Int) - 1)∧q= .int .i64 (n / 2 ^ (8*(k - j)))∧St (fun _=>False) w [aC w.heap.size 5 (eZ (List.replicate j 0++(be n k).drop j))] wr) (fun _ i _=>(intOf i+1).toNat)
 case atStart=>exact⟨k,by omega,rfl,by simp,by
  have e:(be n k).drop k = []:=List.drop_of_length_le (by simp[be])
  rw[e,DS]
  exact HW.out⟩
 case round =>
  obtain⟨j,hj,rfl,rfl,hst⟩:=hrel
  have hr:=Af n (8*(k - j)) h0 h1
  cases j with
  | zero =>
   have hs:=hst.blk 0 rfl
   have HS:=Lib.hid hst
   clear hst hr
   have hrow:wr.ownsRow 0 5 1 (.slice (some ⟨w.heap.size,0,none⟩) k k) k (aL (be n k)):=by
    refine⟨by simp[aL,be],.inr ⟨w.heap.size,k,_,rfl,DV _,hs,DJ _,by simp[maxLen]; omega,?_,?_⟩⟩
    ·simp[eZ,aL,be]
    ·simp only[eZ,List.replicate_zero,Ds,List.drop_zero,Nat.mul_one]
     exact List.take_of_length_le (by simp[aL,be])
   have hc:=mp (P:=Tryz.prog) wr (src:=64) (dst:=9) Tryz.underlying64 Tryz.underlying5 Tryz.underlying9 hrow
   have HR:=Lib.hid hrow
   clear hrow hs
   go_wp2_with fail
   go_ret
   exact⟨_,_,rfl,⟨rfl,rfl⟩,HS.out.drop_⟩
  | succ m =>
   rw[show ((m+1:Nat):Int) - 1=m by omega]
   have hs:=hst.blk 0 rfl
   have hcell:wr.cell? ⟨w.heap.size,m,none⟩=some (.int .u8 0):=by
    rw[aN hs m,tH,List.getElem?_append_left (by simp)]
    simp
   have hfree:wr.frozen? ⟨w.heap.size,m,none⟩=false:=ck hs m
   have HN:=Lib.hid (yy n (k - (m+1)))
   have HQ:=Lib.hid (show n / 2 ^ (8*(k - (m+1)))=n / 2 ^ (8*(k - 1 - m)) by rw[show k - (m+1)=k - 1 - m by omega])
   have HS:=Lib.hid hst
   clear hst hs
   have hr1:=hr.1
   have hr2:=hr.2
   clear hr
   have HD:=Lib.hid (Ac n k m (by omega))
   generalize hq:n / 2 ^ (8*(k - (m+1)))=q at *
   clear hq
   have hd:=Ae q
   rcases Ad q with⟨hm,hneg⟩ | ⟨hm,hneg⟩
   ·have hb1:q.tmod 256<256:=by omega
    have hb2: -9223372036854775808≤q - q.tmod 256:=by omega
    have hb3:q - q.tmod 256≤9223372036854775807:=by omega
    have HM:=Lib.hid hm
    have HDV:=Lib.hid hd
    clear hm hd
    go_wp2_with fail
    go_roundw
    case rel =>
     refine⟨m,by omega,rfl,?_,oM hj HS.out HD.out HQ.out HM.out⟩
     rw[HM.out,HDV.out,HN.out,show k - (m+1)+1=k - m by omega]
    case measure=>simp[intOf]
   ·have hb1: -256≤q.tmod 256:=by omega
    have hb2: -9223372036854775808≤q - (q.tmod 256+256):=by omega
    have hb3:q - (q.tmod 256+256)≤9223372036854775807:=by omega
    have HM:=Lib.hid (show q.tmod 256+256=q % 256 by omega)
    have HDV:=Lib.hid hd
    clear hm hd
    go_wp2_with fail
    go_roundw
    case rel =>
     refine⟨m,by omega,rfl,?_,oM hj HS.out HD.out HQ.out HM.out⟩
     rw[HM.out,HDV.out,HN.out,show k - (m+1)+1=k - m by omega]
    case measure=>simp[intOf]
theorem wh (n:Int) (k j:Nat) (h:j<k):(be n k).take (j+1)=(be n k).take j ++ [UInt8.ofNat ((n / (2 ^ (8*(k - 1 - j)):Int)) % 256).toNat]:=by
 rw[List.take_succ_eq_append_getElem (by simpa [be] using h)]
 simp[be]
theorem tJ (n:Int) (k:Nat) (h1:1≤k) (h8:k≤8):bj n k=true ↔ -(2 ^ (8*k - 1):Int)≤n∧n<(2 ^ (8*k - 1):Int):=by
 simp[bj]
 generalize (2 ^ (8*k - 1):Int)=z
 omega
theorem tK (q:Int):((UInt8.ofNat (q % 256).toNat).toNat:Int)=q % 256:=by
 simp[UInt8.toNat_ofNat']
 omega
theorem xv (n:Int) (k:Nat) (h8:k≤8) (hf:bj n k=true): ∀ j:Nat,j+1≤k→cG ((be n k).take (j+1))=n / 2 ^ (8*(k - 1 - j)):=by
 intro j
 induction j with
 | zero =>
  intro h
  have hb:=(tJ n k (by omega) h8).1 hf
  rw[wh n k 0 (by omega)]
  have e1:(2 ^ (8*k - 1):Int)=128*2 ^ (8*(k - 1 - 0)):=by
   rw[show 8*k - 1=7+8*(k - 1 - 0) by omega,Int.pow_add]
   rfl
  rw[e1] at hb
  have hp:(0:Int)<2 ^ (8*(k - 1 - 0)):=Int.pow_pos (by decide)
  have hl: -128≤n / 2 ^ (8*(k - 1 - 0)):=by
   rw[Int.le_ediv_iff_mul_le hp]; omega
  have hu:n / 2 ^ (8*(k - 1 - 0))<128:=by
   rw[Int.ediv_lt_iff_lt_mul hp]; omega
  generalize n / 2 ^ (8*(k - 1 - 0))=q at *
  have hv:=tK q
  generalize (UInt8.ofNat (q % 256).toNat)=c at *
  simp[cG,sgn]
  split <;> omega
 | succ j ih =>
  intro h
  have h2:=ih (by omega)
  rw[wh n k (j+1) (by omega),mr _ _ (mi (by simp[be]; omega) (by omega)),h2,tK]
  have h3:=yy n (k - 1 - (j+1))
  rw[show k - 1 - (j+1)+1=k - 1 - j by omega] at h3
  omega
theorem tL (n:Int) (k:Nat) (h1:1≤k) (h8:k≤8) (hf:bj n k=true):cG (be n k)=n:=by
 have h:=xv n k h8 hf (k - 1) (by omega)
 rw[show k - 1+1=k by omega,List.take_of_length_le (by simp[be])] at h
 rw[h,show k - 1 - (k - 1)=0 by omega]
 simp
theorem wi (n:Int) (k:Nat) (h1:1≤k) (h8:k≤8):(cG (be n k)=n)↔bj n k=true:=by
 constructor
 ·intro h
  rw[tJ n k h1 h8,← h]
  have:=lc (be n k) (by intro he; have:=congrArg List.length he; simp[be] at this; omega)
  rw[az] at this
  rw[h] at this ⊢
  exact this
 ·exact tL n k h1 h8
theorem xw (n size:Int) (h0: -9223372036854775808≤n) (h1:n≤9223372036854775807) :
 gi Tryz.prog 116 #[.int .i64 n,.int .i64 size] (fun v N=>v= .bool (bj n size)∧N = []):=by
 intro w
 have HS:=Lib.hid (BS w)
 by_cases hs:1≤size∧size≤8
 ·obtain⟨k,rfl⟩: ∃ k:Nat,size=k:=⟨size.toNat,by omega⟩
  have HI:=Lib.hid (wi n k (by omega) (by omega))
  have hlen:=az n k
  go_enter Tryz.func116,Tryz.ntmps116
  go_wp2_with fail
  refine (HS.out.call0 (ms n k h0 h1 (by omega))).mono ?_
  rintro e w1 ⟨v,N,rfl,⟨rfl,rfl⟩,H1⟩
  have HS1:=Lib.hid H1
  clear H1
  go_wp2_with fail
  refine (tG (be n k) (by rw[hlen]; omega) w1).mono ?_
  rintro e w2 ⟨rfl,rfl⟩
  go_wp2_with fail
  go_ret
  exact⟨_,_,rfl,⟨congrArg Value.bool (show (cG (be n k) == n)=bj n k by rw[Bool.eq_iff_iff,beq_iff_eq]; exact HI.out),rfl⟩,HS1.out⟩
 ·have HI:=Lib.hid (show bj n size=false by simp[bj]; omega)
  by_cases h2:size<1
  all_goals
   go_enter Tryz.func116,Tryz.ntmps116
   go_wp2_with fail
   go_ret
   exact⟨_,_,rfl,⟨by rw[HI.out]; rfl,rfl⟩,HS.out⟩
def Exit.jumps (J:Nat→Act→World→Prop) (Q:Exit→Act→World→Prop):Exit→Act→World→Prop
 | .goto l,a,w=>J l a w
 | e,a,w=>Q e a w
section
variable {J:Nat→Act→World→Prop} {Q:Exit→Act→World→Prop} {a:Act} {w:World}
end
section
variable {P:Program} {a:Act} {w:World} {Q:Exit→Act→World→Prop}
theorem pd {c:Code} (J:Nat→Act→World→Prop) (μ:Nat→Act→World→Nat)
 (pass: ∀ l a w,J l a w→ ∃ rest,findLabel c l=some (Code.skip.seq rest)∧rest.wp P (Exit.jumps (fun l' a' w'=>J l' a' w'∧μ l' a' w'<μ l a w) Q) a w)
 (first:(∀ l rest a w,findLabel c l=some (Code.skip.seq rest)→J l a w→rest.wp P (Exit.jumps J Q) a w)→c.wp P (Exit.jumps J Q) a w):(Code.scope c).wp P Q a w:=by
 intro b k cs
 have hg: ∀ l rest,findLabel c l=some rest→gotoIn l (.inScope c::k)=some (.code rest :: .inScope c::k):=fun l rest hf=>by simp[gotoIn,hf]
 have key: ∀ n l rest a w,findLabel c l=some (Code.skip.seq rest)→μ l a w=n→J l a w→ ∃ e a' w',Q e a' w'∧Arrives P (lone (b.at a (.code (Code.skip.seq rest) :: .inScope c::k)) cs w) b k cs e a' w':=by
  intro n
  induction n using Nat.strongRecOn with
  | _ n ih =>
   intro l rest a w hf hn hJ
   obtain⟨rest',hf',hp⟩:=pass l a w hJ
   rw[hf] at hf'
   injection hf' with hf'
   injection hf' with _ hf'
   subst hf'
   obtain⟨e,a₁,w₁,hq,harr⟩:=wp_seq (wp_skip (Q:=Exit.then _ _) hp) b (.inScope c::k) cs
   cases e with
   | normal=>exact⟨.normal,a₁,w₁,hq,Steps.trans harr (.one step_inScope)⟩
   | exit id=>exact⟨.exit id,a₁,w₁,hq,fun k' hk=>harr k' (by simp[exitTo,hk])⟩
   | goto l' =>
    obtain⟨hJ',hlt⟩:=hq
    obtain⟨rest₂,hf₂,_⟩:=pass l' a₁ w₁ hJ'
    obtain⟨e₂,a₂,w₂,hq₂,harr₂⟩:=ih _ (by omega) l' rest₂ a₁ w₁ hf₂ rfl hJ'
    exact⟨e₂,a₂,w₂,hq₂,.of_steps (harr _ (hg _ _ hf₂)) harr₂⟩
   | ret=>exact⟨_,a₁,w₁,hq,harr⟩
   | panic ch=>exact⟨_,a₁,w₁,hq,harr⟩
   | outgrown=>exact⟨_,a₁,w₁,hq,harr⟩
 obtain⟨e,a₁,w₁,hq,harr⟩:=first (fun l rest a w hf hJ=>by
  obtain⟨rest',hf',hp⟩:=pass l a w hJ
  rw[hf] at hf'
  injection hf' with hf'
  injection hf' with _ hf'
  subst hf'
  refine wp_mono hp ?_
  intro e a' w' h
  cases e <;> first | exact h | exact h.1) b (.inScope c::k) cs
 cases e with
 | normal=>exact⟨.normal,a₁,w₁,hq,.head step_scope (Steps.trans harr (.one step_inScope))⟩
 | exit id=>exact⟨.exit id,a₁,w₁,hq,fun k' hk=> .head step_scope (harr k' (by simp[exitTo,hk]))⟩
 | goto l' =>
  obtain⟨rest₂,hf₂,_⟩:=pass l' a₁ w₁ hq
  obtain⟨e₂,a₂,w₂,hq₂,harr₂⟩:=key _ l' rest₂ a₁ w₁ hf₂ rfl hq
  exact⟨e₂,a₂,w₂,hq₂,.of_steps (.head step_scope (harr _ (hg _ _ hf₂))) harr₂⟩
 | ret=>exact⟨_,a₁,w₁,hq,.of_steps (.one step_scope) harr⟩
 | panic ch=>exact⟨_,a₁,w₁,hq,.of_steps (.one step_scope) harr⟩
 | outgrown=>exact⟨_,a₁,w₁,hq,.of_steps (.one step_scope) harr⟩
end
def bb (n:Nat):List UInt8:=if n<128 then [UInt8.ofNat n] else UInt8.ofNat (n % 128+128)::bb (n / 128)
termination_by n
decreasing_by omega
def aI (n:Int):Nat:=if n<0 then (-(n+1)).toNat*2+1 else n.toNat*2
def jY (n:Nat):Int:=if n % 2=1 then -((n / 2:Nat):Int) - 1 else ((n / 2:Nat):Int)
theorem tM (k:Nat): ∀ n:Nat,n<128 ^ (k+1)→(bb n).length≤k+1:=by
 induction k with
 | zero=>intro n h; rw[bb,if_pos (by simpa using h)]; simp
 | succ k ih =>
  intro n h
  rw[bb]
  split
  ·simp
  ·have:=ih (n / 128) (by rw[Nat.div_lt_iff_lt_mul (by decide)]; rwa [Nat.pow_succ] at h)
   simp; omega
theorem ld (n:Nat):1≤(bb n).length:=by rw[bb]; split <;> simp
theorem dT (n:Nat) (h:n<18446744073709551616):(bb n).length≤10:=tM 9 n (by omega)
theorem dh (n:Int) (h0: -9223372036854775808≤n) (h1:n≤9223372036854775807):aI n<18446744073709551616:=by unfold aI; split <;> omega
theorem vc (n:Int):jY (aI n)=n:=by unfold jY aI; split <;> split <;> omega
theorem vd (n:Nat):aI (jY n)=n:=by unfold jY aI; split <;> split <;> omega
theorem Ag (n:Int) (h0: -9223372036854775808≤n) (h1:n≤9223372036854775807) :
 bits .xor .u64 (IntKind.u64.wrap (wrap64 (n*2))) (IntKind.u64.wrap (n / 9223372036854775808))=(aI n:Int):=by
 have e1:IntKind.u64.wrap (wrap64 (n*2))=(n*2) % 18446744073709551616:=by rw[IntKind.wrap_u64]; unfold wrap64; omega
 rw[e1]
 show IntKind.u64.wrap ((BitVec.ofInt 64 _ ^^^ BitVec.ofInt 64 _).toNat:Int)= _
 rcases Int.lt_or_le n 0 with h | h
 ·have e2:IntKind.u64.wrap (n / 9223372036854775808)=18446744073709551615:=by rw[IntKind.wrap_u64]; omega
  rw[e2,show BitVec.ofInt 64 18446744073709551615=BitVec.allOnes 64 by decide,BitVec.xor_allOnes,BitVec.toNat_not,BitVec.toNat_ofInt,IntKind.wrap_u64]
  simp only[aI,if_pos h]
  omega
 ·have e2:IntKind.u64.wrap (n / 9223372036854775808)=0:=by rw[IntKind.wrap_u64]; omega
  rw[e2,show BitVec.ofInt 64 0=0#64 by decide,BitVec.xor_zero,BitVec.toNat_ofInt,IntKind.wrap_u64]
  simp only[aI,if_neg (show ¬ n<0 by omega)]
  omega
theorem wj (n m:Nat) (hn:n<18446744073709551616) (hm:m<18446744073709551616):bits .and .u64 n m=((n &&& m:Nat):Int):=by
 show IntKind.u64.wrap ((BitVec.ofInt 64 _ &&& BitVec.ofInt 64 _).toNat:Int)= _
 rw[BitVec.toNat_and,BitVec.toNat_ofInt,BitVec.toNat_ofInt,IntKind.wrap_u64]
 have e1:((n:Int) % (2 ^ 64:Nat)).toNat=n:=by omega
 have e2:((m:Int) % (2 ^ 64:Nat)).toNat=m:=by omega
 rw[e1,e2]
 have:n &&& m≤m:=Nat.and_le_right
 omega
theorem xx (n:Nat) (hn:n<18446744073709551616):bits .and .u64 n 1=((n % 2:Nat):Int):=by
 have h:=wj n 1 hn (by decide)
 rw[Nat.and_one_is_mod] at h
 exact h
theorem Ah (n:Nat) (hn:n<18446744073709551616):bits .xor .i64 ((n:Int) / 2) (wrap64 (-wrap64 (bits .and .u64 n 1)))=jY n:=by
 rw[xx n hn]
 show IntKind.i64.wrap ((BitVec.ofInt 64 _ ^^^ BitVec.ofInt 64 _).toNat:Int)= _
 rcases Nat.mod_two_eq_zero_or_one n with h | h
 ·rw[h]
  have e2:wrap64 (-wrap64 ((0:Nat):Int))=0:=by unfold wrap64; omega
  rw[e2,show BitVec.ofInt 64 0=0#64 by decide,BitVec.xor_zero,BitVec.toNat_ofInt,IntKind.wrap_i64]
  simp only[jY,h]
  simp
  omega
 ·rw[h]
  have e2:wrap64 (-wrap64 ((1:Nat):Int))= -1:=by unfold wrap64; omega
  rw[e2,show BitVec.ofInt 64 (-1)=BitVec.allOnes 64 by decide,BitVec.xor_allOnes,BitVec.toNat_not,BitVec.toNat_ofInt,IntKind.wrap_i64]
  simp only[jY,h]
  simp
  omega
theorem Ai: ∀ x:Fin 256,bits .or .u8 ((x.val:Nat):Int) 128=((x.val % 128+128:Nat):Int):=by decide
theorem or_128 (x:Nat) (h:x<256):bits .or .u8 (x:Int) 128=((x % 128+128:Nat):Int):=Ai ⟨x,h⟩
theorem rF (n:Int) (h0: -9223372036854775808≤n) (h1:n≤9223372036854775807) (w:World) :
 Calls Tryz.prog 176 #[.int .i64 n] w fun e w'=>e= .returned (.int .u64 (aI n))∧w=w':=by
 have H:=Lib.hid (Ag n h0 h1)
 go_enter Tryz.func176,Tryz.ntmps176
 go_wp2_with fail
 go_ret
 exact⟨gk H.out,rfl⟩
theorem rG (n:Nat) (hn:n<18446744073709551616) (w:World) :
 Calls Tryz.prog 177 #[.int .u64 n] w fun e w'=>e= .returned (.int .i64 (jY n))∧w=w':=by
 have H:=Lib.hid (Ah n hn)
 go_enter Tryz.func177,Tryz.ntmps177
 go_wp2_with fail
 go_ret
 exact⟨gk H.out,rfl⟩
theorem rH (b:Nat) (st:List UInt8×Int) (n:Nat) (hn:n<18446744073709551616) (hl:st.1.length+10≤140737488355328) :
 eR Tryz.prog 175 #[.pointer (some ⟨b,0,none⟩),.int .u64 n] (ba b st) (fun v A' N=>v= .tuple #[]∧A'=ba b (fb st (bb n))∧N = []):=by
 intro F w hA
 have HA:=Lib.hid (Bo F w (Sep.one hA))
 clear hA
 have HT:=Lib.hid (dT n hn)
 go_enter Tryz.func175,Tryz.ntmps175
 go_wp2_with fail
 go_loopw [1] (fun i wr=> ∃ (m:Nat) (p:List UInt8),m≤n∧p++bb m=bb n∧i= .int .u64 m∧St F w [ba b (fb st p)] wr) (fun i _=>(intOf i).toNat)
 case atStart=>exact⟨n,[],DJ _,rfl,rfl,by rw[tF]; exact HA.out⟩
 case round =>
  obtain⟨m,p,hm,hp,rfl,hst⟩:=hrel
  have hlen:(fb st p).1.length+1≤140737488355328:=by
   have h1:=mO st p
   have h2:=HT.out
   have h3:=ld m
   rw[← hp,Db] at h2
   omega
  have HS:=Lib.hid hst
  clear hst
  by_cases hlt:128≤m
  ·have ho:=or_128 (m % 256) (by omega)
   have e1:(m:Int) % 256=((m % 256:Nat):Int):=by omega
   rw[← e1] at ho
   have e2:m % 256 % 128=m % 128:=by omega
   rw[e2] at ho
   have HO:=Lib.hid ho
   have HP:=Lib.hid (show p ++ [UInt8.ofNat (m % 128+128)]++bb (m / 128)=bb n by rw[← hp,bb.eq_1 m,if_neg (by omega)]; simp)
   clear hp ho e1 e2
   go_wp2_with fail
   rw[HO.out]
   refine (HS.out.call 0 rfl (kp b _ ((m % 128+128:Nat):Int) (by omega) (by omega) hlen)).mono ?_
   rintro e w1 ⟨v,A',N,rfl,⟨rfl,rfl,rfl⟩,H1⟩
   rw[nJ,D4] at H1
   have HS1:=Lib.hid H1
   clear H1
   go_wp2_with fail
   go_roundw
   case rel=>exact⟨m / 128,_,by omega,HP.out,by go_num,HS1.out⟩
   case measure=>simp[intOf]; omega
  ·have e1:(m:Int) % 256=((m:Nat):Int):=by omega
   have HO:=Lib.hid e1
   have HP:=Lib.hid (show p ++ [UInt8.ofNat m]=bb n by rw[← hp,bb.eq_1 m,if_pos (by omega)])
   clear hp e1
   go_wp2_with fail
   refine (HS.out.call 0 rfl (kp b _ (m:Int) (by omega) (by omega) hlen)).mono ?_
   rintro e w1 ⟨v,A',N,rfl,⟨rfl,rfl,rfl⟩,H1⟩
   rw[nJ,D4,HP.out] at H1
   have HS1:=Lib.hid H1
   clear H1
   go_wp2_with fail
   go_end0
   exact⟨_,_,_,rfl,⟨rfl,rfl,rfl⟩,HS1.out⟩
theorem rh (b:Nat) (st:List UInt8×Int) (n:Int) (h0: -9223372036854775808≤n) (h1:n≤9223372036854775807) (hl:st.1.length+10≤140737488355328) :
 eR Tryz.prog 159 #[.pointer (some ⟨b,0,none⟩),.int .i64 n] (ba b st) (fun v A' N=>v= .tuple #[]∧A'=ba b (fb st (bb (aI n)))∧N = []):=by
 intro F w hA
 have HA:=Lib.hid (Bo F w (Sep.one hA))
 clear hA
 go_enter Tryz.func159,Tryz.ntmps159
 go_wp2_with fail
 refine (rF n h0 h1 w).mono ?_
 rintro e w' ⟨rfl,rfl⟩
 go_wp2_with fail
 refine (HA.out.call 0 rfl (rH b _ (aI n) (dh n h0 h1) hl)).mono ?_
 rintro e w1 ⟨v,A',N,rfl,⟨rfl,rfl,rfl⟩,H1⟩
 have HS1:=Lib.hid H1
 clear H1
 go_wp2_with fail
 go_end0
 exact⟨_,_,_,rfl,⟨rfl,rfl,rfl⟩,HS1.out⟩
def fz (st:List UInt8×Int) (n:Int):List UInt8×Int:=if -2147483648≤n∧n≤2147483647 then fb st (bb (aI n)) else g7 st 11
theorem gl (n:Int):bj n 4=decide (-2147483648≤n∧n≤2147483647):=by
 have h1:(2 ^ (8*(4:Int).toNat - 1):Int)=2147483648:=by decide
 unfold bj
 rw[h1,Bool.eq_iff_iff]
 simp
theorem mS (b:Nat) (st:List UInt8×Int) (n:Int) (h0: -9223372036854775808≤n) (h1:n≤9223372036854775807) (hl:st.1.length+10≤140737488355328) :
 eR Tryz.prog 160 #[.pointer (some ⟨b,0,none⟩),.int .i64 n] (ba b st) (fun v A' N=>v= .tuple #[]∧A'=ba b (fz st n)∧N = []):=by
 intro F w hA
 have HA:=Lib.hid (Bo F w (Sep.one hA))
 clear hA
 by_cases hf: -2147483648≤n∧n≤2147483647
 ·have HF:=Lib.hid (show bj n 4=true by rw[gl]; simp[hf])
  have HE:=Lib.hid (show fz st n=fb st (bb (aI n)) by simp[fz,hf])
  go_enter Tryz.func160,Tryz.ntmps160
  go_wp2_with fail
  refine (kZ n 4 w h0 h1).mono ?_
  rintro e w' ⟨rfl,rfl⟩
  rw[HF.out]
  go_wp2_with fail
  refine (rF n h0 h1 w).mono ?_
  rintro e w' ⟨rfl,rfl⟩
  go_wp2_with fail
  refine (HA.out.call 0 rfl (rH b _ (aI n) (dh n h0 h1) hl)).mono ?_
  rintro e w1 ⟨v,A',N,rfl,⟨rfl,rfl,rfl⟩,H1⟩
  have HS1:=Lib.hid H1
  clear H1
  go_wp2_with fail
  go_end0
  exact⟨_,_,_,rfl,⟨rfl,by rw[HE.out],rfl⟩,HS1.out⟩
 ·have HF:=Lib.hid (show bj n 4=false by rw[gl]; simp; omega)
  have HE:=Lib.hid (show fz st n=g7 st 11 by simp[fz,hf])
  clear hf
  go_enter Tryz.func160,Tryz.ntmps160
  go_wp2_with fail
  refine (kZ n 4 w h0 h1).mono ?_
  rintro e w' ⟨rfl,rfl⟩
  rw[HF.out]
  go_wp2_with fail
  refine (HA.out.call 0 rfl (lO b st 11)).mono ?_
  rintro e w1 ⟨v,A',N,rfl,⟨rfl,rfl,rfl⟩,H1⟩
  have HS1:=Lib.hid H1
  clear H1
  go_wp2_with fail
  go_end0
  exact⟨_,_,_,rfl,⟨rfl,by rw[HE.out],rfl⟩,HS1.out⟩
def vgo (bits:Int):List UInt8→Nat→Nat→Nat→Nat×I
 | [],pos,acc,i=>(0,⟨[],pos,1⟩)
 | c::l,pos,acc,i =>
  if bits - 7*i≤0∨(bits - 7*i<7∧c.toNat % 128 / 2 ^ (bits - 7*i).toNat≠0) then (0,⟨l,pos+1,3⟩)
  else if 128≤c.toNat then vgo bits l (pos+1) (acc+c.toNat % 128*2 ^ (7*i)) (i+1)
  else if c.toNat=0∧0<i then (0,⟨l,pos+1,3⟩)
  else (acc+c.toNat % 128*2 ^ (7*i),⟨l,pos+1,0⟩)
def dn (bits:Int) (st:I):Nat×I:=if st.err≠0 then (0,st) else vgo bits st.rest st.pos 0 0
theorem xy (c:UInt8) (l:List UInt8) (pos:Nat):bK ⟨c::l,pos,0⟩ 1=([c],⟨l,pos+1,0⟩):=by
 unfold bK
 rw[if_neg (by simp),if_neg (by omega),if_neg (by simp only[Dh]; omega)]
 simp
theorem ve (pos:Nat):bK ⟨[],pos,0⟩ 1=([],⟨[],pos,1⟩):=by
 unfold bK
 rw[if_neg (by simp),if_neg (by omega),if_pos (by simp)]
 done
theorem oN (d:Nat) (hd:d<256):bits .and .u64 d 127=((d % 128:Nat):Int):=by
 have h:=wj d 127 (by omega) (by decide)
 rw[Nat.and_two_pow_sub_one_eq_mod d 7] at h
 exact h
theorem rI (k:Nat) {d:Nat} (hd:d<256):(bits .and .u64 d 127 / 2 ^ k != 0)=decide (d % 128 / 2 ^ k≠0):=by
 rw[oN d hd,show ((d % 128:Nat):Int) / 2 ^ k=((d % 128 / 2 ^ k:Nat):Int) by rw[Int.natCast_ediv,Int.natCast_pow]; rfl]
 generalize d % 128 / 2 ^ k=z
 rw[Bool.eq_iff_iff]
 simp
theorem sG: ∀ d:Fin 256,(bits .and .u64 ((d.val:Nat):Int) 128 != 0)=decide (128≤d.val):=by decide
theorem jv (d:Nat) (hd:d<256):(bits .and .u64 d 128 != 0)=decide (128≤d):=sG ⟨d,hd⟩
theorem mT (bs:Int) (hb:bs=32∨bs=64) (acc x i:Nat) (hacc:acc<2 ^ (7*i)) (hl:0<bs - 7*i) (hx:x<128) (hd: ¬ (bs - 7*i<7∧x / 2 ^ (bs - 7*i).toNat≠0)) :
 acc+x*2 ^ (7*i)<2 ^ (7*(i+1))∧acc+x*2 ^ (7*i)<2 ^ bs.toNat:=by
 have e1:2 ^ (7*(i+1))=128*2 ^ (7*i):=by rw[show 7*(i+1)=7+7*i by omega,Nat.pow_add]
 have e2:2 ^ bs.toNat=2 ^ (bs - 7*i).toNat*2 ^ (7*i):=by rw[← Nat.pow_add]; congr 1; omega
 have h1:x<2 ^ (bs - 7*i).toNat:=by
  by_cases h7:bs - 7*i<7
  ·have h2:x / 2 ^ (bs - 7*i).toNat=0:=by
    rcases Nat.eq_zero_or_pos (x / 2 ^ (bs - 7*i).toNat) with h | h
    ·exact h
    ·exact absurd ⟨h7,by omega⟩ hd
   exact (Nat.div_eq_zero_iff.1 h2).resolve_left (by have:=Nat.two_pow_pos (bs - 7*i).toNat; omega)
  ·have:2 ^ 7≤2 ^ (bs - 7*i).toNat:=Nat.pow_le_pow_right (by decide) (by omega)
   omega
 have h3:(x+1)*2 ^ (7*i)≤2 ^ (bs - 7*i).toNat*2 ^ (7*i):=Nat.mul_le_mul_right _ h1
 have h4:(x+1)*2 ^ (7*i)≤128*2 ^ (7*i):=Nat.mul_le_mul_right _ hx
 rw[Nat.add_mul] at h3 h4
 rw[e1,e2]
 omega
theorem wk (bs:Int) (hb:bs=32∨bs=64) (acc d i:Nat) (hacc:acc<2 ^ (7*i)) (hdd:d<256) (hl:0<bs - 7*i) (hd: ¬ (bs - 7*i<7∧d % 128 / 2 ^ (bs - 7*i).toNat≠0)) :
 bits .or .u64 acc (IntKind.u64.wrap (bits .and .u64 d 127*2 ^ (7*i)))=((acc+d % 128*2 ^ (7*i):Nat):Int):=by
 obtain⟨_,h2⟩:=mT bs hb acc (d % 128) i hacc hl (by omega) hd
 have h3:2 ^ bs.toNat≤18446744073709551616:=by rcases hb with rfl | rfl <;> decide
 have hlt:acc+d % 128*2 ^ (7*i)<18446744073709551616:=by omega
 rw[oN d hdd]
 have e1:((d % 128:Nat):Int)*2 ^ (7*i)=((d % 128*2 ^ (7*i):Nat):Int):=by rw[Int.natCast_mul,Int.natCast_pow]; rfl
 have e0:=Nat.two_pow_add_eq_or_of_lt hacc (d % 128)
 rw[Nat.mul_comm] at e0
 rw[e1]
 generalize d % 128*2 ^ (7*i)=y at *
 have e2:IntKind.u64.wrap (y:Int)=y:=by rw[IntKind.wrap_u64]; omega
 rw[e2]
 show IntKind.u64.wrap ((BitVec.ofInt 64 _ ||| BitVec.ofInt 64 _).toNat:Int)= _
 rw[BitVec.toNat_or,BitVec.toNat_ofInt,BitVec.toNat_ofInt]
 have e3:((acc:Int) % (2 ^ 64:Nat)).toNat=acc:=by omega
 have e4:((y:Int) % (2 ^ 64:Nat)).toNat=y:=by omega
 rw[e3,e4,Nat.or_comm,← e0,IntKind.wrap_u64]
 omega
attribute [local go_sem] dA bq
theorem yz (b:Nat) (st:I) (bs:Int) (h0:st.err≠0) :
 eR Tryz.prog 178 #[.pointer (some ⟨b,0,none⟩),.int .i64 bs] (InR b st) (fun v A' N=>v= .int .u64 0∧A'=InR b st∧N = []):=by
 intro F w hA
 have HA:=Lib.hid (Bo F w (Sep.one hA))
 clear hA
 have HT:=Lib.hid (show bK st 1=([],st) by simp[bK,h0])
 go_enter Tryz.func178,Tryz.ntmps178
 go_wp2_with fail
 go_step3
 go_wp2_with fail
 go_step3
 go_wp2_with fail
 refine (HA.out.call 0 rfl (cV b st 1 (by omega) (by omega))).mono ?_
 rintro e w1 ⟨v,A',N,rfl,⟨rfl,rfl,rfl⟩,H1⟩
 rw[HT.out] at H1 ⊢
 have HS1:=Lib.hid H1
 clear H1
 go_wp2_with fail
 go_ret
 exact⟨_,_,_,rfl,⟨rfl,rfl,rfl⟩,HS1.out⟩
def VJ (F:Nat→Prop) (w:World) (b:Nat) (bs:Int) (res:Nat×I) (lab:Nat) (a':Act) (w':World):Prop :=
 (lab=0∧ ∃ (l1:List UInt8) (pos1 acc i:Nat),St F w [InR b ⟨l1,pos1,0⟩] w'∧acc<2 ^ (7*i)∧7*i<bs+7∧vgo bs l1 pos1 acc i=res ∧
  ∃ u7 u8 u9 u10 u11 u12 u13 u14 u15 u16 u17 u18 u19 u20 u21 u22 u23 u24 u25 u26 u27 u28 u29 u30 u31 u32 u33 u34 u35 u36 u37 u38 u39 u40 u41 u42 u43 u44 u45 u46 u47 u48 u49 u50 u51 u52 u53 u54 u55,a' = { tmps:= #[.pointer (some ⟨b,0,none⟩),.int .i64 bs,undef,undef,.int .u64 0,.int .u64 acc,.int .i64 (7*i),u7,u8,u9,u10,u11,u12,u13,u14,u15,u16,u17,u18,u19,u20,u21,u22,u23,u24,u25,u26,u27,u28,u29,u30,u31,u32,u33,u34,u35,u36,u37,u38,u39,u40,u41,u42,u43,u44,u45,u46,u47,u48,u49,u50,u51,u52,u53,u54,u55],defers := [] }) ∨
 (lab=1∧ ∃ (l1:List UInt8) (pos1:Nat),St F w [InR b ⟨l1,pos1,0⟩] w'∧(0,⟨l1,pos1,3⟩)=res ∧
  ∃ u5 u6 u7 u8 u9 u10 u11 u12 u13 u14 u15 u16 u17 u18 u19 u20 u21 u22 u23 u24 u25 u26 u27 u28 u29 u30 u31 u32 u33 u34 u35 u36 u37 u38 u39 u40 u41 u42 u43 u44 u45 u46 u47 u48 u49 u50 u51 u52 u53 u54 u55,a' = { tmps:= #[.pointer (some ⟨b,0,none⟩),.int .i64 bs,undef,undef,.int .u64 0,u5,u6,u7,u8,u9,u10,u11,u12,u13,u14,u15,u16,u17,u18,u19,u20,u21,u22,u23,u24,u25,u26,u27,u28,u29,u30,u31,u32,u33,u34,u35,u36,u37,u38,u39,u40,u41,u42,u43,u44,u45,u46,u47,u48,u49,u50,u51,u52,u53,u54,u55],defers := [] })
def VM (lab:Nat) (a':Act) (_:World):Nat:=if lab=1 then 0 else 100 - (intOf (a'.tmps.getD 6 undef)).toNat
theorem Uns_go (b:Nat) (l:List UInt8) (pos:Nat) (bs:Int) (hb:bs=32∨bs=64) :
 eR Tryz.prog 178 #[.pointer (some ⟨b,0,none⟩),.int .i64 bs] (InR b ⟨l,pos,0⟩) (fun v A' N=>v= .int .u64 (vgo bs l pos 0 0).1∧A'=InR b (vgo bs l pos 0 0).2∧N = []):=by
 intro F w hA
 have HA:=Lib.hid (Bo F w (Sep.one hA))
 clear hA
 generalize hres:vgo bs l pos 0 0=res
 go_enter Tryz.func178,Tryz.ntmps178
 go_wp2_with fail
 refine pd (VJ F w b bs res) VM ?_ ?_
 ·rintro lab a' w1 (⟨rfl,l1,pos1,acc,i,hst,hacc,hi,hg,u7,u8,u9,u10,u11,u12,u13,u14,u15,u16,u17,u18,u19,u20,u21,u22,u23,u24,u25,u26,u27,u28,u29,u30,u31,u32,u33,u34,u35,u36,u37,u38,u39,u40,u41,u42,u43,u44,u45,u46,u47,u48,u49,u50,u51,u52,u53,u54,u55,rfl⟩ | ⟨rfl,l1,pos1,hst,hg,u5,u6,u7,u8,u9,u10,u11,u12,u13,u14,u15,u16,u17,u18,u19,u20,u21,u22,u23,u24,u25,u26,u27,u28,u29,u30,u31,u32,u33,u34,u35,u36,u37,u38,u39,u40,u41,u42,u43,u44,u45,u46,u47,u48,u49,u50,u51,u52,u53,u54,u55,rfl⟩)
  ·refine⟨_,rfl,?_⟩
   have HS:=Lib.hid hst
   have HG:=Lib.hid hg
   have HACC:=Lib.hid hacc
   have hb1:bs≤64:=by omega
   clear hst hg hacc
   cases l1 with
   | nil =>
    have HT:=Lib.hid (ve pos1)
    go_wp2_with fail
    refine (HS.out.call 0 rfl (cV b _ 1 (by omega) (by omega))).mono ?_
    rintro e w2 ⟨v,A',N,rfl,⟨rfl,rfl,rfl⟩,H1⟩
    rw[HT.out] at H1 ⊢
    have HS1:=Lib.hid H1
    clear H1
    go_wp2_with fail
    go_ret
    exact⟨_,_,_,rfl,⟨by rw[← HG.out]; rfl,by rw[← HG.out]; rfl,rfl⟩,HS1.out⟩
   | cons c l2 =>
    have HT:=Lib.hid (xy c l2 pos1)
    have hsz:=bq [c]
    have h0:=mQ [c] 0 (by simp[bq])
    simp only[List.getElem_cons_zero] at h0
    have hc:c.toNat<256:=c.toNat_lt
    by_cases hl:bs - 7*i≤0
    ·have HV:=Lib.hid (show (0,⟨l2,pos1+1,3⟩)=res by rw[← HG.out,vgo,if_pos (by first | exact .inl hl | exact .inr ⟨by omega,hq⟩)])
     by_cases hz:(bits .and .u64 c.toNat 127 != 0)=true
     ·go_wp2_with fail
      refine (HS.out.call 0 rfl (cV b _ 1 (by omega) (by omega))).mono ?_
      rintro e w2 ⟨v,A',N,rfl,⟨rfl,rfl,rfl⟩,H1⟩
      rw[HT.out] at H1 ⊢
      have HS1:=Lib.hid H1
      clear H1
      go_wp2_with fail
      go_step3
      exact⟨.inr ⟨rfl,l2,pos1+1,HS1.out,HV.out,_,_,_,_,_,_,_,_,_,_,_,_,_,_,_,_,_,_,_,_,_,_,_,_,_,_,_,_,_,_,_,_,_,_,_,_,_,_,_,_,_,_,_,_,_,_,_,_,_,_,_,rfl⟩,by simp[VM,intOf]; omega⟩
     ·have hz':(bits .and .u64 c.toNat 127 != 0)=false:=by simpa using hz
      go_wp2_with fail
      refine (HS.out.call 0 rfl (cV b _ 1 (by omega) (by omega))).mono ?_
      rintro e w2 ⟨v,A',N,rfl,⟨rfl,rfl,rfl⟩,H1⟩
      rw[HT.out] at H1 ⊢
      have HS1:=Lib.hid H1
      clear H1
      go_wp2_with fail
      go_step3
      exact⟨.inr ⟨rfl,l2,pos1+1,HS1.out,HV.out,_,_,_,_,_,_,_,_,_,_,_,_,_,_,_,_,_,_,_,_,_,_,_,_,_,_,_,_,_,_,_,_,_,_,_,_,_,_,_,_,_,_,_,_,_,_,_,_,_,_,_,rfl⟩,by simp[VM,intOf]; omega⟩
    ·have hl':0<bs - 7*i:=by omega
     by_cases hl7:7≤bs - 7*i
     ·have HD:=Lib.hid (show ¬ (bs - 7*i<7∧c.toNat % 128 / 2 ^ (bs - 7*i).toNat≠0) by omega)
      have HA2:=Lib.hid (wk bs hb acc c.toNat i HACC.out (by omega) hl' HD.out)
      have HLT:=Lib.hid (mT bs hb acc (c.toNat % 128) i HACC.out hl' (by omega) HD.out)
      have HN:=Lib.hid (show ¬ (bs - 7*i≤0∨(bs - 7*i<7∧c.toNat % 128 / 2 ^ (bs - 7*i).toNat≠0)) from fun h=>h.elim (fun h=>by omega) HD.out)
      by_cases h128:128≤c.toNat
      ·have HV:=Lib.hid (show vgo bs l2 (pos1+1) (acc+c.toNat % 128*2 ^ (7*i)) (i+1)=res by rw[← HG.out,vgo,if_neg HN.out,if_pos h128])
       have hbt:(bits .and .u64 c.toNat 128 != 0)=true:=by rw[jv _ hc]; simpa using h128
       go_wp2_with fail
       refine (HS.out.call 0 rfl (cV b _ 1 (by omega) (by omega))).mono ?_
       rintro e w2 ⟨v,A',N,rfl,⟨rfl,rfl,rfl⟩,H1⟩
       rw[HT.out] at H1 ⊢
       have HS1:=Lib.hid H1
       clear H1
       go_wp2_with fail
       go_step3
       rw[HA2.out,show (7*(i:Int)+7)=7*((i+1:Nat):Int) by omega]
       exact⟨.inl ⟨rfl,l2,pos1+1,_,i+1,HS1.out,HLT.out.1,by omega,HV.out,_,_,_,_,_,_,_,_,_,_,_,_,_,_,_,_,_,_,_,_,_,_,_,_,_,_,_,_,_,_,_,_,_,_,_,_,_,_,_,_,_,_,_,_,_,_,_,_,_,rfl⟩,by simp[VM,intOf]; omega⟩
      ·have hbt:(bits .and .u64 c.toNat 128 != 0)=false:=by rw[jv _ hc]; simpa using h128
       by_cases hz:c.toNat=0∧0<i
       ·have HV:=Lib.hid (show (0,⟨l2,pos1+1,3⟩)=res by rw[← HG.out,vgo,if_neg HN.out,if_neg h128,if_pos hz])
        obtain⟨hz1,hz2⟩:=hz
        have hz0:((c.toNat:Int) == 0)=true:=by simp[hz1]
        try (have hq0:(bits .and .u64 0 127 / 2 ^ (bs - 7*i).toNat != 0)=false:=by (rw[← hqb,hz1]; rfl))
        have hi0:0<7*(i:Int):=by omega
        go_wp2_with fail
        refine (HS.out.call 0 rfl (cV b _ 1 (by omega) (by omega))).mono ?_
        rintro e w2 ⟨v,A',N,rfl,⟨rfl,rfl,rfl⟩,H1⟩
        rw[HT.out] at H1 ⊢
        have HS1:=Lib.hid H1
        clear H1
        go_wp2_with fail
        go_step3
        exact⟨.inr ⟨rfl,l2,pos1+1,HS1.out,HV.out,_,_,_,_,_,_,_,_,_,_,_,_,_,_,_,_,_,_,_,_,_,_,_,_,_,_,_,_,_,_,_,_,_,_,_,_,_,_,_,_,_,_,_,_,_,_,_,_,_,_,_,rfl⟩,by simp[VM,intOf]; omega⟩
       ·have HV:=Lib.hid (show (acc+c.toNat % 128*2 ^ (7*i),⟨l2,pos1+1,0⟩)=res by rw[← HG.out,vgo,if_neg HN.out,if_neg h128,if_neg hz])
        by_cases hz1:c.toNat=0
        ·have hz0:((c.toNat:Int) == 0)=true:=by simp[hz1]
         try (have hq0:(bits .and .u64 0 127 / 2 ^ (bs - 7*i).toNat != 0)=false:=by (rw[← hqb,hz1]; rfl))
         have HA3:=Lib.hid (show bits .or .u64 acc (IntKind.u64.wrap (bits .and .u64 0 127*2 ^ (7*i)))=((acc+c.toNat % 128*2 ^ (7*i):Nat):Int) by rw[← HA2.out,hz1]; rfl)
         have hi0: ¬ (0<7*(i:Int)):=by omega
         go_wp2_with fail
         refine (HS.out.call 0 rfl (cV b _ 1 (by omega) (by omega))).mono ?_
         rintro e w2 ⟨v,A',N,rfl,⟨rfl,rfl,rfl⟩,H1⟩
         rw[HT.out] at H1 ⊢
         have HS1:=Lib.hid H1
         clear H1
         go_wp2_with fail
         all_goals
          go_ret
          exact⟨_,_,_,rfl,⟨by rw[← HV.out]; exact congrArg (Value.int IntKind.u64) HA3.out,by rw[← HV.out],rfl⟩,HS1.out⟩
        ·have hz0:((c.toNat:Int) == 0)=false:=by simp; omega
         go_wp2_with fail
         refine (HS.out.call 0 rfl (cV b _ 1 (by omega) (by omega))).mono ?_
         rintro e w2 ⟨v,A',N,rfl,⟨rfl,rfl,rfl⟩,H1⟩
         rw[HT.out] at H1 ⊢
         have HS1:=Lib.hid H1
         clear H1
         go_wp2_with fail
         go_ret
         exact⟨_,_,_,rfl,⟨by rw[← HV.out]; exact congrArg (Value.int IntKind.u64) HA2.out,by rw[← HV.out],rfl⟩,HS1.out⟩
     ·by_cases hq:c.toNat % 128 / 2 ^ (bs - 7*i).toNat≠0
      ·have HV:=Lib.hid (show (0,⟨l2,pos1+1,3⟩)=res by rw[← HG.out,vgo,if_pos (by first | exact .inl hl | exact .inr ⟨by omega,hq⟩)])
       have hqb:(bits .and .u64 c.toNat 127 / 2 ^ (bs - 7*i).toNat != 0)=true:=by rw[rI _ hc]; simpa using hq
       go_wp2_with fail
       refine (HS.out.call 0 rfl (cV b _ 1 (by omega) (by omega))).mono ?_
       rintro e w2 ⟨v,A',N,rfl,⟨rfl,rfl,rfl⟩,H1⟩
       rw[HT.out] at H1 ⊢
       have HS1:=Lib.hid H1
       clear H1
       go_wp2_with fail
       go_step3
       exact⟨.inr ⟨rfl,l2,pos1+1,HS1.out,HV.out,_,_,_,_,_,_,_,_,_,_,_,_,_,_,_,_,_,_,_,_,_,_,_,_,_,_,_,_,_,_,_,_,_,_,_,_,_,_,_,_,_,_,_,_,_,_,_,_,_,_,_,rfl⟩,by simp[VM,intOf]; omega⟩
      ·have hqb:(bits .and .u64 c.toNat 127 / 2 ^ (bs - 7*i).toNat != 0)=false:=by rw[rI _ hc]; simpa using hq
       have HD:=Lib.hid (show ¬ (bs - 7*i<7∧c.toNat % 128 / 2 ^ (bs - 7*i).toNat≠0) by omega)
       have HA2:=Lib.hid (wk bs hb acc c.toNat i HACC.out (by omega) hl' HD.out)
       have HLT:=Lib.hid (mT bs hb acc (c.toNat % 128) i HACC.out hl' (by omega) HD.out)
       have HN:=Lib.hid (show ¬ (bs - 7*i≤0∨(bs - 7*i<7∧c.toNat % 128 / 2 ^ (bs - 7*i).toNat≠0)) from fun h=>h.elim (fun h=>by omega) HD.out)
       by_cases h128:128≤c.toNat
       ·have HV:=Lib.hid (show vgo bs l2 (pos1+1) (acc+c.toNat % 128*2 ^ (7*i)) (i+1)=res by rw[← HG.out,vgo,if_neg HN.out,if_pos h128])
        have hbt:(bits .and .u64 c.toNat 128 != 0)=true:=by rw[jv _ hc]; simpa using h128
        go_wp2_with fail
        refine (HS.out.call 0 rfl (cV b _ 1 (by omega) (by omega))).mono ?_
        rintro e w2 ⟨v,A',N,rfl,⟨rfl,rfl,rfl⟩,H1⟩
        rw[HT.out] at H1 ⊢
        have HS1:=Lib.hid H1
        clear H1
        go_wp2_with fail
        go_step3
        rw[HA2.out,show (7*(i:Int)+7)=7*((i+1:Nat):Int) by omega]
        exact⟨.inl ⟨rfl,l2,pos1+1,_,i+1,HS1.out,HLT.out.1,by omega,HV.out,_,_,_,_,_,_,_,_,_,_,_,_,_,_,_,_,_,_,_,_,_,_,_,_,_,_,_,_,_,_,_,_,_,_,_,_,_,_,_,_,_,_,_,_,_,_,_,_,_,rfl⟩,by simp[VM,intOf]; omega⟩
       ·have hbt:(bits .and .u64 c.toNat 128 != 0)=false:=by rw[jv _ hc]; simpa using h128
        by_cases hz:c.toNat=0∧0<i
        ·have HV:=Lib.hid (show (0,⟨l2,pos1+1,3⟩)=res by rw[← HG.out,vgo,if_neg HN.out,if_neg h128,if_pos hz])
         obtain⟨hz1,hz2⟩:=hz
         have hz0:((c.toNat:Int) == 0)=true:=by simp[hz1]
         try (have hq0:(bits .and .u64 0 127 / 2 ^ (bs - 7*i).toNat != 0)=false:=by (rw[← hqb,hz1]; rfl))
         have hi0:0<7*(i:Int):=by omega
         go_wp2_with fail
         refine (HS.out.call 0 rfl (cV b _ 1 (by omega) (by omega))).mono ?_
         rintro e w2 ⟨v,A',N,rfl,⟨rfl,rfl,rfl⟩,H1⟩
         rw[HT.out] at H1 ⊢
         have HS1:=Lib.hid H1
         clear H1
         go_wp2_with fail
         go_step3
         exact⟨.inr ⟨rfl,l2,pos1+1,HS1.out,HV.out,_,_,_,_,_,_,_,_,_,_,_,_,_,_,_,_,_,_,_,_,_,_,_,_,_,_,_,_,_,_,_,_,_,_,_,_,_,_,_,_,_,_,_,_,_,_,_,_,_,_,_,rfl⟩,by simp[VM,intOf]; omega⟩
        ·have HV:=Lib.hid (show (acc+c.toNat % 128*2 ^ (7*i),⟨l2,pos1+1,0⟩)=res by rw[← HG.out,vgo,if_neg HN.out,if_neg h128,if_neg hz])
         by_cases hz1:c.toNat=0
         ·have hz0:((c.toNat:Int) == 0)=true:=by simp[hz1]
          try (have hq0:(bits .and .u64 0 127 / 2 ^ (bs - 7*i).toNat != 0)=false:=by (rw[← hqb,hz1]; rfl))
          have HA3:=Lib.hid (show bits .or .u64 acc (IntKind.u64.wrap (bits .and .u64 0 127*2 ^ (7*i)))=((acc+c.toNat % 128*2 ^ (7*i):Nat):Int) by rw[← HA2.out,hz1]; rfl)
          have hi0: ¬ (0<7*(i:Int)):=by omega
          go_wp2_with fail
          refine (HS.out.call 0 rfl (cV b _ 1 (by omega) (by omega))).mono ?_
          rintro e w2 ⟨v,A',N,rfl,⟨rfl,rfl,rfl⟩,H1⟩
          rw[HT.out] at H1 ⊢
          have HS1:=Lib.hid H1
          clear H1
          go_wp2_with fail
          all_goals
           go_ret
           exact⟨_,_,_,rfl,⟨by rw[← HV.out]; exact congrArg (Value.int IntKind.u64) HA3.out,by rw[← HV.out],rfl⟩,HS1.out⟩
         ·have hz0:((c.toNat:Int) == 0)=false:=by simp; omega
          go_wp2_with fail
          refine (HS.out.call 0 rfl (cV b _ 1 (by omega) (by omega))).mono ?_
          rintro e w2 ⟨v,A',N,rfl,⟨rfl,rfl,rfl⟩,H1⟩
          rw[HT.out] at H1 ⊢
          have HS1:=Lib.hid H1
          clear H1
          go_wp2_with fail
          go_ret
          exact⟨_,_,_,rfl,⟨by rw[← HV.out]; exact congrArg (Value.int IntKind.u64) HA2.out,by rw[← HV.out],rfl⟩,HS1.out⟩
  ·refine⟨_,rfl,?_⟩
   have HS:=Lib.hid hst
   have HG:=Lib.hid hg
   clear hst hg
   go_wp2_with fail
   refine (HS.out.call 0 rfl (eE b _ 3)).mono ?_
   rintro e w2 ⟨v,A',N,rfl,⟨rfl,rfl,rfl⟩,H1⟩
   have HS1:=Lib.hid H1
   clear H1
   go_wp2_with fail
   go_ret
   exact⟨_,_,_,rfl,⟨by rw[← HG.out]; rfl,by rw[← HG.out]; rfl,rfl⟩,HS1.out⟩
 ·intro again
  have AG:=Lib.hid again
  clear again
  go_wp2_with fail
  go_step3
  rename_i hK
  exact hK _ _ (AG.out 0 _ _ _ rfl (.inl ⟨rfl,l,pos,0,0,HA.out,by omega,by omega,hres,_,_,_,_,_,_,_,_,_,_,_,_,_,_,_,_,_,_,_,_,_,_,_,_,_,_,_,_,_,_,_,_,_,_,_,_,_,_,_,_,_,_,_,_,_,_,_,_,_,rfl⟩))
theorem tN (b:Nat) (st:I) (bs:Int) (hb:bs=32∨bs=64) :
 eR Tryz.prog 178 #[.pointer (some ⟨b,0,none⟩),.int .i64 bs] (InR b st) (fun v A' N=>v= .int .u64 (dn bs st).1∧A'=InR b (dn bs st).2∧N = []):=by
 obtain⟨l,pos,er⟩:=st
 by_cases h0:er=0
 ·subst h0
  exact Uns_go b l pos bs hb
 ·have h:=yz b ⟨l,pos,er⟩ bs h0
  have e:dn bs ⟨l,pos,er⟩=(0,⟨l,pos,er⟩):=by simp[dn,h0]
  rw[e]
  exact h
theorem vgo_lt (bs:Int) (hb:bs=32∨bs=64): ∀ (l:List UInt8) (pos acc i:Nat),acc<2 ^ (7*i)→(vgo bs l pos acc i).1<2 ^ bs.toNat:=by
 have hp:0<2 ^ bs.toNat:=Nat.two_pow_pos _
 intro l
 induction l with
 | nil=>intro pos acc i _; exact hp
 | cons c l ih =>
  intro pos acc i hacc
  unfold vgo
  split
  ·exact hp
  ·rename_i hn
   have h:=mT bs hb acc (c.toNat % 128) i hacc (by omega) (by omega) (fun h=>hn (.inr h))
   split
   ·exact ih _ _ _ h.1
   ·split
    ·exact hp
    ·exact h.2
theorem yA (bs:Int) (hb:bs=32∨bs=64) (st:I):(dn bs st).1<2 ^ bs.toNat:=by
 unfold dn
 split
 ·exact Nat.two_pow_pos _
 ·exact vgo_lt bs hb _ _ _ _ (by simp)
theorem mt (bs:Int) (hb:bs=32∨bs=64) (st:I):(dn bs st).1<18446744073709551616:=by
 have h:=yA bs hb st
 rcases hb with rfl | rfl
 ·have e:2 ^ (32:Int).toNat=4294967296:=by decide
  omega
 ·have e:2 ^ (64:Int).toNat=18446744073709551616:=by decide
  omega
def eg (r:Nat×I):Int×I:=(jY r.1,r.2)
theorem rJ (b:Nat) (st:I) :
 eR Tryz.prog 165 #[.pointer (some ⟨b,0,none⟩)] (InR b st) (fun v A' N=>v= .int .i64 (eg (dn 32 st)).1∧A'=InR b (eg (dn 32 st)).2∧N = []):=by
 intro F w hA
 have HA:=Lib.hid (Bo F w (Sep.one hA))
 clear hA
 have hs:=tN b st 32 (.inl rfl)
 have hlt:=mt 32 (.inl rfl) st
 generalize dn 32 st=r at *
 have HS:=Lib.hid hs
 clear hs
 go_enter Tryz.func165,Tryz.ntmps165
 go_wp2_with fail
 refine (HA.out.call 0 rfl HS.out).mono ?_
 rintro e w1 ⟨v,A',N,rfl,⟨rfl,rfl,rfl⟩,H1⟩
 have HS1:=Lib.hid H1
 clear H1
 go_wp2_with fail
 refine (rG r.1 hlt w1).mono ?_
 rintro e w' ⟨rfl,rfl⟩
 go_wp2_with fail
 go_ret
 exact⟨_,_,_,rfl,⟨rfl,rfl,rfl⟩,HS1.out⟩
theorem vf (b:Nat) (st:I) :
 eR Tryz.prog 164 #[.pointer (some ⟨b,0,none⟩)] (InR b st) (fun v A' N=>v= .int .i64 (eg (dn 64 st)).1∧A'=InR b (eg (dn 64 st)).2∧N = []):=by
 intro F w hA
 have HA:=Lib.hid (Bo F w (Sep.one hA))
 clear hA
 have hs:=tN b st 64 (.inr rfl)
 have hlt:=mt 64 (.inr rfl) st
 generalize dn 64 st=r at *
 have HS:=Lib.hid hs
 clear hs
 go_enter Tryz.func164,Tryz.ntmps164
 go_wp2_with fail
 refine (HA.out.call 0 rfl HS.out).mono ?_
 rintro e w1 ⟨v,A',N,rfl,⟨rfl,rfl,rfl⟩,H1⟩
 have HS1:=Lib.hid H1
 clear H1
 go_wp2_with fail
 refine (rG r.1 hlt w1).mono ?_
 rintro e w' ⟨rfl,rfl⟩
 go_wp2_with fail
 go_ret
 exact⟨_,_,_,rfl,⟨rfl,rfl,rfl⟩,HS1.out⟩
theorem ri {a b:Nat} (h:2 ^ a<2 ^ b):a<b:=(Nat.pow_lt_pow_iff_right (by decide)).1 h
theorem Aj (bs:Int) (hb:0<bs): ∀ (v pos acc i:Nat) (r:List UInt8),acc+v*2 ^ (7*i)<2 ^ bs.toNat→(0<i→0<v) →
 vgo bs (bb v++r) pos acc i=(acc+v*2 ^ (7*i),⟨r,pos+(bb v).length,0⟩):=by
 intro v
 induction v using Nat.strongRecOn with
 | _ v ih =>
  intro pos acc i r h hi
  have h7:(7*i:Int)<bs:=by
   rcases Nat.eq_zero_or_pos i with h0 | h0
   ·subst h0; omega
   ·have hv:=hi h0
    have h2:1*2 ^ (7*i)≤v*2 ^ (7*i):=Nat.mul_le_mul_right _ hv
    have h3:=ri (show 2 ^ (7*i)<2 ^ bs.toNat by omega)
    omega
  have hleft: ∀ d:Nat,d≤v→d / 2 ^ (bs - 7*i).toNat=0:=by
   intro d hd
   have e:2 ^ bs.toNat=2 ^ (bs - 7*i).toNat*2 ^ (7*i):=by rw[← Nat.pow_add]; congr 1; omega
   have h2:d*2 ^ (7*i)≤v*2 ^ (7*i):=Nat.mul_le_mul_right _ hd
   have h3:d<2 ^ (bs - 7*i).toNat:=by
    apply Nat.lt_of_mul_lt_mul_right (a:=2 ^ (7*i))
    omega
   exact Nat.div_eq_of_lt h3
  rw[bb]
  split
  ·rename_i hlt
   have hc:(UInt8.ofNat v).toNat=v:=by simp[UInt8.toNat_ofNat']; omega
   simp only[List.cons_append,Ds,vgo,hc,Nat.mod_eq_of_lt hlt,hleft v (DJ _)]
   rw[if_neg (by simp; omega),if_neg (by omega),if_neg (by rintro⟨h1,h2⟩; have:=hi h2; omega)]
   simp
  ·rename_i hge
   have hc:(UInt8.ofNat (v % 128+128)).toNat=v % 128+128:=by simp[UInt8.toNat_ofNat']; omega
   have e2:2 ^ (7*(i+1))=128*2 ^ (7*i):=by rw[show 7*(i+1)=7+7*i by omega,Nat.pow_add]
   have e3:acc+v % 128*2 ^ (7*i)+v / 128*2 ^ (7*(i+1))=acc+v*2 ^ (7*i):=by
    rw[e2]
    generalize 2 ^ (7*i)=z
    have h1:v / 128*(128*z)=v / 128*128*z:=by rw[Nat.mul_assoc]
    rw[h1,Nat.add_assoc,← Nat.add_mul]
    congr 2
    omega
   simp only[List.cons_append,vgo,hc]
   rw[show (v % 128+128) % 128=v % 128 by omega,hleft (v % 128) (Nat.mod_le _ _),if_neg (by simp; omega),if_pos (by omega),ih (v / 128) (by omega) _ _ _ _ (by rw[e3]; exact h) (by omega),e3]
   simp; omega
theorem vg (n:Int) (h: -2147483648≤n∧n≤2147483647):aI n<4294967296:=by unfold aI; split <;> omega
theorem vgo_ok (bs:Int): ∀ (l:List UInt8) (pos acc i u:Nat) (s:I),vgo bs l pos acc i=(u,s)→s.err=0 →
 ∃ k v,s=⟨l.drop k,pos+k,0⟩∧k≤l.length∧u=acc+v*2 ^ (7*i)∧bb v=l.take k∧(0<i→0<v):=by
 intro l
 induction l with
 | nil=>intro pos acc i u s h h0; simp only[vgo,Prod.mk.injEq] at h; rw[← h.2] at h0; simp at h0
 | cons c l ih =>
  intro pos acc i u s h h0
  unfold vgo at h
  split at h
  ·simp only[Prod.mk.injEq] at h; rw[← h.2] at h0; simp at h0
  ·split at h
   ·rename_i h128
    obtain⟨k,v,h1,h2,h3,h4,h5⟩:=ih _ _ _ _ _ h h0
    have hv:=h5 (by omega)
    have hc:=c.toNat_lt
    refine⟨k+1,c.toNat % 128+128*v,?_,by simpa using h2,?_,?_,by omega⟩
    ·rw[h1]; simp; omega
    ·have e:2 ^ (7*(i+1))=128*2 ^ (7*i):=by rw[show 7*(i+1)=7+7*i by omega,Nat.pow_add]
     rw[h3,e,Nat.add_mul]
     generalize 2 ^ (7*i)=z
     have:v*(128*z)=128*v*z:=by rw[Nat.mul_comm 128 v,Nat.mul_assoc]
     omega
    ·rw[bb,if_neg (by omega),show (c.toNat % 128+128*v) / 128=v by omega,h4,List.take_succ_cons]
     congr 1
     rw[show (c.toNat % 128+128*v) % 128+128=c.toNat by omega]
     exact UInt8.ofNat_toNat
   ·rename_i h128
    split at h
    ·simp only[Prod.mk.injEq] at h; rw[← h.2] at h0; simp at h0
    ·rename_i hz
     have hc:=c.toNat_lt
     simp only[Prod.mk.injEq] at h
     refine⟨1,c.toNat,by rw[← h.2]; simp,by simp,by rw[← h.1,Nat.mod_eq_of_lt (by omega)],?_,?_⟩
     ·rw[bb,if_pos (by omega)]; simp
     ·intro hi
      rcases Nat.eq_zero_or_pos c.toNat with h6 | h6
      ·exact absurd ⟨h6,hi⟩ hz
      ·exact h6
attribute [local go_sem] dA bq
structure Bl where
 null:Bool
 data:List UInt8
@[go_sem] def blV (b:Bl):Value:= .agg #[.bool b.null,.string (bsOf b.data)]
theorem mu:(Tryz.prog.info? 35).map (·.size)=some 2:=by kernel_rfl
theorem mU (l:List UInt8):gi Tryz.prog 73 #[.string (bsOf l)] (fun v N=>v=blV ⟨false,l⟩∧N = []):=by
 intro w
 have HS:=Lib.hid (BS w)
 go_enter Tryz.func73,Tryz.ntmps73
 go_wp2_with fail
 refine bodyPost_ret (v:=blV ⟨false,l⟩) (results_cell_row (by rfl) _ _ w.heap.size 35 #[.bool false,.string (bsOf l)] (0,0) _ rfl (heap_alloc_new w _) Tryz.underlying35 rfl mu) rfl ?_
 exact⟨_,_,rfl,⟨rfl,rfl⟩,(HS.out.alloc _ _).drop_⟩
theorem vh:gi Tryz.prog 149 #[] (fun v N=>v=blV ⟨true,[]⟩∧N = []):=by
 intro w
 have HS:=Lib.hid (BS w)
 go_enter Tryz.func149,Tryz.ntmps149
 go_wp2_with fail
 refine bodyPost_ret (v:=blV ⟨true,[]⟩) (results_cell_row (by rfl) _ _ w.heap.size 35 #[.bool true,.string (bsOf [])] (0,0) _ rfl (heap_alloc_new w _) Tryz.underlying35 rfl mu) rfl ?_
 exact⟨_,_,rfl,⟨rfl,rfl⟩,(HS.out.alloc _ _).drop_⟩
def aT (b:Bl):Bool:= !b.null || b.data.isEmpty
theorem le (b:Bl):gi Tryz.prog 76 #[blV b] (fun v N=>v= .bool (aT b)∧N = []):=by
 intro w
 have HS:=Lib.hid (BS w)
 obtain⟨n,l⟩:=b
 have HB:=Lib.hid (show (l == [])=l.isEmpty by cases l <;> rfl)
 cases n
 ·go_enter Tryz.func76,Tryz.ntmps76
  go_wp2_with fail
  go_ret
  exact⟨_,_,rfl,⟨rfl,rfl⟩,(HS.out.alloc _ _).drop_⟩
 ·go_enter Tryz.func76,Tryz.ntmps76
  go_wp2_with fail
  go_ret
  exact⟨_,_,rfl,⟨congrArg Value.bool (by simp[aT]),rfl⟩,(HS.out.alloc _ _).drop_⟩
def bH (b:Bl):Int:=if b.null then -1 else b.data.length
theorem rK (b:Bl):gi Tryz.prog 124 #[blV b] (fun v N=>v= .int .i64 (bH b)∧N = []):=by
 intro w
 have HS:=Lib.hid (BS w)
 obtain⟨n,l⟩:=b
 cases n
 all_goals
  go_enter Tryz.func124,Tryz.ntmps124
  go_wp2_with fail
  go_ret
  exact⟨_,_,rfl,⟨rfl,rfl⟩,(HS.out.alloc _ _).drop_⟩
def iD (st:I) (n:Int):Bl×I:=if st.err≠0 then (⟨false,[]⟩,st) else if n= -1 then (⟨true,[]⟩,st) else (⟨false,(bK st n).1⟩,(bK st n).2)
theorem pL (g:Nat) (st:I) (n:Int) (h0: -9223372036854775808≤n) (h1:n≤9223372036854775807) :
 eR Tryz.prog 119 #[.pointer (some ⟨g,0,none⟩),.int .i64 n] (InR g st) (fun v A' N=>v=blV (iD st n).1∧A'=InR g (iD st n).2∧N = []):=by
 intro F w hA
 have HA:=Lib.hid (Bo F w (Sep.one hA))
 clear hA
 have HB:=Lib.hid (HA.out.alloc #[.bool false,.string ⟨#[]⟩] 35)
 by_cases he:st.err=0
 ·by_cases hn:n= -1
  ·subst hn
   have HQ:=Lib.hid (show iD st (-1)=(⟨true,[]⟩,st) by simp[iD,he])
   have hb:(st.err != 0)=false:=by simp[he]
   clear he
   go_enter Tryz.func119,Tryz.ntmps119
   go_wp2_with fail
   refine (St.call 1 (HB).out rfl (lP g _)).mono ?_
   rintro e w1 ⟨v,A',N,rfl,⟨rfl,rfl,rfl⟩,H1⟩
   try simp only[List.cons_append,Ds,List.set_cons_zero,List.set_cons_succ,bQ] at H1
   have HC:=Lib.hid H1
   clear H1
   go_wp2_with fail
   refine (St.call0 HC.out vh).mono ?_
   rintro e w2 ⟨v,N,rfl,⟨rfl,rfl⟩,H2⟩
   have d0:w2.cell? ⟨w.heap.size,0,none⟩=some (.bool false):=aN (St.blk 0 H2 rfl) 0
   have d1:w2.cell? ⟨w.heap.size,1,none⟩=some (.string ⟨#[]⟩):=aN (St.blk 0 H2 rfl) 1
   have f0:w2.frozen? ⟨w.heap.size,0,none⟩=false:=ck (St.blk 0 H2 rfl) 0
   have f1:w2.frozen? ⟨w.heap.size,1,none⟩=false:=ck (St.blk 0 H2 rfl) 1
   have HD:=Lib.hid H2
   clear H2
   go_wp2_with fail
   have HE:=((HD.out.set 0 rfl 0 (.bool true)).set 0 rfl 1 (.string (bsOf [])))
   refine bodyPost_ret (v:=blV ⟨true,[]⟩) (results_cell_row (by rfl) _ _ w.heap.size 35 #[.bool true,.string (bsOf [])] (0,0) _ rfl (St.blk 0 HE rfl) Tryz.underlying35 rfl mu) rfl ?_
   exact⟨_,_,_,rfl,⟨by rw[HQ.out],by rw[HQ.out],rfl⟩,HE.drop_⟩
  ·have HQ:=Lib.hid (show iD st n=(⟨false,(bK st n).1⟩,(bK st n).2) by simp[iD,he,hn])
   have hb:(st.err != 0)=false:=by simp[he]
   have hnb:(n == -1)=false:=beq_eq_false_iff_ne.2 hn
   clear he hn
   go_enter Tryz.func119,Tryz.ntmps119
   go_wp2_with fail
   refine (St.call 1 (HB).out rfl (lP g _)).mono ?_
   rintro e w1 ⟨v,A',N,rfl,⟨rfl,rfl,rfl⟩,H1⟩
   try simp only[List.cons_append,Ds,List.set_cons_zero,List.set_cons_succ,bQ] at H1
   have HC:=Lib.hid H1
   clear H1
   go_wp2_with fail
   refine (St.call 1 (HC).out rfl (cV g st n h0 h1)).mono ?_
   rintro e w1 ⟨v,A',N,rfl,⟨rfl,rfl,rfl⟩,H1⟩
   try simp only[List.cons_append,Ds,List.set_cons_zero,List.set_cons_succ,bQ] at H1
   have HC2:=Lib.hid H1
   clear H1
   go_wp2_with fail
   refine (St.call0 HC2.out (mU (bK st n).1)).mono ?_
   rintro e w2 ⟨v,N,rfl,⟨rfl,rfl⟩,H2⟩
   have d0:w2.cell? ⟨w.heap.size,0,none⟩=some (.bool false):=aN (St.blk 0 H2 rfl) 0
   have d1:w2.cell? ⟨w.heap.size,1,none⟩=some (.string ⟨#[]⟩):=aN (St.blk 0 H2 rfl) 1
   have f0:w2.frozen? ⟨w.heap.size,0,none⟩=false:=ck (St.blk 0 H2 rfl) 0
   have f1:w2.frozen? ⟨w.heap.size,1,none⟩=false:=ck (St.blk 0 H2 rfl) 1
   have HD:=Lib.hid H2
   clear H2
   go_wp2_with fail
   have HE:=((HD.out.set 0 rfl 0 (.bool false)).set 0 rfl 1 (.string (bsOf (bK st n).1)))
   refine bodyPost_ret (v:=blV ⟨false,(bK st n).1⟩) (results_cell_row (by rfl) _ _ w.heap.size 35 #[.bool false,.string (bsOf (bK st n).1)] (0,0) _ rfl (St.blk 0 HE rfl) Tryz.underlying35 rfl mu) rfl ?_
   exact⟨_,_,_,rfl,⟨by rw[HQ.out],by rw[HQ.out],rfl⟩,HE.drop_⟩
 ·have HQ:=Lib.hid (show iD st n=(⟨false,[]⟩,st) by simp[iD,he])
  have hb:(st.err != 0)=true:=bne_iff_ne.2 he
  clear he
  go_enter Tryz.func119,Tryz.ntmps119
  go_wp2_with fail
  refine (St.call 1 HB.out rfl (lP g _)).mono ?_
  rintro e w2 ⟨v,A',N,rfl,⟨rfl,rfl,rfl⟩,H2⟩
  have d0:w2.cell? ⟨w.heap.size,0,none⟩=some (.bool false):=aN (St.blk 0 H2 rfl) 0
  have d1:w2.cell? ⟨w.heap.size,1,none⟩=some (.string ⟨#[]⟩):=aN (St.blk 0 H2 rfl) 1
  have f0:w2.frozen? ⟨w.heap.size,0,none⟩=false:=ck (St.blk 0 H2 rfl) 0
  have f1:w2.frozen? ⟨w.heap.size,1,none⟩=false:=ck (St.blk 0 H2 rfl) 1
  have HD:=Lib.hid H2
  clear H2
  go_wp2_with fail
  have HE:=((HD.out.set 0 rfl 0 (.bool false)).set 0 rfl 1 (.string (bsOf [])))
  refine bodyPost_ret (v:=blV ⟨false,[]⟩) (results_cell_row (by rfl) _ _ w.heap.size 35 #[.bool false,.string (bsOf [])] (0,0) _ rfl (St.blk 0 HE rfl) Tryz.underlying35 rfl mu) rfl ?_
  exact⟨_,_,_,rfl,⟨by rw[HQ.out],by rw[HQ.out],rfl⟩,HE.drop_⟩
theorem pM (st:I) (size:Int): -9223372036854775808≤(dr st size).1∧(dr st size).1≤9223372036854775807:=by
 unfold dr
 split
 ·rename_i hs
  have hl:=rE st size
  simp only
  generalize (bK st size).1=l at *
  by_cases hn:l = []
  ·subst hn; simp[cG]
  ·have hr:=lc l hn
   have hp:(2 ^ (8*l.length - 1):Int)≤9223372036854775808:=by
    have h1:(2 ^ (8*l.length - 1):Nat)≤2 ^ 63:=Nat.pow_le_pow_right (by decide) (by omega)
    have h2:((2 ^ (8*l.length - 1):Nat):Int)≤((2 ^ 63:Nat):Int):=Int.ofNat_le.2 h1
    rw[Int.natCast_pow,Int.natCast_pow] at h2
    exact h2
   generalize (2 ^ (8*l.length - 1):Int)=z at *
   omega
 ·simp
theorem rL (st:I): -9223372036854775808≤(eg (dn 32 st)).1∧(eg (dn 32 st)).1≤9223372036854775807:=by
 have h:=mt 32 (.inl rfl) st
 unfold eg jY
 simp only
 split <;> omega
theorem kq (b:Bl) (h:b.data.length≤9223372036854775807): -9223372036854775808≤bH b∧bH b≤9223372036854775807:=by unfold bH; split <;> omega
def kr (st:List UInt8×Int) (b:Bl):List UInt8×Int:=if aT b then fb st b.data else g7 st 4
def jZ (st:List UInt8×Int) (b:Bl) (size:Int):List UInt8×Int:=kr (rg st (bH b) size) b
def iV (st:List UInt8×Int) (b:Bl):List UInt8×Int:=kr (fz st (bH b)) b
def fH (st:I) (size:Int):Bl×I:=iD (dr st size).2 (dr st size).1
def e7 (st:I):Bl×I:=iD (eg (dn 32 st)).2 (eg (dn 32 st)).1
def pN (r:Bl×I):List UInt8×I:=(r.1.data,if r.1.null then cB r.2 4 else r.2)
theorem oO (g:Nat) (st:List UInt8×Int) (b:Bl) (hl:st.1.length+b.data.length≤140737488355328) :
 eR Tryz.prog 125 #[.pointer (some ⟨g,0,none⟩),blV b] (ba g st) (fun v A' N=>v= .tuple #[]∧A'=ba g (kr st b)∧N = []):=by
 intro F w hA
 have HA:=Lib.hid (Bo F w (Sep.one hA))
 clear hA
 have HB:=Lib.hid (HA.out.alloc #[.bool b.null,.string (bsOf b.data)] 35)
 by_cases hr:aT b=true
 ·have HQ:=Lib.hid (show kr st b=fb st b.data by simp[kr,hr])
  have HR:=Lib.hid hr
  clear hr
  go_enter Tryz.func125,Tryz.ntmps125
  go_wp2_with fail
  refine (St.call0 HB.out (le b)).mono ?_
  rintro e w2 ⟨v,N,rfl,⟨rfl,rfl⟩,H2⟩
  rw[HR.out]
  have d0:w2.cell? ⟨w.heap.size,0,none⟩=some (.bool b.null):=aN (St.blk 0 H2 rfl) 0
  have d1:w2.cell? ⟨w.heap.size,1,none⟩=some (.string (bsOf b.data)):=aN (St.blk 0 H2 rfl) 1
  have HD:=Lib.hid H2
  clear H2
  go_wp2_with fail
  refine (St.call 1 HD.out rfl (tD g st (bsOf b.data) (by rw[bq]; exact hl))).mono ?_
  rintro e w3 ⟨v,A',N,rfl,⟨rfl,rfl,rfl⟩,H3⟩
  rw[bQ] at H3
  have HE:=Lib.hid H3
  clear H3
  go_wp2_with fail
  go_end0
  exact⟨_,_,_,rfl,⟨rfl,by rw[HQ.out],rfl⟩,HE.out.drop_⟩
 ·have HQ:=Lib.hid (show kr st b=g7 st 4 by simp[kr,hr])
  have HR:=Lib.hid (show aT b=false by simpa using hr)
  clear hr
  go_enter Tryz.func125,Tryz.ntmps125
  go_wp2_with fail
  refine (St.call0 HB.out (le b)).mono ?_
  rintro e w2 ⟨v,N,rfl,⟨rfl,rfl⟩,H2⟩
  rw[HR.out]
  have HD:=Lib.hid H2
  clear H2
  go_wp2_with fail
  refine (St.call 1 (HD).out rfl (lO g st 4)).mono ?_
  rintro e w1 ⟨v,A',N,rfl,⟨rfl,rfl,rfl⟩,H1⟩
  try simp only[List.cons_append,Ds,List.set_cons_zero,List.set_cons_succ,bQ] at H1
  have HE:=Lib.hid H1
  clear H1
  go_wp2_with fail
  go_end0
  exact⟨_,_,_,rfl,⟨rfl,by rw[HQ.out],rfl⟩,HE.out.drop_⟩
theorem yB (st:List UInt8×Int) (n size:Int):(rg st n size).1.length≤st.1.length+8:=by
 unfold rg
 split
 ·rename_i h
  have h1:=mO st (be n size.toNat)
  rw[az] at h1
  simp[bj] at h
  omega
 ·unfold g7; split <;> simp
theorem lf (g:Nat) (st:List UInt8×Int) (b:Bl) (size:Int) (h0: -9223372036854775808≤size) (h1:size≤9223372036854775807) (hl:st.1.length+8+b.data.length≤140737488355328) :
 eR Tryz.prog 70 #[.pointer (some ⟨g,0,none⟩),blV b,.int .i64 size] (ba g st) (fun v A' N=>v= .tuple #[]∧A'=ba g (jZ st b size)∧N = []):=by
 intro F w hA
 have HA:=Lib.hid (Bo F w (Sep.one hA))
 clear hA
 have HB:=Lib.hid (HA.out.alloc #[.bool b.null,.string (bsOf b.data)] 35)
 have hbl:=kq b (by omega)
 have hb1:=hbl.1
 have hb2:=hbl.2
 clear hbl
 go_enter Tryz.func70,Tryz.ntmps70
 go_wp2_with fail
 refine (St.call0 HB.out (rK b)).mono ?_
 rintro e w2 ⟨v,N,rfl,⟨rfl,rfl⟩,H2⟩
 have HC:=Lib.hid H2
 clear H2
 go_wp2_with fail
 refine (St.call 1 HC.out rfl (oL g st (bH b) size hb1 hb2 (by omega))).mono ?_
 rintro e w3 ⟨v,A',N,rfl,⟨rfl,rfl,rfl⟩,H3⟩
 have d0:w3.cell? ⟨w.heap.size,0,none⟩=some (.bool b.null):=aN (St.blk 0 H3 rfl) 0
 have d1:w3.cell? ⟨w.heap.size,1,none⟩=some (.string (bsOf b.data)):=aN (St.blk 0 H3 rfl) 1
 have HD:=Lib.hid H3
 clear H3
 go_wp2_with fail
 refine (St.call 1 HD.out rfl (oO g _ b (by have:=yB st (bH b) size; omega))).mono ?_
 rintro e w4 ⟨v,A',N,rfl,⟨rfl,rfl,rfl⟩,H4⟩
 have HE:=Lib.hid H4
 clear H4
 go_wp2_with fail
 go_end0
 exact⟨_,_,_,rfl,⟨rfl,rfl,rfl⟩,HE.out.drop_⟩
theorem tO (st:List UInt8×Int) (n:Int):(fz st n).1.length≤st.1.length+10:=by
 unfold fz
 split
 ·rename_i h
  have h1:=mO st (bb (aI n))
  have h2:=dT (aI n) (dh n (by omega) (by omega))
  omega
 ·unfold g7; split <;> simp
theorem kK (g:Nat) (st:List UInt8×Int) (b:Bl) (hl:st.1.length+10+b.data.length≤140737488355328) :
 eR Tryz.prog 161 #[.pointer (some ⟨g,0,none⟩),blV b] (ba g st) (fun v A' N=>v= .tuple #[]∧A'=ba g (iV st b)∧N = []):=by
 intro F w hA
 have HA:=Lib.hid (Bo F w (Sep.one hA))
 clear hA
 have HB:=Lib.hid (HA.out.alloc #[.bool b.null,.string (bsOf b.data)] 35)
 have hbl:=kq b (by omega)
 have hb1:=hbl.1
 have hb2:=hbl.2
 clear hbl
 go_enter Tryz.func161,Tryz.ntmps161
 go_wp2_with fail
 refine (St.call0 HB.out (rK b)).mono ?_
 rintro e w2 ⟨v,N,rfl,⟨rfl,rfl⟩,H2⟩
 have HC:=Lib.hid H2
 clear H2
 go_wp2_with fail
 refine (St.call 1 HC.out rfl (mS g st (bH b) hb1 hb2 (by omega))).mono ?_
 rintro e w3 ⟨v,A',N,rfl,⟨rfl,rfl,rfl⟩,H3⟩
 have d0:w3.cell? ⟨w.heap.size,0,none⟩=some (.bool b.null):=aN (St.blk 0 H3 rfl) 0
 have d1:w3.cell? ⟨w.heap.size,1,none⟩=some (.string (bsOf b.data)):=aN (St.blk 0 H3 rfl) 1
 have HD:=Lib.hid H3
 clear H3
 go_wp2_with fail
 refine (St.call 1 HD.out rfl (oO g _ b (by have:=tO st (bH b); omega))).mono ?_
 rintro e w4 ⟨v,A',N,rfl,⟨rfl,rfl,rfl⟩,H4⟩
 have HE:=Lib.hid H4
 clear H4
 go_wp2_with fail
 go_end0
 exact⟨_,_,_,rfl,⟨rfl,rfl,rfl⟩,HE.out.drop_⟩
def pO (st:List UInt8×Int) (l:List UInt8):List UInt8×Int:=jZ st ⟨false,l⟩ 2
theorem rj (g:Nat) (st:List UInt8×Int) (l:List UInt8) (hl:st.1.length+8+l.length≤140737488355328) :
 eR Tryz.prog 72 #[.pointer (some ⟨g,0,none⟩),.string (bsOf l)] (ba g st) (fun v A' N=>v= .tuple #[]∧A'=ba g (pO st l)∧N = []):=by
 intro F w hA
 have HA:=Lib.hid (Bo F w (Sep.one hA))
 clear hA
 go_enter Tryz.func72,Tryz.ntmps72
 go_wp2_with fail
 refine (St.call0 (HA).out (mU l)).mono ?_
 rintro e w1 ⟨v,N,rfl,⟨rfl,rfl⟩,H1⟩
 try simp only[List.cons_append,Ds,List.set_cons_zero,List.set_cons_succ,bQ] at H1
 have HB:=Lib.hid H1
 clear H1
 go_wp2_with fail
 refine (St.call 0 (HB).out rfl (lf g st ⟨false,l⟩ 2 (by omega) (by omega) hl)).mono ?_
 rintro e w1 ⟨v,A',N,rfl,⟨rfl,rfl,rfl⟩,H1⟩
 try simp only[List.cons_append,Ds,List.set_cons_zero,List.set_cons_succ,bQ] at H1
 have HC:=Lib.hid H1
 clear H1
 go_wp2_with fail
 go_end0
 exact⟨_,_,_,rfl,⟨rfl,rfl,rfl⟩,HC.out⟩
def pP (st:List UInt8×Int) (l:List UInt8):List UInt8×Int:=iV st ⟨false,l⟩
theorem rk (g:Nat) (st:List UInt8×Int) (l:List UInt8) (hl:st.1.length+10+l.length≤140737488355328) :
 eR Tryz.prog 140 #[.pointer (some ⟨g,0,none⟩),.string (bsOf l)] (ba g st) (fun v A' N=>v= .tuple #[]∧A'=ba g (pP st l)∧N = []):=by
 intro F w hA
 have HA:=Lib.hid (Bo F w (Sep.one hA))
 clear hA
 go_enter Tryz.func140,Tryz.ntmps140
 go_wp2_with fail
 refine (St.call0 (HA).out (mU l)).mono ?_
 rintro e w1 ⟨v,N,rfl,⟨rfl,rfl⟩,H1⟩
 try simp only[List.cons_append,Ds,List.set_cons_zero,List.set_cons_succ,bQ] at H1
 have HB:=Lib.hid H1
 clear H1
 go_wp2_with fail
 refine (St.call 0 (HB).out rfl (kK g st ⟨false,l⟩ hl)).mono ?_
 rintro e w1 ⟨v,A',N,rfl,⟨rfl,rfl,rfl⟩,H1⟩
 try simp only[List.cons_append,Ds,List.set_cons_zero,List.set_cons_succ,bQ] at H1
 have HC:=Lib.hid H1
 clear H1
 go_wp2_with fail
 go_end0
 exact⟨_,_,_,rfl,⟨rfl,rfl,rfl⟩,HC.out⟩
theorem oP (g:Nat) (st:I) (size:Int) :
 eR Tryz.prog 56 #[.pointer (some ⟨g,0,none⟩),.int .i64 size] (InR g st) (fun v A' N=>v=blV (fH st size).1∧A'=InR g (fH st size).2∧N = []):=by
 intro F w hA
 have HA:=Lib.hid (Bo F w (Sep.one hA))
 clear hA
 have HB:=Lib.hid (HA.out.alloc #[.bool false,.string ⟨#[]⟩] 35)
 go_enter Tryz.func56,Tryz.ntmps56
 go_wp2_with fail
 refine (St.call 1 (HB).out rfl (nK g st size)).mono ?_
 rintro e w1 ⟨v,A',N,rfl,⟨rfl,rfl,rfl⟩,H1⟩
 try simp only[List.cons_append,Ds,List.set_cons_zero,List.set_cons_succ,bQ] at H1
 have HC:=Lib.hid H1
 clear H1
 go_wp2_with fail
 refine (St.call 1 HC.out rfl (pL g _ _ (pM st size).1 (pM st size).2)).mono ?_
 rintro e w2 ⟨v,A',N,rfl,⟨rfl,rfl,rfl⟩,H2⟩
 have d0:w2.cell? ⟨w.heap.size,0,none⟩=some (.bool false):=aN (St.blk 0 H2 rfl) 0
 have d1:w2.cell? ⟨w.heap.size,1,none⟩=some (.string ⟨#[]⟩):=aN (St.blk 0 H2 rfl) 1
 have f0:w2.frozen? ⟨w.heap.size,0,none⟩=false:=ck (St.blk 0 H2 rfl) 0
 have f1:w2.frozen? ⟨w.heap.size,1,none⟩=false:=ck (St.blk 0 H2 rfl) 1
 have HD:=Lib.hid H2
 clear H2
 go_wp2_with fail
 have HE:=((HD.out.set 0 rfl 0 (.bool (fH st size).1.null)).set 0 rfl 1 (.string (bsOf (fH st size).1.data)))
 refine bodyPost_ret (v:=blV (fH st size).1) (results_cell_row (by rfl) _ _ w.heap.size 35 #[.bool (fH st size).1.null,.string (bsOf (fH st size).1.data)] (0,0) _ rfl (St.blk 0 HE rfl) Tryz.underlying35 rfl mu) rfl ?_
 exact⟨_,_,_,rfl,⟨rfl,rfl,rfl⟩,HE.drop_⟩
theorem mV (g:Nat) (st:I) :
 eR Tryz.prog 166 #[.pointer (some ⟨g,0,none⟩)] (InR g st) (fun v A' N=>v=blV (e7 st).1∧A'=InR g (e7 st).2∧N = []):=by
 intro F w hA
 have HA:=Lib.hid (Bo F w (Sep.one hA))
 clear hA
 have HB:=Lib.hid (HA.out.alloc #[.bool false,.string ⟨#[]⟩] 35)
 go_enter Tryz.func166,Tryz.ntmps166
 go_wp2_with fail
 refine (St.call 1 (HB).out rfl (rJ g st)).mono ?_
 rintro e w1 ⟨v,A',N,rfl,⟨rfl,rfl,rfl⟩,H1⟩
 try simp only[List.cons_append,Ds,List.set_cons_zero,List.set_cons_succ,bQ] at H1
 have HC:=Lib.hid H1
 clear H1
 go_wp2_with fail
 refine (St.call 1 HC.out rfl (pL g _ _ (rL st).1 (rL st).2)).mono ?_
 rintro e w2 ⟨v,A',N,rfl,⟨rfl,rfl,rfl⟩,H2⟩
 have d0:w2.cell? ⟨w.heap.size,0,none⟩=some (.bool false):=aN (St.blk 0 H2 rfl) 0
 have d1:w2.cell? ⟨w.heap.size,1,none⟩=some (.string ⟨#[]⟩):=aN (St.blk 0 H2 rfl) 1
 have f0:w2.frozen? ⟨w.heap.size,0,none⟩=false:=ck (St.blk 0 H2 rfl) 0
 have f1:w2.frozen? ⟨w.heap.size,1,none⟩=false:=ck (St.blk 0 H2 rfl) 1
 have HD:=Lib.hid H2
 clear H2
 go_wp2_with fail
 have HE:=((HD.out.set 0 rfl 0 (.bool (e7 st).1.null)).set 0 rfl 1 (.string (bsOf (e7 st).1.data)))
 refine bodyPost_ret (v:=blV (e7 st).1) (results_cell_row (by rfl) _ _ w.heap.size 35 #[.bool (e7 st).1.null,.string (bsOf (e7 st).1.data)] (0,0) _ rfl (St.blk 0 HE rfl) Tryz.underlying35 rfl mu) rfl ?_
 exact⟨_,_,_,rfl,⟨rfl,rfl,rfl⟩,HE.drop_⟩
theorem pQ (g:Nat) (r:Bl×I) :
 eR Tryz.prog 120 #[.pointer (some ⟨g,0,none⟩),blV r.1] (InR g r.2) (fun v A' N=>v= .string (bsOf (pN r).1)∧A'=InR g (pN r).2∧N = []):=by
 intro F w hA
 obtain⟨b,st⟩:=r
 obtain⟨n,l⟩:=b
 have HA:=Lib.hid (Bo F w (Sep.one hA))
 clear hA
 have HB:=Lib.hid (HA.out.alloc #[.bool n,.string (bsOf l)] 35)
 cases n
 ·go_enter Tryz.func120,Tryz.ntmps120
  go_wp2_with fail
  go_ret
  exact⟨_,_,_,rfl,⟨rfl,rfl,rfl⟩,HB.out.drop_⟩
 ·go_enter Tryz.func120,Tryz.ntmps120
  go_wp2_with fail
  refine (St.call 1 HB.out rfl (eE g st 4)).mono ?_
  rintro e w2 ⟨v,A',N,rfl,⟨rfl,rfl,rfl⟩,H2⟩
  have d1:w2.cell? ⟨w.heap.size,1,none⟩=some (.string (bsOf l)):=aN (St.blk 0 H2 rfl) 1
  have HD:=Lib.hid H2
  clear H2
  go_wp2_with fail
  go_ret
  exact⟨_,_,_,rfl,⟨rfl,rfl,rfl⟩,HD.out.drop_⟩
def wl (st:I):List UInt8×I:=pN (fH st 2)
theorem vi (g:Nat) (st:I) :
 eR Tryz.prog 59 #[.pointer (some ⟨g,0,none⟩)] (InR g st) (fun v A' N=>v= .string (bsOf (wl st).1)∧A'=InR g (wl st).2∧N = []):=by
 intro F w hA
 have HA:=Lib.hid (Bo F w (Sep.one hA))
 clear hA
 go_enter Tryz.func59,Tryz.ntmps59
 go_wp2_with fail
 refine (St.call 0 (HA).out rfl (oP g st 2)).mono ?_
 rintro e w1 ⟨v,A',N,rfl,⟨rfl,rfl,rfl⟩,H1⟩
 try simp only[List.cons_append,Ds,List.set_cons_zero,List.set_cons_succ,bQ] at H1
 have HB:=Lib.hid H1
 clear H1
 go_wp2_with fail
 refine (St.call 0 (HB).out rfl (pQ g (fH st 2))).mono ?_
 rintro e w1 ⟨v,A',N,rfl,⟨rfl,rfl,rfl⟩,H1⟩
 try simp only[List.cons_append,Ds,List.set_cons_zero,List.set_cons_succ,bQ] at H1
 have HC:=Lib.hid H1
 clear H1
 go_wp2_with fail
 go_ret
 exact⟨_,_,_,rfl,⟨rfl,rfl,rfl⟩,HC.out⟩
def wm (st:I):List UInt8×I:=pN (e7 st)
theorem vj (g:Nat) (st:I) :
 eR Tryz.prog 163 #[.pointer (some ⟨g,0,none⟩)] (InR g st) (fun v A' N=>v= .string (bsOf (wm st).1)∧A'=InR g (wm st).2∧N = []):=by
 intro F w hA
 have HA:=Lib.hid (Bo F w (Sep.one hA))
 clear hA
 go_enter Tryz.func163,Tryz.ntmps163
 go_wp2_with fail
 refine (St.call 0 (HA).out rfl (mV g st)).mono ?_
 rintro e w1 ⟨v,A',N,rfl,⟨rfl,rfl,rfl⟩,H1⟩
 try simp only[List.cons_append,Ds,List.set_cons_zero,List.set_cons_succ,bQ] at H1
 have HB:=Lib.hid H1
 clear H1
 go_wp2_with fail
 refine (St.call 0 (HB).out rfl (pQ g (e7 st))).mono ?_
 rintro e w1 ⟨v,A',N,rfl,⟨rfl,rfl,rfl⟩,H1⟩
 try simp only[List.cons_append,Ds,List.set_cons_zero,List.set_cons_succ,bQ] at H1
 have HC:=Lib.hid H1
 clear H1
 go_wp2_with fail
 go_ret
 exact⟨_,_,_,rfl,⟨rfl,rfl,rfl⟩,HC.out⟩
def fc:Rd Int:=⟨fun _ _ cs n=>cs = [.int .i64 n],fun h _=>h,fun h _=>h⟩
def boolE:Rd Bool:=⟨fun _ _ cs n=>cs = [.bool n],fun h _=>h,fun h _=>h⟩
def sH:Rd (List UInt8):=⟨fun _ _ cs l=>cs = [.string (bsOf l)],fun h _=>h,fun h _=>h⟩
def tP:Rd Bl:=⟨fun _ _ cs x=>cs = [.bool x.null,.string (bsOf x.data)],fun h _=>h,fun h _=>h⟩
structure Pfx where
 CP:Int
 C1:Int
 CI:Int
 C3:Int
 C4:Int
 CN:Int
 CH:Int
 CW:Int
 CE:Int
 CK:Int
 CD:Int
 C2:Int
structure Hd where
 CJ:List UInt8
 Cz:Bl
def bG:Rd Hd where
 P:=fun _ _ cs x=>cs = [.string (bsOf x.CJ),.bool x.Cz.null,.string (bsOf x.Cz.data)]
 mono:=fun h _=>h
 move:=fun h _=>h
structure Rec where
 CY:Int
 CU:Int
 CJ:Bl
 Cz:Bl
 CF:List Hd
def aU:Rd Rec where
 P:=fun w S cs x=> ∃ (A0:Option Addr) (c0:Nat),cs = [.int .i64 x.CY,.int .i64 x.CU,.bool x.CJ.null,.string (bsOf x.CJ.data),.bool x.Cz.null,.string (bsOf x.Cz.data),.slice A0 x.CF.length c0]∧(ar 3 bG).P w S [.slice A0 x.CF.length c0] x.CF
 mono:=fun ⟨A0,c0,e,h0⟩ k=>⟨A0,c0,e,(ar 3 bG).mono h0 k⟩
 move:=fun ⟨A0,c0,e,h0⟩ k=>⟨A0,c0,e,(ar 3 bG).move h0 k⟩
structure Top where
 CM:List UInt8
 CA:List Int
def sI:Rd Top where
 P:=fun w S cs x=> ∃ (A0:Option Addr) (c0:Nat),cs = [.string (bsOf x.CM),.slice A0 x.CA.length c0]∧(ar 1 fc).P w S [.slice A0 x.CA.length c0] x.CA
 mono:=fun ⟨A0,c0,e,h0⟩ k=>⟨A0,c0,e,(ar 1 fc).mono h0 k⟩
 move:=fun ⟨A0,c0,e,h0⟩ k=>⟨A0,c0,e,(ar 1 fc).move h0 k⟩
structure Bat where
 CP:Int
 CI:Int
 CV:Bool
 C0:Bool
 CL:Bool
 CN:Int
 CH:Int
 CW:Int
 CE:Int
 CK:Int
 CD:Int
 Cy:List Rec
def bT:Rd Bat where
 P:=fun w S cs x=> ∃ (A0:Option Addr) (c0:Nat),cs = [.int .i64 x.CP,.int .i64 x.CI,.bool x.CV,.bool x.C0,.bool x.CL,.int .i64 x.CN,.int .i64 x.CH,.int .i64 x.CW,.int .i64 x.CE,.int .i64 x.CK,.int .i64 x.CD,.slice A0 x.Cy.length c0]∧(ar 7 aU).P w S [.slice A0 x.Cy.length c0] x.Cy
 mono:=fun ⟨A0,c0,e,h0⟩ k=>⟨A0,c0,e,(ar 7 aU).mono h0 k⟩
 move:=fun ⟨A0,c0,e,h0⟩ k=>⟨A0,c0,e,(ar 7 aU).move h0 k⟩
structure ay where
 CX:Int
 CG:List Bat
def aS:Rd ay where
 P:=fun w S cs x=> ∃ (A0:Option Addr) (c0:Nat),cs = [.int .i64 x.CX,.slice A0 x.CG.length c0]∧(ar 12 bT).P w S [.slice A0 x.CG.length c0] x.CG
 mono:=fun ⟨A0,c0,e,h0⟩ k=>⟨A0,c0,e,(ar 12 bT).mono h0 k⟩
 move:=fun ⟨A0,c0,e,h0⟩ k=>⟨A0,c0,e,(ar 12 bT).move h0 k⟩
structure au where
 CM:List UInt8
 CA:List ay
def aG:Rd au where
 P:=fun w S cs x=> ∃ (A0:Option Addr) (c0:Nat),cs = [.string (bsOf x.CM),.slice A0 x.CA.length c0]∧(ar 2 aS).P w S [.slice A0 x.CA.length c0] x.CA
 mono:=fun ⟨A0,c0,e,h0⟩ k=>⟨A0,c0,e,(ar 2 aS).mono h0 k⟩
 move:=fun ⟨A0,c0,e,h0⟩ k=>⟨A0,c0,e,(ar 2 aS).move h0 k⟩
structure aq where
 CS:Bl
 CZ:Int
 CO:Int
 CC:List au
def mW:Rd aq where
 P:=fun w S cs x=> ∃ (A0:Option Addr) (c0:Nat),cs = [.bool x.CS.null,.string (bsOf x.CS.data),.int .i64 x.CZ,.int .i64 x.CO,.slice A0 x.CC.length c0]∧(ar 2 aG).P w S [.slice A0 x.CC.length c0] x.CC
 mono:=fun ⟨A0,c0,e,h0⟩ k=>⟨A0,c0,e,(ar 2 aG).mono h0 k⟩
 move:=fun ⟨A0,c0,e,h0⟩ k=>⟨A0,c0,e,(ar 2 aG).move h0 k⟩
structure fS where
 CX:Int
 CG:List Bat
def dt:Rd fS where
 P:=fun w S cs x=> ∃ (A0:Option Addr) (c0:Nat),cs = [.int .i64 x.CX,.slice A0 x.CG.length c0]∧(ar 12 bT).P w S [.slice A0 x.CG.length c0] x.CG
 mono:=fun ⟨A0,c0,e,h0⟩ k=>⟨A0,c0,e,(ar 12 bT).mono h0 k⟩
 move:=fun ⟨A0,c0,e,h0⟩ k=>⟨A0,c0,e,(ar 12 bT).move h0 k⟩
structure ca where
 CM:List UInt8
 CA:List fS
def cW:Rd ca where
 P:=fun w S cs x=> ∃ (A0:Option Addr) (c0:Nat),cs = [.string (bsOf x.CM),.slice A0 x.CA.length c0]∧(ar 2 dt).P w S [.slice A0 x.CA.length c0] x.CA
 mono:=fun ⟨A0,c0,e,h0⟩ k=>⟨A0,c0,e,(ar 2 dt).mono h0 k⟩
 move:=fun ⟨A0,c0,e,h0⟩ k=>⟨A0,c0,e,(ar 2 dt).move h0 k⟩
structure bg where
 CS:Bl
 CZ:Int
 CO:Int
 CC:List ca
structure nL where
 fbase:Int
 fleader:Int
 flast:Int
 ffirst:Int
 fmax:Int
 fproducer:Int
 fepoch:Int
 fsequence:Int
 fappend:Bool
 ftxn:Bool
 fcontrol:Bool
def gm {α:Type} (E:Rd α) (W:α→Prop):Rd α:=⟨fun w S cs a=>E.P w S cs a∧W a,fun h k=>⟨E.mono h.1 k,h.2⟩,fun h k=>⟨E.move h.1 k,h.2⟩⟩
section
variable {H:Type} (enc:TypeId×Value→H) (P:Program) {α β:Type}
def es (t:TypeId) (E:Rd α):Prop :=
 ∀ (w:World) (fuel:Nat) (cs:List Value) (x:DataW H×List MemPlace),DataW.trod enc P w 0 (fun _=>true) true fuel t cs=some x→(∀ m,m∈x.1.weights P t→m≤reachBytes)→ ∃ a,E.P w (fun k=>k<w.heap.size) cs a
def mX (off:Nat) (fs:List Field) (n:Nat) (E:Rd α):Prop :=
 ∀ (w:World) (fuel:Nat) (cs:List Value) (xs:List (DataW H×List MemPlace)),cs.length=off+n→xs.length=fs.length →
  (∀ (i:Nat) (f:Field),fs[i]? = some f→DataW.trod enc P w 0 (fun _=>true) true fuel f.type ((cs.drop f.offset).take (P.cellsOf f.type))=xs[i]?) →
  (∀ m,m∈DataW.weightsEach P (fs.map (·.type)) (xs.map (·.1))→m≤reachBytes)→ ∃ a,E.P w (fun k=>k<w.heap.size) (cs.drop off) a
variable {enc P}
theorem fd {t:TypeId} {E:Rd α} {E':Rd β} (f:α→β) (h:es enc P t E) (hf: ∀ w S cs a,E.P w S cs a→E'.P w S cs (f a)):es enc P t E':=by
 intro w fuel cs x hx hw
 obtain⟨a,ha⟩:=h w fuel cs x hx hw
 exact⟨f a,hf _ _ _ _ ha⟩
theorem rM {t:TypeId} {E:Rd α} {E':Rd β} (f:α→β) (h:yv enc P t E) (hf: ∀ w S cs a,E.P w S cs a→E'.P w S cs (f a)):es enc P t E':=by
 intro w fuel cs x hx hw
 obtain⟨a,ha⟩:=h w fuel cs x hx
 exact⟨f a,hf _ _ _ _ ha⟩
def wI (n:Int):Prop:= -9223372036854775808≤n∧n≤9223372036854775807
def wB (_:Bool):Prop:=True
def wS (l:List UInt8):Prop:=l.length≤140737488351232
def wL (W:α→Prop) (l:List α):Prop:=l.length≤140737488351232∧ ∀ x,x∈l→W x
def wLb (bytes:Nat) (W:α→Prop) (l:List α):Prop:=l.length*bytes≤140737488351232∧ ∀ x,x∈l→W x
theorem gH {t:TypeId} (ht:P.underlying t=some (.int .i64)):es enc P t (gm fc wI):=rM id (xr ht) (fun w S cs a h=>⟨h.1,Go.bounds_i64 h.2⟩)
theorem pz {t:TypeId} (ht:P.underlying t=some .bool):es enc P t (gm boolE wB):=rM id (uX ht) (fun w S cs a h=>⟨h,trivial⟩)
theorem vk {t:TypeId} (ht:P.underlying t=some .string):es enc P t (gm sH wS):=by
 intro w fuel cs x h hw
 obtain⟨s,rfl,rfl,hs⟩:=DataW.trod_string ht h
 have:=hw s.data.toList.length (by simp[DataW.weights])
 exact⟨s.data.toList,by cases s; simp[sH,bsOf],this⟩
theorem rN {size:Nat} {E:Rd α} {W:α→Prop} {w:World} {S:Nat→Prop} {cs:List Value} {l:List α} (h:(ar size (gm E W)).P w S cs l):(ar size E).P w S cs l∧ ∀ x,x∈l→W x:=by
 rcases h with⟨h,rfl⟩ | ⟨a,cap,h1,h2,h3,h4,h5⟩
 ·exact⟨.inl ⟨h,rfl⟩,fun x hx=>by simp at hx⟩
 ·refine⟨.inr ⟨a,cap,h1,h2,h3,h4,fun i x hx=> ?_⟩,fun x hx=> ?_⟩
  ·obtain⟨cs,k1,k2,k3⟩:=h5 i x hx
   exact⟨cs,k1,k2,k3.1⟩
  ·obtain⟨i,hi⟩:=List.getElem?_of_mem hx
   obtain⟨cs,k1,k2,k3⟩:=h5 i x hi
   exact k3.2
theorem lg {e:TypeId} {l:List (DataW H)} {d:DataW H} {m:Nat} (hd:d∈l) (hm:m∈d.weights P e):m∈DataW.weightsAll P e l:=by
 induction l with
 | nil=>simp at hd
 | cons x l ih =>
  simp only[DataW.weightsAll,List.mem_append]
  rcases List.mem_cons.1 hd with rfl | h
  ·exact .inl hm
  ·exact .inr (ih h)
theorem pR {t e:TypeId} {E:Rd α} {W:α→Prop} (size bytes:Nat) (ht:P.underlying t=some (.slice e)) (hc:P.cellsOf e=size) (hb:P.bytesOf e=bytes) (hp:0<size) (hpb:0<bytes) (he:es enc P e (gm E W)):es enc P t (gm (ar size E) (wL W)):=by
 intro w fuel cs x h hw
 rcases open_slice ht h with⟨rfl,_⟩ | ⟨a,len,cap,m,n,D,Pl,rfl,_,hl,hm,hmm,rfl,hx⟩
 ·exact⟨[],.inl ⟨rfl,rfl⟩,by simp,fun x hx=>by simp at hx⟩
 have hlm:len≤m:=by rw[hmm]; split <;> omega
 have hlen:len≤140737488351232:=by
  have h1:=hw ((((List.range len).map D).length+((List.range (m - len)).map fun j=>D (len+j)).length)*P.bytesOf e) (by simp only[DataW.weights,ht]; exact List.mem_cons_self)
  rw[hb] at h1
  simp only[Dy,List.length_range] at h1
  have h2:(len+(m - len))*1≤(len+(m - len))*bytes:=Nat.mul_le_mul_left _ hpb
  have h3:reachBytes=140737488351232:=rfl
  omega
 have hwe: ∀ i,i<len→ ∀ z,z∈(D i).weights P e→z≤reachBytes:=by
  intro i hi z hz
  apply hw
  simp only[DataW.weights,ht]
  exact List.mem_cons_of_mem _ (List.mem_append.2 (.inl (lg (d:=D i) (List.mem_map.2 ⟨i,List.mem_range.2 hi,rfl⟩) hz)))
 rw[hc] at hx
 have each: ∀ i:Fin len,∃ y:α,∃ cs,cs.length=size∧(∀ j,j<size→w.cell? (a.add (i.val*size+j))=cs[j]?)∧(gm E W).P w (fun k=>k<w.heap.size) cs y:=by
  intro i
  obtain⟨cs',h1,h2⟩:=hx i.val (by have:=i.isLt; omega)
  obtain⟨_,h3,h4⟩:=World.cells?_some h1
  obtain⟨y,hy⟩:=he _ _ _ _ h2 (hwe i.val i.isLt)
  refine⟨y,cs',h3,fun j hj=> ?_,hy⟩
  rw[← h4 j hj,add_add]
 obtain⟨f,hf⟩:=Classical.axiomOfChoice each
 have hs:(ar size (gm E W)).P w (fun k=>k<w.heap.size) [.slice (some a) len cap] ((List.finRange len).map f):=by
  refine .inr ⟨a,cap,by simp,by simpa using hl,hm,fun hz=> ?_,?_⟩
  ·simp at hz
   obtain⟨cs',k1,k2,k3⟩:=hf ⟨0,by omega⟩
   have:=k2 0 hp
   rw[List.getElem?_eq_getElem (by omega)] at this
   simp only[World.cell?] at this
   rw[block_add] at this
   rcases Nat.lt_or_ge a.block w.heap.size with h | h
   ·exact h
   ·rw[Array.getElem?_eq_none h] at this
    simp at this
  ·intro i x hx
   rw[List.getElem?_map,Option.map_eq_some_iff] at hx
   obtain⟨j,hj,rfl⟩:=hx
   have e:j.val=i:=by
    obtain⟨h1,h2⟩:=Da hj
    rw[← h2]
    simp
   rw[← e]
   exact hf j
 obtain⟨k1,k2⟩:=rN hs
 exact⟨_,k1,by simpa using hlen,k2⟩
theorem rO {t e:TypeId} {E:Rd α} {W:α→Prop} (size bytes:Nat) (ht:P.underlying t=some (.slice e)) (hc:P.cellsOf e=size) (hb:P.bytesOf e=bytes) (hp:0<size) (hpb:0<bytes) (he:es enc P e (gm E W)):es enc P t (gm (ar size E) (wLb bytes W)):=by
 intro w fuel cs x h hw
 rcases open_slice ht h with⟨rfl,_⟩ | ⟨a,len,cap,m,n,D,Pl,rfl,_,hl,hm,hmm,rfl,hx⟩
 ·exact⟨[],.inl ⟨rfl,rfl⟩,by rw[Eo,Nat.zero_mul]; exact DV _,fun x hx=>by simp at hx⟩
 have hlm:len≤m:=by rw[hmm]; split <;> omega
 have hlen:len*bytes≤140737488351232:=by
  have h1:=hw ((((List.range len).map D).length+((List.range (m - len)).map fun j=>D (len+j)).length)*P.bytesOf e) (by simp only[DataW.weights,ht]; exact List.mem_cons_self)
  rw[hb] at h1
  simp only[Dy,List.length_range] at h1
  have h2:len*bytes≤(len+(m - len))*bytes:=Nat.mul_le_mul_right _ (by omega)
  have h3:reachBytes=140737488351232:=rfl
  omega
 have hwe: ∀ i,i<len→ ∀ z,z∈(D i).weights P e→z≤reachBytes:=by
  intro i hi z hz
  apply hw
  simp only[DataW.weights,ht]
  exact List.mem_cons_of_mem _ (List.mem_append.2 (.inl (lg (d:=D i) (List.mem_map.2 ⟨i,List.mem_range.2 hi,rfl⟩) hz)))
 rw[hc] at hx
 have each: ∀ i:Fin len,∃ y:α,∃ cs,cs.length=size∧(∀ j,j<size→w.cell? (a.add (i.val*size+j))=cs[j]?)∧(gm E W).P w (fun k=>k<w.heap.size) cs y:=by
  intro i
  obtain⟨cs',h1,h2⟩:=hx i.val (by have:=i.isLt; omega)
  obtain⟨_,h3,h4⟩:=World.cells?_some h1
  obtain⟨y,hy⟩:=he _ _ _ _ h2 (hwe i.val i.isLt)
  refine⟨y,cs',h3,fun j hj=> ?_,hy⟩
  rw[← h4 j hj,add_add]
 obtain⟨f,hf⟩:=Classical.axiomOfChoice each
 have hs:(ar size (gm E W)).P w (fun k=>k<w.heap.size) [.slice (some a) len cap] ((List.finRange len).map f):=by
  refine .inr ⟨a,cap,by simp,by simpa using hl,hm,fun hz=> ?_,?_⟩
  ·simp at hz
   obtain⟨cs',k1,k2,k3⟩:=hf ⟨0,by omega⟩
   have:=k2 0 hp
   rw[List.getElem?_eq_getElem (by omega)] at this
   simp only[World.cell?] at this
   rw[block_add] at this
   rcases Nat.lt_or_ge a.block w.heap.size with h | h
   ·exact h
   ·rw[Array.getElem?_eq_none h] at this
    simp at this
  ·intro i x hx
   rw[List.getElem?_map,Option.map_eq_some_iff] at hx
   obtain⟨j,hj,rfl⟩:=hx
   have e:j.val=i:=by
    obtain⟨h1,h2⟩:=Da hj
    rw[← h2]
    simp
   rw[← e]
   exact hf j
 obtain⟨k1,k2⟩:=rN hs
 exact⟨_,k1,by simpa using hlen,k2⟩
theorem eG (off:Nat):mX enc P off [] 0 unitRd:=by
 intro w fuel cs xs hl _ _ _
 exact⟨(),List.drop_of_length_le (by omega)⟩
theorem aJ {off n:Nat} (m:Nat) {f:Field} {fs:List Field} {A:Rd α} {B:Rd β} (ho:f.offset=off) (hc:P.cellsOf f.type=m) (hA:es enc P f.type A) (hB:mX enc P (off+m) fs n B) :
 mX enc P off (f::fs) (m+n) (pairRd A B):=by
 intro w fuel cs xs hl hx h hw
 cases xs with
 | nil=>simp at hx
 | cons x xs =>
  have h0:=h 0 f rfl
  rw[ho,hc] at h0
  simp only[List.map_cons,DataW.weightsEach,List.mem_append] at hw
  obtain⟨a,ha⟩:=hA _ _ _ _ h0 (fun m hm=>hw m (.inl hm))
  obtain⟨b,hb⟩:=hB w fuel cs xs (by omega) (by simpa using hx) (fun i f' hf=>by simpa using h (i+1) f' (by simpa using hf)) (fun m hm=>hw m (.inr hm))
  refine⟨(a,b),(cs.drop off).take m,cs.drop (off+m),?_,ha,hb⟩
  rw[← DW,List.take_append_drop]
theorem eh {t:TypeId} {fs:Array Field} {n:Nat} {E:Rd α} (ht:P.underlying t=some (.struct fs)) (hc:P.cellsOf t=n) (h:mX enc P 0 fs.toList n E):es enc P t E:=by
 intro w fuel cs x hx hw
 obtain⟨xs,k,rfl,rfl,hl,hxl,hf⟩:=DataW.trod_struct ht hx
 simp only[DataW.weights,ht] at hw
 obtain⟨a,ha⟩:=h w k cs xs (by omega) (by simpa using hxl) (fun i f hi=>hf i f (by simpa using hi)) hw
 exact⟨a,by simpa using ha⟩
theorem weights_in: ∀ {ts:List TypeId} {ds:List (DataW H)} (j:Nat) {t:TypeId} {d:DataW H} {m:Nat},ts[j]? = some t→ds[j]? = some d→m∈d.weights P t→m∈DataW.weightsEach P ts ds
 | [],_,j,_,_,_,ht,_,_=>by simp at ht
 | _ :: _,[],j,_,_,_,_,hd,_=>by simp at hd
 | t::ts,d::ds,0,_,_,_,ht,hd,hm=>by
  obtain rfl:t= _:=by simpa using ht
  obtain rfl:d= _:=by simpa using hd
  simp only[DataW.weightsEach,List.mem_append]
  exact .inl hm
 | t::ts,d::ds,j+1,_,_,_,ht,hd,hm=>by
  simp only[DataW.weightsEach,List.mem_append]
  exact .inr (weights_in j (by simpa using ht) (by simpa using hd) hm)
theorem g8 {size:Nat} {E:Rd α} {w:World} {S:Nat→Prop} {cs:List Value} {l:List α} (h:(ar size E).P w S cs l): ∃ A c,cs = [.slice A l.length c]:=by
 rcases h with⟨h,rfl⟩ | ⟨a,cap,h,_⟩
 ·exact⟨none,0,h⟩
 ·exact⟨_,_,h⟩
theorem opens_arg2 {t:TypeId} {fs:Array Field} {E:Rd α} {r:Reach} {b0:Nat} {w:World} {v:Value} {d:DataW H} {p:List MemPlace} (ht:P.underlying t=some (.struct fs)) (hval:Value.okWide P w r b0 t v) (h:es enc P t E)
 (hv:DataW.Trod enc P w 0 (fun _=>true) true t v d p) (hw: ∀ m,m∈d.weights P t→m≤reachBytes): ∃ a cs,v= .agg cs∧E.P w (fun k=>k<w.heap.size) cs.toList a:=by
 obtain⟨cs,rfl,_⟩:=Go.WideShapes.okWide_struct ht hval
 obtain⟨fuel,hf⟩:=hv
 obtain⟨a,ha⟩:=h _ _ _ _ hf hw
 exact⟨a,cs,rfl,ha⟩
theorem RX.reads_all {E:Rd α} {w:World} {cs:List Value} {a:α} (h:E.P w (fun k=>k<w.heap.size) cs a):(RX.of E cs a).reads w (fun _=>False):=⟨_,h,fun k hk=>⟨fun h=>h,hk⟩⟩
end
def tQ (x:Bl):Prop:=wB x.null∧wS x.data
def yC (x:Hd):Prop:=wS x.CJ∧tQ x.Cz
def pS (x:Rec):Prop:=wI x.CY∧wI x.CU∧tQ x.CJ∧tQ x.Cz∧(wL yC) x.CF
def jG (x:Bat):Prop:=wI x.CP∧wI x.CI∧wB x.CV∧wB x.C0∧wB x.CL∧wI x.CN∧wI x.CH∧wI x.CW∧wI x.CE∧wI x.CK∧wI x.CD∧(wL pS) x.Cy
def iW (x:ay):Prop:=wI x.CX∧(wL jG) x.CG
def iz (x:au):Prop:=wS x.CM∧(wLb 32 iW) x.CA
def dU (x:aq):Prop:=tQ x.CS∧wI x.CZ∧wI x.CO∧(wLb 40 iz) x.CC
attribute [local go_sem] dA bq
@[go_sem] def strErr (x:List UInt8×Int):Value:= .tuple #[.string (bsOf x.1),.int .i64 x.2]
def otx (st:List UInt8×Int):List UInt8×Int:=if st.2=0 then (st.1,0) else ([],st.2)
theorem sJ (st:List UInt8×Int):tE st=strErr (otx st):=by unfold tE otx; split <;> rfl
theorem nM {st:I} (h:st.err≠0) (e:Int):cB st e=st:=by simp[cB,h]
theorem xz {st:I} (h:st.err≠0) (n:Int):bK st n=([],st):=by simp[bK,h]
theorem j5 {st:I} (h:st.err≠0) (n:Int):dr st n=(0,st):=by
 unfold dr
 split
 ·rw[xz h]; rfl
 ·rw[nM h]
theorem nN {st:I} (h:st.err≠0) (n:Int):iD st n=(⟨false,[]⟩,st):=by simp[iD,h]
theorem vl {st:I} (h:st.err≠0) (n:Int):fH st n=(⟨false,[]⟩,st):=by unfold fH; rw[j5 h,nN h]
theorem pT {st:I} (h:st.err≠0):eF st=st:=by unfold eF; split; rfl; exact nM h 2
theorem tR (l:List UInt8) (p:Nat) (n:Nat) (h:n≤l.length):bK ⟨l,p,0⟩ n=(l.take n,⟨l.drop n,p+n,0⟩):=by
 unfold bK
 rw[if_neg (by simp),if_neg (by omega),if_neg (by simp only; omega)]
 simp
theorem oQ (l:List UInt8) (p:Nat) (n:Int) (h:(l.length:Int)<n):bK ⟨l,p,0⟩ n=([],⟨l,p,1⟩):=by
 unfold bK
 rw[if_neg (by simp),if_neg (by omega),if_pos (by simp only; omega)]
theorem xA (l:List UInt8) (p:Nat) (n:Int) (h:n<0):bK ⟨l,p,0⟩ n=([],⟨l,p,4⟩):=by
 unfold bK
 rw[if_neg (by simp),if_pos h]
theorem sK (l:List UInt8) (p:Nat) (n:Nat) (h1:1≤n) (h8:n≤8) (h:n≤l.length):dr ⟨l,p,0⟩ n=(cG (l.take n),⟨l.drop n,p+n,0⟩):=by
 unfold dr
 rw[if_pos (by omega),tR l p n h]
theorem mv (l:List UInt8) (p:Nat) (n:Int) (h1:1≤n) (h8:n≤8) (h:(l.length:Int)<n):dr ⟨l,p,0⟩ n=(0,⟨l,p,1⟩):=by
 unfold dr
 rw[if_pos (by omega),oQ l p n h]
 rfl
def kt (l:List UInt8):Bool:= !l.isEmpty && decide ((l.length:Int)≤32767)
theorem vm (l:List UInt8) (w:World):Calls Tryz.prog 77 #[.string (bsOf l)] w fun e w'=>e= .returned (.bool (kt l))∧w=w':=by
 cases l with
 | nil =>
  go_enter Tryz.func77,Tryz.ntmps77
  go_wp2_with fail
  go_ret
  exact⟨kY (by simp[kt]),rfl⟩
 | cons c l =>
  go_enter Tryz.func77,Tryz.ntmps77
  go_wp2_with fail
  go_ret
  exact⟨kY (by simp[kt]),rfl⟩
def jt (n:Nat):List UInt8:=if n<128 then [UInt8.ofNat n] else UInt8.ofNat (n % 128)::jt (n / 128)
termination_by n
decreasing_by omega
theorem pU (n:Nat):1≤(jt n).length:=by rw[jt]; split <;> simp
theorem oR (n:Nat):(jt n).length=(bb n).length:=by
 induction n using Nat.strongRecOn with
 | _ n ih =>
  rw[jt,bb]
  split
  ·rfl
  ·have:=ih (n / 128) (by omega)
   simp[this]
theorem xB (n:Nat):bb n=((jt n).take ((jt n).length - 1)).map (· + 128)++(jt n).drop ((jt n).length - 1):=by
 induction n using Nat.strongRecOn with
 | _ n ih =>
  rw[jt,bb]
  split
  ·rfl
  ·have h:=ih (n / 128) (by omega)
   have hp:=pU (n / 128)
   rw[h]
   obtain⟨k,hk⟩: ∃ k,(jt (n / 128)).length=k+1:=⟨_,(Nat.sub_add_cancel hp).symm⟩
   simp only[Dh,hk,Nat.add_sub_cancel,List.take_succ_cons,List.map_cons,List.drop_succ_cons,List.cons_append]
   congr 1
   apply UInt8.toNat_inj.1
   simp[UInt8.toNat_ofNat',UInt8.toNat_add]
theorem rP (n:Int) (h0: -9223372036854775808≤n) (h1:n≤9223372036854775807) (w:World) :
 Calls Tryz.prog 148 #[.int .i64 n] w fun e w'=>e= .returned (.int .u64 (aI n))∧w=w':=by
 have H:=dh n h0 h1
 by_cases h:n<0
 ·have HV:=Lib.hid (show (aI n:Int)= -(n+1)*2+1 by unfold aI; rw[if_pos h]; omega)
  go_enter Tryz.func148,Tryz.ntmps148
  go_wp2_with fail
  go_ret
  exact⟨gk (by rw[HV.out]),rfl⟩
 ·have HV:=Lib.hid (show (aI n:Int)=n*2 by unfold aI; rw[if_neg h]; omega)
  go_enter Tryz.func148,Tryz.ntmps148
  go_wp2_with fail
  go_ret
  exact⟨gk (by rw[HV.out]),rfl⟩
theorem sL (n:Nat) (hn:n<18446744073709551616) :
 gi Tryz.prog 168 #[.int .u64 n] (fun v N=>N = [fW 5 1 v (jt n).length (aL (jt n))]):=by
 intro w
 have HS:=Lib.hid (BS w)
 have HT:=Lib.hid (oR n ▸ dT n hn)
 go_enter Tryz.func168,Tryz.ntmps168
 go_wp2_with fail
 go_loopw [0,3] (fun nv ov wr=> ∃ (m:Nat) (p:List UInt8),m≤n∧p++jt m=jt n∧nv= .int .u64 m∧St (fun _=>False) w [fW 5 1 ov (p.length+1) (aL (p ++ [UInt8.ofNat (m % 128)]))] wr) (fun i _ _=>(intOf i).toNat)
 case atStart =>
  refine⟨n,[],DJ _,rfl,rfl,?_⟩
  have h:=fW.lit (T:=5) (size:=1) HS.out #[.int .u8 ((n:Int) % 128)] 1 (by decide) rfl
  have e:aL ([] ++ [UInt8.ofNat (n % 128)]) = [.int .u8 ((n:Int) % 128)]:=by simp[aL,UInt8.toNat_ofNat']; omega
  rw[e]
  exact h
 case round =>
  obtain⟨m,p,hm,hp,rfl,hst⟩:=hrel
  obtain⟨g1,c1,rfl⟩:=fW.form 0 hst rfl (by omega)
  have hrow:=Ch 0 hst rfl
  have HST:=Lib.hid hst
  by_cases h128:128≤m
  ·have hlen:p.length+1≤10:=by
    have h1:=congrArg List.length hp
    have h2:=HT.out
    have h3:=pU m
    rw[Db] at h1
    omega
   have HP:=Lib.hid (show (p ++ [UInt8.ofNat (m % 128)])++jt (m / 128)=jt n by rw[← hp,jt.eq_1 m,if_neg (by omega)]; simp)
   have HE:=Lib.hid (show aL (p ++ [UInt8.ofNat (m % 128)]) ++ [.int .u8 ((m:Int) / 128 % 128)]=aL (p ++ [UInt8.ofNat (m % 128)] ++ [UInt8.ofNat (m / 128 % 128)]) by simp[aL,UInt8.toNat_ofNat']; omega)
   have HR:=Lib.hid hrow
   clear hrow hp hst
   go_wp2_with (at_builtin; refine jV wr rfl _ _ _ rfl 5 (.int .u8 0) 1 Tryz.underlying64 kX rfl (.slice (some ⟨g1,0,none⟩) (p.length+1) c1) (p.length+1) (aL (p ++ [UInt8.ofNat (m % 128)])) rfl HR.out (.int .u8 ((m:Int) / 128 % 128)) rfl rfl (by omega) (by omega) ?_; intro v1 w1 ho1 hg hat; have H1:=Lib.hid (fW.grown 0 HST.out rfl ho1 hg hat); clear ho1 hg hat)
   go_roundw
   case rel=>exact⟨m / 128,_,by omega,HP.out,by go_num,by rw[← HE.out]; simpa using H1.out⟩
   case measure=>simp[intOf]; omega
  ·have HP:=Lib.hid (show p ++ [UInt8.ofNat (m % 128)]=jt n by rw[← hp,jt.eq_1 m,if_pos (by omega),Nat.mod_eq_of_lt (by omega)])
   have HL:=Lib.hid (show p.length+1=(jt n).length by rw[← HP.out]; simp)
   clear hrow hp hst
   go_wp2_with fail
   go_ret
   refine⟨_,_,rfl,rfl,?_⟩
   have h:=HST.out
   rw[HP.out] at h
   rw[← HL.out]
   exact h
def lh (l:List UInt8) (i:Nat):List UInt8:=(l.take i).map (· + 128)++l.drop i
theorem vn (l:List UInt8) (i:Nat) (h:i<l.length):(lh l i)[i]? = some l[i]:=by
 unfold lh
 rw[List.getElem?_append_right (by simp; omega)]
 simp only[Dy,D3,List.getElem?_drop]
 rw[show i+(i - min i l.length)=i by omega,List.getElem?_eq_getElem h]
theorem vo (l:List UInt8) (i:Nat) (h:i<l.length):(lh l i).set i (l[i]+128)=lh l (i+1):=by
 unfold lh
 have hl:((l.take i).map (· + 128)).length=i:=by simp; omega
 rw[List.set_append_right _ _ (by omega),hl,Nat.sub_self,List.drop_eq_getElem_cons h,List.set_cons_zero,mR l i h,List.map_append,Df]
 rfl
theorem rl (l:List UInt8) (i:Nat) (c:UInt8):(aL l).set i (.int .u8 c.toNat)=aL (l.set i c):=by simp[aL,List.map_set]
theorem rm (l:List UInt8) (i:Nat):(aL l)[i]? = l[i]?.map fun c=>Value.int .u8 c.toNat:=by simp[aL]
theorem add128 (c:UInt8):((c.toNat:Int)+128) % 256=(c+128).toNat:=by simp[UInt8.toNat_add]
theorem rQ (n:Nat) (hn:n<18446744073709551616) :
 gi Tryz.prog 147 #[.int .u64 n] (fun v N=>v= .string (bsOf (bb n))∧N = []):=by
 intro w
 have HS:=Lib.hid (BS w)
 have HT:=Lib.hid (oR n ▸ dT n hn)
 have HP:=Lib.hid (pU n)
 have HV:=Lib.hid (xB n)
 go_enter Tryz.func147,Tryz.ntmps147
 go_wp2_with fail
 refine (HS.out.call0 (sL n hn)).mono ?_
 rintro e w1 ⟨v,N,rfl,rfl,H1⟩
 generalize jt n=l at *
 obtain⟨g,c,rfl⟩:=fW.form 0 H1 rfl HP.out
 have HS1:=Lib.hid H1
 clear H1
 have hp:=HP.out
 have hl:=HT.out
 go_wp2_with fail
 go_loopw [4] (fun iv wr=> ∃ i:Nat,i≤l.length - 1∧iv= .int .i64 i∧St (fun _=>False) w [fW 5 1 (.slice (some ⟨g,0,none⟩) l.length c) l.length (aL (lh l i))] wr) (fun i _=>l.length - (intOf i).toNat)
 case atStart=>exact⟨0,by omega,rfl,by simpa [lh] using HS1.out⟩
 case round =>
  obtain⟨i,hi,rfl,hst⟩:=hrel
  by_cases hlt:i<l.length - 1
  ·obtain⟨hc,hf⟩:=fW.cell 0 hst rfl i (by omega)
   rw[rm,vn l i (by omega)] at hc
   have HC:=Lib.hid (vo l i (by omega))
   have HA:=Lib.hid (add128 (l[i]'(by omega)))
   generalize l[i]'(by omega)=b at *
   have hb:=b.toNat_lt
   simp only[Option.map_some] at hc
   have HST:=Lib.hid hst
   clear hst
   go_wp2_with fail
   go_roundw
   case rel =>
    refine⟨i+1,by omega,by go_num,?_⟩
    have h:=fW.set 0 HST.out rfl i (.int .u8 (b+128).toNat)
    rw[rl,HC.out,← HA.out] at h
    exact h
   case measure=>simp[intOf]; omega
  ·have HE:=Lib.hid (show lh l i=bb n by rw[HV.out,show i=l.length - 1 by omega]; rfl)
   have hc:=mp (P:=Tryz.prog) wr (src:=64) (dst:=9) Tryz.underlying64 Tryz.underlying5 Tryz.underlying9 (Ch 0 hst rfl)
   have HST:=Lib.hid hst
   clear hst
   go_wp2_with fail
   go_ret
   exact⟨_,_,rfl,⟨by rw[HE.out]; rfl,rfl⟩,HST.out.drop_⟩
attribute [local go_sem] dA bq
def vgetV (x:Nat×Nat×Int):Value:= .tuple #[.int .u64 x.1,.int .i64 x.2.1,.int .i64 x.2.2]
theorem mY {P:Program} {id:Nat} {Q:Exit→Act→World→Prop} {a:Act} {w:World} {l:List Oper} {F0:Nat→Prop} {w0:World} {Rs:List Res} (hs:St F0 w0 Rs w)
 (hm:P.follows .mixedOrders=true) (hB:Region.lexB .any l.toArray=true)
 (h:wpQuiet P l.toArray (fun w'=>St F0 w0 Rs w') (fun a'=> ∀ w',St F0 w0 Rs w'→Q .normal a' w') l a):(Code.region id l.toArray true).wp P Q a w:=by
 refine wp_region_quiet (C:=fun w'=>St F0 w0 Rs w') hm hB ?_ (by simpa using h)
 exact hs.drew
theorem oT (a b:List UInt8):bsOf a++bsOf b=bsOf (a++b):=by
 apply ByteArray.ext
 simp[bsOf]
attribute [local go_sem] dA bq oT
theorem pV (b:Bl):gi Tryz.prog 123 #[blV b] (fun v N=>v= .int .i64 (bH b)∧N = []):=by
 intro w
 have HS:=Lib.hid (BS w)
 obtain⟨n,l⟩:=b
 cases n
 all_goals
  go_enter Tryz.func123,Tryz.ntmps123
  go_wp2_with fail
  go_ret
  exact⟨_,_,rfl,⟨rfl,rfl⟩,(HS.out.alloc _ _).drop_⟩
theorem sM (b:Bl) (k:Nat) (hk:k≤8) (hl:b.data.length≤140737488355328):gi Tryz.prog 67 #[blV b,.int .i64 k] (fun v N=>v= .string (bsOf (be (bH b) k++b.data))∧N = []):=by
 intro w
 have HS:=Lib.hid ((BS w).alloc #[.bool b.null,.string (bsOf b.data)] 35)
 have hr:=kq b (by omega)
 have hsum:(be (bH b) k).length+b.data.length≤9223372036854775807:=by rw[az]; omega
 go_enter Tryz.func67,Tryz.ntmps67
 go_wp2_with fail
 refine mY HS.out (by kernel_rfl) (by kernel_rfl) ?_
 refine wpQuiet_step (fun K hK=> ?_)
 go_simp
 refine⟨.agg #[.bool b.null,.string (bsOf b.data)],fun w1 hw1=> ?_,hK _ ?_⟩
 ·have d0:w1.cell? ⟨w.heap.size,0,none⟩=some (.bool b.null):=aN (St.blk 0 hw1 rfl) 0
  have d1:w1.cell? ⟨w.heap.size,1,none⟩=some (.string (bsOf b.data)):=aN (St.blk 0 hw1 rfl) 1
  simp[d0,d1,Result.andThen]
 clear hK K
 refine wpQuiet_step (fun K hK=> ?_)
 go_simp
 refine⟨.int .i64 (bH b),fun w1 hw1=> ?_,hK _ ?_⟩
 ·exact (hw1.call0 (pV b)).mono (by rintro e w2 ⟨v,N,rfl,⟨rfl,rfl⟩,H⟩; exact⟨rfl,H⟩)
 clear hK K
 refine wpQuiet_step (fun K hK=> ?_)
 go_simp
 refine⟨_,fun w1 hw1=>rfl,hK _ ?_⟩
 clear hK K
 refine wpQuiet_step (fun K hK=> ?_)
 go_simp
 refine⟨.string (bsOf (be (bH b) k)),fun w1 hw1=> ?_,hK _ ?_⟩
 ·exact (hw1.call0 (ms (bH b) k hr.1 hr.2 hk)).mono (by rintro e w2 ⟨v,N,rfl,⟨rfl,rfl⟩,H⟩; exact⟨rfl,H⟩)
 clear hK K
 refine wpQuiet_step (fun K hK=> ?_)
 go_simp
 refine⟨_,fun w1 hw1=>rfl,hK _ ?_⟩
 clear hK K
 refine wpQuiet_step (fun K hK=> ?_)
 go_simp
 refine⟨.string (bsOf b.data),fun w1 hw1=> ?_,hK _ ?_⟩
 ·have d1:w1.cell? ⟨w.heap.size,1,none⟩=some (.string (bsOf b.data)):=aN (St.blk 0 hw1 rfl) 1
  simp[d1,Result.andThen]
 clear hK K
 refine wpQuiet_step (fun K hK=> ?_)
 go_simp
 refine⟨.string (bsOf (be (bH b) k++b.data)),fun w1 hw1=> ?_,hK _ ?_⟩
 ·rw[if_neg (by omega)]
  exact⟨rfl,rfl⟩
 clear hK K
 refine wpQuiet_step (fun K hK=> ?_)
 go_simp
 refine⟨_,fun w1 hw1=>rfl,hK _ ?_⟩
 clear hK K
 refine wpQuiet_nil ?_
 intro w1 hw1
 have HS1:=Lib.hid hw1
 clear hw1
 go_wp2_with fail
 go_ret
 exact⟨_,_,rfl,⟨rfl,rfl⟩,HS1.out.drop_⟩
theorem rn (b:Bl) (hl:b.data.length≤140737488355328):gi Tryz.prog 114 #[blV b] (fun v N=>v= .string (bsOf (bb (aI (bH b))++b.data))∧N = []):=by
 intro w
 have HS:=Lib.hid ((BS w).alloc #[.bool b.null,.string (bsOf b.data)] 35)
 have hr:=kq b (by omega)
 have hv10:=dT _ (dh (bH b) hr.1 hr.2)
 have hsum:(bb (aI (bH b))).length+b.data.length≤9223372036854775807:=by omega
 go_enter Tryz.func114,Tryz.ntmps114
 go_wp2_with fail
 refine mY HS.out (by kernel_rfl) (by kernel_rfl) ?_
 refine wpQuiet_step (fun K hK=> ?_)
 go_simp
 refine⟨.agg #[.bool b.null,.string (bsOf b.data)],fun w1 hw1=> ?_,hK _ ?_⟩
 ·have d0:w1.cell? ⟨w.heap.size,0,none⟩=some (.bool b.null):=aN (St.blk 0 hw1 rfl) 0
  have d1:w1.cell? ⟨w.heap.size,1,none⟩=some (.string (bsOf b.data)):=aN (St.blk 0 hw1 rfl) 1
  simp[d0,d1,Result.andThen]
 clear hK K
 refine wpQuiet_step (fun K hK=> ?_)
 go_simp
 refine⟨.int .i64 (bH b),fun w1 hw1=> ?_,hK _ ?_⟩
 ·exact (hw1.call0 (pV b)).mono (by rintro e w2 ⟨v,N,rfl,⟨rfl,rfl⟩,H⟩; exact⟨rfl,H⟩)
 clear hK K
 refine wpQuiet_step (fun K hK=> ?_)
 go_simp
 refine⟨.int .u64 (aI (bH b)),fun w1 hw1=> ?_,hK _ ?_⟩
 ·exact (rP (bH b) hr.1 hr.2 w1).mono (by rintro e w2 ⟨rfl,rfl⟩; exact⟨rfl,hw1⟩)
 clear hK K
 refine wpQuiet_step (fun K hK=> ?_)
 go_simp
 refine⟨.string (bsOf (bb (aI (bH b)))),fun w1 hw1=> ?_,hK _ ?_⟩
 ·exact (hw1.call0 (rQ (aI (bH b)) (dh _ hr.1 hr.2))).mono (by rintro e w2 ⟨v,N,rfl,⟨rfl,rfl⟩,H⟩; exact⟨rfl,H⟩)
 clear hK K
 refine wpQuiet_step (fun K hK=> ?_)
 go_simp
 refine⟨_,fun w1 hw1=>rfl,hK _ ?_⟩
 clear hK K
 refine wpQuiet_step (fun K hK=> ?_)
 go_simp
 refine⟨.string (bsOf b.data),fun w1 hw1=> ?_,hK _ ?_⟩
 ·have d1:w1.cell? ⟨w.heap.size,1,none⟩=some (.string (bsOf b.data)):=aN (St.blk 0 hw1 rfl) 1
  simp[d1,Result.andThen]
 clear hK K
 refine wpQuiet_step (fun K hK=> ?_)
 go_simp
 refine⟨.string (bsOf (bb (aI (bH b))++b.data)),fun w1 hw1=> ?_,hK _ ?_⟩
 ·rw[if_neg (by omega)]
  exact⟨rfl,rfl⟩
 clear hK K
 refine wpQuiet_step (fun K hK=> ?_)
 go_simp
 refine⟨_,fun w1 hw1=>rfl,hK _ ?_⟩
 clear hK K
 refine wpQuiet_nil ?_
 intro w1 hw1
 have HS1:=Lib.hid hw1
 clear hw1
 go_wp2_with fail
 go_ret
 exact⟨_,_,rfl,⟨rfl,rfl⟩,HS1.out.drop_⟩
attribute [local go_sem] dA bq oT
theorem vp (l:List UInt8) (k:Nat):(bsOf l).extract 0 k=bsOf (l.take k):=by rw[lb,bQ]; simp
attribute [local go_sem] vp
attribute [local go_sem] vgetV
theorem vq (b:Nat) (st:List UInt8×Int) (s:List UInt8) (hl:st.1.length+s.length≤140737488355328) :
 eR Tryz.prog 101 #[.pointer (some ⟨b,0,none⟩),.string (bsOf s)] (ba b st) (fun v A' N=>v= .tuple #[]∧A'=ba b (fb st s)∧N = []):=by
 have h:=tD b st (bsOf s) (by rw[bq]; exact hl)
 rwa [bQ] at h
theorem tS (b:Nat) (st:List UInt8×Int):eR Tryz.prog 28 #[.pointer (some ⟨b,0,none⟩)] (ba b st) (fun v A' N=>v= .tuple #[.string (bsOf (otx st).1),.int .i64 (otx st).2]∧A'=ba b st∧N = []):=by
 have h:=xu b st
 rwa [sJ] at h
theorem tT (n k:Int) (h0: -9223372036854775808≤n) (h1:n≤9223372036854775807) (hk0:0≤k) (hk:k≤8) :
 gi Tryz.prog 42 #[.int .i64 n,.int .i64 k] (fun v N=>v= .string (bsOf (be n k.toNat))∧N = []):=by
 have h:=ms n k.toNat h0 h1 (by omega)
 rwa [show ((k.toNat:Nat):Int)=k by omega] at h
theorem vr (n:Int) (h0:0≤n) (hn:n<18446744073709551616):gi Tryz.prog 147 #[.int .u64 n] (fun v N=>v= .string (bsOf (bb n.toNat))∧N = []):=by
 have h:=rQ n.toNat (by omega)
 rwa [show ((n.toNat:Nat):Int)=n by omega] at h
theorem ro (b:Bl) (k:Int) (h0:0≤k) (hk:k≤8) (hl:b.data.length≤140737488355328):gi Tryz.prog 67 #[blV b,.int .i64 k] (fun v N=>v= .string (bsOf (be (bH b) k.toNat++b.data))∧N = []):=by
 have h:=sM b k.toNat (by omega) hl
 rwa [show ((k.toNat:Nat):Int)=k by omega] at h
def jH (st:List UInt8×Int) (e:Int):Option (List UInt8×Int):=some (g7 st e)
theorem rR (st:List UInt8×Int) (e:Int):jH st e=some (g7 st e):=rfl
theorem g9 (g:Nat) (st:List UInt8×Int) (e:Int) (r:List UInt8×Int) (h:jH st e=some r):aA Tryz.prog 69 #[.pointer (some ⟨g,0,none⟩),.int .i64 e] .triv (ba g st) (fun v A' N=>v= .tuple #[]∧A'=ba g r∧N = []):=by
 unfold jH at h
 obtain rfl:=C8 h
 exact Be (lO g st e)
def wn (st:List UInt8×Int) (s:List UInt8):Option (List UInt8×Int):=if st.1.length+s.length≤140737488355328 then some (fb st s) else none
theorem yD (st:List UInt8×Int) (s:List UInt8) (h:st.1.length+s.length≤140737488355328):wn st s=some (fb st s):=if_pos h
theorem vt (g:Nat) (st:List UInt8×Int) (s:List UInt8) (r:List UInt8×Int) (h:wn st s=some r):aA Tryz.prog 101 #[.pointer (some ⟨g,0,none⟩),.string (bsOf s)] .triv (ba g st) (fun v A' N=>v= .tuple #[]∧A'=ba g r∧N = []):=by
 unfold wn at h
 split at h
 ·rename_i h1
  obtain rfl:=C8 h
  exact Be (vq g st s h1)
 ·simp at h
def sN (st:List UInt8×Int) (c:Int):Option (List UInt8×Int):=if 0≤c∧c<256∧st.1.length+1≤140737488355328 then some (fb st [UInt8.ofNat c.toNat]) else none
theorem xC (st:List UInt8×Int) (c:Int) (h:0≤c∧c<256∧st.1.length+1≤140737488355328):sN st c=some (fb st [UInt8.ofNat c.toNat]):=if_pos h
theorem tU (g:Nat) (st:List UInt8×Int) (c:Int) (r:List UInt8×Int) (h:sN st c=some r):aA Tryz.prog 126 #[.pointer (some ⟨g,0,none⟩),.int .u8 c] .triv (ba g st) (fun v A' N=>v= .tuple #[]∧A'=ba g r∧N = []):=by
 unfold sN at h
 split at h
 ·rename_i h1
  obtain rfl:=C8 h
  exact Be (kp g st c h1.1 h1.2.1 h1.2.2)
 ·simp at h
def jJ (st:List UInt8×Int)  : Option (List UInt8×Int×(List UInt8×Int)):=some ((otx st).1,(otx st).2,st)
theorem gI (st:List UInt8×Int)  : jJ st  = some ((otx st).1,(otx st).2,st):=rfl
theorem fe (g:Nat) (st:List UInt8×Int)  (r:List UInt8×Int×(List UInt8×Int)) (h:jJ st  = some r):aA Tryz.prog 28 #[.pointer (some ⟨g,0,none⟩)] .triv (ba g st) (fun v A' N=>v= .tuple #[.string (bsOf r.1),.int .i64 r.2.1]∧A'=ba g r.2.2∧N = []):=by
 unfold jJ at h
 obtain rfl:=C8 h
 exact Be (tS g st)
def ff (st:List UInt8×Int) (n:Int) (size:Int):Option (List UInt8×Int):=if (-9223372036854775808≤n∧n≤9223372036854775807)∧st.1.length+8≤140737488355328 then some (rg st n size) else none
theorem yE (st:List UInt8×Int) (n:Int) (size:Int) (h:(-9223372036854775808≤n∧n≤9223372036854775807)∧st.1.length+8≤140737488355328):ff st n size=some (rg st n size):=if_pos h
theorem bL (g:Nat) (st:List UInt8×Int) (n:Int) (size:Int) (r:List UInt8×Int) (h:ff st n size=some r):aA Tryz.prog 71 #[.pointer (some ⟨g,0,none⟩),.int .i64 n,.int .i64 size] .triv (ba g st) (fun v A' N=>v= .tuple #[]∧A'=ba g r∧N = []):=by
 unfold ff at h
 split at h
 ·rename_i h1
  obtain rfl:=C8 h
  exact Be (oL g st n size h1.1.1 h1.1.2 h1.2)
 ·simp at h
def j6  (n:Int) (size:Int):Option (Bool):=if (-9223372036854775808≤n∧n≤9223372036854775807) then some (bj n size) else none
theorem iX  (n:Int) (size:Int) (h:(-9223372036854775808≤n∧n≤9223372036854775807)):j6  n size=some (bj n size):=if_pos h
theorem eH (n:Int) (size:Int) (r:Bool) (h:j6  n size=some r) (w:World):Calls Tryz.prog 78 #[.int .i64 n,.int .i64 size] w fun e w'=>e= .returned (.bool r)∧w=w':=by
 unfold j6 at h
 split at h
 ·rename_i h1
  obtain rfl:=C8 h
  exact kZ n size w h1.1 h1.2
 ·simp at h
def rp  (s:List UInt8):Option (I):=if s.length≤9223372036854775807 then some (⟨s,0,0⟩:I) else none
theorem iI  (s:List UInt8) (h:s.length≤9223372036854775807):rp  s=some (⟨s,0,0⟩:I):=if_pos h
theorem iN (s:List UInt8) (r:I) (h:rp  s=some r):aA Tryz.prog 18 #[.string (bsOf s)] .triv aD (fun v A' N=> ∃ g,v= .pointer (some ⟨g,0,none⟩)∧A'=aD∧N = [InR g r]):=by
 unfold rp at h
 split at h
 ·rename_i h1
  obtain rfl:=C8 h
  have k:=Cw (X:= .triv) (yw (bsOf s) (by rw[bq]; omega))
  intro F w hA hX
  refine (k F w hA hX).mono ?_
  rintro e w' ⟨v,A',Ns,rfl,⟨rfl,b,rfl,rfl⟩,hst⟩
  rw[bQ] at hst
  exact⟨_,_,_,rfl,⟨b,rfl,rfl,rfl⟩,hst⟩
 ·simp at h
def bD (st:I) (e:Int):Option (I):=some (cB st e)
theorem dR (st:I) (e:Int):bD st e=some (cB st e):=rfl
theorem bi (g:Nat) (st:I) (e:Int) (r:I) (h:bD st e=some r):aA Tryz.prog 61 #[.pointer (some ⟨g,0,none⟩),.int .i64 e] .triv (InR g st) (fun v A' N=>v= .tuple #[]∧A'=InR g r∧N = []):=by
 unfold bD at h
 obtain rfl:=C8 h
 exact Be (eE g st e)
def pW (st:I)  : Option (Int×I):=some ((st.rest.length:Int),st)
theorem mZ (st:I)  : pW st  = some ((st.rest.length:Int),st):=rfl
theorem ku (g:Nat) (st:I)  (r:Int×I) (h:pW st  = some r):aA Tryz.prog 82 #[.pointer (some ⟨g,0,none⟩)] .triv (InR g st) (fun v A' N=>v= .int .i64 r.1∧A'=InR g r.2∧N = []):=by
 unfold pW at h
 obtain rfl:=C8 h
 exact Be (jX g st)
def wo (st:I) (n:Int):Option (List UInt8×I):=if (-9223372036854775808≤n∧n≤9223372036854775807) then some ((bK st n).1,(bK st n).2) else none
theorem pX (st:I) (n:Int) (h:(-9223372036854775808≤n∧n≤9223372036854775807)):wo st n=some ((bK st n).1,(bK st n).2):=if_pos h
theorem vu (g:Nat) (st:I) (n:Int) (r:List UInt8×I) (h:wo st n=some r):aA Tryz.prog 109 #[.pointer (some ⟨g,0,none⟩),.int .i64 n] .triv (InR g st) (fun v A' N=>v= .string (bsOf r.1)∧A'=InR g r.2∧N = []):=by
 unfold wo at h
 split at h
 ·rename_i h1
  obtain rfl:=C8 h
  exact Be (cV g st n h1.1 h1.2)
 ·simp at h
def fM (st:I) (size:Int):Option (Int×I):=some ((dr st size).1,(dr st size).2)
theorem gp (st:I) (size:Int):fM st size=some ((dr st size).1,(dr st size).2):=rfl
theorem bR (g:Nat) (st:I) (size:Int) (r:Int×I) (h:fM st size=some r):aA Tryz.prog 57 #[.pointer (some ⟨g,0,none⟩),.int .i64 size] .triv (InR g st) (fun v A' N=>v= .int .i64 r.1∧A'=InR g r.2∧N = []):=by
 unfold fM at h
 obtain rfl:=C8 h
 exact Be (nK g st size)
def iY (st:I)  : Option (Int×I):=some (st.err,st)
theorem bE (st:I)  : iY st  = some (st.err,st):=rfl
theorem dH (g:Nat) (st:I)  (r:Int×I) (h:iY st  = some r):aA Tryz.prog 21 #[.pointer (some ⟨g,0,none⟩)] .triv (InR g st) (fun v A' N=>v= .int .i64 r.1∧A'=InR g r.2∧N = []):=by
 unfold iY at h
 obtain rfl:=C8 h
 exact Be (lP g st)
def du (st:I)  : Option (Int×I):=some ((eF st).err,eF st)
theorem gJ (st:I)  : du st  = some ((eF st).err,eF st):=rfl
theorem dB (g:Nat) (st:I)  (r:Int×I) (h:du st  = some r):aA Tryz.prog 32 #[.pointer (some ⟨g,0,none⟩)] .triv (InR g st) (fun v A' N=>v= .int .i64 r.1∧A'=InR g r.2∧N = []):=by
 unfold du at h
 obtain rfl:=C8 h
 exact Be (u4 g st)
def iA (st:I) (size:Int) (each:Int):Option (Int×I):=if (-9223372036854775808≤size∧size≤9223372036854775807)∧(-9223372036854775808≤each∧each≤9223372036854775807) then some ((iy st size each).1,(iy st size each).2) else none
theorem nO (st:I) (size:Int) (each:Int) (h:(-9223372036854775808≤size∧size≤9223372036854775807)∧(-9223372036854775808≤each∧each≤9223372036854775807)):iA st size each=some ((iy st size each).1,(iy st size each).2):=if_pos h
theorem oU (g:Nat) (st:I) (size:Int) (each:Int) (r:Int×I) (h:iA st size each=some r):aA Tryz.prog 58 #[.pointer (some ⟨g,0,none⟩),.int .i64 size,.int .i64 each] .triv (InR g st) (fun v A' N=>v= .int .i64 r.1∧A'=InR g r.2∧N = []):=by
 unfold iA at h
 split at h
 ·rename_i h1
  obtain rfl:=C8 h
  exact Be (va g st size each)
 ·simp at h
def kL (st:I)  : Option (Int×I):=some ((eg (dn 32 st)).1,(eg (dn 32 st)).2)
theorem yF (st:I)  : kL st  = some ((eg (dn 32 st)).1,(eg (dn 32 st)).2):=rfl
theorem mw (g:Nat) (st:I)  (r:Int×I) (h:kL st  = some r):aA Tryz.prog 165 #[.pointer (some ⟨g,0,none⟩)] .triv (InR g st) (fun v A' N=>v= .int .i64 r.1∧A'=InR g r.2∧N = []):=by
 unfold kL at h
 obtain rfl:=C8 h
 exact Be (rJ g st)
def iZ (st:I)  : Option (Int×I):=some ((eg (dn 64 st)).1,(eg (dn 64 st)).2)
theorem xD (st:I)  : iZ st  = some ((eg (dn 64 st)).1,(eg (dn 64 st)).2):=rfl
theorem oV (g:Nat) (st:I)  (r:Int×I) (h:iZ st  = some r):aA Tryz.prog 164 #[.pointer (some ⟨g,0,none⟩)] .triv (InR g st) (fun v A' N=>v= .int .i64 r.1∧A'=InR g r.2∧N = []):=by
 unfold iZ at h
 obtain rfl:=C8 h
 exact Be (vf g st)
def na (st:List UInt8×Int) (n:Int):Option (List UInt8×Int):=if (-9223372036854775808≤n∧n≤9223372036854775807)∧st.1.length+10≤140737488355328 then some (fb st (bb (aI n))) else none
theorem tV (st:List UInt8×Int) (n:Int) (h:(-9223372036854775808≤n∧n≤9223372036854775807)∧st.1.length+10≤140737488355328):na st n=some (fb st (bb (aI n))):=if_pos h
theorem rq (g:Nat) (st:List UInt8×Int) (n:Int) (r:List UInt8×Int) (h:na st n=some r):aA Tryz.prog 159 #[.pointer (some ⟨g,0,none⟩),.int .i64 n] .triv (ba g st) (fun v A' N=>v= .tuple #[]∧A'=ba g r∧N = []):=by
 unfold na at h
 split at h
 ·rename_i h1
  obtain rfl:=C8 h
  exact Be (rh g st n h1.1.1 h1.1.2 h1.2)
 ·simp at h
def nb (st:List UInt8×Int) (n:Int):Option (List UInt8×Int):=if (-9223372036854775808≤n∧n≤9223372036854775807)∧st.1.length+10≤140737488355328 then some (fz st n) else none
theorem pY (st:List UInt8×Int) (n:Int) (h:(-9223372036854775808≤n∧n≤9223372036854775807)∧st.1.length+10≤140737488355328):nb st n=some (fz st n):=if_pos h
theorem nc (g:Nat) (st:List UInt8×Int) (n:Int) (r:List UInt8×Int) (h:nb st n=some r):aA Tryz.prog 160 #[.pointer (some ⟨g,0,none⟩),.int .i64 n] .triv (ba g st) (fun v A' N=>v= .tuple #[]∧A'=ba g r∧N = []):=by
 unfold nb at h
 split at h
 ·rename_i h1
  obtain rfl:=C8 h
  exact Be (mS g st n h1.1.1 h1.1.2 h1.2)
 ·simp at h
def pZ  (s:List UInt8):Option (Int):=if s.length≤8 then some (cG s) else none
theorem nd  (s:List UInt8) (h:s.length≤8):pZ  s=some (cG s):=if_pos h
theorem kv (s:List UInt8) (r:Int) (h:pZ  s=some r) (w:World):Calls Tryz.prog 63 #[.string (bsOf s)] w fun e w'=>e= .returned (.int .i64 r)∧w=w':=by
 unfold pZ at h
 split at h
 ·rename_i h1
  obtain rfl:=C8 h
  exact tG s h1 w
 ·simp at h
def fA  (n:Int) (k:Int):Option (List UInt8):=if (-9223372036854775808≤n∧n≤9223372036854775807)∧0≤k∧k≤8 then some (be n k.toNat) else none
theorem fg  (n:Int) (k:Int) (h:(-9223372036854775808≤n∧n≤9223372036854775807)∧0≤k∧k≤8):fA  n k=some (be n k.toNat):=if_pos h
theorem dV (n:Int) (k:Int) (r:List UInt8) (h:fA  n k=some r):aA Tryz.prog 42 #[.int .i64 n,.int .i64 k] .triv aD (fun v A' N=>v= .string (bsOf r)∧A'=aD∧N = []):=by
 unfold fA at h
 split at h
 ·rename_i h1
  obtain rfl:=C8 h
  exact BK (tT n k h1.1.1 h1.1.2 h1.2.1 h1.2.2)
 ·simp at h
def qa  (n:Int) (size:Int):Option (Bool):=if (-9223372036854775808≤n∧n≤9223372036854775807) then some (bj n size) else none
theorem rS  (n:Int) (size:Int) (h:(-9223372036854775808≤n∧n≤9223372036854775807)):qa  n size=some (bj n size):=if_pos h
theorem oW (n:Int) (size:Int) (r:Bool) (h:qa  n size=some r):aA Tryz.prog 116 #[.int .i64 n,.int .i64 size] .triv aD (fun v A' N=>v= .bool r∧A'=aD∧N = []):=by
 unfold qa at h
 split at h
 ·rename_i h1
  obtain rfl:=C8 h
  exact BK (xw n size h1.1 h1.2)
 ·simp at h
def sO  (n:Int):Option (Int):=if (-9223372036854775808≤n∧n≤9223372036854775807) then some (aI n:Int) else none
theorem xE  (n:Int) (h:(-9223372036854775808≤n∧n≤9223372036854775807)):sO  n=some (aI n:Int):=if_pos h
theorem tW (n:Int) (r:Int) (h:sO  n=some r) (w:World):Calls Tryz.prog 148 #[.int .i64 n] w fun e w'=>e= .returned (.int .u64 r)∧w=w':=by
 unfold sO at h
 split at h
 ·rename_i h1
  obtain rfl:=C8 h
  exact rP n h1.1 h1.2 w
 ·simp at h
def wq  (n:Int):Option (List UInt8):=if 0≤n∧n<18446744073709551616 then some (bb n.toNat) else none
theorem yG  (n:Int) (h:0≤n∧n<18446744073709551616):wq  n=some (bb n.toNat):=if_pos h
theorem vv (n:Int) (r:List UInt8) (h:wq  n=some r):aA Tryz.prog 147 #[.int .u64 n] .triv aD (fun v A' N=>v= .string (bsOf r)∧A'=aD∧N = []):=by
 unfold wq at h
 split at h
 ·rename_i h1
  obtain rfl:=C8 h
  exact BK (vr n h1.1 h1.2)
 ·simp at h
def gOf  (s:List UInt8):Option (Bl):=some (⟨false,s⟩:Bl)
theorem gOf_eq  (s:List UInt8):gOf  s=some (⟨false,s⟩:Bl):=rfl
theorem yH (s:List UInt8) (r:Bl) (h:gOf  s=some r):aA Tryz.prog 73 #[.string (bsOf s)] .triv aD (fun v A' N=>v= .agg #[.bool r.null,.string (bsOf r.data)]∧A'=aD∧N = []):=by
 unfold gOf at h
 obtain rfl:=C8 h
 exact BK (mU s)
def nQ  (b:Bl):Option (Bool):=some (aT b)
theorem rT  (b:Bl):nQ  b=some (aT b):=rfl
theorem oX (b:Bl) (r:Bool) (h:nQ  b=some r):aA Tryz.prog 76 #[.agg #[.bool b.null,.string (bsOf b.data)]] .triv aD (fun v A' N=>v= .bool r∧A'=aD∧N = []):=by
 unfold nQ at h
 obtain rfl:=C8 h
 exact BK (le b)
def iO (st:List UInt8×Int) (b:Bl) (size:Int):Option (List UInt8×Int):=if (-9223372036854775808≤size∧size≤9223372036854775807)∧st.1.length+8+b.data.length≤140737488355328 then some (jZ st b size) else none
theorem ne (st:List UInt8×Int) (b:Bl) (size:Int) (h:(-9223372036854775808≤size∧size≤9223372036854775807)∧st.1.length+8+b.data.length≤140737488355328):iO st b size=some (jZ st b size):=if_pos h
theorem li (g:Nat) (st:List UInt8×Int) (b:Bl) (size:Int) (r:List UInt8×Int) (h:iO st b size=some r):aA Tryz.prog 70 #[.pointer (some ⟨g,0,none⟩),.agg #[.bool b.null,.string (bsOf b.data)],.int .i64 size] .triv (ba g st) (fun v A' N=>v= .tuple #[]∧A'=ba g r∧N = []):=by
 unfold iO at h
 split at h
 ·rename_i h1
  obtain rfl:=C8 h
  exact Be (lf g st b size h1.1.1 h1.1.2 h1.2)
 ·simp at h
def fX (st:List UInt8×Int) (b:Bl):Option (List UInt8×Int):=if st.1.length+10+b.data.length≤140737488355328 then some (iV st b) else none
theorem mj (st:List UInt8×Int) (b:Bl) (h:st.1.length+10+b.data.length≤140737488355328):fX st b=some (iV st b):=if_pos h
theorem iB (g:Nat) (st:List UInt8×Int) (b:Bl) (r:List UInt8×Int) (h:fX st b=some r):aA Tryz.prog 161 #[.pointer (some ⟨g,0,none⟩),.agg #[.bool b.null,.string (bsOf b.data)]] .triv (ba g st) (fun v A' N=>v= .tuple #[]∧A'=ba g r∧N = []):=by
 unfold fX at h
 split at h
 ·rename_i h1
  obtain rfl:=C8 h
  exact Be (kK g st b h1)
 ·simp at h
def lj (st:List UInt8×Int) (s:List UInt8):Option (List UInt8×Int):=if st.1.length+8+s.length≤140737488355328 then some (pO st s) else none
theorem tX (st:List UInt8×Int) (s:List UInt8) (h:st.1.length+8+s.length≤140737488355328):lj st s=some (pO st s):=if_pos h
theorem rr (g:Nat) (st:List UInt8×Int) (s:List UInt8) (r:List UInt8×Int) (h:lj st s=some r):aA Tryz.prog 72 #[.pointer (some ⟨g,0,none⟩),.string (bsOf s)] .triv (ba g st) (fun v A' N=>v= .tuple #[]∧A'=ba g r∧N = []):=by
 unfold lj at h
 split at h
 ·rename_i h1
  obtain rfl:=C8 h
  exact Be (rj g st s h1)
 ·simp at h
def j7 (st:List UInt8×Int) (s:List UInt8):Option (List UInt8×Int):=if st.1.length+10+s.length≤140737488355328 then some (pP st s) else none
theorem tY (st:List UInt8×Int) (s:List UInt8) (h:st.1.length+10+s.length≤140737488355328):j7 st s=some (pP st s):=if_pos h
theorem ml (g:Nat) (st:List UInt8×Int) (s:List UInt8) (r:List UInt8×Int) (h:j7 st s=some r):aA Tryz.prog 140 #[.pointer (some ⟨g,0,none⟩),.string (bsOf s)] .triv (ba g st) (fun v A' N=>v= .tuple #[]∧A'=ba g r∧N = []):=by
 unfold j7 at h
 split at h
 ·rename_i h1
  obtain rfl:=C8 h
  exact Be (rk g st s h1)
 ·simp at h
def kw (st:I) (size:Int):Option (Bl×I):=some ((fH st size).1,(fH st size).2)
theorem xF (st:I) (size:Int):kw st size=some ((fH st size).1,(fH st size).2):=rfl
theorem oY (g:Nat) (st:I) (size:Int) (r:Bl×I) (h:kw st size=some r):aA Tryz.prog 56 #[.pointer (some ⟨g,0,none⟩),.int .i64 size] .triv (InR g st) (fun v A' N=>v= .agg #[.bool r.1.null,.string (bsOf r.1.data)]∧A'=InR g r.2∧N = []):=by
 unfold kw at h
 obtain rfl:=C8 h
 exact Be (oP g st size)
def bF (st:I)  : Option (Bl×I):=some ((e7 st).1,(e7 st).2)
theorem vw (st:I)  : bF st  = some ((e7 st).1,(e7 st).2):=rfl
theorem dx (g:Nat) (st:I)  (r:Bl×I) (h:bF st  = some r):aA Tryz.prog 166 #[.pointer (some ⟨g,0,none⟩)] .triv (InR g st) (fun v A' N=>v= .agg #[.bool r.1.null,.string (bsOf r.1.data)]∧A'=InR g r.2∧N = []):=by
 unfold bF at h
 obtain rfl:=C8 h
 exact Be (mV g st)
def rU (st:I)  : Option (List UInt8×I):=some ((wl st).1,(wl st).2)
theorem vx (g:Nat) (st:I)  (r:List UInt8×I) (h:rU st  = some r):aA Tryz.prog 59 #[.pointer (some ⟨g,0,none⟩)] .triv (InR g st) (fun v A' N=>v= .string (bsOf r.1)∧A'=InR g r.2∧N = []):=by
 unfold rU at h
 obtain rfl:=C8 h
 exact Be (vi g st)
def qb (st:I)  : Option (List UInt8×I):=some ((wm st).1,(wm st).2)
theorem qc (g:Nat) (st:I)  (r:List UInt8×I) (h:qb st  = some r):aA Tryz.prog 163 #[.pointer (some ⟨g,0,none⟩)] .triv (InR g st) (fun v A' N=>v= .string (bsOf r.1)∧A'=InR g r.2∧N = []):=by
 unfold qb at h
 obtain rfl:=C8 h
 exact Be (vj g st)
def ng  (s:List UInt8):Option (Bool):=some (kt s)
theorem vy  (s:List UInt8):ng  s=some (kt s):=rfl
theorem sP (s:List UInt8) (r:Bool) (h:ng  s=some r) (w:World):Calls Tryz.prog 77 #[.string (bsOf s)] w fun e w'=>e= .returned (.bool r)∧w=w':=by
 unfold ng at h
 obtain rfl:=C8 h
 exact vm s w
def ja  (b:Bl) (k:Int):Option (List UInt8):=if 0≤k∧k≤8∧b.data.length≤140737488355328 then some (be (bH b) k.toNat++b.data) else none
theorem lk  (b:Bl) (k:Int) (h:0≤k∧k≤8∧b.data.length≤140737488355328):ja  b k=some (be (bH b) k.toNat++b.data):=if_pos h
theorem jK (b:Bl) (k:Int) (r:List UInt8) (h:ja  b k=some r):aA Tryz.prog 67 #[.agg #[.bool b.null,.string (bsOf b.data)],.int .i64 k] .triv aD (fun v A' N=>v= .string (bsOf r)∧A'=aD∧N = []):=by
 unfold ja at h
 split at h
 ·rename_i h1
  obtain rfl:=C8 h
  exact BK (ro b k h1.1 h1.2.1 h1.2.2)
 ·simp at h
def gK  (b:Bl):Option (List UInt8):=if b.data.length≤140737488355328 then some (bb (aI (bH b))++b.data) else none
theorem iJ  (b:Bl) (h:b.data.length≤140737488355328):gK  b=some (bb (aI (bH b))++b.data):=if_pos h
theorem bU (b:Bl) (r:List UInt8) (h:gK  b=some r):aA Tryz.prog 114 #[.agg #[.bool b.null,.string (bsOf b.data)]] .triv aD (fun v A' N=>v= .string (bsOf r)∧A'=aD∧N = []):=by
 unfold gK at h
 split at h
 ·rename_i h1
  obtain rfl:=C8 h
  exact BK (rn b h1)
 ·simp at h
end Go.Proofs.YtcoppaggpbfcmaaGreat.Sl
