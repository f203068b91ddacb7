/- scanFeeds_holds: part 0. -/
import Derived.WalkKit
import Derived.Below
import Derived.Laws.OwnMore
import Derived.Deep.Draws
import Derived.Laws.Rows
import Derived.Lib.Hide
import Derived.Lib.AppendStr
import Derived.Maps.AppendAt
import Derived.OwnWalk
import Derived.Deep.AppendLies
import Derived.Laws.BytesArg
import Derived.Deep.WholeRow
import Derived.ChangeArms
import Derived.ChangeSlices
import Derived.Deep.Slices
import Derived.OpenShut
import Derived.WideShapes
import Derived.Test.YtahjmpipllajcaaGreatProg
import Derived.KernelRfl
import Derived.Deep.QuietTactic
import Derived.BigQuiet
import Derived.LoopN
import Derived.WalkSpells
import Derived.WalkLawsBesides
import Derived.Lib.Strings
import Derived.Laws.BitsLemmas
import Derived.Scope
import Derived.ScopeJumps
import Derived.WalkMore
import Derived.OrdersHeld
set_option maxRecDepth 100000
set_option maxHeartbeats 4000000
set_option linter.defProp false
namespace Go.Proofs.YtahjmpipllajcaaGreat.Sl
open Go.RowKit
set_option linter.unusedVariables false
abbrev jI (n : Int) : Value := .int .i64 n
abbrev jP (n : Nat) : Value := .pointer (some ⟨n, 0, none⟩)
theorem jF {α : Sort _} {P : Prop} [Decidable P] {a b c : α} (h : (if P then a else b) = c) : (P ∧ a = c) ∨ (¬P ∧ b = c) := by by_cases p : P; exact .inl ⟨p, (if_pos p).symm.trans h⟩; exact .inr ⟨p, (if_neg p).symm.trans h⟩
theorem Z {α : Sort _} {a : α} : a = a := rfl
def xa := @Option.some.inj
def xb := @Option.bind_some
theorem xd {α : Type} {l : List α} {i : Nat} {a : α} (h : l[i]? = some a) : ∃ w : i < l.length, l[i] = a := List.getElem?_eq_some_iff.1 h
def xe := @List.length_drop
def xf := @List.length_append
def xq := @List.append_assoc
def xw := @List.length_cons
def xx := @List.length_take
def xy := @List.nil_append
def xB := @Nat.le_refl
def xC := @Int.toNat_natCast
def xH := @Nat.zero_le
def xM := @List.drop_drop
def xN := @List.append_nil
def xR := @List.length_nil
def yP := @List.length_map
structure Fr (F:Nat→Prop) (w w':World):Prop where
 os:w'.os=w.os
 tape:w'.tape=w.tape
 output:w'.output=w.output
 size:w.heap.size≤w'.heap.size
 block: ∀ k,k<w.heap.size→ ¬ F k→w'.heap[k]? = w.heap[k]?
theorem Fr.refl (F:Nat→Prop) (w:World):Fr F w w:=⟨rfl,rfl,rfl,xB _,fun _ _ _=>rfl⟩
theorem Fr.trans {F G:Nat→Prop} {a b c:World} (h:Fr F a b) (k:Fr G b c) (hg: ∀ k,G k→F k∨a.heap.size≤k):Fr F a c :=
 ⟨k.os.trans h.os,k.tape.trans h.tape,k.output.trans h.output,Nat.le_trans h.size k.size,fun i hi hn =>
  (k.block i (Nat.lt_of_lt_of_le hi h.size) (fun h2=>(hg i h2).elim hn (fun h3=>by omega))).trans (h.block i hi hn)⟩
theorem wl {F:Nat→Prop} {w w':World} (h:Below w.heap.size w w'):Fr F w w':=⟨h.os,h.tape,h.output,h.size,fun k hk _=>h.block k hk⟩
theorem Fr.below {w w':World} (h:Fr (fun _=>False) w w'):Below w.heap.size w w':=⟨h.os,h.tape,h.output,h.size,fun k hk=>h.block k hk (fun h=>h)⟩
theorem vW {F:Nat→Prop} {w w':World} {row:Option Nat} (h:w.grownBy w' row) (hr: ∀ k,row=some k→F k):Fr F w w' :=
 ⟨h.os,h.tape,h.output,h.size,fun k hk hn=>h.block k hk (fun e=>hn (hr k e.symm))⟩
theorem Fr.mono {F G:Nat→Prop} {w w':World} (h:Fr F w w') (hg: ∀ k,F k→G k):Fr G w w':=⟨h.os,h.tape,h.output,h.size,fun k hk hn=>h.block k hk (fun h2=>hn (hg k h2))⟩
theorem Fr.drew {F:Nat→Prop} {w w':World} (h:Fr F w w'):Fr F w w'.drew:=⟨h.os,h.tape,h.output,h.size,h.block⟩
theorem Fr.drewN {F:Nat→Prop} {w w':World} (h:Fr F w w') (n:Nat):Fr F w (w'.drewN n):=⟨h.os,h.tape,h.output,h.size,h.block⟩
theorem Fr.set {F:Nat→Prop} {w w':World} (h:Fr F w w') {p:Addr} (hp:F p.block∨w.heap.size≤p.block) (u:Value):Fr F w (w'.setCell p u) :=
 h.trans (G:=fun k=>k=p.block) ⟨rfl,rfl,rfl,by simp[World.setCell],fun k _ hn=>Below.heap_setCell _ _ _ _ hn⟩ (fun k hk=>by rw[hk]; exact hp)
structure Res where
 P:World→(Nat→Prop)→Prop
 lt: ∀ {w:World} {G:Nat→Prop},P w G→ ∀ k,G k→k<w.heap.size
 move: ∀ {w w':World} {G:Nat→Prop},P w G→(∀ k,G k→w'.heap[k]? = w.heap[k]?)→P w' G
def Sep:List Res→World→(Nat→Prop)→Prop
 | [],_,_=>True
 | R::Rs,w,F=> ∃ G,R.P w G∧(∀ k,G k→F k)∧Sep Rs w (fun k=>F k∧ ¬ G k)
theorem Sep.mono: ∀ {Rs:List Res} {w:World} {F F':Nat→Prop},Sep Rs w F→(∀ k,F k→F' k)→Sep Rs w F'
 | [],_,_,_,_,_=>trivial
 | _ :: _,_,_,_,⟨G,h1,h2,h3⟩,hf=>⟨G,h1,fun k hk=>hf k (h2 k hk),h3.mono (fun k hk=>⟨hf k hk.1,hk.2⟩)⟩
theorem Sep.inside: ∀ {Rs:List Res} {w:World} {F:Nat→Prop},Sep Rs w F→Sep Rs w (fun k=>F k∧k<w.heap.size)
 | [],_,_,_=>trivial
 | R :: _,_,_,⟨G,h1,h2,h3⟩=>⟨G,h1,fun k hk=>⟨h2 k hk,R.lt h1 k hk⟩,h3.inside.mono (fun k hk=>⟨⟨hk.1.1,hk.2⟩,hk.1.2⟩)⟩
theorem Sep.move_: ∀ {Rs:List Res} {w w':World} {F:Nat→Prop},Sep Rs w F→(∀ k,F k→w'.heap[k]? = w.heap[k]?)→Sep Rs w' F
 | [],_,_,_,_,_=>trivial
 | R :: _,_,_,_,⟨G,h1,h2,h3⟩,hm=>⟨G,R.move h1 (fun k hk=>hm k (h2 k hk)),h2,h3.move_ (fun k hk=>hm k hk.1)⟩
theorem Sep.move {Rs:List Res} {w w':World} {F:Nat→Prop} (h:Sep Rs w F) (hm: ∀ k,F k→k<w.heap.size→w'.heap[k]? = w.heap[k]?):Sep Rs w' F :=
 (h.inside.move_ (fun k hk=>hm k hk.1 hk.2)).mono (fun _ hk=>hk.1)
theorem Sep.pick: ∀ {Rs:List Res} (i:Nat) {A:Res} {w:World} {F:Nat→Prop},Rs[i]? = some A→Sep Rs w F→ ∃ G,A.P w G∧(∀ k,G k→F k)∧Sep (Rs.eraseIdx i) w (fun k=>F k∧ ¬ G k)
 | [],i,_,_,_,hi,_=>by simp at hi
 | R::Rs,0,A,w,F,hi,h=>by
  have e:R=A:=by simpa using hi
  subst e
  exact h
 | R::Rs,i+1,A,w,F,hi,⟨G,h1,h2,h3⟩=>by
  obtain⟨G',k1,k2,k3⟩:=Sep.pick i (by simpa using hi) h3
  exact⟨G',k1,fun k hk=>(k2 k hk).1,G,h1,fun k hk=>⟨h2 k hk,fun h=>(k2 k h).2 hk⟩,k3.mono (fun k hk=>⟨⟨hk.1.1,hk.2⟩,hk.1.2⟩)⟩
theorem Sep.back: ∀ {Rs:List Res} (i:Nat) {A A':Res} {w:World} {F G:Nat→Prop},Rs[i]? = some A→A'.P w G→(∀ k,G k→F k)→Sep (Rs.eraseIdx i) w (fun k=>F k∧ ¬ G k)→Sep (Rs.set i A') w F
 | [],i,_,_,_,_,_,hi,_,_,_=>by simp at hi
 | R::Rs,0,A,A',w,F,G,hi,h1,h2,h3=>⟨G,h1,h2,h3⟩
 | R::Rs,i+1,A,A',w,F,G,hi,h1,h2,⟨G',k1,k2,k3⟩ =>
  ⟨G',k1,fun k hk=>(k2 k hk).1,Sep.back i (by simpa using hi) h1 (fun k hk=>⟨h2 k hk,fun h=>(k2 k h).2 hk⟩) (k3.mono (fun k hk=>⟨⟨hk.1.1,hk.2⟩,hk.1.2⟩))⟩
theorem Sep.append: ∀ {Ns Rs:List Res} {w:World} {F G:Nat→Prop},Sep Ns w G→Sep Rs w (fun k=>F k∧ ¬ G k)→(∀ k,G k→F k)→Sep (Ns++Rs) w F
 | [],_,_,_,_,_,h,_=>h.mono (fun _ hk=>hk.1)
 | N::Ns,Rs,w,F,G,⟨H,h1,h2,h3⟩,h,hg =>
  ⟨H,h1,fun k hk=>hg k (h2 k hk),Sep.append h3 (h.mono (fun k hk=>⟨⟨hk.1,fun h4=>hk.2 (h2 k h4)⟩,fun h4=>hk.2 h4.1⟩)) (fun k hk=>⟨hg k hk.1,hk.2⟩)⟩
theorem Sep.one {R:Res} {w:World} {F:Nat→Prop} (h:R.P w F):Sep [R] w F:=⟨F,h,fun _ h=>h,trivial⟩
structure St (F0:Nat→Prop) (w0:World) (Rs:List Res) (w:World):Prop where
 fr:Fr F0 w0 w
 sep:Sep Rs w (fun k=>F0 k∨w0.heap.size≤k)
section
variable {F0:Nat→Prop} {w0 w w':World} {Rs:List Res} {A A':Res}
theorem ve (F0:Nat→Prop) (w:World) (h:Sep Rs w F0):St F0 w Rs w:=⟨Fr.refl _ _,h.mono (fun _ hk=> .inl hk)⟩
theorem vR (w:World):St (fun _=>False) w [] w:=⟨Fr.refl _ _,trivial⟩
theorem St.drew (h:St F0 w0 Rs w):St F0 w0 Rs w.drew:=⟨h.fr.drew,h.sep.move (fun _ _ _=>rfl)⟩
theorem St.drewN (h:St F0 w0 Rs w) (n:Nat):St F0 w0 Rs (w.drewN n):=⟨h.fr.drewN n,h.sep.move (fun _ _ _=>rfl)⟩
theorem St.drop_ (h:St F0 w0 (A::Rs) w):St F0 w0 Rs w:=by
 obtain⟨f,G,_,_,h3⟩:=h
 exact⟨f,h3.mono (fun _ hk=>hk.1)⟩
theorem St.del (i:Nat) (h:St F0 w0 Rs w) (hi:Rs[i]? = some A):St F0 w0 (Rs.eraseIdx i) w:=by
 obtain⟨f,hs⟩:=h
 obtain⟨G,_,_,h3⟩:=Sep.pick i hi hs
 exact⟨f,h3.mono (fun _ hk=>hk.1)⟩
theorem St.weaken (i:Nat) (h:St F0 w0 Rs w) (hi:Rs[i]? = some A) (hA: ∀ G,A.P w G→A'.P w G):St F0 w0 (Rs.set i A') w:=by
 obtain⟨f,hs⟩:=h
 obtain⟨G,h1,h2,h3⟩:=Sep.pick i hi hs
 exact⟨f,Sep.back i hi (hA _ h1) h2 h3⟩
theorem St.get (i:Nat) (h:St F0 w0 Rs w) (hi:Rs[i]? = some A): ∃ G,A.P w G∧(∀ k,G k→F0 k∨w0.heap.size≤k):=by
 obtain⟨G,h1,h2,_⟩:=Sep.pick i hi h.sep
 exact⟨G,h1,h2⟩
theorem St.step (i:Nat) (h:St F0 w0 Rs w) (hi:Rs[i]? = some A) {Ns:List Res}
 (hs: ∀ G,A.P w G→Fr G w w'∧Sep (A'::Ns) w' (fun k=>G k∨w.heap.size≤k)):St F0 w0 (Ns++Rs.set i A') w':=by
 obtain⟨f,hp⟩:=h
 obtain⟨G,h1,h2,h3⟩:=Sep.pick i hi hp
 obtain⟨f2,G2,k1,k2,k3⟩:=hs G h1
 refine⟨f.trans f2 h2,?_⟩
 have hle:=f.size
 have hR:Sep (Rs.eraseIdx i) w' (fun k=>((F0 k∨w0.heap.size≤k)∧ ¬ G k)∧k<w.heap.size):=h3.inside.move (fun k hk _=>f2.block k hk.2 hk.1.2)
 refine Sep.append k3 (F:=fun k=>F0 k∨w0.heap.size≤k) (Sep.back i hi k1 (fun k hk=>⟨?_,fun hn=>hn.2 hk⟩) (hR.mono (fun k hk=>⟨⟨hk.1.1,?_⟩,?_⟩))) ?_
 ·rcases k2 k hk with h4 | h4
  ·exact h2 k h4
  ·exact .inr (by omega)
 ·rintro⟨h4 | h4,_⟩
  ·exact hk.1.2 h4
  ·have:=hk.2; omega
 ·intro h4
  rcases k2 k h4 with h5 | h5
  ·exact hk.1.2 h5
  ·have:=hk.2; omega
 ·rintro k ⟨h4 | h4,_⟩
  ·exact h2 k h4
  ·exact .inr (by omega)
theorem St.grow (h:St F0 w0 Rs w) {Ns:List Res} (f2:Fr (fun _=>False) w w') (k3:Sep Ns w' (fun k=>w.heap.size≤k)):St F0 w0 (Ns++Rs) w':=by
 obtain⟨f,hp⟩:=h
 have hle:=f.size
 refine⟨f.trans f2 (fun _ h=>h.elim),Sep.append k3 ((hp.inside.move (fun k hk _=>f2.block k hk.2 (fun h=>h))).mono (fun k hk=>⟨hk.1,by have:=hk.2; omega⟩)) (fun k hk=> .inr (by omega))⟩
theorem St.below (h:St (fun _=>False) w0 Rs w):Below w0.heap.size w0 w:=h.fr.below
end
def aD (b:Nat) (T:TypeId) (cs:Array Value):Res where
 P:=fun w G=>w.heap[b]? = some (.cells cs T (0,0))∧ ∀ k,G k↔k=b
 lt:=fun h k hk=>by
  rw[(h.2 k).1 hk]
  exact (Array.getElem?_eq_some_iff.1 h.1).1
 move:=fun h hm=>⟨(hm _ ((h.2 _).2 rfl)).trans h.1,h.2⟩
section
variable {F0:Nat→Prop} {w0 w w':World} {Rs:List Res} {b:Nat} {T:TypeId} {cs:Array Value}
theorem aJ (h:w.heap[b]? = some (.cells cs T (0,0))) (i:Nat):w.cell? ⟨b,i,none⟩=cs[i]? := cell_of_row w b i cs T (0,0) h
theorem bt (h:w.heap[b]? = some (.cells cs T (0,0))) (i:Nat):w.frozen? ⟨b,i,none⟩=false:=by simp[World.frozen?,h]
theorem jB (h:w.heap[b]? = some (.cells cs T (0,0))) (i:Nat) (u:Value):(w.setCell ⟨b,i,none⟩ u).heap[b]? = some (.cells (cs.setIfInBounds i u) T (0,0)):=by
 simp[World.setCell,Array.getElem?_modify,h]
theorem jC {o:Obj} (h:w.heap[b]? = some o):b<w.heap.size:=(Array.getElem?_eq_some_iff.1 h).1
theorem St.blk (i:Nat) (h:St F0 w0 Rs w) (hi:Rs[i]? = some (aD b T cs)):w.heap[b]? = some (.cells cs T (0,0)):=by
 obtain⟨G,h1,_⟩:=h.get i hi
 exact h1.1
theorem St.alloc (h:St F0 w0 Rs w) (cs:Array Value) (T:TypeId):St F0 w0 (aD w.heap.size T cs::Rs) (w.alloc (.cells cs T)) :=
 h.grow (Ns := [aD w.heap.size T cs]) (wl ((Below.refl _ _).alloc (xB _) _)) ⟨fun k=>k=w.heap.size,⟨heap_alloc_new w _,fun _=>Iff.rfl⟩,fun k hk=>by omega,trivial⟩
theorem St.set (i:Nat) (h:St F0 w0 Rs w) (hi:Rs[i]? = some (aD b T cs)) (j:Nat) (u:Value):St F0 w0 (Rs.set i (aD b T (cs.setIfInBounds j u))) (w.setCell ⟨b,j,none⟩ u):=by
 refine h.step i hi (Ns := []) (fun G hG=>⟨?_,G,⟨jB hG.1 j u,hG.2⟩,fun k hk=> .inl hk,trivial⟩)
 exact (Fr.refl G w).set (p:=⟨b,j,none⟩) (.inl ((hG.2 b).2 rfl)) u
end
def lf (Q:Value→Res→List Res→Prop) (F:Nat→Prop) (w:World) (e:Ending) (w':World):Prop:= ∃ v A' Ns,e= .returned v∧Q v A' Ns∧St F w (A'::Ns) w'
def Post0 (Q:Value→List Res→Prop) (w:World) (e:Ending) (w':World):Prop:= ∃ v Ns,e= .returned v∧Q v Ns∧St (fun _=>False) w Ns w'
def eg (P:Program) (f:FuncId) (args:Array Value) (A:Res) (Q:Value→Res→List Res→Prop):Prop :=
 ∀ F w,A.P w F→Calls P f args w (lf Q F w)
def gm (P:Program) (f:FuncId) (args:Array Value) (Q:Value→List Res→Prop):Prop :=
 ∀ w,Calls P f args w (Post0 Q w)
section
variable {P:Program} {f:FuncId} {args:Array Value} {F0:Nat→Prop} {w0 w:World} {Rs:List Res} {A:Res}
theorem St.call {Q:Value→Res→List Res→Prop} (i:Nat) (h:St F0 w0 Rs w) (hi:Rs[i]? = some A) (hs:eg P f args A Q) :
 Calls P f args w fun e w'=> ∃ v A' Ns,e= .returned v∧Q v A' Ns∧St F0 w0 (Ns++Rs.set i A') w':=by
 obtain⟨G0,hG0,hsub⟩:=h.get i hi
 obtain⟨G,h1,h2,h3⟩:=Sep.pick i hi h.sep
 refine (hs G w h1).mono ?_
 rintro e w' ⟨v,A',Ns,rfl,hq,hst⟩
 refine⟨v,A',Ns,rfl,hq,?_⟩
 obtain⟨f2,G2,k1,k2,k3⟩:=hst
 have f:=h.fr
 refine⟨f.trans f2 h2,?_⟩
 have hle:=f.size
 have hR:Sep (Rs.eraseIdx i) w' (fun k=>((F0 k∨w0.heap.size≤k)∧ ¬ G k)∧k<w.heap.size):=h3.inside.move (fun k hk _=>f2.block k hk.2 hk.1.2)
 refine Sep.append k3 (F:=fun k=>F0 k∨w0.heap.size≤k) (Sep.back i hi k1 (fun k hk=>⟨?_,fun hn=>hn.2 hk⟩) (hR.mono (fun k hk=>⟨⟨hk.1.1,?_⟩,?_⟩))) ?_
 ·rcases k2 k hk with h4 | h4
  ·exact h2 k h4
  ·exact .inr (by omega)
 ·rintro⟨h4 | h4,_⟩
  ·exact hk.1.2 h4
  ·have:=hk.2; omega
 ·intro h4
  rcases k2 k h4 with h5 | h5
  ·exact hk.1.2 h5
  ·have:=hk.2; omega
 ·rintro k ⟨h4 | h4,_⟩
  ·exact h2 k h4
  ·exact .inr (by omega)
theorem v7 {Q:Value→List Res→Prop} (h:St F0 w0 Rs w) (hs:gm P f args Q) :
 Calls P f args w fun e w'=> ∃ v Ns,e= .returned v∧Q v Ns∧St F0 w0 (Ns++Rs) w':=by
 refine (hs w).mono ?_
 rintro e w' ⟨v,Ns,rfl,hq,hst⟩
 refine⟨v,Ns,rfl,hq,h.grow hst.fr (hst.sep.mono (fun k hk=>hk.elim (fun h=>h.elim) id))⟩
end
def aO (l:List UInt8):List Value:=l.map fun b=>Value.int .u8 b.toNat
theorem gp (l m:List UInt8):aO (l++m)=aO l++aO m:=by simp[aO]
theorem iV (s:ByteArray):Lib.strCells s=aO s.data.toList:=rfl
section
variable {P:Program} (w:World)
theorem iW (t u ty e:TypeId) (i:TypeInfo) (ht:P.underlying t=some (.slice e)) (hu:P.underlying u=some .string) (hi:P.info? e=some i) (hz:i.zero=some (.int .u8 0))
 (hsize:i.size=1) (hby:i.bytes=1)
 (v:Value) (n:Nat) (xs:List Value) (hown:w.ownsRow 0 e 1 v n xs) (s:ByteArray) (hbytes:n+s.size≤140737488355328) :
 ∃ v' w',(Builtin.append_ #[t,u] ty #[v,.string s]).run P w= .ok v' w'∧w'.ownsRow 0 e 1 v' (n+s.size) (xs++Lib.strCells s)∧w.grownBy w' v.ownBlock ∧
  (v'.ownBlock=v.ownBlock∨v'.ownBlock=some w.heap.size):=by
 obtain⟨v',w',hr,h2,h3,h4⟩:=Lib.run_append_own_string (P:=P) w 0 t u ty e i ht hu hi hz hsize hby v n xs hown s (by simp only[maxLen]; omega) hbytes (xH _)
 refine⟨v',w',hr,h2,h3,?_⟩
 rcases hown.2 with⟨rfl,rfl⟩ | ⟨g,cap,cur,rfl,hbg,hg,hnc,hcm,hcs,htake⟩
 ·by_cases hm:s.size=0
  ·left
   rw[h4.2 ⟨rfl,hm⟩]
  ·right
   have hr2:=run_append_nil_string (P:=P) w t u ty e i (.int .u8 0) ht hu hi hz s (by omega) (by omega) (by rw[hby]; omega)
   rw[hr] at hr2
   injection hr2 with hv _
   rw[hv]
   rfl
 ·by_cases hroom:n+s.size≤cap
  ·left
   have hcs':cur.size=cap:=by simpa using hcs
   have hr2:=Lib.run_append_room_string (P:=P) w t u ty e i ht hu hi hsize g n cap cur hg s hroom (by omega)
   rw[hr] at hr2
   injection hr2 with hv _
   rw[hv]
   rfl
  ·right
   have hxl:xs.length=n:=by simpa using hown.1
   have holds: ∀ j u,xs[j]? = some u→w.cell? ((⟨g,0,none⟩:Addr).add j)=some u:=hown.cells (g:=g) rfl
   have hr2:=Lib.run_append_grow_string (P:=P) w t u ty e i (.int .u8 0) ht hu hi hz ⟨g,0,none⟩ n cap xs (by rw[hsize]; simpa using hxl) holds s (by omega) (by omega) (by rw[hby]; exact growslice_fits (by omega) (by omega))
   rw[hr] at hr2
   injection hr2 with hv _
   rw[hv]
   rfl
theorem j4 {ops:Array Oper} {rest:List Oper} {o:Oper} {a:Act} {Q:Exit→Act→World→Prop} (hgd:o.guard=none) (sl x:Operand) (t u:TypeId)
 (ho:o.op= .call { callee:= .builtin .append,args:= #[sl,x],argTypes:= #[t,u] })
 (e:TypeId) (ht:P.underlying t=some (.slice e)) (hu:P.underlying u=some .string) (hinfo:(P.info? e).map (fun i=>(i.zero,i.size,i.bytes))=some (some (.int .u8 0),1,1))
 (v:Value) (n:Nat) (xs:List Value) (hs:a.eval sl=v) (hown:w.ownsRow 0 e 1 v n xs) (s:ByteArray) (hx:a.eval x= .string s) (hbytes:n+s.size≤140737488355328)
 (h: ∀ v' w',w'.ownsRow 0 e 1 v' (n+s.size) (xs++Lib.strCells s)→w.grownBy w' v.ownBlock→(v'.ownBlock=v.ownBlock∨v'.ownBlock=some w.heap.size)→wpList P ops Q rest (a.put o.dst v') w'):wpList P ops Q (o::rest) a w:=by
 obtain⟨i,hi,hzz⟩:=Option.map_eq_some_iff.1 hinfo
 simp only[Prod.mk.injEq] at hzz
 refine wpList_plain hgd fun K hK=> ?_
 obtain⟨v',w',hr,h2,h3,h4⟩:=iW (P:=P) w t u o.type e i ht hu hi hzz.1 hzz.2.1 hzz.2.2 v n xs hown s hbytes
 unfold Oper.wp execOp
 simp only[ho,resolve,invoke,builtin,Sem.run_bind,Sem.run_pure,Result.andThen_ok,List.map_toArray,List.map_cons,List.map_nil,hs,hx,hr]
 exact hK _ _ (h v' w' h2 h3 h4)
theorem j5 {ops:Array Oper} {rest:List Oper} {o:Oper} {a:Act} {Q:Exit→Act→World→Prop} (hgd:o.guard=none) (sl x:Operand) (t:TypeId)
 (ho:o.op= .call { callee:= .builtin .append,args:= #[sl,x],argTypes:= #[t,t] })
 (e:TypeId) (z:Value) (bytes:Nat) (ht:P.underlying t=some (.slice e)) (hinfo:(P.info? e).map (fun i=>(i.zero,i.size,i.bytes))=some (some z,1,bytes)) (hz:z.cells.size=1)
 (v:Value) (n:Nat) (xs:List Value) (hs:a.eval sl=v) (hown:w.ownsRow 0 e 1 v n xs) (y:Value) (hy:y.oneCell'=true) (hx:a.eval x= .slice (some ⟨w.heap.size,0,none⟩) 1 1)
 (hbytes:(n+1)*bytes≤140737488355328) (hmax:n+1≤140737488355328)
 (h: ∀ v' w',w'.ownsRow 0 e 1 v' (n+1) (xs ++ [y])→w.grownBy w' v.ownBlock→(v'.ownBlock=v.ownBlock∨ ∃ k,v'.ownBlock=some k∧w.heap.size≤k)→wpList P ops Q rest (a.put o.dst v') w') :
 wpList P ops Q (o::rest) a (w.alloc (.cells #[y] e)):=by
 obtain⟨i,hi,hzz⟩:=Option.map_eq_some_iff.1 hinfo
 simp only[Prod.mk.injEq] at hzz
 obtain⟨hz0,hz1,hz2⟩:=hzz
 refine wpList_append_own_at (w.alloc (.cells #[y] e)) hgd sl x t ho 0 e i z 1 bytes ht hi hz0 hz1 hz2 hz (by omega) v n xs hs (hown.alloc _) ⟨w.heap.size,0,none⟩ 1 1 [y] hx rfl
  (by simpa using World.news_of_block (cs:= #[y]) (t:=e) (fr:=(0,0)) (heap_alloc_new w (.cells #[y] e))) (by simpa using hy) (by simp only[maxLen]; omega) hbytes (xH _) ?_
 intro v' w' hown' hg _ hat
 refine h v' w' hown' (World.grownBy.trans (World.grownBy_alloc w _ _) hg) ?_
 rcases hat with hat | hat
 ·exact .inl hat
 ·exact .inr ⟨_,hat,by simp⟩
theorem lI (w:World) {src dst e:TypeId} {v:Value} {l:List UInt8} {n:Nat} (hs:P.underlying src=some (.slice e)) (he:P.underlying e=some (.int .u8)) (hd:P.underlying dst=some .string)
 (h:w.ownsRow 0 e 1 v n (aO l)):(convert src dst v).run P w= .ok (.string ⟨l.toArray⟩) w:=by
 have hl:l.length=n:=by have:=h.1; simp[aO] at this; exact this
 have hstr:strOfNums (l.map fun b=>(b.toNat:Int))=⟨l.toArray⟩:=by
  unfold strOfNums
  congr 1
  simp[List.map_map,Function.comp_def]
 rcases h.2 with⟨rfl,rfl⟩ | ⟨g,cap,cur,rfl,_⟩
 ·obtain rfl:l = []:=List.eq_nil_of_length_eq_zero hl
  exact run_convert_bytes_nil w src e hs he 0 0 dst hd
 ·rw[← hstr]
  refine run_convert_bytes_arg w src e hs he g 0 n cap _ (by simpa using hl) (fun i hi=> ?_) dst hd
  have hc:=h.cells (g:=g) rfl i (.int .u8 ((l.map fun b=>(b.toNat:Int)).getD i 0)) (by simp[aO,List.getElem?_eq_getElem (show i<l.length by omega),List.getD_eq_getElem?_getD])
  have ha:(⟨g,0,none⟩:Addr).add i=⟨g,0+i,none⟩:=by unfold Addr.add; split <;> simp_all
  rwa [ha] at hc
theorem lJ {w:World} {e t:TypeId} {size n b:Nat} {v:Value} {xs:List Value} {cs:Array Value} (h:w.ownsRow 0 e size v n xs) (hg:w.heap[b]? = some (.cells cs t (0,0))) (hne:e≠t):some b≠v.ownBlock:=by
 rcases h.2 with⟨rfl,_⟩ | ⟨g',cap,cur,rfl,_,hh,_⟩
 ·simp[Value.ownBlock]
 ·intro he
  have:b=g':=by simpa [Value.ownBlock] using he
  subst this
  rw[hg] at hh
  injection hh with hh
  injection hh with _ ht
  exact hne ht.symm
theorem qF {w:World} {e:TypeId} {size n:Nat} {v:Value} {xs:List Value} (h:w.ownsRow 0 e size v n xs) {p:Addr} (hne:some p.block≠v.ownBlock) (u:Value):(w.setCell p u).ownsRow 0 e size v n xs:=by
 obtain⟨h1,h2⟩:=h
 refine⟨h1,?_⟩
 rcases h2 with h2 | ⟨g,cap,cur,rfl,hg,hh,r⟩
 ·exact .inl h2
 ·exact .inr ⟨g,cap,cur,rfl,hg,by rw[Below.heap_setCell _ _ _ _ (fun e=>hne (by rw[e]; rfl))]; exact hh,r⟩
theorem oq {w w':World} {e:TypeId} {size n:Nat} {v:Value} {xs:List Value} (h:w.ownsRow 0 e size v n xs) (hm: ∀ k,v.ownBlock=some k→w'.heap[k]? = w.heap[k]?):w'.ownsRow 0 e size v n xs:=by
 obtain⟨h1,h2⟩:=h
 refine⟨h1,?_⟩
 rcases h2 with h2 | ⟨g,cap,cur,rfl,hg,hh,r⟩
 ·exact .inl h2
 ·exact .inr ⟨g,cap,cur,rfl,hg,(hm g rfl).trans hh,r⟩
theorem fu {w:World} {e:TypeId} {size n:Nat} {v:Value} {xs:List Value} (h:w.ownsRow 0 e size v n xs): ∃ a c,v= .slice a n c:=by
 rcases h.2 with⟨rfl,rfl⟩ | ⟨g,cap,cur,rfl,_⟩
 ·exact⟨none,0,rfl⟩
 ·exact⟨_,cap,rfl⟩
theorem si {w:World} {e:TypeId} {size n:Nat} {v:Value} {xs:List Value} (h:w.ownsRow 0 e size v n xs): ∀ k,v.ownBlock=some k→k<w.heap.size:=fun k hk=>(h.lt k hk).2
end
section
variable {P:Program}
end
section
variable {F0:Nat→Prop} {w0 w w1:World} {Rs:List Res} {T:TypeId} {size n:Nat} {v v1:Value} {xs ys:List Value}
end
open Go.RowKit Go.Deep Go.ChangeShapes
structure Rd (α:Type) where
 P:World→(Nat→Prop)→List Value→α→Prop
 mono: ∀ {w:World} {S S':Nat→Prop} {cs:List Value} {a:α},P w S cs a→(∀ k,S k→S' k)→P w S' cs a
 move: ∀ {w w':World} {S:Nat→Prop} {cs:List Value} {a:α},P w S cs a→(∀ k,S k→w'.heap[k]? = w.heap[k]?)→P w' S cs a
def intRd (q:IntKind):Rd Int where
 P:=fun _ _ cs n=>cs = [.int q n]∧(Lit.int q n).wf=true
 mono:=fun h _=>h
 move:=fun h _=>h
def rowAt {α:Type} (size:Nat) (E:Rd α) (w:World) (S:Nat→Prop) (a:Addr) (l:List α):Prop :=
 ∀ i x,l[i]? = some x→ ∃ cs,cs.length=size∧(∀ j,j<size→w.cell? (a.add (i*size+j))=cs[j]?)∧E.P w S cs x
def aq {α:Type} (size:Nat) (E:Rd α):Rd (List α) where
 P:=fun w S cs l=>(cs = [.slice none 0 0]∧l = [])∨ ∃ a cap,cs = [.slice (some a) l.length cap]∧l.length≤cap∧cap≤maxLen∧(0<l.length→S a.block)∧rowAt size E w S a l
 mono:=by
  rintro w S S' cs l (h | ⟨a,cap,h1,h2,h3,h4,h5⟩) hS
  ·exact .inl h
  ·refine .inr ⟨a,cap,h1,h2,h3,fun h=>hS _ (h4 h),fun i x hx=> ?_⟩
   obtain⟨cs,k1,k2,k3⟩:=h5 i x hx
   exact⟨cs,k1,k2,E.mono k3 hS⟩
 move:=by
  rintro w w' S cs l (h | ⟨a,cap,h1,h2,h3,h4,h5⟩) hS
  ·exact .inl h
  ·refine .inr ⟨a,cap,h1,h2,h3,h4,fun i x hx=> ?_⟩
   obtain⟨cs,k1,k2,k3⟩:=h5 i x hx
   refine⟨cs,k1,fun j hj=> ?_,E.move k3 hS⟩
   rw[← k2 j hj]
   have hb:(a.add (i*size+j)).block=a.block:=block_add _ _
   have hl:0<l.length:=by have:=(xd hx).1; omega
   simp only[World.cell?,hb,hS _ (h4 hl)]
theorem mL {w:World} {b:Addr} {v:Value} (h:w.cell? b=some v):b=⟨b.block,b.off,none⟩:=by
 obtain⟨g,o,s⟩:=b
 cases s with
 | none=>rfl
 | some s =>
  simp only[World.cell?] at h
  split at h <;> simp at h
section
variable {H:Type} (enc:TypeId×Value→H) (P:Program)
def Opens {α:Type} (t:TypeId) (E:Rd α):Prop :=
 ∀ (w:World) (fuel:Nat) (cs:List Value) (x:DataW H×List MemPlace),DataW.trod enc P w 0 (fun _=>true) true fuel t cs=some x→ ∃ a,E.P w (fun k=>k<w.heap.size) cs a
variable {enc P}
theorem rq {t:TypeId} {q:IntKind} (ht:P.underlying t=some (.int q)):Opens enc P t (intRd q):=by
 intro w fuel cs x h
 obtain⟨n,rfl,_,hw⟩:=DataW.trod_int ht h
 exact⟨n,rfl,hw⟩
variable (enc P) in
end
structure RX where
 P:World→(Nat→Prop)→Prop
 mono: ∀ {w:World} {S S':Nat→Prop},P w S→(∀ k,S k→S' k)→P w S'
 move: ∀ {w w':World} {S:Nat→Prop},P w S→(∀ k,S k→w'.heap[k]? = w.heap[k]?)→P w' S
def RX.triv:RX:=⟨fun _ _=>True,fun _ _=>trivial,fun _ _=>trivial⟩
def RX.and (X Y:RX):RX:=⟨fun w S=>X.P w S∧Y.P w S,fun h k=>⟨X.mono h.1 k,Y.mono h.2 k⟩,fun h k=>⟨X.move h.1 k,Y.move h.2 k⟩⟩
def RX.of {α:Type} (E:Rd α) (cs:List Value) (a:α):RX:=⟨fun w S=>E.P w S cs a,fun h k=>E.mono h k,fun h k=>E.move h k⟩
def RX.reads (X:RX) (w:World) (F:Nat→Prop):Prop:= ∃ S,X.P w S∧ ∀ k,S k→ ¬ F k∧k<w.heap.size
theorem uE (w:World) (F:Nat→Prop):RX.triv.reads w F:=⟨fun _=>False,trivial,fun _ h=>h.elim⟩
theorem v8 {X Y:RX} {w:World} {F:Nat→Prop} (h:X.reads w F) (k:Y.reads w F):(X.and Y).reads w F:=by
 obtain⟨S,h1,h2⟩:=h
 obtain⟨T,k1,k2⟩:=k
 exact⟨fun k=>S k∨T k,⟨X.mono h1 (fun _ h=> .inl h),Y.mono k1 (fun _ h=> .inr h)⟩,fun k hk=>hk.elim (h2 k) (k2 k)⟩
theorem vY {X Y:RX} {w:World} {F:Nat→Prop} (h:(X.and Y).reads w F):X.reads w F:=let ⟨S,h1,h2⟩:=h; ⟨S,h1.1,h2⟩
theorem vS {X Y:RX} {w:World} {F:Nat→Prop} (h:(X.and Y).reads w F):Y.reads w F:=let ⟨S,h1,h2⟩:=h; ⟨S,h1.2,h2⟩
theorem RX.reads_weaken {X:RX} {w:World} {F G:Nat→Prop} (h:X.reads w F) (hg: ∀ k,k<w.heap.size→G k→F k):X.reads w G:=let ⟨S,h1,h2⟩:=h; ⟨S,h1,fun k hk=>⟨fun g=>(h2 k hk).1 (hg k (h2 k hk).2 g),(h2 k hk).2⟩⟩
def aw:Res where
 P:=fun _ G=> ∀ k,¬ G k
 lt:=fun h k hk=>(h k hk).elim
 move:=fun h _=>h
def RdR {α:Type} (E:Rd α) (cs:List Value) (a:α):Res where
 P:=fun w G=>E.P w G cs a∧ ∀ k,G k→k<w.heap.size
 lt:=fun h k hk=>h.2 k hk
 move:=fun {w w'} {G} h hm=>⟨E.move h.1 hm,fun k hk=>by
  have h1:=h.2 k hk
  have h2:=hm k hk
  rw[Array.getElem?_eq_getElem h1] at h2
  exact (Array.getElem?_eq_some_iff.1 h2).1⟩
def au (P:Program) (f:FuncId) (args:Array Value) (X:RX) (A:Res) (Q:Value→Res→List Res→Prop):Prop :=
 ∀ F w,A.P w F→X.reads w F→Calls P f args w (lf Q F w)
section
variable {P:Program} {f:FuncId} {args:Array Value} {F0:Nat→Prop} {w0 w:World} {Rs:List Res} {A B:Res} {X Y:RX}
theorem va {Q:Value→Res→List Res→Prop} (h:eg P f args A Q):au P f args X A Q:=fun F w hA _=>h F w hA
theorem wm {Q:Value→List Res→Prop} (h:gm P f args Q):au P f args X aw (fun v A' N=>A'=aw∧Q v N):=by
 intro F w hA _
 refine (h w).mono ?_
 rintro e w' ⟨v,Ns,rfl,hq,hst⟩
 refine⟨v,aw,Ns,rfl,⟨rfl,hq⟩,⟨hst.fr.mono (fun k h=>h.elim),fun _=>False,fun k h=>h,fun k h=>h.elim,hst.sep.mono (fun k hk=> ?_)⟩⟩
 exact⟨hk.elim (fun h=>h.elim) .inr,fun h=>h⟩
theorem vK {v:Value} (h:gm P f args (fun u N=>u=v∧N = [])):au P f args X aw (fun u A' N=>u=v∧A'=aw∧N = []):=by
 intro F w hA hX
 refine ((wm (X:=X) h) F w hA hX).mono ?_
 rintro e w' ⟨v,A',Ns,rfl,⟨rfl,rfl,rfl⟩,hst⟩
 exact⟨_,_,_,rfl,⟨rfl,rfl,rfl⟩,hst⟩
theorem vc {v:Value} (h: ∀ w,Calls P f args w fun e w'=>e= .returned v∧w=w'):au P f args X aw (fun v' A' N=>v'=v∧A'=aw∧N = []):=by
 intro F w hA _
 refine (h w).mono ?_
 rintro e w' ⟨rfl,rfl⟩
 exact⟨v,aw,[],rfl,⟨rfl,rfl,rfl⟩,Fr.refl _ _,fun _=>False,fun k h=>h,fun k h=>h.elim,trivial⟩
def Src (F0:Nat→Prop) (w0:World) (Rs:List Res) (w:World) (i:Nat) (X:RX):Prop :=
 ∀ A G,Rs[i]? = some A→A.P w G→(∀ k,G k→F0 k∨w0.heap.size≤k)→Sep (Rs.eraseIdx i) w (fun k=>(F0 k∨w0.heap.size≤k)∧ ¬ G k)→X.reads w G
theorem Src.triv (i:Nat):Src F0 w0 Rs w i .triv:=fun _ _ _ _ _ _=>uE _ _
theorem wn (h:St F0 w0 Rs w) (hX:X.reads w0 F0): ∃ S,X.P w S∧ ∀ k,S k→ ¬ F0 k∧k<w0.heap.size:=by
 obtain⟨S,h1,h2⟩:=hX
 exact⟨S,X.move h1 (fun k hk=>h.fr.block k (h2 k hk).2 (h2 k hk).1),h2⟩
theorem Src.old {i:Nat} (h:St F0 w0 Rs w) (hX:X.reads w0 F0):Src F0 w0 Rs w i X:=by
 intro A G _ _ h3 _
 obtain⟨S,h1,h2⟩:=wn h hX
 refine⟨S,h1,fun k hk=>⟨fun hg=> ?_,Nat.lt_of_lt_of_le (h2 k hk).2 h.fr.size⟩⟩
 rcases h3 k hg with h4 | h4
 ·exact (h2 k hk).1 h4
 ·have:=(h2 k hk).2; omega
theorem Src.res {i:Nat} (j:Nat) (hj:(Rs.eraseIdx i)[j]? = some B) (hB: ∀ w G,B.P w G→X.P w G):Src F0 w0 Rs w i X:=by
 intro A G _ _ _ h4
 obtain⟨G2,k1,k2,_⟩:=Sep.pick j hj h4
 exact⟨G2,hB w G2 k1,fun k hk=>⟨(k2 k hk).2,B.lt k1 k hk⟩⟩
theorem vb (h:St F0 w0 Rs w) (hX:X.reads w0 F0):X.reads w (fun _=>False):=by
 obtain⟨S,h1,h2⟩:=wn h hX
 exact⟨S,h1,fun k hk=>⟨fun h=>h,Nat.lt_of_lt_of_le (h2 k hk).2 h.fr.size⟩⟩
theorem vu (j:Nat) (h:St F0 w0 Rs w) (hj:Rs[j]? = some B) (hB: ∀ w G,B.P w G→X.P w G):X.reads w (fun _=>False):=by
 obtain⟨G,h1,_⟩:=h.get j hj
 exact⟨G,hB w G h1,fun k hk=>⟨fun h=>h,B.lt h1 k hk⟩⟩
theorem St.callX {Q:Value→Res→List Res→Prop} (i:Nat) (h:St F0 w0 Rs w) (hi:Rs[i]? = some A) (hs:au P f args X A Q) (hr:Src F0 w0 Rs w i X) :
 Calls P f args w fun e w'=> ∃ v A' Ns,e= .returned v∧Q v A' Ns∧St F0 w0 (Ns++Rs.set i A') w':=by
 obtain⟨G,h1,h2,h3⟩:=Sep.pick i hi h.sep
 refine (hs G w h1 (hr A G hi h1 h2 h3)).mono ?_
 rintro e w' ⟨v,A',Ns,rfl,hq,hst⟩
 refine⟨v,A',Ns,rfl,hq,?_⟩
 obtain⟨f2,G2,k1,k2,k3⟩:=hst
 have f:=h.fr
 refine⟨f.trans f2 h2,?_⟩
 have hle:=f.size
 have hR:Sep (Rs.eraseIdx i) w' (fun k=>((F0 k∨w0.heap.size≤k)∧ ¬ G k)∧k<w.heap.size):=h3.inside.move (fun k hk _=>f2.block k hk.2 hk.1.2)
 refine Sep.append k3 (F:=fun k=>F0 k∨w0.heap.size≤k) (Sep.back i hi k1 (fun k hk=>⟨?_,fun hn=>hn.2 hk⟩) (hR.mono (fun k hk=>⟨⟨hk.1.1,?_⟩,?_⟩))) ?_
 ·rcases k2 k hk with h4 | h4
  ·exact h2 k h4
  ·exact .inr (by omega)
 ·rintro⟨h4 | h4,_⟩
  ·exact hk.1.2 h4
  ·have:=hk.2; omega
 ·intro h4
  rcases k2 k h4 with h5 | h5
  ·exact hk.1.2 h5
  ·have:=hk.2; omega
 ·rintro k ⟨h4 | h4,_⟩
  ·exact h2 k h4
  ·exact .inr (by omega)
theorem St.emp (h:St F0 w0 Rs w):St F0 w0 (aw::Rs) w:=h.grow (Ns := [aw]) (Fr.refl _ _) ⟨fun _=>False,fun _ h=>h,fun _ h=>h.elim,trivial⟩
theorem St.callE {Q:Value→Res→List Res→Prop} (h:St F0 w0 Rs w) (hs:au P f args X aw Q) (hr:X.reads w (fun _=>False)) :
 Calls P f args w fun e w'=> ∃ v A' Ns,e= .returned v∧Q v A' Ns∧St F0 w0 (Ns++Rs) w':=by
 have h':St F0 w0 (aw::Rs) w:=h.emp
 refine (h'.callX 0 rfl hs ?_).mono ?_
 ·intro A G hA hG _ _
  have e:aw=A:=by simpa using hA
  subst e
  exact RX.reads_weaken hr (fun k _ hk=>(hG k hk).elim)
 ·rintro e w' ⟨v,A',Ns,rfl,hq,hst⟩
  refine⟨v,A',Ns,rfl,hq,?_⟩
  have:=hst.del Ns.length (A:=A') (by simp)
  rwa [List.eraseIdx_append_of_length_le (xB _),Nat.sub_self] at this
theorem ak {α:Type} {c:Prop} [Decidable c] {T:Option α} {r:α} (h:(if c then T else none)=some r):c∧T=some r:=by
 by_cases hc:c
 ·rw[if_pos hc] at h; exact⟨hc,h⟩
 ·rw[if_neg hc] at h; cases h
theorem au.start (h:A.P w F0):St F0 w [A] w:=ve F0 w (Sep.one h)
end
def resv (tmps:Array Value):ResultVar→Sem Value
 | .tmp t=>pure (tmps.getD t undef)
 | .cell a t=>do loadVar t (← asAddr (tmps.getD a undef))
section
variable {P:Program} {fn:Func} {tmps:Array Value} {w:World} {r1 r2 r3:ResultVar} {v1 v2 v3:Value}
theorem gL (fn:Func) (tmps:Array Value):results fn tmps=(do let vs ← fn.results.mapM (resv tmps); pure (if h:vs.size=1 then vs[0] else .tuple vs)):=by
 unfold results
 rfl
end
inductive Lp (R S:Type) where
 | ret (r:R)
 | go (s:S)
section
variable {α:Type}
def bT (size:Nat) (E:Rd α) (w:World) (S:Nat→Prop):List Value→List α→Prop
 | cs,[]=>cs = []
 | cs,x::xs=>(cs.take size).length=size∧E.P w S (cs.take size) x∧bT size E w S (cs.drop size) xs
variable {size:Nat} {E:Rd α} {w w':World} {S S':Nat→Prop}
theorem gM: ∀ {xs:List α} {cs:List Value},bT size E w S cs xs→(∀ k,S k→S' k)→bT size E w S' cs xs
 | [],_,h,_=>h
 | _ :: _,_,⟨h0,h1,h2⟩,k=>⟨h0,E.mono h1 k,gM h2 k⟩
theorem dJ: ∀ {xs:List α} {cs:List Value},bT size E w S cs xs→(∀ k,S k→w'.heap[k]? = w.heap[k]?)→bT size E w' S cs xs
 | [],_,h,_=>h
 | _ :: _,_,⟨h0,h1,h2⟩,k=>⟨h0,E.move h1 k,dJ h2 k⟩
theorem ez: ∀ {xs:List α} {cs:List Value},bT size E w S cs xs→cs.length=xs.length*size
 | [],cs,h=>by simp[show cs = [] from h]
 | x::xs,cs,⟨h0,_,h2⟩=>by
  have h3:=ez h2
  rw[xx] at h0
  rw[xe] at h3
  rw[xw,Nat.add_mul,Nat.one_mul]
  omega
theorem ja: ∀ {xs:List α} {cs news:List Value} {x:α},bT size E w S cs xs→news.length=size→E.P w S news x→bT size E w S (cs++news) (xs ++ [x])
 | [],cs,news,x,h,hl,hx=>by
  obtain rfl:cs = []:=h
  exact⟨by simp[hl],by rw[xy,List.take_of_length_le (by omega)]; exact hx,by rw[xy,List.drop_of_length_le (by omega)]; exact rfl⟩
 | y::ys,cs,news,x,⟨h0,h1,h2⟩,hl,hx=>by
  have hle:size≤cs.length:=by rw[xx] at h0; omega
  refine⟨?_,?_,?_⟩
  ·rw[List.take_append_of_le_length hle]; exact h0
  ·rw[List.take_append_of_le_length hle]; exact h1
  ·rw[List.drop_append_of_le_length hle]; exact ja h2 hl hx
theorem j6: ∀ {xs:List α} {cs:List Value} {i:Nat} {x:α},bT size E w S cs xs→xs[i]? = some x→((cs.drop (i*size)).take size).length=size∧E.P w S ((cs.drop (i*size)).take size) x
 | [],_,i,_,_,hi=>by simp at hi
 | y::ys,cs,0,x,⟨h0,h1,_⟩,hi=>by
  obtain rfl:y=x:=by simpa using hi
  rw[Nat.zero_mul,List.drop_zero]
  exact⟨h0,h1⟩
 | y::ys,cs,i+1,x,⟨_,_,h2⟩,hi=>by
  have h3:=j6 (i:=i) h2 (by simpa using hi)
  rw[xM] at h3
  rwa [show size+i*size=(i+1)*size by rw[Nat.add_mul]; omega] at h3
def aE (T:TypeId) (size:Nat) (E:Rd α) (v:Value) (xs:List α):Res where
 P:=fun w G=> ∃ cells S,w.ownsRow 0 T size v xs.length cells∧bT size E w S cells xs∧(∀ k,S k→k<w.heap.size)∧(∀ k,v.ownBlock=some k→ ¬ S k)∧ ∀ k,G k↔v.ownBlock=some k∨S k
 lt:=by
  rintro w G ⟨cells,S,h1,h2,h3,h4,h5⟩ k hk
  rcases (h5 k).1 hk with h | h
  ·exact si h1 k h
  ·exact h3 k h
 move:=by
  rintro w w' G ⟨cells,S,h1,h2,h3,h4,h5⟩ hm
  refine⟨cells,S,oq h1 (fun k hk=>hm k ((h5 k).2 (.inl hk))),dJ h2 (fun k hk=>hm k ((h5 k).2 (.inr hk))),fun k hk=> ?_,h4,h5⟩
  have h6:=h3 k hk
  have h7:=hm k ((h5 k).2 (.inr hk))
  rw[Array.getElem?_eq_getElem h6] at h7
  exact (Array.getElem?_eq_some_iff.1 h7).1
theorem aN {T:TypeId} {v:Value} {xs:List α} (hp:0<size): ∀ w G,(aE T size E v xs).P w G→(RX.of (aq size E) [v] xs).P w G:=by
 rintro w G ⟨cells,S,h1,h2,h3,h4,h5⟩
 have hb:=h1
 rcases h1.2 with⟨rfl,hn⟩ | ⟨g,cap,cur,rfl,hbg,hg,hnc,hcm,hcs,htake⟩
 ·exact .inl ⟨rfl,List.eq_nil_of_length_eq_zero hn⟩
 ·refine .inr ⟨⟨g,0,none⟩,cap,rfl,hnc,hcm,fun _=>(h5 g).2 (.inl rfl),fun i x hx=> ?_⟩
  obtain⟨k1,k2⟩:=j6 h2 hx
  have hi:i<xs.length:=(xd hx).1
  refine⟨_,k1,fun j hj=> ?_,E.mono k2 (fun k hk=>(h5 k).2 (.inr hk))⟩
  have hadd:(⟨g,0,none⟩:Addr).add (i*size+j)=⟨g,i*size+j,none⟩:=by unfold Addr.add; split <;> simp_all
  have hlt:i*size+j<xs.length*size:=by
   have:(i+1)*size≤xs.length*size:=Nat.mul_le_mul_right _ (by omega)
   rw[Nat.add_mul] at this
   omega
  rw[hadd,hb.cellAt _ hlt,List.getElem?_take,if_pos hj,List.getElem?_drop]
theorem bV {cs:List Value} {a:α}: ∀ w G,(RdR E cs a).P w G→(RX.of E cs a).P w G:=fun _ _ h=>h.1
theorem lg {F:Nat→Prop}:(RX.of (aq size E) [.slice none 0 0] []).reads w F:=⟨fun _=>False,.inl ⟨rfl,rfl⟩,fun _ h=>h.elim⟩
theorem vh {F:Nat→Prop} {A:Option Addr} {n c i:Nat} {l:List α} {x:α} (hp:0<size) (h:(RX.of (aq size E) [.slice A n c] l).reads w F) (hx:l[i]? = some x) :
 ∃ g o:Nat,A=some ⟨g,o,none⟩∧ ∃ cs,cs.length=size∧(∀ j,j<size→w.cell? ⟨g,o+i*size+j,none⟩=cs[j]?)∧(¬ F g∧g<w.heap.size)∧(RX.of E cs x).reads w F:=by
 obtain⟨S,h,hS⟩:=h
 rcases h with⟨h,rfl⟩ | ⟨a,cap,h,_,_,hb,h2⟩
 ·simp at hx
 ·injection h with h
  injection h with h3 h4 h5
  subst h3
  have hl:0<l.length:=by have:=(xd hx).1; omega
  obtain⟨cs0,k1,k2,_⟩:=h2 0 l[0] (List.getElem?_eq_getElem hl)
  have k3:=k2 0 hp
  rw[List.getElem?_eq_getElem (by omega)] at k3
  have k4:a.add (0*size+0)=a:=by simp[Addr.add]
  rw[k4] at k3
  have k5:=mL k3
  obtain⟨cs,k6,k7,k8⟩:=h2 i x hx
  refine⟨a.block,a.off,by rw[← k5],cs,k6,fun j hj=> ?_,hS _ (hb hl),S,k8,hS⟩
  rw[← k7 j hj,k5,WideShapes.add_plain,Nat.add_assoc]
theorem RX.elem' {F:Nat→Prop} {g o n c i:Nat} {l:List α} {x:α} (hp:0<size) (h:(RX.of (aq size E) [.slice (some ⟨g,o,none⟩) n c] l).reads w F) (hx:l[i]? = some x) :
 ∃ cs,cs.length=size∧(∀ j,j<size→w.cell? ⟨g,o+i*size+j,none⟩=cs[j]?)∧(¬ F g∧g<w.heap.size)∧(RX.of E cs x).reads w F:=by
 obtain⟨g',o',h1,cs,h2⟩:=vh hp h hx
 injection h1 with h1
 injection h1 with h3 h4
 subst h3 h4
 exact⟨cs,h2⟩
theorem vz {F:Nat→Prop} {A:Option Addr} {n c:Nat} {l:List α} (h:(RX.of (aq size E) [.slice A n c] l).reads w F):l.length≤9223372036854775807:=by
 obtain⟨S,h,hS⟩:=h
 rcases h with⟨h,rfl⟩ | ⟨a,cap,h,h1,h2,_⟩
 ·simp
 ·have:maxLen=9223372036854775807:=rfl
  omega
theorem St.old2 {F0:Nat→Prop} {w wr:World} {Rs:List Res} {v:Option Value} {g o:Nat} (h:St F0 w Rs wr) (hb: ¬ F0 g∧g<w.heap.size) (hc:w.cell? ⟨g,o,none⟩=v):wr.cell? ⟨g,o,none⟩=v:=by
 rw[← hc]
 have e:=h.fr.block g hb.2 hb.1
 simp only[World.cell?,e]
theorem cK {l:List α} {k:Nat} {x:α} (h:l[k]? = some x):l.drop k=x::l.drop (k+1):=by
 obtain⟨hk,rfl⟩:=xd h
 exact List.drop_eq_getElem_cons hk
theorem RdR.nil {F0:Nat→Prop} {w0:World} {Rs:List Res} (size:Nat) (E:Rd α) (h:St F0 w0 Rs w):St F0 w0 (RdR (aq size E) [.slice none 0 0] []::Rs) w :=
 h.grow (Ns := [RdR (aq size E) [.slice none 0 0] []]) (Fr.refl _ _) ⟨fun _=>False,⟨.inl ⟨rfl,rfl⟩,fun _ h=>h.elim⟩,fun _ h=>h.elim,trivial⟩
theorem aE.shut {F0:Nat→Prop} {w0:World} {Rs:List Res} {T:TypeId} {v:Value} {xs:List α} (hp:0<size) (i:Nat) (h:St F0 w0 Rs w) (hi:Rs[i]? = some (aE T size E v xs)):St F0 w0 (Rs.set i (RdR (aq size E) [v] xs)) w :=
 h.weaken i hi (fun G hG=>⟨aN hp _ _ hG,fun k hk=>(aE T size E v xs).lt hG k hk⟩)
section
variable {F0:Nat→Prop} {w0 w1:World} {Rs:List Res} {T:TypeId} {v v1:Value} {xs:List α} {B:Res}
theorem aE.nil (T:TypeId) (size:Nat) (E:Rd α) (h:St F0 w0 Rs w):St F0 w0 (aE T size E (.slice none 0 0) []::Rs) w :=
 h.grow (Ns := [aE T size E (.slice none 0 0) []]) (Fr.refl _ _) ⟨fun _=>False,⟨[],fun _=>False,World.ownsRow_nil _ _ _ _,rfl,fun _ h=>h.elim,fun _ _ h=>h,fun k=>by simp[Value.ownBlock]⟩,fun _ h=>h.elim,trivial⟩
theorem aE.lit (E:Rd α) (h:St F0 w0 Rs w) (cs:Array Value) (xs:List α) (hm:xs.length≤maxLen) (he:bT size E (w.alloc (.cells cs T)) (fun _=>False) cs.toList xs) :
 St F0 w0 (aE T size E (.slice (some ⟨w.heap.size,0,none⟩) xs.length xs.length) xs::Rs) (w.alloc (.cells cs T)) :=
 h.grow (Ns := [aE T size E (.slice (some ⟨w.heap.size,0,none⟩) xs.length xs.length) xs]) (wl ((Below.refl _ _).alloc (xB _) _))
  ⟨fun k=>k=w.heap.size,⟨cs.toList,fun _=>False,World.ownsRow_lit w cs xs.length (xH _) hm (by have:=ez he; simpa using this),he,fun _ h=>h.elim,fun _ _ h=>h,fun k=>by simp[Value.ownBlock,eq_comm]⟩,fun k hk=>by omega,trivial⟩
theorem aE.open_ (i:Nat) (h:St F0 w0 Rs w) (hi:Rs[i]? = some (aE T size E v xs)) :
 ∃ cells,w.ownsRow 0 T size v xs.length cells∧ ∀ v1 w1 news x,w1.ownsRow 0 T size v1 (xs.length+1) (cells++news)→w.grownBy w1 v.ownBlock→(v1.ownBlock=v.ownBlock∨ ∃ k,v1.ownBlock=some k∧w.heap.size≤k)→news.length=size →
  (∀ w S,E.P w S news x)→St F0 w0 (Rs.set i (aE T size E v1 (xs ++ [x]))) w1:=by
 obtain⟨f,hs⟩:=h
 obtain⟨G,⟨cells,S,h1,h2,h3,h4,h5⟩,hG,hr⟩:=Sep.pick i hi hs
 refine⟨cells,h1,fun v1 w1 news x ho hg hat hl hx=> ?_⟩
 have hst:St F0 w0 Rs w:=⟨f,hs⟩
 have hne: ∀ k,S k→k<w.heap.size∧some k≠v.ownBlock:=fun k hk=>⟨h3 k hk,fun e=>h4 k e.symm hk⟩
 have hS1:bT size E w1 S cells xs:=dJ h2 (fun k hk=>hg.block k (hne k hk).1 (hne k hk).2)
 have hle:=hg.size
 have f2:Fr G w w1:=vW hg (fun k hk=>(h5 k).2 (.inl hk))
 refine⟨f.trans f2 hG,?_⟩
 have hfs:=f.size
 have hR:Sep (Rs.eraseIdx i) w1 (fun k=>((F0 k∨w0.heap.size≤k)∧ ¬ G k)∧k<w.heap.size):=hr.inside.move (fun k hk _=>f2.block k hk.2 hk.1.2)
 refine Sep.back (G:=fun k=>v1.ownBlock=some k∨S k) i hi ⟨cells++news,S,?_,ja hS1 hl (hx _ _),fun k hk=>Nat.lt_of_lt_of_le (h3 k hk) hle,?_,fun _=>Iff.rfl⟩ ?_ (hR.mono (fun k hk=>⟨hk.1.1,?_⟩))
 ·rw[xf]; exact ho
 ·intro k hk
  rcases hat with e | ⟨k',e,hk'⟩
  ·rw[e] at hk; exact h4 k hk
  ·rw[e] at hk
   injection hk with hk
   subst hk
   intro hs'
   have:=h3 _ hs'
   omega
 ·rintro k (hk | hk)
  ·rcases hat with e | ⟨k',e,hk'⟩
   ·rw[e] at hk; exact hG k ((h5 k).2 (.inl hk))
   ·rw[e] at hk
    injection hk with hk
    subst hk
    exact .inr (by omega)
  ·exact hG k ((h5 k).2 (.inr hk))
 ·rintro (h6 | h6)
  ·rcases hat with e | ⟨k',e,hk'⟩
   ·rw[e] at h6; exact hk.1.2 ((h5 k).2 (.inl h6))
   ·rw[e] at h6
    injection h6 with h6
    subst h6
    have:=hk.2
    omega
  ·exact hk.1.2 ((h5 k).2 (.inr h6))
theorem aE.open2 (i j:Nat) (h:St F0 w0 Rs w) (hi:Rs[i]? = some (aE T size E v xs)) (hj:(Rs.eraseIdx i)[j]? = some B) :
 ∃ cells,w.ownsRow 0 T size v xs.length cells∧ ∀ v1 w1 news x,w1.ownsRow 0 T size v1 (xs.length+1) (cells++news)→w.grownBy w1 v.ownBlock→(v1.ownBlock=v.ownBlock∨ ∃ k,v1.ownBlock=some k∧w.heap.size≤k)→news.length=size →
  (∀ w G,B.P w G→E.P w G news x)→St F0 w0 (aE T size E v1 (xs ++ [x])::(Rs.eraseIdx i).eraseIdx j) w1:=by
 obtain⟨f,hs⟩:=h
 obtain⟨G,⟨cells,S,h1,h2,h3,h4,h5⟩,hG,hr⟩:=Sep.pick i hi hs
 obtain⟨H,hB,hH,hr2⟩:=Sep.pick j hj hr
 refine⟨cells,h1,fun v1 w1 news x ho hg hat hl hx=> ?_⟩
 have hne: ∀ k,S k→k<w.heap.size∧some k≠v.ownBlock:=fun k hk=>⟨h3 k hk,fun e=>h4 k e.symm hk⟩
 have hS1:bT size E w1 S cells xs:=dJ h2 (fun k hk=>hg.block k (hne k hk).1 (hne k hk).2)
 have hle:=hg.size
 have f2:Fr G w w1:=vW hg (fun k hk=>(h5 k).2 (.inl hk))
 have hfs:=f.size
 have hB1:B.P w1 H:=B.move hB (fun k hk=>f2.block k (B.lt hB k hk) (hH k hk).2)
 refine⟨f.trans f2 hG,?_⟩
 have hR:Sep ((Rs.eraseIdx i).eraseIdx j) w1 (fun k=>(((F0 k∨w0.heap.size≤k)∧ ¬ G k)∧ ¬ H k)∧k<w.heap.size):=hr2.inside.move (fun k hk _=>f2.block k hk.2 hk.1.1.2)
 have hlt1:=B.lt hB
 refine⟨fun k=>v1.ownBlock=some k∨(S k∨H k),⟨cells++news,fun k=>S k∨H k,?_,ja (gM hS1 (fun _ h=> .inl h)) hl (E.mono (hx _ _ hB1) (fun _ h=> .inr h)),?_,?_,fun _=>Iff.rfl⟩,?_,hR.mono (fun k hk=>⟨hk.1.1.1,?_⟩)⟩
 ·rw[xf]; exact ho
 ·rintro k (hk | hk)
  ·exact Nat.lt_of_lt_of_le (h3 k hk) hle
  ·exact Nat.lt_of_lt_of_le (hlt1 k hk) hle
 ·intro k hk
  rcases hat with e | ⟨k',e,hk'⟩
  ·rw[e] at hk
   rintro (h6 | h6)
   ·exact h4 k hk h6
   ·exact (hH k h6).2 ((h5 k).2 (.inl hk))
  ·rw[e] at hk
   injection hk with hk
   subst hk
   rintro (h6 | h6)
   ·have:=h3 _ h6; omega
   ·have:=hlt1 _ h6; omega
 ·rintro k (hk | hk | hk)
  ·rcases hat with e | ⟨k',e,hk'⟩
   ·rw[e] at hk; exact hG k ((h5 k).2 (.inl hk))
   ·rw[e] at hk
    injection hk with hk
    subst hk
    exact .inr (by omega)
  ·exact hG k ((h5 k).2 (.inr hk))
  ·exact (hH k hk).1
 ·rintro (h6 | h6 | h6)
  ·rcases hat with e | ⟨k',e,hk'⟩
   ·rw[e] at h6; exact hk.1.1.2 ((h5 k).2 (.inl h6))
   ·rw[e] at h6
    injection h6 with h6
    subst h6
    have:=hk.2
    omega
  ·exact hk.1.1.2 ((h5 k).2 (.inr h6))
  ·exact hk.1.2 h6
end
end
section
variable {P:Program} (w:World)
end
set_option linter.unusedSimpArgs false
def aT (b:Nat) (st:List UInt8×Int):Res where
 P:=fun w G=> ∃ v,w.heap[b]? = some (.cells #[v,.int .i64 st.2] 84 (0,0))∧w.ownsRow 0 5 1 v st.1.length (aO st.1)∧ ∀ k,G k↔k=b∨v.ownBlock=some k
 lt:=by
  rintro w G ⟨v,h1,h2,h3⟩ k hk
  rcases (h3 k).1 hk with rfl | h
  ·exact jC h1
  ·exact si h2 k h
 move:=by
  rintro w w' G ⟨v,h1,h2,h3⟩ hm
  exact⟨v,(hm _ ((h3 _).2 (.inl rfl))).trans h1,oq h2 (fun k hk=>hm k ((h3 k).2 (.inr hk))),h3⟩
theorem lK:(Tryz.prog.info? 5).map (fun i=>(i.zero,i.size,i.bytes))=some (some (.int .u8 0),1,1):=by kernel_rfl
theorem aT.stored {b:Nat} {l m:List UInt8} {w w1:World} {v v1:Value} {F:Nat→Prop} (hb:w.heap[b]? = some (.cells #[v,.int .i64 0] 84 (0,0))) (ho:w.ownsRow 0 5 1 v l.length (aO l)) (hF: ∀ k,F k↔k=b∨v.ownBlock=some k)
 {n:Nat} (ho1:w1.ownsRow 0 5 1 v1 n (aO m)) (hg:w.grownBy w1 v.ownBlock) (hat:v1.ownBlock=v.ownBlock∨ ∃ k,v1.ownBlock=some k∧w.heap.size≤k) :
 St F w [aT b (m,0)] (w1.setCell ⟨b,0,none⟩ v1):=by
 have hn:n=m.length:=by have:=ho1.1; simpa [aO] using this.symm
 subst hn
 have hne:=lJ ho hb (by decide)
 have hb1:w1.heap[b]? = some (.cells #[v,.int .i64 0] 84 (0,0)):=(hg.block b (jC hb) hne).trans hb
 have hne1:=lJ ho1 hb1 (by decide)
 refine⟨((Fr.refl F w).trans (vW (F:=F) hg (fun k hk=>(hF k).2 (.inr hk))) (fun k hk=> .inl hk)).set (p:=⟨b,0,none⟩) (.inl ((hF b).2 (.inl rfl))) v1,?_⟩
 refine⟨fun k=>k=b∨v1.ownBlock=some k,⟨v1,by simpa using jB hb1 0 v1,qF ho1 hne1 v1,fun _=>Iff.rfl⟩,?_,trivial⟩
 rintro k (rfl | hk)
 ·exact .inl ((hF k).2 (.inl rfl))
 ·rcases hat with h | ⟨k',h,h'⟩
  ·rw[h] at hk
   exact .inl ((hF k).2 (.inr hk))
  ·rw[h] at hk
   injection hk with hk
   subst hk
   exact .inr h'
theorem we {b:Nat} {st:List UInt8×Int} {w w':World} {F:Nat→Prop} (h:(aT b st).P w F) (n:Nat) (hw:w'=w.drewN n):St F w [aT b st] w':=by
 subst hw
 exact (ve F w (Sep.one h)).drewN n
def d7 (st:List UInt8×Int) (l:List UInt8):List UInt8×Int:=if st.2=0 then (st.1++l,0) else st
def fV (st:List UInt8×Int) (e:Int):List UInt8×Int:=if st.2=0 then (st.1,e) else st
theorem iJ (b:Nat) (st:List UInt8×Int) (e:Int):eg Tryz.prog 66 #[.pointer (some ⟨b,0,none⟩),.int .i64 e] (aT b st) (fun v A' N=>v= .tuple #[]∧A'=aT b (fV st e)∧N = []):=by
 rintro F w ⟨v,hb,ho,hF⟩
 obtain⟨l,er⟩:=st
 have c1:w.cell? ⟨b,1,none⟩=some (.int .i64 er):=(aJ hb 1).trans rfl
 have f1:w.frozen? ⟨b,1,none⟩=false:=bt hb 1
 by_cases h0:er=0
 ·subst h0
  have HB:=Lib.hid hb
  have HO:=Lib.hid ho
  clear hb ho
  go_enter Tryz.func66,Tryz.ntmps66
  go_wp2
  go_end0
  refine⟨_,_,_,rfl,⟨rfl,rfl,rfl⟩,(Fr.refl F w).set (.inl ((hF b).2 (.inl rfl))) _,F,?_,fun k hk=> .inl hk,trivial⟩
  have hne:=lJ HO.out HB.out (by decide)
  exact⟨v,by simpa [fV] using jB HB.out 1 (.int .i64 e),qF HO.out hne _,hF⟩
 ·have HB:=Lib.hid hb
  have HO:=Lib.hid ho
  have H0:(er == 0)=false:=beq_eq_false_iff_ne.2 h0
  clear hb ho
  go_enter Tryz.func66,Tryz.ntmps66
  go_wp2
  go_end0
  exact⟨_,_,_,rfl,⟨rfl,rfl,rfl⟩,we ⟨v,by simpa [fV,h0] using HB.out,by simpa [fV,h0] using HO.out,hF⟩ 0 rfl⟩
theorem ot (b:Nat) (st:List UInt8×Int) (s:ByteArray) (hl:st.1.length+s.size≤140737488355328) :
 eg Tryz.prog 40 #[.pointer (some ⟨b,0,none⟩),.string s] (aT b st) (fun v A' N=>v= .tuple #[]∧A'=aT b (d7 st s.data.toList)∧N = []):=by
 rintro F w ⟨v,hb,ho,hF⟩
 obtain⟨l,er⟩:=st
 have c0:w.cell? ⟨b,0,none⟩=some v:=(aJ hb 0).trans rfl
 have c1:w.cell? ⟨b,1,none⟩=some (.int .i64 er):=(aJ hb 1).trans rfl
 by_cases h0:er=0
 ·subst h0
  have HB:=Lib.hid hb
  have HO:=Lib.hid ho
  clear hb ho
  go_enter Tryz.func40,Tryz.ntmps40
  go_wp2_with (at_builtin; refine j4 w rfl _ _ _ _ rfl 5 Tryz.underlying22 Tryz.underlying9 lK v l.length (aO l) rfl HO.out s rfl hl ?_; intro v1 w1 ho1 hg hat; obtain⟨a1,k1,rfl⟩:=fu ho1; have HO1:=Lib.hid ho1; clear ho1; have HN:=Lib.hid (lJ HO.out HB.out (by decide)); have HB1:=Lib.hid (show w1.heap[b]? = _ from (hg.block b (jC HB.out) HN.out).trans HB.out); have d0:w1.cell? ⟨b,0,none⟩=some v:=(aJ HB1.out 0).trans rfl; have e0:w1.frozen? ⟨b,0,none⟩=false:=bt HB1.out 0; have HG:=Lib.hid hg; have HAT:=Lib.hid hat; clear hg hat)
  go_end0
  have ho1:=HO1.out
  rw[iV,← gp] at ho1
  refine⟨_,_,_,rfl,⟨rfl,rfl,rfl⟩,?_⟩
  have:=aT.stored HB.out HO.out hF ho1 HG.out (by rcases HAT.out with h | h; exact .inl h; exact .inr ⟨_,h,xB _⟩)
  simpa [d7] using this
 ·have HB:=Lib.hid hb
  have HO:=Lib.hid ho
  have H0:(er == 0)=false:=beq_eq_false_iff_ne.2 h0
  clear hb ho
  go_enter Tryz.func40,Tryz.ntmps40
  go_wp2_with fail
  go_end0
  exact⟨_,_,_,rfl,⟨rfl,rfl,rfl⟩,we ⟨v,by simpa [d7,h0] using HB.out,by simpa [d7,h0] using HO.out,hF⟩ 0 rfl⟩
theorem rr (b:Nat) (st:List UInt8×Int) (c:UInt8) (hl:st.1.length+1≤140737488355328) :
 eg Tryz.prog 89 #[.pointer (some ⟨b,0,none⟩),.int .u8 c.toNat] (aT b st) (fun v A' N=>v= .tuple #[]∧A'=aT b (d7 st [c])∧N = []):=by
 rintro F w ⟨v,hb,ho,hF⟩
 obtain⟨l,er⟩:=st
 have c0:w.cell? ⟨b,0,none⟩=some v:=(aJ hb 0).trans rfl
 have c1:w.cell? ⟨b,1,none⟩=some (.int .i64 er):=(aJ hb 1).trans rfl
 by_cases h0:er=0
 ·subst h0
  have HB:=Lib.hid hb
  have HO:=Lib.hid ho
  clear hb ho
  go_enter Tryz.func89,Tryz.ntmps89
  go_wp2_with (at_builtin; refine j5 w rfl _ _ _ rfl 5 (.int .u8 0) 1 Tryz.underlying22 lK rfl v l.length (aO l) rfl HO.out (.int .u8 c.toNat) rfl rfl (by simpa using hl) hl ?_; intro v1 w1 ho1 hg hat; obtain⟨a1,k1,rfl⟩:=fu ho1; have HO1:=Lib.hid ho1; clear ho1; have HN:=Lib.hid (lJ HO.out HB.out (by decide)); have HB1:=Lib.hid (show w1.heap[b]? = _ from (hg.block b (jC HB.out) HN.out).trans HB.out); have d0:w1.cell? ⟨b,0,none⟩=some v:=(aJ HB1.out 0).trans rfl; have e0:w1.frozen? ⟨b,0,none⟩=false:=bt HB1.out 0; have HG:=Lib.hid hg; have HAT:=Lib.hid hat; clear hg hat)
  go_end0
  have ho1:=HO1.out
  rw[show ([Value.int .u8 c.toNat]:List Value)=aO [c] from rfl,← gp] at ho1
  refine⟨_,_,_,rfl,⟨rfl,rfl,rfl⟩,?_⟩
  have:=aT.stored HB.out HO.out hF ho1 HG.out HAT.out
  simpa [d7] using this
 ·have HB:=Lib.hid hb
  have HO:=Lib.hid ho
  have H0:(er == 0)=false:=beq_eq_false_iff_ne.2 h0
  clear hb ho
  go_enter Tryz.func89,Tryz.ntmps89
  go_wp2_with fail
  go_end0
  exact⟨_,_,_,rfl,⟨rfl,rfl,rfl⟩,we ⟨v,by simpa [d7,h0] using HB.out,by simpa [d7,h0] using HO.out,hF⟩ 0 rfl⟩
def ow (st:List UInt8×Int):Value:=if st.2=0 then .tuple #[.string ⟨st.1.toArray⟩,.int .i64 0] else .tuple #[.string ⟨#[]⟩,.int .i64 st.2]
theorem rt (b:Nat) (st:List UInt8×Int):eg Tryz.prog 35 #[.pointer (some ⟨b,0,none⟩)] (aT b st) (fun v A' N=>v=ow st∧A'=aT b st∧N = []):=by
 rintro F w ⟨v,hb,ho,hF⟩
 obtain⟨l,er⟩:=st
 have c0:w.cell? ⟨b,0,none⟩=some v:=(aJ hb 0).trans rfl
 have c1:w.cell? ⟨b,1,none⟩=some (.int .i64 er):=(aJ hb 1).trans rfl
 have hc:=lI (P:=Tryz.prog) w (src:=22) (dst:=9) Tryz.underlying22 Tryz.underlying5 Tryz.underlying9 ho
 have HB:=Lib.hid hb
 have HO:=Lib.hid ho
 clear hb ho
 by_cases h0:er=0
 ·subst h0
  go_enter Tryz.func35,Tryz.ntmps35
  go_wp2
  go_ret2
  exact⟨_,_,_,rfl,⟨by simp[ow],rfl,rfl⟩,we ⟨_,HB.out,HO.out,hF⟩ 0 rfl⟩
 ·have H0:(er != 0)=true:=bne_iff_ne.2 h0
  go_enter Tryz.func35,Tryz.ntmps35
  go_wp2
  go_quiet (fail)
  go_wp2
  go_ret2
  exact⟨_,_,_,rfl,⟨by simp[ow,h0],rfl,rfl⟩,we ⟨_,HB.out,HO.out,hF⟩ _ rfl⟩
def de (n size:Int):Bool:=decide (1≤size) && decide (size≤8) && decide (-(2 ^ (8*size.toNat - 1):Int)≤n) && decide (n≤(2 ^ (8*size.toNat - 1):Int) - 1)
theorem w64max:wrap64 (wrap64 9223372036854775808 - 1)=9223372036854775807:=by unfold wrap64; omega
theorem eA {k:IntKind} {a b:Int} (h:a=b):Ending.returned (.int k a)= .returned (.int k b):=by rw[h]
theorem lL {a b:Bool} (h:a=b):Ending.returned (.bool a)= .returned (.bool b):=by rw[h]
theorem hN (n size:Int) (w:World) (h0: -9223372036854775808≤n) (h1:n≤9223372036854775807) :
 Calls Tryz.prog 85 #[.int .i64 n,.int .i64 size] w fun e w'=>e= .returned (.bool (de n size))∧w=w':=by
 by_cases hs:1≤size∧size≤8
 ·have hk:size=1∨size=2∨size=3∨size=4∨size=5∨size=6∨size=7∨size=8:=by omega
  rcases hk with rfl | rfl | rfl | rfl | rfl | rfl | rfl | rfl
  all_goals
   clear hs
   go_enter Tryz.func85,Tryz.ntmps85
   go_wp2
   all_goals (go_ret; exact⟨lL (by have:=w64max; rw[Bool.eq_iff_iff]; simp[de,wrap64]; omega),rfl⟩)
 ·by_cases h2:size<1
  ·go_enter Tryz.func85,Tryz.ntmps85
   go_wp2
   go_ret
   exact⟨lL (by simp[de]; omega),rfl⟩
  ·have h3:8<size:=by omega
   go_enter Tryz.func85,Tryz.ntmps85
   go_wp2
   go_ret
   exact⟨lL (by simp[de]; omega),rfl⟩
def be (n:Int) (size:Nat):List UInt8:=(List.range size).map fun i=>UInt8.ofNat ((n / (2 ^ (8*(size - 1 - i)):Int)) % 256).toNat
def ru (st:List UInt8×Int) (n size:Int):List UInt8×Int:=if de n size then d7 st (be n size.toNat) else fV st 11
theorem oz (st:List UInt8×Int):d7 st []=st:=by
 obtain⟨l,e⟩:=st
 by_cases h:e=0 <;> simp[d7,h]
theorem j7 (st:List UInt8×Int) (a b:List UInt8):d7 (d7 st a) b=d7 st (a++b):=by
 obtain⟨l,e⟩:=st
 by_cases h:e=0 <;> simp[d7,h]
theorem gN (b:Nat) (st:List UInt8×Int) (c:Int) (h0:0≤c) (h1:c<256) (hl:st.1.length+1≤140737488355328) :
 eg Tryz.prog 89 #[.pointer (some ⟨b,0,none⟩),.int .u8 c] (aT b st) (fun v A' N=>v= .tuple #[]∧A'=aT b (d7 st [UInt8.ofNat c.toNat])∧N = []):=by
 have h:=rr b st (UInt8.ofNat c.toNat) hl
 rwa [show ((UInt8.ofNat c.toNat).toNat:Int)=c from by simp[UInt8.toNat_ofNat']; omega] at h
theorem lM (st:List UInt8×Int) (a:List UInt8):(d7 st a).1.length≤st.1.length+a.length:=by
 unfold d7; split <;> simp
theorem oA (b:Nat) (st:List UInt8×Int) (n size:Int) (h0: -9223372036854775808≤n) (h1:n≤9223372036854775807) (hl:st.1.length+8≤140737488355328) :
 eg Tryz.prog 70 #[.pointer (some ⟨b,0,none⟩),.int .i64 n,.int .i64 size] (aT b st) (fun v A' N=>v= .tuple #[]∧A'=aT b (ru st n size)∧N = []):=by
 intro F w hA
 by_cases hf:de n size=true
 ·have hs:1≤size∧size≤8:=by simp[de] at hf; omega
  obtain⟨k,rfl⟩: ∃ k:Nat,size=k:=⟨size.toNat,by omega⟩
  have HF:=Lib.hid hf
  clear hf
  have HA:=Lib.hid (ve F w (Sep.one hA))
  clear hA
  go_enter Tryz.func70,Tryz.ntmps70
  go_wp2_with fail
  refine (hN n k w h0 h1).mono ?_
  rintro e w' ⟨rfl,rfl⟩
  rw[HF.out]
  go_wp2_with fail
  go_loopw [6,14] (fun _ i wr=> ∃ j:Nat,j≤k∧i= .int .i64 j∧St F w [aT b (d7 st ((be n k).take j))] wr) (fun _ i _=>k - (intOf i).toNat)
  case atStart=>exact⟨0,by omega,rfl,by simpa [oz] using HA.out⟩
  case round =>
   obtain⟨j,hj,rfl,hst⟩:=hrel
   have HS:=Lib.hid hst
   clear hst
   by_cases hlt:j<k
   ·go_wp2_with fail
    have hle:((be n k).take j).length=j:=by simp[be]; omega
    have hl2:=lM st ((be n k).take j)
    refine (HS.out.call 0 rfl (gN b _ _ (by omega) (by omega) (by omega))).mono ?_
    rintro e w1 ⟨v,A',N,rfl,⟨rfl,rfl,rfl⟩,H1⟩
    have HS1:=Lib.hid H1
    clear H1 hle hl2
    go_wp2_with fail
    go_roundw
    case rel =>
     refine⟨j+1,by omega,by go_num,?_⟩
     have:=HS1.out
     rw[j7] at this
     have e1:(be n k).take (j+1)=(be n k).take j ++ [UInt8.ofNat ((n / (2 ^ (8*(k - 1 - j)):Int)) % 256).toNat]:=by
      rw[List.take_succ_eq_append_getElem (by simp[be]; omega)]
      simp[be]
     rw[e1]
     exact this
    case measure=>simp[intOf]; omega
   ·have e1:j=k:=by omega
    have e2:(be n k).take k=be n k:=List.take_of_length_le (by simp[be])
    go_wp2_with fail
    go_end0
    refine⟨_,_,_,rfl,⟨rfl,rfl,rfl⟩,?_⟩
    have:=HS.out
    rw[e1,e2] at this
    simpa [ru,HF.out] using this
 ·have HF:=Lib.hid (show de n size=false by simpa using hf)
  clear hf
  have HA:=Lib.hid (ve F w (Sep.one hA))
  clear hA
  go_enter Tryz.func70,Tryz.ntmps70
  go_wp2_with fail
  refine (hN n size w h0 h1).mono ?_
  rintro e w' ⟨rfl,rfl⟩
  rw[HF.out]
  go_wp2_with fail
  refine (HA.out.call 0 rfl (iJ b _ 11)).mono ?_
  rintro e w1 ⟨v,A',N,rfl,⟨rfl,rfl,rfl⟩,H1⟩
  have HS1:=Lib.hid H1
  clear H1
  go_wp2_with fail
  go_end0
  refine⟨_,_,_,rfl,⟨rfl,rfl,rfl⟩,?_⟩
  simpa [ru,HF.out] using HS1.out
structure I where
 rest:List UInt8
 pos:Nat
 err:Int
def aB (l:List UInt8):ByteArray:=⟨l.toArray⟩
abbrev jS (l:List UInt8):Value:= .string (aB l)
theorem bsOf_size (l:List UInt8):(aB l).size=l.length:=by simp[aB,ByteArray.size]
theorem bX (l:List UInt8):(aB l).data.toList=l:=by simp[aB]
theorem cN (l:List UInt8):(aB l).toList=l:=ByteArray.toList_mk l
theorem rv (s:ByteArray):aB s.data.toList=s:=by cases s; simp[aB]
theorem fW (s:ByteArray) (a b:Nat):s.extract a b=aB ((s.data.toList.drop a).take (b - a)):=by
 apply ByteArray.ext
 apply Array.ext'
 simp[aB,ByteArray.data_extract,List.extract_eq_take_drop]
def InR (b:Nat) (st:I):Res where
 P:=fun w G=> ∃ s:ByteArray,w.heap[b]? = some (.cells #[.string s,.int .i64 st.pos,.int .i64 st.err] 104 (0,0))∧st.pos+st.rest.length=s.size∧s.size≤9223372036854775807∧s.data.toList.drop st.pos=st.rest∧ ∀ k,G k↔k=b
 lt:=by
  rintro w G ⟨s,h1,_,_,_,h3⟩ k hk
  rw[(h3 k).1 hk]
  exact jC h1
 move:=by
  rintro w w' G ⟨s,h1,h2,h3,h4,h5⟩ hm
  exact⟨s,(hm _ ((h5 _).2 rfl)).trans h1,h2,h3,h4,h5⟩
theorem InR.kept {b:Nat} {st:I} {w w':World} {F:Nat→Prop} (h:(InR b st).P w F) (n:Nat) (hw:w'=w.drewN n):St F w [InR b st] w':=by
 subst hw
 exact (ve F w (Sep.one h)).drewN n
def cx (st:I) (e:Int):I:=if st.err=0 then { st with err:=e } else st
def bd (st:I) (n:Int):List UInt8×I :=
 if st.err≠0 then ([],st) else if n<0 then ([],{ st with err:=4 }) else if st.rest.length<n then ([],{ st with err:=1 })
 else (st.rest.take n.toNat,{ st with rest:=st.rest.drop n.toNat,pos:=st.pos+n.toNat })
theorem sj (s:ByteArray) (hs:s.size≤9223372036854775807) :
 gm Tryz.prog 21 #[.string s] (fun v N=> ∃ b,v= .pointer (some ⟨b,0,none⟩)∧N = [InR b ⟨s.data.toList,0,0⟩]):=by
 intro w
 go_enter Tryz.func21,Tryz.ntmps21
 go_wp2
 go_ret
 refine⟨_,_,rfl,⟨_,rfl,rfl⟩,?_⟩
 refine (((vR w).alloc #[.string s,.int .i64 0,.int .i64 0] 104).weaken 0 rfl (A':=InR w.heap.size ⟨s.data.toList,0,0⟩) ?_)
 rintro G ⟨h1,h2⟩
 exact⟨s,h1,by simp,hs,rfl,h2⟩
theorem eh (b:Nat) (st:I) (e:Int):eg Tryz.prog 48 #[.pointer (some ⟨b,0,none⟩),.int .i64 e] (InR b st) (fun v A' N=>v= .tuple #[]∧A'=InR b (cx st e)∧N = []):=by
 rintro F w ⟨s,hb,h2,h3,h4,hF⟩
 have c2:w.cell? ⟨b,2,none⟩=some (.int .i64 st.err):=(aJ hb 2).trans rfl
 have f2:w.frozen? ⟨b,2,none⟩=false:=bt hb 2
 have HB:=Lib.hid hb
 have H4:=Lib.hid h4
 have H2:=Lib.hid h2
 clear hb h4 h2
 by_cases h0:st.err=0
 ·have H0:(st.err == 0)=true:=beq_iff_eq.2 h0
  have HH:=Lib.hid h0
  clear h0
  go_enter Tryz.func48,Tryz.ntmps48
  go_wp2
  go_end0
  refine⟨_,_,_,rfl,⟨rfl,rfl,rfl⟩,(Fr.refl F w).set (.inl ((hF b).2 rfl)) _,F,?_,fun k hk=> .inl hk,trivial⟩
  exact⟨s,by simpa [cx,HH.out] using jB HB.out 2 (.int .i64 e),by simpa [cx,HH.out] using H2.out,h3,by simpa [cx,HH.out] using H4.out,hF⟩
 ·have H0:(st.err == 0)=false:=beq_eq_false_iff_ne.2 h0
  have HH:=Lib.hid h0
  clear h0
  go_enter Tryz.func48,Tryz.ntmps48
  go_wp2
  go_end0
  refine⟨_,_,_,rfl,⟨rfl,rfl,rfl⟩,InR.kept (st:=cx st e) ?_ 0 rfl⟩
  rw[show cx st e=st by simp[cx,HH.out]]
  exact⟨s,HB.out,H2.out,h3,H4.out,hF⟩
theorem j8 (b:Nat) (st:I):eg Tryz.prog 80 #[.pointer (some ⟨b,0,none⟩)] (InR b st) (fun v A' N=>v= .int .i64 st.rest.length∧A'=InR b st∧N = []):=by
 rintro F w ⟨s,hb,h2,h3,h4,hF⟩
 have c0:w.cell? ⟨b,0,none⟩=some (.string s):=(aJ hb 0).trans rfl
 have c1:w.cell? ⟨b,1,none⟩=some (.int .i64 st.pos):=(aJ hb 1).trans rfl
 have HB:=Lib.hid hb
 have H4:=Lib.hid h4
 have H2:=Lib.hid h2
 have h2a:st.pos≤s.size:=by omega
 clear hb h4 h2
 go_enter Tryz.func80,Tryz.ntmps80
 go_wp2
 go_quiet (fail)
 go_wp2
 go_ret
 have e1:(s.size:Int) - st.pos=st.rest.length:=by have:=H2.out; omega
 exact⟨_,_,_,eA e1,⟨rfl,rfl,rfl⟩,InR.kept ⟨s,HB.out,H2.out,h3,H4.out,hF⟩ _ rfl⟩
theorem bQ (b:Nat) (st:I) (n:Int) (hn0: -9223372036854775808≤n) (hn1:n≤9223372036854775807) :
 eg Tryz.prog 47 #[.pointer (some ⟨b,0,none⟩),.int .i64 n] (InR b st) (fun v A' N=>v= .string (aB (bd st n).1)∧A'=InR b (bd st n).2∧N = []):=by
 rintro F w ⟨s,hb,h2,h3,h4,hF⟩
 have hA:(InR b st).P w F:=⟨s,hb,h2,h3,h4,hF⟩
 have c0:w.cell? ⟨b,0,none⟩=some (.string s):=(aJ hb 0).trans rfl
 have c1:w.cell? ⟨b,1,none⟩=some (.int .i64 st.pos):=(aJ hb 1).trans rfl
 have c2:w.cell? ⟨b,2,none⟩=some (.int .i64 st.err):=(aJ hb 2).trans rfl
 have f1:w.frozen? ⟨b,1,none⟩=false:=bt hb 1
 have HB:=Lib.hid hb
 have H4:=Lib.hid h4
 have H2:=Lib.hid h2
 have HA:=Lib.hid (ve F w (Sep.one hA))
 have h2a:st.pos≤s.size:=by omega
 have h2b: ¬ ((s.size:Int) - st.pos<n)↔n≤st.rest.length:=by omega
 have H2b:=Lib.hid h2b
 clear hb h4 h2 hA h2b
 by_cases h0:st.err=0
 ·have H0:(st.err != 0)=false:=by simp[h0]
  have HH:=Lib.hid h0
  clear h0
  by_cases hn:n<0
  ·have HT:=Lib.hid (show bd st n=([],cx st 4) by simp[bd,HH.out,hn,cx])
   go_enter Tryz.func47,Tryz.ntmps47
   go_wp2_with fail
   refine (HA.out.call 0 rfl (eh b st 4)).mono ?_
   rintro e w1 ⟨v,A',N,rfl,⟨rfl,rfl,rfl⟩,H1⟩
   have HS1:=Lib.hid H1
   clear H1
   go_wp2_with fail
   go_ret
   exact⟨_,_,_,rfl,⟨by rw[HT.out]; rfl,rfl,rfl⟩,by rw[HT.out]; exact HS1.out⟩
  ·by_cases hl:(st.rest.length:Int)<n
   ·have hl2:(s.size:Int) - st.pos<n:=by have:=H2.out; omega
    have HT:=Lib.hid (show bd st n=([],cx st 1) by simp[bd,HH.out,hn,cx,hl])
    go_enter Tryz.func47,Tryz.ntmps47
    go_wp2_with fail
    go_quiet (fail)
    go_wp2_with fail
    refine ((HA.out.drewN _).call 0 rfl (eh b st 1)).mono ?_
    rintro e w1 ⟨v,A',N,rfl,⟨rfl,rfl,rfl⟩,H1⟩
    have HS1:=Lib.hid H1
    clear H1
    go_wp2_with fail
    go_ret
    exact⟨_,_,_,rfl,⟨by rw[HT.out]; rfl,rfl,rfl⟩,by rw[HT.out]; exact HS1.out⟩
   ·have hl2: ¬ ((s.size:Int) - st.pos<n):=by have:=H2.out; omega
    obtain⟨m,rfl⟩: ∃ m:Nat,n=m:=⟨n.toNat,by omega⟩
    have hl3:st.pos+m≤s.size:=by omega
    have HT:=Lib.hid (show bd st m=(st.rest.take m,{ st with rest:=st.rest.drop m,pos:=st.pos+m }) by
     have: ¬ (st.rest.length<m):=by omega
     simp[bd,HH.out,this])
    go_enter Tryz.func47,Tryz.ntmps47
    go_wp2_with fail
    go_quiet (fail)
    go_wp2_with fail
    go_quiet (fail)
    go_wp2_with fail
    go_ret
    refine⟨.string (s.extract st.pos (st.pos+m)),_,_,rfl,⟨?_,rfl,rfl⟩,?_⟩
    ·rw[HT.out,fW,Nat.add_sub_cancel_left,H4.out]
    ·rw[HT.out]
     refine ((((ve F w (Sep.one (R:=aD b 104 #[.string s,.int .i64 st.pos,.int .i64 st.err]) ⟨HB.out,hF⟩)).drewN _).set 0 rfl 1 (.int .i64 (st.pos+m))).drewN _).weaken 0 rfl (A':=InR b { st with rest:=st.rest.drop m,pos:=st.pos+m }) ?_
     rintro G ⟨k1,k2⟩
     have h2:=H2.out
     refine⟨s,k1,?_,h3,?_,k2⟩
     ·simp only[xe]; omega
     ·simp only; rw[← H4.out,xM]
 ·have H0:(st.err != 0)=true:=bne_iff_ne.2 h0
  have HH:=Lib.hid h0
  clear h0
  go_enter Tryz.func47,Tryz.ntmps47
  go_wp2_with fail
  go_ret
  refine⟨_,_,_,rfl,⟨?_,rfl,rfl⟩,?_⟩
  ·simp[bd,HH.out,aB]
  ·simpa [bd,HH.out] using HA.out
theorem tN (x d:Int) (h0: -9223372036854775808≤x) (h1:x≤9223372036854775807) (hx:x % 256=0) (hd0:0≤d) (hd1:d<256):bits .or .i64 x d=x+d:=by
 have e1:(BitVec.ofInt 64 x).toNat=(x % 18446744073709551616).toNat:=by simp[BitVec.toNat_ofInt]
 have e2:(BitVec.ofInt 64 d).toNat=d.toNat:=by simp[BitVec.toNat_ofInt]; omega
 show IntKind.i64.wrap (((BitVec.ofInt 64 x) ||| (BitVec.ofInt 64 d)).toNat:Int)=x+d
 rw[BitVec.toNat_or,e1,e2]
 generalize ha:(x % 18446744073709551616).toNat=a
 have ha2:a % 256=0:=by omega
 have hq:a=2 ^ 8*(a / 256):=by omega
 have hb:d.toNat<2 ^ 8:=by omega
 have ho:a ||| d.toNat=a+d.toNat:=by
  rw[hq,← Nat.two_pow_add_eq_or_of_lt hb (a / 256)]
 rw[ho,IntKind.wrap_i64]
 omega
def sgn (c:UInt8):Int:=if c.toNat<128 then c.toNat else (c.toNat:Int) - 256
theorem sk (c:UInt8):wrap64 (IntKind.i8.wrap (c.toNat:Int))=sgn c:=by
 have:=c.toNat_lt
 have e:IntKind.i8.wrap (c.toNat:Int)=sgn c:=by
  unfold sgn
  simp[IntKind.wrap,IntKind.bits,IntKind.signed]
  split <;> split <;> omega
 rw[e]
 unfold sgn wrap64
 split <;> omega
def bK:List UInt8→Int
 | []=>0
 | c::cs=>cs.foldl (fun n d=>n*256+d.toNat) (sgn c)
theorem jb (l:List UInt8) (d:UInt8) (h:l ≠ []):bK (l ++ [d])=bK l*256+d.toNat:=by
 cases l with
 | nil=>exact absurd rfl h
 | cons c cs=>simp[bK]
theorem pI (cs:List UInt8): ∀ (n:Int) (m:Nat),1≤m→ -(2 ^ (m - 1):Int)≤n→n<(2 ^ (m - 1):Int) →
 -(2 ^ (m+8*cs.length - 1):Int)≤cs.foldl (fun n d=>n*256+(d.toNat:Int)) n∧cs.foldl (fun n d=>n*256+(d.toNat:Int)) n<(2 ^ (m+8*cs.length - 1):Int):=by
 induction cs with
 | nil=>intro n m _ h1 h2; exact⟨h1,h2⟩
 | cons c cs ih =>
  intro n m hm h1 h2
  have:=c.toNat_lt
  have e:(2 ^ (m+8 - 1):Int)=256*2 ^ (m - 1):=by
   rw[show m+8 - 1=8+(m - 1) by omega,Int.pow_add]
   rfl
  have h3:=ih (n*256+c.toNat) (m+8) (by omega) (by rw[e]; omega) (by rw[e]; omega)
  rw[show m+8*(c::cs).length - 1=m+8+8*cs.length - 1 by simp; omega]
  exact h3
theorem kJ (l:List UInt8) (h:l ≠ []): -(2 ^ (8*l.length - 1):Int)≤bK l∧bK l<(2 ^ (8*l.length - 1):Int):=by
 cases l with
 | nil=>exact absurd rfl h
 | cons c cs =>
  have hc:=c.toNat_lt
  have:=pI cs (sgn c) 8 (by omega) (by unfold sgn; split <;> omega) (by unfold sgn; split <;> omega)
  rw[show 8*(c::cs).length - 1=8+8*cs.length - 1 by simp; omega]
  exact this
theorem jD (l:List UInt8) (h:l ≠ []) (h7:l.length≤7): -36028797018963968≤bK l∧bK l<36028797018963968:=by
 have hr:=kJ l h
 have hp:(2 ^ (8*l.length - 1):Int)≤36028797018963968:=by
  have h1:(2 ^ (8*l.length - 1):Nat)≤2 ^ 55:=Nat.pow_le_pow_right (by decide) (by omega)
  have h2:((2 ^ (8*l.length - 1):Nat):Int)≤((2 ^ 55:Nat):Int):=Int.ofNat_le.2 h1
  rw[Int.natCast_pow,Int.natCast_pow] at h2
  exact h2
 generalize (2 ^ (8*l.length - 1):Int)=z at *
 omega
theorem pJ (q d:Int) (h0: -36028797018963968≤q) (h1:q<36028797018963968) (hd0:0≤d) (hd1:d<256):bits .or .i64 (wrap64 (q*256)) (wrap64 d)=q*256+d:=by
 have e2:wrap64 (q*256)=q*256:=by unfold wrap64; omega
 have e3:wrap64 d=d:=by unfold wrap64; omega
 rw[e2,e3,tN _ _ (by omega) (by omega) (by omega) hd0 hd1]
theorem pK (l:List UInt8):(aB l).toList.isEmpty=l.isEmpty:=by
 have e:(aB l).toList=l:=ByteArray.toList_mk l
 rw[e]
theorem hU (l:List UInt8) (i:Nat) (h:i<(aB l).size):(aB l)[i]=l[i]'(by simpa [bsOf_size] using h):=by
 simp[aB]; rfl
def eP (st:I) (size:Int):Int×I:=if 1≤size∧size≤8 then (bK (bd st size).1,(bd st size).2) else (0,cx st 4)
theorem rx (st:I) (n:Int):(bd st n).1.length≤n.toNat:=by
 unfold bd
 split
 ·simp
 ·split
  ·simp
  ·split
   ·simp
   ·simp; omega
theorem ry (b:Nat) (st:I) (size:Int) :
 eg Tryz.prog 77 #[.pointer (some ⟨b,0,none⟩),.int .i64 size] (InR b st) (fun v A' N=>v= .int .i64 (eP st size).1∧A'=InR b (eP st size).2∧N = []):=by
 intro F w hA
 by_cases hs:1≤size∧size≤8
 ·obtain⟨k,rfl⟩: ∃ k:Nat,size=k:=⟨size.toNat,by omega⟩
  have HI:=Lib.hid (show eP st k=(bK (bd st k).1,(bd st k).2) by simp only[eP,hs]; simp)
  have HA:=Lib.hid (ve F w (Sep.one hA))
  clear hA
  go_enter Tryz.func77,Tryz.ntmps77
  go_wp2_with fail
  refine (HA.out.call 0 rfl (bQ b st k (by omega) (by omega))).mono ?_
  rintro e w1 ⟨v,A',N,rfl,⟨rfl,rfl,rfl⟩,H1⟩
  have HS1:=Lib.hid H1
  have hlen:=rx st k
  clear H1
  generalize hl:(bd st k).1=l at *
  have hne:=pK l
  have HL:=Lib.hid hl
  clear hl
  cases l with
  | nil =>
   simp only[List.isEmpty_nil] at hne
   go_wp2_with fail
   go_ret
   exact⟨_,_,_,rfl,⟨by rw[HI.out]; rfl,rfl,rfl⟩,by rw[HI.out]; exact HS1.out⟩
  | cons c cs =>
   have hsz:=bsOf_size (c::cs)
   have h0:=hU (c::cs) 0 (by simp[bsOf_size])
   have HG:=Lib.hid (hU (c::cs))
   have hsg:=sk c
   have hl8:cs.length≤7:=by simp at hlen; omega
   simp only[List.getElem_cons_zero,List.isEmpty_cons] at h0 hne
   go_wp2_with fail
   go_loopw [6,7] (fun n i wr=>wr=w1∧ ∃ j:Nat,1≤j∧j≤cs.length+1∧i= .int .i64 j∧n= .int .i64 (bK ((c::cs).take j))) (fun _ i _=>cs.length+1 - (intOf i).toNat)
   case atStart=>exact⟨rfl,1,by omega,by omega,rfl,by simp[bK,hsg]⟩
   case round =>
    obtain⟨rfl,j,hj1,hj2,rfl,rfl⟩:=hrel
    by_cases hlt:j<cs.length+1
    ·have hgj:=HG.out j (by rw[hsz]; simpa using hlt)
     have hb:j≤9223372036854775806:=by omega
     have hnn:(c::cs).take j ≠ []:=by intro h; have:=congrArg List.length h; simp at this; omega
     have hr:=jD ((c::cs).take j) hnn (by simp; omega)
     generalize hq:bK ((c::cs).take j)=q at *
     have HQ:=Lib.hid hq
     have HR:=Lib.hid hr
     clear hq hr
     go_wp2_with fail
     go_roundw
     case rel =>
      refine⟨trivial,j+1,by omega,by omega,by go_num,?_⟩
      have hd:=((c::cs)[j]'(by simpa using hlt)).toNat_lt
      have e1:(c::cs).take (j+1)=(c::cs).take j ++ [(c::cs)[j]'(by simpa using hlt)]:=by
       rw[List.take_succ_eq_append_getElem (by simpa using hlt)]
      rw[e1,jb _ _ hnn,HQ.out,pJ q _ HR.out.1 HR.out.2 (by omega) (by omega)]
     case measure=>simp[intOf]; omega
    ·have e1:j=cs.length+1:=by omega
     have e2:(c::cs).take (cs.length+1)=c::cs:=List.take_of_length_le (by simp)
     have hb:(c::cs).length=cs.length+1:=rfl
     go_wp2_with fail
     go_ret
     exact⟨_,_,_,rfl,⟨by rw[HI.out,e1,e2]; rfl,rfl,rfl⟩,by rw[HI.out]; exact HS1.out⟩
 ·have HI:=Lib.hid (show eP st size=(0,cx st 4) by simp only[eP,hs]; simp)
  have HA:=Lib.hid (ve F w (Sep.one hA))
  clear hA
  by_cases h1:size<1
  all_goals
   go_enter Tryz.func77,Tryz.ntmps77
   go_wp2_with fail
   refine (HA.out.call 0 rfl (eh b st 4)).mono ?_
   rintro e w1 ⟨v,A',N,rfl,⟨rfl,rfl,rfl⟩,H1⟩
   have HS1:=Lib.hid H1
   clear H1
   go_wp2_with fail
   go_ret
   exact⟨_,_,_,rfl,⟨by rw[HI.out]; rfl,rfl,rfl⟩,by rw[HI.out]; exact HS1.out⟩
theorem InR.err {b:Nat} {st:I} {w:World} {F0:Nat→Prop} {w0:World} {Rs:List Res} (i:Nat) (h:St F0 w0 Rs w) (hi:Rs[i]? = some (InR b st)) :
 w.cell? ⟨b,2,none⟩=some (.int .i64 st.err)∧w.cell? ⟨b,1,none⟩=some (.int .i64 st.pos):=by
 obtain⟨G,⟨s,h1,_⟩,_⟩:=h.get i hi
 exact⟨(aJ h1 2).trans rfl,(aJ h1 1).trans rfl⟩
theorem iK (b:Nat) (st:I):eg Tryz.prog 23 #[.pointer (some ⟨b,0,none⟩)] (InR b st) (fun v A' N=>v= .int .i64 st.err∧A'=InR b st∧N = []):=by
 intro F w hA
 have hs:=ve F w (Sep.one hA)
 have c2:=(InR.err 0 hs rfl).1
 have HS:=Lib.hid hs
 clear hs hA
 go_enter Tryz.func23,Tryz.ntmps23
 go_wp2
 go_ret
 exact⟨_,_,_,rfl,⟨rfl,rfl,rfl⟩,HS.out⟩
def dm (st:I):I:=if st.rest = [] then st else cx st 2
theorem pL (b:Nat) (st:I):eg Tryz.prog 104 #[.pointer (some ⟨b,0,none⟩)] (InR b st) (fun v A' N=>v= .int .i64 (dm st).err∧A'=InR b (dm st)∧N = []):=by
 intro F w hA
 have HS:=Lib.hid (ve F w (Sep.one hA))
 clear hA
 by_cases h:st.rest = []
 ·have HC:=Lib.hid (show dm st=st by simp[dm,h])
  have hl:st.rest.length=0:=by simp[h]
  have HL:=Lib.hid hl
  have hl2: ¬ ((0:Int)<st.rest.length):=by omega
  clear h hl
  go_enter Tryz.func104,Tryz.ntmps104
  go_wp2_with fail
  refine (HS.out.call 0 rfl (j8 b st)).mono ?_
  rintro e w1 ⟨v,A',N,rfl,⟨rfl,rfl,rfl⟩,H1⟩
  have c2:=(InR.err 0 H1 rfl).1
  have HS1:=Lib.hid H1
  clear H1
  go_wp2_with fail
  go_ret
  exact⟨_,_,_,rfl,⟨by rw[HC.out]; rfl,rfl,rfl⟩,by rw[HC.out]; exact HS1.out⟩
 ·have HC:=Lib.hid (show dm st=cx st 2 by simp[dm,h])
  have hl2:(0:Int)<st.rest.length:=by
   have:=List.length_pos_iff.2 h
   omega
  clear h
  go_enter Tryz.func104,Tryz.ntmps104
  go_wp2_with fail
  refine (HS.out.call 0 rfl (j8 b st)).mono ?_
  rintro e w1 ⟨v,A',N,rfl,⟨rfl,rfl,rfl⟩,H1⟩
  have HS1:=Lib.hid H1
  clear H1
  go_wp2_with fail
  refine (HS1.out.call 0 rfl (eh b st 2)).mono ?_
  rintro e w2 ⟨v,A',N,rfl,⟨rfl,rfl,rfl⟩,H2⟩
  have c2:=(InR.err 0 H2 rfl).1
  have HS2:=Lib.hid H2
  clear H2
  go_wp2_with fail
  go_ret
  exact⟨_,_,_,rfl,⟨by rw[HC.out]; rfl,rfl,rfl⟩,by rw[HC.out]; exact HS2.out⟩
theorem bsOf_of (s:ByteArray): ∃ l,s=aB l:=⟨s.data.toList,(rv s).symm⟩
theorem nw (l:List UInt8) (j:Nat) (h:j<l.length):l.take (j+1)=l.take j ++ [l[j]]:=List.take_succ_eq_append_getElem h
theorem iX {l:List UInt8} {j:Nat} (h:j<l.length) (h0:0<j):l.take j ≠ []:=by
 intro he
 have:=congrArg List.length he
 rw[xx,xR] at this
 omega
theorem sn (l:List UInt8) (h8:l.length≤8) (w:World) :
 Calls Tryz.prog 72 #[.string (aB l)] w fun e w'=>e= .returned (.int .i64 (bK l))∧w=w':=by
 have hsz:=bsOf_size l
 have hl8:(aB l).size≤8:=by omega
 have HG:=Lib.hid (hU l)
 go_enter Tryz.func72,Tryz.ntmps72
 go_wp2_with fail
 go_loop [3,4] (fun n i=> ∃ j:Nat,j≤l.length∧i= .int .i64 j∧n= .int .i64 (bK (l.take j))) (fun _ i=>l.length - (intOf i).toNat)
 case atStart=>exact⟨0,by omega,rfl,by simp[bK]⟩
 case round =>
  obtain⟨j,hj,rfl,rfl⟩:=hrel
  by_cases hlt:j<l.length
  ·have hgj:=HG.out j (by omega)
   have hs:j<(aB l).size:=by omega
   have HT:=Lib.hid (nw l j hlt)
   have hc:=l[j].toNat_lt
   generalize l[j]=c at *
   by_cases hj0:j=0
   ·subst hj0
    have HE:=Lib.hid (show bK (l.take (0+1))=sgn c by rw[HT.out]; simp[bK])
    have hb0:bK (l.take 0)=0:=by simp[bK]
    clear HT
    rw[hb0]
    clear hb0
    by_cases h128:c.toNat<128
    all_goals
     go_wp2_with fail
     go_round
     case rel=>exact⟨0+1,by omega,by go_num,by rw[HE.out]; simp[sgn]; first | done | omega⟩
     case measure=>simp[intOf]; omega
   ·have hne:=iX hlt (by omega)
    have hr:=jD (l.take j) hne (by simp; omega)
    have HE:=Lib.hid (show bK (l.take (j+1))=bK (l.take j)*256+c.toNat by rw[HT.out,jb _ _ hne])
    clear HT
    have HN:=Lib.hid hne
    clear hne
    generalize bK (l.take j)=q at *
    have h0:((j:Int) == 0)=false:=by simp; omega
    have hr1:=hr.1
    have hr2:=hr.2
    go_wp2_with fail
    go_round
    case rel=>exact⟨j+1,by omega,by go_num,by rw[HE.out]⟩
    case measure=>simp[intOf]; omega
  ·have e1:j=l.length:=by omega
   have e2:=List.take_of_length_le (l:=l) (i:=l.length) (xB _)
   have E1:=Lib.hid e1
   have E2:=Lib.hid e2
   clear e1 e2
   go_wp2_with fail
   go_ret
   exact⟨eA (by rw[E1.out,E2.out]),rfl⟩
def dG (l:List UInt8):Array Value:=(aO l).toArray
theorem oB (l:List UInt8) (i:Nat):(dG l)[i]? = l[i]?.map fun b=>Value.int .u8 b.toNat:=by simp[dG,aO]
theorem oC (l:List UInt8) (i:Nat) (c:UInt8):(dG l).setIfInBounds i (.int .u8 c.toNat)=dG (l.set i c):=by
 simp[dG,aO]
theorem cC (n:Int) (k:Nat):(be n k).length=k:=by simp[be]
theorem pM (k:Nat) (hk:k≤140737488355328) (w:World):(Instr.makeSlice 22 (.int .i64 k) (.int .i64 k)).run Tryz.prog w =
 .ok (.slice (some ⟨w.heap.size,0,none⟩) k k) (w.alloc (.cells (dG (List.replicate k 0)) 5)):=by
 obtain⟨i,hi,hzz⟩:=Option.map_eq_some_iff.1 lK
 simp only[Prod.mk.injEq] at hzz
 rw[run_make w 22 5 i (.int .u8 0) Tryz.underlying22 hi hzz.1 .i64 .i64 k k (by omega) (by omega) (by rw[hzz.2.2]; omega) (by omega)]
 have e:madeCells (Value.int .u8 0).cells ((k:Int).toNat*i.size)=dG (List.replicate k 0):=by
  rw[hzz.2.1]
  simp[madeCells,dG,aO,Value.cells]
  apply Array.ext
  ·simp
  ·intro j h1 h2
   simp[Nat.mod_one]
 rw[e]
 rfl
theorem tO (n:Int) (k m:Nat) (h:m<k):(be n k).drop m=UInt8.ofNat ((n / (2 ^ (8*(k - 1 - m)):Int)) % 256).toNat::(be n k).drop (m+1):=by
 rw[List.drop_eq_getElem_cons (by simpa [be] using h)]
 simp[be]
theorem so (n:Int) (a:Nat):n / 2 ^ (8*a) / 256=n / (2 ^ (8*(a+1)):Int):=by
 have hp:(0:Int)<2 ^ (8*a):=Int.pow_pos (by decide)
 rw[show 8*(a+1)=8*a+8 by omega,Int.pow_add,← Int.ediv_ediv_of_nonneg (Int.le_of_lt hp)]
 rfl
theorem tP (q:Int):(q.tmod 256=q % 256∧0≤q.tmod 256)∨(q.tmod 256=q % 256 - 256∧q.tmod 256<0):=by
 rw[Int.tmod_eq_emod]
 split
 ·left; omega
 ·rename_i h
  right
  have: ¬ (256 ∣ q):=fun hd=>h (.inr hd)
  omega
theorem tQ (q:Int):(q - q % 256).tdiv 256=q / 256:=by
 have e:q - q % 256=q / 256*256:=by omega
 rw[e,Int.mul_tdiv_cancel _ (by decide)]
theorem tR (n:Int) (a:Nat) (h0: -9223372036854775808≤n) (h1:n≤9223372036854775807): -9223372036854775808≤n / 2 ^ a∧n / 2 ^ a≤9223372036854775807:=by
 have hp:(0:Int)<2 ^ a:=Int.pow_pos (by decide)
 generalize (2 ^ a:Int)=p at *
 constructor
 ·rcases Int.lt_or_le n 0 with h | h
  ·have:n≤n / p:=by
    rw[Int.le_ediv_iff_mul_le hp]
    have:n*p≤n*1:=Int.mul_le_mul_of_nonpos_left (by omega) (by omega)
    omega
   omega
  ·have:=Int.ediv_nonneg h (Int.le_of_lt hp)
   omega
 ·rcases Int.lt_or_le n 0 with h | h
  ·have:=Int.ediv_neg_of_neg_of_pos h hp
   omega
  ·have:=Int.ediv_le_self p h
   omega
theorem kK {w wr:World} {g k m:Nat} {n q d:Int} (hm:m+1≤k) (hs:St (fun _=>False) w [aD g 5 (dG (List.replicate (m+1) 0++(be n k).drop (m+1)))] wr)
 (hd:(be n k).drop m=UInt8.ofNat ((n / (2 ^ (8*(k - 1 - m)):Int)) % 256).toNat::(be n k).drop (m+1)) (hq:q=n / 2 ^ (8*(k - 1 - m))) (he:d=q % 256) :
 St (fun _=>False) w [aD g 5 (dG (List.replicate m 0++(be n k).drop m))] (wr.setCell ⟨g,m,none⟩ (.int .u8 d)):=by
 have h:=hs.set 0 rfl m (.int .u8 d)
 have e:(.int .u8 d:Value)= .int .u8 (UInt8.ofNat (q % 256).toNat).toNat:=by
  congr 1
  simp[UInt8.toNat_ofNat']
  omega
 have e2:(List.replicate (m+1) (0:UInt8)++(be n k).drop (m+1)).set m (UInt8.ofNat (q % 256).toNat)=List.replicate m 0++(be n k).drop m:=by
  rw[hd,← hq,List.replicate_succ',xq,List.set_append_right _ _ (by simp)]
  simp
 rw[e,oC,e2,← e] at h
 exact h
theorem pN (n:Int) (k:Nat) (h0: -9223372036854775808≤n) (h1:n≤9223372036854775807) (hk:k≤8) :
 gm Tryz.prog 43 #[.int .i64 n,.int .i64 k] (fun v N=>v= .string (aB (be n k))∧N = []):=by
 intro w
 have hmk:=pM k (by omega)
 go_enter Tryz.func43,Tryz.ntmps43
 go_wp2_with fail
 have HW:=Lib.hid ((vR w).alloc (dG (List.replicate k 0)) 5)
 clear hmk
 go_loopw [0,6] (fun q i wr=> ∃ j:Nat,j≤k∧i= .int .i64 ((j:Int) - 1)∧q= .int .i64 (n / 2 ^ (8*(k - j)))∧St (fun _=>False) w [aD w.heap.size 5 (dG (List.replicate j 0++(be n k).drop j))] wr) (fun _ i _=>(intOf i+1).toNat)
 case atStart=>exact⟨k,by omega,rfl,by simp,by
  have e:(be n k).drop k = []:=List.drop_of_length_le (by simp[be])
  rw[e,xN]
  exact HW.out⟩
 case round =>
  obtain⟨j,hj,rfl,rfl,hst⟩:=hrel
  have hr:=tR n (8*(k - j)) h0 h1
  cases j with
  | zero =>
   have hs:=hst.blk 0 rfl
   have HS:=Lib.hid hst
   clear hst hr
   have hrow:wr.ownsRow 0 5 1 (.slice (some ⟨w.heap.size,0,none⟩) k k) k (aO (be n k)):=by
    refine⟨by simp[aO,be],.inr ⟨w.heap.size,k,_,rfl,xH _,hs,xB _,by simp[maxLen]; omega,?_,?_⟩⟩
    ·simp[dG,aO,be]
    ·simp only[dG,List.replicate_zero,xy,List.drop_zero,Nat.mul_one]
     exact List.take_of_length_le (by simp[aO,be])
   have hc:=lI (P:=Tryz.prog) wr (src:=22) (dst:=9) Tryz.underlying22 Tryz.underlying5 Tryz.underlying9 hrow
   have HR:=Lib.hid hrow
   clear hrow hs
   go_wp2_with fail
   go_ret
   exact⟨_,_,rfl,⟨rfl,rfl⟩,HS.out.drop_⟩
  | succ m =>
   rw[show ((m+1:Nat):Int) - 1=m by omega]
   have hs:=hst.blk 0 rfl
   have hcell:wr.cell? ⟨w.heap.size,m,none⟩=some (.int .u8 0):=by
    rw[aJ hs m,oB,List.getElem?_append_left (by simp)]
    simp
   have hfree:wr.frozen? ⟨w.heap.size,m,none⟩=false:=bt hs m
   have HN:=Lib.hid (so n (k - (m+1)))
   have HQ:=Lib.hid (show n / 2 ^ (8*(k - (m+1)))=n / 2 ^ (8*(k - 1 - m)) by rw[show k - (m+1)=k - 1 - m by omega])
   have HS:=Lib.hid hst
   clear hst hs
   have hr1:=hr.1
   have hr2:=hr.2
   clear hr
   have HD:=Lib.hid (tO n k m (by omega))
   generalize hq:n / 2 ^ (8*(k - (m+1)))=q at *
   clear hq
   have hd:=tQ q
   rcases tP q with⟨hm,hneg⟩ | ⟨hm,hneg⟩
   ·have hb1:q.tmod 256<256:=by omega
    have hb2: -9223372036854775808≤q - q.tmod 256:=by omega
    have hb3:q - q.tmod 256≤9223372036854775807:=by omega
    have HM:=Lib.hid hm
    have HDV:=Lib.hid hd
    clear hm hd
    go_wp2_with fail
    go_roundw
    case rel =>
     refine⟨m,by omega,rfl,?_,kK hj HS.out HD.out HQ.out HM.out⟩
     rw[HM.out,HDV.out,HN.out,show k - (m+1)+1=k - m by omega]
    case measure=>simp[intOf]
   ·have hb1: -256≤q.tmod 256:=by omega
    have hb2: -9223372036854775808≤q - (q.tmod 256+256):=by omega
    have hb3:q - (q.tmod 256+256)≤9223372036854775807:=by omega
    have HM:=Lib.hid (show q.tmod 256+256=q % 256 by omega)
    have HDV:=Lib.hid hd
    clear hm hd
    go_wp2_with fail
    go_roundw
    case rel =>
     refine⟨m,by omega,rfl,?_,kK hj HS.out HD.out HQ.out HM.out⟩
     rw[HM.out,HDV.out,HN.out,show k - (m+1)+1=k - m by omega]
    case measure=>simp[intOf]
theorem qG (n:Int) (k j:Nat) (h:j<k):(be n k).take (j+1)=(be n k).take j ++ [UInt8.ofNat ((n / (2 ^ (8*(k - 1 - j)):Int)) % 256).toNat]:=by
 rw[List.take_succ_eq_append_getElem (by simpa [be] using h)]
 simp[be]
theorem oD (n:Int) (k:Nat) (h1:1≤k) (h8:k≤8):de n k=true ↔ -(2 ^ (8*k - 1):Int)≤n∧n<(2 ^ (8*k - 1):Int):=by
 simp[de]
 generalize (2 ^ (8*k - 1):Int)=z
 omega
theorem oE (q:Int):((UInt8.ofNat (q % 256).toNat).toNat:Int)=q % 256:=by
 simp[UInt8.toNat_ofNat']
 omega
theorem rz (n:Int) (k:Nat) (h8:k≤8) (hf:de n k=true): ∀ j:Nat,j+1≤k→bK ((be n k).take (j+1))=n / 2 ^ (8*(k - 1 - j)):=by
 intro j
 induction j with
 | zero =>
  intro h
  have hb:=(oD n k (by omega) h8).1 hf
  rw[qG n k 0 (by omega)]
  have e1:(2 ^ (8*k - 1):Int)=128*2 ^ (8*(k - 1 - 0)):=by
   rw[show 8*k - 1=7+8*(k - 1 - 0) by omega,Int.pow_add]
   rfl
  rw[e1] at hb
  have hp:(0:Int)<2 ^ (8*(k - 1 - 0)):=Int.pow_pos (by decide)
  have hl: -128≤n / 2 ^ (8*(k - 1 - 0)):=by
   rw[Int.le_ediv_iff_mul_le hp]; omega
  have hu:n / 2 ^ (8*(k - 1 - 0))<128:=by
   rw[Int.ediv_lt_iff_lt_mul hp]; omega
  generalize n / 2 ^ (8*(k - 1 - 0))=q at *
  have hv:=oE q
  generalize (UInt8.ofNat (q % 256).toNat)=c at *
  simp[bK,sgn]
  split <;> omega
 | succ j ih =>
  intro h
  have h2:=ih (by omega)
  rw[qG n k (j+1) (by omega),jb _ _ (iX (by simp[be]; omega) (by omega)),h2,oE]
  have h3:=so n (k - 1 - (j+1))
  rw[show k - 1 - (j+1)+1=k - 1 - j by omega] at h3
  omega
theorem oF (n:Int) (k:Nat) (h1:1≤k) (h8:k≤8) (hf:de n k=true):bK (be n k)=n:=by
 have h:=rz n k h8 hf (k - 1) (by omega)
 rw[show k - 1+1=k by omega,List.take_of_length_le (by simp[be])] at h
 rw[h,show k - 1 - (k - 1)=0 by omega]
 simp
theorem tS (n:Int) (k:Nat) (h1:1≤k) (h8:k≤8):(bK (be n k)=n)↔de n k=true:=by
 constructor
 ·intro h
  rw[oD n k h1 h8,← h]
  have:=kJ (be n k) (by intro he; have:=congrArg List.length he; simp[be] at this; omega)
  rw[cC] at this
  rw[h] at this ⊢
  exact this
 ·exact oF n k h1 h8
def Exit.jumps (J:Nat→Act→World→Prop) (Q:Exit→Act→World→Prop):Exit→Act→World→Prop
 | .goto l,a,w=>J l a w
 | e,a,w=>Q e a w
section
variable {J:Nat→Act→World→Prop} {Q:Exit→Act→World→Prop} {a:Act} {w:World}
end
section
variable {P:Program} {a:Act} {w:World} {Q:Exit→Act→World→Prop}
theorem gY {c:Code} (J:Nat→Act→World→Prop) (μ:Nat→Act→World→Nat)
 (pass: ∀ l a w,J l a w→ ∃ rest,findLabel c l=some (Code.skip.seq rest)∧rest.wp P (Exit.jumps (fun l' a' w'=>J l' a' w'∧μ l' a' w'<μ l a w) Q) a w)
 (first:(∀ l rest a w,findLabel c l=some (Code.skip.seq rest)→J l a w→rest.wp P (Exit.jumps J Q) a w)→c.wp P (Exit.jumps J Q) a w):(Code.scope c).wp P Q a w:=by
 intro b k cs
 have hg: ∀ l rest,findLabel c l=some rest→gotoIn l (.inScope c::k)=some (.code rest :: .inScope c::k):=fun l rest hf=>by simp[gotoIn,hf]
 have key: ∀ n l rest a w,findLabel c l=some (Code.skip.seq rest)→μ l a w=n→J l a w→ ∃ e a' w',Q e a' w'∧Arrives P (lone (b.at a (.code (Code.skip.seq rest) :: .inScope c::k)) cs w) b k cs e a' w':=by
  intro n
  induction n using Nat.strongRecOn with
  | _ n ih =>
   intro l rest a w hf hn hJ
   obtain⟨rest',hf',hp⟩:=pass l a w hJ
   rw[hf] at hf'
   injection hf' with hf'
   injection hf' with _ hf'
   subst hf'
   obtain⟨e,a₁,w₁,hq,harr⟩:=wp_seq (wp_skip (Q:=Exit.then _ _) hp) b (.inScope c::k) cs
   cases e with
   | normal=>exact⟨.normal,a₁,w₁,hq,Steps.trans harr (.one step_inScope)⟩
   | exit id=>exact⟨.exit id,a₁,w₁,hq,fun k' hk=>harr k' (by simp[exitTo,hk])⟩
   | goto l' =>
    obtain⟨hJ',hlt⟩:=hq
    obtain⟨rest₂,hf₂,_⟩:=pass l' a₁ w₁ hJ'
    obtain⟨e₂,a₂,w₂,hq₂,harr₂⟩:=ih _ (by omega) l' rest₂ a₁ w₁ hf₂ rfl hJ'
    exact⟨e₂,a₂,w₂,hq₂,.of_steps (harr _ (hg _ _ hf₂)) harr₂⟩
   | ret=>exact⟨_,a₁,w₁,hq,harr⟩
   | panic ch=>exact⟨_,a₁,w₁,hq,harr⟩
   | outgrown=>exact⟨_,a₁,w₁,hq,harr⟩
 obtain⟨e,a₁,w₁,hq,harr⟩:=first (fun l rest a w hf hJ=>by
  obtain⟨rest',hf',hp⟩:=pass l a w hJ
  rw[hf] at hf'
  injection hf' with hf'
  injection hf' with _ hf'
  subst hf'
  refine wp_mono hp ?_
  intro e a' w' h
  cases e <;> first | exact h | exact h.1) b (.inScope c::k) cs
 cases e with
 | normal=>exact⟨.normal,a₁,w₁,hq,.head step_scope (Steps.trans harr (.one step_inScope))⟩
 | exit id=>exact⟨.exit id,a₁,w₁,hq,fun k' hk=> .head step_scope (harr k' (by simp[exitTo,hk]))⟩
 | goto l' =>
  obtain⟨rest₂,hf₂,_⟩:=pass l' a₁ w₁ hq
  obtain⟨e₂,a₂,w₂,hq₂,harr₂⟩:=key _ l' rest₂ a₁ w₁ hf₂ rfl hq
  exact⟨e₂,a₂,w₂,hq₂,.of_steps (.head step_scope (harr _ (hg _ _ hf₂))) harr₂⟩
 | ret=>exact⟨_,a₁,w₁,hq,.of_steps (.one step_scope) harr⟩
 | panic ch=>exact⟨_,a₁,w₁,hq,.of_steps (.one step_scope) harr⟩
 | outgrown=>exact⟨_,a₁,w₁,hq,.of_steps (.one step_scope) harr⟩
end
def ci (n:Nat):List UInt8:=if n<128 then [UInt8.ofNat n] else UInt8.ofNat (n % 128+128)::ci (n / 128)
termination_by n
decreasing_by omega
def aK (n:Int):Nat:=if n<0 then (-(n+1)).toNat*2+1 else n.toNat*2
def bW (n:Nat):Int:=if n % 2=1 then -((n / 2:Nat):Int) - 1 else ((n / 2:Nat):Int)
theorem oG (k:Nat): ∀ n:Nat,n<128 ^ (k+1)→(ci n).length≤k+1:=by
 induction k with
 | zero=>intro n h; rw[ci,if_pos (by simpa using h)]; simp
 | succ k ih =>
  intro n h
  rw[ci]
  split
  ·simp
  ·have:=ih (n / 128) (by rw[Nat.div_lt_iff_lt_mul (by decide)]; rwa [Nat.pow_succ] at h)
   simp; omega
theorem fz (n:Nat):1≤(ci n).length:=by rw[ci]; split <;> simp
theorem oH (n:Nat) (h:n<18446744073709551616):(ci n).length≤10:=oG 9 n (by omega)
theorem lN (n:Int) (h0: -9223372036854775808≤n) (h1:n≤9223372036854775807):aK n<18446744073709551616:=by unfold aK; split <;> omega
theorem pO (n:Int):bW (aK n)=n:=by unfold bW aK; split <;> split <;> omega
theorem pP (n:Nat):aK (bW n)=n:=by unfold bW aK; split <;> split <;> omega
theorem tT (n:Int) (h0: -9223372036854775808≤n) (h1:n≤9223372036854775807) :
 bits .xor .u64 (IntKind.u64.wrap (wrap64 (n*2))) (IntKind.u64.wrap (n / 9223372036854775808))=(aK n:Int):=by
 have e1:IntKind.u64.wrap (wrap64 (n*2))=(n*2) % 18446744073709551616:=by rw[IntKind.wrap_u64]; unfold wrap64; omega
 rw[e1]
 show IntKind.u64.wrap ((BitVec.ofInt 64 _ ^^^ BitVec.ofInt 64 _).toNat:Int)= _
 rcases Int.lt_or_le n 0 with h | h
 ·have e2:IntKind.u64.wrap (n / 9223372036854775808)=18446744073709551615:=by rw[IntKind.wrap_u64]; omega
  rw[e2,show BitVec.ofInt 64 18446744073709551615=BitVec.allOnes 64 by decide,BitVec.xor_allOnes,BitVec.toNat_not,BitVec.toNat_ofInt,IntKind.wrap_u64]
  simp only[aK,if_pos h]
  omega
 ·have e2:IntKind.u64.wrap (n / 9223372036854775808)=0:=by rw[IntKind.wrap_u64]; omega
  rw[e2,show BitVec.ofInt 64 0=0#64 by decide,BitVec.xor_zero,BitVec.toNat_ofInt,IntKind.wrap_u64]
  simp only[aK,if_neg (show ¬ n<0 by omega)]
  omega
theorem qH (n m:Nat) (hn:n<18446744073709551616) (hm:m<18446744073709551616):bits .and .u64 n m=((n &&& m:Nat):Int):=by
 show IntKind.u64.wrap ((BitVec.ofInt 64 _ &&& BitVec.ofInt 64 _).toNat:Int)= _
 rw[BitVec.toNat_and,BitVec.toNat_ofInt,BitVec.toNat_ofInt,IntKind.wrap_u64]
 have e1:((n:Int) % (2 ^ 64:Nat)).toNat=n:=by omega
 have e2:((m:Int) % (2 ^ 64:Nat)).toNat=m:=by omega
 rw[e1,e2]
 have:n &&& m≤m:=Nat.and_le_right
 omega
theorem rA (n:Nat) (hn:n<18446744073709551616):bits .and .u64 n 1=((n % 2:Nat):Int):=by
 have h:=qH n 1 hn (by decide)
 rw[Nat.and_one_is_mod] at h
 exact h
theorem tU (n:Nat) (hn:n<18446744073709551616):bits .xor .i64 ((n:Int) / 2) (wrap64 (-wrap64 (bits .and .u64 n 1)))=bW n:=by
 rw[rA n hn]
 show IntKind.i64.wrap ((BitVec.ofInt 64 _ ^^^ BitVec.ofInt 64 _).toNat:Int)= _
 rcases Nat.mod_two_eq_zero_or_one n with h | h
 ·rw[h]
  have e2:wrap64 (-wrap64 ((0:Nat):Int))=0:=by unfold wrap64; omega
  rw[e2,show BitVec.ofInt 64 0=0#64 by decide,BitVec.xor_zero,BitVec.toNat_ofInt,IntKind.wrap_i64]
  simp only[bW,h]
  simp
  omega
 ·rw[h]
  have e2:wrap64 (-wrap64 ((1:Nat):Int))= -1:=by unfold wrap64; omega
  rw[e2,show BitVec.ofInt 64 (-1)=BitVec.allOnes 64 by decide,BitVec.xor_allOnes,BitVec.toNat_not,BitVec.toNat_ofInt,IntKind.wrap_i64]
  simp only[bW,h]
  simp
  omega
theorem tV: ∀ x:Fin 256,bits .or .u8 ((x.val:Nat):Int) 128=((x.val % 128+128:Nat):Int):=by decide
theorem or_128 (x:Nat) (h:x<256):bits .or .u8 (x:Int) 128=((x % 128+128:Nat):Int):=tV ⟨x,h⟩
theorem mM (n:Int) (h0: -9223372036854775808≤n) (h1:n≤9223372036854775807) (w:World) :
 Calls Tryz.prog 109 #[.int .i64 n] w fun e w'=>e= .returned (.int .u64 (aK n))∧w=w':=by
 have H:=Lib.hid (tT n h0 h1)
 go_enter Tryz.func109,Tryz.ntmps109
 go_wp2_with fail
 go_ret
 exact⟨eA H.out,rfl⟩
theorem mN (n:Nat) (hn:n<18446744073709551616) (w:World) :
 Calls Tryz.prog 113 #[.int .u64 n] w fun e w'=>e= .returned (.int .i64 (bW n))∧w=w':=by
 have H:=Lib.hid (tU n hn)
 go_enter Tryz.func113,Tryz.ntmps113
 go_wp2_with fail
 go_ret
 exact⟨eA H.out,rfl⟩
theorem mO (b:Nat) (st:List UInt8×Int) (n:Nat) (hn:n<18446744073709551616) (hl:st.1.length+10≤140737488355328) :
 eg Tryz.prog 108 #[.pointer (some ⟨b,0,none⟩),.int .u64 n] (aT b st) (fun v A' N=>v= .tuple #[]∧A'=aT b (d7 st (ci n))∧N = []):=by
 intro F w hA
 have HA:=Lib.hid (ve F w (Sep.one hA))
 clear hA
 have HT:=Lib.hid (oH n hn)
 go_enter Tryz.func108,Tryz.ntmps108
 go_wp2_with fail
 go_loopw [1] (fun i wr=> ∃ (m:Nat) (p:List UInt8),m≤n∧p++ci m=ci n∧i= .int .u64 m∧St F w [aT b (d7 st p)] wr) (fun i _=>(intOf i).toNat)
 case atStart=>exact⟨n,[],xB _,rfl,rfl,by rw[oz]; exact HA.out⟩
 case round =>
  obtain⟨m,p,hm,hp,rfl,hst⟩:=hrel
  have hlen:(d7 st p).1.length+1≤140737488355328:=by
   have h1:=lM st p
   have h2:=HT.out
   have h3:=fz m
   rw[← hp,xf] at h2
   omega
  have HS:=Lib.hid hst
  clear hst
  by_cases hlt:128≤m
  ·have ho:=or_128 (m % 256) (by omega)
   have e1:(m:Int) % 256=((m % 256:Nat):Int):=by omega
   rw[← e1] at ho
   have e2:m % 256 % 128=m % 128:=by omega
   rw[e2] at ho
   have HO:=Lib.hid ho
   have HP:=Lib.hid (show p ++ [UInt8.ofNat (m % 128+128)]++ci (m / 128)=ci n by rw[← hp,ci.eq_1 m,if_neg (by omega)]; simp)
   clear hp ho e1 e2
   go_wp2_with fail
   rw[HO.out]
   refine (HS.out.call 0 rfl (gN b _ ((m % 128+128:Nat):Int) (by omega) (by omega) hlen)).mono ?_
   rintro e w1 ⟨v,A',N,rfl,⟨rfl,rfl,rfl⟩,H1⟩
   rw[j7,xC] at H1
   have HS1:=Lib.hid H1
   clear H1
   go_wp2_with fail
   go_roundw
   case rel=>exact⟨m / 128,_,by omega,HP.out,by go_num,HS1.out⟩
   case measure=>simp[intOf]; omega
  ·have e1:(m:Int) % 256=((m:Nat):Int):=by omega
   have HO:=Lib.hid e1
   have HP:=Lib.hid (show p ++ [UInt8.ofNat m]=ci n by rw[← hp,ci.eq_1 m,if_pos (by omega)])
   clear hp e1
   go_wp2_with fail
   refine (HS.out.call 0 rfl (gN b _ (m:Int) (by omega) (by omega) hlen)).mono ?_
   rintro e w1 ⟨v,A',N,rfl,⟨rfl,rfl,rfl⟩,H1⟩
   rw[j7,xC,HP.out] at H1
   have HS1:=Lib.hid H1
   clear H1
   go_wp2_with fail
   go_end0
   exact⟨_,_,_,rfl,⟨rfl,rfl,rfl⟩,HS1.out⟩
theorem mA (b:Nat) (st:List UInt8×Int) (n:Int) (h0: -9223372036854775808≤n) (h1:n≤9223372036854775807) (hl:st.1.length+10≤140737488355328) :
 eg Tryz.prog 90 #[.pointer (some ⟨b,0,none⟩),.int .i64 n] (aT b st) (fun v A' N=>v= .tuple #[]∧A'=aT b (d7 st (ci (aK n)))∧N = []):=by
 intro F w hA
 have HA:=Lib.hid (ve F w (Sep.one hA))
 clear hA
 go_enter Tryz.func90,Tryz.ntmps90
 go_wp2_with fail
 refine (mM n h0 h1 w).mono ?_
 rintro e w' ⟨rfl,rfl⟩
 go_wp2_with fail
 refine (HA.out.call 0 rfl (mO b _ (aK n) (lN n h0 h1) hl)).mono ?_
 rintro e w1 ⟨v,A',N,rfl,⟨rfl,rfl,rfl⟩,H1⟩
 have HS1:=Lib.hid H1
 clear H1
 go_wp2_with fail
 go_end0
 exact⟨_,_,_,rfl,⟨rfl,rfl,rfl⟩,HS1.out⟩
def fm (st:List UInt8×Int) (n:Int):List UInt8×Int:=if -2147483648≤n∧n≤2147483647 then d7 st (ci (aK n)) else fV st 11
theorem fA (n:Int):de n 4=decide (-2147483648≤n∧n≤2147483647):=by
 have h1:(2 ^ (8*(4:Int).toNat - 1):Int)=2147483648:=by decide
 unfold de
 rw[h1,Bool.eq_iff_iff]
 simp
theorem jE (b:Nat) (st:List UInt8×Int) (n:Int) (h0: -9223372036854775808≤n) (h1:n≤9223372036854775807) (hl:st.1.length+10≤140737488355328) :
 eg Tryz.prog 91 #[.pointer (some ⟨b,0,none⟩),.int .i64 n] (aT b st) (fun v A' N=>v= .tuple #[]∧A'=aT b (fm st n)∧N = []):=by
 intro F w hA
 have HA:=Lib.hid (ve F w (Sep.one hA))
 clear hA
 by_cases hf: -2147483648≤n∧n≤2147483647
 ·have HF:=Lib.hid (show de n 4=true by rw[fA]; simp[hf])
  have HE:=Lib.hid (show fm st n=d7 st (ci (aK n)) by simp[fm,hf])
  go_enter Tryz.func91,Tryz.ntmps91
  go_wp2_with fail
  refine (hN n 4 w h0 h1).mono ?_
  rintro e w' ⟨rfl,rfl⟩
  rw[HF.out]
  go_wp2_with fail
  refine (mM n h0 h1 w).mono ?_
  rintro e w' ⟨rfl,rfl⟩
  go_wp2_with fail
  refine (HA.out.call 0 rfl (mO b _ (aK n) (lN n h0 h1) hl)).mono ?_
  rintro e w1 ⟨v,A',N,rfl,⟨rfl,rfl,rfl⟩,H1⟩
  have HS1:=Lib.hid H1
  clear H1
  go_wp2_with fail
  go_end0
  exact⟨_,_,_,rfl,⟨rfl,by rw[HE.out],rfl⟩,HS1.out⟩
 ·have HF:=Lib.hid (show de n 4=false by rw[fA]; simp; omega)
  have HE:=Lib.hid (show fm st n=fV st 11 by simp[fm,hf])
  clear hf
  go_enter Tryz.func91,Tryz.ntmps91
  go_wp2_with fail
  refine (hN n 4 w h0 h1).mono ?_
  rintro e w' ⟨rfl,rfl⟩
  rw[HF.out]
  go_wp2_with fail
  refine (HA.out.call 0 rfl (iJ b st 11)).mono ?_
  rintro e w1 ⟨v,A',N,rfl,⟨rfl,rfl,rfl⟩,H1⟩
  have HS1:=Lib.hid H1
  clear H1
  go_wp2_with fail
  go_end0
  exact⟨_,_,_,rfl,⟨rfl,by rw[HE.out],rfl⟩,HS1.out⟩
def vgo (bits:Int):List UInt8→Nat→Nat→Nat→Nat×I
 | [],pos,acc,i=>(0,⟨[],pos,1⟩)
 | c::l,pos,acc,i =>
  if bits - 7*i≤0∨(bits - 7*i<7∧c.toNat % 128 / 2 ^ (bits - 7*i).toNat≠0) then (0,⟨l,pos+1,3⟩)
  else if 128≤c.toNat then vgo bits l (pos+1) (acc+c.toNat % 128*2 ^ (7*i)) (i+1)
  else if c.toNat=0∧0<i then (0,⟨l,pos+1,3⟩)
  else (acc+c.toNat % 128*2 ^ (7*i),⟨l,pos+1,0⟩)
def co (bits:Int) (st:I):Nat×I:=if st.err≠0 then (0,st) else vgo bits st.rest st.pos 0 0
theorem rB (c:UInt8) (l:List UInt8) (pos:Nat):bd ⟨c::l,pos,0⟩ 1=([c],⟨l,pos+1,0⟩):=by
 unfold bd
 rw[if_neg (by simp),if_neg (by omega),if_neg (by simp only[xw]; omega)]
 simp
theorem pQ (pos:Nat):bd ⟨[],pos,0⟩ 1=([],⟨[],pos,1⟩):=by
 unfold bd
 rw[if_neg (by simp),if_neg (by omega),if_pos (by simp)]
 done
theorem kL (d:Nat) (hd:d<256):bits .and .u64 d 127=((d % 128:Nat):Int):=by
 have h:=qH d 127 (by omega) (by decide)
 rw[Nat.and_two_pow_sub_one_eq_mod d 7] at h
 exact h
theorem mP (k:Nat) {d:Nat} (hd:d<256):(bits .and .u64 d 127 / 2 ^ k != 0)=decide (d % 128 / 2 ^ k≠0):=by
 rw[kL d hd,show ((d % 128:Nat):Int) / 2 ^ k=((d % 128 / 2 ^ k:Nat):Int) by rw[Int.natCast_ediv,Int.natCast_pow]; rfl]
 generalize d % 128 / 2 ^ k=z
 rw[Bool.eq_iff_iff]
 simp
theorem nx: ∀ d:Fin 256,(bits .and .u64 ((d.val:Nat):Int) 128 != 0)=decide (128≤d.val):=by decide
theorem fX (d:Nat) (hd:d<256):(bits .and .u64 d 128 != 0)=decide (128≤d):=nx ⟨d,hd⟩
theorem fY (bs:Int) (hb:bs=32∨bs=64) (acc x i:Nat) (hacc:acc<2 ^ (7*i)) (hl:0<bs - 7*i) (hx:x<128) (hd: ¬ (bs - 7*i<7∧x / 2 ^ (bs - 7*i).toNat≠0)) :
 acc+x*2 ^ (7*i)<2 ^ (7*(i+1))∧acc+x*2 ^ (7*i)<2 ^ bs.toNat:=by
 have e1:2 ^ (7*(i+1))=128*2 ^ (7*i):=by rw[show 7*(i+1)=7+7*i by omega,Nat.pow_add]
 have e2:2 ^ bs.toNat=2 ^ (bs - 7*i).toNat*2 ^ (7*i):=by rw[← Nat.pow_add]; congr 1; omega
 have h1:x<2 ^ (bs - 7*i).toNat:=by
  by_cases h7:bs - 7*i<7
  ·have h2:x / 2 ^ (bs - 7*i).toNat=0:=by
    rcases Nat.eq_zero_or_pos (x / 2 ^ (bs - 7*i).toNat) with h | h
    ·exact h
    ·exact absurd ⟨h7,by omega⟩ hd
   exact (Nat.div_eq_zero_iff.1 h2).resolve_left (by have:=Nat.two_pow_pos (bs - 7*i).toNat; omega)
  ·have:2 ^ 7≤2 ^ (bs - 7*i).toNat:=Nat.pow_le_pow_right (by decide) (by omega)
   omega
 have h3:(x+1)*2 ^ (7*i)≤2 ^ (bs - 7*i).toNat*2 ^ (7*i):=Nat.mul_le_mul_right _ h1
 have h4:(x+1)*2 ^ (7*i)≤128*2 ^ (7*i):=Nat.mul_le_mul_right _ hx
 rw[Nat.add_mul] at h3 h4
 rw[e1,e2]
 omega
theorem qI (bs:Int) (hb:bs=32∨bs=64) (acc d i:Nat) (hacc:acc<2 ^ (7*i)) (hdd:d<256) (hl:0<bs - 7*i) (hd: ¬ (bs - 7*i<7∧d % 128 / 2 ^ (bs - 7*i).toNat≠0)) :
 bits .or .u64 acc (IntKind.u64.wrap (bits .and .u64 d 127*2 ^ (7*i)))=((acc+d % 128*2 ^ (7*i):Nat):Int):=by
 obtain⟨_,h2⟩:=fY bs hb acc (d % 128) i hacc hl (by omega) hd
 have h3:2 ^ bs.toNat≤18446744073709551616:=by rcases hb with rfl | rfl <;> decide
 have hlt:acc+d % 128*2 ^ (7*i)<18446744073709551616:=by omega
 rw[kL d hdd]
 have e1:((d % 128:Nat):Int)*2 ^ (7*i)=((d % 128*2 ^ (7*i):Nat):Int):=by rw[Int.natCast_mul,Int.natCast_pow]; rfl
 have e0:=Nat.two_pow_add_eq_or_of_lt hacc (d % 128)
 rw[Nat.mul_comm] at e0
 rw[e1]
 generalize d % 128*2 ^ (7*i)=y at *
 have e2:IntKind.u64.wrap (y:Int)=y:=by rw[IntKind.wrap_u64]; omega
 rw[e2]
 show IntKind.u64.wrap ((BitVec.ofInt 64 _ ||| BitVec.ofInt 64 _).toNat:Int)= _
 rw[BitVec.toNat_or,BitVec.toNat_ofInt,BitVec.toNat_ofInt]
 have e3:((acc:Int) % (2 ^ 64:Nat)).toNat=acc:=by omega
 have e4:((y:Int) % (2 ^ 64:Nat)).toNat=y:=by omega
 rw[e3,e4,Nat.or_comm,← e0,IntKind.wrap_u64]
 omega
attribute [local go_sem] cN bsOf_size
theorem sp (b:Nat) (st:I) (bs:Int) (h0:st.err≠0) :
 eg Tryz.prog 114 #[.pointer (some ⟨b,0,none⟩),.int .i64 bs] (InR b st) (fun v A' N=>v= .int .u64 0∧A'=InR b st∧N = []):=by
 intro F w hA
 have HA:=Lib.hid (ve F w (Sep.one hA))
 clear hA
 have HT:=Lib.hid (show bd st 1=([],st) by simp[bd,h0])
 go_enter Tryz.func114,Tryz.ntmps114
 go_wp2_with fail
 go_step3
 go_wp2_with fail
 go_step3
 go_wp2_with fail
 refine (HA.out.call 0 rfl (bQ b st 1 (by omega) (by omega))).mono ?_
 rintro e w1 ⟨v,A',N,rfl,⟨rfl,rfl,rfl⟩,H1⟩
 rw[HT.out] at H1 ⊢
 have HS1:=Lib.hid H1
 clear H1
 go_wp2_with fail
 go_ret
 exact⟨_,_,_,rfl,⟨rfl,rfl,rfl⟩,HS1.out⟩
def VJ (F:Nat→Prop) (w:World) (b:Nat) (bs:Int) (res:Nat×I) (lab:Nat) (a':Act) (w':World):Prop :=
 (lab=0∧ ∃ (l1:List UInt8) (pos1 acc i:Nat),St F w [InR b ⟨l1,pos1,0⟩] w'∧acc<2 ^ (7*i)∧7*i<bs+7∧vgo bs l1 pos1 acc i=res ∧
  ∃ u7 u8 u9 u10 u11 u12 u13 u14 u15 u16 u17 u18 u19 u20 u21 u22 u23 u24 u25 u26 u27 u28 u29 u30 u31 u32 u33 u34 u35 u36 u37 u38 u39 u40 u41 u42 u43 u44 u45 u46 u47 u48 u49 u50 u51 u52 u53 u54 u55,a' = { tmps:= #[.pointer (some ⟨b,0,none⟩),.int .i64 bs,undef,undef,.int .u64 0,.int .u64 acc,.int .i64 (7*i),u7,u8,u9,u10,u11,u12,u13,u14,u15,u16,u17,u18,u19,u20,u21,u22,u23,u24,u25,u26,u27,u28,u29,u30,u31,u32,u33,u34,u35,u36,u37,u38,u39,u40,u41,u42,u43,u44,u45,u46,u47,u48,u49,u50,u51,u52,u53,u54,u55],defers := [] }) ∨
 (lab=1∧ ∃ (l1:List UInt8) (pos1:Nat),St F w [InR b ⟨l1,pos1,0⟩] w'∧(0,⟨l1,pos1,3⟩)=res ∧
  ∃ u5 u6 u7 u8 u9 u10 u11 u12 u13 u14 u15 u16 u17 u18 u19 u20 u21 u22 u23 u24 u25 u26 u27 u28 u29 u30 u31 u32 u33 u34 u35 u36 u37 u38 u39 u40 u41 u42 u43 u44 u45 u46 u47 u48 u49 u50 u51 u52 u53 u54 u55,a' = { tmps:= #[.pointer (some ⟨b,0,none⟩),.int .i64 bs,undef,undef,.int .u64 0,u5,u6,u7,u8,u9,u10,u11,u12,u13,u14,u15,u16,u17,u18,u19,u20,u21,u22,u23,u24,u25,u26,u27,u28,u29,u30,u31,u32,u33,u34,u35,u36,u37,u38,u39,u40,u41,u42,u43,u44,u45,u46,u47,u48,u49,u50,u51,u52,u53,u54,u55],defers := [] })
def VM (lab:Nat) (a':Act) (_:World):Nat:=if lab=1 then 0 else 100 - (intOf (a'.tmps.getD 6 undef)).toNat
theorem Uns_go (b:Nat) (l:List UInt8) (pos:Nat) (bs:Int) (hb:bs=32∨bs=64) :
 eg Tryz.prog 114 #[.pointer (some ⟨b,0,none⟩),.int .i64 bs] (InR b ⟨l,pos,0⟩) (fun v A' N=>v= .int .u64 (vgo bs l pos 0 0).1∧A'=InR b (vgo bs l pos 0 0).2∧N = []):=by
 intro F w hA
 have HA:=Lib.hid (ve F w (Sep.one hA))
 clear hA
 generalize hres:vgo bs l pos 0 0=res
 go_enter Tryz.func114,Tryz.ntmps114
 go_wp2_with fail
 refine gY (VJ F w b bs res) VM ?_ ?_
 ·rintro lab a' w1 (⟨rfl,l1,pos1,acc,i,hst,hacc,hi,hg,u7,u8,u9,u10,u11,u12,u13,u14,u15,u16,u17,u18,u19,u20,u21,u22,u23,u24,u25,u26,u27,u28,u29,u30,u31,u32,u33,u34,u35,u36,u37,u38,u39,u40,u41,u42,u43,u44,u45,u46,u47,u48,u49,u50,u51,u52,u53,u54,u55,rfl⟩ | ⟨rfl,l1,pos1,hst,hg,u5,u6,u7,u8,u9,u10,u11,u12,u13,u14,u15,u16,u17,u18,u19,u20,u21,u22,u23,u24,u25,u26,u27,u28,u29,u30,u31,u32,u33,u34,u35,u36,u37,u38,u39,u40,u41,u42,u43,u44,u45,u46,u47,u48,u49,u50,u51,u52,u53,u54,u55,rfl⟩)
  ·refine⟨_,rfl,?_⟩
   have HS:=Lib.hid hst
   have HG:=Lib.hid hg
   have HACC:=Lib.hid hacc
   have hb1:bs≤64:=by omega
   clear hst hg hacc
   cases l1 with
   | nil =>
    have HT:=Lib.hid (pQ pos1)
    go_wp2_with fail
    refine (HS.out.call 0 rfl (bQ b _ 1 (by omega) (by omega))).mono ?_
    rintro e w2 ⟨v,A',N,rfl,⟨rfl,rfl,rfl⟩,H1⟩
    rw[HT.out] at H1 ⊢
    have HS1:=Lib.hid H1
    clear H1
    go_wp2_with fail
    go_ret
    exact⟨_,_,_,rfl,⟨by rw[← HG.out]; rfl,by rw[← HG.out]; rfl,rfl⟩,HS1.out⟩
   | cons c l2 =>
    have HT:=Lib.hid (rB c l2 pos1)
    have hsz:=bsOf_size [c]
    have h0:=hU [c] 0 (by simp[bsOf_size])
    simp only[List.getElem_cons_zero] at h0
    have hc:c.toNat<256:=c.toNat_lt
    by_cases hl:bs - 7*i≤0
    ·have HV:=Lib.hid (show (0,⟨l2,pos1+1,3⟩)=res by rw[← HG.out,vgo,if_pos (by first | exact .inl hl | exact .inr ⟨by omega,hq⟩)])
     by_cases hz:(bits .and .u64 c.toNat 127 != 0)=true
     ·go_wp2_with fail
      refine (HS.out.call 0 rfl (bQ b _ 1 (by omega) (by omega))).mono ?_
      rintro e w2 ⟨v,A',N,rfl,⟨rfl,rfl,rfl⟩,H1⟩
      rw[HT.out] at H1 ⊢
      have HS1:=Lib.hid H1
      clear H1
      go_wp2_with fail
      go_step3
      exact⟨.inr ⟨rfl,l2,pos1+1,HS1.out,HV.out,_,_,_,_,_,_,_,_,_,_,_,_,_,_,_,_,_,_,_,_,_,_,_,_,_,_,_,_,_,_,_,_,_,_,_,_,_,_,_,_,_,_,_,_,_,_,_,_,_,_,_,rfl⟩,by simp[VM,intOf]; omega⟩
     ·have hz':(bits .and .u64 c.toNat 127 != 0)=false:=by simpa using hz
      go_wp2_with fail
      refine (HS.out.call 0 rfl (bQ b _ 1 (by omega) (by omega))).mono ?_
      rintro e w2 ⟨v,A',N,rfl,⟨rfl,rfl,rfl⟩,H1⟩
      rw[HT.out] at H1 ⊢
      have HS1:=Lib.hid H1
      clear H1
      go_wp2_with fail
      go_step3
      exact⟨.inr ⟨rfl,l2,pos1+1,HS1.out,HV.out,_,_,_,_,_,_,_,_,_,_,_,_,_,_,_,_,_,_,_,_,_,_,_,_,_,_,_,_,_,_,_,_,_,_,_,_,_,_,_,_,_,_,_,_,_,_,_,_,_,_,_,rfl⟩,by simp[VM,intOf]; omega⟩
    ·have hl':0<bs - 7*i:=by omega
     by_cases hl7:7≤bs - 7*i
     ·have HD:=Lib.hid (show ¬ (bs - 7*i<7∧c.toNat % 128 / 2 ^ (bs - 7*i).toNat≠0) by omega)
      have HA2:=Lib.hid (qI bs hb acc c.toNat i HACC.out (by omega) hl' HD.out)
      have HLT:=Lib.hid (fY bs hb acc (c.toNat % 128) i HACC.out hl' (by omega) HD.out)
      have HN:=Lib.hid (show ¬ (bs - 7*i≤0∨(bs - 7*i<7∧c.toNat % 128 / 2 ^ (bs - 7*i).toNat≠0)) from fun h=>h.elim (fun h=>by omega) HD.out)
      by_cases h128:128≤c.toNat
      ·have HV:=Lib.hid (show vgo bs l2 (pos1+1) (acc+c.toNat % 128*2 ^ (7*i)) (i+1)=res by rw[← HG.out,vgo,if_neg HN.out,if_pos h128])
       have hbt:(bits .and .u64 c.toNat 128 != 0)=true:=by rw[fX _ hc]; simpa using h128
       go_wp2_with fail
       refine (HS.out.call 0 rfl (bQ b _ 1 (by omega) (by omega))).mono ?_
       rintro e w2 ⟨v,A',N,rfl,⟨rfl,rfl,rfl⟩,H1⟩
       rw[HT.out] at H1 ⊢
       have HS1:=Lib.hid H1
       clear H1
       go_wp2_with fail
       go_step3
       rw[HA2.out,show (7*(i:Int)+7)=7*((i+1:Nat):Int) by omega]
       exact⟨.inl ⟨rfl,l2,pos1+1,_,i+1,HS1.out,HLT.out.1,by omega,HV.out,_,_,_,_,_,_,_,_,_,_,_,_,_,_,_,_,_,_,_,_,_,_,_,_,_,_,_,_,_,_,_,_,_,_,_,_,_,_,_,_,_,_,_,_,_,_,_,_,_,rfl⟩,by simp[VM,intOf]; omega⟩
      ·have hbt:(bits .and .u64 c.toNat 128 != 0)=false:=by rw[fX _ hc]; simpa using h128
       by_cases hz:c.toNat=0∧0<i
       ·have HV:=Lib.hid (show (0,⟨l2,pos1+1,3⟩)=res by rw[← HG.out,vgo,if_neg HN.out,if_neg h128,if_pos hz])
        obtain⟨hz1,hz2⟩:=hz
        have hz0:((c.toNat:Int) == 0)=true:=by simp[hz1]
        try (have hq0:(bits .and .u64 0 127 / 2 ^ (bs - 7*i).toNat != 0)=false:=by (rw[← hqb,hz1]; rfl))
        have hi0:0<7*(i:Int):=by omega
        go_wp2_with fail
        refine (HS.out.call 0 rfl (bQ b _ 1 (by omega) (by omega))).mono ?_
        rintro e w2 ⟨v,A',N,rfl,⟨rfl,rfl,rfl⟩,H1⟩
        rw[HT.out] at H1 ⊢
        have HS1:=Lib.hid H1
        clear H1
        go_wp2_with fail
        go_step3
        exact⟨.inr ⟨rfl,l2,pos1+1,HS1.out,HV.out,_,_,_,_,_,_,_,_,_,_,_,_,_,_,_,_,_,_,_,_,_,_,_,_,_,_,_,_,_,_,_,_,_,_,_,_,_,_,_,_,_,_,_,_,_,_,_,_,_,_,_,rfl⟩,by simp[VM,intOf]; omega⟩
       ·have HV:=Lib.hid (show (acc+c.toNat % 128*2 ^ (7*i),⟨l2,pos1+1,0⟩)=res by rw[← HG.out,vgo,if_neg HN.out,if_neg h128,if_neg hz])
        by_cases hz1:c.toNat=0
        ·have hz0:((c.toNat:Int) == 0)=true:=by simp[hz1]
         try (have hq0:(bits .and .u64 0 127 / 2 ^ (bs - 7*i).toNat != 0)=false:=by (rw[← hqb,hz1]; rfl))
         have HA3:=Lib.hid (show bits .or .u64 acc (IntKind.u64.wrap (bits .and .u64 0 127*2 ^ (7*i)))=((acc+c.toNat % 128*2 ^ (7*i):Nat):Int) by rw[← HA2.out,hz1]; rfl)
         have hi0: ¬ (0<7*(i:Int)):=by omega
         go_wp2_with fail
         refine (HS.out.call 0 rfl (bQ b _ 1 (by omega) (by omega))).mono ?_
         rintro e w2 ⟨v,A',N,rfl,⟨rfl,rfl,rfl⟩,H1⟩
         rw[HT.out] at H1 ⊢
         have HS1:=Lib.hid H1
         clear H1
         go_wp2_with fail
         all_goals
          go_ret
          exact⟨_,_,_,rfl,⟨by rw[← HV.out]; exact congrArg (Value.int IntKind.u64) HA3.out,by rw[← HV.out],rfl⟩,HS1.out⟩
        ·have hz0:((c.toNat:Int) == 0)=false:=by simp; omega
         go_wp2_with fail
         refine (HS.out.call 0 rfl (bQ b _ 1 (by omega) (by omega))).mono ?_
         rintro e w2 ⟨v,A',N,rfl,⟨rfl,rfl,rfl⟩,H1⟩
         rw[HT.out] at H1 ⊢
         have HS1:=Lib.hid H1
         clear H1
         go_wp2_with fail
         go_ret
         exact⟨_,_,_,rfl,⟨by rw[← HV.out]; exact congrArg (Value.int IntKind.u64) HA2.out,by rw[← HV.out],rfl⟩,HS1.out⟩
     ·by_cases hq:c.toNat % 128 / 2 ^ (bs - 7*i).toNat≠0
      ·have HV:=Lib.hid (show (0,⟨l2,pos1+1,3⟩)=res by rw[← HG.out,vgo,if_pos (by first | exact .inl hl | exact .inr ⟨by omega,hq⟩)])
       have hqb:(bits .and .u64 c.toNat 127 / 2 ^ (bs - 7*i).toNat != 0)=true:=by rw[mP _ hc]; simpa using hq
       go_wp2_with fail
       refine (HS.out.call 0 rfl (bQ b _ 1 (by omega) (by omega))).mono ?_
       rintro e w2 ⟨v,A',N,rfl,⟨rfl,rfl,rfl⟩,H1⟩
       rw[HT.out] at H1 ⊢
       have HS1:=Lib.hid H1
       clear H1
       go_wp2_with fail
       go_step3
       exact⟨.inr ⟨rfl,l2,pos1+1,HS1.out,HV.out,_,_,_,_,_,_,_,_,_,_,_,_,_,_,_,_,_,_,_,_,_,_,_,_,_,_,_,_,_,_,_,_,_,_,_,_,_,_,_,_,_,_,_,_,_,_,_,_,_,_,_,rfl⟩,by simp[VM,intOf]; omega⟩
      ·have hqb:(bits .and .u64 c.toNat 127 / 2 ^ (bs - 7*i).toNat != 0)=false:=by rw[mP _ hc]; simpa using hq
       have HD:=Lib.hid (show ¬ (bs - 7*i<7∧c.toNat % 128 / 2 ^ (bs - 7*i).toNat≠0) by omega)
       have HA2:=Lib.hid (qI bs hb acc c.toNat i HACC.out (by omega) hl' HD.out)
       have HLT:=Lib.hid (fY bs hb acc (c.toNat % 128) i HACC.out hl' (by omega) HD.out)
       have HN:=Lib.hid (show ¬ (bs - 7*i≤0∨(bs - 7*i<7∧c.toNat % 128 / 2 ^ (bs - 7*i).toNat≠0)) from fun h=>h.elim (fun h=>by omega) HD.out)
       by_cases h128:128≤c.toNat
       ·have HV:=Lib.hid (show vgo bs l2 (pos1+1) (acc+c.toNat % 128*2 ^ (7*i)) (i+1)=res by rw[← HG.out,vgo,if_neg HN.out,if_pos h128])
        have hbt:(bits .and .u64 c.toNat 128 != 0)=true:=by rw[fX _ hc]; simpa using h128
        go_wp2_with fail
        refine (HS.out.call 0 rfl (bQ b _ 1 (by omega) (by omega))).mono ?_
        rintro e w2 ⟨v,A',N,rfl,⟨rfl,rfl,rfl⟩,H1⟩
        rw[HT.out] at H1 ⊢
        have HS1:=Lib.hid H1
        clear H1
        go_wp2_with fail
        go_step3
        rw[HA2.out,show (7*(i:Int)+7)=7*((i+1:Nat):Int) by omega]
        exact⟨.inl ⟨rfl,l2,pos1+1,_,i+1,HS1.out,HLT.out.1,by omega,HV.out,_,_,_,_,_,_,_,_,_,_,_,_,_,_,_,_,_,_,_,_,_,_,_,_,_,_,_,_,_,_,_,_,_,_,_,_,_,_,_,_,_,_,_,_,_,_,_,_,_,rfl⟩,by simp[VM,intOf]; omega⟩
       ·have hbt:(bits .and .u64 c.toNat 128 != 0)=false:=by rw[fX _ hc]; simpa using h128
        by_cases hz:c.toNat=0∧0<i
        ·have HV:=Lib.hid (show (0,⟨l2,pos1+1,3⟩)=res by rw[← HG.out,vgo,if_neg HN.out,if_neg h128,if_pos hz])
         obtain⟨hz1,hz2⟩:=hz
         have hz0:((c.toNat:Int) == 0)=true:=by simp[hz1]
         try (have hq0:(bits .and .u64 0 127 / 2 ^ (bs - 7*i).toNat != 0)=false:=by (rw[← hqb,hz1]; rfl))
         have hi0:0<7*(i:Int):=by omega
         go_wp2_with fail
         refine (HS.out.call 0 rfl (bQ b _ 1 (by omega) (by omega))).mono ?_
         rintro e w2 ⟨v,A',N,rfl,⟨rfl,rfl,rfl⟩,H1⟩
         rw[HT.out] at H1 ⊢
         have HS1:=Lib.hid H1
         clear H1
         go_wp2_with fail
         go_step3
         exact⟨.inr ⟨rfl,l2,pos1+1,HS1.out,HV.out,_,_,_,_,_,_,_,_,_,_,_,_,_,_,_,_,_,_,_,_,_,_,_,_,_,_,_,_,_,_,_,_,_,_,_,_,_,_,_,_,_,_,_,_,_,_,_,_,_,_,_,rfl⟩,by simp[VM,intOf]; omega⟩
        ·have HV:=Lib.hid (show (acc+c.toNat % 128*2 ^ (7*i),⟨l2,pos1+1,0⟩)=res by rw[← HG.out,vgo,if_neg HN.out,if_neg h128,if_neg hz])
         by_cases hz1:c.toNat=0
         ·have hz0:((c.toNat:Int) == 0)=true:=by simp[hz1]
          try (have hq0:(bits .and .u64 0 127 / 2 ^ (bs - 7*i).toNat != 0)=false:=by (rw[← hqb,hz1]; rfl))
          have HA3:=Lib.hid (show bits .or .u64 acc (IntKind.u64.wrap (bits .and .u64 0 127*2 ^ (7*i)))=((acc+c.toNat % 128*2 ^ (7*i):Nat):Int) by rw[← HA2.out,hz1]; rfl)
          have hi0: ¬ (0<7*(i:Int)):=by omega
          go_wp2_with fail
          refine (HS.out.call 0 rfl (bQ b _ 1 (by omega) (by omega))).mono ?_
          rintro e w2 ⟨v,A',N,rfl,⟨rfl,rfl,rfl⟩,H1⟩
          rw[HT.out] at H1 ⊢
          have HS1:=Lib.hid H1
          clear H1
          go_wp2_with fail
          all_goals
           go_ret
           exact⟨_,_,_,rfl,⟨by rw[← HV.out]; exact congrArg (Value.int IntKind.u64) HA3.out,by rw[← HV.out],rfl⟩,HS1.out⟩
         ·have hz0:((c.toNat:Int) == 0)=false:=by simp; omega
          go_wp2_with fail
          refine (HS.out.call 0 rfl (bQ b _ 1 (by omega) (by omega))).mono ?_
          rintro e w2 ⟨v,A',N,rfl,⟨rfl,rfl,rfl⟩,H1⟩
          rw[HT.out] at H1 ⊢
          have HS1:=Lib.hid H1
          clear H1
          go_wp2_with fail
          go_ret
          exact⟨_,_,_,rfl,⟨by rw[← HV.out]; exact congrArg (Value.int IntKind.u64) HA2.out,by rw[← HV.out],rfl⟩,HS1.out⟩
  ·refine⟨_,rfl,?_⟩
   have HS:=Lib.hid hst
   have HG:=Lib.hid hg
   clear hst hg
   go_wp2_with fail
   refine (HS.out.call 0 rfl (eh b _ 3)).mono ?_
   rintro e w2 ⟨v,A',N,rfl,⟨rfl,rfl,rfl⟩,H1⟩
   have HS1:=Lib.hid H1
   clear H1
   go_wp2_with fail
   go_ret
   exact⟨_,_,_,rfl,⟨by rw[← HG.out]; rfl,by rw[← HG.out]; rfl,rfl⟩,HS1.out⟩
 ·intro again
  have AG:=Lib.hid again
  clear again
  go_wp2_with fail
  go_step3
  rename_i hK
  exact hK _ _ (AG.out 0 _ _ _ rfl (.inl ⟨rfl,l,pos,0,0,HA.out,by omega,by omega,hres,_,_,_,_,_,_,_,_,_,_,_,_,_,_,_,_,_,_,_,_,_,_,_,_,_,_,_,_,_,_,_,_,_,_,_,_,_,_,_,_,_,_,_,_,_,_,_,_,_,rfl⟩))
theorem oI (b:Nat) (st:I) (bs:Int) (hb:bs=32∨bs=64) :
 eg Tryz.prog 114 #[.pointer (some ⟨b,0,none⟩),.int .i64 bs] (InR b st) (fun v A' N=>v= .int .u64 (co bs st).1∧A'=InR b (co bs st).2∧N = []):=by
 obtain⟨l,pos,er⟩:=st
 by_cases h0:er=0
 ·subst h0
  exact Uns_go b l pos bs hb
 ·have h:=sp b ⟨l,pos,er⟩ bs h0
  have e:co bs ⟨l,pos,er⟩=(0,⟨l,pos,er⟩):=by simp[co,h0]
  rw[e]
  exact h
theorem sr (bs:Int) (hb:bs=32∨bs=64): ∀ (l:List UInt8) (pos acc i:Nat),acc<2 ^ (7*i)→(vgo bs l pos acc i).1<2 ^ bs.toNat:=by
 have hp:0<2 ^ bs.toNat:=Nat.two_pow_pos _
 intro l
 induction l with
 | nil=>intro pos acc i _; exact hp
 | cons c l ih =>
  intro pos acc i hacc
  unfold vgo
  split
  ·exact hp
  ·rename_i hn
   have h:=fY bs hb acc (c.toNat % 128) i hacc (by omega) (by omega) (fun h=>hn (.inr h))
   split
   ·exact ih _ _ _ h.1
   ·split
    ·exact hp
    ·exact h.2
theorem ss (bs:Int) (hb:bs=32∨bs=64) (st:I):(co bs st).1<2 ^ bs.toNat:=by
 unfold co
 split
 ·exact Nat.two_pow_pos _
 ·exact sr bs hb _ _ _ _ (by simp)
theorem jc (bs:Int) (hb:bs=32∨bs=64) (st:I):(co bs st).1<18446744073709551616:=by
 have h:=ss bs hb st
 rcases hb with rfl | rfl
 ·have e:2 ^ (32:Int).toNat=4294967296:=by decide
  omega
 ·have e:2 ^ (64:Int).toNat=18446744073709551616:=by decide
  omega
def cZ (r:Nat×I):Int×I:=(bW r.1,r.2)
theorem mQ (b:Nat) (st:I) :
 eg Tryz.prog 101 #[.pointer (some ⟨b,0,none⟩)] (InR b st) (fun v A' N=>v= .int .i64 (cZ (co 32 st)).1∧A'=InR b (cZ (co 32 st)).2∧N = []):=by
 intro F w hA
 have HA:=Lib.hid (ve F w (Sep.one hA))
 clear hA
 have hs:=oI b st 32 (.inl rfl)
 have hlt:=jc 32 (.inl rfl) st
 generalize co 32 st=r at *
 have HS:=Lib.hid hs
 clear hs
 go_enter Tryz.func101,Tryz.ntmps101
 go_wp2_with fail
 refine (HA.out.call 0 rfl HS.out).mono ?_
 rintro e w1 ⟨v,A',N,rfl,⟨rfl,rfl,rfl⟩,H1⟩
 have HS1:=Lib.hid H1
 clear H1
 go_wp2_with fail
 refine (mN r.1 hlt w1).mono ?_
 rintro e w' ⟨rfl,rfl⟩
 go_wp2_with fail
 go_ret
 exact⟨_,_,_,rfl,⟨rfl,rfl,rfl⟩,HS1.out⟩
theorem pR (b:Nat) (st:I) :
 eg Tryz.prog 100 #[.pointer (some ⟨b,0,none⟩)] (InR b st) (fun v A' N=>v= .int .i64 (cZ (co 64 st)).1∧A'=InR b (cZ (co 64 st)).2∧N = []):=by
 intro F w hA
 have HA:=Lib.hid (ve F w (Sep.one hA))
 clear hA
 have hs:=oI b st 64 (.inr rfl)
 have hlt:=jc 64 (.inr rfl) st
 generalize co 64 st=r at *
 have HS:=Lib.hid hs
 clear hs
 go_enter Tryz.func100,Tryz.ntmps100
 go_wp2_with fail
 refine (HA.out.call 0 rfl HS.out).mono ?_
 rintro e w1 ⟨v,A',N,rfl,⟨rfl,rfl,rfl⟩,H1⟩
 have HS1:=Lib.hid H1
 clear H1
 go_wp2_with fail
 refine (mN r.1 hlt w1).mono ?_
 rintro e w' ⟨rfl,rfl⟩
 go_wp2_with fail
 go_ret
 exact⟨_,_,_,rfl,⟨rfl,rfl,rfl⟩,HS1.out⟩
theorem mB {a b:Nat} (h:2 ^ a<2 ^ b):a<b:=(Nat.pow_lt_pow_iff_right (by decide)).1 h
theorem tW (bs:Int) (hb:0<bs): ∀ (v pos acc i:Nat) (r:List UInt8),acc+v*2 ^ (7*i)<2 ^ bs.toNat→(0<i→0<v) →
 vgo bs (ci v++r) pos acc i=(acc+v*2 ^ (7*i),⟨r,pos+(ci v).length,0⟩):=by
 intro v
 induction v using Nat.strongRecOn with
 | _ v ih =>
  intro pos acc i r h hi
  have h7:(7*i:Int)<bs:=by
   rcases Nat.eq_zero_or_pos i with h0 | h0
   ·subst h0; omega
   ·have hv:=hi h0
    have h2:1*2 ^ (7*i)≤v*2 ^ (7*i):=Nat.mul_le_mul_right _ hv
    have h3:=mB (show 2 ^ (7*i)<2 ^ bs.toNat by omega)
    omega
  have hleft: ∀ d:Nat,d≤v→d / 2 ^ (bs - 7*i).toNat=0:=by
   intro d hd
   have e:2 ^ bs.toNat=2 ^ (bs - 7*i).toNat*2 ^ (7*i):=by rw[← Nat.pow_add]; congr 1; omega
   have h2:d*2 ^ (7*i)≤v*2 ^ (7*i):=Nat.mul_le_mul_right _ hd
   have h3:d<2 ^ (bs - 7*i).toNat:=by
    apply Nat.lt_of_mul_lt_mul_right (a:=2 ^ (7*i))
    omega
   exact Nat.div_eq_of_lt h3
  rw[ci]
  split
  ·rename_i hlt
   have hc:(UInt8.ofNat v).toNat=v:=by simp[UInt8.toNat_ofNat']; omega
   simp only[List.cons_append,xy,vgo,hc,Nat.mod_eq_of_lt hlt,hleft v (xB _)]
   rw[if_neg (by simp; omega),if_neg (by omega),if_neg (by rintro⟨h1,h2⟩; have:=hi h2; omega)]
   simp
  ·rename_i hge
   have hc:(UInt8.ofNat (v % 128+128)).toNat=v % 128+128:=by simp[UInt8.toNat_ofNat']; omega
   have e2:2 ^ (7*(i+1))=128*2 ^ (7*i):=by rw[show 7*(i+1)=7+7*i by omega,Nat.pow_add]
   have e3:acc+v % 128*2 ^ (7*i)+v / 128*2 ^ (7*(i+1))=acc+v*2 ^ (7*i):=by
    rw[e2]
    generalize 2 ^ (7*i)=z
    have h1:v / 128*(128*z)=v / 128*128*z:=by rw[Nat.mul_assoc]
    rw[h1,Nat.add_assoc,← Nat.add_mul]
    congr 2
    omega
   simp only[List.cons_append,vgo,hc]
   rw[show (v % 128+128) % 128=v % 128 by omega,hleft (v % 128) (Nat.mod_le _ _),if_neg (by simp; omega),if_pos (by omega),ih (v / 128) (by omega) _ _ _ _ (by rw[e3]; exact h) (by omega),e3]
   simp; omega
theorem vgo_ok (bs:Int): ∀ (l:List UInt8) (pos acc i u:Nat) (s:I),vgo bs l pos acc i=(u,s)→s.err=0 →
 ∃ k v,s=⟨l.drop k,pos+k,0⟩∧k≤l.length∧u=acc+v*2 ^ (7*i)∧ci v=l.take k∧(0<i→0<v):=by
 intro l
 induction l with
 | nil=>intro pos acc i u s h h0; simp only[vgo,Prod.mk.injEq] at h; rw[← h.2] at h0; simp at h0
 | cons c l ih =>
  intro pos acc i u s h h0
  unfold vgo at h
  split at h
  ·simp only[Prod.mk.injEq] at h; rw[← h.2] at h0; simp at h0
  ·split at h
   ·rename_i h128
    obtain⟨k,v,h1,h2,h3,h4,h5⟩:=ih _ _ _ _ _ h h0
    have hv:=h5 (by omega)
    have hc:=c.toNat_lt
    refine⟨k+1,c.toNat % 128+128*v,?_,by simpa using h2,?_,?_,by omega⟩
    ·rw[h1]; simp; omega
    ·have e:2 ^ (7*(i+1))=128*2 ^ (7*i):=by rw[show 7*(i+1)=7+7*i by omega,Nat.pow_add]
     rw[h3,e,Nat.add_mul]
     generalize 2 ^ (7*i)=z
     have:v*(128*z)=128*v*z:=by rw[Nat.mul_comm 128 v,Nat.mul_assoc]
     omega
    ·rw[ci,if_neg (by omega),show (c.toNat % 128+128*v) / 128=v by omega,h4,List.take_succ_cons]
     congr 1
     rw[show (c.toNat % 128+128*v) % 128+128=c.toNat by omega]
     exact UInt8.ofNat_toNat
   ·rename_i h128
    split at h
    ·simp only[Prod.mk.injEq] at h; rw[← h.2] at h0; simp at h0
    ·rename_i hz
     have hc:=c.toNat_lt
     simp only[Prod.mk.injEq] at h
     refine⟨1,c.toNat,by rw[← h.2]; simp,by simp,by rw[← h.1,Nat.mod_eq_of_lt (by omega)],?_,?_⟩
     ·rw[ci,if_pos (by omega)]; simp
     ·intro hi
      rcases Nat.eq_zero_or_pos c.toNat with h6 | h6
      ·exact absurd ⟨h6,hi⟩ hz
      ·exact h6
attribute [local go_sem] cN bsOf_size
structure Bl where
 null:Bool
 data:List UInt8
@[go_sem] def blV (b:Bl):Value:= .agg #[.bool b.null,.string (aB b.data)]
theorem j9:(Tryz.prog.info? 66).map (·.size)=some 2:=by kernel_rfl
theorem oJ (l:List UInt8):gm Tryz.prog 94 #[.string (aB l)] (fun v N=>v=blV ⟨false,l⟩∧N = []):=by
 intro w
 have HS:=Lib.hid (vR w)
 go_enter Tryz.func94,Tryz.ntmps94
 go_wp2_with fail
 refine bodyPost_ret (v:=blV ⟨false,l⟩) (results_cell_row (by rfl) _ _ w.heap.size 66 #[.bool false,.string (aB l)] (0,0) _ rfl (heap_alloc_new w _) Tryz.underlying66 rfl j9) rfl ?_
 exact⟨_,_,rfl,⟨rfl,rfl⟩,(HS.out.alloc _ _).drop_⟩
theorem pS:gm Tryz.prog 116 #[] (fun v N=>v=blV ⟨true,[]⟩∧N = []):=by
 intro w
 have HS:=Lib.hid (vR w)
 go_enter Tryz.func116,Tryz.ntmps116
 go_wp2_with fail
 refine bodyPost_ret (v:=blV ⟨true,[]⟩) (results_cell_row (by rfl) _ _ w.heap.size 66 #[.bool true,.string (aB [])] (0,0) _ rfl (heap_alloc_new w _) Tryz.underlying66 rfl j9) rfl ?_
 exact⟨_,_,rfl,⟨rfl,rfl⟩,(HS.out.alloc _ _).drop_⟩
def bb (b:Bl):Bool:= !b.null || b.data.isEmpty
theorem hY (b:Bl):gm Tryz.prog 106 #[blV b] (fun v N=>v= .bool (bb b)∧N = []):=by
 intro w
 have HS:=Lib.hid (vR w)
 obtain⟨n,l⟩:=b
 have HB:=Lib.hid (show (l == [])=l.isEmpty by cases l <;> rfl)
 cases n
 ·go_enter Tryz.func106,Tryz.ntmps106
  go_wp2_with fail
  go_ret
  exact⟨_,_,rfl,⟨rfl,rfl⟩,(HS.out.alloc _ _).drop_⟩
 ·go_enter Tryz.func106,Tryz.ntmps106
  go_wp2_with fail
  go_ret
  exact⟨_,_,rfl,⟨congrArg Value.bool (by simp[bb]),rfl⟩,(HS.out.alloc _ _).drop_⟩
def blen (b:Bl):Int:=if b.null then -1 else b.data.length
theorem rC (b:Bl):gm Tryz.prog 110 #[blV b] (fun v N=>v= .int .i64 (blen b)∧N = []):=by
 intro w
 have HS:=Lib.hid (vR w)
 obtain⟨n,l⟩:=b
 cases n
 all_goals
  go_enter Tryz.func110,Tryz.ntmps110
  go_wp2_with fail
  go_ret
  exact⟨_,_,rfl,⟨rfl,rfl⟩,(HS.out.alloc _ _).drop_⟩
def fB (st:I) (n:Int):Bl×I:=if st.err≠0 then (⟨false,[]⟩,st) else if n= -1 then (⟨true,[]⟩,st) else (⟨false,(bd st n).1⟩,(bd st n).2)
theorem pT (g:Nat) (st:I) (n:Int) (h0: -9223372036854775808≤n) (h1:n≤9223372036854775807) :
 eg Tryz.prog 115 #[.pointer (some ⟨g,0,none⟩),.int .i64 n] (InR g st) (fun v A' N=>v=blV (fB st n).1∧A'=InR g (fB st n).2∧N = []):=by
 intro F w hA
 have HA:=Lib.hid (ve F w (Sep.one hA))
 clear hA
 have HB:=Lib.hid (HA.out.alloc #[.bool false,.string ⟨#[]⟩] 66)
 by_cases he:st.err=0
 ·by_cases hn:n= -1
  ·subst hn
   have HQ:=Lib.hid (show fB st (-1)=(⟨true,[]⟩,st) by simp[fB,he])
   have hb:(st.err != 0)=false:=by simp[he]
   clear he
   go_enter Tryz.func115,Tryz.ntmps115
   go_wp2_with fail
   refine (St.call 1 (HB).out rfl (iK g _)).mono ?_
   rintro e w1 ⟨v,A',N,rfl,⟨rfl,rfl,rfl⟩,H1⟩
   try simp only[List.cons_append,xy,List.set_cons_zero,List.set_cons_succ,bX] at H1
   have HC:=Lib.hid H1
   clear H1
   go_wp2_with fail
   refine (v7 HC.out pS).mono ?_
   rintro e w2 ⟨v,N,rfl,⟨rfl,rfl⟩,H2⟩
   have d0:w2.cell? ⟨w.heap.size,0,none⟩=some (.bool false):=aJ (St.blk 0 H2 rfl) 0
   have d1:w2.cell? ⟨w.heap.size,1,none⟩=some (.string ⟨#[]⟩):=aJ (St.blk 0 H2 rfl) 1
   have f0:w2.frozen? ⟨w.heap.size,0,none⟩=false:=bt (St.blk 0 H2 rfl) 0
   have f1:w2.frozen? ⟨w.heap.size,1,none⟩=false:=bt (St.blk 0 H2 rfl) 1
   have HD:=Lib.hid H2
   clear H2
   go_wp2_with fail
   have HE:=((HD.out.set 0 rfl 0 (.bool true)).set 0 rfl 1 (.string (aB [])))
   refine bodyPost_ret (v:=blV ⟨true,[]⟩) (results_cell_row (by rfl) _ _ w.heap.size 66 #[.bool true,.string (aB [])] (0,0) _ rfl (St.blk 0 HE rfl) Tryz.underlying66 rfl j9) rfl ?_
   exact⟨_,_,_,rfl,⟨by rw[HQ.out],by rw[HQ.out],rfl⟩,HE.drop_⟩
  ·have HQ:=Lib.hid (show fB st n=(⟨false,(bd st n).1⟩,(bd st n).2) by simp[fB,he,hn])
   have hb:(st.err != 0)=false:=by simp[he]
   have hnb:(n == -1)=false:=beq_eq_false_iff_ne.2 hn
   clear he hn
   go_enter Tryz.func115,Tryz.ntmps115
   go_wp2_with fail
   refine (St.call 1 (HB).out rfl (iK g _)).mono ?_
   rintro e w1 ⟨v,A',N,rfl,⟨rfl,rfl,rfl⟩,H1⟩
   try simp only[List.cons_append,xy,List.set_cons_zero,List.set_cons_succ,bX] at H1
   have HC:=Lib.hid H1
   clear H1
   go_wp2_with fail
   refine (St.call 1 (HC).out rfl (bQ g st n h0 h1)).mono ?_
   rintro e w1 ⟨v,A',N,rfl,⟨rfl,rfl,rfl⟩,H1⟩
   try simp only[List.cons_append,xy,List.set_cons_zero,List.set_cons_succ,bX] at H1
   have HC2:=Lib.hid H1
   clear H1
   go_wp2_with fail
   refine (v7 HC2.out (oJ (bd st n).1)).mono ?_
   rintro e w2 ⟨v,N,rfl,⟨rfl,rfl⟩,H2⟩
   have d0:w2.cell? ⟨w.heap.size,0,none⟩=some (.bool false):=aJ (St.blk 0 H2 rfl) 0
   have d1:w2.cell? ⟨w.heap.size,1,none⟩=some (.string ⟨#[]⟩):=aJ (St.blk 0 H2 rfl) 1
   have f0:w2.frozen? ⟨w.heap.size,0,none⟩=false:=bt (St.blk 0 H2 rfl) 0
   have f1:w2.frozen? ⟨w.heap.size,1,none⟩=false:=bt (St.blk 0 H2 rfl) 1
   have HD:=Lib.hid H2
   clear H2
   go_wp2_with fail
   have HE:=((HD.out.set 0 rfl 0 (.bool false)).set 0 rfl 1 (.string (aB (bd st n).1)))
   refine bodyPost_ret (v:=blV ⟨false,(bd st n).1⟩) (results_cell_row (by rfl) _ _ w.heap.size 66 #[.bool false,.string (aB (bd st n).1)] (0,0) _ rfl (St.blk 0 HE rfl) Tryz.underlying66 rfl j9) rfl ?_
   exact⟨_,_,_,rfl,⟨by rw[HQ.out],by rw[HQ.out],rfl⟩,HE.drop_⟩
 ·have HQ:=Lib.hid (show fB st n=(⟨false,[]⟩,st) by simp[fB,he])
  have hb:(st.err != 0)=true:=bne_iff_ne.2 he
  clear he
  go_enter Tryz.func115,Tryz.ntmps115
  go_wp2_with fail
  refine (St.call 1 HB.out rfl (iK g _)).mono ?_
  rintro e w2 ⟨v,A',N,rfl,⟨rfl,rfl,rfl⟩,H2⟩
  have d0:w2.cell? ⟨w.heap.size,0,none⟩=some (.bool false):=aJ (St.blk 0 H2 rfl) 0
  have d1:w2.cell? ⟨w.heap.size,1,none⟩=some (.string ⟨#[]⟩):=aJ (St.blk 0 H2 rfl) 1
  have f0:w2.frozen? ⟨w.heap.size,0,none⟩=false:=bt (St.blk 0 H2 rfl) 0
  have f1:w2.frozen? ⟨w.heap.size,1,none⟩=false:=bt (St.blk 0 H2 rfl) 1
  have HD:=Lib.hid H2
  clear H2
  go_wp2_with fail
  have HE:=((HD.out.set 0 rfl 0 (.bool false)).set 0 rfl 1 (.string (aB [])))
  refine bodyPost_ret (v:=blV ⟨false,[]⟩) (results_cell_row (by rfl) _ _ w.heap.size 66 #[.bool false,.string (aB [])] (0,0) _ rfl (St.blk 0 HE rfl) Tryz.underlying66 rfl j9) rfl ?_
  exact⟨_,_,_,rfl,⟨by rw[HQ.out],by rw[HQ.out],rfl⟩,HE.drop_⟩
theorem mR (st:I): -9223372036854775808≤(cZ (co 32 st)).1∧(cZ (co 32 st)).1≤9223372036854775807:=by
 have h:=jc 32 (.inl rfl) st
 unfold cZ bW
 simp only
 split <;> omega
theorem pU (b:Bl) (h:b.data.length≤9223372036854775807): -9223372036854775808≤blen b∧blen b≤9223372036854775807:=by unfold blen; split <;> omega
def ka (st:List UInt8×Int) (b:Bl):List UInt8×Int:=if bb b then d7 st b.data else fV st 4
def jd (st:List UInt8×Int) (b:Bl):List UInt8×Int:=ka (fm st (blen b)) b
def dH (st:I):Bl×I:=fB (cZ (co 32 st)).2 (cZ (co 32 st)).1
def mS (r:Bl×I):List UInt8×I:=(r.1.data,if r.1.null then cx r.2 4 else r.2)
theorem oK (g:Nat) (st:List UInt8×Int) (b:Bl) (hl:st.1.length+b.data.length≤140737488355328) :
 eg Tryz.prog 111 #[.pointer (some ⟨g,0,none⟩),blV b] (aT g st) (fun v A' N=>v= .tuple #[]∧A'=aT g (ka st b)∧N = []):=by
 intro F w hA
 have HA:=Lib.hid (ve F w (Sep.one hA))
 clear hA
 have HB:=Lib.hid (HA.out.alloc #[.bool b.null,.string (aB b.data)] 66)
 by_cases hr:bb b=true
 ·have HQ:=Lib.hid (show ka st b=d7 st b.data by simp[ka,hr])
  have HR:=Lib.hid hr
  clear hr
  go_enter Tryz.func111,Tryz.ntmps111
  go_wp2_with fail
  refine (v7 HB.out (hY b)).mono ?_
  rintro e w2 ⟨v,N,rfl,⟨rfl,rfl⟩,H2⟩
  rw[HR.out]
  have d0:w2.cell? ⟨w.heap.size,0,none⟩=some (.bool b.null):=aJ (St.blk 0 H2 rfl) 0
  have d1:w2.cell? ⟨w.heap.size,1,none⟩=some (.string (aB b.data)):=aJ (St.blk 0 H2 rfl) 1
  have HD:=Lib.hid H2
  clear H2
  go_wp2_with fail
  refine (St.call 1 HD.out rfl (ot g st (aB b.data) (by rw[bsOf_size]; exact hl))).mono ?_
  rintro e w3 ⟨v,A',N,rfl,⟨rfl,rfl,rfl⟩,H3⟩
  rw[bX] at H3
  have HE:=Lib.hid H3
  clear H3
  go_wp2_with fail
  go_end0
  exact⟨_,_,_,rfl,⟨rfl,by rw[HQ.out],rfl⟩,HE.out.drop_⟩
 ·have HQ:=Lib.hid (show ka st b=fV st 4 by simp[ka,hr])
  have HR:=Lib.hid (show bb b=false by simpa using hr)
  clear hr
  go_enter Tryz.func111,Tryz.ntmps111
  go_wp2_with fail
  refine (v7 HB.out (hY b)).mono ?_
  rintro e w2 ⟨v,N,rfl,⟨rfl,rfl⟩,H2⟩
  rw[HR.out]
  have HD:=Lib.hid H2
  clear H2
  go_wp2_with fail
  refine (St.call 1 (HD).out rfl (iJ g st 4)).mono ?_
  rintro e w1 ⟨v,A',N,rfl,⟨rfl,rfl,rfl⟩,H1⟩
  try simp only[List.cons_append,xy,List.set_cons_zero,List.set_cons_succ,bX] at H1
  have HE:=Lib.hid H1
  clear H1
  go_wp2_with fail
  go_end0
  exact⟨_,_,_,rfl,⟨rfl,by rw[HQ.out],rfl⟩,HE.out.drop_⟩
theorem oL (st:List UInt8×Int) (n:Int):(fm st n).1.length≤st.1.length+10:=by
 unfold fm
 split
 ·rename_i h
  have h1:=lM st (ci (aK n))
  have h2:=oH (aK n) (lN n (by omega) (by omega))
  omega
 ·unfold fV; split <;> simp
theorem gZ (g:Nat) (st:List UInt8×Int) (b:Bl) (hl:st.1.length+10+b.data.length≤140737488355328) :
 eg Tryz.prog 92 #[.pointer (some ⟨g,0,none⟩),blV b] (aT g st) (fun v A' N=>v= .tuple #[]∧A'=aT g (jd st b)∧N = []):=by
 intro F w hA
 have HA:=Lib.hid (ve F w (Sep.one hA))
 clear hA
 have HB:=Lib.hid (HA.out.alloc #[.bool b.null,.string (aB b.data)] 66)
 have hbl:=pU b (by omega)
 have hb1:=hbl.1
 have hb2:=hbl.2
 clear hbl
 go_enter Tryz.func92,Tryz.ntmps92
 go_wp2_with fail
 refine (v7 HB.out (rC b)).mono ?_
 rintro e w2 ⟨v,N,rfl,⟨rfl,rfl⟩,H2⟩
 have HC:=Lib.hid H2
 clear H2
 go_wp2_with fail
 refine (St.call 1 HC.out rfl (jE g st (blen b) hb1 hb2 (by omega))).mono ?_
 rintro e w3 ⟨v,A',N,rfl,⟨rfl,rfl,rfl⟩,H3⟩
 have d0:w3.cell? ⟨w.heap.size,0,none⟩=some (.bool b.null):=aJ (St.blk 0 H3 rfl) 0
 have d1:w3.cell? ⟨w.heap.size,1,none⟩=some (.string (aB b.data)):=aJ (St.blk 0 H3 rfl) 1
 have HD:=Lib.hid H3
 clear H3
 go_wp2_with fail
 refine (St.call 1 HD.out rfl (oK g _ b (by have:=oL st (blen b); omega))).mono ?_
 rintro e w4 ⟨v,A',N,rfl,⟨rfl,rfl,rfl⟩,H4⟩
 have HE:=Lib.hid H4
 clear H4
 go_wp2_with fail
 go_end0
 exact⟨_,_,_,rfl,⟨rfl,rfl,rfl⟩,HE.out.drop_⟩
def oM (st:List UInt8×Int) (l:List UInt8):List UInt8×Int:=jd st ⟨false,l⟩
theorem mC (g:Nat) (st:List UInt8×Int) (l:List UInt8) (hl:st.1.length+10+l.length≤140737488355328) :
 eg Tryz.prog 68 #[.pointer (some ⟨g,0,none⟩),.string (aB l)] (aT g st) (fun v A' N=>v= .tuple #[]∧A'=aT g (oM st l)∧N = []):=by
 intro F w hA
 have HA:=Lib.hid (ve F w (Sep.one hA))
 clear hA
 go_enter Tryz.func68,Tryz.ntmps68
 go_wp2_with fail
 refine (v7 (HA).out (oJ l)).mono ?_
 rintro e w1 ⟨v,N,rfl,⟨rfl,rfl⟩,H1⟩
 try simp only[List.cons_append,xy,List.set_cons_zero,List.set_cons_succ,bX] at H1
 have HB:=Lib.hid H1
 clear H1
 go_wp2_with fail
 refine (St.call 0 (HB).out rfl (gZ g st ⟨false,l⟩ hl)).mono ?_
 rintro e w1 ⟨v,A',N,rfl,⟨rfl,rfl,rfl⟩,H1⟩
 try simp only[List.cons_append,xy,List.set_cons_zero,List.set_cons_succ,bX] at H1
 have HC:=Lib.hid H1
 clear H1
 go_wp2_with fail
 go_end0
 exact⟨_,_,_,rfl,⟨rfl,rfl,rfl⟩,HC.out⟩
theorem jG (g:Nat) (st:I) :
 eg Tryz.prog 102 #[.pointer (some ⟨g,0,none⟩)] (InR g st) (fun v A' N=>v=blV (dH st).1∧A'=InR g (dH st).2∧N = []):=by
 intro F w hA
 have HA:=Lib.hid (ve F w (Sep.one hA))
 clear hA
 have HB:=Lib.hid (HA.out.alloc #[.bool false,.string ⟨#[]⟩] 66)
 go_enter Tryz.func102,Tryz.ntmps102
 go_wp2_with fail
 refine (St.call 1 (HB).out rfl (mQ g st)).mono ?_
 rintro e w1 ⟨v,A',N,rfl,⟨rfl,rfl,rfl⟩,H1⟩
 try simp only[List.cons_append,xy,List.set_cons_zero,List.set_cons_succ,bX] at H1
 have HC:=Lib.hid H1
 clear H1
 go_wp2_with fail
 refine (St.call 1 HC.out rfl (pT g _ _ (mR st).1 (mR st).2)).mono ?_
 rintro e w2 ⟨v,A',N,rfl,⟨rfl,rfl,rfl⟩,H2⟩
 have d0:w2.cell? ⟨w.heap.size,0,none⟩=some (.bool false):=aJ (St.blk 0 H2 rfl) 0
 have d1:w2.cell? ⟨w.heap.size,1,none⟩=some (.string ⟨#[]⟩):=aJ (St.blk 0 H2 rfl) 1
 have f0:w2.frozen? ⟨w.heap.size,0,none⟩=false:=bt (St.blk 0 H2 rfl) 0
 have f1:w2.frozen? ⟨w.heap.size,1,none⟩=false:=bt (St.blk 0 H2 rfl) 1
 have HD:=Lib.hid H2
 clear H2
 go_wp2_with fail
 have HE:=((HD.out.set 0 rfl 0 (.bool (dH st).1.null)).set 0 rfl 1 (.string (aB (dH st).1.data)))
 refine bodyPost_ret (v:=blV (dH st).1) (results_cell_row (by rfl) _ _ w.heap.size 66 #[.bool (dH st).1.null,.string (aB (dH st).1.data)] (0,0) _ rfl (St.blk 0 HE rfl) Tryz.underlying66 rfl j9) rfl ?_
 exact⟨_,_,_,rfl,⟨rfl,rfl,rfl⟩,HE.drop_⟩
theorem pV (g:Nat) (r:Bl×I) :
 eg Tryz.prog 112 #[.pointer (some ⟨g,0,none⟩),blV r.1] (InR g r.2) (fun v A' N=>v= .string (aB (mS r).1)∧A'=InR g (mS r).2∧N = []):=by
 intro F w hA
 obtain⟨b,st⟩:=r
 obtain⟨n,l⟩:=b
 have HA:=Lib.hid (ve F w (Sep.one hA))
 clear hA
 have HB:=Lib.hid (HA.out.alloc #[.bool n,.string (aB l)] 66)
 cases n
 ·go_enter Tryz.func112,Tryz.ntmps112
  go_wp2_with fail
  go_ret
  exact⟨_,_,_,rfl,⟨rfl,rfl,rfl⟩,HB.out.drop_⟩
 ·go_enter Tryz.func112,Tryz.ntmps112
  go_wp2_with fail
  refine (St.call 1 HB.out rfl (eh g st 4)).mono ?_
  rintro e w2 ⟨v,A',N,rfl,⟨rfl,rfl,rfl⟩,H2⟩
  have d1:w2.cell? ⟨w.heap.size,1,none⟩=some (.string (aB l)):=aJ (St.blk 0 H2 rfl) 1
  have HD:=Lib.hid H2
  clear H2
  go_wp2_with fail
  go_ret
  exact⟨_,_,_,rfl,⟨rfl,rfl,rfl⟩,HD.out.drop_⟩
def qJ (st:I):List UInt8×I:=mS (dH st)
theorem pW (g:Nat) (st:I) :
 eg Tryz.prog 99 #[.pointer (some ⟨g,0,none⟩)] (InR g st) (fun v A' N=>v= .string (aB (qJ st).1)∧A'=InR g (qJ st).2∧N = []):=by
 intro F w hA
 have HA:=Lib.hid (ve F w (Sep.one hA))
 clear hA
 go_enter Tryz.func99,Tryz.ntmps99
 go_wp2_with fail
 refine (St.call 0 (HA).out rfl (jG g st)).mono ?_
 rintro e w1 ⟨v,A',N,rfl,⟨rfl,rfl,rfl⟩,H1⟩
 try simp only[List.cons_append,xy,List.set_cons_zero,List.set_cons_succ,bX] at H1
 have HB:=Lib.hid H1
 clear H1
 go_wp2_with fail
 refine (St.call 0 (HB).out rfl (pV g (dH st))).mono ?_
 rintro e w1 ⟨v,A',N,rfl,⟨rfl,rfl,rfl⟩,H1⟩
 try simp only[List.cons_append,xy,List.set_cons_zero,List.set_cons_succ,bX] at H1
 have HC:=Lib.hid H1
 clear H1
 go_wp2_with fail
 go_ret
 exact⟨_,_,_,rfl,⟨rfl,rfl,rfl⟩,HC.out⟩
def ck:Rd Int:=⟨fun _ _ cs n=>cs = [.int .i64 n],fun h _=>h,fun h _=>h⟩
def u8E:Rd Int:=⟨fun _ _ cs n=>cs = [.int .u8 n],fun h _=>h,fun h _=>h⟩
def gq:Rd (List UInt8):=⟨fun _ _ cs l=>cs = [.string (aB l)],fun h _=>h,fun h _=>h⟩
def qK:Rd Bl:=⟨fun _ _ cs x=>cs = [.bool x.null,.string (aB x.data)],fun h _=>h,fun h _=>h⟩
structure Pfx where
 wG:Int
 wM:Int
 wz:Int
 wT:Int
 wQ:Int
 wE:Int
 wx:Int
 wJ:Int
 ww:Int
 wA:Int
 wv:Int
 wR:Int
structure Hd where
 wC:List UInt8
 wt:Bl
def aP:Rd Hd where
 P:=fun _ _ cs x=>cs = [.string (aB x.wC),.bool x.wt.null,.string (aB x.wt.data)]
 mono:=fun h _=>h
 move:=fun h _=>h
structure Rec where
 wK:Int
 wD:Int
 wC:Bl
 wt:Bl
 wy:List Hd
def bf:Rd Rec where
 P:=fun w S cs x=> ∃ (A0:Option Addr) (c0:Nat),cs = [.int .i64 x.wK,.int .i64 x.wD,.bool x.wC.null,.string (aB x.wC.data),.bool x.wt.null,.string (aB x.wt.data),.slice A0 x.wy.length c0]∧(aq 3 aP).P w S [.slice A0 x.wy.length c0] x.wy
 mono:=fun ⟨A0,c0,e,h0⟩ k=>⟨A0,c0,e,(aq 3 aP).mono h0 k⟩
 move:=fun ⟨A0,c0,e,h0⟩ k=>⟨A0,c0,e,(aq 3 aP).move h0 k⟩
structure Bat where
 wG:Int
 wz:Int
 wH:Bool
 wN:Bool
 wF:Bool
 wE:Int
 wx:Int
 wJ:Int
 ww:Int
 wA:Int
 wv:Int
 ws:List Rec
def cE:Rd Bat where
 P:=fun w S cs x=> ∃ (A0:Option Addr) (c0:Nat),cs = [.int .i64 x.wG,.int .i64 x.wz,.bool x.wH,.bool x.wN,.bool x.wF,.int .i64 x.wE,.int .i64 x.wx,.int .i64 x.wJ,.int .i64 x.ww,.int .i64 x.wA,.int .i64 x.wv,.slice A0 x.ws.length c0]∧(aq 7 bf).P w S [.slice A0 x.ws.length c0] x.ws
 mono:=fun ⟨A0,c0,e,h0⟩ k=>⟨A0,c0,e,(aq 7 bf).mono h0 k⟩
 move:=fun ⟨A0,c0,e,h0⟩ k=>⟨A0,c0,e,(aq 7 bf).move h0 k⟩
structure gf where
 wu:Rec
 wP:Int
 wO:Int
structure dK where
 wU:Int
 wV:Int
 wO:Int
structure aC where
 fheld:List Int
 fvalid:Int
 ferr:Int
structure eB where
 wq:Bat
 wP:Int
 wO:Int
structure je where
 wW:List Bat
 wU:Int
 wV:Int
 wO:Int
def mT {α:Type} (E:Rd α) (W:α→Prop):Rd α:=⟨fun w S cs a=>E.P w S cs a∧W a,fun h k=>⟨E.mono h.1 k,h.2⟩,fun h k=>⟨E.move h.1 k,h.2⟩⟩
section
variable {H:Type} (enc:TypeId×Value→H) (P:Program) {α β:Type}
def lO (t:TypeId) (E:Rd α):Prop :=
 ∀ (w:World) (fuel:Nat) (cs:List Value) (x:DataW H×List MemPlace),DataW.trod enc P w 0 (fun _=>true) true fuel t cs=some x→(∀ m,m∈x.1.weights P t→m≤reachBytes)→ ∃ a,E.P w (fun k=>k<w.heap.size) cs a
variable {enc P}
theorem rD {t:TypeId} {E:Rd α} {E':Rd β} (f:α→β) (h:Opens enc P t E) (hf: ∀ w S cs a,E.P w S cs a→E'.P w S cs (f a)):lO enc P t E':=by
 intro w fuel cs x hx hw
 obtain⟨a,ha⟩:=h w fuel cs x hx
 exact⟨f a,hf _ _ _ _ ha⟩
def wI (n:Int):Prop:= -9223372036854775808≤n∧n≤9223372036854775807
def wB (_:Bool):Prop:=True
def wS (l:List UInt8):Prop:=l.length≤140737488351232
def wU8 (n:Int):Prop:=0≤n∧n≤255
def wL (W:α→Prop) (l:List α):Prop:=l.length≤140737488351232∧ ∀ x,x∈l→W x
theorem op_u8 {t:TypeId} (ht:P.underlying t=some (.int .u8)):lO enc P t (mT u8E wU8):=rD id (rq ht) (fun w S cs a h=>⟨h.1,Go.bounds_u8 h.2⟩)
theorem rE {size:Nat} {E:Rd α} {W:α→Prop} {w:World} {S:Nat→Prop} {cs:List Value} {l:List α} (h:(aq size (mT E W)).P w S cs l):(aq size E).P w S cs l∧ ∀ x,x∈l→W x:=by
 rcases h with⟨h,rfl⟩ | ⟨a,cap,h1,h2,h3,h4,h5⟩
 ·exact⟨.inl ⟨h,rfl⟩,fun x hx=>by simp at hx⟩
 ·refine⟨.inr ⟨a,cap,h1,h2,h3,h4,fun i x hx=> ?_⟩,fun x hx=> ?_⟩
  ·obtain⟨cs,k1,k2,k3⟩:=h5 i x hx
   exact⟨cs,k1,k2,k3.1⟩
  ·obtain⟨i,hi⟩:=List.getElem?_of_mem hx
   obtain⟨cs,k1,k2,k3⟩:=h5 i x hi
   exact k3.2
theorem lP {e:TypeId} {l:List (DataW H)} {d:DataW H} {m:Nat} (hd:d∈l) (hm:m∈d.weights P e):m∈DataW.weightsAll P e l:=by
 induction l with
 | nil=>simp at hd
 | cons x l ih =>
  simp only[DataW.weightsAll,List.mem_append]
  rcases List.mem_cons.1 hd with rfl | h
  ·exact .inl hm
  ·exact .inr (ih h)
theorem op_slice {t e:TypeId} {E:Rd α} {W:α→Prop} (size bytes:Nat) (ht:P.underlying t=some (.slice e)) (hc:P.cellsOf e=size) (hb:P.bytesOf e=bytes) (hp:0<size) (hpb:0<bytes) (he:lO enc P e (mT E W)):lO enc P t (mT (aq size E) (wL W)):=by
 intro w fuel cs x h hw
 rcases open_slice ht h with⟨rfl,_⟩ | ⟨a,len,cap,m,n,D,Pl,rfl,_,hl,hm,hmm,rfl,hx⟩
 ·exact⟨[],.inl ⟨rfl,rfl⟩,by simp,fun x hx=>by simp at hx⟩
 have hlm:len≤m:=by rw[hmm]; split <;> omega
 have hlen:len≤140737488351232:=by
  have h1:=hw ((((List.range len).map D).length+((List.range (m - len)).map fun j=>D (len+j)).length)*P.bytesOf e) (by simp only[DataW.weights,ht]; exact List.mem_cons_self)
  rw[hb] at h1
  simp only[yP,List.length_range] at h1
  have h2:(len+(m - len))*1≤(len+(m - len))*bytes:=Nat.mul_le_mul_left _ hpb
  have h3:reachBytes=140737488351232:=rfl
  omega
 have hwe: ∀ i,i<len→ ∀ z,z∈(D i).weights P e→z≤reachBytes:=by
  intro i hi z hz
  apply hw
  simp only[DataW.weights,ht]
  exact List.mem_cons_of_mem _ (List.mem_append.2 (.inl (lP (d:=D i) (List.mem_map.2 ⟨i,List.mem_range.2 hi,rfl⟩) hz)))
 rw[hc] at hx
 have each: ∀ i:Fin len,∃ y:α,∃ cs,cs.length=size∧(∀ j,j<size→w.cell? (a.add (i.val*size+j))=cs[j]?)∧(mT E W).P w (fun k=>k<w.heap.size) cs y:=by
  intro i
  obtain⟨cs',h1,h2⟩:=hx i.val (by have:=i.isLt; omega)
  obtain⟨_,h3,h4⟩:=World.cells?_some h1
  obtain⟨y,hy⟩:=he _ _ _ _ h2 (hwe i.val i.isLt)
  refine⟨y,cs',h3,fun j hj=> ?_,hy⟩
  rw[← h4 j hj,add_add]
 obtain⟨f,hf⟩:=Classical.axiomOfChoice each
 have hs:(aq size (mT E W)).P w (fun k=>k<w.heap.size) [.slice (some a) len cap] ((List.finRange len).map f):=by
  refine .inr ⟨a,cap,by simp,by simpa using hl,hm,fun hz=> ?_,?_⟩
  ·simp at hz
   obtain⟨cs',k1,k2,k3⟩:=hf ⟨0,by omega⟩
   have:=k2 0 hp
   rw[List.getElem?_eq_getElem (by omega)] at this
   simp only[World.cell?] at this
   rw[block_add] at this
   rcases Nat.lt_or_ge a.block w.heap.size with h | h
   ·exact h
   ·rw[Array.getElem?_eq_none h] at this
    simp at this
  ·intro i x hx
   rw[List.getElem?_map,Option.map_eq_some_iff] at hx
   obtain⟨j,hj,rfl⟩:=hx
   have e:j.val=i:=by
    obtain⟨h1,h2⟩:=xd hj
    rw[← h2]
    simp
   rw[← e]
   exact hf j
 obtain⟨k1,k2⟩:=rE hs
 exact⟨_,k1,by simpa using hlen,k2⟩
theorem weights_in: ∀ {ts:List TypeId} {ds:List (DataW H)} (j:Nat) {t:TypeId} {d:DataW H} {m:Nat},ts[j]? = some t→ds[j]? = some d→m∈d.weights P t→m∈DataW.weightsEach P ts ds
 | [],_,j,_,_,_,ht,_,_=>by simp at ht
 | _ :: _,[],j,_,_,_,_,hd,_=>by simp at hd
 | t::ts,d::ds,0,_,_,_,ht,hd,hm=>by
  obtain rfl:t= _:=by simpa using ht
  obtain rfl:d= _:=by simpa using hd
  simp only[DataW.weightsEach,List.mem_append]
  exact .inl hm
 | t::ts,d::ds,j+1,_,_,_,ht,hd,hm=>by
  simp only[DataW.weightsEach,List.mem_append]
  exact .inr (weights_in j (by simpa using ht) (by simpa using hd) hm)
theorem slice_cells {size:Nat} {E:Rd α} {w:World} {S:Nat→Prop} {cs:List Value} {l:List α} (h:(aq size E).P w S cs l): ∃ A c,cs = [.slice A l.length c]:=by
 rcases h with⟨h,rfl⟩ | ⟨a,cap,h,_⟩
 ·exact⟨none,0,h⟩
 ·exact⟨_,_,h⟩
theorem opens_arg1 {t e:TypeId} {E:Rd α} {r:Reach} {b0:Nat} {w:World} {v:Value} {d:DataW H} {p:List MemPlace} (ht:P.underlying t=some (.slice e)) (hval:Value.okWide P w r b0 t v) (h:lO enc P t E)
 (hv:DataW.Trod enc P w 0 (fun _=>true) true t v d p) (hw: ∀ m,m∈d.weights P t→m≤reachBytes): ∃ a,E.P w (fun k=>k<w.heap.size) [v] a:=by
 obtain⟨a0,len,cap,rfl⟩:=Go.WideShapes.okWide_slice ht hval
 obtain⟨fuel,hf⟩:=hv
 exact h _ _ _ _ hf hw
theorem RX.reads_all {E:Rd α} {w:World} {cs:List Value} {a:α} (h:E.P w (fun k=>k<w.heap.size) cs a):(RX.of E cs a).reads w (fun _=>False):=⟨_,h,fun k hk=>⟨fun h=>h,hk⟩⟩
end
def su (x:Bl):Prop:=wB x.null∧wS x.data
def wf_Hd (x:Hd):Prop:=wS x.wC∧su x.wt
def pX (x:Rec):Prop:=wI x.wK∧wI x.wD∧su x.wC∧su x.wt∧(wL wf_Hd) x.wy
def nA (x:Bat):Prop:=wI x.wG∧wI x.wz∧wB x.wH∧wB x.wN∧wB x.wF∧wI x.wE∧wI x.wx∧wI x.wJ∧wI x.ww∧wI x.wA∧wI x.wv∧(wL pX) x.ws
attribute [local go_sem] cN bsOf_size
@[go_sem] def strErr (x:List UInt8×Int):Value:= .tuple #[.string (aB x.1),.int .i64 x.2]
def otx (st:List UInt8×Int):List UInt8×Int:=if st.2=0 then (st.1,0) else ([],st.2)
theorem nB (st:List UInt8×Int):ow st=strErr (otx st):=by unfold ow otx; split <;> rfl
theorem kb {st:I} (h:st.err≠0) (e:Int):cx st e=st:=by simp[cx,h]
theorem rF {st:I} (h:st.err≠0) (n:Int):bd st n=([],st):=by simp[bd,h]
theorem oN {st:I} (h:st.err≠0) (n:Int):eP st n=(0,st):=by
 unfold eP
 split
 ·rw[rF h]; rfl
 ·rw[kb h]
theorem mU {st:I} (h:st.err≠0) (n:Int):fB st n=(⟨false,[]⟩,st):=by simp[fB,h]
theorem lQ {st:I} (h:st.err≠0):dm st=st:=by unfold dm; split; rfl; exact kb h 2
theorem oO (l:List UInt8) (p:Nat) (n:Nat) (h:n≤l.length):bd ⟨l,p,0⟩ n=(l.take n,⟨l.drop n,p+n,0⟩):=by
 unfold bd
 rw[if_neg (by simp),if_neg (by omega),if_neg (by simp only; omega)]
 simp
theorem kM (l:List UInt8) (p:Nat) (n:Int) (h:(l.length:Int)<n):bd ⟨l,p,0⟩ n=([],⟨l,p,1⟩):=by
 unfold bd
 rw[if_neg (by simp),if_neg (by omega),if_pos (by simp only; omega)]
theorem rG (l:List UInt8) (p:Nat) (n:Int) (h:n<0):bd ⟨l,p,0⟩ n=([],⟨l,p,4⟩):=by
 unfold bd
 rw[if_neg (by simp),if_pos h]
theorem nC (l:List UInt8) (p:Nat) (n:Nat) (h1:1≤n) (h8:n≤8) (h:n≤l.length):eP ⟨l,p,0⟩ n=(bK (l.take n),⟨l.drop n,p+n,0⟩):=by
 unfold eP
 rw[if_pos (by omega),oO l p n h]
theorem jf (l:List UInt8) (p:Nat) (n:Int) (h1:1≤n) (h8:n≤8) (h:(l.length:Int)<n):eP ⟨l,p,0⟩ n=(0,⟨l,p,1⟩):=by
 unfold eP
 rw[if_pos (by omega),kM l p n h]
 rfl
attribute [local go_sem] cN bsOf_size
theorem mV (n:Nat) (hn:n<18446744073709551616) (w:World) :
 Calls Tryz.prog 97 #[.int .u64 n] w fun e w'=>e= .returned (.int .i64 (bW n))∧w=w':=by
 by_cases h:n % 2=1
 ·have HV:=Lib.hid (show bW n= -((n:Int) / 2) - 1 by unfold bW; rw[if_pos h]; omega)
  have hb:((n:Int) % 2 == 1)=true:=by simp; omega
  go_enter Tryz.func97,Tryz.ntmps97
  go_wp2_with fail
  go_ret
  exact⟨eA (by rw[HV.out]),rfl⟩
 ·have HV:=Lib.hid (show bW n=(n:Int) / 2 by unfold bW; rw[if_neg h]; omega)
  have hb:((n:Int) % 2 == 1)=false:=by simp; omega
  go_enter Tryz.func97,Tryz.ntmps97
  go_wp2_with fail
  go_ret
  exact⟨eA (by rw[HV.out]),rfl⟩
def ei (r:Nat×I):Nat×Nat×Int:=if r.2.err=0 then (r.1,r.2.pos,0) else (0,0,r.2.err)
def oP (x:Nat×Nat×Int):Value:= .tuple #[.int .u64 x.1,.int .i64 x.2.1,.int .i64 x.2.2]
theorem oQ (l:List UInt8) (bs:Int) (hb:bs=32∨bs=64) (hl:l.length≤140737488355328) (w:World) :
 Calls Tryz.prog 95 #[.string (aB l),.int .i64 bs] w fun e w'=>e= .returned (oP (ei (vgo bs l 0 0 0)))∧w=w':=by
 generalize hr:vgo bs l 0 0 0=r
 have HR:=Lib.hid hr
 have hb1:32≤bs:=by omega
 have hb2:bs≤64:=by omega
 have HB:=Lib.hid hb
 have HG:=Lib.hid (hU l)
 clear hr hb
 go_enter Tryz.func95,Tryz.ntmps95
 go_wp2_with fail
 go_loop [7,8,9,10] (fun nv ov uv iv=> ∃ (i acc o:Nat),i≤l.length∧iv= .int .i64 i∧nv= .int .u64 acc∧ov= .int .u64 o∧uv= .int .i64 (7*i)∧7*i<bs+7∧(7*i<bs→o=2 ^ (7*i))∧acc<2 ^ (7*i)∧vgo bs (l.drop i) i acc i=r) (fun _ _ _ i=>l.length - (intOf i).toNat)
 case atStart=>exact⟨0,0,1,by omega,rfl,rfl,rfl,rfl,by omega,by simp,by simp,HR.out⟩
 case round =>
  obtain⟨i,acc,o,hi,rfl,rfl,rfl,rfl,h7,ho,hacc,hv⟩:=hrel
  by_cases hlt:i<l.length
  ·rw[List.drop_eq_getElem_cons hlt] at hv
   have hgi:=HG.out i (by rw[bsOf_size]; exact hlt)
   have hs:i<(aB l).size:=by rw[bsOf_size]; exact hlt
   have hc:=l[i].toNat_lt
   generalize l[i]=c at *
   have HV:=Lib.hid hv
   have HO:=Lib.hid ho
   have HACC:=Lib.hid hacc
   clear hv ho hacc
   by_cases hroom:7<bs - 7*i
   ·have hnb: ¬ (bs - 7*(i:Nat)≤0∨(bs - 7*(i:Nat)<7∧c.toNat % 128 / 2 ^ (bs - 7*(i:Nat)).toNat≠0)):=by omega
    have hz:=HO.out (by omega)
    obtain⟨hA1,hA2⟩:=fY bs HB.out acc (c.toNat % 128) i HACC.out (by omega) (by omega) (fun h=>hnb (.inr h))
    have h64:2 ^ bs.toNat≤18446744073709551616:=by rcases HB.out with h | h <;> rw[h] <;> decide
    have hp2:2 ^ (7*(i+1))=2 ^ (7*i)*128:=by rw[show 7*(i+1)=7*i+7 by omega,Nat.pow_add]
    rw[← hz] at hA1 hA2 hp2
    have hA3:acc+c.toNat % 128*o<18446744073709551616:=by omega
    have HA1:=Lib.hid hA1
    have HP2:=Lib.hid hp2
    have hmul:((c.toNat:Int) % 128*o)=((c.toNat % 128*o:Nat):Int):=by rw[Int.natCast_mul,Int.natCast_emod]; rfl
    have HMUL:=Lib.hid hmul
    have HVV:=HV.out
    rw[vgo,if_neg hnb,← hz] at HVV
    generalize hy:c.toNat % 128*o=y at *
    have hy0:(0:Int)≤(c.toNat:Int) % 128*o:=by rw[hmul]; omega
    have hy1:(c.toNat:Int) % 128*o≤18446744073709551615:=by rw[hmul]; omega
    have hy2:(acc:Int)+(c.toNat:Int) % 128*o≤18446744073709551615:=by rw[hmul]; omega
    have HY:=Lib.hid hy
    have HZ:=Lib.hid hz
    clear hy hz hA1 hA2 hp2 hmul h64 hnb
    by_cases h128:128≤c.toNat
    ·have HN:=Lib.hid (show vgo bs (l.drop (i+1)) (i+1) (acc+y) (i+1)=r by rw[if_pos h128] at HVV; exact HVV)
     clear HVV
     go_wp2_with fail
     refine wp_loop_rounds 8 ?_
     repeat (rw[rounds_succ]; go_wp2_with fail)
     go_round
     case rel =>
      refine⟨i+1,acc+y,(o*128) % 18446744073709551616,by omega,by go_num,?_,?_,by go_num,by omega,?_,HA1.out,HN.out⟩
      ·rw[HMUL.out]; simp
      ·first | rfl | simp
      ·intro h
       have h1:=HP2.out
       have h2:2 ^ (7*(i+1))≤2 ^ 63:=Nat.pow_le_pow_right (by decide) (by omega)
       rw[h1] at h2 ⊢
       have h3:(2:Nat) ^ 63=9223372036854775808:=by decide
       omega
     case measure=>simp[intOf]; omega
    ·rw[if_neg h128] at HVV
     by_cases hz0:c.toNat=0∧0<i
     ·have HE:=Lib.hid (show ei r=(0,0,3) by rw[if_pos hz0] at HVV; rw[← HVV]; rfl)
      clear HVV
      obtain⟨hc0,hi0⟩:=hz0
      have hcz:((c.toNat:Int) == 0)=true:=by simp[hc0]
      go_wp2_with fail
      refine wp_loop_rounds 8 ?_
      repeat (rw[rounds_succ]; go_wp2_with fail)
      go_ret3
      exact⟨congrArg Ending.returned (by rw[HE.out]; rfl),rfl⟩
     ·have HE:=Lib.hid (show ei r=(acc+y,i+1,0) by rw[if_neg hz0] at HVV; rw[← HVV]; rfl)
      clear HVV
      by_cases hc0:c.toNat=0
      ·have hi0: ¬ (0<(i:Int)):=by omega
       have hcz:((c.toNat:Int) == 0)=true:=by simp[hc0]
       have HE2:=Lib.hid (show ei r=(acc,i+1,0) by rw[HE.out,← HY.out,hc0]; simp)
       go_wp2_with fail
       refine wp_loop_rounds 8 ?_
       repeat (rw[rounds_succ]; go_wp2_with fail)
       all_goals
        go_ret3
        exact⟨congrArg Ending.returned (by rw[HE2.out]; rfl),rfl⟩
      ·have hcz:((c.toNat:Int) == 0)=false:=by simp; omega
       go_wp2_with fail
       refine wp_loop_rounds 8 ?_
       repeat (rw[rounds_succ]; go_wp2_with fail)
       go_ret3
       exact⟨congrArg Ending.returned (by rw[HE.out]; simp only[oP]; rw[Int.natCast_add,← HMUL.out]; rfl),rfl⟩
   ·have hcase:(bs=32∧i=4)∨(bs=32∧i=5)∨(bs=64∧i=9)∨(bs=64∧i=10):=by
     have:=HB.out
     omega
    clear hroom
    rcases hcase with⟨rfl,rfl⟩ | ⟨rfl,rfl⟩ | ⟨rfl,rfl⟩ | ⟨rfl,rfl⟩
    ·by_cases hd:c.toNat % 128<16
     ·have hdd:(c.toNat:Int) % 128≤15:=by omega
      have hnb: ¬ ((32:Int) - 7*(4:Nat)≤0∨((32:Int) - 7*(4:Nat)<7∧c.toNat % 128 / 2 ^ ((32:Int) - 7*(4:Nat)).toNat≠0)):=by
       have e:c.toNat % 128 / 2 ^ ((32:Int) - 7*(4:Nat)).toNat=0:=Nat.div_eq_of_lt hd
       rw[e]; omega
      have hz:=HO.out (by omega)
      obtain⟨hA1,hA2⟩:=fY (32:Int) HB.out acc (c.toNat % 128) 4 HACC.out (by omega) (by omega) (fun h=>hnb (.inr h))
      have h64:2 ^ (32:Int).toNat≤18446744073709551616:=by rcases HB.out with h | h <;> rw[h] <;> decide
      have hp2:2 ^ (7*(4+1))=2 ^ (7*4)*128:=by rw[show 7*(4+1)=7*4+7 by omega,Nat.pow_add]
      rw[← hz] at hA1 hA2 hp2
      have hA3:acc+c.toNat % 128*o<18446744073709551616:=by omega
      have HA1:=Lib.hid hA1
      have HP2:=Lib.hid hp2
      have hmul:((c.toNat:Int) % 128*o)=((c.toNat % 128*o:Nat):Int):=by rw[Int.natCast_mul,Int.natCast_emod]; rfl
      have HMUL:=Lib.hid hmul
      have HVV:=HV.out
      rw[vgo,if_neg hnb,← hz] at HVV
      generalize hy:c.toNat % 128*o=y at *
      have hy0:(0:Int)≤(c.toNat:Int) % 128*o:=by rw[hmul]; omega
      have hy1:(c.toNat:Int) % 128*o≤18446744073709551615:=by rw[hmul]; omega
      have hy2:(acc:Int)+(c.toNat:Int) % 128*o≤18446744073709551615:=by rw[hmul]; omega
      have HY:=Lib.hid hy
      have HZ:=Lib.hid hz
      clear hy hz hA1 hA2 hp2 hmul h64 hnb
      by_cases h128:128≤c.toNat
      ·have HN:=Lib.hid (show vgo (32:Int) (l.drop (4+1)) (4+1) (acc+y) (4+1)=r by rw[if_pos h128] at HVV; exact HVV)
       clear HVV
       go_wp2_with fail
       refine wp_loop_rounds 5 ?_
       repeat (rw[rounds_succ]; go_wp2_with fail)
       go_round
       case rel =>
        refine⟨4+1,acc+y,(o*128) % 18446744073709551616,by omega,by go_num,?_,?_,by go_num,by omega,?_,HA1.out,HN.out⟩
        ·rw[HMUL.out]; simp
        ·first | rfl | simp
        ·intro h
         have h1:=HP2.out
         have h2:2 ^ (7*(4+1))≤2 ^ 63:=Nat.pow_le_pow_right (by decide) (by omega)
         rw[h1] at h2 ⊢
         have h3:(2:Nat) ^ 63=9223372036854775808:=by decide
         omega
       case measure=>simp[intOf]; omega
      ·rw[if_neg h128] at HVV
       by_cases hz0:c.toNat=0∧0<4
       ·have HE:=Lib.hid (show ei r=(0,0,3) by rw[if_pos hz0] at HVV; rw[← HVV]; rfl)
        clear HVV
        obtain⟨hc0,hi0⟩:=hz0
        have hcz:((c.toNat:Int) == 0)=true:=by simp[hc0]
        go_wp2_with fail
        refine wp_loop_rounds 5 ?_
        repeat (rw[rounds_succ]; go_wp2_with fail)
        go_ret3
        exact⟨congrArg Ending.returned (by rw[HE.out]; rfl),rfl⟩
       ·have HE:=Lib.hid (show ei r=(acc+y,4+1,0) by rw[if_neg hz0] at HVV; rw[← HVV]; rfl)
        clear HVV
        by_cases hc0:c.toNat=0
        ·exact absurd ⟨hc0,by omega⟩ hz0
        ·have hcz:((c.toNat:Int) == 0)=false:=by simp; omega
         go_wp2_with fail
         refine wp_loop_rounds 5 ?_
         repeat (rw[rounds_succ]; go_wp2_with fail)
         go_ret3
         exact⟨congrArg Ending.returned (by rw[HE.out]; simp only[oP]; rw[Int.natCast_add,← HMUL.out]; rfl),rfl⟩
     ·have HE:=Lib.hid (show ei r=(0,0,3) by rw[← HV.out,vgo,if_pos (by exact .inr ⟨by omega,by rw[show ((32:Int) - 7*((4:Nat):Int)).toNat=4 by decide]; omega⟩)]; rfl)
      have hdd:15<(c.toNat:Int) % 128:=by omega
      go_wp2_with fail
      refine wp_loop_rounds 5 ?_
      repeat (rw[rounds_succ]; go_wp2_with fail)
      go_ret3
      exact⟨congrArg Ending.returned (by rw[HE.out]; rfl),rfl⟩
    ·have HE:=Lib.hid (show ei r=(0,0,3) by rw[← HV.out,vgo,if_pos (by left; omega)]; rfl)
     go_wp2_with fail
     refine wp_loop_rounds 1 ?_
     repeat (rw[rounds_succ]; go_wp2_with fail)
     go_ret3
     exact⟨congrArg Ending.returned (by rw[HE.out]; rfl),rfl⟩
    ·by_cases hd:c.toNat % 128<2
     ·have hdd:(c.toNat:Int) % 128≤1:=by omega
      have hnb: ¬ ((64:Int) - 7*(9:Nat)≤0∨((64:Int) - 7*(9:Nat)<7∧c.toNat % 128 / 2 ^ ((64:Int) - 7*(9:Nat)).toNat≠0)):=by
       have e:c.toNat % 128 / 2 ^ ((64:Int) - 7*(9:Nat)).toNat=0:=Nat.div_eq_of_lt hd
       rw[e]; omega
      have hz:=HO.out (by omega)
      obtain⟨hA1,hA2⟩:=fY (64:Int) HB.out acc (c.toNat % 128) 9 HACC.out (by omega) (by omega) (fun h=>hnb (.inr h))
      have h64:2 ^ (64:Int).toNat≤18446744073709551616:=by rcases HB.out with h | h <;> rw[h] <;> decide
      have hp2:2 ^ (7*(9+1))=2 ^ (7*9)*128:=by rw[show 7*(9+1)=7*9+7 by omega,Nat.pow_add]
      rw[← hz] at hA1 hA2 hp2
      have hA3:acc+c.toNat % 128*o<18446744073709551616:=by omega
      have HA1:=Lib.hid hA1
      have HP2:=Lib.hid hp2
      have hmul:((c.toNat:Int) % 128*o)=((c.toNat % 128*o:Nat):Int):=by rw[Int.natCast_mul,Int.natCast_emod]; rfl
      have HMUL:=Lib.hid hmul
      have HVV:=HV.out
      rw[vgo,if_neg hnb,← hz] at HVV
      generalize hy:c.toNat % 128*o=y at *
      have hy0:(0:Int)≤(c.toNat:Int) % 128*o:=by rw[hmul]; omega
      have hy1:(c.toNat:Int) % 128*o≤18446744073709551615:=by rw[hmul]; omega
      have hy2:(acc:Int)+(c.toNat:Int) % 128*o≤18446744073709551615:=by rw[hmul]; omega
      have HY:=Lib.hid hy
      have HZ:=Lib.hid hz
      clear hy hz hA1 hA2 hp2 hmul h64 hnb
      by_cases h128:128≤c.toNat
      ·have HN:=Lib.hid (show vgo (64:Int) (l.drop (9+1)) (9+1) (acc+y) (9+1)=r by rw[if_pos h128] at HVV; exact HVV)
       clear HVV
       go_wp2_with fail
       refine wp_loop_rounds 2 ?_
       repeat (rw[rounds_succ]; go_wp2_with fail)
       go_round
       case rel =>
        refine⟨9+1,acc+y,(o*128) % 18446744073709551616,by omega,by go_num,?_,?_,by go_num,by omega,?_,HA1.out,HN.out⟩
        ·rw[HMUL.out]; simp
        ·first | rfl | simp
        ·intro h
         have h1:=HP2.out
         have h2:2 ^ (7*(9+1))≤2 ^ 63:=Nat.pow_le_pow_right (by decide) (by omega)
         rw[h1] at h2 ⊢
         have h3:(2:Nat) ^ 63=9223372036854775808:=by decide
         omega
       case measure=>simp[intOf]; omega
      ·rw[if_neg h128] at HVV
       by_cases hz0:c.toNat=0∧0<9
       ·have HE:=Lib.hid (show ei r=(0,0,3) by rw[if_pos hz0] at HVV; rw[← HVV]; rfl)
        clear HVV
        obtain⟨hc0,hi0⟩:=hz0
        have hcz:((c.toNat:Int) == 0)=true:=by simp[hc0]
        go_wp2_with fail
        refine wp_loop_rounds 2 ?_
        repeat (rw[rounds_succ]; go_wp2_with fail)
        go_ret3
        exact⟨congrArg Ending.returned (by rw[HE.out]; rfl),rfl⟩
       ·have HE:=Lib.hid (show ei r=(acc+y,9+1,0) by rw[if_neg hz0] at HVV; rw[← HVV]; rfl)
        clear HVV
        by_cases hc0:c.toNat=0
        ·exact absurd ⟨hc0,by omega⟩ hz0
        ·have hcz:((c.toNat:Int) == 0)=false:=by simp; omega
         go_wp2_with fail
         refine wp_loop_rounds 2 ?_
         repeat (rw[rounds_succ]; go_wp2_with fail)
         go_ret3
         exact⟨congrArg Ending.returned (by rw[HE.out]; simp only[oP]; rw[Int.natCast_add,← HMUL.out]; rfl),rfl⟩
     ·have HE:=Lib.hid (show ei r=(0,0,3) by rw[← HV.out,vgo,if_pos (by exact .inr ⟨by omega,by rw[show ((64:Int) - 7*((9:Nat):Int)).toNat=1 by decide]; omega⟩)]; rfl)
      have hdd:1<(c.toNat:Int) % 128:=by omega
      go_wp2_with fail
      refine wp_loop_rounds 2 ?_
      repeat (rw[rounds_succ]; go_wp2_with fail)
      go_ret3
      exact⟨congrArg Ending.returned (by rw[HE.out]; rfl),rfl⟩
    ·have HE:=Lib.hid (show ei r=(0,0,3) by rw[← HV.out,vgo,if_pos (by left; omega)]; rfl)
     go_wp2_with fail
     refine wp_loop_rounds 1 ?_
     repeat (rw[rounds_succ]; go_wp2_with fail)
     go_ret3
     exact⟨congrArg Ending.returned (by rw[HE.out]; rfl),rfl⟩
  ·have e1:i=l.length:=by omega
   have HE:=Lib.hid (show ei r=(0,0,1) by rw[e1,List.drop_length] at hv; rw[← hv]; rfl)
   clear hv ho hacc
   go_wp2_with fail
   go_ret3
   exact⟨congrArg Ending.returned (by rw[HE.out]; rfl),rfl⟩
theorem kN (a b:List UInt8):aB a++aB b=aB (a++b):=by
 apply ByteArray.ext
 simp[aB]
attribute [local go_sem] cN bsOf_size kN
attribute [local go_sem] cN bsOf_size kN
structure Gt where
 blob:Bl
 many:Int
 err:Int
@[go_sem] def gtV (x:Gt):Value:= .agg #[.bool x.blob.null,.string (aB x.blob.data),.int .i64 x.many,.int .i64 x.err]
theorem kc:(Tryz.prog.info? 136).map (·.size)=some 4:=by kernel_rfl
def jg (l:List UInt8) (head:Nat) (n:Int):Gt :=
 if n= -1 then ⟨⟨true,[]⟩,head,0⟩ else if n<0 then ⟨⟨false,[]⟩,0,4⟩ else if (l.length:Int) - head<n then ⟨⟨false,[]⟩,0,1⟩ else ⟨⟨false,(l.drop head).take n.toNat⟩,head+n,0⟩
theorem sv (l:List UInt8) (a:Nat) (n:Nat):(aB l).extract a (a+n)=aB ((l.drop a).take n):=by rw[fW,bX,Nat.add_sub_cancel_left]
theorem rH (l:List UInt8) (head:Nat) (n:Int) (hh:head≤l.length) (hl:l.length≤140737488355328) (h0: -9223372036854775808≤n) (h1:n≤9223372036854775807) :
 gm Tryz.prog 96 #[.string (aB l),.int .i64 head,.int .i64 n] (fun v N=>v=gtV (jg l head n)∧N = []):=by
 intro w
 have HS:=Lib.hid (vR w)
 by_cases a1:n= -1
 ·have HQ:=Lib.hid (show jg l head n=⟨⟨true,[]⟩,head,0⟩ by unfold jg; rw[if_pos a1])
  have hb:(n == -1)=true:=by simp[a1]
  clear a1
  go_enter Tryz.func96,Tryz.ntmps96
  go_wp2_with fail
  refine bodyPost_ret (v:=gtV ⟨⟨true,[]⟩,head,0⟩) (results_cell_row (by rfl) _ _ w.heap.size 136 #[.bool true,.string (aB []),.int .i64 head,.int .i64 0] (0,0) _ rfl (heap_alloc_new w _) Tryz.underlying136 rfl kc) rfl ?_
  exact⟨_,_,rfl,⟨congrArg gtV HQ.out.symm,rfl⟩,(HS.out.alloc _ _).drop_⟩
 have hb:(n == -1)=false:=beq_eq_false_iff_ne.2 a1
 by_cases a2:n<0
 ·have HQ:=Lib.hid (show jg l head n=⟨⟨false,[]⟩,0,4⟩ by unfold jg; rw[if_neg a1,if_pos a2])
  clear a1
  go_enter Tryz.func96,Tryz.ntmps96
  go_wp2_with fail
  refine bodyPost_ret (v:=gtV ⟨⟨false,[]⟩,0,4⟩) (results_cell_row (by rfl) _ _ w.heap.size 136 #[.bool false,.string (aB []),.int .i64 0,.int .i64 4] (0,0) _ rfl (heap_alloc_new w _) Tryz.underlying136 rfl kc) rfl ?_
  exact⟨_,_,rfl,⟨congrArg gtV HQ.out.symm,rfl⟩,(HS.out.alloc _ _).drop_⟩
 by_cases a3:(l.length:Int) - head<n
 ·have HQ:=Lib.hid (show jg l head n=⟨⟨false,[]⟩,0,1⟩ by unfold jg; rw[if_neg a1,if_neg a2,if_pos a3])
  clear a1
  go_enter Tryz.func96,Tryz.ntmps96
  go_wp2_with fail
  refine bodyPost_ret (v:=gtV ⟨⟨false,[]⟩,0,1⟩) (results_cell_row (by rfl) _ _ w.heap.size 136 #[.bool false,.string (aB []),.int .i64 0,.int .i64 1] (0,0) _ rfl (heap_alloc_new w _) Tryz.underlying136 rfl kc) rfl ?_
  exact⟨_,_,rfl,⟨congrArg gtV HQ.out.symm,rfl⟩,(HS.out.alloc _ _).drop_⟩
 ·obtain⟨k,rfl⟩: ∃ k:Nat,n=k:=⟨n.toNat,by omega⟩
  have HQ:=Lib.hid (show jg l head k=⟨⟨false,(l.drop head).take k⟩,head+k,0⟩ by unfold jg; rw[if_neg a1,if_neg a2,if_neg a3]; rfl)
  have hx:=sv l head k
  clear a1 a2
  go_enter Tryz.func96,Tryz.ntmps96
  go_wp2_with fail
  refine bodyPost_ret (v:=gtV ⟨⟨false,(l.drop head).take k⟩,head+k,0⟩) (results_cell_row (by rfl) _ _ w.heap.size 136 #[.bool false,.string (aB ((l.drop head).take k)),.int .i64 (head+k),.int .i64 0] (0,0) _ rfl ?_ Tryz.underlying136 rfl kc) rfl ?_
  ·simp only[heap_alloc_new,hx]
  ·exact⟨_,_,rfl,⟨congrArg gtV HQ.out.symm,rfl⟩,(HS.out.alloc _ _).drop_⟩
theorem pY (l:List UInt8) (k:Nat):(aB l).extract 0 k=aB (l.take k):=by rw[fW,bX]; simp
attribute [local go_sem] pY
def hZ (l:List UInt8) (x:Nat×Nat×Int):Gt:=if x.2.2≠0 then ⟨⟨false,[]⟩,0,x.2.2⟩ else jg l x.2.1 (bW x.1)
def fo (l:List UInt8):Gt:=hZ l (ei (vgo 32 l 0 0 0))
theorem tX (bs:Int): ∀ (l:List UInt8) (pos acc i:Nat),(vgo bs l pos acc i).2.pos≤pos+l.length:=by
 intro l
 induction l with
 | nil=>intro pos acc i; simp[vgo]
 | cons c l ih =>
  intro pos acc i
  unfold vgo
  have h:=ih (pos+1) (acc+c.toNat % 128*2 ^ (7*i)) (i+1)
  simp only[xw]
  split
  ·simp only; omega
  ·split
   ·omega
   ·split
    ·simp only; omega
    ·simp only; omega
attribute [local go_sem] oP
theorem nD (l:List UInt8) (hl:l.length≤140737488355328) :
 gm Tryz.prog 73 #[.string (aB l)] (fun v N=>v=gtV (fo l)∧N = []):=by
 intro w
 have HS:=Lib.hid ((vR w).alloc #[.bool false,.string ⟨#[]⟩,.int .i64 0,.int .i64 0] 136)
 have hq0:fo l=hZ l (ei (vgo 32 l 0 0 0)):=rfl
 have hp:=tX 32 l 0 0 0
 have hlt:=sr 32 (.inl rfl) l 0 0 0 (by simp)
 rw[show 2 ^ (32:Int).toNat=4294967296 by decide] at hlt
 have hx1:(ei (vgo 32 l 0 0 0)).1<4294967296:=by unfold ei; split; exact hlt; simp
 have hx2:(ei (vgo 32 l 0 0 0)).2.1≤l.length:=by unfold ei; split; (simp only; omega); simp
 have HG:=Lib.hid (oQ l 32 (.inl rfl) hl)
 generalize ei (vgo 32 l 0 0 0)=x at *
 obtain⟨n,many,er⟩:=x
 simp only at hx1 hx2
 clear hp hlt
 by_cases h:er≠0
 ·have HQ:=Lib.hid (show fo l=⟨⟨false,[]⟩,0,er⟩ by rw[hq0]; unfold hZ; rw[if_pos h])
  have hb:(er != 0)=true:=bne_iff_ne.2 h
  clear h hq0
  go_enter Tryz.func73,Tryz.ntmps73
  go_wp2_with fail
  refine ((HG.out _)).mono ?_
  rintro e w1 ⟨rfl,rfl⟩
  go_wp2_with fail
  refine bodyPost_ret (v:=gtV ⟨⟨false,[]⟩,0,er⟩) (results_cell_row (by rfl) _ _ w.heap.size 136 #[.bool false,.string (aB []),.int .i64 0,.int .i64 er] (0,0) _ rfl (heap_alloc_new w _) Tryz.underlying136 rfl kc) rfl ?_
  exact⟨_,_,rfl,⟨congrArg gtV HQ.out.symm,rfl⟩,((vR w).alloc _ _).drop_⟩
 ·have h0:er=0:=by simpa using h
  have HQ:=Lib.hid (show fo l=jg l many (bW n) by rw[hq0]; unfold hZ; rw[if_neg h])
  have hb:(er != 0)=false:=by simp[h0]
  have hvr: -9223372036854775808≤bW n∧bW n≤9223372036854775807:=by unfold bW; split <;> omega
  clear h h0 hq0
  go_enter Tryz.func73,Tryz.ntmps73
  go_wp2_with fail
  refine ((HG.out _)).mono ?_
  rintro e w1 ⟨rfl,rfl⟩
  go_wp2_with fail
  refine ((mV n (by omega) _)).mono ?_
  rintro e w1 ⟨rfl,rfl⟩
  go_wp2_with fail
  refine (v7 HS.out (rH l many (bW n) hx2 hl hvr.1 hvr.2)).mono ?_
  rintro e w2 ⟨v,N,rfl,⟨rfl,rfl⟩,H2⟩
  generalize hq:jg l many (bW n)=q at *
  have d0:w2.cell? ⟨w.heap.size,0,none⟩=some (.bool false):=aJ (St.blk 0 H2 rfl) 0
  have f0:w2.frozen? ⟨w.heap.size,0,none⟩=false:=bt (St.blk 0 H2 rfl) 0
  have d1:w2.cell? ⟨w.heap.size,1,none⟩=some (.string ⟨#[]⟩):=aJ (St.blk 0 H2 rfl) 1
  have f1:w2.frozen? ⟨w.heap.size,1,none⟩=false:=bt (St.blk 0 H2 rfl) 1
  have d2:w2.cell? ⟨w.heap.size,2,none⟩=some (.int .i64 0):=aJ (St.blk 0 H2 rfl) 2
  have f2:w2.frozen? ⟨w.heap.size,2,none⟩=false:=bt (St.blk 0 H2 rfl) 2
  have d3:w2.cell? ⟨w.heap.size,3,none⟩=some (.int .i64 0):=aJ (St.blk 0 H2 rfl) 3
  have f3:w2.frozen? ⟨w.heap.size,3,none⟩=false:=bt (St.blk 0 H2 rfl) 3
  have HD:=Lib.hid H2
  have HQ2:=Lib.hid hq
  clear H2 hq
  go_wp2_with fail
  have HE:=(((HD.out.set 0 rfl 0 (.bool q.blob.null)).set 0 rfl 1 (.string (aB q.blob.data))).set 0 rfl 2 (.int .i64 q.many)).set 0 rfl 3 (.int .i64 q.err)
  refine bodyPost_ret (v:=gtV q) (results_cell_row (by rfl) _ _ w.heap.size 136 #[.bool q.blob.null,.string (aB q.blob.data),.int .i64 q.many,.int .i64 q.err] (0,0) _ rfl (St.blk 0 HE rfl) Tryz.underlying136 rfl kc) rfl ?_
  exact⟨_,_,rfl,⟨congrArg gtV HQ.out.symm,rfl⟩,HE.drop_⟩
theorem pZ (b:Nat) (st:List UInt8×Int) (s:List UInt8) (hl:st.1.length+s.length≤140737488355328) :
 eg Tryz.prog 40 #[.pointer (some ⟨b,0,none⟩),.string (aB s)] (aT b st) (fun v A' N=>v= .tuple #[]∧A'=aT b (d7 st s)∧N = []):=by
 have h:=ot b st (aB s) (by rw[bsOf_size]; exact hl)
 rwa [bX] at h
theorem oR (b:Nat) (st:List UInt8×Int):eg Tryz.prog 35 #[.pointer (some ⟨b,0,none⟩)] (aT b st) (fun v A' N=>v= .tuple #[.string (aB (otx st).1),.int .i64 (otx st).2]∧A'=aT b st∧N = []):=by
 have h:=rt b st
 rwa [nB] at h
theorem oT (n k:Int) (h0: -9223372036854775808≤n) (h1:n≤9223372036854775807) (hk0:0≤k) (hk:k≤8) :
 gm Tryz.prog 43 #[.int .i64 n,.int .i64 k] (fun v N=>v= .string (aB (be n k.toNat))∧N = []):=by
 have h:=pN n k.toNat h0 h1 (by omega)
 rwa [show ((k.toNat:Nat):Int)=k by omega] at h
theorem p6 (n:Int) (h0:0≤n) (hn:n<18446744073709551616) (w:World):Calls Tryz.prog 97 #[.int .u64 n] w fun e w'=>e= .returned (.int .i64 (bW n.toNat))∧w=w':=by
 have h:=mV n.toNat (by omega) w
 rwa [show ((n.toNat:Nat):Int)=n by omega] at h
theorem rI (l:List UInt8) (bs:Int) (hb:bs=32∨bs=64) (hl:l.length≤140737488355328) (w:World) :
 Calls Tryz.prog 95 #[.string (aB l),.int .i64 bs] w fun e w'=>e= .returned (.tuple #[.int .u64 ((ei (vgo bs l 0 0 0)).1:Int),.int .i64 ((ei (vgo bs l 0 0 0)).2.1:Int),.int .i64 (ei (vgo bs l 0 0 0)).2.2])∧w=w':=oQ l bs hb hl w
def jh (st:List UInt8×Int) (e:Int):Option (List UInt8×Int):=some (fV st e)
theorem h9 (g:Nat) (st:List UInt8×Int) (e:Int) (r:List UInt8×Int) (h:jh st e=some r):au Tryz.prog 66 #[.pointer (some ⟨g,0,none⟩),.int .i64 e] .triv (aT g st) (fun v A' N=>v= .tuple #[]∧A'=aT g r∧N = []):=by
 unfold jh at h
 obtain rfl:=xa h
 exact va (iJ g st e)
def sw (st:List UInt8×Int) (s:List UInt8):Option (List UInt8×Int):=if st.1.length+s.length≤140737488355328 then some (d7 st s) else none
theorem p7 (g:Nat) (st:List UInt8×Int) (s:List UInt8) (r:List UInt8×Int) (h:sw st s=some r):au Tryz.prog 40 #[.pointer (some ⟨g,0,none⟩),.string (aB s)] .triv (aT g st) (fun v A' N=>v= .tuple #[]∧A'=aT g r∧N = []):=by
 unfold sw at h
 split at h
 ·rename_i h1
  obtain rfl:=xa h
  exact va (pZ g st s h1)
 ·simp at h
def p8 (st:List UInt8×Int) (c:Int):Option (List UInt8×Int):=if 0≤c∧c<256∧st.1.length+1≤140737488355328 then some (d7 st [UInt8.ofNat c.toNat]) else none
theorem oU (g:Nat) (st:List UInt8×Int) (c:Int) (r:List UInt8×Int) (h:p8 st c=some r):au Tryz.prog 89 #[.pointer (some ⟨g,0,none⟩),.int .u8 c] .triv (aT g st) (fun v A' N=>v= .tuple #[]∧A'=aT g r∧N = []):=by
 unfold p8 at h
 split at h
 ·rename_i h1
  obtain rfl:=xa h
  exact va (gN g st c h1.1 h1.2.1 h1.2.2)
 ·simp at h
def ib (st:List UInt8×Int)  : Option (List UInt8×Int×(List UInt8×Int)):=some ((otx st).1,(otx st).2,st)
theorem rJ (st:List UInt8×Int)  : ib st  = some ((otx st).1,(otx st).2,st):=rfl
theorem eU (g:Nat) (st:List UInt8×Int)  (r:List UInt8×Int×(List UInt8×Int)) (h:ib st  = some r):au Tryz.prog 35 #[.pointer (some ⟨g,0,none⟩)] .triv (aT g st) (fun v A' N=>v= .tuple #[.string (aB r.1),.int .i64 r.2.1]∧A'=aT g r.2.2∧N = []):=by
 unfold ib at h
 obtain rfl:=xa h
 exact va (oR g st)
def eL (st:List UInt8×Int) (n:Int) (size:Int):Option (List UInt8×Int):=if (-9223372036854775808≤n∧n≤9223372036854775807)∧st.1.length+8≤140737488355328 then some (ru st n size) else none
theorem sx (st:List UInt8×Int) (n:Int) (size:Int) (h:(-9223372036854775808≤n∧n≤9223372036854775807)∧st.1.length+8≤140737488355328):eL st n size=some (ru st n size):=if_pos h
theorem bY (g:Nat) (st:List UInt8×Int) (n:Int) (size:Int) (r:List UInt8×Int) (h:eL st n size=some r):au Tryz.prog 70 #[.pointer (some ⟨g,0,none⟩),.int .i64 n,.int .i64 size] .triv (aT g st) (fun v A' N=>v= .tuple #[]∧A'=aT g r∧N = []):=by
 unfold eL at h
 split at h
 ·rename_i h1
  obtain rfl:=xa h
  exact va (oA g st n size h1.1.1 h1.1.2 h1.2)
 ·simp at h
def iY  (n:Int) (size:Int):Option (Bool):=if (-9223372036854775808≤n∧n≤9223372036854775807) then some (de n size) else none
theorem ic  (n:Int) (size:Int) (h:(-9223372036854775808≤n∧n≤9223372036854775807)):iY  n size=some (de n size):=if_pos h
theorem ej (n:Int) (size:Int) (r:Bool) (h:iY  n size=some r) (w:World):Calls Tryz.prog 85 #[.int .i64 n,.int .i64 size] w fun e w'=>e= .returned (.bool r)∧w=w':=by
 unfold iY at h
 split at h
 ·rename_i h1
  obtain rfl:=xa h
  exact hN n size w h1.1 h1.2
 ·simp at h
def nE  (s:List UInt8):Option (I):=if s.length≤9223372036854775807 then some (⟨s,0,0⟩:I) else none
theorem fZ  (s:List UInt8) (h:s.length≤9223372036854775807):nE  s=some (⟨s,0,0⟩:I):=if_pos h
theorem fv (s:List UInt8) (r:I) (h:nE  s=some r):au Tryz.prog 21 #[.string (aB s)] .triv aw (fun v A' N=> ∃ g,v= .pointer (some ⟨g,0,none⟩)∧A'=aw∧N = [InR g r]):=by
 unfold nE at h
 split at h
 ·rename_i h1
  obtain rfl:=xa h
  have k:=wm (X:= .triv) (sj (aB s) (by rw[bsOf_size]; omega))
  intro F w hA hX
  refine (k F w hA hX).mono ?_
  rintro e w' ⟨v,A',Ns,rfl,⟨rfl,b,rfl,rfl⟩,hst⟩
  rw[bX] at hst
  exact⟨_,_,_,rfl,⟨b,rfl,rfl,rfl⟩,hst⟩
 ·simp at h
def bi (st:I) (e:Int):Option (I):=some (cx st e)
theorem dS (st:I) (e:Int):bi st e=some (cx st e):=rfl
theorem aX (g:Nat) (st:I) (e:Int) (r:I) (h:bi st e=some r):au Tryz.prog 48 #[.pointer (some ⟨g,0,none⟩),.int .i64 e] .triv (InR g st) (fun v A' N=>v= .tuple #[]∧A'=InR g r∧N = []):=by
 unfold bi at h
 obtain rfl:=xa h
 exact va (eh g st e)
def mW (st:I)  : Option (Int×I):=some ((st.rest.length:Int),st)
theorem lR (st:I)  : mW st  = some ((st.rest.length:Int),st):=rfl
theorem ji (g:Nat) (st:I)  (r:Int×I) (h:mW st  = some r):au Tryz.prog 80 #[.pointer (some ⟨g,0,none⟩)] .triv (InR g st) (fun v A' N=>v= .int .i64 r.1∧A'=InR g r.2∧N = []):=by
 unfold mW at h
 obtain rfl:=xa h
 exact va (j8 g st)
def qL (st:I) (n:Int):Option (List UInt8×I):=if (-9223372036854775808≤n∧n≤9223372036854775807) then some ((bd st n).1,(bd st n).2) else none
theorem lS (st:I) (n:Int) (h:(-9223372036854775808≤n∧n≤9223372036854775807)):qL st n=some ((bd st n).1,(bd st n).2):=if_pos h
theorem p9 (g:Nat) (st:I) (n:Int) (r:List UInt8×I) (h:qL st n=some r):au Tryz.prog 47 #[.pointer (some ⟨g,0,none⟩),.int .i64 n] .triv (InR g st) (fun v A' N=>v= .string (aB r.1)∧A'=InR g r.2∧N = []):=by
 unfold qL at h
 split at h
 ·rename_i h1
  obtain rfl:=xa h
  exact va (bQ g st n h1.1 h1.2)
 ·simp at h
def eJ (st:I) (size:Int):Option (Int×I):=some ((eP st size).1,(eP st size).2)
theorem f6 (st:I) (size:Int):eJ st size=some ((eP st size).1,(eP st size).2):=rfl
theorem bF (g:Nat) (st:I) (size:Int) (r:Int×I) (h:eJ st size=some r):au Tryz.prog 77 #[.pointer (some ⟨g,0,none⟩),.int .i64 size] .triv (InR g st) (fun v A' N=>v= .int .i64 r.1∧A'=InR g r.2∧N = []):=by
 unfold eJ at h
 obtain rfl:=xa h
 exact va (ry g st size)
def jH (st:I)  : Option (Int×I):=some (st.err,st)
theorem bU (st:I)  : jH st  = some (st.err,st):=rfl
theorem dT (g:Nat) (st:I)  (r:Int×I) (h:jH st  = some r):au Tryz.prog 23 #[.pointer (some ⟨g,0,none⟩)] .triv (InR g st) (fun v A' N=>v= .int .i64 r.1∧A'=InR g r.2∧N = []):=by
 unfold jH at h
 obtain rfl:=xa h
 exact va (iK g st)
def cF (st:I)  : Option (Int×I):=some ((dm st).err,dm st)
theorem eQ (st:I)  : cF st  = some ((dm st).err,dm st):=rfl
theorem cO (g:Nat) (st:I)  (r:Int×I) (h:cF st  = some r):au Tryz.prog 104 #[.pointer (some ⟨g,0,none⟩)] .triv (InR g st) (fun v A' N=>v= .int .i64 r.1∧A'=InR g r.2∧N = []):=by
 unfold cF at h
 obtain rfl:=xa h
 exact va (pL g st)
def g6 (st:I)  : Option (Int×I):=some ((cZ (co 32 st)).1,(cZ (co 32 st)).2)
theorem sy (st:I)  : g6 st  = some ((cZ (co 32 st)).1,(cZ (co 32 st)).2):=rfl
theorem jk (g:Nat) (st:I)  (r:Int×I) (h:g6 st  = some r):au Tryz.prog 101 #[.pointer (some ⟨g,0,none⟩)] .triv (InR g st) (fun v A' N=>v= .int .i64 r.1∧A'=InR g r.2∧N = []):=by
 unfold g6 at h
 obtain rfl:=xa h
 exact va (mQ g st)
def fC (st:I)  : Option (Int×I):=some ((cZ (co 64 st)).1,(cZ (co 64 st)).2)
theorem rK (st:I)  : fC st  = some ((cZ (co 64 st)).1,(cZ (co 64 st)).2):=rfl
theorem kO (g:Nat) (st:I)  (r:Int×I) (h:fC st  = some r):au Tryz.prog 100 #[.pointer (some ⟨g,0,none⟩)] .triv (InR g st) (fun v A' N=>v= .int .i64 r.1∧A'=InR g r.2∧N = []):=by
 unfold fC at h
 obtain rfl:=xa h
 exact va (pR g st)
def lT (st:List UInt8×Int) (n:Int):Option (List UInt8×Int):=if (-9223372036854775808≤n∧n≤9223372036854775807)∧st.1.length+10≤140737488355328 then some (d7 st (ci (aK n))) else none
theorem mD (g:Nat) (st:List UInt8×Int) (n:Int) (r:List UInt8×Int) (h:lT st n=some r):au Tryz.prog 90 #[.pointer (some ⟨g,0,none⟩),.int .i64 n] .triv (aT g st) (fun v A' N=>v= .tuple #[]∧A'=aT g r∧N = []):=by
 unfold lT at h
 split at h
 ·rename_i h1
  obtain rfl:=xa h
  exact va (mA g st n h1.1.1 h1.1.2 h1.2)
 ·simp at h
def lx (st:List UInt8×Int) (n:Int):Option (List UInt8×Int):=if (-9223372036854775808≤n∧n≤9223372036854775807)∧st.1.length+10≤140737488355328 then some (fm st n) else none
theorem jJ (g:Nat) (st:List UInt8×Int) (n:Int) (r:List UInt8×Int) (h:lx st n=some r):au Tryz.prog 91 #[.pointer (some ⟨g,0,none⟩),.int .i64 n] .triv (aT g st) (fun v A' N=>v= .tuple #[]∧A'=aT g r∧N = []):=by
 unfold lx at h
 split at h
 ·rename_i h1
  obtain rfl:=xa h
  exact va (jE g st n h1.1.1 h1.1.2 h1.2)
 ·simp at h
def kP  (s:List UInt8):Option (Int):=if s.length≤8 then some (bK s) else none
theorem ie  (s:List UInt8) (h:s.length≤8):kP  s=some (bK s):=if_pos h
theorem fD (s:List UInt8) (r:Int) (h:kP  s=some r) (w:World):Calls Tryz.prog 72 #[.string (aB s)] w fun e w'=>e= .returned (.int .i64 r)∧w=w':=by
 unfold kP at h
 split at h
 ·rename_i h1
  obtain rfl:=xa h
  exact sn s h1 w
 ·simp at h
def ly  (n:Int) (k:Int):Option (List UInt8):=if (-9223372036854775808≤n∧n≤9223372036854775807)∧0≤k∧k≤8 then some (be n k.toNat) else none
theorem qa  (n:Int) (k:Int) (h:(-9223372036854775808≤n∧n≤9223372036854775807)∧0≤k∧k≤8):ly  n k=some (be n k.toNat):=if_pos h
theorem nF (n:Int) (k:Int) (r:List UInt8) (h:ly  n k=some r):au Tryz.prog 43 #[.int .i64 n,.int .i64 k] .triv aw (fun v A' N=>v= .string (aB r)∧A'=aw∧N = []):=by
 unfold ly at h
 split at h
 ·rename_i h1
  obtain rfl:=xa h
  exact vK (oT n k h1.1.1 h1.1.2 h1.2.1 h1.2.2)
 ·simp at h
def ke  (n:Int):Option (Int):=if 0≤n∧n<18446744073709551616 then some (bW n.toNat) else none
theorem kf  (n:Int) (h:0≤n∧n<18446744073709551616):ke  n=some (bW n.toNat):=if_pos h
theorem ig (n:Int) (r:Int) (h:ke  n=some r) (w:World):Calls Tryz.prog 97 #[.int .u64 n] w fun e w'=>e= .returned (.int .i64 r)∧w=w':=by
 unfold ke at h
 split at h
 ·rename_i h1
  obtain rfl:=xa h
  exact p6 n h1.1 h1.2 w
 ·simp at h
def kQ  (s:List UInt8) (bits:Int):Option (Int×Int×Int):=if (bits=32∨bits=64)∧s.length≤140737488355328 then some (((ei (vgo bits s 0 0 0)).1:Int),((ei (vgo bits s 0 0 0)).2.1:Int),(ei (vgo bits s 0 0 0)).2.2) else none
theorem sA  (s:List UInt8) (bits:Int) (h:(bits=32∨bits=64)∧s.length≤140737488355328):kQ  s bits=some (((ei (vgo bits s 0 0 0)).1:Int),((ei (vgo bits s 0 0 0)).2.1:Int),(ei (vgo bits s 0 0 0)).2.2):=if_pos h
theorem jl (s:List UInt8) (bits:Int) (r:Int×Int×Int) (h:kQ  s bits=some r) (w:World):Calls Tryz.prog 95 #[.string (aB s),.int .i64 bits] w fun e w'=>e= .returned (.tuple #[.int .u64 r.1,.int .i64 r.2.1,.int .i64 r.2.2])∧w=w':=by
 unfold kQ at h
 split at h
 ·rename_i h1
  obtain rfl:=xa h
  exact rI s bits h1.1 h1.2 w
 ·simp at h
def nG  (b:Bl):Option (Bool):=some (bb b)
theorem rL  (b:Bl):nG  b=some (bb b):=rfl
theorem oV (b:Bl) (r:Bool) (h:nG  b=some r):au Tryz.prog 106 #[.agg #[.bool b.null,.string (aB b.data)]] .triv aw (fun v A' N=>v= .bool r∧A'=aw∧N = []):=by
 unfold nG at h
 obtain rfl:=xa h
 exact vK (hY b)
def fE (st:List UInt8×Int) (b:Bl):Option (List UInt8×Int):=if st.1.length+10+b.data.length≤140737488355328 then some (jd st b) else none
theorem ff (g:Nat) (st:List UInt8×Int) (b:Bl) (r:List UInt8×Int) (h:fE st b=some r):au Tryz.prog 92 #[.pointer (some ⟨g,0,none⟩),.agg #[.bool b.null,.string (aB b.data)]] .triv (aT g st) (fun v A' N=>v= .tuple #[]∧A'=aT g r∧N = []):=by
 unfold fE at h
 split at h
 ·rename_i h1
  obtain rfl:=xa h
  exact va (gZ g st b h1)
 ·simp at h
def jK (st:List UInt8×Int) (s:List UInt8):Option (List UInt8×Int):=if st.1.length+10+s.length≤140737488355328 then some (oM st s) else none
theorem iZ (g:Nat) (st:List UInt8×Int) (s:List UInt8) (r:List UInt8×Int) (h:jK st s=some r):au Tryz.prog 68 #[.pointer (some ⟨g,0,none⟩),.string (aB s)] .triv (aT g st) (fun v A' N=>v= .tuple #[]∧A'=aT g r∧N = []):=by
 unfold jK at h
 split at h
 ·rename_i h1
  obtain rfl:=xa h
  exact va (mC g st s h1)
 ·simp at h
def aY (st:I)  : Option (Bl×I):=some ((dH st).1,(dH st).2)
theorem qb (st:I)  : aY st  = some ((dH st).1,(dH st).2):=rfl
theorem cv (g:Nat) (st:I)  (r:Bl×I) (h:aY st  = some r):au Tryz.prog 102 #[.pointer (some ⟨g,0,none⟩)] .triv (InR g st) (fun v A' N=>v= .agg #[.bool r.1.null,.string (aB r.1.data)]∧A'=InR g r.2∧N = []):=by
 unfold aY at h
 obtain rfl:=xa h
 exact va (jG g st)
def lU (st:I)  : Option (List UInt8×I):=some ((qJ st).1,(qJ st).2)
theorem lV (g:Nat) (st:I)  (r:List UInt8×I) (h:lU st  = some r):au Tryz.prog 99 #[.pointer (some ⟨g,0,none⟩)] .triv (InR g st) (fun v A' N=>v= .string (aB r.1)∧A'=InR g r.2∧N = []):=by
 unfold lU at h
 obtain rfl:=xa h
 exact va (pW g st)
def et  (s:List UInt8):Option (Gt):=if s.length≤140737488355328 then some (fo s) else none
theorem eC  (s:List UInt8) (h:s.length≤140737488355328):et  s=some (fo s):=if_pos h
theorem dL (s:List UInt8) (r:Gt) (h:et  s=some r):au Tryz.prog 73 #[.string (aB s)] .triv aw (fun v A' N=>v= .agg #[.bool r.blob.null,.string (aB r.blob.data),.int .i64 r.many,.int .i64 r.err]∧A'=aw∧N = []):=by
 unfold et at h
 split at h
 ·rename_i h1
  obtain rfl:=xa h
  exact vK (nD s h1)
 ·simp at h
abbrev Env:=List (Nat×Value)
def Env.get:Env→Nat→Option Value
 | [],_=>none
 | (k,v)::e,t=>match Nat.beq k t with | true=>some v | false=>Env.get e t
def Env.ev (e:Env):Operand→Option Value
 | .tmp t=>e.get t
 | .const v=>some v
 | .func f=>some (.func (.func f) #[] #[])
 | .global g=>some (.pointer (some ⟨g,0,none⟩))
def Env.evs (e:Env):List Operand→Option (List Value)
 | []=>some []
 | x::xs=>match e.ev x with
  | some v=>match Env.evs e xs with
   | some vs=>some (v::vs)
   | none=>none
  | none=>none
structure Has (n:Nat) (e:Env) (a:Act):Prop where
 df:a.defers = []
 sz:a.tmps.size=n
 at_: ∀ t v,e.get t=some v→a.tmps[t]? = some v
section
variable {n:Nat} {e e':Env} {a:Act} {v:Value} {vs:List Value} {x:Operand} {xs:List Operand} {d:Nat}
theorem Has.put (h:Has n e a) (hd:Nat.blt d n=true):Has n ((d,v)::e) (a.put (some d) v):=by
 have hd':d<n:=by simpa [Nat.blt_eq] using hd
 refine⟨h.df,by simp[Act.put,h.sz],fun t u hu=> ?_⟩
 simp only[Env.get] at hu
 cases hb:Nat.beq d t with
 | true =>
  rw[hb] at hu
  obtain rfl:=Nat.eq_of_beq_eq_true hb
  injection hu with hu
  subst hu
  simp[Act.put,h.sz,hd']
 | false =>
  rw[hb] at hu
  have hne:d≠t:=Nat.ne_of_beq_eq_false hb
  have h2:=h.at_ t u hu
  simp only[Act.put]
  rw[Array.getElem?_setIfInBounds_ne hne]
  exact h2
theorem Has.put0 (h:Has n e a):Has n e (a.put none v):=h
theorem Has.ev (h:Has n e a) (hx:e.ev x=some v):a.eval x=v:=by
 cases x with
 | tmp t =>
  have:=h.at_ t v hx
  simp[Act.eval,this]
 | const u=>simpa [Env.ev,Act.eval] using hx
 | func f=>simpa [Env.ev,Act.eval] using hx
 | global g=>simpa [Env.ev,Act.eval] using hx
theorem Has.evs (h:Has n e a): ∀ {xs:List Operand} {vs:List Value},e.evs xs=some vs→xs.map a.eval=vs
 | [],vs,hx=>by simpa [Env.evs] using hx
 | x::xs,vs,hx=>by
  simp only[Env.evs] at hx
  cases h1:e.ev x with
  | none=>rw[h1] at hx; cases hx
  | some u =>
   cases h2:e.evs xs with
   | none=>rw[h1,h2] at hx; cases hx
   | some us =>
    rw[h1,h2] at hx
    injection hx with hx
    subst hx
    simp[h.ev h1,h.evs h2]
theorem Has.sub (h:Has n e a) (hs: ∀ t v,Env.get e' t=some v→e.get t=some v):Has n e' a:=⟨h.df,h.sz,fun t v hv=>h.at_ t v (hs t v hv)⟩
end
def Env.gets (e:Env):List Nat→Option (List Value)
 | []=>some []
 | t::ts=>match e.get t with
  | some v=>match Env.gets e ts with
   | some vs=>some (v::vs)
   | none=>none
  | none=>none
def Env.ks:Env→List Nat
 | [] => []
 | (t,_)::r=>t::Env.ks r
def Env.vs:Env→List Value
 | [] => []
 | (_,v)::r=>v::Env.vs r
def Sub (e' e:Env):Prop:=e.gets e'.ks=some e'.vs
theorem Sub.get: ∀ {e' e:Env},Sub e' e→ ∀ t v,Env.get e' t=some v→e.get t=some v
 | [],_,_,t,v,h=>by simp[Env.get] at h
 | (k,u)::r,e,hs,t,v,h=>by
  simp only[Sub,Env.ks,Env.vs,Env.gets] at hs
  cases h1:e.get k with
  | none=>rw[h1] at hs; cases hs
  | some u' =>
   cases h2:e.gets (Env.ks r) with
   | none=>rw[h1,h2] at hs; cases hs
   | some us =>
    rw[h1,h2] at hs
    injection hs with hs
    injection hs with hs1 hs2
    subst hs1 hs2
    simp only[Env.get] at h
    cases hb:Nat.beq k t with
    | true =>
     rw[hb] at h
     obtain rfl:=Nat.eq_of_beq_eq_true hb
     injection h with h
     subst h
     exact h1
    | false =>
     rw[hb] at h
     exact Sub.get (e':=r) h2 t v h
def selR:List Res→List Nat→Option (List Res)
 | _,[]=>some []
 | Rs,i::is=>match Rs[i]? with
  | some A=>match selR (Rs.eraseIdx i) is with
   | some l=>some (A::l)
   | none=>none
  | none=>none
def Sel (Rs:List Res) (is:List Nat) (l:List Res):Prop:=selR Rs is=some l
theorem Sel.sep: ∀ {is:List Nat} {Rs l:List Res} {w:World} {F:Nat→Prop},Sel Rs is l→Sep Rs w F→Sep l w F
 | [],Rs,l,w,F,h,hs=>by
  injection h with h
  subst h
  exact trivial
 | i::is,Rs,l,w,F,h,hs=>by
  simp only[Sel,selR] at h
  cases h1:Rs[i]? with
  | none=>rw[h1] at h; cases h
  | some A =>
   cases h2:selR (Rs.eraseIdx i) is with
   | none=>rw[h1,h2] at h; cases h
   | some l' =>
    rw[h1,h2] at h
    injection h with h
    subst h
    obtain⟨G,k1,k2,k3⟩:=Sep.pick i h1 hs
    exact⟨G,k1,k2,Sel.sep h2 k3⟩
theorem St.sel {F0:Nat→Prop} {w0 w:World} {Rs l:List Res} (is:List Nat) (h:St F0 w0 Rs w) (hl:Sel Rs is l):St F0 w0 l w:=⟨h.fr,hl.sep h.sep⟩
section
variable (P:Program) (n:Nat) (F0:Nat→Prop) (w0:World)
def Ex (e:Env) (S:World→Prop) (o:Oper) (v:Value):Prop:= ∀ a w,Has n e a→S w→(execOp a.eval o).run P w= .ok (.value v) w
def T (e:Env) (Rs:List Res) (c:Code) (Q:Exit→Act→World→Prop):Prop:= ∀ a w,Has n e a→St F0 w0 Rs w→c.wp P Q a w
def X (e:Env) (Rs:List Res) (x:Exit) (Q:Exit→Act→World→Prop):Prop:= ∀ a w,Has n e a→St F0 w0 Rs w→Q x a w
def TL (ops:Array Oper) (l:List Nat) (e:Env) (Rs:List Res) (Q:Exit→Act→World→Prop):Prop:= ∀ a w,Has n e a→St F0 w0 Rs w→wpOps P ops Q l a w
def Ef (e:Env) (Rs:List Res) (o:Oper) (R:Env→List Res→Prop):Prop :=
 ∀ a w K Q,Has n e a→St F0 w0 Rs w→(∀ e' Rs',R e' Rs'→ ∀ a' w',Has n e' a'→St F0 w0 Rs' w'→K a' w')→o.wp P a w K Q
def Wd (ops:Array Oper) (e:Env) (o:Oper) (b:Bool):Prop:= ∀ a,Has n e a→Region.wanted o (yielded ops a.tmps)=b
end
section
variable {P:Program} {n:Nat} {F0:Nat→Prop} {w0:World} {e e':Env} {Rs Rs':List Res} {Q:Exit→Act→World→Prop} {ops:Array Oper} {o:Oper} {v:Value} {l:List Nat}
theorem Wd.u {d:Option Tmp} {op:Op} {ty:TypeId} {pos:String} {af:Array Edge}:Wd n ops e ⟨d,op,ty,pos,af,none⟩ true:=fun _ _=>rfl
theorem Wd.g {d:Option Tmp} {op:Op} {ty:TypeId} {pos:String} {af:Array Edge} {j t:Nat} {b want:Bool} (hj:(ops[j]?).bind (·.dst)=some t) (hv:e.get t=some (.bool b)) (hb:b=want) :
 Wd n ops e ⟨d,op,ty,pos,af,some (j,want)⟩ true:=by
 intro a h
 subst hb
 simp only[Region.wanted,yielded,hj,xb,h.at_ t _ hv,beq_self_eq_true]
theorem Wd.gn {d:Option Tmp} {op:Op} {ty:TypeId} {pos:String} {af:Array Edge} {j t:Nat} {b want:Bool} (hj:(ops[j]?).bind (·.dst)=some t) (hv:e.get t=some (.bool b)) (hb:b= !want) :
 Wd n ops e ⟨d,op,ty,pos,af,some (j,want)⟩ false:=by
 intro a h
 subst hb
 simp only[Region.wanted,yielded,hj,xb,h.at_ t _ hv]
 cases want <;> rfl
theorem oW {o:Oper} {v:Value} {a:Act} {w:World} {K:Act→World→Prop} {S:World→Prop} (hx:Ex P n e S o v) (ha:Has n e a) (hw:S w) (hk:K (a.put o.dst v) w):o.wp P a w K Q:=by
 unfold Oper.wp
 rw[hx a w ha hw]
 exact hk
theorem TL.nil (h:X n F0 w0 e Rs .normal Q):TL P n F0 w0 ops [] e Rs Q:=fun a w ha hw=>h a w ha hw
theorem TL.q {i d:Nat} {op:Op} {ty:TypeId} {pos:String} {af:Array Edge} {g:Option (Nat×Bool)} (ho:ops[i]? = some ⟨some d,op,ty,pos,af,g⟩) (hw:Wd n ops e ⟨some d,op,ty,pos,af,g⟩ true)
 (hx:Ex P n e (St F0 w0 Rs) ⟨some d,op,ty,pos,af,g⟩ v) (hd:Nat.blt d n=true) (h:TL P n F0 w0 ops l ((d,v)::e) Rs Q):TL P n F0 w0 ops (i::l) e Rs Q:=by
 intro a w ha hs
 rw[wpOps_cons,wpOp,ho]
 simp only[hw a ha,if_true]
 exact .inl (oW hx ha hs (h _ _ (ha.put hd) hs))
theorem uG {i d:Nat} {op:Op} {ty:TypeId} {pos:String} {af:Array Edge} {g:Option (Nat×Bool)} (ho:ops[i]? = some ⟨some d,op,ty,pos,af,g⟩) (hw:Wd n ops e ⟨some d,op,ty,pos,af,g⟩ false)
 (hd:Nat.blt d n=true) (h:TL P n F0 w0 ops l ((d,undef)::e) Rs Q):TL P n F0 w0 ops (i::l) e Rs Q:=by
 intro a w ha hs
 rw[wpOps_cons,wpOp,ho]
 simp only[hw a ha]
 exact h _ _ (ha.put hd) hs
theorem vl {i:Nat} {R:Env→List Res→Prop} (ho:ops[i]? = some o) (hw:Wd n ops e o true) (hx:Ef P n F0 w0 e Rs o R) (h: ∀ e' Rs',R e' Rs'→TL P n F0 w0 ops l e' Rs' Q):TL P n F0 w0 ops (i::l) e Rs Q:=by
 intro a w ha hs
 rw[wpOps_cons,wpOp,ho]
 simp only[hw a ha,if_true]
 exact .inl (hx a w _ _ ha hs (fun e' Rs' hr a' w' ha' hs'=>h e' Rs' hr a' w' ha' hs'))
theorem T.region {id:Nat} {os:List Oper} (hl:List.range os.toArray.size=l) (h:TL P n F0 w0 os.toArray l e Rs Q):T P n F0 w0 e Rs (.region id os.toArray false) Q:=fun a w ha hs=>wp_region (hl ▸ h a w ha hs)
theorem T.seq {x y:Code} (h:T P n F0 w0 e Rs x (Exit.then (y.wp P Q) Q)):T P n F0 w0 e Rs (.seq x y) Q:=fun a w ha hs=>wp_seq (h a w ha hs)
theorem T.skip (h:X n F0 w0 e Rs .normal Q):T P n F0 w0 e Rs .skip Q:=fun a w ha hs=>wp_skip (h a w ha hs)
theorem T.ret (h:X n F0 w0 e Rs .ret Q):T P n F0 w0 e Rs .ret Q:=fun a w ha hs=>wp_ret (h a w ha hs)
theorem T.exit {i:Nat} (h:X n F0 w0 e Rs (.exit i) Q):T P n F0 w0 e Rs (.exit i) Q:=fun a w ha hs=>wp_exit (h a w ha hs)
theorem T.goto {i:Nat} (h:X n F0 w0 e Rs (.goto i) Q):T P n F0 w0 e Rs (.goto i) Q:=fun a w ha hs=>wp_goto (h a w ha hs)
theorem T.label {i:Nat} (h:X n F0 w0 e Rs .normal Q):T P n F0 w0 e Rs (.label i) Q:=fun a w ha hs=>wp_label (h a w ha hs)
theorem uF {c:Operand} {x y:Code} {b:Bool} (hc:e.ev c=some (.bool b)) (hb:b=true) (h:T P n F0 w0 e Rs x Q):T P n F0 w0 e Rs (.cond c x y) Q:=fun a w ha hs=>wp_cond_true (by rw[ha.ev hc,hb]) (h a w ha hs)
theorem uK {c:Operand} {x y:Code} {b:Bool} (hc:e.ev c=some (.bool b)) (hb:b=false) (h:T P n F0 w0 e Rs y Q):T P n F0 w0 e Rs (.cond c x y) Q:=fun a w ha hs=>wp_cond_false (by rw[ha.ev hc,hb]) (h a w ha hs)
theorem T.block {id:Nat} {c:Code} (h:T P n F0 w0 e Rs c (Exit.inBlock id Q)):T P n F0 w0 e Rs (.block id c) Q:=fun a w ha hs=>wp_block (h a w ha hs)
theorem T.loop {c:Code} (I:Nat→Env→List Res→Prop) (m:Nat) (h0:I m e Rs) (h: ∀ m e Rs,I m e Rs→T P n F0 w0 e Rs c (Exit.then (fun a w=> ∃ m' e' Rs',m'<m∧I m' e' Rs'∧Has n e' a∧St F0 w0 Rs' w) Q)):T P n F0 w0 e Rs (.loop c) Q:=by
 intro a w ha hs b k cs
 have key: ∀ m e Rs a w,I m e Rs→Has n e a→St F0 w0 Rs w→ ∃ x a' w',Q x a' w'∧Arrives P (lone (b.at a (.code c :: .inLoop c::k)) cs w) b k cs x a' w':=by
  intro m
  induction m using Nat.strongRecOn with
  | _ m ih =>
   intro e Rs a w hI ha hs
   obtain⟨x,a₁,w₁,hq,harr⟩:=h m e Rs hI a w ha hs b (.inLoop c::k) cs
   cases x with
   | normal =>
    obtain⟨m',e',Rs',hlt,hI',ha',hs'⟩:=hq
    obtain⟨x₂,a₂,w₂,hq₂,harr₂⟩:=ih m' hlt e' Rs' a₁ w₁ hI' ha' hs'
    exact⟨x₂,a₂,w₂,hq₂,.of_steps (Steps.trans harr (.one step_inLoop)) harr₂⟩
   | exit id=>exact⟨_,a₁,w₁,hq,.pass (x:= .inLoop c) rfl (fun _ _=> .inl (by simp)) harr⟩
   | goto l=>exact⟨_,a₁,w₁,hq,.pass (x:= .inLoop c) rfl (fun _ _=> .inl (by simp)) harr⟩
   | ret=>exact⟨_,a₁,w₁,hq,.pass (x:= .inLoop c) rfl (fun _ _=> .inl (by simp)) harr⟩
   | panic ch=>exact⟨_,a₁,w₁,hq,.pass (x:= .inLoop c) rfl (fun _ _=> .inl (by simp)) harr⟩
   | outgrown=>exact⟨_,a₁,w₁,hq,.pass (x:= .inLoop c) rfl (fun _ _=> .inl (by simp)) harr⟩
 obtain⟨x,a',w',hq,harr⟩:=key m e Rs a w h0 ha hs
 exact⟨x,a',w',hq,.of_steps (.one step_loop) harr⟩
theorem vo {c:Code} (I:Nat→Env→List Res→Prop) (m:Nat) {e0:Env} {Rs0:List Res} (is:List Nat) (h0:I m e0 Rs0) (he:Sub e0 e) (hr:Sel Rs is Rs0) (h: ∀ m e Rs,I m e Rs→T P n F0 w0 e Rs c (Exit.then (fun a w=> ∃ m' e' Rs',m'<m∧I m' e' Rs'∧Has n e' a∧St F0 w0 Rs' w) Q)):T P n F0 w0 e Rs (.loop c) Q :=
 fun a w ha hs=>T.loop I m h0 h a w (ha.sub he.get) (hs.sel is hr)
end
end Go.Proofs.YtahjmpipllajcaaGreat.Sl
