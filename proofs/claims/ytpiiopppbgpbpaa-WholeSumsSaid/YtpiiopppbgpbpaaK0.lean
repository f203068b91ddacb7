/- wholeSums_holds: part 0. -/
import Derived.WalkKit
import Derived.Below
import Derived.Laws.OwnMore
import Derived.Deep.Draws
import Derived.Laws.Rows
import Derived.Lib.Hide
import Derived.Lib.AppendStr
import Derived.Maps.AppendAt
import Derived.OwnWalk
import Derived.Deep.AppendLies
import Derived.Laws.BytesArg
import Derived.Deep.WholeRow
import Derived.Test.YtpiiopppbgpbpaaProg
import Derived.KernelRfl
import Derived.Deep.QuietTactic
import Derived.BigQuiet
import Derived.LoopN
import Derived.WalkSpells
import Derived.WalkLawsBesides
import Derived.ChangeArms
import Derived.ChangeSlices
import Derived.Deep.Slices
import Derived.OpenShut
import Derived.WideShapes
import Derived.Lib.Strings
import Derived.Laws.BitsLemmas
import Derived.OrdersHeld
import Derived.Laws.Cells
import Derived.Laws.CopyRow
import Derived.Laws.StructEq
import Derived.IntWalk
import Derived.Laws.Strings
import Derived.Laws.BytesString
import Derived.Laws.MakeOwn
import Derived.Lib.ConvBytes
namespace Go.Proofs.Ytpiiopppbgpbpaa.Sl
open Go.RowKit
set_option linter.unusedVariables false
structure Fr (F : Nat → Prop) (w w' : World) : Prop where
  os : w'.os = w.os
  tape : w'.tape = w.tape
  output : w'.output = w.output
  size : w.heap.size ≤ w'.heap.size
  block : ∀ k, k < w.heap.size → ¬ F k → w'.heap[k]? = w.heap[k]?
theorem Fr.refl (F : Nat → Prop) (w : World) : Fr F w w := ⟨rfl, rfl, rfl, Nat.le_refl _, fun _ _ _ => rfl⟩
theorem Fr.trans {F G : Nat → Prop} {a b c : World} (h : Fr F a b) (k : Fr G b c) (hg : ∀ k, G k → F k ∨ a.heap.size ≤ k) : Fr F a c :=
  ⟨k.os.trans h.os, k.tape.trans h.tape, k.output.trans h.output, Nat.le_trans h.size k.size, fun i hi hn =>
    (k.block i (Nat.lt_of_lt_of_le hi h.size) (fun h2 => (hg i h2).elim hn (fun h3 => by omega))).trans (h.block i hi hn)⟩
theorem Fr.of_below {F : Nat → Prop} {w w' : World} (h : Below w.heap.size w w') : Fr F w w' := ⟨h.os, h.tape, h.output, h.size, fun k hk _ => h.block k hk⟩
theorem Fr.below {w w' : World} (h : Fr (fun _ => False) w w') : Below w.heap.size w w' := ⟨h.os, h.tape, h.output, h.size, fun k hk => h.block k hk (fun h => h)⟩
theorem Fr.of_grown {F : Nat → Prop} {w w' : World} {row : Option Nat} (h : w.grownBy w' row) (hr : ∀ k, row = some k → F k) : Fr F w w' :=
  ⟨h.os, h.tape, h.output, h.size, fun k hk hn => h.block k hk (fun e => hn (hr k e.symm))⟩
theorem Fr.mono {F G : Nat → Prop} {w w' : World} (h : Fr F w w') (hg : ∀ k, F k → G k) : Fr G w w' := ⟨h.os, h.tape, h.output, h.size, fun k hk hn => h.block k hk (fun h2 => hn (hg k h2))⟩
theorem Fr.alloc {F : Nat → Prop} {w w' : World} (h : Fr F w w') (o : Obj) : Fr F w (w'.alloc o) :=
  h.trans (Fr.of_below (F := fun _ => False) ((Below.refl _ _).alloc (Nat.le_refl _) o)) (fun _ h => h.elim)
theorem Fr.drew {F : Nat → Prop} {w w' : World} (h : Fr F w w') : Fr F w w'.drew := ⟨h.os, h.tape, h.output, h.size, h.block⟩
theorem Fr.drewN {F : Nat → Prop} {w w' : World} (h : Fr F w w') (n : Nat) : Fr F w (w'.drewN n) := ⟨h.os, h.tape, h.output, h.size, h.block⟩
theorem Fr.set {F : Nat → Prop} {w w' : World} (h : Fr F w w') {p : Addr} (hp : F p.block ∨ w.heap.size ≤ p.block) (u : Value) : Fr F w (w'.setCell p u) :=
  h.trans (G := fun k => k = p.block) ⟨rfl, rfl, rfl, by simp [World.setCell], fun k _ hn => Below.heap_setCell _ _ _ _ hn⟩ (fun k hk => by rw [hk]; exact hp)
structure Res where
  P : World → (Nat → Prop) → Prop
  lt : ∀ {w : World} {G : Nat → Prop}, P w G → ∀ k, G k → k < w.heap.size
  move : ∀ {w w' : World} {G : Nat → Prop}, P w G → (∀ k, G k → w'.heap[k]? = w.heap[k]?) → P w' G
def Sep : List Res → World → (Nat → Prop) → Prop
  | [], _, _ => True
  | R :: Rs, w, F => ∃ G, R.P w G ∧ (∀ k, G k → F k) ∧ Sep Rs w (fun k => F k ∧ ¬ G k)
theorem Sep.mono : ∀ {Rs : List Res} {w : World} {F F' : Nat → Prop}, Sep Rs w F → (∀ k, F k → F' k) → Sep Rs w F'
  | [], _, _, _, _, _ => trivial
  | _ :: _, _, _, _, ⟨G, h1, h2, h3⟩, hf => ⟨G, h1, fun k hk => hf k (h2 k hk), h3.mono (fun k hk => ⟨hf k hk.1, hk.2⟩)⟩
theorem Sep.inside : ∀ {Rs : List Res} {w : World} {F : Nat → Prop}, Sep Rs w F → Sep Rs w (fun k => F k ∧ k < w.heap.size)
  | [], _, _, _ => trivial
  | R :: _, _, _, ⟨G, h1, h2, h3⟩ => ⟨G, h1, fun k hk => ⟨h2 k hk, R.lt h1 k hk⟩, h3.inside.mono (fun k hk => ⟨⟨hk.1.1, hk.2⟩, hk.1.2⟩)⟩
theorem Sep.move_ : ∀ {Rs : List Res} {w w' : World} {F : Nat → Prop}, Sep Rs w F → (∀ k, F k → w'.heap[k]? = w.heap[k]?) → Sep Rs w' F
  | [], _, _, _, _, _ => trivial
  | R :: _, _, _, _, ⟨G, h1, h2, h3⟩, hm => ⟨G, R.move h1 (fun k hk => hm k (h2 k hk)), h2, h3.move_ (fun k hk => hm k hk.1)⟩
theorem Sep.move {Rs : List Res} {w w' : World} {F : Nat → Prop} (h : Sep Rs w F) (hm : ∀ k, F k → k < w.heap.size → w'.heap[k]? = w.heap[k]?) : Sep Rs w' F :=
  (h.inside.move_ (fun k hk => hm k hk.1 hk.2)).mono (fun _ hk => hk.1)
theorem Sep.pick : ∀ {Rs : List Res} (i : Nat) {A : Res} {w : World} {F : Nat → Prop}, Rs[i]? = some A → Sep Rs w F → ∃ G, A.P w G ∧ (∀ k, G k → F k) ∧ Sep (Rs.eraseIdx i) w (fun k => F k ∧ ¬ G k)
  | [], i, _, _, _, hi, _ => by simp at hi
  | R :: Rs, 0, A, w, F, hi, h => by
    have e : R = A := by simpa using hi
    subst e
    exact h
  | R :: Rs, i + 1, A, w, F, hi, ⟨G, h1, h2, h3⟩ => by
    obtain ⟨G', k1, k2, k3⟩ := Sep.pick i (by simpa using hi) h3
    exact ⟨G', k1, fun k hk => (k2 k hk).1, G, h1, fun k hk => ⟨h2 k hk, fun h => (k2 k h).2 hk⟩, k3.mono (fun k hk => ⟨⟨hk.1.1, hk.2⟩, hk.1.2⟩)⟩
theorem Sep.back : ∀ {Rs : List Res} (i : Nat) {A A' : Res} {w : World} {F G : Nat → Prop}, Rs[i]? = some A → A'.P w G → (∀ k, G k → F k) → Sep (Rs.eraseIdx i) w (fun k => F k ∧ ¬ G k) → Sep (Rs.set i A') w F
  | [], i, _, _, _, _, _, hi, _, _, _ => by simp at hi
  | R :: Rs, 0, A, A', w, F, G, hi, h1, h2, h3 => ⟨G, h1, h2, h3⟩
  | R :: Rs, i + 1, A, A', w, F, G, hi, h1, h2, ⟨G', k1, k2, k3⟩ =>
    ⟨G', k1, fun k hk => (k2 k hk).1, Sep.back i (by simpa using hi) h1 (fun k hk => ⟨h2 k hk, fun h => (k2 k h).2 hk⟩) (k3.mono (fun k hk => ⟨⟨hk.1.1, hk.2⟩, hk.1.2⟩))⟩
theorem Sep.append : ∀ {Ns Rs : List Res} {w : World} {F G : Nat → Prop}, Sep Ns w G → Sep Rs w (fun k => F k ∧ ¬ G k) → (∀ k, G k → F k) → Sep (Ns ++ Rs) w F
  | [], _, _, _, _, _, h, _ => h.mono (fun _ hk => hk.1)
  | N :: Ns, Rs, w, F, G, ⟨H, h1, h2, h3⟩, h, hg =>
    ⟨H, h1, fun k hk => hg k (h2 k hk), Sep.append h3 (h.mono (fun k hk => ⟨⟨hk.1, fun h4 => hk.2 (h2 k h4)⟩, fun h4 => hk.2 h4.1⟩)) (fun k hk => ⟨hg k hk.1, hk.2⟩)⟩
theorem Sep.one {R : Res} {w : World} {F : Nat → Prop} (h : R.P w F) : Sep [R] w F := ⟨F, h, fun _ h => h, trivial⟩
structure St (F0 : Nat → Prop) (w0 : World) (Rs : List Res) (w : World) : Prop where
  fr : Fr F0 w0 w
  sep : Sep Rs w (fun k => F0 k ∨ w0.heap.size ≤ k)
section
variable {F0 : Nat → Prop} {w0 w w' : World} {Rs : List Res} {A A' : Res}
theorem St.start (F0 : Nat → Prop) (w : World) (h : Sep Rs w F0) : St F0 w Rs w := ⟨Fr.refl _ _, h.mono (fun _ hk => .inl hk)⟩
theorem St.nil_ (w : World) : St (fun _ => False) w [] w := ⟨Fr.refl _ _, trivial⟩
theorem St.drew (h : St F0 w0 Rs w) : St F0 w0 Rs w.drew := ⟨h.fr.drew, h.sep.move (fun _ _ _ => rfl)⟩
theorem St.drewN (h : St F0 w0 Rs w) (n : Nat) : St F0 w0 Rs (w.drewN n) := ⟨h.fr.drewN n, h.sep.move (fun _ _ _ => rfl)⟩
theorem St.drop_ (h : St F0 w0 (A :: Rs) w) : St F0 w0 Rs w := by
  obtain ⟨f, G, _, _, h3⟩ := h
  exact ⟨f, h3.mono (fun _ hk => hk.1)⟩
theorem St.del (i : Nat) (h : St F0 w0 Rs w) (hi : Rs[i]? = some A) : St F0 w0 (Rs.eraseIdx i) w := by
  obtain ⟨f, hs⟩ := h
  obtain ⟨G, _, _, h3⟩ := Sep.pick i hi hs
  exact ⟨f, h3.mono (fun _ hk => hk.1)⟩
theorem St.weaken (i : Nat) (h : St F0 w0 Rs w) (hi : Rs[i]? = some A) (hA : ∀ G, A.P w G → A'.P w G) : St F0 w0 (Rs.set i A') w := by
  obtain ⟨f, hs⟩ := h
  obtain ⟨G, h1, h2, h3⟩ := Sep.pick i hi hs
  exact ⟨f, Sep.back i hi (hA _ h1) h2 h3⟩
theorem St.get (i : Nat) (h : St F0 w0 Rs w) (hi : Rs[i]? = some A) : ∃ G, A.P w G ∧ (∀ k, G k → F0 k ∨ w0.heap.size ≤ k) := by
  obtain ⟨G, h1, h2, _⟩ := Sep.pick i hi h.sep
  exact ⟨G, h1, h2⟩
theorem St.step (i : Nat) (h : St F0 w0 Rs w) (hi : Rs[i]? = some A) {Ns : List Res}
    (hs : ∀ G, A.P w G → Fr G w w' ∧ Sep (A' :: Ns) w' (fun k => G k ∨ w.heap.size ≤ k)) : St F0 w0 (Ns ++ Rs.set i A') w' := by
  obtain ⟨f, hp⟩ := h
  obtain ⟨G, h1, h2, h3⟩ := Sep.pick i hi hp
  obtain ⟨f2, G2, k1, k2, k3⟩ := hs G h1
  refine ⟨f.trans f2 h2, ?_⟩
  have hle := f.size
  have hR : Sep (Rs.eraseIdx i) w' (fun k => ((F0 k ∨ w0.heap.size ≤ k) ∧ ¬ G k) ∧ k < w.heap.size) := h3.inside.move (fun k hk _ => f2.block k hk.2 hk.1.2)
  refine Sep.append k3 (F := fun k => F0 k ∨ w0.heap.size ≤ k) (Sep.back i hi k1 (fun k hk => ⟨?_, fun hn => hn.2 hk⟩) (hR.mono (fun k hk => ⟨⟨hk.1.1, ?_⟩, ?_⟩))) ?_
  · rcases k2 k hk with h4 | h4
    · exact h2 k h4
    · exact .inr (by omega)
  · rintro ⟨h4 | h4, _⟩
    · exact hk.1.2 h4
    · have := hk.2; omega
  · intro h4
    rcases k2 k h4 with h5 | h5
    · exact hk.1.2 h5
    · have := hk.2; omega
  · rintro k ⟨h4 | h4, _⟩
    · exact h2 k h4
    · exact .inr (by omega)
theorem St.grow (h : St F0 w0 Rs w) {Ns : List Res} (f2 : Fr (fun _ => False) w w') (k3 : Sep Ns w' (fun k => w.heap.size ≤ k)) : St F0 w0 (Ns ++ Rs) w' := by
  obtain ⟨f, hp⟩ := h
  have hle := f.size
  refine ⟨f.trans f2 (fun _ h => h.elim), Sep.append k3 ((hp.inside.move (fun k hk _ => f2.block k hk.2 (fun h => h))).mono (fun k hk => ⟨hk.1, by have := hk.2; omega⟩)) (fun k hk => .inr (by omega))⟩
theorem St.below (h : St (fun _ => False) w0 Rs w) : Below w0.heap.size w0 w := h.fr.below
end
def BlkR (b : Nat) (T : TypeId) (cs : Array Value) : Res where
  P := fun w G => w.heap[b]? = some (.cells cs T (0, 0)) ∧ ∀ k, G k ↔ k = b
  lt := fun h k hk => by
    rw [(h.2 k).1 hk]
    exact (Array.getElem?_eq_some_iff.1 h.1).1
  move := fun h hm => ⟨(hm _ ((h.2 _).2 rfl)).trans h.1, h.2⟩
section
variable {F0 : Nat → Prop} {w0 w w' : World} {Rs : List Res} {b : Nat} {T : TypeId} {cs : Array Value}
theorem heap_at (h : w.heap[b]? = some (.cells cs T (0, 0))) (i : Nat) : w.cell? ⟨b, i, none⟩ = cs[i]? := cell_of_row w b i cs T (0, 0) h
theorem heap_free (h : w.heap[b]? = some (.cells cs T (0, 0))) (i : Nat) : w.frozen? ⟨b, i, none⟩ = false := by simp [World.frozen?, h]
theorem heap_set (h : w.heap[b]? = some (.cells cs T (0, 0))) (i : Nat) (u : Value) : (w.setCell ⟨b, i, none⟩ u).heap[b]? = some (.cells (cs.setIfInBounds i u) T (0, 0)) := by
  simp [World.setCell, Array.getElem?_modify, h]
theorem heap_lt {o : Obj} (h : w.heap[b]? = some o) : b < w.heap.size := (Array.getElem?_eq_some_iff.1 h).1
theorem St.blk (i : Nat) (h : St F0 w0 Rs w) (hi : Rs[i]? = some (BlkR b T cs)) : w.heap[b]? = some (.cells cs T (0, 0)) := by
  obtain ⟨G, h1, _⟩ := h.get i hi
  exact h1.1
theorem St.alloc (h : St F0 w0 Rs w) (cs : Array Value) (T : TypeId) : St F0 w0 (BlkR w.heap.size T cs :: Rs) (w.alloc (.cells cs T)) :=
  h.grow (Ns := [BlkR w.heap.size T cs]) (Fr.of_below ((Below.refl _ _).alloc (Nat.le_refl _) _)) ⟨fun k => k = w.heap.size, ⟨heap_alloc_new w _, fun _ => Iff.rfl⟩, fun k hk => by omega, trivial⟩
theorem St.set (i : Nat) (h : St F0 w0 Rs w) (hi : Rs[i]? = some (BlkR b T cs)) (j : Nat) (u : Value) : St F0 w0 (Rs.set i (BlkR b T (cs.setIfInBounds j u))) (w.setCell ⟨b, j, none⟩ u) := by
  refine h.step i hi (Ns := []) (fun G hG => ⟨?_, G, ⟨heap_set hG.1 j u, hG.2⟩, fun k hk => .inl hk, trivial⟩)
  exact (Fr.refl G w).set (p := ⟨b, j, none⟩) (.inl ((hG.2 b).2 rfl)) u
end
def Post (Q : Value → Res → List Res → Prop) (F : Nat → Prop) (w : World) (e : Ending) (w' : World) : Prop := ∃ v A' Ns, e = .returned v ∧ Q v A' Ns ∧ St F w (A' :: Ns) w'
def Post0 (Q : Value → List Res → Prop) (w : World) (e : Ending) (w' : World) : Prop := ∃ v Ns, e = .returned v ∧ Q v Ns ∧ St (fun _ => False) w Ns w'
def Spec (P : Program) (f : FuncId) (args : Array Value) (A : Res) (Q : Value → Res → List Res → Prop) : Prop :=
  ∀ F w, A.P w F → Calls P f args w (Post Q F w)
def Spec0 (P : Program) (f : FuncId) (args : Array Value) (Q : Value → List Res → Prop) : Prop :=
  ∀ w, Calls P f args w (Post0 Q w)
section
variable {P : Program} {f : FuncId} {args : Array Value} {F0 : Nat → Prop} {w0 w : World} {Rs : List Res} {A : Res}
theorem St.call {Q : Value → Res → List Res → Prop} (i : Nat) (h : St F0 w0 Rs w) (hi : Rs[i]? = some A) (hs : Spec P f args A Q) :
    Calls P f args w fun e w' => ∃ v A' Ns, e = .returned v ∧ Q v A' Ns ∧ St F0 w0 (Ns ++ Rs.set i A') w' := by
  obtain ⟨G0, hG0, hsub⟩ := h.get i hi
  obtain ⟨G, h1, h2, h3⟩ := Sep.pick i hi h.sep
  refine (hs G w h1).mono ?_
  rintro e w' ⟨v, A', Ns, rfl, hq, hst⟩
  refine ⟨v, A', Ns, rfl, hq, ?_⟩
  obtain ⟨f2, G2, k1, k2, k3⟩ := hst
  have f := h.fr
  refine ⟨f.trans f2 h2, ?_⟩
  have hle := f.size
  have hR : Sep (Rs.eraseIdx i) w' (fun k => ((F0 k ∨ w0.heap.size ≤ k) ∧ ¬ G k) ∧ k < w.heap.size) := h3.inside.move (fun k hk _ => f2.block k hk.2 hk.1.2)
  refine Sep.append k3 (F := fun k => F0 k ∨ w0.heap.size ≤ k) (Sep.back i hi k1 (fun k hk => ⟨?_, fun hn => hn.2 hk⟩) (hR.mono (fun k hk => ⟨⟨hk.1.1, ?_⟩, ?_⟩))) ?_
  · rcases k2 k hk with h4 | h4
    · exact h2 k h4
    · exact .inr (by omega)
  · rintro ⟨h4 | h4, _⟩
    · exact hk.1.2 h4
    · have := hk.2; omega
  · intro h4
    rcases k2 k h4 with h5 | h5
    · exact hk.1.2 h5
    · have := hk.2; omega
  · rintro k ⟨h4 | h4, _⟩
    · exact h2 k h4
    · exact .inr (by omega)
theorem St.call0 {Q : Value → List Res → Prop} (h : St F0 w0 Rs w) (hs : Spec0 P f args Q) :
    Calls P f args w fun e w' => ∃ v Ns, e = .returned v ∧ Q v Ns ∧ St F0 w0 (Ns ++ Rs) w' := by
  refine (hs w).mono ?_
  rintro e w' ⟨v, Ns, rfl, hq, hst⟩
  refine ⟨v, Ns, rfl, hq, h.grow hst.fr (hst.sep.mono (fun k hk => hk.elim (fun h => h.elim) id))⟩
end
end Go.Proofs.Ytpiiopppbgpbpaa.Sl
namespace Go.Proofs.Ytpiiopppbgpbpaa.Sl
open Go.RowKit
set_option linter.unusedVariables false
def byteCells (l : List UInt8) : List Value := l.map fun b => Value.int .u8 b.toNat
theorem byteCells_append (l m : List UInt8) : byteCells (l ++ m) = byteCells l ++ byteCells m := by simp [byteCells]
theorem byteCells_str (s : ByteArray) : Lib.strCells s = byteCells s.data.toList := rfl
section
variable {P : Program} (w : World)
theorem append_str_at (t u ty e : TypeId) (i : TypeInfo) (ht : P.underlying t = some (.slice e)) (hu : P.underlying u = some .string) (hi : P.info? e = some i) (hz : i.zero = some (.int .u8 0))
    (hsize : i.size = 1) (hby : i.bytes = 1)
    (v : Value) (n : Nat) (xs : List Value) (hown : w.ownsRow 0 e 1 v n xs) (s : ByteArray) (hbytes : n + s.size ≤ 140737488355328) :
    ∃ v' w', (Builtin.append_ #[t, u] ty #[v, .string s]).run P w = .ok v' w' ∧ w'.ownsRow 0 e 1 v' (n + s.size) (xs ++ Lib.strCells s) ∧ w.grownBy w' v.ownBlock ∧
      (v'.ownBlock = v.ownBlock ∨ v'.ownBlock = some w.heap.size) := by
  obtain ⟨v', w', hr, h2, h3, h4⟩ := Lib.run_append_own_string (P := P) w 0 t u ty e i ht hu hi hz hsize hby v n xs hown s (by simp only [maxLen]; omega) hbytes (Nat.zero_le _)
  refine ⟨v', w', hr, h2, h3, ?_⟩
  rcases hown.2 with ⟨rfl, rfl⟩ | ⟨g, cap, cur, rfl, hbg, hg, hnc, hcm, hcs, htake⟩
  · by_cases hm : s.size = 0
    · left
      rw [h4.2 ⟨rfl, hm⟩]
    · right
      have hr2 := run_append_nil_string (P := P) w t u ty e i (.int .u8 0) ht hu hi hz s (by omega) (by omega) (by rw [hby]; omega)
      rw [hr] at hr2
      injection hr2 with hv _
      rw [hv]
      rfl
  · by_cases hroom : n + s.size ≤ cap
    · left
      have hcs' : cur.size = cap := by simpa using hcs
      have hr2 := Lib.run_append_room_string (P := P) w t u ty e i ht hu hi hsize g n cap cur hg s hroom (by omega)
      rw [hr] at hr2
      injection hr2 with hv _
      rw [hv]
      rfl
    · right
      have hxl : xs.length = n := by simpa using hown.1
      have holds : ∀ j u, xs[j]? = some u → w.cell? ((⟨g, 0, none⟩ : Addr).add j) = some u := hown.cells (g := g) rfl
      have hr2 := Lib.run_append_grow_string (P := P) w t u ty e i (.int .u8 0) ht hu hi hz ⟨g, 0, none⟩ n cap xs (by rw [hsize]; simpa using hxl) holds s (by omega) (by omega) (by rw [hby]; exact growslice_fits (by omega) (by omega))
      rw [hr] at hr2
      injection hr2 with hv _
      rw [hv]
      rfl
theorem wp_append_str_at {ops : Array Oper} {rest : List Oper} {o : Oper} {a : Act} {Q : Exit → Act → World → Prop} (hgd : o.guard = none) (sl x : Operand) (t u : TypeId)
    (ho : o.op = .call { callee := .builtin .append, args := #[sl, x], argTypes := #[t, u] })
    (e : TypeId) (ht : P.underlying t = some (.slice e)) (hu : P.underlying u = some .string) (hinfo : (P.info? e).map (fun i => (i.zero, i.size, i.bytes)) = some (some (.int .u8 0), 1, 1))
    (v : Value) (n : Nat) (xs : List Value) (hs : a.eval sl = v) (hown : w.ownsRow 0 e 1 v n xs) (s : ByteArray) (hx : a.eval x = .string s) (hbytes : n + s.size ≤ 140737488355328)
    (h : ∀ v' w', w'.ownsRow 0 e 1 v' (n + s.size) (xs ++ Lib.strCells s) → w.grownBy w' v.ownBlock → (v'.ownBlock = v.ownBlock ∨ v'.ownBlock = some w.heap.size) → wpList P ops Q rest (a.put o.dst v') w') : wpList P ops Q (o :: rest) a w := by
  obtain ⟨i, hi, hzz⟩ := Option.map_eq_some_iff.1 hinfo
  simp only [Prod.mk.injEq] at hzz
  refine wpList_plain hgd fun K hK => ?_
  obtain ⟨v', w', hr, h2, h3, h4⟩ := append_str_at (P := P) w t u o.type e i ht hu hi hzz.1 hzz.2.1 hzz.2.2 v n xs hown s hbytes
  unfold Oper.wp execOp
  simp only [ho, resolve, invoke, builtin, Sem.run_bind, Sem.run_pure, Result.andThen_ok, List.map_toArray, List.map_cons, List.map_nil, hs, hx, hr]
  exact hK _ _ (h v' w' h2 h3 h4)
theorem wp_append_one_at {ops : Array Oper} {rest : List Oper} {o : Oper} {a : Act} {Q : Exit → Act → World → Prop} (hgd : o.guard = none) (sl x : Operand) (t : TypeId)
    (ho : o.op = .call { callee := .builtin .append, args := #[sl, x], argTypes := #[t, t] })
    (e : TypeId) (z : Value) (bytes : Nat) (ht : P.underlying t = some (.slice e)) (hinfo : (P.info? e).map (fun i => (i.zero, i.size, i.bytes)) = some (some z, 1, bytes)) (hz : z.cells.size = 1)
    (v : Value) (n : Nat) (xs : List Value) (hs : a.eval sl = v) (hown : w.ownsRow 0 e 1 v n xs) (y : Value) (hy : y.oneCell' = true) (hx : a.eval x = .slice (some ⟨w.heap.size, 0, none⟩) 1 1)
    (hbytes : (n + 1) * bytes ≤ 140737488355328) (hmax : n + 1 ≤ 140737488355328)
    (h : ∀ v' w', w'.ownsRow 0 e 1 v' (n + 1) (xs ++ [y]) → w.grownBy w' v.ownBlock → (v'.ownBlock = v.ownBlock ∨ ∃ k, v'.ownBlock = some k ∧ w.heap.size ≤ k) → wpList P ops Q rest (a.put o.dst v') w') :
    wpList P ops Q (o :: rest) a (w.alloc (.cells #[y] e)) := by
  obtain ⟨i, hi, hzz⟩ := Option.map_eq_some_iff.1 hinfo
  simp only [Prod.mk.injEq] at hzz
  obtain ⟨hz0, hz1, hz2⟩ := hzz
  refine wpList_append_own_at (w.alloc (.cells #[y] e)) hgd sl x t ho 0 e i z 1 bytes ht hi hz0 hz1 hz2 hz (by omega) v n xs hs (hown.alloc _) ⟨w.heap.size, 0, none⟩ 1 1 [y] hx rfl
    (by simpa using World.news_of_block (cs := #[y]) (t := e) (fr := (0, 0)) (heap_alloc_new w (.cells #[y] e))) (by simpa using hy) (by simp only [maxLen]; omega) hbytes (Nat.zero_le _) ?_
  intro v' w' hown' hg _ hat
  refine h v' w' hown' (World.grownBy.trans (World.grownBy_alloc w _ _) hg) ?_
  rcases hat with hat | hat
  · exact .inl hat
  · exact .inr ⟨_, hat, by simp⟩
theorem row_string (w : World) {src dst e : TypeId} {v : Value} {l : List UInt8} {n : Nat} (hs : P.underlying src = some (.slice e)) (he : P.underlying e = some (.int .u8)) (hd : P.underlying dst = some .string)
    (h : w.ownsRow 0 e 1 v n (byteCells l)) : (convert src dst v).run P w = .ok (.string ⟨l.toArray⟩) w := by
  have hl : l.length = n := by have := h.1; simp [byteCells] at this; exact this
  have hstr : strOfNums (l.map fun b => (b.toNat : Int)) = ⟨l.toArray⟩ := by
    unfold strOfNums
    congr 1
    simp [List.map_map, Function.comp_def]
  rcases h.2 with ⟨rfl, rfl⟩ | ⟨g, cap, cur, rfl, _⟩
  · obtain rfl : l = [] := List.eq_nil_of_length_eq_zero hl
    exact run_convert_bytes_nil w src e hs he 0 0 dst hd
  · rw [← hstr]
    refine run_convert_bytes_arg w src e hs he g 0 n cap _ (by simpa using hl) (fun i hi => ?_) dst hd
    have hc := h.cells (g := g) rfl i (.int .u8 ((l.map fun b => (b.toNat : Int)).getD i 0)) (by simp [byteCells, List.getElem?_eq_getElem (show i < l.length by omega), List.getD_eq_getElem?_getD])
    have ha : (⟨g, 0, none⟩ : Addr).add i = ⟨g, 0 + i, none⟩ := by unfold Addr.add; split <;> simp_all
    rwa [ha] at hc
theorem row_ne {w : World} {e t : TypeId} {size n b : Nat} {v : Value} {xs : List Value} {cs : Array Value} (h : w.ownsRow 0 e size v n xs) (hg : w.heap[b]? = some (.cells cs t (0, 0))) (hne : e ≠ t) : some b ≠ v.ownBlock := by
  rcases h.2 with ⟨rfl, _⟩ | ⟨g', cap, cur, rfl, _, hh, _⟩
  · simp [Value.ownBlock]
  · intro he
    have : b = g' := by simpa [Value.ownBlock] using he
    subst this
    rw [hg] at hh
    injection hh with hh
    injection hh with _ ht
    exact hne ht.symm
theorem row_set {w : World} {e : TypeId} {size n : Nat} {v : Value} {xs : List Value} (h : w.ownsRow 0 e size v n xs) {p : Addr} (hne : some p.block ≠ v.ownBlock) (u : Value) : (w.setCell p u).ownsRow 0 e size v n xs := by
  obtain ⟨h1, h2⟩ := h
  refine ⟨h1, ?_⟩
  rcases h2 with h2 | ⟨g, cap, cur, rfl, hg, hh, r⟩
  · exact .inl h2
  · exact .inr ⟨g, cap, cur, rfl, hg, by rw [Below.heap_setCell _ _ _ _ (fun e => hne (by rw [e]; rfl))]; exact hh, r⟩
theorem row_move {w w' : World} {e : TypeId} {size n : Nat} {v : Value} {xs : List Value} (h : w.ownsRow 0 e size v n xs) (hm : ∀ k, v.ownBlock = some k → w'.heap[k]? = w.heap[k]?) : w'.ownsRow 0 e size v n xs := by
  obtain ⟨h1, h2⟩ := h
  refine ⟨h1, ?_⟩
  rcases h2 with h2 | ⟨g, cap, cur, rfl, hg, hh, r⟩
  · exact .inl h2
  · exact .inr ⟨g, cap, cur, rfl, hg, (hm g rfl).trans hh, r⟩
theorem row_slice {w : World} {e : TypeId} {size n : Nat} {v : Value} {xs : List Value} (h : w.ownsRow 0 e size v n xs) : ∃ a c, v = .slice a n c := by
  rcases h.2 with ⟨rfl, rfl⟩ | ⟨g, cap, cur, rfl, _⟩
  · exact ⟨none, 0, rfl⟩
  · exact ⟨_, cap, rfl⟩
theorem row_lt {w : World} {e : TypeId} {size n : Nat} {v : Value} {xs : List Value} (h : w.ownsRow 0 e size v n xs) : ∀ k, v.ownBlock = some k → k < w.heap.size := fun k hk => (h.lt k hk).2
end
section
variable {P : Program}
end
end Go.Proofs.Ytpiiopppbgpbpaa.Sl
namespace Go.Proofs.Ytpiiopppbgpbpaa.Sl
open Go.RowKit
set_option linter.unusedVariables false
set_option linter.unusedSimpArgs false
def OutR (b : Nat) (st : List UInt8 × Int) : Res where
  P := fun w G => ∃ v, w.heap[b]? = some (.cells #[v, .int .i64 st.2] 42 (0, 0)) ∧ w.ownsRow 0 5 1 v st.1.length (byteCells st.1) ∧ ∀ k, G k ↔ k = b ∨ v.ownBlock = some k
  lt := by
    rintro w G ⟨v, h1, h2, h3⟩ k hk
    rcases (h3 k).1 hk with rfl | h
    · exact heap_lt h1
    · exact row_lt h2 k h
  move := by
    rintro w w' G ⟨v, h1, h2, h3⟩ hm
    exact ⟨v, (hm _ ((h3 _).2 (.inl rfl))).trans h1, row_move h2 (fun k hk => hm k ((h3 k).2 (.inr hk))), h3⟩
theorem infoByte : (Try.prog.info? 5).map (fun i => (i.zero, i.size, i.bytes)) = some (some (.int .u8 0), 1, 1) := by kernel_rfl
theorem OutR.new {F0 : Nat → Prop} {w0 w : World} {Rs : List Res} (h : St F0 w0 Rs w) : St F0 w0 (OutR w.heap.size ([], 0) :: Rs) (w.alloc (.cells #[.slice none 0 0, .int .i64 0] 42)) := by
  refine (h.alloc #[.slice none 0 0, .int .i64 0] 42).weaken 0 rfl (A' := OutR w.heap.size ([], 0)) ?_
  rintro G ⟨h1, h2⟩
  exact ⟨_, h1, World.ownsRow_nil _ _ _ _, fun k => by simp [h2 k, Value.ownBlock]⟩
theorem OutR.stored {b : Nat} {l m : List UInt8} {w w1 : World} {v v1 : Value} {F : Nat → Prop} (hb : w.heap[b]? = some (.cells #[v, .int .i64 0] 42 (0, 0))) (ho : w.ownsRow 0 5 1 v l.length (byteCells l)) (hF : ∀ k, F k ↔ k = b ∨ v.ownBlock = some k)
    {n : Nat} (ho1 : w1.ownsRow 0 5 1 v1 n (byteCells m)) (hg : w.grownBy w1 v.ownBlock) (hat : v1.ownBlock = v.ownBlock ∨ ∃ k, v1.ownBlock = some k ∧ w.heap.size ≤ k) :
    St F w [OutR b (m, 0)] (w1.setCell ⟨b, 0, none⟩ v1) := by
  have hn : n = m.length := by have := ho1.1; simpa [byteCells] using this.symm
  subst hn
  have hne := row_ne ho hb (by decide)
  have hb1 : w1.heap[b]? = some (.cells #[v, .int .i64 0] 42 (0, 0)) := (hg.block b (heap_lt hb) hne).trans hb
  have hne1 := row_ne ho1 hb1 (by decide)
  refine ⟨((Fr.refl F w).trans (Fr.of_grown (F := F) hg (fun k hk => (hF k).2 (.inr hk))) (fun k hk => .inl hk)).set (p := ⟨b, 0, none⟩) (.inl ((hF b).2 (.inl rfl))) v1, ?_⟩
  refine ⟨fun k => k = b ∨ v1.ownBlock = some k, ⟨v1, by simpa using heap_set hb1 0 v1, row_set ho1 hne1 v1, fun _ => Iff.rfl⟩, ?_, trivial⟩
  rintro k (rfl | hk)
  · exact .inl ((hF k).2 (.inl rfl))
  · rcases hat with h | ⟨k', h, h'⟩
    · rw [h] at hk
      exact .inl ((hF k).2 (.inr hk))
    · rw [h] at hk
      injection hk with hk
      subst hk
      exact .inr h'
theorem OutR.kept {b : Nat} {st : List UInt8 × Int} {w w' : World} {F : Nat → Prop} (h : (OutR b st).P w F) (n : Nat) (hw : w' = w.drewN n) : St F w [OutR b st] w' := by
  subst hw
  exact (St.start F w (Sep.one h)).drewN n
def oput (st : List UInt8 × Int) (l : List UInt8) : List UInt8 × Int := if st.2 = 0 then (st.1 ++ l, 0) else st
def ofail (st : List UInt8 × Int) (e : Int) : List UInt8 × Int := if st.2 = 0 then (st.1, e) else st
set_option maxRecDepth 100000 in
theorem Fail_spec (b : Nat) (st : List UInt8 × Int) (e : Int) : Spec Try.prog 74 #[.pointer (some ⟨b, 0, none⟩), .int .i64 e] (OutR b st) (fun v A' N => v = .tuple #[] ∧ A' = OutR b (ofail st e) ∧ N = []) := by
  rintro F w ⟨v, hb, ho, hF⟩
  obtain ⟨l, er⟩ := st
  have c1 : w.cell? ⟨b, 1, none⟩ = some (.int .i64 er) := (heap_at hb 1).trans rfl
  have f1 : w.frozen? ⟨b, 1, none⟩ = false := heap_free hb 1
  by_cases h0 : er = 0
  · subst h0
    have HB := Lib.hid hb
    have HO := Lib.hid ho
    clear hb ho
    go_enter Try.func74, Try.ntmps74
    go_wp2
    go_end0
    refine ⟨_, _, _, rfl, ⟨rfl, rfl, rfl⟩, (Fr.refl F w).set (.inl ((hF b).2 (.inl rfl))) _, F, ?_, fun k hk => .inl hk, trivial⟩
    have hne := row_ne HO.out HB.out (by decide)
    exact ⟨v, by simpa [ofail] using heap_set HB.out 1 (.int .i64 e), row_set HO.out hne _, hF⟩
  · have HB := Lib.hid hb
    have HO := Lib.hid ho
    have H0 : (er == 0) = false := beq_eq_false_iff_ne.2 h0
    clear hb ho
    go_enter Try.func74, Try.ntmps74
    go_wp2
    go_end0
    exact ⟨_, _, _, rfl, ⟨rfl, rfl, rfl⟩, OutR.kept ⟨v, by simpa [ofail, h0] using HB.out, by simpa [ofail, h0] using HO.out, hF⟩ 0 rfl⟩
set_option maxRecDepth 100000 in
theorem Put_spec (b : Nat) (st : List UInt8 × Int) (s : ByteArray) (hl : st.1.length + s.size ≤ 140737488355328) :
    Spec Try.prog 98 #[.pointer (some ⟨b, 0, none⟩), .string s] (OutR b st) (fun v A' N => v = .tuple #[] ∧ A' = OutR b (oput st s.data.toList) ∧ N = []) := by
  rintro F w ⟨v, hb, ho, hF⟩
  obtain ⟨l, er⟩ := st
  have c0 : w.cell? ⟨b, 0, none⟩ = some v := (heap_at hb 0).trans rfl
  have c1 : w.cell? ⟨b, 1, none⟩ = some (.int .i64 er) := (heap_at hb 1).trans rfl
  by_cases h0 : er = 0
  · subst h0
    have HB := Lib.hid hb
    have HO := Lib.hid ho
    clear hb ho
    go_enter Try.func98, Try.ntmps98
    go_wp2_with (at_builtin; refine wp_append_str_at w rfl _ _ _ _ rfl 5 Try.underlying39 Try.underlying9 infoByte v l.length (byteCells l) rfl HO.out s rfl hl ?_; intro v1 w1 ho1 hg hat; obtain ⟨a1, k1, rfl⟩ := row_slice ho1; have HO1 := Lib.hid ho1; clear ho1; have HN := Lib.hid (row_ne HO.out HB.out (by decide)); have HB1 := Lib.hid (show w1.heap[b]? = _ from (hg.block b (heap_lt HB.out) HN.out).trans HB.out); have d0 : w1.cell? ⟨b, 0, none⟩ = some v := (heap_at HB1.out 0).trans rfl; have e0 : w1.frozen? ⟨b, 0, none⟩ = false := heap_free HB1.out 0; have HG := Lib.hid hg; have HAT := Lib.hid hat; clear hg hat)
    go_end0
    have ho1 := HO1.out
    rw [byteCells_str, ← byteCells_append] at ho1
    refine ⟨_, _, _, rfl, ⟨rfl, rfl, rfl⟩, ?_⟩
    have := OutR.stored HB.out HO.out hF ho1 HG.out (by rcases HAT.out with h | h; exact .inl h; exact .inr ⟨_, h, Nat.le_refl _⟩)
    simpa [oput] using this
  · have HB := Lib.hid hb
    have HO := Lib.hid ho
    have H0 : (er == 0) = false := beq_eq_false_iff_ne.2 h0
    clear hb ho
    go_enter Try.func98, Try.ntmps98
    go_wp2_with fail
    go_end0
    exact ⟨_, _, _, rfl, ⟨rfl, rfl, rfl⟩, OutR.kept ⟨v, by simpa [oput, h0] using HB.out, by simpa [oput, h0] using HO.out, hF⟩ 0 rfl⟩
set_option maxRecDepth 100000 in
theorem Byte_spec (b : Nat) (st : List UInt8 × Int) (c : UInt8) (hl : st.1.length + 1 ≤ 140737488355328) :
    Spec Try.prog 79 #[.pointer (some ⟨b, 0, none⟩), .int .u8 c.toNat] (OutR b st) (fun v A' N => v = .tuple #[] ∧ A' = OutR b (oput st [c]) ∧ N = []) := by
  rintro F w ⟨v, hb, ho, hF⟩
  obtain ⟨l, er⟩ := st
  have c0 : w.cell? ⟨b, 0, none⟩ = some v := (heap_at hb 0).trans rfl
  have c1 : w.cell? ⟨b, 1, none⟩ = some (.int .i64 er) := (heap_at hb 1).trans rfl
  by_cases h0 : er = 0
  · subst h0
    have HB := Lib.hid hb
    have HO := Lib.hid ho
    clear hb ho
    go_enter Try.func79, Try.ntmps79
    go_wp2_with (at_builtin; refine wp_append_one_at w rfl _ _ _ rfl 5 (.int .u8 0) 1 Try.underlying39 infoByte rfl v l.length (byteCells l) rfl HO.out (.int .u8 c.toNat) rfl rfl (by simpa using hl) hl ?_; intro v1 w1 ho1 hg hat; obtain ⟨a1, k1, rfl⟩ := row_slice ho1; have HO1 := Lib.hid ho1; clear ho1; have HN := Lib.hid (row_ne HO.out HB.out (by decide)); have HB1 := Lib.hid (show w1.heap[b]? = _ from (hg.block b (heap_lt HB.out) HN.out).trans HB.out); have d0 : w1.cell? ⟨b, 0, none⟩ = some v := (heap_at HB1.out 0).trans rfl; have e0 : w1.frozen? ⟨b, 0, none⟩ = false := heap_free HB1.out 0; have HG := Lib.hid hg; have HAT := Lib.hid hat; clear hg hat)
    go_end0
    have ho1 := HO1.out
    rw [show ([Value.int .u8 c.toNat] : List Value) = byteCells [c] from rfl, ← byteCells_append] at ho1
    refine ⟨_, _, _, rfl, ⟨rfl, rfl, rfl⟩, ?_⟩
    have := OutR.stored HB.out HO.out hF ho1 HG.out HAT.out
    simpa [oput] using this
  · have HB := Lib.hid hb
    have HO := Lib.hid ho
    have H0 : (er == 0) = false := beq_eq_false_iff_ne.2 h0
    clear hb ho
    go_enter Try.func79, Try.ntmps79
    go_wp2_with fail
    go_end0
    exact ⟨_, _, _, rfl, ⟨rfl, rfl, rfl⟩, OutR.kept ⟨v, by simpa [oput, h0] using HB.out, by simpa [oput, h0] using HO.out, hF⟩ 0 rfl⟩
def otext (st : List UInt8 × Int) : Value := if st.2 = 0 then .tuple #[.string ⟨st.1.toArray⟩, .int .i64 0] else .tuple #[.string ⟨#[]⟩, .int .i64 st.2]
set_option maxRecDepth 100000 in
theorem Text_spec (b : Nat) (st : List UInt8 × Int) : Spec Try.prog 24 #[.pointer (some ⟨b, 0, none⟩)] (OutR b st) (fun v A' N => v = otext st ∧ A' = OutR b st ∧ N = []) := by
  rintro F w ⟨v, hb, ho, hF⟩
  obtain ⟨l, er⟩ := st
  have c0 : w.cell? ⟨b, 0, none⟩ = some v := (heap_at hb 0).trans rfl
  have c1 : w.cell? ⟨b, 1, none⟩ = some (.int .i64 er) := (heap_at hb 1).trans rfl
  have hc := row_string (P := Try.prog) w (src := 39) (dst := 9) Try.underlying39 Try.underlying5 Try.underlying9 ho
  have HB := Lib.hid hb
  have HO := Lib.hid ho
  clear hb ho
  by_cases h0 : er = 0
  · subst h0
    go_enter Try.func24, Try.ntmps24
    go_wp2
    go_ret2
    exact ⟨_, _, _, rfl, ⟨by simp [otext], rfl, rfl⟩, OutR.kept ⟨_, HB.out, HO.out, hF⟩ 0 rfl⟩
  · have H0 : (er != 0) = true := bne_iff_ne.2 h0
    go_enter Try.func24, Try.ntmps24
    go_wp2
    go_quiet (fail)
    go_wp2
    go_ret2
    exact ⟨_, _, _, rfl, ⟨by simp [otext, h0], rfl, rfl⟩, OutR.kept ⟨_, HB.out, HO.out, hF⟩ _ rfl⟩
def fits (n size : Int) : Bool := decide (1 ≤ size) && decide (size ≤ 8) && decide (-(2 ^ (8 * size.toNat - 1) : Int) ≤ n) && decide (n ≤ (2 ^ (8 * size.toNat - 1) : Int) - 1)
theorem w64max : wrap64 (wrap64 9223372036854775808 - 1) = 9223372036854775807 := by unfold wrap64; omega
theorem ret_int {k : IntKind} {a b : Int} (h : a = b) : Ending.returned (.int k a) = .returned (.int k b) := by rw [h]
theorem ret_bool {a b : Bool} (h : a = b) : Ending.returned (.bool a) = .returned (.bool b) := by rw [h]
set_option maxRecDepth 100000 in
theorem Fits_any (n size : Int) (w : World) (h0 : -9223372036854775808 ≤ n) (h1 : n ≤ 9223372036854775807) :
    Calls Try.prog 78 #[.int .i64 n, .int .i64 size] w fun e w' => e = .returned (.bool (fits n size)) ∧ w = w' := by
  by_cases hs : 1 ≤ size ∧ size ≤ 8
  · have hk : size = 1 ∨ size = 2 ∨ size = 3 ∨ size = 4 ∨ size = 5 ∨ size = 6 ∨ size = 7 ∨ size = 8 := by omega
    rcases hk with rfl | rfl | rfl | rfl | rfl | rfl | rfl | rfl
    all_goals
      clear hs
      go_enter Try.func78, Try.ntmps78
      go_wp2
      all_goals (go_ret; exact ⟨ret_bool (by have := w64max; rw [Bool.eq_iff_iff]; simp [fits, wrap64]; omega), rfl⟩)
  · by_cases h2 : size < 1
    · go_enter Try.func78, Try.ntmps78
      go_wp2
      go_ret
      exact ⟨ret_bool (by simp [fits]; omega), rfl⟩
    · have h3 : 8 < size := by omega
      go_enter Try.func78, Try.ntmps78
      go_wp2
      go_ret
      exact ⟨ret_bool (by simp [fits]; omega), rfl⟩
theorem oput_nil (st : List UInt8 × Int) : oput st [] = st := by
  obtain ⟨l, e⟩ := st
  by_cases h : e = 0 <;> simp [oput, h]
theorem oput_oput (st : List UInt8 × Int) (a b : List UInt8) : oput (oput st a) b = oput st (a ++ b) := by
  obtain ⟨l, e⟩ := st
  by_cases h : e = 0 <;> simp [oput, h]
theorem ByteI_spec (b : Nat) (st : List UInt8 × Int) (c : Int) (h0 : 0 ≤ c) (h1 : c < 256) (hl : st.1.length + 1 ≤ 140737488355328) :
    Spec Try.prog 79 #[.pointer (some ⟨b, 0, none⟩), .int .u8 c] (OutR b st) (fun v A' N => v = .tuple #[] ∧ A' = OutR b (oput st [UInt8.ofNat c.toNat]) ∧ N = []) := by
  have h := Byte_spec b st (UInt8.ofNat c.toNat) hl
  rwa [show ((UInt8.ofNat c.toNat).toNat : Int) = c from by simp [UInt8.toNat_ofNat']; omega] at h
theorem oput_len (st : List UInt8 × Int) (a : List UInt8) : (oput st a).1.length ≤ st.1.length + a.length := by
  unfold oput; split <;> simp
end Go.Proofs.Ytpiiopppbgpbpaa.Sl
namespace Go.Proofs.Ytpiiopppbgpbpaa.Sl
set_option linter.unusedVariables false
def crcP : Nat := 2197175160
def crcS (x : Nat) : Nat := x / 2 ^^^ (if x % 2 = 1 then crcP else 0)
def crcI : Nat → Nat → Nat
  | 0, x => x
  | k + 1, x => crcI k (crcS x)
theorem nat_xor_mod2 (x y : Nat) : (x ^^^ y) % 2 = (x % 2 + y % 2) % 2 := by
  have h := Nat.xor_mod_two_pow (a := x) (b := y) (n := 1)
  rw [Nat.pow_one] at h
  rw [h]
  rcases Nat.mod_two_eq_zero_or_one x with hx | hx <;> rcases Nat.mod_two_eq_zero_or_one y with hy | hy <;> rw [hx, hy] <;> rfl
theorem nat_xor_div2 (x y : Nat) : (x ^^^ y) / 2 = (x / 2) ^^^ (y / 2) := Nat.xor_div_two
theorem crcS_xor (x y : Nat) : crcS (x ^^^ y) = crcS x ^^^ crcS y := by
  unfold crcS
  rw [nat_xor_div2, nat_xor_mod2]
  rcases Nat.mod_two_eq_zero_or_one x with hx | hx <;> rcases Nat.mod_two_eq_zero_or_one y with hy | hy <;> simp [hx, hy]
  · rw [Nat.xor_assoc]
  · ac_rfl
  · rw [show x / 2 ^^^ crcP ^^^ (y / 2 ^^^ crcP) = x / 2 ^^^ y / 2 ^^^ (crcP ^^^ crcP) by ac_rfl, Nat.xor_self, Nat.xor_zero]
theorem crcI_xor : ∀ (k x y : Nat), crcI k (x ^^^ y) = crcI k x ^^^ crcI k y
  | 0, _, _ => rfl
  | k + 1, x, y => by show crcI k _ = _; rw [crcS_xor, crcI_xor k]; rfl
theorem crcI_add : ∀ (j k x : Nat), crcI (j + k) x = crcI k (crcI j x)
  | 0, k, x => by rw [Nat.zero_add]; rfl
  | j + 1, k, x => by rw [show j + 1 + k = (j + k) + 1 by omega]; exact crcI_add j k (crcS x)
theorem crcS_even (x : Nat) : crcS (2 * x) = x := by
  unfold crcS; rw [if_neg (by omega), Nat.xor_zero]; omega
theorem crcI_shift : ∀ (k x : Nat), crcI k (2 ^ k * x) = x
  | 0, x => by rw [Nat.pow_zero, Nat.one_mul]; rfl
  | k + 1, x => by
    show crcI k (crcS _) = x
    rw [show 2 ^ (k + 1) * x = 2 * (2 ^ k * x) by rw [Nat.pow_succ, Nat.mul_comm (2 ^ k) 2, Nat.mul_assoc], crcS_even]
    exact crcI_shift k x
theorem crcS_lt {x : Nat} (h : x < 2 ^ 32) : crcS x < 2 ^ 32 := by
  unfold crcS
  exact Nat.xor_lt_two_pow (by omega) (by split <;> decide)
theorem crcI_lt : ∀ (k : Nat) {x : Nat}, x < 2 ^ 32 → crcI k x < 2 ^ 32
  | 0, _, h => h
  | k + 1, _, h => crcI_lt k (crcS_lt h)
theorem crcS_zero {x : Nat} (h : x < 2 ^ 32) (h0 : crcS x = 0) : x = 0 := by
  unfold crcS at h0
  split at h0
  · exfalso
    have h1 : x / 2 = crcP := by
      have := congrArg (· ^^^ crcP) h0
      simpa [Nat.xor_assoc] using this
    have : crcP = 2197175160 := rfl
    omega
  · rw [Nat.xor_zero] at h0; omega
theorem crcI_zero : ∀ (k : Nat) {x : Nat}, x < 2 ^ 32 → crcI k x = 0 → x = 0
  | 0, _, _, h0 => h0
  | k + 1, _, h, h0 => crcS_zero h (crcI_zero k (crcS_lt h) h0)
theorem crcI_byte (x b : Nat) (hb : b < 256) : crcI 8 (x ^^^ b) = crcI 8 ((x % 256) ^^^ b) ^^^ (x / 256) := by
  have h : x = (x % 256) ^^^ (2 ^ 8 * (x / 256)) := by
    apply Nat.eq_of_testBit_eq
    intro i
    rw [Nat.testBit_xor, show (256 : Nat) = 2 ^ 8 from rfl, Nat.testBit_mod_two_pow, Nat.testBit_two_pow_mul, Nat.testBit_div_two_pow]
    by_cases hi : i < 8
    · simp [hi, show ¬ 8 ≤ i by omega]
    · simp [hi, show 8 ≤ i by omega]
  conv => lhs; rw [h]
  rw [show x % 256 ^^^ 2 ^ 8 * (x / 256) ^^^ b = (x % 256 ^^^ b) ^^^ (2 ^ 8 * (x / 256)) by ac_rfl, crcI_xor, crcI_shift]
def leN : List UInt8 → Nat
  | [] => 0
  | c :: l => c.toNat + 256 * leN l
def crcR : Nat → List UInt8 → Nat
  | x, [] => x
  | x, c :: l => crcR (crcI 8 (x ^^^ c.toNat)) l
theorem nat_add_xor {b : Nat} (hb : b < 256) (y : Nat) : b + 256 * y = b ^^^ (2 ^ 8 * y) := by
  apply Nat.eq_of_testBit_eq
  intro i
  rw [show b + 256 * y = 2 ^ 8 * y + b by omega, Nat.testBit_two_pow_mul_add _ (show b < 2 ^ 8 by omega), Nat.testBit_xor, Nat.testBit_two_pow_mul]
  by_cases hi : i < 8
  · simp [hi, show ¬ 8 ≤ i by omega]
  · have : b.testBit i = false := Nat.testBit_lt_two_pow (Nat.lt_of_lt_of_le hb (show 2 ^ 8 ≤ 2 ^ i from Nat.pow_le_pow_right (by decide) (by omega)))
    simp [hi, show 8 ≤ i by omega, this]
theorem crcR_eq : ∀ (l : List UInt8) (x : Nat), crcR x l = crcI (8 * l.length) (x ^^^ leN l)
  | [], x => by show x = crcI 0 (x ^^^ 0); rw [Nat.xor_zero]; rfl
  | c :: l, x => by
    show crcR _ l = _
    rw [crcR_eq l, show 8 * (c :: l).length = 8 + 8 * l.length by simp [Nat.mul_add]; omega, crcI_add]
    show _ = crcI _ (crcI 8 (x ^^^ (c.toNat + 256 * leN l)))
    rw [nat_add_xor c.toNat_lt, show x ^^^ (c.toNat ^^^ 2 ^ 8 * leN l) = (x ^^^ c.toNat) ^^^ (2 ^ 8 * leN l) by ac_rfl, crcI_xor 8 (x ^^^ c.toNat), crcI_shift]
theorem crcR_append : ∀ (l m : List UInt8) (x : Nat), crcR x (l ++ m) = crcR (crcR x l) m
  | [], _, _ => rfl
  | c :: l, m, x => crcR_append l m _
theorem crcR_lt : ∀ (l : List UInt8) {x : Nat}, x < 2 ^ 32 → crcR x l < 2 ^ 32
  | [], _, h => h
  | c :: l, _, h => crcR_lt l (crcI_lt 8 (Nat.xor_lt_two_pow h (Nat.lt_trans c.toNat_lt (by decide))))
theorem crc_burst {l m : List UInt8} (hlm : l.length = m.length) {x d k : Nat} (hd : d < 2 ^ 32) (hk : k ≤ 8 * l.length) (h : leN l ^^^ leN m = 2 ^ k * d) (he : crcR x l = crcR x m) : d = 0 := by
  rw [crcR_eq, crcR_eq, ← hlm] at he
  have h1 : crcI (8 * l.length) (leN l ^^^ leN m) = 0 := by
    rw [show leN l ^^^ leN m = (x ^^^ leN l) ^^^ (x ^^^ leN m) by
      rw [show (x ^^^ leN l) ^^^ (x ^^^ leN m) = (x ^^^ x) ^^^ (leN l ^^^ leN m) by ac_rfl, Nat.xor_self, Nat.zero_xor], crcI_xor, he, Nat.xor_self]
  rw [h, show 8 * l.length = k + (8 * l.length - k) by omega, crcI_add, crcI_shift] at h1
  exact crcI_zero _ hd h1
end Go.Proofs.Ytpiiopppbgpbpaa.Sl
namespace Go.Proofs.Ytpiiopppbgpbpaa.Sl
open Go.RowKit
set_option linter.unusedVariables false
def RowR (T : TypeId) (size : Nat) (v : Value) (n : Nat) (xs : List Value) : Res where
  P := fun w G => w.ownsRow 0 T size v n xs ∧ ∀ k, G k ↔ v.ownBlock = some k
  lt := by
    rintro w G ⟨h1, h2⟩ k hk
    exact row_lt h1 k ((h2 k).1 hk)
  move := by
    rintro w w' G ⟨h1, h2⟩ hm
    exact ⟨row_move h1 (fun k hk => hm k ((h2 k).2 hk)), h2⟩
section
variable {F0 : Nat → Prop} {w0 w w1 : World} {Rs : List Res} {T : TypeId} {size n : Nat} {v v1 : Value} {xs ys : List Value}
theorem RowR.row (i : Nat) (h : St F0 w0 Rs w) (hi : Rs[i]? = some (RowR T size v n xs)) : w.ownsRow 0 T size v n xs := (h.get i hi).choose_spec.1.1
theorem RowR.nil (T : TypeId) (size : Nat) (h : St F0 w0 Rs w) : St F0 w0 (RowR T size (.slice none 0 0) 0 [] :: Rs) w :=
  h.grow (Ns := [RowR T size (.slice none 0 0) 0 []]) (Fr.refl _ _) ⟨fun _ => False, ⟨World.ownsRow_nil _ _ _ _, fun k => by simp [Value.ownBlock]⟩, fun _ h => h.elim, trivial⟩
theorem RowR.lit (h : St F0 w0 Rs w) (cs : Array Value) (n : Nat) (hm : n ≤ maxLen) (hs : cs.size = n * size) :
    St F0 w0 (RowR T size (.slice (some ⟨w.heap.size, 0, none⟩) n n) n cs.toList :: Rs) (w.alloc (.cells cs T)) :=
  h.grow (Ns := [RowR T size (.slice (some ⟨w.heap.size, 0, none⟩) n n) n cs.toList]) (Fr.of_below ((Below.refl _ _).alloc (Nat.le_refl _) _))
    ⟨fun k => k = w.heap.size, ⟨World.ownsRow_lit w cs n (Nat.zero_le _) hm hs, fun k => by simp [Value.ownBlock, eq_comm]⟩, fun k hk => by omega, trivial⟩
theorem RowR.grown (i : Nat) (h : St F0 w0 Rs w) (hi : Rs[i]? = some (RowR T size v n xs)) {m : Nat} (ho : w1.ownsRow 0 T size v1 m ys) (hg : w.grownBy w1 v.ownBlock)
    (hat : v1.ownBlock = v.ownBlock ∨ ∃ k, v1.ownBlock = some k ∧ w.heap.size ≤ k) : St F0 w0 (Rs.set i (RowR T size v1 m ys)) w1 := by
  refine h.step i hi (Ns := []) (fun G hG => ⟨Fr.of_grown hg (fun k hk => (hG.2 k).2 hk), fun k => v1.ownBlock = some k, ⟨ho, fun _ => Iff.rfl⟩, fun k hk => ?_, trivial⟩)
  rcases hat with h1 | ⟨k', h1, h2⟩
  · rw [h1] at hk
    exact .inl ((hG.2 k).2 hk)
  · rw [h1] at hk
    injection hk with hk
    subst hk
    exact .inr h2
theorem RowR.set {g c : Nat} (i : Nat) (h : St F0 w0 Rs w) (hi : Rs[i]? = some (RowR T size (.slice (some ⟨g, 0, none⟩) n c) n xs)) (j : Nat) (u : Value) :
    St F0 w0 (Rs.set i (RowR T size (.slice (some ⟨g, 0, none⟩) n c) n (xs.set j u))) (w.setCell ⟨g, j, none⟩ u) := by
  have hr := RowR.row i h hi
  obtain ⟨h1, h2⟩ := hr.stored j u
  exact RowR.grown i h hi h1 h2 (.inl rfl)
theorem RowR.cell {g c : Nat} (i : Nat) (h : St F0 w0 Rs w) (hi : Rs[i]? = some (RowR T size (.slice (some ⟨g, 0, none⟩) n c) n xs)) (j : Nat) (hj : j < n * size) : w.cell? ⟨g, j, none⟩ = xs[j]? ∧ w.frozen? ⟨g, j, none⟩ = false :=
  ⟨(RowR.row i h hi).cellAt j hj, (RowR.row i h hi).frozenAt j⟩
end
end Go.Proofs.Ytpiiopppbgpbpaa.Sl
namespace Go.Proofs.Ytpiiopppbgpbpaa.Sl
open Go.RowKit Go.Deep Go.ChangeShapes
set_option linter.unusedVariables false
structure Rd (α : Type) where
  P : World → (Nat → Prop) → List Value → α → Prop
  mono : ∀ {w : World} {S S' : Nat → Prop} {cs : List Value} {a : α}, P w S cs a → (∀ k, S k → S' k) → P w S' cs a
  move : ∀ {w w' : World} {S : Nat → Prop} {cs : List Value} {a : α}, P w S cs a → (∀ k, S k → w'.heap[k]? = w.heap[k]?) → P w' S cs a
theorem Rd.below {α : Type} (E : Rd α) {w w' : World} {cs : List Value} {a : α} (h : E.P w (fun k => k < w.heap.size) cs a) (hb : Fr (fun _ => False) w w') : E.P w' (fun k => k < w.heap.size) cs a :=
  E.move h (fun k hk => hb.block k hk (fun h => h))
def boolRd : Rd Bool where
  P := fun _ _ cs b => cs = [.bool b]
  mono := fun h _ => h
  move := fun h _ => h
def unitRd : Rd Unit where
  P := fun _ _ cs _ => cs = []
  mono := fun h _ => h
  move := fun h _ => h
def pairRd {α β : Type} (A : Rd α) (B : Rd β) : Rd (α × β) where
  P := fun w S cs x => ∃ c d, cs = c ++ d ∧ A.P w S c x.1 ∧ B.P w S d x.2
  mono := fun ⟨c, d, h1, h2, h3⟩ hS => ⟨c, d, h1, A.mono h2 hS, B.mono h3 hS⟩
  move := fun ⟨c, d, h1, h2, h3⟩ hS => ⟨c, d, h1, A.move h2 hS, B.move h3 hS⟩
def rowAt {α : Type} (size : Nat) (E : Rd α) (w : World) (S : Nat → Prop) (a : Addr) (l : List α) : Prop :=
  ∀ i x, l[i]? = some x → ∃ cs, cs.length = size ∧ (∀ j, j < size → w.cell? (a.add (i * size + j)) = cs[j]?) ∧ E.P w S cs x
def sliceRd {α : Type} (size : Nat) (E : Rd α) : Rd (List α) where
  P := fun w S cs l => (cs = [.slice none 0 0] ∧ l = []) ∨ ∃ a cap, cs = [.slice (some a) l.length cap] ∧ l.length ≤ cap ∧ cap ≤ maxLen ∧ (0 < l.length → S a.block) ∧ rowAt size E w S a l
  mono := by
    rintro w S S' cs l (h | ⟨a, cap, h1, h2, h3, h4, h5⟩) hS
    · exact .inl h
    · refine .inr ⟨a, cap, h1, h2, h3, fun h => hS _ (h4 h), fun i x hx => ?_⟩
      obtain ⟨cs, k1, k2, k3⟩ := h5 i x hx
      exact ⟨cs, k1, k2, E.mono k3 hS⟩
  move := by
    rintro w w' S cs l (h | ⟨a, cap, h1, h2, h3, h4, h5⟩) hS
    · exact .inl h
    · refine .inr ⟨a, cap, h1, h2, h3, h4, fun i x hx => ?_⟩
      obtain ⟨cs, k1, k2, k3⟩ := h5 i x hx
      refine ⟨cs, k1, fun j hj => ?_, E.move k3 hS⟩
      rw [← k2 j hj]
      have hb : (a.add (i * size + j)).block = a.block := block_add _ _
      have hl : 0 < l.length := by have := (List.getElem?_eq_some_iff.1 hx).1; omega
      simp only [World.cell?, hb, hS _ (h4 hl)]
theorem spot_none {w : World} {b : Addr} {v : Value} (h : w.cell? b = some v) : b = ⟨b.block, b.off, none⟩ := by
  obtain ⟨g, o, s⟩ := b
  cases s with
  | none => rfl
  | some s =>
    simp only [World.cell?] at h
    split at h <;> simp at h
theorem St.old {w wr : World} {Rs : List Res} {v : Option Value} {p : Addr} (h : St (fun _ => False) w Rs wr) (hb : p.block < w.heap.size) (hc : w.cell? p = v) : wr.cell? p = v := by
  rw [← hc]
  have e := h.fr.block p.block hb (fun h => h)
  simp only [World.cell?, e]
section
variable {H : Type} (enc : TypeId × Value → H) (P : Program)
def Opens {α : Type} (t : TypeId) (E : Rd α) : Prop :=
  ∀ (w : World) (fuel : Nat) (cs : List Value) (x : DataW H × List MemPlace), DataW.trod enc P w 0 (fun _ => true) true fuel t cs = some x → ∃ a, E.P w (fun k => k < w.heap.size) cs a
variable {enc P}
theorem opens_bool {t : TypeId} (ht : P.underlying t = some .bool) : Opens enc P t boolRd := by
  intro w fuel cs x h
  obtain ⟨b, rfl, _⟩ := DataW.trod_bool ht h
  exact ⟨b, rfl⟩
variable (enc P) in
end
end Go.Proofs.Ytpiiopppbgpbpaa.Sl
namespace Go.Proofs.Ytpiiopppbgpbpaa.Sl
open Go.RowKit
set_option linter.unusedVariables false
structure RX where
  P : World → (Nat → Prop) → Prop
  mono : ∀ {w : World} {S S' : Nat → Prop}, P w S → (∀ k, S k → S' k) → P w S'
  move : ∀ {w w' : World} {S : Nat → Prop}, P w S → (∀ k, S k → w'.heap[k]? = w.heap[k]?) → P w' S
def RX.triv : RX := ⟨fun _ _ => True, fun _ _ => trivial, fun _ _ => trivial⟩
def RX.and (X Y : RX) : RX := ⟨fun w S => X.P w S ∧ Y.P w S, fun h k => ⟨X.mono h.1 k, Y.mono h.2 k⟩, fun h k => ⟨X.move h.1 k, Y.move h.2 k⟩⟩
def RX.of {α : Type} (E : Rd α) (cs : List Value) (a : α) : RX := ⟨fun w S => E.P w S cs a, fun h k => E.mono h k, fun h k => E.move h k⟩
def RX.reads (X : RX) (w : World) (F : Nat → Prop) : Prop := ∃ S, X.P w S ∧ ∀ k, S k → ¬ F k ∧ k < w.heap.size
theorem RX.reads_triv (w : World) (F : Nat → Prop) : RX.triv.reads w F := ⟨fun _ => False, trivial, fun _ h => h.elim⟩
theorem RX.reads_and {X Y : RX} {w : World} {F : Nat → Prop} (h : X.reads w F) (k : Y.reads w F) : (X.and Y).reads w F := by
  obtain ⟨S, h1, h2⟩ := h
  obtain ⟨T, k1, k2⟩ := k
  exact ⟨fun k => S k ∨ T k, ⟨X.mono h1 (fun _ h => .inl h), Y.mono k1 (fun _ h => .inr h)⟩, fun k hk => hk.elim (h2 k) (k2 k)⟩
theorem RX.reads_weaken {X : RX} {w : World} {F G : Nat → Prop} (h : X.reads w F) (hg : ∀ k, k < w.heap.size → G k → F k) : X.reads w G := let ⟨S, h1, h2⟩ := h; ⟨S, h1, fun k hk => ⟨fun g => (h2 k hk).1 (hg k (h2 k hk).2 g), (h2 k hk).2⟩⟩
def EmpR : Res where
  P := fun _ G => ∀ k, ¬ G k
  lt := fun h k hk => (h k hk).elim
  move := fun h _ => h
def RdR {α : Type} (E : Rd α) (cs : List Value) (a : α) : Res where
  P := fun w G => E.P w G cs a ∧ ∀ k, G k → k < w.heap.size
  lt := fun h k hk => h.2 k hk
  move := fun {w w'} {G} h hm => ⟨E.move h.1 hm, fun k hk => by
    have h1 := h.2 k hk
    have h2 := hm k hk
    rw [Array.getElem?_eq_getElem h1] at h2
    exact (Array.getElem?_eq_some_iff.1 h2).1⟩
def SpecX (P : Program) (f : FuncId) (args : Array Value) (X : RX) (A : Res) (Q : Value → Res → List Res → Prop) : Prop :=
  ∀ F w, A.P w F → X.reads w F → Calls P f args w (Post Q F w)
section
variable {P : Program} {f : FuncId} {args : Array Value} {F0 : Nat → Prop} {w0 w : World} {Rs : List Res} {A B : Res} {X Y : RX}
theorem SpecX.of_spec {Q : Value → Res → List Res → Prop} (h : Spec P f args A Q) : SpecX P f args X A Q := fun F w hA _ => h F w hA
theorem SpecX.pure {v : Value} (h : ∀ w, Calls P f args w fun e w' => e = .returned v ∧ w = w') : SpecX P f args X EmpR (fun v' A' N => v' = v ∧ A' = EmpR ∧ N = []) := by
  intro F w hA _
  refine (h w).mono ?_
  rintro e w' ⟨rfl, rfl⟩
  exact ⟨v, EmpR, [], rfl, ⟨rfl, rfl, rfl⟩, Fr.refl _ _, fun _ => False, fun k h => h, fun k h => h.elim, trivial⟩
def Src (F0 : Nat → Prop) (w0 : World) (Rs : List Res) (w : World) (i : Nat) (X : RX) : Prop :=
  ∀ A G, Rs[i]? = some A → A.P w G → (∀ k, G k → F0 k ∨ w0.heap.size ≤ k) → Sep (Rs.eraseIdx i) w (fun k => (F0 k ∨ w0.heap.size ≤ k) ∧ ¬ G k) → X.reads w G
theorem Src.triv (i : Nat) : Src F0 w0 Rs w i .triv := fun _ _ _ _ _ _ => RX.reads_triv _ _
theorem Src.and {i : Nat} (h : Src F0 w0 Rs w i X) (k : Src F0 w0 Rs w i Y) : Src F0 w0 Rs w i (X.and Y) := fun A G h1 h2 h3 h4 => RX.reads_and (h A G h1 h2 h3 h4) (k A G h1 h2 h3 h4)
theorem RX.reads_later (h : St F0 w0 Rs w) (hX : X.reads w0 F0) : ∃ S, X.P w S ∧ ∀ k, S k → ¬ F0 k ∧ k < w0.heap.size := by
  obtain ⟨S, h1, h2⟩ := hX
  exact ⟨S, X.move h1 (fun k hk => h.fr.block k (h2 k hk).2 (h2 k hk).1), h2⟩
theorem Src.old {i : Nat} (h : St F0 w0 Rs w) (hX : X.reads w0 F0) : Src F0 w0 Rs w i X := by
  intro A G _ _ h3 _
  obtain ⟨S, h1, h2⟩ := RX.reads_later h hX
  refine ⟨S, h1, fun k hk => ⟨fun hg => ?_, Nat.lt_of_lt_of_le (h2 k hk).2 h.fr.size⟩⟩
  rcases h3 k hg with h4 | h4
  · exact (h2 k hk).1 h4
  · have := (h2 k hk).2; omega
theorem Src.res {i : Nat} (j : Nat) (hj : (Rs.eraseIdx i)[j]? = some B) (hB : ∀ w G, B.P w G → X.P w G) : Src F0 w0 Rs w i X := by
  intro A G _ _ _ h4
  obtain ⟨G2, k1, k2, _⟩ := Sep.pick j hj h4
  exact ⟨G2, hB w G2 k1, fun k hk => ⟨(k2 k hk).2, B.lt k1 k hk⟩⟩
theorem SrcE.old (h : St F0 w0 Rs w) (hX : X.reads w0 F0) : X.reads w (fun _ => False) := by
  obtain ⟨S, h1, h2⟩ := RX.reads_later h hX
  exact ⟨S, h1, fun k hk => ⟨fun h => h, Nat.lt_of_lt_of_le (h2 k hk).2 h.fr.size⟩⟩
theorem SrcE.res (j : Nat) (h : St F0 w0 Rs w) (hj : Rs[j]? = some B) (hB : ∀ w G, B.P w G → X.P w G) : X.reads w (fun _ => False) := by
  obtain ⟨G, h1, _⟩ := h.get j hj
  exact ⟨G, hB w G h1, fun k hk => ⟨fun h => h, B.lt h1 k hk⟩⟩
theorem St.callX {Q : Value → Res → List Res → Prop} (i : Nat) (h : St F0 w0 Rs w) (hi : Rs[i]? = some A) (hs : SpecX P f args X A Q) (hr : Src F0 w0 Rs w i X) :
    Calls P f args w fun e w' => ∃ v A' Ns, e = .returned v ∧ Q v A' Ns ∧ St F0 w0 (Ns ++ Rs.set i A') w' := by
  obtain ⟨G, h1, h2, h3⟩ := Sep.pick i hi h.sep
  refine (hs G w h1 (hr A G hi h1 h2 h3)).mono ?_
  rintro e w' ⟨v, A', Ns, rfl, hq, hst⟩
  refine ⟨v, A', Ns, rfl, hq, ?_⟩
  obtain ⟨f2, G2, k1, k2, k3⟩ := hst
  have f := h.fr
  refine ⟨f.trans f2 h2, ?_⟩
  have hle := f.size
  have hR : Sep (Rs.eraseIdx i) w' (fun k => ((F0 k ∨ w0.heap.size ≤ k) ∧ ¬ G k) ∧ k < w.heap.size) := h3.inside.move (fun k hk _ => f2.block k hk.2 hk.1.2)
  refine Sep.append k3 (F := fun k => F0 k ∨ w0.heap.size ≤ k) (Sep.back i hi k1 (fun k hk => ⟨?_, fun hn => hn.2 hk⟩) (hR.mono (fun k hk => ⟨⟨hk.1.1, ?_⟩, ?_⟩))) ?_
  · rcases k2 k hk with h4 | h4
    · exact h2 k h4
    · exact .inr (by omega)
  · rintro ⟨h4 | h4, _⟩
    · exact hk.1.2 h4
    · have := hk.2; omega
  · intro h4
    rcases k2 k h4 with h5 | h5
    · exact hk.1.2 h5
    · have := hk.2; omega
  · rintro k ⟨h4 | h4, _⟩
    · exact h2 k h4
    · exact .inr (by omega)
theorem St.emp (h : St F0 w0 Rs w) : St F0 w0 (EmpR :: Rs) w := h.grow (Ns := [EmpR]) (Fr.refl _ _) ⟨fun _ => False, fun _ h => h, fun _ h => h.elim, trivial⟩
theorem St.callE {Q : Value → Res → List Res → Prop} (h : St F0 w0 Rs w) (hs : SpecX P f args X EmpR Q) (hr : X.reads w (fun _ => False)) :
    Calls P f args w fun e w' => ∃ v A' Ns, e = .returned v ∧ Q v A' Ns ∧ St F0 w0 (Ns ++ Rs) w' := by
  have h' : St F0 w0 (EmpR :: Rs) w := h.emp
  refine (h'.callX 0 rfl hs ?_).mono ?_
  · intro A G hA hG _ _
    have e : EmpR = A := by simpa using hA
    subst e
    exact RX.reads_weaken hr (fun k _ hk => (hG k hk).elim)
  · rintro e w' ⟨v, A', Ns, rfl, hq, hst⟩
    refine ⟨v, A', Ns, rfl, hq, ?_⟩
    have := hst.del Ns.length (A := A') (by simp)
    rwa [List.eraseIdx_append_of_length_le (Nat.le_refl _), Nat.sub_self] at this
theorem guard_some {α : Type} {c : Prop} [Decidable c] {T : Option α} {r : α} (h : (if c then T else none) = some r) : c ∧ T = some r := by
  by_cases hc : c
  · rw [if_pos hc] at h; exact ⟨hc, h⟩
  · rw [if_neg hc] at h; cases h
theorem SpecX.start (h : A.P w F0) : St F0 w [A] w := St.start F0 w (Sep.one h)
end
def resv (tmps : Array Value) : ResultVar → Sem Value
  | .tmp t => pure (tmps.getD t undef)
  | .cell a t => do loadVar t (← asAddr (tmps.getD a undef))
section
variable {P : Program} {fn : Func} {tmps : Array Value} {w : World} {r1 r2 r3 : ResultVar} {v1 v2 v3 : Value}
theorem results_eq (fn : Func) (tmps : Array Value) : results fn tmps = (do let vs ← fn.results.mapM (resv tmps); pure (if h : vs.size = 1 then vs[0] else .tuple vs)) := by
  unfold results
  rfl
end
end Go.Proofs.Ytpiiopppbgpbpaa.Sl
namespace Go.Proofs.Ytpiiopppbgpbpaa.Sl
open Go.RowKit
set_option linter.unusedVariables false
set_option linter.unusedSimpArgs false
structure I where
  rest : List UInt8
  pos : Nat
  err : Int
def bsOf (l : List UInt8) : ByteArray := ⟨l.toArray⟩
theorem bsOf_size (l : List UInt8) : (bsOf l).size = l.length := by simp [bsOf, ByteArray.size]
theorem bsOf_list (l : List UInt8) : (bsOf l).data.toList = l := by simp [bsOf]
theorem bsOf_toList (l : List UInt8) : (bsOf l).toList = l := ByteArray.toList_mk l
theorem str_extract (s : ByteArray) (a b : Nat) : s.extract a b = bsOf ((s.data.toList.drop a).take (b - a)) := by
  apply ByteArray.ext
  apply Array.ext'
  simp [bsOf, ByteArray.data_extract, List.extract_eq_take_drop]
def InR (b : Nat) (st : I) : Res where
  P := fun w G => ∃ s : ByteArray, w.heap[b]? = some (.cells #[.string s, .int .i64 st.pos, .int .i64 st.err] 130 (0, 0)) ∧ st.pos + st.rest.length = s.size ∧ s.size ≤ 9223372036854775807 ∧ s.data.toList.drop st.pos = st.rest ∧ ∀ k, G k ↔ k = b
  lt := by
    rintro w G ⟨s, h1, _, _, _, h3⟩ k hk
    rw [(h3 k).1 hk]
    exact heap_lt h1
  move := by
    rintro w w' G ⟨s, h1, h2, h3, h4, h5⟩ hm
    exact ⟨s, (hm _ ((h5 _).2 rfl)).trans h1, h2, h3, h4, h5⟩
theorem InR.kept {b : Nat} {st : I} {w w' : World} {F : Nat → Prop} (h : (InR b st).P w F) (n : Nat) (hw : w' = w.drewN n) : St F w [InR b st] w' := by
  subst hw
  exact (St.start F w (Sep.one h)).drewN n
theorem InR.err {b : Nat} {st : I} {w : World} {F0 : Nat → Prop} {w0 : World} {Rs : List Res} (i : Nat) (h : St F0 w0 Rs w) (hi : Rs[i]? = some (InR b st)) :
    w.cell? ⟨b, 2, none⟩ = some (.int .i64 st.err) ∧ w.cell? ⟨b, 1, none⟩ = some (.int .i64 st.pos) := by
  obtain ⟨G, ⟨s, h1, _⟩, _⟩ := h.get i hi
  exact ⟨(heap_at h1 2).trans rfl, (heap_at h1 1).trans rfl⟩
theorem InR.len {b : Nat} {st : I} {w : World} {F0 : Nat → Prop} {w0 : World} {Rs : List Res} (i : Nat) (h : St F0 w0 Rs w) (hi : Rs[i]? = some (InR b st)) : st.rest.length ≤ 9223372036854775807 := by
  obtain ⟨G, ⟨s, h1, h2, h3, _⟩, _⟩ := h.get i hi
  omega
end Go.Proofs.Ytpiiopppbgpbpaa.Sl
namespace Go.Proofs.Ytpiiopppbgpbpaa.Sl
open Go.RowKit
set_option linter.unusedVariables false
set_option linter.unusedSimpArgs false
def vput (n : Nat) : List UInt8 := if n < 128 then [UInt8.ofNat n] else UInt8.ofNat (n % 128 + 128) :: vput (n / 128)
termination_by n
decreasing_by omega
def vfold (n : Int) : Nat := if n < 0 then (-(n + 1)).toNat * 2 + 1 else n.toNat * 2
theorem vput_length (k : Nat) : ∀ n : Nat, n < 128 ^ (k + 1) → (vput n).length ≤ k + 1 := by
  induction k with
  | zero => intro n h; rw [vput, if_pos (by simpa using h)]; simp
  | succ k ih =>
    intro n h
    rw [vput]
    split
    · simp
    · have := ih (n / 128) (by rw [Nat.div_lt_iff_lt_mul (by decide)]; rwa [Nat.pow_succ] at h)
      simp; omega
theorem vput_pos (n : Nat) : 1 ≤ (vput n).length := by rw [vput]; split <;> simp
theorem vput_ten (n : Nat) (h : n < 18446744073709551616) : (vput n).length ≤ 10 := vput_length 9 n (by omega)
theorem vfold_lt (n : Int) (h0 : -9223372036854775808 ≤ n) (h1 : n ≤ 9223372036854775807) : vfold n < 18446744073709551616 := by unfold vfold; split <;> omega
theorem fold_eq (n : Int) (h0 : -9223372036854775808 ≤ n) (h1 : n ≤ 9223372036854775807) :
    bits .xor .u64 (IntKind.u64.wrap (wrap64 (n * 2))) (IntKind.u64.wrap (n / 9223372036854775808)) = (vfold n : Int) := by
  have e1 : IntKind.u64.wrap (wrap64 (n * 2)) = (n * 2) % 18446744073709551616 := by rw [IntKind.wrap_u64]; unfold wrap64; omega
  rw [e1]
  show IntKind.u64.wrap ((BitVec.ofInt 64 _ ^^^ BitVec.ofInt 64 _).toNat : Int) = _
  rcases Int.lt_or_le n 0 with h | h
  · have e2 : IntKind.u64.wrap (n / 9223372036854775808) = 18446744073709551615 := by rw [IntKind.wrap_u64]; omega
    rw [e2, show BitVec.ofInt 64 18446744073709551615 = BitVec.allOnes 64 by decide, BitVec.xor_allOnes, BitVec.toNat_not, BitVec.toNat_ofInt, IntKind.wrap_u64]
    simp only [vfold, if_pos h]
    omega
  · have e2 : IntKind.u64.wrap (n / 9223372036854775808) = 0 := by rw [IntKind.wrap_u64]; omega
    rw [e2, show BitVec.ofInt 64 0 = 0#64 by decide, BitVec.xor_zero, BitVec.toNat_ofInt, IntKind.wrap_u64]
    simp only [vfold, if_neg (show ¬ n < 0 by omega)]
    omega
set_option maxRecDepth 100000 in
theorem or_128_ : ∀ x : Fin 256, bits .or .u8 ((x.val : Nat) : Int) 128 = ((x.val % 128 + 128 : Nat) : Int) := by decide
theorem or_128 (x : Nat) (h : x < 256) : bits .or .u8 (x : Int) 128 = ((x % 128 + 128 : Nat) : Int) := or_128_ ⟨x, h⟩
set_option maxRecDepth 100000 in
theorem VFold_any (n : Int) (h0 : -9223372036854775808 ≤ n) (h1 : n ≤ 9223372036854775807) (w : World) :
    Calls Try.prog 89 #[.int .i64 n] w fun e w' => e = .returned (.int .u64 (vfold n)) ∧ w = w' := by
  have H := Lib.hid (fold_eq n h0 h1)
  go_enter Try.func89, Try.ntmps89
  go_wp2_with fail
  go_ret
  exact ⟨ret_int H.out, rfl⟩
set_option maxRecDepth 100000 in
theorem VPut_spec (b : Nat) (st : List UInt8 × Int) (n : Nat) (hn : n < 18446744073709551616) (hl : st.1.length + 10 ≤ 140737488355328) :
    Spec Try.prog 88 #[.pointer (some ⟨b, 0, none⟩), .int .u64 n] (OutR b st) (fun v A' N => v = .tuple #[] ∧ A' = OutR b (oput st (vput n)) ∧ N = []) := by
  intro F w hA
  have HA := Lib.hid (St.start F w (Sep.one hA))
  clear hA
  have HT := Lib.hid (vput_ten n hn)
  go_enter Try.func88, Try.ntmps88
  go_wp2_with fail
  go_loopw [1] (fun i wr => ∃ (m : Nat) (p : List UInt8), m ≤ n ∧ p ++ vput m = vput n ∧ i = .int .u64 m ∧ St F w [OutR b (oput st p)] wr) (fun i _ => (intOf i).toNat)
  case atStart => exact ⟨n, [], Nat.le_refl _, rfl, rfl, by rw [oput_nil]; exact HA.out⟩
  case round =>
    obtain ⟨m, p, hm, hp, rfl, hst⟩ := hrel
    have hlen : (oput st p).1.length + 1 ≤ 140737488355328 := by
      have h1 := oput_len st p
      have h2 := HT.out
      have h3 := vput_pos m
      rw [← hp, List.length_append] at h2
      omega
    have HS := Lib.hid hst
    clear hst
    by_cases hlt : 128 ≤ m
    · have ho := or_128 (m % 256) (by omega)
      have e1 : (m : Int) % 256 = ((m % 256 : Nat) : Int) := by omega
      rw [← e1] at ho
      have e2 : m % 256 % 128 = m % 128 := by omega
      rw [e2] at ho
      have HO := Lib.hid ho
      have HP := Lib.hid (show p ++ [UInt8.ofNat (m % 128 + 128)] ++ vput (m / 128) = vput n by rw [← hp, vput.eq_1 m, if_neg (by omega)]; simp)
      clear hp ho e1 e2
      go_wp2_with fail
      rw [HO.out]
      refine (HS.out.call 0 rfl (ByteI_spec b _ ((m % 128 + 128 : Nat) : Int) (by omega) (by omega) hlen)).mono ?_
      rintro e w1 ⟨v, A', N, rfl, ⟨rfl, rfl, rfl⟩, H1⟩
      rw [oput_oput, Int.toNat_natCast] at H1
      have HS1 := Lib.hid H1
      clear H1
      go_wp2_with fail
      go_roundw
      case rel => exact ⟨m / 128, _, by omega, HP.out, by go_num, HS1.out⟩
      case measure => simp [intOf]; omega
    · have e1 : (m : Int) % 256 = ((m : Nat) : Int) := by omega
      have HO := Lib.hid e1
      have HP := Lib.hid (show p ++ [UInt8.ofNat m] = vput n by rw [← hp, vput.eq_1 m, if_pos (by omega)])
      clear hp e1
      go_wp2_with fail
      refine (HS.out.call 0 rfl (ByteI_spec b _ (m : Int) (by omega) (by omega) hlen)).mono ?_
      rintro e w1 ⟨v, A', N, rfl, ⟨rfl, rfl, rfl⟩, H1⟩
      rw [oput_oput, Int.toNat_natCast, HP.out] at H1
      have HS1 := Lib.hid H1
      clear H1
      go_wp2_with fail
      go_end0
      exact ⟨_, _, _, rfl, ⟨rfl, rfl, rfl⟩, HS1.out⟩
def vputInt (st : List UInt8 × Int) (n : Int) : List UInt8 × Int := if -2147483648 ≤ n ∧ n ≤ 2147483647 then oput st (vput (vfold n)) else ofail st 11
theorem fits_4 (n : Int) : fits n 4 = decide (-2147483648 ≤ n ∧ n ≤ 2147483647) := by
  have h1 : (2 ^ (8 * (4 : Int).toNat - 1) : Int) = 2147483648 := by decide
  unfold fits
  rw [h1, Bool.eq_iff_iff]
  simp
set_option maxRecDepth 100000 in
theorem VPutInt_spec (b : Nat) (st : List UInt8 × Int) (n : Int) (h0 : -9223372036854775808 ≤ n) (h1 : n ≤ 9223372036854775807) (hl : st.1.length + 10 ≤ 140737488355328) :
    Spec Try.prog 84 #[.pointer (some ⟨b, 0, none⟩), .int .i64 n] (OutR b st) (fun v A' N => v = .tuple #[] ∧ A' = OutR b (vputInt st n) ∧ N = []) := by
  intro F w hA
  have HA := Lib.hid (St.start F w (Sep.one hA))
  clear hA
  by_cases hf : -2147483648 ≤ n ∧ n ≤ 2147483647
  · have HF := Lib.hid (show fits n 4 = true by rw [fits_4]; simp [hf])
    have HE := Lib.hid (show vputInt st n = oput st (vput (vfold n)) by simp [vputInt, hf])
    go_enter Try.func84, Try.ntmps84
    go_wp2_with fail
    refine (Fits_any n 4 w h0 h1).mono ?_
    rintro e w' ⟨rfl, rfl⟩
    rw [HF.out]
    go_wp2_with fail
    refine (VFold_any n h0 h1 w).mono ?_
    rintro e w' ⟨rfl, rfl⟩
    go_wp2_with fail
    refine (HA.out.call 0 rfl (VPut_spec b _ (vfold n) (vfold_lt n h0 h1) hl)).mono ?_
    rintro e w1 ⟨v, A', N, rfl, ⟨rfl, rfl, rfl⟩, H1⟩
    have HS1 := Lib.hid H1
    clear H1
    go_wp2_with fail
    go_end0
    exact ⟨_, _, _, rfl, ⟨rfl, by rw [HE.out], rfl⟩, HS1.out⟩
  · have HF := Lib.hid (show fits n 4 = false by rw [fits_4]; simp; omega)
    have HE := Lib.hid (show vputInt st n = ofail st 11 by simp [vputInt, hf])
    clear hf
    go_enter Try.func84, Try.ntmps84
    go_wp2_with fail
    refine (Fits_any n 4 w h0 h1).mono ?_
    rintro e w' ⟨rfl, rfl⟩
    rw [HF.out]
    go_wp2_with fail
    refine (HA.out.call 0 rfl (Fail_spec b st 11)).mono ?_
    rintro e w1 ⟨v, A', N, rfl, ⟨rfl, rfl, rfl⟩, H1⟩
    have HS1 := Lib.hid H1
    clear H1
    go_wp2_with fail
    go_end0
    exact ⟨_, _, _, rfl, ⟨rfl, by rw [HE.out], rfl⟩, HS1.out⟩
end Go.Proofs.Ytpiiopppbgpbpaa.Sl
namespace Go.Proofs.Ytpiiopppbgpbpaa.Sl
open Go.RowKit
set_option linter.unusedVariables false
set_option linter.unusedSimpArgs false
attribute [local go_sem] bsOf_toList bsOf_size
structure Bl where
  null : Bool
  data : List UInt8
@[go_sem] def blV (b : Bl) : Value := .agg #[.bool b.null, .string (bsOf b.data)]
theorem infoBl : (Try.prog.info? 70).map (·.size) = some 2 := by kernel_rfl
set_option maxRecDepth 100000 in
theorem BOf_spec (l : List UInt8) : Spec0 Try.prog 46 #[.string (bsOf l)] (fun v N => v = blV ⟨false, l⟩ ∧ N = []) := by
  intro w
  have HS := Lib.hid (St.nil_ w)
  go_enter Try.func46, Try.ntmps46
  go_wp2_with fail
  refine bodyPost_ret (v := blV ⟨false, l⟩) (results_cell_row (by rfl) _ _ w.heap.size 70 #[.bool false, .string (bsOf l)] (0, 0) _ rfl (heap_alloc_new w _) Try.underlying70 rfl infoBl) rfl ?_
  exact ⟨_, _, rfl, ⟨rfl, rfl⟩, (HS.out.alloc _ _).drop_⟩
def bright (b : Bl) : Bool := !b.null || b.data.isEmpty
set_option maxRecDepth 100000 in
theorem BRight_spec (b : Bl) : Spec0 Try.prog 81 #[blV b] (fun v N => v = .bool (bright b) ∧ N = []) := by
  intro w
  have HS := Lib.hid (St.nil_ w)
  obtain ⟨n, l⟩ := b
  have HB := Lib.hid (show (l == []) = l.isEmpty by cases l <;> rfl)
  cases n
  · go_enter Try.func81, Try.ntmps81
    go_wp2_with fail
    go_ret
    exact ⟨_, _, rfl, ⟨rfl, rfl⟩, (HS.out.alloc _ _).drop_⟩
  · go_enter Try.func81, Try.ntmps81
    go_wp2_with fail
    go_ret
    exact ⟨_, _, rfl, ⟨congrArg Value.bool (by simp [bright]), rfl⟩, (HS.out.alloc _ _).drop_⟩
def blen (b : Bl) : Int := if b.null then -1 else b.data.length
set_option maxRecDepth 100000 in
theorem BLen_spec (b : Bl) : Spec0 Try.prog 82 #[blV b] (fun v N => v = .int .i64 (blen b) ∧ N = []) := by
  intro w
  have HS := Lib.hid (St.nil_ w)
  obtain ⟨n, l⟩ := b
  cases n
  all_goals
    go_enter Try.func82, Try.ntmps82
    go_wp2_with fail
    go_ret
    exact ⟨_, _, rfl, ⟨rfl, rfl⟩, (HS.out.alloc _ _).drop_⟩
theorem blen_range (b : Bl) (h : b.data.length ≤ 9223372036854775807) : -9223372036854775808 ≤ blen b ∧ blen b ≤ 9223372036854775807 := by unfold blen; split <;> omega
def bwrite (st : List UInt8 × Int) (b : Bl) : List UInt8 × Int := if bright b then oput st b.data else ofail st 4
def bputVaried (st : List UInt8 × Int) (b : Bl) : List UInt8 × Int := bwrite (vputInt st (blen b)) b
set_option maxRecDepth 100000 in
theorem BWrite_spec (g : Nat) (st : List UInt8 × Int) (b : Bl) (hl : st.1.length + b.data.length ≤ 140737488355328) :
    Spec Try.prog 83 #[.pointer (some ⟨g, 0, none⟩), blV b] (OutR g st) (fun v A' N => v = .tuple #[] ∧ A' = OutR g (bwrite st b) ∧ N = []) := by
  intro F w hA
  have HA := Lib.hid (St.start F w (Sep.one hA))
  clear hA
  have HB := Lib.hid (HA.out.alloc #[.bool b.null, .string (bsOf b.data)] 70)
  by_cases hr : bright b = true
  · have HQ := Lib.hid (show bwrite st b = oput st b.data by simp [bwrite, hr])
    have HR := Lib.hid hr
    clear hr
    go_enter Try.func83, Try.ntmps83
    go_wp2_with fail
    refine (St.call0 HB.out (BRight_spec b)).mono ?_
    rintro e w2 ⟨v, N, rfl, ⟨rfl, rfl⟩, H2⟩
    rw [HR.out]
    have d0 : w2.cell? ⟨w.heap.size, 0, none⟩ = some (.bool b.null) := heap_at (St.blk 0 H2 rfl) 0
    have d1 : w2.cell? ⟨w.heap.size, 1, none⟩ = some (.string (bsOf b.data)) := heap_at (St.blk 0 H2 rfl) 1
    have HD := Lib.hid H2
    clear H2
    go_wp2_with fail
    refine (St.call 1 HD.out rfl (Put_spec g st (bsOf b.data) (by rw [bsOf_size]; exact hl))).mono ?_
    rintro e w3 ⟨v, A', N, rfl, ⟨rfl, rfl, rfl⟩, H3⟩
    rw [bsOf_list] at H3
    have HE := Lib.hid H3
    clear H3
    go_wp2_with fail
    go_end0
    exact ⟨_, _, _, rfl, ⟨rfl, by rw [HQ.out], rfl⟩, HE.out.drop_⟩
  · have HQ := Lib.hid (show bwrite st b = ofail st 4 by simp [bwrite, hr])
    have HR := Lib.hid (show bright b = false by simpa using hr)
    clear hr
    go_enter Try.func83, Try.ntmps83
    go_wp2_with fail
    refine (St.call0 HB.out (BRight_spec b)).mono ?_
    rintro e w2 ⟨v, N, rfl, ⟨rfl, rfl⟩, H2⟩
    rw [HR.out]
    have HD := Lib.hid H2
    clear H2
    go_wp2_with fail
    refine (St.call 1 (HD).out rfl (Fail_spec g st 4)).mono ?_
    rintro e w1 ⟨v, A', N, rfl, ⟨rfl, rfl, rfl⟩, H1⟩
    try simp only [List.cons_append, List.nil_append, List.set_cons_zero, List.set_cons_succ, bsOf_list] at H1
    have HE := Lib.hid H1
    clear H1
    go_wp2_with fail
    go_end0
    exact ⟨_, _, _, rfl, ⟨rfl, by rw [HQ.out], rfl⟩, HE.out.drop_⟩
theorem vputInt_len (st : List UInt8 × Int) (n : Int) : (vputInt st n).1.length ≤ st.1.length + 10 := by
  unfold vputInt
  split
  · rename_i h
    have h1 := oput_len st (vput (vfold n))
    have h2 := vput_ten (vfold n) (vfold_lt n (by omega) (by omega))
    omega
  · unfold ofail; split <;> simp
set_option maxRecDepth 100000 in
theorem BPutVaried_spec (g : Nat) (st : List UInt8 × Int) (b : Bl) (hl : st.1.length + 10 + b.data.length ≤ 140737488355328) :
    Spec Try.prog 41 #[.pointer (some ⟨g, 0, none⟩), blV b] (OutR g st) (fun v A' N => v = .tuple #[] ∧ A' = OutR g (bputVaried st b) ∧ N = []) := by
  intro F w hA
  have HA := Lib.hid (St.start F w (Sep.one hA))
  clear hA
  have HB := Lib.hid (HA.out.alloc #[.bool b.null, .string (bsOf b.data)] 70)
  have hbl := blen_range b (by omega)
  have hb1 := hbl.1
  have hb2 := hbl.2
  clear hbl
  go_enter Try.func41, Try.ntmps41
  go_wp2_with fail
  refine (St.call0 HB.out (BLen_spec b)).mono ?_
  rintro e w2 ⟨v, N, rfl, ⟨rfl, rfl⟩, H2⟩
  have HC := Lib.hid H2
  clear H2
  go_wp2_with fail
  refine (St.call 1 HC.out rfl (VPutInt_spec g st (blen b) hb1 hb2 (by omega))).mono ?_
  rintro e w3 ⟨v, A', N, rfl, ⟨rfl, rfl, rfl⟩, H3⟩
  have d0 : w3.cell? ⟨w.heap.size, 0, none⟩ = some (.bool b.null) := heap_at (St.blk 0 H3 rfl) 0
  have d1 : w3.cell? ⟨w.heap.size, 1, none⟩ = some (.string (bsOf b.data)) := heap_at (St.blk 0 H3 rfl) 1
  have HD := Lib.hid H3
  clear H3
  go_wp2_with fail
  refine (St.call 1 HD.out rfl (BWrite_spec g _ b (by have := vputInt_len st (blen b); omega))).mono ?_
  rintro e w4 ⟨v, A', N, rfl, ⟨rfl, rfl, rfl⟩, H4⟩
  have HE := Lib.hid H4
  clear H4
  go_wp2_with fail
  go_end0
  exact ⟨_, _, _, rfl, ⟨rfl, rfl, rfl⟩, HE.out.drop_⟩
def bputName (st : List UInt8 × Int) (l : List UInt8) : List UInt8 × Int := bputVaried st ⟨false, l⟩
set_option maxRecDepth 100000 in
theorem BPutName_spec (g : Nat) (st : List UInt8 × Int) (l : List UInt8) (hl : st.1.length + 10 + l.length ≤ 140737488355328) :
    Spec Try.prog 43 #[.pointer (some ⟨g, 0, none⟩), .string (bsOf l)] (OutR g st) (fun v A' N => v = .tuple #[] ∧ A' = OutR g (bputName st l) ∧ N = []) := by
  intro F w hA
  have HA := Lib.hid (St.start F w (Sep.one hA))
  clear hA
  go_enter Try.func43, Try.ntmps43
  go_wp2_with fail
  refine (St.call0 (HA).out (BOf_spec l)).mono ?_
  rintro e w1 ⟨v, N, rfl, ⟨rfl, rfl⟩, H1⟩
  try simp only [List.cons_append, List.nil_append, List.set_cons_zero, List.set_cons_succ, bsOf_list] at H1
  have HB := Lib.hid H1
  clear H1
  go_wp2_with fail
  refine (St.call 0 (HB).out rfl (BPutVaried_spec g st ⟨false, l⟩ hl)).mono ?_
  rintro e w1 ⟨v, A', N, rfl, ⟨rfl, rfl, rfl⟩, H1⟩
  try simp only [List.cons_append, List.nil_append, List.set_cons_zero, List.set_cons_succ, bsOf_list] at H1
  have HC := Lib.hid H1
  clear H1
  go_wp2_with fail
  go_end0
  exact ⟨_, _, _, rfl, ⟨rfl, rfl, rfl⟩, HC.out⟩
end Go.Proofs.Ytpiiopppbgpbpaa.Sl
namespace Go.Proofs.Ytpiiopppbgpbpaa.Sl
open Go.RowKit
set_option linter.unusedVariables false
set_option linter.unusedSimpArgs false
attribute [local go_sem] bsOf_toList bsOf_size
@[go_sem] def strErr (x : List UInt8 × Int) : Value := .tuple #[.string (bsOf x.1), .int .i64 x.2]
def otx (st : List UInt8 × Int) : List UInt8 × Int := if st.2 = 0 then (st.1, 0) else ([], st.2)
theorem otext_strErr (st : List UInt8 × Int) : otext st = strErr (otx st) := by unfold otext otx; split <;> rfl
end Go.Proofs.Ytpiiopppbgpbpaa.Sl
namespace Go.Proofs.Ytpiiopppbgpbpaa.Sl
open Go.RowKit
set_option linter.unusedVariables false
set_option linter.unusedSimpArgs false
theorem OTextT_spec (b : Nat) (st : List UInt8 × Int) : Spec Try.prog 24 #[.pointer (some ⟨b, 0, none⟩)] (OutR b st) (fun v A' N => v = .tuple #[.string (bsOf (otx st).1), .int .i64 (otx st).2] ∧ A' = OutR b st ∧ N = []) := by
  have h := Text_spec b st
  rwa [otext_strErr] at h
def gOText (st : List UInt8 × Int)  : Option (List UInt8 × Int × (List UInt8 × Int)) := some ((otx st).1, (otx st).2, st)
theorem gOText_eq (st : List UInt8 × Int)  : gOText st  = some ((otx st).1, (otx st).2, st) := rfl
theorem gOText_spec (g : Nat) (st : List UInt8 × Int)  (r : List UInt8 × Int × (List UInt8 × Int)) (h : gOText st  = some r) : SpecX Try.prog 24 #[.pointer (some ⟨g, 0, none⟩)] .triv (OutR g st) (fun v A' N => v = .tuple #[.string (bsOf r.1), .int .i64 r.2.1] ∧ A' = OutR g r.2.2 ∧ N = []) := by
  unfold gOText at h
  obtain rfl := Option.some.inj h
  exact SpecX.of_spec (OTextT_spec g st)
def gPutInt (st : List UInt8 × Int) (n : Int) : Option (List UInt8 × Int) := if (-9223372036854775808 ≤ n ∧ n ≤ 9223372036854775807) ∧ st.1.length + 10 ≤ 140737488355328 then some (vputInt st n) else none
theorem gPutInt_eq (st : List UInt8 × Int) (n : Int) (h : (-9223372036854775808 ≤ n ∧ n ≤ 9223372036854775807) ∧ st.1.length + 10 ≤ 140737488355328) : gPutInt st n = some (vputInt st n) := if_pos h
theorem gPutInt_spec (g : Nat) (st : List UInt8 × Int) (n : Int) (r : List UInt8 × Int) (h : gPutInt st n = some r) : SpecX Try.prog 84 #[.pointer (some ⟨g, 0, none⟩), .int .i64 n] .triv (OutR g st) (fun v A' N => v = .tuple #[] ∧ A' = OutR g r ∧ N = []) := by
  unfold gPutInt at h
  split at h
  · rename_i h1
    obtain rfl := Option.some.inj h
    exact SpecX.of_spec (VPutInt_spec g st n h1.1.1 h1.1.2 h1.2)
  · simp at h
def gPutVaried (st : List UInt8 × Int) (b : Bl) : Option (List UInt8 × Int) := if st.1.length + 10 + b.data.length ≤ 140737488355328 then some (bputVaried st b) else none
theorem gPutVaried_eq (st : List UInt8 × Int) (b : Bl) (h : st.1.length + 10 + b.data.length ≤ 140737488355328) : gPutVaried st b = some (bputVaried st b) := if_pos h
theorem gPutVaried_spec (g : Nat) (st : List UInt8 × Int) (b : Bl) (r : List UInt8 × Int) (h : gPutVaried st b = some r) : SpecX Try.prog 41 #[.pointer (some ⟨g, 0, none⟩), .agg #[.bool b.null, .string (bsOf b.data)]] .triv (OutR g st) (fun v A' N => v = .tuple #[] ∧ A' = OutR g r ∧ N = []) := by
  unfold gPutVaried at h
  split at h
  · rename_i h1
    obtain rfl := Option.some.inj h
    exact SpecX.of_spec (BPutVaried_spec g st b h1)
  · simp at h
def gPutName (st : List UInt8 × Int) (s : List UInt8) : Option (List UInt8 × Int) := if st.1.length + 10 + s.length ≤ 140737488355328 then some (bputName st s) else none
theorem gPutName_eq (st : List UInt8 × Int) (s : List UInt8) (h : st.1.length + 10 + s.length ≤ 140737488355328) : gPutName st s = some (bputName st s) := if_pos h
theorem gPutName_spec (g : Nat) (st : List UInt8 × Int) (s : List UInt8) (r : List UInt8 × Int) (h : gPutName st s = some r) : SpecX Try.prog 43 #[.pointer (some ⟨g, 0, none⟩), .string (bsOf s)] .triv (OutR g st) (fun v A' N => v = .tuple #[] ∧ A' = OutR g r ∧ N = []) := by
  unfold gPutName at h
  split at h
  · rename_i h1
    obtain rfl := Option.some.inj h
    exact SpecX.of_spec (BPutName_spec g st s h1)
  · simp at h
end Go.Proofs.Ytpiiopppbgpbpaa.Sl
namespace Go.Proofs.Ytpiiopppbgpbpaa.Sl
open Go.RowKit
set_option linter.unusedVariables false
inductive Lp (R S : Type) where
  | ret (r : R)
  | go (s : S)
section
variable {α : Type}
def elems (size : Nat) (E : Rd α) (w : World) (S : Nat → Prop) : List Value → List α → Prop
  | cs, [] => cs = []
  | cs, x :: xs => (cs.take size).length = size ∧ E.P w S (cs.take size) x ∧ elems size E w S (cs.drop size) xs
variable {size : Nat} {E : Rd α} {w w' : World} {S S' : Nat → Prop}
theorem elems_move : ∀ {xs : List α} {cs : List Value}, elems size E w S cs xs → (∀ k, S k → w'.heap[k]? = w.heap[k]?) → elems size E w' S cs xs
  | [], _, h, _ => h
  | _ :: _, _, ⟨h0, h1, h2⟩, k => ⟨h0, E.move h1 k, elems_move h2 k⟩
theorem elems_length : ∀ {xs : List α} {cs : List Value}, elems size E w S cs xs → cs.length = xs.length * size
  | [], cs, h => by simp [show cs = [] from h]
  | x :: xs, cs, ⟨h0, _, h2⟩ => by
    have h3 := elems_length h2
    rw [List.length_take] at h0
    rw [List.length_drop] at h3
    rw [List.length_cons, Nat.add_mul, Nat.one_mul]
    omega
theorem elems_get : ∀ {xs : List α} {cs : List Value} {i : Nat} {x : α}, elems size E w S cs xs → xs[i]? = some x → ((cs.drop (i * size)).take size).length = size ∧ E.P w S ((cs.drop (i * size)).take size) x
  | [], _, i, _, _, hi => by simp at hi
  | y :: ys, cs, 0, x, ⟨h0, h1, _⟩, hi => by
    obtain rfl : y = x := by simpa using hi
    rw [Nat.zero_mul, List.drop_zero]
    exact ⟨h0, h1⟩
  | y :: ys, cs, i + 1, x, ⟨_, _, h2⟩, hi => by
    have h3 := elems_get (i := i) h2 (by simpa using hi)
    rw [List.drop_drop] at h3
    rwa [show size + i * size = (i + 1) * size by rw [Nat.add_mul]; omega] at h3
def OwnR (T : TypeId) (size : Nat) (E : Rd α) (v : Value) (xs : List α) : Res where
  P := fun w G => ∃ cells S, w.ownsRow 0 T size v xs.length cells ∧ elems size E w S cells xs ∧ (∀ k, S k → k < w.heap.size) ∧ (∀ k, v.ownBlock = some k → ¬ S k) ∧ ∀ k, G k ↔ v.ownBlock = some k ∨ S k
  lt := by
    rintro w G ⟨cells, S, h1, h2, h3, h4, h5⟩ k hk
    rcases (h5 k).1 hk with h | h
    · exact row_lt h1 k h
    · exact h3 k h
  move := by
    rintro w w' G ⟨cells, S, h1, h2, h3, h4, h5⟩ hm
    refine ⟨cells, S, row_move h1 (fun k hk => hm k ((h5 k).2 (.inl hk))), elems_move h2 (fun k hk => hm k ((h5 k).2 (.inr hk))), fun k hk => ?_, h4, h5⟩
    have h6 := h3 k hk
    have h7 := hm k ((h5 k).2 (.inr hk))
    rw [Array.getElem?_eq_getElem h6] at h7
    exact (Array.getElem?_eq_some_iff.1 h7).1
theorem own_reads {T : TypeId} {v : Value} {xs : List α} (hp : 0 < size) : ∀ w G, (OwnR T size E v xs).P w G → (RX.of (sliceRd size E) [v] xs).P w G := by
  rintro w G ⟨cells, S, h1, h2, h3, h4, h5⟩
  have hb := h1
  rcases h1.2 with ⟨rfl, hn⟩ | ⟨g, cap, cur, rfl, hbg, hg, hnc, hcm, hcs, htake⟩
  · exact .inl ⟨rfl, List.eq_nil_of_length_eq_zero hn⟩
  · refine .inr ⟨⟨g, 0, none⟩, cap, rfl, hnc, hcm, fun _ => (h5 g).2 (.inl rfl), fun i x hx => ?_⟩
    obtain ⟨k1, k2⟩ := elems_get h2 hx
    have hi : i < xs.length := (List.getElem?_eq_some_iff.1 hx).1
    refine ⟨_, k1, fun j hj => ?_, E.mono k2 (fun k hk => (h5 k).2 (.inr hk))⟩
    have hadd : (⟨g, 0, none⟩ : Addr).add (i * size + j) = ⟨g, i * size + j, none⟩ := by unfold Addr.add; split <;> simp_all
    have hlt : i * size + j < xs.length * size := by
      have : (i + 1) * size ≤ xs.length * size := Nat.mul_le_mul_right _ (by omega)
      rw [Nat.add_mul] at this
      omega
    rw [hadd, hb.cellAt _ hlt, List.getElem?_take, if_pos hj, List.getElem?_drop]
theorem slice_nil_reads {F : Nat → Prop} : (RX.of (sliceRd size E) [.slice none 0 0] []).reads w F := ⟨fun _ => False, .inl ⟨rfl, rfl⟩, fun _ h => h.elim⟩
theorem Src.nil {F0 : Nat → Prop} {w0 : World} {Rs : List Res} (i : Nat) : Src F0 w0 Rs w i (RX.of (sliceRd size E) [.slice none 0 0] []) := fun _ _ _ _ _ _ => slice_nil_reads
theorem RX.elem {F : Nat → Prop} {A : Option Addr} {n c i : Nat} {l : List α} {x : α} (hp : 0 < size) (h : (RX.of (sliceRd size E) [.slice A n c] l).reads w F) (hx : l[i]? = some x) :
    ∃ g o : Nat, A = some ⟨g, o, none⟩ ∧ ∃ cs, cs.length = size ∧ (∀ j, j < size → w.cell? ⟨g, o + i * size + j, none⟩ = cs[j]?) ∧ (¬ F g ∧ g < w.heap.size) ∧ (RX.of E cs x).reads w F := by
  obtain ⟨S, h, hS⟩ := h
  rcases h with ⟨h, rfl⟩ | ⟨a, cap, h, _, _, hb, h2⟩
  · simp at hx
  · injection h with h
    injection h with h3 h4 h5
    subst h3
    have hl : 0 < l.length := by have := (List.getElem?_eq_some_iff.1 hx).1; omega
    obtain ⟨cs0, k1, k2, _⟩ := h2 0 l[0] (List.getElem?_eq_getElem hl)
    have k3 := k2 0 hp
    rw [List.getElem?_eq_getElem (by omega)] at k3
    have k4 : a.add (0 * size + 0) = a := by simp [Addr.add]
    rw [k4] at k3
    have k5 := spot_none k3
    obtain ⟨cs, k6, k7, k8⟩ := h2 i x hx
    refine ⟨a.block, a.off, by rw [← k5], cs, k6, fun j hj => ?_, hS _ (hb hl), S, k8, hS⟩
    rw [← k7 j hj, k5, WideShapes.add_plain, Nat.add_assoc]
theorem RX.len_le {F : Nat → Prop} {A : Option Addr} {n c : Nat} {l : List α} (h : (RX.of (sliceRd size E) [.slice A n c] l).reads w F) : l.length ≤ 9223372036854775807 := by
  obtain ⟨S, h, hS⟩ := h
  rcases h with ⟨h, rfl⟩ | ⟨a, cap, h, h1, h2, _⟩
  · simp
  · have : maxLen = 9223372036854775807 := rfl
    omega
theorem St.old2 {F0 : Nat → Prop} {w wr : World} {Rs : List Res} {v : Option Value} {g o : Nat} (h : St F0 w Rs wr) (hb : ¬ F0 g ∧ g < w.heap.size) (hc : w.cell? ⟨g, o, none⟩ = v) : wr.cell? ⟨g, o, none⟩ = v := by
  rw [← hc]
  have e := h.fr.block g hb.2 hb.1
  simp only [World.cell?, e]
theorem drop_cons {l : List α} {k : Nat} {x : α} (h : l[k]? = some x) : l.drop k = x :: l.drop (k + 1) := by
  obtain ⟨hk, rfl⟩ := List.getElem?_eq_some_iff.1 h
  exact List.drop_eq_getElem_cons hk
theorem RdR.nil {F0 : Nat → Prop} {w0 : World} {Rs : List Res} (size : Nat) (E : Rd α) (h : St F0 w0 Rs w) : St F0 w0 (RdR (sliceRd size E) [.slice none 0 0] [] :: Rs) w :=
  h.grow (Ns := [RdR (sliceRd size E) [.slice none 0 0] []]) (Fr.refl _ _) ⟨fun _ => False, ⟨.inl ⟨rfl, rfl⟩, fun _ h => h.elim⟩, fun _ h => h.elim, trivial⟩
section
variable {F0 : Nat → Prop} {w0 w1 : World} {Rs : List Res} {T : TypeId} {v v1 : Value} {xs : List α} {B : Res}
theorem OwnR.nil (T : TypeId) (size : Nat) (E : Rd α) (h : St F0 w0 Rs w) : St F0 w0 (OwnR T size E (.slice none 0 0) [] :: Rs) w :=
  h.grow (Ns := [OwnR T size E (.slice none 0 0) []]) (Fr.refl _ _) ⟨fun _ => False, ⟨[], fun _ => False, World.ownsRow_nil _ _ _ _, rfl, fun _ h => h.elim, fun _ _ h => h, fun k => by simp [Value.ownBlock]⟩, fun _ h => h.elim, trivial⟩
theorem OwnR.lit (E : Rd α) (h : St F0 w0 Rs w) (cs : Array Value) (xs : List α) (hm : xs.length ≤ maxLen) (he : elems size E (w.alloc (.cells cs T)) (fun _ => False) cs.toList xs) :
    St F0 w0 (OwnR T size E (.slice (some ⟨w.heap.size, 0, none⟩) xs.length xs.length) xs :: Rs) (w.alloc (.cells cs T)) :=
  h.grow (Ns := [OwnR T size E (.slice (some ⟨w.heap.size, 0, none⟩) xs.length xs.length) xs]) (Fr.of_below ((Below.refl _ _).alloc (Nat.le_refl _) _))
    ⟨fun k => k = w.heap.size, ⟨cs.toList, fun _ => False, World.ownsRow_lit w cs xs.length (Nat.zero_le _) hm (by have := elems_length he; simpa using this), he, fun _ h => h.elim, fun _ _ h => h, fun k => by simp [Value.ownBlock, eq_comm]⟩, fun k hk => by omega, trivial⟩
end
end
section
variable {P : Program} (w : World)
end
end Go.Proofs.Ytpiiopppbgpbpaa.Sl
namespace Go.Proofs.Ytpiiopppbgpbpaa.Sl
open Go.RowKit
set_option linter.unusedVariables false
abbrev Env := List (Nat × Value)
def Env.get : Env → Nat → Option Value
  | [], _ => none
  | (k, v) :: e, t => match Nat.beq k t with | true => some v | false => Env.get e t
def Env.ev (e : Env) : Operand → Option Value
  | .tmp t => e.get t
  | .const v => some v
  | .func f => some (.func (.func f) #[] #[])
  | .global g => some (.pointer (some ⟨g, 0, none⟩))
def Env.evs (e : Env) : List Operand → Option (List Value)
  | [] => some []
  | x :: xs => match e.ev x with
    | some v => match Env.evs e xs with
      | some vs => some (v :: vs)
      | none => none
    | none => none
structure Has (n : Nat) (e : Env) (a : Act) : Prop where
  df : a.defers = []
  sz : a.tmps.size = n
  at_ : ∀ t v, e.get t = some v → a.tmps[t]? = some v
section
variable {n : Nat} {e e' : Env} {a : Act} {v : Value} {vs : List Value} {x : Operand} {xs : List Operand} {d : Nat}
theorem Has.put (h : Has n e a) (hd : Nat.blt d n = true) : Has n ((d, v) :: e) (a.put (some d) v) := by
  have hd' : d < n := by simpa [Nat.blt_eq] using hd
  refine ⟨h.df, by simp [Act.put, h.sz], fun t u hu => ?_⟩
  simp only [Env.get] at hu
  cases hb : Nat.beq d t with
  | true =>
    rw [hb] at hu
    obtain rfl := Nat.eq_of_beq_eq_true hb
    injection hu with hu
    subst hu
    simp [Act.put, h.sz, hd']
  | false =>
    rw [hb] at hu
    have hne : d ≠ t := Nat.ne_of_beq_eq_false hb
    have h2 := h.at_ t u hu
    simp only [Act.put]
    rw [Array.getElem?_setIfInBounds_ne hne]
    exact h2
theorem Has.put0 (h : Has n e a) : Has n e (a.put none v) := h
theorem Has.ev (h : Has n e a) (hx : e.ev x = some v) : a.eval x = v := by
  cases x with
  | tmp t =>
    have := h.at_ t v hx
    simp [Act.eval, this]
  | const u => simpa [Env.ev, Act.eval] using hx
  | func f => simpa [Env.ev, Act.eval] using hx
  | global g => simpa [Env.ev, Act.eval] using hx
theorem Has.evs (h : Has n e a) : ∀ {xs : List Operand} {vs : List Value}, e.evs xs = some vs → xs.map a.eval = vs
  | [], vs, hx => by simpa [Env.evs] using hx
  | x :: xs, vs, hx => by
    simp only [Env.evs] at hx
    cases h1 : e.ev x with
    | none => rw [h1] at hx; cases hx
    | some u =>
      cases h2 : e.evs xs with
      | none => rw [h1, h2] at hx; cases hx
      | some us =>
        rw [h1, h2] at hx
        injection hx with hx
        subst hx
        simp [h.ev h1, h.evs h2]
theorem Has.sub (h : Has n e a) (hs : ∀ t v, Env.get e' t = some v → e.get t = some v) : Has n e' a := ⟨h.df, h.sz, fun t v hv => h.at_ t v (hs t v hv)⟩
end
def Env.gets (e : Env) : List Nat → Option (List Value)
  | [] => some []
  | t :: ts => match e.get t with
    | some v => match Env.gets e ts with
      | some vs => some (v :: vs)
      | none => none
    | none => none
def Env.ks : Env → List Nat
  | [] => []
  | (t, _) :: r => t :: Env.ks r
def Env.vs : Env → List Value
  | [] => []
  | (_, v) :: r => v :: Env.vs r
def Sub (e' e : Env) : Prop := e.gets e'.ks = some e'.vs
theorem Sub.get : ∀ {e' e : Env}, Sub e' e → ∀ t v, Env.get e' t = some v → e.get t = some v
  | [], _, _, t, v, h => by simp [Env.get] at h
  | (k, u) :: r, e, hs, t, v, h => by
    simp only [Sub, Env.ks, Env.vs, Env.gets] at hs
    cases h1 : e.get k with
    | none => rw [h1] at hs; cases hs
    | some u' =>
      cases h2 : e.gets (Env.ks r) with
      | none => rw [h1, h2] at hs; cases hs
      | some us =>
        rw [h1, h2] at hs
        injection hs with hs
        injection hs with hs1 hs2
        subst hs1 hs2
        simp only [Env.get] at h
        cases hb : Nat.beq k t with
        | true =>
          rw [hb] at h
          obtain rfl := Nat.eq_of_beq_eq_true hb
          injection h with h
          subst h
          exact h1
        | false =>
          rw [hb] at h
          exact Sub.get (e' := r) h2 t v h
def selR : List Res → List Nat → Option (List Res)
  | _, [] => some []
  | Rs, i :: is => match Rs[i]? with
    | some A => match selR (Rs.eraseIdx i) is with
      | some l => some (A :: l)
      | none => none
    | none => none
def Sel (Rs : List Res) (is : List Nat) (l : List Res) : Prop := selR Rs is = some l
theorem Sel.sep : ∀ {is : List Nat} {Rs l : List Res} {w : World} {F : Nat → Prop}, Sel Rs is l → Sep Rs w F → Sep l w F
  | [], Rs, l, w, F, h, hs => by
    injection h with h
    subst h
    exact trivial
  | i :: is, Rs, l, w, F, h, hs => by
    simp only [Sel, selR] at h
    cases h1 : Rs[i]? with
    | none => rw [h1] at h; cases h
    | some A =>
      cases h2 : selR (Rs.eraseIdx i) is with
      | none => rw [h1, h2] at h; cases h
      | some l' =>
        rw [h1, h2] at h
        injection h with h
        subst h
        obtain ⟨G, k1, k2, k3⟩ := Sep.pick i h1 hs
        exact ⟨G, k1, k2, Sel.sep h2 k3⟩
theorem St.sel {F0 : Nat → Prop} {w0 w : World} {Rs l : List Res} (is : List Nat) (h : St F0 w0 Rs w) (hl : Sel Rs is l) : St F0 w0 l w := ⟨h.fr, hl.sep h.sep⟩
section
variable (P : Program) (n : Nat) (F0 : Nat → Prop) (w0 : World)
def Ex (e : Env) (S : World → Prop) (o : Oper) (v : Value) : Prop := ∀ a w, Has n e a → S w → (execOp a.eval o).run P w = .ok (.value v) w
def T (e : Env) (Rs : List Res) (c : Code) (Q : Exit → Act → World → Prop) : Prop := ∀ a w, Has n e a → St F0 w0 Rs w → c.wp P Q a w
def X (e : Env) (Rs : List Res) (x : Exit) (Q : Exit → Act → World → Prop) : Prop := ∀ a w, Has n e a → St F0 w0 Rs w → Q x a w
def TL (ops : Array Oper) (l : List Nat) (e : Env) (Rs : List Res) (Q : Exit → Act → World → Prop) : Prop := ∀ a w, Has n e a → St F0 w0 Rs w → wpOps P ops Q l a w
def Ef (e : Env) (Rs : List Res) (o : Oper) (R : Env → List Res → Prop) : Prop :=
  ∀ a w K Q, Has n e a → St F0 w0 Rs w → (∀ e' Rs', R e' Rs' → ∀ a' w', Has n e' a' → St F0 w0 Rs' w' → K a' w') → o.wp P a w K Q
def Wd (ops : Array Oper) (e : Env) (o : Oper) (b : Bool) : Prop := ∀ a, Has n e a → Region.wanted o (yielded ops a.tmps) = b
end
section
variable {P : Program} {n : Nat} {F0 : Nat → Prop} {w0 : World} {e e' : Env} {Rs Rs' : List Res} {Q : Exit → Act → World → Prop} {ops : Array Oper} {o : Oper} {v : Value} {l : List Nat}
theorem Wd.u {d : Option Tmp} {op : Op} {ty : TypeId} {pos : String} {af : Array Edge} : Wd n ops e ⟨d, op, ty, pos, af, none⟩ true := fun _ _ => rfl
theorem Wd.g {d : Option Tmp} {op : Op} {ty : TypeId} {pos : String} {af : Array Edge} {j t : Nat} {b want : Bool} (hj : (ops[j]?).bind (·.dst) = some t) (hv : e.get t = some (.bool b)) (hb : b = want) :
    Wd n ops e ⟨d, op, ty, pos, af, some (j, want)⟩ true := by
  intro a h
  subst hb
  simp only [Region.wanted, yielded, hj, Option.bind_some, h.at_ t _ hv, beq_self_eq_true]
theorem Wd.gn {d : Option Tmp} {op : Op} {ty : TypeId} {pos : String} {af : Array Edge} {j t : Nat} {b want : Bool} (hj : (ops[j]?).bind (·.dst) = some t) (hv : e.get t = some (.bool b)) (hb : b = !want) :
    Wd n ops e ⟨d, op, ty, pos, af, some (j, want)⟩ false := by
  intro a h
  subst hb
  simp only [Region.wanted, yielded, hj, Option.bind_some, h.at_ t _ hv]
  cases want <;> rfl
theorem wp_of_ex {o : Oper} {v : Value} {a : Act} {w : World} {K : Act → World → Prop} {S : World → Prop} (hx : Ex P n e S o v) (ha : Has n e a) (hw : S w) (hk : K (a.put o.dst v) w) : o.wp P a w K Q := by
  unfold Oper.wp
  rw [hx a w ha hw]
  exact hk
theorem TL.nil (h : X n F0 w0 e Rs .normal Q) : TL P n F0 w0 ops [] e Rs Q := fun a w ha hw => h a w ha hw
theorem TL.q {i d : Nat} {op : Op} {ty : TypeId} {pos : String} {af : Array Edge} {g : Option (Nat × Bool)} (ho : ops[i]? = some ⟨some d, op, ty, pos, af, g⟩) (hw : Wd n ops e ⟨some d, op, ty, pos, af, g⟩ true)
    (hx : Ex P n e (St F0 w0 Rs) ⟨some d, op, ty, pos, af, g⟩ v) (hd : Nat.blt d n = true) (h : TL P n F0 w0 ops l ((d, v) :: e) Rs Q) : TL P n F0 w0 ops (i :: l) e Rs Q := by
  intro a w ha hs
  rw [wpOps_cons, wpOp, ho]
  simp only [hw a ha, if_true]
  exact .inl (wp_of_ex hx ha hs (h _ _ (ha.put hd) hs))
theorem TL.no {i d : Nat} {op : Op} {ty : TypeId} {pos : String} {af : Array Edge} {g : Option (Nat × Bool)} (ho : ops[i]? = some ⟨some d, op, ty, pos, af, g⟩) (hw : Wd n ops e ⟨some d, op, ty, pos, af, g⟩ false)
    (hd : Nat.blt d n = true) (h : TL P n F0 w0 ops l ((d, undef) :: e) Rs Q) : TL P n F0 w0 ops (i :: l) e Rs Q := by
  intro a w ha hs
  rw [wpOps_cons, wpOp, ho]
  simp only [hw a ha]
  exact h _ _ (ha.put hd) hs
theorem TL.ef {i : Nat} {R : Env → List Res → Prop} (ho : ops[i]? = some o) (hw : Wd n ops e o true) (hx : Ef P n F0 w0 e Rs o R) (h : ∀ e' Rs', R e' Rs' → TL P n F0 w0 ops l e' Rs' Q) : TL P n F0 w0 ops (i :: l) e Rs Q := by
  intro a w ha hs
  rw [wpOps_cons, wpOp, ho]
  simp only [hw a ha, if_true]
  exact .inl (hx a w _ _ ha hs (fun e' Rs' hr a' w' ha' hs' => h e' Rs' hr a' w' ha' hs'))
theorem T.region {id : Nat} {os : List Oper} (hl : List.range os.toArray.size = l) (h : TL P n F0 w0 os.toArray l e Rs Q) : T P n F0 w0 e Rs (.region id os.toArray false) Q := fun a w ha hs => wp_region (hl ▸ h a w ha hs)
theorem T.seq {x y : Code} (h : T P n F0 w0 e Rs x (Exit.then (y.wp P Q) Q)) : T P n F0 w0 e Rs (.seq x y) Q := fun a w ha hs => wp_seq (h a w ha hs)
theorem T.skip (h : X n F0 w0 e Rs .normal Q) : T P n F0 w0 e Rs .skip Q := fun a w ha hs => wp_skip (h a w ha hs)
theorem T.ret (h : X n F0 w0 e Rs .ret Q) : T P n F0 w0 e Rs .ret Q := fun a w ha hs => wp_ret (h a w ha hs)
theorem T.exit {i : Nat} (h : X n F0 w0 e Rs (.exit i) Q) : T P n F0 w0 e Rs (.exit i) Q := fun a w ha hs => wp_exit (h a w ha hs)
theorem T.goto {i : Nat} (h : X n F0 w0 e Rs (.goto i) Q) : T P n F0 w0 e Rs (.goto i) Q := fun a w ha hs => wp_goto (h a w ha hs)
theorem T.yes {c : Operand} {x y : Code} {b : Bool} (hc : e.ev c = some (.bool b)) (hb : b = true) (h : T P n F0 w0 e Rs x Q) : T P n F0 w0 e Rs (.cond c x y) Q := fun a w ha hs => wp_cond_true (by rw [ha.ev hc, hb]) (h a w ha hs)
theorem T.no {c : Operand} {x y : Code} {b : Bool} (hc : e.ev c = some (.bool b)) (hb : b = false) (h : T P n F0 w0 e Rs y Q) : T P n F0 w0 e Rs (.cond c x y) Q := fun a w ha hs => wp_cond_false (by rw [ha.ev hc, hb]) (h a w ha hs)
theorem T.block {id : Nat} {c : Code} (h : T P n F0 w0 e Rs c (Exit.inBlock id Q)) : T P n F0 w0 e Rs (.block id c) Q := fun a w ha hs => wp_block (h a w ha hs)
theorem T.loop {c : Code} (I : Nat → Env → List Res → Prop) (m : Nat) (h0 : I m e Rs) (h : ∀ m e Rs, I m e Rs → T P n F0 w0 e Rs c (Exit.then (fun a w => ∃ m' e' Rs', m' < m ∧ I m' e' Rs' ∧ Has n e' a ∧ St F0 w0 Rs' w) Q)) : T P n F0 w0 e Rs (.loop c) Q := by
  intro a w ha hs b k cs
  have key : ∀ m e Rs a w, I m e Rs → Has n e a → St F0 w0 Rs w → ∃ x a' w', Q x a' w' ∧ Arrives P (lone (b.at a (.code c :: .inLoop c :: k)) cs w) b k cs x a' w' := by
    intro m
    induction m using Nat.strongRecOn with
    | _ m ih =>
      intro e Rs a w hI ha hs
      obtain ⟨x, a₁, w₁, hq, harr⟩ := h m e Rs hI a w ha hs b (.inLoop c :: k) cs
      cases x with
      | normal =>
        obtain ⟨m', e', Rs', hlt, hI', ha', hs'⟩ := hq
        obtain ⟨x₂, a₂, w₂, hq₂, harr₂⟩ := ih m' hlt e' Rs' a₁ w₁ hI' ha' hs'
        exact ⟨x₂, a₂, w₂, hq₂, .of_steps (Steps.trans harr (.one step_inLoop)) harr₂⟩
      | exit id => exact ⟨_, a₁, w₁, hq, .pass (x := .inLoop c) rfl (fun _ _ => .inl (by simp)) harr⟩
      | goto l => exact ⟨_, a₁, w₁, hq, .pass (x := .inLoop c) rfl (fun _ _ => .inl (by simp)) harr⟩
      | ret => exact ⟨_, a₁, w₁, hq, .pass (x := .inLoop c) rfl (fun _ _ => .inl (by simp)) harr⟩
      | panic ch => exact ⟨_, a₁, w₁, hq, .pass (x := .inLoop c) rfl (fun _ _ => .inl (by simp)) harr⟩
      | outgrown => exact ⟨_, a₁, w₁, hq, .pass (x := .inLoop c) rfl (fun _ _ => .inl (by simp)) harr⟩
  obtain ⟨x, a', w', hq, harr⟩ := key m e Rs a w h0 ha hs
  exact ⟨x, a', w', hq, .of_steps (.one step_loop) harr⟩
theorem T.lp {c : Code} (I : Nat → Env → List Res → Prop) (m : Nat) {e0 : Env} {Rs0 : List Res} (is : List Nat) (h0 : I m e0 Rs0) (he : Sub e0 e) (hr : Sel Rs is Rs0) (h : ∀ m e Rs, I m e Rs → T P n F0 w0 e Rs c (Exit.then (fun a w => ∃ m' e' Rs', m' < m ∧ I m' e' Rs' ∧ Has n e' a ∧ St F0 w0 Rs' w) Q)) : T P n F0 w0 e Rs (.loop c) Q :=
  fun a w ha hs => T.loop I m h0 h a w (ha.sub he.get) (hs.sel is hr)
end
end Go.Proofs.Ytpiiopppbgpbpaa.Sl
namespace Go.Proofs.Ytpiiopppbgpbpaa.Sl
open Go.RowKit
set_option linter.unusedVariables false
def NoP (Q : Exit → Act → World → Prop) : Prop := ∀ c a w, ¬ Q (.panic c) a w
def waitsL (ops : Array Oper) (i : Nat) : List Nat → List Nat → List Nat
  | [], D => D
  | j :: js, D => waitsL ops i js (match ops[j]? with
    | some o => if o.after.any (fun e => Region.binds .any e && (Nat.beq e.on i || D.contains e.on)) then j :: D else D
    | none => D)
def waits (ops : Array Oper) (i : Nat) : List Nat := waitsL ops i (List.range ops.size) []
def freeT (ops : Array Oper) (listed : Array Bool) (i : Nat) : Bool :=
  match ops[i]? with
  | none => false
  | some oi => (waits ops i).all (fun j => !listed.getD j true && match ops[j]? with | some o => o.after.any (fun e => Region.binds .any e && (Nat.beq e.on i || (waits ops i).contains e.on)) | none => false) &&
    (List.range ops.size).all fun j => j == i || listed.getD j true || (waits ops i).contains j || match ops[j]? with
      | some oj => oi.apart ops oj
      | none => true
inductive Sch where
  | nil
  | q (i : Nat) (s : Sch)
  | e (i : Nat) (s : Sch)
  | br (i : Nat) (s m : Sch)
def Sch.heads : Sch → List Nat
  | .e i _ => [i]
  | .br i _ m => i :: m.heads
  | _ => []
def schedB (ops : Array Oper) : Bool → Nat → Sch → Array Bool → Bool
  | alt, k, .nil, listed => !alt && (k == 0) && (Region.ready .any ops listed).isEmpty
  | alt, 0, _, _ => false
  | alt, k + 1, .q i s, listed => !alt && (Region.ready .any ops listed).contains i && freeT ops listed i && schedB ops false k s (listed.setIfInBounds i true)
  | alt, k + 1, .e i s, listed => (alt || Region.ready .any ops listed == [i]) && schedB ops false k s (listed.setIfInBounds i true)
  | alt, k + 1, .br i s m, listed => (alt || Region.ready .any ops listed == i :: m.heads) && schedB ops false k s (listed.setIfInBounds i true) && schedB ops true (k + 1) m listed
def drawB (ops : Array Oper) (ord : Sch) : Bool := Region.noSelect ops && schedB ops false ops.size ord (Array.replicate ops.size false)
section
variable {P : Program} {ops : Array Oper} {Q : Exit → Act → World → Prop} {S : World → Prop}
theorem wpAnyH_firstT {i : Nat} {oi : Oper} {v : Value} (D : Nat → Prop) (hi : ops[i]? = some oi) (hsel : ∀ (j : Nat) (o : Oper) cs b, ops[j]? = some o → o.op ≠ .select cs b)
    (hQ : ∀ c a w, Q (.panic c) (a.put oi.dst v) w → Q (.panic c) a w) (hD : ∀ j oj, ops[j]? = some oj → D j → ∃ e ∈ oj.after, Region.binds .any e = true ∧ (e.on = i ∨ D e.on)) :
    ∀ (fuel : Nat) (listed : Array Bool) (a : Act) (w : World), (∀ j, D j → listed.getD j true = false) →
      (∀ j oj, ops[j]? = some oj → j ≠ i → listed.getD j true = false → ¬ D j → oi.apart ops oj = true) →
      i ∈ Region.ready .any ops listed → YieldsIf P ops S oi v a → S w →
      wpAnyH P .any ops Q S fuel (listed.setIfInBounds i true) (a.put oi.dst v) w → wpAnyH P .any ops Q S (fuel + 1) listed a w := by
  intro fuel
  induction fuel with
  | zero =>
    intro listed a w _ _ hr hy hS H
    refine ⟨fun h => (by rw [h] at hr; cases hr), fun j hj => ?_⟩
    by_cases hji : j = i
    · subst hji; exact hy.wpOp hi hS ⟨hS, H⟩
    · have := ready_mono hj hji
      rw [H.1] at this
      cases this
  | succ fuel ih =>
    intro listed a w hun hfree hr hy hS H
    refine ⟨fun h => (by rw [h] at hr; cases hr), fun j hj => ?_⟩
    by_cases hji : j = i
    · subst hji; exact hy.wpOp hi hS ⟨hS, H⟩
    · have h1 := H.2 j (ready_mono hj hji)
      obtain ⟨hjun, oj, hoj, hall⟩ := mem_ready.1 hj
      have hiun := (mem_ready.1 hr).1
      have hnot : ¬ D j := fun hd => by
        obtain ⟨e, he, hb, h2⟩ := hD j oj hoj hd
        have h3 := hall e he hb
        rcases h2 with h2 | h2
        · rw [h2] at h3
          rcases Nat.lt_or_ge i listed.size with h' | h'
          · simp [h'] at hiun h3; rw [hiun] at h3; cases h3
          · simp [Array.getElem?_eq_none h'] at h3
        · have h4 := hun _ h2
          rcases Nat.lt_or_ge e.on listed.size with h' | h'
          · simp [h'] at h4 h3; rw [h4] at h3; cases h3
          · simp [Array.getElem?_eq_none h'] at h4
      have h2 := wpOp_putIf hoj (hfree j oj hoj hji hjun hnot) (fun cs b => hsel i oi cs b hi) (fun cs b => hsel j oj cs b hoj) hQ hy h1
      have hun' : ∀ k, D k → (listed.setIfInBounds j true).getD k true = false := fun k hk => by
        have hjk : j ≠ k := fun e => hnot (e ▸ hk)
        rw [getD_set_ne true hjk]
        exact hun k hk
      have hfree' : ∀ k ok, ops[k]? = some ok → k ≠ i → (listed.setIfInBounds j true).getD k true = false → ¬ D k → oi.apart ops ok = true := fun k ok hk hki hu hno => by
        refine hfree k ok hk hki ?_ hno
        by_cases hjk : j = k
        · subst hjk; exact hjun
        · rw [getD_set_ne true hjk] at hu; exact hu
      refine wpOp_mono (fun a' w' h3 => ⟨h3.2.1, ih (listed.setIfInBounds j true) a' w' hun' hfree' (ready_mono hr (Ne.symm hji)) h3.1 h3.2.1 ?_⟩) h2
      rw [Array.setIfInBounds_comm _ _ hji]
      exact h3.2.2
theorem wpAnyH_takeT {i : Nat} {oi : Oper} {v : Value} {fuel : Nat} {listed : Array Bool} {a : Act} {w : World} (hi : ops[i]? = some oi)
    (hs : Region.noSelect ops = true) (hf : freeT ops listed i = true) (hr : (Region.ready .any ops listed).contains i = true)
    (hQ : ∀ c a w, Q (.panic c) (a.put oi.dst v) w → Q (.panic c) a w) (hy : YieldsIf P ops S oi v a) (hS : S w)
    (h : wpAnyH P .any ops Q S fuel (listed.setIfInBounds i true) (a.put oi.dst v) w) : wpAnyH P .any ops Q S (fuel + 1) listed a w := by
  simp only [freeT, hi, Bool.and_eq_true, List.all_eq_true] at hf
  obtain ⟨h1, h2⟩ := hf
  refine wpAnyH_firstT (fun j => j ∈ waits ops i) hi (Region.noSelect_spec hs) hQ ?_ fuel listed a w ?_ ?_ (by simpa using hr) hy hS h
  · intro j oj hj hd
    have h3 := (h1 j hd).2
    simp only [hj, Array.any_eq_true] at h3
    obtain ⟨k, hk, h4⟩ := h3
    simp only [Bool.and_eq_true, Bool.or_eq_true, List.contains_iff_mem] at h4
    exact ⟨_, Array.getElem_mem hk, h4.1, h4.2.imp Nat.eq_of_beq_eq_true id⟩
  · intro j hd
    simpa using (h1 j hd).1
  · intro j oj hj hne hun hno
    have hlt : j < ops.size := (Array.getElem?_eq_some_iff.1 hj).1
    have h3 := h2 j (by simpa using hlt)
    simp only [hj, Bool.or_eq_true, beq_iff_eq, List.contains_iff_mem] at h3
    rcases h3 with ((h3 | h3) | h3) | h3
    · exact (hne h3).elim
    · rw [hun] at h3; cases h3
    · exact (hno h3).elim
    · exact h3
end
def wpO (P : Program) (ops : Array Oper) (Q : Exit → Act → World → Prop) : Sch → (World → Prop) → Act → World → Prop
  | .nil, _, a, w => Q .normal a w
  | .q i r, S, a, w => ∃ o v, ops[i]? = some o ∧ YieldsIf P ops S o v a ∧ wpO P ops Q r S (a.put o.dst v) w
  | .e i r, S, a, w => wpOp P ops Q i (fun a' w' => ∃ S' : World → Prop, S' w' ∧ (∀ w, S' w → S w) ∧ wpO P ops Q r S' a' w') a w
  | .br i r m, S, a, w => wpOp P ops Q i (fun a' w' => ∃ S' : World → Prop, S' w' ∧ (∀ w, S' w → S w) ∧ wpO P ops Q r S' a' w') a w ∧ wpO P ops Q m S a w
section
variable {P : Program} {ops : Array Oper} {Q : Exit → Act → World → Prop}
theorem wpAnyH_mono {S S' : World → Prop} (hS : ∀ w, S' w → S w) : ∀ (fuel : Nat) (listed : Array Bool) (a : Act) (w : World), wpAnyH P .any ops Q S' fuel listed a w → wpAnyH P .any ops Q S fuel listed a w
  | 0, _, _, _, h => h
  | fuel + 1, listed, a, w, h => ⟨h.1, fun i hi => wpOp_mono (fun a' w' h' => ⟨hS _ h'.1, wpAnyH_mono hS fuel _ a' w' h'.2⟩) (h.2 i hi)⟩
theorem wpO_sound (hs : Region.noSelect ops = true) (hQ : NoP Q) : ∀ (ord : Sch) (k : Nat) (S : World → Prop) (listed : Array Bool) (a : Act) (w : World), S w → wpO P ops Q ord S a w →
    (schedB ops false k ord listed = true → wpAnyH P .any ops Q S k listed a w) ∧
    (∀ k', k = k' + 1 → schedB ops true k ord listed = true → ∀ j ∈ ord.heads, wpOp P ops Q j (fun a' w' => S w' ∧ wpAnyH P .any ops Q S k' (listed.setIfInBounds j true) a' w') a w)
  | .nil, k, S, listed, a, w, hS, h => by
    refine ⟨fun hk => ?_, fun k' _ hk => by cases k <;> simp [schedB] at hk⟩
    have hk' : k = 0 ∧ Region.ready .any ops listed = [] := by cases k <;> simp [schedB] at hk <;> exact ⟨rfl, hk⟩
    rw [hk'.1]
    exact ⟨hk'.2, h⟩
  | .q i r, 0, S, listed, a, w, hS, h => ⟨fun hk => by simp [schedB] at hk, fun k' e => by omega⟩
  | .q i r, k + 1, S, listed, a, w, hS, h => by
    refine ⟨fun hk => ?_, fun k' _ hk => by simp [schedB] at hk⟩
    obtain ⟨o, v, ho, hy, h⟩ := h
    simp only [schedB, Bool.and_eq_true] at hk
    obtain ⟨⟨⟨_, h1⟩, h2⟩, h3⟩ := hk
    exact wpAnyH_takeT ho hs h2 h1 (fun c a' w' h' => (hQ _ _ _ h').elim) hy hS ((wpO_sound hs hQ r k S _ _ _ hS h).1 h3)
  | .e i r, 0, S, listed, a, w, hS, h => ⟨fun hk => by simp [schedB] at hk, fun k' e => by omega⟩
  | .e i r, k + 1, S, listed, a, w, hS, h => by
    have key : schedB ops false k r (listed.setIfInBounds i true) = true → wpOp P ops Q i (fun a' w' => S w' ∧ wpAnyH P .any ops Q S k (listed.setIfInBounds i true) a' w') a w := by
      intro h3
      refine wpOp_mono ?_ h
      rintro a' w' ⟨S', k1, k2, k3⟩
      exact ⟨k2 _ k1, wpAnyH_mono k2 _ _ _ _ ((wpO_sound hs hQ r k S' _ _ _ k1 k3).1 h3)⟩
    refine ⟨fun hk => ?_, fun k' e hk j hj => ?_⟩
    · simp only [schedB, Bool.false_or, Bool.and_eq_true, beq_iff_eq] at hk
      refine wpAnyH_all hk.1 (by simp) (fun j hj => ?_)
      obtain rfl : j = i := by simpa using hj
      exact key hk.2
    · obtain rfl : k' = k := by omega
      simp only [schedB, Bool.true_or, Bool.true_and] at hk
      obtain rfl : j = i := by simpa [Sch.heads] using hj
      exact key hk
  | .br i r m, 0, S, listed, a, w, hS, h => ⟨fun hk => by simp [schedB] at hk, fun k' e => by omega⟩
  | .br i r m, k + 1, S, listed, a, w, hS, h => by
    have key : schedB ops false k r (listed.setIfInBounds i true) = true → wpOp P ops Q i (fun a' w' => S w' ∧ wpAnyH P .any ops Q S k (listed.setIfInBounds i true) a' w') a w := by
      intro h3
      refine wpOp_mono ?_ h.1
      rintro a' w' ⟨S', k1, k2, k3⟩
      exact ⟨k2 _ k1, wpAnyH_mono k2 _ _ _ _ ((wpO_sound hs hQ r k S' _ _ _ k1 k3).1 h3)⟩
    have more := (wpO_sound hs hQ m (k + 1) S listed a w hS h.2).2
    refine ⟨fun hk => ?_, fun k' e hk j hj => ?_⟩
    · simp only [schedB, Bool.false_or, Bool.and_eq_true, beq_iff_eq] at hk
      refine wpAnyH_all hk.1.1 (by simp) (fun j hj => ?_)
      rcases List.mem_cons.1 hj with rfl | hj
      · exact key hk.1.2
      · exact more k rfl hk.2 j hj
    · obtain rfl : k' = k := by omega
      simp only [schedB, Bool.true_or, Bool.true_and, Bool.and_eq_true] at hk
      rcases List.mem_cons.1 (by simpa [Sch.heads] using hj : j ∈ i :: m.heads) with rfl | hj
      · exact key hk.1
      · exact more k' rfl hk.2 j hj
end
def TD (P : Program) (n : Nat) (F0 : Nat → Prop) (w0 : World) (ops : Array Oper) (l : Sch) (Rf : List Res) (e : Env) (Rs : List Res) (Q : Exit → Act → World → Prop) : Prop :=
  ∀ a w, Has n e a → St F0 w0 Rs w → wpO P ops Q l (St F0 w0 Rf) a w
section
variable {P : Program} {n : Nat} {F0 : Nat → Prop} {w0 : World} {e e' : Env} {Rs Rs' Rf Rf' : List Res} {Q : Exit → Act → World → Prop} {ops : Array Oper} {o : Oper} {v : Value} {l : Sch}
theorem T.draw {id : Nat} {os : List Oper} (ord : Sch) (is : List Nat) (hf : Sel Rs is Rf) (hm : P.follows .mixedOrders = true) (hQ : NoP Q) (hk : drawB os.toArray ord = true) (h : TD P n F0 w0 os.toArray ord Rf e Rs Q) :
    T P n F0 w0 e Rs (.region id os.toArray true) Q := by
  intro a w ha hs
  simp only [drawB, Bool.and_eq_true] at hk
  obtain ⟨h1, h3⟩ := hk
  refine wp_region_held (S := St F0 w0 Rf) hm ?_
  have hs' := hs.drew
  exact (wpO_sound h1 hQ ord _ (St F0 w0 Rf) _ a _ (hs'.sel is hf) (h a _ ha hs')).1 h3
theorem TD.br {i : Nat} {r m : Sch} (h : TD P n F0 w0 ops (.e i r) Rf e Rs Q) (k : TD P n F0 w0 ops m Rf e Rs Q) : TD P n F0 w0 ops (.br i r m) Rf e Rs Q := fun a w ha hs => ⟨h a w ha hs, k a w ha hs⟩
theorem TD.nil (h : X n F0 w0 e Rs .normal Q) : TD P n F0 w0 ops .nil Rf e Rs Q := fun a w ha hw => h a w ha hw
theorem TD.q {i d : Nat} {op : Op} {ty : TypeId} {pos : String} {af : Array Edge} {g : Option (Nat × Bool)} (ho : ops[i]? = some ⟨some d, op, ty, pos, af, g⟩) (hw : Wd n ops e ⟨some d, op, ty, pos, af, g⟩ true)
    (hx : Ex P n e (St F0 w0 Rf) ⟨some d, op, ty, pos, af, g⟩ v) (hd : Nat.blt d n = true) (h : TD P n F0 w0 ops l Rf ((d, v) :: e) Rs Q) : TD P n F0 w0 ops (.q i l) Rf e Rs Q :=
  fun a w ha hs => ⟨_, v, ho, .inl ⟨hw a ha, fun w' hw' => hx a w' ha hw'⟩, h _ _ (ha.put hd) hs⟩
theorem TD.no {i d : Nat} {op : Op} {ty : TypeId} {pos : String} {af : Array Edge} {g : Option (Nat × Bool)} (ho : ops[i]? = some ⟨some d, op, ty, pos, af, g⟩) (hw : Wd n ops e ⟨some d, op, ty, pos, af, g⟩ false)
    (hd : Nat.blt d n = true) (h : TD P n F0 w0 ops l Rf ((d, undef) :: e) Rs Q) : TD P n F0 w0 ops (.q i l) Rf e Rs Q :=
  fun a w ha hs => ⟨_, undef, ho, .inr ⟨hw a ha, rfl⟩, h _ _ (ha.put hd) hs⟩
theorem TD.ef {i : Nat} {R : Env → List Res → Prop} (ho : ops[i]? = some o) (hw : Wd n ops e o true) (hx : Ef P n F0 w0 e Rs o R)
    (h : ∀ e' Rs', R e' Rs' → ∃ Rf', (∀ w, St F0 w0 Rs' w → St F0 w0 Rf' w) ∧ (∀ w, St F0 w0 Rf' w → St F0 w0 Rf w) ∧ TD P n F0 w0 ops l Rf' e' Rs' Q) : TD P n F0 w0 ops (.e i l) Rf e Rs Q := by
  intro a w ha hs
  simp only [wpO, wpOp, ho]
  rw [if_pos (hw a ha)]
  refine .inl (hx a w _ _ ha hs (fun e' Rs' hr a' w' ha' hs' => ?_))
  obtain ⟨Rf', h1, h2, h3⟩ := h e' Rs' hr
  exact ⟨St F0 w0 Rf', h1 _ hs', h2, h3 a' w' ha' hs'⟩
variable {id j : Nat} {y c : Code} {K : Act → World → Prop}
theorem X.seq (h : T P n F0 w0 e Rs y Q) : X n F0 w0 e Rs .normal (Exit.then (y.wp P Q) Q) := h
theorem X.blk (h : X n F0 w0 e Rs .normal Q) : X n F0 w0 e Rs .normal (Exit.inBlock id Q) := h
theorem X.ex (h : X n F0 w0 e Rs .normal Q) : X n F0 w0 e Rs (.exit id) (Exit.inBlock id Q) := fun a w ha hs => by
  show (if id = id then Q .normal a w else _)
  rw [if_pos rfl]
  exact h a w ha hs
theorem X.rs (h : X n F0 w0 e Rs .ret Q) : X n F0 w0 e Rs .ret (Exit.then K Q) := h
theorem X.rb (h : X n F0 w0 e Rs .ret Q) : X n F0 w0 e Rs .ret (Exit.inBlock id Q) := h
theorem X.exs (h : X n F0 w0 e Rs (.exit j) Q) : X n F0 w0 e Rs (.exit j) (Exit.then K Q) := h
theorem X.back {I : Nat → Env → List Res → Prop} {m m' : Nat} (is : List Nat) (hm : m' < m) (hI : I m' e' Rs') (he : Sub e' e) (hr : Sel Rs is Rs') :
    X n F0 w0 e Rs .normal (Exit.then (fun a w => ∃ m' e' Rs', m' < m ∧ I m' e' Rs' ∧ Has n e' a ∧ St F0 w0 Rs' w) Q) :=
  fun a w ha hs => ⟨m', e', Rs', hm, hI, ha.sub he.get, hs.sel is hr⟩
theorem T.as {d : Nat} {v' : Value} (hv : e.get d = some v) (h : v = v') (hk : T P n F0 w0 ((d, v') :: e) Rs c Q) : T P n F0 w0 e Rs c Q := fun a w ha hs => by
  refine hk a w (ha.sub (fun t u hu => ?_)) hs
  simp only [Env.get] at hu
  cases hb : Nat.beq d t with
  | true =>
    rw [hb] at hu
    obtain rfl := Nat.eq_of_beq_eq_true hb
    injection hu with hu
    rw [hv, h, hu]
  | false => rw [hb] at hu; exact hu
theorem X.done0 {f : Func} {R : Value → Res → List Res → Prop} {A' : Res} {Ns : List Res} (is : List Nat) (hf : f.results = #[]) (hR : R (.tuple #[]) A' Ns) (hr : Sel Rs is (A' :: Ns)) {x : Exit} (hx : x = .ret ∨ x = .normal) :
    X n F0 w0 e Rs x (bodyPost P f (Post R F0 w0)) := by
  intro a w ha hs
  have h : bodyPost P f (Post R F0 w0) .ret a w := ⟨ha.df, .tuple #[], by
    rw [results_eq, hf]
    simp, _, A', Ns, rfl, hR, hs.sel is hr⟩
  rcases hx with rfl | rfl <;> exact h
end
theorem NoP.seq {Q : Exit → Act → World → Prop} {K : Act → World → Prop} (h : NoP Q) : NoP (Exit.then K Q) := h
theorem NoP.blk {Q : Exit → Act → World → Prop} {i : Nat} (h : NoP Q) : NoP (Exit.inBlock i Q) := h
theorem np_post {P : Program} {f : Func} {F0 : Nat → Prop} {w0 : World} {R : Value → Res → List Res → Prop} : NoP (bodyPost P f (Post R F0 w0)) := by
  rintro c a w ⟨_, v, A', Ns, h, _⟩
  cases h
theorem enterX {P : Program} {f n : Nat} {fn : Func} {c : Code} {args : Array Value} {Xr : RX} {A : Res} {R : Value → Res → List Res → Prop} {e : Env} (hf : P.funcs[f]? = some fn) (hb : fn.body = some c) (hn : fn.ntmps = n)
    (hl : Nat.ble args.size n = true) (he : ∀ t v, e.get t = some v → args[t]? = some v) (h : ∀ F w, Xr.reads w F → T P n F w e [A] c (bodyPost P fn (Post R F w))) : SpecX P f args Xr A R := by
  intro F w hA hX
  refine calls_of_wp hf hb ?_
  have hl' : args.size ≤ n := Nat.le_of_ble_eq_true hl
  refine h F w hX _ w ⟨rfl, ?_, fun t v hv => ?_⟩ (SpecX.start hA)
  · simp only [Array.size_append, Array.size_replicate, hn]
    omega
  · have h1 := he t v hv
    have h2 := (Array.getElem?_eq_some_iff.1 h1).1
    rw [Array.getElem?_append_left h2]
    exact h1
def argsE : Nat → List Value → Env
  | _, [] => []
  | k, v :: vs => (k, v) :: argsE (k + 1) vs
theorem argsE_get : ∀ (vs : List Value) (k t : Nat) (v : Value), Env.get (argsE k vs) t = some v → k ≤ t ∧ vs[t - k]? = some v
  | [], _, _, _, h => by simp [argsE, Env.get] at h
  | u :: vs, k, t, v, h => by
    simp only [argsE, Env.get] at h
    cases hb : Nat.beq k t with
    | true =>
      rw [hb] at h
      obtain rfl := Nat.eq_of_beq_eq_true hb
      exact ⟨Nat.le_refl _, by simpa using h⟩
    | false =>
      rw [hb] at h
      obtain ⟨h1, h2⟩ := argsE_get vs (k + 1) t v h
      refine ⟨by omega, ?_⟩
      obtain ⟨m, rfl⟩ : ∃ m, t = k + 1 + m := ⟨t - (k + 1), by omega⟩
      rw [show k + 1 + m - k = m + 1 by omega]
      rw [show k + 1 + m - (k + 1) = m by omega] at h2
      simpa using h2
theorem enterA {P : Program} {f n : Nat} {fn : Func} {c : Code} {args : List Value} {Xr : RX} {A : Res} {R : Value → Res → List Res → Prop} (hf : P.funcs[f]? = some fn) (hb : fn.body = some c) (hn : fn.ntmps = n)
    (hl : Nat.ble args.length n = true) (h : ∀ F w, Xr.reads w F → T P n F w (argsE 0 args) [A] c (bodyPost P fn (Post R F w))) : SpecX P f args.toArray Xr A R :=
  enterX hf hb hn (by simpa using hl) (fun t v hv => by simpa using (argsE_get args 0 t v hv).2) h
end Go.Proofs.Ytpiiopppbgpbpaa.Sl
namespace Go.Proofs.Ytpiiopppbgpbpaa.Sl
open Go.RowKit
set_option linter.unusedVariables false
set_option linter.unusedSimpArgs false
def ksame : IntKind → IntKind → Bool
  | .i8, .i8 | .i16, .i16 | .i32, .i32 | .i64, .i64 | .u8, .u8 | .u16, .u16 | .u32, .u32 | .u64, .u64 => true
  | _, _ => false
theorem ksame_eq {k k' : IntKind} (h : ksame k k' = true) : k = k' := by cases k <;> cases k' <;> first | rfl | cases h
def cmpV : BinOp → Int → Int → Option Bool
  | .eql, a, b => some (decide (a = b))
  | .neq, a, b => some (!decide (a = b))
  | .lss, a, b => some (decide (a < b))
  | .leq, a, b => some (decide (a ≤ b))
  | .gtr, a, b => some (decide (a > b))
  | .geq, a, b => some (decide (a ≥ b))
  | _, _, _ => none
def FTab := List (Nat × Nat × Nat)
def FTab.get : FTab → Nat → Nat → Option Nat
  | [], _, _ => none
  | (s, f, o) :: r, s', f' => match Nat.beq s s' with
    | true => match Nat.beq f f' with
      | true => some o
      | false => FTab.get r s' f'
    | false => FTab.get r s' f'
def FOK (P : Program) (s f o : Nat) : Prop := ∀ (a : Addr) (w : World), (Instr.fieldAt s (.pointer (some a)) f).run P w = .ok (.pointer (some (a.add o))) w
def FTab.OK (P : Program) : FTab → Prop
  | [] => True
  | (s, f, o) :: r => FOK P s f o ∧ FTab.OK P r
theorem FTab.OK.get {P : Program} : ∀ {t : FTab}, t.OK P → ∀ {s f o}, t.get s f = some o → FOK P s f o
  | [], _, s, f, o, h => by simp [FTab.get] at h
  | (s0, f0, o0) :: r, ⟨h1, h2⟩, s, f, o, h => by
    simp only [FTab.get] at h
    cases hb : Nat.beq s0 s with
    | true =>
      rw [hb] at h
      cases hc : Nat.beq f0 f with
      | true =>
        rw [hc] at h
        obtain rfl := Nat.eq_of_beq_eq_true hb
        obtain rfl := Nat.eq_of_beq_eq_true hc
        injection h with h
        subst h
        exact h1
      | false => rw [hc] at h; exact FTab.OK.get h2 h
    | false => rw [hb] at h; exact FTab.OK.get h2 h
theorem FOK.mk {P : Program} {s f : Nat} {fs : Array Field} {fl : Field} {k : Nat} (hu : ∀ w, (underlying s).run P w = .ok (.struct fs) w) (hf : fs[f]? = some fl) (hz : ∀ w, (sizeOf fl.type).run P w = .ok (k + 1) w) {o : Nat} (ho : fl.offset = o) : FOK P s f o := by
  intro a w
  subst ho
  simp [Instr.fieldAt, hu, hf, Instr.sureAddr, fieldPlace, hz]
def pureV (ft : FTab) (e : Env) : Op → Option Value
  | .move x => e.ev x
  | .assign x => e.ev x
  | .extract x i => match e.ev x with
    | some (.tuple vs) => vs[i]?
    | _ => none
  | .unOp .not _ x => match e.ev x with
    | some (.bool b) => some (.bool (!b))
    | _ => none
  | .nilCheck x => match e.ev x with
    | some (.pointer (some a)) => some (.pointer (some a))
    | _ => none
  | .fieldAddr s x f => match e.ev x with
    | some (.pointer (some ⟨g, o, none⟩)) => match ft.get s f with
      | some k => some (.pointer (some ⟨g, o + k, none⟩))
      | none => none
    | _ => none
  | .binOp op _ x y _ => match e.ev x with
    | some (.int k a) => match e.ev y with
      | some (.int k' b) => match ksame k k' with
        | true => match cmpV op a b with
          | some r => some (.bool r)
          | none => none
        | false => none
      | _ => none
    | _ => none
  | _ => none
theorem cmpV_run {P : Program} {w : World} {op : BinOp} {a b : Int} {r : Bool} (h : cmpV op a b = some r) : (Op.intCmp op a b).run P w = .ok (.bool r) w := by
  cases op <;> cases h <;> rfl
theorem cmp_run {P : Program} {w : World} {op : BinOp} {k : IntKind} {a b : Int} {r : Bool} {t : TypeId} {x y : Operand} (h : cmpV op a b = some r) :
    (do eqGuard op t x y (.int k a) (.int k b); binOp op t (.int k a) (.int k b) : Sem Value).run P w = .ok (.bool r) w := by
  have h1 := cmpV_run (P := P) (w := w) h
  cases op <;> cases h <;> simpa [eqGuard, binOp] using h1
theorem pureV_run {P : Program} {n : Nat} {ft : FTab} {e : Env} {S : World → Prop} {d : Option Tmp} {op : Op} {ty : TypeId} {pos : String} {af : Array Edge} {g : Option (Nat × Bool)} {v : Value} (hft : ft.OK P) (h : pureV ft e op = some v) : Ex P n e S ⟨d, op, ty, pos, af, g⟩ v := by
  intro a w ha _
  unfold pureV at h
  split at h
  · simp [execOp, ha.ev h]
  · simp [execOp, ha.ev h]
  · split at h
    · rename_i vs hx
      simp [execOp, ha.ev hx, Instr.extract, h]
    · cases h
  · split at h
    · rename_i b hx
      injection h with h
      subst h
      simp [execOp, ha.ev hx, Op.unary]
    · cases h
  · split at h
    · rename_i p hx
      injection h with h
      subst h
      simp [execOp, ha.ev hx]
    · cases h
  · split at h
    · rename_i g' o' hx
      split at h
      · rename_i k hk
        injection h with h
        subst h
        have h1 := hft.get hk ⟨g', o', none⟩ w
        have h2 : (⟨g', o', none⟩ : Addr).add k = ⟨g', o' + k, none⟩ := by unfold Addr.add; split <;> simp_all
        simp [execOp, ha.ev hx, h1, h2]
      · cases h
    · cases h
  · split at h
    · rename_i k x hx
      split at h
      · rename_i k' y hy
        split at h
        · rename_i hk
          split at h
          · rename_i r hr
            injection h with h
            subst h
            obtain rfl := ksame_eq hk
            have h1 := cmpV_run (P := P) (w := w) hr
            simp only [execOp, ha.ev hx, ha.ev hy, Sem.run_bind]
            have h2 := fun t x y => cmp_run (P := P) (w := w) (k := k) (t := t) (x := x) (y := y) hr
            simp only [Sem.run_bind] at h2
            rw [h2]
            rfl
          · cases h
        · cases h
      · cases h
    · cases h
  · cases h
def runV (ft : FTab) (n : Nat) (ops : Array Oper) : Env → List Nat → Option Env
  | e, [] => some e
  | e, i :: is => match ops[i]? with
    | some ⟨some d, op, _, _, _, none⟩ => match Nat.blt d n with
      | true => match pureV ft e op with
        | some v => runV ft n ops ((d, v) :: e) is
        | none => none
      | false => none
    | _ => none
section
variable {P : Program} {n : Nat} {F0 : Nat → Prop} {w0 : World} {e e' : Env} {Rs Rf : List Res} {Q : Exit → Act → World → Prop} {ops : Array Oper} {ft : FTab}
theorem TL.run_ (hft : ft.OK P) : ∀ (is : List Nat) {e e' : Env} {l : List Nat}, runV ft n ops e is = some e' → TL P n F0 w0 ops l e' Rs Q → TL P n F0 w0 ops (is ++ l) e Rs Q
  | [], e, e', l, h, k => by
    injection h with h
    subst h
    exact k
  | i :: is, e, e', l, h, k => by
    unfold runV at h
    split at h
    · rename_i ho
      split at h
      · rename_i hd
        split at h
        · rename_i v hv
          exact TL.q ho .u (pureV_run hft hv) hd (TL.run_ hft is h k)
        · cases h
      · cases h
    · cases h
def Sch.qs : List Nat → Sch → Sch
  | [], s => s
  | i :: is, s => .q i (Sch.qs is s)
theorem TD.run_ (hft : ft.OK P) : ∀ (is : List Nat) {e e' : Env} {l : Sch}, runV ft n ops e is = some e' → TD P n F0 w0 ops l Rf e' Rs Q → TD P n F0 w0 ops (Sch.qs is l) Rf e Rs Q
  | [], e, e', l, h, k => by
    injection h with h
    subst h
    exact k
  | i :: is, e, e', l, h, k => by
    unfold runV at h
    split at h
    · rename_i ho
      split at h
      · rename_i hd
        split at h
        · rename_i v hv
          exact TD.q ho .u (pureV_run hft hv) hd (TD.run_ hft is h k)
        · cases h
      · cases h
    · cases h
theorem TL.run (hft : ft.OK P) (is : List Nat) {l l' : List Nat} (hl : l = is ++ l') (h : runV ft n ops e is = some e') (k : TL P n F0 w0 ops l' e' Rs Q) : TL P n F0 w0 ops l e Rs Q := hl ▸ TL.run_ hft is h k
theorem TD.run (hft : ft.OK P) (is : List Nat) {l l' : Sch} (hl : l = Sch.qs is l') (h : runV ft n ops e is = some e') (k : TD P n F0 w0 ops l' Rf e' Rs Q) : TD P n F0 w0 ops l Rf e Rs Q := hl ▸ TD.run_ hft is h k
end
end Go.Proofs.Ytpiiopppbgpbpaa.Sl
namespace Go.Proofs.Ytpiiopppbgpbpaa.Sl
open Go.RowKit
set_option linter.unusedVariables false
set_option linter.unusedSimpArgs false
section
variable {P : Program} {n : Nat} {F0 : Nat → Prop} {w0 : World} {e : Env} {Rs : List Res} {S : World → Prop} {d : Option Tmp} {ty : TypeId} {pos : String} {af : Array Edge} {gd : Option (Nat × Bool)} {v : Value} {x y ix : Operand} {t t' el : TypeId}
theorem Ex.ft {ft : FTab} {op : Op} (hft : ft.OK P) (h : pureV ft e op = some v) : Ex P n e S ⟨d, op, ty, pos, af, gd⟩ v := pureV_run hft h
theorem Ex.lenS {A : Option Addr} {m c : Nat} (hx : e.ev x = some (.slice A m c)) (hu : ∀ w, (underlying t).run P w = .ok (.slice el) w) : Ex P n e S ⟨d, .call ⟨.builtin .len, #[x], #[t]⟩, ty, pos, af, gd⟩ (.int .i64 (m : Int)) := by
  intro a w ha _
  simp [execOp, resolve, invoke, builtin, ha.ev hx, Builtin.len_, hu, goInt]
theorem Ex.lenB {l : List UInt8} (hx : e.ev x = some (.string (bsOf l))) (hu : ∀ w, (underlying t).run P w = .ok .string w) : Ex P n e S ⟨d, .call ⟨.builtin .len, #[x], #[t]⟩, ty, pos, af, gd⟩ (.int .i64 (l.length : Int)) := by
  intro a w ha _
  simp [execOp, resolve, invoke, builtin, ha.ev hx, Builtin.len_, hu, goInt, bsOf_size]
theorem Ex.add {p q : Int} (hx : e.ev x = some (.int .i64 p)) (hy : e.ev y = some (.int .i64 q)) (h : -9223372036854775808 ≤ p + q ∧ p + q ≤ 9223372036854775807) : Ex P n e S ⟨d, .binOp .add t x y t', ty, pos, af, gd⟩ (.int .i64 (p + q)) := by
  intro a w ha _
  simp [execOp, ha.ev hx, ha.ev hy, eqGuard, binOp, Op.intArith, IntWalk.i64_in _ h]
theorem Ex.sub {p q : Int} (hx : e.ev x = some (.int .i64 p)) (hy : e.ev y = some (.int .i64 q)) (h : -9223372036854775808 ≤ p - q ∧ p - q ≤ 9223372036854775807) : Ex P n e S ⟨d, .binOp .sub t x y t', ty, pos, af, gd⟩ (.int .i64 (p - q)) := by
  intro a w ha _
  simp [execOp, ha.ev hx, ha.ev hy, eqGuard, binOp, Op.intArith, IntWalk.i64_in _ h]
theorem Ex.rem {p q : Int} (hx : e.ev x = some (.int .i64 p)) (hy : e.ev y = some (.int .i64 q)) (hq : 1 ≤ q) (h : 0 ≤ p ∧ p ≤ 9223372036854775807) : Ex P n e S ⟨d, .binOp .rem t x y t', ty, pos, af, gd⟩ (.int .i64 (p % q)) := by
  intro a w ha _
  have h0 : ¬ q = 0 := by omega
  simp [execOp, ha.ev hx, ha.ev hy, eqGuard, binOp, Op.intDiv, h0, IntWalk.rem_in _ _ h.1]
theorem Ex.conv {k k' : IntKind} {p : Int} (hx : e.ev x = some (.int k' p)) (hs : ∀ w, (underlying t).run P w = .ok (.int k') w) (hu : ∀ w, (underlying t').run P w = .ok (.int k) w) : Ex P n e S ⟨d, .convert t t' x, ty, pos, af, gd⟩ (.int k (k.wrap p)) := by
  intro a w ha _
  simp [execOp, ha.ev hx, convert, hs, hu, Conv.intToInt]
theorem Ex.conv64 {p : Int} {k' : IntKind} (hx : e.ev x = some (.int k' p)) (hs : ∀ w, (underlying t).run P w = .ok (.int k') w) (hu : ∀ w, (underlying t').run P w = .ok (.int .i64) w) (h : -9223372036854775808 ≤ p ∧ p ≤ 9223372036854775807) : Ex P n e S ⟨d, .convert t t' x, ty, pos, af, gd⟩ (.int .i64 p) := by
  have := Ex.conv (P := P) (n := n) (S := S) (d := d) (ty := ty) (pos := pos) (af := af) (gd := gd) hx hs hu
  rwa [IntWalk.i64_in _ h] at this
theorem Ex.py {c : Operand} {b : Bool} (hc : e.ev c = some (.bool b)) (hb : b = true) (hx : e.ev x = some v) : Ex P n e S ⟨d, .pick c x y, ty, pos, af, gd⟩ v := by
  intro a w ha _
  subst hb
  simp [execOp, ha.ev hc, ha.ev hx, asBool]
theorem Ex.pn {c : Operand} {b : Bool} (hc : e.ev c = some (.bool b)) (hb : b = false) (hy : e.ev y = some v) : Ex P n e S ⟨d, .pick c x y, ty, pos, af, gd⟩ v := by
  intro a w ha _
  subst hb
  simp [execOp, ha.ev hc, ha.ev hy, asBool]
theorem Ex.sEq {l m : List UInt8} (hx : e.ev x = some (.string (bsOf l))) (hy : e.ev y = some (.string (bsOf m))) : Ex P n e S ⟨d, .binOp .eql t x y t', ty, pos, af, gd⟩ (.bool (decide (l = m))) := by
  intro a w ha _
  have : (l == m) = decide (l = m) := by by_cases h : l = m <;> simp [h]
  simp [execOp, ha.ev hx, ha.ev hy, eqGuard, binOp_string_eql, bsOf_toList, this]
theorem Ex.sNe {l m : List UInt8} (hx : e.ev x = some (.string (bsOf l))) (hy : e.ev y = some (.string (bsOf m))) : Ex P n e S ⟨d, .binOp .neq t x y t', ty, pos, af, gd⟩ (.bool (!decide (l = m))) := by
  intro a w ha _
  have : (l == m) = decide (l = m) := by by_cases h : l = m <;> simp [h]
  simp [execOp, ha.ev hx, ha.ev hy, eqGuard, binOp_string_neq, bsOf_toList, this]
theorem Ex.sIx {l : List UInt8} {k : Nat} {i : Int} {c : UInt8} {q : IntKind} (hx : e.ev x = some (.string (bsOf l))) (hi : e.ev ix = some (.int q i)) (hik : i = (k : Int)) (hu : P.underlying t = some .string) (hc : l[k]? = some c) : Ex P n e S ⟨d, .index t x ix, ty, pos, af, gd⟩ (.int .u8 (c.toNat : Int)) := by
  intro a w ha _
  subst hik
  have hk := (List.getElem?_eq_some_iff.1 hc).1
  have h1 : (0 : Int) ≤ (k : Int) ∧ (k : Int) < ((bsOf l).size : Int) := by rw [bsOf_size]; omega
  have h2 : (bsOf l)[k]'(by rw [bsOf_size]; exact hk) = c := by
    have : l[k] = c := (List.getElem?_eq_some_iff.1 hc).2
    show (bsOf l).data[k] = c
    simpa [bsOf] using this
  simp only [execOp, ha.ev hx, ha.ev hi, Sem.run_bind, run_index_string w t (bsOf l) q k hu]
  rw [dif_pos h1]
  simp [h2]
inductive LoOK (e : Env) : Option Operand → Nat → Prop where
  | none : LoOK e none 0
  | some {o : Operand} {k : IntKind} {i : Int} {p : Nat} (h : e.ev o = some (.int k i)) (hi : i = (p : Int)) : LoOK e (some o) p
inductive HiOK (e : Env) (n : Nat) : Option Operand → Nat → Prop where
  | none : HiOK e n none n
  | some {o : Operand} {k : IntKind} {i : Int} {p : Nat} (h : e.ev o = some (.int k i)) (hi : i = (p : Int)) : HiOK e n (some o) p
theorem Ex.sSl {l : List UInt8} {lo hi : Option Operand} {p q : Nat} (hx : e.ev x = some (.string (bsOf l))) (hu : ∀ w, (underlying t).run P w = .ok .string w)
    (hlo : LoOK e lo p) (hhi : HiOK e l.length hi q) (h : p ≤ q ∧ q ≤ l.length) {m : List UInt8} (hm : (l.drop p).take (q - p) = m) :
    Ex P n e S ⟨d, .slice t x lo hi none, ty, pos, af, gd⟩ (.string (bsOf m)) := by
  intro a w ha _
  have e1 : (bsOf l).extract p q = bsOf m := by rw [str_extract, bsOf_list, hm]
  have b1 : ∀ k cd, (Instr.sliceBound (.int k (q : Int)) l.length cd).run P w = .ok q w := by
    intro k cd
    have : (0 : Int) ≤ (q : Int) ∧ (q : Int) ≤ (l.length : Int) := by omega
    simp [Instr.sliceBound, asIntOf, this]
  have b2 : ∀ k cd, (Instr.sliceBound (.int k (p : Int)) q cd).run P w = .ok p w := by
    intro k cd
    have : (0 : Int) ≤ (p : Int) ∧ (p : Int) ≤ (q : Int) := by omega
    simp [Instr.sliceBound, asIntOf, this]
  cases hlo with
  | none =>
    cases hhi with
    | none =>
      obtain rfl : l = m := by simpa using hm
      have e2 : (bsOf l).extract 0 l.length = bsOf l := by simpa using e1
      simp [execOp, ha.ev hx, Instr.sliceAt, Instr.slice, hu, Instr.sliceBounds, bsOf_size, e2]
    | some ho hi =>
      subst hi
      simp [execOp, ha.ev hx, ha.ev ho, Instr.sliceAt, Instr.slice, hu, Instr.sliceBounds, bsOf_size, b1, e1]
  | some ho hi =>
    subst hi
    cases hhi with
    | none =>
      simp [execOp, ha.ev hx, ha.ev ho, Instr.sliceAt, Instr.slice, hu, Instr.sliceBounds, bsOf_size, b2, e1]
    | some ho' hi' =>
      subst hi'
      simp [execOp, ha.ev hx, ha.ev ho, ha.ev ho', Instr.sliceAt, Instr.slice, hu, Instr.sliceBounds, bsOf_size, b1, b2, e1]
theorem Ex.ixS {g o m c z k : Nat} {i : Int} {q : IntKind} (hx : e.ev x = some (.slice (some ⟨g, o, none⟩) m c)) (hi : e.ev ix = some (.int q i)) (hik : i = (k : Int)) (hu : ∀ w, (underlying t).run P w = .ok (.slice el) w) (hz : ∀ w, (sizeOf el).run P w = .ok z w) (hk : k < m) :
    Ex P n e S ⟨d, .indexAddr t x ix, ty, pos, af, gd⟩ (.pointer (some ⟨g, o + k * z, none⟩)) := by
  intro a w ha _
  subst hik
  have h1 : (0 : Int) ≤ (k : Int) ∧ (k : Int) < (m : Int) := by omega
  have h2 : (⟨g, o, none⟩ : Addr).add (k * z) = ⟨g, o + k * z, none⟩ := by unfold Addr.add; split <;> simp_all
  have h3 : (Instr.indexAt t (.slice (some ⟨g, o, none⟩) m c) (.int q (k : Int))).run P w = .ok (.pointer (some ⟨g, o + k * z, none⟩)) w := by
    simp only [Instr.indexAt, asIntOf, Sem.run_bind, Sem.run_pure, Result.andThen_ok, hu]
    rw [if_pos h1]
    simp [hz, h2]
  simp [execOp, ha.ev hx, ha.ev hi, h3]
theorem run_loadVar1 {w : World} {ad : Addr} (ha : ∀ w, (isAgg t).run P w = .ok false w) (hc : w.cell? ad = some v) : (loadVar t ad).run P w = .ok v w := by
  simp [loadVar, ha, hc]
theorem run_loadVarS {w : World} {ad : Addr} {cs : List Value} (ha : ∀ w, (isAgg t).run P w = .ok true w) (hz : ∀ w, (sizeOf t).run P w = .ok cs.length w) (hc : ∀ j u, cs[j]? = some u → w.cell? (ad.add j) = some u) : (loadVar t ad).run P w = .ok (.agg cs.toArray) w := by
  simp [loadVar, ha, hz, run_loadCells_list w ad cs hc]
theorem Ex.ld1 {ad : Addr} (hx : e.ev x = some (.pointer (some ad))) (ha : ∀ w, (isAgg t).run P w = .ok false w) (hc : ∀ w, S w → w.cell? ad = some v) : Ex P n e S ⟨d, .load t x, ty, pos, af, gd⟩ v := by
  intro a w h hs
  simp [execOp, h.ev hx, Instr.loadAt, Instr.sureAddr, run_loadVar1 ha (hc w hs)]
theorem Ex.ldS {ad : Addr} {cs : List Value} {z : Nat} (hx : e.ev x = some (.pointer (some ad))) (ha : ∀ w, (isAgg t).run P w = .ok true w) (hz : ∀ w, (sizeOf t).run P w = .ok z w) (hl : cs.length = z) (hc : ∀ w, S w → ∀ j u, cs[j]? = some u → w.cell? (ad.add j) = some u) : Ex P n e S ⟨d, .load t x, ty, pos, af, gd⟩ (.agg cs.toArray) := by
  intro a w h hs
  subst hl
  simp [execOp, h.ev hx, Instr.loadAt, Instr.sureAddr, run_loadVarS ha hz (hc w hs)]
theorem Ex.b1 (i : Nat) {b o : Nat} {T : TypeId} {cs : Array Value} (hx : e.ev x = some (.pointer (some ⟨b, o, none⟩))) (ha : ∀ w, (isAgg t).run P w = .ok false w) (hi : Rs[i]? = some (BlkR b T cs)) (hv : cs[o]? = some v) : Ex P n e (St F0 w0 Rs) ⟨d, .load t x, ty, pos, af, gd⟩ v :=
  Ex.ld1 hx ha (fun w hw => (heap_at (hw.blk i hi) o).trans hv)
theorem Ex.bS (i : Nat) {b o z : Nat} {T : TypeId} {cs : Array Value} {us : List Value} (hx : e.ev x = some (.pointer (some ⟨b, o, none⟩))) (ha : ∀ w, (isAgg t).run P w = .ok true w) (hz : ∀ w, (sizeOf t).run P w = .ok z w) (hi : Rs[i]? = some (BlkR b T cs))
    (hv : (cs.toList.drop o).take z = us) (hl : Nat.beq us.length z = true) : Ex P n e (St F0 w0 Rs) ⟨d, .load t x, ty, pos, af, gd⟩ (.agg us.toArray) := by
  refine Ex.ldS hx ha hz (Nat.eq_of_beq_eq_true hl) (fun w hw j u hj => ?_)
  have h2 : (⟨b, o, none⟩ : Addr).add j = ⟨b, o + j, none⟩ := by unfold Addr.add; split <;> simp_all
  rw [h2, heap_at (hw.blk i hi)]
  subst hv
  rw [List.getElem?_take] at hj
  split at hj
  · rw [List.getElem?_drop] at hj
    simpa using hj
  · cases hj
theorem Ex.o1 {g q z : Nat} (j : Nat) {cs : List Value} (hx : e.ev x = some (.pointer (some ⟨g, q + j, none⟩))) (ha : ∀ w, (isAgg t).run P w = .ok false w) (nf : ¬ F0 g ∧ g < w0.heap.size) (hc : ∀ j, j < z → w0.cell? ⟨g, q + j, none⟩ = cs[j]?) (hj : Nat.blt j z = true) (hv : cs[j]? = some v) :
    Ex P n e (St F0 w0 Rs) ⟨d, .load t x, ty, pos, af, gd⟩ v :=
  Ex.ld1 hx ha (fun w hw => hw.old2 nf ((hc j (by simpa [Nat.blt_eq] using hj)).trans hv))
theorem Ex.oS {g q z z' : Nat} (k : Nat) {cs us : List Value} (hx : e.ev x = some (.pointer (some ⟨g, q + k, none⟩))) (ha : ∀ w, (isAgg t).run P w = .ok true w) (hz : ∀ w, (sizeOf t).run P w = .ok z' w) (nf : ¬ F0 g ∧ g < w0.heap.size) (hc : ∀ j, j < z → w0.cell? ⟨g, q + j, none⟩ = cs[j]?) (hcl : cs.length = z)
    (hv : (cs.drop k).take z' = us) (hl : Nat.beq us.length z' = true) : Ex P n e (St F0 w0 Rs) ⟨d, .load t x, ty, pos, af, gd⟩ (.agg us.toArray) := by
  refine Ex.ldS hx ha hz (Nat.eq_of_beq_eq_true hl) (fun w hw j u hj => ?_)
  have h2 : (⟨g, q + k, none⟩ : Addr).add j = ⟨g, q + (k + j), none⟩ := by unfold Addr.add; split <;> simp_all [Nat.add_assoc]
  rw [h2]
  subst hv
  rw [List.getElem?_take] at hj
  split at hj
  · rw [List.getElem?_drop] at hj
    have hlt := (List.getElem?_eq_some_iff.1 hj).1
    exact hw.old2 nf ((hc (k + j) (by omega)).trans hj)
  · cases hj
def BOK (P : Program) (t : TypeId) (zs : Array Value) (pl : List (Nat × Nat)) : Prop := ∀ (parts : Array (Nat × Value)) (cells : Array Value) (w : World), Instr.fill (pl[·]?) zs parts.toList = some cells → (Instr.build t parts).run P w = .ok (.agg cells) w
theorem Ex.pNe {ad : Addr} {b : Bool} {op : BinOp} (hop : op = .eql ∧ b = false ∨ op = .neq ∧ b = true) (hx : e.ev x = some (.pointer (some ad))) (hy : e.ev y = some (.pointer none)) (hu : ∀ w, (underlying t).run P w = .ok (.pointer el) w) : Ex P n e S ⟨d, .binOp op t x y t', ty, pos, af, gd⟩ (.bool b) := by
  intro a w ha _
  have h1 : ∀ k, (Op.equalIn (k + 1) t (.pointer (some ad)) (.pointer none)).run P w = .ok false w := by
    intro k
    simp only [Op.equalIn, Sem.run_bind, hu, Result.andThen_ok]
    rfl
  have h2 : (Op.equal t (.pointer (some ad)) (.pointer none)).run P w = .ok false w := h1 9999
  have h3 : ∀ b', (do pure (.bool (b' != (← Op.equal t (.pointer (some ad)) (.pointer none)))) : Sem Value).run P w = .ok (.bool b') w := by
    intro b'
    simp [h2]
  rcases hop with ⟨rfl, rfl⟩ | ⟨rfl, rfl⟩
  · have h4 : (binOp .eql t (.pointer (some ad)) (.pointer none)).run P w = .ok (.bool false) w := by
      simp only [binOp, Sem.run_bind, h2, Result.andThen_ok, Sem.run_pure]
    simp [execOp, ha.ev hx, ha.ev hy, eqGuard, h4]
  · have h4 : (binOp .neq t (.pointer (some ad)) (.pointer none)).run P w = .ok (.bool true) w := by
      simp only [binOp, Sem.run_bind, h2, Result.andThen_ok, Sem.run_pure]
      rfl
    simp [execOp, ha.ev hx, ha.ev hy, eqGuard, h4]
end
end Go.Proofs.Ytpiiopppbgpbpaa.Sl
namespace Go.Proofs.Ytpiiopppbgpbpaa.Sl
open Go.RowKit
set_option linter.unusedVariables false
set_option linter.unusedSimpArgs false
def envput : Option Nat → Value → Env → Env
  | none, _, e => e
  | some d, v, e => (d, v) :: e
def okd : Option Nat → Nat → Bool
  | none, _ => true
  | some d, n => Nat.blt d n
section
variable {P : Program} {n : Nat} {F0 : Nat → Prop} {w0 : World} {e : Env} {Rs : List Res} {d : Option Tmp} {ty : TypeId} {pos : String} {af : Array Edge} {gd : Option (Nat × Bool)} {v : Value} {x y : Operand} {t t' el : TypeId}
theorem Has.putd {a : Act} (h : Has n e a) (hd : okd d n = true) : Has n (envput d v e) (a.put d v) := by
  cases d with
  | none => exact h
  | some d => exact h.put hd
theorem St.setRowS {b : Nat} {T : TypeId} {cs cs' : Array Value} {w : World} (i : Nat) (h : St F0 w0 Rs w) (hi : Rs[i]? = some (BlkR b T cs)) : St F0 w0 (Rs.set i (BlkR b T cs')) (w.setRow b cs') := by
  refine h.step i hi (Ns := []) (fun G hG => ⟨⟨rfl, rfl, rfl, by simp [World.setRow], fun k hk hn => setRow_other w b k cs' (fun e => hn (e ▸ (hG.2 b).2 rfl))⟩, G, ⟨setRow_heap w b cs cs' T (0, 0) hG.1, hG.2⟩, fun k hk => .inl hk, trivial⟩)
theorem Ef.alloc {zv : Value} (hz : ∀ w, (zeroValue t).run P w = .ok zv w) (hd : okd d n = true) : Ef P n F0 w0 e Rs ⟨d, .alloc t, ty, pos, af, gd⟩ (fun e' Rs' => ∃ b, e' = envput d (.pointer (some ⟨b, 0, none⟩)) e ∧ Rs' = BlkR b t zv.cells :: Rs) := by
  intro a w K Q ha hs hk
  have h1 : (execOp a.eval ⟨d, .alloc t, ty, pos, af, gd⟩).run P w = .ok (.value (.pointer (some ⟨w.heap.size, 0, none⟩))) (w.alloc (.cells zv.cells t)) := by
    simp [execOp, Instr.alloc, hz, newVar, newRow, newObj]
    rfl
  unfold Oper.wp
  rw [h1]
  exact hk _ _ ⟨_, rfl, rfl⟩ _ _ (ha.putd hd) (hs.alloc _ _)
theorem Ef.box (hx : e.ev x = some v) (hd : okd d n = true) : Ef P n F0 w0 e Rs ⟨d, .box t x, ty, pos, af, gd⟩ (fun e' Rs' => ∃ b, e' = envput d (.pointer (some ⟨b, 0, none⟩)) e ∧ Rs' = BlkR b t v.cells :: Rs) := by
  intro a w K Q ha hs hk
  have h1 : (execOp a.eval ⟨d, .box t x, ty, pos, af, gd⟩).run P w = .ok (.value (.pointer (some ⟨w.heap.size, 0, none⟩))) (w.alloc (.cells v.cells t)) := by
    simp [execOp, ha.ev hx, Instr.box, newVar, newRow, newObj]
    rfl
  unfold Oper.wp
  rw [h1]
  exact hk _ _ ⟨_, rfl, rfl⟩ _ _ (ha.putd hd) (hs.alloc _ _)
theorem Ef.st (i : Nat) {b o z : Nat} {T : TypeId} {cs cs' : Array Value} (hx : e.ev x = some (.pointer (some ⟨b, o, none⟩))) (hy : e.ev y = some v) (hz : ∀ w, (sizeOf t).run P w = .ok z w) (hi : Rs[i]? = some (BlkR b T cs))
    (hvz : Nat.beq v.cells.size z = true) (hf : Nat.ble (o + v.cells.size) cs.size = true) (ho : v.cells.toList.all (·.oneCell') = true) (hc : (cs.toList.take o ++ v.cells.toList ++ cs.toList.drop (o + v.cells.size)).toArray = cs') :
    Ef P n F0 w0 e Rs ⟨none, .store t x y, ty, pos, af, gd⟩ (fun e' Rs' => e' = e ∧ Rs' = Rs.set i (BlkR b T cs')) := by
  intro a w K Q ha hs hk
  have hb := hs.blk i hi
  have hvz' := Nat.eq_of_beq_eq_true hvz
  have hf' := Nat.le_of_ble_eq_true hf
  have h2 := run_storeCells_at (P := P) b o T v.cells.toList 0 cs w hb (by simpa using hf') (List.all_eq_true.1 ho)
  have h1 : (execOp a.eval ⟨none, .store t x y, ty, pos, af, gd⟩).run P w = .ok .skip (w.setRow b cs') := by
    simp only [Nat.add_zero, Array.length_toList] at h2
    rw [hc] at h2
    simp [execOp, ha.ev hx, ha.ev hy, Instr.storeAt, Instr.sureAddr, storeVar, hz, hvz', h2]
  unfold Oper.wp
  rw [h1]
  exact hk _ _ ⟨rfl, rfl⟩ _ _ (ha.put0) (hs.setRowS i hi)
def CT (P : Program) (n : Nat) (e : Env) (o : Oper) (f : FuncId) (us : List Value) : Prop := ∀ a w, Has n e a → (execOp a.eval o).run P w = .ok (.enter f us.toArray) w
theorem CT.fn {f : FuncId} {xs : List Operand} {vs : List Value} {ts : Array TypeId} (hc : ∀ args w, (callFunc f args).run P w = .ok (.enter f args) w) (hv : e.evs xs = some vs) : CT P n e ⟨d, .call ⟨.value (.func f), xs.toArray, ts⟩, ty, pos, af, gd⟩ f vs := by
  intro a w ha
  simp [execOp, resolve, Act.eval, Deferred.ofValue, invoke, List.map_toArray, ha.evs hv, hc]
theorem CT.val {f : FuncId} {x : Operand} {xs : List Operand} {vs us fs cs : List Value} {ts : Array TypeId} (hx : e.ev x = some (.func (.func f) fs.toArray cs.toArray)) (hc : ∀ args w, (callFunc f args).run P w = .ok (.enter f args) w) (hv : e.evs xs = some vs) (hu : fs ++ vs ++ cs = us) : CT P n e ⟨d, .call ⟨.value x, xs.toArray, ts⟩, ty, pos, af, gd⟩ f us := by
  intro a w ha
  subst hu
  simp [execOp, resolve, ha.ev hx, Deferred.ofValue, invoke, List.map_toArray, ha.evs hv, hc]
theorem Ef.call (i : Nat) {op : Op} {f : FuncId} {vs : List Value} {A : Res} {Y : RX} {R : Value → Res → List Res → Prop} (hc : CT P n e ⟨d, op, ty, pos, af, gd⟩ f vs) (hi : Rs[i]? = some A)
    (hs : SpecX P f vs.toArray Y A R) (hr : ∀ w, St F0 w0 Rs w → Src F0 w0 Rs w i Y) (hd : okd d n = true) :
    Ef P n F0 w0 e Rs ⟨d, op, ty, pos, af, gd⟩ (fun e' Rs' => ∃ v A' N, R v A' N ∧ e' = envput d v e ∧ Rs' = N ++ Rs.set i A') := by
  intro a w K Q ha hst hk
  unfold Oper.wp
  rw [hc a w ha]
  refine (hst.callX i hi hs (hr w hst)).mono ?_
  rintro x w' ⟨v, A', N, rfl, hq, hst'⟩
  exact hk _ _ ⟨v, A', N, hq, rfl, rfl⟩ _ _ (ha.putd hd) hst'
theorem Ef.callE {op : Op} {f : FuncId} {vs : List Value} {Y : RX} {R : Value → Res → List Res → Prop} (hc : CT P n e ⟨d, op, ty, pos, af, gd⟩ f vs)
    (hs : SpecX P f vs.toArray Y EmpR R) (hr : ∀ w, St F0 w0 Rs w → Y.reads w (fun _ => False)) (hd : okd d n = true) :
    Ef P n F0 w0 e Rs ⟨d, op, ty, pos, af, gd⟩ (fun e' Rs' => ∃ v A' N, R v A' N ∧ e' = envput d v e ∧ Rs' = N ++ Rs) := by
  intro a w K Q ha hst hk
  unfold Oper.wp
  rw [hc a w ha]
  refine (hst.callE hs (hr w hst)).mono ?_
  rintro x w' ⟨v, A', N, rfl, hq, hst'⟩
  exact hk _ _ ⟨v, A', N, hq, rfl, rfl⟩ _ _ (ha.putd hd) hst'
def SOK (P : Program) (t T : TypeId) (m z : Nat) (zs : Array Value) : Prop := ∀ (parts : Array (Nat × Value)) (cells : Array Value) (w : World), Instr.fill (fun i => some (i * z, z)) zs parts.toList = some cells → (Instr.buildSlice t m parts).run P w = .ok (.slice (some ⟨w.heap.size, 0, none⟩) m m) (w.alloc (.cells cells T))
theorem Ef.lit {T m z : Nat} {zs cells : Array Value} {ps : List (Nat × Operand)} {vs : List Value} (hB : SOK P t T m z zs) (hv : e.evs (ps.map (·.2)) = some vs) (hf : Instr.fill (fun i => some (i * z, z)) zs ((ps.map (·.1)).zip vs) = some cells) (hd : okd d n = true) :
    Ef P n F0 w0 e Rs ⟨d, .buildSlice t m ps.toArray, ty, pos, af, gd⟩ (fun e' Rs' => ∃ b, e' = envput d (.slice (some ⟨b, 0, none⟩) m m) e ∧ Rs' = BlkR b T cells :: Rs) := by
  intro a w K Q ha hs hk
  have h1 := ha.evs hv
  have h2 : ps.map (fun p => (p.1, a.eval p.2)) = (ps.map (·.1)).zip vs := by
    rw [← h1]
    clear h1 hf hv
    induction ps with
    | nil => rfl
    | cons p ps ih => simp [ih]
  have h3 := hB (ps.map (fun p => (p.1, a.eval p.2))).toArray cells w (by simpa [h2] using hf)
  unfold Oper.wp
  simp only [execOp, List.map_toArray, Sem.run_bind]
  rw [h3]
  exact hk _ _ ⟨_, rfl, rfl⟩ _ _ (ha.putd hd) (hs.alloc _ _)
theorem St.rowOf {α : Type} {E : Rd α} {b T z m : Nat} {us : List Value} {l : List α} {w : World} (h : St F0 w0 (BlkR b T us.toArray :: Rs) w) (hm : l.length = m) (hmm : m ≤ maxLen) (he : ∀ w, elems z E w (fun _ => False) us l) :
    St F0 w0 (OwnR T z E (.slice (some ⟨b, 0, none⟩) m m) l :: Rs) w := by
  subst hm
  refine h.weaken 0 rfl (fun G hG => ?_)
  have hl := elems_length (he w)
  refine ⟨us, fun _ => False, ⟨hl, .inr ⟨b, l.length, us.toArray, rfl, Nat.zero_le _, hG.1, Nat.le_refl _, hmm, by simpa using hl, ?_⟩⟩, he w, fun _ h => h.elim, fun _ _ h => h, fun k => ?_⟩
  · simp [← hl]
  · rw [hG.2 k]
    simp [Value.ownBlock, eq_comm]
end
section
variable {P : Program} {n : Nat} {F0 : Nat → Prop} {w0 : World} {e : Env} {Rs Rf : List Res} {Q : Exit → Act → World → Prop} {ops : Array Oper} {i d b o z f T : Nat} {ty t el : TypeId} {pos : String} {af : Array Edge} {gd : Option (Nat × Bool)} {v zv : Value} {x y : Operand} {l : List Nat} {xs : List Operand} {vs : List Value} {ts : Array TypeId} {Y : RX} {A B : Res} {R : Value → Res → List Res → Prop} {c : Code} {cl : Call}
theorem TL.rowOf {α : Type} {E : Rd α} {m : Nat} {us : List Value} {xs : List α} (hm : xs.length = m) (hmm : m ≤ maxLen) (he : ∀ w, elems z E w (fun _ => False) us xs) (h : TL P n F0 w0 ops l e (OwnR T z E (.slice (some ⟨b, 0, none⟩) m m) xs :: Rs) Q) : TL P n F0 w0 ops l e (BlkR b T us.toArray :: Rs) Q := fun a w ha hs => h a w ha (hs.rowOf hm hmm he)
theorem TD.rowOf {α : Type} {E : Rd α} {m : Nat} {us : List Value} {xs : List α} {l : Sch} (hm : xs.length = m) (hmm : m ≤ maxLen) (he : ∀ w, elems z E w (fun _ => False) us xs) (h : TD P n F0 w0 ops l Rf e (OwnR T z E (.slice (some ⟨b, 0, none⟩) m m) xs :: Rs) Q) : TD P n F0 w0 ops l Rf e (BlkR b T us.toArray :: Rs) Q := fun a w ha hs => h a w ha (hs.rowOf hm hmm he)
theorem TL.alloc  (ho : ops[i]? = some ⟨some d, .alloc t, ty, pos, af, gd⟩) (hw : Wd n ops e ⟨some d, .alloc t, ty, pos, af, gd⟩ true) (hz : ∀ w, (zeroValue t).run P w = .ok zv w) (hd : Nat.blt d n = true) (h : ∀ b, TL P n F0 w0 ops l ((d, .pointer (some ⟨b, 0, none⟩)) :: e) (BlkR b t zv.cells :: Rs) Q) : TL P n F0 w0 ops (i :: l) e Rs Q := by
  refine TL.ef ho hw (Ef.alloc hz hd) ?_
  rintro _ _ ⟨b, rfl, rfl⟩
  exact h b
theorem TD.alloc  {l : Sch} (ho : ops[i]? = some ⟨some d, .alloc t, ty, pos, af, gd⟩) (hw : Wd n ops e ⟨some d, .alloc t, ty, pos, af, gd⟩ true) (hz : ∀ w, (zeroValue t).run P w = .ok zv w) (hd : Nat.blt d n = true) (is : List Nat) (hf : ∀ b, Sel (BlkR b t zv.cells :: Rs) is Rf) (h : ∀ b, TD P n F0 w0 ops l Rf ((d, .pointer (some ⟨b, 0, none⟩)) :: e) (BlkR b t zv.cells :: Rs) Q) : TD P n F0 w0 ops (.e i l) Rf e Rs Q := by
  refine TD.ef ho hw (Ef.alloc hz hd) ?_
  rintro _ _ ⟨b, rfl, rfl⟩
  exact ⟨Rf, fun w hw => hw.sel is (hf b), fun _ h => h, h b⟩
theorem TL.box  (ho : ops[i]? = some ⟨some d, .box t x, ty, pos, af, gd⟩) (hw : Wd n ops e ⟨some d, .box t x, ty, pos, af, gd⟩ true) (hx : e.ev x = some v) (hd : Nat.blt d n = true) (h : ∀ b, TL P n F0 w0 ops l ((d, .pointer (some ⟨b, 0, none⟩)) :: e) (BlkR b t v.cells :: Rs) Q) : TL P n F0 w0 ops (i :: l) e Rs Q := by
  refine TL.ef ho hw (Ef.box hx hd) ?_
  rintro _ _ ⟨b, rfl, rfl⟩
  exact h b
theorem TD.box  {l : Sch} (ho : ops[i]? = some ⟨some d, .box t x, ty, pos, af, gd⟩) (hw : Wd n ops e ⟨some d, .box t x, ty, pos, af, gd⟩ true) (hx : e.ev x = some v) (hd : Nat.blt d n = true) (is : List Nat) (hf : ∀ b, Sel (BlkR b t v.cells :: Rs) is Rf) (h : ∀ b, TD P n F0 w0 ops l Rf ((d, .pointer (some ⟨b, 0, none⟩)) :: e) (BlkR b t v.cells :: Rs) Q) : TD P n F0 w0 ops (.e i l) Rf e Rs Q := by
  refine TD.ef ho hw (Ef.box hx hd) ?_
  rintro _ _ ⟨b, rfl, rfl⟩
  exact ⟨Rf, fun w hw => hw.sel is (hf b), fun _ h => h, h b⟩
theorem TL.lit {m : Nat} {zs cells : Array Value} {ps : List (Nat × Operand)} (ho : ops[i]? = some ⟨some d, .buildSlice t m ps.toArray, ty, pos, af, gd⟩) (hw : Wd n ops e ⟨some d, .buildSlice t m ps.toArray, ty, pos, af, gd⟩ true) (hB : SOK P t T m z zs) (hv : e.evs (ps.map (·.2)) = some vs) (hf' : Instr.fill (fun i => some (i * z, z)) zs ((ps.map (·.1)).zip vs) = some cells) (hd : Nat.blt d n = true) (h : ∀ b, TL P n F0 w0 ops l ((d, .slice (some ⟨b, 0, none⟩) m m) :: e) (BlkR b T cells :: Rs) Q) : TL P n F0 w0 ops (i :: l) e Rs Q := by
  refine TL.ef ho hw (Ef.lit hB hv hf' hd) ?_
  rintro _ _ ⟨b, rfl, rfl⟩
  exact h b
theorem TD.lit {m : Nat} {zs cells : Array Value} {ps : List (Nat × Operand)} {l : Sch} (ho : ops[i]? = some ⟨some d, .buildSlice t m ps.toArray, ty, pos, af, gd⟩) (hw : Wd n ops e ⟨some d, .buildSlice t m ps.toArray, ty, pos, af, gd⟩ true) (hB : SOK P t T m z zs) (hv : e.evs (ps.map (·.2)) = some vs) (hf' : Instr.fill (fun i => some (i * z, z)) zs ((ps.map (·.1)).zip vs) = some cells) (hd : Nat.blt d n = true) (is : List Nat) (hf : ∀ b, Sel (BlkR b T cells :: Rs) is Rf) (h : ∀ b, TD P n F0 w0 ops l Rf ((d, .slice (some ⟨b, 0, none⟩) m m) :: e) (BlkR b T cells :: Rs) Q) : TD P n F0 w0 ops (.e i l) Rf e Rs Q := by
  refine TD.ef ho hw (Ef.lit hB hv hf' hd) ?_
  rintro _ _ ⟨b, rfl, rfl⟩
  exact ⟨Rf, fun w hw => hw.sel is (hf b), fun _ h => h, h b⟩
theorem TL.st0 {cs cs' : Array Value}  (ho : ops[i]? = some ⟨none, .store t x y, ty, pos, af, gd⟩) (hw : Wd n ops e ⟨none, .store t x y, ty, pos, af, gd⟩ true) (hx : e.ev x = some (.pointer (some ⟨b, o, none⟩))) (hy : e.ev y = some v) (hz : ∀ w, (sizeOf t).run P w = .ok z w) (hvz : Nat.beq v.cells.size z = true) (hf' : Nat.ble (o + v.cells.size) cs.size = true) (ho' : v.cells.toList.all (·.oneCell') = true) (hc : (cs.toList.take o ++ v.cells.toList ++ cs.toList.drop (o + v.cells.size)).toArray = cs') (h : TL P n F0 w0 ops l e (BlkR b T cs' :: Rs) Q) : TL P n F0 w0 ops (i :: l) e (BlkR b T cs :: Rs) Q := by
  refine TL.ef ho hw (Ef.st 0 hx hy hz rfl hvz hf' ho' hc) ?_
  rintro _ _ ⟨rfl, rfl⟩
  exact h
theorem TD.st0 {cs cs' : Array Value}  {l : Sch} (ho : ops[i]? = some ⟨none, .store t x y, ty, pos, af, gd⟩) (hw : Wd n ops e ⟨none, .store t x y, ty, pos, af, gd⟩ true) (hx : e.ev x = some (.pointer (some ⟨b, o, none⟩))) (hy : e.ev y = some v) (hz : ∀ w, (sizeOf t).run P w = .ok z w) (hvz : Nat.beq v.cells.size z = true) (hf' : Nat.ble (o + v.cells.size) cs.size = true) (ho' : v.cells.toList.all (·.oneCell') = true) (hc : (cs.toList.take o ++ v.cells.toList ++ cs.toList.drop (o + v.cells.size)).toArray = cs') (is : List Nat) (hf : Sel (BlkR b T cs' :: Rs) is Rf) (h : TD P n F0 w0 ops l Rf e (BlkR b T cs' :: Rs) Q) : TD P n F0 w0 ops (.e i l) Rf e (BlkR b T cs :: Rs) Q := by
  refine TD.ef ho hw (Ef.st 0 hx hy hz rfl hvz hf' ho' hc) ?_
  rintro _ _ ⟨rfl, rfl⟩
  exact ⟨Rf, fun w hw => hw.sel is (hf), fun _ h => h, h⟩
theorem TL.c0  (ho : ops[i]? = some ⟨some d, .call cl, ty, pos, af, gd⟩) (hw : Wd n ops e ⟨some d, .call cl, ty, pos, af, gd⟩ true) (hc : CT P n e ⟨some d, .call cl, ty, pos, af, gd⟩ f vs) (hs : SpecX P f vs.toArray Y A (fun v' A' N => v' = v ∧ A' = B ∧ N = [])) (hr : ∀ w, St F0 w0 (A :: Rs) w → Src F0 w0 (A :: Rs) w 0 Y) (hd : Nat.blt d n = true) (h : TL P n F0 w0 ops l ((d, v) :: e) (B :: Rs) Q) : TL P n F0 w0 ops (i :: l) e (A :: Rs) Q := by
  refine TL.ef ho hw (Ef.call 0 hc rfl hs hr hd) ?_
  rintro _ _ ⟨_, _, _, ⟨rfl, rfl, rfl⟩, rfl, rfl⟩
  exact h
theorem TD.c0  {l : Sch} (ho : ops[i]? = some ⟨some d, .call cl, ty, pos, af, gd⟩) (hw : Wd n ops e ⟨some d, .call cl, ty, pos, af, gd⟩ true) (hc : CT P n e ⟨some d, .call cl, ty, pos, af, gd⟩ f vs) (hs : SpecX P f vs.toArray Y A (fun v' A' N => v' = v ∧ A' = B ∧ N = [])) (hr : ∀ w, St F0 w0 (A :: Rs) w → Src F0 w0 (A :: Rs) w 0 Y) (hd : Nat.blt d n = true) (is : List Nat) (hf : Sel (B :: Rs) is Rf) (h : TD P n F0 w0 ops l Rf ((d, v) :: e) (B :: Rs) Q) : TD P n F0 w0 ops (.e i l) Rf e (A :: Rs) Q := by
  refine TD.ef ho hw (Ef.call 0 hc rfl hs hr hd) ?_
  rintro _ _ ⟨_, _, _, ⟨rfl, rfl, rfl⟩, rfl, rfl⟩
  exact ⟨Rf, fun w hw => hw.sel is (hf), fun _ h => h, h⟩
theorem TL.c1 {R0 : Res} (ho : ops[i]? = some ⟨some d, .call cl, ty, pos, af, gd⟩) (hw : Wd n ops e ⟨some d, .call cl, ty, pos, af, gd⟩ true) (hc : CT P n e ⟨some d, .call cl, ty, pos, af, gd⟩ f vs) (hs : SpecX P f vs.toArray Y A (fun v' A' N => v' = v ∧ A' = B ∧ N = [])) (hr : ∀ w, St F0 w0 (R0 :: A :: Rs) w → Src F0 w0 (R0 :: A :: Rs) w 1 Y) (hd : Nat.blt d n = true) (h : TL P n F0 w0 ops l ((d, v) :: e) (R0 :: B :: Rs) Q) : TL P n F0 w0 ops (i :: l) e (R0 :: A :: Rs) Q := by
  refine TL.ef ho hw (Ef.call 1 hc rfl hs hr hd) ?_
  rintro _ _ ⟨_, _, _, ⟨rfl, rfl, rfl⟩, rfl, rfl⟩
  exact h
theorem TD.c1 {R0 : Res} {l : Sch} (ho : ops[i]? = some ⟨some d, .call cl, ty, pos, af, gd⟩) (hw : Wd n ops e ⟨some d, .call cl, ty, pos, af, gd⟩ true) (hc : CT P n e ⟨some d, .call cl, ty, pos, af, gd⟩ f vs) (hs : SpecX P f vs.toArray Y A (fun v' A' N => v' = v ∧ A' = B ∧ N = [])) (hr : ∀ w, St F0 w0 (R0 :: A :: Rs) w → Src F0 w0 (R0 :: A :: Rs) w 1 Y) (hd : Nat.blt d n = true) (is : List Nat) (hf : Sel (R0 :: B :: Rs) is Rf) (h : TD P n F0 w0 ops l Rf ((d, v) :: e) (R0 :: B :: Rs) Q) : TD P n F0 w0 ops (.e i l) Rf e (R0 :: A :: Rs) Q := by
  refine TD.ef ho hw (Ef.call 1 hc rfl hs hr hd) ?_
  rintro _ _ ⟨_, _, _, ⟨rfl, rfl, rfl⟩, rfl, rfl⟩
  exact ⟨Rf, fun w hw => hw.sel is (hf), fun _ h => h, h⟩
theorem TL.c2 {R0 R1 : Res} (ho : ops[i]? = some ⟨some d, .call cl, ty, pos, af, gd⟩) (hw : Wd n ops e ⟨some d, .call cl, ty, pos, af, gd⟩ true) (hc : CT P n e ⟨some d, .call cl, ty, pos, af, gd⟩ f vs) (hs : SpecX P f vs.toArray Y A (fun v' A' N => v' = v ∧ A' = B ∧ N = [])) (hr : ∀ w, St F0 w0 (R0 :: R1 :: A :: Rs) w → Src F0 w0 (R0 :: R1 :: A :: Rs) w 2 Y) (hd : Nat.blt d n = true) (h : TL P n F0 w0 ops l ((d, v) :: e) (R0 :: R1 :: B :: Rs) Q) : TL P n F0 w0 ops (i :: l) e (R0 :: R1 :: A :: Rs) Q := by
  refine TL.ef ho hw (Ef.call 2 hc rfl hs hr hd) ?_
  rintro _ _ ⟨_, _, _, ⟨rfl, rfl, rfl⟩, rfl, rfl⟩
  exact h
theorem TD.c2 {R0 R1 : Res} {l : Sch} (ho : ops[i]? = some ⟨some d, .call cl, ty, pos, af, gd⟩) (hw : Wd n ops e ⟨some d, .call cl, ty, pos, af, gd⟩ true) (hc : CT P n e ⟨some d, .call cl, ty, pos, af, gd⟩ f vs) (hs : SpecX P f vs.toArray Y A (fun v' A' N => v' = v ∧ A' = B ∧ N = [])) (hr : ∀ w, St F0 w0 (R0 :: R1 :: A :: Rs) w → Src F0 w0 (R0 :: R1 :: A :: Rs) w 2 Y) (hd : Nat.blt d n = true) (is : List Nat) (hf : Sel (R0 :: R1 :: B :: Rs) is Rf) (h : TD P n F0 w0 ops l Rf ((d, v) :: e) (R0 :: R1 :: B :: Rs) Q) : TD P n F0 w0 ops (.e i l) Rf e (R0 :: R1 :: A :: Rs) Q := by
  refine TD.ef ho hw (Ef.call 2 hc rfl hs hr hd) ?_
  rintro _ _ ⟨_, _, _, ⟨rfl, rfl, rfl⟩, rfl, rfl⟩
  exact ⟨Rf, fun w hw => hw.sel is (hf), fun _ h => h, h⟩
theorem TL.st3 {cs cs' : Array Value} {R0 R1 R2 : Res} (ho : ops[i]? = some ⟨none, .store t x y, ty, pos, af, gd⟩) (hw : Wd n ops e ⟨none, .store t x y, ty, pos, af, gd⟩ true) (hx : e.ev x = some (.pointer (some ⟨b, o, none⟩))) (hy : e.ev y = some v) (hz : ∀ w, (sizeOf t).run P w = .ok z w) (hvz : Nat.beq v.cells.size z = true) (hf' : Nat.ble (o + v.cells.size) cs.size = true) (ho' : v.cells.toList.all (·.oneCell') = true) (hc : (cs.toList.take o ++ v.cells.toList ++ cs.toList.drop (o + v.cells.size)).toArray = cs') (h : TL P n F0 w0 ops l e (R0 :: R1 :: R2 :: BlkR b T cs' :: Rs) Q) : TL P n F0 w0 ops (i :: l) e (R0 :: R1 :: R2 :: BlkR b T cs :: Rs) Q := by
  refine TL.ef ho hw (Ef.st 3 hx hy hz rfl hvz hf' ho' hc) ?_
  rintro _ _ ⟨rfl, rfl⟩
  exact h
theorem TD.st3 {cs cs' : Array Value} {R0 R1 R2 : Res} {l : Sch} (ho : ops[i]? = some ⟨none, .store t x y, ty, pos, af, gd⟩) (hw : Wd n ops e ⟨none, .store t x y, ty, pos, af, gd⟩ true) (hx : e.ev x = some (.pointer (some ⟨b, o, none⟩))) (hy : e.ev y = some v) (hz : ∀ w, (sizeOf t).run P w = .ok z w) (hvz : Nat.beq v.cells.size z = true) (hf' : Nat.ble (o + v.cells.size) cs.size = true) (ho' : v.cells.toList.all (·.oneCell') = true) (hc : (cs.toList.take o ++ v.cells.toList ++ cs.toList.drop (o + v.cells.size)).toArray = cs') (is : List Nat) (hf : Sel (R0 :: R1 :: R2 :: BlkR b T cs' :: Rs) is Rf) (h : TD P n F0 w0 ops l Rf e (R0 :: R1 :: R2 :: BlkR b T cs' :: Rs) Q) : TD P n F0 w0 ops (.e i l) Rf e (R0 :: R1 :: R2 :: BlkR b T cs :: Rs) Q := by
  refine TD.ef ho hw (Ef.st 3 hx hy hz rfl hvz hf' ho' hc) ?_
  rintro _ _ ⟨rfl, rfl⟩
  exact ⟨Rf, fun w hw => hw.sel is (hf), fun _ h => h, h⟩
theorem TL.c4 {R0 R1 R2 R3 : Res} (ho : ops[i]? = some ⟨some d, .call cl, ty, pos, af, gd⟩) (hw : Wd n ops e ⟨some d, .call cl, ty, pos, af, gd⟩ true) (hc : CT P n e ⟨some d, .call cl, ty, pos, af, gd⟩ f vs) (hs : SpecX P f vs.toArray Y A (fun v' A' N => v' = v ∧ A' = B ∧ N = [])) (hr : ∀ w, St F0 w0 (R0 :: R1 :: R2 :: R3 :: A :: Rs) w → Src F0 w0 (R0 :: R1 :: R2 :: R3 :: A :: Rs) w 4 Y) (hd : Nat.blt d n = true) (h : TL P n F0 w0 ops l ((d, v) :: e) (R0 :: R1 :: R2 :: R3 :: B :: Rs) Q) : TL P n F0 w0 ops (i :: l) e (R0 :: R1 :: R2 :: R3 :: A :: Rs) Q := by
  refine TL.ef ho hw (Ef.call 4 hc rfl hs hr hd) ?_
  rintro _ _ ⟨_, _, _, ⟨rfl, rfl, rfl⟩, rfl, rfl⟩
  exact h
theorem TD.c4 {R0 R1 R2 R3 : Res} {l : Sch} (ho : ops[i]? = some ⟨some d, .call cl, ty, pos, af, gd⟩) (hw : Wd n ops e ⟨some d, .call cl, ty, pos, af, gd⟩ true) (hc : CT P n e ⟨some d, .call cl, ty, pos, af, gd⟩ f vs) (hs : SpecX P f vs.toArray Y A (fun v' A' N => v' = v ∧ A' = B ∧ N = [])) (hr : ∀ w, St F0 w0 (R0 :: R1 :: R2 :: R3 :: A :: Rs) w → Src F0 w0 (R0 :: R1 :: R2 :: R3 :: A :: Rs) w 4 Y) (hd : Nat.blt d n = true) (is : List Nat) (hf : Sel (R0 :: R1 :: R2 :: R3 :: B :: Rs) is Rf) (h : TD P n F0 w0 ops l Rf ((d, v) :: e) (R0 :: R1 :: R2 :: R3 :: B :: Rs) Q) : TD P n F0 w0 ops (.e i l) Rf e (R0 :: R1 :: R2 :: R3 :: A :: Rs) Q := by
  refine TD.ef ho hw (Ef.call 4 hc rfl hs hr hd) ?_
  rintro _ _ ⟨_, _, _, ⟨rfl, rfl, rfl⟩, rfl, rfl⟩
  exact ⟨Rf, fun w hw => hw.sel is (hf), fun _ h => h, h⟩
theorem TL.st5 {cs cs' : Array Value} {R0 R1 R2 R3 R4 : Res} (ho : ops[i]? = some ⟨none, .store t x y, ty, pos, af, gd⟩) (hw : Wd n ops e ⟨none, .store t x y, ty, pos, af, gd⟩ true) (hx : e.ev x = some (.pointer (some ⟨b, o, none⟩))) (hy : e.ev y = some v) (hz : ∀ w, (sizeOf t).run P w = .ok z w) (hvz : Nat.beq v.cells.size z = true) (hf' : Nat.ble (o + v.cells.size) cs.size = true) (ho' : v.cells.toList.all (·.oneCell') = true) (hc : (cs.toList.take o ++ v.cells.toList ++ cs.toList.drop (o + v.cells.size)).toArray = cs') (h : TL P n F0 w0 ops l e (R0 :: R1 :: R2 :: R3 :: R4 :: BlkR b T cs' :: Rs) Q) : TL P n F0 w0 ops (i :: l) e (R0 :: R1 :: R2 :: R3 :: R4 :: BlkR b T cs :: Rs) Q := by
  refine TL.ef ho hw (Ef.st 5 hx hy hz rfl hvz hf' ho' hc) ?_
  rintro _ _ ⟨rfl, rfl⟩
  exact h
theorem TD.st5 {cs cs' : Array Value} {R0 R1 R2 R3 R4 : Res} {l : Sch} (ho : ops[i]? = some ⟨none, .store t x y, ty, pos, af, gd⟩) (hw : Wd n ops e ⟨none, .store t x y, ty, pos, af, gd⟩ true) (hx : e.ev x = some (.pointer (some ⟨b, o, none⟩))) (hy : e.ev y = some v) (hz : ∀ w, (sizeOf t).run P w = .ok z w) (hvz : Nat.beq v.cells.size z = true) (hf' : Nat.ble (o + v.cells.size) cs.size = true) (ho' : v.cells.toList.all (·.oneCell') = true) (hc : (cs.toList.take o ++ v.cells.toList ++ cs.toList.drop (o + v.cells.size)).toArray = cs') (is : List Nat) (hf : Sel (R0 :: R1 :: R2 :: R3 :: R4 :: BlkR b T cs' :: Rs) is Rf) (h : TD P n F0 w0 ops l Rf e (R0 :: R1 :: R2 :: R3 :: R4 :: BlkR b T cs' :: Rs) Q) : TD P n F0 w0 ops (.e i l) Rf e (R0 :: R1 :: R2 :: R3 :: R4 :: BlkR b T cs :: Rs) Q := by
  refine TD.ef ho hw (Ef.st 5 hx hy hz rfl hvz hf' ho' hc) ?_
  rintro _ _ ⟨rfl, rfl⟩
  exact ⟨Rf, fun w hw => hw.sel is (hf), fun _ h => h, h⟩
theorem TL.c5 {R0 R1 R2 R3 R4 : Res} (ho : ops[i]? = some ⟨some d, .call cl, ty, pos, af, gd⟩) (hw : Wd n ops e ⟨some d, .call cl, ty, pos, af, gd⟩ true) (hc : CT P n e ⟨some d, .call cl, ty, pos, af, gd⟩ f vs) (hs : SpecX P f vs.toArray Y A (fun v' A' N => v' = v ∧ A' = B ∧ N = [])) (hr : ∀ w, St F0 w0 (R0 :: R1 :: R2 :: R3 :: R4 :: A :: Rs) w → Src F0 w0 (R0 :: R1 :: R2 :: R3 :: R4 :: A :: Rs) w 5 Y) (hd : Nat.blt d n = true) (h : TL P n F0 w0 ops l ((d, v) :: e) (R0 :: R1 :: R2 :: R3 :: R4 :: B :: Rs) Q) : TL P n F0 w0 ops (i :: l) e (R0 :: R1 :: R2 :: R3 :: R4 :: A :: Rs) Q := by
  refine TL.ef ho hw (Ef.call 5 hc rfl hs hr hd) ?_
  rintro _ _ ⟨_, _, _, ⟨rfl, rfl, rfl⟩, rfl, rfl⟩
  exact h
theorem TD.c5 {R0 R1 R2 R3 R4 : Res} {l : Sch} (ho : ops[i]? = some ⟨some d, .call cl, ty, pos, af, gd⟩) (hw : Wd n ops e ⟨some d, .call cl, ty, pos, af, gd⟩ true) (hc : CT P n e ⟨some d, .call cl, ty, pos, af, gd⟩ f vs) (hs : SpecX P f vs.toArray Y A (fun v' A' N => v' = v ∧ A' = B ∧ N = [])) (hr : ∀ w, St F0 w0 (R0 :: R1 :: R2 :: R3 :: R4 :: A :: Rs) w → Src F0 w0 (R0 :: R1 :: R2 :: R3 :: R4 :: A :: Rs) w 5 Y) (hd : Nat.blt d n = true) (is : List Nat) (hf : Sel (R0 :: R1 :: R2 :: R3 :: R4 :: B :: Rs) is Rf) (h : TD P n F0 w0 ops l Rf ((d, v) :: e) (R0 :: R1 :: R2 :: R3 :: R4 :: B :: Rs) Q) : TD P n F0 w0 ops (.e i l) Rf e (R0 :: R1 :: R2 :: R3 :: R4 :: A :: Rs) Q := by
  refine TD.ef ho hw (Ef.call 5 hc rfl hs hr hd) ?_
  rintro _ _ ⟨_, _, _, ⟨rfl, rfl, rfl⟩, rfl, rfl⟩
  exact ⟨Rf, fun w hw => hw.sel is (hf), fun _ h => h, h⟩
theorem TL.st6 {cs cs' : Array Value} {R0 R1 R2 R3 R4 R5 : Res} (ho : ops[i]? = some ⟨none, .store t x y, ty, pos, af, gd⟩) (hw : Wd n ops e ⟨none, .store t x y, ty, pos, af, gd⟩ true) (hx : e.ev x = some (.pointer (some ⟨b, o, none⟩))) (hy : e.ev y = some v) (hz : ∀ w, (sizeOf t).run P w = .ok z w) (hvz : Nat.beq v.cells.size z = true) (hf' : Nat.ble (o + v.cells.size) cs.size = true) (ho' : v.cells.toList.all (·.oneCell') = true) (hc : (cs.toList.take o ++ v.cells.toList ++ cs.toList.drop (o + v.cells.size)).toArray = cs') (h : TL P n F0 w0 ops l e (R0 :: R1 :: R2 :: R3 :: R4 :: R5 :: BlkR b T cs' :: Rs) Q) : TL P n F0 w0 ops (i :: l) e (R0 :: R1 :: R2 :: R3 :: R4 :: R5 :: BlkR b T cs :: Rs) Q := by
  refine TL.ef ho hw (Ef.st 6 hx hy hz rfl hvz hf' ho' hc) ?_
  rintro _ _ ⟨rfl, rfl⟩
  exact h
theorem TD.st6 {cs cs' : Array Value} {R0 R1 R2 R3 R4 R5 : Res} {l : Sch} (ho : ops[i]? = some ⟨none, .store t x y, ty, pos, af, gd⟩) (hw : Wd n ops e ⟨none, .store t x y, ty, pos, af, gd⟩ true) (hx : e.ev x = some (.pointer (some ⟨b, o, none⟩))) (hy : e.ev y = some v) (hz : ∀ w, (sizeOf t).run P w = .ok z w) (hvz : Nat.beq v.cells.size z = true) (hf' : Nat.ble (o + v.cells.size) cs.size = true) (ho' : v.cells.toList.all (·.oneCell') = true) (hc : (cs.toList.take o ++ v.cells.toList ++ cs.toList.drop (o + v.cells.size)).toArray = cs') (is : List Nat) (hf : Sel (R0 :: R1 :: R2 :: R3 :: R4 :: R5 :: BlkR b T cs' :: Rs) is Rf) (h : TD P n F0 w0 ops l Rf e (R0 :: R1 :: R2 :: R3 :: R4 :: R5 :: BlkR b T cs' :: Rs) Q) : TD P n F0 w0 ops (.e i l) Rf e (R0 :: R1 :: R2 :: R3 :: R4 :: R5 :: BlkR b T cs :: Rs) Q := by
  refine TD.ef ho hw (Ef.st 6 hx hy hz rfl hvz hf' ho' hc) ?_
  rintro _ _ ⟨rfl, rfl⟩
  exact ⟨Rf, fun w hw => hw.sel is (hf), fun _ h => h, h⟩
theorem TL.st8 {cs cs' : Array Value} {R0 R1 R2 R3 R4 R5 R6 R7 : Res} (ho : ops[i]? = some ⟨none, .store t x y, ty, pos, af, gd⟩) (hw : Wd n ops e ⟨none, .store t x y, ty, pos, af, gd⟩ true) (hx : e.ev x = some (.pointer (some ⟨b, o, none⟩))) (hy : e.ev y = some v) (hz : ∀ w, (sizeOf t).run P w = .ok z w) (hvz : Nat.beq v.cells.size z = true) (hf' : Nat.ble (o + v.cells.size) cs.size = true) (ho' : v.cells.toList.all (·.oneCell') = true) (hc : (cs.toList.take o ++ v.cells.toList ++ cs.toList.drop (o + v.cells.size)).toArray = cs') (h : TL P n F0 w0 ops l e (R0 :: R1 :: R2 :: R3 :: R4 :: R5 :: R6 :: R7 :: BlkR b T cs' :: Rs) Q) : TL P n F0 w0 ops (i :: l) e (R0 :: R1 :: R2 :: R3 :: R4 :: R5 :: R6 :: R7 :: BlkR b T cs :: Rs) Q := by
  refine TL.ef ho hw (Ef.st 8 hx hy hz rfl hvz hf' ho' hc) ?_
  rintro _ _ ⟨rfl, rfl⟩
  exact h
theorem TD.st8 {cs cs' : Array Value} {R0 R1 R2 R3 R4 R5 R6 R7 : Res} {l : Sch} (ho : ops[i]? = some ⟨none, .store t x y, ty, pos, af, gd⟩) (hw : Wd n ops e ⟨none, .store t x y, ty, pos, af, gd⟩ true) (hx : e.ev x = some (.pointer (some ⟨b, o, none⟩))) (hy : e.ev y = some v) (hz : ∀ w, (sizeOf t).run P w = .ok z w) (hvz : Nat.beq v.cells.size z = true) (hf' : Nat.ble (o + v.cells.size) cs.size = true) (ho' : v.cells.toList.all (·.oneCell') = true) (hc : (cs.toList.take o ++ v.cells.toList ++ cs.toList.drop (o + v.cells.size)).toArray = cs') (is : List Nat) (hf : Sel (R0 :: R1 :: R2 :: R3 :: R4 :: R5 :: R6 :: R7 :: BlkR b T cs' :: Rs) is Rf) (h : TD P n F0 w0 ops l Rf e (R0 :: R1 :: R2 :: R3 :: R4 :: R5 :: R6 :: R7 :: BlkR b T cs' :: Rs) Q) : TD P n F0 w0 ops (.e i l) Rf e (R0 :: R1 :: R2 :: R3 :: R4 :: R5 :: R6 :: R7 :: BlkR b T cs :: Rs) Q := by
  refine TD.ef ho hw (Ef.st 8 hx hy hz rfl hvz hf' ho' hc) ?_
  rintro _ _ ⟨rfl, rfl⟩
  exact ⟨Rf, fun w hw => hw.sel is (hf), fun _ h => h, h⟩
theorem TL.c10 {R0 R1 R2 R3 R4 R5 R6 R7 R8 R9 : Res} (ho : ops[i]? = some ⟨some d, .call cl, ty, pos, af, gd⟩) (hw : Wd n ops e ⟨some d, .call cl, ty, pos, af, gd⟩ true) (hc : CT P n e ⟨some d, .call cl, ty, pos, af, gd⟩ f vs) (hs : SpecX P f vs.toArray Y A (fun v' A' N => v' = v ∧ A' = B ∧ N = [])) (hr : ∀ w, St F0 w0 (R0 :: R1 :: R2 :: R3 :: R4 :: R5 :: R6 :: R7 :: R8 :: R9 :: A :: Rs) w → Src F0 w0 (R0 :: R1 :: R2 :: R3 :: R4 :: R5 :: R6 :: R7 :: R8 :: R9 :: A :: Rs) w 10 Y) (hd : Nat.blt d n = true) (h : TL P n F0 w0 ops l ((d, v) :: e) (R0 :: R1 :: R2 :: R3 :: R4 :: R5 :: R6 :: R7 :: R8 :: R9 :: B :: Rs) Q) : TL P n F0 w0 ops (i :: l) e (R0 :: R1 :: R2 :: R3 :: R4 :: R5 :: R6 :: R7 :: R8 :: R9 :: A :: Rs) Q := by
  refine TL.ef ho hw (Ef.call 10 hc rfl hs hr hd) ?_
  rintro _ _ ⟨_, _, _, ⟨rfl, rfl, rfl⟩, rfl, rfl⟩
  exact h
theorem TD.c10 {R0 R1 R2 R3 R4 R5 R6 R7 R8 R9 : Res} {l : Sch} (ho : ops[i]? = some ⟨some d, .call cl, ty, pos, af, gd⟩) (hw : Wd n ops e ⟨some d, .call cl, ty, pos, af, gd⟩ true) (hc : CT P n e ⟨some d, .call cl, ty, pos, af, gd⟩ f vs) (hs : SpecX P f vs.toArray Y A (fun v' A' N => v' = v ∧ A' = B ∧ N = [])) (hr : ∀ w, St F0 w0 (R0 :: R1 :: R2 :: R3 :: R4 :: R5 :: R6 :: R7 :: R8 :: R9 :: A :: Rs) w → Src F0 w0 (R0 :: R1 :: R2 :: R3 :: R4 :: R5 :: R6 :: R7 :: R8 :: R9 :: A :: Rs) w 10 Y) (hd : Nat.blt d n = true) (is : List Nat) (hf : Sel (R0 :: R1 :: R2 :: R3 :: R4 :: R5 :: R6 :: R7 :: R8 :: R9 :: B :: Rs) is Rf) (h : TD P n F0 w0 ops l Rf ((d, v) :: e) (R0 :: R1 :: R2 :: R3 :: R4 :: R5 :: R6 :: R7 :: R8 :: R9 :: B :: Rs) Q) : TD P n F0 w0 ops (.e i l) Rf e (R0 :: R1 :: R2 :: R3 :: R4 :: R5 :: R6 :: R7 :: R8 :: R9 :: A :: Rs) Q := by
  refine TD.ef ho hw (Ef.call 10 hc rfl hs hr hd) ?_
  rintro _ _ ⟨_, _, _, ⟨rfl, rfl, rfl⟩, rfl, rfl⟩
  exact ⟨Rf, fun w hw => hw.sel is (hf), fun _ h => h, h⟩
theorem TL.c11 {R0 R1 R2 R3 R4 R5 R6 R7 R8 R9 R10 : Res} (ho : ops[i]? = some ⟨some d, .call cl, ty, pos, af, gd⟩) (hw : Wd n ops e ⟨some d, .call cl, ty, pos, af, gd⟩ true) (hc : CT P n e ⟨some d, .call cl, ty, pos, af, gd⟩ f vs) (hs : SpecX P f vs.toArray Y A (fun v' A' N => v' = v ∧ A' = B ∧ N = [])) (hr : ∀ w, St F0 w0 (R0 :: R1 :: R2 :: R3 :: R4 :: R5 :: R6 :: R7 :: R8 :: R9 :: R10 :: A :: Rs) w → Src F0 w0 (R0 :: R1 :: R2 :: R3 :: R4 :: R5 :: R6 :: R7 :: R8 :: R9 :: R10 :: A :: Rs) w 11 Y) (hd : Nat.blt d n = true) (h : TL P n F0 w0 ops l ((d, v) :: e) (R0 :: R1 :: R2 :: R3 :: R4 :: R5 :: R6 :: R7 :: R8 :: R9 :: R10 :: B :: Rs) Q) : TL P n F0 w0 ops (i :: l) e (R0 :: R1 :: R2 :: R3 :: R4 :: R5 :: R6 :: R7 :: R8 :: R9 :: R10 :: A :: Rs) Q := by
  refine TL.ef ho hw (Ef.call 11 hc rfl hs hr hd) ?_
  rintro _ _ ⟨_, _, _, ⟨rfl, rfl, rfl⟩, rfl, rfl⟩
  exact h
theorem TD.c11 {R0 R1 R2 R3 R4 R5 R6 R7 R8 R9 R10 : Res} {l : Sch} (ho : ops[i]? = some ⟨some d, .call cl, ty, pos, af, gd⟩) (hw : Wd n ops e ⟨some d, .call cl, ty, pos, af, gd⟩ true) (hc : CT P n e ⟨some d, .call cl, ty, pos, af, gd⟩ f vs) (hs : SpecX P f vs.toArray Y A (fun v' A' N => v' = v ∧ A' = B ∧ N = [])) (hr : ∀ w, St F0 w0 (R0 :: R1 :: R2 :: R3 :: R4 :: R5 :: R6 :: R7 :: R8 :: R9 :: R10 :: A :: Rs) w → Src F0 w0 (R0 :: R1 :: R2 :: R3 :: R4 :: R5 :: R6 :: R7 :: R8 :: R9 :: R10 :: A :: Rs) w 11 Y) (hd : Nat.blt d n = true) (is : List Nat) (hf : Sel (R0 :: R1 :: R2 :: R3 :: R4 :: R5 :: R6 :: R7 :: R8 :: R9 :: R10 :: B :: Rs) is Rf) (h : TD P n F0 w0 ops l Rf ((d, v) :: e) (R0 :: R1 :: R2 :: R3 :: R4 :: R5 :: R6 :: R7 :: R8 :: R9 :: R10 :: B :: Rs) Q) : TD P n F0 w0 ops (.e i l) Rf e (R0 :: R1 :: R2 :: R3 :: R4 :: R5 :: R6 :: R7 :: R8 :: R9 :: R10 :: A :: Rs) Q := by
  refine TD.ef ho hw (Ef.call 11 hc rfl hs hr hd) ?_
  rintro _ _ ⟨_, _, _, ⟨rfl, rfl, rfl⟩, rfl, rfl⟩
  exact ⟨Rf, fun w hw => hw.sel is (hf), fun _ h => h, h⟩
theorem TL.c12 {R0 R1 R2 R3 R4 R5 R6 R7 R8 R9 R10 R11 : Res} (ho : ops[i]? = some ⟨some d, .call cl, ty, pos, af, gd⟩) (hw : Wd n ops e ⟨some d, .call cl, ty, pos, af, gd⟩ true) (hc : CT P n e ⟨some d, .call cl, ty, pos, af, gd⟩ f vs) (hs : SpecX P f vs.toArray Y A (fun v' A' N => v' = v ∧ A' = B ∧ N = [])) (hr : ∀ w, St F0 w0 (R0 :: R1 :: R2 :: R3 :: R4 :: R5 :: R6 :: R7 :: R8 :: R9 :: R10 :: R11 :: A :: Rs) w → Src F0 w0 (R0 :: R1 :: R2 :: R3 :: R4 :: R5 :: R6 :: R7 :: R8 :: R9 :: R10 :: R11 :: A :: Rs) w 12 Y) (hd : Nat.blt d n = true) (h : TL P n F0 w0 ops l ((d, v) :: e) (R0 :: R1 :: R2 :: R3 :: R4 :: R5 :: R6 :: R7 :: R8 :: R9 :: R10 :: R11 :: B :: Rs) Q) : TL P n F0 w0 ops (i :: l) e (R0 :: R1 :: R2 :: R3 :: R4 :: R5 :: R6 :: R7 :: R8 :: R9 :: R10 :: R11 :: A :: Rs) Q := by
  refine TL.ef ho hw (Ef.call 12 hc rfl hs hr hd) ?_
  rintro _ _ ⟨_, _, _, ⟨rfl, rfl, rfl⟩, rfl, rfl⟩
  exact h
theorem TD.c12 {R0 R1 R2 R3 R4 R5 R6 R7 R8 R9 R10 R11 : Res} {l : Sch} (ho : ops[i]? = some ⟨some d, .call cl, ty, pos, af, gd⟩) (hw : Wd n ops e ⟨some d, .call cl, ty, pos, af, gd⟩ true) (hc : CT P n e ⟨some d, .call cl, ty, pos, af, gd⟩ f vs) (hs : SpecX P f vs.toArray Y A (fun v' A' N => v' = v ∧ A' = B ∧ N = [])) (hr : ∀ w, St F0 w0 (R0 :: R1 :: R2 :: R3 :: R4 :: R5 :: R6 :: R7 :: R8 :: R9 :: R10 :: R11 :: A :: Rs) w → Src F0 w0 (R0 :: R1 :: R2 :: R3 :: R4 :: R5 :: R6 :: R7 :: R8 :: R9 :: R10 :: R11 :: A :: Rs) w 12 Y) (hd : Nat.blt d n = true) (is : List Nat) (hf : Sel (R0 :: R1 :: R2 :: R3 :: R4 :: R5 :: R6 :: R7 :: R8 :: R9 :: R10 :: R11 :: B :: Rs) is Rf) (h : TD P n F0 w0 ops l Rf ((d, v) :: e) (R0 :: R1 :: R2 :: R3 :: R4 :: R5 :: R6 :: R7 :: R8 :: R9 :: R10 :: R11 :: B :: Rs) Q) : TD P n F0 w0 ops (.e i l) Rf e (R0 :: R1 :: R2 :: R3 :: R4 :: R5 :: R6 :: R7 :: R8 :: R9 :: R10 :: R11 :: A :: Rs) Q := by
  refine TD.ef ho hw (Ef.call 12 hc rfl hs hr hd) ?_
  rintro _ _ ⟨_, _, _, ⟨rfl, rfl, rfl⟩, rfl, rfl⟩
  exact ⟨Rf, fun w hw => hw.sel is (hf), fun _ h => h, h⟩
theorem TL.cge  (ho : ops[i]? = some ⟨some d, .call cl, ty, pos, af, gd⟩) (hw : Wd n ops e ⟨some d, .call cl, ty, pos, af, gd⟩ true) (hc : CT P n e ⟨some d, .call cl, ty, pos, af, gd⟩ f vs) (hs : SpecX P f vs.toArray Y EmpR R) (hr : ∀ w, St F0 w0 Rs w → Y.reads w (fun _ => False)) (hd : Nat.blt d n = true) (h : ∀ v A' N, R v A' N → TL P n F0 w0 ops l ((d, v) :: e) (N ++ Rs) Q) : TL P n F0 w0 ops (i :: l) e Rs Q := by
  refine TL.ef ho hw (Ef.callE hc hs hr hd) ?_
  rintro _ _ ⟨v, A', N, hR, rfl, rfl⟩
  exact h v A' N hR
theorem TD.cge  {l : Sch} (ho : ops[i]? = some ⟨some d, .call cl, ty, pos, af, gd⟩) (hw : Wd n ops e ⟨some d, .call cl, ty, pos, af, gd⟩ true) (hc : CT P n e ⟨some d, .call cl, ty, pos, af, gd⟩ f vs) (hs : SpecX P f vs.toArray Y EmpR R) (hr : ∀ w, St F0 w0 Rs w → Y.reads w (fun _ => False)) (hd : Nat.blt d n = true) (is : List Nat) (hf : ∀ v A' N, R v A' N → Sel (N ++ Rs) is Rf) (h : ∀ v A' N, R v A' N → TD P n F0 w0 ops l Rf ((d, v) :: e) (N ++ Rs) Q) : TD P n F0 w0 ops (.e i l) Rf e Rs Q := by
  refine TD.ef ho hw (Ef.callE hc hs hr hd) ?_
  rintro _ _ ⟨v, A', N, hR, rfl, rfl⟩
  exact ⟨Rf, fun w hw => hw.sel is (hf v A' N hR), fun _ h => h, h v A' N hR⟩
theorem TL.ce  (ho : ops[i]? = some ⟨some d, .call cl, ty, pos, af, gd⟩) (hw : Wd n ops e ⟨some d, .call cl, ty, pos, af, gd⟩ true) (hc : CT P n e ⟨some d, .call cl, ty, pos, af, gd⟩ f vs) (hs : SpecX P f vs.toArray Y EmpR (fun v' A' N => v' = v ∧ A' = EmpR ∧ N = [])) (hr : ∀ w, St F0 w0 Rs w → Y.reads w (fun _ => False)) (hd : Nat.blt d n = true) (h : TL P n F0 w0 ops l ((d, v) :: e) Rs Q) : TL P n F0 w0 ops (i :: l) e Rs Q := by
  refine TL.ef ho hw (Ef.callE hc hs hr hd) ?_
  rintro _ _ ⟨_, _, _, ⟨rfl, rfl, rfl⟩, rfl, rfl⟩
  exact h
theorem TD.ce  {l : Sch} (ho : ops[i]? = some ⟨some d, .call cl, ty, pos, af, gd⟩) (hw : Wd n ops e ⟨some d, .call cl, ty, pos, af, gd⟩ true) (hc : CT P n e ⟨some d, .call cl, ty, pos, af, gd⟩ f vs) (hs : SpecX P f vs.toArray Y EmpR (fun v' A' N => v' = v ∧ A' = EmpR ∧ N = [])) (hr : ∀ w, St F0 w0 Rs w → Y.reads w (fun _ => False)) (hd : Nat.blt d n = true) (is : List Nat) (hf : Sel Rs is Rf) (h : TD P n F0 w0 ops l Rf ((d, v) :: e) Rs Q) : TD P n F0 w0 ops (.e i l) Rf e Rs Q := by
  refine TD.ef ho hw (Ef.callE hc hs hr hd) ?_
  rintro _ _ ⟨_, _, _, ⟨rfl, rfl, rfl⟩, rfl, rfl⟩
  exact ⟨Rf, fun w hw => hw.sel is (hf), fun _ h => h, h⟩
end
end Go.Proofs.Ytpiiopppbgpbpaa.Sl
namespace Go.Proofs.Ytpiiopppbgpbpaa.Sl
open Go.RowKit
set_option linter.unusedVariables false
def boolE : Rd Bool := ⟨fun _ _ cs n => cs = [.bool n], fun h _ => h, fun h _ => h⟩
def strE : Rd (List UInt8) := ⟨fun _ _ cs l => cs = [.string (bsOf l)], fun h _ => h, fun h _ => h⟩
def Bl_rd : Rd Bl := ⟨fun _ _ cs x => cs = [.bool x.null, .string (bsOf x.data)], fun h _ => h, fun h _ => h⟩
structure Hd where
  fKey : List UInt8
  fValue : Bl
def Hd_rd : Rd Hd where
  P := fun _ _ cs x => cs = [.string (bsOf x.fKey), .bool x.fValue.null, .string (bsOf x.fValue.data)]
  mono := fun h _ => h
  move := fun h _ => h
end Go.Proofs.Ytpiiopppbgpbpaa.Sl
namespace Go.Proofs.Ytpiiopppbgpbpaa.Sl
open Go.RowKit
set_option linter.unusedVariables false
set_option linter.unusedSimpArgs false
theorem bn_t {b : Bool} (h : b = false) : (!b) = true := by rw [h]; rfl
theorem bn_f {b : Bool} (h : b = true) : (!b) = false := by rw [h]; rfl
theorem ifT {α : Type} {c : Prop} [Decidable c] {x y z : α} (hc : c) (h : (if c then x else y) = z) : x = z := by rwa [if_pos hc] at h
theorem ifF {α : Type} {c : Prop} [Decidable c] {x y z : α} (hc : ¬ c) (h : (if c then x else y) = z) : y = z := by rwa [if_neg hc] at h
section
variable {P : Program} {n : Nat} {F0 : Nat → Prop} {w0 : World} {e : Env} {Rs Rf : List Res} {Q : Exit → Act → World → Prop} {ops : Array Oper} {i d : Nat} {ty t t' el : TypeId} {pos : String} {af : Array Edge} {gd : Option (Nat × Bool)} {v v' : Value} {x y : Operand} {l : List Nat} {lo : Sch} {c : Code} {S : World → Prop}
theorem Ex.bEq {d : Option Tmp} {a b p q : Bool} (hx : e.ev x = some (.bool a)) (ha : a = p) (hy : e.ev y = some (.bool b)) (hb : b = q) (hu : ∀ w, (underlying t).run P w = .ok .bool w) : Ex P n e S ⟨d, .binOp .eql t x y t', ty, pos, af, gd⟩ (.bool (p == q)) := by
  intro A w h _
  subst ha hb
  have h1 : ∀ k, (Op.equalIn (k + 1) t (.bool a) (.bool b)).run P w = .ok (a == b) w := by
    intro k
    simp only [Op.equalIn, Sem.run_bind, hu, Result.andThen_ok]
    rfl
  have h2 : (Op.equal t (.bool a) (.bool b)).run P w = .ok (a == b) w := h1 9999
  have h4 : (binOp .eql t (.bool a) (.bool b)).run P w = .ok (.bool (a == b)) w := by
    simp only [binOp, Sem.run_bind, h2, Result.andThen_ok, Sem.run_pure]
  simp only [execOp, h.ev hx, h.ev hy, eqGuard]
  simp [h4]
theorem TL.sel (is : List Nat) {Rs' : List Res} (hr : Sel Rs is Rs') (h : TL P n F0 w0 ops l e Rs' Q) : TL P n F0 w0 ops l e Rs Q := fun a w ha hs => h a w ha (hs.sel is hr)
theorem TD.sel (is : List Nat) {Rs' : List Res} (hr : Sel Rs is Rs') (h : TD P n F0 w0 ops lo Rf e Rs' Q) : TD P n F0 w0 ops lo Rf e Rs Q := fun a w ha hs => h a w ha (hs.sel is hr)
theorem T.sel (is : List Nat) {Rs' : List Res} (hr : Sel Rs is Rs') (h : T P n F0 w0 e Rs' c Q) : T P n F0 w0 e Rs c Q := fun a w ha hs => h a w ha (hs.sel is hr)
theorem X.sel {z : Exit} (is : List Nat) {Rs' : List Res} (hr : Sel Rs is Rs') (h : X n F0 w0 e Rs' z Q) : X n F0 w0 e Rs z Q := fun a w ha hs => h a w ha (hs.sel is hr)
theorem Has.as {a : Act} (ha : Has n e a) (hv : e.get d = some v) (h : v = v') : Has n ((d, v') :: e) a := ha.sub (fun t u hu => by
  simp only [Env.get] at hu
  cases hb : Nat.beq d t with
  | true =>
    rw [hb] at hu
    obtain rfl := Nat.eq_of_beq_eq_true hb
    injection hu with hu
    rw [hv, h, hu]
  | false => rw [hb] at hu; exact hu)
theorem TL.as (hv : e.get d = some v) (h : v = v') (k : TL P n F0 w0 ops l ((d, v') :: e) Rs Q) : TL P n F0 w0 ops l e Rs Q := fun a w ha hs => k a w (ha.as hv h) hs
theorem TD.as (hv : e.get d = some v) (h : v = v') (k : TD P n F0 w0 ops lo Rf ((d, v') :: e) Rs Q) : TD P n F0 w0 ops lo Rf e Rs Q := fun a w ha hs => k a w (ha.as hv h) hs
theorem OutR.of_blk {b : Nat} {w : World} {G : Nat → Prop} (h : (BlkR b 42 #[.slice none 0 0, .int .i64 0]).P w G) : (OutR b ([], 0)).P w G := by
  obtain ⟨h1, h2⟩ := h
  exact ⟨_, h1, World.ownsRow_nil _ _ _ _, fun k => by simp [h2 k, Value.ownBlock]⟩
theorem TL.newout {zv : Value} (ho : ops[i]? = some ⟨some d, .alloc t, ty, pos, af, gd⟩) (hw : Wd n ops e ⟨some d, .alloc t, ty, pos, af, gd⟩ true) (hz : ∀ w, (zeroValue t).run P w = .ok zv w) (hd : Nat.blt d n = true)
    (h : ∀ b, TL P n F0 w0 ops l ((d, .pointer (some ⟨b, 0, none⟩)) :: e) (OutR b ([], 0) :: Rs) Q) (ht : t = 42 := by rfl) (hzv : zv = .agg #[.slice none 0 0, .int .i64 0] := by rfl) : TL P n F0 w0 ops (i :: l) e Rs Q := by
  refine TL.alloc ho hw hz hd (fun b => ?_)
  intro a w ha hs
  subst ht hzv
  exact h b a w ha (hs.weaken 0 rfl (fun G hG => OutR.of_blk hG))
theorem TD.newout {zv : Value} (ho : ops[i]? = some ⟨some d, .alloc t, ty, pos, af, gd⟩) (hw : Wd n ops e ⟨some d, .alloc t, ty, pos, af, gd⟩ true) (hz : ∀ w, (zeroValue t).run P w = .ok zv w) (hd : Nat.blt d n = true) (is : List Nat) (hf : ∀ b, Sel (OutR b ([], 0) :: Rs) is Rf)
    (h : ∀ b, TD P n F0 w0 ops lo Rf ((d, .pointer (some ⟨b, 0, none⟩)) :: e) (OutR b ([], 0) :: Rs) Q) (ht : t = 42 := by rfl) (hzv : zv = .agg #[.slice none 0 0, .int .i64 0] := by rfl) : TD P n F0 w0 ops (.e i lo) Rf e Rs Q := by
  refine TD.ef ho hw (Ef.alloc hz hd) ?_
  rintro _ _ ⟨b, rfl, rfl⟩
  subst ht hzv
  have key : ∀ w, St F0 w0 (BlkR b 42 #[.slice none 0 0, .int .i64 0] :: Rs) w → St F0 w0 (OutR b ([], 0) :: Rs) w := fun w hs => hs.weaken 0 rfl (fun G hG => OutR.of_blk hG)
  exact ⟨Rf, fun w hs => (key w hs).sel is (hf b), fun _ h => h, fun a w ha hs => h b a w ha (key w hs)⟩
section
variable {α : Type} {E : Rd α} {sl : Operand} {T z bytes g ii jj : Nat} {zv : Value} {A : Option Addr} {cp : Nat} {Rs' : List Res} {B : Res}
end
variable (P n F0 w0) in
def RV (e : Env) (Rs : List Res) (r : ResultVar) (v : Value) : Prop := ∀ a w, Has n e a → St F0 w0 Rs w → (resv a.tmps r).run P w = .ok v w
theorem RV.tm {k : Nat} (hv : e.get k = some v) : RV P n F0 w0 e Rs (.tmp k) v := by
  intro a w ha hs
  have h2 := ha.at_ k v hv
  simp [resv, h2]
theorem RV.c1 (i : Nat) {k b T : Nat} {us : Array Value} (hk : e.get k = some (.pointer (some ⟨b, 0, none⟩))) (ha : ∀ w, (isAgg t).run P w = .ok false w) (hi : Rs[i]? = some (BlkR b T us)) (hv : us[0]? = some v) : RV P n F0 w0 e Rs (.cell k t) v := by
  intro a w h hs
  have h2 := h.at_ k _ hk
  have hb := hs.blk i hi
  have h3 := run_loadVar1 (P := P) (t := t) (w := w) (ad := ⟨b, 0, none⟩) ha ((heap_at hb 0).trans hv)
  simp [resv, h2, asAddr, h3]
section
variable {f : Func} {R : Value → Res → List Res → Prop} {A' : Res} {Ns : List Res} {r1 r2 r3 r4 : ResultVar} {v1 v2 v3 v4 : Value} {z : Exit}
theorem X.fin (hR : R v A' Ns) (is : List Nat) (hr : Sel Rs is (A' :: Ns)) (hx : z = .ret ∨ z = .normal) (h : ∀ a w, Has n e a → St F0 w0 Rs w → (results f a.tmps).run P w = .ok v w) : X n F0 w0 e Rs z (bodyPost P f (Post R F0 w0)) := by
  intro a w ha hs
  have h : bodyPost P f (Post R F0 w0) .ret a w := ⟨ha.df, v, h a w ha hs, v, A', Ns, rfl, hR, hs.sel is hr⟩
  rcases hx with rfl | rfl <;> exact h
theorem X.done1 (is : List Nat) (hf : f.results = #[r1]) (h1 : RV P n F0 w0 e Rs r1 v1) (hR : R v1 A' Ns) (hr : Sel Rs is (A' :: Ns)) (hx : z = .ret ∨ z = .normal) : X n F0 w0 e Rs z (bodyPost P f (Post R F0 w0)) :=
  X.fin hR is hr hx (fun a w ha hs => by rw [results_eq, hf]; simp [h1 a w ha hs])
end
theorem BOK.mk {zv : Value} {fs : Array Field} {pl : List (Nat × Nat)} {zs : Array Value} (hz : ∀ w, (zeroValue t).run P w = .ok zv w) (hu : ∀ w, (underlying t).run P w = .ok (.struct fs) w) (hp : ∀ w, (fs.mapM (fun f => do pure (f.offset, ← sizeOf f.type)) : Sem (Array (Nat × Nat))).run P w = .ok pl.toArray w) (hzs : zv.cells = zs := by rfl) : BOK P t zs pl := by
  intro parts cells w h
  subst hzs
  simp only [Instr.build, Sem.run_bind, hz, Result.andThen_ok, hu, hp]
  have h2 : (fun (i : Nat) => (pl.toArray)[i]?) = (fun (i : Nat) => pl[i]?) := by funext i; simp
  simp [h2, h]
theorem SOK.mk {T m z : Nat} {zv : Value} {zs : Array Value} (hu : ∀ w, (underlying t).run P w = .ok (.slice T) w) (hz : ∀ w, (sizeOf T).run P w = .ok z w) (hzv : ∀ w, (zeroValue T).run P w = .ok zv w) (hm : 0 < m * z ∧ m * z ≤ 16777216) (hzs : (Array.range (m * z)).map (fun i => zv.cells[i % zv.cells.size]!) = zs) : SOK P t T m z zs := by
  intro parts cells w h
  have h1 : ¬ (m * z > 2 ^ 24) := by omega
  have h2 : ¬ (m * z = 0) := by omega
  subst hzs
  simp only [Instr.buildSlice, Sem.run_bind, hu, hz, Result.andThen_ok, h1, if_false, h2, hzv, Sem.run_pure]
  simp [h, newRow]
end
end Go.Proofs.Ytpiiopppbgpbpaa.Sl
namespace Go.Proofs.Ytpiiopppbgpbpaa.Sl
open Go.RowKit
set_option linter.unusedVariables false
set_option linter.unusedSimpArgs false
def eqV : Value → Value → Option Bool
  | .int k a, .int k' b => if k = k' then some (decide (a = b)) else none
  | .bool a, .bool b => some (decide (a = b))
  | .string a, .string b => some (decide (a.toList = b.toList))
  | _, _ => none
def eqL : List Value → List Value → Option Bool
  | [], [] => some true
  | x :: xs, y :: ys => match eqV x y with
    | some true => eqL xs ys
    | some false => some false
    | none => none
  | _, _ => none
theorem eqL_append : ∀ {xs ys xs' ys' : List Value} {b : Bool}, xs.length = ys.length → eqL (xs ++ xs') (ys ++ ys') = some b → ∃ c, eqL xs ys = some c ∧ (if c then eqL xs' ys' else some false) = some b
  | [], [], xs', ys', b, _, h => ⟨true, rfl, by simpa using h⟩
  | x :: xs, y :: ys, xs', ys', b, hl, h => by
    simp only [List.cons_append, eqL] at h ⊢
    cases hv : eqV x y with
    | none => rw [hv] at h; cases h
    | some c =>
      cases c with
      | true =>
        rw [hv] at h
        exact eqL_append (by simpa using hl) h
      | false =>
        rw [hv] at h
        exact ⟨false, rfl, by simpa using h⟩
def okD : TypeDesc → Value → Bool
  | .int _, .int _ _ => true
  | .bool, .bool _ => true
  | .string, .string _ => true
  | _, _ => false
def oksD : List TypeDesc → List Value → Bool
  | [], [] => true
  | d :: ds, v :: vs => okD d v && oksD ds vs
  | _, _ => false
theorem oksD_length : ∀ {ds : List TypeDesc} {vs : List Value}, oksD ds vs = true → vs.length = ds.length
  | [], [], _ => rfl
  | d :: ds, v :: vs, h => by
    simp only [oksD, Bool.and_eq_true] at h
    simp [oksD_length h.2]
theorem oksD_app : ∀ {ds ds' : List TypeDesc} {vs : List Value}, oksD (ds ++ ds') vs = true → oksD ds (vs.take ds.length) = true ∧ oksD ds' (vs.drop ds.length) = true
  | [], ds', vs, h => by simpa [oksD] using h
  | d :: ds, ds', [], h => by simp [oksD] at h
  | d :: ds, ds', v :: vs, h => by
    simp only [List.cons_append, oksD, Bool.and_eq_true] at h
    have := oksD_app h.2
    simp [oksD, h.1, this]
def mkV (agg : Bool) (xs : List Value) : Value := if agg then .agg xs.toArray else xs.headD undef
structure Flat (P : Program) (k : Nat) (t : TypeId) (ds : List TypeDesc) (agg : Bool) : Prop where
  ia : ∀ w, (isAgg t).run P w = .ok agg w
  sz : ∀ w, (sizeOf t).run P w = .ok ds.length w
  one : agg = false → ds.length = 1
  eq : ∀ (d : Nat) (xs ys : List Value) (b : Bool) (w : World), k ≤ d → oksD ds xs = true → oksD ds ys = true → eqL xs ys = some b → (Op.equalIn d t (mkV agg xs) (mkV agg ys)).run P w = .ok b w
section
variable {P : Program} {t : TypeId}
def FlatFs (P : Program) (k : Nat) : Nat → List Field → List TypeDesc → Prop
  | _, [], ds => ds = []
  | off, f :: fs, ds => f.name ≠ "_" ∧ f.offset = off ∧ ∃ d1 d2 agg, ds = d1 ++ d2 ∧ Flat P k f.type d1 agg ∧ FlatFs P k (off + d1.length) fs d2
theorem part_run {ty : TypeId} {ds : List TypeDesc} {agg : Bool} {k : Nat} (hf : Flat P k ty ds agg) (xs : List Value) (off : Nat) (w : World) (hl : off + ds.length ≤ xs.length) : (part ty xs.toArray off).run P w = .ok (mkV agg ((xs.drop off).take ds.length)) w := by
  cases agg with
  | true =>
    have h1 := hf.ia w
    simp only [part, Sem.run_bind, h1, Result.andThen_ok, if_true, hf.sz w, Sem.run_pure, mkV]
    congr 2
    apply Array.ext'
    simp [List.extract_eq_take_drop]
  | false =>
    have h1 := hf.ia w
    have h2 := hf.one rfl
    have h3 : off < xs.length := by omega
    have h4 : ((xs.drop off).take 1).headD undef = xs[off] := by
      rw [List.drop_eq_getElem_cons h3]
      rfl
    simp only [part, Sem.run_bind, h1, Result.andThen_ok, Bool.false_eq_true, if_false, mkV, h2, h4]
    simp [h3]
theorem fields_run {k : Nat} : ∀ {fs : List Field} {ds : List TypeDesc} {off : Nat}, FlatFs P k off fs ds → ∀ (d : Nat) (xs ys : List Value) (b : Bool) (w : World), k ≤ d → xs.length = off + ds.length → ys.length = off + ds.length →
    oksD ds (xs.drop off) = true → oksD ds (ys.drop off) = true → eqL (xs.drop off) (ys.drop off) = some b → (Op.eqFields d xs.toArray ys.toArray fs).run P w = .ok b w
  | [], ds, off, hf, d, xs, ys, b, w, hd, hx, hy, ox, oy, h => by
    obtain rfl : ds = [] := hf
    rw [List.drop_of_length_le (by simp at hx; omega), List.drop_of_length_le (by simp at hy; omega)] at h
    injection h with h
    subst h
    rfl
  | f :: fs, ds, off, hf, d, xs, ys, b, w, hd, hx, hy, ox, oy, h => by
    obtain ⟨hn, ho, d1, d2, agg, rfl, hF, hr⟩ := hf
    rw [List.length_append] at hx hy
    have ox' := oksD_app ox
    have oy' := oksD_app oy
    have e1 : xs.drop off = (xs.drop off).take d1.length ++ xs.drop (off + d1.length) := by rw [← List.drop_drop, List.take_append_drop]
    have e2 : ys.drop off = (ys.drop off).take d1.length ++ ys.drop (off + d1.length) := by rw [← List.drop_drop, List.take_append_drop]
    rw [e1, e2] at h
    obtain ⟨c, h1, h2⟩ := eqL_append (by simp; omega) h
    have p1 := part_run hF xs off w (by omega)
    have p2 := part_run hF ys off w (by omega)
    have q1 := hF.eq d _ _ c w hd ox'.1 oy'.1 h1
    simp only [Op.eqFields, hn, ne_eq, not_false_eq_true, if_true, Sem.run_bind, ho, p1, Result.andThen_ok, p2, q1, Sem.run_ite]
    cases c with
    | false =>
      simp only [Bool.false_eq_true, if_false] at h2
      injection h2 with h2
      subst h2
      rfl
    | true =>
      simp only [if_true] at h2
      have h3 := fields_run hr d xs ys b w hd (by omega) (by omega) (by rw [← List.drop_drop]; exact ox'.2) (by rw [← List.drop_drop]; exact oy'.2) h2
      simpa using h3
theorem Flat.struct {k : Nat} {fs : Array Field} {ds : List TypeDesc} (ia : ∀ w, (isAgg t).run P w = .ok true w) {z : Nat} (sz : ∀ w, (sizeOf t).run P w = .ok z w) (hz : ds.length = z) (hu : P.underlying t = some (.struct fs)) (hp : P.stoodInHeld t = false) (hf : FlatFs P k 0 fs.toList ds) : Flat P (k + 1) t ds true := by
  subst hz
  refine ⟨ia, sz, fun h => (by cases h), ?_⟩
  intro d xs ys b w hd hx hy h
  obtain ⟨d, rfl⟩ : ∃ d', d = d' + 1 := ⟨d - 1, by omega⟩
  have e : P.fieldsOf t = fs := by simp [Program.fieldsOf, hu]
  simp only [mkV, if_true]
  rw [run_equalIn_agg w d t _ _ (by rw [e]; exact hu) hp, e]
  exact fields_run hf d xs ys b w (by omega) (by simpa using oksD_length hx) (by simpa using oksD_length hy) hx hy h
theorem Flat.mono {k k' : Nat} {ds : List TypeDesc} {agg : Bool} (h : Flat P k t ds agg) (hk : k ≤ k') : Flat P k' t ds agg := ⟨h.ia, h.sz, h.one, fun d xs ys b w hd => h.eq d xs ys b w (by omega)⟩
end
section
variable {P : Program} {n : Nat} {F0 : Nat → Prop} {w0 : World} {e : Env} {Rs Rf : List Res} {Q : Exit → Act → World → Prop} {ops : Array Oper} {d : Option Tmp} {i : Nat} {ty t t' el : TypeId} {pos : String} {af : Array Edge} {gd : Option (Nat × Bool)} {v v' : Value} {x y : Operand} {l : List Nat} {lo : Sch} {c : Code} {S : World → Prop}
end
section
variable {P : Program} {n : Nat} {F0 : Nat → Prop} {w0 w : World} {e : Env} {Rs Rf : List Res} {Q : Exit → Act → World → Prop} {ops : Array Oper} {d : Option Tmp} {i : Nat} {ty t t' el : TypeId} {pos : String} {af : Array Edge} {gd : Option (Nat × Bool)} {v v' : Value} {y z : Operand} {l : List Nat} {lo : Sch} {c : Code} {S : World → Prop}
variable {α : Type} {E : Rd α} {B : Res} {A : Option Addr} {m cp size k : Nat} {xs : List α} {x : α}
theorem Ex.k1 {q g : Nat} {cs : List Value} (i j : Nat) (hy : e.ev y = some (.pointer (some ⟨g, q + j, none⟩))) (ha : ∀ w, (isAgg t).run P w = .ok false w) (hi : Rs[i]? = some B) (hB : ∀ w G, B.P w G → ∀ j, j < cs.length → w.cell? ⟨g, q + j, none⟩ = cs[j]?) (hv : cs[j]? = some v) : Ex P n e (St F0 w0 Rs) ⟨d, .load t y, ty, pos, af, gd⟩ v :=
  Ex.ld1 hy ha (fun w hw => by
    obtain ⟨G, h1, _⟩ := hw.get i hi
    exact (hB w G h1 j (List.getElem?_eq_some_iff.1 hv).1).trans hv)
end
end Go.Proofs.Ytpiiopppbgpbpaa.Sl
namespace Go.Proofs.Ytpiiopppbgpbpaa.Sl
open Go.RowKit
set_option linter.unusedVariables false
set_option linter.unusedSimpArgs false
def RX.blk (b : Nat) (T : TypeId) (cs : Array Value) : RX := ⟨fun w S => w.heap[b]? = some (.cells cs T (0, 0)) ∧ S b, fun h k => ⟨h.1, k _ h.2⟩, fun h k => ⟨(k _ h.2).trans h.1, h.2⟩⟩
section
variable {P : Program} {n : Nat} {F0 : Nat → Prop} {w0 w : World} {e : Env} {Rs Rf : List Res} {Q : Exit → Act → World → Prop} {ops : Array Oper} {d : Option Tmp} {i : Nat} {ty t t' el : TypeId} {pos : String} {af : Array Edge} {gd : Option (Nat × Bool)} {v v' : Value} {x y z : Operand} {l : List Nat} {lo : Sch} {c : Code} {S : World → Prop}
end
end Go.Proofs.Ytpiiopppbgpbpaa.Sl
namespace Go.Proofs.Ytpiiopppbgpbpaa.Sl
open Go.RowKit
set_option linter.unusedVariables false
set_option linter.unusedSimpArgs false
def toBs (xs : List Int) : List UInt8 := xs.map fun n => UInt8.ofNat n.toNat
theorem push_bytes : ∀ (xs : List Int) (l : List UInt8), xs.foldl (fun r n => r.push (UInt8.ofNat n.toNat)) (bsOf l) = bsOf (l ++ toBs xs)
  | [], l => by simp [toBs]
  | x :: xs, l => by
    rw [List.foldl_cons]
    have e : (bsOf l).push (UInt8.ofNat x.toNat) = bsOf (l ++ [UInt8.ofNat x.toNat]) := by simp [bsOf, ByteArray.push]
    rw [e, push_bytes xs]
    simp [toBs]
section
variable {P : Program} {n : Nat} {F0 : Nat → Prop} {w0 w : World} {e : Env} {Rs : List Res} {d : Option Tmp} {ty t t' el : TypeId} {pos : String} {af : Array Edge} {gd : Option (Nat × Bool)} {x y : Operand} {S : World → Prop}
theorem Ex.remK {k : IntKind} {p q : Int} (hx : e.ev x = some (.int k p)) (hy : e.ev y = some (.int k q)) (hq : 1 ≤ q) (h : 0 ≤ p) : Ex P n e S ⟨d, .binOp .rem t x y t', ty, pos, af, gd⟩ (.int k (p % q)) := by
  intro a w ha _
  have h0 : ¬ q = 0 := by omega
  simp [execOp, ha.ev hx, ha.ev hy, eqGuard, binOp, Op.intDiv, h0, IntWalk.rem_in _ _ h]
end
end Go.Proofs.Ytpiiopppbgpbpaa.Sl
namespace Go.Proofs.Ytpiiopppbgpbpaa.Sl
open Go.RowKit
set_option linter.unusedVariables false
section
variable {P : Program} {n : Nat} {F0 : Nat → Prop} {w0 : World} {e e' : Env} {Rs Rs' : List Res} {Q : Exit → Act → World → Prop} {c : Code} {d : Nat} {v v' : Value}
def JK (n : Nat) (F0 : Nat → Prop) (w0 : World) (R : Env → List Res → Prop) (a : Act) (w : World) : Prop := ∃ e Rs, R e Rs ∧ Has n e a ∧ St F0 w0 Rs w
theorem T.jq (R : Env → List Res → Prop) (h : T P n F0 w0 e Rs c (Exit.then (JK n F0 w0 R) Q)) (k : ∀ e' Rs', R e' Rs' → X n F0 w0 e' Rs' .normal Q) : T P n F0 w0 e Rs c Q := by
  intro a w ha hs
  refine wp_mono (h a w ha hs) ?_
  intro x a' w' hx
  cases x <;> first | exact hx | skip
  obtain ⟨e', Rs', hR, ha', hs'⟩ := hx
  exact k e' Rs' hR a' w' ha' hs'
theorem X.jq {R : Env → List Res → Prop} (is : List Nat) (hR : R e' Rs') (he : Sub e' e) (hr : Sel Rs is Rs') : X n F0 w0 e Rs .normal (Exit.then (JK n F0 w0 R) Q) := fun a w ha hs => ⟨e', Rs', hR, ha.sub he.get, hs.sel is hr⟩
theorem X.as {z : Exit} (hv : e.get d = some v) (h : v = v') (k : X n F0 w0 ((d, v') :: e) Rs z Q) : X n F0 w0 e Rs z Q := fun a w ha hs => k a w (ha.as hv h) hs
end
end Go.Proofs.Ytpiiopppbgpbpaa.Sl
namespace Go.Proofs.Ytpiiopppbgpbpaa.Sl
open Go.RowKit
set_option linter.unusedVariables false
set_option linter.unusedSimpArgs false
section
variable {P : Program} {n : Nat} {F0 : Nat → Prop} {w0 : World} {e : Env} {Rs : List Res} {S : World → Prop} {d : Option Tmp} {ty : TypeId} {pos : String} {af : Array Edge} {gd : Option (Nat × Bool)} {v : Value} {x y ix : Operand} {t t' el : TypeId}
theorem Ex.ixP {g o m z k : Nat} {i : Int} {q : IntKind} (hx : e.ev x = some (.pointer (some ⟨g, o, none⟩))) (hi : e.ev ix = some (.int q i)) (hik : i = (k : Int)) (hu : ∀ w, (underlying t).run P w = .ok (.array m el) w) (hz : ∀ w, (sizeOf el).run P w = .ok z w) (hk : k < m) :
    Ex P n e S ⟨d, .indexAddr t x ix, ty, pos, af, gd⟩ (.pointer (some ⟨g, o + k * z, none⟩)) := by
  intro a w ha _
  subst hik
  have h1 : (0 : Int) ≤ (k : Int) ∧ (k : Int) < (m : Int) := by omega
  have h2 : (⟨g, o, none⟩ : Addr).add (k * z) = ⟨g, o + k * z, none⟩ := by unfold Addr.add; split <;> simp_all
  have h3 : (Instr.indexAt t (.pointer (some ⟨g, o, none⟩)) (.int q (k : Int))).run P w = .ok (.pointer (some ⟨g, o + k * z, none⟩)) w := by
    simp only [Instr.indexAt, asIntOf, Sem.run_bind, Sem.run_pure, Result.andThen_ok, hu, Instr.sureAddr]
    rw [if_pos h1]
    simp only [Sem.run_bind, hz, Result.andThen_ok, Int.toNat_natCast, h2, Sem.run_pure]
  simp [execOp, ha.ev hx, ha.ev hi, h3]
end
end Go.Proofs.Ytpiiopppbgpbpaa.Sl
namespace Go.Proofs.Ytpiiopppbgpbpaa.Sl
open Go.RowKit Go.Deep Go.ChangeShapes
set_option linter.unusedVariables false
set_option linter.unusedSimpArgs false
def oldRd {α : Type} (w0 : World) (S : Nat → Prop) (E : Rd α) : Rd α where
  P := fun w G cs x => ∀ W : World, (∀ k, G k → W.heap[k]? = w.heap[k]?) → (∀ k, S k → W.heap[k]? = w0.heap[k]?) → E.P W (fun k => G k ∨ S k) cs x
  mono := fun h hS W h1 h2 => E.mono (h W (fun k hk => h1 k (hS k hk)) h2) (fun k hk => hk.imp (hS k) id)
  move := fun h hm W h1 h2 => h W (fun k hk => (h1 k hk).trans (hm k hk)) h2
def RX.old (w0 : World) (S : Nat → Prop) (X : RX) : RX where
  P := fun w G => ∀ W : World, (∀ k, G k → W.heap[k]? = w.heap[k]?) → (∀ k, S k → W.heap[k]? = w0.heap[k]?) → X.P W (fun k => G k ∨ S k)
  mono := fun h hS W h1 h2 => X.mono (h W (fun k hk => h1 k (hS k hk)) h2) (fun k hk => hk.imp (hS k) id)
  move := fun h hm W h1 h2 => h W (fun k hk => (h1 k hk).trans (hm k hk)) h2
section
variable {α : Type} {w0 w w1 : World} {S G F : Nat → Prop} {E : Rd α} {cs : List Value} {x : α} {X Y : RX} {size : Nat}
end
structure RO where
  α : Type
  E : Rd α
  cs : List Value
  x : α
def RO.res (w0 : World) (S : Nat → Prop) (o : RO) : Res := RdR (oldRd w0 S o.E) o.cs o.x
section
variable {P : Program} {n : Nat} {F0 : Nat → Prop} {w0 w : World} {S : Nat → Prop} {e : Env} {Rs Rs' Rf Bs : List Res} {L : List RO} {B : Res} {Xr Y : RX}
theorem Sep.split : ∀ {Bs Rs : List Res} {w : World} {F : Nat → Prop}, Sep (Bs ++ Rs) w F → ∃ G, Sep Bs w G ∧ (∀ k, G k → F k) ∧ (∀ k, G k → k < w.heap.size) ∧ Sep Rs w (fun k => F k ∧ ¬ G k)
  | [], Rs, w, F, h => ⟨fun _ => False, trivial, fun _ h => h.elim, fun _ h => h.elim, h.mono (fun k hk => ⟨hk, fun h => h⟩)⟩
  | B :: Bs, Rs, w, F, ⟨G1, h1, h2, h3⟩ => by
    obtain ⟨G, k1, k2, k3, k4⟩ := Sep.split h3
    refine ⟨fun k => G1 k ∨ G k, ⟨G1, h1, fun k hk => .inl hk, k1.mono (fun k hk => ⟨.inr hk, (k2 k hk).2⟩)⟩, fun k hk => hk.elim (h2 k) (fun h => (k2 k h).1), fun k hk => hk.elim (B.lt h1 k) (k3 k), k4.mono (fun k hk => ⟨hk.1.1, fun h => h.elim hk.1.2 hk.2⟩)⟩
theorem Sep.each : ∀ {L : List RO} {w1 : World} {S1 F : Nat → Prop}, Sep (L.map (RO.res w1 S1)) w F → ∀ o, o ∈ L → ∃ G, (RdR (oldRd w1 S1 o.E) o.cs o.x).P w G ∧ ∀ k, G k → F k
  | a :: L, w1, S1, F, ⟨G, h1, h2, h3⟩, o, ho => by
    rcases List.mem_cons.1 ho with rfl | ho
    · exact ⟨G, h1, h2⟩
    · obtain ⟨G', k1, k2⟩ := Sep.each h3 o ho
      exact ⟨G', k1, fun k hk => (k2 k hk).1⟩
variable {d : Option Tmp} {ty : TypeId} {pos : String} {af : Array Edge} {gd : Option (Nat × Bool)} {R : Value → Res → List RO → Prop}
variable {Q : Exit → Act → World → Prop} {ops : Array Oper} {i dd : Nat} {cl : Call} {f : FuncId} {vs : List Value}
variable {α : Type} {E : Rd α} {size : Nat} {T : TypeId} {u : Value} {xs : List α}
end
end Go.Proofs.Ytpiiopppbgpbpaa.Sl
namespace Go.Proofs.Ytpiiopppbgpbpaa.Sl
open Go.RowKit
set_option linter.unusedVariables false
set_option linter.unusedSimpArgs false
section
variable {α : Type} {size : Nat} {E : Rd α} {w : World} {S : Nat → Prop}
theorem elems_set : ∀ {xs : List α} {cs new : List Value} {k : Nat} {x x' : α}, elems size E w S cs xs → xs[k]? = some x → new.length = size → E.P w S new x' → elems size E w S (cs.take (k * size) ++ new ++ cs.drop ((k + 1) * size)) (xs.set k x')
  | [], _, _, k, _, _, _, hk, _, _ => by simp at hk
  | y :: ys, cs, new, 0, x, x', ⟨h0, _, h2⟩, _, hn, hx => by
    rw [Nat.zero_mul, List.take_zero, List.nil_append, Nat.zero_add, Nat.one_mul]
    exact ⟨by rw [List.take_append_of_le_length (by omega), List.take_of_length_le (by omega)]; exact hn, by rw [List.take_append_of_le_length (by omega), List.take_of_length_le (by omega)]; exact hx,
      by rw [List.drop_append_of_le_length (by omega), List.drop_of_length_le (by omega)]; exact h2⟩
  | y :: ys, cs, new, k + 1, x, x', ⟨h0, h1, h2⟩, hk, hn, hx => by
    have hle : size ≤ cs.length := by rw [List.length_take] at h0; omega
    have ih := elems_set (k := k) (x := x) h2 (by simpa using hk) hn hx
    have hc : cs = cs.take size ++ cs.drop size := (List.take_append_drop size cs).symm
    have e0 : (cs.take size).length = size := h0
    have e1 : cs.take ((k + 1) * size) = cs.take size ++ (cs.drop size).take (k * size) := by
      conv => lhs; rw [hc]
      rw [List.take_append, e0, show (k + 1) * size - size = k * size by rw [Nat.add_mul]; omega, List.take_of_length_le (by rw [e0, Nat.add_mul]; omega)]
    have e2 : cs.drop ((k + 1 + 1) * size) = (cs.drop size).drop ((k + 1) * size) := by
      rw [List.drop_drop, show size + (k + 1) * size = (k + 1 + 1) * size by rw [Nat.add_mul (k + 1)]; omega]
    rw [e1, e2, List.append_assoc, List.append_assoc, ← List.append_assoc ((cs.drop size).take (k * size))]
    exact ⟨by rw [List.take_append_of_le_length (by omega), List.take_of_length_le (by omega)]; exact h0, by rw [List.take_append_of_le_length (by omega), List.take_of_length_le (by omega)]; exact h1,
      by rw [List.drop_append_of_le_length (by omega), List.drop_of_length_le (by omega), List.nil_append]; exact ih⟩
theorem OwnR.stored {T m c g o k off q : Nat} {G : Nat → Prop} {xs : List α} {x x' : α} {us : List Value} (h : (OwnR T size E (.slice (some ⟨g, o, none⟩) m c) xs).P w G) (hk : xs[k]? = some x) (hq : q = o + k * size + off) (hl : off + us.length ≤ size)
    (hE : ∀ w S cs, cs.length = size → E.P w S cs x → E.P w S (cs.take off ++ us ++ cs.drop (off + us.length)) x') :
    ∃ cur, w.heap[g]? = some (.cells cur T (0, 0)) ∧ q + us.length ≤ cur.size ∧ (∀ k, k = g → G k) ∧ (OwnR T size E (.slice (some ⟨g, o, none⟩) m c) (xs.set k x')).P (w.setRow g (cur.toList.take q ++ us ++ cur.toList.drop (q + us.length)).toArray) G := by
  obtain ⟨cells, S, ⟨hlen, hown⟩, h2, h3, h4, h5⟩ := h
  rcases hown with ⟨hv, _⟩ | ⟨g', cap, cur, hv, hb0, hg, hnc, hcm, hcs, htk⟩
  · cases hv
  injection hv with hv1 hv2 hv3
  injection hv1 with hv1
  injection hv1 with hv4 hv5
  subst hv4 hv5 hv2 hv3
  have hkl : k < xs.length := (List.getElem?_eq_some_iff.1 hk).1
  have hks : (k + 1) * size ≤ xs.length * size := Nat.mul_le_mul_right _ hkl
  have hcap : xs.length * size ≤ c * size := Nat.mul_le_mul_right _ hnc
  have hk1 : (k + 1) * size = k * size + size := by rw [Nat.add_mul, Nat.one_mul]
  have hfit : q + us.length ≤ cur.size := by rw [hcs]; omega
  refine ⟨cur, hg, hfit, fun k hk => by subst hk; exact (h5 _).2 (.inl rfl), ?_⟩
  obtain ⟨c1, c2⟩ := elems_get h2 hk
  have hgS : ¬ S g := h4 g rfl
  have hnew : ((cells.drop (k * size)).take size).take off ++ us ++ ((cells.drop (k * size)).take size).drop (off + us.length) = ((cells.drop (k * size)).take size).take off ++ us ++ ((cells.drop (k * size)).take size).drop (off + us.length) := rfl
  have hset := elems_set h2 hk (new := ((cells.drop (k * size)).take size).take off ++ us ++ ((cells.drop (k * size)).take size).drop (off + us.length)) (by simp only [List.length_append, List.length_take, List.length_drop] at c1 ⊢; omega) (hE w S _ c1 c2)
  have hset' : elems size E (w.setRow g (cur.toList.take q ++ us ++ cur.toList.drop (q + us.length)).toArray) S _ (xs.set k x') := elems_move hset (fun k hk => setRow_other w g k _ (fun e => hgS (e ▸ hk)))
  refine ⟨_, S, ⟨?_, .inr ⟨g, c, _, by rw [List.length_set], hb0, setRow_heap w g cur _ T (0, 0) hg, by rw [List.length_set]; exact hnc, hcm, ?_, ?_⟩⟩, hset', fun k hk => by rw [size_setRow]; exact h3 k hk, h4, h5⟩
  · have := elems_length hset
    exact this
  · simp only [List.size_toArray, List.length_append, List.length_take, List.length_drop, Array.length_toList]
    omega
  · rw [List.length_set]
    have hcl : cur.toList.length = c * size := by simpa using hcs
    have hcells : cells.length = xs.length * size := hlen
    have d1 : (cells.drop (k * size)).take size = (cells.drop (k * size)).take size := rfl
    have hq2 : q + us.length ≤ xs.length * size := by omega
    have r1 : cells.take (k * size) ++ ((cells.drop (k * size)).take size).take off = cells.take q := by
      rw [List.take_take, Nat.min_eq_left (by omega), ← List.take_add, show k * size + off = q by omega]
    have r2 : ((cells.drop (k * size)).take size).drop (off + us.length) ++ cells.drop ((k + 1) * size) = cells.drop (q + us.length) := by
      have e1 : cells.drop ((k + 1) * size) = (cells.drop (k * size)).drop size := by rw [List.drop_drop, hk1]
      have e2 : cells.drop (q + us.length) = (cells.drop (k * size)).drop (off + us.length) := by rw [List.drop_drop, show k * size + (off + us.length) = q + us.length by omega]
      rw [e1, e2, ← List.drop_append_of_le_length (by omega), List.take_append_drop]
    have r3 : cells.take (k * size) ++ (((cells.drop (k * size)).take size).take off ++ us ++ ((cells.drop (k * size)).take size).drop (off + us.length)) ++ cells.drop ((k + 1) * size) = cells.take q ++ us ++ cells.drop (q + us.length) := by
      rw [← r1, ← r2]
      simp only [List.append_assoc]
    rw [r3, ← htk, List.drop_take, List.take_take, Nat.min_eq_left (by omega)]
    have l1 : (cur.toList.take q ++ us).length = q + us.length := by rw [List.length_append, List.length_take]; omega
    rw [List.toList_toArray, List.take_append, l1, List.take_of_length_le (by omega)]
end
section
variable {P : Program} {n : Nat} {F0 : Nat → Prop} {w0 : World} {e : Env} {Rs Rf : List Res} {Q : Exit → Act → World → Prop} {ops : Array Oper} {d : Option Tmp} {i : Nat} {ty t t' el : TypeId} {pos : String} {af : Array Edge} {gd : Option (Nat × Bool)} {v v' : Value} {x y : Operand} {l : List Nat} {lo : Sch} {c : Code} {S : World → Prop}
section
variable {α : Type} {E : Rd α} {T m cp size g o k off q z : Nat} {xs : List α} {u u' : α}
end
section
variable {α : Type} {E : Rd α} {T bytes k : Nat} {zv : Value} {u : α} {m : Int} {kl : IntKind} {d' : Nat}
end
def bitOp : BinOp → Bool
  | .and | .or | .xor | .andNot => true
  | _ => false
theorem Ex.bitw {bo : BinOp} {k : IntKind} {p q : Int} (hb : bitOp bo = true) (hx : e.ev x = some (.int k p)) (hy : e.ev y = some (.int k q)) : Ex P n e S ⟨d, .binOp bo t x y t', ty, pos, af, gd⟩ (.int k (Go.bits bo k p q)) := by
  intro a w ha _
  have h1 : Op.intBits bo k p q = pure (.int k (Go.bits bo k p q)) := by cases bo <;> first | rfl | exact absurd hb (by decide)
  have h2 : (binOp bo t (.int k p) (.int k q)).run P w = .ok (.int k (Go.bits bo k p q)) w := by
    cases bo <;> first | exact absurd hb (by decide) | simp only [binOp, h1, ne_eq, not_true, if_false, Sem.run_pure]
  have h3 : eqGuard bo t x y (.int k p) (.int k q) = pure () := by cases bo <;> first | exact absurd hb (by decide) | rfl
  simp only [execOp, ha.ev hx, ha.ev hy, h3, Sem.run_bind, Sem.run_pure, Result.andThen_ok, h2]
def shrK (k : IntKind) (p q : Int) : Int := p.fdiv (2 ^ min q.toNat k.bits)
theorem Ex.shr {k k' : IntKind} {p q : Int} (hx : e.ev x = some (.int k p)) (hy : e.ev y = some (.int k' q)) (hq : 0 ≤ q) : Ex P n e S ⟨d, .binOp .shr t x y t', ty, pos, af, gd⟩ (.int k (shrK k p q)) := by
  intro a w ha _
  have h0 : ¬ q < 0 := by omega
  simp [execOp, ha.ev hx, ha.ev hy, eqGuard, binOp, Op.shift, h0, shrK]
theorem Ex.notK {k : IntKind} {p : Int} (hx : e.ev x = some (.int k p)) : Ex P n e S ⟨d, .unOp .xor t x, ty, pos, af, gd⟩ (.int k (Go.bits .xor k (if k.signed then -1 else k.max) p)) := by
  intro a w ha _
  have h1 : Op.intBits .xor k (if k.signed then -1 else k.max) p = pure (.int k (Go.bits .xor k (if k.signed then -1 else k.max) p)) := rfl
  simp [execOp, ha.ev hx, Op.unary, h1]
theorem T.blen {α : Type} {E : Rd α} {A : Option Addr} {m cp size : Nat} {xs : List α} {B : Res} (i : Nat) (hi : Rs[i]? = some B) (hB : ∀ w G, B.P w G → (RX.of (sliceRd size E) [.slice A m cp] xs).P w G) (h : xs.length ≤ 9223372036854775807 → T P n F0 w0 e Rs c Q) : T P n F0 w0 e Rs c Q := by
  intro a w ha hs
  refine h ?_ a w ha hs
  obtain ⟨G, hG, _⟩ := hs.get i hi
  rcases hB w G hG with ⟨_, rfl⟩ | ⟨_, cap, _, h1, h2, _⟩
  · simp
  · have : maxLen = 9223372036854775807 := rfl
    omega
end
end Go.Proofs.Ytpiiopppbgpbpaa.Sl
namespace Go.Proofs.Ytpiiopppbgpbpaa.Sl
open Go.RowKit
set_option linter.unusedVariables false
set_option linter.unusedSimpArgs false
def tabC (l : List Int) : Array Value := (l.map (Value.int .u32)).toArray
def TabR (T g : Nat) (l : List Int) : Res where
  P := fun w G => (BlkR g T (tabC l)).P w G ∧ l.length = 256
  lt := fun h => (BlkR g T (tabC l)).lt h.1
  move := fun h hm => ⟨(BlkR g T (tabC l)).move h.1 hm, h.2⟩
theorem tabC_get {l : List Int} {k : Nat} {u : Int} (h : l[k]? = some u) : (tabC l)[k]? = some (.int .u32 u) := by
  unfold tabC
  simp [h]
section
variable {P : Program} {n : Nat} {F0 : Nat → Prop} {w0 w : World} {e : Env} {Rs Rf : List Res} {Q : Exit → Act → World → Prop} {ops : Array Oper} {d : Option Tmp} {i : Nat} {ty t t' el : TypeId} {pos : String} {af : Array Edge} {gd : Option (Nat × Bool)} {v v' : Value} {x y ix : Operand} {L : List Nat} {lo : Sch} {c : Code} {S : World → Prop}
variable {T g k : Nat} {l : List Int} {u u' : Int}
theorem tab_len (j : Nat) (h : St F0 w0 Rs w) (hj : Rs[j]? = some (TabR T g l)) : l.length = 256 := by
  obtain ⟨G, hG, _⟩ := h.get j hj
  exact hG.2
theorem tab_blk (j : Nat) (h : St F0 w0 Rs w) (hj : Rs[j]? = some (TabR T g l)) : w.heap[g]? = some (.cells (tabC l) T (0, 0)) := by
  obtain ⟨G, hG, _⟩ := h.get j hj
  exact hG.1.1
theorem Ex.tIx (j : Nat) {a : Int} {q : IntKind} (hx : e.ev x = some (.pointer (some ⟨g, 0, none⟩))) (hi : e.ev ix = some (.int q a)) (hik : a = (k : Int)) (hu : ∀ w, (underlying t).run P w = .ok (.array 256 el) w) (hz : ∀ w, (sizeOf el).run P w = .ok 1 w) (hj : Rs[j]? = some (TabR T g l)) (hk : l[k]? = some u) :
    Ex P n e (St F0 w0 Rs) ⟨d, .indexAddr t x ix, ty, pos, af, gd⟩ (.pointer (some ⟨g, k, none⟩)) := by
  intro A w ha hs
  have h1 := tab_len j hs hj
  have h2 : k < 256 := by rw [← h1]; exact (List.getElem?_eq_some_iff.1 hk).1
  have h3 := Ex.ixP (S := fun _ => True) (d := d) (ty := ty) (pos := pos) (af := af) (gd := gd) hx hi hik hu hz h2 A w ha trivial
  rwa [show 0 + k * 1 = k by omega] at h3
theorem Ex.tLd (j : Nat) (hx : e.ev x = some (.pointer (some ⟨g, k, none⟩))) (ha : ∀ w, (isAgg t).run P w = .ok false w) (hj : Rs[j]? = some (TabR T g l)) (hk : l[k]? = some u) :
    Ex P n e (St F0 w0 Rs) ⟨d, .load t x, ty, pos, af, gd⟩ (.int .u32 u) :=
  Ex.ld1 hx ha (fun w hw => (heap_at (tab_blk j hw hj) k).trans (tabC_get hk))
theorem Ef.tSt (j : Nat) (hx : e.ev x = some (.pointer (some ⟨g, k, none⟩))) (hy : e.ev y = some (.int .u32 u')) (hz : ∀ w, (sizeOf t).run P w = .ok 1 w) (hj : Rs[j]? = some (TabR T g l)) (hk : l[k]? = some u) :
    Ef P n F0 w0 e Rs ⟨none, .store t x y, ty, pos, af, gd⟩ (fun e' Rs' => e' = e ∧ Rs' = Rs.set j (TabR T g (l.set k u'))) := by
  intro a w K Q ha hs hk'
  have hb := tab_blk j hs hj
  have hl := tab_len j hs hj
  have hkl : k < l.length := (List.getElem?_eq_some_iff.1 hk).1
  have hc : ((tabC l).toList.take k ++ [Value.int .u32 u'] ++ (tabC l).toList.drop (k + 1)).toArray = tabC (l.set k u') := by
    unfold tabC
    rw [List.map_set, List.set_eq_take_append_cons_drop, if_pos (by rw [List.length_map]; exact hkl)]
    simp
  have h2 := run_storeCells_at (P := P) g k T [Value.int .u32 u'] 0 (tabC l) w hb (by simp [tabC]; omega) (by simp [Value.oneCell'])
  simp only [Nat.add_zero, List.length_singleton] at h2
  rw [hc] at h2
  have h1 : (execOp a.eval ⟨none, .store t x y, ty, pos, af, gd⟩).run P w = .ok .skip (w.setRow g (tabC (l.set k u'))) := by
    simp [execOp, ha.ev hx, ha.ev hy, Instr.storeAt, Instr.sureAddr, storeVar, hz, Value.cells, h2]
  unfold Oper.wp
  rw [h1]
  refine hk' _ _ ⟨rfl, rfl⟩ _ _ ha.put0 (hs.step j hj (Ns := []) (fun G hG => ?_))
  exact ⟨⟨rfl, rfl, rfl, by simp [World.setRow], fun k hk hn => setRow_other w g k _ (fun e => hn (e ▸ (hG.1.2 g).2 rfl))⟩, G, ⟨⟨setRow_heap w g _ _ T (0, 0) hG.1.1, hG.1.2⟩, by rw [List.length_set]; exact hG.2⟩, fun k hk => .inl hk, trivial⟩
theorem TL.tSt (j : Nat) (ho : ops[i]? = some ⟨none, .store t x y, ty, pos, af, gd⟩) (hw : Wd n ops e ⟨none, .store t x y, ty, pos, af, gd⟩ true) (hx : e.ev x = some (.pointer (some ⟨g, k, none⟩))) (hy : e.ev y = some (.int .u32 u')) (hz : ∀ w, (sizeOf t).run P w = .ok 1 w) (hj : Rs[j]? = some (TabR T g l)) (hk : l[k]? = some u)
    (h : TL P n F0 w0 ops L e (Rs.set j (TabR T g (l.set k u'))) Q) : TL P n F0 w0 ops (i :: L) e Rs Q := by
  refine TL.ef ho hw (Ef.tSt j hx hy hz hj hk) ?_
  rintro _ _ ⟨rfl, rfl⟩
  exact h
theorem TD.tSt (j : Nat) (ho : ops[i]? = some ⟨none, .store t x y, ty, pos, af, gd⟩) (hw : Wd n ops e ⟨none, .store t x y, ty, pos, af, gd⟩ true) (hx : e.ev x = some (.pointer (some ⟨g, k, none⟩))) (hy : e.ev y = some (.int .u32 u')) (hz : ∀ w, (sizeOf t).run P w = .ok 1 w) (hj : Rs[j]? = some (TabR T g l)) (hk : l[k]? = some u)
    (is : List Nat) (hf : Sel (Rs.set j (TabR T g (l.set k u'))) is Rf)
    (h : TD P n F0 w0 ops lo Rf e (Rs.set j (TabR T g (l.set k u'))) Q) : TD P n F0 w0 ops (.e i lo) Rf e Rs Q := by
  refine TD.ef ho hw (Ef.tSt j hx hy hz hj hk) ?_
  rintro _ _ ⟨rfl, rfl⟩
  exact ⟨Rf, fun w hw => hw.sel is hf, fun _ h => h, h⟩
theorem Ex.bldZ {m : Nat} {zs : Array Value} (hz : ∀ w, (zeroValue t).run P w = .ok (.agg zs) w) (hu : ∀ w, (underlying t).run P w = .ok (.array m el) w) (hs : ∀ w, (sizeOf el).run P w = .ok 1 w) : Ex P n e S ⟨d, .build t #[], ty, pos, af, gd⟩ (.agg zs) := by
  intro a w ha _
  have h1 : (Instr.build t #[]).run P w = .ok (.agg zs) w := by
    simp only [Instr.build, Sem.run_bind, hz, hu, hs, Result.andThen_ok]
    rfl
  simp only [execOp, Sem.run_bind]
  simp [h1]
theorem TL.tNew {zs : Array Value} {d : Nat} (ho : ops[i]? = some ⟨some d, .box t x, ty, pos, af, gd⟩) (hw : Wd n ops e ⟨some d, .box t x, ty, pos, af, gd⟩ true) (hx : e.ev x = some (.agg zs)) (hzs : zs = tabC (List.replicate 256 0)) (hd : Nat.blt d n = true)
    (h : ∀ b, TL P n F0 w0 ops L ((d, .pointer (some ⟨b, 0, none⟩)) :: e) (TabR t b (List.replicate 256 0) :: Rs) Q) : TL P n F0 w0 ops (i :: L) e Rs Q := by
  refine TL.box ho hw hx hd (fun b => ?_)
  intro a w ha hs
  subst hzs
  exact h b a w ha (hs.weaken 0 rfl (fun G hG => ⟨hG, List.length_replicate ..⟩))
end
def LW (P : Program) (c : Code) (Q : Exit → Act → World → Prop) (a : Act) (w : World) : Prop := ∀ b k cs, ∃ x a' w', Q x a' w' ∧ Arrives P (lone (b.at a (.code c :: .inLoop c :: k)) cs w) b k cs x a' w'
def TW (P : Program) (n : Nat) (F0 : Nat → Prop) (w0 : World) (e : Env) (Rs : List Res) (c : Code) (Q : Exit → Act → World → Prop) : Prop := ∀ a w, Has n e a → St F0 w0 Rs w → LW P c Q a w
section
variable {P : Program} {n : Nat} {F0 : Nat → Prop} {w0 : World} {e : Env} {Rs : List Res} {Q : Exit → Act → World → Prop} {c : Code}
theorem TW.step (h : T P n F0 w0 e Rs c (Exit.then (LW P c Q) Q)) : TW P n F0 w0 e Rs c Q := by
  intro a w ha hs b k cs
  obtain ⟨x, a₁, w₁, hq, harr⟩ := h a w ha hs b (.inLoop c :: k) cs
  cases x with
  | normal =>
    obtain ⟨x₂, a₂, w₂, hq₂, harr₂⟩ := hq b k cs
    exact ⟨x₂, a₂, w₂, hq₂, .of_steps (Steps.trans harr (.one step_inLoop)) harr₂⟩
  | exit id => exact ⟨_, a₁, w₁, hq, .pass (x := .inLoop c) rfl (fun _ _ => .inl (by simp)) harr⟩
  | goto l => exact ⟨_, a₁, w₁, hq, .pass (x := .inLoop c) rfl (fun _ _ => .inl (by simp)) harr⟩
  | ret => exact ⟨_, a₁, w₁, hq, .pass (x := .inLoop c) rfl (fun _ _ => .inl (by simp)) harr⟩
  | panic ch => exact ⟨_, a₁, w₁, hq, .pass (x := .inLoop c) rfl (fun _ _ => .inl (by simp)) harr⟩
  | outgrown => exact ⟨_, a₁, w₁, hq, .pass (x := .inLoop c) rfl (fun _ _ => .inl (by simp)) harr⟩
end
end Go.Proofs.Ytpiiopppbgpbpaa.Sl
namespace Go.Proofs.Ytpiiopppbgpbpaa.Sl
open Go.RowKit
set_option linter.unusedVariables false
set_option linter.unusedSimpArgs false
def bsI (l : List UInt8) : List Int := l.map fun c => (c.toNat : Int)
theorem bsI_length (l : List UInt8) : (bsI l).length = l.length := by simp [bsI]
def BsR (T b c : Nat) (xs : List Int) : Res where
  P := fun w G => (∃ (cur : Array Value) (lo hi : Nat), w.heap[b]? = some (.cells cur T (lo, hi)) ∧ xs.length ≤ lo ∧ ∀ (j : Nat) (u : Int), xs[j]? = some u → cur[j]? = some (.int .u8 u)) ∧ ∀ k, G k ↔ k = b
  lt := by
    rintro w G ⟨⟨cur, lo, hi, h1, _⟩, h2⟩ k hk
    obtain rfl := (h2 k).1 hk
    exact (Array.getElem?_eq_some_iff.1 h1).1
  move := by
    rintro w w' G ⟨⟨cur, lo, hi, h1, h3⟩, h2⟩ hm
    exact ⟨⟨cur, lo, hi, by rw [hm b ((h2 b).2 rfl)]; exact h1, h3⟩, h2⟩
section
variable {P : Program} {n : Nat} {F0 : Nat → Prop} {w0 w : World} {e : Env} {Rs Rf : List Res} {Q : Exit → Act → World → Prop} {ops : Array Oper} {d : Option Tmp} {i : Nat} {ty t t' el : TypeId} {pos : String} {af : Array Edge} {gd : Option (Nat × Bool)} {v v' : Value} {x y ix : Operand} {L : List Nat} {lo : Sch} {S : World → Prop}
variable {T b c k m : Nat} {xs : List Int} {u u' : Int}
theorem bs_get (j : Nat) (h : St F0 w0 Rs w) (hj : Rs[j]? = some (BsR T b c xs)) : ∃ (cur : Array Value) (lo hi : Nat), w.heap[b]? = some (.cells cur T (lo, hi)) ∧ xs.length ≤ lo ∧ ∀ (j : Nat) (u : Int), xs[j]? = some u → cur[j]? = some (.int .u8 u) := by
  obtain ⟨G, hG, _⟩ := h.get j hj
  exact hG.1
theorem bs_cell (j : Nat) (h : St F0 w0 Rs w) (hj : Rs[j]? = some (BsR T b c xs)) (hk : xs[k]? = some u) : w.cell? ⟨b, k, none⟩ = some (.int .u8 u) ∧ w.frozen? ⟨b, k, none⟩ = false := by
  obtain ⟨cur, lo, hi, h1, h2, h3⟩ := bs_get j h hj
  have hlt := (List.getElem?_eq_some_iff.1 hk).1
  refine ⟨by simp only [World.cell?, h1]; exact h3 k u hk, ?_⟩
  simp only [World.frozen?, h1, Bool.and_eq_false_iff, decide_eq_false_iff_not]
  exact .inl (by omega)
theorem Ex.bsLd (j : Nat) (hx : e.ev x = some (.pointer (some ⟨b, k, none⟩))) (ha : ∀ w, (isAgg t).run P w = .ok false w) (hj : Rs[j]? = some (BsR T b c xs)) (hk : xs[k]? = some u) :
    Ex P n e (St F0 w0 Rs) ⟨d, .load t x, ty, pos, af, gd⟩ (.int .u8 u) :=
  Ex.ld1 hx ha (fun w hw => (bs_cell j hw hj hk).1)
theorem Ex.bsIx {a : Int} {q : IntKind} (hx : e.ev x = some (.slice (some ⟨b, 0, none⟩) m c)) (hi : e.ev ix = some (.int q a)) (hik : a = (k : Int)) (hu : ∀ w, (underlying t).run P w = .ok (.slice el) w) (hz : ∀ w, (sizeOf el).run P w = .ok 1 w) (hk : xs[k]? = some u) (hm : m = xs.length) :
    Ex P n e S ⟨d, .indexAddr t x ix, ty, pos, af, gd⟩ (.pointer (some ⟨b, k, none⟩)) := by
  intro A w ha hs
  have h3 := Ex.ixS (S := fun _ => True) (d := d) (ty := ty) (pos := pos) (af := af) (gd := gd) hx hi hik hu hz (by rw [hm]; exact (List.getElem?_eq_some_iff.1 hk).1) A w ha trivial
  rwa [show 0 + k * 1 = k by omega] at h3
theorem Ef.bsSt (j : Nat) (hx : e.ev x = some (.pointer (some ⟨b, k, none⟩))) (hy : e.ev y = some (.int .u8 u')) (hz : ∀ w, (sizeOf t).run P w = .ok 1 w) (hj : Rs[j]? = some (BsR T b c xs)) (hk : xs[k]? = some u) :
    Ef P n F0 w0 e Rs ⟨none, .store t x y, ty, pos, af, gd⟩ (fun e' Rs' => e' = e ∧ Rs' = Rs.set j (BsR T b c (xs.set k u'))) := by
  intro a w K Q ha hs hk'
  have hkl : k < xs.length := (List.getElem?_eq_some_iff.1 hk).1
  obtain ⟨hc, hf⟩ := bs_cell j hs hj hk
  obtain ⟨cur, lo, hi, h1, h2, h3⟩ := bs_get j hs hj
  have hadd : (⟨b, k, none⟩ : Addr).add 0 = ⟨b, k, none⟩ := by unfold Addr.add; split <;> simp_all
  have h4 : (storeCells ⟨b, k, none⟩ [Value.int .u8 u'] 0).run P w = .ok () (w.setCell ⟨b, k, none⟩ (.int .u8 u')) := by
    have h5 : (store (⟨b, k, none⟩ : Addr) (.int .u8 u') .plain).run P w = .ok () (w.setCell ⟨b, k, none⟩ (.int .u8 u')) := by
      rw [run_store P w _ _ _ rfl, hc, hf]
      rfl
    simp only [storeCells, hadd, Sem.run_bind, h5, Result.andThen_ok, Sem.run_pure]
  have hw : (w.setCell ⟨b, k, none⟩ (.int .u8 u')) = w.setRow b (cur.setIfInBounds k (.int .u8 u')) := setCell_eq_setRow w b k cur T (lo, hi) (.int .u8 u') h1
  have h6 : (execOp a.eval ⟨none, .store t x y, ty, pos, af, gd⟩).run P w = .ok .skip (w.setRow b (cur.setIfInBounds k (.int .u8 u'))) := by
    rw [← hw]
    simp [execOp, ha.ev hx, ha.ev hy, Instr.storeAt, Instr.sureAddr, storeVar, hz, Value.cells, h4]
  unfold Oper.wp
  rw [h6]
  refine hk' _ _ ⟨rfl, rfl⟩ _ _ ha.put0 (hs.step j hj (Ns := []) (fun G hG => ?_))
  refine ⟨⟨rfl, rfl, rfl, by simp [World.setRow], fun q hq hn => setRow_other w b q _ (fun e => hn (e ▸ (hG.2 b).2 rfl))⟩, G, ⟨⟨_, lo, hi, setRow_heap w b _ _ T (lo, hi) h1, by rw [List.length_set]; exact h2, fun q z hq => ?_⟩, hG.2⟩, fun k hk => .inl hk, trivial⟩
  rw [Array.getElem?_setIfInBounds]
  rw [List.getElem?_set] at hq
  have hkc : k < cur.size := by
    have := h3 k u hk
    exact (Array.getElem?_eq_some_iff.1 this).1
  by_cases e1 : k = q
  · rw [if_pos e1, if_pos hkl] at hq
    rw [if_pos e1, if_pos hkc]
    injection hq with hq
    rw [hq]
  · rw [if_neg e1] at hq
    rw [if_neg e1]
    exact h3 q z hq
theorem TL.bsSt (j : Nat) (ho : ops[i]? = some ⟨none, .store t x y, ty, pos, af, gd⟩) (hw : Wd n ops e ⟨none, .store t x y, ty, pos, af, gd⟩ true) (hx : e.ev x = some (.pointer (some ⟨b, k, none⟩))) (hy : e.ev y = some (.int .u8 u')) (hz : ∀ w, (sizeOf t).run P w = .ok 1 w) (hj : Rs[j]? = some (BsR T b c xs)) (hk : xs[k]? = some u)
    (h : TL P n F0 w0 ops L e (Rs.set j (BsR T b c (xs.set k u'))) Q) : TL P n F0 w0 ops (i :: L) e Rs Q := by
  refine TL.ef ho hw (Ef.bsSt j hx hy hz hj hk) ?_
  rintro _ _ ⟨rfl, rfl⟩
  exact h
theorem TD.bsSt (j : Nat) (ho : ops[i]? = some ⟨none, .store t x y, ty, pos, af, gd⟩) (hw : Wd n ops e ⟨none, .store t x y, ty, pos, af, gd⟩ true) (hx : e.ev x = some (.pointer (some ⟨b, k, none⟩))) (hy : e.ev y = some (.int .u8 u')) (hz : ∀ w, (sizeOf t).run P w = .ok 1 w) (hj : Rs[j]? = some (BsR T b c xs)) (hk : xs[k]? = some u)
    (is : List Nat) (hf : Sel (Rs.set j (BsR T b c (xs.set k u'))) is Rf)
    (h : TD P n F0 w0 ops lo Rf e (Rs.set j (BsR T b c (xs.set k u'))) Q) : TD P n F0 w0 ops (.e i lo) Rf e Rs Q := by
  refine TD.ef ho hw (Ef.bsSt j hx hy hz hj hk) ?_
  rintro _ _ ⟨rfl, rfl⟩
  exact ⟨Rf, fun w hw => hw.sel is hf, fun _ h => h, h⟩
theorem Ef.toBs {l : List UInt8} {el : TypeId} (hx : e.ev x = some (.string (bsOf l))) (hs : P.underlying t = some .string) (hd : P.underlying t' = some (.slice el)) (he : P.underlying el = some (.int .u8)) (hdd : okd d n = true) :
    Ef P n F0 w0 e Rs ⟨d, .convert t t' x, ty, pos, af, gd⟩ (fun e' Rs' => ∃ b c, e' = envput d (.slice (some ⟨b, 0, none⟩) (bsI l).length c) e ∧ Rs' = BsR el b c (bsI l) :: Rs) := by
  intro a w K Q ha hst hk
  have h1 := Lib.run_convert_string_bytes (P := P) w t t' el (bsOf l) hs hd he
  have h2 : (execOp a.eval ⟨d, .convert t t' x, ty, pos, af, gd⟩).run P w = .ok (.value (.slice (some ⟨w.heap.size, 0, none⟩) (bsI l).length (grownCap w (bsOf l).size 0 el))) (Lib.bytesWorld w el (bsOf l)) := by
    rw [bsI_length, ← bsOf_size l]
    simp [execOp, ha.ev hx, h1]
  unfold Oper.wp
  rw [h2]
  refine hk _ _ ⟨_, _, rfl, rfl⟩ _ _ (ha.putd hdd) ?_
  refine hst.grow (Ns := [BsR el w.heap.size (grownCap w (bsOf l).size 0 el) (bsI l)]) ⟨rfl, rfl, rfl, ?_, fun q hq _ => Lib.bytesWorld_at_old w el (bsOf l) q hq⟩ ⟨fun k => k = w.heap.size, ⟨⟨_, _, _, Lib.bytesWorld_at_new w el (bsOf l), ?_, fun j z hj => ?_⟩, fun _ => Iff.rfl⟩, fun k hk => by omega, trivial⟩
  · rw [Lib.bytesWorld_size]; omega
  · rw [bsI_length]
    simp [Lib.bytesCells, bsOf]
  · have hlt : j < l.length := by rw [← bsI_length l]; exact (List.getElem?_eq_some_iff.1 hj).1
    unfold bsI at hj
    rw [List.getElem?_map, List.getElem?_eq_getElem hlt] at hj
    injection hj with hj
    simp [Lib.bytesCells, bsOf, Array.getElem?_append, hlt, ← hj]
theorem TL.toBs {l : List UInt8} {el : TypeId} {d : Nat} (ho : ops[i]? = some ⟨some d, .convert t t' x, ty, pos, af, gd⟩) (hw : Wd n ops e ⟨some d, .convert t t' x, ty, pos, af, gd⟩ true) (hx : e.ev x = some (.string (bsOf l))) (hs : P.underlying t = some .string) (hd : P.underlying t' = some (.slice el)) (he : P.underlying el = some (.int .u8)) (hdd : Nat.blt d n = true)
    (h : ∀ b c, TL P n F0 w0 ops L ((d, .slice (some ⟨b, 0, none⟩) (bsI l).length c) :: e) (BsR el b c (bsI l) :: Rs) Q) : TL P n F0 w0 ops (i :: L) e Rs Q := by
  refine TL.ef ho hw (Ef.toBs hx hs hd he hdd) ?_
  rintro _ _ ⟨b, c, rfl, rfl⟩
  exact h b c
theorem Ex.bsStr (j : Nat) (hx : e.ev x = some (.slice (some ⟨b, 0, none⟩) m c)) (hm : m = xs.length) (hs : ∀ w, (underlying t).run P w = .ok (.slice el) w) (hd : ∀ w, (underlying t').run P w = .ok .string w) (hel : ∀ w, (underlying el).run P w = .ok (.int .u8) w) (hj : Rs[j]? = some (BsR T b c xs)) :
    Ex P n e (St F0 w0 Rs) ⟨d, .convert t t' x, ty, pos, af, gd⟩ (.string (bsOf (toBs xs))) := by
  intro a w ha hst
  obtain ⟨cur, lo, hi, h1, h2, h3⟩ := bs_get j hst hj
  have hl : (loadCells ⟨b, 0, none⟩ xs.length).run P w = .ok (xs.map (Value.int .u8)).toArray w := by
    have := run_loadCells_list (P := P) w ⟨b, 0, none⟩ (xs.map (Value.int .u8)) (fun q z hq => by
      have hadd : (⟨b, 0, none⟩ : Addr).add q = ⟨b, q, none⟩ := by unfold Addr.add; split <;> simp_all
      rw [hadd]
      rw [List.getElem?_map] at hq
      obtain ⟨u, hu, rfl⟩ := Option.map_eq_some_iff.1 hq
      exact (bs_cell j hst hj hu).1)
    rwa [List.length_map] at this
  have h4 := run_bytesToString w ⟨b, 0, none⟩ xs.length c xs hl
  have h5 := push_bytes xs []
  rw [List.nil_append] at h5
  have h6 : (Conv.bytesToString (.slice (some ⟨b, 0, none⟩) m c)).run P w = .ok (.string (bsOf (toBs xs))) w := by
    rw [hm, h4]
    exact congrArg (fun s => Result.ok (Value.string s) w) h5
  simp [execOp, ha.ev hx, convert, hs, hd, hel, h6]
end
end Go.Proofs.Ytpiiopppbgpbpaa.Sl
