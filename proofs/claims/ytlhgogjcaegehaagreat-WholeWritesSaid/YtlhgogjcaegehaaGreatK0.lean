/- wholeWrites_holds: part 0. -/
import Derived.WalkKit
import Derived.Below
import Derived.Laws.OwnMore
import Derived.Deep.Draws
import Derived.Laws.Rows
import Derived.Lib.Hide
import Derived.Lib.AppendStr
import Derived.Maps.AppendAt
import Derived.OwnWalk
import Derived.Deep.AppendLies
import Derived.Laws.BytesArg
import Derived.Deep.WholeRow
import Derived.ChangeArms
import Derived.ChangeSlices
import Derived.Deep.Slices
import Derived.OpenShut
import Derived.WideShapes
import Derived.Test.YtlhgogjcaegehaaGreatProg
import Derived.KernelRfl
import Derived.Deep.QuietTactic
import Derived.BigQuiet
import Derived.LoopN
import Derived.WalkSpells
import Derived.WalkLawsBesides
import Derived.Lib.Strings
import Derived.Laws.BitsLemmas
import Derived.OrdersHeld
import Derived.Laws.Cells
import Derived.Laws.CopyRow
import Derived.Laws.StructEq
import Derived.IntWalk
import Derived.Laws.Strings
namespace Go.Proofs.YtlhgogjcaegehaaGreat.Sl
open Go.RowKit
set_option linter.unusedVariables false
structure Fr (F : Nat → Prop) (w w' : World) : Prop where
  os : w'.os = w.os
  tape : w'.tape = w.tape
  output : w'.output = w.output
  size : w.heap.size ≤ w'.heap.size
  block : ∀ k, k < w.heap.size → ¬ F k → w'.heap[k]? = w.heap[k]?
theorem Fr.refl (F : Nat → Prop) (w : World) : Fr F w w := ⟨rfl, rfl, rfl, Nat.le_refl _, fun _ _ _ => rfl⟩
theorem Fr.trans {F G : Nat → Prop} {a b c : World} (h : Fr F a b) (k : Fr G b c) (hg : ∀ k, G k → F k ∨ a.heap.size ≤ k) : Fr F a c :=
  ⟨k.os.trans h.os, k.tape.trans h.tape, k.output.trans h.output, Nat.le_trans h.size k.size, fun i hi hn =>
    (k.block i (Nat.lt_of_lt_of_le hi h.size) (fun h2 => (hg i h2).elim hn (fun h3 => by omega))).trans (h.block i hi hn)⟩
theorem Fr.of_below {F : Nat → Prop} {w w' : World} (h : Below w.heap.size w w') : Fr F w w' := ⟨h.os, h.tape, h.output, h.size, fun k hk _ => h.block k hk⟩
theorem Fr.below {w w' : World} (h : Fr (fun _ => False) w w') : Below w.heap.size w w' := ⟨h.os, h.tape, h.output, h.size, fun k hk => h.block k hk (fun h => h)⟩
theorem Fr.of_grown {F : Nat → Prop} {w w' : World} {row : Option Nat} (h : w.grownBy w' row) (hr : ∀ k, row = some k → F k) : Fr F w w' :=
  ⟨h.os, h.tape, h.output, h.size, fun k hk hn => h.block k hk (fun e => hn (hr k e.symm))⟩
theorem Fr.mono {F G : Nat → Prop} {w w' : World} (h : Fr F w w') (hg : ∀ k, F k → G k) : Fr G w w' := ⟨h.os, h.tape, h.output, h.size, fun k hk hn => h.block k hk (fun h2 => hn (hg k h2))⟩
theorem Fr.alloc {F : Nat → Prop} {w w' : World} (h : Fr F w w') (o : Obj) : Fr F w (w'.alloc o) :=
  h.trans (Fr.of_below (F := fun _ => False) ((Below.refl _ _).alloc (Nat.le_refl _) o)) (fun _ h => h.elim)
theorem Fr.drew {F : Nat → Prop} {w w' : World} (h : Fr F w w') : Fr F w w'.drew := ⟨h.os, h.tape, h.output, h.size, h.block⟩
theorem Fr.drewN {F : Nat → Prop} {w w' : World} (h : Fr F w w') (n : Nat) : Fr F w (w'.drewN n) := ⟨h.os, h.tape, h.output, h.size, h.block⟩
theorem Fr.set {F : Nat → Prop} {w w' : World} (h : Fr F w w') {p : Addr} (hp : F p.block ∨ w.heap.size ≤ p.block) (u : Value) : Fr F w (w'.setCell p u) :=
  h.trans (G := fun k => k = p.block) ⟨rfl, rfl, rfl, by simp [World.setCell], fun k _ hn => Below.heap_setCell _ _ _ _ hn⟩ (fun k hk => by rw [hk]; exact hp)
structure Res where
  P : World → (Nat → Prop) → Prop
  lt : ∀ {w : World} {G : Nat → Prop}, P w G → ∀ k, G k → k < w.heap.size
  move : ∀ {w w' : World} {G : Nat → Prop}, P w G → (∀ k, G k → w'.heap[k]? = w.heap[k]?) → P w' G
def Sep : List Res → World → (Nat → Prop) → Prop
  | [], _, _ => True
  | R :: Rs, w, F => ∃ G, R.P w G ∧ (∀ k, G k → F k) ∧ Sep Rs w (fun k => F k ∧ ¬ G k)
theorem Sep.mono : ∀ {Rs : List Res} {w : World} {F F' : Nat → Prop}, Sep Rs w F → (∀ k, F k → F' k) → Sep Rs w F'
  | [], _, _, _, _, _ => trivial
  | _ :: _, _, _, _, ⟨G, h1, h2, h3⟩, hf => ⟨G, h1, fun k hk => hf k (h2 k hk), h3.mono (fun k hk => ⟨hf k hk.1, hk.2⟩)⟩
theorem Sep.inside : ∀ {Rs : List Res} {w : World} {F : Nat → Prop}, Sep Rs w F → Sep Rs w (fun k => F k ∧ k < w.heap.size)
  | [], _, _, _ => trivial
  | R :: _, _, _, ⟨G, h1, h2, h3⟩ => ⟨G, h1, fun k hk => ⟨h2 k hk, R.lt h1 k hk⟩, h3.inside.mono (fun k hk => ⟨⟨hk.1.1, hk.2⟩, hk.1.2⟩)⟩
theorem Sep.move_ : ∀ {Rs : List Res} {w w' : World} {F : Nat → Prop}, Sep Rs w F → (∀ k, F k → w'.heap[k]? = w.heap[k]?) → Sep Rs w' F
  | [], _, _, _, _, _ => trivial
  | R :: _, _, _, _, ⟨G, h1, h2, h3⟩, hm => ⟨G, R.move h1 (fun k hk => hm k (h2 k hk)), h2, h3.move_ (fun k hk => hm k hk.1)⟩
theorem Sep.move {Rs : List Res} {w w' : World} {F : Nat → Prop} (h : Sep Rs w F) (hm : ∀ k, F k → k < w.heap.size → w'.heap[k]? = w.heap[k]?) : Sep Rs w' F :=
  (h.inside.move_ (fun k hk => hm k hk.1 hk.2)).mono (fun _ hk => hk.1)
theorem Sep.pick : ∀ {Rs : List Res} (i : Nat) {A : Res} {w : World} {F : Nat → Prop}, Rs[i]? = some A → Sep Rs w F → ∃ G, A.P w G ∧ (∀ k, G k → F k) ∧ Sep (Rs.eraseIdx i) w (fun k => F k ∧ ¬ G k)
  | [], i, _, _, _, hi, _ => by simp at hi
  | R :: Rs, 0, A, w, F, hi, h => by
    have e : R = A := by simpa using hi
    subst e
    exact h
  | R :: Rs, i + 1, A, w, F, hi, ⟨G, h1, h2, h3⟩ => by
    obtain ⟨G', k1, k2, k3⟩ := Sep.pick i (by simpa using hi) h3
    exact ⟨G', k1, fun k hk => (k2 k hk).1, G, h1, fun k hk => ⟨h2 k hk, fun h => (k2 k h).2 hk⟩, k3.mono (fun k hk => ⟨⟨hk.1.1, hk.2⟩, hk.1.2⟩)⟩
theorem Sep.back : ∀ {Rs : List Res} (i : Nat) {A A' : Res} {w : World} {F G : Nat → Prop}, Rs[i]? = some A → A'.P w G → (∀ k, G k → F k) → Sep (Rs.eraseIdx i) w (fun k => F k ∧ ¬ G k) → Sep (Rs.set i A') w F
  | [], i, _, _, _, _, _, hi, _, _, _ => by simp at hi
  | R :: Rs, 0, A, A', w, F, G, hi, h1, h2, h3 => ⟨G, h1, h2, h3⟩
  | R :: Rs, i + 1, A, A', w, F, G, hi, h1, h2, ⟨G', k1, k2, k3⟩ =>
    ⟨G', k1, fun k hk => (k2 k hk).1, Sep.back i (by simpa using hi) h1 (fun k hk => ⟨h2 k hk, fun h => (k2 k h).2 hk⟩) (k3.mono (fun k hk => ⟨⟨hk.1.1, hk.2⟩, hk.1.2⟩))⟩
theorem Sep.append : ∀ {Ns Rs : List Res} {w : World} {F G : Nat → Prop}, Sep Ns w G → Sep Rs w (fun k => F k ∧ ¬ G k) → (∀ k, G k → F k) → Sep (Ns ++ Rs) w F
  | [], _, _, _, _, _, h, _ => h.mono (fun _ hk => hk.1)
  | N :: Ns, Rs, w, F, G, ⟨H, h1, h2, h3⟩, h, hg =>
    ⟨H, h1, fun k hk => hg k (h2 k hk), Sep.append h3 (h.mono (fun k hk => ⟨⟨hk.1, fun h4 => hk.2 (h2 k h4)⟩, fun h4 => hk.2 h4.1⟩)) (fun k hk => ⟨hg k hk.1, hk.2⟩)⟩
theorem Sep.one {R : Res} {w : World} {F : Nat → Prop} (h : R.P w F) : Sep [R] w F := ⟨F, h, fun _ h => h, trivial⟩
structure St (F0 : Nat → Prop) (w0 : World) (Rs : List Res) (w : World) : Prop where
  fr : Fr F0 w0 w
  sep : Sep Rs w (fun k => F0 k ∨ w0.heap.size ≤ k)
section
variable {F0 : Nat → Prop} {w0 w w' : World} {Rs : List Res} {A A' : Res}
theorem St.start (F0 : Nat → Prop) (w : World) (h : Sep Rs w F0) : St F0 w Rs w := ⟨Fr.refl _ _, h.mono (fun _ hk => .inl hk)⟩
theorem St.nil_ (w : World) : St (fun _ => False) w [] w := ⟨Fr.refl _ _, trivial⟩
theorem St.drew (h : St F0 w0 Rs w) : St F0 w0 Rs w.drew := ⟨h.fr.drew, h.sep.move (fun _ _ _ => rfl)⟩
theorem St.drewN (h : St F0 w0 Rs w) (n : Nat) : St F0 w0 Rs (w.drewN n) := ⟨h.fr.drewN n, h.sep.move (fun _ _ _ => rfl)⟩
theorem St.drop_ (h : St F0 w0 (A :: Rs) w) : St F0 w0 Rs w := by
  obtain ⟨f, G, _, _, h3⟩ := h
  exact ⟨f, h3.mono (fun _ hk => hk.1)⟩
theorem St.del (i : Nat) (h : St F0 w0 Rs w) (hi : Rs[i]? = some A) : St F0 w0 (Rs.eraseIdx i) w := by
  obtain ⟨f, hs⟩ := h
  obtain ⟨G, _, _, h3⟩ := Sep.pick i hi hs
  exact ⟨f, h3.mono (fun _ hk => hk.1)⟩
theorem St.weaken (i : Nat) (h : St F0 w0 Rs w) (hi : Rs[i]? = some A) (hA : ∀ G, A.P w G → A'.P w G) : St F0 w0 (Rs.set i A') w := by
  obtain ⟨f, hs⟩ := h
  obtain ⟨G, h1, h2, h3⟩ := Sep.pick i hi hs
  exact ⟨f, Sep.back i hi (hA _ h1) h2 h3⟩
theorem St.get (i : Nat) (h : St F0 w0 Rs w) (hi : Rs[i]? = some A) : ∃ G, A.P w G ∧ (∀ k, G k → F0 k ∨ w0.heap.size ≤ k) := by
  obtain ⟨G, h1, h2, _⟩ := Sep.pick i hi h.sep
  exact ⟨G, h1, h2⟩
theorem St.step (i : Nat) (h : St F0 w0 Rs w) (hi : Rs[i]? = some A) {Ns : List Res}
    (hs : ∀ G, A.P w G → Fr G w w' ∧ Sep (A' :: Ns) w' (fun k => G k ∨ w.heap.size ≤ k)) : St F0 w0 (Ns ++ Rs.set i A') w' := by
  obtain ⟨f, hp⟩ := h
  obtain ⟨G, h1, h2, h3⟩ := Sep.pick i hi hp
  obtain ⟨f2, G2, k1, k2, k3⟩ := hs G h1
  refine ⟨f.trans f2 h2, ?_⟩
  have hle := f.size
  have hR : Sep (Rs.eraseIdx i) w' (fun k => ((F0 k ∨ w0.heap.size ≤ k) ∧ ¬ G k) ∧ k < w.heap.size) := h3.inside.move (fun k hk _ => f2.block k hk.2 hk.1.2)
  refine Sep.append k3 (F := fun k => F0 k ∨ w0.heap.size ≤ k) (Sep.back i hi k1 (fun k hk => ⟨?_, fun hn => hn.2 hk⟩) (hR.mono (fun k hk => ⟨⟨hk.1.1, ?_⟩, ?_⟩))) ?_
  · rcases k2 k hk with h4 | h4
    · exact h2 k h4
    · exact .inr (by omega)
  · rintro ⟨h4 | h4, _⟩
    · exact hk.1.2 h4
    · have := hk.2; omega
  · intro h4
    rcases k2 k h4 with h5 | h5
    · exact hk.1.2 h5
    · have := hk.2; omega
  · rintro k ⟨h4 | h4, _⟩
    · exact h2 k h4
    · exact .inr (by omega)
theorem St.grow (h : St F0 w0 Rs w) {Ns : List Res} (f2 : Fr (fun _ => False) w w') (k3 : Sep Ns w' (fun k => w.heap.size ≤ k)) : St F0 w0 (Ns ++ Rs) w' := by
  obtain ⟨f, hp⟩ := h
  have hle := f.size
  refine ⟨f.trans f2 (fun _ h => h.elim), Sep.append k3 ((hp.inside.move (fun k hk _ => f2.block k hk.2 (fun h => h))).mono (fun k hk => ⟨hk.1, by have := hk.2; omega⟩)) (fun k hk => .inr (by omega))⟩
theorem St.below (h : St (fun _ => False) w0 Rs w) : Below w0.heap.size w0 w := h.fr.below
end
def BlkR (b : Nat) (T : TypeId) (cs : Array Value) : Res where
  P := fun w G => w.heap[b]? = some (.cells cs T (0, 0)) ∧ ∀ k, G k ↔ k = b
  lt := fun h k hk => by
    rw [(h.2 k).1 hk]
    exact (Array.getElem?_eq_some_iff.1 h.1).1
  move := fun h hm => ⟨(hm _ ((h.2 _).2 rfl)).trans h.1, h.2⟩
section
variable {F0 : Nat → Prop} {w0 w w' : World} {Rs : List Res} {b : Nat} {T : TypeId} {cs : Array Value}
theorem heap_at (h : w.heap[b]? = some (.cells cs T (0, 0))) (i : Nat) : w.cell? ⟨b, i, none⟩ = cs[i]? := cell_of_row w b i cs T (0, 0) h
theorem heap_free (h : w.heap[b]? = some (.cells cs T (0, 0))) (i : Nat) : w.frozen? ⟨b, i, none⟩ = false := by simp [World.frozen?, h]
theorem heap_set (h : w.heap[b]? = some (.cells cs T (0, 0))) (i : Nat) (u : Value) : (w.setCell ⟨b, i, none⟩ u).heap[b]? = some (.cells (cs.setIfInBounds i u) T (0, 0)) := by
  simp [World.setCell, Array.getElem?_modify, h]
theorem heap_lt {o : Obj} (h : w.heap[b]? = some o) : b < w.heap.size := (Array.getElem?_eq_some_iff.1 h).1
theorem St.blk (i : Nat) (h : St F0 w0 Rs w) (hi : Rs[i]? = some (BlkR b T cs)) : w.heap[b]? = some (.cells cs T (0, 0)) := by
  obtain ⟨G, h1, _⟩ := h.get i hi
  exact h1.1
theorem St.alloc (h : St F0 w0 Rs w) (cs : Array Value) (T : TypeId) : St F0 w0 (BlkR w.heap.size T cs :: Rs) (w.alloc (.cells cs T)) :=
  h.grow (Ns := [BlkR w.heap.size T cs]) (Fr.of_below ((Below.refl _ _).alloc (Nat.le_refl _) _)) ⟨fun k => k = w.heap.size, ⟨heap_alloc_new w _, fun _ => Iff.rfl⟩, fun k hk => by omega, trivial⟩
theorem St.set (i : Nat) (h : St F0 w0 Rs w) (hi : Rs[i]? = some (BlkR b T cs)) (j : Nat) (u : Value) : St F0 w0 (Rs.set i (BlkR b T (cs.setIfInBounds j u))) (w.setCell ⟨b, j, none⟩ u) := by
  refine h.step i hi (Ns := []) (fun G hG => ⟨?_, G, ⟨heap_set hG.1 j u, hG.2⟩, fun k hk => .inl hk, trivial⟩)
  exact (Fr.refl G w).set (p := ⟨b, j, none⟩) (.inl ((hG.2 b).2 rfl)) u
end
def Post (Q : Value → Res → List Res → Prop) (F : Nat → Prop) (w : World) (e : Ending) (w' : World) : Prop := ∃ v A' Ns, e = .returned v ∧ Q v A' Ns ∧ St F w (A' :: Ns) w'
def Post0 (Q : Value → List Res → Prop) (w : World) (e : Ending) (w' : World) : Prop := ∃ v Ns, e = .returned v ∧ Q v Ns ∧ St (fun _ => False) w Ns w'
def Spec (P : Program) (f : FuncId) (args : Array Value) (A : Res) (Q : Value → Res → List Res → Prop) : Prop :=
  ∀ F w, A.P w F → Calls P f args w (Post Q F w)
def Spec0 (P : Program) (f : FuncId) (args : Array Value) (Q : Value → List Res → Prop) : Prop :=
  ∀ w, Calls P f args w (Post0 Q w)
section
variable {P : Program} {f : FuncId} {args : Array Value} {F0 : Nat → Prop} {w0 w : World} {Rs : List Res} {A : Res}
theorem St.call {Q : Value → Res → List Res → Prop} (i : Nat) (h : St F0 w0 Rs w) (hi : Rs[i]? = some A) (hs : Spec P f args A Q) :
    Calls P f args w fun e w' => ∃ v A' Ns, e = .returned v ∧ Q v A' Ns ∧ St F0 w0 (Ns ++ Rs.set i A') w' := by
  obtain ⟨G0, hG0, hsub⟩ := h.get i hi
  obtain ⟨G, h1, h2, h3⟩ := Sep.pick i hi h.sep
  refine (hs G w h1).mono ?_
  rintro e w' ⟨v, A', Ns, rfl, hq, hst⟩
  refine ⟨v, A', Ns, rfl, hq, ?_⟩
  obtain ⟨f2, G2, k1, k2, k3⟩ := hst
  have f := h.fr
  refine ⟨f.trans f2 h2, ?_⟩
  have hle := f.size
  have hR : Sep (Rs.eraseIdx i) w' (fun k => ((F0 k ∨ w0.heap.size ≤ k) ∧ ¬ G k) ∧ k < w.heap.size) := h3.inside.move (fun k hk _ => f2.block k hk.2 hk.1.2)
  refine Sep.append k3 (F := fun k => F0 k ∨ w0.heap.size ≤ k) (Sep.back i hi k1 (fun k hk => ⟨?_, fun hn => hn.2 hk⟩) (hR.mono (fun k hk => ⟨⟨hk.1.1, ?_⟩, ?_⟩))) ?_
  · rcases k2 k hk with h4 | h4
    · exact h2 k h4
    · exact .inr (by omega)
  · rintro ⟨h4 | h4, _⟩
    · exact hk.1.2 h4
    · have := hk.2; omega
  · intro h4
    rcases k2 k h4 with h5 | h5
    · exact hk.1.2 h5
    · have := hk.2; omega
  · rintro k ⟨h4 | h4, _⟩
    · exact h2 k h4
    · exact .inr (by omega)
theorem St.call0 {Q : Value → List Res → Prop} (h : St F0 w0 Rs w) (hs : Spec0 P f args Q) :
    Calls P f args w fun e w' => ∃ v Ns, e = .returned v ∧ Q v Ns ∧ St F0 w0 (Ns ++ Rs) w' := by
  refine (hs w).mono ?_
  rintro e w' ⟨v, Ns, rfl, hq, hst⟩
  refine ⟨v, Ns, rfl, hq, h.grow hst.fr (hst.sep.mono (fun k hk => hk.elim (fun h => h.elim) id))⟩
end
end Go.Proofs.YtlhgogjcaegehaaGreat.Sl
namespace Go.Proofs.YtlhgogjcaegehaaGreat.Sl
open Go.RowKit
set_option linter.unusedVariables false
def byteCells (l : List UInt8) : List Value := l.map fun b => Value.int .u8 b.toNat
theorem byteCells_append (l m : List UInt8) : byteCells (l ++ m) = byteCells l ++ byteCells m := by simp [byteCells]
theorem byteCells_str (s : ByteArray) : Lib.strCells s = byteCells s.data.toList := rfl
section
variable {P : Program} (w : World)
theorem append_str_at (t u ty e : TypeId) (i : TypeInfo) (ht : P.underlying t = some (.slice e)) (hu : P.underlying u = some .string) (hi : P.info? e = some i) (hz : i.zero = some (.int .u8 0))
    (hsize : i.size = 1) (hby : i.bytes = 1)
    (v : Value) (n : Nat) (xs : List Value) (hown : w.ownsRow 0 e 1 v n xs) (s : ByteArray) (hbytes : n + s.size ≤ 140737488355328) :
    ∃ v' w', (Builtin.append_ #[t, u] ty #[v, .string s]).run P w = .ok v' w' ∧ w'.ownsRow 0 e 1 v' (n + s.size) (xs ++ Lib.strCells s) ∧ w.grownBy w' v.ownBlock ∧
      (v'.ownBlock = v.ownBlock ∨ v'.ownBlock = some w.heap.size) := by
  obtain ⟨v', w', hr, h2, h3, h4⟩ := Lib.run_append_own_string (P := P) w 0 t u ty e i ht hu hi hz hsize hby v n xs hown s (by simp only [maxLen]; omega) hbytes (Nat.zero_le _)
  refine ⟨v', w', hr, h2, h3, ?_⟩
  rcases hown.2 with ⟨rfl, rfl⟩ | ⟨g, cap, cur, rfl, hbg, hg, hnc, hcm, hcs, htake⟩
  · by_cases hm : s.size = 0
    · left
      rw [h4.2 ⟨rfl, hm⟩]
    · right
      have hr2 := run_append_nil_string (P := P) w t u ty e i (.int .u8 0) ht hu hi hz s (by omega) (by omega) (by rw [hby]; omega)
      rw [hr] at hr2
      injection hr2 with hv _
      rw [hv]
      rfl
  · by_cases hroom : n + s.size ≤ cap
    · left
      have hcs' : cur.size = cap := by simpa using hcs
      have hr2 := Lib.run_append_room_string (P := P) w t u ty e i ht hu hi hsize g n cap cur hg s hroom (by omega)
      rw [hr] at hr2
      injection hr2 with hv _
      rw [hv]
      rfl
    · right
      have hxl : xs.length = n := by simpa using hown.1
      have holds : ∀ j u, xs[j]? = some u → w.cell? ((⟨g, 0, none⟩ : Addr).add j) = some u := hown.cells (g := g) rfl
      have hr2 := Lib.run_append_grow_string (P := P) w t u ty e i (.int .u8 0) ht hu hi hz ⟨g, 0, none⟩ n cap xs (by rw [hsize]; simpa using hxl) holds s (by omega) (by omega) (by rw [hby]; exact growslice_fits (by omega) (by omega))
      rw [hr] at hr2
      injection hr2 with hv _
      rw [hv]
      rfl
theorem wp_append_str_at {ops : Array Oper} {rest : List Oper} {o : Oper} {a : Act} {Q : Exit → Act → World → Prop} (hgd : o.guard = none) (sl x : Operand) (t u : TypeId)
    (ho : o.op = .call { callee := .builtin .append, args := #[sl, x], argTypes := #[t, u] })
    (e : TypeId) (ht : P.underlying t = some (.slice e)) (hu : P.underlying u = some .string) (hinfo : (P.info? e).map (fun i => (i.zero, i.size, i.bytes)) = some (some (.int .u8 0), 1, 1))
    (v : Value) (n : Nat) (xs : List Value) (hs : a.eval sl = v) (hown : w.ownsRow 0 e 1 v n xs) (s : ByteArray) (hx : a.eval x = .string s) (hbytes : n + s.size ≤ 140737488355328)
    (h : ∀ v' w', w'.ownsRow 0 e 1 v' (n + s.size) (xs ++ Lib.strCells s) → w.grownBy w' v.ownBlock → (v'.ownBlock = v.ownBlock ∨ v'.ownBlock = some w.heap.size) → wpList P ops Q rest (a.put o.dst v') w') : wpList P ops Q (o :: rest) a w := by
  obtain ⟨i, hi, hzz⟩ := Option.map_eq_some_iff.1 hinfo
  simp only [Prod.mk.injEq] at hzz
  refine wpList_plain hgd fun K hK => ?_
  obtain ⟨v', w', hr, h2, h3, h4⟩ := append_str_at (P := P) w t u o.type e i ht hu hi hzz.1 hzz.2.1 hzz.2.2 v n xs hown s hbytes
  unfold Oper.wp execOp
  simp only [ho, resolve, invoke, builtin, Sem.run_bind, Sem.run_pure, Result.andThen_ok, List.map_toArray, List.map_cons, List.map_nil, hs, hx, hr]
  exact hK _ _ (h v' w' h2 h3 h4)
theorem wp_append_one_at {ops : Array Oper} {rest : List Oper} {o : Oper} {a : Act} {Q : Exit → Act → World → Prop} (hgd : o.guard = none) (sl x : Operand) (t : TypeId)
    (ho : o.op = .call { callee := .builtin .append, args := #[sl, x], argTypes := #[t, t] })
    (e : TypeId) (z : Value) (bytes : Nat) (ht : P.underlying t = some (.slice e)) (hinfo : (P.info? e).map (fun i => (i.zero, i.size, i.bytes)) = some (some z, 1, bytes)) (hz : z.cells.size = 1)
    (v : Value) (n : Nat) (xs : List Value) (hs : a.eval sl = v) (hown : w.ownsRow 0 e 1 v n xs) (y : Value) (hy : y.oneCell' = true) (hx : a.eval x = .slice (some ⟨w.heap.size, 0, none⟩) 1 1)
    (hbytes : (n + 1) * bytes ≤ 140737488355328) (hmax : n + 1 ≤ 140737488355328)
    (h : ∀ v' w', w'.ownsRow 0 e 1 v' (n + 1) (xs ++ [y]) → w.grownBy w' v.ownBlock → (v'.ownBlock = v.ownBlock ∨ ∃ k, v'.ownBlock = some k ∧ w.heap.size ≤ k) → wpList P ops Q rest (a.put o.dst v') w') :
    wpList P ops Q (o :: rest) a (w.alloc (.cells #[y] e)) := by
  obtain ⟨i, hi, hzz⟩ := Option.map_eq_some_iff.1 hinfo
  simp only [Prod.mk.injEq] at hzz
  obtain ⟨hz0, hz1, hz2⟩ := hzz
  refine wpList_append_own_at (w.alloc (.cells #[y] e)) hgd sl x t ho 0 e i z 1 bytes ht hi hz0 hz1 hz2 hz (by omega) v n xs hs (hown.alloc _) ⟨w.heap.size, 0, none⟩ 1 1 [y] hx rfl
    (by simpa using World.news_of_block (cs := #[y]) (t := e) (fr := (0, 0)) (heap_alloc_new w (.cells #[y] e))) (by simpa using hy) (by simp only [maxLen]; omega) hbytes (Nat.zero_le _) ?_
  intro v' w' hown' hg _ hat
  refine h v' w' hown' (World.grownBy.trans (World.grownBy_alloc w _ _) hg) ?_
  rcases hat with hat | hat
  · exact .inl hat
  · exact .inr ⟨_, hat, by simp⟩
theorem row_string (w : World) {src dst e : TypeId} {v : Value} {l : List UInt8} {n : Nat} (hs : P.underlying src = some (.slice e)) (he : P.underlying e = some (.int .u8)) (hd : P.underlying dst = some .string)
    (h : w.ownsRow 0 e 1 v n (byteCells l)) : (convert src dst v).run P w = .ok (.string ⟨l.toArray⟩) w := by
  have hl : l.length = n := by have := h.1; simp [byteCells] at this; exact this
  have hstr : strOfNums (l.map fun b => (b.toNat : Int)) = ⟨l.toArray⟩ := by
    unfold strOfNums
    congr 1
    simp [List.map_map, Function.comp_def]
  rcases h.2 with ⟨rfl, rfl⟩ | ⟨g, cap, cur, rfl, _⟩
  · obtain rfl : l = [] := List.eq_nil_of_length_eq_zero hl
    exact run_convert_bytes_nil w src e hs he 0 0 dst hd
  · rw [← hstr]
    refine run_convert_bytes_arg w src e hs he g 0 n cap _ (by simpa using hl) (fun i hi => ?_) dst hd
    have hc := h.cells (g := g) rfl i (.int .u8 ((l.map fun b => (b.toNat : Int)).getD i 0)) (by simp [byteCells, List.getElem?_eq_getElem (show i < l.length by omega), List.getD_eq_getElem?_getD])
    have ha : (⟨g, 0, none⟩ : Addr).add i = ⟨g, 0 + i, none⟩ := by unfold Addr.add; split <;> simp_all
    rwa [ha] at hc
theorem row_ne {w : World} {e t : TypeId} {size n b : Nat} {v : Value} {xs : List Value} {cs : Array Value} (h : w.ownsRow 0 e size v n xs) (hg : w.heap[b]? = some (.cells cs t (0, 0))) (hne : e ≠ t) : some b ≠ v.ownBlock := by
  rcases h.2 with ⟨rfl, _⟩ | ⟨g', cap, cur, rfl, _, hh, _⟩
  · simp [Value.ownBlock]
  · intro he
    have : b = g' := by simpa [Value.ownBlock] using he
    subst this
    rw [hg] at hh
    injection hh with hh
    injection hh with _ ht
    exact hne ht.symm
theorem row_set {w : World} {e : TypeId} {size n : Nat} {v : Value} {xs : List Value} (h : w.ownsRow 0 e size v n xs) {p : Addr} (hne : some p.block ≠ v.ownBlock) (u : Value) : (w.setCell p u).ownsRow 0 e size v n xs := by
  obtain ⟨h1, h2⟩ := h
  refine ⟨h1, ?_⟩
  rcases h2 with h2 | ⟨g, cap, cur, rfl, hg, hh, r⟩
  · exact .inl h2
  · exact .inr ⟨g, cap, cur, rfl, hg, by rw [Below.heap_setCell _ _ _ _ (fun e => hne (by rw [e]; rfl))]; exact hh, r⟩
theorem row_move {w w' : World} {e : TypeId} {size n : Nat} {v : Value} {xs : List Value} (h : w.ownsRow 0 e size v n xs) (hm : ∀ k, v.ownBlock = some k → w'.heap[k]? = w.heap[k]?) : w'.ownsRow 0 e size v n xs := by
  obtain ⟨h1, h2⟩ := h
  refine ⟨h1, ?_⟩
  rcases h2 with h2 | ⟨g, cap, cur, rfl, hg, hh, r⟩
  · exact .inl h2
  · exact .inr ⟨g, cap, cur, rfl, hg, (hm g rfl).trans hh, r⟩
theorem row_slice {w : World} {e : TypeId} {size n : Nat} {v : Value} {xs : List Value} (h : w.ownsRow 0 e size v n xs) : ∃ a c, v = .slice a n c := by
  rcases h.2 with ⟨rfl, rfl⟩ | ⟨g, cap, cur, rfl, _⟩
  · exact ⟨none, 0, rfl⟩
  · exact ⟨_, cap, rfl⟩
theorem row_lt {w : World} {e : TypeId} {size n : Nat} {v : Value} {xs : List Value} (h : w.ownsRow 0 e size v n xs) : ∀ k, v.ownBlock = some k → k < w.heap.size := fun k hk => (h.lt k hk).2
end
section
variable {P : Program}
end
end Go.Proofs.YtlhgogjcaegehaaGreat.Sl
namespace Go.Proofs.YtlhgogjcaegehaaGreat.Sl
open Go.RowKit
set_option linter.unusedVariables false
def RowR (T : TypeId) (size : Nat) (v : Value) (n : Nat) (xs : List Value) : Res where
  P := fun w G => w.ownsRow 0 T size v n xs ∧ ∀ k, G k ↔ v.ownBlock = some k
  lt := by
    rintro w G ⟨h1, h2⟩ k hk
    exact row_lt h1 k ((h2 k).1 hk)
  move := by
    rintro w w' G ⟨h1, h2⟩ hm
    exact ⟨row_move h1 (fun k hk => hm k ((h2 k).2 hk)), h2⟩
section
variable {F0 : Nat → Prop} {w0 w w1 : World} {Rs : List Res} {T : TypeId} {size n : Nat} {v v1 : Value} {xs ys : List Value}
theorem RowR.row (i : Nat) (h : St F0 w0 Rs w) (hi : Rs[i]? = some (RowR T size v n xs)) : w.ownsRow 0 T size v n xs := (h.get i hi).choose_spec.1.1
theorem RowR.nil (T : TypeId) (size : Nat) (h : St F0 w0 Rs w) : St F0 w0 (RowR T size (.slice none 0 0) 0 [] :: Rs) w :=
  h.grow (Ns := [RowR T size (.slice none 0 0) 0 []]) (Fr.refl _ _) ⟨fun _ => False, ⟨World.ownsRow_nil _ _ _ _, fun k => by simp [Value.ownBlock]⟩, fun _ h => h.elim, trivial⟩
theorem RowR.lit (h : St F0 w0 Rs w) (cs : Array Value) (n : Nat) (hm : n ≤ maxLen) (hs : cs.size = n * size) :
    St F0 w0 (RowR T size (.slice (some ⟨w.heap.size, 0, none⟩) n n) n cs.toList :: Rs) (w.alloc (.cells cs T)) :=
  h.grow (Ns := [RowR T size (.slice (some ⟨w.heap.size, 0, none⟩) n n) n cs.toList]) (Fr.of_below ((Below.refl _ _).alloc (Nat.le_refl _) _))
    ⟨fun k => k = w.heap.size, ⟨World.ownsRow_lit w cs n (Nat.zero_le _) hm hs, fun k => by simp [Value.ownBlock, eq_comm]⟩, fun k hk => by omega, trivial⟩
theorem RowR.grown (i : Nat) (h : St F0 w0 Rs w) (hi : Rs[i]? = some (RowR T size v n xs)) {m : Nat} (ho : w1.ownsRow 0 T size v1 m ys) (hg : w.grownBy w1 v.ownBlock)
    (hat : v1.ownBlock = v.ownBlock ∨ ∃ k, v1.ownBlock = some k ∧ w.heap.size ≤ k) : St F0 w0 (Rs.set i (RowR T size v1 m ys)) w1 := by
  refine h.step i hi (Ns := []) (fun G hG => ⟨Fr.of_grown hg (fun k hk => (hG.2 k).2 hk), fun k => v1.ownBlock = some k, ⟨ho, fun _ => Iff.rfl⟩, fun k hk => ?_, trivial⟩)
  rcases hat with h1 | ⟨k', h1, h2⟩
  · rw [h1] at hk
    exact .inl ((hG.2 k).2 hk)
  · rw [h1] at hk
    injection hk with hk
    subst hk
    exact .inr h2
theorem RowR.set {g c : Nat} (i : Nat) (h : St F0 w0 Rs w) (hi : Rs[i]? = some (RowR T size (.slice (some ⟨g, 0, none⟩) n c) n xs)) (j : Nat) (u : Value) :
    St F0 w0 (Rs.set i (RowR T size (.slice (some ⟨g, 0, none⟩) n c) n (xs.set j u))) (w.setCell ⟨g, j, none⟩ u) := by
  have hr := RowR.row i h hi
  obtain ⟨h1, h2⟩ := hr.stored j u
  exact RowR.grown i h hi h1 h2 (.inl rfl)
theorem RowR.cell {g c : Nat} (i : Nat) (h : St F0 w0 Rs w) (hi : Rs[i]? = some (RowR T size (.slice (some ⟨g, 0, none⟩) n c) n xs)) (j : Nat) (hj : j < n * size) : w.cell? ⟨g, j, none⟩ = xs[j]? ∧ w.frozen? ⟨g, j, none⟩ = false :=
  ⟨(RowR.row i h hi).cellAt j hj, (RowR.row i h hi).frozenAt j⟩
end
end Go.Proofs.YtlhgogjcaegehaaGreat.Sl
namespace Go.Proofs.YtlhgogjcaegehaaGreat.Sl
open Go.RowKit Go.Deep Go.ChangeShapes
set_option linter.unusedVariables false
structure Rd (α : Type) where
  P : World → (Nat → Prop) → List Value → α → Prop
  mono : ∀ {w : World} {S S' : Nat → Prop} {cs : List Value} {a : α}, P w S cs a → (∀ k, S k → S' k) → P w S' cs a
  move : ∀ {w w' : World} {S : Nat → Prop} {cs : List Value} {a : α}, P w S cs a → (∀ k, S k → w'.heap[k]? = w.heap[k]?) → P w' S cs a
theorem Rd.below {α : Type} (E : Rd α) {w w' : World} {cs : List Value} {a : α} (h : E.P w (fun k => k < w.heap.size) cs a) (hb : Fr (fun _ => False) w w') : E.P w' (fun k => k < w.heap.size) cs a :=
  E.move h (fun k hk => hb.block k hk (fun h => h))
def intRd (q : IntKind) : Rd Int where
  P := fun _ _ cs n => cs = [.int q n] ∧ (Lit.int q n).wf = true
  mono := fun h _ => h
  move := fun h _ => h
def boolRd : Rd Bool where
  P := fun _ _ cs b => cs = [.bool b]
  mono := fun h _ => h
  move := fun h _ => h
def unitRd : Rd Unit where
  P := fun _ _ cs _ => cs = []
  mono := fun h _ => h
  move := fun h _ => h
def pairRd {α β : Type} (A : Rd α) (B : Rd β) : Rd (α × β) where
  P := fun w S cs x => ∃ c d, cs = c ++ d ∧ A.P w S c x.1 ∧ B.P w S d x.2
  mono := fun ⟨c, d, h1, h2, h3⟩ hS => ⟨c, d, h1, A.mono h2 hS, B.mono h3 hS⟩
  move := fun ⟨c, d, h1, h2, h3⟩ hS => ⟨c, d, h1, A.move h2 hS, B.move h3 hS⟩
def rowAt {α : Type} (size : Nat) (E : Rd α) (w : World) (S : Nat → Prop) (a : Addr) (l : List α) : Prop :=
  ∀ i x, l[i]? = some x → ∃ cs, cs.length = size ∧ (∀ j, j < size → w.cell? (a.add (i * size + j)) = cs[j]?) ∧ E.P w S cs x
def sliceRd {α : Type} (size : Nat) (E : Rd α) : Rd (List α) where
  P := fun w S cs l => (cs = [.slice none 0 0] ∧ l = []) ∨ ∃ a cap, cs = [.slice (some a) l.length cap] ∧ l.length ≤ cap ∧ cap ≤ maxLen ∧ (0 < l.length → S a.block) ∧ rowAt size E w S a l
  mono := by
    rintro w S S' cs l (h | ⟨a, cap, h1, h2, h3, h4, h5⟩) hS
    · exact .inl h
    · refine .inr ⟨a, cap, h1, h2, h3, fun h => hS _ (h4 h), fun i x hx => ?_⟩
      obtain ⟨cs, k1, k2, k3⟩ := h5 i x hx
      exact ⟨cs, k1, k2, E.mono k3 hS⟩
  move := by
    rintro w w' S cs l (h | ⟨a, cap, h1, h2, h3, h4, h5⟩) hS
    · exact .inl h
    · refine .inr ⟨a, cap, h1, h2, h3, h4, fun i x hx => ?_⟩
      obtain ⟨cs, k1, k2, k3⟩ := h5 i x hx
      refine ⟨cs, k1, fun j hj => ?_, E.move k3 hS⟩
      rw [← k2 j hj]
      have hb : (a.add (i * size + j)).block = a.block := block_add _ _
      have hl : 0 < l.length := by have := (List.getElem?_eq_some_iff.1 hx).1; omega
      simp only [World.cell?, hb, hS _ (h4 hl)]
theorem spot_none {w : World} {b : Addr} {v : Value} (h : w.cell? b = some v) : b = ⟨b.block, b.off, none⟩ := by
  obtain ⟨g, o, s⟩ := b
  cases s with
  | none => rfl
  | some s =>
    simp only [World.cell?] at h
    split at h <;> simp at h
theorem St.old {w wr : World} {Rs : List Res} {v : Option Value} {p : Addr} (h : St (fun _ => False) w Rs wr) (hb : p.block < w.heap.size) (hc : w.cell? p = v) : wr.cell? p = v := by
  rw [← hc]
  have e := h.fr.block p.block hb (fun h => h)
  simp only [World.cell?, e]
section
variable {H : Type} (enc : TypeId × Value → H) (P : Program)
def Opens {α : Type} (t : TypeId) (E : Rd α) : Prop :=
  ∀ (w : World) (fuel : Nat) (cs : List Value) (x : DataW H × List MemPlace), DataW.trod enc P w 0 (fun _ => true) true fuel t cs = some x → ∃ a, E.P w (fun k => k < w.heap.size) cs a
variable {enc P}
theorem opens_int {t : TypeId} {q : IntKind} (ht : P.underlying t = some (.int q)) : Opens enc P t (intRd q) := by
  intro w fuel cs x h
  obtain ⟨n, rfl, _, hw⟩ := DataW.trod_int ht h
  exact ⟨n, rfl, hw⟩
theorem opens_bool {t : TypeId} (ht : P.underlying t = some .bool) : Opens enc P t boolRd := by
  intro w fuel cs x h
  obtain ⟨b, rfl, _⟩ := DataW.trod_bool ht h
  exact ⟨b, rfl⟩
variable (enc P) in
end
end Go.Proofs.YtlhgogjcaegehaaGreat.Sl
namespace Go.Proofs.YtlhgogjcaegehaaGreat.Sl
open Go.RowKit
set_option linter.unusedVariables false
structure RX where
  P : World → (Nat → Prop) → Prop
  mono : ∀ {w : World} {S S' : Nat → Prop}, P w S → (∀ k, S k → S' k) → P w S'
  move : ∀ {w w' : World} {S : Nat → Prop}, P w S → (∀ k, S k → w'.heap[k]? = w.heap[k]?) → P w' S
def RX.triv : RX := ⟨fun _ _ => True, fun _ _ => trivial, fun _ _ => trivial⟩
def RX.and (X Y : RX) : RX := ⟨fun w S => X.P w S ∧ Y.P w S, fun h k => ⟨X.mono h.1 k, Y.mono h.2 k⟩, fun h k => ⟨X.move h.1 k, Y.move h.2 k⟩⟩
def RX.of {α : Type} (E : Rd α) (cs : List Value) (a : α) : RX := ⟨fun w S => E.P w S cs a, fun h k => E.mono h k, fun h k => E.move h k⟩
def RX.reads (X : RX) (w : World) (F : Nat → Prop) : Prop := ∃ S, X.P w S ∧ ∀ k, S k → ¬ F k ∧ k < w.heap.size
theorem RX.reads_triv (w : World) (F : Nat → Prop) : RX.triv.reads w F := ⟨fun _ => False, trivial, fun _ h => h.elim⟩
theorem RX.reads_and {X Y : RX} {w : World} {F : Nat → Prop} (h : X.reads w F) (k : Y.reads w F) : (X.and Y).reads w F := by
  obtain ⟨S, h1, h2⟩ := h
  obtain ⟨T, k1, k2⟩ := k
  exact ⟨fun k => S k ∨ T k, ⟨X.mono h1 (fun _ h => .inl h), Y.mono k1 (fun _ h => .inr h)⟩, fun k hk => hk.elim (h2 k) (k2 k)⟩
theorem RX.reads_left {X Y : RX} {w : World} {F : Nat → Prop} (h : (X.and Y).reads w F) : X.reads w F := let ⟨S, h1, h2⟩ := h; ⟨S, h1.1, h2⟩
theorem RX.reads_right {X Y : RX} {w : World} {F : Nat → Prop} (h : (X.and Y).reads w F) : Y.reads w F := let ⟨S, h1, h2⟩ := h; ⟨S, h1.2, h2⟩
theorem RX.reads_weaken {X : RX} {w : World} {F G : Nat → Prop} (h : X.reads w F) (hg : ∀ k, k < w.heap.size → G k → F k) : X.reads w G := let ⟨S, h1, h2⟩ := h; ⟨S, h1, fun k hk => ⟨fun g => (h2 k hk).1 (hg k (h2 k hk).2 g), (h2 k hk).2⟩⟩
def EmpR : Res where
  P := fun _ G => ∀ k, ¬ G k
  lt := fun h k hk => (h k hk).elim
  move := fun h _ => h
def RdR {α : Type} (E : Rd α) (cs : List Value) (a : α) : Res where
  P := fun w G => E.P w G cs a ∧ ∀ k, G k → k < w.heap.size
  lt := fun h k hk => h.2 k hk
  move := fun {w w'} {G} h hm => ⟨E.move h.1 hm, fun k hk => by
    have h1 := h.2 k hk
    have h2 := hm k hk
    rw [Array.getElem?_eq_getElem h1] at h2
    exact (Array.getElem?_eq_some_iff.1 h2).1⟩
def SpecX (P : Program) (f : FuncId) (args : Array Value) (X : RX) (A : Res) (Q : Value → Res → List Res → Prop) : Prop :=
  ∀ F w, A.P w F → X.reads w F → Calls P f args w (Post Q F w)
section
variable {P : Program} {f : FuncId} {args : Array Value} {F0 : Nat → Prop} {w0 w : World} {Rs : List Res} {A B : Res} {X Y : RX}
theorem SpecX.of_spec {Q : Value → Res → List Res → Prop} (h : Spec P f args A Q) : SpecX P f args X A Q := fun F w hA _ => h F w hA
theorem SpecX.of_spec0 {Q : Value → List Res → Prop} (h : Spec0 P f args Q) : SpecX P f args X EmpR (fun v A' N => A' = EmpR ∧ Q v N) := by
  intro F w hA _
  refine (h w).mono ?_
  rintro e w' ⟨v, Ns, rfl, hq, hst⟩
  refine ⟨v, EmpR, Ns, rfl, ⟨rfl, hq⟩, ⟨hst.fr.mono (fun k h => h.elim), fun _ => False, fun k h => h, fun k h => h.elim, hst.sep.mono (fun k hk => ?_)⟩⟩
  exact ⟨hk.elim (fun h => h.elim) .inr, fun h => h⟩
theorem SpecX.of_spec0_2 {v : Value} (h : Spec0 P f args (fun u N => u = v ∧ N = [])) : SpecX P f args X EmpR (fun u A' N => u = v ∧ A' = EmpR ∧ N = []) := by
  intro F w hA hX
  refine ((SpecX.of_spec0 (X := X) h) F w hA hX).mono ?_
  rintro e w' ⟨v, A', Ns, rfl, ⟨rfl, rfl, rfl⟩, hst⟩
  exact ⟨_, _, _, rfl, ⟨rfl, rfl, rfl⟩, hst⟩
theorem SpecX.pure {v : Value} (h : ∀ w, Calls P f args w fun e w' => e = .returned v ∧ w = w') : SpecX P f args X EmpR (fun v' A' N => v' = v ∧ A' = EmpR ∧ N = []) := by
  intro F w hA _
  refine (h w).mono ?_
  rintro e w' ⟨rfl, rfl⟩
  exact ⟨v, EmpR, [], rfl, ⟨rfl, rfl, rfl⟩, Fr.refl _ _, fun _ => False, fun k h => h, fun k h => h.elim, trivial⟩
def Src (F0 : Nat → Prop) (w0 : World) (Rs : List Res) (w : World) (i : Nat) (X : RX) : Prop :=
  ∀ A G, Rs[i]? = some A → A.P w G → (∀ k, G k → F0 k ∨ w0.heap.size ≤ k) → Sep (Rs.eraseIdx i) w (fun k => (F0 k ∨ w0.heap.size ≤ k) ∧ ¬ G k) → X.reads w G
theorem Src.triv (i : Nat) : Src F0 w0 Rs w i .triv := fun _ _ _ _ _ _ => RX.reads_triv _ _
theorem Src.and {i : Nat} (h : Src F0 w0 Rs w i X) (k : Src F0 w0 Rs w i Y) : Src F0 w0 Rs w i (X.and Y) := fun A G h1 h2 h3 h4 => RX.reads_and (h A G h1 h2 h3 h4) (k A G h1 h2 h3 h4)
theorem RX.reads_later (h : St F0 w0 Rs w) (hX : X.reads w0 F0) : ∃ S, X.P w S ∧ ∀ k, S k → ¬ F0 k ∧ k < w0.heap.size := by
  obtain ⟨S, h1, h2⟩ := hX
  exact ⟨S, X.move h1 (fun k hk => h.fr.block k (h2 k hk).2 (h2 k hk).1), h2⟩
theorem Src.old {i : Nat} (h : St F0 w0 Rs w) (hX : X.reads w0 F0) : Src F0 w0 Rs w i X := by
  intro A G _ _ h3 _
  obtain ⟨S, h1, h2⟩ := RX.reads_later h hX
  refine ⟨S, h1, fun k hk => ⟨fun hg => ?_, Nat.lt_of_lt_of_le (h2 k hk).2 h.fr.size⟩⟩
  rcases h3 k hg with h4 | h4
  · exact (h2 k hk).1 h4
  · have := (h2 k hk).2; omega
theorem Src.res {i : Nat} (j : Nat) (hj : (Rs.eraseIdx i)[j]? = some B) (hB : ∀ w G, B.P w G → X.P w G) : Src F0 w0 Rs w i X := by
  intro A G _ _ _ h4
  obtain ⟨G2, k1, k2, _⟩ := Sep.pick j hj h4
  exact ⟨G2, hB w G2 k1, fun k hk => ⟨(k2 k hk).2, B.lt k1 k hk⟩⟩
theorem SrcE.old (h : St F0 w0 Rs w) (hX : X.reads w0 F0) : X.reads w (fun _ => False) := by
  obtain ⟨S, h1, h2⟩ := RX.reads_later h hX
  exact ⟨S, h1, fun k hk => ⟨fun h => h, Nat.lt_of_lt_of_le (h2 k hk).2 h.fr.size⟩⟩
theorem SrcE.res (j : Nat) (h : St F0 w0 Rs w) (hj : Rs[j]? = some B) (hB : ∀ w G, B.P w G → X.P w G) : X.reads w (fun _ => False) := by
  obtain ⟨G, h1, _⟩ := h.get j hj
  exact ⟨G, hB w G h1, fun k hk => ⟨fun h => h, B.lt h1 k hk⟩⟩
theorem St.callX {Q : Value → Res → List Res → Prop} (i : Nat) (h : St F0 w0 Rs w) (hi : Rs[i]? = some A) (hs : SpecX P f args X A Q) (hr : Src F0 w0 Rs w i X) :
    Calls P f args w fun e w' => ∃ v A' Ns, e = .returned v ∧ Q v A' Ns ∧ St F0 w0 (Ns ++ Rs.set i A') w' := by
  obtain ⟨G, h1, h2, h3⟩ := Sep.pick i hi h.sep
  refine (hs G w h1 (hr A G hi h1 h2 h3)).mono ?_
  rintro e w' ⟨v, A', Ns, rfl, hq, hst⟩
  refine ⟨v, A', Ns, rfl, hq, ?_⟩
  obtain ⟨f2, G2, k1, k2, k3⟩ := hst
  have f := h.fr
  refine ⟨f.trans f2 h2, ?_⟩
  have hle := f.size
  have hR : Sep (Rs.eraseIdx i) w' (fun k => ((F0 k ∨ w0.heap.size ≤ k) ∧ ¬ G k) ∧ k < w.heap.size) := h3.inside.move (fun k hk _ => f2.block k hk.2 hk.1.2)
  refine Sep.append k3 (F := fun k => F0 k ∨ w0.heap.size ≤ k) (Sep.back i hi k1 (fun k hk => ⟨?_, fun hn => hn.2 hk⟩) (hR.mono (fun k hk => ⟨⟨hk.1.1, ?_⟩, ?_⟩))) ?_
  · rcases k2 k hk with h4 | h4
    · exact h2 k h4
    · exact .inr (by omega)
  · rintro ⟨h4 | h4, _⟩
    · exact hk.1.2 h4
    · have := hk.2; omega
  · intro h4
    rcases k2 k h4 with h5 | h5
    · exact hk.1.2 h5
    · have := hk.2; omega
  · rintro k ⟨h4 | h4, _⟩
    · exact h2 k h4
    · exact .inr (by omega)
theorem St.emp (h : St F0 w0 Rs w) : St F0 w0 (EmpR :: Rs) w := h.grow (Ns := [EmpR]) (Fr.refl _ _) ⟨fun _ => False, fun _ h => h, fun _ h => h.elim, trivial⟩
theorem St.callE {Q : Value → Res → List Res → Prop} (h : St F0 w0 Rs w) (hs : SpecX P f args X EmpR Q) (hr : X.reads w (fun _ => False)) :
    Calls P f args w fun e w' => ∃ v A' Ns, e = .returned v ∧ Q v A' Ns ∧ St F0 w0 (Ns ++ Rs) w' := by
  have h' : St F0 w0 (EmpR :: Rs) w := h.emp
  refine (h'.callX 0 rfl hs ?_).mono ?_
  · intro A G hA hG _ _
    have e : EmpR = A := by simpa using hA
    subst e
    exact RX.reads_weaken hr (fun k _ hk => (hG k hk).elim)
  · rintro e w' ⟨v, A', Ns, rfl, hq, hst⟩
    refine ⟨v, A', Ns, rfl, hq, ?_⟩
    have := hst.del Ns.length (A := A') (by simp)
    rwa [List.eraseIdx_append_of_length_le (Nat.le_refl _), Nat.sub_self] at this
theorem guard_some {α : Type} {c : Prop} [Decidable c] {T : Option α} {r : α} (h : (if c then T else none) = some r) : c ∧ T = some r := by
  by_cases hc : c
  · rw [if_pos hc] at h; exact ⟨hc, h⟩
  · rw [if_neg hc] at h; cases h
theorem SpecX.start (h : A.P w F0) : St F0 w [A] w := St.start F0 w (Sep.one h)
theorem SpecX.done {Q : Value → Res → List Res → Prop} {v : Value} {Ns Rs' : List Res} (h : St F0 w (A :: Rs') w0) (hq : Q v A Rs') : Post Q F0 w (.returned v) w0 := ⟨v, A, Rs', rfl, hq, h⟩
end
def resv (tmps : Array Value) : ResultVar → Sem Value
  | .tmp t => pure (tmps.getD t undef)
  | .cell a t => do loadVar t (← asAddr (tmps.getD a undef))
section
variable {P : Program} {fn : Func} {tmps : Array Value} {w : World} {r1 r2 r3 : ResultVar} {v1 v2 v3 : Value}
theorem results_eq (fn : Func) (tmps : Array Value) : results fn tmps = (do let vs ← fn.results.mapM (resv tmps); pure (if h : vs.size = 1 then vs[0] else .tuple vs)) := by
  unfold results
  rfl
theorem results3 (h : fn.results = #[r1, r2, r3]) (h1 : (resv tmps r1).run P w = .ok v1 w) (h2 : (resv tmps r2).run P w = .ok v2 w) (h3 : (resv tmps r3).run P w = .ok v3 w) : (results fn tmps).run P w = .ok (.tuple #[v1, v2, v3]) w := by
  rw [results_eq, h]
  simp [h1, h2, h3]
end
end Go.Proofs.YtlhgogjcaegehaaGreat.Sl
namespace Go.Proofs.YtlhgogjcaegehaaGreat.Sl
open Go.RowKit
set_option linter.unusedVariables false
inductive Lp (R S : Type) where
  | ret (r : R)
  | go (s : S)
section
variable {α : Type}
def elems (size : Nat) (E : Rd α) (w : World) (S : Nat → Prop) : List Value → List α → Prop
  | cs, [] => cs = []
  | cs, x :: xs => (cs.take size).length = size ∧ E.P w S (cs.take size) x ∧ elems size E w S (cs.drop size) xs
variable {size : Nat} {E : Rd α} {w w' : World} {S S' : Nat → Prop}
theorem elems_mono : ∀ {xs : List α} {cs : List Value}, elems size E w S cs xs → (∀ k, S k → S' k) → elems size E w S' cs xs
  | [], _, h, _ => h
  | _ :: _, _, ⟨h0, h1, h2⟩, k => ⟨h0, E.mono h1 k, elems_mono h2 k⟩
theorem elems_move : ∀ {xs : List α} {cs : List Value}, elems size E w S cs xs → (∀ k, S k → w'.heap[k]? = w.heap[k]?) → elems size E w' S cs xs
  | [], _, h, _ => h
  | _ :: _, _, ⟨h0, h1, h2⟩, k => ⟨h0, E.move h1 k, elems_move h2 k⟩
theorem elems_length : ∀ {xs : List α} {cs : List Value}, elems size E w S cs xs → cs.length = xs.length * size
  | [], cs, h => by simp [show cs = [] from h]
  | x :: xs, cs, ⟨h0, _, h2⟩ => by
    have h3 := elems_length h2
    rw [List.length_take] at h0
    rw [List.length_drop] at h3
    rw [List.length_cons, Nat.add_mul, Nat.one_mul]
    omega
theorem elems_snoc : ∀ {xs : List α} {cs news : List Value} {x : α}, elems size E w S cs xs → news.length = size → E.P w S news x → elems size E w S (cs ++ news) (xs ++ [x])
  | [], cs, news, x, h, hl, hx => by
    obtain rfl : cs = [] := h
    exact ⟨by simp [hl], by rw [List.nil_append, List.take_of_length_le (by omega)]; exact hx, by rw [List.nil_append, List.drop_of_length_le (by omega)]; exact rfl⟩
  | y :: ys, cs, news, x, ⟨h0, h1, h2⟩, hl, hx => by
    have hle : size ≤ cs.length := by rw [List.length_take] at h0; omega
    refine ⟨?_, ?_, ?_⟩
    · rw [List.take_append_of_le_length hle]; exact h0
    · rw [List.take_append_of_le_length hle]; exact h1
    · rw [List.drop_append_of_le_length hle]; exact elems_snoc h2 hl hx
theorem elems_get : ∀ {xs : List α} {cs : List Value} {i : Nat} {x : α}, elems size E w S cs xs → xs[i]? = some x → ((cs.drop (i * size)).take size).length = size ∧ E.P w S ((cs.drop (i * size)).take size) x
  | [], _, i, _, _, hi => by simp at hi
  | y :: ys, cs, 0, x, ⟨h0, h1, _⟩, hi => by
    obtain rfl : y = x := by simpa using hi
    rw [Nat.zero_mul, List.drop_zero]
    exact ⟨h0, h1⟩
  | y :: ys, cs, i + 1, x, ⟨_, _, h2⟩, hi => by
    have h3 := elems_get (i := i) h2 (by simpa using hi)
    rw [List.drop_drop] at h3
    rwa [show size + i * size = (i + 1) * size by rw [Nat.add_mul]; omega] at h3
def OwnR (T : TypeId) (size : Nat) (E : Rd α) (v : Value) (xs : List α) : Res where
  P := fun w G => ∃ cells S, w.ownsRow 0 T size v xs.length cells ∧ elems size E w S cells xs ∧ (∀ k, S k → k < w.heap.size) ∧ (∀ k, v.ownBlock = some k → ¬ S k) ∧ ∀ k, G k ↔ v.ownBlock = some k ∨ S k
  lt := by
    rintro w G ⟨cells, S, h1, h2, h3, h4, h5⟩ k hk
    rcases (h5 k).1 hk with h | h
    · exact row_lt h1 k h
    · exact h3 k h
  move := by
    rintro w w' G ⟨cells, S, h1, h2, h3, h4, h5⟩ hm
    refine ⟨cells, S, row_move h1 (fun k hk => hm k ((h5 k).2 (.inl hk))), elems_move h2 (fun k hk => hm k ((h5 k).2 (.inr hk))), fun k hk => ?_, h4, h5⟩
    have h6 := h3 k hk
    have h7 := hm k ((h5 k).2 (.inr hk))
    rw [Array.getElem?_eq_getElem h6] at h7
    exact (Array.getElem?_eq_some_iff.1 h7).1
theorem own_reads {T : TypeId} {v : Value} {xs : List α} (hp : 0 < size) : ∀ w G, (OwnR T size E v xs).P w G → (RX.of (sliceRd size E) [v] xs).P w G := by
  rintro w G ⟨cells, S, h1, h2, h3, h4, h5⟩
  have hb := h1
  rcases h1.2 with ⟨rfl, hn⟩ | ⟨g, cap, cur, rfl, hbg, hg, hnc, hcm, hcs, htake⟩
  · exact .inl ⟨rfl, List.eq_nil_of_length_eq_zero hn⟩
  · refine .inr ⟨⟨g, 0, none⟩, cap, rfl, hnc, hcm, fun _ => (h5 g).2 (.inl rfl), fun i x hx => ?_⟩
    obtain ⟨k1, k2⟩ := elems_get h2 hx
    have hi : i < xs.length := (List.getElem?_eq_some_iff.1 hx).1
    refine ⟨_, k1, fun j hj => ?_, E.mono k2 (fun k hk => (h5 k).2 (.inr hk))⟩
    have hadd : (⟨g, 0, none⟩ : Addr).add (i * size + j) = ⟨g, i * size + j, none⟩ := by unfold Addr.add; split <;> simp_all
    have hlt : i * size + j < xs.length * size := by
      have : (i + 1) * size ≤ xs.length * size := Nat.mul_le_mul_right _ (by omega)
      rw [Nat.add_mul] at this
      omega
    rw [hadd, hb.cellAt _ hlt, List.getElem?_take, if_pos hj, List.getElem?_drop]
theorem slice_nil_reads {F : Nat → Prop} : (RX.of (sliceRd size E) [.slice none 0 0] []).reads w F := ⟨fun _ => False, .inl ⟨rfl, rfl⟩, fun _ h => h.elim⟩
theorem Src.nil {F0 : Nat → Prop} {w0 : World} {Rs : List Res} (i : Nat) : Src F0 w0 Rs w i (RX.of (sliceRd size E) [.slice none 0 0] []) := fun _ _ _ _ _ _ => slice_nil_reads
theorem RX.elem {F : Nat → Prop} {A : Option Addr} {n c i : Nat} {l : List α} {x : α} (hp : 0 < size) (h : (RX.of (sliceRd size E) [.slice A n c] l).reads w F) (hx : l[i]? = some x) :
    ∃ g o : Nat, A = some ⟨g, o, none⟩ ∧ ∃ cs, cs.length = size ∧ (∀ j, j < size → w.cell? ⟨g, o + i * size + j, none⟩ = cs[j]?) ∧ (¬ F g ∧ g < w.heap.size) ∧ (RX.of E cs x).reads w F := by
  obtain ⟨S, h, hS⟩ := h
  rcases h with ⟨h, rfl⟩ | ⟨a, cap, h, _, _, hb, h2⟩
  · simp at hx
  · injection h with h
    injection h with h3 h4 h5
    subst h3
    have hl : 0 < l.length := by have := (List.getElem?_eq_some_iff.1 hx).1; omega
    obtain ⟨cs0, k1, k2, _⟩ := h2 0 l[0] (List.getElem?_eq_getElem hl)
    have k3 := k2 0 hp
    rw [List.getElem?_eq_getElem (by omega)] at k3
    have k4 : a.add (0 * size + 0) = a := by simp [Addr.add]
    rw [k4] at k3
    have k5 := spot_none k3
    obtain ⟨cs, k6, k7, k8⟩ := h2 i x hx
    refine ⟨a.block, a.off, by rw [← k5], cs, k6, fun j hj => ?_, hS _ (hb hl), S, k8, hS⟩
    rw [← k7 j hj, k5, WideShapes.add_plain, Nat.add_assoc]
theorem RX.elem' {F : Nat → Prop} {g o n c i : Nat} {l : List α} {x : α} (hp : 0 < size) (h : (RX.of (sliceRd size E) [.slice (some ⟨g, o, none⟩) n c] l).reads w F) (hx : l[i]? = some x) :
    ∃ cs, cs.length = size ∧ (∀ j, j < size → w.cell? ⟨g, o + i * size + j, none⟩ = cs[j]?) ∧ (¬ F g ∧ g < w.heap.size) ∧ (RX.of E cs x).reads w F := by
  obtain ⟨g', o', h1, cs, h2⟩ := RX.elem hp h hx
  injection h1 with h1
  injection h1 with h3 h4
  subst h3 h4
  exact ⟨cs, h2⟩
theorem RX.len_le {F : Nat → Prop} {A : Option Addr} {n c : Nat} {l : List α} (h : (RX.of (sliceRd size E) [.slice A n c] l).reads w F) : l.length ≤ 9223372036854775807 := by
  obtain ⟨S, h, hS⟩ := h
  rcases h with ⟨h, rfl⟩ | ⟨a, cap, h, h1, h2, _⟩
  · simp
  · have : maxLen = 9223372036854775807 := rfl
    omega
theorem St.old2 {F0 : Nat → Prop} {w wr : World} {Rs : List Res} {v : Option Value} {g o : Nat} (h : St F0 w Rs wr) (hb : ¬ F0 g ∧ g < w.heap.size) (hc : w.cell? ⟨g, o, none⟩ = v) : wr.cell? ⟨g, o, none⟩ = v := by
  rw [← hc]
  have e := h.fr.block g hb.2 hb.1
  simp only [World.cell?, e]
theorem drop_cons {l : List α} {k : Nat} {x : α} (h : l[k]? = some x) : l.drop k = x :: l.drop (k + 1) := by
  obtain ⟨hk, rfl⟩ := List.getElem?_eq_some_iff.1 h
  exact List.drop_eq_getElem_cons hk
theorem RdR.nil {F0 : Nat → Prop} {w0 : World} {Rs : List Res} (size : Nat) (E : Rd α) (h : St F0 w0 Rs w) : St F0 w0 (RdR (sliceRd size E) [.slice none 0 0] [] :: Rs) w :=
  h.grow (Ns := [RdR (sliceRd size E) [.slice none 0 0] []]) (Fr.refl _ _) ⟨fun _ => False, ⟨.inl ⟨rfl, rfl⟩, fun _ h => h.elim⟩, fun _ h => h.elim, trivial⟩
theorem OwnR.shut {F0 : Nat → Prop} {w0 : World} {Rs : List Res} {T : TypeId} {v : Value} {xs : List α} (hp : 0 < size) (i : Nat) (h : St F0 w0 Rs w) (hi : Rs[i]? = some (OwnR T size E v xs)) : St F0 w0 (Rs.set i (RdR (sliceRd size E) [v] xs)) w :=
  h.weaken i hi (fun G hG => ⟨own_reads hp _ _ hG, fun k hk => (OwnR T size E v xs).lt hG k hk⟩)
section
variable {F0 : Nat → Prop} {w0 w1 : World} {Rs : List Res} {T : TypeId} {v v1 : Value} {xs : List α} {B : Res}
theorem OwnR.nil (T : TypeId) (size : Nat) (E : Rd α) (h : St F0 w0 Rs w) : St F0 w0 (OwnR T size E (.slice none 0 0) [] :: Rs) w :=
  h.grow (Ns := [OwnR T size E (.slice none 0 0) []]) (Fr.refl _ _) ⟨fun _ => False, ⟨[], fun _ => False, World.ownsRow_nil _ _ _ _, rfl, fun _ h => h.elim, fun _ _ h => h, fun k => by simp [Value.ownBlock]⟩, fun _ h => h.elim, trivial⟩
theorem OwnR.lit (E : Rd α) (h : St F0 w0 Rs w) (cs : Array Value) (xs : List α) (hm : xs.length ≤ maxLen) (he : elems size E (w.alloc (.cells cs T)) (fun _ => False) cs.toList xs) :
    St F0 w0 (OwnR T size E (.slice (some ⟨w.heap.size, 0, none⟩) xs.length xs.length) xs :: Rs) (w.alloc (.cells cs T)) :=
  h.grow (Ns := [OwnR T size E (.slice (some ⟨w.heap.size, 0, none⟩) xs.length xs.length) xs]) (Fr.of_below ((Below.refl _ _).alloc (Nat.le_refl _) _))
    ⟨fun k => k = w.heap.size, ⟨cs.toList, fun _ => False, World.ownsRow_lit w cs xs.length (Nat.zero_le _) hm (by have := elems_length he; simpa using this), he, fun _ h => h.elim, fun _ _ h => h, fun k => by simp [Value.ownBlock, eq_comm]⟩, fun k hk => by omega, trivial⟩
theorem OwnR.open_ (i : Nat) (h : St F0 w0 Rs w) (hi : Rs[i]? = some (OwnR T size E v xs)) :
    ∃ cells, w.ownsRow 0 T size v xs.length cells ∧ ∀ v1 w1 news x, w1.ownsRow 0 T size v1 (xs.length + 1) (cells ++ news) → w.grownBy w1 v.ownBlock → (v1.ownBlock = v.ownBlock ∨ ∃ k, v1.ownBlock = some k ∧ w.heap.size ≤ k) → news.length = size →
      (∀ w S, E.P w S news x) → St F0 w0 (Rs.set i (OwnR T size E v1 (xs ++ [x]))) w1 := by
  obtain ⟨f, hs⟩ := h
  obtain ⟨G, ⟨cells, S, h1, h2, h3, h4, h5⟩, hG, hr⟩ := Sep.pick i hi hs
  refine ⟨cells, h1, fun v1 w1 news x ho hg hat hl hx => ?_⟩
  have hst : St F0 w0 Rs w := ⟨f, hs⟩
  have hne : ∀ k, S k → k < w.heap.size ∧ some k ≠ v.ownBlock := fun k hk => ⟨h3 k hk, fun e => h4 k e.symm hk⟩
  have hS1 : elems size E w1 S cells xs := elems_move h2 (fun k hk => hg.block k (hne k hk).1 (hne k hk).2)
  have hle := hg.size
  have f2 : Fr G w w1 := Fr.of_grown hg (fun k hk => (h5 k).2 (.inl hk))
  refine ⟨f.trans f2 hG, ?_⟩
  have hfs := f.size
  have hR : Sep (Rs.eraseIdx i) w1 (fun k => ((F0 k ∨ w0.heap.size ≤ k) ∧ ¬ G k) ∧ k < w.heap.size) := hr.inside.move (fun k hk _ => f2.block k hk.2 hk.1.2)
  refine Sep.back (G := fun k => v1.ownBlock = some k ∨ S k) i hi ⟨cells ++ news, S, ?_, elems_snoc hS1 hl (hx _ _), fun k hk => Nat.lt_of_lt_of_le (h3 k hk) hle, ?_, fun _ => Iff.rfl⟩ ?_ (hR.mono (fun k hk => ⟨hk.1.1, ?_⟩))
  · rw [List.length_append]; exact ho
  · intro k hk
    rcases hat with e | ⟨k', e, hk'⟩
    · rw [e] at hk; exact h4 k hk
    · rw [e] at hk
      injection hk with hk
      subst hk
      intro hs'
      have := h3 _ hs'
      omega
  · rintro k (hk | hk)
    · rcases hat with e | ⟨k', e, hk'⟩
      · rw [e] at hk; exact hG k ((h5 k).2 (.inl hk))
      · rw [e] at hk
        injection hk with hk
        subst hk
        exact .inr (by omega)
    · exact hG k ((h5 k).2 (.inr hk))
  · rintro (h6 | h6)
    · rcases hat with e | ⟨k', e, hk'⟩
      · rw [e] at h6; exact hk.1.2 ((h5 k).2 (.inl h6))
      · rw [e] at h6
        injection h6 with h6
        subst h6
        have := hk.2
        omega
    · exact hk.1.2 ((h5 k).2 (.inr h6))
theorem OwnR.open2 (i j : Nat) (h : St F0 w0 Rs w) (hi : Rs[i]? = some (OwnR T size E v xs)) (hj : (Rs.eraseIdx i)[j]? = some B) :
    ∃ cells, w.ownsRow 0 T size v xs.length cells ∧ ∀ v1 w1 news x, w1.ownsRow 0 T size v1 (xs.length + 1) (cells ++ news) → w.grownBy w1 v.ownBlock → (v1.ownBlock = v.ownBlock ∨ ∃ k, v1.ownBlock = some k ∧ w.heap.size ≤ k) → news.length = size →
      (∀ w G, B.P w G → E.P w G news x) → St F0 w0 (OwnR T size E v1 (xs ++ [x]) :: (Rs.eraseIdx i).eraseIdx j) w1 := by
  obtain ⟨f, hs⟩ := h
  obtain ⟨G, ⟨cells, S, h1, h2, h3, h4, h5⟩, hG, hr⟩ := Sep.pick i hi hs
  obtain ⟨H, hB, hH, hr2⟩ := Sep.pick j hj hr
  refine ⟨cells, h1, fun v1 w1 news x ho hg hat hl hx => ?_⟩
  have hne : ∀ k, S k → k < w.heap.size ∧ some k ≠ v.ownBlock := fun k hk => ⟨h3 k hk, fun e => h4 k e.symm hk⟩
  have hS1 : elems size E w1 S cells xs := elems_move h2 (fun k hk => hg.block k (hne k hk).1 (hne k hk).2)
  have hle := hg.size
  have f2 : Fr G w w1 := Fr.of_grown hg (fun k hk => (h5 k).2 (.inl hk))
  have hfs := f.size
  have hB1 : B.P w1 H := B.move hB (fun k hk => f2.block k (B.lt hB k hk) (hH k hk).2)
  refine ⟨f.trans f2 hG, ?_⟩
  have hR : Sep ((Rs.eraseIdx i).eraseIdx j) w1 (fun k => (((F0 k ∨ w0.heap.size ≤ k) ∧ ¬ G k) ∧ ¬ H k) ∧ k < w.heap.size) := hr2.inside.move (fun k hk _ => f2.block k hk.2 hk.1.1.2)
  have hlt1 := B.lt hB
  refine ⟨fun k => v1.ownBlock = some k ∨ (S k ∨ H k), ⟨cells ++ news, fun k => S k ∨ H k, ?_, elems_snoc (elems_mono hS1 (fun _ h => .inl h)) hl (E.mono (hx _ _ hB1) (fun _ h => .inr h)), ?_, ?_, fun _ => Iff.rfl⟩, ?_, hR.mono (fun k hk => ⟨hk.1.1.1, ?_⟩)⟩
  · rw [List.length_append]; exact ho
  · rintro k (hk | hk)
    · exact Nat.lt_of_lt_of_le (h3 k hk) hle
    · exact Nat.lt_of_lt_of_le (hlt1 k hk) hle
  · intro k hk
    rcases hat with e | ⟨k', e, hk'⟩
    · rw [e] at hk
      rintro (h6 | h6)
      · exact h4 k hk h6
      · exact (hH k h6).2 ((h5 k).2 (.inl hk))
    · rw [e] at hk
      injection hk with hk
      subst hk
      rintro (h6 | h6)
      · have := h3 _ h6; omega
      · have := hlt1 _ h6; omega
  · rintro k (hk | hk | hk)
    · rcases hat with e | ⟨k', e, hk'⟩
      · rw [e] at hk; exact hG k ((h5 k).2 (.inl hk))
      · rw [e] at hk
        injection hk with hk
        subst hk
        exact .inr (by omega)
    · exact hG k ((h5 k).2 (.inr hk))
    · exact (hH k hk).1
  · rintro (h6 | h6 | h6)
    · rcases hat with e | ⟨k', e, hk'⟩
      · rw [e] at h6; exact hk.1.1.2 ((h5 k).2 (.inl h6))
      · rw [e] at h6
        injection h6 with h6
        subst h6
        have := hk.2
        omega
    · exact hk.1.1.2 ((h5 k).2 (.inr h6))
    · exact hk.1.2 h6
end
end
section
variable {P : Program} (w : World)
end
end Go.Proofs.YtlhgogjcaegehaaGreat.Sl
namespace Go.Proofs.YtlhgogjcaegehaaGreat.Sl
open Go.RowKit
set_option linter.unusedVariables false
set_option linter.unusedSimpArgs false
def OutR (b : Nat) (st : List UInt8 × Int) : Res where
  P := fun w G => ∃ v, w.heap[b]? = some (.cells #[v, .int .i64 st.2] 44 (0, 0)) ∧ w.ownsRow 0 5 1 v st.1.length (byteCells st.1) ∧ ∀ k, G k ↔ k = b ∨ v.ownBlock = some k
  lt := by
    rintro w G ⟨v, h1, h2, h3⟩ k hk
    rcases (h3 k).1 hk with rfl | h
    · exact heap_lt h1
    · exact row_lt h2 k h
  move := by
    rintro w w' G ⟨v, h1, h2, h3⟩ hm
    exact ⟨v, (hm _ ((h3 _).2 (.inl rfl))).trans h1, row_move h2 (fun k hk => hm k ((h3 k).2 (.inr hk))), h3⟩
theorem infoByte : (Tryz.prog.info? 5).map (fun i => (i.zero, i.size, i.bytes)) = some (some (.int .u8 0), 1, 1) := by kernel_rfl
theorem OutR.new {F0 : Nat → Prop} {w0 w : World} {Rs : List Res} (h : St F0 w0 Rs w) : St F0 w0 (OutR w.heap.size ([], 0) :: Rs) (w.alloc (.cells #[.slice none 0 0, .int .i64 0] 44)) := by
  refine (h.alloc #[.slice none 0 0, .int .i64 0] 44).weaken 0 rfl (A' := OutR w.heap.size ([], 0)) ?_
  rintro G ⟨h1, h2⟩
  exact ⟨_, h1, World.ownsRow_nil _ _ _ _, fun k => by simp [h2 k, Value.ownBlock]⟩
theorem OutR.stored {b : Nat} {l m : List UInt8} {w w1 : World} {v v1 : Value} {F : Nat → Prop} (hb : w.heap[b]? = some (.cells #[v, .int .i64 0] 44 (0, 0))) (ho : w.ownsRow 0 5 1 v l.length (byteCells l)) (hF : ∀ k, F k ↔ k = b ∨ v.ownBlock = some k)
    {n : Nat} (ho1 : w1.ownsRow 0 5 1 v1 n (byteCells m)) (hg : w.grownBy w1 v.ownBlock) (hat : v1.ownBlock = v.ownBlock ∨ ∃ k, v1.ownBlock = some k ∧ w.heap.size ≤ k) :
    St F w [OutR b (m, 0)] (w1.setCell ⟨b, 0, none⟩ v1) := by
  have hn : n = m.length := by have := ho1.1; simpa [byteCells] using this.symm
  subst hn
  have hne := row_ne ho hb (by decide)
  have hb1 : w1.heap[b]? = some (.cells #[v, .int .i64 0] 44 (0, 0)) := (hg.block b (heap_lt hb) hne).trans hb
  have hne1 := row_ne ho1 hb1 (by decide)
  refine ⟨((Fr.refl F w).trans (Fr.of_grown (F := F) hg (fun k hk => (hF k).2 (.inr hk))) (fun k hk => .inl hk)).set (p := ⟨b, 0, none⟩) (.inl ((hF b).2 (.inl rfl))) v1, ?_⟩
  refine ⟨fun k => k = b ∨ v1.ownBlock = some k, ⟨v1, by simpa using heap_set hb1 0 v1, row_set ho1 hne1 v1, fun _ => Iff.rfl⟩, ?_, trivial⟩
  rintro k (rfl | hk)
  · exact .inl ((hF k).2 (.inl rfl))
  · rcases hat with h | ⟨k', h, h'⟩
    · rw [h] at hk
      exact .inl ((hF k).2 (.inr hk))
    · rw [h] at hk
      injection hk with hk
      subst hk
      exact .inr h'
theorem OutR.kept {b : Nat} {st : List UInt8 × Int} {w w' : World} {F : Nat → Prop} (h : (OutR b st).P w F) (n : Nat) (hw : w' = w.drewN n) : St F w [OutR b st] w' := by
  subst hw
  exact (St.start F w (Sep.one h)).drewN n
def oput (st : List UInt8 × Int) (l : List UInt8) : List UInt8 × Int := if st.2 = 0 then (st.1 ++ l, 0) else st
def ofail (st : List UInt8 × Int) (e : Int) : List UInt8 × Int := if st.2 = 0 then (st.1, e) else st
set_option maxRecDepth 100000 in
theorem Fail_spec (b : Nat) (st : List UInt8 × Int) (e : Int) : Spec Tryz.prog 22 #[.pointer (some ⟨b, 0, none⟩), .int .i64 e] (OutR b st) (fun v A' N => v = .tuple #[] ∧ A' = OutR b (ofail st e) ∧ N = []) := by
  rintro F w ⟨v, hb, ho, hF⟩
  obtain ⟨l, er⟩ := st
  have c1 : w.cell? ⟨b, 1, none⟩ = some (.int .i64 er) := (heap_at hb 1).trans rfl
  have f1 : w.frozen? ⟨b, 1, none⟩ = false := heap_free hb 1
  by_cases h0 : er = 0
  · subst h0
    have HB := Lib.hid hb
    have HO := Lib.hid ho
    clear hb ho
    go_enter Tryz.func22, Tryz.ntmps22
    go_wp2
    go_end0
    refine ⟨_, _, _, rfl, ⟨rfl, rfl, rfl⟩, (Fr.refl F w).set (.inl ((hF b).2 (.inl rfl))) _, F, ?_, fun k hk => .inl hk, trivial⟩
    have hne := row_ne HO.out HB.out (by decide)
    exact ⟨v, by simpa [ofail] using heap_set HB.out 1 (.int .i64 e), row_set HO.out hne _, hF⟩
  · have HB := Lib.hid hb
    have HO := Lib.hid ho
    have H0 : (er == 0) = false := beq_eq_false_iff_ne.2 h0
    clear hb ho
    go_enter Tryz.func22, Tryz.ntmps22
    go_wp2
    go_end0
    exact ⟨_, _, _, rfl, ⟨rfl, rfl, rfl⟩, OutR.kept ⟨v, by simpa [ofail, h0] using HB.out, by simpa [ofail, h0] using HO.out, hF⟩ 0 rfl⟩
set_option maxRecDepth 100000 in
theorem Put_spec (b : Nat) (st : List UInt8 × Int) (s : ByteArray) (hl : st.1.length + s.size ≤ 140737488355328) :
    Spec Tryz.prog 38 #[.pointer (some ⟨b, 0, none⟩), .string s] (OutR b st) (fun v A' N => v = .tuple #[] ∧ A' = OutR b (oput st s.data.toList) ∧ N = []) := by
  rintro F w ⟨v, hb, ho, hF⟩
  obtain ⟨l, er⟩ := st
  have c0 : w.cell? ⟨b, 0, none⟩ = some v := (heap_at hb 0).trans rfl
  have c1 : w.cell? ⟨b, 1, none⟩ = some (.int .i64 er) := (heap_at hb 1).trans rfl
  by_cases h0 : er = 0
  · subst h0
    have HB := Lib.hid hb
    have HO := Lib.hid ho
    clear hb ho
    go_enter Tryz.func38, Tryz.ntmps38
    go_wp2_with (at_builtin; refine wp_append_str_at w rfl _ _ _ _ rfl 5 Tryz.underlying42 Tryz.underlying9 infoByte v l.length (byteCells l) rfl HO.out s rfl hl ?_; intro v1 w1 ho1 hg hat; obtain ⟨a1, k1, rfl⟩ := row_slice ho1; have HO1 := Lib.hid ho1; clear ho1; have HN := Lib.hid (row_ne HO.out HB.out (by decide)); have HB1 := Lib.hid (show w1.heap[b]? = _ from (hg.block b (heap_lt HB.out) HN.out).trans HB.out); have d0 : w1.cell? ⟨b, 0, none⟩ = some v := (heap_at HB1.out 0).trans rfl; have e0 : w1.frozen? ⟨b, 0, none⟩ = false := heap_free HB1.out 0; have HG := Lib.hid hg; have HAT := Lib.hid hat; clear hg hat)
    go_end0
    have ho1 := HO1.out
    rw [byteCells_str, ← byteCells_append] at ho1
    refine ⟨_, _, _, rfl, ⟨rfl, rfl, rfl⟩, ?_⟩
    have := OutR.stored HB.out HO.out hF ho1 HG.out (by rcases HAT.out with h | h; exact .inl h; exact .inr ⟨_, h, Nat.le_refl _⟩)
    simpa [oput] using this
  · have HB := Lib.hid hb
    have HO := Lib.hid ho
    have H0 : (er == 0) = false := beq_eq_false_iff_ne.2 h0
    clear hb ho
    go_enter Tryz.func38, Tryz.ntmps38
    go_wp2_with fail
    go_end0
    exact ⟨_, _, _, rfl, ⟨rfl, rfl, rfl⟩, OutR.kept ⟨v, by simpa [oput, h0] using HB.out, by simpa [oput, h0] using HO.out, hF⟩ 0 rfl⟩
set_option maxRecDepth 100000 in
theorem Byte_spec (b : Nat) (st : List UInt8 × Int) (c : UInt8) (hl : st.1.length + 1 ≤ 140737488355328) :
    Spec Tryz.prog 51 #[.pointer (some ⟨b, 0, none⟩), .int .u8 c.toNat] (OutR b st) (fun v A' N => v = .tuple #[] ∧ A' = OutR b (oput st [c]) ∧ N = []) := by
  rintro F w ⟨v, hb, ho, hF⟩
  obtain ⟨l, er⟩ := st
  have c0 : w.cell? ⟨b, 0, none⟩ = some v := (heap_at hb 0).trans rfl
  have c1 : w.cell? ⟨b, 1, none⟩ = some (.int .i64 er) := (heap_at hb 1).trans rfl
  by_cases h0 : er = 0
  · subst h0
    have HB := Lib.hid hb
    have HO := Lib.hid ho
    clear hb ho
    go_enter Tryz.func51, Tryz.ntmps51
    go_wp2_with (at_builtin; refine wp_append_one_at w rfl _ _ _ rfl 5 (.int .u8 0) 1 Tryz.underlying42 infoByte rfl v l.length (byteCells l) rfl HO.out (.int .u8 c.toNat) rfl rfl (by simpa using hl) hl ?_; intro v1 w1 ho1 hg hat; obtain ⟨a1, k1, rfl⟩ := row_slice ho1; have HO1 := Lib.hid ho1; clear ho1; have HN := Lib.hid (row_ne HO.out HB.out (by decide)); have HB1 := Lib.hid (show w1.heap[b]? = _ from (hg.block b (heap_lt HB.out) HN.out).trans HB.out); have d0 : w1.cell? ⟨b, 0, none⟩ = some v := (heap_at HB1.out 0).trans rfl; have e0 : w1.frozen? ⟨b, 0, none⟩ = false := heap_free HB1.out 0; have HG := Lib.hid hg; have HAT := Lib.hid hat; clear hg hat)
    go_end0
    have ho1 := HO1.out
    rw [show ([Value.int .u8 c.toNat] : List Value) = byteCells [c] from rfl, ← byteCells_append] at ho1
    refine ⟨_, _, _, rfl, ⟨rfl, rfl, rfl⟩, ?_⟩
    have := OutR.stored HB.out HO.out hF ho1 HG.out HAT.out
    simpa [oput] using this
  · have HB := Lib.hid hb
    have HO := Lib.hid ho
    have H0 : (er == 0) = false := beq_eq_false_iff_ne.2 h0
    clear hb ho
    go_enter Tryz.func51, Tryz.ntmps51
    go_wp2_with fail
    go_end0
    exact ⟨_, _, _, rfl, ⟨rfl, rfl, rfl⟩, OutR.kept ⟨v, by simpa [oput, h0] using HB.out, by simpa [oput, h0] using HO.out, hF⟩ 0 rfl⟩
def otext (st : List UInt8 × Int) : Value := if st.2 = 0 then .tuple #[.string ⟨st.1.toArray⟩, .int .i64 0] else .tuple #[.string ⟨#[]⟩, .int .i64 st.2]
set_option maxRecDepth 100000 in
theorem Text_spec (b : Nat) (st : List UInt8 × Int) : Spec Tryz.prog 11 #[.pointer (some ⟨b, 0, none⟩)] (OutR b st) (fun v A' N => v = otext st ∧ A' = OutR b st ∧ N = []) := by
  rintro F w ⟨v, hb, ho, hF⟩
  obtain ⟨l, er⟩ := st
  have c0 : w.cell? ⟨b, 0, none⟩ = some v := (heap_at hb 0).trans rfl
  have c1 : w.cell? ⟨b, 1, none⟩ = some (.int .i64 er) := (heap_at hb 1).trans rfl
  have hc := row_string (P := Tryz.prog) w (src := 42) (dst := 9) Tryz.underlying42 Tryz.underlying5 Tryz.underlying9 ho
  have HB := Lib.hid hb
  have HO := Lib.hid ho
  clear hb ho
  by_cases h0 : er = 0
  · subst h0
    go_enter Tryz.func11, Tryz.ntmps11
    go_wp2
    go_ret2
    exact ⟨_, _, _, rfl, ⟨by simp [otext], rfl, rfl⟩, OutR.kept ⟨_, HB.out, HO.out, hF⟩ 0 rfl⟩
  · have H0 : (er != 0) = true := bne_iff_ne.2 h0
    go_enter Tryz.func11, Tryz.ntmps11
    go_wp2
    go_quiet (fail)
    go_wp2
    go_ret2
    exact ⟨_, _, _, rfl, ⟨by simp [otext, h0], rfl, rfl⟩, OutR.kept ⟨_, HB.out, HO.out, hF⟩ _ rfl⟩
def fits (n size : Int) : Bool := decide (1 ≤ size) && decide (size ≤ 8) && decide (-(2 ^ (8 * size.toNat - 1) : Int) ≤ n) && decide (n ≤ (2 ^ (8 * size.toNat - 1) : Int) - 1)
theorem w64max : wrap64 (wrap64 9223372036854775808 - 1) = 9223372036854775807 := by unfold wrap64; omega
theorem ret_int {k : IntKind} {a b : Int} (h : a = b) : Ending.returned (.int k a) = .returned (.int k b) := by rw [h]
theorem ret_bool {a b : Bool} (h : a = b) : Ending.returned (.bool a) = .returned (.bool b) := by rw [h]
set_option maxRecDepth 100000 in
theorem Fits_any (n size : Int) (w : World) (h0 : -9223372036854775808 ≤ n) (h1 : n ≤ 9223372036854775807) :
    Calls Tryz.prog 40 #[.int .i64 n, .int .i64 size] w fun e w' => e = .returned (.bool (fits n size)) ∧ w = w' := by
  by_cases hs : 1 ≤ size ∧ size ≤ 8
  · have hk : size = 1 ∨ size = 2 ∨ size = 3 ∨ size = 4 ∨ size = 5 ∨ size = 6 ∨ size = 7 ∨ size = 8 := by omega
    rcases hk with rfl | rfl | rfl | rfl | rfl | rfl | rfl | rfl
    all_goals
      clear hs
      go_enter Tryz.func40, Tryz.ntmps40
      go_wp2
      all_goals (go_ret; exact ⟨ret_bool (by have := w64max; rw [Bool.eq_iff_iff]; simp [fits, wrap64]; omega), rfl⟩)
  · by_cases h2 : size < 1
    · go_enter Tryz.func40, Tryz.ntmps40
      go_wp2
      go_ret
      exact ⟨ret_bool (by simp [fits]; omega), rfl⟩
    · have h3 : 8 < size := by omega
      go_enter Tryz.func40, Tryz.ntmps40
      go_wp2
      go_ret
      exact ⟨ret_bool (by simp [fits]; omega), rfl⟩
def be (n : Int) (size : Nat) : List UInt8 := (List.range size).map fun i => UInt8.ofNat ((n / (2 ^ (8 * (size - 1 - i)) : Int)) % 256).toNat
def oint (st : List UInt8 × Int) (n size : Int) : List UInt8 × Int := if fits n size then oput st (be n size.toNat) else ofail st 11
theorem oput_nil (st : List UInt8 × Int) : oput st [] = st := by
  obtain ⟨l, e⟩ := st
  by_cases h : e = 0 <;> simp [oput, h]
theorem oput_oput (st : List UInt8 × Int) (a b : List UInt8) : oput (oput st a) b = oput st (a ++ b) := by
  obtain ⟨l, e⟩ := st
  by_cases h : e = 0 <;> simp [oput, h]
theorem ByteI_spec (b : Nat) (st : List UInt8 × Int) (c : Int) (h0 : 0 ≤ c) (h1 : c < 256) (hl : st.1.length + 1 ≤ 140737488355328) :
    Spec Tryz.prog 51 #[.pointer (some ⟨b, 0, none⟩), .int .u8 c] (OutR b st) (fun v A' N => v = .tuple #[] ∧ A' = OutR b (oput st [UInt8.ofNat c.toNat]) ∧ N = []) := by
  have h := Byte_spec b st (UInt8.ofNat c.toNat) hl
  rwa [show ((UInt8.ofNat c.toNat).toNat : Int) = c from by simp [UInt8.toNat_ofNat']; omega] at h
theorem oput_len (st : List UInt8 × Int) (a : List UInt8) : (oput st a).1.length ≤ st.1.length + a.length := by
  unfold oput; split <;> simp
set_option maxRecDepth 100000 in
theorem OutInt_spec (b : Nat) (st : List UInt8 × Int) (n size : Int) (h0 : -9223372036854775808 ≤ n) (h1 : n ≤ 9223372036854775807) (hl : st.1.length + 8 ≤ 140737488355328) :
    Spec Tryz.prog 24 #[.pointer (some ⟨b, 0, none⟩), .int .i64 n, .int .i64 size] (OutR b st) (fun v A' N => v = .tuple #[] ∧ A' = OutR b (oint st n size) ∧ N = []) := by
  intro F w hA
  by_cases hf : fits n size = true
  · have hs : 1 ≤ size ∧ size ≤ 8 := by simp [fits] at hf; omega
    obtain ⟨k, rfl⟩ : ∃ k : Nat, size = k := ⟨size.toNat, by omega⟩
    have HF := Lib.hid hf
    clear hf
    have HA := Lib.hid (St.start F w (Sep.one hA))
    clear hA
    go_enter Tryz.func24, Tryz.ntmps24
    go_wp2_with fail
    refine (Fits_any n k w h0 h1).mono ?_
    rintro e w' ⟨rfl, rfl⟩
    rw [HF.out]
    go_wp2_with fail
    go_loopw [6, 14] (fun _ i wr => ∃ j : Nat, j ≤ k ∧ i = .int .i64 j ∧ St F w [OutR b (oput st ((be n k).take j))] wr) (fun _ i _ => k - (intOf i).toNat)
    case atStart => exact ⟨0, by omega, rfl, by simpa [oput_nil] using HA.out⟩
    case round =>
      obtain ⟨j, hj, rfl, hst⟩ := hrel
      have HS := Lib.hid hst
      clear hst
      by_cases hlt : j < k
      · go_wp2_with fail
        have hle : ((be n k).take j).length = j := by simp [be]; omega
        have hl2 := oput_len st ((be n k).take j)
        refine (HS.out.call 0 rfl (ByteI_spec b _ _ (by omega) (by omega) (by omega))).mono ?_
        rintro e w1 ⟨v, A', N, rfl, ⟨rfl, rfl, rfl⟩, H1⟩
        have HS1 := Lib.hid H1
        clear H1 hle hl2
        go_wp2_with fail
        go_roundw
        case rel =>
          refine ⟨j + 1, by omega, by go_num, ?_⟩
          have := HS1.out
          rw [oput_oput] at this
          have e1 : (be n k).take (j + 1) = (be n k).take j ++ [UInt8.ofNat ((n / (2 ^ (8 * (k - 1 - j)) : Int)) % 256).toNat] := by
            rw [List.take_succ_eq_append_getElem (by simp [be]; omega)]
            simp [be]
          rw [e1]
          exact this
        case measure => simp [intOf]; omega
      · have e1 : j = k := by omega
        have e2 : (be n k).take k = be n k := List.take_of_length_le (by simp [be])
        go_wp2_with fail
        go_end0
        refine ⟨_, _, _, rfl, ⟨rfl, rfl, rfl⟩, ?_⟩
        have := HS.out
        rw [e1, e2] at this
        simpa [oint, HF.out] using this
  · have HF := Lib.hid (show fits n size = false by simpa using hf)
    clear hf
    have HA := Lib.hid (St.start F w (Sep.one hA))
    clear hA
    go_enter Tryz.func24, Tryz.ntmps24
    go_wp2_with fail
    refine (Fits_any n size w h0 h1).mono ?_
    rintro e w' ⟨rfl, rfl⟩
    rw [HF.out]
    go_wp2_with fail
    refine (HA.out.call 0 rfl (Fail_spec b _ 11)).mono ?_
    rintro e w1 ⟨v, A', N, rfl, ⟨rfl, rfl, rfl⟩, H1⟩
    have HS1 := Lib.hid H1
    clear H1
    go_wp2_with fail
    go_end0
    refine ⟨_, _, _, rfl, ⟨rfl, rfl, rfl⟩, ?_⟩
    simpa [oint, HF.out] using HS1.out
end Go.Proofs.YtlhgogjcaegehaaGreat.Sl
namespace Go.Proofs.YtlhgogjcaegehaaGreat.Sl
open Go.RowKit
set_option linter.unusedVariables false
set_option linter.unusedSimpArgs false
structure I where
  rest : List UInt8
  pos : Nat
  err : Int
def bsOf (l : List UInt8) : ByteArray := ⟨l.toArray⟩
theorem bsOf_size (l : List UInt8) : (bsOf l).size = l.length := by simp [bsOf, ByteArray.size]
theorem bsOf_list (l : List UInt8) : (bsOf l).data.toList = l := by simp [bsOf]
theorem bsOf_toList (l : List UInt8) : (bsOf l).toList = l := ByteArray.toList_mk l
theorem str_extract (s : ByteArray) (a b : Nat) : s.extract a b = bsOf ((s.data.toList.drop a).take (b - a)) := by
  apply ByteArray.ext
  apply Array.ext'
  simp [bsOf, ByteArray.data_extract, List.extract_eq_take_drop]
def InR (b : Nat) (st : I) : Res where
  P := fun w G => ∃ s : ByteArray, w.heap[b]? = some (.cells #[.string s, .int .i64 st.pos, .int .i64 st.err] 168 (0, 0)) ∧ st.pos + st.rest.length = s.size ∧ s.size ≤ 9223372036854775807 ∧ s.data.toList.drop st.pos = st.rest ∧ ∀ k, G k ↔ k = b
  lt := by
    rintro w G ⟨s, h1, _, _, _, h3⟩ k hk
    rw [(h3 k).1 hk]
    exact heap_lt h1
  move := by
    rintro w w' G ⟨s, h1, h2, h3, h4, h5⟩ hm
    exact ⟨s, (hm _ ((h5 _).2 rfl)).trans h1, h2, h3, h4, h5⟩
theorem InR.kept {b : Nat} {st : I} {w w' : World} {F : Nat → Prop} (h : (InR b st).P w F) (n : Nat) (hw : w' = w.drewN n) : St F w [InR b st] w' := by
  subst hw
  exact (St.start F w (Sep.one h)).drewN n
def ifail (st : I) (e : Int) : I := if st.err = 0 then { st with err := e } else st
def itake (st : I) (n : Int) : List UInt8 × I :=
  if st.err ≠ 0 then ([], st) else if n < 0 then ([], { st with err := 4 }) else if st.rest.length < n then ([], { st with err := 1 })
  else (st.rest.take n.toNat, { st with rest := st.rest.drop n.toNat, pos := st.pos + n.toNat })
set_option maxRecDepth 100000 in
theorem New_spec (s : ByteArray) (hs : s.size ≤ 9223372036854775807) :
    Spec0 Tryz.prog 90 #[.string s] (fun v N => ∃ b, v = .pointer (some ⟨b, 0, none⟩) ∧ N = [InR b ⟨s.data.toList, 0, 0⟩]) := by
  intro w
  go_enter Tryz.func90, Tryz.ntmps90
  go_wp2
  go_ret
  refine ⟨_, _, rfl, ⟨_, rfl, rfl⟩, ?_⟩
  refine (((St.nil_ w).alloc #[.string s, .int .i64 0, .int .i64 0] 168).weaken 0 rfl (A' := InR w.heap.size ⟨s.data.toList, 0, 0⟩) ?_)
  rintro G ⟨h1, h2⟩
  exact ⟨s, h1, by simp, hs, rfl, h2⟩
set_option maxRecDepth 100000 in
theorem IFail_spec (b : Nat) (st : I) (e : Int) : Spec Tryz.prog 93 #[.pointer (some ⟨b, 0, none⟩), .int .i64 e] (InR b st) (fun v A' N => v = .tuple #[] ∧ A' = InR b (ifail st e) ∧ N = []) := by
  rintro F w ⟨s, hb, h2, h3, h4, hF⟩
  have c2 : w.cell? ⟨b, 2, none⟩ = some (.int .i64 st.err) := (heap_at hb 2).trans rfl
  have f2 : w.frozen? ⟨b, 2, none⟩ = false := heap_free hb 2
  have HB := Lib.hid hb
  have H4 := Lib.hid h4
  have H2 := Lib.hid h2
  clear hb h4 h2
  by_cases h0 : st.err = 0
  · have H0 : (st.err == 0) = true := beq_iff_eq.2 h0
    have HH := Lib.hid h0
    clear h0
    go_enter Tryz.func93, Tryz.ntmps93
    go_wp2
    go_end0
    refine ⟨_, _, _, rfl, ⟨rfl, rfl, rfl⟩, (Fr.refl F w).set (.inl ((hF b).2 rfl)) _, F, ?_, fun k hk => .inl hk, trivial⟩
    exact ⟨s, by simpa [ifail, HH.out] using heap_set HB.out 2 (.int .i64 e), by simpa [ifail, HH.out] using H2.out, h3, by simpa [ifail, HH.out] using H4.out, hF⟩
  · have H0 : (st.err == 0) = false := beq_eq_false_iff_ne.2 h0
    have HH := Lib.hid h0
    clear h0
    go_enter Tryz.func93, Tryz.ntmps93
    go_wp2
    go_end0
    refine ⟨_, _, _, rfl, ⟨rfl, rfl, rfl⟩, InR.kept (st := ifail st e) ?_ 0 rfl⟩
    rw [show ifail st e = st by simp [ifail, HH.out]]
    exact ⟨s, HB.out, H2.out, h3, H4.out, hF⟩
set_option maxRecDepth 100000 in
theorem Left_spec (b : Nat) (st : I) : Spec Tryz.prog 101 #[.pointer (some ⟨b, 0, none⟩)] (InR b st) (fun v A' N => v = .int .i64 st.rest.length ∧ A' = InR b st ∧ N = []) := by
  rintro F w ⟨s, hb, h2, h3, h4, hF⟩
  have c0 : w.cell? ⟨b, 0, none⟩ = some (.string s) := (heap_at hb 0).trans rfl
  have c1 : w.cell? ⟨b, 1, none⟩ = some (.int .i64 st.pos) := (heap_at hb 1).trans rfl
  have HB := Lib.hid hb
  have H4 := Lib.hid h4
  have H2 := Lib.hid h2
  have h2a : st.pos ≤ s.size := by omega
  clear hb h4 h2
  go_enter Tryz.func101, Tryz.ntmps101
  go_wp2
  go_quiet (fail)
  go_wp2
  go_ret
  have e1 : (s.size : Int) - st.pos = st.rest.length := by have := H2.out; omega
  exact ⟨_, _, _, ret_int e1, ⟨rfl, rfl, rfl⟩, InR.kept ⟨s, HB.out, H2.out, h3, H4.out, hF⟩ _ rfl⟩
set_option maxRecDepth 100000 in
theorem Take_spec (b : Nat) (st : I) (n : Int) (hn0 : -9223372036854775808 ≤ n) (hn1 : n ≤ 9223372036854775807) :
    Spec Tryz.prog 100 #[.pointer (some ⟨b, 0, none⟩), .int .i64 n] (InR b st) (fun v A' N => v = .string (bsOf (itake st n).1) ∧ A' = InR b (itake st n).2 ∧ N = []) := by
  rintro F w ⟨s, hb, h2, h3, h4, hF⟩
  have hA : (InR b st).P w F := ⟨s, hb, h2, h3, h4, hF⟩
  have c0 : w.cell? ⟨b, 0, none⟩ = some (.string s) := (heap_at hb 0).trans rfl
  have c1 : w.cell? ⟨b, 1, none⟩ = some (.int .i64 st.pos) := (heap_at hb 1).trans rfl
  have c2 : w.cell? ⟨b, 2, none⟩ = some (.int .i64 st.err) := (heap_at hb 2).trans rfl
  have f1 : w.frozen? ⟨b, 1, none⟩ = false := heap_free hb 1
  have HB := Lib.hid hb
  have H4 := Lib.hid h4
  have H2 := Lib.hid h2
  have HA := Lib.hid (St.start F w (Sep.one hA))
  have h2a : st.pos ≤ s.size := by omega
  have h2b : ¬ ((s.size : Int) - st.pos < n) ↔ n ≤ st.rest.length := by omega
  have H2b := Lib.hid h2b
  clear hb h4 h2 hA h2b
  by_cases h0 : st.err = 0
  · have H0 : (st.err != 0) = false := by simp [h0]
    have HH := Lib.hid h0
    clear h0
    by_cases hn : n < 0
    · have HT := Lib.hid (show itake st n = ([], ifail st 4) by simp [itake, HH.out, hn, ifail])
      go_enter Tryz.func100, Tryz.ntmps100
      go_wp2_with fail
      refine (HA.out.call 0 rfl (IFail_spec b st 4)).mono ?_
      rintro e w1 ⟨v, A', N, rfl, ⟨rfl, rfl, rfl⟩, H1⟩
      have HS1 := Lib.hid H1
      clear H1
      go_wp2_with fail
      go_ret
      exact ⟨_, _, _, rfl, ⟨by rw [HT.out]; rfl, rfl, rfl⟩, by rw [HT.out]; exact HS1.out⟩
    · by_cases hl : (st.rest.length : Int) < n
      · have hl2 : (s.size : Int) - st.pos < n := by have := H2.out; omega
        have HT := Lib.hid (show itake st n = ([], ifail st 1) by simp [itake, HH.out, hn, ifail, hl])
        go_enter Tryz.func100, Tryz.ntmps100
        go_wp2_with fail
        go_quiet (fail)
        go_wp2_with fail
        refine ((HA.out.drewN _).call 0 rfl (IFail_spec b st 1)).mono ?_
        rintro e w1 ⟨v, A', N, rfl, ⟨rfl, rfl, rfl⟩, H1⟩
        have HS1 := Lib.hid H1
        clear H1
        go_wp2_with fail
        go_ret
        exact ⟨_, _, _, rfl, ⟨by rw [HT.out]; rfl, rfl, rfl⟩, by rw [HT.out]; exact HS1.out⟩
      · have hl2 : ¬ ((s.size : Int) - st.pos < n) := by have := H2.out; omega
        obtain ⟨m, rfl⟩ : ∃ m : Nat, n = m := ⟨n.toNat, by omega⟩
        have hl3 : st.pos + m ≤ s.size := by omega
        have HT := Lib.hid (show itake st m = (st.rest.take m, { st with rest := st.rest.drop m, pos := st.pos + m }) by
          have : ¬ (st.rest.length < m) := by omega
          simp [itake, HH.out, this])
        go_enter Tryz.func100, Tryz.ntmps100
        go_wp2_with fail
        go_quiet (fail)
        go_wp2_with fail
        go_quiet (fail)
        go_wp2_with fail
        go_ret
        refine ⟨.string (s.extract st.pos (st.pos + m)), _, _, rfl, ⟨?_, rfl, rfl⟩, ?_⟩
        · rw [HT.out, str_extract, Nat.add_sub_cancel_left, H4.out]
        · rw [HT.out]
          refine ((((St.start F w (Sep.one (R := BlkR b 168 #[.string s, .int .i64 st.pos, .int .i64 st.err]) ⟨HB.out, hF⟩)).drewN _).set 0 rfl 1 (.int .i64 (st.pos + m))).drewN _).weaken 0 rfl (A' := InR b { st with rest := st.rest.drop m, pos := st.pos + m }) ?_
          rintro G ⟨k1, k2⟩
          have h2 := H2.out
          refine ⟨s, k1, ?_, h3, ?_, k2⟩
          · simp only [List.length_drop]; omega
          · simp only; rw [← H4.out, List.drop_drop]
  · have H0 : (st.err != 0) = true := bne_iff_ne.2 h0
    have HH := Lib.hid h0
    clear h0
    go_enter Tryz.func100, Tryz.ntmps100
    go_wp2_with fail
    go_ret
    refine ⟨_, _, _, rfl, ⟨?_, rfl, rfl⟩, ?_⟩
    · simp [itake, HH.out, bsOf]
    · simpa [itake, HH.out] using HA.out
theorem or8_i64 (x d : Int) (h0 : -9223372036854775808 ≤ x) (h1 : x ≤ 9223372036854775807) (hx : x % 256 = 0) (hd0 : 0 ≤ d) (hd1 : d < 256) : bits .or .i64 x d = x + d := by
  have e1 : (BitVec.ofInt 64 x).toNat = (x % 18446744073709551616).toNat := by simp [BitVec.toNat_ofInt]
  have e2 : (BitVec.ofInt 64 d).toNat = d.toNat := by simp [BitVec.toNat_ofInt]; omega
  show IntKind.i64.wrap (((BitVec.ofInt 64 x) ||| (BitVec.ofInt 64 d)).toNat : Int) = x + d
  rw [BitVec.toNat_or, e1, e2]
  generalize ha : (x % 18446744073709551616).toNat = a
  have ha2 : a % 256 = 0 := by omega
  have hq : a = 2 ^ 8 * (a / 256) := by omega
  have hb : d.toNat < 2 ^ 8 := by omega
  have ho : a ||| d.toNat = a + d.toNat := by
    rw [hq, ← Nat.two_pow_add_eq_or_of_lt hb (a / 256)]
  rw [ho, IntKind.wrap_i64]
  omega
def sgn (c : UInt8) : Int := if c.toNat < 128 then c.toNat else (c.toNat : Int) - 256
theorem sgn_wrap (c : UInt8) : wrap64 (IntKind.i8.wrap (c.toNat : Int)) = sgn c := by
  have := c.toNat_lt
  have e : IntKind.i8.wrap (c.toNat : Int) = sgn c := by
    unfold sgn
    simp [IntKind.wrap, IntKind.bits, IntKind.signed]
    split <;> split <;> omega
  rw [e]
  unfold sgn wrap64
  split <;> omega
def beInt : List UInt8 → Int
  | [] => 0
  | c :: cs => cs.foldl (fun n d => n * 256 + d.toNat) (sgn c)
theorem beInt_snoc (l : List UInt8) (d : UInt8) (h : l ≠ []) : beInt (l ++ [d]) = beInt l * 256 + d.toNat := by
  cases l with
  | nil => exact absurd rfl h
  | cons c cs => simp [beInt]
theorem fold_range (cs : List UInt8) : ∀ (n : Int) (m : Nat), 1 ≤ m → -(2 ^ (m - 1) : Int) ≤ n → n < (2 ^ (m - 1) : Int) →
    -(2 ^ (m + 8 * cs.length - 1) : Int) ≤ cs.foldl (fun n d => n * 256 + (d.toNat : Int)) n ∧ cs.foldl (fun n d => n * 256 + (d.toNat : Int)) n < (2 ^ (m + 8 * cs.length - 1) : Int) := by
  induction cs with
  | nil => intro n m _ h1 h2; exact ⟨h1, h2⟩
  | cons c cs ih =>
    intro n m hm h1 h2
    have := c.toNat_lt
    have e : (2 ^ (m + 8 - 1) : Int) = 256 * 2 ^ (m - 1) := by
      rw [show m + 8 - 1 = 8 + (m - 1) by omega, Int.pow_add]
      rfl
    have h3 := ih (n * 256 + c.toNat) (m + 8) (by omega) (by rw [e]; omega) (by rw [e]; omega)
    rw [show m + 8 * (c :: cs).length - 1 = m + 8 + 8 * cs.length - 1 by simp; omega]
    exact h3
theorem beInt_range (l : List UInt8) (h : l ≠ []) : -(2 ^ (8 * l.length - 1) : Int) ≤ beInt l ∧ beInt l < (2 ^ (8 * l.length - 1) : Int) := by
  cases l with
  | nil => exact absurd rfl h
  | cons c cs =>
    have hc := c.toNat_lt
    have := fold_range cs (sgn c) 8 (by omega) (by unfold sgn; split <;> omega) (by unfold sgn; split <;> omega)
    rw [show 8 * (c :: cs).length - 1 = 8 + 8 * cs.length - 1 by simp; omega]
    exact this
theorem beInt_range7 (l : List UInt8) (h : l ≠ []) (h7 : l.length ≤ 7) : -36028797018963968 ≤ beInt l ∧ beInt l < 36028797018963968 := by
  have hr := beInt_range l h
  have hp : (2 ^ (8 * l.length - 1) : Int) ≤ 36028797018963968 := by
    have h1 : (2 ^ (8 * l.length - 1) : Nat) ≤ 2 ^ 55 := Nat.pow_le_pow_right (by decide) (by omega)
    have h2 : ((2 ^ (8 * l.length - 1) : Nat) : Int) ≤ ((2 ^ 55 : Nat) : Int) := Int.ofNat_le.2 h1
    rw [Int.natCast_pow, Int.natCast_pow] at h2
    exact h2
  generalize (2 ^ (8 * l.length - 1) : Int) = z at *
  omega
theorem beInt_next (q d : Int) (h0 : -36028797018963968 ≤ q) (h1 : q < 36028797018963968) (hd0 : 0 ≤ d) (hd1 : d < 256) : bits .or .i64 (wrap64 (q * 256)) (wrap64 d) = q * 256 + d := by
  have e2 : wrap64 (q * 256) = q * 256 := by unfold wrap64; omega
  have e3 : wrap64 d = d := by unfold wrap64; omega
  rw [e2, e3, or8_i64 _ _ (by omega) (by omega) (by omega) hd0 hd1]
theorem bsOf_empty (l : List UInt8) : (bsOf l).toList.isEmpty = l.isEmpty := by
  have e : (bsOf l).toList = l := ByteArray.toList_mk l
  rw [e]
theorem bsOf_get (l : List UInt8) (i : Nat) (h : i < (bsOf l).size) : (bsOf l)[i] = l[i]'(by simpa [bsOf_size] using h) := by
  simp [bsOf]; rfl
def iint (st : I) (size : Int) : Int × I := if 1 ≤ size ∧ size ≤ 8 then (beInt (itake st size).1, (itake st size).2) else (0, ifail st 4)
theorem itake_len (st : I) (n : Int) : (itake st n).1.length ≤ n.toNat := by
  unfold itake
  split
  · simp
  · split
    · simp
    · split
      · simp
      · simp; omega
set_option maxRecDepth 100000 in
theorem IInt_spec (b : Nat) (st : I) (size : Int) :
    Spec Tryz.prog 92 #[.pointer (some ⟨b, 0, none⟩), .int .i64 size] (InR b st) (fun v A' N => v = .int .i64 (iint st size).1 ∧ A' = InR b (iint st size).2 ∧ N = []) := by
  intro F w hA
  by_cases hs : 1 ≤ size ∧ size ≤ 8
  · obtain ⟨k, rfl⟩ : ∃ k : Nat, size = k := ⟨size.toNat, by omega⟩
    have HI := Lib.hid (show iint st k = (beInt (itake st k).1, (itake st k).2) by simp only [iint, hs]; simp)
    have HA := Lib.hid (St.start F w (Sep.one hA))
    clear hA
    go_enter Tryz.func92, Tryz.ntmps92
    go_wp2_with fail
    refine (HA.out.call 0 rfl (Take_spec b st k (by omega) (by omega))).mono ?_
    rintro e w1 ⟨v, A', N, rfl, ⟨rfl, rfl, rfl⟩, H1⟩
    have HS1 := Lib.hid H1
    have hlen := itake_len st k
    clear H1
    generalize hl : (itake st k).1 = l at *
    have hne := bsOf_empty l
    have HL := Lib.hid hl
    clear hl
    cases l with
    | nil =>
      simp only [List.isEmpty_nil] at hne
      go_wp2_with fail
      go_ret
      exact ⟨_, _, _, rfl, ⟨by rw [HI.out]; rfl, rfl, rfl⟩, by rw [HI.out]; exact HS1.out⟩
    | cons c cs =>
      have hsz := bsOf_size (c :: cs)
      have h0 := bsOf_get (c :: cs) 0 (by simp [bsOf_size])
      have HG := Lib.hid (bsOf_get (c :: cs))
      have hsg := sgn_wrap c
      have hl8 : cs.length ≤ 7 := by simp at hlen; omega
      simp only [List.getElem_cons_zero, List.isEmpty_cons] at h0 hne
      go_wp2_with fail
      go_loopw [6, 7] (fun n i wr => wr = w1 ∧ ∃ j : Nat, 1 ≤ j ∧ j ≤ cs.length + 1 ∧ i = .int .i64 j ∧ n = .int .i64 (beInt ((c :: cs).take j))) (fun _ i _ => cs.length + 1 - (intOf i).toNat)
      case atStart => exact ⟨rfl, 1, by omega, by omega, rfl, by simp [beInt, hsg]⟩
      case round =>
        obtain ⟨rfl, j, hj1, hj2, rfl, rfl⟩ := hrel
        by_cases hlt : j < cs.length + 1
        · have hgj := HG.out j (by rw [hsz]; simpa using hlt)
          have hb : j ≤ 9223372036854775806 := by omega
          have hnn : (c :: cs).take j ≠ [] := by intro h; have := congrArg List.length h; simp at this; omega
          have hr := beInt_range7 ((c :: cs).take j) hnn (by simp; omega)
          generalize hq : beInt ((c :: cs).take j) = q at *
          have HQ := Lib.hid hq
          have HR := Lib.hid hr
          clear hq hr
          go_wp2_with fail
          go_roundw
          case rel =>
            refine ⟨trivial, j + 1, by omega, by omega, by go_num, ?_⟩
            have hd := ((c :: cs)[j]'(by simpa using hlt)).toNat_lt
            have e1 : (c :: cs).take (j + 1) = (c :: cs).take j ++ [(c :: cs)[j]'(by simpa using hlt)] := by
              rw [List.take_succ_eq_append_getElem (by simpa using hlt)]
            rw [e1, beInt_snoc _ _ hnn, HQ.out, beInt_next q _ HR.out.1 HR.out.2 (by omega) (by omega)]
          case measure => simp [intOf]; omega
        · have e1 : j = cs.length + 1 := by omega
          have e2 : (c :: cs).take (cs.length + 1) = c :: cs := List.take_of_length_le (by simp)
          have hb : (c :: cs).length = cs.length + 1 := rfl
          go_wp2_with fail
          go_ret
          exact ⟨_, _, _, rfl, ⟨by rw [HI.out, e1, e2]; rfl, rfl, rfl⟩, by rw [HI.out]; exact HS1.out⟩
  · have HI := Lib.hid (show iint st size = (0, ifail st 4) by simp only [iint, hs]; simp)
    have HA := Lib.hid (St.start F w (Sep.one hA))
    clear hA
    by_cases h1 : size < 1
    all_goals
      go_enter Tryz.func92, Tryz.ntmps92
      go_wp2_with fail
      refine (HA.out.call 0 rfl (IFail_spec b st 4)).mono ?_
      rintro e w1 ⟨v, A', N, rfl, ⟨rfl, rfl, rfl⟩, H1⟩
      have HS1 := Lib.hid H1
      clear H1
      go_wp2_with fail
      go_ret
      exact ⟨_, _, _, rfl, ⟨by rw [HI.out]; rfl, rfl, rfl⟩, by rw [HI.out]; exact HS1.out⟩
theorem InR.err {b : Nat} {st : I} {w : World} {F0 : Nat → Prop} {w0 : World} {Rs : List Res} (i : Nat) (h : St F0 w0 Rs w) (hi : Rs[i]? = some (InR b st)) :
    w.cell? ⟨b, 2, none⟩ = some (.int .i64 st.err) ∧ w.cell? ⟨b, 1, none⟩ = some (.int .i64 st.pos) := by
  obtain ⟨G, ⟨s, h1, _⟩, _⟩ := h.get i hi
  exact ⟨(heap_at h1 2).trans rfl, (heap_at h1 1).trans rfl⟩
theorem InR.len {b : Nat} {st : I} {w : World} {F0 : Nat → Prop} {w0 : World} {Rs : List Res} (i : Nat) (h : St F0 w0 Rs w) (hi : Rs[i]? = some (InR b st)) : st.rest.length ≤ 9223372036854775807 := by
  obtain ⟨G, ⟨s, h1, h2, h3, _⟩, _⟩ := h.get i hi
  omega
def iclose (st : I) : I := if st.rest = [] then st else ifail st 2
set_option maxRecDepth 100000 in
theorem Close_spec (b : Nat) (st : I) : Spec Tryz.prog 94 #[.pointer (some ⟨b, 0, none⟩)] (InR b st) (fun v A' N => v = .int .i64 (iclose st).err ∧ A' = InR b (iclose st) ∧ N = []) := by
  intro F w hA
  have HS := Lib.hid (St.start F w (Sep.one hA))
  clear hA
  by_cases h : st.rest = []
  · have HC := Lib.hid (show iclose st = st by simp [iclose, h])
    have hl : st.rest.length = 0 := by simp [h]
    have HL := Lib.hid hl
    have hl2 : ¬ ((0 : Int) < st.rest.length) := by omega
    clear h hl
    go_enter Tryz.func94, Tryz.ntmps94
    go_wp2_with fail
    refine (HS.out.call 0 rfl (Left_spec b st)).mono ?_
    rintro e w1 ⟨v, A', N, rfl, ⟨rfl, rfl, rfl⟩, H1⟩
    have c2 := (InR.err 0 H1 rfl).1
    have HS1 := Lib.hid H1
    clear H1
    go_wp2_with fail
    go_ret
    exact ⟨_, _, _, rfl, ⟨by rw [HC.out]; rfl, rfl, rfl⟩, by rw [HC.out]; exact HS1.out⟩
  · have HC := Lib.hid (show iclose st = ifail st 2 by simp [iclose, h])
    have hl2 : (0 : Int) < st.rest.length := by
      have := List.length_pos_iff.2 h
      omega
    clear h
    go_enter Tryz.func94, Tryz.ntmps94
    go_wp2_with fail
    refine (HS.out.call 0 rfl (Left_spec b st)).mono ?_
    rintro e w1 ⟨v, A', N, rfl, ⟨rfl, rfl, rfl⟩, H1⟩
    have HS1 := Lib.hid H1
    clear H1
    go_wp2_with fail
    refine (HS1.out.call 0 rfl (IFail_spec b st 2)).mono ?_
    rintro e w2 ⟨v, A', N, rfl, ⟨rfl, rfl, rfl⟩, H2⟩
    have c2 := (InR.err 0 H2 rfl).1
    have HS2 := Lib.hid H2
    clear H2
    go_wp2_with fail
    go_ret
    exact ⟨_, _, _, rfl, ⟨by rw [HC.out]; rfl, rfl, rfl⟩, by rw [HC.out]; exact HS2.out⟩
end Go.Proofs.YtlhgogjcaegehaaGreat.Sl
namespace Go.Proofs.YtlhgogjcaegehaaGreat.Sl
open Go.RowKit
set_option linter.unusedVariables false
set_option linter.unusedSimpArgs false
theorem take_succ_of (l : List UInt8) (j : Nat) (h : j < l.length) : l.take (j + 1) = l.take j ++ [l[j]] := List.take_succ_eq_append_getElem h
theorem take_nonempty {l : List UInt8} {j : Nat} (h : j < l.length) (h0 : 0 < j) : l.take j ≠ [] := by
  intro he
  have := congrArg List.length he
  rw [List.length_take, List.length_nil] at this
  omega
set_option maxRecDepth 100000 in
theorem RInt_any (l : List UInt8) (h8 : l.length ≤ 8) (w : World) :
    Calls Tryz.prog 99 #[.string (bsOf l)] w fun e w' => e = .returned (.int .i64 (beInt l)) ∧ w = w' := by
  have hsz := bsOf_size l
  have hl8 : (bsOf l).size ≤ 8 := by omega
  have HG := Lib.hid (bsOf_get l)
  go_enter Tryz.func99, Tryz.ntmps99
  go_wp2_with fail
  go_loop [3, 4] (fun n i => ∃ j : Nat, j ≤ l.length ∧ i = .int .i64 j ∧ n = .int .i64 (beInt (l.take j))) (fun _ i => l.length - (intOf i).toNat)
  case atStart => exact ⟨0, by omega, rfl, by simp [beInt]⟩
  case round =>
    obtain ⟨j, hj, rfl, rfl⟩ := hrel
    by_cases hlt : j < l.length
    · have hgj := HG.out j (by omega)
      have hs : j < (bsOf l).size := by omega
      have HT := Lib.hid (take_succ_of l j hlt)
      have hc := l[j].toNat_lt
      generalize l[j] = c at *
      by_cases hj0 : j = 0
      · subst hj0
        have HE := Lib.hid (show beInt (l.take (0 + 1)) = sgn c by rw [HT.out]; simp [beInt])
        have hb0 : beInt (l.take 0) = 0 := by simp [beInt]
        clear HT
        rw [hb0]
        clear hb0
        by_cases h128 : c.toNat < 128
        all_goals
          go_wp2_with fail
          go_round
          case rel => exact ⟨0 + 1, by omega, by go_num, by rw [HE.out]; simp [sgn]; first | done | omega⟩
          case measure => simp [intOf]; omega
      · have hne := take_nonempty hlt (by omega)
        have hr := beInt_range7 (l.take j) hne (by simp; omega)
        have HE := Lib.hid (show beInt (l.take (j + 1)) = beInt (l.take j) * 256 + c.toNat by rw [HT.out, beInt_snoc _ _ hne])
        clear HT
        have HN := Lib.hid hne
        clear hne
        generalize beInt (l.take j) = q at *
        have h0 : ((j : Int) == 0) = false := by simp; omega
        have hr1 := hr.1
        have hr2 := hr.2
        go_wp2_with fail
        go_round
        case rel => exact ⟨j + 1, by omega, by go_num, by rw [HE.out]⟩
        case measure => simp [intOf]; omega
    · have e1 : j = l.length := by omega
      have e2 := List.take_of_length_le (l := l) (i := l.length) (Nat.le_refl _)
      have E1 := Lib.hid e1
      have E2 := Lib.hid e2
      clear e1 e2
      go_wp2_with fail
      go_ret
      exact ⟨ret_int (by rw [E1.out, E2.out]), rfl⟩
theorem be_length (n : Int) (k : Nat) : (be n k).length = k := by simp [be]
end Go.Proofs.YtlhgogjcaegehaaGreat.Sl
namespace Go.Proofs.YtlhgogjcaegehaaGreat.Sl
open Go.RowKit
set_option linter.unusedVariables false
set_option linter.unusedSimpArgs false
def vput (n : Nat) : List UInt8 := if n < 128 then [UInt8.ofNat n] else UInt8.ofNat (n % 128 + 128) :: vput (n / 128)
termination_by n
decreasing_by omega
def vfold (n : Int) : Nat := if n < 0 then (-(n + 1)).toNat * 2 + 1 else n.toNat * 2
theorem vput_length (k : Nat) : ∀ n : Nat, n < 128 ^ (k + 1) → (vput n).length ≤ k + 1 := by
  induction k with
  | zero => intro n h; rw [vput, if_pos (by simpa using h)]; simp
  | succ k ih =>
    intro n h
    rw [vput]
    split
    · simp
    · have := ih (n / 128) (by rw [Nat.div_lt_iff_lt_mul (by decide)]; rwa [Nat.pow_succ] at h)
      simp; omega
theorem vput_pos (n : Nat) : 1 ≤ (vput n).length := by rw [vput]; split <;> simp
theorem vput_ten (n : Nat) (h : n < 18446744073709551616) : (vput n).length ≤ 10 := vput_length 9 n (by omega)
theorem vfold_lt (n : Int) (h0 : -9223372036854775808 ≤ n) (h1 : n ≤ 9223372036854775807) : vfold n < 18446744073709551616 := by unfold vfold; split <;> omega
theorem fold_eq (n : Int) (h0 : -9223372036854775808 ≤ n) (h1 : n ≤ 9223372036854775807) :
    bits .xor .u64 (IntKind.u64.wrap (wrap64 (n * 2))) (IntKind.u64.wrap (n / 9223372036854775808)) = (vfold n : Int) := by
  have e1 : IntKind.u64.wrap (wrap64 (n * 2)) = (n * 2) % 18446744073709551616 := by rw [IntKind.wrap_u64]; unfold wrap64; omega
  rw [e1]
  show IntKind.u64.wrap ((BitVec.ofInt 64 _ ^^^ BitVec.ofInt 64 _).toNat : Int) = _
  rcases Int.lt_or_le n 0 with h | h
  · have e2 : IntKind.u64.wrap (n / 9223372036854775808) = 18446744073709551615 := by rw [IntKind.wrap_u64]; omega
    rw [e2, show BitVec.ofInt 64 18446744073709551615 = BitVec.allOnes 64 by decide, BitVec.xor_allOnes, BitVec.toNat_not, BitVec.toNat_ofInt, IntKind.wrap_u64]
    simp only [vfold, if_pos h]
    omega
  · have e2 : IntKind.u64.wrap (n / 9223372036854775808) = 0 := by rw [IntKind.wrap_u64]; omega
    rw [e2, show BitVec.ofInt 64 0 = 0#64 by decide, BitVec.xor_zero, BitVec.toNat_ofInt, IntKind.wrap_u64]
    simp only [vfold, if_neg (show ¬ n < 0 by omega)]
    omega
set_option maxRecDepth 100000 in
theorem or_128_ : ∀ x : Fin 256, bits .or .u8 ((x.val : Nat) : Int) 128 = ((x.val % 128 + 128 : Nat) : Int) := by decide
theorem or_128 (x : Nat) (h : x < 256) : bits .or .u8 (x : Int) 128 = ((x % 128 + 128 : Nat) : Int) := or_128_ ⟨x, h⟩
set_option maxRecDepth 100000 in
theorem VFold_any (n : Int) (h0 : -9223372036854775808 ≤ n) (h1 : n ≤ 9223372036854775807) (w : World) :
    Calls Tryz.prog 96 #[.int .i64 n] w fun e w' => e = .returned (.int .u64 (vfold n)) ∧ w = w' := by
  have H := Lib.hid (fold_eq n h0 h1)
  go_enter Tryz.func96, Tryz.ntmps96
  go_wp2_with fail
  go_ret
  exact ⟨ret_int H.out, rfl⟩
set_option maxRecDepth 100000 in
theorem VPut_spec (b : Nat) (st : List UInt8 × Int) (n : Nat) (hn : n < 18446744073709551616) (hl : st.1.length + 10 ≤ 140737488355328) :
    Spec Tryz.prog 95 #[.pointer (some ⟨b, 0, none⟩), .int .u64 n] (OutR b st) (fun v A' N => v = .tuple #[] ∧ A' = OutR b (oput st (vput n)) ∧ N = []) := by
  intro F w hA
  have HA := Lib.hid (St.start F w (Sep.one hA))
  clear hA
  have HT := Lib.hid (vput_ten n hn)
  go_enter Tryz.func95, Tryz.ntmps95
  go_wp2_with fail
  go_loopw [1] (fun i wr => ∃ (m : Nat) (p : List UInt8), m ≤ n ∧ p ++ vput m = vput n ∧ i = .int .u64 m ∧ St F w [OutR b (oput st p)] wr) (fun i _ => (intOf i).toNat)
  case atStart => exact ⟨n, [], Nat.le_refl _, rfl, rfl, by rw [oput_nil]; exact HA.out⟩
  case round =>
    obtain ⟨m, p, hm, hp, rfl, hst⟩ := hrel
    have hlen : (oput st p).1.length + 1 ≤ 140737488355328 := by
      have h1 := oput_len st p
      have h2 := HT.out
      have h3 := vput_pos m
      rw [← hp, List.length_append] at h2
      omega
    have HS := Lib.hid hst
    clear hst
    by_cases hlt : 128 ≤ m
    · have ho := or_128 (m % 256) (by omega)
      have e1 : (m : Int) % 256 = ((m % 256 : Nat) : Int) := by omega
      rw [← e1] at ho
      have e2 : m % 256 % 128 = m % 128 := by omega
      rw [e2] at ho
      have HO := Lib.hid ho
      have HP := Lib.hid (show p ++ [UInt8.ofNat (m % 128 + 128)] ++ vput (m / 128) = vput n by rw [← hp, vput.eq_1 m, if_neg (by omega)]; simp)
      clear hp ho e1 e2
      go_wp2_with fail
      rw [HO.out]
      refine (HS.out.call 0 rfl (ByteI_spec b _ ((m % 128 + 128 : Nat) : Int) (by omega) (by omega) hlen)).mono ?_
      rintro e w1 ⟨v, A', N, rfl, ⟨rfl, rfl, rfl⟩, H1⟩
      rw [oput_oput, Int.toNat_natCast] at H1
      have HS1 := Lib.hid H1
      clear H1
      go_wp2_with fail
      go_roundw
      case rel => exact ⟨m / 128, _, by omega, HP.out, by go_num, HS1.out⟩
      case measure => simp [intOf]; omega
    · have e1 : (m : Int) % 256 = ((m : Nat) : Int) := by omega
      have HO := Lib.hid e1
      have HP := Lib.hid (show p ++ [UInt8.ofNat m] = vput n by rw [← hp, vput.eq_1 m, if_pos (by omega)])
      clear hp e1
      go_wp2_with fail
      refine (HS.out.call 0 rfl (ByteI_spec b _ (m : Int) (by omega) (by omega) hlen)).mono ?_
      rintro e w1 ⟨v, A', N, rfl, ⟨rfl, rfl, rfl⟩, H1⟩
      rw [oput_oput, Int.toNat_natCast, HP.out] at H1
      have HS1 := Lib.hid H1
      clear H1
      go_wp2_with fail
      go_end0
      exact ⟨_, _, _, rfl, ⟨rfl, rfl, rfl⟩, HS1.out⟩
set_option maxRecDepth 100000 in
theorem VPutLong_spec (b : Nat) (st : List UInt8 × Int) (n : Int) (h0 : -9223372036854775808 ≤ n) (h1 : n ≤ 9223372036854775807) (hl : st.1.length + 10 ≤ 140737488355328) :
    Spec Tryz.prog 79 #[.pointer (some ⟨b, 0, none⟩), .int .i64 n] (OutR b st) (fun v A' N => v = .tuple #[] ∧ A' = OutR b (oput st (vput (vfold n))) ∧ N = []) := by
  intro F w hA
  have HA := Lib.hid (St.start F w (Sep.one hA))
  clear hA
  go_enter Tryz.func79, Tryz.ntmps79
  go_wp2_with fail
  refine (VFold_any n h0 h1 w).mono ?_
  rintro e w' ⟨rfl, rfl⟩
  go_wp2_with fail
  refine (HA.out.call 0 rfl (VPut_spec b _ (vfold n) (vfold_lt n h0 h1) hl)).mono ?_
  rintro e w1 ⟨v, A', N, rfl, ⟨rfl, rfl, rfl⟩, H1⟩
  have HS1 := Lib.hid H1
  clear H1
  go_wp2_with fail
  go_end0
  exact ⟨_, _, _, rfl, ⟨rfl, rfl, rfl⟩, HS1.out⟩
theorem fits_4 (n : Int) : fits n 4 = decide (-2147483648 ≤ n ∧ n ≤ 2147483647) := by
  have h1 : (2 ^ (8 * (4 : Int).toNat - 1) : Int) = 2147483648 := by decide
  unfold fits
  rw [h1, Bool.eq_iff_iff]
  simp
def vputInt (st : List UInt8 × Int) (n : Int) : List UInt8 × Int := if -2147483648 ≤ n ∧ n ≤ 2147483647 then oput st (vput (vfold n)) else ofail st 11
set_option maxRecDepth 100000 in
theorem VPutInt_spec (b : Nat) (st : List UInt8 × Int) (n : Int) (h0 : -9223372036854775808 ≤ n) (h1 : n ≤ 9223372036854775807) (hl : st.1.length + 10 ≤ 140737488355328) :
    Spec Tryz.prog 80 #[.pointer (some ⟨b, 0, none⟩), .int .i64 n] (OutR b st) (fun v A' N => v = .tuple #[] ∧ A' = OutR b (vputInt st n) ∧ N = []) := by
  intro F w hA
  have HA := Lib.hid (St.start F w (Sep.one hA))
  clear hA
  by_cases hf : -2147483648 ≤ n ∧ n ≤ 2147483647
  · have HF := Lib.hid (show fits n 4 = true by rw [fits_4]; simp [hf])
    have HE := Lib.hid (show vputInt st n = oput st (vput (vfold n)) by simp [vputInt, hf])
    go_enter Tryz.func80, Tryz.ntmps80
    go_wp2_with fail
    refine (Fits_any n 4 w h0 h1).mono ?_
    rintro e w' ⟨rfl, rfl⟩
    rw [HF.out]
    go_wp2_with fail
    refine (VFold_any n h0 h1 w).mono ?_
    rintro e w' ⟨rfl, rfl⟩
    go_wp2_with fail
    refine (HA.out.call 0 rfl (VPut_spec b _ (vfold n) (vfold_lt n h0 h1) hl)).mono ?_
    rintro e w1 ⟨v, A', N, rfl, ⟨rfl, rfl, rfl⟩, H1⟩
    have HS1 := Lib.hid H1
    clear H1
    go_wp2_with fail
    go_end0
    exact ⟨_, _, _, rfl, ⟨rfl, by rw [HE.out], rfl⟩, HS1.out⟩
  · have HF := Lib.hid (show fits n 4 = false by rw [fits_4]; simp; omega)
    have HE := Lib.hid (show vputInt st n = ofail st 11 by simp [vputInt, hf])
    clear hf
    go_enter Tryz.func80, Tryz.ntmps80
    go_wp2_with fail
    refine (Fits_any n 4 w h0 h1).mono ?_
    rintro e w' ⟨rfl, rfl⟩
    rw [HF.out]
    go_wp2_with fail
    refine (HA.out.call 0 rfl (Fail_spec b st 11)).mono ?_
    rintro e w1 ⟨v, A', N, rfl, ⟨rfl, rfl, rfl⟩, H1⟩
    have HS1 := Lib.hid H1
    clear H1
    go_wp2_with fail
    go_end0
    exact ⟨_, _, _, rfl, ⟨rfl, by rw [HE.out], rfl⟩, HS1.out⟩
end Go.Proofs.YtlhgogjcaegehaaGreat.Sl
namespace Go.Proofs.YtlhgogjcaegehaaGreat.Sl
open Go.RowKit
set_option linter.unusedVariables false
theorem vfold_lt32 (n : Int) (h : -2147483648 ≤ n ∧ n ≤ 2147483647) : vfold n < 4294967296 := by unfold vfold; split <;> omega
end Go.Proofs.YtlhgogjcaegehaaGreat.Sl
namespace Go.Proofs.YtlhgogjcaegehaaGreat.Sl
open Go.RowKit
set_option linter.unusedVariables false
set_option linter.unusedSimpArgs false
attribute [local go_sem] bsOf_toList bsOf_size
structure Bl where
  null : Bool
  data : List UInt8
@[go_sem] def blV (b : Bl) : Value := .agg #[.bool b.null, .string (bsOf b.data)]
theorem infoBl : (Tryz.prog.info? 23).map (·.size) = some 2 := by kernel_rfl
set_option maxRecDepth 100000 in
theorem BOf_spec (l : List UInt8) : Spec0 Tryz.prog 26 #[.string (bsOf l)] (fun v N => v = blV ⟨false, l⟩ ∧ N = []) := by
  intro w
  have HS := Lib.hid (St.nil_ w)
  go_enter Tryz.func26, Tryz.ntmps26
  go_wp2_with fail
  refine bodyPost_ret (v := blV ⟨false, l⟩) (results_cell_row (by rfl) _ _ w.heap.size 23 #[.bool false, .string (bsOf l)] (0, 0) _ rfl (heap_alloc_new w _) Tryz.underlying23 rfl infoBl) rfl ?_
  exact ⟨_, _, rfl, ⟨rfl, rfl⟩, (HS.out.alloc _ _).drop_⟩
def bright (b : Bl) : Bool := !b.null || b.data.isEmpty
set_option maxRecDepth 100000 in
theorem BRight_spec (b : Bl) : Spec0 Tryz.prog 45 #[blV b] (fun v N => v = .bool (bright b) ∧ N = []) := by
  intro w
  have HS := Lib.hid (St.nil_ w)
  obtain ⟨n, l⟩ := b
  have HB := Lib.hid (show (l == []) = l.isEmpty by cases l <;> rfl)
  cases n
  · go_enter Tryz.func45, Tryz.ntmps45
    go_wp2_with fail
    go_ret
    exact ⟨_, _, rfl, ⟨rfl, rfl⟩, (HS.out.alloc _ _).drop_⟩
  · go_enter Tryz.func45, Tryz.ntmps45
    go_wp2_with fail
    go_ret
    exact ⟨_, _, rfl, ⟨congrArg Value.bool (by simp [bright]), rfl⟩, (HS.out.alloc _ _).drop_⟩
def blen (b : Bl) : Int := if b.null then -1 else b.data.length
set_option maxRecDepth 100000 in
theorem BLen_spec (b : Bl) : Spec0 Tryz.prog 49 #[blV b] (fun v N => v = .int .i64 (blen b) ∧ N = []) := by
  intro w
  have HS := Lib.hid (St.nil_ w)
  obtain ⟨n, l⟩ := b
  cases n
  all_goals
    go_enter Tryz.func49, Tryz.ntmps49
    go_wp2_with fail
    go_ret
    exact ⟨_, _, rfl, ⟨rfl, rfl⟩, (HS.out.alloc _ _).drop_⟩
theorem blen_range (b : Bl) (h : b.data.length ≤ 9223372036854775807) : -9223372036854775808 ≤ blen b ∧ blen b ≤ 9223372036854775807 := by unfold blen; split <;> omega
def bwrite (st : List UInt8 × Int) (b : Bl) : List UInt8 × Int := if bright b then oput st b.data else ofail st 4
def bputFixed (st : List UInt8 × Int) (b : Bl) (size : Int) : List UInt8 × Int := bwrite (oint st (blen b) size) b
def bputVaried (st : List UInt8 × Int) (b : Bl) : List UInt8 × Int := bwrite (vputInt st (blen b)) b
set_option maxRecDepth 100000 in
theorem BWrite_spec (g : Nat) (st : List UInt8 × Int) (b : Bl) (hl : st.1.length + b.data.length ≤ 140737488355328) :
    Spec Tryz.prog 50 #[.pointer (some ⟨g, 0, none⟩), blV b] (OutR g st) (fun v A' N => v = .tuple #[] ∧ A' = OutR g (bwrite st b) ∧ N = []) := by
  intro F w hA
  have HA := Lib.hid (St.start F w (Sep.one hA))
  clear hA
  have HB := Lib.hid (HA.out.alloc #[.bool b.null, .string (bsOf b.data)] 23)
  by_cases hr : bright b = true
  · have HQ := Lib.hid (show bwrite st b = oput st b.data by simp [bwrite, hr])
    have HR := Lib.hid hr
    clear hr
    go_enter Tryz.func50, Tryz.ntmps50
    go_wp2_with fail
    refine (St.call0 HB.out (BRight_spec b)).mono ?_
    rintro e w2 ⟨v, N, rfl, ⟨rfl, rfl⟩, H2⟩
    rw [HR.out]
    have d0 : w2.cell? ⟨w.heap.size, 0, none⟩ = some (.bool b.null) := heap_at (St.blk 0 H2 rfl) 0
    have d1 : w2.cell? ⟨w.heap.size, 1, none⟩ = some (.string (bsOf b.data)) := heap_at (St.blk 0 H2 rfl) 1
    have HD := Lib.hid H2
    clear H2
    go_wp2_with fail
    refine (St.call 1 HD.out rfl (Put_spec g st (bsOf b.data) (by rw [bsOf_size]; exact hl))).mono ?_
    rintro e w3 ⟨v, A', N, rfl, ⟨rfl, rfl, rfl⟩, H3⟩
    rw [bsOf_list] at H3
    have HE := Lib.hid H3
    clear H3
    go_wp2_with fail
    go_end0
    exact ⟨_, _, _, rfl, ⟨rfl, by rw [HQ.out], rfl⟩, HE.out.drop_⟩
  · have HQ := Lib.hid (show bwrite st b = ofail st 4 by simp [bwrite, hr])
    have HR := Lib.hid (show bright b = false by simpa using hr)
    clear hr
    go_enter Tryz.func50, Tryz.ntmps50
    go_wp2_with fail
    refine (St.call0 HB.out (BRight_spec b)).mono ?_
    rintro e w2 ⟨v, N, rfl, ⟨rfl, rfl⟩, H2⟩
    rw [HR.out]
    have HD := Lib.hid H2
    clear H2
    go_wp2_with fail
    refine (St.call 1 (HD).out rfl (Fail_spec g st 4)).mono ?_
    rintro e w1 ⟨v, A', N, rfl, ⟨rfl, rfl, rfl⟩, H1⟩
    try simp only [List.cons_append, List.nil_append, List.set_cons_zero, List.set_cons_succ, bsOf_list] at H1
    have HE := Lib.hid H1
    clear H1
    go_wp2_with fail
    go_end0
    exact ⟨_, _, _, rfl, ⟨rfl, by rw [HQ.out], rfl⟩, HE.out.drop_⟩
theorem oint_len (st : List UInt8 × Int) (n size : Int) : (oint st n size).1.length ≤ st.1.length + 8 := by
  unfold oint
  split
  · rename_i h
    have h1 := oput_len st (be n size.toNat)
    rw [be_length] at h1
    simp [fits] at h
    omega
  · unfold ofail; split <;> simp
set_option maxRecDepth 100000 in
theorem BPutFixed_spec (g : Nat) (st : List UInt8 × Int) (b : Bl) (size : Int) (h0 : -9223372036854775808 ≤ size) (h1 : size ≤ 9223372036854775807) (hl : st.1.length + 8 + b.data.length ≤ 140737488355328) :
    Spec Tryz.prog 23 #[.pointer (some ⟨g, 0, none⟩), blV b, .int .i64 size] (OutR g st) (fun v A' N => v = .tuple #[] ∧ A' = OutR g (bputFixed st b size) ∧ N = []) := by
  intro F w hA
  have HA := Lib.hid (St.start F w (Sep.one hA))
  clear hA
  have HB := Lib.hid (HA.out.alloc #[.bool b.null, .string (bsOf b.data)] 23)
  have hbl := blen_range b (by omega)
  have hb1 := hbl.1
  have hb2 := hbl.2
  clear hbl
  go_enter Tryz.func23, Tryz.ntmps23
  go_wp2_with fail
  refine (St.call0 HB.out (BLen_spec b)).mono ?_
  rintro e w2 ⟨v, N, rfl, ⟨rfl, rfl⟩, H2⟩
  have HC := Lib.hid H2
  clear H2
  go_wp2_with fail
  refine (St.call 1 HC.out rfl (OutInt_spec g st (blen b) size hb1 hb2 (by omega))).mono ?_
  rintro e w3 ⟨v, A', N, rfl, ⟨rfl, rfl, rfl⟩, H3⟩
  have d0 : w3.cell? ⟨w.heap.size, 0, none⟩ = some (.bool b.null) := heap_at (St.blk 0 H3 rfl) 0
  have d1 : w3.cell? ⟨w.heap.size, 1, none⟩ = some (.string (bsOf b.data)) := heap_at (St.blk 0 H3 rfl) 1
  have HD := Lib.hid H3
  clear H3
  go_wp2_with fail
  refine (St.call 1 HD.out rfl (BWrite_spec g _ b (by have := oint_len st (blen b) size; omega))).mono ?_
  rintro e w4 ⟨v, A', N, rfl, ⟨rfl, rfl, rfl⟩, H4⟩
  have HE := Lib.hid H4
  clear H4
  go_wp2_with fail
  go_end0
  exact ⟨_, _, _, rfl, ⟨rfl, rfl, rfl⟩, HE.out.drop_⟩
theorem vputInt_len (st : List UInt8 × Int) (n : Int) : (vputInt st n).1.length ≤ st.1.length + 10 := by
  unfold vputInt
  split
  · rename_i h
    have h1 := oput_len st (vput (vfold n))
    have h2 := vput_ten (vfold n) (vfold_lt n (by omega) (by omega))
    omega
  · unfold ofail; split <;> simp
set_option maxRecDepth 100000 in
theorem BPutVaried_spec (g : Nat) (st : List UInt8 × Int) (b : Bl) (hl : st.1.length + 10 + b.data.length ≤ 140737488355328) :
    Spec Tryz.prog 81 #[.pointer (some ⟨g, 0, none⟩), blV b] (OutR g st) (fun v A' N => v = .tuple #[] ∧ A' = OutR g (bputVaried st b) ∧ N = []) := by
  intro F w hA
  have HA := Lib.hid (St.start F w (Sep.one hA))
  clear hA
  have HB := Lib.hid (HA.out.alloc #[.bool b.null, .string (bsOf b.data)] 23)
  have hbl := blen_range b (by omega)
  have hb1 := hbl.1
  have hb2 := hbl.2
  clear hbl
  go_enter Tryz.func81, Tryz.ntmps81
  go_wp2_with fail
  refine (St.call0 HB.out (BLen_spec b)).mono ?_
  rintro e w2 ⟨v, N, rfl, ⟨rfl, rfl⟩, H2⟩
  have HC := Lib.hid H2
  clear H2
  go_wp2_with fail
  refine (St.call 1 HC.out rfl (VPutInt_spec g st (blen b) hb1 hb2 (by omega))).mono ?_
  rintro e w3 ⟨v, A', N, rfl, ⟨rfl, rfl, rfl⟩, H3⟩
  have d0 : w3.cell? ⟨w.heap.size, 0, none⟩ = some (.bool b.null) := heap_at (St.blk 0 H3 rfl) 0
  have d1 : w3.cell? ⟨w.heap.size, 1, none⟩ = some (.string (bsOf b.data)) := heap_at (St.blk 0 H3 rfl) 1
  have HD := Lib.hid H3
  clear H3
  go_wp2_with fail
  refine (St.call 1 HD.out rfl (BWrite_spec g _ b (by have := vputInt_len st (blen b); omega))).mono ?_
  rintro e w4 ⟨v, A', N, rfl, ⟨rfl, rfl, rfl⟩, H4⟩
  have HE := Lib.hid H4
  clear H4
  go_wp2_with fail
  go_end0
  exact ⟨_, _, _, rfl, ⟨rfl, rfl, rfl⟩, HE.out.drop_⟩
def bputText (st : List UInt8 × Int) (l : List UInt8) : List UInt8 × Int := bputFixed st ⟨false, l⟩ 2
set_option maxRecDepth 100000 in
theorem BPutText_spec (g : Nat) (st : List UInt8 × Int) (l : List UInt8) (hl : st.1.length + 8 + l.length ≤ 140737488355328) :
    Spec Tryz.prog 25 #[.pointer (some ⟨g, 0, none⟩), .string (bsOf l)] (OutR g st) (fun v A' N => v = .tuple #[] ∧ A' = OutR g (bputText st l) ∧ N = []) := by
  intro F w hA
  have HA := Lib.hid (St.start F w (Sep.one hA))
  clear hA
  go_enter Tryz.func25, Tryz.ntmps25
  go_wp2_with fail
  refine (St.call0 (HA).out (BOf_spec l)).mono ?_
  rintro e w1 ⟨v, N, rfl, ⟨rfl, rfl⟩, H1⟩
  try simp only [List.cons_append, List.nil_append, List.set_cons_zero, List.set_cons_succ, bsOf_list] at H1
  have HB := Lib.hid H1
  clear H1
  go_wp2_with fail
  refine (St.call 0 (HB).out rfl (BPutFixed_spec g st ⟨false, l⟩ 2 (by omega) (by omega) hl)).mono ?_
  rintro e w1 ⟨v, A', N, rfl, ⟨rfl, rfl, rfl⟩, H1⟩
  try simp only [List.cons_append, List.nil_append, List.set_cons_zero, List.set_cons_succ, bsOf_list] at H1
  have HC := Lib.hid H1
  clear H1
  go_wp2_with fail
  go_end0
  exact ⟨_, _, _, rfl, ⟨rfl, rfl, rfl⟩, HC.out⟩
def bputName (st : List UInt8 × Int) (l : List UInt8) : List UInt8 × Int := bputVaried st ⟨false, l⟩
set_option maxRecDepth 100000 in
theorem BPutName_spec (g : Nat) (st : List UInt8 × Int) (l : List UInt8) (hl : st.1.length + 10 + l.length ≤ 140737488355328) :
    Spec Tryz.prog 63 #[.pointer (some ⟨g, 0, none⟩), .string (bsOf l)] (OutR g st) (fun v A' N => v = .tuple #[] ∧ A' = OutR g (bputName st l) ∧ N = []) := by
  intro F w hA
  have HA := Lib.hid (St.start F w (Sep.one hA))
  clear hA
  go_enter Tryz.func63, Tryz.ntmps63
  go_wp2_with fail
  refine (St.call0 (HA).out (BOf_spec l)).mono ?_
  rintro e w1 ⟨v, N, rfl, ⟨rfl, rfl⟩, H1⟩
  try simp only [List.cons_append, List.nil_append, List.set_cons_zero, List.set_cons_succ, bsOf_list] at H1
  have HB := Lib.hid H1
  clear H1
  go_wp2_with fail
  refine (St.call 0 (HB).out rfl (BPutVaried_spec g st ⟨false, l⟩ hl)).mono ?_
  rintro e w1 ⟨v, A', N, rfl, ⟨rfl, rfl, rfl⟩, H1⟩
  try simp only [List.cons_append, List.nil_append, List.set_cons_zero, List.set_cons_succ, bsOf_list] at H1
  have HC := Lib.hid H1
  clear H1
  go_wp2_with fail
  go_end0
  exact ⟨_, _, _, rfl, ⟨rfl, rfl, rfl⟩, HC.out⟩
end Go.Proofs.YtlhgogjcaegehaaGreat.Sl
namespace Go.Proofs.YtlhgogjcaegehaaGreat.Sl
open Go.RowKit
set_option linter.unusedVariables false
def intE : Rd Int := ⟨fun _ _ cs n => cs = [.int .i64 n], fun h _ => h, fun h _ => h⟩
def boolE : Rd Bool := ⟨fun _ _ cs n => cs = [.bool n], fun h _ => h, fun h _ => h⟩
def strE : Rd (List UInt8) := ⟨fun _ _ cs l => cs = [.string (bsOf l)], fun h _ => h, fun h _ => h⟩
def Bl_rd : Rd Bl := ⟨fun _ _ cs x => cs = [.bool x.null, .string (bsOf x.data)], fun h _ => h, fun h _ => h⟩
structure Pfx where
  fBase : Int
  fLength : Int
  fLeader : Int
  fSum : Int
  fAttr : Int
  fLast : Int
  fFirst : Int
  fMax : Int
  fProducer : Int
  fEpoch : Int
  fSequence : Int
  fCount : Int
structure Hd where
  fKey : List UInt8
  fValue : Bl
def Hd_rd : Rd Hd where
  P := fun _ _ cs x => cs = [.string (bsOf x.fKey), .bool x.fValue.null, .string (bsOf x.fValue.data)]
  mono := fun h _ => h
  move := fun h _ => h
structure Rec where
  fTime : Int
  fOffset : Int
  fKey : Bl
  fValue : Bl
  fHeaders : List Hd
def Rec_rd : Rd Rec where
  P := fun w S cs x => ∃ (A0 : Option Addr) (c0 : Nat), cs = [.int .i64 x.fTime, .int .i64 x.fOffset, .bool x.fKey.null, .string (bsOf x.fKey.data), .bool x.fValue.null, .string (bsOf x.fValue.data), .slice A0 x.fHeaders.length c0] ∧ (sliceRd 3 Hd_rd).P w S [.slice A0 x.fHeaders.length c0] x.fHeaders
  mono := fun ⟨A0, c0, e, h0⟩ k => ⟨A0, c0, e, (sliceRd 3 Hd_rd).mono h0 k⟩
  move := fun ⟨A0, c0, e, h0⟩ k => ⟨A0, c0, e, (sliceRd 3 Hd_rd).move h0 k⟩
structure Top where
  fName : List UInt8
  fParts : List Int
def Top_rd : Rd Top where
  P := fun w S cs x => ∃ (A0 : Option Addr) (c0 : Nat), cs = [.string (bsOf x.fName), .slice A0 x.fParts.length c0] ∧ (sliceRd 1 intE).P w S [.slice A0 x.fParts.length c0] x.fParts
  mono := fun ⟨A0, c0, e, h0⟩ k => ⟨A0, c0, e, (sliceRd 1 intE).mono h0 k⟩
  move := fun ⟨A0, c0, e, h0⟩ k => ⟨A0, c0, e, (sliceRd 1 intE).move h0 k⟩
structure Val where
  fProducer : Int
  fEpoch : Int
  fTimeout : Int
  fState : Int
  fTopics : List Top
  fUpdated : Int
  fStarted : Int
structure Bat where
  fBase : Int
  fLeader : Int
  fAppend : Bool
  fTxn : Bool
  fControl : Bool
  fLast : Int
  fFirst : Int
  fMax : Int
  fProducer : Int
  fEpoch : Int
  fSequence : Int
  fRecords : List Rec
def Bat_rd : Rd Bat where
  P := fun w S cs x => ∃ (A0 : Option Addr) (c0 : Nat), cs = [.int .i64 x.fBase, .int .i64 x.fLeader, .bool x.fAppend, .bool x.fTxn, .bool x.fControl, .int .i64 x.fLast, .int .i64 x.fFirst, .int .i64 x.fMax, .int .i64 x.fProducer, .int .i64 x.fEpoch, .int .i64 x.fSequence, .slice A0 x.fRecords.length c0] ∧ (sliceRd 7 Rec_rd).P w S [.slice A0 x.fRecords.length c0] x.fRecords
  mono := fun ⟨A0, c0, e, h0⟩ k => ⟨A0, c0, e, (sliceRd 7 Rec_rd).mono h0 k⟩
  move := fun ⟨A0, c0, e, h0⟩ k => ⟨A0, c0, e, (sliceRd 7 Rec_rd).move h0 k⟩
structure MarkMark where
  fProducer : Int
  fEpoch : Int
  fCommit : Bool
  fTopics : List Top
  fCoordinator : Int
def MarkMark_rd : Rd MarkMark where
  P := fun w S cs x => ∃ (A0 : Option Addr) (c0 : Nat), cs = [.int .i64 x.fProducer, .int .i64 x.fEpoch, .bool x.fCommit, .slice A0 x.fTopics.length c0, .int .i64 x.fCoordinator] ∧ (sliceRd 2 Top_rd).P w S [.slice A0 x.fTopics.length c0] x.fTopics
  mono := fun ⟨A0, c0, e, h0⟩ k => ⟨A0, c0, e, (sliceRd 2 Top_rd).mono h0 k⟩
  move := fun ⟨A0, c0, e, h0⟩ k => ⟨A0, c0, e, (sliceRd 2 Top_rd).move h0 k⟩
structure ProducePart where
  fIndex : Int
  fBatches : List Bat
def ProducePart_rd : Rd ProducePart where
  P := fun w S cs x => ∃ (A0 : Option Addr) (c0 : Nat), cs = [.int .i64 x.fIndex, .slice A0 x.fBatches.length c0] ∧ (sliceRd 12 Bat_rd).P w S [.slice A0 x.fBatches.length c0] x.fBatches
  mono := fun ⟨A0, c0, e, h0⟩ k => ⟨A0, c0, e, (sliceRd 12 Bat_rd).mono h0 k⟩
  move := fun ⟨A0, c0, e, h0⟩ k => ⟨A0, c0, e, (sliceRd 12 Bat_rd).move h0 k⟩
structure ProduceTopic where
  fName : List UInt8
  fParts : List ProducePart
def ProduceTopic_rd : Rd ProduceTopic where
  P := fun w S cs x => ∃ (A0 : Option Addr) (c0 : Nat), cs = [.string (bsOf x.fName), .slice A0 x.fParts.length c0] ∧ (sliceRd 2 ProducePart_rd).P w S [.slice A0 x.fParts.length c0] x.fParts
  mono := fun ⟨A0, c0, e, h0⟩ k => ⟨A0, c0, e, (sliceRd 2 ProducePart_rd).mono h0 k⟩
  move := fun ⟨A0, c0, e, h0⟩ k => ⟨A0, c0, e, (sliceRd 2 ProducePart_rd).move h0 k⟩
structure ProduceRequest where
  fID : Bl
  fAcks : Int
  fTimeout : Int
  fTopics : List ProduceTopic
def ProduceRequest_rd : Rd ProduceRequest where
  P := fun w S cs x => ∃ (A0 : Option Addr) (c0 : Nat), cs = [.bool x.fID.null, .string (bsOf x.fID.data), .int .i64 x.fAcks, .int .i64 x.fTimeout, .slice A0 x.fTopics.length c0] ∧ (sliceRd 2 ProduceTopic_rd).P w S [.slice A0 x.fTopics.length c0] x.fTopics
  mono := fun ⟨A0, c0, e, h0⟩ k => ⟨A0, c0, e, (sliceRd 2 ProduceTopic_rd).mono h0 k⟩
  move := fun ⟨A0, c0, e, h0⟩ k => ⟨A0, c0, e, (sliceRd 2 ProduceTopic_rd).move h0 k⟩
structure R20Part where
  fIndex : Int
  fBatches : List Bat
def R20Part_rd : Rd R20Part where
  P := fun w S cs x => ∃ (A0 : Option Addr) (c0 : Nat), cs = [.int .i64 x.fIndex, .slice A0 x.fBatches.length c0] ∧ (sliceRd 12 Bat_rd).P w S [.slice A0 x.fBatches.length c0] x.fBatches
  mono := fun ⟨A0, c0, e, h0⟩ k => ⟨A0, c0, e, (sliceRd 12 Bat_rd).mono h0 k⟩
  move := fun ⟨A0, c0, e, h0⟩ k => ⟨A0, c0, e, (sliceRd 12 Bat_rd).move h0 k⟩
structure R20Topic where
  fName : List UInt8
  fParts : List R20Part
def R20Topic_rd : Rd R20Topic where
  P := fun w S cs x => ∃ (A0 : Option Addr) (c0 : Nat), cs = [.string (bsOf x.fName), .slice A0 x.fParts.length c0] ∧ (sliceRd 2 R20Part_rd).P w S [.slice A0 x.fParts.length c0] x.fParts
  mono := fun ⟨A0, c0, e, h0⟩ k => ⟨A0, c0, e, (sliceRd 2 R20Part_rd).mono h0 k⟩
  move := fun ⟨A0, c0, e, h0⟩ k => ⟨A0, c0, e, (sliceRd 2 R20Part_rd).move h0 k⟩
structure R20Request where
  fID : Bl
  fAcks : Int
  fTimeout : Int
  fTopics : List R20Topic
end Go.Proofs.YtlhgogjcaegehaaGreat.Sl
namespace Go.Proofs.YtlhgogjcaegehaaGreat.Sl
open Go.RowKit Go.Deep Go.ChangeShapes
set_option linter.unusedVariables false
def andRd {α : Type} (E : Rd α) (W : α → Prop) : Rd α := ⟨fun w S cs a => E.P w S cs a ∧ W a, fun h k => ⟨E.mono h.1 k, h.2⟩, fun h k => ⟨E.move h.1 k, h.2⟩⟩
section
variable {H : Type} (enc : TypeId × Value → H) (P : Program) {α β : Type}
def OpensW (t : TypeId) (E : Rd α) : Prop :=
  ∀ (w : World) (fuel : Nat) (cs : List Value) (x : DataW H × List MemPlace), DataW.trod enc P w 0 (fun _ => true) true fuel t cs = some x → (∀ m, m ∈ x.1.weights P t → m ≤ reachBytes) → ∃ a, E.P w (fun k => k < w.heap.size) cs a
def OpensWFs (off : Nat) (fs : List Field) (n : Nat) (E : Rd α) : Prop :=
  ∀ (w : World) (fuel : Nat) (cs : List Value) (xs : List (DataW H × List MemPlace)), cs.length = off + n → xs.length = fs.length →
    (∀ (i : Nat) (f : Field), fs[i]? = some f → DataW.trod enc P w 0 (fun _ => true) true fuel f.type ((cs.drop f.offset).take (P.cellsOf f.type)) = xs[i]?) →
    (∀ m, m ∈ DataW.weightsEach P (fs.map (·.type)) (xs.map (·.1)) → m ≤ reachBytes) → ∃ a, E.P w (fun k => k < w.heap.size) (cs.drop off) a
variable {enc P}
theorem opensW_weak {t : TypeId} {E : Rd α} {E' : Rd β} (f : α → β) (h : OpensW enc P t E) (hf : ∀ w S cs a, E.P w S cs a → E'.P w S cs (f a)) : OpensW enc P t E' := by
  intro w fuel cs x hx hw
  obtain ⟨a, ha⟩ := h w fuel cs x hx hw
  exact ⟨f a, hf _ _ _ _ ha⟩
theorem opensW_of {t : TypeId} {E : Rd α} {E' : Rd β} (f : α → β) (h : Opens enc P t E) (hf : ∀ w S cs a, E.P w S cs a → E'.P w S cs (f a)) : OpensW enc P t E' := by
  intro w fuel cs x hx hw
  obtain ⟨a, ha⟩ := h w fuel cs x hx
  exact ⟨f a, hf _ _ _ _ ha⟩
def wI (n : Int) : Prop := -9223372036854775808 ≤ n ∧ n ≤ 9223372036854775807
def wB (_ : Bool) : Prop := True
def wS (l : List UInt8) : Prop := l.length ≤ 140737488351232
def wL (W : α → Prop) (l : List α) : Prop := l.length ≤ 140737488351232 ∧ ∀ x, x ∈ l → W x
def wLb (bytes : Nat) (W : α → Prop) (l : List α) : Prop := l.length * bytes ≤ 140737488351232 ∧ ∀ x, x ∈ l → W x
theorem op_i64 {t : TypeId} (ht : P.underlying t = some (.int .i64)) : OpensW enc P t (andRd intE wI) := opensW_of id (opens_int ht) (fun w S cs a h => ⟨h.1, Go.bounds_i64 h.2⟩)
theorem op_bool {t : TypeId} (ht : P.underlying t = some .bool) : OpensW enc P t (andRd boolE wB) := opensW_of id (opens_bool ht) (fun w S cs a h => ⟨h, trivial⟩)
theorem op_str {t : TypeId} (ht : P.underlying t = some .string) : OpensW enc P t (andRd strE wS) := by
  intro w fuel cs x h hw
  obtain ⟨s, rfl, rfl, hs⟩ := DataW.trod_string ht h
  have := hw s.data.toList.length (by simp [DataW.weights])
  exact ⟨s.data.toList, by cases s; simp [strE, bsOf], this⟩
theorem slice_and {size : Nat} {E : Rd α} {W : α → Prop} {w : World} {S : Nat → Prop} {cs : List Value} {l : List α} (h : (sliceRd size (andRd E W)).P w S cs l) : (sliceRd size E).P w S cs l ∧ ∀ x, x ∈ l → W x := by
  rcases h with ⟨h, rfl⟩ | ⟨a, cap, h1, h2, h3, h4, h5⟩
  · exact ⟨.inl ⟨h, rfl⟩, fun x hx => by simp at hx⟩
  · refine ⟨.inr ⟨a, cap, h1, h2, h3, h4, fun i x hx => ?_⟩, fun x hx => ?_⟩
    · obtain ⟨cs, k1, k2, k3⟩ := h5 i x hx
      exact ⟨cs, k1, k2, k3.1⟩
    · obtain ⟨i, hi⟩ := List.getElem?_of_mem hx
      obtain ⟨cs, k1, k2, k3⟩ := h5 i x hi
      exact k3.2
theorem weightsAll_mem {e : TypeId} {l : List (DataW H)} {d : DataW H} {m : Nat} (hd : d ∈ l) (hm : m ∈ d.weights P e) : m ∈ DataW.weightsAll P e l := by
  induction l with
  | nil => simp at hd
  | cons x l ih =>
    simp only [DataW.weightsAll, List.mem_append]
    rcases List.mem_cons.1 hd with rfl | h
    · exact .inl hm
    · exact .inr (ih h)
theorem op_slice {t e : TypeId} {E : Rd α} {W : α → Prop} (size bytes : Nat) (ht : P.underlying t = some (.slice e)) (hc : P.cellsOf e = size) (hb : P.bytesOf e = bytes) (hp : 0 < size) (hpb : 0 < bytes) (he : OpensW enc P e (andRd E W)) : OpensW enc P t (andRd (sliceRd size E) (wL W)) := by
  intro w fuel cs x h hw
  rcases open_slice ht h with ⟨rfl, _⟩ | ⟨a, len, cap, m, n, D, Pl, rfl, _, hl, hm, hmm, rfl, hx⟩
  · exact ⟨[], .inl ⟨rfl, rfl⟩, by simp, fun x hx => by simp at hx⟩
  have hlm : len ≤ m := by rw [hmm]; split <;> omega
  have hlen : len ≤ 140737488351232 := by
    have h1 := hw ((((List.range len).map D).length + ((List.range (m - len)).map fun j => D (len + j)).length) * P.bytesOf e) (by simp only [DataW.weights, ht]; exact List.mem_cons_self)
    rw [hb] at h1
    simp only [List.length_map, List.length_range] at h1
    have h2 : (len + (m - len)) * 1 ≤ (len + (m - len)) * bytes := Nat.mul_le_mul_left _ hpb
    have h3 : reachBytes = 140737488351232 := rfl
    omega
  have hwe : ∀ i, i < len → ∀ z, z ∈ (D i).weights P e → z ≤ reachBytes := by
    intro i hi z hz
    apply hw
    simp only [DataW.weights, ht]
    exact List.mem_cons_of_mem _ (List.mem_append.2 (.inl (weightsAll_mem (d := D i) (List.mem_map.2 ⟨i, List.mem_range.2 hi, rfl⟩) hz)))
  rw [hc] at hx
  have each : ∀ i : Fin len, ∃ y : α, ∃ cs, cs.length = size ∧ (∀ j, j < size → w.cell? (a.add (i.val * size + j)) = cs[j]?) ∧ (andRd E W).P w (fun k => k < w.heap.size) cs y := by
    intro i
    obtain ⟨cs', h1, h2⟩ := hx i.val (by have := i.isLt; omega)
    obtain ⟨_, h3, h4⟩ := World.cells?_some h1
    obtain ⟨y, hy⟩ := he _ _ _ _ h2 (hwe i.val i.isLt)
    refine ⟨y, cs', h3, fun j hj => ?_, hy⟩
    rw [← h4 j hj, add_add]
  obtain ⟨f, hf⟩ := Classical.axiomOfChoice each
  have hs : (sliceRd size (andRd E W)).P w (fun k => k < w.heap.size) [.slice (some a) len cap] ((List.finRange len).map f) := by
    refine .inr ⟨a, cap, by simp, by simpa using hl, hm, fun hz => ?_, ?_⟩
    · simp at hz
      obtain ⟨cs', k1, k2, k3⟩ := hf ⟨0, by omega⟩
      have := k2 0 hp
      rw [List.getElem?_eq_getElem (by omega)] at this
      simp only [World.cell?] at this
      rw [block_add] at this
      rcases Nat.lt_or_ge a.block w.heap.size with h | h
      · exact h
      · rw [Array.getElem?_eq_none h] at this
        simp at this
    · intro i x hx
      rw [List.getElem?_map, Option.map_eq_some_iff] at hx
      obtain ⟨j, hj, rfl⟩ := hx
      have e : j.val = i := by
        obtain ⟨h1, h2⟩ := List.getElem?_eq_some_iff.1 hj
        rw [← h2]
        simp
      rw [← e]
      exact hf j
  obtain ⟨k1, k2⟩ := slice_and hs
  exact ⟨_, k1, by simpa using hlen, k2⟩
theorem op_sliceB {t e : TypeId} {E : Rd α} {W : α → Prop} (size bytes : Nat) (ht : P.underlying t = some (.slice e)) (hc : P.cellsOf e = size) (hb : P.bytesOf e = bytes) (hp : 0 < size) (hpb : 0 < bytes) (he : OpensW enc P e (andRd E W)) : OpensW enc P t (andRd (sliceRd size E) (wLb bytes W)) := by
  intro w fuel cs x h hw
  rcases open_slice ht h with ⟨rfl, _⟩ | ⟨a, len, cap, m, n, D, Pl, rfl, _, hl, hm, hmm, rfl, hx⟩
  · exact ⟨[], .inl ⟨rfl, rfl⟩, by rw [List.length_nil, Nat.zero_mul]; exact Nat.zero_le _, fun x hx => by simp at hx⟩
  have hlm : len ≤ m := by rw [hmm]; split <;> omega
  have hlen : len * bytes ≤ 140737488351232 := by
    have h1 := hw ((((List.range len).map D).length + ((List.range (m - len)).map fun j => D (len + j)).length) * P.bytesOf e) (by simp only [DataW.weights, ht]; exact List.mem_cons_self)
    rw [hb] at h1
    simp only [List.length_map, List.length_range] at h1
    have h2 : len * bytes ≤ (len + (m - len)) * bytes := Nat.mul_le_mul_right _ (by omega)
    have h3 : reachBytes = 140737488351232 := rfl
    omega
  have hwe : ∀ i, i < len → ∀ z, z ∈ (D i).weights P e → z ≤ reachBytes := by
    intro i hi z hz
    apply hw
    simp only [DataW.weights, ht]
    exact List.mem_cons_of_mem _ (List.mem_append.2 (.inl (weightsAll_mem (d := D i) (List.mem_map.2 ⟨i, List.mem_range.2 hi, rfl⟩) hz)))
  rw [hc] at hx
  have each : ∀ i : Fin len, ∃ y : α, ∃ cs, cs.length = size ∧ (∀ j, j < size → w.cell? (a.add (i.val * size + j)) = cs[j]?) ∧ (andRd E W).P w (fun k => k < w.heap.size) cs y := by
    intro i
    obtain ⟨cs', h1, h2⟩ := hx i.val (by have := i.isLt; omega)
    obtain ⟨_, h3, h4⟩ := World.cells?_some h1
    obtain ⟨y, hy⟩ := he _ _ _ _ h2 (hwe i.val i.isLt)
    refine ⟨y, cs', h3, fun j hj => ?_, hy⟩
    rw [← h4 j hj, add_add]
  obtain ⟨f, hf⟩ := Classical.axiomOfChoice each
  have hs : (sliceRd size (andRd E W)).P w (fun k => k < w.heap.size) [.slice (some a) len cap] ((List.finRange len).map f) := by
    refine .inr ⟨a, cap, by simp, by simpa using hl, hm, fun hz => ?_, ?_⟩
    · simp at hz
      obtain ⟨cs', k1, k2, k3⟩ := hf ⟨0, by omega⟩
      have := k2 0 hp
      rw [List.getElem?_eq_getElem (by omega)] at this
      simp only [World.cell?] at this
      rw [block_add] at this
      rcases Nat.lt_or_ge a.block w.heap.size with h | h
      · exact h
      · rw [Array.getElem?_eq_none h] at this
        simp at this
    · intro i x hx
      rw [List.getElem?_map, Option.map_eq_some_iff] at hx
      obtain ⟨j, hj, rfl⟩ := hx
      have e : j.val = i := by
        obtain ⟨h1, h2⟩ := List.getElem?_eq_some_iff.1 hj
        rw [← h2]
        simp
      rw [← e]
      exact hf j
  obtain ⟨k1, k2⟩ := slice_and hs
  exact ⟨_, k1, by simpa using hlen, k2⟩
theorem opensWFs_nil (off : Nat) : OpensWFs enc P off [] 0 unitRd := by
  intro w fuel cs xs hl _ _ _
  exact ⟨(), List.drop_of_length_le (by omega)⟩
theorem opensWFs_cons {off n : Nat} (m : Nat) {f : Field} {fs : List Field} {A : Rd α} {B : Rd β} (ho : f.offset = off) (hc : P.cellsOf f.type = m) (hA : OpensW enc P f.type A) (hB : OpensWFs enc P (off + m) fs n B) :
    OpensWFs enc P off (f :: fs) (m + n) (pairRd A B) := by
  intro w fuel cs xs hl hx h hw
  cases xs with
  | nil => simp at hx
  | cons x xs =>
    have h0 := h 0 f rfl
    rw [ho, hc] at h0
    simp only [List.map_cons, DataW.weightsEach, List.mem_append] at hw
    obtain ⟨a, ha⟩ := hA _ _ _ _ h0 (fun m hm => hw m (.inl hm))
    obtain ⟨b, hb⟩ := hB w fuel cs xs (by omega) (by simpa using hx) (fun i f' hf => by simpa using h (i + 1) f' (by simpa using hf)) (fun m hm => hw m (.inr hm))
    refine ⟨(a, b), (cs.drop off).take m, cs.drop (off + m), ?_, ha, hb⟩
    rw [← List.drop_drop, List.take_append_drop]
theorem opensW_struct {t : TypeId} {fs : Array Field} {n : Nat} {E : Rd α} (ht : P.underlying t = some (.struct fs)) (hc : P.cellsOf t = n) (h : OpensWFs enc P 0 fs.toList n E) : OpensW enc P t E := by
  intro w fuel cs x hx hw
  obtain ⟨xs, k, rfl, rfl, hl, hxl, hf⟩ := DataW.trod_struct ht hx
  simp only [DataW.weights, ht] at hw
  obtain ⟨a, ha⟩ := h w k cs xs (by omega) (by simpa using hxl) (fun i f hi => hf i f (by simpa using hi)) hw
  exact ⟨a, by simpa using ha⟩
theorem weights_in : ∀ {ts : List TypeId} {ds : List (DataW H)} (j : Nat) {t : TypeId} {d : DataW H} {m : Nat}, ts[j]? = some t → ds[j]? = some d → m ∈ d.weights P t → m ∈ DataW.weightsEach P ts ds
  | [], _, j, _, _, _, ht, _, _ => by simp at ht
  | _ :: _, [], j, _, _, _, _, hd, _ => by simp at hd
  | t :: ts, d :: ds, 0, _, _, _, ht, hd, hm => by
    obtain rfl : t = _ := by simpa using ht
    obtain rfl : d = _ := by simpa using hd
    simp only [DataW.weightsEach, List.mem_append]
    exact .inl hm
  | t :: ts, d :: ds, j + 1, _, _, _, ht, hd, hm => by
    simp only [DataW.weightsEach, List.mem_append]
    exact .inr (weights_in j (by simpa using ht) (by simpa using hd) hm)
theorem slice_cells {size : Nat} {E : Rd α} {w : World} {S : Nat → Prop} {cs : List Value} {l : List α} (h : (sliceRd size E).P w S cs l) : ∃ A c, cs = [.slice A l.length c] := by
  rcases h with ⟨h, rfl⟩ | ⟨a, cap, h, _⟩
  · exact ⟨none, 0, h⟩
  · exact ⟨_, _, h⟩
theorem opens_arg1 {t e : TypeId} {E : Rd α} {r : Reach} {b0 : Nat} {w : World} {v : Value} {d : DataW H} {p : List MemPlace} (ht : P.underlying t = some (.slice e)) (hval : Value.okWide P w r b0 t v) (h : OpensW enc P t E)
    (hv : DataW.Trod enc P w 0 (fun _ => true) true t v d p) (hw : ∀ m, m ∈ d.weights P t → m ≤ reachBytes) : ∃ a, E.P w (fun k => k < w.heap.size) [v] a := by
  obtain ⟨a0, len, cap, rfl⟩ := Go.WideShapes.okWide_slice ht hval
  obtain ⟨fuel, hf⟩ := hv
  exact h _ _ _ _ hf hw
theorem opens_arg2 {t : TypeId} {fs : Array Field} {E : Rd α} {r : Reach} {b0 : Nat} {w : World} {v : Value} {d : DataW H} {p : List MemPlace} (ht : P.underlying t = some (.struct fs)) (hval : Value.okWide P w r b0 t v) (h : OpensW enc P t E)
    (hv : DataW.Trod enc P w 0 (fun _ => true) true t v d p) (hw : ∀ m, m ∈ d.weights P t → m ≤ reachBytes) : ∃ a cs, v = .agg cs ∧ E.P w (fun k => k < w.heap.size) cs.toList a := by
  obtain ⟨cs, rfl, _⟩ := Go.WideShapes.okWide_struct ht hval
  obtain ⟨fuel, hf⟩ := hv
  obtain ⟨a, ha⟩ := h _ _ _ _ hf hw
  exact ⟨a, cs, rfl, ha⟩
theorem RX.reads_all {E : Rd α} {w : World} {cs : List Value} {a : α} (h : E.P w (fun k => k < w.heap.size) cs a) : (RX.of E cs a).reads w (fun _ => False) := ⟨_, h, fun k hk => ⟨fun h => h, hk⟩⟩
end
end Go.Proofs.YtlhgogjcaegehaaGreat.Sl
namespace Go.Proofs.YtlhgogjcaegehaaGreat.Sl
open Go.RowKit
set_option linter.unusedVariables false
def wf_Bl (x : Bl) : Prop := wB x.null ∧ wS x.data
def wf_Hd (x : Hd) : Prop := wS x.fKey ∧ wf_Bl x.fValue
def wf_Rec (x : Rec) : Prop := wI x.fTime ∧ wI x.fOffset ∧ wf_Bl x.fKey ∧ wf_Bl x.fValue ∧ (wL wf_Hd) x.fHeaders
def wf_Top (x : Top) : Prop := wS x.fName ∧ (wL wI) x.fParts
def wf_Val (x : Val) : Prop := wI x.fProducer ∧ wI x.fEpoch ∧ wI x.fTimeout ∧ wI x.fState ∧ (wL wf_Top) x.fTopics ∧ wI x.fUpdated ∧ wI x.fStarted
def wf_Bat (x : Bat) : Prop := wI x.fBase ∧ wI x.fLeader ∧ wB x.fAppend ∧ wB x.fTxn ∧ wB x.fControl ∧ wI x.fLast ∧ wI x.fFirst ∧ wI x.fMax ∧ wI x.fProducer ∧ wI x.fEpoch ∧ wI x.fSequence ∧ (wL wf_Rec) x.fRecords
def wf_MarkMark (x : MarkMark) : Prop := wI x.fProducer ∧ wI x.fEpoch ∧ wB x.fCommit ∧ (wL wf_Top) x.fTopics ∧ wI x.fCoordinator
def wf_ProducePart (x : ProducePart) : Prop := wI x.fIndex ∧ (wL wf_Bat) x.fBatches
def wf_ProduceTopic (x : ProduceTopic) : Prop := wS x.fName ∧ (wLb 32 wf_ProducePart) x.fParts
def wf_ProduceRequest (x : ProduceRequest) : Prop := wf_Bl x.fID ∧ wI x.fAcks ∧ wI x.fTimeout ∧ (wLb 40 wf_ProduceTopic) x.fTopics
end Go.Proofs.YtlhgogjcaegehaaGreat.Sl
namespace Go.Proofs.YtlhgogjcaegehaaGreat.Sl
open Go.RowKit
set_option linter.unusedVariables false
set_option linter.unusedSimpArgs false
attribute [local go_sem] bsOf_toList bsOf_size
@[go_sem] def strErr (x : List UInt8 × Int) : Value := .tuple #[.string (bsOf x.1), .int .i64 x.2]
def otx (st : List UInt8 × Int) : List UInt8 × Int := if st.2 = 0 then (st.1, 0) else ([], st.2)
theorem otext_strErr (st : List UInt8 × Int) : otext st = strErr (otx st) := by unfold otext otx; split <;> rfl
theorem ifail_err {st : I} (h : st.err ≠ 0) (e : Int) : ifail st e = st := by simp [ifail, h]
theorem itake_err {st : I} (h : st.err ≠ 0) (n : Int) : itake st n = ([], st) := by simp [itake, h]
theorem iint_err {st : I} (h : st.err ≠ 0) (n : Int) : iint st n = (0, st) := by
  unfold iint
  split
  · rw [itake_err h]; rfl
  · rw [ifail_err h]
theorem iclose_err {st : I} (h : st.err ≠ 0) : iclose st = st := by unfold iclose; split; rfl; exact ifail_err h 2
theorem itake_ok (l : List UInt8) (p : Nat) (n : Nat) (h : n ≤ l.length) : itake ⟨l, p, 0⟩ n = (l.take n, ⟨l.drop n, p + n, 0⟩) := by
  unfold itake
  rw [if_neg (by simp), if_neg (by omega), if_neg (by simp only; omega)]
  simp
theorem itake_short (l : List UInt8) (p : Nat) (n : Int) (h : (l.length : Int) < n) : itake ⟨l, p, 0⟩ n = ([], ⟨l, p, 1⟩) := by
  unfold itake
  rw [if_neg (by simp), if_neg (by omega), if_pos (by simp only; omega)]
theorem iint_ok (l : List UInt8) (p : Nat) (n : Nat) (h1 : 1 ≤ n) (h8 : n ≤ 8) (h : n ≤ l.length) : iint ⟨l, p, 0⟩ n = (beInt (l.take n), ⟨l.drop n, p + n, 0⟩) := by
  unfold iint
  rw [if_pos (by omega), itake_ok l p n h]
theorem iint_short (l : List UInt8) (p : Nat) (n : Int) (h1 : 1 ≤ n) (h8 : n ≤ 8) (h : (l.length : Int) < n) : iint ⟨l, p, 0⟩ n = (0, ⟨l, p, 1⟩) := by
  unfold iint
  rw [if_pos (by omega), itake_short l p n h]
  rfl
def kright (l : List UInt8) : Bool := !l.isEmpty && decide ((l.length : Int) ≤ 32767)
set_option maxRecDepth 100000 in
theorem KRight_any (l : List UInt8) (w : World) : Calls Tryz.prog 46 #[.string (bsOf l)] w fun e w' => e = .returned (.bool (kright l)) ∧ w = w' := by
  cases l with
  | nil =>
    go_enter Tryz.func46, Tryz.ntmps46
    go_wp2_with fail
    go_ret
    exact ⟨ret_bool (by simp [kright]), rfl⟩
  | cons c l =>
    go_enter Tryz.func46, Tryz.ntmps46
    go_wp2_with fail
    go_ret
    exact ⟨ret_bool (by simp [kright]), rfl⟩
end Go.Proofs.YtlhgogjcaegehaaGreat.Sl
namespace Go.Proofs.YtlhgogjcaegehaaGreat.Sl
open Go.RowKit
set_option linter.unusedVariables false
set_option linter.unusedSimpArgs false
theorem OPutL_spec (b : Nat) (st : List UInt8 × Int) (s : List UInt8) (hl : st.1.length + s.length ≤ 140737488355328) :
    Spec Tryz.prog 38 #[.pointer (some ⟨b, 0, none⟩), .string (bsOf s)] (OutR b st) (fun v A' N => v = .tuple #[] ∧ A' = OutR b (oput st s) ∧ N = []) := by
  have h := Put_spec b st (bsOf s) (by rw [bsOf_size]; exact hl)
  rwa [bsOf_list] at h
theorem OTextT_spec (b : Nat) (st : List UInt8 × Int) : Spec Tryz.prog 11 #[.pointer (some ⟨b, 0, none⟩)] (OutR b st) (fun v A' N => v = .tuple #[.string (bsOf (otx st).1), .int .i64 (otx st).2] ∧ A' = OutR b st ∧ N = []) := by
  have h := Text_spec b st
  rwa [otext_strErr] at h
def gOFail (st : List UInt8 × Int) (e : Int) : Option (List UInt8 × Int) := some (ofail st e)
theorem gOFail_eq (st : List UInt8 × Int) (e : Int) : gOFail st e = some (ofail st e) := rfl
theorem gOFail_spec (g : Nat) (st : List UInt8 × Int) (e : Int) (r : List UInt8 × Int) (h : gOFail st e = some r) : SpecX Tryz.prog 22 #[.pointer (some ⟨g, 0, none⟩), .int .i64 e] .triv (OutR g st) (fun v A' N => v = .tuple #[] ∧ A' = OutR g r ∧ N = []) := by
  unfold gOFail at h
  obtain rfl := Option.some.inj h
  exact SpecX.of_spec (Fail_spec g st e)
def gOPut (st : List UInt8 × Int) (s : List UInt8) : Option (List UInt8 × Int) := if st.1.length + s.length ≤ 140737488355328 then some (oput st s) else none
theorem gOPut_eq (st : List UInt8 × Int) (s : List UInt8) (h : st.1.length + s.length ≤ 140737488355328) : gOPut st s = some (oput st s) := if_pos h
theorem gOPut_spec (g : Nat) (st : List UInt8 × Int) (s : List UInt8) (r : List UInt8 × Int) (h : gOPut st s = some r) : SpecX Tryz.prog 38 #[.pointer (some ⟨g, 0, none⟩), .string (bsOf s)] .triv (OutR g st) (fun v A' N => v = .tuple #[] ∧ A' = OutR g r ∧ N = []) := by
  unfold gOPut at h
  split at h
  · rename_i h1
    obtain rfl := Option.some.inj h
    exact SpecX.of_spec (OPutL_spec g st s h1)
  · simp at h
def gOByte (st : List UInt8 × Int) (c : Int) : Option (List UInt8 × Int) := if 0 ≤ c ∧ c < 256 ∧ st.1.length + 1 ≤ 140737488355328 then some (oput st [UInt8.ofNat c.toNat]) else none
theorem gOByte_eq (st : List UInt8 × Int) (c : Int) (h : 0 ≤ c ∧ c < 256 ∧ st.1.length + 1 ≤ 140737488355328) : gOByte st c = some (oput st [UInt8.ofNat c.toNat]) := if_pos h
theorem gOByte_spec (g : Nat) (st : List UInt8 × Int) (c : Int) (r : List UInt8 × Int) (h : gOByte st c = some r) : SpecX Tryz.prog 51 #[.pointer (some ⟨g, 0, none⟩), .int .u8 c] .triv (OutR g st) (fun v A' N => v = .tuple #[] ∧ A' = OutR g r ∧ N = []) := by
  unfold gOByte at h
  split at h
  · rename_i h1
    obtain rfl := Option.some.inj h
    exact SpecX.of_spec (ByteI_spec g st c h1.1 h1.2.1 h1.2.2)
  · simp at h
def gOText (st : List UInt8 × Int)  : Option (List UInt8 × Int × (List UInt8 × Int)) := some ((otx st).1, (otx st).2, st)
theorem gOText_eq (st : List UInt8 × Int)  : gOText st  = some ((otx st).1, (otx st).2, st) := rfl
theorem gOText_spec (g : Nat) (st : List UInt8 × Int)  (r : List UInt8 × Int × (List UInt8 × Int)) (h : gOText st  = some r) : SpecX Tryz.prog 11 #[.pointer (some ⟨g, 0, none⟩)] .triv (OutR g st) (fun v A' N => v = .tuple #[.string (bsOf r.1), .int .i64 r.2.1] ∧ A' = OutR g r.2.2 ∧ N = []) := by
  unfold gOText at h
  obtain rfl := Option.some.inj h
  exact SpecX.of_spec (OTextT_spec g st)
def gOInt (st : List UInt8 × Int) (n : Int) (size : Int) : Option (List UInt8 × Int) := if (-9223372036854775808 ≤ n ∧ n ≤ 9223372036854775807) ∧ st.1.length + 8 ≤ 140737488355328 then some (oint st n size) else none
theorem gOInt_eq (st : List UInt8 × Int) (n : Int) (size : Int) (h : (-9223372036854775808 ≤ n ∧ n ≤ 9223372036854775807) ∧ st.1.length + 8 ≤ 140737488355328) : gOInt st n size = some (oint st n size) := if_pos h
theorem gOInt_spec (g : Nat) (st : List UInt8 × Int) (n : Int) (size : Int) (r : List UInt8 × Int) (h : gOInt st n size = some r) : SpecX Tryz.prog 24 #[.pointer (some ⟨g, 0, none⟩), .int .i64 n, .int .i64 size] .triv (OutR g st) (fun v A' N => v = .tuple #[] ∧ A' = OutR g r ∧ N = []) := by
  unfold gOInt at h
  split at h
  · rename_i h1
    obtain rfl := Option.some.inj h
    exact SpecX.of_spec (OutInt_spec g st n size h1.1.1 h1.1.2 h1.2)
  · simp at h
def gFits  (n : Int) (size : Int) : Option (Bool) := if (-9223372036854775808 ≤ n ∧ n ≤ 9223372036854775807) then some (fits n size) else none
theorem gFits_eq  (n : Int) (size : Int) (h : (-9223372036854775808 ≤ n ∧ n ≤ 9223372036854775807)) : gFits  n size = some (fits n size) := if_pos h
theorem gFits_spec (n : Int) (size : Int) (r : Bool) (h : gFits  n size = some r) (w : World) : Calls Tryz.prog 40 #[.int .i64 n, .int .i64 size] w fun e w' => e = .returned (.bool r) ∧ w = w' := by
  unfold gFits at h
  split at h
  · rename_i h1
    obtain rfl := Option.some.inj h
    exact Fits_any n size w h1.1 h1.2
  · simp at h
def gNew  (s : List UInt8) : Option (I) := if s.length ≤ 9223372036854775807 then some (⟨s, 0, 0⟩ : I) else none
theorem gNew_eq  (s : List UInt8) (h : s.length ≤ 9223372036854775807) : gNew  s = some (⟨s, 0, 0⟩ : I) := if_pos h
theorem gNew_spec (s : List UInt8) (r : I) (h : gNew  s = some r) : SpecX Tryz.prog 90 #[.string (bsOf s)] .triv EmpR (fun v A' N => ∃ g, v = .pointer (some ⟨g, 0, none⟩) ∧ A' = EmpR ∧ N = [InR g r]) := by
  unfold gNew at h
  split at h
  · rename_i h1
    obtain rfl := Option.some.inj h
    have k := SpecX.of_spec0 (X := .triv) (New_spec (bsOf s) (by rw [bsOf_size]; omega))
    intro F w hA hX
    refine (k F w hA hX).mono ?_
    rintro e w' ⟨v, A', Ns, rfl, ⟨rfl, b, rfl, rfl⟩, hst⟩
    rw [bsOf_list] at hst
    exact ⟨_, _, _, rfl, ⟨b, rfl, rfl, rfl⟩, hst⟩
  · simp at h
def gIFail (st : I) (e : Int) : Option (I) := some (ifail st e)
theorem gIFail_eq (st : I) (e : Int) : gIFail st e = some (ifail st e) := rfl
theorem gIFail_spec (g : Nat) (st : I) (e : Int) (r : I) (h : gIFail st e = some r) : SpecX Tryz.prog 93 #[.pointer (some ⟨g, 0, none⟩), .int .i64 e] .triv (InR g st) (fun v A' N => v = .tuple #[] ∧ A' = InR g r ∧ N = []) := by
  unfold gIFail at h
  obtain rfl := Option.some.inj h
  exact SpecX.of_spec (IFail_spec g st e)
def gInt (st : I) (size : Int) : Option (Int × I) := some ((iint st size).1, (iint st size).2)
theorem gInt_eq (st : I) (size : Int) : gInt st size = some ((iint st size).1, (iint st size).2) := rfl
theorem gInt_spec (g : Nat) (st : I) (size : Int) (r : Int × I) (h : gInt st size = some r) : SpecX Tryz.prog 92 #[.pointer (some ⟨g, 0, none⟩), .int .i64 size] .triv (InR g st) (fun v A' N => v = .int .i64 r.1 ∧ A' = InR g r.2 ∧ N = []) := by
  unfold gInt at h
  obtain rfl := Option.some.inj h
  exact SpecX.of_spec (IInt_spec g st size)
def gClose (st : I)  : Option (Int × I) := some ((iclose st).err, iclose st)
theorem gClose_eq (st : I)  : gClose st  = some ((iclose st).err, iclose st) := rfl
theorem gClose_spec (g : Nat) (st : I)  (r : Int × I) (h : gClose st  = some r) : SpecX Tryz.prog 94 #[.pointer (some ⟨g, 0, none⟩)] .triv (InR g st) (fun v A' N => v = .int .i64 r.1 ∧ A' = InR g r.2 ∧ N = []) := by
  unfold gClose at h
  obtain rfl := Option.some.inj h
  exact SpecX.of_spec (Close_spec g st)
def gPutLong (st : List UInt8 × Int) (n : Int) : Option (List UInt8 × Int) := if (-9223372036854775808 ≤ n ∧ n ≤ 9223372036854775807) ∧ st.1.length + 10 ≤ 140737488355328 then some (oput st (vput (vfold n))) else none
theorem gPutLong_eq (st : List UInt8 × Int) (n : Int) (h : (-9223372036854775808 ≤ n ∧ n ≤ 9223372036854775807) ∧ st.1.length + 10 ≤ 140737488355328) : gPutLong st n = some (oput st (vput (vfold n))) := if_pos h
theorem gPutLong_spec (g : Nat) (st : List UInt8 × Int) (n : Int) (r : List UInt8 × Int) (h : gPutLong st n = some r) : SpecX Tryz.prog 79 #[.pointer (some ⟨g, 0, none⟩), .int .i64 n] .triv (OutR g st) (fun v A' N => v = .tuple #[] ∧ A' = OutR g r ∧ N = []) := by
  unfold gPutLong at h
  split at h
  · rename_i h1
    obtain rfl := Option.some.inj h
    exact SpecX.of_spec (VPutLong_spec g st n h1.1.1 h1.1.2 h1.2)
  · simp at h
def gPutInt (st : List UInt8 × Int) (n : Int) : Option (List UInt8 × Int) := if (-9223372036854775808 ≤ n ∧ n ≤ 9223372036854775807) ∧ st.1.length + 10 ≤ 140737488355328 then some (vputInt st n) else none
theorem gPutInt_eq (st : List UInt8 × Int) (n : Int) (h : (-9223372036854775808 ≤ n ∧ n ≤ 9223372036854775807) ∧ st.1.length + 10 ≤ 140737488355328) : gPutInt st n = some (vputInt st n) := if_pos h
theorem gPutInt_spec (g : Nat) (st : List UInt8 × Int) (n : Int) (r : List UInt8 × Int) (h : gPutInt st n = some r) : SpecX Tryz.prog 80 #[.pointer (some ⟨g, 0, none⟩), .int .i64 n] .triv (OutR g st) (fun v A' N => v = .tuple #[] ∧ A' = OutR g r ∧ N = []) := by
  unfold gPutInt at h
  split at h
  · rename_i h1
    obtain rfl := Option.some.inj h
    exact SpecX.of_spec (VPutInt_spec g st n h1.1.1 h1.1.2 h1.2)
  · simp at h
def gRInt  (s : List UInt8) : Option (Int) := if s.length ≤ 8 then some (beInt s) else none
theorem gRInt_eq  (s : List UInt8) (h : s.length ≤ 8) : gRInt  s = some (beInt s) := if_pos h
theorem gRInt_spec (s : List UInt8) (r : Int) (h : gRInt  s = some r) (w : World) : Calls Tryz.prog 99 #[.string (bsOf s)] w fun e w' => e = .returned (.int .i64 r) ∧ w = w' := by
  unfold gRInt at h
  split at h
  · rename_i h1
    obtain rfl := Option.some.inj h
    exact RInt_any s h1 w
  · simp at h
def gOf  (s : List UInt8) : Option (Bl) := some (⟨false, s⟩ : Bl)
theorem gOf_eq  (s : List UInt8) : gOf  s = some (⟨false, s⟩ : Bl) := rfl
theorem gOf_spec (s : List UInt8) (r : Bl) (h : gOf  s = some r) : SpecX Tryz.prog 26 #[.string (bsOf s)] .triv EmpR (fun v A' N => v = .agg #[.bool r.null, .string (bsOf r.data)] ∧ A' = EmpR ∧ N = []) := by
  unfold gOf at h
  obtain rfl := Option.some.inj h
  exact SpecX.of_spec0_2 (BOf_spec s)
def gRight  (b : Bl) : Option (Bool) := some (bright b)
theorem gRight_eq  (b : Bl) : gRight  b = some (bright b) := rfl
theorem gRight_spec (b : Bl) (r : Bool) (h : gRight  b = some r) : SpecX Tryz.prog 45 #[.agg #[.bool b.null, .string (bsOf b.data)]] .triv EmpR (fun v A' N => v = .bool r ∧ A' = EmpR ∧ N = []) := by
  unfold gRight at h
  obtain rfl := Option.some.inj h
  exact SpecX.of_spec0_2 (BRight_spec b)
def gPutFixed (st : List UInt8 × Int) (b : Bl) (size : Int) : Option (List UInt8 × Int) := if (-9223372036854775808 ≤ size ∧ size ≤ 9223372036854775807) ∧ st.1.length + 8 + b.data.length ≤ 140737488355328 then some (bputFixed st b size) else none
theorem gPutFixed_eq (st : List UInt8 × Int) (b : Bl) (size : Int) (h : (-9223372036854775808 ≤ size ∧ size ≤ 9223372036854775807) ∧ st.1.length + 8 + b.data.length ≤ 140737488355328) : gPutFixed st b size = some (bputFixed st b size) := if_pos h
theorem gPutFixed_spec (g : Nat) (st : List UInt8 × Int) (b : Bl) (size : Int) (r : List UInt8 × Int) (h : gPutFixed st b size = some r) : SpecX Tryz.prog 23 #[.pointer (some ⟨g, 0, none⟩), .agg #[.bool b.null, .string (bsOf b.data)], .int .i64 size] .triv (OutR g st) (fun v A' N => v = .tuple #[] ∧ A' = OutR g r ∧ N = []) := by
  unfold gPutFixed at h
  split at h
  · rename_i h1
    obtain rfl := Option.some.inj h
    exact SpecX.of_spec (BPutFixed_spec g st b size h1.1.1 h1.1.2 h1.2)
  · simp at h
def gPutVaried (st : List UInt8 × Int) (b : Bl) : Option (List UInt8 × Int) := if st.1.length + 10 + b.data.length ≤ 140737488355328 then some (bputVaried st b) else none
theorem gPutVaried_eq (st : List UInt8 × Int) (b : Bl) (h : st.1.length + 10 + b.data.length ≤ 140737488355328) : gPutVaried st b = some (bputVaried st b) := if_pos h
theorem gPutVaried_spec (g : Nat) (st : List UInt8 × Int) (b : Bl) (r : List UInt8 × Int) (h : gPutVaried st b = some r) : SpecX Tryz.prog 81 #[.pointer (some ⟨g, 0, none⟩), .agg #[.bool b.null, .string (bsOf b.data)]] .triv (OutR g st) (fun v A' N => v = .tuple #[] ∧ A' = OutR g r ∧ N = []) := by
  unfold gPutVaried at h
  split at h
  · rename_i h1
    obtain rfl := Option.some.inj h
    exact SpecX.of_spec (BPutVaried_spec g st b h1)
  · simp at h
def gPutText (st : List UInt8 × Int) (s : List UInt8) : Option (List UInt8 × Int) := if st.1.length + 8 + s.length ≤ 140737488355328 then some (bputText st s) else none
theorem gPutText_eq (st : List UInt8 × Int) (s : List UInt8) (h : st.1.length + 8 + s.length ≤ 140737488355328) : gPutText st s = some (bputText st s) := if_pos h
theorem gPutText_spec (g : Nat) (st : List UInt8 × Int) (s : List UInt8) (r : List UInt8 × Int) (h : gPutText st s = some r) : SpecX Tryz.prog 25 #[.pointer (some ⟨g, 0, none⟩), .string (bsOf s)] .triv (OutR g st) (fun v A' N => v = .tuple #[] ∧ A' = OutR g r ∧ N = []) := by
  unfold gPutText at h
  split at h
  · rename_i h1
    obtain rfl := Option.some.inj h
    exact SpecX.of_spec (BPutText_spec g st s h1)
  · simp at h
def gPutName (st : List UInt8 × Int) (s : List UInt8) : Option (List UInt8 × Int) := if st.1.length + 10 + s.length ≤ 140737488355328 then some (bputName st s) else none
theorem gPutName_eq (st : List UInt8 × Int) (s : List UInt8) (h : st.1.length + 10 + s.length ≤ 140737488355328) : gPutName st s = some (bputName st s) := if_pos h
theorem gPutName_spec (g : Nat) (st : List UInt8 × Int) (s : List UInt8) (r : List UInt8 × Int) (h : gPutName st s = some r) : SpecX Tryz.prog 63 #[.pointer (some ⟨g, 0, none⟩), .string (bsOf s)] .triv (OutR g st) (fun v A' N => v = .tuple #[] ∧ A' = OutR g r ∧ N = []) := by
  unfold gPutName at h
  split at h
  · rename_i h1
    obtain rfl := Option.some.inj h
    exact SpecX.of_spec (BPutName_spec g st s h1)
  · simp at h
def gKRight  (s : List UInt8) : Option (Bool) := some (kright s)
theorem gKRight_eq  (s : List UInt8) : gKRight  s = some (kright s) := rfl
theorem gKRight_spec (s : List UInt8) (r : Bool) (h : gKRight  s = some r) (w : World) : Calls Tryz.prog 46 #[.string (bsOf s)] w fun e w' => e = .returned (.bool r) ∧ w = w' := by
  unfold gKRight at h
  obtain rfl := Option.some.inj h
  exact KRight_any s w
end Go.Proofs.YtlhgogjcaegehaaGreat.Sl
namespace Go.Proofs.YtlhgogjcaegehaaGreat.Sl
open Go.RowKit
set_option linter.unusedVariables false
abbrev Env := List (Nat × Value)
def Env.get : Env → Nat → Option Value
  | [], _ => none
  | (k, v) :: e, t => match Nat.beq k t with | true => some v | false => Env.get e t
def Env.ev (e : Env) : Operand → Option Value
  | .tmp t => e.get t
  | .const v => some v
  | .func f => some (.func (.func f) #[] #[])
  | .global g => some (.pointer (some ⟨g, 0, none⟩))
def Env.evs (e : Env) : List Operand → Option (List Value)
  | [] => some []
  | x :: xs => match e.ev x with
    | some v => match Env.evs e xs with
      | some vs => some (v :: vs)
      | none => none
    | none => none
structure Has (n : Nat) (e : Env) (a : Act) : Prop where
  df : a.defers = []
  sz : a.tmps.size = n
  at_ : ∀ t v, e.get t = some v → a.tmps[t]? = some v
section
variable {n : Nat} {e e' : Env} {a : Act} {v : Value} {vs : List Value} {x : Operand} {xs : List Operand} {d : Nat}
theorem Has.put (h : Has n e a) (hd : Nat.blt d n = true) : Has n ((d, v) :: e) (a.put (some d) v) := by
  have hd' : d < n := by simpa [Nat.blt_eq] using hd
  refine ⟨h.df, by simp [Act.put, h.sz], fun t u hu => ?_⟩
  simp only [Env.get] at hu
  cases hb : Nat.beq d t with
  | true =>
    rw [hb] at hu
    obtain rfl := Nat.eq_of_beq_eq_true hb
    injection hu with hu
    subst hu
    simp [Act.put, h.sz, hd']
  | false =>
    rw [hb] at hu
    have hne : d ≠ t := Nat.ne_of_beq_eq_false hb
    have h2 := h.at_ t u hu
    simp only [Act.put]
    rw [Array.getElem?_setIfInBounds_ne hne]
    exact h2
theorem Has.put0 (h : Has n e a) : Has n e (a.put none v) := h
theorem Has.ev (h : Has n e a) (hx : e.ev x = some v) : a.eval x = v := by
  cases x with
  | tmp t =>
    have := h.at_ t v hx
    simp [Act.eval, this]
  | const u => simpa [Env.ev, Act.eval] using hx
  | func f => simpa [Env.ev, Act.eval] using hx
  | global g => simpa [Env.ev, Act.eval] using hx
theorem Has.evs (h : Has n e a) : ∀ {xs : List Operand} {vs : List Value}, e.evs xs = some vs → xs.map a.eval = vs
  | [], vs, hx => by simpa [Env.evs] using hx
  | x :: xs, vs, hx => by
    simp only [Env.evs] at hx
    cases h1 : e.ev x with
    | none => rw [h1] at hx; cases hx
    | some u =>
      cases h2 : e.evs xs with
      | none => rw [h1, h2] at hx; cases hx
      | some us =>
        rw [h1, h2] at hx
        injection hx with hx
        subst hx
        simp [h.ev h1, h.evs h2]
theorem Has.sub (h : Has n e a) (hs : ∀ t v, Env.get e' t = some v → e.get t = some v) : Has n e' a := ⟨h.df, h.sz, fun t v hv => h.at_ t v (hs t v hv)⟩
end
def Env.gets (e : Env) : List Nat → Option (List Value)
  | [] => some []
  | t :: ts => match e.get t with
    | some v => match Env.gets e ts with
      | some vs => some (v :: vs)
      | none => none
    | none => none
def Env.ks : Env → List Nat
  | [] => []
  | (t, _) :: r => t :: Env.ks r
def Env.vs : Env → List Value
  | [] => []
  | (_, v) :: r => v :: Env.vs r
def Sub (e' e : Env) : Prop := e.gets e'.ks = some e'.vs
theorem Sub.get : ∀ {e' e : Env}, Sub e' e → ∀ t v, Env.get e' t = some v → e.get t = some v
  | [], _, _, t, v, h => by simp [Env.get] at h
  | (k, u) :: r, e, hs, t, v, h => by
    simp only [Sub, Env.ks, Env.vs, Env.gets] at hs
    cases h1 : e.get k with
    | none => rw [h1] at hs; cases hs
    | some u' =>
      cases h2 : e.gets (Env.ks r) with
      | none => rw [h1, h2] at hs; cases hs
      | some us =>
        rw [h1, h2] at hs
        injection hs with hs
        injection hs with hs1 hs2
        subst hs1 hs2
        simp only [Env.get] at h
        cases hb : Nat.beq k t with
        | true =>
          rw [hb] at h
          obtain rfl := Nat.eq_of_beq_eq_true hb
          injection h with h
          subst h
          exact h1
        | false =>
          rw [hb] at h
          exact Sub.get (e' := r) h2 t v h
def selR : List Res → List Nat → Option (List Res)
  | _, [] => some []
  | Rs, i :: is => match Rs[i]? with
    | some A => match selR (Rs.eraseIdx i) is with
      | some l => some (A :: l)
      | none => none
    | none => none
def Sel (Rs : List Res) (is : List Nat) (l : List Res) : Prop := selR Rs is = some l
theorem Sel.sep : ∀ {is : List Nat} {Rs l : List Res} {w : World} {F : Nat → Prop}, Sel Rs is l → Sep Rs w F → Sep l w F
  | [], Rs, l, w, F, h, hs => by
    injection h with h
    subst h
    exact trivial
  | i :: is, Rs, l, w, F, h, hs => by
    simp only [Sel, selR] at h
    cases h1 : Rs[i]? with
    | none => rw [h1] at h; cases h
    | some A =>
      cases h2 : selR (Rs.eraseIdx i) is with
      | none => rw [h1, h2] at h; cases h
      | some l' =>
        rw [h1, h2] at h
        injection h with h
        subst h
        obtain ⟨G, k1, k2, k3⟩ := Sep.pick i h1 hs
        exact ⟨G, k1, k2, Sel.sep h2 k3⟩
theorem St.sel {F0 : Nat → Prop} {w0 w : World} {Rs l : List Res} (is : List Nat) (h : St F0 w0 Rs w) (hl : Sel Rs is l) : St F0 w0 l w := ⟨h.fr, hl.sep h.sep⟩
section
variable (P : Program) (n : Nat) (F0 : Nat → Prop) (w0 : World)
def Ex (e : Env) (S : World → Prop) (o : Oper) (v : Value) : Prop := ∀ a w, Has n e a → S w → (execOp a.eval o).run P w = .ok (.value v) w
def T (e : Env) (Rs : List Res) (c : Code) (Q : Exit → Act → World → Prop) : Prop := ∀ a w, Has n e a → St F0 w0 Rs w → c.wp P Q a w
def X (e : Env) (Rs : List Res) (x : Exit) (Q : Exit → Act → World → Prop) : Prop := ∀ a w, Has n e a → St F0 w0 Rs w → Q x a w
def TL (ops : Array Oper) (l : List Nat) (e : Env) (Rs : List Res) (Q : Exit → Act → World → Prop) : Prop := ∀ a w, Has n e a → St F0 w0 Rs w → wpOps P ops Q l a w
def Ef (e : Env) (Rs : List Res) (o : Oper) (R : Env → List Res → Prop) : Prop :=
  ∀ a w K Q, Has n e a → St F0 w0 Rs w → (∀ e' Rs', R e' Rs' → ∀ a' w', Has n e' a' → St F0 w0 Rs' w' → K a' w') → o.wp P a w K Q
def Wd (ops : Array Oper) (e : Env) (o : Oper) (b : Bool) : Prop := ∀ a, Has n e a → Region.wanted o (yielded ops a.tmps) = b
end
section
variable {P : Program} {n : Nat} {F0 : Nat → Prop} {w0 : World} {e e' : Env} {Rs Rs' : List Res} {Q : Exit → Act → World → Prop} {ops : Array Oper} {o : Oper} {v : Value} {l : List Nat}
theorem Wd.u {d : Option Tmp} {op : Op} {ty : TypeId} {pos : String} {af : Array Edge} : Wd n ops e ⟨d, op, ty, pos, af, none⟩ true := fun _ _ => rfl
theorem Wd.g {d : Option Tmp} {op : Op} {ty : TypeId} {pos : String} {af : Array Edge} {j t : Nat} {b want : Bool} (hj : (ops[j]?).bind (·.dst) = some t) (hv : e.get t = some (.bool b)) (hb : b = want) :
    Wd n ops e ⟨d, op, ty, pos, af, some (j, want)⟩ true := by
  intro a h
  subst hb
  simp only [Region.wanted, yielded, hj, Option.bind_some, h.at_ t _ hv, beq_self_eq_true]
theorem Wd.gn {d : Option Tmp} {op : Op} {ty : TypeId} {pos : String} {af : Array Edge} {j t : Nat} {b want : Bool} (hj : (ops[j]?).bind (·.dst) = some t) (hv : e.get t = some (.bool b)) (hb : b = !want) :
    Wd n ops e ⟨d, op, ty, pos, af, some (j, want)⟩ false := by
  intro a h
  subst hb
  simp only [Region.wanted, yielded, hj, Option.bind_some, h.at_ t _ hv]
  cases want <;> rfl
theorem wp_of_ex {o : Oper} {v : Value} {a : Act} {w : World} {K : Act → World → Prop} {S : World → Prop} (hx : Ex P n e S o v) (ha : Has n e a) (hw : S w) (hk : K (a.put o.dst v) w) : o.wp P a w K Q := by
  unfold Oper.wp
  rw [hx a w ha hw]
  exact hk
theorem TL.nil (h : X n F0 w0 e Rs .normal Q) : TL P n F0 w0 ops [] e Rs Q := fun a w ha hw => h a w ha hw
theorem TL.q {i d : Nat} {op : Op} {ty : TypeId} {pos : String} {af : Array Edge} {g : Option (Nat × Bool)} (ho : ops[i]? = some ⟨some d, op, ty, pos, af, g⟩) (hw : Wd n ops e ⟨some d, op, ty, pos, af, g⟩ true)
    (hx : Ex P n e (St F0 w0 Rs) ⟨some d, op, ty, pos, af, g⟩ v) (hd : Nat.blt d n = true) (h : TL P n F0 w0 ops l ((d, v) :: e) Rs Q) : TL P n F0 w0 ops (i :: l) e Rs Q := by
  intro a w ha hs
  rw [wpOps_cons, wpOp, ho]
  simp only [hw a ha, if_true]
  exact .inl (wp_of_ex hx ha hs (h _ _ (ha.put hd) hs))
theorem TL.no {i d : Nat} {op : Op} {ty : TypeId} {pos : String} {af : Array Edge} {g : Option (Nat × Bool)} (ho : ops[i]? = some ⟨some d, op, ty, pos, af, g⟩) (hw : Wd n ops e ⟨some d, op, ty, pos, af, g⟩ false)
    (hd : Nat.blt d n = true) (h : TL P n F0 w0 ops l ((d, undef) :: e) Rs Q) : TL P n F0 w0 ops (i :: l) e Rs Q := by
  intro a w ha hs
  rw [wpOps_cons, wpOp, ho]
  simp only [hw a ha]
  exact h _ _ (ha.put hd) hs
theorem TL.no0 {i : Nat} {op : Op} {ty : TypeId} {pos : String} {af : Array Edge} {g : Option (Nat × Bool)} (ho : ops[i]? = some ⟨none, op, ty, pos, af, g⟩) (hw : Wd n ops e ⟨none, op, ty, pos, af, g⟩ false)
    (h : TL P n F0 w0 ops l e Rs Q) : TL P n F0 w0 ops (i :: l) e Rs Q := by
  intro a w ha hs
  rw [wpOps_cons, wpOp, ho]
  simp only [hw a ha]
  exact h _ _ ha hs
theorem TL.ef {i : Nat} {R : Env → List Res → Prop} (ho : ops[i]? = some o) (hw : Wd n ops e o true) (hx : Ef P n F0 w0 e Rs o R) (h : ∀ e' Rs', R e' Rs' → TL P n F0 w0 ops l e' Rs' Q) : TL P n F0 w0 ops (i :: l) e Rs Q := by
  intro a w ha hs
  rw [wpOps_cons, wpOp, ho]
  simp only [hw a ha, if_true]
  exact .inl (hx a w _ _ ha hs (fun e' Rs' hr a' w' ha' hs' => h e' Rs' hr a' w' ha' hs'))
theorem T.region {id : Nat} {os : List Oper} (hl : List.range os.toArray.size = l) (h : TL P n F0 w0 os.toArray l e Rs Q) : T P n F0 w0 e Rs (.region id os.toArray false) Q := fun a w ha hs => wp_region (hl ▸ h a w ha hs)
theorem T.seq {x y : Code} (h : T P n F0 w0 e Rs x (Exit.then (y.wp P Q) Q)) : T P n F0 w0 e Rs (.seq x y) Q := fun a w ha hs => wp_seq (h a w ha hs)
theorem T.skip (h : X n F0 w0 e Rs .normal Q) : T P n F0 w0 e Rs .skip Q := fun a w ha hs => wp_skip (h a w ha hs)
theorem T.ret (h : X n F0 w0 e Rs .ret Q) : T P n F0 w0 e Rs .ret Q := fun a w ha hs => wp_ret (h a w ha hs)
theorem T.exit {i : Nat} (h : X n F0 w0 e Rs (.exit i) Q) : T P n F0 w0 e Rs (.exit i) Q := fun a w ha hs => wp_exit (h a w ha hs)
theorem T.goto {i : Nat} (h : X n F0 w0 e Rs (.goto i) Q) : T P n F0 w0 e Rs (.goto i) Q := fun a w ha hs => wp_goto (h a w ha hs)
theorem T.yes {c : Operand} {x y : Code} {b : Bool} (hc : e.ev c = some (.bool b)) (hb : b = true) (h : T P n F0 w0 e Rs x Q) : T P n F0 w0 e Rs (.cond c x y) Q := fun a w ha hs => wp_cond_true (by rw [ha.ev hc, hb]) (h a w ha hs)
theorem T.no {c : Operand} {x y : Code} {b : Bool} (hc : e.ev c = some (.bool b)) (hb : b = false) (h : T P n F0 w0 e Rs y Q) : T P n F0 w0 e Rs (.cond c x y) Q := fun a w ha hs => wp_cond_false (by rw [ha.ev hc, hb]) (h a w ha hs)
theorem T.block {id : Nat} {c : Code} (h : T P n F0 w0 e Rs c (Exit.inBlock id Q)) : T P n F0 w0 e Rs (.block id c) Q := fun a w ha hs => wp_block (h a w ha hs)
theorem T.loop {c : Code} (I : Nat → Env → List Res → Prop) (m : Nat) (h0 : I m e Rs) (h : ∀ m e Rs, I m e Rs → T P n F0 w0 e Rs c (Exit.then (fun a w => ∃ m' e' Rs', m' < m ∧ I m' e' Rs' ∧ Has n e' a ∧ St F0 w0 Rs' w) Q)) : T P n F0 w0 e Rs (.loop c) Q := by
  intro a w ha hs b k cs
  have key : ∀ m e Rs a w, I m e Rs → Has n e a → St F0 w0 Rs w → ∃ x a' w', Q x a' w' ∧ Arrives P (lone (b.at a (.code c :: .inLoop c :: k)) cs w) b k cs x a' w' := by
    intro m
    induction m using Nat.strongRecOn with
    | _ m ih =>
      intro e Rs a w hI ha hs
      obtain ⟨x, a₁, w₁, hq, harr⟩ := h m e Rs hI a w ha hs b (.inLoop c :: k) cs
      cases x with
      | normal =>
        obtain ⟨m', e', Rs', hlt, hI', ha', hs'⟩ := hq
        obtain ⟨x₂, a₂, w₂, hq₂, harr₂⟩ := ih m' hlt e' Rs' a₁ w₁ hI' ha' hs'
        exact ⟨x₂, a₂, w₂, hq₂, .of_steps (Steps.trans harr (.one step_inLoop)) harr₂⟩
      | exit id => exact ⟨_, a₁, w₁, hq, .pass (x := .inLoop c) rfl (fun _ _ => .inl (by simp)) harr⟩
      | goto l => exact ⟨_, a₁, w₁, hq, .pass (x := .inLoop c) rfl (fun _ _ => .inl (by simp)) harr⟩
      | ret => exact ⟨_, a₁, w₁, hq, .pass (x := .inLoop c) rfl (fun _ _ => .inl (by simp)) harr⟩
      | panic ch => exact ⟨_, a₁, w₁, hq, .pass (x := .inLoop c) rfl (fun _ _ => .inl (by simp)) harr⟩
      | outgrown => exact ⟨_, a₁, w₁, hq, .pass (x := .inLoop c) rfl (fun _ _ => .inl (by simp)) harr⟩
  obtain ⟨x, a', w', hq, harr⟩ := key m e Rs a w h0 ha hs
  exact ⟨x, a', w', hq, .of_steps (.one step_loop) harr⟩
theorem T.lp {c : Code} (I : Nat → Env → List Res → Prop) (m : Nat) {e0 : Env} {Rs0 : List Res} (is : List Nat) (h0 : I m e0 Rs0) (he : Sub e0 e) (hr : Sel Rs is Rs0) (h : ∀ m e Rs, I m e Rs → T P n F0 w0 e Rs c (Exit.then (fun a w => ∃ m' e' Rs', m' < m ∧ I m' e' Rs' ∧ Has n e' a ∧ St F0 w0 Rs' w) Q)) : T P n F0 w0 e Rs (.loop c) Q :=
  fun a w ha hs => T.loop I m h0 h a w (ha.sub he.get) (hs.sel is hr)
end
end Go.Proofs.YtlhgogjcaegehaaGreat.Sl
namespace Go.Proofs.YtlhgogjcaegehaaGreat.Sl
open Go.RowKit
set_option linter.unusedVariables false
def NoP (Q : Exit → Act → World → Prop) : Prop := ∀ c a w, ¬ Q (.panic c) a w
def waitsL (ops : Array Oper) (i : Nat) : List Nat → List Nat → List Nat
  | [], D => D
  | j :: js, D => waitsL ops i js (match ops[j]? with
    | some o => if o.after.any (fun e => Region.binds .any e && (Nat.beq e.on i || D.contains e.on)) then j :: D else D
    | none => D)
def waits (ops : Array Oper) (i : Nat) : List Nat := waitsL ops i (List.range ops.size) []
def freeT (ops : Array Oper) (listed : Array Bool) (i : Nat) : Bool :=
  match ops[i]? with
  | none => false
  | some oi => (waits ops i).all (fun j => !listed.getD j true && match ops[j]? with | some o => o.after.any (fun e => Region.binds .any e && (Nat.beq e.on i || (waits ops i).contains e.on)) | none => false) &&
    (List.range ops.size).all fun j => j == i || listed.getD j true || (waits ops i).contains j || match ops[j]? with
      | some oj => oi.apart ops oj
      | none => true
inductive Sch where
  | nil
  | q (i : Nat) (s : Sch)
  | e (i : Nat) (s : Sch)
  | br (i : Nat) (s m : Sch)
def Sch.heads : Sch → List Nat
  | .e i _ => [i]
  | .br i _ m => i :: m.heads
  | _ => []
def schedB (ops : Array Oper) : Bool → Nat → Sch → Array Bool → Bool
  | alt, k, .nil, listed => !alt && (k == 0) && (Region.ready .any ops listed).isEmpty
  | alt, 0, _, _ => false
  | alt, k + 1, .q i s, listed => !alt && (Region.ready .any ops listed).contains i && freeT ops listed i && schedB ops false k s (listed.setIfInBounds i true)
  | alt, k + 1, .e i s, listed => (alt || Region.ready .any ops listed == [i]) && schedB ops false k s (listed.setIfInBounds i true)
  | alt, k + 1, .br i s m, listed => (alt || Region.ready .any ops listed == i :: m.heads) && schedB ops false k s (listed.setIfInBounds i true) && schedB ops true (k + 1) m listed
def drawB (ops : Array Oper) (ord : Sch) : Bool := Region.noSelect ops && schedB ops false ops.size ord (Array.replicate ops.size false)
section
variable {P : Program} {ops : Array Oper} {Q : Exit → Act → World → Prop} {S : World → Prop}
theorem wpAnyH_firstT {i : Nat} {oi : Oper} {v : Value} (D : Nat → Prop) (hi : ops[i]? = some oi) (hsel : ∀ (j : Nat) (o : Oper) cs b, ops[j]? = some o → o.op ≠ .select cs b)
    (hQ : ∀ c a w, Q (.panic c) (a.put oi.dst v) w → Q (.panic c) a w) (hD : ∀ j oj, ops[j]? = some oj → D j → ∃ e ∈ oj.after, Region.binds .any e = true ∧ (e.on = i ∨ D e.on)) :
    ∀ (fuel : Nat) (listed : Array Bool) (a : Act) (w : World), (∀ j, D j → listed.getD j true = false) →
      (∀ j oj, ops[j]? = some oj → j ≠ i → listed.getD j true = false → ¬ D j → oi.apart ops oj = true) →
      i ∈ Region.ready .any ops listed → YieldsIf P ops S oi v a → S w →
      wpAnyH P .any ops Q S fuel (listed.setIfInBounds i true) (a.put oi.dst v) w → wpAnyH P .any ops Q S (fuel + 1) listed a w := by
  intro fuel
  induction fuel with
  | zero =>
    intro listed a w _ _ hr hy hS H
    refine ⟨fun h => (by rw [h] at hr; cases hr), fun j hj => ?_⟩
    by_cases hji : j = i
    · subst hji; exact hy.wpOp hi hS ⟨hS, H⟩
    · have := ready_mono hj hji
      rw [H.1] at this
      cases this
  | succ fuel ih =>
    intro listed a w hun hfree hr hy hS H
    refine ⟨fun h => (by rw [h] at hr; cases hr), fun j hj => ?_⟩
    by_cases hji : j = i
    · subst hji; exact hy.wpOp hi hS ⟨hS, H⟩
    · have h1 := H.2 j (ready_mono hj hji)
      obtain ⟨hjun, oj, hoj, hall⟩ := mem_ready.1 hj
      have hiun := (mem_ready.1 hr).1
      have hnot : ¬ D j := fun hd => by
        obtain ⟨e, he, hb, h2⟩ := hD j oj hoj hd
        have h3 := hall e he hb
        rcases h2 with h2 | h2
        · rw [h2] at h3
          rcases Nat.lt_or_ge i listed.size with h' | h'
          · simp [h'] at hiun h3; rw [hiun] at h3; cases h3
          · simp [Array.getElem?_eq_none h'] at h3
        · have h4 := hun _ h2
          rcases Nat.lt_or_ge e.on listed.size with h' | h'
          · simp [h'] at h4 h3; rw [h4] at h3; cases h3
          · simp [Array.getElem?_eq_none h'] at h4
      have h2 := wpOp_putIf hoj (hfree j oj hoj hji hjun hnot) (fun cs b => hsel i oi cs b hi) (fun cs b => hsel j oj cs b hoj) hQ hy h1
      have hun' : ∀ k, D k → (listed.setIfInBounds j true).getD k true = false := fun k hk => by
        have hjk : j ≠ k := fun e => hnot (e ▸ hk)
        rw [getD_set_ne true hjk]
        exact hun k hk
      have hfree' : ∀ k ok, ops[k]? = some ok → k ≠ i → (listed.setIfInBounds j true).getD k true = false → ¬ D k → oi.apart ops ok = true := fun k ok hk hki hu hno => by
        refine hfree k ok hk hki ?_ hno
        by_cases hjk : j = k
        · subst hjk; exact hjun
        · rw [getD_set_ne true hjk] at hu; exact hu
      refine wpOp_mono (fun a' w' h3 => ⟨h3.2.1, ih (listed.setIfInBounds j true) a' w' hun' hfree' (ready_mono hr (Ne.symm hji)) h3.1 h3.2.1 ?_⟩) h2
      rw [Array.setIfInBounds_comm _ _ hji]
      exact h3.2.2
theorem wpAnyH_takeT {i : Nat} {oi : Oper} {v : Value} {fuel : Nat} {listed : Array Bool} {a : Act} {w : World} (hi : ops[i]? = some oi)
    (hs : Region.noSelect ops = true) (hf : freeT ops listed i = true) (hr : (Region.ready .any ops listed).contains i = true)
    (hQ : ∀ c a w, Q (.panic c) (a.put oi.dst v) w → Q (.panic c) a w) (hy : YieldsIf P ops S oi v a) (hS : S w)
    (h : wpAnyH P .any ops Q S fuel (listed.setIfInBounds i true) (a.put oi.dst v) w) : wpAnyH P .any ops Q S (fuel + 1) listed a w := by
  simp only [freeT, hi, Bool.and_eq_true, List.all_eq_true] at hf
  obtain ⟨h1, h2⟩ := hf
  refine wpAnyH_firstT (fun j => j ∈ waits ops i) hi (Region.noSelect_spec hs) hQ ?_ fuel listed a w ?_ ?_ (by simpa using hr) hy hS h
  · intro j oj hj hd
    have h3 := (h1 j hd).2
    simp only [hj, Array.any_eq_true] at h3
    obtain ⟨k, hk, h4⟩ := h3
    simp only [Bool.and_eq_true, Bool.or_eq_true, List.contains_iff_mem] at h4
    exact ⟨_, Array.getElem_mem hk, h4.1, h4.2.imp Nat.eq_of_beq_eq_true id⟩
  · intro j hd
    simpa using (h1 j hd).1
  · intro j oj hj hne hun hno
    have hlt : j < ops.size := (Array.getElem?_eq_some_iff.1 hj).1
    have h3 := h2 j (by simpa using hlt)
    simp only [hj, Bool.or_eq_true, beq_iff_eq, List.contains_iff_mem] at h3
    rcases h3 with ((h3 | h3) | h3) | h3
    · exact (hne h3).elim
    · rw [hun] at h3; cases h3
    · exact (hno h3).elim
    · exact h3
end
def wpO (P : Program) (ops : Array Oper) (Q : Exit → Act → World → Prop) : Sch → (World → Prop) → Act → World → Prop
  | .nil, _, a, w => Q .normal a w
  | .q i r, S, a, w => ∃ o v, ops[i]? = some o ∧ YieldsIf P ops S o v a ∧ wpO P ops Q r S (a.put o.dst v) w
  | .e i r, S, a, w => wpOp P ops Q i (fun a' w' => ∃ S' : World → Prop, S' w' ∧ (∀ w, S' w → S w) ∧ wpO P ops Q r S' a' w') a w
  | .br i r m, S, a, w => wpOp P ops Q i (fun a' w' => ∃ S' : World → Prop, S' w' ∧ (∀ w, S' w → S w) ∧ wpO P ops Q r S' a' w') a w ∧ wpO P ops Q m S a w
section
variable {P : Program} {ops : Array Oper} {Q : Exit → Act → World → Prop}
theorem wpAnyH_mono {S S' : World → Prop} (hS : ∀ w, S' w → S w) : ∀ (fuel : Nat) (listed : Array Bool) (a : Act) (w : World), wpAnyH P .any ops Q S' fuel listed a w → wpAnyH P .any ops Q S fuel listed a w
  | 0, _, _, _, h => h
  | fuel + 1, listed, a, w, h => ⟨h.1, fun i hi => wpOp_mono (fun a' w' h' => ⟨hS _ h'.1, wpAnyH_mono hS fuel _ a' w' h'.2⟩) (h.2 i hi)⟩
theorem wpO_sound (hs : Region.noSelect ops = true) (hQ : NoP Q) : ∀ (ord : Sch) (k : Nat) (S : World → Prop) (listed : Array Bool) (a : Act) (w : World), S w → wpO P ops Q ord S a w →
    (schedB ops false k ord listed = true → wpAnyH P .any ops Q S k listed a w) ∧
    (∀ k', k = k' + 1 → schedB ops true k ord listed = true → ∀ j ∈ ord.heads, wpOp P ops Q j (fun a' w' => S w' ∧ wpAnyH P .any ops Q S k' (listed.setIfInBounds j true) a' w') a w)
  | .nil, k, S, listed, a, w, hS, h => by
    refine ⟨fun hk => ?_, fun k' _ hk => by cases k <;> simp [schedB] at hk⟩
    have hk' : k = 0 ∧ Region.ready .any ops listed = [] := by cases k <;> simp [schedB] at hk <;> exact ⟨rfl, hk⟩
    rw [hk'.1]
    exact ⟨hk'.2, h⟩
  | .q i r, 0, S, listed, a, w, hS, h => ⟨fun hk => by simp [schedB] at hk, fun k' e => by omega⟩
  | .q i r, k + 1, S, listed, a, w, hS, h => by
    refine ⟨fun hk => ?_, fun k' _ hk => by simp [schedB] at hk⟩
    obtain ⟨o, v, ho, hy, h⟩ := h
    simp only [schedB, Bool.and_eq_true] at hk
    obtain ⟨⟨⟨_, h1⟩, h2⟩, h3⟩ := hk
    exact wpAnyH_takeT ho hs h2 h1 (fun c a' w' h' => (hQ _ _ _ h').elim) hy hS ((wpO_sound hs hQ r k S _ _ _ hS h).1 h3)
  | .e i r, 0, S, listed, a, w, hS, h => ⟨fun hk => by simp [schedB] at hk, fun k' e => by omega⟩
  | .e i r, k + 1, S, listed, a, w, hS, h => by
    have key : schedB ops false k r (listed.setIfInBounds i true) = true → wpOp P ops Q i (fun a' w' => S w' ∧ wpAnyH P .any ops Q S k (listed.setIfInBounds i true) a' w') a w := by
      intro h3
      refine wpOp_mono ?_ h
      rintro a' w' ⟨S', k1, k2, k3⟩
      exact ⟨k2 _ k1, wpAnyH_mono k2 _ _ _ _ ((wpO_sound hs hQ r k S' _ _ _ k1 k3).1 h3)⟩
    refine ⟨fun hk => ?_, fun k' e hk j hj => ?_⟩
    · simp only [schedB, Bool.false_or, Bool.and_eq_true, beq_iff_eq] at hk
      refine wpAnyH_all hk.1 (by simp) (fun j hj => ?_)
      obtain rfl : j = i := by simpa using hj
      exact key hk.2
    · obtain rfl : k' = k := by omega
      simp only [schedB, Bool.true_or, Bool.true_and] at hk
      obtain rfl : j = i := by simpa [Sch.heads] using hj
      exact key hk
  | .br i r m, 0, S, listed, a, w, hS, h => ⟨fun hk => by simp [schedB] at hk, fun k' e => by omega⟩
  | .br i r m, k + 1, S, listed, a, w, hS, h => by
    have key : schedB ops false k r (listed.setIfInBounds i true) = true → wpOp P ops Q i (fun a' w' => S w' ∧ wpAnyH P .any ops Q S k (listed.setIfInBounds i true) a' w') a w := by
      intro h3
      refine wpOp_mono ?_ h.1
      rintro a' w' ⟨S', k1, k2, k3⟩
      exact ⟨k2 _ k1, wpAnyH_mono k2 _ _ _ _ ((wpO_sound hs hQ r k S' _ _ _ k1 k3).1 h3)⟩
    have more := (wpO_sound hs hQ m (k + 1) S listed a w hS h.2).2
    refine ⟨fun hk => ?_, fun k' e hk j hj => ?_⟩
    · simp only [schedB, Bool.false_or, Bool.and_eq_true, beq_iff_eq] at hk
      refine wpAnyH_all hk.1.1 (by simp) (fun j hj => ?_)
      rcases List.mem_cons.1 hj with rfl | hj
      · exact key hk.1.2
      · exact more k rfl hk.2 j hj
    · obtain rfl : k' = k := by omega
      simp only [schedB, Bool.true_or, Bool.true_and, Bool.and_eq_true] at hk
      rcases List.mem_cons.1 (by simpa [Sch.heads] using hj : j ∈ i :: m.heads) with rfl | hj
      · exact key hk.1
      · exact more k' rfl hk.2 j hj
end
def TD (P : Program) (n : Nat) (F0 : Nat → Prop) (w0 : World) (ops : Array Oper) (l : Sch) (Rf : List Res) (e : Env) (Rs : List Res) (Q : Exit → Act → World → Prop) : Prop :=
  ∀ a w, Has n e a → St F0 w0 Rs w → wpO P ops Q l (St F0 w0 Rf) a w
section
variable {P : Program} {n : Nat} {F0 : Nat → Prop} {w0 : World} {e e' : Env} {Rs Rs' Rf Rf' : List Res} {Q : Exit → Act → World → Prop} {ops : Array Oper} {o : Oper} {v : Value} {l : Sch}
theorem T.draw {id : Nat} {os : List Oper} (ord : Sch) (is : List Nat) (hf : Sel Rs is Rf) (hm : P.follows .mixedOrders = true) (hQ : NoP Q) (hk : drawB os.toArray ord = true) (h : TD P n F0 w0 os.toArray ord Rf e Rs Q) :
    T P n F0 w0 e Rs (.region id os.toArray true) Q := by
  intro a w ha hs
  simp only [drawB, Bool.and_eq_true] at hk
  obtain ⟨h1, h3⟩ := hk
  refine wp_region_held (S := St F0 w0 Rf) hm ?_
  have hs' := hs.drew
  exact (wpO_sound h1 hQ ord _ (St F0 w0 Rf) _ a _ (hs'.sel is hf) (h a _ ha hs')).1 h3
theorem TD.br {i : Nat} {r m : Sch} (h : TD P n F0 w0 ops (.e i r) Rf e Rs Q) (k : TD P n F0 w0 ops m Rf e Rs Q) : TD P n F0 w0 ops (.br i r m) Rf e Rs Q := fun a w ha hs => ⟨h a w ha hs, k a w ha hs⟩
theorem TD.nil (h : X n F0 w0 e Rs .normal Q) : TD P n F0 w0 ops .nil Rf e Rs Q := fun a w ha hw => h a w ha hw
theorem TD.q {i d : Nat} {op : Op} {ty : TypeId} {pos : String} {af : Array Edge} {g : Option (Nat × Bool)} (ho : ops[i]? = some ⟨some d, op, ty, pos, af, g⟩) (hw : Wd n ops e ⟨some d, op, ty, pos, af, g⟩ true)
    (hx : Ex P n e (St F0 w0 Rf) ⟨some d, op, ty, pos, af, g⟩ v) (hd : Nat.blt d n = true) (h : TD P n F0 w0 ops l Rf ((d, v) :: e) Rs Q) : TD P n F0 w0 ops (.q i l) Rf e Rs Q :=
  fun a w ha hs => ⟨_, v, ho, .inl ⟨hw a ha, fun w' hw' => hx a w' ha hw'⟩, h _ _ (ha.put hd) hs⟩
theorem TD.no {i d : Nat} {op : Op} {ty : TypeId} {pos : String} {af : Array Edge} {g : Option (Nat × Bool)} (ho : ops[i]? = some ⟨some d, op, ty, pos, af, g⟩) (hw : Wd n ops e ⟨some d, op, ty, pos, af, g⟩ false)
    (hd : Nat.blt d n = true) (h : TD P n F0 w0 ops l Rf ((d, undef) :: e) Rs Q) : TD P n F0 w0 ops (.q i l) Rf e Rs Q :=
  fun a w ha hs => ⟨_, undef, ho, .inr ⟨hw a ha, rfl⟩, h _ _ (ha.put hd) hs⟩
theorem TD.no0 {i : Nat} {op : Op} {ty : TypeId} {pos : String} {af : Array Edge} {g : Option (Nat × Bool)} (ho : ops[i]? = some ⟨none, op, ty, pos, af, g⟩) (hw : Wd n ops e ⟨none, op, ty, pos, af, g⟩ false)
    (h : TD P n F0 w0 ops l Rf e Rs Q) : TD P n F0 w0 ops (.q i l) Rf e Rs Q :=
  fun a w ha hs => ⟨_, undef, ho, .inr ⟨hw a ha, rfl⟩, h _ _ ha hs⟩
theorem TD.ef {i : Nat} {R : Env → List Res → Prop} (ho : ops[i]? = some o) (hw : Wd n ops e o true) (hx : Ef P n F0 w0 e Rs o R)
    (h : ∀ e' Rs', R e' Rs' → ∃ Rf', (∀ w, St F0 w0 Rs' w → St F0 w0 Rf' w) ∧ (∀ w, St F0 w0 Rf' w → St F0 w0 Rf w) ∧ TD P n F0 w0 ops l Rf' e' Rs' Q) : TD P n F0 w0 ops (.e i l) Rf e Rs Q := by
  intro a w ha hs
  simp only [wpO, wpOp, ho]
  rw [if_pos (hw a ha)]
  refine .inl (hx a w _ _ ha hs (fun e' Rs' hr a' w' ha' hs' => ?_))
  obtain ⟨Rf', h1, h2, h3⟩ := h e' Rs' hr
  exact ⟨St F0 w0 Rf', h1 _ hs', h2, h3 a' w' ha' hs'⟩
theorem TD.noe {i d : Nat} {op : Op} {ty : TypeId} {pos : String} {af : Array Edge} {g : Option (Nat × Bool)} (ho : ops[i]? = some ⟨some d, op, ty, pos, af, g⟩) (hw : Wd n ops e ⟨some d, op, ty, pos, af, g⟩ false)
    (hd : Nat.blt d n = true) (is : List Nat) (hf : Sel Rs is Rf) (h : TD P n F0 w0 ops l Rf ((d, undef) :: e) Rs Q) : TD P n F0 w0 ops (.e i l) Rf e Rs Q := by
  intro a w ha hs
  simp only [wpO, wpOp, ho, hw a ha]
  exact ⟨St F0 w0 Rf, hs.sel is hf, fun _ h => h, h _ _ (ha.put hd) hs⟩
theorem TD.ny {i d : Nat} {op : Op} {ty : TypeId} {pos : String} {af : Array Edge} {g : Option (Nat × Bool)} (ho : ops[i]? = some ⟨some d, op, ty, pos, af, g⟩) (hw : Wd n ops e ⟨some d, op, ty, pos, af, g⟩ true)
    (hx : Ex P n e (St F0 w0 Rs) ⟨some d, op, ty, pos, af, g⟩ v) (hd : Nat.blt d n = true) (is : List Nat) (hf : Sel Rs is Rf) (h : TD P n F0 w0 ops l Rf ((d, v) :: e) Rs Q) : TD P n F0 w0 ops (.e i l) Rf e Rs Q := by
  intro a w ha hs
  simp only [wpO, wpOp, ho]
  rw [if_pos (hw a ha)]
  exact .inl (wp_of_ex hx ha hs ⟨St F0 w0 Rf, hs.sel is hf, fun _ h => h, h _ _ (ha.put hd) hs⟩)
variable {id j : Nat} {y c : Code} {K : Act → World → Prop}
theorem X.seq (h : T P n F0 w0 e Rs y Q) : X n F0 w0 e Rs .normal (Exit.then (y.wp P Q) Q) := h
theorem X.blk (h : X n F0 w0 e Rs .normal Q) : X n F0 w0 e Rs .normal (Exit.inBlock id Q) := h
theorem X.ex (h : X n F0 w0 e Rs .normal Q) : X n F0 w0 e Rs (.exit id) (Exit.inBlock id Q) := fun a w ha hs => by
  show (if id = id then Q .normal a w else _)
  rw [if_pos rfl]
  exact h a w ha hs
theorem X.rs (h : X n F0 w0 e Rs .ret Q) : X n F0 w0 e Rs .ret (Exit.then K Q) := h
theorem X.rb (h : X n F0 w0 e Rs .ret Q) : X n F0 w0 e Rs .ret (Exit.inBlock id Q) := h
theorem X.exs (h : X n F0 w0 e Rs (.exit j) Q) : X n F0 w0 e Rs (.exit j) (Exit.then K Q) := h
theorem X.back {I : Nat → Env → List Res → Prop} {m m' : Nat} (is : List Nat) (hm : m' < m) (hI : I m' e' Rs') (he : Sub e' e) (hr : Sel Rs is Rs') :
    X n F0 w0 e Rs .normal (Exit.then (fun a w => ∃ m' e' Rs', m' < m ∧ I m' e' Rs' ∧ Has n e' a ∧ St F0 w0 Rs' w) Q) :=
  fun a w ha hs => ⟨m', e', Rs', hm, hI, ha.sub he.get, hs.sel is hr⟩
theorem T.as {d : Nat} {v' : Value} (hv : e.get d = some v) (h : v = v') (hk : T P n F0 w0 ((d, v') :: e) Rs c Q) : T P n F0 w0 e Rs c Q := fun a w ha hs => by
  refine hk a w (ha.sub (fun t u hu => ?_)) hs
  simp only [Env.get] at hu
  cases hb : Nat.beq d t with
  | true =>
    rw [hb] at hu
    obtain rfl := Nat.eq_of_beq_eq_true hb
    injection hu with hu
    rw [hv, h, hu]
  | false => rw [hb] at hu; exact hu
def JQ (n : Nat) (F0 : Nat → Prop) (w0 : World) (R : Env → List Res → Prop) : Exit → Act → World → Prop
  | .normal, a, w => ∃ e Rs, R e Rs ∧ Has n e a ∧ St F0 w0 Rs w
  | _, _, _ => False
theorem np_jq {R : Env → List Res → Prop} : NoP (JQ n F0 w0 R) := fun _ _ _ h => h
theorem T.join (R : Env → List Res → Prop) (h : T P n F0 w0 e Rs c (JQ n F0 w0 R)) (k : ∀ e' Rs', R e' Rs' → X n F0 w0 e' Rs' .normal Q) : T P n F0 w0 e Rs c Q := by
  intro a w ha hs
  refine wp_mono (h a w ha hs) ?_
  intro x a' w' hx
  cases x <;> first | exact hx.elim | skip
  obtain ⟨e', Rs', hR, ha', hs'⟩ := hx
  exact k e' Rs' hR a' w' ha' hs'
theorem X.jn {R : Env → List Res → Prop} (is : List Nat) (hR : R e' Rs') (he : Sub e' e) (hr : Sel Rs is Rs') : X n F0 w0 e Rs .normal (JQ n F0 w0 R) := fun a w ha hs => ⟨e', Rs', hR, ha.sub he.get, hs.sel is hr⟩
theorem T.nilrow {α : Type} (T' : TypeId) (size : Nat) (E : Rd α) (h : T P n F0 w0 e (OwnR T' size E (.slice none 0 0) [] :: Rs) c Q) : T P n F0 w0 e Rs c Q := fun a w ha hs => h a w ha (OwnR.nil T' size E hs)
theorem X.done {f : Func} {F : Nat → Prop} {R : Value → Res → List Res → Prop} {A' : Res} {Ns : List Res} {t : Nat} (is : List Nat) (hf : f.results = #[.tmp t]) (hv : e.get t = some v) (hR : R v A' Ns) (hr : Sel Rs is (A' :: Ns)) {x : Exit} (hx : x = .ret ∨ x = .normal) :
    X n F0 w0 e Rs x (bodyPost P f (Post R F0 w0)) := by
  intro a w ha hs
  have h : bodyPost P f (Post R F0 w0) .ret a w := ⟨ha.df, v, by
    have h2 := ha.at_ t v hv
    rw [results_eq, hf]
    simp [resv, h2], v, A', Ns, rfl, hR, hs.sel is hr⟩
  rcases hx with rfl | rfl <;> exact h
theorem X.done0 {f : Func} {R : Value → Res → List Res → Prop} {A' : Res} {Ns : List Res} (is : List Nat) (hf : f.results = #[]) (hR : R (.tuple #[]) A' Ns) (hr : Sel Rs is (A' :: Ns)) {x : Exit} (hx : x = .ret ∨ x = .normal) :
    X n F0 w0 e Rs x (bodyPost P f (Post R F0 w0)) := by
  intro a w ha hs
  have h : bodyPost P f (Post R F0 w0) .ret a w := ⟨ha.df, .tuple #[], by
    rw [results_eq, hf]
    simp, _, A', Ns, rfl, hR, hs.sel is hr⟩
  rcases hx with rfl | rfl <;> exact h
end
theorem NoP.seq {Q : Exit → Act → World → Prop} {K : Act → World → Prop} (h : NoP Q) : NoP (Exit.then K Q) := h
theorem NoP.blk {Q : Exit → Act → World → Prop} {i : Nat} (h : NoP Q) : NoP (Exit.inBlock i Q) := h
theorem np_post {P : Program} {f : Func} {F0 : Nat → Prop} {w0 : World} {R : Value → Res → List Res → Prop} : NoP (bodyPost P f (Post R F0 w0)) := by
  rintro c a w ⟨_, v, A', Ns, h, _⟩
  cases h
theorem enterX {P : Program} {f n : Nat} {fn : Func} {c : Code} {args : Array Value} {Xr : RX} {A : Res} {R : Value → Res → List Res → Prop} {e : Env} (hf : P.funcs[f]? = some fn) (hb : fn.body = some c) (hn : fn.ntmps = n)
    (hl : Nat.ble args.size n = true) (he : ∀ t v, e.get t = some v → args[t]? = some v) (h : ∀ F w, Xr.reads w F → T P n F w e [A] c (bodyPost P fn (Post R F w))) : SpecX P f args Xr A R := by
  intro F w hA hX
  refine calls_of_wp hf hb ?_
  have hl' : args.size ≤ n := Nat.le_of_ble_eq_true hl
  refine h F w hX _ w ⟨rfl, ?_, fun t v hv => ?_⟩ (SpecX.start hA)
  · simp only [Array.size_append, Array.size_replicate, hn]
    omega
  · have h1 := he t v hv
    have h2 := (Array.getElem?_eq_some_iff.1 h1).1
    rw [Array.getElem?_append_left h2]
    exact h1
def argsE : Nat → List Value → Env
  | _, [] => []
  | k, v :: vs => (k, v) :: argsE (k + 1) vs
theorem argsE_get : ∀ (vs : List Value) (k t : Nat) (v : Value), Env.get (argsE k vs) t = some v → k ≤ t ∧ vs[t - k]? = some v
  | [], _, _, _, h => by simp [argsE, Env.get] at h
  | u :: vs, k, t, v, h => by
    simp only [argsE, Env.get] at h
    cases hb : Nat.beq k t with
    | true =>
      rw [hb] at h
      obtain rfl := Nat.eq_of_beq_eq_true hb
      exact ⟨Nat.le_refl _, by simpa using h⟩
    | false =>
      rw [hb] at h
      obtain ⟨h1, h2⟩ := argsE_get vs (k + 1) t v h
      refine ⟨by omega, ?_⟩
      obtain ⟨m, rfl⟩ : ∃ m, t = k + 1 + m := ⟨t - (k + 1), by omega⟩
      rw [show k + 1 + m - k = m + 1 by omega]
      rw [show k + 1 + m - (k + 1) = m by omega] at h2
      simpa using h2
theorem enterA {P : Program} {f n : Nat} {fn : Func} {c : Code} {args : List Value} {Xr : RX} {A : Res} {R : Value → Res → List Res → Prop} (hf : P.funcs[f]? = some fn) (hb : fn.body = some c) (hn : fn.ntmps = n)
    (hl : Nat.ble args.length n = true) (h : ∀ F w, Xr.reads w F → T P n F w (argsE 0 args) [A] c (bodyPost P fn (Post R F w))) : SpecX P f args.toArray Xr A R :=
  enterX hf hb hn (by simpa using hl) (fun t v hv => by simpa using (argsE_get args 0 t v hv).2) h
end Go.Proofs.YtlhgogjcaegehaaGreat.Sl
namespace Go.Proofs.YtlhgogjcaegehaaGreat.Sl
open Go.RowKit
set_option linter.unusedVariables false
set_option linter.unusedSimpArgs false
def ksame : IntKind → IntKind → Bool
  | .i8, .i8 | .i16, .i16 | .i32, .i32 | .i64, .i64 | .u8, .u8 | .u16, .u16 | .u32, .u32 | .u64, .u64 => true
  | _, _ => false
theorem ksame_eq {k k' : IntKind} (h : ksame k k' = true) : k = k' := by cases k <;> cases k' <;> first | rfl | cases h
def cmpV : BinOp → Int → Int → Option Bool
  | .eql, a, b => some (decide (a = b))
  | .neq, a, b => some (!decide (a = b))
  | .lss, a, b => some (decide (a < b))
  | .leq, a, b => some (decide (a ≤ b))
  | .gtr, a, b => some (decide (a > b))
  | .geq, a, b => some (decide (a ≥ b))
  | _, _, _ => none
def FTab := List (Nat × Nat × Nat)
def FTab.get : FTab → Nat → Nat → Option Nat
  | [], _, _ => none
  | (s, f, o) :: r, s', f' => match Nat.beq s s' with
    | true => match Nat.beq f f' with
      | true => some o
      | false => FTab.get r s' f'
    | false => FTab.get r s' f'
def FOK (P : Program) (s f o : Nat) : Prop := ∀ (a : Addr) (w : World), (Instr.fieldAt s (.pointer (some a)) f).run P w = .ok (.pointer (some (a.add o))) w
def FTab.OK (P : Program) : FTab → Prop
  | [] => True
  | (s, f, o) :: r => FOK P s f o ∧ FTab.OK P r
theorem FTab.OK.get {P : Program} : ∀ {t : FTab}, t.OK P → ∀ {s f o}, t.get s f = some o → FOK P s f o
  | [], _, s, f, o, h => by simp [FTab.get] at h
  | (s0, f0, o0) :: r, ⟨h1, h2⟩, s, f, o, h => by
    simp only [FTab.get] at h
    cases hb : Nat.beq s0 s with
    | true =>
      rw [hb] at h
      cases hc : Nat.beq f0 f with
      | true =>
        rw [hc] at h
        obtain rfl := Nat.eq_of_beq_eq_true hb
        obtain rfl := Nat.eq_of_beq_eq_true hc
        injection h with h
        subst h
        exact h1
      | false => rw [hc] at h; exact FTab.OK.get h2 h
    | false => rw [hb] at h; exact FTab.OK.get h2 h
theorem FOK.mk {P : Program} {s f : Nat} {fs : Array Field} {fl : Field} {k : Nat} (hu : ∀ w, (underlying s).run P w = .ok (.struct fs) w) (hf : fs[f]? = some fl) (hz : ∀ w, (sizeOf fl.type).run P w = .ok (k + 1) w) {o : Nat} (ho : fl.offset = o) : FOK P s f o := by
  intro a w
  subst ho
  simp [Instr.fieldAt, hu, hf, Instr.sureAddr, fieldPlace, hz]
def pureV (ft : FTab) (e : Env) : Op → Option Value
  | .move x => e.ev x
  | .assign x => e.ev x
  | .extract x i => match e.ev x with
    | some (.tuple vs) => vs[i]?
    | _ => none
  | .unOp .not _ x => match e.ev x with
    | some (.bool b) => some (.bool (!b))
    | _ => none
  | .nilCheck x => match e.ev x with
    | some (.pointer (some a)) => some (.pointer (some a))
    | _ => none
  | .fieldAddr s x f => match e.ev x with
    | some (.pointer (some ⟨g, o, none⟩)) => match ft.get s f with
      | some k => some (.pointer (some ⟨g, o + k, none⟩))
      | none => none
    | _ => none
  | .binOp op _ x y _ => match e.ev x with
    | some (.int k a) => match e.ev y with
      | some (.int k' b) => match ksame k k' with
        | true => match cmpV op a b with
          | some r => some (.bool r)
          | none => none
        | false => none
      | _ => none
    | _ => none
  | _ => none
theorem cmpV_run {P : Program} {w : World} {op : BinOp} {a b : Int} {r : Bool} (h : cmpV op a b = some r) : (Op.intCmp op a b).run P w = .ok (.bool r) w := by
  cases op <;> cases h <;> rfl
theorem cmp_run {P : Program} {w : World} {op : BinOp} {k : IntKind} {a b : Int} {r : Bool} {t : TypeId} {x y : Operand} (h : cmpV op a b = some r) :
    (do eqGuard op t x y (.int k a) (.int k b); binOp op t (.int k a) (.int k b) : Sem Value).run P w = .ok (.bool r) w := by
  have h1 := cmpV_run (P := P) (w := w) h
  cases op <;> cases h <;> simpa [eqGuard, binOp] using h1
theorem pureV_run {P : Program} {n : Nat} {ft : FTab} {e : Env} {S : World → Prop} {d : Option Tmp} {op : Op} {ty : TypeId} {pos : String} {af : Array Edge} {g : Option (Nat × Bool)} {v : Value} (hft : ft.OK P) (h : pureV ft e op = some v) : Ex P n e S ⟨d, op, ty, pos, af, g⟩ v := by
  intro a w ha _
  unfold pureV at h
  split at h
  · simp [execOp, ha.ev h]
  · simp [execOp, ha.ev h]
  · split at h
    · rename_i vs hx
      simp [execOp, ha.ev hx, Instr.extract, h]
    · cases h
  · split at h
    · rename_i b hx
      injection h with h
      subst h
      simp [execOp, ha.ev hx, Op.unary]
    · cases h
  · split at h
    · rename_i p hx
      injection h with h
      subst h
      simp [execOp, ha.ev hx]
    · cases h
  · split at h
    · rename_i g' o' hx
      split at h
      · rename_i k hk
        injection h with h
        subst h
        have h1 := hft.get hk ⟨g', o', none⟩ w
        have h2 : (⟨g', o', none⟩ : Addr).add k = ⟨g', o' + k, none⟩ := by unfold Addr.add; split <;> simp_all
        simp [execOp, ha.ev hx, h1, h2]
      · cases h
    · cases h
  · split at h
    · rename_i k x hx
      split at h
      · rename_i k' y hy
        split at h
        · rename_i hk
          split at h
          · rename_i r hr
            injection h with h
            subst h
            obtain rfl := ksame_eq hk
            have h1 := cmpV_run (P := P) (w := w) hr
            simp only [execOp, ha.ev hx, ha.ev hy, Sem.run_bind]
            have h2 := fun t x y => cmp_run (P := P) (w := w) (k := k) (t := t) (x := x) (y := y) hr
            simp only [Sem.run_bind] at h2
            rw [h2]
            rfl
          · cases h
        · cases h
      · cases h
    · cases h
  · cases h
def runV (ft : FTab) (n : Nat) (ops : Array Oper) : Env → List Nat → Option Env
  | e, [] => some e
  | e, i :: is => match ops[i]? with
    | some ⟨some d, op, _, _, _, none⟩ => match Nat.blt d n with
      | true => match pureV ft e op with
        | some v => runV ft n ops ((d, v) :: e) is
        | none => none
      | false => none
    | _ => none
section
variable {P : Program} {n : Nat} {F0 : Nat → Prop} {w0 : World} {e e' : Env} {Rs Rf : List Res} {Q : Exit → Act → World → Prop} {ops : Array Oper} {ft : FTab}
theorem TL.run_ (hft : ft.OK P) : ∀ (is : List Nat) {e e' : Env} {l : List Nat}, runV ft n ops e is = some e' → TL P n F0 w0 ops l e' Rs Q → TL P n F0 w0 ops (is ++ l) e Rs Q
  | [], e, e', l, h, k => by
    injection h with h
    subst h
    exact k
  | i :: is, e, e', l, h, k => by
    unfold runV at h
    split at h
    · rename_i ho
      split at h
      · rename_i hd
        split at h
        · rename_i v hv
          exact TL.q ho .u (pureV_run hft hv) hd (TL.run_ hft is h k)
        · cases h
      · cases h
    · cases h
def Sch.qs : List Nat → Sch → Sch
  | [], s => s
  | i :: is, s => .q i (Sch.qs is s)
theorem TD.run_ (hft : ft.OK P) : ∀ (is : List Nat) {e e' : Env} {l : Sch}, runV ft n ops e is = some e' → TD P n F0 w0 ops l Rf e' Rs Q → TD P n F0 w0 ops (Sch.qs is l) Rf e Rs Q
  | [], e, e', l, h, k => by
    injection h with h
    subst h
    exact k
  | i :: is, e, e', l, h, k => by
    unfold runV at h
    split at h
    · rename_i ho
      split at h
      · rename_i hd
        split at h
        · rename_i v hv
          exact TD.q ho .u (pureV_run hft hv) hd (TD.run_ hft is h k)
        · cases h
      · cases h
    · cases h
theorem TL.run (hft : ft.OK P) (is : List Nat) {l l' : List Nat} (hl : l = is ++ l') (h : runV ft n ops e is = some e') (k : TL P n F0 w0 ops l' e' Rs Q) : TL P n F0 w0 ops l e Rs Q := hl ▸ TL.run_ hft is h k
theorem TD.run (hft : ft.OK P) (is : List Nat) {l l' : Sch} (hl : l = Sch.qs is l') (h : runV ft n ops e is = some e') (k : TD P n F0 w0 ops l' Rf e' Rs Q) : TD P n F0 w0 ops l Rf e Rs Q := hl ▸ TD.run_ hft is h k
end
end Go.Proofs.YtlhgogjcaegehaaGreat.Sl
namespace Go.Proofs.YtlhgogjcaegehaaGreat.Sl
open Go.RowKit
set_option linter.unusedVariables false
set_option linter.unusedSimpArgs false
section
variable {P : Program} {n : Nat} {F0 : Nat → Prop} {w0 : World} {e : Env} {Rs : List Res} {S : World → Prop} {d : Option Tmp} {ty : TypeId} {pos : String} {af : Array Edge} {gd : Option (Nat × Bool)} {v : Value} {x y ix : Operand} {t t' el : TypeId}
theorem Ex.ft {ft : FTab} {op : Op} (hft : ft.OK P) (h : pureV ft e op = some v) : Ex P n e S ⟨d, op, ty, pos, af, gd⟩ v := pureV_run hft h
theorem Ex.lenS {A : Option Addr} {m c : Nat} (hx : e.ev x = some (.slice A m c)) (hu : ∀ w, (underlying t).run P w = .ok (.slice el) w) : Ex P n e S ⟨d, .call ⟨.builtin .len, #[x], #[t]⟩, ty, pos, af, gd⟩ (.int .i64 (m : Int)) := by
  intro a w ha _
  simp [execOp, resolve, invoke, builtin, ha.ev hx, Builtin.len_, hu, goInt]
theorem Ex.lenB {l : List UInt8} (hx : e.ev x = some (.string (bsOf l))) (hu : ∀ w, (underlying t).run P w = .ok .string w) : Ex P n e S ⟨d, .call ⟨.builtin .len, #[x], #[t]⟩, ty, pos, af, gd⟩ (.int .i64 (l.length : Int)) := by
  intro a w ha _
  simp [execOp, resolve, invoke, builtin, ha.ev hx, Builtin.len_, hu, goInt, bsOf_size]
theorem Ex.add {p q : Int} (hx : e.ev x = some (.int .i64 p)) (hy : e.ev y = some (.int .i64 q)) (h : -9223372036854775808 ≤ p + q ∧ p + q ≤ 9223372036854775807) : Ex P n e S ⟨d, .binOp .add t x y t', ty, pos, af, gd⟩ (.int .i64 (p + q)) := by
  intro a w ha _
  simp [execOp, ha.ev hx, ha.ev hy, eqGuard, binOp, Op.intArith, IntWalk.i64_in _ h]
theorem Ex.sub {p q : Int} (hx : e.ev x = some (.int .i64 p)) (hy : e.ev y = some (.int .i64 q)) (h : -9223372036854775808 ≤ p - q ∧ p - q ≤ 9223372036854775807) : Ex P n e S ⟨d, .binOp .sub t x y t', ty, pos, af, gd⟩ (.int .i64 (p - q)) := by
  intro a w ha _
  simp [execOp, ha.ev hx, ha.ev hy, eqGuard, binOp, Op.intArith, IntWalk.i64_in _ h]
theorem Ex.mul {p q : Int} (hx : e.ev x = some (.int .i64 p)) (hy : e.ev y = some (.int .i64 q)) (h : -9223372036854775808 ≤ p * q ∧ p * q ≤ 9223372036854775807) : Ex P n e S ⟨d, .binOp .mul t x y t', ty, pos, af, gd⟩ (.int .i64 (p * q)) := by
  intro a w ha _
  simp [execOp, ha.ev hx, ha.ev hy, eqGuard, binOp, Op.intArith, IntWalk.i64_in _ h]
theorem Ex.addw {k : IntKind} {p q : Int} (hx : e.ev x = some (.int k p)) (hy : e.ev y = some (.int k q)) : Ex P n e S ⟨d, .binOp .add t x y t', ty, pos, af, gd⟩ (.int k (k.wrap (p + q))) := by
  intro a w ha _
  simp [execOp, ha.ev hx, ha.ev hy, eqGuard, binOp, Op.intArith]
theorem Ex.neg {p : Int} (hx : e.ev x = some (.int .i64 p)) (h : -9223372036854775808 ≤ -p ∧ -p ≤ 9223372036854775807) : Ex P n e S ⟨d, .unOp .neg t x, ty, pos, af, gd⟩ (.int .i64 (-p)) := by
  intro a w ha _
  have h2 := IntWalk.i64_in _ h
  simp [execOp, ha.ev hx, Op.unary, Op.intArith, h2]
theorem Ex.conv {k k' : IntKind} {p : Int} (hx : e.ev x = some (.int k' p)) (hs : ∀ w, (underlying t).run P w = .ok (.int k') w) (hu : ∀ w, (underlying t').run P w = .ok (.int k) w) : Ex P n e S ⟨d, .convert t t' x, ty, pos, af, gd⟩ (.int k (k.wrap p)) := by
  intro a w ha _
  simp [execOp, ha.ev hx, convert, hs, hu, Conv.intToInt]
theorem Ex.conv64 {p : Int} {k' : IntKind} (hx : e.ev x = some (.int k' p)) (hs : ∀ w, (underlying t).run P w = .ok (.int k') w) (hu : ∀ w, (underlying t').run P w = .ok (.int .i64) w) (h : -9223372036854775808 ≤ p ∧ p ≤ 9223372036854775807) : Ex P n e S ⟨d, .convert t t' x, ty, pos, af, gd⟩ (.int .i64 p) := by
  have := Ex.conv (P := P) (n := n) (S := S) (d := d) (ty := ty) (pos := pos) (af := af) (gd := gd) hx hs hu
  rwa [IntWalk.i64_in _ h] at this
theorem Ex.maxy {p q : Int} {k k' : IntKind} {ts : Array TypeId} (hx : e.ev x = some (.int k p)) (hy : e.ev y = some (.int k' q)) (h : p < q) : Ex P n e S ⟨d, .call ⟨.builtin .max, #[x, y], ts⟩, ty, pos, af, gd⟩ (.int k q) := by
  intro a w ha _
  simp [execOp, resolve, invoke, builtin, ha.ev hx, ha.ev hy, Builtin.max_, Builtin.max2, h]
theorem Ex.maxx {p q : Int} {k k' : IntKind} {ts : Array TypeId} (hx : e.ev x = some (.int k p)) (hy : e.ev y = some (.int k' q)) (h : ¬ p < q) : Ex P n e S ⟨d, .call ⟨.builtin .max, #[x, y], ts⟩, ty, pos, af, gd⟩ (.int k p) := by
  intro a w ha _
  simp [execOp, resolve, invoke, builtin, ha.ev hx, ha.ev hy, Builtin.max_, Builtin.max2, h]
theorem Ex.py {c : Operand} {b : Bool} (hc : e.ev c = some (.bool b)) (hb : b = true) (hx : e.ev x = some v) : Ex P n e S ⟨d, .pick c x y, ty, pos, af, gd⟩ v := by
  intro a w ha _
  subst hb
  simp [execOp, ha.ev hc, ha.ev hx, asBool]
theorem Ex.pn {c : Operand} {b : Bool} (hc : e.ev c = some (.bool b)) (hb : b = false) (hy : e.ev y = some v) : Ex P n e S ⟨d, .pick c x y, ty, pos, af, gd⟩ v := by
  intro a w ha _
  subst hb
  simp [execOp, ha.ev hc, ha.ev hy, asBool]
theorem Ex.sEq {l m : List UInt8} (hx : e.ev x = some (.string (bsOf l))) (hy : e.ev y = some (.string (bsOf m))) : Ex P n e S ⟨d, .binOp .eql t x y t', ty, pos, af, gd⟩ (.bool (decide (l = m))) := by
  intro a w ha _
  have : (l == m) = decide (l = m) := by by_cases h : l = m <;> simp [h]
  simp [execOp, ha.ev hx, ha.ev hy, eqGuard, binOp_string_eql, bsOf_toList, this]
theorem Ex.sNe {l m : List UInt8} (hx : e.ev x = some (.string (bsOf l))) (hy : e.ev y = some (.string (bsOf m))) : Ex P n e S ⟨d, .binOp .neq t x y t', ty, pos, af, gd⟩ (.bool (!decide (l = m))) := by
  intro a w ha _
  have : (l == m) = decide (l = m) := by by_cases h : l = m <;> simp [h]
  simp [execOp, ha.ev hx, ha.ev hy, eqGuard, binOp_string_neq, bsOf_toList, this]
theorem Ex.sGe {l m : List UInt8} (hx : e.ev x = some (.string (bsOf l))) (hy : e.ev y = some (.string (bsOf m))) : Ex P n e S ⟨d, .binOp .geq t x y t', ty, pos, af, gd⟩ (.bool (!Op.bytesLess l m)) := by
  intro a w ha _
  simp [execOp, ha.ev hx, ha.ev hy, eqGuard, binOp, Op.stringOp, bsOf_toList]
theorem Ex.sIx {l : List UInt8} {k : Nat} {i : Int} {c : UInt8} {q : IntKind} (hx : e.ev x = some (.string (bsOf l))) (hi : e.ev ix = some (.int q i)) (hik : i = (k : Int)) (hu : P.underlying t = some .string) (hc : l[k]? = some c) : Ex P n e S ⟨d, .index t x ix, ty, pos, af, gd⟩ (.int .u8 (c.toNat : Int)) := by
  intro a w ha _
  subst hik
  have hk := (List.getElem?_eq_some_iff.1 hc).1
  have h1 : (0 : Int) ≤ (k : Int) ∧ (k : Int) < ((bsOf l).size : Int) := by rw [bsOf_size]; omega
  have h2 : (bsOf l)[k]'(by rw [bsOf_size]; exact hk) = c := by
    have : l[k] = c := (List.getElem?_eq_some_iff.1 hc).2
    show (bsOf l).data[k] = c
    simpa [bsOf] using this
  simp only [execOp, ha.ev hx, ha.ev hi, Sem.run_bind, run_index_string w t (bsOf l) q k hu]
  rw [dif_pos h1]
  simp [h2]
inductive LoOK (e : Env) : Option Operand → Nat → Prop where
  | none : LoOK e none 0
  | some {o : Operand} {k : IntKind} {i : Int} {p : Nat} (h : e.ev o = some (.int k i)) (hi : i = (p : Int)) : LoOK e (some o) p
inductive HiOK (e : Env) (n : Nat) : Option Operand → Nat → Prop where
  | none : HiOK e n none n
  | some {o : Operand} {k : IntKind} {i : Int} {p : Nat} (h : e.ev o = some (.int k i)) (hi : i = (p : Int)) : HiOK e n (some o) p
theorem Ex.sSl {l : List UInt8} {lo hi : Option Operand} {p q : Nat} (hx : e.ev x = some (.string (bsOf l))) (hu : ∀ w, (underlying t).run P w = .ok .string w)
    (hlo : LoOK e lo p) (hhi : HiOK e l.length hi q) (h : p ≤ q ∧ q ≤ l.length) {m : List UInt8} (hm : (l.drop p).take (q - p) = m) :
    Ex P n e S ⟨d, .slice t x lo hi none, ty, pos, af, gd⟩ (.string (bsOf m)) := by
  intro a w ha _
  have e1 : (bsOf l).extract p q = bsOf m := by rw [str_extract, bsOf_list, hm]
  have b1 : ∀ k cd, (Instr.sliceBound (.int k (q : Int)) l.length cd).run P w = .ok q w := by
    intro k cd
    have : (0 : Int) ≤ (q : Int) ∧ (q : Int) ≤ (l.length : Int) := by omega
    simp [Instr.sliceBound, asIntOf, this]
  have b2 : ∀ k cd, (Instr.sliceBound (.int k (p : Int)) q cd).run P w = .ok p w := by
    intro k cd
    have : (0 : Int) ≤ (p : Int) ∧ (p : Int) ≤ (q : Int) := by omega
    simp [Instr.sliceBound, asIntOf, this]
  cases hlo with
  | none =>
    cases hhi with
    | none =>
      obtain rfl : l = m := by simpa using hm
      have e2 : (bsOf l).extract 0 l.length = bsOf l := by simpa using e1
      simp [execOp, ha.ev hx, Instr.sliceAt, Instr.slice, hu, Instr.sliceBounds, bsOf_size, e2]
    | some ho hi =>
      subst hi
      simp [execOp, ha.ev hx, ha.ev ho, Instr.sliceAt, Instr.slice, hu, Instr.sliceBounds, bsOf_size, b1, e1]
  | some ho hi =>
    subst hi
    cases hhi with
    | none =>
      simp [execOp, ha.ev hx, ha.ev ho, Instr.sliceAt, Instr.slice, hu, Instr.sliceBounds, bsOf_size, b2, e1]
    | some ho' hi' =>
      subst hi'
      simp [execOp, ha.ev hx, ha.ev ho, ha.ev ho', Instr.sliceAt, Instr.slice, hu, Instr.sliceBounds, bsOf_size, b1, b2, e1]
theorem Ex.ixS {g o m c z k : Nat} {i : Int} {q : IntKind} (hx : e.ev x = some (.slice (some ⟨g, o, none⟩) m c)) (hi : e.ev ix = some (.int q i)) (hik : i = (k : Int)) (hu : ∀ w, (underlying t).run P w = .ok (.slice el) w) (hz : ∀ w, (sizeOf el).run P w = .ok z w) (hk : k < m) :
    Ex P n e S ⟨d, .indexAddr t x ix, ty, pos, af, gd⟩ (.pointer (some ⟨g, o + k * z, none⟩)) := by
  intro a w ha _
  subst hik
  have h1 : (0 : Int) ≤ (k : Int) ∧ (k : Int) < (m : Int) := by omega
  have h2 : (⟨g, o, none⟩ : Addr).add (k * z) = ⟨g, o + k * z, none⟩ := by unfold Addr.add; split <;> simp_all
  have h3 : (Instr.indexAt t (.slice (some ⟨g, o, none⟩) m c) (.int q (k : Int))).run P w = .ok (.pointer (some ⟨g, o + k * z, none⟩)) w := by
    simp only [Instr.indexAt, asIntOf, Sem.run_bind, Sem.run_pure, Result.andThen_ok, hu]
    rw [if_pos h1]
    simp [hz, h2]
  simp [execOp, ha.ev hx, ha.ev hi, h3]
theorem run_loadVar1 {w : World} {ad : Addr} (ha : ∀ w, (isAgg t).run P w = .ok false w) (hc : w.cell? ad = some v) : (loadVar t ad).run P w = .ok v w := by
  simp [loadVar, ha, hc]
theorem run_loadVarS {w : World} {ad : Addr} {cs : List Value} (ha : ∀ w, (isAgg t).run P w = .ok true w) (hz : ∀ w, (sizeOf t).run P w = .ok cs.length w) (hc : ∀ j u, cs[j]? = some u → w.cell? (ad.add j) = some u) : (loadVar t ad).run P w = .ok (.agg cs.toArray) w := by
  simp [loadVar, ha, hz, run_loadCells_list w ad cs hc]
theorem Ex.ld1 {ad : Addr} (hx : e.ev x = some (.pointer (some ad))) (ha : ∀ w, (isAgg t).run P w = .ok false w) (hc : ∀ w, S w → w.cell? ad = some v) : Ex P n e S ⟨d, .load t x, ty, pos, af, gd⟩ v := by
  intro a w h hs
  simp [execOp, h.ev hx, Instr.loadAt, Instr.sureAddr, run_loadVar1 ha (hc w hs)]
theorem Ex.ldS {ad : Addr} {cs : List Value} {z : Nat} (hx : e.ev x = some (.pointer (some ad))) (ha : ∀ w, (isAgg t).run P w = .ok true w) (hz : ∀ w, (sizeOf t).run P w = .ok z w) (hl : cs.length = z) (hc : ∀ w, S w → ∀ j u, cs[j]? = some u → w.cell? (ad.add j) = some u) : Ex P n e S ⟨d, .load t x, ty, pos, af, gd⟩ (.agg cs.toArray) := by
  intro a w h hs
  subst hl
  simp [execOp, h.ev hx, Instr.loadAt, Instr.sureAddr, run_loadVarS ha hz (hc w hs)]
theorem Ex.b1 (i : Nat) {b o : Nat} {T : TypeId} {cs : Array Value} (hx : e.ev x = some (.pointer (some ⟨b, o, none⟩))) (ha : ∀ w, (isAgg t).run P w = .ok false w) (hi : Rs[i]? = some (BlkR b T cs)) (hv : cs[o]? = some v) : Ex P n e (St F0 w0 Rs) ⟨d, .load t x, ty, pos, af, gd⟩ v :=
  Ex.ld1 hx ha (fun w hw => (heap_at (hw.blk i hi) o).trans hv)
theorem Ex.bS (i : Nat) {b o z : Nat} {T : TypeId} {cs : Array Value} {us : List Value} (hx : e.ev x = some (.pointer (some ⟨b, o, none⟩))) (ha : ∀ w, (isAgg t).run P w = .ok true w) (hz : ∀ w, (sizeOf t).run P w = .ok z w) (hi : Rs[i]? = some (BlkR b T cs))
    (hv : (cs.toList.drop o).take z = us) (hl : Nat.beq us.length z = true) : Ex P n e (St F0 w0 Rs) ⟨d, .load t x, ty, pos, af, gd⟩ (.agg us.toArray) := by
  refine Ex.ldS hx ha hz (Nat.eq_of_beq_eq_true hl) (fun w hw j u hj => ?_)
  have h2 : (⟨b, o, none⟩ : Addr).add j = ⟨b, o + j, none⟩ := by unfold Addr.add; split <;> simp_all
  rw [h2, heap_at (hw.blk i hi)]
  subst hv
  rw [List.getElem?_take] at hj
  split at hj
  · rw [List.getElem?_drop] at hj
    simpa using hj
  · cases hj
theorem Ex.o1 {g q z : Nat} (j : Nat) {cs : List Value} (hx : e.ev x = some (.pointer (some ⟨g, q + j, none⟩))) (ha : ∀ w, (isAgg t).run P w = .ok false w) (nf : ¬ F0 g ∧ g < w0.heap.size) (hc : ∀ j, j < z → w0.cell? ⟨g, q + j, none⟩ = cs[j]?) (hj : Nat.blt j z = true) (hv : cs[j]? = some v) :
    Ex P n e (St F0 w0 Rs) ⟨d, .load t x, ty, pos, af, gd⟩ v :=
  Ex.ld1 hx ha (fun w hw => hw.old2 nf ((hc j (by simpa [Nat.blt_eq] using hj)).trans hv))
theorem Ex.oS {g q z z' : Nat} (k : Nat) {cs us : List Value} (hx : e.ev x = some (.pointer (some ⟨g, q + k, none⟩))) (ha : ∀ w, (isAgg t).run P w = .ok true w) (hz : ∀ w, (sizeOf t).run P w = .ok z' w) (nf : ¬ F0 g ∧ g < w0.heap.size) (hc : ∀ j, j < z → w0.cell? ⟨g, q + j, none⟩ = cs[j]?) (hcl : cs.length = z)
    (hv : (cs.drop k).take z' = us) (hl : Nat.beq us.length z' = true) : Ex P n e (St F0 w0 Rs) ⟨d, .load t x, ty, pos, af, gd⟩ (.agg us.toArray) := by
  refine Ex.ldS hx ha hz (Nat.eq_of_beq_eq_true hl) (fun w hw j u hj => ?_)
  have h2 : (⟨g, q + k, none⟩ : Addr).add j = ⟨g, q + (k + j), none⟩ := by unfold Addr.add; split <;> simp_all [Nat.add_assoc]
  rw [h2]
  subst hv
  rw [List.getElem?_take] at hj
  split at hj
  · rw [List.getElem?_drop] at hj
    have hlt := (List.getElem?_eq_some_iff.1 hj).1
    exact hw.old2 nf ((hc (k + j) (by omega)).trans hj)
  · cases hj
def BOK (P : Program) (t : TypeId) (zs : Array Value) (pl : List (Nat × Nat)) : Prop := ∀ (parts : Array (Nat × Value)) (cells : Array Value) (w : World), Instr.fill (pl[·]?) zs parts.toList = some cells → (Instr.build t parts).run P w = .ok (.agg cells) w
theorem Ex.bld {zs cells : Array Value} {pl : List (Nat × Nat)} {ps : List (Nat × Operand)} {vs : List Value} (hB : BOK P t zs pl) (hv : e.evs (ps.map (·.2)) = some vs) (hf : Instr.fill (pl[·]?) zs ((ps.map (·.1)).zip vs) = some cells) : Ex P n e S ⟨d, .build t ps.toArray, ty, pos, af, gd⟩ (.agg cells) := by
  intro a w ha _
  have h1 := ha.evs hv
  have h2 : ps.map (fun p => (p.1, a.eval p.2)) = (ps.map (·.1)).zip vs := by
    rw [← h1]
    clear h1 hf hv
    induction ps with
    | nil => rfl
    | cons p ps ih => simp [ih]
  have h3 := hB (ps.map (fun p => (p.1, a.eval p.2))).toArray cells w (by simpa [h2] using hf)
  simp only [execOp, List.map_toArray, Sem.run_bind]
  rw [h3]
  rfl
end
end Go.Proofs.YtlhgogjcaegehaaGreat.Sl
