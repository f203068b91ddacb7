/- Owned memory in parts: resources, kept apart, and calls that turn one of them (no program in it). -/
import Derived.WalkKit
import Derived.Below
import Derived.Laws.OwnMore
import Derived.Deep.Draws
import Derived.Laws.Rows
import Derived.Lib.Hide
namespace Go.Proofs.Ytdlpmcbglmgpiaa.Sl
open Go.RowKit
set_option linter.unusedVariables false

/-- w' is as w but for the blocks of F, and new ones. -/
structure Fr (F : Nat → Prop) (w w' : World) : Prop where
  os : w'.os = w.os
  tape : w'.tape = w.tape
  output : w'.output = w.output
  size : w.heap.size ≤ w'.heap.size
  block : ∀ k, k < w.heap.size → ¬ F k → w'.heap[k]? = w.heap[k]?
theorem Fr.refl (F : Nat → Prop) (w : World) : Fr F w w := ⟨rfl, rfl, rfl, Nat.le_refl _, fun _ _ _ => rfl⟩
theorem Fr.trans {F G : Nat → Prop} {a b c : World} (h : Fr F a b) (k : Fr G b c) (hg : ∀ k, G k → F k ∨ a.heap.size ≤ k) : Fr F a c :=
  ⟨k.os.trans h.os, k.tape.trans h.tape, k.output.trans h.output, Nat.le_trans h.size k.size, fun i hi hn =>
    (k.block i (Nat.lt_of_lt_of_le hi h.size) (fun h2 => (hg i h2).elim hn (fun h3 => by omega))).trans (h.block i hi hn)⟩
theorem Fr.of_below {F : Nat → Prop} {w w' : World} (h : Below w.heap.size w w') : Fr F w w' := ⟨h.os, h.tape, h.output, h.size, fun k hk _ => h.block k hk⟩
theorem Fr.below {w w' : World} (h : Fr (fun _ => False) w w') : Below w.heap.size w w' := ⟨h.os, h.tape, h.output, h.size, fun k hk => h.block k hk (fun h => h)⟩
theorem Fr.of_grown {F : Nat → Prop} {w w' : World} {row : Option Nat} (h : w.grownBy w' row) (hr : ∀ k, row = some k → F k) : Fr F w w' :=
  ⟨h.os, h.tape, h.output, h.size, fun k hk hn => h.block k hk (fun e => hn (hr k e.symm))⟩
theorem Fr.mono {F G : Nat → Prop} {w w' : World} (h : Fr F w w') (hg : ∀ k, F k → G k) : Fr G w w' := ⟨h.os, h.tape, h.output, h.size, fun k hk hn => h.block k hk (fun h2 => hn (hg k h2))⟩
theorem Fr.alloc {F : Nat → Prop} {w w' : World} (h : Fr F w w') (o : Obj) : Fr F w (w'.alloc o) :=
  h.trans (Fr.of_below (F := fun _ => False) ((Below.refl _ _).alloc (Nat.le_refl _) o)) (fun _ h => h.elim)
theorem Fr.drew {F : Nat → Prop} {w w' : World} (h : Fr F w w') : Fr F w w'.drew := ⟨h.os, h.tape, h.output, h.size, h.block⟩
theorem Fr.drewN {F : Nat → Prop} {w w' : World} (h : Fr F w w') (n : Nat) : Fr F w (w'.drewN n) := ⟨h.os, h.tape, h.output, h.size, h.block⟩
theorem Fr.set {F : Nat → Prop} {w w' : World} (h : Fr F w w') {p : Addr} (hp : F p.block ∨ w.heap.size ≤ p.block) (u : Value) : Fr F w (w'.setCell p u) :=
  h.trans (G := fun k => k = p.block) ⟨rfl, rfl, rfl, by simp [World.setCell], fun k _ hn => Below.heap_setCell _ _ _ _ hn⟩ (fun k hk => by rw [hk]; exact hp)

/-- A resource: what it says of the world, and on which blocks it hangs. -/
structure Res where
  P : World → (Nat → Prop) → Prop
  lt : ∀ {w : World} {G : Nat → Prop}, P w G → ∀ k, G k → k < w.heap.size
  move : ∀ {w w' : World} {G : Nat → Prop}, P w G → (∀ k, G k → w'.heap[k]? = w.heap[k]?) → P w' G

/-- Resources, each on blocks of its own, all in F. -/
def Sep : List Res → World → (Nat → Prop) → Prop
  | [], _, _ => True
  | R :: Rs, w, F => ∃ G, R.P w G ∧ (∀ k, G k → F k) ∧ Sep Rs w (fun k => F k ∧ ¬ G k)
theorem Sep.mono : ∀ {Rs : List Res} {w : World} {F F' : Nat → Prop}, Sep Rs w F → (∀ k, F k → F' k) → Sep Rs w F'
  | [], _, _, _, _, _ => trivial
  | _ :: _, _, _, _, ⟨G, h1, h2, h3⟩, hf => ⟨G, h1, fun k hk => hf k (h2 k hk), h3.mono (fun k hk => ⟨hf k hk.1, hk.2⟩)⟩
theorem Sep.inside : ∀ {Rs : List Res} {w : World} {F : Nat → Prop}, Sep Rs w F → Sep Rs w (fun k => F k ∧ k < w.heap.size)
  | [], _, _, _ => trivial
  | R :: _, _, _, ⟨G, h1, h2, h3⟩ => ⟨G, h1, fun k hk => ⟨h2 k hk, R.lt h1 k hk⟩, h3.inside.mono (fun k hk => ⟨⟨hk.1.1, hk.2⟩, hk.1.2⟩)⟩
theorem Sep.move_ : ∀ {Rs : List Res} {w w' : World} {F : Nat → Prop}, Sep Rs w F → (∀ k, F k → w'.heap[k]? = w.heap[k]?) → Sep Rs w' F
  | [], _, _, _, _, _ => trivial
  | R :: _, _, _, _, ⟨G, h1, h2, h3⟩, hm => ⟨G, R.move h1 (fun k hk => hm k (h2 k hk)), h2, h3.move_ (fun k hk => hm k hk.1)⟩
theorem Sep.move {Rs : List Res} {w w' : World} {F : Nat → Prop} (h : Sep Rs w F) (hm : ∀ k, F k → k < w.heap.size → w'.heap[k]? = w.heap[k]?) : Sep Rs w' F :=
  (h.inside.move_ (fun k hk => hm k hk.1 hk.2)).mono (fun _ hk => hk.1)
theorem Sep.swap {A B : Res} {Rs : List Res} {w : World} {F : Nat → Prop} (h : Sep (A :: B :: Rs) w F) : Sep (B :: A :: Rs) w F := by
  obtain ⟨G, h1, h2, G', h3, h4, h5⟩ := h
  exact ⟨G', h3, fun k hk => (h4 k hk).1, G, h1, fun k hk => ⟨h2 k hk, fun h => (h4 k h).2 hk⟩, h5.mono (fun k hk => ⟨⟨hk.1.1, hk.2⟩, hk.1.2⟩)⟩
/-- The i-th one, taken out. -/
theorem Sep.pick : ∀ {Rs : List Res} (i : Nat) {A : Res} {w : World} {F : Nat → Prop}, Rs[i]? = some A → Sep Rs w F → ∃ G, A.P w G ∧ (∀ k, G k → F k) ∧ Sep (Rs.eraseIdx i) w (fun k => F k ∧ ¬ G k)
  | [], i, _, _, _, hi, _ => by simp at hi
  | R :: Rs, 0, A, w, F, hi, h => by
    have e : R = A := by simpa using hi
    subst e
    exact h
  | R :: Rs, i + 1, A, w, F, hi, ⟨G, h1, h2, h3⟩ => by
    obtain ⟨G', k1, k2, k3⟩ := Sep.pick i (by simpa using hi) h3
    exact ⟨G', k1, fun k hk => (k2 k hk).1, G, h1, fun k hk => ⟨h2 k hk, fun h => (k2 k h).2 hk⟩, k3.mono (fun k hk => ⟨⟨hk.1.1, hk.2⟩, hk.1.2⟩)⟩
/-- Put back at its place. -/
theorem Sep.back : ∀ {Rs : List Res} (i : Nat) {A A' : Res} {w : World} {F G : Nat → Prop}, Rs[i]? = some A → A'.P w G → (∀ k, G k → F k) → Sep (Rs.eraseIdx i) w (fun k => F k ∧ ¬ G k) → Sep (Rs.set i A') w F
  | [], i, _, _, _, _, _, hi, _, _, _ => by simp at hi
  | R :: Rs, 0, A, A', w, F, G, hi, h1, h2, h3 => ⟨G, h1, h2, h3⟩
  | R :: Rs, i + 1, A, A', w, F, G, hi, h1, h2, ⟨G', k1, k2, k3⟩ =>
    ⟨G', k1, fun k hk => (k2 k hk).1, Sep.back i (by simpa using hi) h1 (fun k hk => ⟨h2 k hk, fun h => (k2 k h).2 hk⟩) (k3.mono (fun k hk => ⟨⟨hk.1.1, hk.2⟩, hk.1.2⟩))⟩
theorem Sep.append : ∀ {Ns Rs : List Res} {w : World} {F G : Nat → Prop}, Sep Ns w G → Sep Rs w (fun k => F k ∧ ¬ G k) → (∀ k, G k → F k) → Sep (Ns ++ Rs) w F
  | [], _, _, _, _, _, h, _ => h.mono (fun _ hk => hk.1)
  | N :: Ns, Rs, w, F, G, ⟨H, h1, h2, h3⟩, h, hg =>
    ⟨H, h1, fun k hk => hg k (h2 k hk), Sep.append h3 (h.mono (fun k hk => ⟨⟨hk.1, fun h4 => hk.2 (h2 k h4)⟩, fun h4 => hk.2 h4.1⟩)) (fun k hk => ⟨hg k hk.1, hk.2⟩)⟩

theorem Sep.one {R : Res} {w : World} {F : Nat → Prop} (h : R.P w F) : Sep [R] w F := ⟨F, h, fun _ h => h, trivial⟩

/-- Since w0, in which the blocks of F0 may be turned: what is in F0 and what is new are these resources, at least. -/
structure St (F0 : Nat → Prop) (w0 : World) (Rs : List Res) (w : World) : Prop where
  fr : Fr F0 w0 w
  sep : Sep Rs w (fun k => F0 k ∨ w0.heap.size ≤ k)
section
variable {F0 : Nat → Prop} {w0 w w' : World} {Rs : List Res} {A A' : Res}
theorem St.start (F0 : Nat → Prop) (w : World) (h : Sep Rs w F0) : St F0 w Rs w := ⟨Fr.refl _ _, h.mono (fun _ hk => .inl hk)⟩
theorem St.nil_ (w : World) : St (fun _ => False) w [] w := ⟨Fr.refl _ _, trivial⟩
theorem St.drew (h : St F0 w0 Rs w) : St F0 w0 Rs w.drew := ⟨h.fr.drew, h.sep.move (fun _ _ _ => rfl)⟩
theorem St.drewN (h : St F0 w0 Rs w) (n : Nat) : St F0 w0 Rs (w.drewN n) := ⟨h.fr.drewN n, h.sep.move (fun _ _ _ => rfl)⟩
theorem St.drop_ (h : St F0 w0 (A :: Rs) w) : St F0 w0 Rs w := by
  obtain ⟨f, G, _, _, h3⟩ := h
  exact ⟨f, h3.mono (fun _ hk => hk.1)⟩
theorem St.del (i : Nat) (h : St F0 w0 Rs w) (hi : Rs[i]? = some A) : St F0 w0 (Rs.eraseIdx i) w := by
  obtain ⟨f, hs⟩ := h
  obtain ⟨G, _, _, h3⟩ := Sep.pick i hi hs
  exact ⟨f, h3.mono (fun _ hk => hk.1)⟩
theorem St.weaken (i : Nat) (h : St F0 w0 Rs w) (hi : Rs[i]? = some A) (hA : ∀ G, A.P w G → A'.P w G) : St F0 w0 (Rs.set i A') w := by
  obtain ⟨f, hs⟩ := h
  obtain ⟨G, h1, h2, h3⟩ := Sep.pick i hi hs
  exact ⟨f, Sep.back i hi (hA _ h1) h2 h3⟩
/-- What one of them says, now. -/
theorem St.get (i : Nat) (h : St F0 w0 Rs w) (hi : Rs[i]? = some A) : ∃ G, A.P w G ∧ (∀ k, G k → F0 k ∨ w0.heap.size ≤ k) := by
  obtain ⟨G, h1, h2, _⟩ := Sep.pick i hi h.sep
  exact ⟨G, h1, h2⟩
/-- One of them is turned, and new ones come. -/
theorem St.step (i : Nat) (h : St F0 w0 Rs w) (hi : Rs[i]? = some A) {Ns : List Res}
    (hs : ∀ G, A.P w G → Fr G w w' ∧ Sep (A' :: Ns) w' (fun k => G k ∨ w.heap.size ≤ k)) : St F0 w0 (Ns ++ Rs.set i A') w' := by
  obtain ⟨f, hp⟩ := h
  obtain ⟨G, h1, h2, h3⟩ := Sep.pick i hi hp
  obtain ⟨f2, G2, k1, k2, k3⟩ := hs G h1
  refine ⟨f.trans f2 h2, ?_⟩
  have hle := f.size
  have hR : Sep (Rs.eraseIdx i) w' (fun k => ((F0 k ∨ w0.heap.size ≤ k) ∧ ¬ G k) ∧ k < w.heap.size) := h3.inside.move (fun k hk _ => f2.block k hk.2 hk.1.2)
  refine Sep.append k3 (F := fun k => F0 k ∨ w0.heap.size ≤ k) (Sep.back i hi k1 (fun k hk => ⟨?_, fun hn => hn.2 hk⟩) (hR.mono (fun k hk => ⟨⟨hk.1.1, ?_⟩, ?_⟩))) ?_
  · rcases k2 k hk with h4 | h4
    · exact h2 k h4
    · exact .inr (by omega)
  · rintro ⟨h4 | h4, _⟩
    · exact hk.1.2 h4
    · have := hk.2; omega
  · intro h4
    rcases k2 k h4 with h5 | h5
    · exact hk.1.2 h5
    · have := hk.2; omega
  · rintro k ⟨h4 | h4, _⟩
    · exact h2 k h4
    · exact .inr (by omega)
/-- None of them is turned, and new ones come. -/
theorem St.grow (h : St F0 w0 Rs w) {Ns : List Res} (f2 : Fr (fun _ => False) w w') (k3 : Sep Ns w' (fun k => w.heap.size ≤ k)) : St F0 w0 (Ns ++ Rs) w' := by
  obtain ⟨f, hp⟩ := h
  have hle := f.size
  refine ⟨f.trans f2 (fun _ h => h.elim), Sep.append k3 ((hp.inside.move (fun k hk _ => f2.block k hk.2 (fun h => h))).mono (fun k hk => ⟨hk.1, by have := hk.2; omega⟩)) (fun k hk => .inr (by omega))⟩
theorem St.below (h : St (fun _ => False) w0 Rs w) : Below w0.heap.size w0 w := h.fr.below
end

/-- A block that is known whole. -/
def BlkR (b : Nat) (T : TypeId) (cs : Array Value) : Res where
  P := fun w G => w.heap[b]? = some (.cells cs T (0, 0)) ∧ ∀ k, G k ↔ k = b
  lt := fun h k hk => by
    rw [(h.2 k).1 hk]
    exact (Array.getElem?_eq_some_iff.1 h.1).1
  move := fun h hm => ⟨(hm _ ((h.2 _).2 rfl)).trans h.1, h.2⟩
section
variable {F0 : Nat → Prop} {w0 w w' : World} {Rs : List Res} {b : Nat} {T : TypeId} {cs : Array Value}
theorem heap_at (h : w.heap[b]? = some (.cells cs T (0, 0))) (i : Nat) : w.cell? ⟨b, i, none⟩ = cs[i]? := cell_of_row w b i cs T (0, 0) h
theorem heap_free (h : w.heap[b]? = some (.cells cs T (0, 0))) (i : Nat) : w.frozen? ⟨b, i, none⟩ = false := by simp [World.frozen?, h]
theorem heap_set (h : w.heap[b]? = some (.cells cs T (0, 0))) (i : Nat) (u : Value) : (w.setCell ⟨b, i, none⟩ u).heap[b]? = some (.cells (cs.setIfInBounds i u) T (0, 0)) := by
  simp [World.setCell, Array.getElem?_modify, h]
theorem heap_lt {o : Obj} (h : w.heap[b]? = some o) : b < w.heap.size := (Array.getElem?_eq_some_iff.1 h).1
theorem St.blk (i : Nat) (h : St F0 w0 Rs w) (hi : Rs[i]? = some (BlkR b T cs)) : w.heap[b]? = some (.cells cs T (0, 0)) := by
  obtain ⟨G, h1, _⟩ := h.get i hi
  exact h1.1
theorem St.alloc (h : St F0 w0 Rs w) (cs : Array Value) (T : TypeId) : St F0 w0 (BlkR w.heap.size T cs :: Rs) (w.alloc (.cells cs T)) :=
  h.grow (Ns := [BlkR w.heap.size T cs]) (Fr.of_below ((Below.refl _ _).alloc (Nat.le_refl _) _)) ⟨fun k => k = w.heap.size, ⟨heap_alloc_new w _, fun _ => Iff.rfl⟩, fun k hk => by omega, trivial⟩
theorem St.set (i : Nat) (h : St F0 w0 Rs w) (hi : Rs[i]? = some (BlkR b T cs)) (j : Nat) (u : Value) : St F0 w0 (Rs.set i (BlkR b T (cs.setIfInBounds j u))) (w.setCell ⟨b, j, none⟩ u) := by
  refine h.step i hi (Ns := []) (fun G hG => ⟨?_, G, ⟨heap_set hG.1 j u, hG.2⟩, fun k hk => .inl hk, trivial⟩)
  exact (Fr.refl G w).set (p := ⟨b, j, none⟩) (.inl ((hG.2 b).2 rfl)) u
end

def Post (Q : Value → Res → List Res → Prop) (F : Nat → Prop) (w : World) (e : Ending) (w' : World) : Prop := ∃ v A' Ns, e = .returned v ∧ Q v A' Ns ∧ St F w (A' :: Ns) w'
def Post0 (Q : Value → List Res → Prop) (w : World) (e : Ending) (w' : World) : Prop := ∃ v Ns, e = .returned v ∧ Q v Ns ∧ St (fun _ => False) w Ns w'
/-- A call that turns one resource: from A to A', new ones beside it. -/
def Spec (P : Program) (f : FuncId) (args : Array Value) (A : Res) (Q : Value → Res → List Res → Prop) : Prop :=
  ∀ F w, A.P w F → Calls P f args w (Post Q F w)
/-- A call that turns none. -/
def Spec0 (P : Program) (f : FuncId) (args : Array Value) (Q : Value → List Res → Prop) : Prop :=
  ∀ w, Calls P f args w (Post0 Q w)
section
variable {P : Program} {f : FuncId} {args : Array Value} {F0 : Nat → Prop} {w0 w : World} {Rs : List Res} {A : Res}
theorem St.call {Q : Value → Res → List Res → Prop} (i : Nat) (h : St F0 w0 Rs w) (hi : Rs[i]? = some A) (hs : Spec P f args A Q) :
    Calls P f args w fun e w' => ∃ v A' Ns, e = .returned v ∧ Q v A' Ns ∧ St F0 w0 (Ns ++ Rs.set i A') w' := by
  obtain ⟨G0, hG0, hsub⟩ := h.get i hi
  obtain ⟨G, h1, h2, h3⟩ := Sep.pick i hi h.sep
  refine (hs G w h1).mono ?_
  rintro e w' ⟨v, A', Ns, rfl, hq, hst⟩
  refine ⟨v, A', Ns, rfl, hq, ?_⟩
  obtain ⟨f2, G2, k1, k2, k3⟩ := hst
  have f := h.fr
  refine ⟨f.trans f2 h2, ?_⟩
  have hle := f.size
  have hR : Sep (Rs.eraseIdx i) w' (fun k => ((F0 k ∨ w0.heap.size ≤ k) ∧ ¬ G k) ∧ k < w.heap.size) := h3.inside.move (fun k hk _ => f2.block k hk.2 hk.1.2)
  refine Sep.append k3 (F := fun k => F0 k ∨ w0.heap.size ≤ k) (Sep.back i hi k1 (fun k hk => ⟨?_, fun hn => hn.2 hk⟩) (hR.mono (fun k hk => ⟨⟨hk.1.1, ?_⟩, ?_⟩))) ?_
  · rcases k2 k hk with h4 | h4
    · exact h2 k h4
    · exact .inr (by omega)
  · rintro ⟨h4 | h4, _⟩
    · exact hk.1.2 h4
    · have := hk.2; omega
  · intro h4
    rcases k2 k h4 with h5 | h5
    · exact hk.1.2 h5
    · have := hk.2; omega
  · rintro k ⟨h4 | h4, _⟩
    · exact h2 k h4
    · exact .inr (by omega)
theorem St.call0 {Q : Value → List Res → Prop} (h : St F0 w0 Rs w) (hs : Spec0 P f args Q) :
    Calls P f args w fun e w' => ∃ v Ns, e = .returned v ∧ Q v Ns ∧ St F0 w0 (Ns ++ Rs) w' := by
  refine (hs w).mono ?_
  rintro e w' ⟨v, Ns, rfl, hq, hst⟩
  refine ⟨v, Ns, rfl, hq, h.grow hst.fr (hst.sep.mono (fun k hk => hk.elim (fun h => h.elim) id))⟩
end
end Go.Proofs.Ytdlpmcbglmgpiaa.Sl
