/- An owned row (a slice) as a resource (no program in it). -/
import Derived.Test.YtdlpmcbglmgpiaaB
namespace Go.Proofs.Ytdlpmcbglmgpiaa.Sl
open Go.RowKit
set_option linter.unusedVariables false

def RowR (T : TypeId) (size : Nat) (v : Value) (n : Nat) (xs : List Value) : Res where
  P := fun w G => w.ownsRow 0 T size v n xs ∧ ∀ k, G k ↔ v.ownBlock = some k
  lt := by
    rintro w G ⟨h1, h2⟩ k hk
    exact row_lt h1 k ((h2 k).1 hk)
  move := by
    rintro w w' G ⟨h1, h2⟩ hm
    exact ⟨row_move h1 (fun k hk => hm k ((h2 k).2 hk)), h2⟩
section
variable {F0 : Nat → Prop} {w0 w w1 : World} {Rs : List Res} {T : TypeId} {size n : Nat} {v v1 : Value} {xs ys : List Value}
theorem RowR.row (i : Nat) (h : St F0 w0 Rs w) (hi : Rs[i]? = some (RowR T size v n xs)) : w.ownsRow 0 T size v n xs := (h.get i hi).choose_spec.1.1
theorem RowR.nil (T : TypeId) (size : Nat) (h : St F0 w0 Rs w) : St F0 w0 (RowR T size (.slice none 0 0) 0 [] :: Rs) w :=
  h.grow (Ns := [RowR T size (.slice none 0 0) 0 []]) (Fr.refl _ _) ⟨fun _ => False, ⟨World.ownsRow_nil _ _ _ _, fun k => by simp [Value.ownBlock]⟩, fun _ h => h.elim, trivial⟩
theorem RowR.lit (h : St F0 w0 Rs w) (cs : Array Value) (n : Nat) (hm : n ≤ maxLen) (hs : cs.size = n * size) :
    St F0 w0 (RowR T size (.slice (some ⟨w.heap.size, 0, none⟩) n n) n cs.toList :: Rs) (w.alloc (.cells cs T)) :=
  h.grow (Ns := [RowR T size (.slice (some ⟨w.heap.size, 0, none⟩) n n) n cs.toList]) (Fr.of_below ((Below.refl _ _).alloc (Nat.le_refl _) _))
    ⟨fun k => k = w.heap.size, ⟨World.ownsRow_lit w cs n (Nat.zero_le _) hm hs, fun k => by simp [Value.ownBlock, eq_comm]⟩, fun k hk => by omega, trivial⟩
theorem RowR.grown (i : Nat) (h : St F0 w0 Rs w) (hi : Rs[i]? = some (RowR T size v n xs)) {m : Nat} (ho : w1.ownsRow 0 T size v1 m ys) (hg : w.grownBy w1 v.ownBlock)
    (hat : v1.ownBlock = v.ownBlock ∨ ∃ k, v1.ownBlock = some k ∧ w.heap.size ≤ k) : St F0 w0 (Rs.set i (RowR T size v1 m ys)) w1 := by
  refine h.step i hi (Ns := []) (fun G hG => ⟨Fr.of_grown hg (fun k hk => (hG.2 k).2 hk), fun k => v1.ownBlock = some k, ⟨ho, fun _ => Iff.rfl⟩, fun k hk => ?_, trivial⟩)
  rcases hat with h1 | ⟨k', h1, h2⟩
  · rw [h1] at hk
    exact .inl ((hG.2 k).2 hk)
  · rw [h1] at hk
    injection hk with hk
    subst hk
    exact .inr h2
theorem RowR.set {g c : Nat} (i : Nat) (h : St F0 w0 Rs w) (hi : Rs[i]? = some (RowR T size (.slice (some ⟨g, 0, none⟩) n c) n xs)) (j : Nat) (u : Value) :
    St F0 w0 (Rs.set i (RowR T size (.slice (some ⟨g, 0, none⟩) n c) n (xs.set j u))) (w.setCell ⟨g, j, none⟩ u) := by
  have hr := RowR.row i h hi
  obtain ⟨h1, h2⟩ := hr.stored j u
  exact RowR.grown i h hi h1 h2 (.inl rfl)
theorem RowR.cell {g c : Nat} (i : Nat) (h : St F0 w0 Rs w) (hi : Rs[i]? = some (RowR T size (.slice (some ⟨g, 0, none⟩) n c) n xs)) (j : Nat) (hj : j < n * size) : w.cell? ⟨g, j, none⟩ = xs[j]? ∧ w.frozen? ⟨g, j, none⟩ = false :=
  ⟨(RowR.row i h hi).cellAt j hj, (RowR.row i h hi).frozenAt j⟩
theorem RowR.form (i : Nat) (h : St F0 w0 Rs w) (hi : Rs[i]? = some (RowR T size v n xs)) (hn : 0 < n) : ∃ g c, v = .slice (some ⟨g, 0, none⟩) n c := by
  rcases (RowR.row i h hi).2 with ⟨_, h2⟩ | ⟨g, cap, cur, rfl, _⟩
  · omega
  · exact ⟨g, cap, rfl⟩
end
end Go.Proofs.Ytdlpmcbglmgpiaa.Sl
