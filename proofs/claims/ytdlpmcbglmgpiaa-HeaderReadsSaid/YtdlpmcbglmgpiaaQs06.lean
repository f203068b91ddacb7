/- the laws' own sizes: headers and records (plain laws). -/
import Derived.Test.YtdlpmcbglmgpiaaPcursitorlaw06
import Derived.Test.YtdlpmcbglmgpiaaWf
namespace Go.Proofs.Ytdlpmcbglmgpiaa.Sl
open Go.RowKit
set_option linter.unusedVariables false
set_option linter.unusedSimpArgs false
def hsum : List Hd → Nat
  | [] => 0
  | h :: l => h.fKey.length + h.fValue.data.length + 1 + hsum l
theorem small06_loop : ∀ (l : List Hd) (y : Nat), y ≤ 1000 → (∀ h, h ∈ l → wf_Hd h) → f_l06_Small_l1 l y = some (.ret 0) ∨ (f_l06_Small_l1 l y = some (.go ((y + hsum l : Nat) : Int)) ∧ y + hsum l ≤ 1000)
  | [], y, hy, _ => .inr ⟨by simp [f_l06_Small_l1, hsum], by simpa [hsum] using hy⟩
  | h :: l, y, hy, hw => by
    obtain ⟨h1, h2, h3⟩ := hw h List.mem_cons_self
    simp only [wS] at h1 h3
    rw [f_l06_Small_l1, if_pos (by omega), if_pos (by omega), if_pos (by omega)]
    by_cases hc : (y : Int) + ((h.fKey.length : Int) + (h.fValue.data.length : Int) + 1) > 1000
    · rw [if_pos hc]
      exact .inl rfl
    · rw [if_neg hc]
      have ih := small06_loop l (y + (h.fKey.length + h.fValue.data.length + 1)) (by omega) (fun x hx => hw x (List.mem_cons_of_mem _ hx))
      rw [show (y : Int) + ((h.fKey.length : Int) + (h.fValue.data.length : Int) + 1) = ((y + (h.fKey.length + h.fValue.data.length + 1) : Nat) : Int) by omega]
      rcases ih with ih | ⟨ih, ih2⟩
      · exact .inl ih
      · exact .inr ⟨by rw [ih, hsum]; congr 3; omega, by rw [hsum]; omega⟩
theorem small06 (l : List Hd) (hw : wL wf_Hd l) : f_l06_Small l = some 0 ∨ (f_l06_Small l = some 1 ∧ hsum l ≤ 1000) := by
  unfold f_l06_Small
  rcases small06_loop l 0 (by omega) hw.2 with h | ⟨h, h2⟩
  · left
    rw [show (0 : Int) = ((0 : Nat) : Int) from rfl, h]
    rfl
  · right
    rw [show (0 : Int) = ((0 : Nat) : Int) from rfl, h]
    exact ⟨rfl, by omega⟩
end Go.Proofs.Ytdlpmcbglmgpiaa.Sl
