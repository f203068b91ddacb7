/- headers: finding (plain laws). -/
import Derived.Test.YtdlpmcbglmgpiaaQs06
namespace Go.Proofs.Ytdlpmcbglmgpiaa.Sl
open Go.RowKit
set_option linter.unusedVariables false
set_option linter.unusedSimpArgs false
theorem speaks06_eq : f_l06_speaks = some true := by kernel_rfl
def lf (a1 : List UInt8) : List Hd → Option Hd
  | [] => none
  | h :: l => match lf a1 l with
    | some x => some x
    | none => if h.fKey = a1 then some h else none
theorem lf_last (a1 : List UInt8) (h : Hd) : ∀ l : List Hd, lf a1 (l ++ [h]) = if h.fKey = a1 then some h else lf a1 l
  | [] => by simp only [List.nil_append, lf]
  | x :: l => by
    rw [List.cons_append, lf, lf_last a1 h l, lf]
    by_cases hk : h.fKey = a1
    · rw [if_pos hk, if_pos hk]
    · rw [if_neg hk, if_neg hk]
theorem finds_loop (a1 : List UInt8) : ∀ (l : List Hd) (t n : Bool) (v : List UInt8), f_l06_HeaderFinds_l1 a1 l t n v = some (match lf a1 l with | some h => (true, h.fValue.null, h.fValue.data) | none => (t, n, v))
  | [], t, n, v => rfl
  | h :: l, t, n, v => by
    rw [f_l06_HeaderFinds_l1, lf]
    by_cases hk : h.fKey = a1
    · rw [if_pos hk, finds_loop a1 l]
      cases lf a1 l with
      | some x => rfl
      | none => simp only [if_pos hk]
    · rw [if_neg hk, finds_loop a1 l]
      cases lf a1 l with
      | some x => rfl
      | none => simp only [if_neg hk]
theorem find_loop (a0 : List Hd) (a1 : List UInt8) : ∀ (k g : Nat), k ≤ a0.length → k < 9223372036854775807 → k + 1 ≤ g → f_header_Find_l1 a0 a1 g ((k : Int) - 1) = some (match lf a1 (a0.take k) with | some h => .ret (h.fValue, true) | none => .go (-1))
  | 0, g + 1, h1, h0, h2 => by
    rw [f_header_Find_l1, if_neg (by omega)]
    rfl
  | k + 1, g + 1, h1, h0, h2 => by
    have hk : k < a0.length := by omega
    rw [f_header_Find_l1, show (((k + 1 : Nat) : Int) - 1) = (k : Int) by omega, if_pos (by omega), if_pos (by omega), Int.toNat_natCast, List.getElem?_eq_getElem hk]
    simp only [Option.bind_some]
    rw [List.take_succ_eq_append_getElem hk, lf_last]
    by_cases he : a0[k].fKey = a1
    · rw [if_pos he, if_pos he]
    · rw [if_neg he, if_neg he, if_pos (by omega), find_loop a0 a1 k g (by omega) (by omega) (by omega)]
theorem find_eq (a0 : List Hd) (a1 : List UInt8) (h : a0.length < 9223372036854775807) : f_header_Find a0 a1 = some (match lf a1 a0 with | some h => (h.fValue, true) | none => (⟨false, []⟩, false)) := by
  unfold f_header_Find
  rw [if_pos (by omega), show ((((a0.length : Int) - 1)) - (-1)).toNat + 1 = a0.length + 1 by omega, find_loop a0 a1 a0.length _ (by omega) h (by omega), List.take_length]
  simp only [Option.bind_some]
  cases lf a1 a0 <;> rfl
theorem pure_HeaderFinds (a0 : List Hd) (a1 : List UInt8) (w0 : wL wf_Hd a0) (w1 : wS a1) : f_l06_HeaderFinds a0 a1 = some true := by
  unfold f_l06_HeaderFinds
  rw [speaks06_eq]
  simp only [Option.bind_some, if_true]
  rcases small06 a0 w0 with h | ⟨h, h1⟩
  · rw [h]; rfl
  rw [h]
  simp only [Option.bind_some]
  rw [if_neg (by decide)]
  by_cases hl : (a1.length : Int) > 200
  · rw [if_pos hl]
  rw [if_neg hl, finds_loop, find_eq a0 a1 (by have := w0.1; unfold reachBytes at this; omega)]
  simp only [Option.bind_some]
  cases lf a1 a0 <;> simp
end Go.Proofs.Ytdlpmcbglmgpiaa.Sl
