/- the laws of layer 8 (plain laws). -/
import Derived.Test.YtchfkhdifmpbkaaQ08
import Derived.Test.YtchfkhdifmpbkaaQs06
import Derived.Test.YtchfkhdifmpbkaaPcursitorlaw08
import Derived.Test.YtchfkhdifmpbkaaPcursitorref07
namespace Go.Proofs.Ytchfkhdifmpbkaa.Sl
open Go.RowKit
set_option linter.unusedVariables false
set_option linter.unusedSimpArgs false
theorem speaks08_eq : f_l08_speaks = some true := by kernel_rfl
theorem pure_ControlRecords (a0 : Rec) (w0 : wf_Rec a0) : f_l08_ControlRecords a0 = some true := by
  unfold f_l08_ControlRecords
  rw [speaks08_eq]
  simp only [Option.bind_some, if_true]
  rcases small07 a0 w0 with h | ⟨h, h1, h2, _⟩
  · rw [h]; rfl
  · rw [h]
    simp only [Option.bind_some]
    rw [if_neg (by decide), read_control a0 (by omega) (by omega)]
    have : ∃ x, f_r08_Read a0 = some x := by
      unfold f_r08_Read
      have key : ∀ l : List UInt8, ∃ x, f_r08_ReadKey l = some x := by
        intro l
        unfold f_r08_ReadKey
        repeat' first
          | exact ⟨_, rfl⟩
          | (rw [gRInt_eq _ (by simp; omega), Option.bind_some])
          | split
          | (exfalso; omega)
      have value : ∀ l : List UInt8, ∃ x, f_r08_ReadValue l = some x := by
        intro l
        unfold f_r08_ReadValue
        repeat' first
          | exact ⟨_, rfl⟩
          | (rw [gRInt_eq _ (by simp; omega), Option.bind_some])
          | split
          | (exfalso; omega)
      obtain ⟨⟨k, e⟩, hk⟩ := key a0.fKey.data
      obtain ⟨⟨v, f⟩, hv⟩ := value a0.fValue.data
      rw [hk, hv]
      simp only [Option.bind_some]
      repeat' first
        | exact ⟨_, rfl⟩
        | split
    obtain ⟨⟨x, y, z⟩, hx⟩ := this
    rw [hx]
    simp
theorem ckey_one (k : Int) (h : k = 0 ∨ k = 1) : f_control_Key k = some ([0, 0] ++ be k 2, 0) := by
  rcases h with rfl | rfl <;> kernel_rfl
theorem rkey_one (k : Int) (h : k = 0 ∨ k = 1) : f_r08_Key k = some ([0, 0] ++ be k 2) := by
  rcases h with rfl | rfl <;> kernel_rfl
theorem ckey_none (k : Int) (h0 : k ≠ 0) (h1 : k ≠ 1) : f_control_Key k = some ([], 12) := by
  unfold f_control_Key
  rw [if_neg h0, if_neg h1]
theorem cval_ok (n : Int) (h0 : 0 ≤ n) (h1 : n ≤ 9223372036854775807) (hf : fits n 4 = true) : f_control_Value n = some ([0, 0] ++ be n 4, 0) := by
  unfold f_control_Value
  rw [if_neg (by omega), gOInt_eq _ _ _ (by simp)]
  simp only [Option.bind_some]
  rw [show oint ([], 0) 0 2 = ([0, 0], 0) by decide, gOInt_eq _ _ _ (by simp; omega)]
  simp only [Option.bind_some, gOText_eq]
  rw [show oint ([0, 0], 0) n 4 = ([0, 0] ++ be n 4, 0) by unfold oint; rw [if_pos hf]; rfl]
  rfl
theorem cval_none (n : Int) (hi : n ≤ 9223372036854775807) (h : n < 0 ∨ fits n 4 = false) : f_control_Value n = some ([], 11) := by
  unfold f_control_Value
  by_cases h0 : n < 0
  · rw [if_pos h0]
  rw [if_neg h0, gOInt_eq _ _ _ (by simp)]
  simp only [Option.bind_some]
  rw [show oint ([], 0) 0 2 = ([0, 0], 0) by decide, gOInt_eq _ _ _ (by simp; omega)]
  simp only [Option.bind_some, gOText_eq]
  have hf : fits n 4 = false := h.resolve_left h0
  rw [show oint ([0, 0], 0) n 4 = ([0, 0], 11) by unfold oint; rw [if_neg (by simp [hf])]; rfl]
  rfl
theorem rval_one (n : Int) (h0 : -9223372036854775808 ≤ n) (h1 : n ≤ 9223372036854775807) : f_r08_Value n = some ([0, 0] ++ be n 4) := by
  unfold f_r08_Value
  rw [gRBytes_eq _ _ (by omega), gRBytes_eq _ _ (by omega)]
  simp only [Option.bind_some]
  rw [if_pos (by simp [be_length]), show be 0 (2 : Int).toNat = [0, 0] by decide]
  rfl
theorem rd_key (k : Int) (h : k = 0 ∨ k = 1) : f_control_ReadKey ([0, 0] ++ be k 2) = some (k, 0) := by
  rcases h with rfl | rfl <;> kernel_rfl
theorem rd_val (n : Int) (h0 : 0 ≤ n) (h1 : n ≤ 9223372036854775807) (hf : fits n 4 = true) : f_control_ReadValue ([0, 0] ++ be n 4) = some (n, 0) := by
  have hl := be_length n 4
  rw [read_value _ (by simp [hl])]
  unfold f_r08_ReadValue
  have hb := beInt_be n 4 (by omega) (by omega) hf
  generalize be n 4 = b at *
  rw [if_neg (by simp [hl]; try omega), if_pos (by simp [hl]; try omega), gRInt_eq _ (by simp)]
  simp only [Option.bind_some]
  rw [if_pos (by simp; decide), if_neg (by simp [hl]), if_pos (by simp [hl]), gRInt_eq _ (by simp; omega)]
  simp only [Option.bind_some]
  have hq : List.take 4 (List.drop 2 ([0, 0] ++ b)) = b := by simp [List.take_of_length_le, hl]
  rw [hq, hb, if_neg (by omega), if_neg (by simp [hl])]
theorem same_nil (r : Rec) (h : r.fHeaders = []) : f_r07_Same r r = some true := by
  unfold f_r07_Same
  rw [h]
  simp only [if_true]
  kernel_rfl
theorem pure_ControlWrites (a0 : Int) (a1 : Int) (w0 : -9223372036854775808 ≤ a0 ∧ a0 ≤ 9223372036854775807) (w1 : -9223372036854775808 ≤ a1 ∧ a1 ≤ 9223372036854775807) : f_l08_ControlWrites a0 a1 = some true := by
  have hs := speaks08_eq
  have hz := same_nil ⟨0, 0, ⟨false, []⟩, ⟨false, []⟩, []⟩ rfl
  have hrf := gRFits_eq a1 4 (by omega)
  have hrv := rval_one a1 w1.1 w1.2
  by_cases hk : a0 = 0 ∨ a0 = 1
  · have e1 := ckey_one a0 hk
    have e2 := rkey_one a0 hk
    have e3 := rd_key a0 hk
    by_cases ht : 0 ≤ a1 ∧ fits a1 4 = true
    · have e4 := cval_ok a1 ht.1 w1.2 ht.2
      have e5 := rd_val a1 ht.1 w1.2 ht.2
      have e6 : f_control_Record a0 a1 = some (⟨0, 0, ⟨false, [0, 0] ++ be a0 2⟩, ⟨false, [0, 0] ++ be a1 4⟩, []⟩, 0) := by
        unfold f_control_Record
        simp [e1, e4, gOf_eq]
      have e7 : f_control_Read ⟨0, 0, ⟨false, [0, 0] ++ be a0 2⟩, ⟨false, [0, 0] ++ be a1 4⟩, []⟩ = some (a0, a1, 0) := by
        unfold f_control_Read
        simp only [Bool.false_eq_true, if_false, if_true, e3, e5, Option.bind_some]
      have e8 := same_nil ⟨0, 0, ⟨false, [0, 0] ++ be a0 2⟩, ⟨false, [0, 0] ++ be a1 4⟩, []⟩ rfl
      unfold f_l08_ControlWrites
      rcases hk with rfl | rfl
      · simp only [hs, hrf, hrv, e1, e2, e4, e6, e7, e8, ht.2, ht.1, ge_iff_le, if_true, Option.bind_some]
      · simp only [hs, hrf, hrv, e1, e2, e4, e6, e7, e8, ht.2, ht.1, ge_iff_le, if_true, Option.bind_some, show ¬ ((1 : Int) = 0) by decide, if_false]
    · have e4 := cval_none a1 w1.2 (by by_cases h : a1 < 0; exact .inl h; right; simpa [show 0 ≤ a1 by omega] using ht)
      have e6 : f_control_Record a0 a1 = some (⟨0, 0, ⟨false, []⟩, ⟨false, []⟩, []⟩, 11) := by
        unfold f_control_Record
        simp [e1, e4]
      unfold f_l08_ControlWrites
      by_cases hn : 0 ≤ a1
      · have hff : fits a1 4 = false := by simpa [hn] using ht
        rw [hff] at hrf
        rcases hk with rfl | rfl
        · simp [hs, hrf, hrv, e1, e2, e4, e6, hz, hn]
        · simp [hs, hrf, hrv, e1, e2, e4, e6, hz, hn]
      · rcases hk with rfl | rfl
        · simp [hs, hrf, hrv, e1, e2, e4, e6, hz, hn]
        · simp [hs, hrf, hrv, e1, e2, e4, e6, hz, hn]
  · have h0 : a0 ≠ 0 := fun h => hk (.inl h)
    have h1 : a0 ≠ 1 := fun h => hk (.inr h)
    have e1 := ckey_none a0 h0 h1
    have e6 : f_control_Record a0 a1 = some (⟨0, 0, ⟨false, []⟩, ⟨false, []⟩, []⟩, 12) := by
      unfold f_control_Record
      simp [e1]
    unfold f_l08_ControlWrites
    by_cases ht : 0 ≤ a1 ∧ fits a1 4 = true
    · have e4 := cval_ok a1 ht.1 w1.2 ht.2
      simp [hs, hrf, hrv, e1, e4, e6, hz, ht.1, ht.2, h0, h1]
    · have e4 := cval_none a1 w1.2 (by by_cases h : a1 < 0; exact .inl h; right; simpa [show 0 ≤ a1 by omega] using ht)
      by_cases hn : 0 ≤ a1
      · have hff : fits a1 4 = false := by simpa [hn] using ht
        rw [hff] at hrf
        simp [hs, hrf, hrv, e1, e4, e6, hz, hn, h0, h1]
      · simp [hs, hrf, hrv, e1, e4, e6, hz, hn, h0, h1]
end Go.Proofs.Ytchfkhdifmpbkaa.Sl
