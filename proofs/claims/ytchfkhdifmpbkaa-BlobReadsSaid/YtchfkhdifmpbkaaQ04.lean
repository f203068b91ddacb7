/- blobs: what is written (plain laws). -/
import Derived.Test.YtchfkhdifmpbkaaWf
import Derived.Test.YtchfkhdifmpbkaaPcursitorlaw04BlobWrites
namespace Go.Proofs.Ytchfkhdifmpbkaa.Sl
open Go.RowKit
set_option linter.unusedVariables false
set_option linter.unusedSimpArgs false
theorem speaks04_eq : f_l04_speaks = some true := by kernel_rfl
theorem fits_bounds (n k : Int) (h : fits n k = true) : 1 ≤ k ∧ k ≤ 8 := by
  unfold fits at h
  simp only [Bool.and_eq_true, decide_eq_true_eq] at h
  exact ⟨h.1.1.1, h.1.1.2⟩
theorem wrote_fixed (b : Bl) (k : Int) : otx (bputFixed ([], 0) b k) = if fits (blen b) k = true then (if bright b = true then (be (blen b) k.toNat ++ b.data, 0) else ([], 4)) else ([], 11) := by
  unfold bputFixed bwrite oint
  by_cases hf : fits (blen b) k = true
  · rw [if_pos hf, if_pos hf]
    by_cases hb : bright b = true
    · rw [if_pos hb, if_pos hb]
      simp [oput, otx]
    · rw [if_neg hb, if_neg hb]
      simp [oput, ofail, otx]
  · rw [if_neg hf, if_neg hf]
    by_cases hb : bright b = true
    · rw [if_pos hb]
      simp [oput, ofail, otx]
    · rw [if_neg hb]
      simp [oput, ofail, otx]
theorem wrote_varied (b : Bl) (h : b.data.length ≤ 1000) : otx (bputVaried ([], 0) b) = if bright b = true then (vput (vfold (blen b)) ++ b.data, 0) else ([], 4) := by
  have hr : -2147483648 ≤ blen b ∧ blen b ≤ 2147483647 := by unfold blen; split <;> omega
  unfold bputVaried bwrite vputInt
  rw [if_pos hr]
  by_cases hb : bright b = true
  · rw [if_pos hb, if_pos hb]
    simp [oput, otx]
  · rw [if_neg hb, if_neg hb]
    simp [oput, ofail, otx]
theorem fits2 (n : Int) (h : 0 ≤ n ∧ n ≤ 1000) : fits n 2 = true := by
  unfold fits
  simp only [Bool.and_eq_true, decide_eq_true_eq]
  have : (2 : Int) ^ (8 * (2 : Int).toNat - 1) = 32768 := by decide
  omega
theorem pure_BlobWrites (a0 : Bl) (a1 : Int) (w0 : wf_Bl a0) (w1 : -9223372036854775808 ≤ a1 ∧ a1 ≤ 9223372036854775807) : f_l04_BlobWrites a0 a1 = some true := by
  unfold f_l04_BlobWrites
  rw [speaks04_eq]
  simp only [Option.bind_some, if_true]
  by_cases hl : (a0.data.length : Int) > 1000
  · rw [if_pos hl]
  rw [if_neg hl]
  obtain ⟨n, d⟩ := a0
  simp only at hl ⊢
  have hd : d.length ≤ 1000 := by omega
  rw [gPutFixed_eq _ _ _ ⟨w1, by simp only [List.length_nil]; omega⟩, gPutVaried_eq _ _ (by simp only [List.length_nil]; omega), gPutText_eq _ _ (by simp only [List.length_nil]; omega), gPutName_eq _ _ (by simp only [List.length_nil]; omega)]
  simp only [Option.bind_some, gOText_eq, gRBLen, gOf_eq, gNone_eq, gRight_eq]
  have hfr : ∀ b : Bl, b.data.length ≤ 1000 → gRFits (blen b) a1 = some (fits (blen b) a1) := fun b hb => gRFits_eq _ _ (by unfold blen; split <;> omega)
  have hff : ∀ b : Bl, b.data.length ≤ 1000 → fits (blen b) a1 = true → gRBFixed b a1 = some (be (blen b) a1.toNat ++ b.data) := fun b hb hf => by
    have := fits_bounds _ _ hf
    exact if_pos (by omega)
  have hf2 : ∀ b : Bl, b.data.length ≤ 1000 → gRBFixed b 2 = some (be (blen b) (2 : Int).toNat ++ b.data) := fun b hb => if_pos (by omega)
  have hfv : ∀ b : Bl, b.data.length ≤ 1000 → gRBVaried b = some (vput (vfold (blen b)) ++ b.data) := fun b hb => if_pos (by omega)
  have htext : otx (bputText ([], 0) d) = (be (blen ⟨false, d⟩) (2 : Int).toNat ++ d, 0) := by
    unfold bputText
    rw [wrote_fixed, if_pos (fits2 _ (by unfold blen; simp only [Bool.false_eq_true, if_false]; omega)), if_pos (show bright ⟨false, d⟩ = true from rfl)]
  have hname : otx (bputName ([], 0) d) = (vput (vfold (blen ⟨false, d⟩)) ++ d, 0) := by
    unfold bputName
    rw [wrote_varied _ hd, if_pos (show bright ⟨false, d⟩ = true from rfl)]
  rw [wrote_fixed, wrote_varied _ hd, htext, hname]
  have F1 := hfr ⟨false, d⟩ hd
  have F2 := hfv ⟨false, d⟩ hd
  have F3 := hf2 ⟨false, d⟩ hd
  have F4 := hff ⟨false, d⟩ hd
  have T1 := hfr ⟨true, d⟩ hd
  have T2 := hfv ⟨true, d⟩ hd
  have T4 := hff ⟨true, d⟩ hd
  clear hfr hff hf2 hfv htext hname
  cases n
  · simp only [show bright ⟨false, d⟩ = true from rfl, if_true]
    by_cases hf : fits (blen ⟨false, d⟩) a1 = true
    · have F5 := F4 hf
      simp [hf, F1, F2, F3, F5]
    · simp [hf, F1, F2, F3]
  · by_cases he : d = []
    · subst he
      simp only [show bright ⟨true, []⟩ = true from rfl, if_true]
      by_cases hf : fits (blen ⟨true, []⟩) a1 = true
      · have T5 := T4 hf
        simp [hf, T1, T2, T5, F2, F3]
      · simp [hf, T1, T2, F2, F3]
    · have hb : bright ⟨true, d⟩ = false := by
        unfold bright
        cases d
        · exact absurd rfl he
        · rfl
      simp only [hb, Bool.false_eq_true, if_false]
      by_cases hf : fits (blen ⟨true, d⟩) a1 = true
      · simp [hf, he, T1, F2, F3]
      · simp [hf, he, T1, F2, F3]
end Go.Proofs.Ytchfkhdifmpbkaa.Sl
