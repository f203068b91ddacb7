/- topics: the law (plain). -/
import Derived.Test.YtdlpmcbglmgpiaaQ14d
namespace Go.Proofs.Ytdlpmcbglmgpiaa.Sl
open Go.RowKit
set_option linter.unusedVariables false
set_option linter.unusedSimpArgs false
def fit32 (n : Int) : Bool := decide (-2147483648 ≤ n) && decide (n ≤ 2147483647)
def fitT (t : Top) : Bool := t.fParts.all fit32
theorem vt_l2 (y : Bool) : ∀ l : List Int, f_l14_ValueTopics_l2 l y = some (if l.all fit32 = true then .go y else .ret true)
  | [] => rfl
  | n :: l => by
    rw [f_l14_ValueTopics_l2, List.all_cons]
    by_cases h1 : n < -2147483648
    · have : fit32 n = false := by unfold fit32; simp; omega
      rw [if_pos h1, this]
      rfl
    · rw [if_neg h1]
      by_cases h2 : n > 2147483647
      · have : fit32 n = false := by unfold fit32; simp; omega
        rw [if_pos h2, this]
        rfl
      · have : fit32 n = true := by unfold fit32; simp; omega
        rw [if_neg h2, this, Bool.true_and, vt_l2 y l]
theorem vt_l1 (y : Bool) : ∀ l : List Top, f_l14_ValueTopics_l1 l y = some (if l.all fitT = true then .go y else .ret true)
  | [] => rfl
  | t :: l => by
    rw [f_l14_ValueTopics_l1, List.all_cons, vt_l2, fitT]
    cases t.fParts.all fit32 with
    | false => rfl
    | true =>
      simp only [if_true, Option.bind_some, Bool.true_and]
      exact vt_l1 y l
theorem vt_l4 (y : Bool) : ∀ l : List Int, f_l14_ValueTopics_l4 l y = some (if l.all fit32 = true then .go y else .ret true)
  | [] => rfl
  | n :: l => by
    rw [f_l14_ValueTopics_l4, List.all_cons]
    by_cases h1 : n < -2147483648
    · have : fit32 n = false := by unfold fit32; simp; omega
      rw [if_pos h1, this]
      rfl
    · rw [if_neg h1]
      by_cases h2 : n > 2147483647
      · have : fit32 n = false := by unfold fit32; simp; omega
        rw [if_pos h2, this]
        rfl
      · have : fit32 n = true := by unfold fit32; simp; omega
        rw [if_neg h2, this, Bool.true_and, vt_l4 y l]
theorem vt_l3 (y : Bool) : ∀ l : List Top, f_l14_ValueTopics_l3 l y = some (if l.all fitT = true then .go y else .ret true)
  | [] => rfl
  | t :: l => by
    rw [f_l14_ValueTopics_l3, List.all_cons, vt_l4, fitT]
    cases t.fParts.all fit32 with
    | false => rfl
    | true =>
      simp only [if_true, Option.bind_some, Bool.true_and]
      exact vt_l3 y l
theorem vt_l6 (y : Bool) : ∀ l : List Int, f_l14_ValueTopics_l6 l y = some (if l.all fit32 = true then .go y else .ret true)
  | [] => rfl
  | n :: l => by
    rw [f_l14_ValueTopics_l6, List.all_cons]
    by_cases h1 : n < -2147483648
    · have : fit32 n = false := by unfold fit32; simp; omega
      rw [if_pos h1, this]
      rfl
    · rw [if_neg h1]
      by_cases h2 : n > 2147483647
      · have : fit32 n = false := by unfold fit32; simp; omega
        rw [if_pos h2, this]
        rfl
      · have : fit32 n = true := by unfold fit32; simp; omega
        rw [if_neg h2, this, Bool.true_and, vt_l6 y l]
theorem vt_l5 (y : Bool) : ∀ l : List Top, f_l14_ValueTopics_l5 l y = some (if l.all fitT = true then .go y else .ret true)
  | [] => rfl
  | t :: l => by
    rw [f_l14_ValueTopics_l5, List.all_cons, vt_l6, fitT]
    cases t.fParts.all fit32 with
    | false => rfl
    | true =>
      simp only [if_true, Option.bind_some, Bool.true_and]
      exact vt_l5 y l
theorem vt_l8 (y : Bool) : ∀ l : List Int, f_l14_ValueTopics_l8 l y = some (if l.all fit32 = true then .go y else .ret true)
  | [] => rfl
  | n :: l => by
    rw [f_l14_ValueTopics_l8, List.all_cons]
    by_cases h1 : n < -2147483648
    · have : fit32 n = false := by unfold fit32; simp; omega
      rw [if_pos h1, this]
      rfl
    · rw [if_neg h1]
      by_cases h2 : n > 2147483647
      · have : fit32 n = false := by unfold fit32; simp; omega
        rw [if_pos h2, this]
        rfl
      · have : fit32 n = true := by unfold fit32; simp; omega
        rw [if_neg h2, this, Bool.true_and, vt_l8 y l]
theorem vt_l7 (y : Bool) : ∀ l : List Top, f_l14_ValueTopics_l7 l y = some (if l.all fitT = true then .go y else .ret true)
  | [] => rfl
  | t :: l => by
    rw [f_l14_ValueTopics_l7, List.all_cons, vt_l8, fitT]
    cases t.fParts.all fit32 with
    | false => rfl
    | true =>
      simp only [if_true, Option.bind_some, Bool.true_and]
      exact vt_l7 y l
theorem pure_ValueTopics (a0 : List Top) (a1 : List Top) (a2 : List UInt8) (w0 : (wL wf_Top) a0) (w1 : (wL wf_Top) a1) (w2 : a2.length ≤ 140737488351232) : f_l14_ValueTopics a0 a1 a2 = some true := by
  unfold f_l14_ValueTopics
  rw [speaks14_eq, Option.bind_some, if_pos rfl]
  rcases few_eq a0 w0.2 with h | ⟨h, hw⟩
  · rw [h]
    rfl
  rw [h, Option.bind_some, if_neg (by decide)]
  rcases few_eq a1 w1.2 with h | ⟨h, hw1⟩
  · rw [h]
    rfl
  rw [h, Option.bind_some, if_neg (by decide)]
  by_cases hl : (a2.length : Int) > 1000
  · rw [if_pos hl]
  rw [if_neg hl, gNew_eq _ (by omega), Option.bind_some]
  have hn := wTs_len a0
  have hn1 := wTs_len a1
  have hm : ∀ t, t ∈ a0 → t.fParts.length ≤ 140737488355328 := fun t ht => by
    have := wTs_mem _ t ht
    unfold wT at this
    omega
  have S1 := vsame_eq a0 a1 hm
  have S2 := rsame_eq a0 a1 (by omega) hm
  have S3 := rsame_eq a0 a0 (by omega) hm
  rw [sameTs_refl] at S3
  have tail : a0.all fitT = true → ∃ E q, f_value_PutTopics ([], 0) a0 = some (E, 0) ∧ gNew E = some ⟨E, 0, 0⟩ ∧ f_r14_Topics a0 = some E ∧ f_value_Topics ⟨E, 0, 0⟩ = some (a0, ⟨[], q, 0⟩) := by
    intro hall
    have hok : ∀ t, t ∈ a0 → okT t := fun t ht => by
      have hh := List.all_eq_true.1 hall t ht
      unfold fitT at hh
      rw [List.all_eq_true] at hh
      have := wTs_mem _ t ht
      unfold wT at this
      refine ⟨fits_small (.inl rfl) (by omega) (by omega), fits_small (.inr (.inl rfl)) (by omega) (by omega), fun n hn => ?_⟩
      have h3 := hh n hn
      unfold fit32 at h3
      simp only [Bool.and_eq_true, decide_eq_true_eq] at h3
      rw [fits_4]
      exact decide_eq_true (by omega)
    have hlen : (be (a0.length : Int) 4 ++ encs encT a0).length ≤ 2000 := by
      simp only [List.length_append, be_length, encTs_len]
      omega
    refine ⟨be (a0.length : Int) 4 ++ encs encT a0, _, ?_, gNew_eq _ (by omega), r14t_eq _ w0.2 (by omega), B_topics.whole Sp_topics (a := a0) (by omega) ⟨fits_small (.inr (.inl rfl)) (by omega) (by omega), hok⟩⟩
    rw [put_topics _ _ hok (by simp) (by omega), List.nil_append]
  have hr := B_topics.run a2 0 (by omega) (Nat.zero_le _)
  rw [List.drop_zero] at hr
  have hR := r14_topics a2 (by omega)
  have fin : ∀ f : Bool → Option Bool, True := fun _ => trivial
  rcases hr with ⟨e, st, p1, g1, x1, y1⟩ | ⟨l, r, p1, g1, n1, l1⟩
  · rw [p1] at hR
    have he : e ≠ 0 := by rw [← x1]; exact y1
    have S0 : f_r14_SameTopics [] [] = some true := by kernel_rfl
    rw [g1, hR]
    simp only [Option.bind_some, gErr_eq, x1, if_true, S0, if_neg he, S1, S2]
    cases sameTs a0 a1 <;> simp only [if_true, Bool.false_eq_true, if_false, vt_l5, vt_l7]
    all_goals
      cases hall : a0.all fitT with
      | false => rfl
      | true =>
        obtain ⟨E, q, t1, t2, t3, t4⟩ := tail hall
        simp only [if_true, Option.bind_some, t1, t2, t3, t4, gOText_eq, otx_z, S3, gClose_z]
  · rw [p1] at hR
    obtain ⟨-, h2, h3, h4, h5⟩ := Sp_topics.spell _ _ _ _ (Nat.zero_le _) p1
    have hwl : wTs l ≤ 1000 := by
      rw [List.length_append, encTs_len] at h3
      omega
    have hnl := wTs_len l
    have S0 := rsame_eq l l (by omega) (fun t ht => by
      have := wTs_mem _ t ht
      unfold wT at this
      omega)
    rw [sameTs_refl] at S0
    rw [g1, hR]
    simp only [Option.bind_some, gErr_eq, if_true, S0, gAt_eq, S1, S2]
    cases sameTs a0 a1 <;> simp only [if_true, Bool.false_eq_true, if_false, vt_l1, vt_l3]
    all_goals
      cases hall : a0.all fitT with
      | false => rfl
      | true =>
        obtain ⟨E, q, t1, t2, t3, t4⟩ := tail hall
        simp only [if_true, Option.bind_some, t1, t2, t3, t4, gOText_eq, otx_z, S3, gClose_z]
end Go.Proofs.Ytdlpmcbglmgpiaa.Sl
