/- the statements of layer 16. -/
import Derived.Test.YtaakchnddcphkaaVer
namespace Go.Proofs.Ytaakchnddcphkaa.Sl
open Go.RowKit
set_option linter.unusedVariables false
set_option linter.unusedSimpArgs false

set_option maxRecDepth 100000 in
theorem speaks16 : Spec0 Try.prog 25 #[] (fun v N => v = .bool true ∧ N = []) := by
  intro w
  have HS := Lib.hid (St.nil_ w)
  have E1 := Lib.hid (show vcheck 22 1 = 0 by decide)
  have E2 := Lib.hid (show vcheck 22 2 = 7 by decide)
  have E3 := Lib.hid (show vcheck 21 0 = 12 by decide)
  go_enter Try.func25, Try.ntmps25
  go_wp2_with fail
  refine (HS.out.call0 (VCheck_spec 22 1)).mono ?_
  rintro e w1 ⟨v, N, rfl, ⟨rfl, rfl⟩, H1⟩
  rw [E1.out]
  have HS1 := Lib.hid H1
  clear H1
  go_wp2_with fail
  refine (HS1.out.call0 (VCheck_spec 22 2)).mono ?_
  rintro e w2 ⟨v, N, rfl, ⟨rfl, rfl⟩, H2⟩
  rw [E2.out]
  have HS2 := Lib.hid H2
  clear H2
  go_wp2_with fail
  refine (HS2.out.call0 (VCheck_spec 21 0)).mono ?_
  rintro e w3 ⟨v, N, rfl, ⟨rfl, rfl⟩, H3⟩
  rw [E3.out]
  have HS3 := Lib.hid H3
  clear H3
  go_wp2_with fail
  go_ret
  exact ⟨_, _, rfl, ⟨rfl, rfl⟩, HS3.out⟩
theorem known_ways (k : Int) : (k = 0 ∨ k = 22 ∨ k = 24 ∨ k = 26 ∨ k = 27) ∨ ((k == 0) = false ∧ (k == 22) = false ∧ (k == 24) = false ∧ (k == 26) = false ∧ (k == 27) = false ∧ vKnown k = (0, 0, ⟨#[]⟩, false)) := by
  by_cases h0 : k = 0
  · simp [h0]
  by_cases h1 : k = 22
  · simp [h1]
  by_cases h2 : k = 24
  · simp [h2]
  by_cases h3 : k = 26
  · simp [h3]
  by_cases h4 : k = 27
  · simp [h4]
  refine .inr ⟨?_, ?_, ?_, ?_, ?_, by simp [vKnown, h0, h1, h2, h3, h4]⟩
  all_goals (rw [beq_eq_false_iff_ne]; omega)
set_option maxRecDepth 100000 in
theorem LKnown_any (k : Int) (w : World) : Calls Try.prog 26 #[.int .i64 k] w fun e w' => e = .returned (.tuple #[.int .i64 (vKnown k).1, .int .i64 (vKnown k).2.1, .string (vKnown k).2.2.1]) ∧ w = w' := by
  rcases known_ways k with (rfl | rfl | rfl | rfl | rfl) | ⟨h0, h1, h2, h3, h4, hv⟩
  · go_enter Try.func26, Try.ntmps26
    go_wp2
    go_ret3
    exact ⟨rfl, rfl⟩
  · go_enter Try.func26, Try.ntmps26
    go_wp2
    go_ret3
    exact ⟨rfl, rfl⟩
  · go_enter Try.func26, Try.ntmps26
    go_wp2
    go_ret3
    exact ⟨rfl, rfl⟩
  · go_enter Try.func26, Try.ntmps26
    go_wp2
    go_ret3
    exact ⟨rfl, rfl⟩
  · go_enter Try.func26, Try.ntmps26
    go_wp2
    go_ret3
    exact ⟨rfl, rfl⟩
  · have HV := Lib.hid hv
    clear hv
    go_enter Try.func26, Try.ntmps26
    go_wp2
    go_ret3
    exact ⟨by rw [HV.out]; rfl, rfl⟩
theorem vname_empty (k : Int) : (vKnown k).2.2.1.toList.isEmpty = !(vKnown k).2.2.2 := by
  rcases known_ways k with (rfl | rfl | rfl | rfl | rfl) | ⟨h0, h1, h2, h3, h4, hv⟩
  · exact bsOf_empty [112, 114, 111, 100, 117, 99, 101]
  · exact bsOf_empty [98, 101, 103, 105, 110]
  · exact bsOf_empty [97, 100, 100]
  · exact bsOf_empty [101, 110, 100]
  · exact bsOf_empty [109, 97, 114, 107]
  · rw [hv]
    exact bsOf_empty []
set_option maxRecDepth 100000 in
theorem VersionChecks_walk (k v : Int) (_ : -9223372036854775808 ≤ k) (_ : k ≤ 9223372036854775807) (_ : -9223372036854775808 ≤ v) (_ : v ≤ 9223372036854775807) (w : World) :
    Calls Try.prog 7 #[.int .i64 k, .int .i64 v] w fun e w' => e = .returned (.bool true) ∧ Below w.heap.size w w' := by
  have HS := Lib.hid (St.nil_ w)
  have HC := Lib.hid (show vcheck k v = if (vKnown k).2.2.2 = false then 12 else if v < (vKnown k).1 ∨ (vKnown k).2.1 < v then 7 else 0 from rfl)
  have HK := Lib.hid (LKnown_any k)
  have HR := Lib.hid (VRange_spec k)
  have HN := Lib.hid (VName_spec k)
  have HV := Lib.hid (VCheck_spec k v)
  have hne := vname_empty k
  generalize vcheck k v = c at *
  generalize vKnown k = q at *
  obtain ⟨lo, hi, nm, ok⟩ := q
  simp only at HK HR HN hne
  have way : (ok = false ∧ c = 12) ∨ (ok = true ∧ v < lo ∧ c = 7) ∨ (ok = true ∧ ¬ v < lo ∧ hi < v ∧ c = 7) ∨ (ok = true ∧ ¬ v < lo ∧ ¬ hi < v ∧ c = 0) := by
    rw [HC.out]
    cases ok
    · simp
    · by_cases h1 : v < lo <;> by_cases h2 : hi < v <;> simp [h1, h2]
  clear HC
  rcases way with ⟨rfl, rfl⟩ | ⟨rfl, h1, rfl⟩ | ⟨rfl, h1, h2, rfl⟩ | ⟨rfl, h1, h2, rfl⟩
  all_goals
    simp only [Bool.not_true, Bool.not_false] at hne
    go_enter Try.func7, Try.ntmps7
    go_wp2_with fail
    refine (HS.out.call0 speaks16).mono ?_
    rintro e w1 ⟨v, N, rfl, ⟨rfl, rfl⟩, H1⟩
    have HS1 := Lib.hid H1
    clear H1
    go_wp2_with fail
    refine (HK.out w1).mono ?_
    rintro e w' ⟨rfl, rfl⟩
    go_wp2_with fail
    refine (HS1.out.call0 HR.out).mono ?_
    rintro e w2 ⟨v, N, rfl, ⟨rfl, rfl⟩, H2⟩
    have HS2 := Lib.hid H2
    clear H2
    go_wp2_with fail
    refine (HS2.out.call0 HN.out).mono ?_
    rintro e w3 ⟨v, N, rfl, ⟨rfl, rfl⟩, H3⟩
    have HS3 := Lib.hid H3
    clear H3
    go_wp2_with fail
    refine (HS3.out.call0 HV.out).mono ?_
    rintro e w4 ⟨v, N, rfl, ⟨rfl, rfl⟩, H4⟩
    have HS4 := Lib.hid H4
    clear H4
    go_wp2_with fail
    go_ret
    exact ⟨rfl, HS4.out.below⟩
end Go.Proofs.Ytaakchnddcphkaa.Sl
