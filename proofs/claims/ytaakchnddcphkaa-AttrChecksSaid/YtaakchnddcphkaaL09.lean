/- the statements of layer 9. -/
import Derived.Test.YtaakchnddcphkaaAo
import Derived.Test.YtaakchnddcphkaaR01
namespace Go.Proofs.Ytaakchnddcphkaa.Sl
open Go.RowKit
set_option linter.unusedVariables false
set_option linter.unusedSimpArgs false

set_option maxRecDepth 100000 in
theorem speaks09 : Spec0 Try.prog 15 #[] (fun v N => v = .bool true ∧ N = []) := by
  intro w
  have HS := Lib.hid (St.nil_ w)
  have E0 := Lib.hid (show ofBits false true true = 48 by decide)
  have E1 := Lib.hid (show acheck 48 = 0 by decide)
  have E2 := Lib.hid (show acheck 32 = 8 by decide)
  have E3 := Lib.hid (show acheck 49 = 9 by decide)
  go_enter Try.func15, Try.ntmps15
  go_wp2_with fail
  refine (HS.out.call0 (Of_spec 0 0 0 0 0 0 0 0 false true true none 0 0)).mono ?_
  rintro e w1 ⟨v, N, rfl, ⟨rfl, rfl⟩, H1⟩
  rw [E0.out]
  have HS1 := Lib.hid H1
  clear H1
  go_wp2_with fail
  refine (ACheck_any 48 (by omega) (by omega) w1).mono ?_
  rintro e w' ⟨rfl, rfl⟩
  rw [E1.out]
  go_wp2_with fail
  refine (ACheck_any 32 (by omega) (by omega) w1).mono ?_
  rintro e w' ⟨rfl, rfl⟩
  rw [E2.out]
  go_wp2_with fail
  refine (ACheck_any 49 (by omega) (by omega) w1).mono ?_
  rintro e w' ⟨rfl, rfl⟩
  rw [E3.out]
  go_wp2_with fail
  go_ret
  exact ⟨_, _, rfl, ⟨rfl, rfl⟩, HS1.out⟩
set_option maxRecDepth 100000 in
set_option maxHeartbeats 2000000 in
theorem AttrBack_walk (a t c : Bool) (w : World) :
    Calls Try.prog 4 #[.bool a, .bool t, .bool c] w fun e w' => e = .returned (.bool true) ∧ Below w.heap.size w w' := by
  have HS := Lib.hid (St.nil_ w)
  have hm := ofBits a t c
  have b3 : bitAt (ofBits a t c) 3 = a := by cases a <;> cases t <;> cases c <;> decide
  have b4 : bitAt (ofBits a t c) 4 = t := by cases a <;> cases t <;> cases c <;> decide
  have b5 : bitAt (ofBits a t c) 5 = c := by cases a <;> cases t <;> cases c <;> decide
  have hc : acheck (ofBits a t c) = if t || !c then 0 else 8 := by cases a <;> cases t <;> cases c <;> decide
  have hr : 0 ≤ ofBits a t c ∧ ofBits a t c < 64 ∧ ofBits a t c % 8 = 0 := by cases a <;> cases t <;> cases c <;> decide
  have h0 := hr.1
  have h1 := hr.2.1
  have h2 : (ofBits a t c % 8 == 0) = true := by simp [hr.2.2]
  have B3 := Lib.hid b3
  have B4 := Lib.hid b4
  have B5 := Lib.hid b5
  have HC := Lib.hid hc
  have HQ := Lib.hid (show ofBits a t c = _ from rfl)
  clear b3 b4 b5 hc hr hm HQ
  have HO := Lib.hid (Of_spec 0 0 0 0 0 0 0 0 a t c none 0 0)
  generalize ofBits a t c = n at *
  cases a <;> cases t <;> cases c <;>
  · go_enter Try.func4, Try.ntmps4
    go_wp2_with fail
    refine (HS.out.call0 speaks09).mono ?_
    rintro e w1 ⟨v, N, rfl, ⟨rfl, rfl⟩, H1⟩
    have HS1 := Lib.hid H1
    clear H1
    go_wp2_with fail
    refine (HS1.out.call0 HO.out).mono ?_
    rintro e w2 ⟨v, N, rfl, ⟨rfl, rfl⟩, H2⟩
    have HS2 := Lib.hid H2
    clear H2
    go_wp2_with fail
    refine (ARead_any n w2).mono ?_
    rintro e w' ⟨rfl, rfl⟩
    rw [B3.out, B4.out, B5.out]
    go_wp2_with fail
    refine (ACheck_any n (by omega) (by omega) w2).mono ?_
    rintro e w' ⟨rfl, rfl⟩
    rw [HC.out]
    go_wp2_with fail
    go_ret
    exact ⟨rfl, HS2.out.below⟩
theorem half_floor (q : Int) (h0 : -9223372036854775808 ≤ q) (h1 : q ≤ 9223372036854775807) : wrap64 ((wrap64 (q - q.tmod 2 % 2)).tdiv 2) = q / 2 := by
  have h : q.tmod 2 % 2 = q % 2 := by
    rw [Int.tmod_eq_emod]
    split <;> omega
  rw [h]
  have e2 : wrap64 (q - q % 2) = q - q % 2 := by unfold wrap64; omega
  rw [e2]
  have e : q - q % 2 = q / 2 * 2 := by omega
  rw [e, Int.mul_tdiv_cancel _ (by decide)]
  unfold wrap64
  omega
theorem odd_tmod (q : Int) : (q.tmod 2 != 0) = decide (q % 2 = 1) := by
  rw [Bool.eq_iff_iff, Int.tmod_eq_emod]
  simp
  split <;> omega
theorem half_pow (n : Int) (a : Nat) : n / 2 ^ a / 2 = n / (2 ^ (a + 1) : Int) := by
  have hp : (0 : Int) < 2 ^ a := Int.pow_pos (by decide)
  rw [Int.pow_succ, ← Int.ediv_ediv_of_nonneg (Int.le_of_lt hp)]
set_option maxRecDepth 100000 in
theorem LBit_any (n i : Int) (h0 : -9223372036854775808 ≤ n) (h1 : n ≤ 9223372036854775807) (hi : 0 ≤ i) (h5 : i ≤ 5) (w : World) :
    Calls Try.prog 16 #[.int .i64 n, .int .i64 i] w fun e w' => e = .returned (.bool (bitAt n i.toNat)) ∧ w = w' := by
  obtain ⟨k, rfl⟩ : ∃ k : Nat, i = k := ⟨i.toNat, by omega⟩
  go_enter Try.func16, Try.ntmps16
  go_wp2_with fail
  go_loop [0, 6] (fun q i => ∃ j : Nat, j ≤ k ∧ i = .int .i64 j ∧ q = .int .i64 (n / 2 ^ j)) (fun _ i => k - (intOf i).toNat)
  case atStart => exact ⟨0, by omega, rfl, by simp⟩
  case round =>
    obtain ⟨j, hj, rfl, rfl⟩ := hrel
    have hr := q_range n j h0 h1
    have hr0 := hr.1
    have hr1 := hr.2
    have HN := Lib.hid (half_pow n j)
    have hm := Int.lt_tmod_of_pos (n / 2 ^ j) (b := 2) (by decide)
    have hm2 := Int.tmod_lt_of_pos (n / 2 ^ j) (b := 2) (by decide)
    have HH := Lib.hid (half_floor (n / 2 ^ j) hr0 hr1)
    have HO := Lib.hid (odd_tmod (n / 2 ^ j))
    have HB := Lib.hid (show bitAt n j = decide (n / 2 ^ j % 2 = 1) from rfl)
    clear hr
    generalize n / 2 ^ j = q at *
    by_cases hlt : j < k
    · go_wp2_with fail
      go_round
      case rel =>
        refine ⟨j + 1, by omega, by go_num, ?_⟩
        rw [HH.out, HN.out]
      case measure => simp [intOf]; omega
    · have e1 : k = j := by omega
      have E1 := Lib.hid e1
      clear e1
      go_wp2_with fail
      go_ret
      exact ⟨ret_bool (by rw [E1.out, HO.out]; exact HB.out.symm), rfl⟩
theorem attr_ways (n : Int) : (bitAt n 0 = true ∧ acheck n = 9) ∨ (bitAt n 0 = false ∧ bitAt n 1 = true ∧ acheck n = 9) ∨ (bitAt n 0 = false ∧ bitAt n 1 = false ∧ bitAt n 2 = true ∧ acheck n = 9) ∨
    (bitAt n 0 = false ∧ bitAt n 1 = false ∧ bitAt n 2 = false ∧ n < 0 ∧ acheck n = 8) ∨ (bitAt n 0 = false ∧ bitAt n 1 = false ∧ bitAt n 2 = false ∧ 63 < n ∧ acheck n = 8) ∨
    (bitAt n 0 = false ∧ bitAt n 1 = false ∧ bitAt n 2 = false ∧ (0 ≤ n ∧ n ≤ 63) ∧ bitAt n 5 = true ∧ bitAt n 4 = false ∧ acheck n = 8) ∨
    (bitAt n 0 = false ∧ bitAt n 1 = false ∧ bitAt n 2 = false ∧ (0 ≤ n ∧ n ≤ 63) ∧ bitAt n 5 = true ∧ bitAt n 4 = true ∧ acheck n = 0) ∨
    (bitAt n 0 = false ∧ bitAt n 1 = false ∧ bitAt n 2 = false ∧ (0 ≤ n ∧ n ≤ 63) ∧ bitAt n 5 = false ∧ acheck n = 0) := by
  have H8 : (n % 8 = 0) ↔ (bitAt n 0 = false ∧ bitAt n 1 = false ∧ bitAt n 2 = false) := by simp [bitAt]; omega
  have HC : acheck n = if n % 8 ≠ 0 then 9 else if n < 0 ∨ 63 < n ∨ (bitAt n 5 = true ∧ bitAt n 4 = false) then 8 else 0 := rfl
  rw [HC]
  by_cases h8 : n % 8 = 0
  · obtain ⟨h0, h1, h2⟩ := H8.1 h8
    simp only [h0, h1, h2, h8]
    by_cases hn : n < 0
    · simp [hn]
    · by_cases hm : 63 < n
      · simp [hm]
      · have : 0 ≤ n ∧ n ≤ 63 := by omega
        cases bitAt n 5 <;> cases bitAt n 4 <;> simp [hn, hm, this]
  · have h : ¬ (bitAt n 0 = false ∧ bitAt n 1 = false ∧ bitAt n 2 = false) := fun h => h8 (H8.2 h)
    simp only [ne_eq, h8]
    cases h0 : bitAt n 0 <;> cases h1 : bitAt n 1 <;> cases h2 : bitAt n 2 <;> simp [h0, h1, h2] at h ⊢
set_option maxRecDepth 100000 in
set_option maxHeartbeats 4000000 in
theorem AttrChecks_walk (n : Int) (h0 : -9223372036854775808 ≤ n) (h1 : n ≤ 9223372036854775807) (w : World) :
    Calls Try.prog 3 #[.int .i64 n] w fun e w' => e = .returned (.bool true) ∧ Below w.heap.size w w' := by
  have HS := Lib.hid (St.nil_ w)
  have hw := attr_ways n
  have HL2 := Lib.hid (fun (i : Int) (hi : 0 ≤ i) (h5 : i ≤ 5) (w : World) => LBit_any n i h0 h1 hi h5 w)
  have HA2 := Lib.hid (fun (w : World) => ACheck_any n h0 h1 w)
  generalize acheck n = a at *
  rcases hw with ⟨b0, rfl⟩ | ⟨b0, b1, rfl⟩ | ⟨b0, b1, b2, rfl⟩ | ⟨b0, b1, b2, hn, rfl⟩ | ⟨b0, b1, b2, hn, rfl⟩ | ⟨b0, b1, b2, ⟨hn, hm⟩, b5, b4, rfl⟩ | ⟨b0, b1, b2, ⟨hn, hm⟩, b5, b4, rfl⟩ | ⟨b0, b1, b2, ⟨hn, hm⟩, b5, rfl⟩
  all_goals
    go_enter Try.func3, Try.ntmps3
    go_wp2_with fail
    refine (HS.out.call0 speaks09).mono ?_
    rintro e w1 ⟨v, N, rfl, ⟨rfl, rfl⟩, H1⟩
    have HS1 := Lib.hid H1
    clear H1
    go_wp2_with (first | (go_at_call 16; refine (HL2.out _ (by omega) (by omega) _).mono ?_; rintro e w' ⟨rfl, rfl⟩) | (go_at_call 17; refine (ARead_any n _).mono ?_; rintro e w' ⟨rfl, rfl⟩) | (go_at_call 18; refine (HA2.out _).mono ?_; rintro e w' ⟨rfl, rfl⟩))
    go_ret
    exact ⟨rfl, HS1.out.below⟩
end Go.Proofs.Ytaakchnddcphkaa.Sl
