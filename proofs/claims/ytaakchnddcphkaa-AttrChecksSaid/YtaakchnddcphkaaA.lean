/- package attr: what its functions answer; the statements of layer 9. -/
import Derived.Test.YtaakchnddcphkaaO
namespace Go.Proofs.Ytaakchnddcphkaa.Sl
open Go.RowKit
set_option linter.unusedVariables false
set_option linter.unusedSimpArgs false

/-! ### bits -/
def bitAt (n : Int) (i : Nat) : Bool := decide (n / 2 ^ i % 2 = 1)
theorem and_nat (n : Int) (m : Nat) (hm : m < 9223372036854775808) : bits .and .i64 n m = (((n % 18446744073709551616).toNat &&& m : Nat) : Int) := by
  have e1 : (BitVec.ofInt 64 n).toNat = (n % 18446744073709551616).toNat := by simp [BitVec.toNat_ofInt]
  have e2 : (BitVec.ofInt 64 (m : Int)).toNat = m := by
    rw [BitVec.ofInt_natCast, BitVec.toNat_ofNat, Nat.mod_eq_of_lt (by omega)]
  show IntKind.i64.wrap (((BitVec.ofInt 64 n) &&& (BitVec.ofInt 64 (m : Int))).toNat : Int) = _
  rw [BitVec.toNat_and, e1, e2]
  have h : (n % 18446744073709551616).toNat &&& m ≤ m := Nat.and_le_right
  rw [IntKind.wrap_i64]
  omega
theorem mod_bit (n : Int) (i : Nat) (hi : i < 64) : (n % 18446744073709551616).toNat.testBit i = bitAt n i := by
  have hs : (18446744073709551616 : Int) = 2 ^ i * 2 ^ (64 - i) := by
    rw [← Int.pow_add, show i + (64 - i) = 64 by omega]
    rfl
  have h2 : (2 : Int) ^ (64 - i) = 2 * 2 ^ (63 - i) := by
    rw [show 64 - i = 1 + (63 - i) by omega, Int.pow_add]
    rfl
  rw [Nat.testBit_eq_decide_div_mod_eq, bitAt]
  have hp : (0 : Int) < 2 ^ i := Int.pow_pos (by decide)
  have h4 : n % 18446744073709551616 / 2 ^ i = n / 2 ^ i % 2 ^ (64 - i) := by
    have e : n % 18446744073709551616 = n - 2 ^ i * (2 ^ (64 - i) * (n / 18446744073709551616)) := by
      have := Int.emod_def n 18446744073709551616
      rw [this, hs, Int.mul_assoc]
    rw [e, Int.sub_mul_ediv_left _ _ (by omega), Int.emod_def, Int.ediv_ediv_of_nonneg (Int.le_of_lt hp), ← hs]
  have h5 : n / 2 ^ i % 2 ^ (64 - i) % 2 = n / 2 ^ i % 2 := by
    rw [h2]
    exact Int.emod_emod_of_dvd _ ⟨_, rfl⟩
  have h6 : (((n % 18446744073709551616).toNat / 2 ^ i % 2 : Nat) : Int) = n / 2 ^ i % 2 := by
    have e : ((n % 18446744073709551616).toNat : Int) = n % 18446744073709551616 := by omega
    rw [Int.natCast_emod, Int.natCast_ediv, e, Int.natCast_pow]
    show n % 18446744073709551616 / 2 ^ i % 2 = _
    rw [h4, h5]
  congr 1
  apply propext
  omega
theorem and_bit (n : Int) (i : Nat) (hi : i < 63) : (bits .and .i64 n ((2 ^ i : Nat) : Int) != 0) = bitAt n i := by
  have hm : 2 ^ i < 9223372036854775808 := Nat.lt_of_lt_of_eq (Nat.pow_lt_pow_right (by decide) hi) (show 2 ^ 63 = 9223372036854775808 by decide)
  rw [and_nat n _ hm, ← mod_bit n i (by omega)]
  generalize (n % 18446744073709551616).toNat = a
  cases h : a.testBit i with
  | true =>
    have : (a &&& 2 ^ i) ≠ 0 := by
      intro h0
      have := congrArg (fun x => Nat.testBit x i) h0
      simp [h, Nat.testBit_two_pow_self] at this
    simp; omega
  | false =>
    have : (a &&& 2 ^ i) = 0 := by
      apply Nat.eq_of_testBit_eq
      intro j
      rw [Nat.testBit_and, Nat.testBit_two_pow]
      by_cases hj : i = j
      · subst hj; simp [h]
      · simp [hj]
    simp [this]
theorem and_seven (n : Int) : (bits .and .i64 n 7 != 0) = decide (n % 8 ≠ 0) := by
  have h := and_nat n 7 (by decide)
  rw [show ((7 : Nat) : Int) = 7 from rfl] at h
  rw [h, Nat.and_two_pow_sub_one_eq_mod _ 3]
  rw [Bool.eq_iff_iff]
  simp
  omega
theorem andnot_56 (n : Int) (h8 : n % 8 = 0) (h0 : -9223372036854775808 ≤ n) (h1 : n ≤ 9223372036854775807) : (bits .andNot .i64 n 56 != 0) = decide (n < 0 ∨ 63 < n) := by
  have e1 : (BitVec.ofInt 64 n).toNat = (n % 18446744073709551616).toNat := by simp [BitVec.toNat_ofInt]
  have e2 : (~~~ BitVec.ofInt 64 (56 : Int)).toNat = 18446744073709551559 := by decide
  have e3 : bits .andNot .i64 n 56 = IntKind.i64.wrap (((BitVec.ofInt 64 n) &&& ~~~ (BitVec.ofInt 64 (56 : Int))).toNat : Int) := rfl
  rw [e3, BitVec.toNat_and, e1, e2]
  have ha : (n % 18446744073709551616).toNat % 8 = 0 := by omega
  have hb : (n % 18446744073709551616).toNat < 64 ↔ ¬ (n < 0 ∨ 63 < n) := by omega
  have hc : (n % 18446744073709551616).toNat < 18446744073709551616 := by omega
  generalize (n % 18446744073709551616).toNat = a at *
  have hw : ∀ x : Nat, x < 18446744073709551616 → ((IntKind.i64.wrap (x : Int) != 0) = decide (x ≠ 0)) := by
    intro x hx
    rw [IntKind.wrap_i64, Bool.eq_iff_iff]
    simp
    omega
  rw [hw _ (Nat.lt_of_le_of_lt Nat.and_le_left hc)]
  by_cases h : a < 64
  · have : a = 0 ∨ a = 8 ∨ a = 16 ∨ a = 24 ∨ a = 32 ∨ a = 40 ∨ a = 48 ∨ a = 56 := by omega
    have hz : a &&& 18446744073709551559 = 0 := by rcases this with rfl | rfl | rfl | rfl | rfl | rfl | rfl | rfl <;> decide
    simp [hz, hb.1 h]
  · have hz : a &&& 18446744073709551559 ≠ 0 := by
      intro h0
      have h2 := congrArg (fun x => x >>> 6) h0
      simp only [Nat.shiftRight_and_distrib] at h2
      rw [show 18446744073709551559 >>> 6 = 2 ^ 58 - 1 from rfl, Nat.and_two_pow_sub_one_eq_mod, Nat.shiftRight_eq_div_pow] at h2
      simp at h2
      omega
    have : n < 0 ∨ 63 < n := by
      rcases Classical.em (n < 0 ∨ 63 < n) with h2 | h2
      · exact h2
      · exact absurd (hb.2 h2) h
    simp [hz, this]

theorem and_8 (n : Int) : (bits .and .i64 n 8 != 0) = bitAt n 3 := and_bit n 3 (by decide)
theorem and_16 (n : Int) : (bits .and .i64 n 16 != 0) = bitAt n 4 := and_bit n 4 (by decide)
theorem and_32 (n : Int) : (bits .and .i64 n 32 != 0) = bitAt n 5 := and_bit n 5 (by decide)
theorem eq_of_ne {a b : Int} {c : Bool} (h : (a != b) = c) : (a == b) = !c := by rw [← h, bne, Bool.not_not]

/-! ### attr -/
set_option maxRecDepth 100000 in
theorem ARead_any (n : Int) (w : World) :
    Calls Try.prog 17 #[.int .i64 n] w fun e w' => e = .returned (.tuple #[.bool (bitAt n 3), .bool (bitAt n 4), .bool (bitAt n 5)]) ∧ w = w' := by
  have H1 := Lib.hid (and_8 n)
  have H2 := Lib.hid (and_16 n)
  have H3 := Lib.hid (and_32 n)
  go_enter Try.func17, Try.ntmps17
  go_wp2
  go_ret3
  exact ⟨congrArg Ending.returned (show (Value.tuple #[.bool (bits .and .i64 n 8 != 0), .bool (bits .and .i64 n 16 != 0), .bool (bits .and .i64 n 32 != 0)]) = _ by rw [H1.out, H2.out, H3.out]), rfl⟩
def acheck (n : Int) : Int := if n % 8 ≠ 0 then 9 else if n < 0 ∨ 63 < n ∨ (bitAt n 5 = true ∧ bitAt n 4 = false) then 8 else 0
set_option maxRecDepth 100000 in
theorem ACheck_any (n : Int) (h0 : -9223372036854775808 ≤ n) (h1 : n ≤ 9223372036854775807) (w : World) :
    Calls Try.prog 18 #[.int .i64 n] w fun e w' => e = .returned (.int .i64 (acheck n)) ∧ w = w' := by
  have h7 := and_seven n
  by_cases h8 : n % 8 = 0
  · have ha := andnot_56 n h8 h0 h1
    have h32 := and_32 n
    have h16 := eq_of_ne (and_16 n)
    have H8 := Lib.hid h8
    simp only [h8] at h7
    by_cases hr : n < 0 ∨ 63 < n
    · have HA := Lib.hid (show acheck n = 8 by simp only [acheck, h8]; rcases hr with h | h <;> simp [h])
      simp only [hr] at ha
      clear hr h8 h32 h16
      go_enter Try.func18, Try.ntmps18
      go_wp2
      go_ret
      exact ⟨ret_int (by rw [HA.out]), rfl⟩
    · simp only [hr] at ha
      have HR := Lib.hid hr
      clear hr h8
      cases b5 : bitAt n 5 with
      | true =>
        cases b4 : bitAt n 4 with
        | true =>
          have HA := Lib.hid (show acheck n = 0 by have := HR.out; simp [acheck, H8.out, b5, b4]; omega)
          rw [b5] at h32
          rw [b4] at h16
          clear b5 b4
          go_enter Try.func18, Try.ntmps18
          go_wp2
          go_ret
          exact ⟨ret_int (by rw [HA.out]), rfl⟩
        | false =>
          have HA := Lib.hid (show acheck n = 8 by simp [acheck, H8.out, b5, b4])
          rw [b5] at h32
          rw [b4] at h16
          clear b5 b4
          go_enter Try.func18, Try.ntmps18
          go_wp2
          go_ret
          exact ⟨ret_int (by rw [HA.out]), rfl⟩
      | false =>
        have HA := Lib.hid (show acheck n = 0 by have := HR.out; simp [acheck, H8.out, b5]; omega)
        rw [b5] at h32
        clear b5 h16
        go_enter Try.func18, Try.ntmps18
        go_wp2
        go_ret
        exact ⟨ret_int (by rw [HA.out]), rfl⟩
  · have HA := Lib.hid (show acheck n = 9 by simp [acheck, h8])
    simp only [ne_eq, h8] at h7
    clear h8
    go_enter Try.func18, Try.ntmps18
    go_wp2
    go_ret
    exact ⟨ret_int (by rw [HA.out]), rfl⟩
end Go.Proofs.Ytaakchnddcphkaa.Sl
