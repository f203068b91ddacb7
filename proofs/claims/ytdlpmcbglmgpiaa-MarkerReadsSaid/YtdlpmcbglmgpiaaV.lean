/- package varint: what each of its functions does. -/
import Derived.Test.YtdlpmcbglmgpiaaR01
import Derived.Test.YtdlpmcbglmgpiaaJ
namespace Go.Proofs.Ytdlpmcbglmgpiaa.Sl
open Go.RowKit
set_option linter.unusedVariables false
set_option linter.unusedSimpArgs false

/-- A number's bytes. -/
def vput (n : Nat) : List UInt8 := if n < 128 then [UInt8.ofNat n] else UInt8.ofNat (n % 128 + 128) :: vput (n / 128)
termination_by n
decreasing_by omega
def vfold (n : Int) : Nat := if n < 0 then (-(n + 1)).toNat * 2 + 1 else n.toNat * 2
def vback (n : Nat) : Int := if n % 2 = 1 then -((n / 2 : Nat) : Int) - 1 else ((n / 2 : Nat) : Int)
theorem vput_length (k : Nat) : ∀ n : Nat, n < 128 ^ (k + 1) → (vput n).length ≤ k + 1 := by
  induction k with
  | zero => intro n h; rw [vput, if_pos (by simpa using h)]; simp
  | succ k ih =>
    intro n h
    rw [vput]
    split
    · simp
    · have := ih (n / 128) (by rw [Nat.div_lt_iff_lt_mul (by decide)]; rwa [Nat.pow_succ] at h)
      simp; omega
theorem vput_pos (n : Nat) : 1 ≤ (vput n).length := by rw [vput]; split <;> simp
theorem vput_ten (n : Nat) (h : n < 18446744073709551616) : (vput n).length ≤ 10 := vput_length 9 n (by omega)
theorem vfold_lt (n : Int) (h0 : -9223372036854775808 ≤ n) (h1 : n ≤ 9223372036854775807) : vfold n < 18446744073709551616 := by unfold vfold; split <;> omega
theorem vback_fold (n : Int) : vback (vfold n) = n := by unfold vback vfold; split <;> split <;> omega
theorem vfold_back (n : Nat) : vfold (vback n) = n := by unfold vback vfold; split <;> split <;> omega
theorem fold_eq (n : Int) (h0 : -9223372036854775808 ≤ n) (h1 : n ≤ 9223372036854775807) :
    bits .xor .u64 (IntKind.u64.wrap (wrap64 (n * 2))) (IntKind.u64.wrap (n / 9223372036854775808)) = (vfold n : Int) := by
  have e1 : IntKind.u64.wrap (wrap64 (n * 2)) = (n * 2) % 18446744073709551616 := by rw [IntKind.wrap_u64]; unfold wrap64; omega
  rw [e1]
  show IntKind.u64.wrap ((BitVec.ofInt 64 _ ^^^ BitVec.ofInt 64 _).toNat : Int) = _
  rcases Int.lt_or_le n 0 with h | h
  · have e2 : IntKind.u64.wrap (n / 9223372036854775808) = 18446744073709551615 := by rw [IntKind.wrap_u64]; omega
    rw [e2, show BitVec.ofInt 64 18446744073709551615 = BitVec.allOnes 64 by decide, BitVec.xor_allOnes, BitVec.toNat_not, BitVec.toNat_ofInt, IntKind.wrap_u64]
    simp only [vfold, if_pos h]
    omega
  · have e2 : IntKind.u64.wrap (n / 9223372036854775808) = 0 := by rw [IntKind.wrap_u64]; omega
    rw [e2, show BitVec.ofInt 64 0 = 0#64 by decide, BitVec.xor_zero, BitVec.toNat_ofInt, IntKind.wrap_u64]
    simp only [vfold, if_neg (show ¬ n < 0 by omega)]
    omega
theorem and_u64 (n m : Nat) (hn : n < 18446744073709551616) (hm : m < 18446744073709551616) : bits .and .u64 n m = ((n &&& m : Nat) : Int) := by
  show IntKind.u64.wrap ((BitVec.ofInt 64 _ &&& BitVec.ofInt 64 _).toNat : Int) = _
  rw [BitVec.toNat_and, BitVec.toNat_ofInt, BitVec.toNat_ofInt, IntKind.wrap_u64]
  have e1 : ((n : Int) % (2 ^ 64 : Nat)).toNat = n := by omega
  have e2 : ((m : Int) % (2 ^ 64 : Nat)).toNat = m := by omega
  rw [e1, e2]
  have : n &&& m ≤ m := Nat.and_le_right
  omega
theorem and_u64_1 (n : Nat) (hn : n < 18446744073709551616) : bits .and .u64 n 1 = ((n % 2 : Nat) : Int) := by
  have h := and_u64 n 1 hn (by decide)
  rw [Nat.and_one_is_mod] at h
  exact h
theorem back_eq (n : Nat) (hn : n < 18446744073709551616) : bits .xor .i64 ((n : Int) / 2) (wrap64 (-wrap64 (bits .and .u64 n 1))) = vback n := by
  rw [and_u64_1 n hn]
  show IntKind.i64.wrap ((BitVec.ofInt 64 _ ^^^ BitVec.ofInt 64 _).toNat : Int) = _
  rcases Nat.mod_two_eq_zero_or_one n with h | h
  · rw [h]
    have e2 : wrap64 (-wrap64 ((0 : Nat) : Int)) = 0 := by unfold wrap64; omega
    rw [e2, show BitVec.ofInt 64 0 = 0#64 by decide, BitVec.xor_zero, BitVec.toNat_ofInt, IntKind.wrap_i64]
    simp only [vback, h]
    simp
    omega
  · rw [h]
    have e2 : wrap64 (-wrap64 ((1 : Nat) : Int)) = -1 := by unfold wrap64; omega
    rw [e2, show BitVec.ofInt 64 (-1) = BitVec.allOnes 64 by decide, BitVec.xor_allOnes, BitVec.toNat_not, BitVec.toNat_ofInt, IntKind.wrap_i64]
    simp only [vback, h]
    simp
    omega
set_option maxRecDepth 100000 in
theorem or_128_ : ∀ x : Fin 256, bits .or .u8 ((x.val : Nat) : Int) 128 = ((x.val % 128 + 128 : Nat) : Int) := by decide
theorem or_128 (x : Nat) (h : x < 256) : bits .or .u8 (x : Int) 128 = ((x % 128 + 128 : Nat) : Int) := or_128_ ⟨x, h⟩

set_option maxRecDepth 100000 in
theorem VFold_any (n : Int) (h0 : -9223372036854775808 ≤ n) (h1 : n ≤ 9223372036854775807) (w : World) :
    Calls Try.prog 129 #[.int .i64 n] w fun e w' => e = .returned (.int .u64 (vfold n)) ∧ w = w' := by
  have H := Lib.hid (fold_eq n h0 h1)
  go_enter Try.func129, Try.ntmps129
  go_wp2_with fail
  go_ret
  exact ⟨ret_int H.out, rfl⟩
set_option maxRecDepth 100000 in
theorem VBack_any (n : Nat) (hn : n < 18446744073709551616) (w : World) :
    Calls Try.prog 133 #[.int .u64 n] w fun e w' => e = .returned (.int .i64 (vback n)) ∧ w = w' := by
  have H := Lib.hid (back_eq n hn)
  go_enter Try.func133, Try.ntmps133
  go_wp2_with fail
  go_ret
  exact ⟨ret_int H.out, rfl⟩
set_option maxRecDepth 100000 in
theorem VPut_spec (b : Nat) (st : List UInt8 × Int) (n : Nat) (hn : n < 18446744073709551616) (hl : st.1.length + 10 ≤ 140737488355328) :
    Spec Try.prog 128 #[.pointer (some ⟨b, 0, none⟩), .int .u64 n] (OutR b st) (fun v A' N => v = .tuple #[] ∧ A' = OutR b (oput st (vput n)) ∧ N = []) := by
  intro F w hA
  have HA := Lib.hid (St.start F w (Sep.one hA))
  clear hA
  have HT := Lib.hid (vput_ten n hn)
  go_enter Try.func128, Try.ntmps128
  go_wp2_with fail
  go_loopw [1] (fun i wr => ∃ (m : Nat) (p : List UInt8), m ≤ n ∧ p ++ vput m = vput n ∧ i = .int .u64 m ∧ St F w [OutR b (oput st p)] wr) (fun i _ => (intOf i).toNat)
  case atStart => exact ⟨n, [], Nat.le_refl _, rfl, rfl, by rw [oput_nil]; exact HA.out⟩
  case round =>
    obtain ⟨m, p, hm, hp, rfl, hst⟩ := hrel
    have hlen : (oput st p).1.length + 1 ≤ 140737488355328 := by
      have h1 := oput_len st p
      have h2 := HT.out
      have h3 := vput_pos m
      rw [← hp, List.length_append] at h2
      omega
    have HS := Lib.hid hst
    clear hst
    by_cases hlt : 128 ≤ m
    · have ho := or_128 (m % 256) (by omega)
      have e1 : (m : Int) % 256 = ((m % 256 : Nat) : Int) := by omega
      rw [← e1] at ho
      have e2 : m % 256 % 128 = m % 128 := by omega
      rw [e2] at ho
      have HO := Lib.hid ho
      have HP := Lib.hid (show p ++ [UInt8.ofNat (m % 128 + 128)] ++ vput (m / 128) = vput n by rw [← hp, vput.eq_1 m, if_neg (by omega)]; simp)
      clear hp ho e1 e2
      go_wp2_with fail
      rw [HO.out]
      refine (HS.out.call 0 rfl (ByteI_spec b _ ((m % 128 + 128 : Nat) : Int) (by omega) (by omega) hlen)).mono ?_
      rintro e w1 ⟨v, A', N, rfl, ⟨rfl, rfl, rfl⟩, H1⟩
      rw [oput_oput, Int.toNat_natCast] at H1
      have HS1 := Lib.hid H1
      clear H1
      go_wp2_with fail
      go_roundw
      case rel => exact ⟨m / 128, _, by omega, HP.out, by go_num, HS1.out⟩
      case measure => simp [intOf]; omega
    · have e1 : (m : Int) % 256 = ((m : Nat) : Int) := by omega
      have HO := Lib.hid e1
      have HP := Lib.hid (show p ++ [UInt8.ofNat m] = vput n by rw [← hp, vput.eq_1 m, if_pos (by omega)])
      clear hp e1
      go_wp2_with fail
      refine (HS.out.call 0 rfl (ByteI_spec b _ (m : Int) (by omega) (by omega) hlen)).mono ?_
      rintro e w1 ⟨v, A', N, rfl, ⟨rfl, rfl, rfl⟩, H1⟩
      rw [oput_oput, Int.toNat_natCast, HP.out] at H1
      have HS1 := Lib.hid H1
      clear H1
      go_wp2_with fail
      go_end0
      exact ⟨_, _, _, rfl, ⟨rfl, rfl, rfl⟩, HS1.out⟩
theorem VPut_specI (b : Nat) (st : List UInt8 × Int) (n : Int) (h0 : 0 ≤ n) (hn : n < 18446744073709551616) (hl : st.1.length + 10 ≤ 140737488355328) :
    Spec Try.prog 128 #[.pointer (some ⟨b, 0, none⟩), .int .u64 n] (OutR b st) (fun v A' N => v = .tuple #[] ∧ A' = OutR b (oput st (vput n.toNat)) ∧ N = []) := by
  have h := VPut_spec b st n.toNat (by omega) hl
  rwa [show ((n.toNat : Nat) : Int) = n by omega] at h
def vputInt (st : List UInt8 × Int) (n : Int) : List UInt8 × Int := if -2147483648 ≤ n ∧ n ≤ 2147483647 then oput st (vput (vfold n)) else ofail st 11
theorem fits_4 (n : Int) : fits n 4 = decide (-2147483648 ≤ n ∧ n ≤ 2147483647) := by
  have h1 : (2 ^ (8 * (4 : Int).toNat - 1) : Int) = 2147483648 := by decide
  unfold fits
  rw [h1, Bool.eq_iff_iff]
  simp
set_option maxRecDepth 100000 in
theorem VPutInt_spec (b : Nat) (st : List UInt8 × Int) (n : Int) (h0 : -9223372036854775808 ≤ n) (h1 : n ≤ 9223372036854775807) (hl : st.1.length + 10 ≤ 140737488355328) :
    Spec Try.prog 87 #[.pointer (some ⟨b, 0, none⟩), .int .i64 n] (OutR b st) (fun v A' N => v = .tuple #[] ∧ A' = OutR b (vputInt st n) ∧ N = []) := by
  intro F w hA
  have HA := Lib.hid (St.start F w (Sep.one hA))
  clear hA
  by_cases hf : -2147483648 ≤ n ∧ n ≤ 2147483647
  · have HF := Lib.hid (show fits n 4 = true by rw [fits_4]; simp [hf])
    have HE := Lib.hid (show vputInt st n = oput st (vput (vfold n)) by simp [vputInt, hf])
    go_enter Try.func87, Try.ntmps87
    go_wp2_with fail
    refine (Fits_any n 4 w h0 h1).mono ?_
    rintro e w' ⟨rfl, rfl⟩
    rw [HF.out]
    go_wp2_with fail
    refine (VFold_any n h0 h1 w).mono ?_
    rintro e w' ⟨rfl, rfl⟩
    go_wp2_with fail
    refine (HA.out.call 0 rfl (VPut_spec b _ (vfold n) (vfold_lt n h0 h1) hl)).mono ?_
    rintro e w1 ⟨v, A', N, rfl, ⟨rfl, rfl, rfl⟩, H1⟩
    have HS1 := Lib.hid H1
    clear H1
    go_wp2_with fail
    go_end0
    exact ⟨_, _, _, rfl, ⟨rfl, by rw [HE.out], rfl⟩, HS1.out⟩
  · have HF := Lib.hid (show fits n 4 = false by rw [fits_4]; simp; omega)
    have HE := Lib.hid (show vputInt st n = ofail st 11 by simp [vputInt, hf])
    clear hf
    go_enter Try.func87, Try.ntmps87
    go_wp2_with fail
    refine (Fits_any n 4 w h0 h1).mono ?_
    rintro e w' ⟨rfl, rfl⟩
    rw [HF.out]
    go_wp2_with fail
    refine (HA.out.call 0 rfl (Fail_spec b st 11)).mono ?_
    rintro e w1 ⟨v, A', N, rfl, ⟨rfl, rfl, rfl⟩, H1⟩
    have HS1 := Lib.hid H1
    clear H1
    go_wp2_with fail
    go_end0
    exact ⟨_, _, _, rfl, ⟨rfl, by rw [HE.out], rfl⟩, HS1.out⟩
end Go.Proofs.Ytdlpmcbglmgpiaa.Sl
