/- wholeTorn_holds: part 1. -/
import Derived.Laws.BytesString
import Derived.Laws.Cells
import Derived.Laws.ComplexArith
import Derived.Laws.MakeOwn
import Derived.Laws.CopyRow
import Derived.Lib.ConvBytes
import Derived.Laws.OwnMore
import Derived.Lib.Builder
import Derived.Lib.UnsafeStr
import Derived.Laws.IdiomCopy
import Derived.ChangeKeysEq
import Derived.Test.YtahjmpipllajcaaK0
namespace Go.Proofs.Ytahjmpipllajcaa.Sl
open Go.RowKit
set_option linter.unusedVariables false
set_option linter.unusedSimpArgs false
def vput (n : Nat) : List UInt8 := if n < 128 then [UInt8.ofNat n] else UInt8.ofNat (n % 128 + 128) :: vput (n / 128)
termination_by n
decreasing_by omega
def vfold (n : Int) : Nat := if n < 0 then (-(n + 1)).toNat * 2 + 1 else n.toNat * 2
def vback (n : Nat) : Int := if n % 2 = 1 then -((n / 2 : Nat) : Int) - 1 else ((n / 2 : Nat) : Int)
theorem vput_length (k : Nat) : ∀ n : Nat, n < 128 ^ (k + 1) → (vput n).length ≤ k + 1 := by
  induction k with
  | zero => intro n h; rw [vput, if_pos (by simpa using h)]; simp
  | succ k ih =>
    intro n h
    rw [vput]
    split
    · simp
    · have := ih (n / 128) (by rw [Nat.div_lt_iff_lt_mul (by decide)]; rwa [Nat.pow_succ] at h)
      simp; omega
theorem vput_pos (n : Nat) : 1 ≤ (vput n).length := by rw [vput]; split <;> simp
theorem vput_ten (n : Nat) (h : n < 18446744073709551616) : (vput n).length ≤ 10 := vput_length 9 n (by omega)
theorem vfold_lt (n : Int) (h0 : -9223372036854775808 ≤ n) (h1 : n ≤ 9223372036854775807) : vfold n < 18446744073709551616 := by unfold vfold; split <;> omega
theorem vback_fold (n : Int) : vback (vfold n) = n := by unfold vback vfold; split <;> split <;> omega
theorem vfold_back (n : Nat) : vfold (vback n) = n := by unfold vback vfold; split <;> split <;> omega
theorem fold_eq (n : Int) (h0 : -9223372036854775808 ≤ n) (h1 : n ≤ 9223372036854775807) :
    bits .xor .u64 (IntKind.u64.wrap (wrap64 (n * 2))) (IntKind.u64.wrap (n / 9223372036854775808)) = (vfold n : Int) := by
  have e1 : IntKind.u64.wrap (wrap64 (n * 2)) = (n * 2) % 18446744073709551616 := by rw [IntKind.wrap_u64]; unfold wrap64; omega
  rw [e1]
  show IntKind.u64.wrap ((BitVec.ofInt 64 _ ^^^ BitVec.ofInt 64 _).toNat : Int) = _
  rcases Int.lt_or_le n 0 with h | h
  · have e2 : IntKind.u64.wrap (n / 9223372036854775808) = 18446744073709551615 := by rw [IntKind.wrap_u64]; omega
    rw [e2, show BitVec.ofInt 64 18446744073709551615 = BitVec.allOnes 64 by decide, BitVec.xor_allOnes, BitVec.toNat_not, BitVec.toNat_ofInt, IntKind.wrap_u64]
    simp only [vfold, if_pos h]
    omega
  · have e2 : IntKind.u64.wrap (n / 9223372036854775808) = 0 := by rw [IntKind.wrap_u64]; omega
    rw [e2, show BitVec.ofInt 64 0 = 0#64 by decide, BitVec.xor_zero, BitVec.toNat_ofInt, IntKind.wrap_u64]
    simp only [vfold, if_neg (show ¬ n < 0 by omega)]
    omega
theorem and_u64 (n m : Nat) (hn : n < 18446744073709551616) (hm : m < 18446744073709551616) : bits .and .u64 n m = ((n &&& m : Nat) : Int) := by
  show IntKind.u64.wrap ((BitVec.ofInt 64 _ &&& BitVec.ofInt 64 _).toNat : Int) = _
  rw [BitVec.toNat_and, BitVec.toNat_ofInt, BitVec.toNat_ofInt, IntKind.wrap_u64]
  have e1 : ((n : Int) % (2 ^ 64 : Nat)).toNat = n := by omega
  have e2 : ((m : Int) % (2 ^ 64 : Nat)).toNat = m := by omega
  rw [e1, e2]
  have : n &&& m ≤ m := Nat.and_le_right
  omega
theorem and_u64_1 (n : Nat) (hn : n < 18446744073709551616) : bits .and .u64 n 1 = ((n % 2 : Nat) : Int) := by
  have h := and_u64 n 1 hn (by decide)
  rw [Nat.and_one_is_mod] at h
  exact h
theorem back_eq (n : Nat) (hn : n < 18446744073709551616) : bits .xor .i64 ((n : Int) / 2) (wrap64 (-wrap64 (bits .and .u64 n 1))) = vback n := by
  rw [and_u64_1 n hn]
  show IntKind.i64.wrap ((BitVec.ofInt 64 _ ^^^ BitVec.ofInt 64 _).toNat : Int) = _
  rcases Nat.mod_two_eq_zero_or_one n with h | h
  · rw [h]
    have e2 : wrap64 (-wrap64 ((0 : Nat) : Int)) = 0 := by unfold wrap64; omega
    rw [e2, show BitVec.ofInt 64 0 = 0#64 by decide, BitVec.xor_zero, BitVec.toNat_ofInt, IntKind.wrap_i64]
    simp only [vback, h]
    simp
    omega
  · rw [h]
    have e2 : wrap64 (-wrap64 ((1 : Nat) : Int)) = -1 := by unfold wrap64; omega
    rw [e2, show BitVec.ofInt 64 (-1) = BitVec.allOnes 64 by decide, BitVec.xor_allOnes, BitVec.toNat_not, BitVec.toNat_ofInt, IntKind.wrap_i64]
    simp only [vback, h]
    simp
    omega
set_option maxRecDepth 100000 in
theorem or_128_ : ∀ x : Fin 256, bits .or .u8 ((x.val : Nat) : Int) 128 = ((x.val % 128 + 128 : Nat) : Int) := by decide
theorem or_128 (x : Nat) (h : x < 256) : bits .or .u8 (x : Int) 128 = ((x % 128 + 128 : Nat) : Int) := or_128_ ⟨x, h⟩
set_option maxRecDepth 100000 in
theorem VFold_any (n : Int) (h0 : -9223372036854775808 ≤ n) (h1 : n ≤ 9223372036854775807) (w : World) :
    Calls Try.prog 109 #[.int .i64 n] w fun e w' => e = .returned (.int .u64 (vfold n)) ∧ w = w' := by
  have H := Lib.hid (fold_eq n h0 h1)
  go_enter Try.func109, Try.ntmps109
  go_wp2_with fail
  go_ret
  exact ⟨ret_int H.out, rfl⟩
set_option maxRecDepth 100000 in
theorem VBack_any (n : Nat) (hn : n < 18446744073709551616) (w : World) :
    Calls Try.prog 118 #[.int .u64 n] w fun e w' => e = .returned (.int .i64 (vback n)) ∧ w = w' := by
  have H := Lib.hid (back_eq n hn)
  go_enter Try.func118, Try.ntmps118
  go_wp2_with fail
  go_ret
  exact ⟨ret_int H.out, rfl⟩
set_option maxRecDepth 100000 in
theorem VPut_spec (b : Nat) (st : List UInt8 × Int) (n : Nat) (hn : n < 18446744073709551616) (hl : st.1.length + 10 ≤ 140737488355328) :
    Spec Try.prog 108 #[.pointer (some ⟨b, 0, none⟩), .int .u64 n] (OutR b st) (fun v A' N => v = .tuple #[] ∧ A' = OutR b (oput st (vput n)) ∧ N = []) := by
  intro F w hA
  have HA := Lib.hid (St.start F w (Sep.one hA))
  clear hA
  have HT := Lib.hid (vput_ten n hn)
  go_enter Try.func108, Try.ntmps108
  go_wp2_with fail
  go_loopw [1] (fun i wr => ∃ (m : Nat) (p : List UInt8), m ≤ n ∧ p ++ vput m = vput n ∧ i = .int .u64 m ∧ St F w [OutR b (oput st p)] wr) (fun i _ => (intOf i).toNat)
  case atStart => exact ⟨n, [], Nat.le_refl _, rfl, rfl, by rw [oput_nil]; exact HA.out⟩
  case round =>
    obtain ⟨m, p, hm, hp, rfl, hst⟩ := hrel
    have hlen : (oput st p).1.length + 1 ≤ 140737488355328 := by
      have h1 := oput_len st p
      have h2 := HT.out
      have h3 := vput_pos m
      rw [← hp, List.length_append] at h2
      omega
    have HS := Lib.hid hst
    clear hst
    by_cases hlt : 128 ≤ m
    · have ho := or_128 (m % 256) (by omega)
      have e1 : (m : Int) % 256 = ((m % 256 : Nat) : Int) := by omega
      rw [← e1] at ho
      have e2 : m % 256 % 128 = m % 128 := by omega
      rw [e2] at ho
      have HO := Lib.hid ho
      have HP := Lib.hid (show p ++ [UInt8.ofNat (m % 128 + 128)] ++ vput (m / 128) = vput n by rw [← hp, vput.eq_1 m, if_neg (by omega)]; simp)
      clear hp ho e1 e2
      go_wp2_with fail
      rw [HO.out]
      refine (HS.out.call 0 rfl (ByteI_spec b _ ((m % 128 + 128 : Nat) : Int) (by omega) (by omega) hlen)).mono ?_
      rintro e w1 ⟨v, A', N, rfl, ⟨rfl, rfl, rfl⟩, H1⟩
      rw [oput_oput, Int.toNat_natCast] at H1
      have HS1 := Lib.hid H1
      clear H1
      go_wp2_with fail
      go_roundw
      case rel => exact ⟨m / 128, _, by omega, HP.out, by go_num, HS1.out⟩
      case measure => simp [intOf]; omega
    · have e1 : (m : Int) % 256 = ((m : Nat) : Int) := by omega
      have HO := Lib.hid e1
      have HP := Lib.hid (show p ++ [UInt8.ofNat m] = vput n by rw [← hp, vput.eq_1 m, if_pos (by omega)])
      clear hp e1
      go_wp2_with fail
      refine (HS.out.call 0 rfl (ByteI_spec b _ (m : Int) (by omega) (by omega) hlen)).mono ?_
      rintro e w1 ⟨v, A', N, rfl, ⟨rfl, rfl, rfl⟩, H1⟩
      rw [oput_oput, Int.toNat_natCast, HP.out] at H1
      have HS1 := Lib.hid H1
      clear H1
      go_wp2_with fail
      go_end0
      exact ⟨_, _, _, rfl, ⟨rfl, rfl, rfl⟩, HS1.out⟩
set_option maxRecDepth 100000 in
theorem VPutLong_spec (b : Nat) (st : List UInt8 × Int) (n : Int) (h0 : -9223372036854775808 ≤ n) (h1 : n ≤ 9223372036854775807) (hl : st.1.length + 10 ≤ 140737488355328) :
    Spec Try.prog 98 #[.pointer (some ⟨b, 0, none⟩), .int .i64 n] (OutR b st) (fun v A' N => v = .tuple #[] ∧ A' = OutR b (oput st (vput (vfold n))) ∧ N = []) := by
  intro F w hA
  have HA := Lib.hid (St.start F w (Sep.one hA))
  clear hA
  go_enter Try.func98, Try.ntmps98
  go_wp2_with fail
  refine (VFold_any n h0 h1 w).mono ?_
  rintro e w' ⟨rfl, rfl⟩
  go_wp2_with fail
  refine (HA.out.call 0 rfl (VPut_spec b _ (vfold n) (vfold_lt n h0 h1) hl)).mono ?_
  rintro e w1 ⟨v, A', N, rfl, ⟨rfl, rfl, rfl⟩, H1⟩
  have HS1 := Lib.hid H1
  clear H1
  go_wp2_with fail
  go_end0
  exact ⟨_, _, _, rfl, ⟨rfl, rfl, rfl⟩, HS1.out⟩
def vputInt (st : List UInt8 × Int) (n : Int) : List UInt8 × Int := if -2147483648 ≤ n ∧ n ≤ 2147483647 then oput st (vput (vfold n)) else ofail st 11
theorem fits_4 (n : Int) : fits n 4 = decide (-2147483648 ≤ n ∧ n ≤ 2147483647) := by
  have h1 : (2 ^ (8 * (4 : Int).toNat - 1) : Int) = 2147483648 := by decide
  unfold fits
  rw [h1, Bool.eq_iff_iff]
  simp
set_option maxRecDepth 100000 in
theorem VPutInt_spec (b : Nat) (st : List UInt8 × Int) (n : Int) (h0 : -9223372036854775808 ≤ n) (h1 : n ≤ 9223372036854775807) (hl : st.1.length + 10 ≤ 140737488355328) :
    Spec Try.prog 99 #[.pointer (some ⟨b, 0, none⟩), .int .i64 n] (OutR b st) (fun v A' N => v = .tuple #[] ∧ A' = OutR b (vputInt st n) ∧ N = []) := by
  intro F w hA
  have HA := Lib.hid (St.start F w (Sep.one hA))
  clear hA
  by_cases hf : -2147483648 ≤ n ∧ n ≤ 2147483647
  · have HF := Lib.hid (show fits n 4 = true by rw [fits_4]; simp [hf])
    have HE := Lib.hid (show vputInt st n = oput st (vput (vfold n)) by simp [vputInt, hf])
    go_enter Try.func99, Try.ntmps99
    go_wp2_with fail
    refine (Fits_any n 4 w h0 h1).mono ?_
    rintro e w' ⟨rfl, rfl⟩
    rw [HF.out]
    go_wp2_with fail
    refine (VFold_any n h0 h1 w).mono ?_
    rintro e w' ⟨rfl, rfl⟩
    go_wp2_with fail
    refine (HA.out.call 0 rfl (VPut_spec b _ (vfold n) (vfold_lt n h0 h1) hl)).mono ?_
    rintro e w1 ⟨v, A', N, rfl, ⟨rfl, rfl, rfl⟩, H1⟩
    have HS1 := Lib.hid H1
    clear H1
    go_wp2_with fail
    go_end0
    exact ⟨_, _, _, rfl, ⟨rfl, by rw [HE.out], rfl⟩, HS1.out⟩
  · have HF := Lib.hid (show fits n 4 = false by rw [fits_4]; simp; omega)
    have HE := Lib.hid (show vputInt st n = ofail st 11 by simp [vputInt, hf])
    clear hf
    go_enter Try.func99, Try.ntmps99
    go_wp2_with fail
    refine (Fits_any n 4 w h0 h1).mono ?_
    rintro e w' ⟨rfl, rfl⟩
    rw [HF.out]
    go_wp2_with fail
    refine (HA.out.call 0 rfl (Fail_spec b st 11)).mono ?_
    rintro e w1 ⟨v, A', N, rfl, ⟨rfl, rfl, rfl⟩, H1⟩
    have HS1 := Lib.hid H1
    clear H1
    go_wp2_with fail
    go_end0
    exact ⟨_, _, _, rfl, ⟨rfl, by rw [HE.out], rfl⟩, HS1.out⟩
end Go.Proofs.Ytahjmpipllajcaa.Sl
namespace Go.Proofs.Ytahjmpipllajcaa.Sl
open Go.RowKit
set_option linter.unusedVariables false
set_option linter.unusedSimpArgs false
def vgo (bits : Int) : List UInt8 → Nat → Nat → Nat → Nat × I
  | [], pos, acc, i => (0, ⟨[], pos, 1⟩)
  | c :: l, pos, acc, i =>
    if bits - 7 * i ≤ 0 ∨ (bits - 7 * i < 7 ∧ c.toNat % 128 / 2 ^ (bits - 7 * i).toNat ≠ 0) then (0, ⟨l, pos + 1, 3⟩)
    else if 128 ≤ c.toNat then vgo bits l (pos + 1) (acc + c.toNat % 128 * 2 ^ (7 * i)) (i + 1)
    else if c.toNat = 0 ∧ 0 < i then (0, ⟨l, pos + 1, 3⟩)
    else (acc + c.toNat % 128 * 2 ^ (7 * i), ⟨l, pos + 1, 0⟩)
def vread (bits : Int) (st : I) : Nat × I := if st.err ≠ 0 then (0, st) else vgo bits st.rest st.pos 0 0
theorem itake_one (c : UInt8) (l : List UInt8) (pos : Nat) : itake ⟨c :: l, pos, 0⟩ 1 = ([c], ⟨l, pos + 1, 0⟩) := by
  unfold itake
  rw [if_neg (by simp), if_neg (by omega), if_neg (by simp only [List.length_cons]; omega)]
  simp
theorem itake_none (pos : Nat) : itake ⟨[], pos, 0⟩ 1 = ([], ⟨[], pos, 1⟩) := by
  unfold itake
  rw [if_neg (by simp), if_neg (by omega), if_pos (by simp)]
  done
theorem and_u64_127 (d : Nat) (hd : d < 256) : bits .and .u64 d 127 = ((d % 128 : Nat) : Int) := by
  have h := and_u64 d 127 (by omega) (by decide)
  rw [Nat.and_two_pow_sub_one_eq_mod d 7] at h
  exact h
theorem vdiv_test (k : Nat) {d : Nat} (hd : d < 256) : (bits .and .u64 d 127 / 2 ^ k != 0) = decide (d % 128 / 2 ^ k ≠ 0) := by
  rw [and_u64_127 d hd, show ((d % 128 : Nat) : Int) / 2 ^ k = ((d % 128 / 2 ^ k : Nat) : Int) by rw [Int.natCast_ediv, Int.natCast_pow]; rfl]
  generalize d % 128 / 2 ^ k = z
  rw [Bool.eq_iff_iff]
  simp
set_option maxRecDepth 100000 in
theorem and_u64_128_ : ∀ d : Fin 256, (bits .and .u64 ((d.val : Nat) : Int) 128 != 0) = decide (128 ≤ d.val) := by decide
theorem and_u64_128 (d : Nat) (hd : d < 256) : (bits .and .u64 d 128 != 0) = decide (128 ≤ d) := and_u64_128_ ⟨d, hd⟩
theorem vacc_lt (bs : Int) (hb : bs = 32 ∨ bs = 64) (acc x i : Nat) (hacc : acc < 2 ^ (7 * i)) (hl : 0 < bs - 7 * i) (hx : x < 128) (hd : ¬ (bs - 7 * i < 7 ∧ x / 2 ^ (bs - 7 * i).toNat ≠ 0)) :
    acc + x * 2 ^ (7 * i) < 2 ^ (7 * (i + 1)) ∧ acc + x * 2 ^ (7 * i) < 2 ^ bs.toNat := by
  have e1 : 2 ^ (7 * (i + 1)) = 128 * 2 ^ (7 * i) := by rw [show 7 * (i + 1) = 7 + 7 * i by omega, Nat.pow_add]
  have e2 : 2 ^ bs.toNat = 2 ^ (bs - 7 * i).toNat * 2 ^ (7 * i) := by rw [← Nat.pow_add]; congr 1; omega
  have h1 : x < 2 ^ (bs - 7 * i).toNat := by
    by_cases h7 : bs - 7 * i < 7
    · have h2 : x / 2 ^ (bs - 7 * i).toNat = 0 := by
        rcases Nat.eq_zero_or_pos (x / 2 ^ (bs - 7 * i).toNat) with h | h
        · exact h
        · exact absurd ⟨h7, by omega⟩ hd
      exact (Nat.div_eq_zero_iff.1 h2).resolve_left (by have := Nat.two_pow_pos (bs - 7 * i).toNat; omega)
    · have : 2 ^ 7 ≤ 2 ^ (bs - 7 * i).toNat := Nat.pow_le_pow_right (by decide) (by omega)
      omega
  have h3 : (x + 1) * 2 ^ (7 * i) ≤ 2 ^ (bs - 7 * i).toNat * 2 ^ (7 * i) := Nat.mul_le_mul_right _ h1
  have h4 : (x + 1) * 2 ^ (7 * i) ≤ 128 * 2 ^ (7 * i) := Nat.mul_le_mul_right _ hx
  rw [Nat.add_mul] at h3 h4
  rw [e1, e2]
  omega
theorem vacc_or (bs : Int) (hb : bs = 32 ∨ bs = 64) (acc d i : Nat) (hacc : acc < 2 ^ (7 * i)) (hdd : d < 256) (hl : 0 < bs - 7 * i) (hd : ¬ (bs - 7 * i < 7 ∧ d % 128 / 2 ^ (bs - 7 * i).toNat ≠ 0)) :
    bits .or .u64 acc (IntKind.u64.wrap (bits .and .u64 d 127 * 2 ^ (7 * i))) = ((acc + d % 128 * 2 ^ (7 * i) : Nat) : Int) := by
  obtain ⟨_, h2⟩ := vacc_lt bs hb acc (d % 128) i hacc hl (by omega) hd
  have h3 : 2 ^ bs.toNat ≤ 18446744073709551616 := by rcases hb with rfl | rfl <;> decide
  have hlt : acc + d % 128 * 2 ^ (7 * i) < 18446744073709551616 := by omega
  rw [and_u64_127 d hdd]
  have e1 : ((d % 128 : Nat) : Int) * 2 ^ (7 * i) = ((d % 128 * 2 ^ (7 * i) : Nat) : Int) := by rw [Int.natCast_mul, Int.natCast_pow]; rfl
  have e0 := Nat.two_pow_add_eq_or_of_lt hacc (d % 128)
  rw [Nat.mul_comm] at e0
  rw [e1]
  generalize d % 128 * 2 ^ (7 * i) = y at *
  have e2 : IntKind.u64.wrap (y : Int) = y := by rw [IntKind.wrap_u64]; omega
  rw [e2]
  show IntKind.u64.wrap ((BitVec.ofInt 64 _ ||| BitVec.ofInt 64 _).toNat : Int) = _
  rw [BitVec.toNat_or, BitVec.toNat_ofInt, BitVec.toNat_ofInt]
  have e3 : ((acc : Int) % (2 ^ 64 : Nat)).toNat = acc := by omega
  have e4 : ((y : Int) % (2 ^ 64 : Nat)).toNat = y := by omega
  rw [e3, e4, Nat.or_comm, ← e0, IntKind.wrap_u64]
  omega
attribute [local go_sem] bsOf_toList bsOf_size
set_option maxRecDepth 100000 in
theorem Uns_fail (b : Nat) (st : I) (bs : Int) (h0 : st.err ≠ 0) :
    Spec Try.prog 119 #[.pointer (some ⟨b, 0, none⟩), .int .i64 bs] (InR b st) (fun v A' N => v = .int .u64 0 ∧ A' = InR b st ∧ N = []) := by
  intro F w hA
  have HA := Lib.hid (St.start F w (Sep.one hA))
  clear hA
  have HT := Lib.hid (show itake st 1 = ([], st) by simp [itake, h0])
  go_enter Try.func119, Try.ntmps119
  go_wp2_with fail
  go_step3
  go_wp2_with fail
  go_step3
  go_wp2_with fail
  refine (HA.out.call 0 rfl (Take_spec b st 1 (by omega) (by omega))).mono ?_
  rintro e w1 ⟨v, A', N, rfl, ⟨rfl, rfl, rfl⟩, H1⟩
  rw [HT.out] at H1 ⊢
  have HS1 := Lib.hid H1
  clear H1
  go_wp2_with fail
  go_ret
  exact ⟨_, _, _, rfl, ⟨rfl, rfl, rfl⟩, HS1.out⟩
def VJ (F : Nat → Prop) (w : World) (b : Nat) (bs : Int) (res : Nat × I) (lab : Nat) (a' : Act) (w' : World) : Prop :=
  (lab = 0 ∧ ∃ (l1 : List UInt8) (pos1 acc i : Nat), St F w [InR b ⟨l1, pos1, 0⟩] w' ∧ acc < 2 ^ (7 * i) ∧ 7 * i < bs + 7 ∧ vgo bs l1 pos1 acc i = res ∧
    ∃ u7 u8 u9 u10 u11 u12 u13 u14 u15 u16 u17 u18 u19 u20 u21 u22 u23 u24 u25 u26 u27 u28 u29 u30 u31 u32 u33 u34 u35 u36 u37 u38 u39 u40 u41 u42 u43 u44 u45 u46 u47 u48 u49 u50 u51 u52 u53 u54 u55, a' = { tmps := #[.pointer (some ⟨b, 0, none⟩), .int .i64 bs, undef, undef, .int .u64 0, .int .u64 acc, .int .i64 (7 * i), u7, u8, u9, u10, u11, u12, u13, u14, u15, u16, u17, u18, u19, u20, u21, u22, u23, u24, u25, u26, u27, u28, u29, u30, u31, u32, u33, u34, u35, u36, u37, u38, u39, u40, u41, u42, u43, u44, u45, u46, u47, u48, u49, u50, u51, u52, u53, u54, u55], defers := [] }) ∨
  (lab = 1 ∧ ∃ (l1 : List UInt8) (pos1 : Nat), St F w [InR b ⟨l1, pos1, 0⟩] w' ∧ (0, ⟨l1, pos1, 3⟩) = res ∧
    ∃ u5 u6 u7 u8 u9 u10 u11 u12 u13 u14 u15 u16 u17 u18 u19 u20 u21 u22 u23 u24 u25 u26 u27 u28 u29 u30 u31 u32 u33 u34 u35 u36 u37 u38 u39 u40 u41 u42 u43 u44 u45 u46 u47 u48 u49 u50 u51 u52 u53 u54 u55, a' = { tmps := #[.pointer (some ⟨b, 0, none⟩), .int .i64 bs, undef, undef, .int .u64 0, u5, u6, u7, u8, u9, u10, u11, u12, u13, u14, u15, u16, u17, u18, u19, u20, u21, u22, u23, u24, u25, u26, u27, u28, u29, u30, u31, u32, u33, u34, u35, u36, u37, u38, u39, u40, u41, u42, u43, u44, u45, u46, u47, u48, u49, u50, u51, u52, u53, u54, u55], defers := [] })
def VM (lab : Nat) (a' : Act) (_ : World) : Nat := if lab = 1 then 0 else 100 - (intOf (a'.tmps.getD 6 undef)).toNat
set_option maxRecDepth 100000 in
set_option maxHeartbeats 4000000 in
theorem Uns_go (b : Nat) (l : List UInt8) (pos : Nat) (bs : Int) (hb : bs = 32 ∨ bs = 64) :
    Spec Try.prog 119 #[.pointer (some ⟨b, 0, none⟩), .int .i64 bs] (InR b ⟨l, pos, 0⟩) (fun v A' N => v = .int .u64 (vgo bs l pos 0 0).1 ∧ A' = InR b (vgo bs l pos 0 0).2 ∧ N = []) := by
  intro F w hA
  have HA := Lib.hid (St.start F w (Sep.one hA))
  clear hA
  generalize hres : vgo bs l pos 0 0 = res
  go_enter Try.func119, Try.ntmps119
  go_wp2_with fail
  refine wp_scope_labels (VJ F w b bs res) VM ?_ ?_
  · rintro lab a' w1 (⟨rfl, l1, pos1, acc, i, hst, hacc, hi, hg, u7, u8, u9, u10, u11, u12, u13, u14, u15, u16, u17, u18, u19, u20, u21, u22, u23, u24, u25, u26, u27, u28, u29, u30, u31, u32, u33, u34, u35, u36, u37, u38, u39, u40, u41, u42, u43, u44, u45, u46, u47, u48, u49, u50, u51, u52, u53, u54, u55, rfl⟩ | ⟨rfl, l1, pos1, hst, hg, u5, u6, u7, u8, u9, u10, u11, u12, u13, u14, u15, u16, u17, u18, u19, u20, u21, u22, u23, u24, u25, u26, u27, u28, u29, u30, u31, u32, u33, u34, u35, u36, u37, u38, u39, u40, u41, u42, u43, u44, u45, u46, u47, u48, u49, u50, u51, u52, u53, u54, u55, rfl⟩)
    · refine ⟨_, rfl, ?_⟩
      have HS := Lib.hid hst
      have HG := Lib.hid hg
      have HACC := Lib.hid hacc
      have hb1 : bs ≤ 64 := by omega
      clear hst hg hacc
      cases l1 with
      | nil =>
        have HT := Lib.hid (itake_none pos1)
        go_wp2_with fail
        refine (HS.out.call 0 rfl (Take_spec b _ 1 (by omega) (by omega))).mono ?_
        rintro e w2 ⟨v, A', N, rfl, ⟨rfl, rfl, rfl⟩, H1⟩
        rw [HT.out] at H1 ⊢
        have HS1 := Lib.hid H1
        clear H1
        go_wp2_with fail
        go_ret
        exact ⟨_, _, _, rfl, ⟨by rw [← HG.out]; rfl, by rw [← HG.out]; rfl, rfl⟩, HS1.out⟩
      | cons c l2 =>
        have HT := Lib.hid (itake_one c l2 pos1)
        have hsz := bsOf_size [c]
        have h0 := bsOf_get [c] 0 (by simp [bsOf_size])
        simp only [List.getElem_cons_zero] at h0
        have hc : c.toNat < 256 := c.toNat_lt
        by_cases hl : bs - 7 * i ≤ 0
        · have HV := Lib.hid (show (0, ⟨l2, pos1 + 1, 3⟩) = res by rw [← HG.out, vgo, if_pos (by first | exact .inl hl | exact .inr ⟨by omega, hq⟩)])
          by_cases hz : (bits .and .u64 c.toNat 127 != 0) = true
          · go_wp2_with fail
            refine (HS.out.call 0 rfl (Take_spec b _ 1 (by omega) (by omega))).mono ?_
            rintro e w2 ⟨v, A', N, rfl, ⟨rfl, rfl, rfl⟩, H1⟩
            rw [HT.out] at H1 ⊢
            have HS1 := Lib.hid H1
            clear H1
            go_wp2_with fail
            go_step3
            exact ⟨.inr ⟨rfl, l2, pos1 + 1, HS1.out, HV.out, _, _, _, _, _, _, _, _, _, _, _, _, _, _, _, _, _, _, _, _, _, _, _, _, _, _, _, _, _, _, _, _, _, _, _, _, _, _, _, _, _, _, _, _, _, _, _, _, _, _, _, rfl⟩, by simp [VM, intOf]; omega⟩
          · have hz' : (bits .and .u64 c.toNat 127 != 0) = false := by simpa using hz
            go_wp2_with fail
            refine (HS.out.call 0 rfl (Take_spec b _ 1 (by omega) (by omega))).mono ?_
            rintro e w2 ⟨v, A', N, rfl, ⟨rfl, rfl, rfl⟩, H1⟩
            rw [HT.out] at H1 ⊢
            have HS1 := Lib.hid H1
            clear H1
            go_wp2_with fail
            go_step3
            exact ⟨.inr ⟨rfl, l2, pos1 + 1, HS1.out, HV.out, _, _, _, _, _, _, _, _, _, _, _, _, _, _, _, _, _, _, _, _, _, _, _, _, _, _, _, _, _, _, _, _, _, _, _, _, _, _, _, _, _, _, _, _, _, _, _, _, _, _, _, rfl⟩, by simp [VM, intOf]; omega⟩
        · have hl' : 0 < bs - 7 * i := by omega
          by_cases hl7 : 7 ≤ bs - 7 * i
          · have HD := Lib.hid (show ¬ (bs - 7 * i < 7 ∧ c.toNat % 128 / 2 ^ (bs - 7 * i).toNat ≠ 0) by omega)
            have HA2 := Lib.hid (vacc_or bs hb acc c.toNat i HACC.out (by omega) hl' HD.out)
            have HLT := Lib.hid (vacc_lt bs hb acc (c.toNat % 128) i HACC.out hl' (by omega) HD.out)
            have HN := Lib.hid (show ¬ (bs - 7 * i ≤ 0 ∨ (bs - 7 * i < 7 ∧ c.toNat % 128 / 2 ^ (bs - 7 * i).toNat ≠ 0)) from fun h => h.elim (fun h => by omega) HD.out)
            by_cases h128 : 128 ≤ c.toNat
            · have HV := Lib.hid (show vgo bs l2 (pos1 + 1) (acc + c.toNat % 128 * 2 ^ (7 * i)) (i + 1) = res by rw [← HG.out, vgo, if_neg HN.out, if_pos h128])
              have hbt : (bits .and .u64 c.toNat 128 != 0) = true := by rw [and_u64_128 _ hc]; simpa using h128
              go_wp2_with fail
              refine (HS.out.call 0 rfl (Take_spec b _ 1 (by omega) (by omega))).mono ?_
              rintro e w2 ⟨v, A', N, rfl, ⟨rfl, rfl, rfl⟩, H1⟩
              rw [HT.out] at H1 ⊢
              have HS1 := Lib.hid H1
              clear H1
              go_wp2_with fail
              go_step3
              rw [HA2.out, show (7 * (i : Int) + 7) = 7 * ((i + 1 : Nat) : Int) by omega]
              exact ⟨.inl ⟨rfl, l2, pos1 + 1, _, i + 1, HS1.out, HLT.out.1, by omega, HV.out, _, _, _, _, _, _, _, _, _, _, _, _, _, _, _, _, _, _, _, _, _, _, _, _, _, _, _, _, _, _, _, _, _, _, _, _, _, _, _, _, _, _, _, _, _, _, _, _, _, rfl⟩, by simp [VM, intOf]; omega⟩
            · have hbt : (bits .and .u64 c.toNat 128 != 0) = false := by rw [and_u64_128 _ hc]; simpa using h128
              by_cases hz : c.toNat = 0 ∧ 0 < i
              · have HV := Lib.hid (show (0, ⟨l2, pos1 + 1, 3⟩) = res by rw [← HG.out, vgo, if_neg HN.out, if_neg h128, if_pos hz])
                obtain ⟨hz1, hz2⟩ := hz
                have hz0 : ((c.toNat : Int) == 0) = true := by simp [hz1]
                try (have hq0 : (bits .and .u64 0 127 / 2 ^ (bs - 7 * i).toNat != 0) = false := by (rw [← hqb, hz1]; rfl))
                have hi0 : 0 < 7 * (i : Int) := by omega
                go_wp2_with fail
                refine (HS.out.call 0 rfl (Take_spec b _ 1 (by omega) (by omega))).mono ?_
                rintro e w2 ⟨v, A', N, rfl, ⟨rfl, rfl, rfl⟩, H1⟩
                rw [HT.out] at H1 ⊢
                have HS1 := Lib.hid H1
                clear H1
                go_wp2_with fail
                go_step3
                exact ⟨.inr ⟨rfl, l2, pos1 + 1, HS1.out, HV.out, _, _, _, _, _, _, _, _, _, _, _, _, _, _, _, _, _, _, _, _, _, _, _, _, _, _, _, _, _, _, _, _, _, _, _, _, _, _, _, _, _, _, _, _, _, _, _, _, _, _, _, rfl⟩, by simp [VM, intOf]; omega⟩
              · have HV := Lib.hid (show (acc + c.toNat % 128 * 2 ^ (7 * i), ⟨l2, pos1 + 1, 0⟩) = res by rw [← HG.out, vgo, if_neg HN.out, if_neg h128, if_neg hz])
                by_cases hz1 : c.toNat = 0
                · have hz0 : ((c.toNat : Int) == 0) = true := by simp [hz1]
                  try (have hq0 : (bits .and .u64 0 127 / 2 ^ (bs - 7 * i).toNat != 0) = false := by (rw [← hqb, hz1]; rfl))
                  have HA3 := Lib.hid (show bits .or .u64 acc (IntKind.u64.wrap (bits .and .u64 0 127 * 2 ^ (7 * i))) = ((acc + c.toNat % 128 * 2 ^ (7 * i) : Nat) : Int) by rw [← HA2.out, hz1]; rfl)
                  have hi0 : ¬ (0 < 7 * (i : Int)) := by omega
                  go_wp2_with fail
                  refine (HS.out.call 0 rfl (Take_spec b _ 1 (by omega) (by omega))).mono ?_
                  rintro e w2 ⟨v, A', N, rfl, ⟨rfl, rfl, rfl⟩, H1⟩
                  rw [HT.out] at H1 ⊢
                  have HS1 := Lib.hid H1
                  clear H1
                  go_wp2_with fail
                  all_goals
                    go_ret
                    exact ⟨_, _, _, rfl, ⟨by rw [← HV.out]; exact congrArg (Value.int IntKind.u64) HA3.out, by rw [← HV.out], rfl⟩, HS1.out⟩
                · have hz0 : ((c.toNat : Int) == 0) = false := by simp; omega
                  go_wp2_with fail
                  refine (HS.out.call 0 rfl (Take_spec b _ 1 (by omega) (by omega))).mono ?_
                  rintro e w2 ⟨v, A', N, rfl, ⟨rfl, rfl, rfl⟩, H1⟩
                  rw [HT.out] at H1 ⊢
                  have HS1 := Lib.hid H1
                  clear H1
                  go_wp2_with fail
                  go_ret
                  exact ⟨_, _, _, rfl, ⟨by rw [← HV.out]; exact congrArg (Value.int IntKind.u64) HA2.out, by rw [← HV.out], rfl⟩, HS1.out⟩
          · by_cases hq : c.toNat % 128 / 2 ^ (bs - 7 * i).toNat ≠ 0
            · have HV := Lib.hid (show (0, ⟨l2, pos1 + 1, 3⟩) = res by rw [← HG.out, vgo, if_pos (by first | exact .inl hl | exact .inr ⟨by omega, hq⟩)])
              have hqb : (bits .and .u64 c.toNat 127 / 2 ^ (bs - 7 * i).toNat != 0) = true := by rw [vdiv_test _ hc]; simpa using hq
              go_wp2_with fail
              refine (HS.out.call 0 rfl (Take_spec b _ 1 (by omega) (by omega))).mono ?_
              rintro e w2 ⟨v, A', N, rfl, ⟨rfl, rfl, rfl⟩, H1⟩
              rw [HT.out] at H1 ⊢
              have HS1 := Lib.hid H1
              clear H1
              go_wp2_with fail
              go_step3
              exact ⟨.inr ⟨rfl, l2, pos1 + 1, HS1.out, HV.out, _, _, _, _, _, _, _, _, _, _, _, _, _, _, _, _, _, _, _, _, _, _, _, _, _, _, _, _, _, _, _, _, _, _, _, _, _, _, _, _, _, _, _, _, _, _, _, _, _, _, _, rfl⟩, by simp [VM, intOf]; omega⟩
            · have hqb : (bits .and .u64 c.toNat 127 / 2 ^ (bs - 7 * i).toNat != 0) = false := by rw [vdiv_test _ hc]; simpa using hq
              have HD := Lib.hid (show ¬ (bs - 7 * i < 7 ∧ c.toNat % 128 / 2 ^ (bs - 7 * i).toNat ≠ 0) by omega)
              have HA2 := Lib.hid (vacc_or bs hb acc c.toNat i HACC.out (by omega) hl' HD.out)
              have HLT := Lib.hid (vacc_lt bs hb acc (c.toNat % 128) i HACC.out hl' (by omega) HD.out)
              have HN := Lib.hid (show ¬ (bs - 7 * i ≤ 0 ∨ (bs - 7 * i < 7 ∧ c.toNat % 128 / 2 ^ (bs - 7 * i).toNat ≠ 0)) from fun h => h.elim (fun h => by omega) HD.out)
              by_cases h128 : 128 ≤ c.toNat
              · have HV := Lib.hid (show vgo bs l2 (pos1 + 1) (acc + c.toNat % 128 * 2 ^ (7 * i)) (i + 1) = res by rw [← HG.out, vgo, if_neg HN.out, if_pos h128])
                have hbt : (bits .and .u64 c.toNat 128 != 0) = true := by rw [and_u64_128 _ hc]; simpa using h128
                go_wp2_with fail
                refine (HS.out.call 0 rfl (Take_spec b _ 1 (by omega) (by omega))).mono ?_
                rintro e w2 ⟨v, A', N, rfl, ⟨rfl, rfl, rfl⟩, H1⟩
                rw [HT.out] at H1 ⊢
                have HS1 := Lib.hid H1
                clear H1
                go_wp2_with fail
                go_step3
                rw [HA2.out, show (7 * (i : Int) + 7) = 7 * ((i + 1 : Nat) : Int) by omega]
                exact ⟨.inl ⟨rfl, l2, pos1 + 1, _, i + 1, HS1.out, HLT.out.1, by omega, HV.out, _, _, _, _, _, _, _, _, _, _, _, _, _, _, _, _, _, _, _, _, _, _, _, _, _, _, _, _, _, _, _, _, _, _, _, _, _, _, _, _, _, _, _, _, _, _, _, _, _, rfl⟩, by simp [VM, intOf]; omega⟩
              · have hbt : (bits .and .u64 c.toNat 128 != 0) = false := by rw [and_u64_128 _ hc]; simpa using h128
                by_cases hz : c.toNat = 0 ∧ 0 < i
                · have HV := Lib.hid (show (0, ⟨l2, pos1 + 1, 3⟩) = res by rw [← HG.out, vgo, if_neg HN.out, if_neg h128, if_pos hz])
                  obtain ⟨hz1, hz2⟩ := hz
                  have hz0 : ((c.toNat : Int) == 0) = true := by simp [hz1]
                  try (have hq0 : (bits .and .u64 0 127 / 2 ^ (bs - 7 * i).toNat != 0) = false := by (rw [← hqb, hz1]; rfl))
                  have hi0 : 0 < 7 * (i : Int) := by omega
                  go_wp2_with fail
                  refine (HS.out.call 0 rfl (Take_spec b _ 1 (by omega) (by omega))).mono ?_
                  rintro e w2 ⟨v, A', N, rfl, ⟨rfl, rfl, rfl⟩, H1⟩
                  rw [HT.out] at H1 ⊢
                  have HS1 := Lib.hid H1
                  clear H1
                  go_wp2_with fail
                  go_step3
                  exact ⟨.inr ⟨rfl, l2, pos1 + 1, HS1.out, HV.out, _, _, _, _, _, _, _, _, _, _, _, _, _, _, _, _, _, _, _, _, _, _, _, _, _, _, _, _, _, _, _, _, _, _, _, _, _, _, _, _, _, _, _, _, _, _, _, _, _, _, _, rfl⟩, by simp [VM, intOf]; omega⟩
                · have HV := Lib.hid (show (acc + c.toNat % 128 * 2 ^ (7 * i), ⟨l2, pos1 + 1, 0⟩) = res by rw [← HG.out, vgo, if_neg HN.out, if_neg h128, if_neg hz])
                  by_cases hz1 : c.toNat = 0
                  · have hz0 : ((c.toNat : Int) == 0) = true := by simp [hz1]
                    try (have hq0 : (bits .and .u64 0 127 / 2 ^ (bs - 7 * i).toNat != 0) = false := by (rw [← hqb, hz1]; rfl))
                    have HA3 := Lib.hid (show bits .or .u64 acc (IntKind.u64.wrap (bits .and .u64 0 127 * 2 ^ (7 * i))) = ((acc + c.toNat % 128 * 2 ^ (7 * i) : Nat) : Int) by rw [← HA2.out, hz1]; rfl)
                    have hi0 : ¬ (0 < 7 * (i : Int)) := by omega
                    go_wp2_with fail
                    refine (HS.out.call 0 rfl (Take_spec b _ 1 (by omega) (by omega))).mono ?_
                    rintro e w2 ⟨v, A', N, rfl, ⟨rfl, rfl, rfl⟩, H1⟩
                    rw [HT.out] at H1 ⊢
                    have HS1 := Lib.hid H1
                    clear H1
                    go_wp2_with fail
                    all_goals
                      go_ret
                      exact ⟨_, _, _, rfl, ⟨by rw [← HV.out]; exact congrArg (Value.int IntKind.u64) HA3.out, by rw [← HV.out], rfl⟩, HS1.out⟩
                  · have hz0 : ((c.toNat : Int) == 0) = false := by simp; omega
                    go_wp2_with fail
                    refine (HS.out.call 0 rfl (Take_spec b _ 1 (by omega) (by omega))).mono ?_
                    rintro e w2 ⟨v, A', N, rfl, ⟨rfl, rfl, rfl⟩, H1⟩
                    rw [HT.out] at H1 ⊢
                    have HS1 := Lib.hid H1
                    clear H1
                    go_wp2_with fail
                    go_ret
                    exact ⟨_, _, _, rfl, ⟨by rw [← HV.out]; exact congrArg (Value.int IntKind.u64) HA2.out, by rw [← HV.out], rfl⟩, HS1.out⟩
    · refine ⟨_, rfl, ?_⟩
      have HS := Lib.hid hst
      have HG := Lib.hid hg
      clear hst hg
      go_wp2_with fail
      refine (HS.out.call 0 rfl (IFail_spec b _ 3)).mono ?_
      rintro e w2 ⟨v, A', N, rfl, ⟨rfl, rfl, rfl⟩, H1⟩
      have HS1 := Lib.hid H1
      clear H1
      go_wp2_with fail
      go_ret
      exact ⟨_, _, _, rfl, ⟨by rw [← HG.out]; rfl, by rw [← HG.out]; rfl, rfl⟩, HS1.out⟩
  · intro again
    have AG := Lib.hid again
    clear again
    go_wp2_with fail
    go_step3
    rename_i hK
    exact hK _ _ (AG.out 0 _ _ _ rfl (.inl ⟨rfl, l, pos, 0, 0, HA.out, by omega, by omega, hres, _, _, _, _, _, _, _, _, _, _, _, _, _, _, _, _, _, _, _, _, _, _, _, _, _, _, _, _, _, _, _, _, _, _, _, _, _, _, _, _, _, _, _, _, _, _, _, _, _, rfl⟩))
theorem Uns_spec (b : Nat) (st : I) (bs : Int) (hb : bs = 32 ∨ bs = 64) :
    Spec Try.prog 119 #[.pointer (some ⟨b, 0, none⟩), .int .i64 bs] (InR b st) (fun v A' N => v = .int .u64 (vread bs st).1 ∧ A' = InR b (vread bs st).2 ∧ N = []) := by
  obtain ⟨l, pos, er⟩ := st
  by_cases h0 : er = 0
  · subst h0
    exact Uns_go b l pos bs hb
  · have h := Uns_fail b ⟨l, pos, er⟩ bs h0
    have e : vread bs ⟨l, pos, er⟩ = (0, ⟨l, pos, er⟩) := by simp [vread, h0]
    rw [e]
    exact h
theorem vgo_lt (bs : Int) (hb : bs = 32 ∨ bs = 64) : ∀ (l : List UInt8) (pos acc i : Nat), acc < 2 ^ (7 * i) → (vgo bs l pos acc i).1 < 2 ^ bs.toNat := by
  have hp : 0 < 2 ^ bs.toNat := Nat.two_pow_pos _
  intro l
  induction l with
  | nil => intro pos acc i _; exact hp
  | cons c l ih =>
    intro pos acc i hacc
    unfold vgo
    split
    · exact hp
    · rename_i hn
      have h := vacc_lt bs hb acc (c.toNat % 128) i hacc (by omega) (by omega) (fun h => hn (.inr h))
      split
      · exact ih _ _ _ h.1
      · split
        · exact hp
        · exact h.2
theorem vread_lt (bs : Int) (hb : bs = 32 ∨ bs = 64) (st : I) : (vread bs st).1 < 2 ^ bs.toNat := by
  unfold vread
  split
  · exact Nat.two_pow_pos _
  · exact vgo_lt bs hb _ _ _ _ (by simp)
theorem vread_lt64 (bs : Int) (hb : bs = 32 ∨ bs = 64) (st : I) : (vread bs st).1 < 18446744073709551616 := by
  have h := vread_lt bs hb st
  rcases hb with rfl | rfl
  · have e : 2 ^ (32 : Int).toNat = 4294967296 := by decide
    omega
  · have e : 2 ^ (64 : Int).toNat = 18446744073709551616 := by decide
    omega
def vbackI (r : Nat × I) : Int × I := (vback r.1, r.2)
set_option maxRecDepth 100000 in
theorem VInt_spec (b : Nat) (st : I) :
    Spec Try.prog 114 #[.pointer (some ⟨b, 0, none⟩)] (InR b st) (fun v A' N => v = .int .i64 (vbackI (vread 32 st)).1 ∧ A' = InR b (vbackI (vread 32 st)).2 ∧ N = []) := by
  intro F w hA
  have HA := Lib.hid (St.start F w (Sep.one hA))
  clear hA
  have hs := Uns_spec b st 32 (.inl rfl)
  have hlt := vread_lt64 32 (.inl rfl) st
  generalize vread 32 st = r at *
  have HS := Lib.hid hs
  clear hs
  go_enter Try.func114, Try.ntmps114
  go_wp2_with fail
  refine (HA.out.call 0 rfl HS.out).mono ?_
  rintro e w1 ⟨v, A', N, rfl, ⟨rfl, rfl, rfl⟩, H1⟩
  have HS1 := Lib.hid H1
  clear H1
  go_wp2_with fail
  refine (VBack_any r.1 hlt w1).mono ?_
  rintro e w' ⟨rfl, rfl⟩
  go_wp2_with fail
  go_ret
  exact ⟨_, _, _, rfl, ⟨rfl, rfl, rfl⟩, HS1.out⟩
set_option maxRecDepth 100000 in
theorem VLong_spec (b : Nat) (st : I) :
    Spec Try.prog 113 #[.pointer (some ⟨b, 0, none⟩)] (InR b st) (fun v A' N => v = .int .i64 (vbackI (vread 64 st)).1 ∧ A' = InR b (vbackI (vread 64 st)).2 ∧ N = []) := by
  intro F w hA
  have HA := Lib.hid (St.start F w (Sep.one hA))
  clear hA
  have hs := Uns_spec b st 64 (.inr rfl)
  have hlt := vread_lt64 64 (.inr rfl) st
  generalize vread 64 st = r at *
  have HS := Lib.hid hs
  clear hs
  go_enter Try.func113, Try.ntmps113
  go_wp2_with fail
  refine (HA.out.call 0 rfl HS.out).mono ?_
  rintro e w1 ⟨v, A', N, rfl, ⟨rfl, rfl, rfl⟩, H1⟩
  have HS1 := Lib.hid H1
  clear H1
  go_wp2_with fail
  refine (VBack_any r.1 hlt w1).mono ?_
  rintro e w' ⟨rfl, rfl⟩
  go_wp2_with fail
  go_ret
  exact ⟨_, _, _, rfl, ⟨rfl, rfl, rfl⟩, HS1.out⟩
end Go.Proofs.Ytahjmpipllajcaa.Sl
namespace Go.Proofs.Ytahjmpipllajcaa.Sl
open Go.RowKit
set_option linter.unusedVariables false
theorem pow_lt_cancel {a b : Nat} (h : 2 ^ a < 2 ^ b) : a < b := (Nat.pow_lt_pow_iff_right (by decide)).1 h
theorem vgo_put (bs : Int) (hb : 0 < bs) : ∀ (v pos acc i : Nat) (r : List UInt8), acc + v * 2 ^ (7 * i) < 2 ^ bs.toNat → (0 < i → 0 < v) →
    vgo bs (vput v ++ r) pos acc i = (acc + v * 2 ^ (7 * i), ⟨r, pos + (vput v).length, 0⟩) := by
  intro v
  induction v using Nat.strongRecOn with
  | _ v ih =>
    intro pos acc i r h hi
    have h7 : (7 * i : Int) < bs := by
      rcases Nat.eq_zero_or_pos i with h0 | h0
      · subst h0; omega
      · have hv := hi h0
        have h2 : 1 * 2 ^ (7 * i) ≤ v * 2 ^ (7 * i) := Nat.mul_le_mul_right _ hv
        have h3 := pow_lt_cancel (show 2 ^ (7 * i) < 2 ^ bs.toNat by omega)
        omega
    have hleft : ∀ d : Nat, d ≤ v → d / 2 ^ (bs - 7 * i).toNat = 0 := by
      intro d hd
      have e : 2 ^ bs.toNat = 2 ^ (bs - 7 * i).toNat * 2 ^ (7 * i) := by rw [← Nat.pow_add]; congr 1; omega
      have h2 : d * 2 ^ (7 * i) ≤ v * 2 ^ (7 * i) := Nat.mul_le_mul_right _ hd
      have h3 : d < 2 ^ (bs - 7 * i).toNat := by
        apply Nat.lt_of_mul_lt_mul_right (a := 2 ^ (7 * i))
        omega
      exact Nat.div_eq_of_lt h3
    rw [vput]
    split
    · rename_i hlt
      have hc : (UInt8.ofNat v).toNat = v := by simp [UInt8.toNat_ofNat']; omega
      simp only [List.cons_append, List.nil_append, vgo, hc, Nat.mod_eq_of_lt hlt, hleft v (Nat.le_refl _)]
      rw [if_neg (by simp; omega), if_neg (by omega), if_neg (by rintro ⟨h1, h2⟩; have := hi h2; omega)]
      simp
    · rename_i hge
      have hc : (UInt8.ofNat (v % 128 + 128)).toNat = v % 128 + 128 := by simp [UInt8.toNat_ofNat']; omega
      have e2 : 2 ^ (7 * (i + 1)) = 128 * 2 ^ (7 * i) := by rw [show 7 * (i + 1) = 7 + 7 * i by omega, Nat.pow_add]
      have e3 : acc + v % 128 * 2 ^ (7 * i) + v / 128 * 2 ^ (7 * (i + 1)) = acc + v * 2 ^ (7 * i) := by
        rw [e2]
        generalize 2 ^ (7 * i) = z
        have h1 : v / 128 * (128 * z) = v / 128 * 128 * z := by rw [Nat.mul_assoc]
        rw [h1, Nat.add_assoc, ← Nat.add_mul]
        congr 2
        omega
      simp only [List.cons_append, vgo, hc]
      rw [show (v % 128 + 128) % 128 = v % 128 by omega, hleft (v % 128) (Nat.mod_le _ _), if_neg (by simp; omega), if_pos (by omega), ih (v / 128) (by omega) _ _ _ _ (by rw [e3]; exact h) (by omega), e3]
      simp; omega
theorem vfold_lt32 (n : Int) (h : -2147483648 ≤ n ∧ n ≤ 2147483647) : vfold n < 4294967296 := by unfold vfold; split <;> omega
theorem vgo_ok (bs : Int) : ∀ (l : List UInt8) (pos acc i u : Nat) (s : I), vgo bs l pos acc i = (u, s) → s.err = 0 →
    ∃ k v, s = ⟨l.drop k, pos + k, 0⟩ ∧ k ≤ l.length ∧ u = acc + v * 2 ^ (7 * i) ∧ vput v = l.take k ∧ (0 < i → 0 < v) := by
  intro l
  induction l with
  | nil => intro pos acc i u s h h0; simp only [vgo, Prod.mk.injEq] at h; rw [← h.2] at h0; simp at h0
  | cons c l ih =>
    intro pos acc i u s h h0
    unfold vgo at h
    split at h
    · simp only [Prod.mk.injEq] at h; rw [← h.2] at h0; simp at h0
    · split at h
      · rename_i h128
        obtain ⟨k, v, h1, h2, h3, h4, h5⟩ := ih _ _ _ _ _ h h0
        have hv := h5 (by omega)
        have hc := c.toNat_lt
        refine ⟨k + 1, c.toNat % 128 + 128 * v, ?_, by simpa using h2, ?_, ?_, by omega⟩
        · rw [h1]; simp; omega
        · have e : 2 ^ (7 * (i + 1)) = 128 * 2 ^ (7 * i) := by rw [show 7 * (i + 1) = 7 + 7 * i by omega, Nat.pow_add]
          rw [h3, e, Nat.add_mul]
          generalize 2 ^ (7 * i) = z
          have : v * (128 * z) = 128 * v * z := by rw [Nat.mul_comm 128 v, Nat.mul_assoc]
          omega
        · rw [vput, if_neg (by omega), show (c.toNat % 128 + 128 * v) / 128 = v by omega, h4, List.take_succ_cons]
          congr 1
          rw [show (c.toNat % 128 + 128 * v) % 128 + 128 = c.toNat by omega]
          exact UInt8.ofNat_toNat
      · rename_i h128
        split at h
        · simp only [Prod.mk.injEq] at h; rw [← h.2] at h0; simp at h0
        · rename_i hz
          have hc := c.toNat_lt
          simp only [Prod.mk.injEq] at h
          refine ⟨1, c.toNat, by rw [← h.2]; simp, by simp, by rw [← h.1, Nat.mod_eq_of_lt (by omega)], ?_, ?_⟩
          · rw [vput, if_pos (by omega)]; simp
          · intro hi
            rcases Nat.eq_zero_or_pos c.toNat with h6 | h6
            · exact absurd ⟨h6, hi⟩ hz
            · exact h6
end Go.Proofs.Ytahjmpipllajcaa.Sl
namespace Go.Proofs.Ytahjmpipllajcaa.Sl
open Go.RowKit
set_option linter.unusedVariables false
set_option linter.unusedSimpArgs false
attribute [local go_sem] bsOf_toList bsOf_size
structure Bl where
  null : Bool
  data : List UInt8
@[go_sem] def blV (b : Bl) : Value := .agg #[.bool b.null, .string (bsOf b.data)]
theorem infoBl : (Try.prog.info? 80).map (·.size) = some 2 := by kernel_rfl
set_option maxRecDepth 100000 in
theorem BOf_spec (l : List UInt8) : Spec0 Try.prog 102 #[.string (bsOf l)] (fun v N => v = blV ⟨false, l⟩ ∧ N = []) := by
  intro w
  have HS := Lib.hid (St.nil_ w)
  go_enter Try.func102, Try.ntmps102
  go_wp2_with fail
  refine bodyPost_ret (v := blV ⟨false, l⟩) (results_cell_row (by rfl) _ _ w.heap.size 80 #[.bool false, .string (bsOf l)] (0, 0) _ rfl (heap_alloc_new w _) Try.underlying80 rfl infoBl) rfl ?_
  exact ⟨_, _, rfl, ⟨rfl, rfl⟩, (HS.out.alloc _ _).drop_⟩
set_option maxRecDepth 100000 in
theorem BNone_spec : Spec0 Try.prog 121 #[] (fun v N => v = blV ⟨true, []⟩ ∧ N = []) := by
  intro w
  have HS := Lib.hid (St.nil_ w)
  go_enter Try.func121, Try.ntmps121
  go_wp2_with fail
  refine bodyPost_ret (v := blV ⟨true, []⟩) (results_cell_row (by rfl) _ _ w.heap.size 80 #[.bool true, .string (bsOf [])] (0, 0) _ rfl (heap_alloc_new w _) Try.underlying80 rfl infoBl) rfl ?_
  exact ⟨_, _, rfl, ⟨rfl, rfl⟩, (HS.out.alloc _ _).drop_⟩
def bright (b : Bl) : Bool := !b.null || b.data.isEmpty
set_option maxRecDepth 100000 in
theorem BRight_spec (b : Bl) : Spec0 Try.prog 93 #[blV b] (fun v N => v = .bool (bright b) ∧ N = []) := by
  intro w
  have HS := Lib.hid (St.nil_ w)
  obtain ⟨n, l⟩ := b
  have HB := Lib.hid (show (l == []) = l.isEmpty by cases l <;> rfl)
  cases n
  · go_enter Try.func93, Try.ntmps93
    go_wp2_with fail
    go_ret
    exact ⟨_, _, rfl, ⟨rfl, rfl⟩, (HS.out.alloc _ _).drop_⟩
  · go_enter Try.func93, Try.ntmps93
    go_wp2_with fail
    go_ret
    exact ⟨_, _, rfl, ⟨congrArg Value.bool (by simp [bright]), rfl⟩, (HS.out.alloc _ _).drop_⟩
def blen (b : Bl) : Int := if b.null then -1 else b.data.length
set_option maxRecDepth 100000 in
theorem BLen_spec (b : Bl) : Spec0 Try.prog 110 #[blV b] (fun v N => v = .int .i64 (blen b) ∧ N = []) := by
  intro w
  have HS := Lib.hid (St.nil_ w)
  obtain ⟨n, l⟩ := b
  cases n
  all_goals
    go_enter Try.func110, Try.ntmps110
    go_wp2_with fail
    go_ret
    exact ⟨_, _, rfl, ⟨rfl, rfl⟩, (HS.out.alloc _ _).drop_⟩
def bread (st : I) (n : Int) : Bl × I := if st.err ≠ 0 then (⟨false, []⟩, st) else if n = -1 then (⟨true, []⟩, st) else (⟨false, (itake st n).1⟩, (itake st n).2)
set_option maxRecDepth 100000 in
theorem BRead_spec (g : Nat) (st : I) (n : Int) (h0 : -9223372036854775808 ≤ n) (h1 : n ≤ 9223372036854775807) :
    Spec Try.prog 120 #[.pointer (some ⟨g, 0, none⟩), .int .i64 n] (InR g st) (fun v A' N => v = blV (bread st n).1 ∧ A' = InR g (bread st n).2 ∧ N = []) := by
  intro F w hA
  have HA := Lib.hid (St.start F w (Sep.one hA))
  clear hA
  have HB := Lib.hid (HA.out.alloc #[.bool false, .string ⟨#[]⟩] 80)
  by_cases he : st.err = 0
  · by_cases hn : n = -1
    · subst hn
      have HQ := Lib.hid (show bread st (-1) = (⟨true, []⟩, st) by simp [bread, he])
      have hb : (st.err != 0) = false := by simp [he]
      clear he
      go_enter Try.func120, Try.ntmps120
      go_wp2_with fail
      refine (St.call 1 (HB).out rfl (IErr_spec g _)).mono ?_
      rintro e w1 ⟨v, A', N, rfl, ⟨rfl, rfl, rfl⟩, H1⟩
      try simp only [List.cons_append, List.nil_append, List.set_cons_zero, List.set_cons_succ, bsOf_list] at H1
      have HC := Lib.hid H1
      clear H1
      go_wp2_with fail
      refine (St.call0 HC.out BNone_spec).mono ?_
      rintro e w2 ⟨v, N, rfl, ⟨rfl, rfl⟩, H2⟩
      have d0 : w2.cell? ⟨w.heap.size, 0, none⟩ = some (.bool false) := heap_at (St.blk 0 H2 rfl) 0
      have d1 : w2.cell? ⟨w.heap.size, 1, none⟩ = some (.string ⟨#[]⟩) := heap_at (St.blk 0 H2 rfl) 1
      have f0 : w2.frozen? ⟨w.heap.size, 0, none⟩ = false := heap_free (St.blk 0 H2 rfl) 0
      have f1 : w2.frozen? ⟨w.heap.size, 1, none⟩ = false := heap_free (St.blk 0 H2 rfl) 1
      have HD := Lib.hid H2
      clear H2
      go_wp2_with fail
      have HE := ((HD.out.set 0 rfl 0 (.bool true)).set 0 rfl 1 (.string (bsOf [])))
      refine bodyPost_ret (v := blV ⟨true, []⟩) (results_cell_row (by rfl) _ _ w.heap.size 80 #[.bool true, .string (bsOf [])] (0, 0) _ rfl (St.blk 0 HE rfl) Try.underlying80 rfl infoBl) rfl ?_
      exact ⟨_, _, _, rfl, ⟨by rw [HQ.out], by rw [HQ.out], rfl⟩, HE.drop_⟩
    · have HQ := Lib.hid (show bread st n = (⟨false, (itake st n).1⟩, (itake st n).2) by simp [bread, he, hn])
      have hb : (st.err != 0) = false := by simp [he]
      have hnb : (n == -1) = false := beq_eq_false_iff_ne.2 hn
      clear he hn
      go_enter Try.func120, Try.ntmps120
      go_wp2_with fail
      refine (St.call 1 (HB).out rfl (IErr_spec g _)).mono ?_
      rintro e w1 ⟨v, A', N, rfl, ⟨rfl, rfl, rfl⟩, H1⟩
      try simp only [List.cons_append, List.nil_append, List.set_cons_zero, List.set_cons_succ, bsOf_list] at H1
      have HC := Lib.hid H1
      clear H1
      go_wp2_with fail
      refine (St.call 1 (HC).out rfl (Take_spec g st n h0 h1)).mono ?_
      rintro e w1 ⟨v, A', N, rfl, ⟨rfl, rfl, rfl⟩, H1⟩
      try simp only [List.cons_append, List.nil_append, List.set_cons_zero, List.set_cons_succ, bsOf_list] at H1
      have HC2 := Lib.hid H1
      clear H1
      go_wp2_with fail
      refine (St.call0 HC2.out (BOf_spec (itake st n).1)).mono ?_
      rintro e w2 ⟨v, N, rfl, ⟨rfl, rfl⟩, H2⟩
      have d0 : w2.cell? ⟨w.heap.size, 0, none⟩ = some (.bool false) := heap_at (St.blk 0 H2 rfl) 0
      have d1 : w2.cell? ⟨w.heap.size, 1, none⟩ = some (.string ⟨#[]⟩) := heap_at (St.blk 0 H2 rfl) 1
      have f0 : w2.frozen? ⟨w.heap.size, 0, none⟩ = false := heap_free (St.blk 0 H2 rfl) 0
      have f1 : w2.frozen? ⟨w.heap.size, 1, none⟩ = false := heap_free (St.blk 0 H2 rfl) 1
      have HD := Lib.hid H2
      clear H2
      go_wp2_with fail
      have HE := ((HD.out.set 0 rfl 0 (.bool false)).set 0 rfl 1 (.string (bsOf (itake st n).1)))
      refine bodyPost_ret (v := blV ⟨false, (itake st n).1⟩) (results_cell_row (by rfl) _ _ w.heap.size 80 #[.bool false, .string (bsOf (itake st n).1)] (0, 0) _ rfl (St.blk 0 HE rfl) Try.underlying80 rfl infoBl) rfl ?_
      exact ⟨_, _, _, rfl, ⟨by rw [HQ.out], by rw [HQ.out], rfl⟩, HE.drop_⟩
  · have HQ := Lib.hid (show bread st n = (⟨false, []⟩, st) by simp [bread, he])
    have hb : (st.err != 0) = true := bne_iff_ne.2 he
    clear he
    go_enter Try.func120, Try.ntmps120
    go_wp2_with fail
    refine (St.call 1 HB.out rfl (IErr_spec g _)).mono ?_
    rintro e w2 ⟨v, A', N, rfl, ⟨rfl, rfl, rfl⟩, H2⟩
    have d0 : w2.cell? ⟨w.heap.size, 0, none⟩ = some (.bool false) := heap_at (St.blk 0 H2 rfl) 0
    have d1 : w2.cell? ⟨w.heap.size, 1, none⟩ = some (.string ⟨#[]⟩) := heap_at (St.blk 0 H2 rfl) 1
    have f0 : w2.frozen? ⟨w.heap.size, 0, none⟩ = false := heap_free (St.blk 0 H2 rfl) 0
    have f1 : w2.frozen? ⟨w.heap.size, 1, none⟩ = false := heap_free (St.blk 0 H2 rfl) 1
    have HD := Lib.hid H2
    clear H2
    go_wp2_with fail
    have HE := ((HD.out.set 0 rfl 0 (.bool false)).set 0 rfl 1 (.string (bsOf [])))
    refine bodyPost_ret (v := blV ⟨false, []⟩) (results_cell_row (by rfl) _ _ w.heap.size 80 #[.bool false, .string (bsOf [])] (0, 0) _ rfl (St.blk 0 HE rfl) Try.underlying80 rfl infoBl) rfl ?_
    exact ⟨_, _, _, rfl, ⟨by rw [HQ.out], by rw [HQ.out], rfl⟩, HE.drop_⟩
theorem vback_rng (st : I) : -9223372036854775808 ≤ (vbackI (vread 32 st)).1 ∧ (vbackI (vread 32 st)).1 ≤ 9223372036854775807 := by
  have h := vread_lt64 32 (.inl rfl) st
  unfold vbackI vback
  simp only
  split <;> omega
theorem blen_range (b : Bl) (h : b.data.length ≤ 9223372036854775807) : -9223372036854775808 ≤ blen b ∧ blen b ≤ 9223372036854775807 := by unfold blen; split <;> omega
def bwrite (st : List UInt8 × Int) (b : Bl) : List UInt8 × Int := if bright b then oput st b.data else ofail st 4
def bputVaried (st : List UInt8 × Int) (b : Bl) : List UInt8 × Int := bwrite (vputInt st (blen b)) b
def bvaried (st : I) : Bl × I := bread (vbackI (vread 32 st)).2 (vbackI (vread 32 st)).1
def bmust (r : Bl × I) : List UInt8 × I := (r.1.data, if r.1.null then ifail r.2 4 else r.2)
set_option maxRecDepth 100000 in
theorem BWrite_spec (g : Nat) (st : List UInt8 × Int) (b : Bl) (hl : st.1.length + b.data.length ≤ 140737488355328) :
    Spec Try.prog 111 #[.pointer (some ⟨g, 0, none⟩), blV b] (OutR g st) (fun v A' N => v = .tuple #[] ∧ A' = OutR g (bwrite st b) ∧ N = []) := by
  intro F w hA
  have HA := Lib.hid (St.start F w (Sep.one hA))
  clear hA
  have HB := Lib.hid (HA.out.alloc #[.bool b.null, .string (bsOf b.data)] 80)
  by_cases hr : bright b = true
  · have HQ := Lib.hid (show bwrite st b = oput st b.data by simp [bwrite, hr])
    have HR := Lib.hid hr
    clear hr
    go_enter Try.func111, Try.ntmps111
    go_wp2_with fail
    refine (St.call0 HB.out (BRight_spec b)).mono ?_
    rintro e w2 ⟨v, N, rfl, ⟨rfl, rfl⟩, H2⟩
    rw [HR.out]
    have d0 : w2.cell? ⟨w.heap.size, 0, none⟩ = some (.bool b.null) := heap_at (St.blk 0 H2 rfl) 0
    have d1 : w2.cell? ⟨w.heap.size, 1, none⟩ = some (.string (bsOf b.data)) := heap_at (St.blk 0 H2 rfl) 1
    have HD := Lib.hid H2
    clear H2
    go_wp2_with fail
    refine (St.call 1 HD.out rfl (Put_spec g st (bsOf b.data) (by rw [bsOf_size]; exact hl))).mono ?_
    rintro e w3 ⟨v, A', N, rfl, ⟨rfl, rfl, rfl⟩, H3⟩
    rw [bsOf_list] at H3
    have HE := Lib.hid H3
    clear H3
    go_wp2_with fail
    go_end0
    exact ⟨_, _, _, rfl, ⟨rfl, by rw [HQ.out], rfl⟩, HE.out.drop_⟩
  · have HQ := Lib.hid (show bwrite st b = ofail st 4 by simp [bwrite, hr])
    have HR := Lib.hid (show bright b = false by simpa using hr)
    clear hr
    go_enter Try.func111, Try.ntmps111
    go_wp2_with fail
    refine (St.call0 HB.out (BRight_spec b)).mono ?_
    rintro e w2 ⟨v, N, rfl, ⟨rfl, rfl⟩, H2⟩
    rw [HR.out]
    have HD := Lib.hid H2
    clear H2
    go_wp2_with fail
    refine (St.call 1 (HD).out rfl (Fail_spec g st 4)).mono ?_
    rintro e w1 ⟨v, A', N, rfl, ⟨rfl, rfl, rfl⟩, H1⟩
    try simp only [List.cons_append, List.nil_append, List.set_cons_zero, List.set_cons_succ, bsOf_list] at H1
    have HE := Lib.hid H1
    clear H1
    go_wp2_with fail
    go_end0
    exact ⟨_, _, _, rfl, ⟨rfl, by rw [HQ.out], rfl⟩, HE.out.drop_⟩
theorem vputInt_len (st : List UInt8 × Int) (n : Int) : (vputInt st n).1.length ≤ st.1.length + 10 := by
  unfold vputInt
  split
  · rename_i h
    have h1 := oput_len st (vput (vfold n))
    have h2 := vput_ten (vfold n) (vfold_lt n (by omega) (by omega))
    omega
  · unfold ofail; split <;> simp
set_option maxRecDepth 100000 in
theorem BPutVaried_spec (g : Nat) (st : List UInt8 × Int) (b : Bl) (hl : st.1.length + 10 + b.data.length ≤ 140737488355328) :
    Spec Try.prog 100 #[.pointer (some ⟨g, 0, none⟩), blV b] (OutR g st) (fun v A' N => v = .tuple #[] ∧ A' = OutR g (bputVaried st b) ∧ N = []) := by
  intro F w hA
  have HA := Lib.hid (St.start F w (Sep.one hA))
  clear hA
  have HB := Lib.hid (HA.out.alloc #[.bool b.null, .string (bsOf b.data)] 80)
  have hbl := blen_range b (by omega)
  have hb1 := hbl.1
  have hb2 := hbl.2
  clear hbl
  go_enter Try.func100, Try.ntmps100
  go_wp2_with fail
  refine (St.call0 HB.out (BLen_spec b)).mono ?_
  rintro e w2 ⟨v, N, rfl, ⟨rfl, rfl⟩, H2⟩
  have HC := Lib.hid H2
  clear H2
  go_wp2_with fail
  refine (St.call 1 HC.out rfl (VPutInt_spec g st (blen b) hb1 hb2 (by omega))).mono ?_
  rintro e w3 ⟨v, A', N, rfl, ⟨rfl, rfl, rfl⟩, H3⟩
  have d0 : w3.cell? ⟨w.heap.size, 0, none⟩ = some (.bool b.null) := heap_at (St.blk 0 H3 rfl) 0
  have d1 : w3.cell? ⟨w.heap.size, 1, none⟩ = some (.string (bsOf b.data)) := heap_at (St.blk 0 H3 rfl) 1
  have HD := Lib.hid H3
  clear H3
  go_wp2_with fail
  refine (St.call 1 HD.out rfl (BWrite_spec g _ b (by have := vputInt_len st (blen b); omega))).mono ?_
  rintro e w4 ⟨v, A', N, rfl, ⟨rfl, rfl, rfl⟩, H4⟩
  have HE := Lib.hid H4
  clear H4
  go_wp2_with fail
  go_end0
  exact ⟨_, _, _, rfl, ⟨rfl, rfl, rfl⟩, HE.out.drop_⟩
def bputName (st : List UInt8 × Int) (l : List UInt8) : List UInt8 × Int := bputVaried st ⟨false, l⟩
set_option maxRecDepth 100000 in
theorem BPutName_spec (g : Nat) (st : List UInt8 × Int) (l : List UInt8) (hl : st.1.length + 10 + l.length ≤ 140737488355328) :
    Spec Try.prog 79 #[.pointer (some ⟨g, 0, none⟩), .string (bsOf l)] (OutR g st) (fun v A' N => v = .tuple #[] ∧ A' = OutR g (bputName st l) ∧ N = []) := by
  intro F w hA
  have HA := Lib.hid (St.start F w (Sep.one hA))
  clear hA
  go_enter Try.func79, Try.ntmps79
  go_wp2_with fail
  refine (St.call0 (HA).out (BOf_spec l)).mono ?_
  rintro e w1 ⟨v, N, rfl, ⟨rfl, rfl⟩, H1⟩
  try simp only [List.cons_append, List.nil_append, List.set_cons_zero, List.set_cons_succ, bsOf_list] at H1
  have HB := Lib.hid H1
  clear H1
  go_wp2_with fail
  refine (St.call 0 (HB).out rfl (BPutVaried_spec g st ⟨false, l⟩ hl)).mono ?_
  rintro e w1 ⟨v, A', N, rfl, ⟨rfl, rfl, rfl⟩, H1⟩
  try simp only [List.cons_append, List.nil_append, List.set_cons_zero, List.set_cons_succ, bsOf_list] at H1
  have HC := Lib.hid H1
  clear H1
  go_wp2_with fail
  go_end0
  exact ⟨_, _, _, rfl, ⟨rfl, rfl, rfl⟩, HC.out⟩
set_option maxRecDepth 100000 in
theorem BVaried_spec (g : Nat) (st : I) :
    Spec Try.prog 115 #[.pointer (some ⟨g, 0, none⟩)] (InR g st) (fun v A' N => v = blV (bvaried st).1 ∧ A' = InR g (bvaried st).2 ∧ N = []) := by
  intro F w hA
  have HA := Lib.hid (St.start F w (Sep.one hA))
  clear hA
  have HB := Lib.hid (HA.out.alloc #[.bool false, .string ⟨#[]⟩] 80)
  go_enter Try.func115, Try.ntmps115
  go_wp2_with fail
  refine (St.call 1 (HB).out rfl (VInt_spec g st)).mono ?_
  rintro e w1 ⟨v, A', N, rfl, ⟨rfl, rfl, rfl⟩, H1⟩
  try simp only [List.cons_append, List.nil_append, List.set_cons_zero, List.set_cons_succ, bsOf_list] at H1
  have HC := Lib.hid H1
  clear H1
  go_wp2_with fail
  refine (St.call 1 HC.out rfl (BRead_spec g _ _ (vback_rng st).1 (vback_rng st).2)).mono ?_
  rintro e w2 ⟨v, A', N, rfl, ⟨rfl, rfl, rfl⟩, H2⟩
  have d0 : w2.cell? ⟨w.heap.size, 0, none⟩ = some (.bool false) := heap_at (St.blk 0 H2 rfl) 0
  have d1 : w2.cell? ⟨w.heap.size, 1, none⟩ = some (.string ⟨#[]⟩) := heap_at (St.blk 0 H2 rfl) 1
  have f0 : w2.frozen? ⟨w.heap.size, 0, none⟩ = false := heap_free (St.blk 0 H2 rfl) 0
  have f1 : w2.frozen? ⟨w.heap.size, 1, none⟩ = false := heap_free (St.blk 0 H2 rfl) 1
  have HD := Lib.hid H2
  clear H2
  go_wp2_with fail
  have HE := ((HD.out.set 0 rfl 0 (.bool (bvaried st).1.null)).set 0 rfl 1 (.string (bsOf (bvaried st).1.data)))
  refine bodyPost_ret (v := blV (bvaried st).1) (results_cell_row (by rfl) _ _ w.heap.size 80 #[.bool (bvaried st).1.null, .string (bsOf (bvaried st).1.data)] (0, 0) _ rfl (St.blk 0 HE rfl) Try.underlying80 rfl infoBl) rfl ?_
  exact ⟨_, _, _, rfl, ⟨rfl, rfl, rfl⟩, HE.drop_⟩
set_option maxRecDepth 100000 in
theorem BMust_spec (g : Nat) (r : Bl × I) :
    Spec Try.prog 117 #[.pointer (some ⟨g, 0, none⟩), blV r.1] (InR g r.2) (fun v A' N => v = .string (bsOf (bmust r).1) ∧ A' = InR g (bmust r).2 ∧ N = []) := by
  intro F w hA
  obtain ⟨b, st⟩ := r
  obtain ⟨n, l⟩ := b
  have HA := Lib.hid (St.start F w (Sep.one hA))
  clear hA
  have HB := Lib.hid (HA.out.alloc #[.bool n, .string (bsOf l)] 80)
  cases n
  · go_enter Try.func117, Try.ntmps117
    go_wp2_with fail
    go_ret
    exact ⟨_, _, _, rfl, ⟨rfl, rfl, rfl⟩, HB.out.drop_⟩
  · go_enter Try.func117, Try.ntmps117
    go_wp2_with fail
    refine (St.call 1 HB.out rfl (IFail_spec g st 4)).mono ?_
    rintro e w2 ⟨v, A', N, rfl, ⟨rfl, rfl, rfl⟩, H2⟩
    have d1 : w2.cell? ⟨w.heap.size, 1, none⟩ = some (.string (bsOf l)) := heap_at (St.blk 0 H2 rfl) 1
    have HD := Lib.hid H2
    clear H2
    go_wp2_with fail
    go_ret
    exact ⟨_, _, _, rfl, ⟨rfl, rfl, rfl⟩, HD.out.drop_⟩
def bname (st : I) : List UInt8 × I := bmust (bvaried st)
set_option maxRecDepth 100000 in
theorem BName_spec (g : Nat) (st : I) :
    Spec Try.prog 112 #[.pointer (some ⟨g, 0, none⟩)] (InR g st) (fun v A' N => v = .string (bsOf (bname st).1) ∧ A' = InR g (bname st).2 ∧ N = []) := by
  intro F w hA
  have HA := Lib.hid (St.start F w (Sep.one hA))
  clear hA
  go_enter Try.func112, Try.ntmps112
  go_wp2_with fail
  refine (St.call 0 (HA).out rfl (BVaried_spec g st)).mono ?_
  rintro e w1 ⟨v, A', N, rfl, ⟨rfl, rfl, rfl⟩, H1⟩
  try simp only [List.cons_append, List.nil_append, List.set_cons_zero, List.set_cons_succ, bsOf_list] at H1
  have HB := Lib.hid H1
  clear H1
  go_wp2_with fail
  refine (St.call 0 (HB).out rfl (BMust_spec g (bvaried st))).mono ?_
  rintro e w1 ⟨v, A', N, rfl, ⟨rfl, rfl, rfl⟩, H1⟩
  try simp only [List.cons_append, List.nil_append, List.set_cons_zero, List.set_cons_succ, bsOf_list] at H1
  have HC := Lib.hid H1
  clear H1
  go_wp2_with fail
  go_ret
  exact ⟨_, _, _, rfl, ⟨rfl, rfl, rfl⟩, HC.out⟩
end Go.Proofs.Ytahjmpipllajcaa.Sl
namespace Go.Proofs.Ytahjmpipllajcaa.Sl
open Go.RowKit
set_option linter.unusedVariables false
def intE : Rd Int := ⟨fun _ _ cs n => cs = [.int .i64 n], fun h _ => h, fun h _ => h⟩
def u8E : Rd Int := ⟨fun _ _ cs n => cs = [.int .u8 n], fun h _ => h, fun h _ => h⟩
def boolE : Rd Bool := ⟨fun _ _ cs n => cs = [.bool n], fun h _ => h, fun h _ => h⟩
def strE : Rd (List UInt8) := ⟨fun _ _ cs l => cs = [.string (bsOf l)], fun h _ => h, fun h _ => h⟩
def Bl_rd : Rd Bl := ⟨fun _ _ cs x => cs = [.bool x.null, .string (bsOf x.data)], fun h _ => h, fun h _ => h⟩
structure Pfx where
  fBase : Int
  fLength : Int
  fLeader : Int
  fSum : Int
  fAttr : Int
  fLast : Int
  fFirst : Int
  fMax : Int
  fProducer : Int
  fEpoch : Int
  fSequence : Int
  fCount : Int
structure Hd where
  fKey : List UInt8
  fValue : Bl
def Hd_rd : Rd Hd where
  P := fun _ _ cs x => cs = [.string (bsOf x.fKey), .bool x.fValue.null, .string (bsOf x.fValue.data)]
  mono := fun h _ => h
  move := fun h _ => h
structure Rec where
  fTime : Int
  fOffset : Int
  fKey : Bl
  fValue : Bl
  fHeaders : List Hd
def Rec_rd : Rd Rec where
  P := fun w S cs x => ∃ (A0 : Option Addr) (c0 : Nat), cs = [.int .i64 x.fTime, .int .i64 x.fOffset, .bool x.fKey.null, .string (bsOf x.fKey.data), .bool x.fValue.null, .string (bsOf x.fValue.data), .slice A0 x.fHeaders.length c0] ∧ (sliceRd 3 Hd_rd).P w S [.slice A0 x.fHeaders.length c0] x.fHeaders
  mono := fun ⟨A0, c0, e, h0⟩ k => ⟨A0, c0, e, (sliceRd 3 Hd_rd).mono h0 k⟩
  move := fun ⟨A0, c0, e, h0⟩ k => ⟨A0, c0, e, (sliceRd 3 Hd_rd).move h0 k⟩
structure Bat where
  fBase : Int
  fLeader : Int
  fAppend : Bool
  fTxn : Bool
  fControl : Bool
  fLast : Int
  fFirst : Int
  fMax : Int
  fProducer : Int
  fEpoch : Int
  fSequence : Int
  fRecords : List Rec
def Bat_rd : Rd Bat where
  P := fun w S cs x => ∃ (A0 : Option Addr) (c0 : Nat), cs = [.int .i64 x.fBase, .int .i64 x.fLeader, .bool x.fAppend, .bool x.fTxn, .bool x.fControl, .int .i64 x.fLast, .int .i64 x.fFirst, .int .i64 x.fMax, .int .i64 x.fProducer, .int .i64 x.fEpoch, .int .i64 x.fSequence, .slice A0 x.fRecords.length c0] ∧ (sliceRd 7 Rec_rd).P w S [.slice A0 x.fRecords.length c0] x.fRecords
  mono := fun ⟨A0, c0, e, h0⟩ k => ⟨A0, c0, e, (sliceRd 7 Rec_rd).mono h0 k⟩
  move := fun ⟨A0, c0, e, h0⟩ k => ⟨A0, c0, e, (sliceRd 7 Rec_rd).move h0 k⟩
structure ScanResult where
  fValid : Int
  fStop : Int
  fErr : Int
structure ScanScanner where
  fheld : List Int
  fvalid : Int
  ferr : Int
end Go.Proofs.Ytahjmpipllajcaa.Sl
namespace Go.Proofs.Ytahjmpipllajcaa.Sl
open Go.RowKit
set_option linter.unusedVariables false
set_option linter.unusedSimpArgs false
theorem bn_t {b : Bool} (h : b = false) : (!b) = true := by rw [h]; rfl
theorem bn_f {b : Bool} (h : b = true) : (!b) = false := by rw [h]; rfl
theorem ifT {α : Type} {c : Prop} [Decidable c] {x y z : α} (hc : c) (h : (if c then x else y) = z) : x = z := by rwa [if_pos hc] at h
theorem ifF {α : Type} {c : Prop} [Decidable c] {x y z : α} (hc : ¬ c) (h : (if c then x else y) = z) : y = z := by rwa [if_neg hc] at h
theorem sl_drop {α : Type} (l : List α) (p : Nat) : (l.drop p).take (l.length - p) = l.drop p := by rw [← List.length_drop, List.take_length]
section
variable {P : Program} {n : Nat} {F0 : Nat → Prop} {w0 : World} {e : Env} {Rs Rf : List Res} {Q : Exit → Act → World → Prop} {ops : Array Oper} {i d : Nat} {ty t t' el : TypeId} {pos : String} {af : Array Edge} {gd : Option (Nat × Bool)} {v v' : Value} {x y : Operand} {l : List Nat} {lo : Sch} {c : Code} {S : World → Prop}
theorem Ex.bNe {d : Option Tmp} {a b p q : Bool} (hx : e.ev x = some (.bool a)) (ha : a = p) (hy : e.ev y = some (.bool b)) (hb : b = q) (hu : ∀ w, (underlying t).run P w = .ok .bool w) : Ex P n e S ⟨d, .binOp .neq t x y t', ty, pos, af, gd⟩ (.bool (!(p == q))) := by
  intro A w h _
  subst ha hb
  have h1 : ∀ k, (Op.equalIn (k + 1) t (.bool a) (.bool b)).run P w = .ok (a == b) w := by
    intro k
    simp only [Op.equalIn, Sem.run_bind, hu, Result.andThen_ok]
    rfl
  have h2 : (Op.equal t (.bool a) (.bool b)).run P w = .ok (a == b) w := h1 9999
  have h4 : (binOp .neq t (.bool a) (.bool b)).run P w = .ok (.bool (!(a == b))) w := by
    simp only [binOp, Sem.run_bind, h2, Result.andThen_ok, Sem.run_pure]
  simp only [execOp, h.ev hx, h.ev hy, eqGuard]
  simp [h4]
theorem TL.sel (is : List Nat) {Rs' : List Res} (hr : Sel Rs is Rs') (h : TL P n F0 w0 ops l e Rs' Q) : TL P n F0 w0 ops l e Rs Q := fun a w ha hs => h a w ha (hs.sel is hr)
theorem TD.sel (is : List Nat) {Rs' : List Res} (hr : Sel Rs is Rs') (h : TD P n F0 w0 ops lo Rf e Rs' Q) : TD P n F0 w0 ops lo Rf e Rs Q := fun a w ha hs => h a w ha (hs.sel is hr)
theorem T.sel (is : List Nat) {Rs' : List Res} (hr : Sel Rs is Rs') (h : T P n F0 w0 e Rs' c Q) : T P n F0 w0 e Rs c Q := fun a w ha hs => h a w ha (hs.sel is hr)
theorem X.sel {z : Exit} (is : List Nat) {Rs' : List Res} (hr : Sel Rs is Rs') (h : X n F0 w0 e Rs' z Q) : X n F0 w0 e Rs z Q := fun a w ha hs => h a w ha (hs.sel is hr)
theorem Has.as {a : Act} (ha : Has n e a) (hv : e.get d = some v) (h : v = v') : Has n ((d, v') :: e) a := ha.sub (fun t u hu => by
  simp only [Env.get] at hu
  cases hb : Nat.beq d t with
  | true =>
    rw [hb] at hu
    obtain rfl := Nat.eq_of_beq_eq_true hb
    injection hu with hu
    rw [hv, h, hu]
  | false => rw [hb] at hu; exact hu)
theorem TL.as (hv : e.get d = some v) (h : v = v') (k : TL P n F0 w0 ops l ((d, v') :: e) Rs Q) : TL P n F0 w0 ops l e Rs Q := fun a w ha hs => k a w (ha.as hv h) hs
theorem TD.as (hv : e.get d = some v) (h : v = v') (k : TD P n F0 w0 ops lo Rf ((d, v') :: e) Rs Q) : TD P n F0 w0 ops lo Rf e Rs Q := fun a w ha hs => k a w (ha.as hv h) hs
theorem TL.nilrow {α : Type} (T' : TypeId) (size : Nat) (E : Rd α) (h : TL P n F0 w0 ops l e (OwnR T' size E (.slice none 0 0) [] :: Rs) Q) : TL P n F0 w0 ops l e Rs Q := fun a w ha hs => h a w ha (OwnR.nil T' size E hs)
theorem TD.nilrow {α : Type} (T' : TypeId) (size : Nat) (E : Rd α) (h : TD P n F0 w0 ops lo Rf e (OwnR T' size E (.slice none 0 0) [] :: Rs) Q) : TD P n F0 w0 ops lo Rf e Rs Q := fun a w ha hs => h a w ha (OwnR.nil T' size E hs)
theorem X.nilrd {α : Type} {z : Exit} (size : Nat) (E : Rd α) (h : X n F0 w0 e (RdR (sliceRd size E) [.slice none 0 0] [] :: Rs) z Q) : X n F0 w0 e Rs z Q := fun a w ha hs => h a w ha (RdR.nil size E hs)
theorem X.shut {α : Type} {z : Exit} {E : Rd α} {size : Nat} {T : TypeId} {u : Value} {xs : List α} (hp : 0 < size) (i : Nat) (hi : Rs[i]? = some (OwnR T size E u xs)) (h : X n F0 w0 e (Rs.set i (RdR (sliceRd size E) [u] xs)) z Q) : X n F0 w0 e Rs z Q := fun a w ha hs => h a w ha (OwnR.shut hp i hs hi)
theorem OutR.of_blk {b : Nat} {w : World} {G : Nat → Prop} (h : (BlkR b 100 #[.slice none 0 0, .int .i64 0]).P w G) : (OutR b ([], 0)).P w G := by
  obtain ⟨h1, h2⟩ := h
  exact ⟨_, h1, World.ownsRow_nil _ _ _ _, fun k => by simp [h2 k, Value.ownBlock]⟩
theorem TL.newout {zv : Value} (ho : ops[i]? = some ⟨some d, .alloc t, ty, pos, af, gd⟩) (hw : Wd n ops e ⟨some d, .alloc t, ty, pos, af, gd⟩ true) (hz : ∀ w, (zeroValue t).run P w = .ok zv w) (hd : Nat.blt d n = true)
    (h : ∀ b, TL P n F0 w0 ops l ((d, .pointer (some ⟨b, 0, none⟩)) :: e) (OutR b ([], 0) :: Rs) Q) (ht : t = 100 := by rfl) (hzv : zv = .agg #[.slice none 0 0, .int .i64 0] := by rfl) : TL P n F0 w0 ops (i :: l) e Rs Q := by
  refine TL.alloc ho hw hz hd (fun b => ?_)
  intro a w ha hs
  subst ht hzv
  exact h b a w ha (hs.weaken 0 rfl (fun G hG => OutR.of_blk hG))
theorem TD.newout {zv : Value} (ho : ops[i]? = some ⟨some d, .alloc t, ty, pos, af, gd⟩) (hw : Wd n ops e ⟨some d, .alloc t, ty, pos, af, gd⟩ true) (hz : ∀ w, (zeroValue t).run P w = .ok zv w) (hd : Nat.blt d n = true) (is : List Nat) (hf : ∀ b, Sel (OutR b ([], 0) :: Rs) is Rf)
    (h : ∀ b, TD P n F0 w0 ops lo Rf ((d, .pointer (some ⟨b, 0, none⟩)) :: e) (OutR b ([], 0) :: Rs) Q) (ht : t = 100 := by rfl) (hzv : zv = .agg #[.slice none 0 0, .int .i64 0] := by rfl) : TD P n F0 w0 ops (.e i lo) Rf e Rs Q := by
  refine TD.ef ho hw (Ef.alloc hz hd) ?_
  rintro _ _ ⟨b, rfl, rfl⟩
  subst ht hzv
  have key : ∀ w, St F0 w0 (BlkR b 100 #[.slice none 0 0, .int .i64 0] :: Rs) w → St F0 w0 (OutR b ([], 0) :: Rs) w := fun w hs => hs.weaken 0 rfl (fun G hG => OutR.of_blk hG)
  exact ⟨Rf, fun w hs => (key w hs).sel is (hf b), fun _ h => h, fun a w ha hs => h b a w ha (key w hs)⟩
section
variable {α : Type} {E : Rd α} {sl : Operand} {T z bytes g ii jj : Nat} {zv : Value} {A : Option Addr} {cp : Nat} {Rs' : List Res} {B : Res}
theorem TL.app1 (ii : Nat) {us : List Value} {u : α} {l : List α} {lr : List Nat} (ho : ops[i]? = some ⟨some d, .call ⟨.builtin .append, #[sl, x], #[t, t]⟩, ty, pos, af, gd⟩) (hw : Wd n ops e ⟨some d, .call ⟨.builtin .append, #[sl, x], #[t, t]⟩, ty, pos, af, gd⟩ true)
    (hu : P.underlying t = some (.slice T)) (hinfo : (P.info? T).map (fun i => (i.zero, i.size, i.bytes)) = some (some zv, z, bytes)) (hzv : zv.cells.size = z) (hp : 0 < z)
    (hs : e.ev sl = some (.slice A l.length cp)) (hx : e.ev x = some (.slice (some ⟨g, 0, none⟩) 1 1)) (hR : Rs = BlkR g T us.toArray :: Rs') (hi : Rs'[ii]? = some (OwnR T z E (.slice A l.length cp) l)) (hl : us.length = z) (hq : us.all (·.oneCell') = true) (hE : ∀ w S, E.P w S us u) (hb : (l.length + 1) * bytes ≤ 140737488355328) (hm : l.length + 1 ≤ 140737488355328) (hd : Nat.blt d n = true)
    (h : ∀ A' c', TL P n F0 w0 ops lr ((d, .slice A' (l ++ [u]).length c') :: e) (Rs'.set ii (OwnR T z E (.slice A' (l ++ [u]).length c') (l ++ [u]))) Q) : TL P n F0 w0 ops (i :: lr) e Rs Q := by
  refine TL.ef ho hw (Ef.app1 ii hu hinfo hzv hp hs hx hR hi hl hq hE hb hm hd) ?_
  rintro _ _ ⟨A', c', rfl, rfl⟩
  exact h A' c'
theorem TL.app2 (ii jj : Nat) {us : List Value} {u : α} {l : List α} {lr : List Nat} (ho : ops[i]? = some ⟨some d, .call ⟨.builtin .append, #[sl, x], #[t, t]⟩, ty, pos, af, gd⟩) (hw : Wd n ops e ⟨some d, .call ⟨.builtin .append, #[sl, x], #[t, t]⟩, ty, pos, af, gd⟩ true)
    (hu : P.underlying t = some (.slice T)) (hinfo : (P.info? T).map (fun i => (i.zero, i.size, i.bytes)) = some (some zv, z, bytes)) (hzv : zv.cells.size = z) (hp : 0 < z)
    (hs : e.ev sl = some (.slice A l.length cp)) (hx : e.ev x = some (.slice (some ⟨g, 0, none⟩) 1 1)) (hR : Rs = BlkR g T us.toArray :: Rs') (hi : Rs'[ii]? = some (OwnR T z E (.slice A l.length cp) l)) (hj : (Rs'.eraseIdx ii)[jj]? = some B) (hl : us.length = z) (hq : us.all (·.oneCell') = true) (hE : ∀ w G, B.P w G → E.P w G us u) (hb : (l.length + 1) * bytes ≤ 140737488355328) (hm : l.length + 1 ≤ 140737488355328) (hd : Nat.blt d n = true)
    (h : ∀ A' c', TL P n F0 w0 ops lr ((d, .slice A' (l ++ [u]).length c') :: e) (OwnR T z E (.slice A' (l ++ [u]).length c') (l ++ [u]) :: (Rs'.eraseIdx ii).eraseIdx jj) Q) : TL P n F0 w0 ops (i :: lr) e Rs Q := by
  refine TL.ef ho hw (Ef.app2 ii jj hu hinfo hzv hp hs hx hR hi hj hl hq hE hb hm hd) ?_
  rintro _ _ ⟨A', c', rfl, rfl⟩
  exact h A' c'
theorem TD.app1 (ii : Nat) {us : List Value} {u : α} {l : List α} {lr : Sch} (ho : ops[i]? = some ⟨some d, .call ⟨.builtin .append, #[sl, x], #[t, t]⟩, ty, pos, af, gd⟩) (hw : Wd n ops e ⟨some d, .call ⟨.builtin .append, #[sl, x], #[t, t]⟩, ty, pos, af, gd⟩ true)
    (hu : P.underlying t = some (.slice T)) (hinfo : (P.info? T).map (fun i => (i.zero, i.size, i.bytes)) = some (some zv, z, bytes)) (hzv : zv.cells.size = z) (hp : 0 < z)
    (hs : e.ev sl = some (.slice A l.length cp)) (hx : e.ev x = some (.slice (some ⟨g, 0, none⟩) 1 1)) (hR : Rs = BlkR g T us.toArray :: Rs') (hi : Rs'[ii]? = some (OwnR T z E (.slice A l.length cp) l)) (hl : us.length = z) (hq : us.all (·.oneCell') = true) (hE : ∀ w S, E.P w S us u) (hb : (l.length + 1) * bytes ≤ 140737488355328) (hm : l.length + 1 ≤ 140737488355328) (hd : Nat.blt d n = true)
    (is : List Nat) (hf : ∀ A' c', Sel (Rs'.set ii (OwnR T z E (.slice A' (l ++ [u]).length c') (l ++ [u]))) is Rf)
    (h : ∀ A' c', TD P n F0 w0 ops lr Rf ((d, .slice A' (l ++ [u]).length c') :: e) (Rs'.set ii (OwnR T z E (.slice A' (l ++ [u]).length c') (l ++ [u]))) Q) : TD P n F0 w0 ops (.e i lr) Rf e Rs Q := by
  refine TD.ef ho hw (Ef.app1 ii hu hinfo hzv hp hs hx hR hi hl hq hE hb hm hd) ?_
  rintro _ _ ⟨A', c', rfl, rfl⟩
  exact ⟨Rf, fun w hw => hw.sel is (hf A' c'), fun _ h => h, h A' c'⟩
theorem TD.app2 (ii jj : Nat) {us : List Value} {u : α} {l : List α} {lr : Sch} (ho : ops[i]? = some ⟨some d, .call ⟨.builtin .append, #[sl, x], #[t, t]⟩, ty, pos, af, gd⟩) (hw : Wd n ops e ⟨some d, .call ⟨.builtin .append, #[sl, x], #[t, t]⟩, ty, pos, af, gd⟩ true)
    (hu : P.underlying t = some (.slice T)) (hinfo : (P.info? T).map (fun i => (i.zero, i.size, i.bytes)) = some (some zv, z, bytes)) (hzv : zv.cells.size = z) (hp : 0 < z)
    (hs : e.ev sl = some (.slice A l.length cp)) (hx : e.ev x = some (.slice (some ⟨g, 0, none⟩) 1 1)) (hR : Rs = BlkR g T us.toArray :: Rs') (hi : Rs'[ii]? = some (OwnR T z E (.slice A l.length cp) l)) (hj : (Rs'.eraseIdx ii)[jj]? = some B) (hl : us.length = z) (hq : us.all (·.oneCell') = true) (hE : ∀ w G, B.P w G → E.P w G us u) (hb : (l.length + 1) * bytes ≤ 140737488355328) (hm : l.length + 1 ≤ 140737488355328) (hd : Nat.blt d n = true)
    (is : List Nat) (hf : ∀ A' c', Sel (OwnR T z E (.slice A' (l ++ [u]).length c') (l ++ [u]) :: (Rs'.eraseIdx ii).eraseIdx jj) is Rf)
    (h : ∀ A' c', TD P n F0 w0 ops lr Rf ((d, .slice A' (l ++ [u]).length c') :: e) (OwnR T z E (.slice A' (l ++ [u]).length c') (l ++ [u]) :: (Rs'.eraseIdx ii).eraseIdx jj) Q) : TD P n F0 w0 ops (.e i lr) Rf e Rs Q := by
  refine TD.ef ho hw (Ef.app2 ii jj hu hinfo hzv hp hs hx hR hi hj hl hq hE hb hm hd) ?_
  rintro _ _ ⟨A', c', rfl, rfl⟩
  exact ⟨Rf, fun w hw => hw.sel is (hf A' c'), fun _ h => h, h A' c'⟩
end
variable (P n F0 w0) in
def RV (e : Env) (Rs : List Res) (r : ResultVar) (v : Value) : Prop := ∀ a w, Has n e a → St F0 w0 Rs w → (resv a.tmps r).run P w = .ok v w
theorem RV.tm {k : Nat} (hv : e.get k = some v) : RV P n F0 w0 e Rs (.tmp k) v := by
  intro a w ha hs
  have h2 := ha.at_ k v hv
  simp [resv, h2]
theorem RV.cS (i : Nat) {k b T : Nat} {us : Array Value} {z : Nat} (hk : e.get k = some (.pointer (some ⟨b, 0, none⟩))) (ha : ∀ w, (isAgg t).run P w = .ok true w) (hz : ∀ w, (sizeOf t).run P w = .ok z w) (hi : Rs[i]? = some (BlkR b T us)) (hl : us.size = z) : RV P n F0 w0 e Rs (.cell k t) (.agg us) := by
  intro a w h hs
  have h2 := h.at_ k _ hk
  have hb := hs.blk i hi
  have h3 := run_loadVarS (P := P) (t := t) (w := w) (ad := ⟨b, 0, none⟩) (cs := us.toList) ha (by intro w; rw [hz]; simp [hl]) (fun j u hj => by
    have e1 : (⟨b, 0, none⟩ : Addr).add j = ⟨b, j, none⟩ := by unfold Addr.add; split <;> simp_all
    rw [e1, heap_at hb]
    simpa using hj)
  simp [resv, h2, asAddr, h3]
theorem RV.c1 (i : Nat) {k b T : Nat} {us : Array Value} (hk : e.get k = some (.pointer (some ⟨b, 0, none⟩))) (ha : ∀ w, (isAgg t).run P w = .ok false w) (hi : Rs[i]? = some (BlkR b T us)) (hv : us[0]? = some v) : RV P n F0 w0 e Rs (.cell k t) v := by
  intro a w h hs
  have h2 := h.at_ k _ hk
  have hb := hs.blk i hi
  have h3 := run_loadVar1 (P := P) (t := t) (w := w) (ad := ⟨b, 0, none⟩) ha ((heap_at hb 0).trans hv)
  simp [resv, h2, asAddr, h3]
section
variable {f : Func} {R : Value → Res → List Res → Prop} {A' : Res} {Ns : List Res} {r1 r2 r3 r4 : ResultVar} {v1 v2 v3 v4 : Value} {z : Exit}
theorem X.fin (hR : R v A' Ns) (is : List Nat) (hr : Sel Rs is (A' :: Ns)) (hx : z = .ret ∨ z = .normal) (h : ∀ a w, Has n e a → St F0 w0 Rs w → (results f a.tmps).run P w = .ok v w) : X n F0 w0 e Rs z (bodyPost P f (Post R F0 w0)) := by
  intro a w ha hs
  have h : bodyPost P f (Post R F0 w0) .ret a w := ⟨ha.df, v, h a w ha hs, v, A', Ns, rfl, hR, hs.sel is hr⟩
  rcases hx with rfl | rfl <;> exact h
theorem X.done1 (is : List Nat) (hf : f.results = #[r1]) (h1 : RV P n F0 w0 e Rs r1 v1) (hR : R v1 A' Ns) (hr : Sel Rs is (A' :: Ns)) (hx : z = .ret ∨ z = .normal) : X n F0 w0 e Rs z (bodyPost P f (Post R F0 w0)) :=
  X.fin hR is hr hx (fun a w ha hs => by rw [results_eq, hf]; simp [h1 a w ha hs])
theorem X.done2 (is : List Nat) (hf : f.results = #[r1, r2]) (h1 : RV P n F0 w0 e Rs r1 v1) (h2 : RV P n F0 w0 e Rs r2 v2) (hR : R (.tuple #[v1, v2]) A' Ns) (hr : Sel Rs is (A' :: Ns)) (hx : z = .ret ∨ z = .normal) : X n F0 w0 e Rs z (bodyPost P f (Post R F0 w0)) :=
  X.fin hR is hr hx (fun a w ha hs => by rw [results_eq, hf]; simp [h1 a w ha hs, h2 a w ha hs])
theorem X.done3 (is : List Nat) (hf : f.results = #[r1, r2, r3]) (h1 : RV P n F0 w0 e Rs r1 v1) (h2 : RV P n F0 w0 e Rs r2 v2) (h3 : RV P n F0 w0 e Rs r3 v3) (hR : R (.tuple #[v1, v2, v3]) A' Ns) (hr : Sel Rs is (A' :: Ns)) (hx : z = .ret ∨ z = .normal) : X n F0 w0 e Rs z (bodyPost P f (Post R F0 w0)) :=
  X.fin hR is hr hx (fun a w ha hs => by rw [results_eq, hf]; simp [h1 a w ha hs, h2 a w ha hs, h3 a w ha hs])
end
theorem BOK.mk {zv : Value} {fs : Array Field} {pl : List (Nat × Nat)} {zs : Array Value} (hz : ∀ w, (zeroValue t).run P w = .ok zv w) (hu : ∀ w, (underlying t).run P w = .ok (.struct fs) w) (hp : ∀ w, (fs.mapM (fun f => do pure (f.offset, ← sizeOf f.type)) : Sem (Array (Nat × Nat))).run P w = .ok pl.toArray w) (hzs : zv.cells = zs := by rfl) : BOK P t zs pl := by
  intro parts cells w h
  subst hzs
  simp only [Instr.build, Sem.run_bind, hz, Result.andThen_ok, hu, hp]
  have h2 : (fun (i : Nat) => (pl.toArray)[i]?) = (fun (i : Nat) => pl[i]?) := by funext i; simp
  simp [h2, h]
theorem SOK.mk {T m z : Nat} {zv : Value} {zs : Array Value} (hu : ∀ w, (underlying t).run P w = .ok (.slice T) w) (hz : ∀ w, (sizeOf T).run P w = .ok z w) (hzv : ∀ w, (zeroValue T).run P w = .ok zv w) (hm : 0 < m * z ∧ m * z ≤ 16777216) (hzs : (Array.range (m * z)).map (fun i => zv.cells[i % zv.cells.size]!) = zs) : SOK P t T m z zs := by
  intro parts cells w h
  have h1 : ¬ (m * z > 2 ^ 24) := by omega
  have h2 : ¬ (m * z = 0) := by omega
  subst hzs
  simp only [Instr.buildSlice, Sem.run_bind, hu, hz, Result.andThen_ok, h1, if_false, h2, hzv, Sem.run_pure]
  simp [h, newRow]
end
end Go.Proofs.Ytahjmpipllajcaa.Sl
namespace Go.Proofs.Ytahjmpipllajcaa.Sl
open Go.RowKit
set_option linter.unusedVariables false
set_option linter.unusedSimpArgs false
def eqV : Value → Value → Option Bool
  | .int k a, .int k' b => if k = k' then some (decide (a = b)) else none
  | .bool a, .bool b => some (decide (a = b))
  | .string a, .string b => some (decide (a.toList = b.toList))
  | _, _ => none
def eqL : List Value → List Value → Option Bool
  | [], [] => some true
  | x :: xs, y :: ys => match eqV x y with
    | some true => eqL xs ys
    | some false => some false
    | none => none
  | _, _ => none
theorem eqV_i {k : IntKind} {a b : Int} (h : a = b) : eqV (.int k a) (.int k b) = some true := by simp [eqV, h]
theorem eqV_in {k : IntKind} {a b : Int} (h : ¬ a = b) : eqV (.int k a) (.int k b) = some false := by simp [eqV, h]
theorem eqV_b {a b : Bool} (h : a = b) : eqV (.bool a) (.bool b) = some true := by simp [eqV, h]
theorem eqV_bn {a b : Bool} (h : ¬ a = b) : eqV (.bool a) (.bool b) = some false := by simp [eqV, h]
theorem eqV_s {l m : List UInt8} (h : l = m) : eqV (.string (bsOf l)) (.string (bsOf m)) = some true := by simp [eqV, h]
theorem eqV_sn {l m : List UInt8} (h : ¬ l = m) : eqV (.string (bsOf l)) (.string (bsOf m)) = some false := by simp [eqV, bsOf_toList, h]
theorem eqL_t {x y : Value} {xs ys : List Value} {b : Bool} (h : eqV x y = some true) (r : eqL xs ys = some b) : eqL (x :: xs) (y :: ys) = some b := by simp [eqL, h, r]
theorem eqL_f {x y : Value} {xs ys : List Value} (h : eqV x y = some false) : eqL (x :: xs) (y :: ys) = some false := by simp [eqL, h]
theorem eqL_append : ∀ {xs ys xs' ys' : List Value} {b : Bool}, xs.length = ys.length → eqL (xs ++ xs') (ys ++ ys') = some b → ∃ c, eqL xs ys = some c ∧ (if c then eqL xs' ys' else some false) = some b
  | [], [], xs', ys', b, _, h => ⟨true, rfl, by simpa using h⟩
  | x :: xs, y :: ys, xs', ys', b, hl, h => by
    simp only [List.cons_append, eqL] at h ⊢
    cases hv : eqV x y with
    | none => rw [hv] at h; cases h
    | some c =>
      cases c with
      | true =>
        rw [hv] at h
        exact eqL_append (by simpa using hl) h
      | false =>
        rw [hv] at h
        exact ⟨false, rfl, by simpa using h⟩
def okD : TypeDesc → Value → Bool
  | .int _, .int _ _ => true
  | .bool, .bool _ => true
  | .string, .string _ => true
  | _, _ => false
def oksD : List TypeDesc → List Value → Bool
  | [], [] => true
  | d :: ds, v :: vs => okD d v && oksD ds vs
  | _, _ => false
theorem oksD_length : ∀ {ds : List TypeDesc} {vs : List Value}, oksD ds vs = true → vs.length = ds.length
  | [], [], _ => rfl
  | d :: ds, v :: vs, h => by
    simp only [oksD, Bool.and_eq_true] at h
    simp [oksD_length h.2]
theorem oksD_app : ∀ {ds ds' : List TypeDesc} {vs : List Value}, oksD (ds ++ ds') vs = true → oksD ds (vs.take ds.length) = true ∧ oksD ds' (vs.drop ds.length) = true
  | [], ds', vs, h => by simpa [oksD] using h
  | d :: ds, ds', [], h => by simp [oksD] at h
  | d :: ds, ds', v :: vs, h => by
    simp only [List.cons_append, oksD, Bool.and_eq_true] at h
    have := oksD_app h.2
    simp [oksD, h.1, this]
def mkV (agg : Bool) (xs : List Value) : Value := if agg then .agg xs.toArray else xs.headD undef
structure Flat (P : Program) (k : Nat) (t : TypeId) (ds : List TypeDesc) (agg : Bool) : Prop where
  ia : ∀ w, (isAgg t).run P w = .ok agg w
  sz : ∀ w, (sizeOf t).run P w = .ok ds.length w
  one : agg = false → ds.length = 1
  eq : ∀ (d : Nat) (xs ys : List Value) (b : Bool) (w : World), k ≤ d → oksD ds xs = true → oksD ds ys = true → eqL xs ys = some b → (Op.equalIn d t (mkV agg xs) (mkV agg ys)).run P w = .ok b w
section
variable {P : Program} {t : TypeId}
theorem eqL_one {x y : Value} {b : Bool} (h : eqL [x] [y] = some b) : eqV x y = some b := by
  simp only [eqL] at h
  cases hv : eqV x y with
  | none => rw [hv] at h; cases h
  | some c => cases c <;> (rw [hv] at h; exact h)
theorem len1 {xs : List Value} (h : xs.length = 1) : ∃ x, xs = [x] := by
  match xs, h with
  | [x], _ => exact ⟨x, rfl⟩
theorem equal_one {d0 : TypeDesc} (hu : P.underlying t = some d0) (d : Nat) (x y : Value) (b : Bool) (w : World) (hx : okD d0 x = true) (hy : okD d0 y = true) (h : eqV x y = some b) : (Op.equalIn (d + 1) t x y).run P w = .ok b w := by
  cases d0 <;> cases x <;> first | (simp [okD] at hx; done) | skip
  all_goals cases y <;> first | (simp [okD] at hy; done) | skip
  · simp only [eqV, Option.some.injEq] at h
    subst h
    rw [run_equalIn_bool' w d t _ _ hu]
    rfl
  · rename_i q k a k' b'
    simp only [eqV] at h
    split at h
    · rename_i hk
      subst hk
      injection h with h
      subst h
      rw [run_equalIn_int w d t k _ a b' hu]
      rfl
    · cases h
  · simp only [eqV, Option.some.injEq] at h
    subst h
    rw [run_equalIn_string w d t _ _ hu]
    congr 1
    rename_i p q
    by_cases hpq : p.toList = q.toList <;> simp [hpq]
theorem Flat.one_ {d0 : TypeDesc} (ia : ∀ w, (isAgg t).run P w = .ok false w) (sz : ∀ w, (sizeOf t).run P w = .ok 1 w) (hu : P.underlying t = some d0) : Flat P 1 t [d0] false := by
  refine ⟨ia, sz, fun _ => rfl, ?_⟩
  intro d xs ys b w hd hx hy h
  obtain ⟨x, rfl⟩ := len1 (by simpa using oksD_length hx)
  obtain ⟨y, rfl⟩ := len1 (by simpa using oksD_length hy)
  obtain ⟨d, rfl⟩ : ∃ d', d = d' + 1 := ⟨d - 1, by omega⟩
  exact equal_one hu d x y b w (by simpa [oksD] using hx) (by simpa [oksD] using hy) (eqL_one h)
def FlatFs (P : Program) (k : Nat) : Nat → List Field → List TypeDesc → Prop
  | _, [], ds => ds = []
  | off, f :: fs, ds => f.name ≠ "_" ∧ f.offset = off ∧ ∃ d1 d2 agg, ds = d1 ++ d2 ∧ Flat P k f.type d1 agg ∧ FlatFs P k (off + d1.length) fs d2
theorem part_run {ty : TypeId} {ds : List TypeDesc} {agg : Bool} {k : Nat} (hf : Flat P k ty ds agg) (xs : List Value) (off : Nat) (w : World) (hl : off + ds.length ≤ xs.length) : (part ty xs.toArray off).run P w = .ok (mkV agg ((xs.drop off).take ds.length)) w := by
  cases agg with
  | true =>
    have h1 := hf.ia w
    simp only [part, Sem.run_bind, h1, Result.andThen_ok, if_true, hf.sz w, Sem.run_pure, mkV]
    congr 2
    apply Array.ext'
    simp [List.extract_eq_take_drop]
  | false =>
    have h1 := hf.ia w
    have h2 := hf.one rfl
    have h3 : off < xs.length := by omega
    have h4 : ((xs.drop off).take 1).headD undef = xs[off] := by
      rw [List.drop_eq_getElem_cons h3]
      rfl
    simp only [part, Sem.run_bind, h1, Result.andThen_ok, Bool.false_eq_true, if_false, mkV, h2, h4]
    simp [h3]
theorem fields_run {k : Nat} : ∀ {fs : List Field} {ds : List TypeDesc} {off : Nat}, FlatFs P k off fs ds → ∀ (d : Nat) (xs ys : List Value) (b : Bool) (w : World), k ≤ d → xs.length = off + ds.length → ys.length = off + ds.length →
    oksD ds (xs.drop off) = true → oksD ds (ys.drop off) = true → eqL (xs.drop off) (ys.drop off) = some b → (Op.eqFields d xs.toArray ys.toArray fs).run P w = .ok b w
  | [], ds, off, hf, d, xs, ys, b, w, hd, hx, hy, ox, oy, h => by
    obtain rfl : ds = [] := hf
    rw [List.drop_of_length_le (by simp at hx; omega), List.drop_of_length_le (by simp at hy; omega)] at h
    injection h with h
    subst h
    rfl
  | f :: fs, ds, off, hf, d, xs, ys, b, w, hd, hx, hy, ox, oy, h => by
    obtain ⟨hn, ho, d1, d2, agg, rfl, hF, hr⟩ := hf
    rw [List.length_append] at hx hy
    have ox' := oksD_app ox
    have oy' := oksD_app oy
    have e1 : xs.drop off = (xs.drop off).take d1.length ++ xs.drop (off + d1.length) := by rw [← List.drop_drop, List.take_append_drop]
    have e2 : ys.drop off = (ys.drop off).take d1.length ++ ys.drop (off + d1.length) := by rw [← List.drop_drop, List.take_append_drop]
    rw [e1, e2] at h
    obtain ⟨c, h1, h2⟩ := eqL_append (by simp; omega) h
    have p1 := part_run hF xs off w (by omega)
    have p2 := part_run hF ys off w (by omega)
    have q1 := hF.eq d _ _ c w hd ox'.1 oy'.1 h1
    simp only [Op.eqFields, hn, ne_eq, not_false_eq_true, if_true, Sem.run_bind, ho, p1, Result.andThen_ok, p2, q1, Sem.run_ite]
    cases c with
    | false =>
      simp only [Bool.false_eq_true, if_false] at h2
      injection h2 with h2
      subst h2
      rfl
    | true =>
      simp only [if_true] at h2
      have h3 := fields_run hr d xs ys b w hd (by omega) (by omega) (by rw [← List.drop_drop]; exact ox'.2) (by rw [← List.drop_drop]; exact oy'.2) h2
      simpa using h3
theorem Flat.struct {k : Nat} {fs : Array Field} {ds : List TypeDesc} (ia : ∀ w, (isAgg t).run P w = .ok true w) {z : Nat} (sz : ∀ w, (sizeOf t).run P w = .ok z w) (hz : ds.length = z) (hu : P.underlying t = some (.struct fs)) (hp : P.stoodInHeld t = false) (hf : FlatFs P k 0 fs.toList ds) : Flat P (k + 1) t ds true := by
  subst hz
  refine ⟨ia, sz, fun h => (by cases h), ?_⟩
  intro d xs ys b w hd hx hy h
  obtain ⟨d, rfl⟩ : ∃ d', d = d' + 1 := ⟨d - 1, by omega⟩
  have e : P.fieldsOf t = fs := by simp [Program.fieldsOf, hu]
  simp only [mkV, if_true]
  rw [run_equalIn_agg w d t _ _ (by rw [e]; exact hu) hp, e]
  exact fields_run hf d xs ys b w (by omega) (by simpa using oksD_length hx) (by simpa using oksD_length hy) hx hy h
theorem Flat.mono {k k' : Nat} {ds : List TypeDesc} {agg : Bool} (h : Flat P k t ds agg) (hk : k ≤ k') : Flat P k' t ds agg := ⟨h.ia, h.sz, h.one, fun d xs ys b w hd => h.eq d xs ys b w (by omega)⟩
end
section
variable {P : Program} {n : Nat} {F0 : Nat → Prop} {w0 : World} {e : Env} {Rs Rf : List Res} {Q : Exit → Act → World → Prop} {ops : Array Oper} {d : Option Tmp} {i : Nat} {ty t t' el : TypeId} {pos : String} {af : Array Edge} {gd : Option (Nat × Bool)} {v v' : Value} {x y : Operand} {l : List Nat} {lo : Sch} {c : Code} {S : World → Prop}
theorem Ex.aEq {k : Nat} {ds : List TypeDesc} {us vs : List Value} {b : Bool} (hF : Flat P k t ds true) (hk : Nat.ble k 10000 = true) (hG : P.eqGuardType P.depth t = false) (hx : e.ev x = some (.agg us.toArray)) (hy : e.ev y = some (.agg vs.toArray)) (ou : oksD ds us = true) (ov : oksD ds vs = true) (h : eqL us vs = some b) :
    Ex P n e S ⟨d, .binOp .eql t x y t', ty, pos, af, gd⟩ (.bool b) := by
  intro a w ha _
  have h1 := hF.eq 10000 us vs b w (Nat.le_of_ble_eq_true hk) ou ov h
  simp only [mkV, if_true] at h1
  simp only [execOp, ha.ev hx, ha.ev hy, Sem.run_bind]
  rw [run_eqGuard_agg w .eql t x y _ _ hG]
  simp only [Result.andThen_ok]
  rw [run_eql_struct w t _ _, h1]
  rfl
theorem Ex.aNe {k : Nat} {ds : List TypeDesc} {us vs : List Value} {b : Bool} (hF : Flat P k t ds true) (hk : Nat.ble k 10000 = true) (hG : P.eqGuardType P.depth t = false) (hx : e.ev x = some (.agg us.toArray)) (hy : e.ev y = some (.agg vs.toArray)) (ou : oksD ds us = true) (ov : oksD ds vs = true) (h : eqL us vs = some b) :
    Ex P n e S ⟨d, .binOp .neq t x y t', ty, pos, af, gd⟩ (.bool (!b)) := by
  intro a w ha _
  have h1 := hF.eq 10000 us vs b w (Nat.le_of_ble_eq_true hk) ou ov h
  simp only [mkV, if_true] at h1
  simp only [execOp, ha.ev hx, ha.ev hy, Sem.run_bind]
  rw [run_eqGuard_agg w .neq t x y _ _ hG]
  simp only [Result.andThen_ok]
  rw [run_neq_struct w t _ _, h1]
  rfl
theorem Wd.gu {op : Op} {j k : Nat} {want : Bool} (hj : (ops[j]?).bind (·.dst) = some k) (hv : e.get k = some undef) : Wd n ops e ⟨d, op, ty, pos, af, some (j, want)⟩ false := by
  intro a h
  simp only [Region.wanted, yielded, hj, Option.bind_some, h.at_ k _ hv]
  rfl
end
section
variable {P : Program} {n : Nat} {F0 : Nat → Prop} {w0 w : World} {e : Env} {Rs Rf : List Res} {Q : Exit → Act → World → Prop} {ops : Array Oper} {d : Option Tmp} {i : Nat} {ty t t' el : TypeId} {pos : String} {af : Array Edge} {gd : Option (Nat × Bool)} {v v' : Value} {y z : Operand} {l : List Nat} {lo : Sch} {c : Code} {S : World → Prop}
variable {α : Type} {E : Rd α} {B : Res} {A : Option Addr} {m cp size k : Nat} {xs : List α} {x : α}
theorem Ex.k1 {q g : Nat} {cs : List Value} (i j : Nat) (hy : e.ev y = some (.pointer (some ⟨g, q + j, none⟩))) (ha : ∀ w, (isAgg t).run P w = .ok false w) (hi : Rs[i]? = some B) (hB : ∀ w G, B.P w G → ∀ j, j < cs.length → w.cell? ⟨g, q + j, none⟩ = cs[j]?) (hv : cs[j]? = some v) : Ex P n e (St F0 w0 Rs) ⟨d, .load t y, ty, pos, af, gd⟩ v :=
  Ex.ld1 hy ha (fun w hw => by
    obtain ⟨G, h1, _⟩ := hw.get i hi
    exact (hB w G h1 j (List.getElem?_eq_some_iff.1 hv).1).trans hv)
end
end Go.Proofs.Ytahjmpipllajcaa.Sl
namespace Go.Proofs.Ytahjmpipllajcaa.Sl
open Go.RowKit
set_option linter.unusedVariables false
set_option linter.unusedSimpArgs false
def RX.blk (b : Nat) (T : TypeId) (cs : Array Value) : RX := ⟨fun w S => w.heap[b]? = some (.cells cs T (0, 0)) ∧ S b, fun h k => ⟨h.1, k _ h.2⟩, fun h k => ⟨(k _ h.2).trans h.1, h.2⟩⟩
section
variable {P : Program} {n : Nat} {F0 : Nat → Prop} {w0 w : World} {e : Env} {Rs Rf : List Res} {Q : Exit → Act → World → Prop} {ops : Array Oper} {d : Option Tmp} {i : Nat} {ty t t' el : TypeId} {pos : String} {af : Array Edge} {gd : Option (Nat × Bool)} {v v' : Value} {x y z : Operand} {l : List Nat} {lo : Sch} {c : Code} {S : World → Prop}
end
end Go.Proofs.Ytahjmpipllajcaa.Sl
namespace Go.Proofs.Ytahjmpipllajcaa.Sl
open Go.RowKit
set_option linter.unusedVariables false
set_option linter.unusedSimpArgs false
def toBs (xs : List Int) : List UInt8 := xs.map fun n => UInt8.ofNat n.toNat
theorem push_bytes : ∀ (xs : List Int) (l : List UInt8), xs.foldl (fun r n => r.push (UInt8.ofNat n.toNat)) (bsOf l) = bsOf (l ++ toBs xs)
  | [], l => by simp [toBs]
  | x :: xs, l => by
    rw [List.foldl_cons]
    have e : (bsOf l).push (UInt8.ofNat x.toNat) = bsOf (l ++ [UInt8.ofNat x.toNat]) := by simp [bsOf, ByteArray.push]
    rw [e, push_bytes xs]
    simp [toBs]
section
variable {P : Program} {n : Nat} {F0 : Nat → Prop} {w0 w : World} {e : Env} {Rs : List Res} {d : Option Tmp} {ty t t' el : TypeId} {pos : String} {af : Array Edge} {gd : Option (Nat × Bool)} {x y : Operand} {S : World → Prop}
theorem rd_bytes {G : Nat → Prop} {A : Option Addr} {c : Nat} {xs : List Int} (h : (sliceRd 1 u8E).P w G [.slice A xs.length c] xs) : (Conv.bytesToString (.slice A xs.length c)).run P w = .ok (.string (bsOf (toBs xs))) w := by
  rcases h with ⟨h1, rfl⟩ | ⟨a, cap, h1, h2, h3, h4, h5⟩
  · injection h1 with h1 _
    injection h1 with h1 _ _
    subst h1
    rfl
  · injection h1 with h1 _
    injection h1 with h1 _ h6
    subst h1 h6
    have hl : (loadCells a xs.length).run P w = .ok (xs.map (Value.int .u8)).toArray w := by
      have := run_loadCells_list (P := P) (w := w) a (xs.map (Value.int .u8)) (fun j v hj => ?_)
      · rwa [List.length_map] at this
      · rw [List.getElem?_map] at hj
        obtain ⟨x, hx, rfl⟩ := Option.map_eq_some_iff.1 hj
        obtain ⟨cs, g1, g2, g3⟩ := h5 j x hx
        have g3 : cs = [.int .u8 x] := g3
        subst g3
        have := g2 0 (by decide)
        simpa using this
    rw [run_bytesToString w a xs.length c xs hl]
    have := push_bytes xs []
    rw [List.nil_append] at this
    exact congrArg (fun s => Result.ok (Value.string s) w) this
theorem Ex.remK {k : IntKind} {p q : Int} (hx : e.ev x = some (.int k p)) (hy : e.ev y = some (.int k q)) (hq : 1 ≤ q) (h : 0 ≤ p) : Ex P n e S ⟨d, .binOp .rem t x y t', ty, pos, af, gd⟩ (.int k (p % q)) := by
  intro a w ha _
  have h0 : ¬ q = 0 := by omega
  simp [execOp, ha.ev hx, ha.ev hy, eqGuard, binOp, Op.intDiv, h0, IntWalk.rem_in _ _ h]
end
end Go.Proofs.Ytahjmpipllajcaa.Sl
namespace Go.Proofs.Ytahjmpipllajcaa.Sl
open Go.RowKit
set_option linter.unusedVariables false
set_option linter.unusedSimpArgs false
section
variable {P : Program} {n : Nat} {F0 : Nat → Prop} {w0 : World} {e : Env} {Rs : List Res} {S : World → Prop} {d : Option Tmp} {ty : TypeId} {pos : String} {af : Array Edge} {gd : Option (Nat × Bool)} {v : Value} {x y ix : Operand} {t t' el : TypeId}
theorem Ex.i2f {k : IntKind} {p : Int} (hx : e.ev x = some (.int k p)) (hs : P.underlying t = some (.int k)) (hu : P.underlying t' = some (.float .f64)) : Ex P n e S ⟨d, .convert t t' x, ty, pos, af, gd⟩ (.float .f64 (FloatKind.f64.nearest p)) := by
  intro a w ha _
  have h := run_convert_int_float (P := P) w t t' k .f64 p (by rw [hs]; rfl) hu
  simp [execOp, ha.ev hx, h, floatOfInt]
theorem Ex.f2i {b : Nat} {p : Int} (hx : e.ev x = some (.float .f64 b)) (hs : P.underlying t = some (.float .f64)) (hu : P.underlying t' = some (.int .i64)) (h : floatToIntVal .f64 b .i64 = some p) : Ex P n e S ⟨d, .convert t t' x, ty, pos, af, gd⟩ (.int .i64 p) := by
  intro a w ha _
  have h := run_convert_float_int (P := P) w t t' .f64 .i64 b p (by rw [hs]; rfl) hu h
  simp [execOp, ha.ev hx, h]
theorem cx_run (ts : Array TypeId) (q : TypeId) (a b : Nat) : Builtin.complex_ ts q #[.float .f64 a, .float .f64 b] = pure (.complex .f64 a b) := rfl
theorem re_run (ts : Array TypeId) (q : TypeId) (a b : Nat) : Builtin.real_ ts q #[.complex .f64 a b] = pure (.float .f64 a) := rfl
theorem im_run (ts : Array TypeId) (q : TypeId) (a b : Nat) : Builtin.imag_ ts q #[.complex .f64 a b] = pure (.float .f64 b) := rfl
theorem Ex.cx {a b : Nat} {ts : Array TypeId} (hx : e.ev x = some (.float .f64 a)) (hy : e.ev y = some (.float .f64 b)) : Ex P n e S ⟨d, .call ⟨.builtin .complex, #[x, y], ts⟩, ty, pos, af, gd⟩ (.complex .f64 a b) := by
  intro a w ha _
  simp [execOp, resolve, invoke, builtin, ha.ev hx, ha.ev hy, cx_run]
theorem Ex.re {a b : Nat} {ts : Array TypeId} (hx : e.ev x = some (.complex .f64 a b)) : Ex P n e S ⟨d, .call ⟨.builtin .real, #[x], ts⟩, ty, pos, af, gd⟩ (.float .f64 a) := by
  intro a w ha _
  simp [execOp, resolve, invoke, builtin, ha.ev hx, re_run]
theorem Ex.im {a b : Nat} {ts : Array TypeId} (hx : e.ev x = some (.complex .f64 a b)) : Ex P n e S ⟨d, .call ⟨.builtin .imag, #[x], ts⟩, ty, pos, af, gd⟩ (.float .f64 b) := by
  intro a w ha _
  simp [execOp, resolve, invoke, builtin, ha.ev hx, im_run]
theorem Ex.cadd {a b a' b' re im : Nat} (hx : e.ev x = some (.complex .f64 a b)) (hy : e.ev y = some (.complex .f64 a' b')) (h : cSumBits .add .f64 a b a' b' = some (re, im)) : Ex P n e S ⟨d, .binOp .add t x y t', ty, pos, af, gd⟩ (.complex .f64 re im) := by
  intro a w ha _
  have h := run_complex_sum (P := P) w .add (.inl rfl) t .f64 _ _ _ _ re im h
  simp [execOp, ha.ev hx, ha.ev hy, eqGuard, h]
end
end Go.Proofs.Ytahjmpipllajcaa.Sl
namespace Go.Proofs.Ytahjmpipllajcaa.Sl
open Go.RowKit
set_option linter.unusedVariables false
set_option linter.unusedSimpArgs false
def bitAt (n : Int) (i : Nat) : Bool := decide (n / 2 ^ i % 2 = 1)
theorem and_nat (n : Int) (m : Nat) (hm : m < 9223372036854775808) : bits .and .i64 n m = (((n % 18446744073709551616).toNat &&& m : Nat) : Int) := by
  have e1 : (BitVec.ofInt 64 n).toNat = (n % 18446744073709551616).toNat := by simp [BitVec.toNat_ofInt]
  have e2 : (BitVec.ofInt 64 (m : Int)).toNat = m := by
    rw [BitVec.ofInt_natCast, BitVec.toNat_ofNat, Nat.mod_eq_of_lt (by omega)]
  show IntKind.i64.wrap (((BitVec.ofInt 64 n) &&& (BitVec.ofInt 64 (m : Int))).toNat : Int) = _
  rw [BitVec.toNat_and, e1, e2]
  have h : (n % 18446744073709551616).toNat &&& m ≤ m := Nat.and_le_right
  rw [IntKind.wrap_i64]
  omega
theorem mod_bit (n : Int) (i : Nat) (hi : i < 64) : (n % 18446744073709551616).toNat.testBit i = bitAt n i := by
  have hs : (18446744073709551616 : Int) = 2 ^ i * 2 ^ (64 - i) := by
    rw [← Int.pow_add, show i + (64 - i) = 64 by omega]
    rfl
  have h2 : (2 : Int) ^ (64 - i) = 2 * 2 ^ (63 - i) := by
    rw [show 64 - i = 1 + (63 - i) by omega, Int.pow_add]
    rfl
  rw [Nat.testBit_eq_decide_div_mod_eq, bitAt]
  have hp : (0 : Int) < 2 ^ i := Int.pow_pos (by decide)
  have h4 : n % 18446744073709551616 / 2 ^ i = n / 2 ^ i % 2 ^ (64 - i) := by
    have e : n % 18446744073709551616 = n - 2 ^ i * (2 ^ (64 - i) * (n / 18446744073709551616)) := by
      have := Int.emod_def n 18446744073709551616
      rw [this, hs, Int.mul_assoc]
    rw [e, Int.sub_mul_ediv_left _ _ (by omega), Int.emod_def, Int.ediv_ediv_of_nonneg (Int.le_of_lt hp), ← hs]
  have h5 : n / 2 ^ i % 2 ^ (64 - i) % 2 = n / 2 ^ i % 2 := by
    rw [h2]
    exact Int.emod_emod_of_dvd _ ⟨_, rfl⟩
  have h6 : (((n % 18446744073709551616).toNat / 2 ^ i % 2 : Nat) : Int) = n / 2 ^ i % 2 := by
    have e : ((n % 18446744073709551616).toNat : Int) = n % 18446744073709551616 := by omega
    rw [Int.natCast_emod, Int.natCast_ediv, e, Int.natCast_pow]
    show n % 18446744073709551616 / 2 ^ i % 2 = _
    rw [h4, h5]
  congr 1
  apply propext
  omega
theorem and_bit (n : Int) (i : Nat) (hi : i < 63) : (bits .and .i64 n ((2 ^ i : Nat) : Int) != 0) = bitAt n i := by
  have hm : 2 ^ i < 9223372036854775808 := Nat.lt_of_lt_of_eq (Nat.pow_lt_pow_right (by decide) hi) (show 2 ^ 63 = 9223372036854775808 by decide)
  rw [and_nat n _ hm, ← mod_bit n i (by omega)]
  generalize (n % 18446744073709551616).toNat = a
  cases h : a.testBit i with
  | true =>
    have : (a &&& 2 ^ i) ≠ 0 := by
      intro h0
      have := congrArg (fun x => Nat.testBit x i) h0
      simp [h, Nat.testBit_two_pow_self] at this
    simp; omega
  | false =>
    have : (a &&& 2 ^ i) = 0 := by
      apply Nat.eq_of_testBit_eq
      intro j
      rw [Nat.testBit_and, Nat.testBit_two_pow]
      by_cases hj : i = j
      · subst hj; simp [h]
      · simp [hj]
    simp [this]
theorem and_seven (n : Int) : (bits .and .i64 n 7 != 0) = decide (n % 8 ≠ 0) := by
  have h := and_nat n 7 (by decide)
  rw [show ((7 : Nat) : Int) = 7 from rfl] at h
  rw [h, Nat.and_two_pow_sub_one_eq_mod _ 3]
  rw [Bool.eq_iff_iff]
  simp
  omega
theorem andnot_56 (n : Int) (h8 : n % 8 = 0) (h0 : -9223372036854775808 ≤ n) (h1 : n ≤ 9223372036854775807) : (bits .andNot .i64 n 56 != 0) = decide (n < 0 ∨ 63 < n) := by
  have e1 : (BitVec.ofInt 64 n).toNat = (n % 18446744073709551616).toNat := by simp [BitVec.toNat_ofInt]
  have e2 : (~~~ BitVec.ofInt 64 (56 : Int)).toNat = 18446744073709551559 := by decide
  have e3 : bits .andNot .i64 n 56 = IntKind.i64.wrap (((BitVec.ofInt 64 n) &&& ~~~ (BitVec.ofInt 64 (56 : Int))).toNat : Int) := rfl
  rw [e3, BitVec.toNat_and, e1, e2]
  have ha : (n % 18446744073709551616).toNat % 8 = 0 := by omega
  have hb : (n % 18446744073709551616).toNat < 64 ↔ ¬ (n < 0 ∨ 63 < n) := by omega
  have hc : (n % 18446744073709551616).toNat < 18446744073709551616 := by omega
  generalize (n % 18446744073709551616).toNat = a at *
  have hw : ∀ x : Nat, x < 18446744073709551616 → ((IntKind.i64.wrap (x : Int) != 0) = decide (x ≠ 0)) := by
    intro x hx
    rw [IntKind.wrap_i64, Bool.eq_iff_iff]
    simp
    omega
  rw [hw _ (Nat.lt_of_le_of_lt Nat.and_le_left hc)]
  by_cases h : a < 64
  · have : a = 0 ∨ a = 8 ∨ a = 16 ∨ a = 24 ∨ a = 32 ∨ a = 40 ∨ a = 48 ∨ a = 56 := by omega
    have hz : a &&& 18446744073709551559 = 0 := by rcases this with rfl | rfl | rfl | rfl | rfl | rfl | rfl | rfl <;> decide
    simp [hz, hb.1 h]
  · have hz : a &&& 18446744073709551559 ≠ 0 := by
      intro h0
      have h2 := congrArg (fun x => x >>> 6) h0
      simp only [Nat.shiftRight_and_distrib] at h2
      rw [show 18446744073709551559 >>> 6 = 2 ^ 58 - 1 from rfl, Nat.and_two_pow_sub_one_eq_mod, Nat.shiftRight_eq_div_pow] at h2
      simp at h2
      omega
    have : n < 0 ∨ 63 < n := by
      rcases Classical.em (n < 0 ∨ 63 < n) with h2 | h2
      · exact h2
      · exact absurd (hb.2 h2) h
    simp [hz, this]
theorem and_8 (n : Int) : (bits .and .i64 n 8 != 0) = bitAt n 3 := and_bit n 3 (by decide)
theorem and_16 (n : Int) : (bits .and .i64 n 16 != 0) = bitAt n 4 := and_bit n 4 (by decide)
theorem and_32 (n : Int) : (bits .and .i64 n 32 != 0) = bitAt n 5 := and_bit n 5 (by decide)
theorem eq_of_ne {a b : Int} {c : Bool} (h : (a != b) = c) : (a == b) = !c := by rw [← h, bne, Bool.not_not]
set_option maxRecDepth 100000 in
theorem ARead_any (n : Int) (w : World) :
    Calls Try.prog 104 #[.int .i64 n] w fun e w' => e = .returned (.tuple #[.bool (bitAt n 3), .bool (bitAt n 4), .bool (bitAt n 5)]) ∧ w = w' := by
  have H1 := Lib.hid (and_8 n)
  have H2 := Lib.hid (and_16 n)
  have H3 := Lib.hid (and_32 n)
  go_enter Try.func104, Try.ntmps104
  go_wp2
  go_ret3
  exact ⟨congrArg Ending.returned (show (Value.tuple #[.bool (bits .and .i64 n 8 != 0), .bool (bits .and .i64 n 16 != 0), .bool (bits .and .i64 n 32 != 0)]) = _ by rw [H1.out, H2.out, H3.out]), rfl⟩
def acheck (n : Int) : Int := if n % 8 ≠ 0 then 9 else if n < 0 ∨ 63 < n ∨ (bitAt n 5 = true ∧ bitAt n 4 = false) then 8 else 0
set_option maxRecDepth 100000 in
theorem ACheck_any (n : Int) (h0 : -9223372036854775808 ≤ n) (h1 : n ≤ 9223372036854775807) (w : World) :
    Calls Try.prog 103 #[.int .i64 n] w fun e w' => e = .returned (.int .i64 (acheck n)) ∧ w = w' := by
  have h7 := and_seven n
  by_cases h8 : n % 8 = 0
  · have ha := andnot_56 n h8 h0 h1
    have h32 := and_32 n
    have h16 := eq_of_ne (and_16 n)
    have H8 := Lib.hid h8
    simp only [h8] at h7
    by_cases hr : n < 0 ∨ 63 < n
    · have HA := Lib.hid (show acheck n = 8 by simp only [acheck, h8]; rcases hr with h | h <;> simp [h])
      simp only [hr] at ha
      clear hr h8 h32 h16
      go_enter Try.func103, Try.ntmps103
      go_wp2
      go_ret
      exact ⟨ret_int (by rw [HA.out]), rfl⟩
    · simp only [hr] at ha
      have HR := Lib.hid hr
      clear hr h8
      cases b5 : bitAt n 5 with
      | true =>
        cases b4 : bitAt n 4 with
        | true =>
          have HA := Lib.hid (show acheck n = 0 by have := HR.out; simp [acheck, H8.out, b5, b4]; omega)
          rw [b5] at h32
          rw [b4] at h16
          clear b5 b4
          go_enter Try.func103, Try.ntmps103
          go_wp2
          go_ret
          exact ⟨ret_int (by rw [HA.out]), rfl⟩
        | false =>
          have HA := Lib.hid (show acheck n = 8 by simp [acheck, H8.out, b5, b4])
          rw [b5] at h32
          rw [b4] at h16
          clear b5 b4
          go_enter Try.func103, Try.ntmps103
          go_wp2
          go_ret
          exact ⟨ret_int (by rw [HA.out]), rfl⟩
      | false =>
        have HA := Lib.hid (show acheck n = 0 by have := HR.out; simp [acheck, H8.out, b5]; omega)
        rw [b5] at h32
        clear b5 h16
        go_enter Try.func103, Try.ntmps103
        go_wp2
        go_ret
        exact ⟨ret_int (by rw [HA.out]), rfl⟩
  · have HA := Lib.hid (show acheck n = 9 by simp [acheck, h8])
    simp only [ne_eq, h8] at h7
    clear h8
    go_enter Try.func103, Try.ntmps103
    go_wp2
    go_ret
    exact ⟨ret_int (by rw [HA.out]), rfl⟩
end Go.Proofs.Ytahjmpipllajcaa.Sl
namespace Go.Proofs.Ytahjmpipllajcaa.Sl
open Go.RowKit
set_option linter.unusedVariables false
set_option linter.unusedSimpArgs false
def isC (z : Nat × Nat) (p : Int × Int) : Prop := isW z.1 p.1 ∧ isW z.2 p.2
def sm (p : Int × Int) : Prop := p.1.natAbs < 2 ^ 53 ∧ p.2.natAbs < 2 ^ 53
theorem isC_fw (x y : Int) : isC (fw x, fw y) (x, y) := ⟨isW_fw x, isW_fw y⟩
theorem isC_zero : isC (0, 0) (0, 0) := ⟨.inl fw_zero.symm, .inl fw_zero.symm⟩
theorem cadd_isC {z w : Nat × Nat} {p q : Int × Int} (hz : isC z p) (hw : isC w q) (sp : sm p) (sq : sm q) (ss : sm (p.1 + q.1, p.2 + q.2)) : ∃ v, cSumBits .add .f64 z.1 z.2 w.1 w.2 = some v ∧ isC v (p.1 + q.1, p.2 + q.2) := by
  obtain ⟨a, a1, a2⟩ := add_isW hz.1 hw.1 sp.1 sq.1 ss.1
  obtain ⟨b, b1, b2⟩ := add_isW hz.2 hw.2 sp.2 sq.2 ss.2
  refine ⟨(a, b), ?_, a2, b2⟩
  unfold cSumBits
  rw [a1, Option.bind_some, b1, Option.bind_some]
end Go.Proofs.Ytahjmpipllajcaa.Sl
namespace Go.Proofs.Ytahjmpipllajcaa.Sl
open Go.RowKit
set_option linter.unusedVariables false
set_option linter.unusedSimpArgs false
attribute [local go_sem] bsOf_toList bsOf_size
@[go_sem] def strErr (x : List UInt8 × Int) : Value := .tuple #[.string (bsOf x.1), .int .i64 x.2]
def otx (st : List UInt8 × Int) : List UInt8 × Int := if st.2 = 0 then (st.1, 0) else ([], st.2)
theorem otext_strErr (st : List UInt8 × Int) : otext st = strErr (otx st) := by unfold otext otx; split <;> rfl
theorem ifail_err {st : I} (h : st.err ≠ 0) (e : Int) : ifail st e = st := by simp [ifail, h]
theorem itake_err {st : I} (h : st.err ≠ 0) (n : Int) : itake st n = ([], st) := by simp [itake, h]
theorem iint_err {st : I} (h : st.err ≠ 0) (n : Int) : iint st n = (0, st) := by
  unfold iint
  split
  · rw [itake_err h]; rfl
  · rw [ifail_err h]
theorem bread_err {st : I} (h : st.err ≠ 0) (n : Int) : bread st n = (⟨false, []⟩, st) := by simp [bread, h]
theorem iclose_err {st : I} (h : st.err ≠ 0) : iclose st = st := by unfold iclose; split; rfl; exact ifail_err h 2
theorem itake_ok (l : List UInt8) (p : Nat) (n : Nat) (h : n ≤ l.length) : itake ⟨l, p, 0⟩ n = (l.take n, ⟨l.drop n, p + n, 0⟩) := by
  unfold itake
  rw [if_neg (by simp), if_neg (by omega), if_neg (by simp only; omega)]
  simp
theorem itake_short (l : List UInt8) (p : Nat) (n : Int) (h : (l.length : Int) < n) : itake ⟨l, p, 0⟩ n = ([], ⟨l, p, 1⟩) := by
  unfold itake
  rw [if_neg (by simp), if_neg (by omega), if_pos (by simp only; omega)]
theorem itake_neg (l : List UInt8) (p : Nat) (n : Int) (h : n < 0) : itake ⟨l, p, 0⟩ n = ([], ⟨l, p, 4⟩) := by
  unfold itake
  rw [if_neg (by simp), if_pos h]
theorem iint_ok (l : List UInt8) (p : Nat) (n : Nat) (h1 : 1 ≤ n) (h8 : n ≤ 8) (h : n ≤ l.length) : iint ⟨l, p, 0⟩ n = (beInt (l.take n), ⟨l.drop n, p + n, 0⟩) := by
  unfold iint
  rw [if_pos (by omega), itake_ok l p n h]
theorem iint_short (l : List UInt8) (p : Nat) (n : Int) (h1 : 1 ≤ n) (h8 : n ≤ 8) (h : (l.length : Int) < n) : iint ⟨l, p, 0⟩ n = (0, ⟨l, p, 1⟩) := by
  unfold iint
  rw [if_pos (by omega), itake_short l p n h]
  rfl
end Go.Proofs.Ytahjmpipllajcaa.Sl
namespace Go.Proofs.Ytahjmpipllajcaa.Sl
open Go.RowKit
set_option linter.unusedVariables false
set_option linter.unusedSimpArgs false
theorem bsOf_append (a b : List UInt8) : bsOf a ++ bsOf b = bsOf (a ++ b) := by
  apply ByteArray.ext
  simp [bsOf]
attribute [local go_sem] bsOf_toList bsOf_size bsOf_append
end Go.Proofs.Ytahjmpipllajcaa.Sl
namespace Go.Proofs.Ytahjmpipllajcaa.Sl
open Go.RowKit
set_option linter.unusedVariables false
set_option linter.unusedSimpArgs false
theorem OPutL_spec (b : Nat) (st : List UInt8 × Int) (s : List UInt8) (hl : st.1.length + s.length ≤ 140737488355328) :
    Spec Try.prog 54 #[.pointer (some ⟨b, 0, none⟩), .string (bsOf s)] (OutR b st) (fun v A' N => v = .tuple #[] ∧ A' = OutR b (oput st s) ∧ N = []) := by
  have h := Put_spec b st (bsOf s) (by rw [bsOf_size]; exact hl)
  rwa [bsOf_list] at h
theorem OTextT_spec (b : Nat) (st : List UInt8 × Int) : Spec Try.prog 49 #[.pointer (some ⟨b, 0, none⟩)] (OutR b st) (fun v A' N => v = .tuple #[.string (bsOf (otx st).1), .int .i64 (otx st).2] ∧ A' = OutR b st ∧ N = []) := by
  have h := Text_spec b st
  rwa [otext_strErr] at h
def gOFail (st : List UInt8 × Int) (e : Int) : Option (List UInt8 × Int) := some (ofail st e)
theorem gOFail_eq (st : List UInt8 × Int) (e : Int) : gOFail st e = some (ofail st e) := rfl
theorem gOFail_spec (g : Nat) (st : List UInt8 × Int) (e : Int) (r : List UInt8 × Int) (h : gOFail st e = some r) : SpecX Try.prog 77 #[.pointer (some ⟨g, 0, none⟩), .int .i64 e] .triv (OutR g st) (fun v A' N => v = .tuple #[] ∧ A' = OutR g r ∧ N = []) := by
  unfold gOFail at h
  obtain rfl := Option.some.inj h
  exact SpecX.of_spec (Fail_spec g st e)
def gOPut (st : List UInt8 × Int) (s : List UInt8) : Option (List UInt8 × Int) := if st.1.length + s.length ≤ 140737488355328 then some (oput st s) else none
theorem gOPut_eq (st : List UInt8 × Int) (s : List UInt8) (h : st.1.length + s.length ≤ 140737488355328) : gOPut st s = some (oput st s) := if_pos h
theorem gOPut_spec (g : Nat) (st : List UInt8 × Int) (s : List UInt8) (r : List UInt8 × Int) (h : gOPut st s = some r) : SpecX Try.prog 54 #[.pointer (some ⟨g, 0, none⟩), .string (bsOf s)] .triv (OutR g st) (fun v A' N => v = .tuple #[] ∧ A' = OutR g r ∧ N = []) := by
  unfold gOPut at h
  split at h
  · rename_i h1
    obtain rfl := Option.some.inj h
    exact SpecX.of_spec (OPutL_spec g st s h1)
  · simp at h
def gOByte (st : List UInt8 × Int) (c : Int) : Option (List UInt8 × Int) := if 0 ≤ c ∧ c < 256 ∧ st.1.length + 1 ≤ 140737488355328 then some (oput st [UInt8.ofNat c.toNat]) else none
theorem gOByte_eq (st : List UInt8 × Int) (c : Int) (h : 0 ≤ c ∧ c < 256 ∧ st.1.length + 1 ≤ 140737488355328) : gOByte st c = some (oput st [UInt8.ofNat c.toNat]) := if_pos h
theorem gOByte_spec (g : Nat) (st : List UInt8 × Int) (c : Int) (r : List UInt8 × Int) (h : gOByte st c = some r) : SpecX Try.prog 97 #[.pointer (some ⟨g, 0, none⟩), .int .u8 c] .triv (OutR g st) (fun v A' N => v = .tuple #[] ∧ A' = OutR g r ∧ N = []) := by
  unfold gOByte at h
  split at h
  · rename_i h1
    obtain rfl := Option.some.inj h
    exact SpecX.of_spec (ByteI_spec g st c h1.1 h1.2.1 h1.2.2)
  · simp at h
def gOText (st : List UInt8 × Int)  : Option (List UInt8 × Int × (List UInt8 × Int)) := some ((otx st).1, (otx st).2, st)
theorem gOText_eq (st : List UInt8 × Int)  : gOText st  = some ((otx st).1, (otx st).2, st) := rfl
theorem gOText_spec (g : Nat) (st : List UInt8 × Int)  (r : List UInt8 × Int × (List UInt8 × Int)) (h : gOText st  = some r) : SpecX Try.prog 49 #[.pointer (some ⟨g, 0, none⟩)] .triv (OutR g st) (fun v A' N => v = .tuple #[.string (bsOf r.1), .int .i64 r.2.1] ∧ A' = OutR g r.2.2 ∧ N = []) := by
  unfold gOText at h
  obtain rfl := Option.some.inj h
  exact SpecX.of_spec (OTextT_spec g st)
def gOInt (st : List UInt8 × Int) (n : Int) (size : Int) : Option (List UInt8 × Int) := if (-9223372036854775808 ≤ n ∧ n ≤ 9223372036854775807) ∧ st.1.length + 8 ≤ 140737488355328 then some (oint st n size) else none
theorem gOInt_eq (st : List UInt8 × Int) (n : Int) (size : Int) (h : (-9223372036854775808 ≤ n ∧ n ≤ 9223372036854775807) ∧ st.1.length + 8 ≤ 140737488355328) : gOInt st n size = some (oint st n size) := if_pos h
theorem gOInt_spec (g : Nat) (st : List UInt8 × Int) (n : Int) (size : Int) (r : List UInt8 × Int) (h : gOInt st n size = some r) : SpecX Try.prog 81 #[.pointer (some ⟨g, 0, none⟩), .int .i64 n, .int .i64 size] .triv (OutR g st) (fun v A' N => v = .tuple #[] ∧ A' = OutR g r ∧ N = []) := by
  unfold gOInt at h
  split at h
  · rename_i h1
    obtain rfl := Option.some.inj h
    exact SpecX.of_spec (OutInt_spec g st n size h1.1.1 h1.1.2 h1.2)
  · simp at h
def gFits  (n : Int) (size : Int) : Option (Bool) := if (-9223372036854775808 ≤ n ∧ n ≤ 9223372036854775807) then some (fits n size) else none
theorem gFits_eq  (n : Int) (size : Int) (h : (-9223372036854775808 ≤ n ∧ n ≤ 9223372036854775807)) : gFits  n size = some (fits n size) := if_pos h
theorem gFits_spec (n : Int) (size : Int) (r : Bool) (h : gFits  n size = some r) (w : World) : Calls Try.prog 73 #[.int .i64 n, .int .i64 size] w fun e w' => e = .returned (.bool r) ∧ w = w' := by
  unfold gFits at h
  split at h
  · rename_i h1
    obtain rfl := Option.some.inj h
    exact Fits_any n size w h1.1 h1.2
  · simp at h
def gNew  (s : List UInt8) : Option (I) := if s.length ≤ 9223372036854775807 then some (⟨s, 0, 0⟩ : I) else none
theorem gNew_eq  (s : List UInt8) (h : s.length ≤ 9223372036854775807) : gNew  s = some (⟨s, 0, 0⟩ : I) := if_pos h
theorem gNew_spec (s : List UInt8) (r : I) (h : gNew  s = some r) : SpecX Try.prog 56 #[.string (bsOf s)] .triv EmpR (fun v A' N => ∃ g, v = .pointer (some ⟨g, 0, none⟩) ∧ A' = EmpR ∧ N = [InR g r]) := by
  unfold gNew at h
  split at h
  · rename_i h1
    obtain rfl := Option.some.inj h
    have k := SpecX.of_spec0 (X := .triv) (New_spec (bsOf s) (by rw [bsOf_size]; omega))
    intro F w hA hX
    refine (k F w hA hX).mono ?_
    rintro e w' ⟨v, A', Ns, rfl, ⟨rfl, b, rfl, rfl⟩, hst⟩
    rw [bsOf_list] at hst
    exact ⟨_, _, _, rfl, ⟨b, rfl, rfl, rfl⟩, hst⟩
  · simp at h
def gIFail (st : I) (e : Int) : Option (I) := some (ifail st e)
theorem gIFail_eq (st : I) (e : Int) : gIFail st e = some (ifail st e) := rfl
theorem gIFail_spec (g : Nat) (st : I) (e : Int) (r : I) (h : gIFail st e = some r) : SpecX Try.prog 85 #[.pointer (some ⟨g, 0, none⟩), .int .i64 e] .triv (InR g st) (fun v A' N => v = .tuple #[] ∧ A' = InR g r ∧ N = []) := by
  unfold gIFail at h
  obtain rfl := Option.some.inj h
  exact SpecX.of_spec (IFail_spec g st e)
def gLeft (st : I)  : Option (Int × I) := some ((st.rest.length : Int), st)
theorem gLeft_eq (st : I)  : gLeft st  = some ((st.rest.length : Int), st) := rfl
theorem gLeft_spec (g : Nat) (st : I)  (r : Int × I) (h : gLeft st  = some r) : SpecX Try.prog 105 #[.pointer (some ⟨g, 0, none⟩)] .triv (InR g st) (fun v A' N => v = .int .i64 r.1 ∧ A' = InR g r.2 ∧ N = []) := by
  unfold gLeft at h
  obtain rfl := Option.some.inj h
  exact SpecX.of_spec (Left_spec g st)
def gTake (st : I) (n : Int) : Option (List UInt8 × I) := if (-9223372036854775808 ≤ n ∧ n ≤ 9223372036854775807) then some ((itake st n).1, (itake st n).2) else none
theorem gTake_eq (st : I) (n : Int) (h : (-9223372036854775808 ≤ n ∧ n ≤ 9223372036854775807)) : gTake st n = some ((itake st n).1, (itake st n).2) := if_pos h
theorem gTake_spec (g : Nat) (st : I) (n : Int) (r : List UInt8 × I) (h : gTake st n = some r) : SpecX Try.prog 84 #[.pointer (some ⟨g, 0, none⟩), .int .i64 n] .triv (InR g st) (fun v A' N => v = .string (bsOf r.1) ∧ A' = InR g r.2 ∧ N = []) := by
  unfold gTake at h
  split at h
  · rename_i h1
    obtain rfl := Option.some.inj h
    exact SpecX.of_spec (Take_spec g st n h1.1 h1.2)
  · simp at h
def gInt (st : I) (size : Int) : Option (Int × I) := some ((iint st size).1, (iint st size).2)
theorem gInt_eq (st : I) (size : Int) : gInt st size = some ((iint st size).1, (iint st size).2) := rfl
theorem gInt_spec (g : Nat) (st : I) (size : Int) (r : Int × I) (h : gInt st size = some r) : SpecX Try.prog 95 #[.pointer (some ⟨g, 0, none⟩), .int .i64 size] .triv (InR g st) (fun v A' N => v = .int .i64 r.1 ∧ A' = InR g r.2 ∧ N = []) := by
  unfold gInt at h
  obtain rfl := Option.some.inj h
  exact SpecX.of_spec (IInt_spec g st size)
def gErr (st : I)  : Option (Int × I) := some (st.err, st)
theorem gErr_eq (st : I)  : gErr st  = some (st.err, st) := rfl
theorem gErr_spec (g : Nat) (st : I)  (r : Int × I) (h : gErr st  = some r) : SpecX Try.prog 58 #[.pointer (some ⟨g, 0, none⟩)] .triv (InR g st) (fun v A' N => v = .int .i64 r.1 ∧ A' = InR g r.2 ∧ N = []) := by
  unfold gErr at h
  obtain rfl := Option.some.inj h
  exact SpecX.of_spec (IErr_spec g st)
def gClose (st : I)  : Option (Int × I) := some ((iclose st).err, iclose st)
theorem gClose_eq (st : I)  : gClose st  = some ((iclose st).err, iclose st) := rfl
theorem gClose_spec (g : Nat) (st : I)  (r : Int × I) (h : gClose st  = some r) : SpecX Try.prog 96 #[.pointer (some ⟨g, 0, none⟩)] .triv (InR g st) (fun v A' N => v = .int .i64 r.1 ∧ A' = InR g r.2 ∧ N = []) := by
  unfold gClose at h
  obtain rfl := Option.some.inj h
  exact SpecX.of_spec (Close_spec g st)
def gVInt (st : I)  : Option (Int × I) := some ((vbackI (vread 32 st)).1, (vbackI (vread 32 st)).2)
theorem gVInt_eq (st : I)  : gVInt st  = some ((vbackI (vread 32 st)).1, (vbackI (vread 32 st)).2) := rfl
theorem gVInt_spec (g : Nat) (st : I)  (r : Int × I) (h : gVInt st  = some r) : SpecX Try.prog 114 #[.pointer (some ⟨g, 0, none⟩)] .triv (InR g st) (fun v A' N => v = .int .i64 r.1 ∧ A' = InR g r.2 ∧ N = []) := by
  unfold gVInt at h
  obtain rfl := Option.some.inj h
  exact SpecX.of_spec (VInt_spec g st)
def gVLong (st : I)  : Option (Int × I) := some ((vbackI (vread 64 st)).1, (vbackI (vread 64 st)).2)
theorem gVLong_eq (st : I)  : gVLong st  = some ((vbackI (vread 64 st)).1, (vbackI (vread 64 st)).2) := rfl
theorem gVLong_spec (g : Nat) (st : I)  (r : Int × I) (h : gVLong st  = some r) : SpecX Try.prog 113 #[.pointer (some ⟨g, 0, none⟩)] .triv (InR g st) (fun v A' N => v = .int .i64 r.1 ∧ A' = InR g r.2 ∧ N = []) := by
  unfold gVLong at h
  obtain rfl := Option.some.inj h
  exact SpecX.of_spec (VLong_spec g st)
def gPutLong (st : List UInt8 × Int) (n : Int) : Option (List UInt8 × Int) := if (-9223372036854775808 ≤ n ∧ n ≤ 9223372036854775807) ∧ st.1.length + 10 ≤ 140737488355328 then some (oput st (vput (vfold n))) else none
theorem gPutLong_eq (st : List UInt8 × Int) (n : Int) (h : (-9223372036854775808 ≤ n ∧ n ≤ 9223372036854775807) ∧ st.1.length + 10 ≤ 140737488355328) : gPutLong st n = some (oput st (vput (vfold n))) := if_pos h
theorem gPutLong_spec (g : Nat) (st : List UInt8 × Int) (n : Int) (r : List UInt8 × Int) (h : gPutLong st n = some r) : SpecX Try.prog 98 #[.pointer (some ⟨g, 0, none⟩), .int .i64 n] .triv (OutR g st) (fun v A' N => v = .tuple #[] ∧ A' = OutR g r ∧ N = []) := by
  unfold gPutLong at h
  split at h
  · rename_i h1
    obtain rfl := Option.some.inj h
    exact SpecX.of_spec (VPutLong_spec g st n h1.1.1 h1.1.2 h1.2)
  · simp at h
def gPutInt (st : List UInt8 × Int) (n : Int) : Option (List UInt8 × Int) := if (-9223372036854775808 ≤ n ∧ n ≤ 9223372036854775807) ∧ st.1.length + 10 ≤ 140737488355328 then some (vputInt st n) else none
theorem gPutInt_eq (st : List UInt8 × Int) (n : Int) (h : (-9223372036854775808 ≤ n ∧ n ≤ 9223372036854775807) ∧ st.1.length + 10 ≤ 140737488355328) : gPutInt st n = some (vputInt st n) := if_pos h
theorem gPutInt_spec (g : Nat) (st : List UInt8 × Int) (n : Int) (r : List UInt8 × Int) (h : gPutInt st n = some r) : SpecX Try.prog 99 #[.pointer (some ⟨g, 0, none⟩), .int .i64 n] .triv (OutR g st) (fun v A' N => v = .tuple #[] ∧ A' = OutR g r ∧ N = []) := by
  unfold gPutInt at h
  split at h
  · rename_i h1
    obtain rfl := Option.some.inj h
    exact SpecX.of_spec (VPutInt_spec g st n h1.1.1 h1.1.2 h1.2)
  · simp at h
def gRInt  (s : List UInt8) : Option (Int) := if s.length ≤ 8 then some (beInt s) else none
theorem gRInt_eq  (s : List UInt8) (h : s.length ≤ 8) : gRInt  s = some (beInt s) := if_pos h
def gRight  (b : Bl) : Option (Bool) := some (bright b)
theorem gRight_eq  (b : Bl) : gRight  b = some (bright b) := rfl
theorem gRight_spec (b : Bl) (r : Bool) (h : gRight  b = some r) : SpecX Try.prog 93 #[.agg #[.bool b.null, .string (bsOf b.data)]] .triv EmpR (fun v A' N => v = .bool r ∧ A' = EmpR ∧ N = []) := by
  unfold gRight at h
  obtain rfl := Option.some.inj h
  exact SpecX.of_spec0_2 (BRight_spec b)
def gPutVaried (st : List UInt8 × Int) (b : Bl) : Option (List UInt8 × Int) := if st.1.length + 10 + b.data.length ≤ 140737488355328 then some (bputVaried st b) else none
theorem gPutVaried_eq (st : List UInt8 × Int) (b : Bl) (h : st.1.length + 10 + b.data.length ≤ 140737488355328) : gPutVaried st b = some (bputVaried st b) := if_pos h
theorem gPutVaried_spec (g : Nat) (st : List UInt8 × Int) (b : Bl) (r : List UInt8 × Int) (h : gPutVaried st b = some r) : SpecX Try.prog 100 #[.pointer (some ⟨g, 0, none⟩), .agg #[.bool b.null, .string (bsOf b.data)]] .triv (OutR g st) (fun v A' N => v = .tuple #[] ∧ A' = OutR g r ∧ N = []) := by
  unfold gPutVaried at h
  split at h
  · rename_i h1
    obtain rfl := Option.some.inj h
    exact SpecX.of_spec (BPutVaried_spec g st b h1)
  · simp at h
def gPutName (st : List UInt8 × Int) (s : List UInt8) : Option (List UInt8 × Int) := if st.1.length + 10 + s.length ≤ 140737488355328 then some (bputName st s) else none
theorem gPutName_eq (st : List UInt8 × Int) (s : List UInt8) (h : st.1.length + 10 + s.length ≤ 140737488355328) : gPutName st s = some (bputName st s) := if_pos h
theorem gPutName_spec (g : Nat) (st : List UInt8 × Int) (s : List UInt8) (r : List UInt8 × Int) (h : gPutName st s = some r) : SpecX Try.prog 79 #[.pointer (some ⟨g, 0, none⟩), .string (bsOf s)] .triv (OutR g st) (fun v A' N => v = .tuple #[] ∧ A' = OutR g r ∧ N = []) := by
  unfold gPutName at h
  split at h
  · rename_i h1
    obtain rfl := Option.some.inj h
    exact SpecX.of_spec (BPutName_spec g st s h1)
  · simp at h
def gVaried (st : I)  : Option (Bl × I) := some ((bvaried st).1, (bvaried st).2)
theorem gVaried_eq (st : I)  : gVaried st  = some ((bvaried st).1, (bvaried st).2) := rfl
theorem gVaried_spec (g : Nat) (st : I)  (r : Bl × I) (h : gVaried st  = some r) : SpecX Try.prog 115 #[.pointer (some ⟨g, 0, none⟩)] .triv (InR g st) (fun v A' N => v = .agg #[.bool r.1.null, .string (bsOf r.1.data)] ∧ A' = InR g r.2 ∧ N = []) := by
  unfold gVaried at h
  obtain rfl := Option.some.inj h
  exact SpecX.of_spec (BVaried_spec g st)
def gName (st : I)  : Option (List UInt8 × I) := some ((bname st).1, (bname st).2)
theorem gName_spec (g : Nat) (st : I)  (r : List UInt8 × I) (h : gName st  = some r) : SpecX Try.prog 112 #[.pointer (some ⟨g, 0, none⟩)] .triv (InR g st) (fun v A' N => v = .string (bsOf r.1) ∧ A' = InR g r.2 ∧ N = []) := by
  unfold gName at h
  obtain rfl := Option.some.inj h
  exact SpecX.of_spec (BName_spec g st)
end Go.Proofs.Ytahjmpipllajcaa.Sl
namespace Go.Proofs.Ytahjmpipllajcaa.Sl
open Go.RowKit
set_option linter.unusedVariables false
section
variable {P : Program} {n : Nat} {F0 : Nat → Prop} {w0 : World} {e e' : Env} {Rs Rs' : List Res} {Q : Exit → Act → World → Prop} {c : Code} {d : Nat} {v v' : Value}
def JK (n : Nat) (F0 : Nat → Prop) (w0 : World) (R : Env → List Res → Prop) (a : Act) (w : World) : Prop := ∃ e Rs, R e Rs ∧ Has n e a ∧ St F0 w0 Rs w
theorem T.jq (R : Env → List Res → Prop) (h : T P n F0 w0 e Rs c (Exit.then (JK n F0 w0 R) Q)) (k : ∀ e' Rs', R e' Rs' → X n F0 w0 e' Rs' .normal Q) : T P n F0 w0 e Rs c Q := by
  intro a w ha hs
  refine wp_mono (h a w ha hs) ?_
  intro x a' w' hx
  cases x <;> first | exact hx | skip
  obtain ⟨e', Rs', hR, ha', hs'⟩ := hx
  exact k e' Rs' hR a' w' ha' hs'
theorem X.jq {R : Env → List Res → Prop} (is : List Nat) (hR : R e' Rs') (he : Sub e' e) (hr : Sel Rs is Rs') : X n F0 w0 e Rs .normal (Exit.then (JK n F0 w0 R) Q) := fun a w ha hs => ⟨e', Rs', hR, ha.sub he.get, hs.sel is hr⟩
theorem X.as {z : Exit} (hv : e.get d = some v) (h : v = v') (k : X n F0 w0 ((d, v') :: e) Rs z Q) : X n F0 w0 e Rs z Q := fun a w ha hs => k a w (ha.as hv h) hs
end
end Go.Proofs.Ytahjmpipllajcaa.Sl
namespace Go.Proofs.Ytahjmpipllajcaa.Sl
open Go.RowKit
set_option linter.unusedVariables false
set_option linter.unusedSimpArgs false
section
variable {P : Program} {n : Nat} {F0 : Nat → Prop} {w0 : World} {e : Env} {Rs : List Res} {S : World → Prop} {d : Option Tmp} {ty : TypeId} {pos : String} {af : Array Edge} {gd : Option (Nat × Bool)} {v : Value} {x y ix : Operand} {t t' el : TypeId}
theorem Ex.ixP {g o m z k : Nat} {i : Int} {q : IntKind} (hx : e.ev x = some (.pointer (some ⟨g, o, none⟩))) (hi : e.ev ix = some (.int q i)) (hik : i = (k : Int)) (hu : ∀ w, (underlying t).run P w = .ok (.array m el) w) (hz : ∀ w, (sizeOf el).run P w = .ok z w) (hk : k < m) :
    Ex P n e S ⟨d, .indexAddr t x ix, ty, pos, af, gd⟩ (.pointer (some ⟨g, o + k * z, none⟩)) := by
  intro a w ha _
  subst hik
  have h1 : (0 : Int) ≤ (k : Int) ∧ (k : Int) < (m : Int) := by omega
  have h2 : (⟨g, o, none⟩ : Addr).add (k * z) = ⟨g, o + k * z, none⟩ := by unfold Addr.add; split <;> simp_all
  have h3 : (Instr.indexAt t (.pointer (some ⟨g, o, none⟩)) (.int q (k : Int))).run P w = .ok (.pointer (some ⟨g, o + k * z, none⟩)) w := by
    simp only [Instr.indexAt, asIntOf, Sem.run_bind, Sem.run_pure, Result.andThen_ok, hu, Instr.sureAddr]
    rw [if_pos h1]
    simp only [Sem.run_bind, hz, Result.andThen_ok, Int.toNat_natCast, h2, Sem.run_pure]
  simp [execOp, ha.ev hx, ha.ev hi, h3]
theorem Ex.ixL {g o m c z k : Nat} {i : Int} {q : IntKind} (hx : e.ev x = some (.slice (some ⟨g, o, none⟩) m c)) (hi : e.ev ix = some (.int q i)) (hik : i = (k : Int)) (hu : ∀ w, (underlying t).run P w = .ok (.slice el) w) (hz : ∀ w, (sizeOf el).run P w = .ok z w) (hk : k < m) {r : Nat} (hr : o + k * z = r) :
    Ex P n e S ⟨d, .indexAddr t x ix, ty, pos, af, gd⟩ (.pointer (some ⟨g, r, none⟩)) := by
  subst hr
  exact Ex.ixS hx hi hik hu hz hk
end
end Go.Proofs.Ytahjmpipllajcaa.Sl
namespace Go.Proofs.Ytahjmpipllajcaa.Sl
open Go.RowKit Go.Deep Go.ChangeShapes
set_option linter.unusedVariables false
set_option linter.unusedSimpArgs false
def oldRd {α : Type} (w0 : World) (S : Nat → Prop) (E : Rd α) : Rd α where
  P := fun w G cs x => ∀ W : World, (∀ k, G k → W.heap[k]? = w.heap[k]?) → (∀ k, S k → W.heap[k]? = w0.heap[k]?) → E.P W (fun k => G k ∨ S k) cs x
  mono := fun h hS W h1 h2 => E.mono (h W (fun k hk => h1 k (hS k hk)) h2) (fun k hk => hk.imp (hS k) id)
  move := fun h hm W h1 h2 => h W (fun k hk => (h1 k hk).trans (hm k hk)) h2
def RX.old (w0 : World) (S : Nat → Prop) (X : RX) : RX where
  P := fun w G => ∀ W : World, (∀ k, G k → W.heap[k]? = w.heap[k]?) → (∀ k, S k → W.heap[k]? = w0.heap[k]?) → X.P W (fun k => G k ∨ S k)
  mono := fun h hS W h1 h2 => X.mono (h W (fun k hk => h1 k (hS k hk)) h2) (fun k hk => hk.imp (hS k) id)
  move := fun h hm W h1 h2 => h W (fun k hk => (h1 k hk).trans (hm k hk)) h2
section
variable {α : Type} {w0 w w1 : World} {S G F : Nat → Prop} {E : Rd α} {cs : List Value} {x : α} {X Y : RX} {size : Nat}
theorem RX.takeS {A : Option Addr} {n c k : Nat} {l : List α} (h : (RX.of (sliceRd size E) [.slice A n c] l).P w S) (hk : k ≤ l.length) : (RX.of (sliceRd size E) [.slice A (l.take k).length c] (l.take k)).P w S := by
  rcases h with ⟨h, rfl⟩ | ⟨a, cap, h, h1, h2, hb, h3⟩
  · injection h with h
    injection h with e1 e2 e3
    subst e1 e3
    have : k = 0 := by simpa using hk
    subst this
    exact .inl ⟨rfl, rfl⟩
  · injection h with h
    injection h with e1 e2 e3
    subst e1 e3
    have hl : (l.take k).length = k := by rw [List.length_take]; omega
    refine .inr ⟨a, c, rfl, by omega, h2, fun h => hb (by omega), fun i x hx => ?_⟩
    rw [List.getElem?_take] at hx
    split at hx
    · exact h3 i x hx
    · exact nomatch hx
end
structure RO where
  α : Type
  E : Rd α
  cs : List Value
  x : α
def RO.res (w0 : World) (S : Nat → Prop) (o : RO) : Res := RdR (oldRd w0 S o.E) o.cs o.x
section
variable {P : Program} {n : Nat} {F0 : Nat → Prop} {w0 w : World} {S : Nat → Prop} {e : Env} {Rs Rs' Rf Bs : List Res} {L : List RO} {B : Res} {Xr Y : RX}
theorem Sep.split : ∀ {Bs Rs : List Res} {w : World} {F : Nat → Prop}, Sep (Bs ++ Rs) w F → ∃ G, Sep Bs w G ∧ (∀ k, G k → F k) ∧ (∀ k, G k → k < w.heap.size) ∧ Sep Rs w (fun k => F k ∧ ¬ G k)
  | [], Rs, w, F, h => ⟨fun _ => False, trivial, fun _ h => h.elim, fun _ h => h.elim, h.mono (fun k hk => ⟨hk, fun h => h⟩)⟩
  | B :: Bs, Rs, w, F, ⟨G1, h1, h2, h3⟩ => by
    obtain ⟨G, k1, k2, k3, k4⟩ := Sep.split h3
    refine ⟨fun k => G1 k ∨ G k, ⟨G1, h1, fun k hk => .inl hk, k1.mono (fun k hk => ⟨.inr hk, (k2 k hk).2⟩)⟩, fun k hk => hk.elim (h2 k) (fun h => (k2 k h).1), fun k hk => hk.elim (B.lt h1 k) (k3 k), k4.mono (fun k hk => ⟨hk.1.1, fun h => h.elim hk.1.2 hk.2⟩)⟩
theorem Sep.each : ∀ {L : List RO} {w1 : World} {S1 F : Nat → Prop}, Sep (L.map (RO.res w1 S1)) w F → ∀ o, o ∈ L → ∃ G, (RdR (oldRd w1 S1 o.E) o.cs o.x).P w G ∧ ∀ k, G k → F k
  | a :: L, w1, S1, F, ⟨G, h1, h2, h3⟩, o, ho => by
    rcases List.mem_cons.1 ho with rfl | ho
    · exact ⟨G, h1, h2⟩
    · obtain ⟨G', k1, k2⟩ := Sep.each h3 o ho
      exact ⟨G', k1, fun k hk => (k2 k hk).1⟩
variable {d : Option Tmp} {ty : TypeId} {pos : String} {af : Array Edge} {gd : Option (Nat × Bool)} {R : Value → Res → List RO → Prop}
variable {Q : Exit → Act → World → Prop} {ops : Array Oper} {i dd : Nat} {cl : Call} {f : FuncId} {vs : List Value}
variable {α : Type} {E : Rd α} {size : Nat} {T : TypeId} {u : Value} {xs : List α}
end
end Go.Proofs.Ytahjmpipllajcaa.Sl
namespace Go.Proofs.Ytahjmpipllajcaa.Sl
open Go.RowKit
set_option linter.unusedVariables false
set_option linter.unusedSimpArgs false
section
variable {α : Type} {size : Nat} {E : Rd α} {w : World} {S : Nat → Prop}
theorem elems_set : ∀ {xs : List α} {cs new : List Value} {k : Nat} {x x' : α}, elems size E w S cs xs → xs[k]? = some x → new.length = size → E.P w S new x' → elems size E w S (cs.take (k * size) ++ new ++ cs.drop ((k + 1) * size)) (xs.set k x')
  | [], _, _, k, _, _, _, hk, _, _ => by simp at hk
  | y :: ys, cs, new, 0, x, x', ⟨h0, _, h2⟩, _, hn, hx => by
    rw [Nat.zero_mul, List.take_zero, List.nil_append, Nat.zero_add, Nat.one_mul]
    exact ⟨by rw [List.take_append_of_le_length (by omega), List.take_of_length_le (by omega)]; exact hn, by rw [List.take_append_of_le_length (by omega), List.take_of_length_le (by omega)]; exact hx,
      by rw [List.drop_append_of_le_length (by omega), List.drop_of_length_le (by omega)]; exact h2⟩
  | y :: ys, cs, new, k + 1, x, x', ⟨h0, h1, h2⟩, hk, hn, hx => by
    have hle : size ≤ cs.length := by rw [List.length_take] at h0; omega
    have ih := elems_set (k := k) (x := x) h2 (by simpa using hk) hn hx
    have hc : cs = cs.take size ++ cs.drop size := (List.take_append_drop size cs).symm
    have e0 : (cs.take size).length = size := h0
    have e1 : cs.take ((k + 1) * size) = cs.take size ++ (cs.drop size).take (k * size) := by
      conv => lhs; rw [hc]
      rw [List.take_append, e0, show (k + 1) * size - size = k * size by rw [Nat.add_mul]; omega, List.take_of_length_le (by rw [e0, Nat.add_mul]; omega)]
    have e2 : cs.drop ((k + 1 + 1) * size) = (cs.drop size).drop ((k + 1) * size) := by
      rw [List.drop_drop, show size + (k + 1) * size = (k + 1 + 1) * size by rw [Nat.add_mul (k + 1)]; omega]
    rw [e1, e2, List.append_assoc, List.append_assoc, ← List.append_assoc ((cs.drop size).take (k * size))]
    exact ⟨by rw [List.take_append_of_le_length (by omega), List.take_of_length_le (by omega)]; exact h0, by rw [List.take_append_of_le_length (by omega), List.take_of_length_le (by omega)]; exact h1,
      by rw [List.drop_append_of_le_length (by omega), List.drop_of_length_le (by omega), List.nil_append]; exact ih⟩
theorem OwnR.stored {T m c g o k off q : Nat} {G : Nat → Prop} {xs : List α} {x x' : α} {us : List Value} (h : (OwnR T size E (.slice (some ⟨g, o, none⟩) m c) xs).P w G) (hk : xs[k]? = some x) (hq : q = o + k * size + off) (hl : off + us.length ≤ size)
    (hE : ∀ w S cs, cs.length = size → E.P w S cs x → E.P w S (cs.take off ++ us ++ cs.drop (off + us.length)) x') :
    ∃ cur, w.heap[g]? = some (.cells cur T (0, 0)) ∧ q + us.length ≤ cur.size ∧ (∀ k, k = g → G k) ∧ (OwnR T size E (.slice (some ⟨g, o, none⟩) m c) (xs.set k x')).P (w.setRow g (cur.toList.take q ++ us ++ cur.toList.drop (q + us.length)).toArray) G := by
  obtain ⟨cells, S, ⟨hlen, hown⟩, h2, h3, h4, h5⟩ := h
  rcases hown with ⟨hv, _⟩ | ⟨g', cap, cur, hv, hb0, hg, hnc, hcm, hcs, htk⟩
  · cases hv
  injection hv with hv1 hv2 hv3
  injection hv1 with hv1
  injection hv1 with hv4 hv5
  subst hv4 hv5 hv2 hv3
  have hkl : k < xs.length := (List.getElem?_eq_some_iff.1 hk).1
  have hks : (k + 1) * size ≤ xs.length * size := Nat.mul_le_mul_right _ hkl
  have hcap : xs.length * size ≤ c * size := Nat.mul_le_mul_right _ hnc
  have hk1 : (k + 1) * size = k * size + size := by rw [Nat.add_mul, Nat.one_mul]
  have hfit : q + us.length ≤ cur.size := by rw [hcs]; omega
  refine ⟨cur, hg, hfit, fun k hk => by subst hk; exact (h5 _).2 (.inl rfl), ?_⟩
  obtain ⟨c1, c2⟩ := elems_get h2 hk
  have hgS : ¬ S g := h4 g rfl
  have hnew : ((cells.drop (k * size)).take size).take off ++ us ++ ((cells.drop (k * size)).take size).drop (off + us.length) = ((cells.drop (k * size)).take size).take off ++ us ++ ((cells.drop (k * size)).take size).drop (off + us.length) := rfl
  have hset := elems_set h2 hk (new := ((cells.drop (k * size)).take size).take off ++ us ++ ((cells.drop (k * size)).take size).drop (off + us.length)) (by simp only [List.length_append, List.length_take, List.length_drop] at c1 ⊢; omega) (hE w S _ c1 c2)
  have hset' : elems size E (w.setRow g (cur.toList.take q ++ us ++ cur.toList.drop (q + us.length)).toArray) S _ (xs.set k x') := elems_move hset (fun k hk => setRow_other w g k _ (fun e => hgS (e ▸ hk)))
  refine ⟨_, S, ⟨?_, .inr ⟨g, c, _, by rw [List.length_set], hb0, setRow_heap w g cur _ T (0, 0) hg, by rw [List.length_set]; exact hnc, hcm, ?_, ?_⟩⟩, hset', fun k hk => by rw [size_setRow]; exact h3 k hk, h4, h5⟩
  · have := elems_length hset
    exact this
  · simp only [List.size_toArray, List.length_append, List.length_take, List.length_drop, Array.length_toList]
    omega
  · rw [List.length_set]
    have hcl : cur.toList.length = c * size := by simpa using hcs
    have hcells : cells.length = xs.length * size := hlen
    have d1 : (cells.drop (k * size)).take size = (cells.drop (k * size)).take size := rfl
    have hq2 : q + us.length ≤ xs.length * size := by omega
    have r1 : cells.take (k * size) ++ ((cells.drop (k * size)).take size).take off = cells.take q := by
      rw [List.take_take, Nat.min_eq_left (by omega), ← List.take_add, show k * size + off = q by omega]
    have r2 : ((cells.drop (k * size)).take size).drop (off + us.length) ++ cells.drop ((k + 1) * size) = cells.drop (q + us.length) := by
      have e1 : cells.drop ((k + 1) * size) = (cells.drop (k * size)).drop size := by rw [List.drop_drop, hk1]
      have e2 : cells.drop (q + us.length) = (cells.drop (k * size)).drop (off + us.length) := by rw [List.drop_drop, show k * size + (off + us.length) = q + us.length by omega]
      rw [e1, e2, ← List.drop_append_of_le_length (by omega), List.take_append_drop]
    have r3 : cells.take (k * size) ++ (((cells.drop (k * size)).take size).take off ++ us ++ ((cells.drop (k * size)).take size).drop (off + us.length)) ++ cells.drop ((k + 1) * size) = cells.take q ++ us ++ cells.drop (q + us.length) := by
      rw [← r1, ← r2]
      simp only [List.append_assoc]
    rw [r3, ← htk, List.drop_take, List.take_take, Nat.min_eq_left (by omega)]
    have l1 : (cur.toList.take q ++ us).length = q + us.length := by rw [List.length_append, List.length_take]; omega
    rw [List.toList_toArray, List.take_append, l1, List.take_of_length_le (by omega)]
end
section
variable {P : Program} {n : Nat} {F0 : Nat → Prop} {w0 : World} {e : Env} {Rs Rf : List Res} {Q : Exit → Act → World → Prop} {ops : Array Oper} {d : Option Tmp} {i : Nat} {ty t t' el : TypeId} {pos : String} {af : Array Edge} {gd : Option (Nat × Bool)} {v v' : Value} {x y : Operand} {l : List Nat} {lo : Sch} {c : Code} {S : World → Prop}
section
variable {α : Type} {E : Rd α} {T m cp size g o k off q z : Nat} {xs : List α} {u u' : α}
end
section
variable {α : Type} {E : Rd α} {T bytes k : Nat} {zv : Value} {u : α} {m : Int} {kl : IntKind} {d' : Nat}
end
def bitOp : BinOp → Bool
  | .and | .or | .xor | .andNot => true
  | _ => false
theorem Ex.bitw {bo : BinOp} {k : IntKind} {p q : Int} (hb : bitOp bo = true) (hx : e.ev x = some (.int k p)) (hy : e.ev y = some (.int k q)) : Ex P n e S ⟨d, .binOp bo t x y t', ty, pos, af, gd⟩ (.int k (Go.bits bo k p q)) := by
  intro a w ha _
  have h1 : Op.intBits bo k p q = pure (.int k (Go.bits bo k p q)) := by cases bo <;> first | rfl | exact absurd hb (by decide)
  have h2 : (binOp bo t (.int k p) (.int k q)).run P w = .ok (.int k (Go.bits bo k p q)) w := by
    cases bo <;> first | exact absurd hb (by decide) | simp only [binOp, h1, ne_eq, not_true, if_false, Sem.run_pure]
  have h3 : eqGuard bo t x y (.int k p) (.int k q) = pure () := by cases bo <;> first | exact absurd hb (by decide) | rfl
  simp only [execOp, ha.ev hx, ha.ev hy, h3, Sem.run_bind, Sem.run_pure, Result.andThen_ok, h2]
def shrK (k : IntKind) (p q : Int) : Int := p.fdiv (2 ^ min q.toNat k.bits)
theorem Ex.shr {k k' : IntKind} {p q : Int} (hx : e.ev x = some (.int k p)) (hy : e.ev y = some (.int k' q)) (hq : 0 ≤ q) : Ex P n e S ⟨d, .binOp .shr t x y t', ty, pos, af, gd⟩ (.int k (shrK k p q)) := by
  intro a w ha _
  have h0 : ¬ q < 0 := by omega
  simp [execOp, ha.ev hx, ha.ev hy, eqGuard, binOp, Op.shift, h0, shrK]
theorem Ex.notK {k : IntKind} {p : Int} (hx : e.ev x = some (.int k p)) : Ex P n e S ⟨d, .unOp .xor t x, ty, pos, af, gd⟩ (.int k (Go.bits .xor k (if k.signed then -1 else k.max) p)) := by
  intro a w ha _
  have h1 : Op.intBits .xor k (if k.signed then -1 else k.max) p = pure (.int k (Go.bits .xor k (if k.signed then -1 else k.max) p)) := rfl
  simp [execOp, ha.ev hx, Op.unary, h1]
theorem T.blen {α : Type} {E : Rd α} {A : Option Addr} {m cp size : Nat} {xs : List α} {B : Res} (i : Nat) (hi : Rs[i]? = some B) (hB : ∀ w G, B.P w G → (RX.of (sliceRd size E) [.slice A m cp] xs).P w G) (h : xs.length ≤ 9223372036854775807 → T P n F0 w0 e Rs c Q) : T P n F0 w0 e Rs c Q := by
  intro a w ha hs
  refine h ?_ a w ha hs
  obtain ⟨G, hG, _⟩ := hs.get i hi
  rcases hB w G hG with ⟨_, rfl⟩ | ⟨_, cap, _, h1, h2, _⟩
  · simp
  · have : maxLen = 9223372036854775807 := rfl
    omega
end
end Go.Proofs.Ytahjmpipllajcaa.Sl
namespace Go.Proofs.Ytahjmpipllajcaa.Sl
open Go.RowKit
set_option linter.unusedVariables false
set_option linter.unusedSimpArgs false
def tabC (l : List Int) : Array Value := (l.map (Value.int .u32)).toArray
def TabR (T g : Nat) (l : List Int) : Res where
  P := fun w G => (BlkR g T (tabC l)).P w G ∧ l.length = 256
  lt := fun h => (BlkR g T (tabC l)).lt h.1
  move := fun h hm => ⟨(BlkR g T (tabC l)).move h.1 hm, h.2⟩
theorem tabC_get {l : List Int} {k : Nat} {u : Int} (h : l[k]? = some u) : (tabC l)[k]? = some (.int .u32 u) := by
  unfold tabC
  simp [h]
section
variable {P : Program} {n : Nat} {F0 : Nat → Prop} {w0 w : World} {e : Env} {Rs Rf : List Res} {Q : Exit → Act → World → Prop} {ops : Array Oper} {d : Option Tmp} {i : Nat} {ty t t' el : TypeId} {pos : String} {af : Array Edge} {gd : Option (Nat × Bool)} {v v' : Value} {x y ix : Operand} {L : List Nat} {lo : Sch} {c : Code} {S : World → Prop}
variable {T g k : Nat} {l : List Int} {u u' : Int}
theorem tab_len (j : Nat) (h : St F0 w0 Rs w) (hj : Rs[j]? = some (TabR T g l)) : l.length = 256 := by
  obtain ⟨G, hG, _⟩ := h.get j hj
  exact hG.2
theorem tab_blk (j : Nat) (h : St F0 w0 Rs w) (hj : Rs[j]? = some (TabR T g l)) : w.heap[g]? = some (.cells (tabC l) T (0, 0)) := by
  obtain ⟨G, hG, _⟩ := h.get j hj
  exact hG.1.1
theorem Ex.tIx (j : Nat) {a : Int} {q : IntKind} (hx : e.ev x = some (.pointer (some ⟨g, 0, none⟩))) (hi : e.ev ix = some (.int q a)) (hik : a = (k : Int)) (hu : ∀ w, (underlying t).run P w = .ok (.array 256 el) w) (hz : ∀ w, (sizeOf el).run P w = .ok 1 w) (hj : Rs[j]? = some (TabR T g l)) (hk : l[k]? = some u) :
    Ex P n e (St F0 w0 Rs) ⟨d, .indexAddr t x ix, ty, pos, af, gd⟩ (.pointer (some ⟨g, k, none⟩)) := by
  intro A w ha hs
  have h1 := tab_len j hs hj
  have h2 : k < 256 := by rw [← h1]; exact (List.getElem?_eq_some_iff.1 hk).1
  have h3 := Ex.ixP (S := fun _ => True) (d := d) (ty := ty) (pos := pos) (af := af) (gd := gd) hx hi hik hu hz h2 A w ha trivial
  rwa [show 0 + k * 1 = k by omega] at h3
theorem Ex.tLd (j : Nat) (hx : e.ev x = some (.pointer (some ⟨g, k, none⟩))) (ha : ∀ w, (isAgg t).run P w = .ok false w) (hj : Rs[j]? = some (TabR T g l)) (hk : l[k]? = some u) :
    Ex P n e (St F0 w0 Rs) ⟨d, .load t x, ty, pos, af, gd⟩ (.int .u32 u) :=
  Ex.ld1 hx ha (fun w hw => (heap_at (tab_blk j hw hj) k).trans (tabC_get hk))
theorem Ef.tSt (j : Nat) (hx : e.ev x = some (.pointer (some ⟨g, k, none⟩))) (hy : e.ev y = some (.int .u32 u')) (hz : ∀ w, (sizeOf t).run P w = .ok 1 w) (hj : Rs[j]? = some (TabR T g l)) (hk : l[k]? = some u) :
    Ef P n F0 w0 e Rs ⟨none, .store t x y, ty, pos, af, gd⟩ (fun e' Rs' => e' = e ∧ Rs' = Rs.set j (TabR T g (l.set k u'))) := by
  intro a w K Q ha hs hk'
  have hb := tab_blk j hs hj
  have hl := tab_len j hs hj
  have hkl : k < l.length := (List.getElem?_eq_some_iff.1 hk).1
  have hc : ((tabC l).toList.take k ++ [Value.int .u32 u'] ++ (tabC l).toList.drop (k + 1)).toArray = tabC (l.set k u') := by
    unfold tabC
    rw [List.map_set, List.set_eq_take_append_cons_drop, if_pos (by rw [List.length_map]; exact hkl)]
    simp
  have h2 := run_storeCells_at (P := P) g k T [Value.int .u32 u'] 0 (tabC l) w hb (by simp [tabC]; omega) (by simp [Value.oneCell'])
  simp only [Nat.add_zero, List.length_singleton] at h2
  rw [hc] at h2
  have h1 : (execOp a.eval ⟨none, .store t x y, ty, pos, af, gd⟩).run P w = .ok .skip (w.setRow g (tabC (l.set k u'))) := by
    simp [execOp, ha.ev hx, ha.ev hy, Instr.storeAt, Instr.sureAddr, storeVar, hz, Value.cells, h2]
  unfold Oper.wp
  rw [h1]
  refine hk' _ _ ⟨rfl, rfl⟩ _ _ ha.put0 (hs.step j hj (Ns := []) (fun G hG => ?_))
  exact ⟨⟨rfl, rfl, rfl, by simp [World.setRow], fun k hk hn => setRow_other w g k _ (fun e => hn (e ▸ (hG.1.2 g).2 rfl))⟩, G, ⟨⟨setRow_heap w g _ _ T (0, 0) hG.1.1, hG.1.2⟩, by rw [List.length_set]; exact hG.2⟩, fun k hk => .inl hk, trivial⟩
theorem TL.tSt (j : Nat) (ho : ops[i]? = some ⟨none, .store t x y, ty, pos, af, gd⟩) (hw : Wd n ops e ⟨none, .store t x y, ty, pos, af, gd⟩ true) (hx : e.ev x = some (.pointer (some ⟨g, k, none⟩))) (hy : e.ev y = some (.int .u32 u')) (hz : ∀ w, (sizeOf t).run P w = .ok 1 w) (hj : Rs[j]? = some (TabR T g l)) (hk : l[k]? = some u)
    (h : TL P n F0 w0 ops L e (Rs.set j (TabR T g (l.set k u'))) Q) : TL P n F0 w0 ops (i :: L) e Rs Q := by
  refine TL.ef ho hw (Ef.tSt j hx hy hz hj hk) ?_
  rintro _ _ ⟨rfl, rfl⟩
  exact h
theorem TD.tSt (j : Nat) (ho : ops[i]? = some ⟨none, .store t x y, ty, pos, af, gd⟩) (hw : Wd n ops e ⟨none, .store t x y, ty, pos, af, gd⟩ true) (hx : e.ev x = some (.pointer (some ⟨g, k, none⟩))) (hy : e.ev y = some (.int .u32 u')) (hz : ∀ w, (sizeOf t).run P w = .ok 1 w) (hj : Rs[j]? = some (TabR T g l)) (hk : l[k]? = some u)
    (is : List Nat) (hf : Sel (Rs.set j (TabR T g (l.set k u'))) is Rf)
    (h : TD P n F0 w0 ops lo Rf e (Rs.set j (TabR T g (l.set k u'))) Q) : TD P n F0 w0 ops (.e i lo) Rf e Rs Q := by
  refine TD.ef ho hw (Ef.tSt j hx hy hz hj hk) ?_
  rintro _ _ ⟨rfl, rfl⟩
  exact ⟨Rf, fun w hw => hw.sel is hf, fun _ h => h, h⟩
theorem Ex.bldZ {m : Nat} {zs : Array Value} (hz : ∀ w, (zeroValue t).run P w = .ok (.agg zs) w) (hu : ∀ w, (underlying t).run P w = .ok (.array m el) w) (hs : ∀ w, (sizeOf el).run P w = .ok 1 w) : Ex P n e S ⟨d, .build t #[], ty, pos, af, gd⟩ (.agg zs) := by
  intro a w ha _
  have h1 : (Instr.build t #[]).run P w = .ok (.agg zs) w := by
    simp only [Instr.build, Sem.run_bind, hz, hu, hs, Result.andThen_ok]
    rfl
  simp only [execOp, Sem.run_bind]
  simp [h1]
theorem TL.tNew {zs : Array Value} {d : Nat} (ho : ops[i]? = some ⟨some d, .box t x, ty, pos, af, gd⟩) (hw : Wd n ops e ⟨some d, .box t x, ty, pos, af, gd⟩ true) (hx : e.ev x = some (.agg zs)) (hzs : zs = tabC (List.replicate 256 0)) (hd : Nat.blt d n = true)
    (h : ∀ b, TL P n F0 w0 ops L ((d, .pointer (some ⟨b, 0, none⟩)) :: e) (TabR t b (List.replicate 256 0) :: Rs) Q) : TL P n F0 w0 ops (i :: L) e Rs Q := by
  refine TL.box ho hw hx hd (fun b => ?_)
  intro a w ha hs
  subst hzs
  exact h b a w ha (hs.weaken 0 rfl (fun G hG => ⟨hG, List.length_replicate ..⟩))
end
def LW (P : Program) (c : Code) (Q : Exit → Act → World → Prop) (a : Act) (w : World) : Prop := ∀ b k cs, ∃ x a' w', Q x a' w' ∧ Arrives P (lone (b.at a (.code c :: .inLoop c :: k)) cs w) b k cs x a' w'
def TW (P : Program) (n : Nat) (F0 : Nat → Prop) (w0 : World) (e : Env) (Rs : List Res) (c : Code) (Q : Exit → Act → World → Prop) : Prop := ∀ a w, Has n e a → St F0 w0 Rs w → LW P c Q a w
section
variable {P : Program} {n : Nat} {F0 : Nat → Prop} {w0 : World} {e : Env} {Rs : List Res} {Q : Exit → Act → World → Prop} {c : Code}
theorem T.unroll0 (h : TW P n F0 w0 e Rs c Q) : T P n F0 w0 e Rs (.loop c) Q := by
  intro a w ha hs b k cs
  obtain ⟨x, a', w', hq, harr⟩ := h a w ha hs b k cs
  exact ⟨x, a', w', hq, .of_steps (.one step_loop) harr⟩
theorem TW.step (h : T P n F0 w0 e Rs c (Exit.then (LW P c Q) Q)) : TW P n F0 w0 e Rs c Q := by
  intro a w ha hs b k cs
  obtain ⟨x, a₁, w₁, hq, harr⟩ := h a w ha hs b (.inLoop c :: k) cs
  cases x with
  | normal =>
    obtain ⟨x₂, a₂, w₂, hq₂, harr₂⟩ := hq b k cs
    exact ⟨x₂, a₂, w₂, hq₂, .of_steps (Steps.trans harr (.one step_inLoop)) harr₂⟩
  | exit id => exact ⟨_, a₁, w₁, hq, .pass (x := .inLoop c) rfl (fun _ _ => .inl (by simp)) harr⟩
  | goto l => exact ⟨_, a₁, w₁, hq, .pass (x := .inLoop c) rfl (fun _ _ => .inl (by simp)) harr⟩
  | ret => exact ⟨_, a₁, w₁, hq, .pass (x := .inLoop c) rfl (fun _ _ => .inl (by simp)) harr⟩
  | panic ch => exact ⟨_, a₁, w₁, hq, .pass (x := .inLoop c) rfl (fun _ _ => .inl (by simp)) harr⟩
  | outgrown => exact ⟨_, a₁, w₁, hq, .pass (x := .inLoop c) rfl (fun _ _ => .inl (by simp)) harr⟩
theorem X.un (h : TW P n F0 w0 e Rs c Q) : X n F0 w0 e Rs .normal (Exit.then (LW P c Q) Q) := h
end
end Go.Proofs.Ytahjmpipllajcaa.Sl
namespace Go.Proofs.Ytahjmpipllajcaa.Sl
open Go.RowKit
set_option linter.unusedVariables false
set_option linter.unusedSimpArgs false
def bsI (l : List UInt8) : List Int := l.map fun c => (c.toNat : Int)
theorem bsI_length (l : List UInt8) : (bsI l).length = l.length := by simp [bsI]
def BsR (T b c : Nat) (xs : List Int) : Res where
  P := fun w G => (∃ (cur : Array Value) (lo hi : Nat), w.heap[b]? = some (.cells cur T (lo, hi)) ∧ xs.length ≤ lo ∧ ∀ (j : Nat) (u : Int), xs[j]? = some u → cur[j]? = some (.int .u8 u)) ∧ ∀ k, G k ↔ k = b
  lt := by
    rintro w G ⟨⟨cur, lo, hi, h1, _⟩, h2⟩ k hk
    obtain rfl := (h2 k).1 hk
    exact (Array.getElem?_eq_some_iff.1 h1).1
  move := by
    rintro w w' G ⟨⟨cur, lo, hi, h1, h3⟩, h2⟩ hm
    exact ⟨⟨cur, lo, hi, by rw [hm b ((h2 b).2 rfl)]; exact h1, h3⟩, h2⟩
section
variable {P : Program} {n : Nat} {F0 : Nat → Prop} {w0 w : World} {e : Env} {Rs Rf : List Res} {Q : Exit → Act → World → Prop} {ops : Array Oper} {d : Option Tmp} {i : Nat} {ty t t' el : TypeId} {pos : String} {af : Array Edge} {gd : Option (Nat × Bool)} {v v' : Value} {x y ix : Operand} {L : List Nat} {lo : Sch} {S : World → Prop}
variable {T b c k m : Nat} {xs : List Int} {u u' : Int}
theorem Ef.toBs {l : List UInt8} {el : TypeId} (hx : e.ev x = some (.string (bsOf l))) (hs : P.underlying t = some .string) (hd : P.underlying t' = some (.slice el)) (he : P.underlying el = some (.int .u8)) (hdd : okd d n = true) :
    Ef P n F0 w0 e Rs ⟨d, .convert t t' x, ty, pos, af, gd⟩ (fun e' Rs' => ∃ b c, e' = envput d (.slice (some ⟨b, 0, none⟩) (bsI l).length c) e ∧ Rs' = BsR el b c (bsI l) :: Rs) := by
  intro a w K Q ha hst hk
  have h1 := Lib.run_convert_string_bytes (P := P) w t t' el (bsOf l) hs hd he
  have h2 : (execOp a.eval ⟨d, .convert t t' x, ty, pos, af, gd⟩).run P w = .ok (.value (.slice (some ⟨w.heap.size, 0, none⟩) (bsI l).length (grownCap w (bsOf l).size 0 el))) (Lib.bytesWorld w el (bsOf l)) := by
    rw [bsI_length, ← bsOf_size l]
    simp [execOp, ha.ev hx, h1]
  unfold Oper.wp
  rw [h2]
  refine hk _ _ ⟨_, _, rfl, rfl⟩ _ _ (ha.putd hdd) ?_
  refine hst.grow (Ns := [BsR el w.heap.size (grownCap w (bsOf l).size 0 el) (bsI l)]) ⟨rfl, rfl, rfl, ?_, fun q hq _ => Lib.bytesWorld_at_old w el (bsOf l) q hq⟩ ⟨fun k => k = w.heap.size, ⟨⟨_, _, _, Lib.bytesWorld_at_new w el (bsOf l), ?_, fun j z hj => ?_⟩, fun _ => Iff.rfl⟩, fun k hk => by omega, trivial⟩
  · rw [Lib.bytesWorld_size]; omega
  · rw [bsI_length]
    simp [Lib.bytesCells, bsOf]
  · have hlt : j < l.length := by rw [← bsI_length l]; exact (List.getElem?_eq_some_iff.1 hj).1
    unfold bsI at hj
    rw [List.getElem?_map, List.getElem?_eq_getElem hlt] at hj
    injection hj with hj
    simp [Lib.bytesCells, bsOf, Array.getElem?_append, hlt, ← hj]
theorem TL.toBs {l : List UInt8} {el : TypeId} {d : Nat} (ho : ops[i]? = some ⟨some d, .convert t t' x, ty, pos, af, gd⟩) (hw : Wd n ops e ⟨some d, .convert t t' x, ty, pos, af, gd⟩ true) (hx : e.ev x = some (.string (bsOf l))) (hs : P.underlying t = some .string) (hd : P.underlying t' = some (.slice el)) (he : P.underlying el = some (.int .u8)) (hdd : Nat.blt d n = true)
    (h : ∀ b c, TL P n F0 w0 ops L ((d, .slice (some ⟨b, 0, none⟩) (bsI l).length c) :: e) (BsR el b c (bsI l) :: Rs) Q) : TL P n F0 w0 ops (i :: L) e Rs Q := by
  refine TL.ef ho hw (Ef.toBs hx hs hd he hdd) ?_
  rintro _ _ ⟨b, c, rfl, rfl⟩
  exact h b c
end
end Go.Proofs.Ytahjmpipllajcaa.Sl
namespace Go.Proofs.Ytahjmpipllajcaa.Sl
open Go.RowKit
set_option linter.unusedVariables false
set_option linter.unusedSimpArgs false
section
variable {α : Type} {size : Nat} {E : Rd α} {w : World} {S : Nat → Prop}
theorem OwnR.openN {F0 : Nat → Prop} {w0 : World} {Rs : List Res} {T : TypeId} {v : Value} {xs : List α} (i : Nat) (h : St F0 w0 Rs w) (hi : Rs[i]? = some (OwnR T size E v xs)) :
    ∃ cells, w.ownsRow 0 T size v xs.length cells ∧ ∀ v1 w1 news l, w1.ownsRow 0 T size v1 (xs.length + l.length) (cells ++ news) → w.grownBy w1 v.ownBlock → (v1.ownBlock = v.ownBlock ∨ ∃ k, v1.ownBlock = some k ∧ w.heap.size ≤ k) →
      (∀ w S cs, elems size E w S cs xs → elems size E w S (cs ++ news) (xs ++ l)) → St F0 w0 (Rs.set i (OwnR T size E v1 (xs ++ l))) w1 := by
  obtain ⟨f, hs⟩ := h
  obtain ⟨G, ⟨cells, S, h1, h2, h3, h4, h5⟩, hG, hr⟩ := Sep.pick i hi hs
  refine ⟨cells, h1, fun v1 w1 news l ho hg hat hl => ?_⟩
  have hne : ∀ k, S k → k < w.heap.size ∧ some k ≠ v.ownBlock := fun k hk => ⟨h3 k hk, fun e => h4 k e.symm hk⟩
  have hS1 : elems size E w1 S cells xs := elems_move h2 (fun k hk => hg.block k (hne k hk).1 (hne k hk).2)
  have hle := hg.size
  have f2 : Fr G w w1 := Fr.of_grown hg (fun k hk => (h5 k).2 (.inl hk))
  refine ⟨f.trans f2 hG, ?_⟩
  have hfs := f.size
  have hR : Sep (Rs.eraseIdx i) w1 (fun k => ((F0 k ∨ w0.heap.size ≤ k) ∧ ¬ G k) ∧ k < w.heap.size) := hr.inside.move (fun k hk _ => f2.block k hk.2 hk.1.2)
  refine Sep.back (G := fun k => v1.ownBlock = some k ∨ S k) i hi ⟨cells ++ news, S, ?_, hl _ _ _ hS1, fun k hk => Nat.lt_of_lt_of_le (h3 k hk) hle, ?_, fun _ => Iff.rfl⟩ ?_ (hR.mono (fun k hk => ⟨hk.1.1, ?_⟩))
  · rw [List.length_append]; exact ho
  · intro k hk
    rcases hat with e | ⟨k', e, hk'⟩
    · rw [e] at hk; exact h4 k hk
    · rw [e] at hk
      injection hk with hk
      subst hk
      intro hs'
      have := h3 _ hs'
      omega
  · rintro k (hk | hk)
    · rcases hat with e | ⟨k', e, hk'⟩
      · rw [e] at hk; exact hG k ((h5 k).2 (.inl hk))
      · rw [e] at hk
        injection hk with hk
        subst hk
        exact .inr (by omega)
    · exact hG k ((h5 k).2 (.inr hk))
  · rintro (h6 | h6)
    · rcases hat with e | ⟨k', e, hk'⟩
      · rw [e] at h6; exact hk.1.2 ((h5 k).2 (.inl h6))
      · rw [e] at h6
        injection h6 with h6
        subst h6
        have := hk.2
        omega
    · exact hk.1.2 ((h5 k).2 (.inr h6))
end
section
variable {P : Program} {n : Nat} {F0 : Nat → Prop} {w0 : World} {e : Env} {Rs Rf : List Res} {Q : Exit → Act → World → Prop} {ops : Array Oper} {d : Option Tmp} {i : Nat} {ty t : TypeId} {pos : String} {af : Array Edge} {gd : Option (Nat × Bool)} {sl x : Operand} {L : List Nat} {lo : Sch}
variable {α : Type} {E : Rd α} {cf : α → List Value} {T z bytes : Nat} {zv : Value} {A A2 : Option Addr} {c c2 : Nat} {l l2 : List α}
end
end Go.Proofs.Ytahjmpipllajcaa.Sl
namespace Go.Proofs.Ytahjmpipllajcaa.Sl
open Go.RowKit
set_option linter.unusedVariables false
set_option linter.unusedSimpArgs false
section
variable {P : Program} {n : Nat} {F0 : Nat → Prop} {w0 : World} {e : Env} {Rs Rf : List Res} {Q : Exit → Act → World → Prop} {ops : Array Oper} {i : Nat} {ty t : TypeId} {pos : String} {af : Array Edge} {gd : Option (Nat × Bool)} {x y : Operand} {L : List Nat} {lo : Sch} {b : Nat} {s : List UInt8 × Int}
theorem Ef.outZ (j : Nat) (hx : e.ev x = some (.pointer (some ⟨b, 0, none⟩))) (hy : e.ev y = some (.agg #[.slice none 0 0, .int .i64 0])) (hz : ∀ w, (sizeOf t).run P w = .ok 2 w) (hj : Rs[j]? = some (OutR b s)) :
    Ef P n F0 w0 e Rs ⟨none, .store t x y, ty, pos, af, gd⟩ (fun e' Rs' => e' = e ∧ Rs' = Rs.set j (OutR b ([], 0))) := by
  intro a w K Q ha hs hk
  obtain ⟨G, ⟨v, h1, _, _⟩, _⟩ := hs.get j hj
  have h2 := run_storeCells_at (P := P) b 0 100 [Value.slice none 0 0, .int .i64 0] 0 _ w h1 (by simp) (by intro v hv; simp at hv; rcases hv with rfl | rfl <;> rfl)
  have h3 : (execOp a.eval ⟨none, .store t x y, ty, pos, af, gd⟩).run P w = .ok .skip (w.setRow b #[.slice none 0 0, .int .i64 0]) := by
    simp at h2
    simp [execOp, ha.ev hx, ha.ev hy, Instr.storeAt, Instr.sureAddr, storeVar, hz, Value.cells, h2]
  unfold Oper.wp
  rw [h3]
  refine hk _ _ ⟨rfl, rfl⟩ _ _ ha.put0 (hs.step j hj (Ns := []) (fun G hG => ?_))
  obtain ⟨v', k1, k2, k3⟩ := hG
  refine ⟨⟨rfl, rfl, rfl, by simp [World.setRow], fun q hq hn => setRow_other w b q _ (fun e => hn (e ▸ (k3 b).2 (.inl rfl)))⟩, fun q => q = b, ⟨_, setRow_heap w b _ _ _ (0, 0) k1, World.ownsRow_nil _ _ _ _, fun q => by simp [Value.ownBlock]⟩, fun q hq => .inl ((k3 q).2 (.inl hq)), trivial⟩
theorem TL.outZ (j : Nat) (ho : ops[i]? = some ⟨none, .store t x y, ty, pos, af, gd⟩) (hw : Wd n ops e ⟨none, .store t x y, ty, pos, af, gd⟩ true) (hx : e.ev x = some (.pointer (some ⟨b, 0, none⟩))) (hy : e.ev y = some (.agg #[.slice none 0 0, .int .i64 0])) (hz : ∀ w, (sizeOf t).run P w = .ok 2 w) (hj : Rs[j]? = some (OutR b s))
    (h : TL P n F0 w0 ops L e (Rs.set j (OutR b ([], 0))) Q) : TL P n F0 w0 ops (i :: L) e Rs Q := by
  refine TL.ef ho hw (Ef.outZ j hx hy hz hj) ?_
  rintro _ _ ⟨rfl, rfl⟩
  exact h
theorem TD.outZ (j : Nat) (ho : ops[i]? = some ⟨none, .store t x y, ty, pos, af, gd⟩) (hw : Wd n ops e ⟨none, .store t x y, ty, pos, af, gd⟩ true) (hx : e.ev x = some (.pointer (some ⟨b, 0, none⟩))) (hy : e.ev y = some (.agg #[.slice none 0 0, .int .i64 0])) (hz : ∀ w, (sizeOf t).run P w = .ok 2 w) (hj : Rs[j]? = some (OutR b s))
    (is : List Nat) (hf : Sel (Rs.set j (OutR b ([], 0))) is Rf) (h : TD P n F0 w0 ops lo Rf e (Rs.set j (OutR b ([], 0))) Q) : TD P n F0 w0 ops (.e i lo) Rf e Rs Q := by
  refine TD.ef ho hw (Ef.outZ j hx hy hz hj) ?_
  rintro _ _ ⟨rfl, rfl⟩
  exact ⟨Rf, fun w hw => hw.sel is hf, fun _ h => h, h⟩
end
end Go.Proofs.Ytahjmpipllajcaa.Sl
namespace Go.Proofs.Ytahjmpipllajcaa.Sl
open Go.RowKit
set_option linter.unusedVariables false
set_option linter.unusedSimpArgs false
def BldR (b : Nat) (l : List UInt8) : Res where
  P := fun w G => ∃ p v, (p = .pointer none ∨ p = .pointer (some ⟨b, 0, none⟩)) ∧ w.heap[b]? = some (.cells #[p, v] 72 (0, 0)) ∧ w.ownsRow 0 5 1 v l.length (byteCells l) ∧ ∀ k, G k ↔ k = b ∨ v.ownBlock = some k
  lt := by
    rintro w G ⟨p, v, _, h1, h2, h3⟩ k hk
    rcases (h3 k).1 hk with rfl | h
    · exact heap_lt h1
    · exact row_lt h2 k h
  move := by
    rintro w w' G ⟨p, v, hp, h1, h2, h3⟩ hm
    exact ⟨p, v, hp, (hm _ ((h3 _).2 (.inl rfl))).trans h1, row_move h2 (fun k hk => hm k ((h3 k).2 (.inr hk))), h3⟩
theorem BldR.new {F0 : Nat → Prop} {w0 w : World} {Rs : List Res} (h : St F0 w0 Rs w) : St F0 w0 (BldR w.heap.size [] :: Rs) (w.alloc (.cells #[.pointer none, .slice none 0 0] 72)) := by
  refine (h.alloc #[.pointer none, .slice none 0 0] 72).weaken 0 rfl (A' := BldR w.heap.size []) ?_
  rintro G ⟨h1, h2⟩
  exact ⟨_, _, .inl rfl, h1, World.ownsRow_nil _ _ _ _, fun k => by simp [h2 k, Value.ownBlock]⟩
theorem fr_freeze {F : Nat → Prop} {w w' : World} (h : Fr F w w') {p : Addr} (hp : F p.block) (n : Nat) : Fr F w (w'.freeze p n) := by
  refine h.trans (G := F) ?_ (fun _ h => .inl h)
  unfold World.freeze
  split
  · exact Fr.refl _ _
  · exact ⟨rfl, rfl, rfl, by simp, fun k hk hn => by
      simp only [Array.getElem?_modify]
      rw [if_neg (fun h : p.block = k => hn (by rw [← h]; exact hp))]⟩
theorem bld_size : (Try.prog.info? 72).map (·.size) = some 2 := by kernel_rfl
theorem bld_lies : liesAt Try.prog Try.prog.depth 72 (2 / Try.prog.cellsOf 72) 0 72 1 = true := by kernel_rfl
theorem bld_shape {w : World} {b : Nat} {p v : Value} (hb : w.heap[b]? = some (.cells #[p, v] 72 (0, 0))) : w.shape? b = some (72, 2) := by simp [World.shape?, hb]
set_option maxRecDepth 100000 in
set_option maxHeartbeats 1000000 in
theorem bld_check (b : Nat) (w : World) (p v : Value) (hp : p = .pointer none ∨ p = .pointer (some ⟨b, 0, none⟩)) (hb : w.heap[b]? = some (.cells #[p, v] 72 (0, 0))) :
    Calls Try.prog 59 #[.pointer (some ⟨b, 0, none⟩)] w fun e w' => e = .returned (.tuple #[]) ∧ w'.heap[b]? = some (.cells #[.pointer (some ⟨b, 0, none⟩), v] 72 (0, 0)) ∧ Fr (fun k => k = b) w w' := by
  obtain ⟨j, hj, hjs⟩ := Option.map_eq_some_iff.1 bld_size
  have h0 : w.cell? ⟨b, 0, none⟩ = some p := (heap_at hb 0).trans rfl
  have f0 : w.frozen? ⟨b, 0, none⟩ = false := heap_free hb 0
  have hsh := bld_shape hb
  have HB := Lib.hid hb
  clear hb
  rcases hp with rfl | rfl
  · go_enter Try.func59, Try.ntmps59
    go_wp2
    rw [Lib.run_to_unsafe w ⟨b, 0, none⟩ Try.underlying70 Try.underlying151 hj (by rw [hjs]; decide) hsh (Nat.zero_lt_succ 1)]
    simp only [Result.andThen]
    rw [Oper.upon_value]
    go_wp2
    rw [run_callFunc_extern Try.func87 (by kernel_rfl) (by kernel_rfl) (by kernel_rfl) (e := Extern.AbiNoEscape.same) (by kernel_rfl)]
    rw [Lib.run_noEscape]
    simp only [Result.andThen]
    rw [Oper.upon_value]
    go_wp2
    rw [Lib.run_from_unsafe w ⟨b, 0, none⟩ Try.underlying151 Try.underlying70 hj hsh bld_lies]
    simp only [Result.andThen]
    rw [Oper.upon_value]
    go_wp2
    go_end0
    exact ⟨rfl, by simpa using heap_set HB.out 0 (.pointer (some ⟨b, 0, none⟩)), (Fr.refl (fun k => k = b) w).set (p := ⟨b, 0, none⟩) (.inl rfl) _⟩
  · go_enter Try.func59, Try.ntmps59
    go_wp2
    rw [Lib.run_neq_ptr_same w _ Try.underlying70 hj]
    go_wp2
    go_end0
    exact ⟨rfl, HB.out, Fr.refl _ _⟩
theorem BldR.stored {b : Nat} {l m : List UInt8} {w w1 w2 : World} {v v1 : Value} {F : Nat → Prop} (hw : Fr (fun k => k = b) w w1) (hF : ∀ k, F k ↔ k = b ∨ v.ownBlock = some k) (hb : w1.heap[b]? = some (.cells #[.pointer (some ⟨b, 0, none⟩), v] 72 (0, 0))) (ho : w1.ownsRow 0 5 1 v l.length (byteCells l))
    {n : Nat} (ho1 : w2.ownsRow 0 5 1 v1 n (byteCells m)) (hg : w1.grownBy w2 v.ownBlock) (hat : v1.ownBlock = v.ownBlock ∨ ∃ k, v1.ownBlock = some k ∧ w1.heap.size ≤ k) (hlt : b < w.heap.size) :
    St F w [BldR b m] (w2.setCell ⟨b, 1, none⟩ v1) := by
  have hn : n = m.length := by have := ho1.1; simpa [byteCells] using this.symm
  subst hn
  have hne := row_ne ho hb (by decide)
  have hb1 : w2.heap[b]? = some (.cells #[.pointer (some ⟨b, 0, none⟩), v] 72 (0, 0)) := (hg.block b (heap_lt hb) hne).trans hb
  have hne1 := row_ne ho1 hb1 (by decide)
  have f1 : Fr F w w1 := hw.mono (fun k hk => (hF k).2 (.inl hk))
  have f2 : Fr F w w2 := f1.trans (Fr.of_grown (F := F) hg (fun k hk => (hF k).2 (.inr hk))) (fun k hk => .inl hk)
  refine ⟨f2.set (p := ⟨b, 1, none⟩) (.inl ((hF b).2 (.inl rfl))) v1, ?_⟩
  refine ⟨fun k => k = b ∨ v1.ownBlock = some k, ⟨_, v1, .inr rfl, by simpa using heap_set hb1 1 v1, row_set ho1 hne1 v1, fun _ => Iff.rfl⟩, ?_, trivial⟩
  rintro k (rfl | hk)
  · exact .inl ((hF k).2 (.inl rfl))
  · rcases hat with h | ⟨k', h, h'⟩
    · rw [h] at hk
      exact .inl ((hF k).2 (.inr hk))
    · rw [h] at hk
      injection hk with hk
      subst hk
      exact .inr (Nat.le_trans hw.size h')
set_option maxRecDepth 100000 in
set_option maxHeartbeats 1000000 in
theorem BldWS_spec (b : Nat) (l : List UInt8) (s : ByteArray) (hl : l.length + s.size ≤ 140737488355328) :
    Spec Try.prog 31 #[.pointer (some ⟨b, 0, none⟩), .string s] (BldR b l) (fun v A' N => v = .tuple #[.int .i64 s.size, .nilIface] ∧ A' = BldR b (l ++ s.data.toList) ∧ N = []) := by
  rintro F w ⟨p, v, hp, hb, ho, hF⟩
  have hne := row_ne ho hb (by decide)
  have HB := Lib.hid hb
  have HO := Lib.hid ho
  have HP := Lib.hid hp
  clear hb ho hp
  go_enter Try.func31, Try.ntmps31
  go_wp2_with (go_at_call 59; refine (bld_check b _ p v HP.out HB.out).mono ?_)
  rintro e w1 ⟨rfl, hb1, hfr⟩
  have ho1 : w1.ownsRow 0 5 1 v l.length (byteCells l) := row_move HO.out (fun k hk => hfr.block k (row_lt HO.out k hk) (fun h => hne (h ▸ hk.symm)))
  have c0 : w1.cell? ⟨b, 0, none⟩ = some (.pointer (some ⟨b, 0, none⟩)) := (heap_at hb1 0).trans rfl
  have c1 : w1.cell? ⟨b, 1, none⟩ = some v := (heap_at hb1 1).trans rfl
  have HB1 := Lib.hid hb1
  have HO1 := Lib.hid ho1
  have HF := Lib.hid hfr
  clear hb1 ho1 hfr
  go_wp2_with (at_builtin; refine wp_append_str_at w1 rfl _ _ _ _ rfl 5 Try.underlying33 Try.underlying9 infoByte v l.length (byteCells l) rfl HO1.out s rfl hl ?_; intro v1 w2 ho2 hg hat; obtain ⟨a1, k1, rfl⟩ := row_slice ho2; have HO2 := Lib.hid ho2; clear ho2; have HN := Lib.hid (row_ne HO1.out HB1.out (by decide)); have HB2 := Lib.hid (show w2.heap[b]? = _ from (hg.block b (heap_lt HB1.out) HN.out).trans HB1.out); have d0 : w2.cell? ⟨b, 0, none⟩ = some (.pointer (some ⟨b, 0, none⟩)) := (heap_at HB2.out 0).trans rfl; have d1 : w2.cell? ⟨b, 1, none⟩ = some v := (heap_at HB2.out 1).trans rfl; have e1 : w2.frozen? ⟨b, 1, none⟩ = false := heap_free HB2.out 1; have HG := Lib.hid hg; have HAT := Lib.hid hat; clear hg hat)
  go_ret2
  have ho2 := HO2.out
  rw [byteCells_str, ← byteCells_append] at ho2
  refine ⟨_, _, _, rfl, ⟨rfl, rfl, rfl⟩, ?_⟩
  exact BldR.stored HF.out hF HB1.out HO1.out ho2 HG.out (by rcases HAT.out with h | h; exact .inl h; exact .inr ⟨_, h, Nat.le_refl _⟩) (heap_lt HB.out)
set_option maxRecDepth 100000 in
set_option maxHeartbeats 2000000 in
theorem BldStr_spec (b : Nat) (l : List UInt8) : Spec Try.prog 32 #[.pointer (some ⟨b, 0, none⟩)] (BldR b l) (fun v A' N => v = .string (bsOf l) ∧ A' = EmpR ∧ N = []) := by
  rintro F w ⟨p, v, hp, hb, ho, hF⟩
  have done : ∀ w', Fr F w w' → St F w [EmpR] w' := fun w' h => ⟨h, fun _ => False, fun _ h => h, fun _ h => h.elim, trivial⟩
  have DONE := Lib.hid done
  clear done
  have hUS0 : ∀ (W : World) (q : Option Addr), (Builtin.unsafeString_ #[119, 3] 9 #[.pointer q, .int .i64 0]).run Try.prog W = .ok (.string .empty) W := fun W q => Lib.run_unsafeString_none W _ _ _ q
  have hl0 : l = [] ∨ l ≠ [] := by cases l; exact .inl rfl; exact .inr (by simp)
  rcases ho.2 with ⟨rfl, hz⟩ | ⟨g, cap, cur, rfl, _, hg, hnc, hcm, hcs, htake⟩
  · obtain rfl : l = [] := List.length_eq_zero_iff.1 hz
    have c1 : w.drew.cell? ⟨b, 1, none⟩ = some (.slice none 0 0) := (heap_at (w := w.drew) hb 1).trans rfl
    have hSD : (Builtin.unsafeSliceData_ #[33] 119 #[.slice none 0 0]).run Try.prog w.drew = .ok (.pointer none) w.drew := rfl
    clear hb ho hp
    go_enter Try.func32, Try.ntmps32
    go_wp2
    go_region
    all_goals (go_wp2; go_ret; exact ⟨_, _, _, rfl, ⟨rfl, rfl, rfl⟩, DONE.out _ (Fr.refl F w).drew⟩)
  · have hgF : F g := (hF g).2 (.inr rfl)
    have HGF := Lib.hid hgF
    clear hgF
    rcases hl0 with rfl | hl1
    · by_cases hc0 : cap = 0
      · subst hc0
        have hb' : w.drew.heap[b]? = some (.cells #[p, .slice (some ⟨g, 0, none⟩) 0 0] 72 (0, 0)) := hb
        have c1 : w.drew.cell? ⟨b, 1, none⟩ = some (.slice (some ⟨g, 0, none⟩) 0 0) := (heap_at hb' 1).trans rfl
        have hSD : (Builtin.unsafeSliceData_ #[33] 119 #[.slice (some ⟨g, 0, none⟩) 0 0]).run Try.prog w.drew = .ok (.pointer (some ⟨w.drew.heap.size, 0, none⟩)) (w.drew.alloc (.view ⟨g, 0, none⟩ 5)) :=
          Lib.run_unsafeSliceData_zero w.drew _ _ 5 Try.underlying119 ⟨g, 0, none⟩ 0 (5, cur.size) (by have hg' : w.drew.heap[g]? = some (.cells cur 5 (0, 0)) := hg; simp [World.shape?, hg'])
        have c2 : (w.drew.alloc (.view ⟨g, 0, none⟩ 5)).cell? ⟨b, 1, none⟩ = some (.slice (some ⟨g, 0, none⟩) 0 0) := by
          have h := (Lib.alloc_old w.drew (.view ⟨g, 0, none⟩ 5) b (heap_lt hb')).trans hb'
          exact (heap_at h 1).trans rfl
        have c3 : (w.alloc (.view ⟨g, 0, none⟩ 5)).drew.cell? ⟨b, 1, none⟩ = some (.slice (some ⟨g, 0, none⟩) 0 0) := c2
        have c0 : w.cell? ⟨b, 1, none⟩ = some (.slice (some ⟨g, 0, none⟩) 0 0) := c1
        clear hb hb' ho hp hg htake hcs
        go_enter Try.func32, Try.ntmps32
        go_wp2
        go_region
        all_goals (go_wp2; go_ret; exact ⟨_, _, _, rfl, ⟨rfl, rfl, rfl⟩, DONE.out _ ((Fr.refl F w).drew.alloc _)⟩)
      · have c1 : w.drew.cell? ⟨b, 1, none⟩ = some (.slice (some ⟨g, 0, none⟩) 0 cap) := (heap_at (w := w.drew) hb 1).trans rfl
        have hSD : (Builtin.unsafeSliceData_ #[33] 119 #[.slice (some ⟨g, 0, none⟩) 0 cap]).run Try.prog w.drew = .ok (.pointer (some ⟨g, 0, none⟩)) w.drew := Lib.run_unsafeSliceData_row _ _ _ _ _ _ hc0
        clear hb ho hp hg htake hcs hc0
        go_enter Try.func32, Try.ntmps32
        go_wp2
        go_region
        all_goals (go_wp2; go_ret; exact ⟨_, _, _, rfl, ⟨rfl, rfl, rfl⟩, DONE.out _ (Fr.refl F w).drew⟩)
    · have hlen : l.length ≠ 0 := by simpa using hl1
      have c1 : w.drew.cell? ⟨b, 1, none⟩ = some (.slice (some ⟨g, 0, none⟩) l.length cap) := (heap_at (w := w.drew) hb 1).trans rfl
      have hSD : (Builtin.unsafeSliceData_ #[33] 119 #[.slice (some ⟨g, 0, none⟩) l.length cap]).run Try.prog w.drew = .ok (.pointer (some ⟨g, 0, none⟩)) w.drew := Lib.run_unsafeSliceData_row _ _ _ _ _ _ (by omega)
      have hUS : (Builtin.unsafeString_ #[119, 3] 9 #[.pointer (some ⟨g, 0, none⟩), .int .i64 l.length]).run Try.prog w.drew = .ok (.string ⟨l.toArray⟩) (w.drew.freeze ⟨g, 0, none⟩ l.length) := by
        refine Lib.run_unsafeString_row w.drew 119 3 9 5 Try.underlying119 (by kernel_rfl) g cur.size (by have hg' : w.drew.heap[g]? = some (.cells cur 5 (0, 0)) := hg; simp [World.shape?, hg']) l hl1 (by omega) (by unfold maxLen at hcm; omega) ?_
        intro j x hx
        have := ho.cells (g := g) rfl j (.int .u8 x.toNat) (by simp [byteCells, hx])
        exact this
      clear hb ho hp hg htake hcs hl1 hlen hUS0
      go_enter Try.func32, Try.ntmps32
      go_wp2
      go_region
      all_goals (go_wp2; go_ret; exact ⟨_, _, _, rfl, ⟨rfl, rfl, rfl⟩, DONE.out _ (fr_freeze (Fr.refl F w).drew (p := ⟨g, 0, none⟩) HGF.out _)⟩)
def gBWrite (st : List UInt8) (s : List UInt8) : Option (List UInt8) := if st.length + s.length ≤ 140737488355328 then some (st ++ s) else none
theorem gBWrite_eq (st : List UInt8) (s : List UInt8) (h : st.length + s.length ≤ 140737488355328) : gBWrite st s = some (st ++ s) := if_pos h
theorem gBWrite_spec (g : Nat) (st : List UInt8) (s : List UInt8) (r : List UInt8) (h : gBWrite st s = some r) : SpecX Try.prog 31 #[.pointer (some ⟨g, 0, none⟩), .string (bsOf s)] .triv (BldR g st) (fun v A' N => v = .tuple #[.int .i64 (bsOf s).size, .nilIface] ∧ A' = BldR g r ∧ N = []) := by
  unfold gBWrite at h
  split at h
  · rename_i h1
    obtain rfl := Option.some.inj h
    have k := BldWS_spec g st (bsOf s) (by rw [bsOf_size]; exact h1)
    rw [bsOf_list] at k
    exact SpecX.of_spec k
  · simp at h
def gBStr (st : List UInt8) : Option (List UInt8) := some st
theorem gBStr_eq (st : List UInt8) : gBStr st = some st := rfl
theorem gBStr_spec (g : Nat) (st : List UInt8) (r : List UInt8) (h : gBStr st = some r) : SpecX Try.prog 32 #[.pointer (some ⟨g, 0, none⟩)] .triv (BldR g st) (fun v A' N => v = .string (bsOf r) ∧ A' = EmpR ∧ N = []) := by
  unfold gBStr at h
  obtain rfl := Option.some.inj h
  exact SpecX.of_spec (BldStr_spec g _)
end Go.Proofs.Ytahjmpipllajcaa.Sl
namespace Go.Proofs.Ytahjmpipllajcaa.Sl
open Go.RowKit
set_option linter.unusedVariables false
set_option linter.unusedSimpArgs false
section
variable {P : Program} {n : Nat} {F0 : Nat → Prop} {w0 : World} {e : Env} {Rs Rf : List Res} {Q : Exit → Act → World → Prop} {ops : Array Oper} {i d : Nat} {ty t : TypeId} {pos : String} {af : Array Edge} {gd : Option (Nat × Bool)} {l : List Nat} {lo : Sch}
theorem BldR.of_blk {b : Nat} {w : World} {G : Nat → Prop} (h : (BlkR b 72 #[.pointer none, .slice none 0 0]).P w G) : (BldR b []).P w G := by
  obtain ⟨h1, h2⟩ := h
  exact ⟨_, _, .inl rfl, h1, World.ownsRow_nil _ _ _ _, fun k => by simp [h2 k, Value.ownBlock]⟩
theorem TL.newbld {zv : Value} (ho : ops[i]? = some ⟨some d, .alloc t, ty, pos, af, gd⟩) (hw : Wd n ops e ⟨some d, .alloc t, ty, pos, af, gd⟩ true) (hz : ∀ w, (zeroValue t).run P w = .ok zv w) (hd : Nat.blt d n = true)
    (h : ∀ b, TL P n F0 w0 ops l ((d, .pointer (some ⟨b, 0, none⟩)) :: e) (BldR b [] :: Rs) Q) (ht : t = 72 := by rfl) (hzv : zv = .agg #[.pointer none, .slice none 0 0] := by rfl) : TL P n F0 w0 ops (i :: l) e Rs Q := by
  refine TL.alloc ho hw hz hd (fun b => ?_)
  intro a w ha hs
  subst ht hzv
  exact h b a w ha (hs.weaken 0 rfl (fun G hG => BldR.of_blk hG))
theorem TD.newbld {zv : Value} (ho : ops[i]? = some ⟨some d, .alloc t, ty, pos, af, gd⟩) (hw : Wd n ops e ⟨some d, .alloc t, ty, pos, af, gd⟩ true) (hz : ∀ w, (zeroValue t).run P w = .ok zv w) (hd : Nat.blt d n = true) (is : List Nat) (hf : ∀ b, Sel (BldR b [] :: Rs) is Rf)
    (h : ∀ b, TD P n F0 w0 ops lo Rf ((d, .pointer (some ⟨b, 0, none⟩)) :: e) (BldR b [] :: Rs) Q) (ht : t = 72 := by rfl) (hzv : zv = .agg #[.pointer none, .slice none 0 0] := by rfl) : TD P n F0 w0 ops (.e i lo) Rf e Rs Q := by
  refine TD.ef ho hw (Ef.alloc hz hd) ?_
  rintro _ _ ⟨b, rfl, rfl⟩
  subst ht hzv
  have key : ∀ w, St F0 w0 (BlkR b 72 #[.pointer none, .slice none 0 0] :: Rs) w → St F0 w0 (BldR b [] :: Rs) w := fun w hs => hs.weaken 0 rfl (fun G hG => BldR.of_blk hG)
  exact ⟨Rf, fun w hs => (key w hs).sel is (hf b), fun _ h => h, fun a w ha hs => h b a w ha (key w hs)⟩
end
section
variable {α : Type} {P : Program} {n : Nat} {F0 : Nat → Prop} {w0 : World} {e : Env} {Rs : List Res} {Q : Exit → Act → World → Prop} {ops : Array Oper} {l : List Nat} {c : Code} {S : Nat → Prop} {E : Rd α} {size m cp k : Nat} {A : Option Addr} {xs : List α} {x : α} {B : Res}
end
end Go.Proofs.Ytahjmpipllajcaa.Sl
namespace Go.Proofs.Ytahjmpipllajcaa.Sl
open Go.RowKit
set_option linter.unusedVariables false
set_option linter.unusedSimpArgs false
def PakR {ι : Type} (f : ι → List Res) : Res where
  P := fun w G => (∃ i, Sep (f i) w G) ∧ ∀ k, G k → k < w.heap.size
  lt := fun h k hk => h.2 k hk
  move := fun {w w' G} h hm => ⟨let ⟨i, hi⟩ := h.1; ⟨i, hi.move_ hm⟩, fun k hk => by
    have h1 := h.2 k hk
    have h2 := hm k hk
    rw [Array.getElem?_eq_getElem h1] at h2
    exact (Array.getElem?_eq_some_iff.1 h2).1⟩
section
variable {P : Program} {n : Nat} {F0 : Nat → Prop} {w0 w : World} {e : Env} {Rs Rs' Rf : List Res} {Q : Exit → Act → World → Prop} {ops : Array Oper} {l : List Nat} {c : Code} {x : Exit} {ι : Type} {f : ι → List Res}
theorem St.pakOpen (j : Nat) (h : St F0 w0 Rs w) (hj : Rs[j]? = some (PakR f)) : ∃ i, St F0 w0 (f i ++ Rs.eraseIdx j) w := by
  obtain ⟨fr, hs⟩ := h
  obtain ⟨G, ⟨⟨i, h1⟩, _⟩, h2, h3⟩ := Sep.pick j hj hs
  exact ⟨i, fr, Sep.append h1 h3 h2⟩
theorem Sep.splitA : ∀ {As Bs : List Res} {w : World} {F : Nat → Prop}, Sep (As ++ Bs) w F → ∃ G, Sep As w G ∧ (∀ k, G k → F k) ∧ (∀ k, G k → k < w.heap.size) ∧ Sep Bs w (fun k => F k ∧ ¬ G k)
  | [], Bs, w, F, h => ⟨fun _ => False, trivial, fun _ h => h.elim, fun _ h => h.elim, h.mono (fun k hk => ⟨hk, fun h => h⟩)⟩
  | A :: As, Bs, w, F, ⟨H, h1, h2, h3⟩ => by
    obtain ⟨G, k1, k2, k3, k4⟩ := Sep.splitA h3
    refine ⟨fun k => H k ∨ G k, ⟨H, h1, fun k hk => .inl hk, k1.mono (fun k hk => ⟨.inr hk, (k2 k hk).2⟩)⟩, ?_, ?_, k4.mono (fun k hk => ⟨hk.1.1, fun h => h.elim hk.1.2 hk.2⟩)⟩
    · rintro k (hk | hk)
      · exact h2 k hk
      · exact (k2 k hk).1
    · rintro k (hk | hk)
      · exact A.lt h1 k hk
      · exact k3 k hk
theorem St.pakShut (i : ι) (h : St F0 w0 (f i ++ Rs) w) : St F0 w0 (PakR f :: Rs) w := by
  obtain ⟨fr, hs⟩ := h
  obtain ⟨G, k1, k2, k3, k4⟩ := Sep.splitA hs
  exact ⟨fr, G, ⟨⟨i, k1⟩, k3⟩, k2, k4⟩
theorem T.pakOpen (j : Nat) (hj : Rs[j]? = some (PakR f)) (h : ∀ i, T P n F0 w0 e (f i ++ Rs.eraseIdx j) c Q) : T P n F0 w0 e Rs c Q := fun a w ha hs => let ⟨i, hi⟩ := hs.pakOpen j hj; h i a w ha hi
theorem X.pakShut (i : ι) (hR : Rs = f i ++ Rs') (h : X n F0 w0 e (PakR f :: Rs') x Q) : X n F0 w0 e Rs x Q := fun a w ha hs => h a w ha (by rw [hR] at hs; exact hs.pakShut i)
theorem TL.pakShut (i : ι) (hR : Rs = f i ++ Rs') (h : TL P n F0 w0 ops l e (PakR f :: Rs') Q) : TL P n F0 w0 ops l e Rs Q := fun a w ha hs => h a w ha (by rw [hR] at hs; exact hs.pakShut i)
theorem TL.pakOpen (j : Nat) (hj : Rs[j]? = some (PakR f)) (h : ∀ i, TL P n F0 w0 ops l e (f i ++ Rs.eraseIdx j) Q) : TL P n F0 w0 ops l e Rs Q := fun a w ha hs => let ⟨i, hi⟩ := hs.pakOpen j hj; h i a w ha hi
end
theorem u8cells_elems {w : World} {S : Nat → Prop} : ∀ (s : List UInt8), elems 1 u8E w S (byteCells s) (bsI s)
  | [] => rfl
  | c :: s => ⟨rfl, rfl, u8cells_elems s⟩
theorem elems_app {α : Type} {size : Nat} {E : Rd α} {w : World} {S : Nat → Prop} : ∀ {xs ys : List α} {cs ds : List Value}, elems size E w S cs xs → elems size E w S ds ys → elems size E w S (cs ++ ds) (xs ++ ys)
  | [], ys, cs, ds, h, k => by
    obtain rfl : cs = [] := h
    exact k
  | x :: xs, ys, cs, ds, ⟨h0, h1, h2⟩, k => by
    have hle : size ≤ cs.length := by rw [List.length_take] at h0; omega
    refine ⟨?_, ?_, ?_⟩
    · rw [List.take_append_of_le_length hle]; exact h0
    · rw [List.take_append_of_le_length hle]; exact h1
    · rw [List.drop_append_of_le_length hle]; exact elems_app h2 k
theorem elems_take {α : Type} {size : Nat} {E : Rd α} {w : World} {S : Nat → Prop} : ∀ {xs : List α} {cs : List Value} (k : Nat), elems size E w S cs xs → elems size E w S (cs.take (k * size)) (xs.take k)
  | xs, cs, 0, h => by simp [elems]
  | [], cs, k + 1, h => by
    obtain rfl : cs = [] := h
    simp [elems]
  | x :: xs, cs, k + 1, ⟨h0, h1, h2⟩ => by
    have hle : size ≤ (k + 1) * size := by rw [Nat.add_mul]; omega
    have e1 : (cs.take ((k + 1) * size)).take size = cs.take size := by rw [List.take_take, Nat.min_eq_left hle]
    refine ⟨by rw [e1]; exact h0, by rw [e1]; exact h1, ?_⟩
    rw [List.drop_take, show (k + 1) * size - size = k * size by rw [Nat.add_mul]; omega]
    exact elems_take k h2
theorem u8_cells {w : World} {S : Nat → Prop} : ∀ {xs : List Int} {cs : List Value}, elems 1 u8E w S cs xs → cs = xs.map (Value.int .u8)
  | [], cs, h => h
  | x :: xs, cs, ⟨h0, h1, h2⟩ => by
    have h3 := u8_cells h2
    have h1 : cs.take 1 = [.int .u8 x] := h1
    rw [← List.take_append_drop 1 cs, h1, h3]
    rfl
theorem elems_u8 {w : World} {S : Nat → Prop} : ∀ (xs : List Int), elems 1 u8E w S (xs.map (Value.int .u8)) xs
  | [] => rfl
  | x :: xs => ⟨rfl, rfl, elems_u8 xs⟩
section
variable {P : Program} {n : Nat} {F0 : Nat → Prop} {w0 w : World} {e : Env} {Rs Rf : List Res} {Q : Exit → Act → World → Prop} {ops : Array Oper} {d : Option Tmp} {i : Nat} {ty t t' el : TypeId} {pos : String} {af : Array Edge} {gd : Option (Nat × Bool)} {v : Value} {x y : Operand} {L : List Nat} {lo : Sch} {cd : Code}
variable {U c m k : Nat} {A : Option Addr}
theorem bsOf_dl (s : List UInt8) : (bsOf s).data.toList = s := by simp [bsOf]
theorem Ef.appStr (j : Nat) {l : List Int} {s : List UInt8} (hu : P.underlying t = some (.slice U)) (hv : P.underlying t' = some .string) (hinfo : (P.info? U).map (fun i => (i.zero, i.size, i.bytes)) = some (some (.int .u8 0), 1, 1)) (hs : e.ev x = some (.slice A l.length c)) (hy : e.ev y = some (.string (bsOf s))) (hj : Rs[j]? = some (OwnR U 1 u8E (.slice A l.length c) l)) (hb : l.length + s.length ≤ 140737488355328) (hd : okd d n = true) :
    Ef P n F0 w0 e Rs ⟨d, .call ⟨.builtin .append, #[x, y], #[t, t']⟩, ty, pos, af, gd⟩ (fun e' Rs' => ∃ A' c', e' = envput d (.slice A' (l ++ bsI s).length c') e ∧ Rs' = Rs.set j (OwnR U 1 u8E (.slice A' (l ++ bsI s).length c') (l ++ bsI s))) := by
  intro a w K Q ha hst hk
  obtain ⟨ti, hi, hzz⟩ := Option.map_eq_some_iff.1 hinfo
  simp only [Prod.mk.injEq] at hzz
  obtain ⟨cells, hown, hgo⟩ := OwnR.openN j hst hj
  obtain ⟨v', w', hr, h2, h3, h4⟩ := append_str_at (P := P) w t t' ty U ti hu hv hi hzz.1 hzz.2.1 hzz.2.2 _ l.length cells hown (bsOf s) (by rw [bsOf_size]; exact hb)
  rw [bsOf_size, byteCells_str, bsOf_dl] at h2
  have h5 := hgo v' w' (byteCells s) (bsI s) (by rw [bsI_length]; exact h2) h3 (h4.imp id (fun h => ⟨_, h, Nat.le_refl _⟩)) (fun w S cs h => elems_app h (u8cells_elems s))
  obtain ⟨A', c', rfl⟩ := row_slice h2
  have hl : l.length + s.length = (l ++ bsI s).length := by rw [List.length_append, bsI_length]
  rw [hl] at h5 hr
  have h6 : (execOp a.eval ⟨d, .call ⟨.builtin .append, #[x, y], #[t, t']⟩, ty, pos, af, gd⟩).run P w = .ok (.value (.slice A' (l ++ bsI s).length c')) w' := by
    simp [execOp, resolve, invoke, builtin, ha.ev hs, ha.ev hy, hr]
  unfold Oper.wp
  rw [h6]
  exact hk _ _ ⟨A', c', rfl, rfl⟩ _ _ (ha.putd hd) h5
theorem TL.appStr {d : Nat} (j : Nat) {l : List Int} {s : List UInt8} (ho : ops[i]? = some ⟨some d, .call ⟨.builtin .append, #[x, y], #[t, t']⟩, ty, pos, af, gd⟩) (hw : Wd n ops e ⟨some d, .call ⟨.builtin .append, #[x, y], #[t, t']⟩, ty, pos, af, gd⟩ true) (hu : P.underlying t = some (.slice U)) (hv : P.underlying t' = some .string) (hinfo : (P.info? U).map (fun i => (i.zero, i.size, i.bytes)) = some (some (.int .u8 0), 1, 1)) (hs : e.ev x = some (.slice A l.length c)) (hy : e.ev y = some (.string (bsOf s))) (hj : Rs[j]? = some (OwnR U 1 u8E (.slice A l.length c) l)) (hb : l.length + s.length ≤ 140737488355328) (hd : Nat.blt d n = true)
    (h : ∀ A' c', TL P n F0 w0 ops L ((d, .slice A' (l ++ bsI s).length c') :: e) (Rs.set j (OwnR U 1 u8E (.slice A' (l ++ bsI s).length c') (l ++ bsI s))) Q) : TL P n F0 w0 ops (i :: L) e Rs Q := by
  refine TL.ef ho hw (Ef.appStr j hu hv hinfo hs hy hj hb hd) ?_
  rintro _ _ ⟨A', c', rfl, rfl⟩
  exact h A' c'
variable {α : Type} {E : Rd α} {z : Nat} {xs ys : List α}
theorem OwnR.form {G : Nat → Prop} (h : (OwnR U z E (.slice A m c) xs).P w G) : m = xs.length ∧ m ≤ c ∧ c ≤ maxLen ∧ ((A = none ∧ c = 0) ∨ ∃ g, A = some ⟨g, 0, none⟩) := by
  obtain ⟨cells, S, ⟨_, h1⟩, _⟩ := h
  rcases h1 with ⟨h1, h2⟩ | ⟨g, cap, cur, h1, _, _, h3, h4, _⟩
  · injection h1 with e1 e2 e3
    exact ⟨by omega, by omega, by subst e3; exact Nat.zero_le _, .inl ⟨e1, e3⟩⟩
  · injection h1 with e1 e2 e3
    exact ⟨by omega, by omega, by omega, .inr ⟨g, e1⟩⟩
theorem Ex.ownTake {hi : Option Operand} {z' : Nat} (j : Nat) (hj : Rs[j]? = some (OwnR U z E (.slice A m c) xs)) (hx : e.ev x = some (.slice A m c)) (hu : ∀ w, (underlying t).run P w = .ok (.slice el) w) (hz : ∀ w, (sizeOf el).run P w = .ok z' w) (hhi : HiOK e m hi k) (hk : k ≤ m) :
    Ex P n e (St F0 w0 Rs) ⟨d, .slice t x none hi none, ty, pos, af, gd⟩ (.slice A k c) := by
  intro a w ha hs
  obtain ⟨G, hG, _⟩ := hs.get j hj
  obtain ⟨f1, f2, f3, f4⟩ := OwnR.form hG
  have b1 : ∀ kd cd, (Instr.sliceBound (.int kd (k : Int)) c cd).run P w = .ok k w := by
    intro kd cd
    have : (0 : Int) ≤ (k : Int) ∧ (k : Int) ≤ (c : Int) := by omega
    simp [Instr.sliceBound, asIntOf, this]
  have e3 : (if c = 0 then A else A.map (·.add (0 * z'))) = A := by
    split
    · rfl
    · rcases f4 with ⟨rfl, _⟩ | ⟨g, rfl⟩
      · rfl
      · have e2 : (⟨g, 0, none⟩ : Addr).add 0 = ⟨g, 0, none⟩ := by unfold Addr.add; split <;> simp_all
        simp [e2]
  have e4 : (if c = 0 then A else A.map (·.add 0)) = A := by rw [Nat.zero_mul] at e3; exact e3
  cases hhi with
  | none => simp [execOp, ha.ev hx, Instr.sliceAt, Instr.slice, hu, hz, Instr.sliceBounds, e4]
  | some h1 h2 =>
    subst h2
    simp [execOp, ha.ev hx, ha.ev h1, Instr.sliceAt, Instr.slice, hu, hz, Instr.sliceBounds, b1, e4]
def cutA (A : Option Addr) (c k z : Nat) : Option Addr := if c = k then A else A.map (·.add (k * z))
theorem Ex.dropS {lw : Operand} {z' : Nat} {kd : IntKind} {q : Int} (hx : e.ev x = some (.slice A m c)) (hu : ∀ w, (underlying t).run P w = .ok (.slice el) w) (hz : ∀ w, (sizeOf el).run P w = .ok z' w) (hl : e.ev lw = some (.int kd q)) (hq : q = (k : Int)) (hk : k ≤ m) {S : World → Prop} :
    Ex P n e S ⟨d, .slice t x (some lw) none none, ty, pos, af, gd⟩ (.slice (cutA A c k z') (m - k) (c - k)) := by
  intro a w ha hs
  subst hq
  have b1 : ∀ kd cd, (Instr.sliceBound (.int kd (k : Int)) m cd).run P w = .ok k w := by
    intro kd cd
    have : (0 : Int) ≤ (k : Int) ∧ (k : Int) ≤ (m : Int) := by omega
    simp [Instr.sliceBound, asIntOf, this]
  simp [execOp, ha.ev hx, ha.ev hl, Instr.sliceAt, Instr.slice, hu, hz, Instr.sliceBounds, b1, cutA]
theorem Ex.takeStr {xs : List Int} (i : Nat) (hi : Rs[i]? = some (OwnR U 1 u8E (.slice A m c) xs)) (hx : e.ev x = some (.slice A k c)) (hk : k ≤ m) (hs : ∀ w, (underlying t).run P w = .ok (.slice el) w) (hd : ∀ w, (underlying t').run P w = .ok .string w) (hel : ∀ w, (underlying el).run P w = .ok (.int .u8) w) :
    Ex P n e (St F0 w0 Rs) ⟨d, .convert t t' x, ty, pos, af, gd⟩ (.string (bsOf (toBs (xs.take k)))) := by
  intro a w ha hw
  obtain ⟨G, h1, h2⟩ := hw.get i hi
  obtain ⟨f1, f2, f3, f4⟩ := OwnR.form h1
  have h3 := own_reads (size := 1) (E := u8E) (by decide) w G h1
  have h4 : (sliceRd 1 u8E).P w G [.slice A (xs.take k).length c] (xs.take k) := by
    rw [f1] at h3
    exact RX.takeS (S := G) (A := A) (c := c) (l := xs) (E := u8E) (size := 1) h3 (by omega)
  have h5 := rd_bytes (P := P) h4
  have hl : (xs.take k).length = k := by rw [List.length_take]; omega
  rw [hl] at h5
  simp [execOp, ha.ev hx, convert, hs, hd, hel, h5]
theorem St.shrink (j : Nat) (h : St F0 w0 Rs w) (hj : Rs[j]? = some (OwnR U z E (.slice A m c) xs)) (hk : xs.take k = ys) (hkm : k ≤ m) : St F0 w0 (Rs.set j (OwnR U z E (.slice A k c) ys)) w := by
  refine h.weaken j hj (fun G hG => ?_)
  obtain ⟨f1, f2, f3, f4⟩ := OwnR.form hG
  obtain ⟨cells, S, ⟨g0, g1⟩, g2, g3, g4, g5⟩ := hG
  have hl : ys.length = k := by rw [← hk, List.length_take]; omega
  have ho : ∀ q, (Value.slice A k c).ownBlock = some q ↔ (Value.slice A m c).ownBlock = some q := by
    intro q
    cases A <;> simp [Value.ownBlock]
  refine ⟨cells.take (k * z), S, ⟨by rw [hl, List.length_take, g0]; exact Nat.min_eq_left (Nat.mul_le_mul_right _ (by omega)), ?_⟩, by rw [← hk]; exact elems_take k g2, g3, fun q hq => g4 q ((ho q).1 hq), fun q => by rw [g5 q, ho q]⟩
  rcases g1 with ⟨e1, e2⟩ | ⟨g, cap, cur, e1, r1, r2, r3, r4, r5, r6⟩
  · injection e1 with e1 e3 e4
    subst e1 e4
    left
    have : k = 0 := by omega
    subst this
    exact ⟨rfl, hl⟩
  · injection e1 with e1 e3 e4
    subst e4
    refine .inr ⟨g, c, cur, by rw [e1, hl], r1, r2, by omega, r4, r5, ?_⟩
    rw [← r6, List.take_take, hl, Nat.min_eq_left (Nat.mul_le_mul_right _ (by omega))]
theorem T.shrink (j : Nat) (hj : Rs[j]? = some (OwnR U z E (.slice A m c) xs)) (hk : xs.take k = ys) (hkm : k ≤ m) (h : T P n F0 w0 e (Rs.set j (OwnR U z E (.slice A k c) ys)) cd Q) : T P n F0 w0 e Rs cd Q := fun a w ha hs => h a w ha (hs.shrink j hj hk hkm)
theorem TL.shrink (j : Nat) (hj : Rs[j]? = some (OwnR U z E (.slice A m c) xs)) (hk : xs.take k = ys) (hkm : k ≤ m) (h : TL P n F0 w0 ops L e (Rs.set j (OwnR U z E (.slice A k c) ys)) Q) : TL P n F0 w0 ops L e Rs Q := fun a w ha hs => h a w ha (hs.shrink j hj hk hkm)
theorem TD.shrink (j : Nat) (hj : Rs[j]? = some (OwnR U z E (.slice A m c) xs)) (hk : xs.take k = ys) (hkm : k ≤ m) (h : TD P n F0 w0 ops lo Rf e (Rs.set j (OwnR U z E (.slice A k c) ys)) Q) : TD P n F0 w0 ops lo Rf e Rs Q := fun a w ha hs => h a w ha (hs.shrink j hj hk hkm)
theorem copy_take {α : Type} (xs : List α) (k : Nat) (hk : k ≤ xs.length) : (xs.drop k ++ xs.drop (xs.length - k)).take (xs.length - k) = xs.drop k := by
  rw [List.take_append_of_le_length (by rw [List.length_drop]; omega), List.take_of_length_le (by rw [List.length_drop]; omega)]
theorem add_plain' (g o j : Nat) : (⟨g, o, none⟩ : Addr).add j = ⟨g, o + j, none⟩ := by unfold Addr.add; split <;> simp_all
theorem u8_open {g : Nat} {xs : List Int} {G : Nat → Prop} (h : (OwnR U 1 u8E (.slice (some ⟨g, 0, none⟩) m c) xs).P w G) : ∃ cur, w.heap[g]? = some (.cells cur U (0, 0)) ∧ cur.size = c ∧ cur.toList.take m = xs.map (Value.int .u8) := by
  obtain ⟨cells, S, ⟨g0, g1⟩, g2, g3, g4, g5⟩ := h
  rcases g1 with ⟨e1, e2⟩ | ⟨g', cap, cur, e1, r1, r2, r3, r4, r5, r6⟩
  · injection e1 with e1
    cases e1
  · injection e1 with e1 e3 e4
    injection e1 with e1
    injection e1 with e5 e6
    subst e4 e5 e3
    exact ⟨cur, r2, by omega, by rw [← u8_cells g2, ← r6, Nat.mul_one]⟩
theorem Ef.copyD (j : Nat) {xs : List Int} (hu : P.underlying t = some (.slice U)) (hz : (P.info? U).map (·.size) = some 1) (hx : e.ev x = some (.slice A m c)) (hy : e.ev y = some (.slice (cutA A c k 1) (m - k) (c - k))) (hj : Rs[j]? = some (OwnR U 1 u8E (.slice A m c) xs)) (hk : k ≤ m) (hd : okd d n = true) :
    Ef P n F0 w0 e Rs ⟨d, .call ⟨.builtin .copy, #[x, y], #[t, t']⟩, ty, pos, af, gd⟩ (fun e' Rs' => e' = envput d (.int .i64 ((m - k : Nat) : Int)) e ∧ Rs' = Rs.set j (OwnR U 1 u8E (.slice A m c) (xs.drop k ++ xs.drop (m - k)))) := by
  intro a w K Q ha hst hK
  obtain ⟨G0, hG0, _⟩ := hst.get j hj
  obtain ⟨f1, f2, f3, f4⟩ := OwnR.form hG0
  by_cases h0 : m - k = 0
  · have hr := run_copy_none (P := P) w t t' ty U A (cutA A c k 1) m c (m - k) (c - k) hu hz (by rw [h0]; exact Nat.zero_min _)
    have h6 : (execOp a.eval ⟨d, .call ⟨.builtin .copy, #[x, y], #[t, t']⟩, ty, pos, af, gd⟩).run P w = .ok (.value (.int .i64 ((m - k : Nat) : Int))) w := by
      rw [h0] at hr hy ⊢
      simp [execOp, resolve, invoke, builtin, ha.ev hx, ha.ev hy, hr, goInt]
    unfold Oper.wp
    rw [h6]
    have e1 : xs.drop k ++ xs.drop (m - k) = xs := by rw [h0, List.drop_of_length_le (by omega)]; simp
    refine hK _ _ ⟨rfl, rfl⟩ _ _ (ha.putd hd) ?_
    rw [e1]
    exact hst.weaken j hj (fun G h => h)
  · obtain ⟨g, rfl⟩ : ∃ g, A = some ⟨g, 0, none⟩ := by
      rcases f4 with ⟨_, h⟩ | h
      · omega
      · exact h
    obtain ⟨cur, c1, c2, c3⟩ := u8_open hG0
    have hcut : cutA (some ⟨g, 0, none⟩) c k 1 = some ⟨g, k, none⟩ := by
      unfold cutA
      rw [if_neg (by omega), Option.map_some, add_plain', Nat.zero_add, Nat.mul_one]
    rw [hcut] at hy
    have hcs : ((xs.drop k).map (Value.int .u8)).length = m - k := by rw [List.length_map, List.length_drop]; omega
    have hmin : m - k = Nat.min (m - k) m := (Nat.min_eq_left (by omega)).symm
    have hr := run_copy_row (P := P) w t t' ty U g 0 m c ⟨g, k, none⟩ (m - k) (c - k) cur U ((xs.drop k).map (Value.int .u8)) hu hz c1 (hcs.trans hmin) (fun q u hq => by
      rw [add_plain', heap_at c1, ← Array.getElem?_toList]
      rw [List.map_drop, ← c3, List.getElem?_drop, List.getElem?_take] at hq
      split at hq
      · exact hq
      · cases hq) (by rw [hcs, c2]; omega) (fun v hv => by obtain ⟨u, _, rfl⟩ := List.mem_map.1 hv; rfl)
    rw [hcs, List.take_zero, List.nil_append, Nat.zero_add] at hr
    have h6 : (execOp a.eval ⟨d, .call ⟨.builtin .copy, #[x, y], #[t, t']⟩, ty, pos, af, gd⟩).run P w = .ok (.value (.int .i64 ((m - k : Nat) : Int))) (w.setRow g ((xs.drop k).map (Value.int .u8) ++ cur.toList.drop (m - k)).toArray) := by
      simp [execOp, resolve, invoke, builtin, ha.ev hx, ha.ev hy, hr, goInt]
    have hlen : (xs.drop k ++ xs.drop (m - k)).length = m := by rw [List.length_append, List.length_drop, List.length_drop]; omega
    have hsz : ((xs.drop k).map (Value.int .u8) ++ cur.toList.drop (m - k)).length = c := by rw [List.length_append, hcs, List.length_drop, Array.length_toList]; omega
    have htk : ((xs.drop k).map (Value.int .u8) ++ cur.toList.drop (m - k)).take m = (xs.drop k ++ xs.drop (m - k)).map (Value.int .u8) := by
      rw [List.take_append, hcs, List.take_of_length_le (by omega), List.map_append, List.map_drop, List.map_drop, ← c3, List.drop_take, List.drop_take]
    unfold Oper.wp
    rw [h6]
    refine hK _ _ ⟨rfl, rfl⟩ _ _ (ha.putd hd) (hst.step j hj (Ns := []) (fun G hG => ?_))
    obtain ⟨cells, S, ⟨g0, g1⟩, g2, g3, g4, g5⟩ := hG
    have hG' : G g := (g5 g).2 (.inl rfl)
    refine ⟨⟨rfl, rfl, rfl, by simp [World.setRow], fun q hq hn => setRow_other w g q _ (fun e => hn (e ▸ hG'))⟩, G, ⟨(xs.drop k ++ xs.drop (m - k)).map (Value.int .u8), S, ⟨?_, .inr ⟨g, c, _, by rw [hlen], Nat.zero_le _, setRow_heap w g cur _ U (0, 0) c1, by rw [hlen]; exact f2, f3, ?_, ?_⟩⟩, elems_u8 _, fun q hq => by rw [size_setRow]; exact g3 q hq, g4, g5⟩, fun q hq => .inl hq, trivial⟩
    · rw [List.length_map, Nat.mul_one]
    · rw [List.size_toArray, hsz, Nat.mul_one]
    · rw [hlen, Nat.mul_one]
      exact htk
theorem TL.copyD {d : Nat} (j : Nat) {xs : List Int} (ho : ops[i]? = some ⟨some d, .call ⟨.builtin .copy, #[x, y], #[t, t']⟩, ty, pos, af, gd⟩) (hw : Wd n ops e ⟨some d, .call ⟨.builtin .copy, #[x, y], #[t, t']⟩, ty, pos, af, gd⟩ true) (hu : P.underlying t = some (.slice U)) (hz : (P.info? U).map (·.size) = some 1) (hx : e.ev x = some (.slice A m c)) (hy : e.ev y = some (.slice (cutA A c k 1) (m - k) (c - k))) (hj : Rs[j]? = some (OwnR U 1 u8E (.slice A m c) xs)) (hk : k ≤ m) (hd : Nat.blt d n = true)
    (h : TL P n F0 w0 ops L ((d, .int .i64 ((m - k : Nat) : Int)) :: e) (Rs.set j (OwnR U 1 u8E (.slice A m c) (xs.drop k ++ xs.drop (m - k)))) Q) : TL P n F0 w0 ops (i :: L) e Rs Q := by
  refine TL.ef ho hw (Ef.copyD j hu hz hx hy hj hk hd) ?_
  rintro _ _ ⟨rfl, rfl⟩
  exact h
theorem TD.copyD {d : Nat} (j : Nat) {xs : List Int} (ho : ops[i]? = some ⟨some d, .call ⟨.builtin .copy, #[x, y], #[t, t']⟩, ty, pos, af, gd⟩) (hw : Wd n ops e ⟨some d, .call ⟨.builtin .copy, #[x, y], #[t, t']⟩, ty, pos, af, gd⟩ true) (hu : P.underlying t = some (.slice U)) (hz : (P.info? U).map (·.size) = some 1) (hx : e.ev x = some (.slice A m c)) (hy : e.ev y = some (.slice (cutA A c k 1) (m - k) (c - k))) (hj : Rs[j]? = some (OwnR U 1 u8E (.slice A m c) xs)) (hk : k ≤ m) (hd : Nat.blt d n = true) (is : List Nat) (hf : Sel (Rs.set j (OwnR U 1 u8E (.slice A m c) (xs.drop k ++ xs.drop (m - k)))) is Rf)
    (h : TD P n F0 w0 ops lo Rf ((d, .int .i64 ((m - k : Nat) : Int)) :: e) (Rs.set j (OwnR U 1 u8E (.slice A m c) (xs.drop k ++ xs.drop (m - k)))) Q) : TD P n F0 w0 ops (.e i lo) Rf e Rs Q := by
  refine TD.ef ho hw (Ef.copyD j hu hz hx hy hj hk hd) ?_
  rintro _ _ ⟨rfl, rfl⟩
  exact ⟨Rf, fun w hw => hw.sel is hf, fun _ h => h, h⟩
end
end Go.Proofs.Ytahjmpipllajcaa.Sl
namespace Go.Proofs.Ytahjmpipllajcaa.Sl
set_option linter.unusedVariables false
section
variable {P : Program} {n : Nat} {F0 : Nat → Prop} {w0 : World} {e : Env} {Rs : List Res} {Q : Exit → Act → World → Prop}
def AtL (n : Nat) (F0 : Nat → Prop) (w0 : World) (J : Nat → Nat → Env → List Res → Prop) (l : Nat) (a : Act) (w : World) : Prop := ∃ m e Rs, J l m e Rs ∧ Has n e a ∧ St F0 w0 Rs w
theorem T.scope {c : Code} (J : Nat → Nat → Env → List Res → Prop)
    (pass : ∀ l m e Rs, J l m e Rs → ∃ rest, findLabel c l = some (Code.skip.seq rest) ∧ T P n F0 w0 e Rs rest (Exit.jumps (AtL n F0 w0 (fun l' m' e' Rs' => m' < m ∧ J l' m' e' Rs')) Q))
    (first : (∀ l rest m e Rs, findLabel c l = some (Code.skip.seq rest) → J l m e Rs → T P n F0 w0 e Rs rest (Exit.jumps (AtL n F0 w0 J) Q)) → T P n F0 w0 e Rs c (Exit.jumps (AtL n F0 w0 J) Q)) : T P n F0 w0 e Rs (.scope c) Q := by
  intro a w ha hs
  have least : ∀ l a w, AtL n F0 w0 J l a w → ∃ m, (∃ e Rs, J l m e Rs ∧ Has n e a ∧ St F0 w0 Rs w) ∧ ∀ m', (∃ e Rs, J l m' e Rs ∧ Has n e a ∧ St F0 w0 Rs w) → m ≤ m' := by
    intro l a w h
    obtain ⟨m, e, Rs, h1⟩ := h
    have : ∀ k, (∃ e Rs, J l k e Rs ∧ Has n e a ∧ St F0 w0 Rs w) → ∃ m, (∃ e Rs, J l m e Rs ∧ Has n e a ∧ St F0 w0 Rs w) ∧ ∀ m', (∃ e Rs, J l m' e Rs ∧ Has n e a ∧ St F0 w0 Rs w) → m ≤ m' := by
      intro k
      induction k using Nat.strongRecOn with
      | _ k ih =>
        intro hk
        by_cases hx : ∃ m', m' < k ∧ ∃ e Rs, J l m' e Rs ∧ Has n e a ∧ St F0 w0 Rs w
        · obtain ⟨m', hlt, hm'⟩ := hx
          exact ih m' hlt hm'
        · exact ⟨k, hk, fun m' hm' => Nat.le_of_not_lt fun hlt => hx ⟨m', hlt, hm'⟩⟩
    exact this m ⟨e, Rs, h1⟩
  refine wp_scope_labels (AtL n F0 w0 J) (fun l a w => @dite Nat (AtL n F0 w0 J l a w) (Classical.propDecidable _) (fun h => (least l a w h).choose) (fun _ => 0)) ?_ ?_
  · intro l a w h
    have hc := (least l a w h).choose_spec
    obtain ⟨⟨e, Rs, h1, h2, h3⟩, hmin⟩ := hc
    obtain ⟨rest, r1, r2⟩ := pass l _ e Rs h1
    refine ⟨rest, r1, wp_mono (r2 a w h2 h3) ?_⟩
    intro x a' w' hx
    cases x with
    | goto l' =>
      obtain ⟨m', e', Rs', ⟨hlt, hJ⟩, ha', hs'⟩ := hx
      have hA : AtL n F0 w0 J l' a' w' := ⟨m', e', Rs', hJ, ha', hs'⟩
      refine ⟨hA, ?_⟩
      rw [dif_pos hA, dif_pos h]
      exact Nat.lt_of_le_of_lt ((least l' a' w' hA).choose_spec.2 m' ⟨e', Rs', hJ, ha', hs'⟩) hlt
    | _ => exact hx
  · intro hl
    refine first (fun l rest m e Rs hf hJ a w ha hs => hl l rest a w hf ⟨m, e, Rs, hJ, ha, hs⟩) a w ha hs
end
end Go.Proofs.Ytahjmpipllajcaa.Sl
namespace Go.Proofs.Ytahjmpipllajcaa.Sl
open Go.RowKit
set_option linter.unusedVariables false
set_option linter.unusedSimpArgs false
section
variable {P : Program} {n : Nat} {F0 : Nat → Prop} {w0 w : World} {e e' : Env} {Rs Rs' Rf : List Res} {Q : Exit → Act → World → Prop} {ops : Array Oper} {L : List Nat} {lo : Sch} {cd : Code} {K : Act → World → Prop} {l id : Nat} {J : Nat → Nat → Env → List Res → Prop} {J' : Nat → Act → World → Prop}
theorem X.gs (h : X n F0 w0 e Rs (.goto l) Q) : X n F0 w0 e Rs (.goto l) (Exit.then K Q) := h
theorem X.rj (h : X n F0 w0 e Rs .ret Q) : X n F0 w0 e Rs .ret (Exit.jumps J' Q) := h
theorem X.gj {m : Nat} (is : List Nat) (hJ : J l m e' Rs') (he : Sub e' e) (hr : Sel Rs is Rs') : X n F0 w0 e Rs (.goto l) (Exit.jumps (AtL n F0 w0 J) Q) := fun a w ha hs => ⟨m, e', Rs', hJ, ha.sub he.get, hs.sel is hr⟩
theorem X.nilrow {x : Exit} {α : Type} (T' : TypeId) (size : Nat) (E : Rd α) (h : X n F0 w0 e (OwnR T' size E (.slice none 0 0) [] :: Rs) x Q) : X n F0 w0 e Rs x Q := fun a w ha hs => h a w ha (OwnR.nil T' size E hs)
theorem NoP.jm (h : NoP Q) : NoP (Exit.jumps J' Q) := h
def AnyR (b T z : Nat) : Res := PakR (fun cs : {cs : Array Value // cs.size = z} => [BlkR b T cs.1])
theorem St.any {b T z : Nat} {cs : Array Value} (i : Nat) (h : St F0 w0 Rs w) (hi : Rs[i]? = some (BlkR b T cs)) (hz : cs.size = z) : St F0 w0 (Rs.set i (AnyR b T z)) w :=
  h.weaken i hi (fun G hG => ⟨⟨⟨cs, hz⟩, G, hG, fun k hk => hk, trivial⟩, (BlkR b T cs).lt hG⟩)
theorem X.any {x : Exit} {b T z : Nat} {cs : Array Value} (i : Nat) (hi : Rs[i]? = some (BlkR b T cs)) (hz : cs.size = z) (h : X n F0 w0 e (Rs.set i (AnyR b T z)) x Q) : X n F0 w0 e Rs x Q := fun a w ha hs => h a w ha (hs.any i hi hz)
theorem T.any {b T' z : Nat} {cs : Array Value} (i : Nat) (hi : Rs[i]? = some (BlkR b T' cs)) (hz : cs.size = z) (h : T P n F0 w0 e (Rs.set i (AnyR b T' z)) cd Q) : T P n F0 w0 e Rs cd Q := fun a w ha hs => h a w ha (hs.any i hi hz)
variable {d : Option Tmp} {i : Nat} {ty t t' el : TypeId} {pos : String} {af : Array Edge} {gd : Option (Nat × Bool)} {v : Value} {x y : Operand}
theorem Ef.stAll {b U z : Nat} (i : Nat) (hx : e.ev x = some (.pointer (some ⟨b, 0, none⟩))) (hy : e.ev y = some v) (hz : ∀ w, (sizeOf t).run P w = .ok z w) (hi : Rs[i]? = some (AnyR b U z)) (hvz : Nat.beq v.cells.size z = true) (ho : v.cells.toList.all (·.oneCell') = true) :
    Ef P n F0 w0 e Rs ⟨none, .store t x y, ty, pos, af, gd⟩ (fun e' Rs' => e' = e ∧ Rs' = Rs.set i (BlkR b U v.cells)) := by
  intro a w K Q ha hs hk
  have hvz' := Nat.eq_of_beq_eq_true hvz
  obtain ⟨f, hsp⟩ := id hs
  obtain ⟨G0, ⟨⟨⟨cs, hcz⟩, ⟨H, hH, _, _⟩⟩, _⟩, _, _⟩ := Sep.pick i hi hsp
  have hb : w.heap[b]? = some (.cells cs U (0, 0)) := hH.1
  have h2 := run_storeCells_at (P := P) b 0 U v.cells.toList 0 cs w hb (by rw [Array.length_toList]; omega) (List.all_eq_true.1 ho)
  have h1 : (execOp a.eval ⟨none, .store t x y, ty, pos, af, gd⟩).run P w = .ok .skip (w.setRow b v.cells) := by
    have e1 : cs.toList.drop v.cells.size = [] := by rw [List.drop_of_length_le (by rw [Array.length_toList]; omega)]
    simp only [Nat.add_zero, Array.length_toList, List.take_zero, List.nil_append, Nat.zero_add, e1, List.append_nil] at h2
    simp [execOp, ha.ev hx, ha.ev hy, Instr.storeAt, Instr.sureAddr, storeVar, hz, hvz', h2]
  unfold Oper.wp
  rw [h1]
  refine hk _ _ ⟨rfl, rfl⟩ _ _ ha.put0 (hs.step i hi (Ns := []) (fun G hG => ?_))
  obtain ⟨⟨⟨cs', hcz'⟩, ⟨H', hH', hsub, _⟩⟩, hlt⟩ := hG
  have hGb : G b := hsub b ((hH'.2 b).2 rfl)
  exact ⟨⟨rfl, rfl, rfl, by simp [World.setRow], fun q hq hn => setRow_other w b q _ (fun e => hn (e ▸ hGb))⟩, fun k => k = b, ⟨setRow_heap w b cs _ U (0, 0) hb, fun _ => Iff.rfl⟩, fun k hk => .inl (by subst hk; exact hGb), trivial⟩
theorem TL.stAll {b U z : Nat} (j : Nat) (ho : ops[i]? = some ⟨none, .store t x y, ty, pos, af, gd⟩) (hw : Wd n ops e ⟨none, .store t x y, ty, pos, af, gd⟩ true) (hx : e.ev x = some (.pointer (some ⟨b, 0, none⟩))) (hy : e.ev y = some v) (hz : ∀ w, (sizeOf t).run P w = .ok z w) (hi : Rs[j]? = some (AnyR b U z)) (hvz : Nat.beq v.cells.size z = true) (ho' : v.cells.toList.all (·.oneCell') = true)
    (h : TL P n F0 w0 ops L e (Rs.set j (BlkR b U v.cells)) Q) : TL P n F0 w0 ops (i :: L) e Rs Q := by
  refine TL.ef ho hw (Ef.stAll j hx hy hz hi hvz ho') ?_
  rintro _ _ ⟨rfl, rfl⟩
  exact h
variable {α : Type} {E : Rd α} {z : Nat} {xs ys : List α} {A A2 : Option Addr} {m c c2 k : Nat} {U bytes : Nat} {zv : Value}
def Ones (E : Rd α) : Prop := ∀ w S cs x, E.P w S cs x → cs.all (·.oneCell') = true
theorem rowAt_elems {S : Nat → Prop} {a : Addr} : ∀ (l : List α) (off : Nat), (∀ i x, l[i]? = some x → ∃ cs, cs.length = z ∧ (∀ j, j < z → w.cell? (a.add ((off + i) * z + j)) = cs[j]?) ∧ E.P w S cs x) → Ones E →
    ∃ us : List Value, elems z E w S us l ∧ (∀ q u, us[q]? = some u → w.cell? (a.add (off * z + q)) = some u) ∧ ∀ u ∈ us, u.oneCell' = true
  | [], off, h, ho => ⟨[], rfl, fun q u hq => by simp at hq, fun u hu => by simp at hu⟩
  | x :: l, off, h, ho => by
    obtain ⟨cs, h1, h2, h3⟩ := h 0 x rfl
    obtain ⟨us, k1, k2, k3⟩ := rowAt_elems l (off + 1) (fun i y hy => by
      obtain ⟨cs, g1, g2, g3⟩ := h (i + 1) y (by simpa using hy)
      exact ⟨cs, g1, fun j hj => by rw [← g2 j hj, show off + 1 + i = off + (i + 1) by omega], g3⟩) ho
    refine ⟨cs ++ us, ⟨?_, ?_, ?_⟩, fun q u hq => ?_, fun u hu => ?_⟩
    · rw [List.take_append_of_le_length (by omega), List.take_of_length_le (by omega)]; exact h1
    · rw [List.take_append_of_le_length (by omega), List.take_of_length_le (by omega)]; exact h3
    · rw [List.drop_append_of_le_length (by omega), List.drop_of_length_le (by omega)]; exact k1
    · by_cases hl : q < z
      · rw [List.getElem?_append_left (by omega)] at hq
        have := h2 q hl
        rw [Nat.add_zero] at this
        rw [this, hq]
      · rw [List.getElem?_append_right (by omega), h1] at hq
        have := k2 _ u hq
        rw [← this]
        congr 2
        rw [Nat.add_mul]
        omega
    · rcases List.mem_append.1 hu with hu | hu
      · exact List.all_eq_true.1 (ho _ _ _ _ h3) u hu
      · exact k3 u hu
theorem OwnR.openB (i j : Nat) {T : TypeId} {v : Value} {B : Res} (h : St F0 w0 Rs w) (hi : Rs[i]? = some (OwnR T z E v xs)) (hj : (Rs.eraseIdx i)[j]? = some B) :
    ∃ cells H, B.P w H ∧ w.ownsRow 0 T z v xs.length cells ∧ ∀ v1 w1 news l, w1.ownsRow 0 T z v1 (xs.length + l.length) (cells ++ news) → w.grownBy w1 v.ownBlock → (v1.ownBlock = v.ownBlock ∨ ∃ k, v1.ownBlock = some k ∧ w.heap.size ≤ k) →
      elems z E w H news l → St F0 w0 (OwnR T z E v1 (xs ++ l) :: (Rs.eraseIdx i).eraseIdx j) w1 := by
  obtain ⟨f, hs⟩ := h
  obtain ⟨G, ⟨cells, S, h1, h2, h3, h4, h5⟩, hG, hr⟩ := Sep.pick i hi hs
  obtain ⟨H, hB, hH, hr2⟩ := Sep.pick j hj hr
  refine ⟨cells, H, hB, h1, fun v1 w1 news l ho hg hat hx => ?_⟩
  have hne : ∀ k, S k → k < w.heap.size ∧ some k ≠ v.ownBlock := fun k hk => ⟨h3 k hk, fun e => h4 k e.symm hk⟩
  have hS1 : elems z E w1 S cells xs := elems_move h2 (fun k hk => hg.block k (hne k hk).1 (hne k hk).2)
  have hle := hg.size
  have f2 : Fr G w w1 := Fr.of_grown hg (fun k hk => (h5 k).2 (.inl hk))
  have hfs := f.size
  have hlt1 := B.lt hB
  have hH1 : elems z E w1 H news l := elems_move hx (fun k hk => f2.block k (hlt1 k hk) (hH k hk).2)
  refine ⟨f.trans f2 hG, ?_⟩
  have hR : Sep ((Rs.eraseIdx i).eraseIdx j) w1 (fun k => (((F0 k ∨ w0.heap.size ≤ k) ∧ ¬ G k) ∧ ¬ H k) ∧ k < w.heap.size) := hr2.inside.move (fun k hk _ => f2.block k hk.2 hk.1.1.2)
  refine ⟨fun k => v1.ownBlock = some k ∨ (S k ∨ H k), ⟨cells ++ news, fun k => S k ∨ H k, ?_, elems_app (elems_mono hS1 (fun _ h => .inl h)) (elems_mono hH1 (fun _ h => .inr h)), ?_, ?_, fun _ => Iff.rfl⟩, ?_, hR.mono (fun k hk => ⟨hk.1.1.1, ?_⟩)⟩
  · rw [List.length_append]; exact ho
  · rintro k (hk | hk)
    · exact Nat.lt_of_lt_of_le (h3 k hk) hle
    · exact Nat.lt_of_lt_of_le (hlt1 k hk) hle
  · intro k hk
    rcases hat with e | ⟨k', e, hk'⟩
    · rw [e] at hk
      rintro (h6 | h6)
      · exact h4 k hk h6
      · exact (hH k h6).2 ((h5 k).2 (.inl hk))
    · rw [e] at hk
      injection hk with hk
      subst hk
      rintro (h6 | h6)
      · have := h3 _ h6; omega
      · have := hlt1 _ h6; omega
  · rintro k (hk | hk | hk)
    · rcases hat with e | ⟨k', e, hk'⟩
      · rw [e] at hk; exact hG k ((h5 k).2 (.inl hk))
      · rw [e] at hk
        injection hk with hk
        subst hk
        exact .inr (by omega)
    · exact hG k ((h5 k).2 (.inr hk))
    · exact (hH k hk).1
  · rintro (h6 | h6 | h6)
    · rcases hat with e | ⟨k', e, hk'⟩
      · rw [e] at h6; exact hk.1.1.2 ((h5 k).2 (.inl h6))
      · rw [e] at h6
        injection h6 with h6
        subst h6
        have := hk.2
        omega
    · exact hk.1.1.2 ((h5 k).2 (.inr h6))
    · exact hk.1.2 h6
theorem Ef.appB (i j : Nat) (hO : Ones E) (hu : P.underlying t = some (.slice U)) (hinfo : (P.info? U).map (fun i => (i.zero, i.size, i.bytes)) = some (some zv, z, bytes)) (hzv : zv.cells.size = z) (hp : 0 < z)
    (hs : e.ev x = some (.slice A xs.length c)) (hx : e.ev y = some (.slice A2 ys.length c2)) (hi : Rs[i]? = some (OwnR U z E (.slice A xs.length c) xs)) (hj : (Rs.eraseIdx i)[j]? = some (RdR (sliceRd z E) [.slice A2 ys.length c2] ys))
    (hb : (xs.length + ys.length) * bytes ≤ 140737488355328) (hm : xs.length + ys.length ≤ 140737488355328) (hd : okd d n = true) :
    Ef P n F0 w0 e Rs ⟨d, .call ⟨.builtin .append, #[x, y], #[t, t]⟩, ty, pos, af, gd⟩ (fun e' Rs' => ∃ A' c', e' = envput d (.slice A' (xs ++ ys).length c') e ∧ Rs' = OwnR U z E (.slice A' (xs ++ ys).length c') (xs ++ ys) :: (Rs.eraseIdx i).eraseIdx j) := by
  intro a w K Q ha hst hk
  obtain ⟨ti, hti, hzz⟩ := Option.map_eq_some_iff.1 hinfo
  simp only [Prod.mk.injEq] at hzz
  obtain ⟨h0, h1, h2⟩ := hzz
  obtain ⟨cells, H, hB, hown, hgo⟩ := OwnR.openB i j hst hi hj
  have fin : ∀ q' w' news, (execOp a.eval ⟨d, .call ⟨.builtin .append, #[x, y], #[t, t]⟩, ty, pos, af, gd⟩).run P w = .ok (.value q') w' → w'.ownsRow 0 U z q' (xs.length + ys.length) (cells ++ news) → w.grownBy w' (Value.slice A xs.length c).ownBlock → (q'.ownBlock = (Value.slice A xs.length c).ownBlock ∨ ∃ k, q'.ownBlock = some k ∧ w.heap.size ≤ k) → elems z E w H news ys → Oper.wp P ⟨d, .call ⟨.builtin .append, #[x, y], #[t, t]⟩, ty, pos, af, gd⟩ a w K Q := by
    intro q' w' news r1 r2 r3 r4 r5
    have hst' := hgo q' w' news ys r2 r3 r4 r5
    obtain ⟨A', c', rfl⟩ := row_slice r2
    rw [← List.length_append] at hst' r1
    unfold Oper.wp
    rw [r1]
    exact hk _ _ ⟨A', c', rfl, rfl⟩ _ _ (ha.putd hd) hst'
  obtain ⟨hB1, hB2⟩ := hB
  rcases hB1 with ⟨hv, rfl⟩ | ⟨ad, cap, hv, _, _, hbk, hel⟩
  · injection hv with hv _
    injection hv with hv1 hv2 hv3
    subst hv1 hv3
    have hr := run_append_owned_none (P := P) (w := w) 0 t ty U ti z hu hti _ _ _ hown
    refine fin (.slice A xs.length c) w [] ?_ (by rw [List.length_nil, Nat.add_zero, List.append_nil]; exact hown) ⟨rfl, rfl, rfl, Nat.le_refl _, fun _ _ _ => rfl⟩ (.inl rfl) rfl
    rw [List.length_nil] at hx
    simp [execOp, resolve, invoke, builtin, ha.ev hs, ha.ev hx, hr]
  · injection hv with hv _
    injection hv with hv1 hv2 hv3
    subst hv1 hv3
    obtain ⟨us, g1, g2, g3⟩ := rowAt_elems (a := ad) ys 0 (fun i x hx => by
      obtain ⟨cs, q1, q2, q3⟩ := hel i x hx
      exact ⟨cs, q1, fun j hj => by rw [Nat.zero_add]; exact q2 j hj, q3⟩) hO
    have hlen := elems_length g1
    obtain ⟨q', w', hr, k2, k3, _, k5⟩ := run_append_own_at (P := P) w 0 t ty U ti zv z bytes hu hti h0 h1 h2 hzv hp _ xs.length cells hown ad ys.length c2 us hlen (fun q u hq => by have := g2 q u hq; rwa [Nat.zero_mul, Nat.zero_add] at this) g3 (by simp only [maxLen]; omega) hb (Nat.zero_le _)
    refine fin q' w' us ?_ k2 k3 (k5.imp id (fun h => ⟨_, h, Nat.le_refl _⟩)) g1
    simp [execOp, resolve, invoke, builtin, ha.ev hs, ha.ev hx, hr]
theorem TL.appB {d i : Nat} (i' j : Nat) (ho : ops[i]? = some ⟨some d, .call ⟨.builtin .append, #[x, y], #[t, t]⟩, ty, pos, af, gd⟩) (hw : Wd n ops e ⟨some d, .call ⟨.builtin .append, #[x, y], #[t, t]⟩, ty, pos, af, gd⟩ true) (hO : Ones E) (hu : P.underlying t = some (.slice U)) (hinfo : (P.info? U).map (fun i => (i.zero, i.size, i.bytes)) = some (some zv, z, bytes)) (hzv : zv.cells.size = z) (hp : 0 < z)
    (hs : e.ev x = some (.slice A xs.length c)) (hx : e.ev y = some (.slice A2 ys.length c2)) (hi : Rs[i']? = some (OwnR U z E (.slice A xs.length c) xs)) (hj : (Rs.eraseIdx i')[j]? = some (RdR (sliceRd z E) [.slice A2 ys.length c2] ys))
    (hb : (xs.length + ys.length) * bytes ≤ 140737488355328) (hm : xs.length + ys.length ≤ 140737488355328) (hd : Nat.blt d n = true)
    (h : ∀ A' c', TL P n F0 w0 ops L ((d, .slice A' (xs ++ ys).length c') :: e) (OwnR U z E (.slice A' (xs ++ ys).length c') (xs ++ ys) :: (Rs.eraseIdx i').eraseIdx j) Q) : TL P n F0 w0 ops (i :: L) e Rs Q := by
  refine TL.ef ho hw (Ef.appB i' j hO hu hinfo hzv hp hs hx hi hj hb hm hd) ?_
  rintro _ _ ⟨A', c', rfl, rfl⟩
  exact h A' c'
theorem rd_cap {G : Nat → Prop} (h : (RX.of (sliceRd z E) [.slice A m c] xs).P w G) : m = xs.length ∧ m ≤ c := by
  rcases h with ⟨h, rfl⟩ | ⟨a, cap, h, h1, h2, _⟩
  · injection h with h
    injection h with e1 e2 e3
    exact ⟨e2, by omega⟩
  · injection h with h
    injection h with e1 e2 e3
    exact ⟨e2, by omega⟩
theorem RX.sub {G : Nat → Prop} {p q : Nat} (h : (RX.of (sliceRd z E) [.slice A m c] xs).P w G) (hpq : p ≤ q) (hq : q ≤ xs.length) (hl : ((xs.drop p).take (q - p)) = ys) : (RX.of (sliceRd z E) [.slice (cutA A c p z) ys.length (c - p)] ys).P w G := by
  subst hl
  have hlen : ((xs.drop p).take (q - p)).length = q - p := by rw [List.length_take, List.length_drop]; omega
  rcases h with ⟨h, rfl⟩ | ⟨a, cap, h, h1, h2, hb, hr⟩
  · injection h with h
    injection h with e1 e2 e3
    subst e1 e3
    obtain rfl : q = 0 := by simpa using hq
    obtain rfl : p = 0 := by omega
    exact .inl ⟨rfl, by simp⟩
  · injection h with h
    injection h with e1 e2 e3
    subst e1 e3
    by_cases hc : c = p
    · have hz : q - p = 0 := by omega
      refine .inr ⟨a, c - p, by simp [cutA, hc], by rw [hlen]; omega, by omega, fun h => by omega, fun i x hx => ?_⟩
      have := (List.getElem?_eq_some_iff.1 hx).1
      omega
    · refine .inr ⟨a.add (p * z), c - p, by simp [cutA, hc], by rw [hlen]; omega, by omega, fun h => by rw [Go.ChangeShapes.block_add]; exact hb (by omega), fun i x hx => ?_⟩
      rw [List.getElem?_take] at hx
      split at hx
      · rw [List.getElem?_drop] at hx
        obtain ⟨cs, k1, k2, k3⟩ := hr (p + i) x hx
        refine ⟨cs, k1, fun j hj => ?_, k3⟩
        rw [← k2 j hj]
        congr 1
        unfold Addr.add
        split <;> split <;> simp_all [Nat.add_mul, Nat.add_assoc]
      · exact nomatch hx
theorem RX.subR {F : Nat → Prop} {p q : Nat} (h : (RX.of (sliceRd z E) [.slice A m c] xs).reads w F) (hpq : p ≤ q) (hq : q ≤ xs.length) (hl : ((xs.drop p).take (q - p)) = ys) : (RX.of (sliceRd z E) [.slice (cutA A c p z) ys.length (c - p)] ys).reads w F :=
  let ⟨S, h1, h2⟩ := h; ⟨S, RX.sub h1 hpq hq hl, h2⟩
theorem Ex.subS {lw hi : Option Operand} {p q mm : Nat} {S : World → Prop} (hS : ∀ w, S w → m ≤ c) (hx : e.ev x = some (.slice A m c)) (hu : ∀ w, (underlying t).run P w = .ok (.slice el) w) (hz : ∀ w, (sizeOf el).run P w = .ok z w) (hlo : LoOK e lw p) (hhi : HiOK e m hi q) (hpq : p ≤ q) (hq : q ≤ m) (hm : mm = q - p) :
    Ex P n e S ⟨d, .slice t x lw hi none, ty, pos, af, gd⟩ (.slice (cutA A c p z) mm (c - p)) := by
  intro a w ha hs
  subst hm
  have hmc := hS w hs
  have b1 : ∀ kd cd, (Instr.sliceBound (.int kd (q : Int)) c cd).run P w = .ok q w := by
    intro kd cd
    have : (0 : Int) ≤ (q : Int) ∧ (q : Int) ≤ (c : Int) := by omega
    simp [Instr.sliceBound, asIntOf, this]
  have b2 : ∀ kd cd, (Instr.sliceBound (.int kd (p : Int)) q cd).run P w = .ok p w := by
    intro kd cd
    have : (0 : Int) ≤ (p : Int) ∧ (p : Int) ≤ (q : Int) := by omega
    simp [Instr.sliceBound, asIntOf, this]
  cases hlo with
  | none =>
    cases hhi with
    | none => simp [execOp, ha.ev hx, Instr.sliceAt, Instr.slice, hu, hz, Instr.sliceBounds, cutA]
    | some h1 h2 =>
      subst h2
      simp [execOp, ha.ev hx, ha.ev h1, Instr.sliceAt, Instr.slice, hu, hz, Instr.sliceBounds, b1, cutA]
  | some h1 h2 =>
    subst h2
    cases hhi with
    | none => simp [execOp, ha.ev hx, ha.ev h1, Instr.sliceAt, Instr.slice, hu, hz, Instr.sliceBounds, b2, cutA]
    | some h3 h4 =>
      subst h4
      simp [execOp, ha.ev hx, ha.ev h1, ha.ev h3, Instr.sliceAt, Instr.slice, hu, hz, Instr.sliceBounds, b1, b2, cutA]
theorem cap_old {F : Nat → Prop} {S : World → Prop} (h : (RX.of (sliceRd z E) [.slice A m c] xs).reads w F) : ∀ w', S w' → m ≤ c := fun _ _ => let ⟨_, h, _⟩ := h; (rd_cap h).2
end
section
variable {P : Program} {t el : TypeId}
end
end Go.Proofs.Ytahjmpipllajcaa.Sl
namespace Go.Proofs.Ytahjmpipllajcaa.Sl
open Go.RowKit
set_option linter.unusedVariables false
set_option linter.unusedSimpArgs false
def ofBits (a t c : Bool) : Int := (if a then 8 else 0) + (if t then 16 else 0) + (if c then 32 else 0)
theorem below_alloc {w W : World} (h : Below w.heap.size w W) (o : Obj) : Below w.heap.size w (W.alloc o) := h.alloc h.size o
set_option maxRecDepth 100000 in
set_option maxHeartbeats 4000000 in
theorem Of_any (i0 i1 i5 i6 i7 i8 i9 i10 : Int) (a t c : Bool) (A : Option Addr) (n k : Nat) (w : World) :
    Calls Try.prog 50 #[.agg #[.int .i64 i0, .int .i64 i1, .bool a, .bool t, .bool c, .int .i64 i5, .int .i64 i6, .int .i64 i7, .int .i64 i8, .int .i64 i9, .int .i64 i10, .slice A n k]] w fun e w' =>
      e = .returned (.int .i64 (ofBits a t c)) ∧ Below w.heap.size w w' := by
  have ix : ∀ (x0 x1 x2 x3 x4 x5: Value), (∀ w : World, (Instr.index 135 (.agg #[x0, x1, x2, x3, x4, x5]) (.int .i64 0)).run Try.prog w = .ok (.agg #[x0,x1]) w) ∧ (∀ w : World, (Instr.index 135 (.agg #[x0, x1, x2, x3, x4, x5]) (.int .i64 1)).run Try.prog w = .ok (.agg #[x2,x3]) w) ∧ (∀ w : World, (Instr.index 135 (.agg #[x0, x1, x2, x3, x4, x5]) (.int .i64 2)).run Try.prog w = .ok (.agg #[x4,x5]) w) := fun _ _ _ _ _ _ => ⟨fun _ => by kernel_rfl, fun _ => by kernel_rfl, fun _ => by kernel_rfl⟩
  cases a <;> cases t <;> cases c <;>
  · go_enter Try.func50, Try.ntmps50
    go_wp2_with fail
    refine wp_loop_rounds 4 ?_
    rw [rounds_succ]
    go_wp2_with fail
    rw [rounds_succ]
    go_wp2_with fail
    rw [rounds_succ]
    go_wp2_with fail
    rw [rounds_succ]
    go_wp2_with fail
    go_ret
    exact ⟨rfl, by repeat (first | exact Below.refl _ _ | refine below_alloc ?_ _)⟩
theorem Of_spec (i0 i1 i5 i6 i7 i8 i9 i10 : Int) (a t c : Bool) (A : Option Addr) (n k : Nat) :
    Spec0 Try.prog 50 #[.agg #[.int .i64 i0, .int .i64 i1, .bool a, .bool t, .bool c, .int .i64 i5, .int .i64 i6, .int .i64 i7, .int .i64 i8, .int .i64 i9, .int .i64 i10, .slice A n k]] (fun v N => v = .int .i64 (ofBits a t c) ∧ N = []) := by
  intro w
  refine (Of_any i0 i1 i5 i6 i7 i8 i9 i10 a t c A n k w).mono ?_
  rintro e w' ⟨rfl, hb⟩
  exact ⟨_, _, rfl, ⟨rfl, rfl⟩, Fr.of_below hb, trivial⟩
end Go.Proofs.Ytahjmpipllajcaa.Sl
namespace Go.Proofs.Ytahjmpipllajcaa.Sl
open Go.RowKit
set_option linter.unusedVariables false
def gARead (n : Int) : Option (Bool × Bool × Bool) := some (bitAt n 3, bitAt n 4, bitAt n 5)
theorem gARead_eq (n : Int) : gARead n = some (bitAt n 3, bitAt n 4, bitAt n 5) := rfl
theorem gARead_spec (n : Int) (r : Bool × Bool × Bool) (h : gARead n = some r) (w : World) : Calls Try.prog 104 #[.int .i64 n] w fun e w' => e = .returned (.tuple #[.bool r.1, .bool r.2.1, .bool r.2.2]) ∧ w = w' := by
  obtain rfl := Option.some.inj h
  exact ARead_any n w
def gACheck (n : Int) : Option Int := if -9223372036854775808 ≤ n ∧ n ≤ 9223372036854775807 then some (acheck n) else none
theorem gACheck_eq (n : Int) (h : -9223372036854775808 ≤ n ∧ n ≤ 9223372036854775807) : gACheck n = some (acheck n) := if_pos h
theorem gACheck_spec (n : Int) (r : Int) (h : gACheck n = some r) (w : World) : Calls Try.prog 103 #[.int .i64 n] w fun e w' => e = .returned (.int .i64 r) ∧ w = w' := by
  obtain ⟨h1, h⟩ := guard_some h
  obtain rfl := Option.some.inj h
  exact ACheck_any n h1.1 h1.2 w
def gAOf (b : Bat) : Option Int := some (ofBits b.fAppend b.fTxn b.fControl)
theorem gAOf_eq (b : Bat) : gAOf b = some (ofBits b.fAppend b.fTxn b.fControl) := rfl
theorem gAOf_spec (b : Bat) (A : Option Addr) (c : Nat) (r : Int) (h : gAOf b = some r) : SpecX Try.prog 50 #[.agg #[.int .i64 b.fBase, .int .i64 b.fLeader, .bool b.fAppend, .bool b.fTxn, .bool b.fControl, .int .i64 b.fLast, .int .i64 b.fFirst, .int .i64 b.fMax, .int .i64 b.fProducer, .int .i64 b.fEpoch, .int .i64 b.fSequence, .slice A b.fRecords.length c]]
    (RX.of (sliceRd 7 Rec_rd) [.slice A b.fRecords.length c] b.fRecords) EmpR (fun u A' N => u = .int .i64 r ∧ A' = EmpR ∧ N = []) := by
  obtain rfl := Option.some.inj h
  exact SpecX.of_spec0_2 (Of_spec _ _ _ _ _ _ _ _ _ _ _ _ _ _)
end Go.Proofs.Ytahjmpipllajcaa.Sl
namespace Go.Proofs.Ytahjmpipllajcaa.Sl
open Go.RowKit
set_option linter.unusedVariables false
set_option linter.unusedSimpArgs false
set_option maxRecDepth 100000
def ft_control : FTab := [(80, 0, 0), (80, 1, 1), (83, 1, 1), (83, 2, 2), (83, 3, 4), (83, 4, 6)]
theorem ft_control_ok : (ft_control).OK Try.prog := ⟨FOK.mk Try.runUnderlying80 rfl Try.sizeOf4 rfl, FOK.mk Try.runUnderlying80 rfl Try.sizeOf9 rfl, FOK.mk Try.runUnderlying83 rfl Try.sizeOf3 rfl, FOK.mk Try.runUnderlying83 rfl Try.sizeOf80 rfl, FOK.mk Try.runUnderlying83 rfl Try.sizeOf80 rfl, FOK.mk Try.runUnderlying83 rfl Try.sizeOf81 rfl, trivial⟩
def f_control_version (st : I)  : Option (I) := (gInt st 2).bind fun (x1, st2) => if x1 = 0 then some st2 else ((gIFail st2 7).bind fun st5 => some st5)
set_option maxRecDepth 100000 in
set_option maxHeartbeats 4000000 in
theorem f_control_version_spec (g : Nat) (st : I)  (r : I) (h : f_control_version st  = some r) : SpecX Try.prog 94 #[.pointer (some ⟨g, 0, none⟩)] .triv (InR g st) (fun v A' N => v = .tuple #[] ∧ A' = InR g r ∧ N = []) := by
  refine enterA Try.func94 rfl Try.ntmps94 rfl ?_
  intro F w hX
  unfold f_control_version at h
  refine T.seq (T.region rfl ?_)
  obtain ⟨⟨x1, st2⟩, hx3, h⟩ := Option.bind_eq_some_iff.1 h
  try dsimp only at h
  refine TL.run ft_control_ok [0] rfl rfl ?_
  refine TL.c0 rfl .u (.fn Try.call95 rfl) (gInt_spec g st 2 _ hx3) (fun _ hs => (Src.triv _)) rfl ?_
  refine TL.run ft_control_ok [2] rfl rfl ?_
  by_cases c4 : x1 = 0
  · replace h := ifT c4 h
    refine TL.nil (X.seq ?_)
    refine T.no rfl (bn_f (decide_eq_true c4)) ?_
    obtain rfl := Option.some.inj h
    exact T.skip (X.done0 [0] Try.results94 ⟨rfl, rfl, rfl⟩ (by rfl) (.inr rfl))
  · replace h := ifF c4 h
    refine TL.nil (X.seq ?_)
    refine T.yes rfl (bn_t (decide_eq_false c4)) ?_
    refine T.region rfl ?_
    obtain ⟨st5, hx6, h⟩ := Option.bind_eq_some_iff.1 h
    refine TL.run ft_control_ok [0] rfl rfl ?_
    refine TL.c0 rfl .u (.fn Try.call85 rfl) (gIFail_spec g st2 7 _ hx6) (fun _ hs => (Src.triv _)) rfl ?_
    obtain rfl := Option.some.inj h
    exact TL.nil (X.done0 [0] Try.results94 ⟨rfl, rfl, rfl⟩ (by rfl) (.inr rfl))
def f_control_ReadKey (a0 : List UInt8) : Option (Int × Int) := (gNew a0).bind fun st1 => (f_control_version st1).bind fun st4 => (gInt st4 2).bind fun (x6, st7) => if x6 = 0 then ((gClose st7).bind fun (x10, st11) => if x10 = 0 then some (x6, 0) else some (0, x10)) else (if x6 = 1 then ((gClose st7).bind fun (x15, st16) => if x15 = 0 then some (x6, 0) else some (0, x15)) else ((gIFail st7 12).bind fun st19 => (gClose st19).bind fun (x21, st22) => if x21 = 0 then some (x6, 0) else some (0, x21)))
set_option maxRecDepth 100000 in
set_option maxHeartbeats 4000000 in
theorem f_control_ReadKey_spec (a0 : List UInt8) (r : Int × Int) (h : f_control_ReadKey a0 = some r) : SpecX Try.prog 75 #[.string (bsOf a0)] .triv (EmpR) (fun v A' N => v = .tuple #[.int .i64 r.1, .int .i64 r.2] ∧ A' = EmpR ∧ N = []) := by
  refine enterA Try.func75 rfl Try.ntmps75 rfl ?_
  intro F w hX
  unfold f_control_ReadKey at h
  refine T.seq (T.region rfl ?_)
  refine TL.run ft_control_ok [0, 1] rfl rfl ?_
  refine TL.nil (X.seq (T.seq (T.region rfl ?_)))
  obtain ⟨st1, hx2, h⟩ := Option.bind_eq_some_iff.1 h
  refine TL.run ft_control_ok [0] rfl rfl ?_
  refine TL.cge rfl .u (.fn Try.call56 rfl) (gNew_spec a0 _ hx2) (fun _ hs => (RX.reads_triv _ _)) rfl ?_
  rintro _ _ _ ⟨b3, rfl, rfl, rfl⟩
  refine TL.sel [0, 0] rfl ?_
  refine TL.run ft_control_ok [2] rfl rfl ?_
  refine TL.nil (X.seq (T.seq (T.region rfl ?_)))
  obtain ⟨st4, hx5, h⟩ := Option.bind_eq_some_iff.1 h
  refine TL.run ft_control_ok [0] rfl rfl ?_
  refine TL.c0 rfl .u (.fn Try.call94 rfl) (f_control_version_spec b3 st1 _ hx5) (fun _ hs => (Src.triv _)) rfl ?_
  refine TL.nil (X.seq (T.seq (T.region rfl ?_)))
  obtain ⟨⟨x6, st7⟩, hx8, h⟩ := Option.bind_eq_some_iff.1 h
  try dsimp only at h
  refine TL.run ft_control_ok [0] rfl rfl ?_
  refine TL.c0 rfl .u (.fn Try.call95 rfl) (gInt_spec b3 st4 2 _ hx8) (fun _ hs => (Src.triv _)) rfl ?_
  refine TL.run ft_control_ok [2] rfl rfl ?_
  refine TL.nil (X.seq (T.seq (T.seq (T.region rfl ?_))))
  by_cases c9 : x6 = 0
  · replace h := ifT c9 h
    refine TL.run ft_control_ok [0, 1, 2] rfl rfl ?_
    refine TL.no rfl (.gn rfl rfl (bn_f (decide_eq_true c9))) rfl ?_
    refine TL.no rfl (.gn rfl rfl (bn_f (decide_eq_true c9))) rfl ?_
    refine TL.q rfl .u (Ex.pn rfl (bn_f (decide_eq_true c9)) rfl) rfl ?_
    refine TL.nil (X.seq ?_)
    refine T.no rfl rfl ?_
    refine T.skip (X.seq (T.seq (T.seq (T.region rfl ?_))))
    obtain ⟨⟨x10, st11⟩, hx12, h⟩ := Option.bind_eq_some_iff.1 h
    try dsimp only at h
    refine TL.run ft_control_ok [0] rfl rfl ?_
    refine TL.c0 rfl .u (.fn Try.call96 rfl) (gClose_spec b3 st7 _ hx12) (fun _ hs => (Src.triv _)) rfl ?_
    refine TL.run ft_control_ok [2] rfl rfl ?_
    refine TL.nil (X.seq (T.seq (T.region rfl ?_)))
    refine TL.run ft_control_ok [0, 1] rfl rfl ?_
    by_cases c13 : x10 = 0
    · replace h := ifT c13 h
      refine TL.nil (X.seq ?_)
      refine T.no rfl (bn_f (decide_eq_true c13)) ?_
      refine T.skip (X.seq (T.seq (T.region rfl ?_)))
      refine TL.run ft_control_ok [0, 1, 2] rfl rfl ?_
      obtain rfl := Option.some.inj h
      exact TL.nil (X.seq (T.ret (X.done2 [1] Try.results75 (RV.tm rfl) (RV.tm rfl) ⟨rfl, rfl, rfl⟩ (by rfl) (.inl rfl))))
    · replace h := ifF c13 h
      refine TL.nil (X.seq ?_)
      refine T.yes rfl (bn_t (decide_eq_false c13)) ?_
      refine T.seq (T.region rfl ?_)
      refine TL.run ft_control_ok [0, 1, 2] rfl rfl ?_
      obtain rfl := Option.some.inj h
      exact TL.nil (X.seq (T.ret (X.rs (X.done2 [1] Try.results75 (RV.tm rfl) (RV.tm rfl) ⟨rfl, rfl, rfl⟩ (by rfl) (.inl rfl)))))
  · replace h := ifF c9 h
    refine TL.run ft_control_ok [0, 1, 2] rfl rfl ?_
    refine TL.q rfl (.g rfl rfl (bn_t (decide_eq_false c9))) (Ex.ft ft_control_ok rfl) rfl ?_
    refine TL.q rfl (.g rfl rfl (bn_t (decide_eq_false c9))) (Ex.ft ft_control_ok rfl) rfl ?_
    refine TL.q rfl .u (Ex.py rfl (bn_t (decide_eq_false c9)) rfl) rfl ?_
    by_cases c14 : x6 = 1
    · replace h := ifT c14 h
      refine TL.nil (X.seq ?_)
      refine T.no rfl (bn_f (decide_eq_true c14)) ?_
      refine T.skip (X.seq (T.seq (T.seq (T.region rfl ?_))))
      obtain ⟨⟨x15, st16⟩, hx17, h⟩ := Option.bind_eq_some_iff.1 h
      try dsimp only at h
      refine TL.run ft_control_ok [0] rfl rfl ?_
      refine TL.c0 rfl .u (.fn Try.call96 rfl) (gClose_spec b3 st7 _ hx17) (fun _ hs => (Src.triv _)) rfl ?_
      refine TL.run ft_control_ok [2] rfl rfl ?_
      refine TL.nil (X.seq (T.seq (T.region rfl ?_)))
      refine TL.run ft_control_ok [0, 1] rfl rfl ?_
      by_cases c18 : x15 = 0
      · replace h := ifT c18 h
        refine TL.nil (X.seq ?_)
        refine T.no rfl (bn_f (decide_eq_true c18)) ?_
        refine T.skip (X.seq (T.seq (T.region rfl ?_)))
        refine TL.run ft_control_ok [0, 1, 2] rfl rfl ?_
        obtain rfl := Option.some.inj h
        exact TL.nil (X.seq (T.ret (X.done2 [1] Try.results75 (RV.tm rfl) (RV.tm rfl) ⟨rfl, rfl, rfl⟩ (by rfl) (.inl rfl))))
      · replace h := ifF c18 h
        refine TL.nil (X.seq ?_)
        refine T.yes rfl (bn_t (decide_eq_false c18)) ?_
        refine T.seq (T.region rfl ?_)
        refine TL.run ft_control_ok [0, 1, 2] rfl rfl ?_
        obtain rfl := Option.some.inj h
        exact TL.nil (X.seq (T.ret (X.rs (X.done2 [1] Try.results75 (RV.tm rfl) (RV.tm rfl) ⟨rfl, rfl, rfl⟩ (by rfl) (.inl rfl)))))
    · replace h := ifF c14 h
      refine TL.nil (X.seq ?_)
      refine T.yes rfl (bn_t (decide_eq_false c14)) ?_
      refine T.region rfl ?_
      obtain ⟨st19, hx20, h⟩ := Option.bind_eq_some_iff.1 h
      refine TL.run ft_control_ok [0] rfl rfl ?_
      refine TL.c0 rfl .u (.fn Try.call85 rfl) (gIFail_spec b3 st7 12 _ hx20) (fun _ hs => (Src.triv _)) rfl ?_
      refine TL.nil (X.seq (T.seq (T.seq (T.region rfl ?_))))
      obtain ⟨⟨x21, st22⟩, hx23, h⟩ := Option.bind_eq_some_iff.1 h
      try dsimp only at h
      refine TL.run ft_control_ok [0] rfl rfl ?_
      refine TL.c0 rfl .u (.fn Try.call96 rfl) (gClose_spec b3 st19 _ hx23) (fun _ hs => (Src.triv _)) rfl ?_
      refine TL.run ft_control_ok [2] rfl rfl ?_
      refine TL.nil (X.seq (T.seq (T.region rfl ?_)))
      refine TL.run ft_control_ok [0, 1] rfl rfl ?_
      by_cases c24 : x21 = 0
      · replace h := ifT c24 h
        refine TL.nil (X.seq ?_)
        refine T.no rfl (bn_f (decide_eq_true c24)) ?_
        refine T.skip (X.seq (T.seq (T.region rfl ?_)))
        refine TL.run ft_control_ok [0, 1, 2] rfl rfl ?_
        obtain rfl := Option.some.inj h
        exact TL.nil (X.seq (T.ret (X.done2 [1] Try.results75 (RV.tm rfl) (RV.tm rfl) ⟨rfl, rfl, rfl⟩ (by rfl) (.inl rfl))))
      · replace h := ifF c24 h
        refine TL.nil (X.seq ?_)
        refine T.yes rfl (bn_t (decide_eq_false c24)) ?_
        refine T.seq (T.region rfl ?_)
        refine TL.run ft_control_ok [0, 1, 2] rfl rfl ?_
        obtain rfl := Option.some.inj h
        exact TL.nil (X.seq (T.ret (X.rs (X.done2 [1] Try.results75 (RV.tm rfl) (RV.tm rfl) ⟨rfl, rfl, rfl⟩ (by rfl) (.inl rfl)))))
def f_control_ReadValue (a0 : List UInt8) : Option (Int × Int) := (gNew a0).bind fun st1 => (f_control_version st1).bind fun st4 => (gInt st4 4).bind fun (x6, st7) => if x6 < 0 then ((gIFail st7 11).bind fun st10 => (gClose st10).bind fun (x12, st13) => if x12 = 0 then some (x6, 0) else some (0, x12)) else ((gClose st7).bind fun (x16, st17) => if x16 = 0 then some (x6, 0) else some (0, x16))
set_option maxRecDepth 100000 in
set_option maxHeartbeats 4000000 in
theorem f_control_ReadValue_spec (a0 : List UInt8) (r : Int × Int) (h : f_control_ReadValue a0 = some r) : SpecX Try.prog 76 #[.string (bsOf a0)] .triv (EmpR) (fun v A' N => v = .tuple #[.int .i64 r.1, .int .i64 r.2] ∧ A' = EmpR ∧ N = []) := by
  refine enterA Try.func76 rfl Try.ntmps76 rfl ?_
  intro F w hX
  unfold f_control_ReadValue at h
  refine T.seq (T.region rfl ?_)
  refine TL.run ft_control_ok [0, 1] rfl rfl ?_
  refine TL.nil (X.seq (T.seq (T.region rfl ?_)))
  obtain ⟨st1, hx2, h⟩ := Option.bind_eq_some_iff.1 h
  refine TL.run ft_control_ok [0] rfl rfl ?_
  refine TL.cge rfl .u (.fn Try.call56 rfl) (gNew_spec a0 _ hx2) (fun _ hs => (RX.reads_triv _ _)) rfl ?_
  rintro _ _ _ ⟨b3, rfl, rfl, rfl⟩
  refine TL.sel [0, 0] rfl ?_
  refine TL.run ft_control_ok [2] rfl rfl ?_
  refine TL.nil (X.seq (T.seq (T.region rfl ?_)))
  obtain ⟨st4, hx5, h⟩ := Option.bind_eq_some_iff.1 h
  refine TL.run ft_control_ok [0] rfl rfl ?_
  refine TL.c0 rfl .u (.fn Try.call94 rfl) (f_control_version_spec b3 st1 _ hx5) (fun _ hs => (Src.triv _)) rfl ?_
  refine TL.nil (X.seq (T.seq (T.region rfl ?_)))
  obtain ⟨⟨x6, st7⟩, hx8, h⟩ := Option.bind_eq_some_iff.1 h
  try dsimp only at h
  refine TL.run ft_control_ok [0] rfl rfl ?_
  refine TL.c0 rfl .u (.fn Try.call95 rfl) (gInt_spec b3 st4 4 _ hx8) (fun _ hs => (Src.triv _)) rfl ?_
  refine TL.run ft_control_ok [2] rfl rfl ?_
  refine TL.nil (X.seq (T.seq (T.seq (T.region rfl ?_))))
  refine TL.run ft_control_ok [0, 1] rfl rfl ?_
  by_cases c9 : x6 < 0
  · replace h := ifT c9 h
    refine TL.nil (X.seq ?_)
    refine T.yes rfl (decide_eq_true c9) ?_
    refine T.region rfl ?_
    obtain ⟨st10, hx11, h⟩ := Option.bind_eq_some_iff.1 h
    refine TL.run ft_control_ok [0] rfl rfl ?_
    refine TL.c0 rfl .u (.fn Try.call85 rfl) (gIFail_spec b3 st7 11 _ hx11) (fun _ hs => (Src.triv _)) rfl ?_
    refine TL.nil (X.seq (T.seq (T.seq (T.region rfl ?_))))
    obtain ⟨⟨x12, st13⟩, hx14, h⟩ := Option.bind_eq_some_iff.1 h
    try dsimp only at h
    refine TL.run ft_control_ok [0] rfl rfl ?_
    refine TL.c0 rfl .u (.fn Try.call96 rfl) (gClose_spec b3 st10 _ hx14) (fun _ hs => (Src.triv _)) rfl ?_
    refine TL.run ft_control_ok [2] rfl rfl ?_
    refine TL.nil (X.seq (T.seq (T.region rfl ?_)))
    refine TL.run ft_control_ok [0, 1] rfl rfl ?_
    by_cases c15 : x12 = 0
    · replace h := ifT c15 h
      refine TL.nil (X.seq ?_)
      refine T.no rfl (bn_f (decide_eq_true c15)) ?_
      refine T.skip (X.seq (T.seq (T.region rfl ?_)))
      refine TL.run ft_control_ok [0, 1, 2] rfl rfl ?_
      obtain rfl := Option.some.inj h
      exact TL.nil (X.seq (T.ret (X.done2 [1] Try.results76 (RV.tm rfl) (RV.tm rfl) ⟨rfl, rfl, rfl⟩ (by rfl) (.inl rfl))))
    · replace h := ifF c15 h
      refine TL.nil (X.seq ?_)
      refine T.yes rfl (bn_t (decide_eq_false c15)) ?_
      refine T.seq (T.region rfl ?_)
      refine TL.run ft_control_ok [0, 1, 2] rfl rfl ?_
      obtain rfl := Option.some.inj h
      exact TL.nil (X.seq (T.ret (X.rs (X.done2 [1] Try.results76 (RV.tm rfl) (RV.tm rfl) ⟨rfl, rfl, rfl⟩ (by rfl) (.inl rfl)))))
  · replace h := ifF c9 h
    refine TL.nil (X.seq ?_)
    refine T.no rfl (decide_eq_false c9) ?_
    refine T.skip (X.seq (T.seq (T.seq (T.region rfl ?_))))
    obtain ⟨⟨x16, st17⟩, hx18, h⟩ := Option.bind_eq_some_iff.1 h
    try dsimp only at h
    refine TL.run ft_control_ok [0] rfl rfl ?_
    refine TL.c0 rfl .u (.fn Try.call96 rfl) (gClose_spec b3 st7 _ hx18) (fun _ hs => (Src.triv _)) rfl ?_
    refine TL.run ft_control_ok [2] rfl rfl ?_
    refine TL.nil (X.seq (T.seq (T.region rfl ?_)))
    refine TL.run ft_control_ok [0, 1] rfl rfl ?_
    by_cases c19 : x16 = 0
    · replace h := ifT c19 h
      refine TL.nil (X.seq ?_)
      refine T.no rfl (bn_f (decide_eq_true c19)) ?_
      refine T.skip (X.seq (T.seq (T.region rfl ?_)))
      refine TL.run ft_control_ok [0, 1, 2] rfl rfl ?_
      obtain rfl := Option.some.inj h
      exact TL.nil (X.seq (T.ret (X.done2 [1] Try.results76 (RV.tm rfl) (RV.tm rfl) ⟨rfl, rfl, rfl⟩ (by rfl) (.inl rfl))))
    · replace h := ifF c19 h
      refine TL.nil (X.seq ?_)
      refine T.yes rfl (bn_t (decide_eq_false c19)) ?_
      refine T.seq (T.region rfl ?_)
      refine TL.run ft_control_ok [0, 1, 2] rfl rfl ?_
      obtain rfl := Option.some.inj h
      exact TL.nil (X.seq (T.ret (X.rs (X.done2 [1] Try.results76 (RV.tm rfl) (RV.tm rfl) ⟨rfl, rfl, rfl⟩ (by rfl) (.inl rfl)))))
def f_control_Read (a0 : Rec) : Option (Int × Int × Int) := if a0.fKey.null = true then some (0, 0, 12) else (if a0.fValue.null = true then some (0, 0, 12) else (if (a0.fHeaders.length : Int) > 0 then some (0, 0, 12) else (if a0.fOffset = 0 then ((f_control_ReadKey a0.fKey.data).bind fun (x8, x9) => if x9 = 0 then ((f_control_ReadValue a0.fValue.data).bind fun (x12, x13) => if x13 = 0 then some (x8, x12, 0) else some (0, 0, x13)) else some (0, 0, x9)) else some (0, 0, 12))))
set_option maxRecDepth 100000 in
set_option maxHeartbeats 4000000 in
theorem f_control_Read_spec (a0 : Rec) (A1 : Option Addr) (c2 : Nat) (r : Int × Int × Int) (h : f_control_Read a0 = some r) : SpecX Try.prog 46 #[.agg #[.int .i64 a0.fTime, .int .i64 a0.fOffset, .bool a0.fKey.null, .string (bsOf a0.fKey.data), .bool a0.fValue.null, .string (bsOf a0.fValue.data), .slice A1 a0.fHeaders.length c2]] (RX.of (sliceRd 3 Hd_rd) [.slice A1 a0.fHeaders.length c2] a0.fHeaders) (EmpR) (fun v A' N => v = .tuple #[.int .i64 r.1, .int .i64 r.2.1, .int .i64 r.2.2] ∧ A' = EmpR ∧ N = []) := by
  refine enterA Try.func46 rfl Try.ntmps46 rfl ?_
  intro F w hX
  unfold f_control_Read at h
  refine T.seq (T.region rfl ?_)
  refine TL.box rfl .u rfl rfl (fun b3 => ?_)
  refine TL.run ft_control_ok [1, 2, 3] rfl rfl ?_
  refine TL.nil (X.seq (T.seq (T.seq (T.region rfl ?_))))
  refine TL.run ft_control_ok [0, 1] rfl rfl ?_
  refine TL.q rfl .u (Ex.b1 0 rfl Try.isAgg4 rfl rfl) rfl ?_
  by_cases c4 : a0.fKey.null = true
  · replace h := ifT c4 h
    refine TL.run ft_control_ok [3] rfl rfl ?_
    refine TL.no rfl (.gn rfl rfl c4) rfl ?_
    refine TL.no rfl (.gn rfl rfl c4) rfl ?_
    refine TL.no rfl (.gn rfl rfl c4) rfl ?_
    refine TL.q rfl .u (Ex.py rfl c4 rfl) rfl ?_
    refine TL.run ft_control_ok [8] rfl rfl ?_
    refine TL.no rfl (.gn rfl rfl rfl) rfl ?_
    refine TL.no rfl (.gn rfl rfl rfl) rfl ?_
    refine TL.no rfl (.gn rfl rfl rfl) rfl ?_
    refine TL.no rfl (.gn rfl rfl rfl) rfl ?_
    refine TL.q rfl .u (Ex.py rfl rfl rfl) rfl ?_
    refine TL.run ft_control_ok [14] rfl rfl ?_
    refine TL.no rfl (.gn rfl rfl rfl) rfl ?_
    refine TL.no rfl (.gn rfl rfl rfl) rfl ?_
    refine TL.no rfl (.gn rfl rfl rfl) rfl ?_
    refine TL.q rfl .u (Ex.py rfl rfl rfl) rfl ?_
    refine TL.nil (X.seq ?_)
    refine T.yes rfl rfl ?_
    refine T.seq (T.region rfl ?_)
    refine TL.run ft_control_ok [0, 1, 2] rfl rfl ?_
    obtain rfl := Option.some.inj h
    exact TL.nil (X.seq (T.ret (X.rs (X.done3 [1] Try.results46 (RV.tm rfl) (RV.tm rfl) (RV.tm rfl) ⟨rfl, rfl, rfl⟩ (by rfl) (.inl rfl)))))
  · replace h := ifF c4 h
    replace c4 := eq_false_of_ne_true c4
    refine TL.run ft_control_ok [3] rfl rfl ?_
    refine TL.q rfl (.g rfl rfl c4) (Ex.ft ft_control_ok rfl) rfl ?_
    refine TL.q rfl (.g rfl rfl c4) (Ex.ft ft_control_ok rfl) rfl ?_
    refine TL.q rfl (.g rfl rfl c4) (Ex.b1 0 rfl Try.isAgg4 rfl rfl) rfl ?_
    refine TL.q rfl .u (Ex.pn rfl c4 rfl) rfl ?_
    by_cases c5 : a0.fValue.null = true
    · replace h := ifT c5 h
      refine TL.run ft_control_ok [8] rfl rfl ?_
      refine TL.no rfl (.gn rfl rfl c5) rfl ?_
      refine TL.no rfl (.gn rfl rfl c5) rfl ?_
      refine TL.no rfl (.gn rfl rfl c5) rfl ?_
      refine TL.no rfl (.gn rfl rfl c5) rfl ?_
      refine TL.q rfl .u (Ex.py rfl c5 rfl) rfl ?_
      refine TL.run ft_control_ok [14] rfl rfl ?_
      refine TL.no rfl (.gn rfl rfl rfl) rfl ?_
      refine TL.no rfl (.gn rfl rfl rfl) rfl ?_
      refine TL.no rfl (.gn rfl rfl rfl) rfl ?_
      refine TL.q rfl .u (Ex.py rfl rfl rfl) rfl ?_
      refine TL.nil (X.seq ?_)
      refine T.yes rfl rfl ?_
      refine T.seq (T.region rfl ?_)
      refine TL.run ft_control_ok [0, 1, 2] rfl rfl ?_
      obtain rfl := Option.some.inj h
      exact TL.nil (X.seq (T.ret (X.rs (X.done3 [1] Try.results46 (RV.tm rfl) (RV.tm rfl) (RV.tm rfl) ⟨rfl, rfl, rfl⟩ (by rfl) (.inl rfl)))))
    · replace h := ifF c5 h
      replace c5 := eq_false_of_ne_true c5
      refine TL.run ft_control_ok [8] rfl rfl ?_
      refine TL.q rfl (.g rfl rfl c5) (Ex.ft ft_control_ok rfl) rfl ?_
      refine TL.q rfl (.g rfl rfl c5) (Ex.b1 0 rfl Try.isAgg81 rfl rfl) rfl ?_
      refine TL.q rfl (.g rfl rfl c5) (Ex.lenS rfl Try.runUnderlying81) rfl ?_
      refine TL.q rfl (.g rfl rfl c5) (Ex.ft ft_control_ok rfl) rfl ?_
      refine TL.q rfl .u (Ex.pn rfl c5 rfl) rfl ?_
      by_cases c6 : (a0.fHeaders.length : Int) > 0
      · replace h := ifT c6 h
        refine TL.run ft_control_ok [14] rfl rfl ?_
        refine TL.no rfl (.gn rfl rfl (decide_eq_true c6)) rfl ?_
        refine TL.no rfl (.gn rfl rfl (decide_eq_true c6)) rfl ?_
        refine TL.no rfl (.gn rfl rfl (decide_eq_true c6)) rfl ?_
        refine TL.q rfl .u (Ex.py rfl (decide_eq_true c6) rfl) rfl ?_
        refine TL.nil (X.seq ?_)
        refine T.yes rfl rfl ?_
        refine T.seq (T.region rfl ?_)
        refine TL.run ft_control_ok [0, 1, 2] rfl rfl ?_
        obtain rfl := Option.some.inj h
        exact TL.nil (X.seq (T.ret (X.rs (X.done3 [1] Try.results46 (RV.tm rfl) (RV.tm rfl) (RV.tm rfl) ⟨rfl, rfl, rfl⟩ (by rfl) (.inl rfl)))))
      · replace h := ifF c6 h
        refine TL.run ft_control_ok [14] rfl rfl ?_
        refine TL.q rfl (.g rfl rfl (decide_eq_false c6)) (Ex.ft ft_control_ok rfl) rfl ?_
        refine TL.q rfl (.g rfl rfl (decide_eq_false c6)) (Ex.b1 0 rfl Try.isAgg3 rfl rfl) rfl ?_
        refine TL.q rfl (.g rfl rfl (decide_eq_false c6)) (Ex.ft ft_control_ok rfl) rfl ?_
        refine TL.q rfl .u (Ex.pn rfl (decide_eq_false c6) rfl) rfl ?_
        by_cases c7 : a0.fOffset = 0
        · replace h := ifT c7 h
          refine TL.nil (X.seq ?_)
          refine T.no rfl (bn_f (decide_eq_true c7)) ?_
          refine T.skip (X.seq (T.seq (T.seq (T.region rfl ?_))))
          refine TL.run ft_control_ok [0, 1] rfl rfl ?_
          refine TL.q rfl .u (Ex.b1 0 rfl Try.isAgg9 rfl rfl) rfl ?_
          obtain ⟨⟨x8, x9⟩, hx10, h⟩ := Option.bind_eq_some_iff.1 h
          try dsimp only at h
          refine TL.ce rfl .u (.fn Try.call75 rfl) (f_control_ReadKey_spec a0.fKey.data _ hx10) (fun _ hs => (RX.reads_triv _ _)) rfl ?_
          refine TL.run ft_control_ok [4, 5, 6, 7, 8] rfl rfl ?_
          refine TL.nil (X.seq (T.seq (T.region rfl ?_)))
          refine TL.run ft_control_ok [0, 1] rfl rfl ?_
          by_cases c11 : x9 = 0
          · replace h := ifT c11 h
            refine TL.nil (X.seq ?_)
            refine T.no rfl (bn_f (decide_eq_true c11)) ?_
            refine T.skip (X.seq (T.seq (T.seq (T.region rfl ?_))))
            refine TL.run ft_control_ok [0, 1] rfl rfl ?_
            refine TL.q rfl .u (Ex.b1 0 rfl Try.isAgg9 rfl rfl) rfl ?_
            obtain ⟨⟨x12, x13⟩, hx14, h⟩ := Option.bind_eq_some_iff.1 h
            try dsimp only at h
            refine TL.ce rfl .u (.fn Try.call76 rfl) (f_control_ReadValue_spec a0.fValue.data _ hx14) (fun _ hs => (RX.reads_triv _ _)) rfl ?_
            refine TL.run ft_control_ok [4, 5, 6, 7, 8] rfl rfl ?_
            refine TL.nil (X.seq (T.seq (T.region rfl ?_)))
            refine TL.run ft_control_ok [0, 1] rfl rfl ?_
            by_cases c15 : x13 = 0
            · replace h := ifT c15 h
              refine TL.nil (X.seq ?_)
              refine T.no rfl (bn_f (decide_eq_true c15)) ?_
              refine T.skip (X.seq (T.seq (T.region rfl ?_)))
              refine TL.run ft_control_ok [0, 1, 2, 3, 4] rfl rfl ?_
              obtain rfl := Option.some.inj h
              exact TL.nil (X.seq (T.ret (X.done3 [1] Try.results46 (RV.tm rfl) (RV.tm rfl) (RV.tm rfl) ⟨rfl, rfl, rfl⟩ (by rfl) (.inl rfl))))
            · replace h := ifF c15 h
              refine TL.nil (X.seq ?_)
              refine T.yes rfl (bn_t (decide_eq_false c15)) ?_
              refine T.seq (T.region rfl ?_)
              refine TL.run ft_control_ok [0, 1, 2, 3] rfl rfl ?_
              obtain rfl := Option.some.inj h
              exact TL.nil (X.seq (T.ret (X.rs (X.done3 [1] Try.results46 (RV.tm rfl) (RV.tm rfl) (RV.tm rfl) ⟨rfl, rfl, rfl⟩ (by rfl) (.inl rfl)))))
          · replace h := ifF c11 h
            refine TL.nil (X.seq ?_)
            refine T.yes rfl (bn_t (decide_eq_false c11)) ?_
            refine T.seq (T.region rfl ?_)
            refine TL.run ft_control_ok [0, 1, 2, 3] rfl rfl ?_
            obtain rfl := Option.some.inj h
            exact TL.nil (X.seq (T.ret (X.rs (X.done3 [1] Try.results46 (RV.tm rfl) (RV.tm rfl) (RV.tm rfl) ⟨rfl, rfl, rfl⟩ (by rfl) (.inl rfl)))))
        · replace h := ifF c7 h
          refine TL.nil (X.seq ?_)
          refine T.yes rfl (bn_t (decide_eq_false c7)) ?_
          refine T.seq (T.region rfl ?_)
          refine TL.run ft_control_ok [0, 1, 2] rfl rfl ?_
          obtain rfl := Option.some.inj h
          exact TL.nil (X.seq (T.ret (X.rs (X.done3 [1] Try.results46 (RV.tm rfl) (RV.tm rfl) (RV.tm rfl) ⟨rfl, rfl, rfl⟩ (by rfl) (.inl rfl)))))
end Go.Proofs.Ytahjmpipllajcaa.Sl
