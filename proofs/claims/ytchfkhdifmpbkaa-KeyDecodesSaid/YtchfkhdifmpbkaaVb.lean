/- What is written as a number is read again. -/
import Derived.Test.YtchfkhdifmpbkaaVr
namespace Go.Proofs.Ytchfkhdifmpbkaa.Sl
open Go.RowKit
set_option linter.unusedVariables false
theorem pow_lt_cancel {a b : Nat} (h : 2 ^ a < 2 ^ b) : a < b := (Nat.pow_lt_pow_iff_right (by decide)).1 h
theorem vgo_put (bs : Int) (hb : 0 < bs) : ∀ (v pos acc i : Nat) (r : List UInt8), acc + v * 2 ^ (7 * i) < 2 ^ bs.toNat → (0 < i → 0 < v) →
    vgo bs (vput v ++ r) pos acc i = (acc + v * 2 ^ (7 * i), ⟨r, pos + (vput v).length, 0⟩) := by
  intro v
  induction v using Nat.strongRecOn with
  | _ v ih =>
    intro pos acc i r h hi
    have h7 : (7 * i : Int) < bs := by
      rcases Nat.eq_zero_or_pos i with h0 | h0
      · subst h0; omega
      · have hv := hi h0
        have h2 : 1 * 2 ^ (7 * i) ≤ v * 2 ^ (7 * i) := Nat.mul_le_mul_right _ hv
        have h3 := pow_lt_cancel (show 2 ^ (7 * i) < 2 ^ bs.toNat by omega)
        omega
    have hleft : ∀ d : Nat, d ≤ v → d / 2 ^ (bs - 7 * i).toNat = 0 := by
      intro d hd
      have e : 2 ^ bs.toNat = 2 ^ (bs - 7 * i).toNat * 2 ^ (7 * i) := by rw [← Nat.pow_add]; congr 1; omega
      have h2 : d * 2 ^ (7 * i) ≤ v * 2 ^ (7 * i) := Nat.mul_le_mul_right _ hd
      have h3 : d < 2 ^ (bs - 7 * i).toNat := by
        apply Nat.lt_of_mul_lt_mul_right (a := 2 ^ (7 * i))
        omega
      exact Nat.div_eq_of_lt h3
    rw [vput]
    split
    · rename_i hlt
      have hc : (UInt8.ofNat v).toNat = v := by simp [UInt8.toNat_ofNat']; omega
      simp only [List.cons_append, List.nil_append, vgo, hc, Nat.mod_eq_of_lt hlt, hleft v (Nat.le_refl _)]
      rw [if_neg (by simp; omega), if_neg (by omega), if_neg (by rintro ⟨h1, h2⟩; have := hi h2; omega)]
      simp
    · rename_i hge
      have hc : (UInt8.ofNat (v % 128 + 128)).toNat = v % 128 + 128 := by simp [UInt8.toNat_ofNat']; omega
      have e2 : 2 ^ (7 * (i + 1)) = 128 * 2 ^ (7 * i) := by rw [show 7 * (i + 1) = 7 + 7 * i by omega, Nat.pow_add]
      have e3 : acc + v % 128 * 2 ^ (7 * i) + v / 128 * 2 ^ (7 * (i + 1)) = acc + v * 2 ^ (7 * i) := by
        rw [e2]
        generalize 2 ^ (7 * i) = z
        have h1 : v / 128 * (128 * z) = v / 128 * 128 * z := by rw [Nat.mul_assoc]
        rw [h1, Nat.add_assoc, ← Nat.add_mul]
        congr 2
        omega
      simp only [List.cons_append, vgo, hc]
      rw [show (v % 128 + 128) % 128 = v % 128 by omega, hleft (v % 128) (Nat.mod_le _ _), if_neg (by simp; omega), if_pos (by omega), ih (v / 128) (by omega) _ _ _ _ (by rw [e3]; exact h) (by omega), e3]
      simp; omega
theorem vread_put (bs : Int) (hb : 0 < bs) (v pos : Nat) (r : List UInt8) (h : v < 2 ^ bs.toNat) : vread bs ⟨vput v ++ r, pos, 0⟩ = (v, ⟨r, pos + (vput v).length, 0⟩) := by
  unfold vread
  rw [if_neg (by simp), vgo_put bs hb v pos 0 0 r (by simpa using h) (by omega)]
  simp
theorem vread_put32 (v pos : Nat) (r : List UInt8) (h : v < 4294967296) : vread 32 ⟨vput v ++ r, pos, 0⟩ = (v, ⟨r, pos + (vput v).length, 0⟩) := vread_put 32 (by decide) v pos r (by rw [show 2 ^ (32 : Int).toNat = 4294967296 by decide]; exact h)
theorem vread_put64 (v pos : Nat) (r : List UInt8) (h : v < 18446744073709551616) : vread 64 ⟨vput v ++ r, pos, 0⟩ = (v, ⟨r, pos + (vput v).length, 0⟩) := vread_put 64 (by decide) v pos r (by rw [show 2 ^ (64 : Int).toNat = 18446744073709551616 by decide]; exact h)
theorem vfold_lt32 (n : Int) (h : -2147483648 ≤ n ∧ n ≤ 2147483647) : vfold n < 4294967296 := by unfold vfold; split <;> omega
end Go.Proofs.Ytchfkhdifmpbkaa.Sl
