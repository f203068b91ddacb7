/- CrcSums: for every input the law returns true, and its arguments read behind the call as they did before. -/
import Derived.Test.YtpiiopppbgpbpaaRows
import Derived.WalkKit
import Derived.ProofKit
import Derived.OpenShut
import Derived.ShutString
import Derived.ChangeOld
import Derived.Below
import Derived.SizedLaws
import Derived.Test.YtpiiopppbgpbpaaK0
namespace Go.Proofs.Ytpiiopppbgpbpaa.Sl
open Go.RowKit
set_option linter.unusedVariables false
set_option linter.unusedSimpArgs false
def bI (x j : Nat) : Int := if x.testBit j then 1 else 0
theorem bI_mod (x j : Nat) : bI x j = ((x / 2 ^ j % 2 : Nat) : Int) := by
  unfold bI
  rw [Nat.testBit_eq_decide_div_mod_eq]
  rcases Nat.mod_two_eq_zero_or_one (x / 2 ^ j) with h | h <;> rw [h] <;> rfl
theorem bI_01 (x j : Nat) : bI x j = 0 ∨ bI x j = 1 := by
  unfold bI
  by_cases h : x.testBit j = true
  · rw [if_pos h]; exact .inr rfl
  · rw [if_neg h]; exact .inl rfl
theorem bI_xor (x y j : Nat) : bI (x ^^^ y) j = (bI x j + bI y j) % 2 := by
  unfold bI
  rw [Nat.testBit_xor]
  cases x.testBit j <;> cases y.testBit j <;> rfl
theorem bI_half (x j : Nat) : bI (x / 2) j = bI x (j + 1) := by
  unfold bI
  rw [Nat.testBit_succ]
theorem leN_byte : ∀ (s : List UInt8) (k : Nat) (c : UInt8), s[k]? = some c → ∀ j, j < 8 → (leN s).testBit (8 * k + j) = c.toNat.testBit j
  | [], k, c, h, j, hj => by simp at h
  | a :: s, 0, c, h, j, hj => by
    obtain rfl : a = c := by simpa using h
    show (a.toNat + 256 * leN s).testBit (8 * 0 + j) = _
    rw [show a.toNat + 256 * leN s = 2 ^ 8 * leN s + a.toNat by omega, Nat.testBit_two_pow_mul_add _ (show a.toNat < 2 ^ 8 from a.toNat_lt), if_pos (by omega), Nat.mul_zero, Nat.zero_add]
  | a :: s, k + 1, c, h, j, hj => by
    show (a.toNat + 256 * leN s).testBit _ = _
    rw [show a.toNat + 256 * leN s = 2 ^ 8 * leN s + a.toNat by omega, Nat.testBit_two_pow_mul_add _ (show a.toNat < 2 ^ 8 from a.toNat_lt), if_neg (by omega), show 8 * (k + 1) + j - 8 = 8 * k + j by omega]
    exact leN_byte s k c (by simpa using h) j hj
theorem bit_l1 (a : Int) (ha : 0 ≤ a) (hb : a ≤ 9223372036854775807) : ∀ (m y k : Nat), y < 256 → k ≤ (a % 8).toNat → (a % 8).toNat - k < m → f_r05_bit_l1 a m (y : Int) k = some (((y / 2 ^ ((a % 8).toNat - k) : Nat) : Int), (a % 8).toNat)
  | 0, _, _, _, _, h => by omega
  | m + 1, y, k, hy, hk, hm => by
    rw [f_r05_bit_l1, if_pos ⟨ha, hb⟩]
    by_cases h : k < (a % 8).toNat
    · rw [if_pos (by omega), if_pos (by omega), if_pos (by omega), show ((y : Int) / 2) = ((y / 2 : Nat) : Int) by omega, bit_l1 a ha hb m (y / 2) (k + 1) (by omega) (by omega) (by omega), Nat.div_div_eq_div_mul,
        show (a % 8).toNat - k = ((a % 8).toNat - (k + 1)) + 1 by omega, Nat.pow_succ, Nat.mul_comm 2]
    · rw [if_neg (by omega), show (a % 8).toNat - k = 0 by omega, Nat.pow_zero, Nat.div_one, show k = (a % 8).toNat by omega]
theorem r05_bit (s : List UInt8) (i : Nat) (hi : i < 8 * s.length) (hb : i ≤ 9223372036854775807) : f_r05_bit s (i : Int) = some (bI (leN s) i) := by
  unfold f_r05_bit
  have hk : i / 8 < s.length := by omega
  have e1 : s[i / 8]? = some s[i / 8] := List.getElem?_eq_getElem hk
  have hc := s[i / 8].toNat_lt
  have e2 := bit_l1 (i : Int) (by omega) (by omega) (((i : Int) % 8).toNat + 1) s[i / 8].toNat 0 (by omega) (by omega) (by omega)
  have e3 : ((i : Int) % 8).toNat = i % 8 := by omega
  rw [if_pos (by omega), if_pos (by omega), show ((i : Int) / 8).toNat = i / 8 by omega, e1, Option.bind_some, if_pos (by omega), e2, Option.bind_some, e3, Nat.sub_zero]
  dsimp only
  have h4 : s[i / 8].toNat / 2 ^ (i % 8) ≤ s[i / 8].toNat := Nat.div_le_self _ _
  suffices h6 : bI (leN s) i = ((s[i / 8].toNat / 2 ^ (i % 8) % 2 : Nat) : Int) by
    rw [h6]
    generalize s[i / 8].toNat / 2 ^ (i % 8) = q at h4 ⊢
    rw [if_pos (by omega)]
    congr 1
  have h5 := leN_byte s (i / 8) _ e1 (i % 8) (by omega)
  rw [show 8 * (i / 8) + i % 8 = i by omega] at h5
  unfold bI
  rw [h5]
  exact bI_mod _ _
theorem r05_power : ∀ i : Nat, i < 32 → f_r05_power (31 - (i : Int)) = some (bI crcP i) := by decide +kernel
def Bts (L k : Nat) (l : List Int) (x : Nat) : Prop := l.length = L ∧ ∀ j, k + j < L → l[k + j]? = some (bI x j)
theorem r05_l1 (s : List UInt8) (hs : s.length ≤ 1000000) : ∀ (m k : Nat) (l : List Int), l.length = 8 * s.length + 32 → k ≤ 8 * s.length → 8 * s.length - k < m → (∀ j, j < k → l[j]? = some (bI (leN s) j)) → (∀ j, k ≤ j → j < 8 * s.length + 32 → l[j]? = some 0) →
    ∃ l', f_r05_Sum_l1 s m l k = some (l', 8 * s.length) ∧ Bts (8 * s.length + 32) 0 l' (leN s)
  | 0, _, _, _, _, h, _, _ => by omega
  | m + 1, k, l, hl, hk, hm, h1, h2 => by
    rw [f_r05_Sum_l1]
    by_cases h : k < 8 * s.length
    · rw [if_pos (by omega), r05_bit s k h (by omega), Option.bind_some, h2 k (Nat.le_refl _) (by omega), Option.bind_some, if_pos (by omega)]
      refine r05_l1 s hs m (k + 1) _ (by rw [List.length_set]; exact hl) (by omega) (by omega) (fun j hj => ?_) (fun j hj hj2 => ?_)
      · rw [List.getElem?_set]
        by_cases e : k = j
        · rw [if_pos e, if_pos (by omega), e]
        · rw [if_neg e]; exact h1 j (by omega)
      · rw [List.getElem?_set, if_neg (by omega)]
        exact h2 j (by omega) hj2
    · have hk2 : k = 8 * s.length := by omega
      rw [if_neg (by omega), hk2]
      refine ⟨l, rfl, hl, fun j hj => ?_⟩
      rw [Nat.zero_add] at hj ⊢
      by_cases e : j < k
      · exact h1 j e
      · rw [h2 j (by omega) hj]
        unfold bI
        rw [Nat.testBit_lt_two_pow (Nat.lt_of_lt_of_le (leN_lt s) (Nat.pow_le_pow_right (by decide) (by omega)))]
        rfl
theorem bI_ones (k j : Nat) : bI (2 ^ k - 1) j = if j < k then 1 else 0 := by
  unfold bI
  rw [Nat.testBit_two_pow_sub_one]
  by_cases h : j < k <;> simp [h]
theorem r05_l2 (x L : Nat) (hL : 32 ≤ L) : ∀ (m k : Nat) (l : List Int), k ≤ 32 → 32 - k < m → Bts L 0 l (x ^^^ (2 ^ k - 1)) → ∃ l', f_r05_Sum_l2 m l k = some (l', 32) ∧ Bts L 0 l' (x ^^^ 4294967295)
  | 0, _, _, _, h, _ => by omega
  | m + 1, k, l, hk, hm, hB => by
    rw [f_r05_Sum_l2]
    by_cases h : k < 32
    · have e := hB.2 k (by omega)
      rw [Nat.zero_add] at e
      rw [if_pos (by omega), e, Option.bind_some]
      have h01 := bI_01 (x ^^^ (2 ^ k - 1)) k
      rw [if_pos (by omega), if_pos (by omega)]
      refine r05_l2 x L hL m (k + 1) _ (by omega) (by omega) ⟨by rw [List.length_set]; exact hB.1, fun j hj => ?_⟩
      rw [Nat.zero_add] at hj ⊢
      have e2 := hB.2 j (by omega)
      rw [Nat.zero_add] at e2
      have R : bI (x ^^^ (2 ^ (k + 1) - 1)) j = (bI x j + if j < k + 1 then 1 else 0) % 2 := by rw [bI_xor, bI_ones]
      have R0 : bI (x ^^^ (2 ^ k - 1)) j = (bI x j + if j < k then 1 else 0) % 2 := by rw [bI_xor, bI_ones]
      rw [List.getElem?_set, R]
      by_cases e3 : k = j
      · subst e3
        rw [if_pos rfl, if_pos (by rw [hB.1]; exact hj), if_pos (by omega), R0, if_neg (by omega)]
        rcases bI_01 x k with q | q <;> rw [q] <;> rfl
      · rw [if_neg e3, e2, R0]
        by_cases e4 : j < k
        · rw [if_pos e4, if_pos (by omega)]
        · rw [if_neg e4, if_neg (by omega)]
    · have : k = 32 := by omega
      subst this
      rw [if_neg (by omega)]
      exact ⟨l, rfl, hB⟩
theorem r05_l4 (L k : Nat) (l0 : List Int) (y : Nat) (hL : k + 33 ≤ L) (hb : L ≤ 9000000) (h0 : Bts L k l0 y) : ∀ (m i : Nat) (l : List Int), 1 ≤ i → i ≤ 33 → 33 - i < m → l.length = L → (∀ j, k + i ≤ j → j < L → l[j]? = l0[j]?) → (∀ j, j + 1 < i → l[k + 1 + j]? = some (bI (y / 2 ^^^ crcP) j)) →
    ∃ l', f_r05_Sum_l4 k m l (i : Int) = some (l', 33) ∧ l'.length = L ∧ (∀ j, k + 33 ≤ j → j < L → l'[j]? = l0[j]?) ∧ ∀ j, j < 32 → l'[k + 1 + j]? = some (bI (y / 2 ^^^ crcP) j)
  | 0, _, _, _, _, h, _, _, _ => by omega
  | m + 1, i, l, h1, hi, hm, hl, hr, hd => by
    rw [f_r05_Sum_l4]
    by_cases h : i ≤ 32
    · have e1 : l[k + i]? = some (bI y i) := by rw [hr (k + i) (Nat.le_refl _) (by omega)]; exact h0.2 i (by omega)
      have e2 : f_r05_power (32 - (i : Int)) = some (bI crcP (i - 1)) := by
        rw [show (32 : Int) - (i : Int) = 31 - ((i - 1 : Nat) : Int) by omega]
        exact r05_power (i - 1) (by omega)
      have q1 := bI_01 y i
      have q2 := bI_01 crcP (i - 1)
      rw [if_pos (by omega), if_pos (by omega), show ((k : Int) + (i : Int)).toNat = k + i by omega, e1, Option.bind_some, if_pos (by omega), if_pos (by omega), if_pos (by omega), e2, Option.bind_some, if_pos (by omega), if_pos (by omega), if_pos (by omega),
        show (i : Int) + 1 = ((i + 1 : Nat) : Int) by omega]
      refine r05_l4 L k l0 y hL hb h0 m (i + 1) _ (by omega) (by omega) (by omega) (by rw [List.length_set]; exact hl) (fun j hj hj2 => ?_) (fun j hj => ?_)
      · rw [List.getElem?_set, if_neg (by omega)]
        exact hr j (by omega) hj2
      · rw [List.getElem?_set]
        by_cases e3 : k + i = k + 1 + j
        · rw [if_pos e3, if_pos (by omega), bI_xor, bI_half, show j + 1 = i by omega, show i - 1 = j by omega]
        · rw [if_neg e3]; exact hd j (by omega)
    · have : i = 33 := by omega
      subst this
      rw [if_neg (by omega)]
      exact ⟨l, rfl, hl, fun j hj hj2 => hr j hj hj2, fun j hj => hd j (by omega)⟩
theorem crcP_high (j : Nat) (hj : 32 ≤ j) : bI crcP j = 0 := by
  unfold bI
  rw [Nat.testBit_lt_two_pow (Nat.lt_of_lt_of_le (show crcP < 2 ^ 32 by decide) (Nat.pow_le_pow_right (by decide) hj))]
  rfl
theorem bI_zero (x : Nat) : bI x 0 = 1 ↔ x % 2 = 1 := by
  rw [bI_mod, Nat.pow_zero, Nat.div_one]; omega
theorem r05_l3 (s : List UInt8) (hs : s.length ≤ 1000000) : ∀ (m k : Nat) (l : List Int) (y : Nat), k ≤ 8 * s.length → 8 * s.length - k < m → Bts (8 * s.length + 32) k l y → ∃ l', f_r05_Sum_l3 s m l k = some (l', 8 * s.length) ∧ Bts (8 * s.length + 32) (8 * s.length) l' (crcI (8 * s.length - k) y)
  | 0, _, _, _, _, h, _ => by omega
  | m + 1, k, l, y, hk, hm, hB => by
    rw [f_r05_Sum_l3]
    by_cases h : k < 8 * s.length
    · have e1 := hB.2 0 (by omega)
      rw [Nat.add_zero] at e1
      rw [if_pos (by omega), e1, Option.bind_some, show 8 * s.length - k = (8 * s.length - (k + 1)) + 1 by omega]
      by_cases ho : bI y 0 = 1
      · have hy := (bI_zero y).1 ho
        obtain ⟨l', r1, r2, r3, r4⟩ := r05_l4 (8 * s.length + 32) k l y (by omega) (by omega) hB 33 1 l (by omega) (by omega) (by omega) hB.1 (fun j _ _ => rfl) (fun j hj => absurd hj (by omega))
        rw [if_pos ho, show ((33 : Int) - 1).toNat + 1 = 33 from rfl, show (1 : Int) = ((1 : Nat) : Int) from rfl, r1, Option.bind_some]
        dsimp only
        rw [if_pos (by omega)]
        refine r05_l3 s hs m (k + 1) l' (crcS y) (by omega) (by omega) ⟨r2, fun j hj => ?_⟩
        unfold crcS
        rw [if_pos hy]
        by_cases e : j < 32
        · exact r4 j e
        · rw [r3 _ (by omega) (by omega), show k + 1 + j = k + (j + 1) by omega, hB.2 (j + 1) (by omega), bI_xor, bI_half, crcP_high j (by omega)]
          rcases bI_01 y (j + 1) with q | q <;> rw [q] <;> rfl
      · have hy : ¬ y % 2 = 1 := fun e => ho ((bI_zero y).2 e)
        rw [if_neg ho, if_pos (by omega)]
        refine r05_l3 s hs m (k + 1) l (crcS y) (by omega) (by omega) ⟨hB.1, fun j hj => ?_⟩
        unfold crcS
        rw [if_neg hy, Nat.xor_zero, bI_half, show k + 1 + j = k + (j + 1) by omega]
        exact hB.2 (j + 1) (by omega)
    · have : k = 8 * s.length := by omega
      subst this
      rw [if_neg (by omega), Nat.sub_self]
      exact ⟨l, rfl, hB⟩
theorem ones_sub {z : Nat} (hz : z < 4294967296) : 4294967295 ^^^ z = 4294967295 - z := by
  apply Nat.eq_of_testBit_eq
  intro i
  rw [show 4294967295 - z = 2 ^ 32 - (z + 1) by omega, Nat.testBit_two_pow_sub_succ (show z < 2 ^ 32 from hz), Nat.testBit_xor, show (4294967295 : Nat) = 2 ^ 32 - 1 from rfl, Nat.testBit_two_pow_sub_one]
  by_cases h : i < 32
  · simp [h]
  · have : z.testBit i = false := Nat.testBit_lt_two_pow (Nat.lt_of_lt_of_le hz (show 2 ^ 32 ≤ 2 ^ i from Nat.pow_le_pow_right (by decide) (by omega)))
    simp [h, this]
theorem r05_l5 (s : List UInt8) (hs : s.length ≤ 1000000) (l : List Int) (z : Nat) (hz : z < 4294967296) (hB : Bts (8 * s.length + 32) (8 * s.length) l z) : ∀ (i m : Nat), i ≤ 32 → i < m → f_r05_Sum_l5 s l m (((4294967295 - z) / 2 ^ i : Nat) : Int) ((i : Int) - 1) = some (((4294967295 - z : Nat) : Int), -1)
  | i, 0, _, h => by omega
  | 0, m + 1, _, _ => by
    rw [f_r05_Sum_l5, if_neg (by omega), Nat.pow_zero, Nat.div_one]
    rfl
  | i + 1, m + 1, hi, hm => by
    have e1 := hB.2 i (by omega)
    have q := bI_01 z i
    rw [f_r05_Sum_l5, if_pos (by omega), if_pos (by omega), if_pos (by omega), show (8 * (s.length : Int) + (((i + 1 : Nat) : Int) - 1)).toNat = 8 * s.length + i by omega, e1, Option.bind_some, if_pos (by omega), if_pos (by omega),
      show ((i + 1 : Nat) : Int) - 1 - 1 = (i : Int) - 1 by omega]
    have h1 : (4294967295 - z) / 2 ^ i / 2 = (4294967295 - z) / 2 ^ (i + 1) := by rw [Nat.div_div_eq_div_mul, ← Nat.pow_succ]
    have h2 : (((4294967295 - z) / 2 ^ i % 2 : Nat) : Int) = 1 - bI z i := by
      rw [← bI_mod, ← ones_sub hz, bI_xor, show (4294967295 : Nat) = 2 ^ 32 - 1 from rfl, bI_ones, if_pos (by omega)]
      rcases q with q | q <;> rw [q] <;> rfl
    have h3 : (4294967295 - z) / 2 ^ i ≤ 4294967295 := Nat.le_trans (Nat.div_le_self _ _) (by omega)
    have h4 : IntKind.u32.wrap ((IntKind.u32.wrap ((((4294967295 - z) / 2 ^ (i + 1) : Nat) : Int) * 2)) + (IntKind.u32.wrap (1 - bI z i))) = (((4294967295 - z) / 2 ^ i : Nat) : Int) := by
      rw [IntKind.wrap_u32, IntKind.wrap_u32, IntKind.wrap_u32, ← h1, ← h2]
      generalize (4294967295 - z) / 2 ^ i = q at h3
      omega
    rw [h4]
    exact r05_l5 s hs l z hz hB i m (by omega) (by omega)
theorem r05_sum (s : List UInt8) (hs : s.length ≤ 1000000) : f_r05_Sum s = some ((crcM 0 s : Nat) : Int) := by
  unfold f_r05_Sum
  obtain ⟨l1, r1, B1⟩ := r05_l1 s hs (8 * s.length + 1) 0 (List.replicate (8 * s.length + 32) 0) (List.length_replicate ..) (by omega) (by omega) (fun j hj => absurd hj (by omega)) (fun j _ hj => by rw [List.getElem?_replicate, if_pos hj])
  obtain ⟨l2, r2, B2⟩ := r05_l2 (leN s) (8 * s.length + 32) (by omega) 33 0 l1 (by omega) (by omega) (by rw [Nat.pow_zero, Nat.sub_self, Nat.xor_zero]; exact B1)
  obtain ⟨l3, r3, B3⟩ := r05_l3 s hs (8 * s.length + 1) 0 l2 _ (by omega) (by omega) B2
  have hz : crcI (8 * s.length - 0) (leN s ^^^ 4294967295) = crcR 4294967295 s := by rw [Nat.sub_zero, crcR_eq, Nat.xor_comm]
  rw [hz] at B3
  have hlt : crcR 4294967295 s < 4294967296 := crcR_lt s (by decide)
  have r4 := r05_l5 s hs l3 _ hlt B3 32 33 (by omega) (by omega)
  rw [show (4294967295 - crcR 4294967295 s) / 2 ^ 32 = 0 from Nat.div_eq_of_lt (by omega)] at r4
  rw [if_pos (by omega), if_pos (by omega), if_pos (by omega), show (8 * (s.length : Int)).toNat = 8 * s.length by omega, show (8 * (s.length : Int) + 32).toNat = 8 * s.length + 32 by omega, r1, Option.bind_some]
  dsimp only
  rw [show (32 : Int).toNat + 1 = 33 from rfl, r2, Option.bind_some]
  dsimp only
  rw [r3, Option.bind_some]
  dsimp only
  rw [show ((31 : Int) - -1).toNat + 1 = 33 from rfl]
  have r5 : f_r05_Sum_l5 s l3 33 0 31 = some (((4294967295 - crcR 4294967295 s : Nat) : Int), -1) := r4
  rw [r5, Option.bind_some]
  dsimp only
  rw [← ones_sub hlt]
  unfold crcM
  rw [Nat.xor_zero]
end Go.Proofs.Ytpiiopppbgpbpaa.Sl
namespace Go.Proofs.Ytpiiopppbgpbpaa.Sl
open Go.RowKit
set_option linter.unusedVariables false
set_option linter.unusedSimpArgs false
set_option maxRecDepth 100000
def ft_cursitorlaw05 : FTab := []
theorem ft_cursitorlaw05_ok : (ft_cursitorlaw05).OK Try.prog := trivial
theorem sok_cursitorlaw05_84_1 : SOK Try.prog 84 9 1 1 #[.string ⟨#[]⟩] := SOK.mk Try.runUnderlying84 Try.sizeOf9 Try.zeroValue9 (by decide) (by kernel_rfl)
theorem sok_cursitorlaw05_84_2 : SOK Try.prog 84 9 2 1 #[.string ⟨#[]⟩, .string ⟨#[]⟩] := SOK.mk Try.runUnderlying84 Try.sizeOf9 Try.zeroValue9 (by decide) (by kernel_rfl)
def f_l05_speaks  : Option (Bool) := (f_crc_New).bind fun st1 => ((f_crc_TableSum st1 [[49, 50, 51, 52], [53, 54, 55, 56, 57]]).bind fun (x16, st17) => if x16 = 3808858755 then ((f_crc_TableSum st17 []).bind fun (x20, st21) => if x20 = 0 then some (true, st21) else some (false, st21)) else some (false, st17)).bind fun (y12, st13) => some y12
set_option maxRecDepth 100000 in
set_option maxHeartbeats 4000000 in
theorem f_l05_speaks_spec  (r : Bool) (h : f_l05_speaks  = some r) : SpecX Try.prog 52 #[] .triv (EmpR) (fun v A' N => v = .bool r ∧ A' = EmpR ∧ N = []) := by
  refine enterA Try.func52 rfl Try.ntmps52 rfl ?_
  intro F w hX
  unfold f_l05_speaks at h
  refine T.seq (T.region rfl ?_)
  refine TL.run ft_cursitorlaw05_ok [0] rfl rfl ?_
  obtain ⟨st1, hx2, h⟩ := Option.bind_eq_some_iff.1 h
  refine TL.nil (X.seq (T.seq (T.region rfl ?_)))
  refine TL.cge rfl .u (.fn Try.call53 rfl) (f_crc_New_spec _ hx2) (fun _ hs => (RX.reads_triv _ _)) rfl ?_
  rintro _ _ _ ⟨b3, rfl, rfl, rfl⟩
  refine TL.sel [0, 0] rfl ?_
  refine TL.run ft_cursitorlaw05_ok [1] rfl rfl ?_
  refine TL.nil (X.seq (T.seq ?_))
  obtain ⟨⟨y12, st13⟩, h, hk14⟩ := Option.bind_eq_some_iff.1 h
  refine T.jq (fun e Rs => e = [(0, .bool y12)] ∧ Rs = [TabR 144 b3 st13, EmpR]) ?_ ?_
  · clear hk14
    refine T.region rfl ?_
    refine TL.run ft_cursitorlaw05_ok [0] rfl rfl ?_
    refine TL.q rfl .u (Ex.pNe (.inr ⟨rfl, rfl⟩) rfl rfl Try.runUnderlying85) rfl ?_
    refine TL.run ft_cursitorlaw05_ok [2] rfl rfl ?_
    refine TL.q rfl (.g rfl rfl rfl) (Ex.ft ft_cursitorlaw05_ok rfl) rfl ?_
    refine TL.lit (cells := #[.string ⟨#[49, 50, 51, 52]⟩, .string ⟨#[53, 54, 55, 56, 57]⟩]) rfl (.g rfl rfl rfl) sok_cursitorlaw05_84_2 rfl (by rfl) rfl (fun b15 => ?_)
    refine TL.rowOf (us := [.string ⟨#[49, 50, 51, 52]⟩, .string ⟨#[53, 54, 55, 56, 57]⟩]) (xs := [[49, 50, 51, 52], [53, 54, 55, 56, 57]]) (E := strE) (z := 1) rfl (Nat.le_of_ble_eq_true rfl) (fun _ => ⟨rfl, rfl, ⟨rfl, rfl, rfl⟩⟩) ?_
    obtain ⟨⟨x16, st17⟩, hx18, h⟩ := Option.bind_eq_some_iff.1 h
    try dsimp only at h
    refine TL.c1 rfl (.g rfl rfl rfl) (.fn Try.call56 rfl) (f_crc_TableSum_spec b3 st1 [[49, 50, 51, 52], [53, 54, 55, 56, 57]] _ _ _ hx18) (fun _ hs => (Src.res 0 rfl (fun w G h => own_reads (by decide) w G h))) rfl ?_
    refine TL.q rfl (.g rfl rfl rfl) (Ex.ft ft_cursitorlaw05_ok rfl) rfl ?_
    refine TL.q rfl .u (Ex.py rfl rfl rfl) rfl ?_
    by_cases c19 : x16 = 3808858755
    · replace h := ifT c19 h
      refine TL.run ft_cursitorlaw05_ok [8] rfl rfl ?_
      refine TL.q rfl (.g rfl rfl (decide_eq_true c19)) (Ex.ft ft_cursitorlaw05_ok rfl) rfl ?_
      obtain ⟨⟨x20, st21⟩, hx22, h⟩ := Option.bind_eq_some_iff.1 h
      try dsimp only at h
      refine TL.c1 rfl (.g rfl rfl (decide_eq_true c19)) (.fn Try.call56 rfl) (f_crc_TableSum_spec b3 st17 [] _ _ _ hx22) (fun _ hs => (Src.nil _)) rfl ?_
      refine TL.q rfl (.g rfl rfl (decide_eq_true c19)) (Ex.ft ft_cursitorlaw05_ok rfl) rfl ?_
      refine TL.q rfl .u (Ex.py rfl (decide_eq_true c19) rfl) rfl ?_
      refine TL.run ft_cursitorlaw05_ok [13] rfl rfl ?_
      by_cases c23 : x20 = 0
      · replace h := ifT c23 h
        cases h
        exact TL.nil (X.as (d := 0) (v' := .bool true) rfl (congrArg Value.bool (decide_eq_true c23)) (X.jq [1, 1] ⟨rfl, rfl⟩ (by rfl) (by rfl)))
      · replace h := ifF c23 h
        cases h
        exact TL.nil (X.as (d := 0) (v' := .bool false) rfl (congrArg Value.bool (decide_eq_false c23)) (X.jq [1, 1] ⟨rfl, rfl⟩ (by rfl) (by rfl)))
    · replace h := ifF c19 h
      refine TL.run ft_cursitorlaw05_ok [8] rfl rfl ?_
      refine TL.no rfl (.gn rfl rfl (decide_eq_false c19)) rfl ?_
      refine TL.no rfl (.gn rfl rfl (decide_eq_false c19)) rfl ?_
      refine TL.no rfl (.gn rfl rfl (decide_eq_false c19)) rfl ?_
      refine TL.q rfl .u (Ex.pn rfl (decide_eq_false c19) rfl) rfl ?_
      refine TL.run ft_cursitorlaw05_ok [13] rfl rfl ?_
      cases h
      exact TL.nil (X.jq [1, 1] ⟨rfl, rfl⟩ (by rfl) (by rfl))
  · rintro _ _ ⟨rfl, rfl⟩
    clear h
    have h := hk14
    clear hk14
    try dsimp only at h
    obtain rfl := Option.some.inj h
    exact X.seq (T.ret (X.done1 [1] Try.results52 (RV.tm rfl) ⟨rfl, rfl, rfl⟩ (by rfl) (.inl rfl)))
def f_l05_CrcSums_l1 : List (List UInt8) → Bool → List UInt8 → Option (Lp Bool (Bool × List UInt8))
  | [], y6, y7 => some (Lp.go (y6, y7))
  | x13 :: xs, y6, y7 => if y7.length + x13.length ≤ 9223372036854775807 then (if ((y7 ++ x13).length : Int) > 300 then some (Lp.ret true) else (f_l05_CrcSums_l1 xs y6 (y7 ++ x13))) else none
def f_l05_CrcSums_l2 : List (List UInt8) → Int → List Int → Option (Int × List Int)
  | [], y93, st95 => some (y93, st95)
  | x100 :: xs, y93, st95 => (f_crc_TableMore st95 y93 x100).bind fun (x104, st105) => f_l05_CrcSums_l2 xs x104 st105
def f_l05_CrcSums (a0 : List (List UInt8)) : Option (Bool) := (f_l05_speaks).bind fun x3 => if x3 = true then ((f_l05_CrcSums_l1 a0 false []).bind fun e => match e with | .ret r => some r | .go (y19, y20) => ((f_crc_New).bind fun st22 => (f_l05_CrcSums_l2 a0 0 st22).bind fun (y39, st41) => (f_r05_Sum y20).bind fun x42 => ((f_crc_TableSum st41 a0).bind fun (x56, st57) => if x56 = x42 then (if y39 = x42 then ((f_crc_TableSum st57 [y20]).bind fun (x62, st63) => if x62 = x42 then some (true, st63) else some (false, st63)) else some (false, st57)) else some (false, st57)).bind fun (y53, st54) => some y53)) else none
set_option maxRecDepth 100000 in
set_option maxHeartbeats 4000000 in
theorem f_l05_CrcSums_spec (a0 : List (List UInt8)) (A1 : Option Addr) (c2 : Nat) (r : Bool) (h : f_l05_CrcSums a0 = some r) : SpecX Try.prog 9 #[.slice A1 a0.length c2] (RX.of (sliceRd 1 strE) [.slice A1 a0.length c2] a0) (EmpR) (fun v A' N => v = .bool r ∧ A' = EmpR ∧ N = []) := by
  refine enterA Try.func9 rfl Try.ntmps9 rfl ?_
  intro F w hX
  unfold f_l05_CrcSums at h
  refine T.seq (T.region rfl ?_)
  refine TL.run ft_cursitorlaw05_ok [0] rfl rfl ?_
  obtain ⟨x3, hx4, h⟩ := Option.bind_eq_some_iff.1 h
  refine TL.nil (X.seq (T.seq (T.seq (T.region rfl ?_))))
  refine TL.ce rfl .u (.fn Try.call52 rfl) (f_l05_speaks_spec _ hx4) (fun _ hs => (RX.reads_triv _ _)) rfl ?_
  refine TL.run ft_cursitorlaw05_ok [1] rfl rfl ?_
  by_cases c5 : x3 = true
  · replace h := ifT c5 h
    refine TL.nil (X.seq ?_)
    refine T.no rfl (bn_f c5) ?_
    refine T.skip (X.seq (T.seq (T.region rfl ?_)))
    refine TL.run ft_cursitorlaw05_ok [0] rfl rfl ?_
    refine TL.nil (X.seq (T.seq (T.seq (T.region rfl ?_))))
    refine TL.run ft_cursitorlaw05_ok [0] rfl rfl ?_
    refine TL.q rfl .u (Ex.lenS rfl Try.runUnderlying84) rfl ?_
    refine TL.run ft_cursitorlaw05_ok [2] rfl rfl ?_
    refine TL.nil (X.seq (T.block ?_))
    obtain ⟨E9, hE10, hO11⟩ := Option.bind_eq_some_iff.1 h
    have hk15len := RX.len_le hX
    refine T.lp (fun m e Rs => ∃ (y6 : Bool) (y7 : List UInt8) (k8 : Nat), k8 + m = a0.length ∧ e = [(0, .slice A1 a0.length c2), (2, .bool y6), (3, .string (bsOf y7)), (13, .slice A1 a0.length c2), (14, .int .i64 (a0.length : Int)), (15, .int .i64 (k8 : Int))] ∧ Rs = [EmpR] ∧ f_l05_CrcSums_l1 (a0.drop k8) y6 y7 = some E9) (a0.length) [0] ⟨false, [], 0, by simp, rfl, rfl, by rw [List.drop_zero]; exact hE10⟩ (by rfl) (by rfl) ?_
    rintro m12 _ _ ⟨y6, y7, k8, hk15, rfl, rfl, hl14⟩
    clear hE10 h
    cases m12 with
    | zero =>
      have h := hl14
      clear hl14
      rw [List.drop_of_length_le (by omega), f_l05_CrcSums_l1] at h
      have hk15ge : ¬ ((k8 : Int) < (a0.length : Int)) := by omega
      refine T.seq (T.region rfl ?_)
      refine TL.run ft_cursitorlaw05_ok [0] rfl rfl ?_
      refine TL.nil (X.seq (T.seq ?_))
      refine T.no rfl (decide_eq_false hk15ge) ?_
      obtain rfl := Option.some.inj h
      replace h := hO11
      clear hO11
      try dsimp only at h
      obtain ⟨st90, hx91, h⟩ := Option.bind_eq_some_iff.1 h
      refine T.exit (X.exs (X.exs (X.ex (X.seq (T.seq (T.region rfl ?_))))))
      refine TL.cge rfl .u (.fn Try.call53 rfl) (f_crc_New_spec _ hx91) (fun _ hs => (RX.reads_triv _ _)) rfl ?_
      rintro _ _ _ ⟨b92, rfl, rfl, rfl⟩
      refine TL.sel [0, 0] rfl ?_
      refine TL.run ft_cursitorlaw05_ok [1, 2] rfl rfl ?_
      refine TL.nil (X.seq (T.seq (T.seq (T.region rfl ?_))))
      refine TL.run ft_cursitorlaw05_ok [0] rfl rfl ?_
      refine TL.q rfl .u (Ex.lenS rfl Try.runUnderlying84) rfl ?_
      refine TL.run ft_cursitorlaw05_ok [2] rfl rfl ?_
      refine TL.nil (X.seq (T.block ?_))
      obtain ⟨E96, hE97, hO98⟩ := Option.bind_eq_some_iff.1 h
      have hk102len := RX.len_le hX
      refine T.lp (fun m e Rs => ∃ (y93 : Int) (k94 : Nat) (st95 : List Int), k94 + m = a0.length ∧ e = [(0, .slice A1 a0.length c2), (2, .bool y6), (3, .string (bsOf y7)), (6, .pointer (some ⟨b92, 0, none⟩)), (7, .int .u32 y93), (27, .slice A1 a0.length c2), (28, .int .i64 (a0.length : Int)), (29, .int .i64 (k94 : Int))] ∧ Rs = [TabR 144 b92 st95, EmpR] ∧ f_l05_CrcSums_l2 (a0.drop k94) y93 st95 = some E96) (a0.length) [0, 0] ⟨0, 0, st90, by simp, rfl, rfl, by rw [List.drop_zero]; exact hE97⟩ (by rfl) (by rfl) ?_
      rintro m99 _ _ ⟨y93, k94, st95, hk102, rfl, rfl, hl101⟩
      clear hE97 h
      cases m99 with
      | zero =>
        have h := hl101
        clear hl101
        rw [List.drop_of_length_le (by omega), f_l05_CrcSums_l2] at h
        have hk102ge : ¬ ((k94 : Int) < (a0.length : Int)) := by omega
        refine T.seq (T.region rfl ?_)
        refine TL.run ft_cursitorlaw05_ok [0] rfl rfl ?_
        refine TL.nil (X.seq (T.seq ?_))
        refine T.no rfl (decide_eq_false hk102ge) ?_
        obtain rfl := Option.some.inj h
        replace h := hO98
        clear hO98
        try dsimp only at h
        refine T.exit (X.exs (X.exs (X.ex (X.seq (T.seq (T.region rfl ?_))))))
        obtain ⟨x134, hx135, h⟩ := Option.bind_eq_some_iff.1 h
        refine TL.run ft_cursitorlaw05_ok [0] rfl rfl ?_
        refine TL.ce rfl .u (.fn Try.call55 rfl) (f_r05_Sum_spec y7 _ hx135) (fun _ hs => (RX.reads_triv _ _)) rfl ?_
        refine TL.run ft_cursitorlaw05_ok [2] rfl rfl ?_
        refine TL.nil (X.seq (T.seq ?_))
        obtain ⟨⟨y145, st146⟩, h, hk147⟩ := Option.bind_eq_some_iff.1 h
        refine T.jq (fun e Rs => e = [(2, .bool y145)] ∧ Rs = [TabR 144 b92 st146, EmpR]) ?_ ?_
        · clear hk147
          refine T.region rfl ?_
          obtain ⟨⟨x148, st149⟩, hx150, h⟩ := Option.bind_eq_some_iff.1 h
          try dsimp only at h
          refine TL.run ft_cursitorlaw05_ok [0, 1] rfl rfl ?_
          refine TL.c0 rfl .u (.fn Try.call56 rfl) (f_crc_TableSum_spec b92 st95 a0 _ _ _ hx150) (fun _ hs => (Src.old hs hX)) rfl ?_
          by_cases c151 : x148 = x134
          · replace h := ifT c151 h
            refine TL.run ft_cursitorlaw05_ok [3, 4, 5] rfl rfl ?_
            refine TL.q rfl (.g rfl rfl (decide_eq_true c151)) (Ex.ft ft_cursitorlaw05_ok rfl) rfl ?_
            refine TL.q rfl (.g rfl rfl (decide_eq_true c151)) (Ex.ft ft_cursitorlaw05_ok rfl) rfl ?_
            refine TL.q rfl (.g rfl rfl (decide_eq_true c151)) (Ex.ft ft_cursitorlaw05_ok rfl) rfl ?_
            refine TL.q rfl .u (Ex.py rfl (decide_eq_true c151) rfl) rfl ?_
            by_cases c152 : y93 = x134
            · replace h := ifT c152 h
              refine TL.run ft_cursitorlaw05_ok [10] rfl rfl ?_
              refine TL.q rfl (.g rfl rfl (decide_eq_true c152)) (Ex.ft ft_cursitorlaw05_ok rfl) rfl ?_
              refine TL.q rfl (.g rfl rfl (decide_eq_true c152)) (Ex.ft ft_cursitorlaw05_ok rfl) rfl ?_
              refine TL.lit (cells := #[.string (bsOf y7)]) rfl (.g rfl rfl (decide_eq_true c152)) sok_cursitorlaw05_84_1 rfl (by rfl) rfl (fun b153 => ?_)
              refine TL.rowOf (us := [.string (bsOf y7)]) (xs := [y7]) (E := strE) (z := 1) rfl (Nat.le_of_ble_eq_true rfl) (fun _ => ⟨rfl, rfl, rfl⟩) ?_
              obtain ⟨⟨x154, st155⟩, hx156, h⟩ := Option.bind_eq_some_iff.1 h
              try dsimp only at h
              refine TL.c1 rfl (.g rfl rfl (decide_eq_true c152)) (.fn Try.call56 rfl) (f_crc_TableSum_spec b92 st149 [y7] _ _ _ hx156) (fun _ hs => (Src.res 0 rfl (fun w G h => own_reads (by decide) w G h))) rfl ?_
              refine TL.q rfl (.g rfl rfl (decide_eq_true c152)) (Ex.ft ft_cursitorlaw05_ok rfl) rfl ?_
              refine TL.q rfl (.g rfl rfl (decide_eq_true c152)) (Ex.ft ft_cursitorlaw05_ok rfl) rfl ?_
              refine TL.q rfl .u (Ex.py rfl (decide_eq_true c152) rfl) rfl ?_
              refine TL.run ft_cursitorlaw05_ok [18] rfl rfl ?_
              by_cases c157 : x154 = x134
              · replace h := ifT c157 h
                cases h
                exact TL.nil (X.as (d := 2) (v' := .bool true) rfl (congrArg Value.bool (decide_eq_true c157)) (X.jq [1, 1] ⟨rfl, rfl⟩ (by rfl) (by rfl)))
              · replace h := ifF c157 h
                cases h
                exact TL.nil (X.as (d := 2) (v' := .bool false) rfl (congrArg Value.bool (decide_eq_false c157)) (X.jq [1, 1] ⟨rfl, rfl⟩ (by rfl) (by rfl)))
            · replace h := ifF c152 h
              refine TL.run ft_cursitorlaw05_ok [10] rfl rfl ?_
              refine TL.no rfl (.gn rfl rfl (decide_eq_false c152)) rfl ?_
              refine TL.no rfl (.gn rfl rfl (decide_eq_false c152)) rfl ?_
              refine TL.no rfl (.gn rfl rfl (decide_eq_false c152)) rfl ?_
              refine TL.no rfl (.gn rfl rfl (decide_eq_false c152)) rfl ?_
              refine TL.no rfl (.gn rfl rfl (decide_eq_false c152)) rfl ?_
              refine TL.no rfl (.gn rfl rfl (decide_eq_false c152)) rfl ?_
              refine TL.q rfl .u (Ex.pn rfl (decide_eq_false c152) rfl) rfl ?_
              refine TL.run ft_cursitorlaw05_ok [18] rfl rfl ?_
              cases h
              exact TL.nil (X.jq [0, 0] ⟨rfl, rfl⟩ (by rfl) (by rfl))
          · replace h := ifF c151 h
            refine TL.run ft_cursitorlaw05_ok [3, 4, 5] rfl rfl ?_
            refine TL.no rfl (.gn rfl rfl (decide_eq_false c151)) rfl ?_
            refine TL.no rfl (.gn rfl rfl (decide_eq_false c151)) rfl ?_
            refine TL.no rfl (.gn rfl rfl (decide_eq_false c151)) rfl ?_
            refine TL.q rfl .u (Ex.pn rfl (decide_eq_false c151) rfl) rfl ?_
            refine TL.run ft_cursitorlaw05_ok [10] rfl rfl ?_
            refine TL.no rfl (.gn rfl rfl rfl) rfl ?_
            refine TL.no rfl (.gn rfl rfl rfl) rfl ?_
            refine TL.no rfl (.gn rfl rfl rfl) rfl ?_
            refine TL.no rfl (.gn rfl rfl rfl) rfl ?_
            refine TL.no rfl (.gn rfl rfl rfl) rfl ?_
            refine TL.no rfl (.gn rfl rfl rfl) rfl ?_
            refine TL.q rfl .u (Ex.pn rfl rfl rfl) rfl ?_
            refine TL.run ft_cursitorlaw05_ok [18] rfl rfl ?_
            cases h
            exact TL.nil (X.jq [0, 0] ⟨rfl, rfl⟩ (by rfl) (by rfl))
        · rintro _ _ ⟨rfl, rfl⟩
          clear h
          have h := hk147
          clear hk147
          try dsimp only at h
          obtain rfl := Option.some.inj h
          exact X.seq (T.ret (X.done1 [1] Try.results9 (RV.tm rfl) ⟨rfl, rfl, rfl⟩ (by rfl) (.inl rfl)))
      | succ m99 =>
        have h := hl101
        clear hl101
        obtain ⟨x100, hxx100⟩ : ∃ x, a0[k94]? = some x := ⟨_, List.getElem?_eq_getElem (by omega)⟩
        rw [drop_cons hxx100, f_l05_CrcSums_l2] at h
        have hk102lt : (k94 : Int) < (a0.length : Int) := by omega
        refine T.seq (T.region rfl ?_)
        refine TL.run ft_cursitorlaw05_ok [0] rfl rfl ?_
        refine TL.nil (X.seq (T.seq ?_))
        refine T.yes rfl (decide_eq_true hk102lt) ?_
        obtain ⟨gz103, oz103, rfl, z103cs, z103cl, z103cc, z103nf, z103r⟩ := RX.elem (by decide) hX hxx100
        obtain ⟨z103S, z103r, z103rr⟩ := z103r
        obtain rfl : z103cs = [.string (bsOf x100)] := z103r
        refine T.skip (X.seq (T.seq (T.block (T.seq (T.region rfl ?_)))))
        refine TL.q rfl .u (Ex.ixS (k := k94) rfl rfl rfl Try.runUnderlying84 Try.sizeOf9 (List.getElem?_eq_some_iff.1 hxx100).1) rfl ?_
        refine TL.q rfl .u (Ex.o1 0 rfl Try.isAgg9 z103nf z103cc rfl rfl) rfl ?_
        refine TL.run ft_cursitorlaw05_ok [2] rfl rfl ?_
        refine TL.nil (X.seq (T.region rfl ?_))
        obtain ⟨⟨x104, st105⟩, hx106, h⟩ := Option.bind_eq_some_iff.1 h
        try dsimp only at h
        refine TL.run ft_cursitorlaw05_ok [0, 1, 2] rfl rfl ?_
        refine TL.c0 rfl .u (.fn Try.call54 rfl) (f_crc_TableMore_spec b92 st95 y93 x100 _ hx106) (fun _ hs => (Src.triv _)) rfl ?_
        refine TL.run ft_cursitorlaw05_ok [4] rfl rfl ?_
        refine TL.nil (X.blk (X.seq (T.region rfl ?_)))
        refine TL.q rfl .u (Ex.add rfl rfl (by omega)) rfl ?_
        refine TL.run ft_cursitorlaw05_ok [1] rfl rfl ?_
        exact TL.nil (X.back (m' := m99) [0, 0] (by omega) ⟨x104, k94 + 1, st105, by omega, rfl, rfl, h⟩ (by rfl) (by rfl))
    | succ m12 =>
      have h := hl14
      clear hl14
      obtain ⟨x13, hxx13⟩ : ∃ x, a0[k8]? = some x := ⟨_, List.getElem?_eq_getElem (by omega)⟩
      rw [drop_cons hxx13, f_l05_CrcSums_l1] at h
      have hk15lt : (k8 : Int) < (a0.length : Int) := by omega
      refine T.seq (T.region rfl ?_)
      refine TL.run ft_cursitorlaw05_ok [0] rfl rfl ?_
      refine TL.nil (X.seq (T.seq ?_))
      refine T.yes rfl (decide_eq_true hk15lt) ?_
      obtain ⟨gz16, oz16, rfl, z16cs, z16cl, z16cc, z16nf, z16r⟩ := RX.elem (by decide) hX hxx13
      obtain ⟨z16S, z16r, z16rr⟩ := z16r
      obtain rfl : z16cs = [.string (bsOf x13)] := z16r
      refine T.skip (X.seq (T.seq (T.block (T.seq (T.region rfl ?_)))))
      refine TL.q rfl .u (Ex.ixS (k := k8) rfl rfl rfl Try.runUnderlying84 Try.sizeOf9 (List.getElem?_eq_some_iff.1 hxx13).1) rfl ?_
      refine TL.q rfl .u (Ex.o1 0 rfl Try.isAgg9 z16nf z16cc rfl rfl) rfl ?_
      refine TL.run ft_cursitorlaw05_ok [2] rfl rfl ?_
      refine TL.nil (X.seq (T.seq (T.region rfl ?_)))
      replace h := guard_some h
      obtain ⟨c17, h⟩ := h
      refine TL.run ft_cursitorlaw05_ok [0, 1] rfl rfl ?_
      refine TL.q rfl .u (Ex.sAdd rfl rfl c17) rfl ?_
      refine TL.run ft_cursitorlaw05_ok [3] rfl rfl ?_
      refine TL.nil (X.seq (T.seq (T.region rfl ?_)))
      refine TL.run ft_cursitorlaw05_ok [0] rfl rfl ?_
      refine TL.q rfl .u (Ex.lenB rfl Try.runUnderlying9) rfl ?_
      refine TL.run ft_cursitorlaw05_ok [2] rfl rfl ?_
      by_cases c18 : ((y7 ++ x13).length : Int) > 300
      · replace h := ifT c18 h
        refine TL.nil (X.seq ?_)
        refine T.yes rfl (decide_eq_true c18) ?_
        refine T.seq (T.region rfl ?_)
        refine TL.run ft_cursitorlaw05_ok [0] rfl rfl ?_
        obtain rfl := Option.some.inj h
        replace h := hO11
        clear hO11
        try dsimp only at h
        obtain rfl := Option.some.inj h
        exact TL.nil (X.seq (T.ret (X.rb (X.rs (X.rs (X.rb (X.rs (X.done1 [0] Try.results9 (RV.tm rfl) ⟨rfl, rfl, rfl⟩ (by rfl) (.inl rfl)))))))))
      · replace h := ifF c18 h
        refine TL.nil (X.seq ?_)
        refine T.no rfl (decide_eq_false c18) ?_
        refine T.skip (X.blk (X.seq (T.region rfl ?_)))
        refine TL.q rfl .u (Ex.add rfl rfl (by omega)) rfl ?_
        refine TL.run ft_cursitorlaw05_ok [1] rfl rfl ?_
        exact TL.nil (X.back (m' := m12) [0] (by omega) ⟨y6, (y7 ++ x13), k8 + 1, by omega, rfl, rfl, h⟩ (by rfl) (by rfl))
  · replace h := ifF c5 h
    replace c5 := eq_false_of_ne_true c5
    refine TL.nil (X.seq ?_)
    refine T.yes rfl (bn_t c5) ?_
    exact nomatch h
end Go.Proofs.Ytpiiopppbgpbpaa.Sl
namespace Go.Proofs.Ytpiiopppbgpbpaa.Sl
open Go.RowKit Go.Deep Go.ChangeShapes
set_option linter.unusedVariables false
def andRd {α : Type} (E : Rd α) (W : α → Prop) : Rd α := ⟨fun w S cs a => E.P w S cs a ∧ W a, fun h k => ⟨E.mono h.1 k, h.2⟩, fun h k => ⟨E.move h.1 k, h.2⟩⟩
section
variable {H : Type} (enc : TypeId × Value → H) (P : Program) {α β : Type}
def OpensW (t : TypeId) (E : Rd α) : Prop :=
  ∀ (w : World) (fuel : Nat) (cs : List Value) (x : DataW H × List MemPlace), DataW.trod enc P w 0 (fun _ => true) true fuel t cs = some x → (∀ m, m ∈ x.1.weights P t → m ≤ reachBytes) → ∃ a, E.P w (fun k => k < w.heap.size) cs a
variable {enc P}
def wS (l : List UInt8) : Prop := l.length ≤ 140737488351232
def wL (W : α → Prop) (l : List α) : Prop := l.length ≤ 140737488351232 ∧ ∀ x, x ∈ l → W x
theorem op_str {t : TypeId} (ht : P.underlying t = some .string) : OpensW enc P t (andRd strE wS) := by
  intro w fuel cs x h hw
  obtain ⟨s, rfl, rfl, hs⟩ := DataW.trod_string ht h
  have := hw s.data.toList.length (by simp [DataW.weights])
  exact ⟨s.data.toList, by cases s; simp [strE, bsOf], this⟩
theorem slice_and {size : Nat} {E : Rd α} {W : α → Prop} {w : World} {S : Nat → Prop} {cs : List Value} {l : List α} (h : (sliceRd size (andRd E W)).P w S cs l) : (sliceRd size E).P w S cs l ∧ ∀ x, x ∈ l → W x := by
  rcases h with ⟨h, rfl⟩ | ⟨a, cap, h1, h2, h3, h4, h5⟩
  · exact ⟨.inl ⟨h, rfl⟩, fun x hx => by simp at hx⟩
  · refine ⟨.inr ⟨a, cap, h1, h2, h3, h4, fun i x hx => ?_⟩, fun x hx => ?_⟩
    · obtain ⟨cs, k1, k2, k3⟩ := h5 i x hx
      exact ⟨cs, k1, k2, k3.1⟩
    · obtain ⟨i, hi⟩ := List.getElem?_of_mem hx
      obtain ⟨cs, k1, k2, k3⟩ := h5 i x hi
      exact k3.2
theorem weightsAll_mem {e : TypeId} {l : List (DataW H)} {d : DataW H} {m : Nat} (hd : d ∈ l) (hm : m ∈ d.weights P e) : m ∈ DataW.weightsAll P e l := by
  induction l with
  | nil => simp at hd
  | cons x l ih =>
    simp only [DataW.weightsAll, List.mem_append]
    rcases List.mem_cons.1 hd with rfl | h
    · exact .inl hm
    · exact .inr (ih h)
theorem op_slice {t e : TypeId} {E : Rd α} {W : α → Prop} (size bytes : Nat) (ht : P.underlying t = some (.slice e)) (hc : P.cellsOf e = size) (hb : P.bytesOf e = bytes) (hp : 0 < size) (hpb : 0 < bytes) (he : OpensW enc P e (andRd E W)) : OpensW enc P t (andRd (sliceRd size E) (wL W)) := by
  intro w fuel cs x h hw
  rcases open_slice ht h with ⟨rfl, _⟩ | ⟨a, len, cap, m, n, D, Pl, rfl, _, hl, hm, hmm, rfl, hx⟩
  · exact ⟨[], .inl ⟨rfl, rfl⟩, by simp, fun x hx => by simp at hx⟩
  have hlm : len ≤ m := by rw [hmm]; split <;> omega
  have hlen : len ≤ 140737488351232 := by
    have h1 := hw ((((List.range len).map D).length + ((List.range (m - len)).map fun j => D (len + j)).length) * P.bytesOf e) (by simp only [DataW.weights, ht]; exact List.mem_cons_self)
    rw [hb] at h1
    simp only [List.length_map, List.length_range] at h1
    have h2 : (len + (m - len)) * 1 ≤ (len + (m - len)) * bytes := Nat.mul_le_mul_left _ hpb
    have h3 : reachBytes = 140737488351232 := rfl
    omega
  have hwe : ∀ i, i < len → ∀ z, z ∈ (D i).weights P e → z ≤ reachBytes := by
    intro i hi z hz
    apply hw
    simp only [DataW.weights, ht]
    exact List.mem_cons_of_mem _ (List.mem_append.2 (.inl (weightsAll_mem (d := D i) (List.mem_map.2 ⟨i, List.mem_range.2 hi, rfl⟩) hz)))
  rw [hc] at hx
  have each : ∀ i : Fin len, ∃ y : α, ∃ cs, cs.length = size ∧ (∀ j, j < size → w.cell? (a.add (i.val * size + j)) = cs[j]?) ∧ (andRd E W).P w (fun k => k < w.heap.size) cs y := by
    intro i
    obtain ⟨cs', h1, h2⟩ := hx i.val (by have := i.isLt; omega)
    obtain ⟨_, h3, h4⟩ := World.cells?_some h1
    obtain ⟨y, hy⟩ := he _ _ _ _ h2 (hwe i.val i.isLt)
    refine ⟨y, cs', h3, fun j hj => ?_, hy⟩
    rw [← h4 j hj, add_add]
  obtain ⟨f, hf⟩ := Classical.axiomOfChoice each
  have hs : (sliceRd size (andRd E W)).P w (fun k => k < w.heap.size) [.slice (some a) len cap] ((List.finRange len).map f) := by
    refine .inr ⟨a, cap, by simp, by simpa using hl, hm, fun hz => ?_, ?_⟩
    · simp at hz
      obtain ⟨cs', k1, k2, k3⟩ := hf ⟨0, by omega⟩
      have := k2 0 hp
      rw [List.getElem?_eq_getElem (by omega)] at this
      simp only [World.cell?] at this
      rw [block_add] at this
      rcases Nat.lt_or_ge a.block w.heap.size with h | h
      · exact h
      · rw [Array.getElem?_eq_none h] at this
        simp at this
    · intro i x hx
      rw [List.getElem?_map, Option.map_eq_some_iff] at hx
      obtain ⟨j, hj, rfl⟩ := hx
      have e : j.val = i := by
        obtain ⟨h1, h2⟩ := List.getElem?_eq_some_iff.1 hj
        rw [← h2]
        simp
      rw [← e]
      exact hf j
  obtain ⟨k1, k2⟩ := slice_and hs
  exact ⟨_, k1, by simpa using hlen, k2⟩
theorem weights_in : ∀ {ts : List TypeId} {ds : List (DataW H)} (j : Nat) {t : TypeId} {d : DataW H} {m : Nat}, ts[j]? = some t → ds[j]? = some d → m ∈ d.weights P t → m ∈ DataW.weightsEach P ts ds
  | [], _, j, _, _, _, ht, _, _ => by simp at ht
  | _ :: _, [], j, _, _, _, _, hd, _ => by simp at hd
  | t :: ts, d :: ds, 0, _, _, _, ht, hd, hm => by
    obtain rfl : t = _ := by simpa using ht
    obtain rfl : d = _ := by simpa using hd
    simp only [DataW.weightsEach, List.mem_append]
    exact .inl hm
  | t :: ts, d :: ds, j + 1, _, _, _, ht, hd, hm => by
    simp only [DataW.weightsEach, List.mem_append]
    exact .inr (weights_in j (by simpa using ht) (by simpa using hd) hm)
theorem slice_cells {size : Nat} {E : Rd α} {w : World} {S : Nat → Prop} {cs : List Value} {l : List α} (h : (sliceRd size E).P w S cs l) : ∃ A c, cs = [.slice A l.length c] := by
  rcases h with ⟨h, rfl⟩ | ⟨a, cap, h, _⟩
  · exact ⟨none, 0, h⟩
  · exact ⟨_, _, h⟩
theorem opens_arg1 {t e : TypeId} {E : Rd α} {r : Reach} {b0 : Nat} {w : World} {v : Value} {d : DataW H} {p : List MemPlace} (ht : P.underlying t = some (.slice e)) (hval : Value.okWide P w r b0 t v) (h : OpensW enc P t E)
    (hv : DataW.Trod enc P w 0 (fun _ => true) true t v d p) (hw : ∀ m, m ∈ d.weights P t → m ≤ reachBytes) : ∃ a, E.P w (fun k => k < w.heap.size) [v] a := by
  obtain ⟨a0, len, cap, rfl⟩ := Go.WideShapes.okWide_slice ht hval
  obtain ⟨fuel, hf⟩ := hv
  exact h _ _ _ _ hf hw
theorem RX.reads_all {E : Rd α} {w : World} {cs : List Value} {a : α} (h : E.P w (fun k => k < w.heap.size) cs a) : (RX.of E cs a).reads w (fun _ => False) := ⟨_, h, fun k hk => ⟨fun h => h, hk⟩⟩
end
end Go.Proofs.Ytpiiopppbgpbpaa.Sl
namespace Go.Proofs.Ytpiiopppbgpbpaa.Sl
open Go.RowKit
set_option linter.unusedVariables false
set_option linter.unusedSimpArgs false
theorem l05_speaks : f_l05_speaks = some true := by
  unfold f_l05_speaks
  rw [crc_new, Option.bind_some, crc_sum [[49, 50, 51, 52], [53, 54, 55, 56, 57]] (by intro s hs; simp at hs; rcases hs with rfl | rfl <;> decide), Option.bind_some]
  dsimp only
  rw [show crcM 0 [[49, 50, 51, 52], [53, 54, 55, 56, 57]].flatten = 3808858755 by decide +kernel, show (if ((3808858755 : Nat) : Int) = 3808858755 then (f_crc_TableSum crcTab []).bind fun x => if x.1 = 0 then some (true, x.2) else some (false, x.2) else some (false, crcTab)) = (f_crc_TableSum crcTab []).bind fun x => if x.1 = 0 then some (true, x.2) else some (false, x.2) from if_pos rfl, crc_sum [] (by intro s hs; cases hs), Option.bind_some]
  dsimp only
  rw [show crcM 0 [].flatten = 0 by decide +kernel]
  rfl
theorem l05_l1 : ∀ (l : List (List UInt8)) (b : Bool) (a : List UInt8), a.length ≤ 300 → (∀ s, s ∈ l → s.length ≤ 140737488351232) → f_l05_CrcSums_l1 l b a = some (.ret true) ∨ f_l05_CrcSums_l1 l b a = some (.go (b, a ++ l.flatten)) ∧ (a ++ l.flatten).length ≤ 300
  | [], b, a, ha, _ => .inr (by rw [f_l05_CrcSums_l1, List.flatten_nil, List.append_nil]; exact ⟨rfl, ha⟩)
  | s :: l, b, a, ha, hl => by
    have h1 := hl s (List.mem_cons_self ..)
    rw [f_l05_CrcSums_l1, if_pos (by omega)]
    by_cases h : ((a ++ s).length : Int) > 300
    · rw [if_pos h]; exact .inl rfl
    · rw [if_neg h, List.flatten_cons, ← List.append_assoc]
      exact l05_l1 l b (a ++ s) (by omega) (fun t ht => hl t (List.mem_cons_of_mem _ ht))
theorem l05_l2 : ∀ (l : List (List UInt8)) (x : Nat), x < 4294967296 → (∀ s, s ∈ l → s.length ≤ 9223372036854775806) → f_l05_CrcSums_l2 l (x : Int) crcTab = some (((crcM x l.flatten : Nat) : Int), crcTab)
  | [], x, _, _ => by rw [f_l05_CrcSums_l2, List.flatten_nil, crcM_nil]
  | s :: l, x, hx, hs => by
    rw [f_l05_CrcSums_l2, crc_more x hx s (hs s (List.mem_cons_self ..)), Option.bind_some]
    dsimp only
    rw [l05_l2 l _ (crcM_lt hx s) (fun t ht => hs t (List.mem_cons_of_mem _ ht)), List.flatten_cons, crcM_append]
theorem pure_CrcSums (a0 : List (List UInt8)) (w0 : (wL wS) a0) : f_l05_CrcSums a0 = some true := by
  have hw : ∀ s, s ∈ a0 → s.length ≤ 140737488351232 := fun s hs => w0.2 s hs
  unfold f_l05_CrcSums
  rw [l05_speaks, Option.bind_some, if_pos rfl]
  rcases l05_l1 a0 false [] (by decide) hw with h | ⟨h, hl⟩
  · rw [h, Option.bind_some]
  rw [List.nil_append] at h hl
  have h2 := l05_l2 a0 0 (by decide) (fun s hs => Nat.le_trans (hw s hs) (by decide))
  rw [show ((0 : Nat) : Int) = 0 from rfl] at h2
  rw [h, Option.bind_some]
  dsimp only
  rw [crc_new, Option.bind_some, h2, Option.bind_some]
  dsimp only
  rw [r05_sum _ (by omega), Option.bind_some, crc_sum a0 (fun s hs => Nat.le_trans (hw s hs) (by decide)), Option.bind_some]
  dsimp only
  rw [if_pos rfl, if_pos rfl, crc_sum [a0.flatten] (by intro s hs; rw [List.mem_singleton.1 hs]; omega), Option.bind_some]
  dsimp only
  rw [show [a0.flatten].flatten = a0.flatten by simp, if_pos rfl]
  rfl
end Go.Proofs.Ytpiiopppbgpbpaa.Sl
namespace Go.Proofs.Ytpiiopppbgpbpaa.crcSums
open Go.ChangeShapes Go.WideShapes Go.ChangeAt Go.RowKit
open Go.ChangeMaps (open_string shut_string)
set_option linter.unusedVariables false
theorem own : ownKnob Try.prog.godebug = none := by kernel_rfl
theorem laidOut : laidOutB Try.prog = true := by kernel_rfl
set_option maxRecDepth 100000 in
set_option maxHeartbeats 1000000 in
theorem lifted (os : Os) (started : os.Started) (H : Type) (enc : TypeId × Value → H) :
    ReturnsInHanded {} Try.checked os 9 .any (Rows.crcSumsSpec.pre6 enc Try.prog Try.f9 Rows.crcSumsRow.domain false) (Rows.crcSumsSpec.post enc Try.prog Try.f9 false true false false) := by
  refine returnsInHanded_of_change_sized (C := Try.checked) own started (by kernel_rfl) Try.func9
    (ChangeSpec.witness6 (enc := enc) (C := Try.checked) false ⟨#[], #[.slice none 0 0], []⟩ 8 (by kernel_rfl) (by kernel_rfl) (by kernel_rfl) (by kernel_rfl)) ?_
  intro W base args ds gs before hval0 hW hcnd hsz0 _
  have hsz : (DataW.weightsEach Try.prog (Try.f9.params.toList ++ Rows.crcSumsSpec.plain.varTypes Try.prog) (ds ++ gs)).all (· ≤ reachBytes) = true := hsz0
  have hval : ∀ (j : Nat) t v, Try.f9.params[j]? = some t → args[j]? = some v → Value.okWide Try.prog W .any base t v := hval0
  have hW' := hW
  obtain ⟨p, q, hA0, hV, rfl, hfz, hnd⟩ := hW
  have hA : DataW.TrodAll enc Try.prog W 0 (fun _ => true) true Try.f9.params.toList args.toList ds p := hA0
  rw [Try.params9] at hA hval hsz
  obtain ⟨v0, vs0, d0, ds0, p0, q0, hargs, rfl, rfl, h0, r0⟩ := trodAll_cons hA
  obtain ⟨rfl, rfl, rfl⟩ := trodAll_nil r0
  obtain rfl : args = #[v0] := by cases args; simp_all
  obtain ⟨rfl, rfl⟩ := trodVars_none hV
  have k0 := h0
  have lt0 : ∀ x ∈ p0, x.block < W.heap.size := by obtain ⟨m, hm⟩ := k0; exact DataW.trod_lt m _ _ _ hm
  obtain ⟨a0, r_0, w0⟩ := Sl.opens_arg1 Try.underlying84 (hval 0 84 v0 rfl rfl) (Sl.op_slice 1 16 Try.underlying84 (by kernel_rfl) (by kernel_rfl) (by decide) (by decide) (Sl.op_str Try.underlying9)) h0 (fun x hx => of_decide_eq_true (List.all_eq_true.1 hsz x (Sl.weights_in 0 rfl rfl hx)))
  obtain ⟨A0, c0, e0⟩ := Sl.slice_cells r_0
  injection e0 with e0
  subst e0
  clear hA0 hval0 hsz0 hsz
  refine (Sl.f_l05_CrcSums_spec a0 A0 c0 true (Sl.pure_CrcSums a0 w0) (fun _ => False) W (fun _ h => h) (Sl.RX.reads_all r_0)).mono fun e W' hP => ?_
  obtain ⟨v, A', Ns, rfl, ⟨rfl, rfl, rfl⟩, hst⟩ := hP
  have bel := Sl.St.below hst
  exact ⟨_, rfl, _, _, _, [], _, [], hW', trodAll_mk1 (shut_bool Try.underlying4 _), (trodAll_cons_mk (Below.trod laidOut (by kernel_rfl) (of_decide_eq_true (by kernel_rfl)) k0 bel lt0) trodAll_mk0), rfl, bel.frame _, fun h => by cases h⟩
theorem over : Rows.crcSumsRow.holds Try.pinned (OpenSpec.ofChange Rows.crcSumsSpec) :=
  OpenClaim.holds_of_wide 9 Try.f9 rfl rfl rfl rfl rfl rfl rfl ⟨rfl, rfl, rfl, rfl, rfl⟩ rfl rfl rfl rfl rfl (by kernel_rfl) Try.func9 (by kernel_rfl)
    (of_decide_eq_true (by kernel_rfl)) (by unfold Func.isWrapper; first | (rw [if_pos (by decide +kernel)]; kernel_rfl) | (rw [if_neg (by decide +kernel)]; exact ⟨rfl, rfl⟩))
    (fun os started H enc _ => lifted os started H enc)
theorem proved : Rows.CrcSumsSaid := over
end Go.Proofs.Ytpiiopppbgpbpaa.crcSums
namespace Go.Proofs.Ytpiiopppbgpbpaa
theorem crcSums_holds : Rows.CrcSumsSaid := crcSums.proved
end Go.Proofs.Ytpiiopppbgpbpaa
