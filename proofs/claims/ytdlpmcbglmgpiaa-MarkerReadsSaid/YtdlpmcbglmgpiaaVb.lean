/- What is written as a number is read again. -/
import Derived.Test.YtdlpmcbglmgpiaaVr
namespace Go.Proofs.Ytdlpmcbglmgpiaa.Sl
open Go.RowKit
set_option linter.unusedVariables false
theorem pow_lt_cancel {a b : Nat} (h : 2 ^ a < 2 ^ b) : a < b := (Nat.pow_lt_pow_iff_right (by decide)).1 h
theorem vgo_put (bs : Int) (hb : 0 < bs) : ∀ (v pos acc i : Nat) (r : List UInt8), acc + v * 2 ^ (7 * i) < 2 ^ bs.toNat → (0 < i → 0 < v) →
    vgo bs (vput v ++ r) pos acc i = (acc + v * 2 ^ (7 * i), ⟨r, pos + (vput v).length, 0⟩) := by
  intro v
  induction v using Nat.strongRecOn with
  | _ v ih =>
    intro pos acc i r h hi
    have h7 : (7 * i : Int) < bs := by
      rcases Nat.eq_zero_or_pos i with h0 | h0
      · subst h0; omega
      · have hv := hi h0
        have h2 : 1 * 2 ^ (7 * i) ≤ v * 2 ^ (7 * i) := Nat.mul_le_mul_right _ hv
        have h3 := pow_lt_cancel (show 2 ^ (7 * i) < 2 ^ bs.toNat by omega)
        omega
    have hleft : ∀ d : Nat, d ≤ v → d / 2 ^ (bs - 7 * i).toNat = 0 := by
      intro d hd
      have e : 2 ^ bs.toNat = 2 ^ (bs - 7 * i).toNat * 2 ^ (7 * i) := by rw [← Nat.pow_add]; congr 1; omega
      have h2 : d * 2 ^ (7 * i) ≤ v * 2 ^ (7 * i) := Nat.mul_le_mul_right _ hd
      have h3 : d < 2 ^ (bs - 7 * i).toNat := by
        apply Nat.lt_of_mul_lt_mul_right (a := 2 ^ (7 * i))
        omega
      exact Nat.div_eq_of_lt h3
    rw [vput]
    split
    · rename_i hlt
      have hc : (UInt8.ofNat v).toNat = v := by simp [UInt8.toNat_ofNat']; omega
      simp only [List.cons_append, List.nil_append, vgo, hc, Nat.mod_eq_of_lt hlt, hleft v (Nat.le_refl _)]
      rw [if_neg (by simp; omega), if_neg (by omega), if_neg (by rintro ⟨h1, h2⟩; have := hi h2; omega)]
      simp
    · rename_i hge
      have hc : (UInt8.ofNat (v % 128 + 128)).toNat = v % 128 + 128 := by simp [UInt8.toNat_ofNat']; omega
      have e2 : 2 ^ (7 * (i + 1)) = 128 * 2 ^ (7 * i) := by rw [show 7 * (i + 1) = 7 + 7 * i by omega, Nat.pow_add]
      have e3 : acc + v % 128 * 2 ^ (7 * i) + v / 128 * 2 ^ (7 * (i + 1)) = acc + v * 2 ^ (7 * i) := by
        rw [e2]
        generalize 2 ^ (7 * i) = z
        have h1 : v / 128 * (128 * z) = v / 128 * 128 * z := by rw [Nat.mul_assoc]
        rw [h1, Nat.add_assoc, ← Nat.add_mul]
        congr 2
        omega
      simp only [List.cons_append, vgo, hc]
      rw [show (v % 128 + 128) % 128 = v % 128 by omega, hleft (v % 128) (Nat.mod_le _ _), if_neg (by simp; omega), if_pos (by omega), ih (v / 128) (by omega) _ _ _ _ (by rw [e3]; exact h) (by omega), e3]
      simp; omega
theorem vread_put (bs : Int) (hb : 0 < bs) (v pos : Nat) (r : List UInt8) (h : v < 2 ^ bs.toNat) : vread bs ⟨vput v ++ r, pos, 0⟩ = (v, ⟨r, pos + (vput v).length, 0⟩) := by
  unfold vread
  rw [if_neg (by simp), vgo_put bs hb v pos 0 0 r (by simpa using h) (by omega)]
  simp
theorem vread_put32 (v pos : Nat) (r : List UInt8) (h : v < 4294967296) : vread 32 ⟨vput v ++ r, pos, 0⟩ = (v, ⟨r, pos + (vput v).length, 0⟩) := vread_put 32 (by decide) v pos r (by rw [show 2 ^ (32 : Int).toNat = 4294967296 by decide]; exact h)
theorem vread_put64 (v pos : Nat) (r : List UInt8) (h : v < 18446744073709551616) : vread 64 ⟨vput v ++ r, pos, 0⟩ = (v, ⟨r, pos + (vput v).length, 0⟩) := vread_put 64 (by decide) v pos r (by rw [show 2 ^ (64 : Int).toNat = 18446744073709551616 by decide]; exact h)
theorem vfold_lt32 (n : Int) (h : -2147483648 ≤ n ∧ n ≤ 2147483647) : vfold n < 4294967296 := by unfold vfold; split <;> omega
/-- What is read as a number is what is written for it. -/
theorem vgo_ok (bs : Int) : ∀ (l : List UInt8) (pos acc i u : Nat) (s : I), vgo bs l pos acc i = (u, s) → s.err = 0 →
    ∃ k v, s = ⟨l.drop k, pos + k, 0⟩ ∧ k ≤ l.length ∧ u = acc + v * 2 ^ (7 * i) ∧ vput v = l.take k ∧ (0 < i → 0 < v) := by
  intro l
  induction l with
  | nil => intro pos acc i u s h h0; simp only [vgo, Prod.mk.injEq] at h; rw [← h.2] at h0; simp at h0
  | cons c l ih =>
    intro pos acc i u s h h0
    unfold vgo at h
    split at h
    · simp only [Prod.mk.injEq] at h; rw [← h.2] at h0; simp at h0
    · split at h
      · rename_i h128
        obtain ⟨k, v, h1, h2, h3, h4, h5⟩ := ih _ _ _ _ _ h h0
        have hv := h5 (by omega)
        have hc := c.toNat_lt
        refine ⟨k + 1, c.toNat % 128 + 128 * v, ?_, by simpa using h2, ?_, ?_, by omega⟩
        · rw [h1]; simp; omega
        · have e : 2 ^ (7 * (i + 1)) = 128 * 2 ^ (7 * i) := by rw [show 7 * (i + 1) = 7 + 7 * i by omega, Nat.pow_add]
          rw [h3, e, Nat.add_mul]
          generalize 2 ^ (7 * i) = z
          have : v * (128 * z) = 128 * v * z := by rw [Nat.mul_comm 128 v, Nat.mul_assoc]
          omega
        · rw [vput, if_neg (by omega), show (c.toNat % 128 + 128 * v) / 128 = v by omega, h4, List.take_succ_cons]
          congr 1
          rw [show (c.toNat % 128 + 128 * v) % 128 + 128 = c.toNat by omega]
          exact UInt8.ofNat_toNat
      · rename_i h128
        split at h
        · simp only [Prod.mk.injEq] at h; rw [← h.2] at h0; simp at h0
        · rename_i hz
          have hc := c.toNat_lt
          simp only [Prod.mk.injEq] at h
          refine ⟨1, c.toNat, by rw [← h.2]; simp, by simp, by rw [← h.1, Nat.mod_eq_of_lt (by omega)], ?_, ?_⟩
          · rw [vput, if_pos (by omega)]; simp
          · intro hi
            rcases Nat.eq_zero_or_pos c.toNat with h6 | h6
            · exact absurd ⟨h6, hi⟩ hz
            · exact h6
theorem vread_ok (bs : Int) (st : I) (h : (vread bs st).2.err = 0) : ∃ k, k ≤ st.rest.length ∧ (vread bs st).2 = ⟨st.rest.drop k, st.pos + k, 0⟩ ∧ vput (vread bs st).1 = st.rest.take k := by
  unfold vread at h ⊢
  split at h
  · rename_i hn; exact absurd h hn
  · rename_i hn
    rw [if_neg hn]
    obtain ⟨k, v, h1, h2, h3, h4, h5⟩ := vgo_ok bs _ _ _ _ _ _ (rfl : _ = ((vgo bs st.rest st.pos 0 0).1, (vgo bs st.rest st.pos 0 0).2)) h
    refine ⟨k, h2, h1, ?_⟩
    rw [h3, ← h4]
    simp
theorem vgo_wide : ∀ (l : List UInt8) (pos acc i : Nat), (vgo 32 l pos acc i).2.err = 0 → vgo 64 l pos acc i = vgo 32 l pos acc i := by
  intro l
  induction l with
  | nil => intro pos acc i h; rfl
  | cons c l ih =>
    intro pos acc i h
    unfold vgo at h ⊢
    split at h
    · simp at h
    · rename_i hn
      have h1 : ¬ ((64 : Int) - 7 * i ≤ 0 ∨ ((64 : Int) - 7 * i < 7 ∧ c.toNat % 128 / 2 ^ ((64 : Int) - 7 * i).toNat ≠ 0)) := by
        intro h2
        apply hn
        rcases h2 with h2 | h2
        · left; omega
        · left; omega
      rw [if_neg h1, if_neg hn]
      split
      · rename_i h128
        rw [if_pos h128] at h
        exact ih _ _ _ h
      · rfl
theorem vread_wide (st : I) (h : (vread 32 st).2.err = 0) : vread 64 st = vread 32 st := by
  unfold vread at h ⊢
  split
  · rfl
  · rename_i hn
    rw [if_neg hn] at h
    exact vgo_wide _ _ _ _ h
theorem vfold_small (n : Nat) (h : n < 4294967296) : -2147483648 ≤ vback n ∧ vback n ≤ 2147483647 := by unfold vback; split <;> omega
theorem vback_range (n : Nat) (h : n < 18446744073709551616) : -9223372036854775808 ≤ vback n ∧ vback n ≤ 9223372036854775807 := by unfold vback; split <;> omega
theorem vputInt_back (n : Nat) (h : n < 4294967296) : vputInt ([], 0) (vback n) = (vput n, 0) := by
  unfold vputInt
  rw [if_pos (vfold_small n h), vfold_back]
  simp [oput]
end Go.Proofs.Ytdlpmcbglmgpiaa.Sl
