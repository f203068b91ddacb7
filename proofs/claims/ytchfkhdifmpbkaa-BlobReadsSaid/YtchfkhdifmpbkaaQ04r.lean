/- blobs: what is read (plain laws). -/
import Derived.Test.YtchfkhdifmpbkaaQ04
import Derived.Test.YtchfkhdifmpbkaaPcursitorlaw04BlobReads
namespace Go.Proofs.Ytchfkhdifmpbkaa.Sl
open Go.RowKit
set_option linter.unusedVariables false
set_option linter.unusedSimpArgs false
/-- The same was read. -/
def sameRd (r : Bl × I) (x : Gt) : Prop := r.1 = x.blob ∧ r.2.err = x.err ∧ (x.err = 0 → (r.2.pos : Int) = x.many)
theorem bread_rd (l : List UInt8) (head : Nat) (n : Int) (hh : head ≤ l.length) : sameRd (bread ⟨l.drop head, head, 0⟩ n) (rgot l head n) := by
  have hd : (l.drop head).length = l.length - head := List.length_drop
  unfold bread rgot
  rw [if_neg (by simp)]
  by_cases h1 : n = -1
  · rw [if_pos h1, if_pos h1]
    exact ⟨rfl, rfl, fun _ => rfl⟩
  · rw [if_neg h1, if_neg h1]
    unfold itake
    rw [if_neg (by simp)]
    by_cases h2 : n < 0
    · rw [if_pos h2, if_pos h2]
      exact ⟨rfl, rfl, fun h => by simp at h⟩
    · rw [if_neg h2, if_neg h2]
      by_cases h3 : (l.length : Int) - head < n
      · rw [if_pos h3, if_pos (by simp only; omega)]
        exact ⟨rfl, rfl, fun h => by simp at h⟩
      · rw [if_neg h3, if_neg (by simp only; omega)]
        exact ⟨rfl, rfl, fun h => by simp only; omega⟩
theorem bfixed_rd (l : List UInt8) (k : Nat) (h1 : 1 ≤ k) (h8 : k ≤ 8) : sameRd (bfixed ⟨l, 0, 0⟩ k) (rfixed l k) := by
  unfold bfixed rfixed
  by_cases h : l.length < k
  · have hi : iint ⟨l, 0, 0⟩ k = (0, ⟨l, 0, 1⟩) := by
      unfold iint
      rw [if_pos (by omega)]
      unfold itake
      rw [if_neg (by simp), if_neg (by omega), if_pos (by simp only; omega)]
      rfl
    rw [hi, if_pos h]
    exact ⟨rfl, rfl, fun h => by simp at h⟩
  · have hi : iint ⟨l, 0, 0⟩ k = (beInt (l.take k), ⟨l.drop k, k, 0⟩) := by
      unfold iint
      rw [if_pos (by omega)]
      unfold itake
      rw [if_neg (by simp), if_neg (by omega), if_neg (by simp only; omega)]
      simp
    rw [hi, if_neg h]
    exact bread_rd l k _ (by omega)
theorem bvaried_rd (l : List UInt8) : sameRd (bvaried ⟨l, 0, 0⟩) (rvaried l) := by
  have hr : vread 32 ⟨l, 0, 0⟩ = vgo 32 l 0 0 0 := by unfold vread; rw [if_neg (by simp)]
  unfold bvaried rvaried rvaried_ vgot
  rw [hr]
  by_cases he : (vgo 32 l 0 0 0).2.err = 0
  · obtain ⟨k, v, h1, h2, _, _, _⟩ := vgo_ok 32 l 0 0 0 _ _ (rfl : _ = ((vgo 32 l 0 0 0).1, (vgo 32 l 0 0 0).2)) he
    rw [if_pos he]
    simp only
    rw [if_neg (by simp)]
    have h3 : (vbackI (vgo 32 l 0 0 0)).2 = ⟨l.drop k, k, 0⟩ := by unfold vbackI; rw [h1]; simp
    have h4 : (vgo 32 l 0 0 0).2.pos = k := by rw [h1]; simp
    rw [h3, h4]
    exact bread_rd l k _ h2
  · rw [if_neg he]
    simp only
    rw [if_pos he]
    have h5 : bread (vbackI (vgo 32 l 0 0 0)).2 (vbackI (vgo 32 l 0 0 0)).1 = (⟨false, []⟩, (vgo 32 l 0 0 0).2) := by
      unfold bread vbackI
      simp only
      rw [if_pos he]
    rw [h5]
    exact ⟨rfl, rfl, fun h => absurd h he⟩
theorem is_ok (r : Bl × I) (x : Gt) (h : sameRd r x) : f_l04_is (bmust r).2 x (bmust r).1 = some (true, (bmust r).2) := by
  obtain ⟨h1, h2, h3⟩ := h
  obtain ⟨b, st⟩ := r
  simp only at h1 h2 h3
  subst h1
  unfold f_l04_is bmust
  by_cases he : x.err = 0
  · rw [if_pos he]
    have hs : st.err = 0 := by rw [h2, he]
    cases hn : x.blob.null
    · simp [gErr_eq, gAt_eq, h2, h3 he]
    · simp [gErr_eq, ifail, hs]
  · rw [if_neg he]
    have hs : st.err ≠ 0 := by rw [h2]; exact he
    cases hn : x.blob.null
    · simp [gErr_eq, h2]
    · simp [gErr_eq, ifail, hs, h2, he]
theorem pure_BlobReads (a0 : List UInt8) (a1 : Int) (w0 : a0.length ≤ 140737488351232) (w1 : wU8 a1) : f_l04_BlobReads a0 a1 = some true := by
  unfold f_l04_BlobReads
  rw [speaks04_eq]
  simp only [Option.bind_some, if_true]
  by_cases hl : (a0.length : Int) > 2000
  · rw [if_pos hl]
  have w1' : 0 ≤ a1 ∧ a1 ≤ 255 := w1
  rw [if_neg hl, if_pos (by omega), if_pos (by omega), if_pos (by omega)]
  rw [gNew_eq a0 (by omega)]
  obtain ⟨k, hk, hk1, hk8⟩ : ∃ k : Nat, 1 + (a1 % 8) = (k : Int) ∧ 1 ≤ k ∧ k ≤ 8 := ⟨(1 + (a1 % 8)).toNat, by omega, by omega, by omega⟩
  rw [hk]
  have e1 : gRRFixed a0 (k : Int) = some (rfixed a0 k) := if_pos (by omega)
  have e2 : gRRFixed a0 2 = some (rfixed a0 2) := if_pos (by omega)
  have e3 : gRRVaried a0 = some (rvaried a0) := if_pos (by omega)
  have hf := bfixed_rd a0 k hk1 hk8
  have hf2 := bfixed_rd a0 2 (by decide) (by decide)
  have hv := bvaried_rd a0
  have i2 := is_ok _ _ hf2
  have iv := is_ok _ _ hv
  have t2 : gText ⟨a0, 0, 0⟩ = some ((bmust (bfixed ⟨a0, 0, 0⟩ ((2 : Nat) : Int))).1, (bmust (bfixed ⟨a0, 0, 0⟩ ((2 : Nat) : Int))).2) := rfl
  have tv : gName ⟨a0, 0, 0⟩ = some ((bmust (bvaried ⟨a0, 0, 0⟩)).1, (bmust (bvaried ⟨a0, 0, 0⟩)).2) := rfl
  rw [e1, e2, e3]
  simp only [Option.bind_some, gFixed_eq, gVaried_eq, t2, tv, gErr_eq, gAt_eq, i2, iv, if_true]
  obtain ⟨f1, f2, f3⟩ := hf
  obtain ⟨v1, v2, v3⟩ := hv
  rw [f1, f2, v1, v2]
  simp only [if_true]
  by_cases hfe : (rfixed a0 k).err = 0
  · rw [if_pos hfe, f3 hfe]
    by_cases hve : (rvaried a0).err = 0
    · rw [if_pos hve, v3 hve]
      simp
    · rw [if_neg hve]
      simp
  · rw [if_neg hfe]
    by_cases hve : (rvaried a0).err = 0
    · rw [if_pos hve, v3 hve]
      simp
    · rw [if_neg hve]
end Go.Proofs.Ytchfkhdifmpbkaa.Sl
