/- batches that end transactions, read (plain laws). -/
import Derived.Test.YtdlpmcbglmgpiaaQ11
import Derived.Test.YtdlpmcbglmgpiaaPcursitorlaw12
namespace Go.Proofs.Ytdlpmcbglmgpiaa.Sl
open Go.RowKit
set_option linter.unusedVariables false
set_option linter.unusedSimpArgs false
theorem speaks12_eq : f_l12_speaks = some true := by kernel_rfl
theorem small_l2 (y : Int) : ∀ l : List Hd, (∀ h, h ∈ l → wf_Hd h) → (f_l11_Small_l2 l y = some (.ret 0)) ∨ (f_l11_Small_l2 l y = some (.go y) ∧ ∀ h, h ∈ l → h.fKey.length + h.fValue.data.length ≤ 100)
  | [], h => .inr ⟨rfl, fun x h => nomatch h⟩
  | x :: l, h => by
    have hx := h x (.head _)
    have h1 : x.fKey.length ≤ 140737488351232 := hx.1
    have h2 : x.fValue.data.length ≤ 140737488351232 := hx.2.2
    rw [f_l11_Small_l2, if_pos (by omega)]
    by_cases hc : (x.fKey.length : Int) + (x.fValue.data.length : Int) > 100
    · rw [if_pos hc]
      exact .inl rfl
    · rw [if_neg hc]
      rcases small_l2 y l (fun z hz => h z (.tail _ hz)) with g | ⟨g, g2⟩
      · exact .inl g
      · refine .inr ⟨g, fun z hz => ?_⟩
        rcases List.mem_cons.1 hz with rfl | hz
        · omega
        · exact g2 z hz
theorem small_l1 (y : Int) : ∀ l : List Rec, (∀ r, r ∈ l → wf_Rec r) → (f_l11_Small_l1 l y = some (.ret 0)) ∨ (f_l11_Small_l1 l y = some (.go y) ∧ ∀ r, r ∈ l → r.fKey.data.length + r.fValue.data.length ≤ 100 ∧ r.fHeaders.length ≤ 6 ∧ ∀ h, h ∈ r.fHeaders → h.fKey.length + h.fValue.data.length ≤ 100)
  | [], h => .inr ⟨rfl, fun x h => nomatch h⟩
  | x :: l, h => by
    obtain ⟨h1, h2, h3, h4, h5⟩ := h x (.head _)
    have h6 : x.fKey.data.length ≤ 140737488351232 := h3.2
    have h7 : x.fValue.data.length ≤ 140737488351232 := h4.2
    rw [f_l11_Small_l1, if_pos (by omega)]
    by_cases hc : (x.fKey.data.length : Int) + (x.fValue.data.length : Int) > 100
    · rw [if_pos hc]
      exact .inl rfl
    rw [if_neg hc]
    by_cases hd : (x.fHeaders.length : Int) > 6
    · rw [if_pos hd]
      exact .inl rfl
    rw [if_neg hd]
    rcases small_l2 y x.fHeaders h5.2 with g | ⟨g, g2⟩
    · rw [g]
      exact .inl rfl
    · rw [g, Option.bind_some]
      simp only
      rcases small_l1 y l (fun z hz => h z (.tail _ hz)) with k | ⟨k, k2⟩
      · exact .inl k
      · refine .inr ⟨k, fun z hz => ?_⟩
        rcases List.mem_cons.1 hz with rfl | hz
        · exact ⟨by omega, by omega, g2⟩
        · exact k2 z hz
theorem small11 (a : Bat) (hw : wf_Bat a) : f_l11_Small a = some 0 ∨ (f_l11_Small a = some 1 ∧ a.fRecords.length ≤ 12 ∧ ∀ r, r ∈ a.fRecords → r.fKey.data.length + r.fValue.data.length ≤ 100 ∧ r.fHeaders.length ≤ 6 ∧ ∀ h, h ∈ r.fHeaders → h.fKey.length + h.fValue.data.length ≤ 100) := by
  unfold f_l11_Small
  by_cases hc : (a.fRecords.length : Int) > 12
  · rw [if_pos hc]
    exact .inl rfl
  rw [if_neg hc]
  rcases small_l1 0 a.fRecords hw.2.2.2.2.2.2.2.2.2.2.2.2 with g | ⟨g, g2⟩
  · rw [g]
    exact .inl rfl
  · rw [g]
    exact .inr ⟨rfl, by omega, g2⟩
theorem records_zero (a : Bat) (r : Rec) (hr : a.fRecords = [r]) (h0 : 0 ≤ a.fFirst) (h1 : a.fFirst ≤ 9223372036854775807) (ht : wI r.fTime) (h : f_batch_records a = some 0) : ¬ badT a.fFirst r.fTime := by
  intro hbad
  unfold f_batch_records at h
  rcases brec_l1 a h0 h1 0 a.fRecords (-1) a.fFirst (fun x hx => by rw [hr] at hx; rcases List.mem_cons.1 hx with rfl | hx; exact ht; exact nomatch hx) with ⟨e, g1, g2⟩ | ⟨p', m', g1, g2⟩
  · rw [g2] at h
    have h : e = 0 := Option.some.inj h
    subst h
    rw [hr, ordR] at g1
    split at g1
    · injection g1 with g1
      exact absurd g1 (by decide)
    · injection g1 with g1
      exact absurd g1 (by decide)
  · rw [hr, ordR] at g1
    split at g1
    · exact nomatch g1
    · exact nomatch g1
theorem chk_control {a : Bat} {cr e0 : Int} (h : chkB a cr e0 = 0) (hc : a.fControl = true) : numOk a ∧ (a.fRecords.length : Int) = 1 ∧ cr = 0 ∧ e0 = 0 := by
  unfold chkB at h
  split at h
  · rename_i hn
    split at h
    · split at h
      · split at h
        · rename_i hl
          split at h
          · split at h
            · rename_i hcr
              exact ⟨hn, hl, hcr, h⟩
            · rename_i hcr
              exact absurd h hcr
          · rename_i hf
            exact absurd h hf
        · exact absurd h (by decide)
      · exact absurd h (by decide)
    · exact absurd h (by decide)
  · exact absurd h (by decide)
theorem pure_MarkerReads (a0 : Bat) (w0 : wf_Bat a0) : f_l12_MarkerReads a0 = some true := by
  unfold f_l12_MarkerReads f_marker_Read
  rw [speaks12_eq, Option.bind_some, if_pos rfl]
  rcases small11 a0 w0 with h | ⟨h, h1, h2⟩
  · rw [h]
    rfl
  rw [h, Option.bind_some, if_neg (by decide)]
  obtain ⟨cr, e0, C1, C2, C3, C4⟩ := check_same a0 w0 (by omega) (fun r hr => by
    have := h2 r hr
    exact ⟨by omega, by omega, by omega⟩)
  rw [C1, C2]
  simp only [Option.bind_some]
  by_cases hz : chkB a0 cr e0 = 0
  · by_cases hc : a0.fControl = true
    · obtain ⟨k1, k2, k3, k4⟩ := chk_control hz hc
      obtain ⟨r, x1, x2, g1, g2, g3⟩ := C4 k2
      obtain ⟨r', hrec⟩ : ∃ r, a0.fRecords = [r] := List.length_eq_one_iff.1 (by omega)
      have hrr : r' = r := by rw [hrec] at g1; simpa using g1
      subst hrr
      have ht : wI r'.fTime := (w0.2.2.2.2.2.2.2.2.2.2.2.2 r' (by rw [hrec]; exact .head _)).1
      have hb := records_zero a0 r' hrec k1.2.2.2.2.1 w0.2.2.2.2.2.2.1.2 ht (by rw [C3 k1, k4])
      unfold badT at hb
      have ht0 := ht.1
      have h0 := k1.2.2.2.2.1
      have hrng : -9223372036854775808 ≤ (a0.fFirst + r'.fTime) ∧ (a0.fFirst + r'.fTime) ≤ 9223372036854775807 := by omega
      simp only [hz, hc, if_true, g1, g2, g3, Option.bind_some, if_pos hrng]
    · simp only [hz, if_true, if_neg hc, Option.bind_some, Bool.false_eq_true, if_false]
  · simp only [if_neg hz, Option.bind_some, Bool.false_eq_true, if_false, if_true]
end Go.Proofs.Ytdlpmcbglmgpiaa.Sl
