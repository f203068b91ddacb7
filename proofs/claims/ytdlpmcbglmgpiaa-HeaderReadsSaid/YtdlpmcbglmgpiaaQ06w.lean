/- headers: what is written, and what is read of it (plain laws). -/
import Derived.Test.YtdlpmcbglmgpiaaQ06
namespace Go.Proofs.Ytdlpmcbglmgpiaa.Sl
open Go.RowKit
set_option linter.unusedVariables false
set_option linter.unusedSimpArgs false
/-- A blob behind its varint length. -/
def encb (b : Bl) : List UInt8 := vput (vfold (blen b)) ++ b.data
def ench (h : Hd) : List UInt8 := encb ⟨false, h.fKey⟩ ++ encb h.fValue
def encl : List Hd → List UInt8
  | [] => []
  | h :: l => ench h ++ encl l
theorem vput_small (n : Nat) (h : n < 4294967296) : (vput n).length ≤ 10 := vput_ten n (by omega)
theorem blen_rng (b : Bl) (h : b.data.length ≤ 2147483647) : -2147483648 ≤ blen b ∧ blen b ≤ 2147483647 := by unfold blen; split <;> omega
theorem encb_length (b : Bl) (h : b.data.length ≤ 2147483647) : (encb b).length ≤ 10 + b.data.length ∧ 1 ≤ (encb b).length := by
  have h1 := vput_small (vfold (blen b)) (vfold_lt32 _ (blen_rng b h))
  have h2 := vput_pos (vfold (blen b))
  unfold encb
  rw [List.length_append]
  omega
theorem putVaried_ok (t : List UInt8) (b : Bl) (h : b.data.length ≤ 2147483647) (hl : t.length + 10 + b.data.length ≤ 140737488355328) (hb : bright b = true) : gPutVaried (t, 0) b = some (t ++ encb b, 0) := by
  rw [gPutVaried_eq _ _ hl]
  unfold bputVaried bwrite vputInt oput encb
  rw [if_pos hb, if_pos (blen_rng b h)]
  simp
theorem putVaried_bad (t : List UInt8) (b : Bl) (h : b.data.length ≤ 2147483647) (hl : t.length + 10 + b.data.length ≤ 140737488355328) (hb : bright b = false) : gPutVaried (t, 0) b = some (t ++ vput (vfold (blen b)), 4) := by
  rw [gPutVaried_eq _ _ hl]
  unfold bputVaried bwrite vputInt oput ofail
  rw [if_neg (by simp [hb]), if_pos (blen_rng b h)]
  simp
theorem vputInt_e (t : List UInt8) (e n : Int) (h : e ≠ 0) : vputInt (t, e) n = (t, e) := by
  unfold vputInt oput ofail
  simp [h]
theorem putVaried_e (t : List UInt8) (b : Bl) (hl : t.length + 10 + b.data.length ≤ 140737488355328) (e : Int) (he : e ≠ 0) : gPutVaried (t, e) b = some (t, e) := by
  rw [gPutVaried_eq _ _ hl]
  unfold bputVaried bwrite
  rw [vputInt_e t e _ he]
  unfold oput ofail
  simp [he]
theorem putName_eq (st : List UInt8 × Int) (s : List UInt8) (hl : st.1.length + 10 + s.length ≤ 140737488355328) : gPutName st s = gPutVaried st ⟨false, s⟩ := by
  rw [gPutName_eq _ _ hl, gPutVaried_eq _ _ hl]
  rfl
theorem bright_f (s : List UInt8) : bright ⟨false, s⟩ = true := rfl
def allR (l : List Hd) : Bool := l.all (fun h => bright h.fValue)
theorem hwrite_e : ∀ (l : List Hd) (t : List UInt8) (e : Int), e ≠ 0 → hsum l ≤ 1000 → t.length ≤ 140737488000000 → f_header_Write_l1 l (t, e) = some (t, e)
  | [], t, e, he, h1, h2 => rfl
  | h :: l, t, e, he, h1, h2 => by
    rw [hsum] at h1
    rw [f_header_Write_l1, putName_eq _ _ (by simp only; omega), putVaried_e _ _ (by simp only; omega) e he]
    simp only [Option.bind_some]
    rw [putVaried_e _ _ (by omega) e he]
    simp only [Option.bind_some]
    exact hwrite_e l t e he (by omega) h2
theorem hwrite_loop : ∀ (l : List Hd) (t : List UInt8), hsum l ≤ 1000 → t.length + 20 * hsum l ≤ 140737488000000 → ∃ t', f_header_Write_l1 l (t, 0) = some (if allR l = true then (t ++ encl l, 0) else (t', 4))
  | [], t, h1, h2 => ⟨[], by simp [f_header_Write_l1, allR, encl]⟩
  | h :: l, t, h1, h2 => by
    rw [hsum] at h1 h2
    have hk := encb_length ⟨false, h.fKey⟩ (by simp only; omega)
    have hv := encb_length h.fValue (by omega)
    simp only at hk
    rw [f_header_Write_l1, putName_eq _ _ (by simp only; omega), putVaried_ok _ _ (by simp only; omega) (by simp only; omega) (bright_f _)]
    simp only [Option.bind_some]
    by_cases hb : bright h.fValue = true
    · rw [putVaried_ok _ _ (by omega) (by rw [List.length_append]; omega) hb]
      simp only [Option.bind_some]
      obtain ⟨t', ht⟩ := hwrite_loop l (t ++ encb ⟨false, h.fKey⟩ ++ encb h.fValue) (by omega) (by simp only [List.length_append]; omega)
      refine ⟨t', ?_⟩
      rw [ht]
      simp only [allR, List.all_cons, hb, Bool.true_and, encl, ench, List.append_assoc]
    · have hb' : bright h.fValue = false := by simpa using hb
      rw [putVaried_bad _ _ (by omega) (by rw [List.length_append]; omega) hb']
      simp only [Option.bind_some]
      have h10 := vput_small (vfold (blen h.fValue)) (vfold_lt32 _ (blen_rng _ (by omega)))
      rw [hwrite_e l _ 4 (by decide) (by omega) (by simp only [List.length_append]; omega)]
      exact ⟨t ++ encb ⟨false, h.fKey⟩ ++ vput (vfold (blen h.fValue)), by simp only [allR, List.all_cons, hb', Bool.false_and, Bool.false_eq_true, if_false]⟩
theorem hsum_length : ∀ l : List Hd, l.length ≤ hsum l
  | [] => Nat.le_refl _
  | h :: l => by rw [hsum, List.length_cons]; have := hsum_length l; omega
def enchs (l : List Hd) : List UInt8 := vput (vfold (l.length : Int)) ++ encl l
theorem hwrite_eq (l : List Hd) (h : hsum l ≤ 1000) : ∃ t', f_header_Write ([], 0) l = some (if allR l = true then (enchs l, 0) else (t', 4)) := by
  have hl := hsum_length l
  unfold f_header_Write
  rw [gPutInt_eq _ _ (by simp only [List.length_nil]; omega)]
  simp only [Option.bind_some]
  have hv : vputInt ([], 0) (l.length : Int) = (vput (vfold (l.length : Int)), 0) := by
    unfold vputInt oput
    rw [if_pos (by omega)]
    simp
  have h10 := vput_small (vfold (l.length : Int)) (vfold_lt32 _ (by omega))
  obtain ⟨t', ht⟩ := hwrite_loop l (vput (vfold (l.length : Int))) h (by omega)
  exact ⟨t', by rw [hv, ht]; rfl⟩
theorem right_loop (a0 : List Hd) : ∀ (l : List Hd) (k g : Nat), a0.drop k = l → k ≤ a0.length → a0.length ≤ 1000 → l.length + 1 ≤ g → f_r06_Right_l1 a0 g k = some (if allR l = true then .go a0.length else .ret false)
  | [], k, g + 1, hd, hk, hs, hg => by
    have : a0.length ≤ k := List.drop_eq_nil_iff.1 hd
    rw [f_r06_Right_l1, if_neg (by omega), show k = a0.length by omega]
    rfl
  | h :: l, k, g + 1, hd, hk, hs, hg => by
    have hlt : k < a0.length := by
      by_cases hc : k < a0.length
      · exact hc
      · rw [List.drop_eq_nil_of_le (by omega)] at hd
        cases hd
    have h0 := List.drop_eq_getElem_cons hlt
    rw [hd] at h0
    obtain ⟨rfl, rfl⟩ := List.cons.inj h0
    rw [List.length_cons] at hg
    have ih := right_loop a0 (a0.drop (k + 1)) (k + 1) g rfl (by omega) hs (by omega)
    rw [f_r06_Right_l1, if_pos (by omega), List.getElem?_eq_getElem hlt]
    simp only [Option.bind_some]
    rw [if_pos (show -9223372036854775808 ≤ ((k : Int) + 1) ∧ ((k : Int) + 1) ≤ 9223372036854775807 by omega)]
    rw [ih]
    simp only [allR, List.all_cons]
    unfold bright
    by_cases hn : a0[k].fValue.null = true
    · by_cases hdat : a0[k].fValue.data = []
      · simp [hn, hdat]
      · simp [hn, hdat]
    · simp [hn]
theorem right_eq (a0 : List Hd) (hs : a0.length ≤ 1000) : f_r06_Right a0 = some (allR a0) := by
  unfold f_r06_Right
  rw [right_loop a0 a0 0 _ rfl (by omega) hs (by omega)]
  simp only [Option.bind_some]
  cases allR a0 <;> rfl
theorem rbVaried_eq (b : Bl) (h : b.data.length ≤ 140737488355328) : gRBVaried b = some (encb b) := if_pos h
theorem rwrite_loop (a0 : List Hd) : ∀ (l : List Hd) (t : List UInt8) (k g : Nat), a0.drop k = l → k ≤ a0.length → hsum l ≤ 1000 → a0.length ≤ 1000000 → t.length + 20 * hsum l ≤ 140737488000000 → l.length + 1 ≤ g → f_r06_Write_l1 a0 g t k = some (t ++ encl l, a0.length)
  | [], t, k, g + 1, hd, hk, hs, hk2, ht, hg => by
    have : a0.length ≤ k := List.drop_eq_nil_iff.1 hd
    rw [f_r06_Write_l1, if_neg (by omega), show k = a0.length by omega]
    simp [encl]
  | h :: l, t, k, g + 1, hd, hk, hs, hk2, ht, hg => by
    have hlt : k < a0.length := by
      by_cases hc : k < a0.length
      · exact hc
      · rw [List.drop_eq_nil_of_le (by omega)] at hd
        cases hd
    have h0 := List.drop_eq_getElem_cons hlt
    rw [hd] at h0
    obtain ⟨rfl, rfl⟩ := List.cons.inj h0
    rw [List.length_cons] at hg
    rw [hsum] at hs ht
    have hkk := encb_length ⟨false, a0[k].fKey⟩ (by simp only; omega)
    have hv := encb_length a0[k].fValue (by omega)
    simp only at hkk
    rw [f_r06_Write_l1, if_pos (by omega), List.getElem?_eq_getElem hlt]
    simp only [Option.bind_some]
    rw [rbVaried_eq _ (by simp only; omega)]
    simp only [Option.bind_some]
    rw [if_pos (by omega), rbVaried_eq _ (by omega)]
    simp only [Option.bind_some]
    rw [if_pos (by rw [List.length_append]; omega), if_pos (by omega), rwrite_loop a0 (a0.drop (k + 1)) _ (k + 1) g rfl (by omega) (by omega) (by omega) (by simp only [List.length_append]; omega) (by omega)]
    simp only [encl, ench, List.append_assoc]
theorem rput_eq (n : Nat) (h : n < 18446744073709551616) : gRPut (n : Int) = some (vput n) := by
  rw [gRPut_eq _ ⟨by omega, by omega⟩, Int.toNat_natCast]
theorem rint_eq (n : Int) (h : -9223372036854775808 ≤ n ∧ n ≤ 9223372036854775807) : f_r06_Int n = some (vput (vfold n)) := by
  have e1 := gRFold_eq n h
  have e2 := rput_eq (vfold n) (vfold_lt n h.1 h.2)
  unfold f_r06_Int
  rw [e1, Option.bind_some, e2, Option.bind_some]
theorem rwrite_eq (l : List Hd) (h : hsum l ≤ 1000) : f_r06_Write l = some (enchs l) := by
  have hl := hsum_length l
  have h10 := vput_small (vfold (l.length : Int)) (vfold_lt32 _ (by omega))
  unfold f_r06_Write
  rw [rint_eq _ (by omega)]
  simp only [Option.bind_some]
  rw [rwrite_loop l l _ 0 _ rfl (by omega) h (by omega) (by omega) (by omega)]
  rfl
theorem same06_loop (a0 : List Hd) (hl : a0.length ≤ 1000000) : ∀ (d k g : Nat), k + d = a0.length → d + 1 ≤ g → f_r06_Same_l1 a0 a0 g k = some (.go a0.length)
  | 0, k, g + 1, hk, hg => by
    rw [f_r06_Same_l1, if_neg (by omega), show k = a0.length by omega]
  | d + 1, k, g + 1, hk, hg => by
    rw [f_r06_Same_l1, if_pos (by omega), List.getElem?_eq_getElem (by omega)]
    simp only [Option.bind_some, if_true]
    rw [if_pos (by omega), same06_loop a0 hl d (k + 1) g (by omega) (by omega)]
theorem same06 (l : List Hd) (h : l.length ≤ 1000000) : f_r06_Same l l = some true := by
  unfold f_r06_Same
  rw [if_pos rfl, same06_loop l h l.length 0 _ (by omega) (by omega)]
  rfl
/-- What is read of a blob that was written. -/
theorem bvaried_enc (b : Bl) (r : List UInt8) (p : Nat) (h : b.data.length ≤ 2147483647) (hb : bright b = true) : bvaried ⟨encb b ++ r, p, 0⟩ = (b, ⟨r, p + (encb b).length, 0⟩) := by
  unfold bvaried encb
  rw [List.append_assoc, vread_put32 _ _ _ (vfold_lt32 _ (blen_rng b h))]
  unfold vbackI
  simp only [vback_fold]
  unfold bread
  rw [if_neg (by simp)]
  obtain ⟨n, d⟩ := b
  cases n
  · simp only [blen, Bool.false_eq_true, if_false]
    rw [if_neg (by omega)]
    unfold itake
    rw [if_neg (by simp), if_neg (by omega), if_neg (by simp only [List.length_append]; omega)]
    simp [List.length_append, Nat.add_assoc]
  · have hd : d = [] := by simpa [bright] using hb
    subst hd
    simp [blen]
theorem name_enc (s : List UInt8) (r : List UInt8) (p : Nat) (h : s.length ≤ 2147483647) : bname ⟨encb ⟨false, s⟩ ++ r, p, 0⟩ = (s, ⟨r, p + (encb ⟨false, s⟩).length, 0⟩) := by
  unfold bname bmust
  rw [bvaried_enc ⟨false, s⟩ r p h rfl]
  rfl
set_option maxRecDepth 100000 in
theorem hread_loop (N : Int) : ∀ (l acc : List Hd) (k p g : Nat) (r : List UInt8), (k : Int) + l.length = N → N ≤ 1000 → acc.length = k → hsum l ≤ 1000 → allR l = true → l.length + 1 ≤ g → ∃ p', f_header_Read_l1 N g acc k ⟨encl l ++ r, p, 0⟩ = some (.go (acc ++ l, k + l.length, ⟨r, p', 0⟩))
  | [], acc, k, p, g + 1, r, hk, hN, ha, hs, hr, hg => by
    rw [f_header_Read_l1, if_neg (by simp only [List.length_nil] at hk; omega)]
    exact ⟨p, by simp [encl]⟩
  | h :: l, acc, k, p, g + 1, r, hk, hN, ha, hs, hr, hg => by
    rw [hsum] at hs
    rw [List.length_cons] at hk hg
    simp only [allR, List.all_cons, Bool.and_eq_true] at hr
    rw [f_header_Read_l1, if_pos (by omega), gName_eq]
    simp only [Option.bind_some, encl, ench, List.append_assoc]
    rw [name_enc _ _ _ (by omega)]
    simp only [gVaried_eq, Option.bind_some]
    rw [bvaried_enc _ _ _ (by omega) hr.1]
    dsimp only
    rw [if_pos (by omega), gErr_eq, Option.bind_some]
    dsimp only
    rw [if_pos rfl, if_pos (by omega)]
    obtain ⟨p', h'⟩ := hread_loop N l (acc ++ [h]) (k + 1) (p + (encb ⟨false, h.fKey⟩).length + (encb h.fValue).length) g r (by omega) hN (by simp [ha]) (by omega) hr.2 (by omega)
    refine ⟨p', ?_⟩
    rw [h']
    rw [List.append_assoc, List.singleton_append, List.length_cons, show k + 1 + l.length = k + (l.length + 1) by omega]
theorem encl_length : ∀ l : List Hd, hsum l ≤ 1000 → 2 * l.length ≤ (encl l).length ∧ (encl l).length ≤ 20 * hsum l
  | [], _ => by simp [encl]
  | h :: l, hs => by
    rw [hsum] at hs ⊢
    have ih := encl_length l (by omega)
    have hk := encb_length ⟨false, h.fKey⟩ (by simp only; omega)
    have hv := encb_length h.fValue (by omega)
    simp only at hk
    simp only [encl, ench, List.length_append, List.length_cons]
    omega
set_option maxRecDepth 100000 in
theorem hread_eq (l : List Hd) (r : List UInt8) (p : Nat) (hr : r.length ≤ 140737488000000) (h : hsum l ≤ 1000) (ha : allR l = true) : ∃ p', f_header_Read ⟨enchs l ++ r, p, 0⟩ = some (l, ⟨r, p', 0⟩) := by
  have hl := hsum_length l
  have he := encl_length l h
  unfold f_header_Read enchs
  rw [gVInt_eq, List.append_assoc, vread_put32 _ _ _ (vfold_lt32 _ (by omega))]
  unfold vbackI
  simp only [vback_fold, Option.bind_some, gErr_eq, if_true, gLeft_eq]
  rw [if_neg (by omega), if_pos (by simp only [List.length_append]; omega), if_neg (by simp only [List.length_append]; omega)]
  obtain ⟨p', h'⟩ := hread_loop (l.length : Int) l [] 0 (p + (vput (vfold (l.length : Int))).length) ((l.length : Int).toNat + 1) r (by omega) (by omega) rfl h ha (by omega)
  refine ⟨p', ?_⟩
  rw [h']
  simp
set_option maxRecDepth 100000 in
theorem pure_HeaderWrites (a0 : List Hd) (w0 : wL wf_Hd a0) : f_l06_HeaderWrites a0 = some true := by
  unfold f_l06_HeaderWrites
  rw [speaks06_eq]
  simp only [Option.bind_some, if_true]
  rcases small06 a0 w0 with h | ⟨h, h1⟩
  · rw [h]; rfl
  rw [h]
  simp only [Option.bind_some]
  have hl := hsum_length a0
  have he := encl_length a0 h1
  have h10 := vput_small (vfold (a0.length : Int)) (vfold_lt32 _ (by omega))
  obtain ⟨t', ht⟩ := hwrite_eq a0 h1
  rw [if_neg (by decide), ht, right_eq a0 (by omega)]
  simp only [Option.bind_some, gOText_eq]
  cases ha : allR a0
  · simp [otx]
  · simp only [if_true, otx]
    rw [gNew_eq _ (by simp only [enchs, List.length_append]; omega), rwrite_eq a0 h1]
    simp only [Option.bind_some, if_true]
    obtain ⟨p', hp⟩ := hread_eq a0 [] 0 (by simp) h1 ha
    rw [List.append_nil] at hp
    rw [hp]
    simp only [Option.bind_some]
    rw [same06 a0 (by omega)]
    simp [gClose_eq, iclose]
end Go.Proofs.Ytdlpmcbglmgpiaa.Sl
