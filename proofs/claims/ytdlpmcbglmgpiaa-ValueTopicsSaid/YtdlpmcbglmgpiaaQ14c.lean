/- values: there and back (plain laws). -/
import Derived.Test.YtdlpmcbglmgpiaaQ14b
namespace Go.Proofs.Ytdlpmcbglmgpiaa.Sl
open Go.RowKit
set_option linter.unusedVariables false
set_option linter.unusedSimpArgs false
/-! Sameness. -/
theorem same_loop (a b : List Int) (ha : a.length ≤ 140737488355328) (y : Bool) : ∀ (t u : List Int) (k fuel : Nat), a.drop k = t → b.drop k = u → t.length = u.length → t.length < fuel → ∃ z, f_r01_Same_l1 a b fuel y k = some (if t = u then .go (y, z) else .ret false)
  | [], [], k, fuel + 1, ht, hu, hl, hf => by
    have := nil_drop ht
    exact ⟨k, by rw [f_r01_Same_l1, if_neg (by omega), if_pos rfl]⟩
  | [], d :: u, k, fuel, ht, hu, hl, hf => by simp at hl
  | c :: t, [], k, fuel, ht, hu, hl, hf => by simp at hl
  | c :: t, d :: u, k, fuel + 1, ht, hu, hl, hf => by
    obtain ⟨t1, t2, t3⟩ := at_drop ht
    obtain ⟨u1, u2, u3⟩ := at_drop hu
    simp only [List.length_cons] at hl hf
    obtain ⟨z, hz⟩ := same_loop a b ha y t u (k + 1) fuel t2 u2 (by omega) (by omega)
    rw [f_r01_Same_l1, if_pos (by omega), t1, Option.bind_some, u1, Option.bind_some]
    by_cases hc : c = d
    · rw [if_pos hc, if_pos (by omega), hz]
      subst hc
      refine ⟨z, ?_⟩
      by_cases h : t = u
      · rw [if_pos h, if_pos (by rw [h])]
      · rw [if_neg h, if_neg (by simpa using h)]
    · rw [if_neg hc]
      exact ⟨0, by rw [if_neg (fun h => hc (List.cons.inj h).1)]⟩
theorem same_eq (a b : List Int) (ha : a.length ≤ 140737488355328) : f_r01_Same a b = some (decide (a = b)) := by
  unfold f_r01_Same
  by_cases hl : (a.length : Int) = (b.length : Int)
  · rw [if_pos hl]
    obtain ⟨z, hz⟩ := same_loop a b ha false a b 0 (((a.length : Int)).toNat + 1) rfl rfl (by omega) (by omega)
    rw [hz]
    by_cases h : a = b
    · rw [if_pos h, decide_eq_true h]
      rfl
    · rw [if_neg h, decide_eq_false h]
      rfl
  · rw [if_neg hl, decide_eq_false (fun h => hl (by rw [h]))]
theorem sl_same : ∀ (a b : List Int) (fuel : Nat) (y : Bool) (k : Nat), f_slices_Equal_l1 a b fuel y k = f_r01_Same_l1 a b fuel y k
  | a, b, 0, y, k => rfl
  | a, b, fuel + 1, y, k => by
    rw [f_slices_Equal_l1, f_r01_Same_l1]
    simp only [sl_same a b fuel]
theorem slsame_eq (a b : List Int) (ha : a.length ≤ 140737488355328) : f_slices_Equal a b = some (decide (a = b)) := by
  rw [← same_eq a b ha]
  unfold f_slices_Equal f_r01_Same
  simp only [sl_same]
  rfl
def sameT (a b : Top) : Bool := decide (a.fName = b.fName) && decide (a.fParts = b.fParts)
def sameTs : List Top → List Top → Bool
  | [], [] => true
  | a :: l, b :: m => sameT a b && sameTs l m
  | _, _ => false
theorem sameT_refl (a : Top) : sameT a a = true := by simp [sameT]
theorem sameTs_refl : ∀ l : List Top, sameTs l l = true
  | [] => rfl
  | a :: l => by rw [sameTs, sameT_refl, sameTs_refl l]; rfl
theorem topics1_eq (a b : Top) (ha : a.fParts.length ≤ 140737488355328) : f_value_SameTopics1 a b = some (sameT a b) := by
  unfold f_value_SameTopics1 sameT
  rw [slsame_eq _ _ ha]
  by_cases h : a.fName = b.fName
  · rw [if_pos h, decide_eq_true h]
    rfl
  · rw [if_neg h, decide_eq_false h]
    rfl
theorem vsame_loop (a1 : List Top) (y : Bool) : ∀ (l u : List Top) (k : Nat), (∀ t, t ∈ l → t.fParts.length ≤ 140737488355328) → a1.drop k = u → l.length = u.length → f_slices_EqualFunc_s2_l1 a1 l y k = some (if sameTs l u = true then .go y else .ret false)
  | [], [], k, hw, hu, hl => rfl
  | [], d :: u, k, hw, hu, hl => by simp at hl
  | c :: l, [], k, hw, hu, hl => by simp at hl
  | c :: l, d :: u, k, hw, hu, hl => by
    obtain ⟨u1, u2, u3⟩ := at_drop hu
    simp only [List.length_cons] at hl
    rw [f_slices_EqualFunc_s2_l1, u1, Option.bind_some, topics1_eq c d (hw c (.head _)), Option.bind_some, vsame_loop a1 y l u (k + 1) (fun t ht => hw t (.tail _ ht)) u2 (by omega), sameTs]
    cases sameT c d <;> rfl
theorem sameTs_len : ∀ (l m : List Top), sameTs l m = true → l.length = m.length
  | [], [], h => rfl
  | [], b :: m, h => nomatch h
  | a :: l, [], h => nomatch h
  | a :: l, b :: m, h => by
    rw [sameTs, Bool.and_eq_true] at h
    rw [List.length_cons, List.length_cons, sameTs_len l m h.2]
theorem vsame_eq (a b : List Top) (ha : ∀ t, t ∈ a → t.fParts.length ≤ 140737488355328) : f_value_SameTopics a b = some (sameTs a b) := by
  unfold f_value_SameTopics f_slices_EqualFunc_s2
  by_cases hl : (a.length : Int) = (b.length : Int)
  · rw [if_pos hl, vsame_loop b false a b 0 ha rfl (by omega)]
    cases sameTs a b <;> rfl
  · rw [if_neg hl]
    have : sameTs a b = false := by
      cases h : sameTs a b with
      | false => rfl
      | true => exact absurd (congrArg Int.ofNat (sameTs_len a b h)) hl
    rw [this]
    rfl
theorem rsame_loop (a0 a1 : List Top) (h0 : a0.length ≤ 1000000) (y : Bool) : ∀ (l u : List Top) (k fuel : Nat), (∀ t, t ∈ l → t.fParts.length ≤ 140737488355328) → a0.drop k = l → a1.drop k = u → l.length = u.length → l.length < fuel → ∃ z, f_r14_SameTopics_l1 a0 a1 fuel y k = some (if sameTs l u = true then .go (y, z) else .ret false)
  | [], [], k, fuel + 1, hw, ht, hu, hl, hf => by
    have := nil_drop ht
    exact ⟨k, by rw [f_r14_SameTopics_l1, if_neg (by omega)]; rfl⟩
  | [], d :: u, k, fuel, hw, ht, hu, hl, hf => by simp at hl
  | c :: l, [], k, fuel, hw, ht, hu, hl, hf => by simp at hl
  | c :: l, d :: u, k, fuel + 1, hw, ht, hu, hl, hf => by
    obtain ⟨t1, t2, t3⟩ := at_drop ht
    obtain ⟨u1, u2, u3⟩ := at_drop hu
    simp only [List.length_cons] at hl hf
    obtain ⟨z, hz⟩ := rsame_loop a0 a1 h0 y l u (k + 1) fuel (fun t ht => hw t (.tail _ ht)) t2 u2 (by omega) (by omega)
    rw [f_r14_SameTopics_l1, if_pos (by omega), t1, Option.bind_some, u1, Option.bind_some, sameTs, sameT, same_eq _ _ (hw c (.head _))]
    by_cases hc : c.fName = d.fName
    · rw [if_pos hc, decide_eq_true hc, Option.bind_some, Bool.true_and]
      cases decide (c.fParts = d.fParts) with
      | false => exact ⟨0, rfl⟩
      | true =>
        rw [if_pos rfl, if_pos (by omega), Bool.true_and]
        exact ⟨z, hz⟩
    · rw [if_neg hc, decide_eq_false hc]
      exact ⟨0, rfl⟩
theorem rsame_eq (a b : List Top) (h0 : a.length ≤ 1000000) (ha : ∀ t, t ∈ a → t.fParts.length ≤ 140737488355328) : f_r14_SameTopics a b = some (sameTs a b) := by
  unfold f_r14_SameTopics
  by_cases hl : (a.length : Int) = (b.length : Int)
  · obtain ⟨z, hz⟩ := rsame_loop a b h0 false a b 0 (((a.length : Int)).toNat + 1) ha rfl rfl (by omega) (by omega)
    rw [if_pos hl, hz]
    cases sameTs a b <;> rfl
  · rw [if_neg hl]
    have : sameTs a b = false := by
      cases h : sameTs a b with
      | false => rfl
      | true => exact absurd (congrArg Int.ofNat (sameTs_len a b h)) hl
    rw [this]
/-! Few. -/
def wT (t : Top) : Nat := t.fName.length + 4 * t.fParts.length + 6
def wTs : List Top → Nat
  | [] => 0
  | t :: l => wT t + wTs l
theorem few_loop (y : Int) : ∀ (l : List Top) (acc : Int), (∀ t, t ∈ l → wf_Top t) → 0 ≤ acc → acc ≤ 1000 → (f_l14_Few_l1 l y acc = some (.ret 0)) ∨ (∃ z, f_l14_Few_l1 l y acc = some (.go z) ∧ acc + wTs l ≤ 1000)
  | [], acc, hw, h0, h1 => .inr ⟨_, rfl, by simp [wTs]; omega⟩
  | t :: l, acc, hw, h0, h1 => by
    have ht := hw t (.head _)
    have ht1 : t.fName.length ≤ 140737488351232 := ht.1
    have ht2 : t.fParts.length ≤ 140737488351232 := ht.2.1
    rw [f_l14_Few_l1, if_pos (by omega), if_pos (by omega), if_pos (by omega), if_pos (by omega)]
    by_cases hc : (acc + (((t.fName.length : Int) + (4 * (t.fParts.length : Int))) + 6)) > 1000
    · rw [if_pos hc]
      exact .inl rfl
    · rw [if_neg hc]
      rcases few_loop y l _ (fun u hu => hw u (.tail _ hu)) (by omega) (show acc + (((t.fName.length : Int) + (4 * (t.fParts.length : Int))) + 6) ≤ 1000 by omega) with h | ⟨z, h, h2⟩
      · exact .inl h
      · exact .inr ⟨z, h, by simp only [wTs, wT]; omega⟩
theorem few_eq (l : List Top) (hw : ∀ t, t ∈ l → wf_Top t) : (f_l14_Few l = some 0) ∨ (f_l14_Few l = some 1 ∧ wTs l ≤ 1000) := by
  unfold f_l14_Few
  rcases few_loop 0 l 0 hw (by decide) (by decide) with h | ⟨z, h, h2⟩
  · exact .inl (by rw [h]; rfl)
  · exact .inr ⟨by rw [h]; rfl, by omega⟩
theorem wTs_len : ∀ l : List Top, l.length * 6 ≤ wTs l
  | [] => by simp [wTs]
  | t :: l => by have := wTs_len l; simp only [wTs, wT, List.length_cons]; omega
theorem wTs_mem : ∀ (l : List Top) (t : Top), t ∈ l → wT t ≤ wTs l
  | u :: l, t, h => by
    rcases List.mem_cons.1 h with rfl | h
    · simp only [wTs]; omega
    · have := wTs_mem l t h; simp only [wTs]; omega
theorem encs_len4 : ∀ l : List Int, (encs (fun n => be n 4) l).length = 4 * l.length
  | [] => rfl
  | n :: l => by rw [encs, List.length_append, be_length, encs_len4 l, List.length_cons]; omega
theorem encT_len (t : Top) : (encT t).length = wT t := by
  simp only [encT, List.length_append, be_length, encs_len4, wT]
  omega
theorem encTs_len : ∀ l : List Top, (encs encT l).length = wTs l
  | [] => rfl
  | t :: l => by rw [encs, List.length_append, encT_len, encTs_len l, wTs]
/-! Topics, written. -/
theorem put_l2 : ∀ (l : List Int) (t : List UInt8), (∀ n, n ∈ l → fits n 4 = true) → t.length + 4 * l.length ≤ 1000000000 → f_value_PutTopics_l2 l (t, 0) = some (t ++ encs (fun n => be n 4) l, 0)
  | [], t, h, hl => by rw [f_value_PutTopics_l2, encs, List.append_nil]
  | n :: l, t, h, hl => by
    rw [List.length_cons] at hl
    rw [f_value_PutTopics_l2, gOInt_z (h n (.head _)) (by omega), Option.bind_some, put_l2 l _ (fun m hm => h m (.tail _ hm)) (by rw [List.length_append, be_length]; show t.length + 4 + 4 * l.length ≤ _; omega), encs, List.append_assoc]
    rfl
theorem gPutText_z {t d : List UInt8} (hf : d.length ≤ 32767) (ht : t.length ≤ 1000000000) : gPutText (t, 0) d = some (t ++ (be (d.length : Int) 2 ++ d), 0) := by
  rw [gPutText_eq _ _ (by simp only; omega)]
  have := gPutFixed_z (t := t) (b := ⟨false, d⟩) (k := 2) (fits_small (.inl rfl) (show -32768 ≤ (d.length : Int) by omega) (show (d.length : Int) ≤ 32767 by omega)) rfl (by simp only; omega)
  rw [gPutFixed_eq _ _ _ ⟨by decide, by simp only; omega⟩] at this
  exact this
theorem put_l1 : ∀ (l : List Top) (t : List UInt8), (∀ x, x ∈ l → okT x) → t.length + wTs l ≤ 1000000 → wTs l ≤ 2000 → f_value_PutTopics_l1 l (t, 0) = some (t ++ encs encT l, 0)
  | [], t, h, hl, hw => by rw [f_value_PutTopics_l1, encs, List.append_nil]
  | x :: l, t, h, hl, hw => by
    obtain ⟨h1, h2, h3⟩ := h x (.head _)
    simp only [wTs, wT] at hl hw
    rw [f_value_PutTopics_l1, gPutText_z (by omega) (by omega), Option.bind_some, gOInt_z h2 (by simp only [List.length_append, be_length]; omega), Option.bind_some, put_l2 _ _ h3 (by simp only [List.length_append, be_length]; show _ + (4 : Int).toNat + _ ≤ _; omega), Option.bind_some, put_l1 l _ (fun y hy => h y (.tail _ hy)) (by simp only [List.length_append, be_length, encs_len4]; show _ + (4 : Int).toNat + _ + _ ≤ _; omega) (by omega)]
    simp only [encs, encT, List.append_assoc]
    rfl
theorem put_topics (l : List Top) (t : List UInt8) (h : ∀ x, x ∈ l → okT x) (ht : t.length ≤ 1000) (hw : wTs l ≤ 2000) : f_value_PutTopics (t, 0) l = some (t ++ (be (l.length : Int) 4 ++ encs encT l), 0) := by
  have := wTs_len l
  unfold f_value_PutTopics
  rw [gOInt_z (fits_small (.inr (.inl rfl)) (by omega) (by omega)) (by omega), Option.bind_some, put_l1 l _ h (by simp only [List.length_append, be_length]; show _ + (4 : Int).toNat + _ ≤ _; omega) hw, List.append_assoc]
  rfl
theorem r14t_l2 (x : Top) (hb : x.fParts.length ≤ 1000000) (hx : ∀ n, n ∈ x.fParts → wI n) : ∀ (l : List Int) (t : List UInt8) (k fuel : Nat), x.fParts.drop k = l → l.length < fuel → t.length + 4 * l.length ≤ 1000000000 → ∃ z, f_r14_Topics_l2 x fuel t k = some (t ++ encs (fun n => be n 4) l, z)
  | [], t, k, fuel + 1, h, hf, hl => by
    have := nil_drop h
    exact ⟨k, by rw [f_r14_Topics_l2, if_neg (by omega), encs, List.append_nil]⟩
  | n :: l, t, k, fuel + 1, h, hf, hl => by
    obtain ⟨g1, g2, g3⟩ := at_drop h
    rw [List.length_cons] at hf hl
    obtain ⟨z, hz⟩ := r14t_l2 x hb hx l (t ++ be n 4) (k + 1) fuel g2 (by omega) (by rw [List.length_append, be_length]; omega)
    rw [f_r14_Topics_l2, if_pos (by omega), g1, Option.bind_some, gRBytes_eq _ _ ⟨hx n (List.mem_of_getElem? g1), by decide, by decide⟩, Option.bind_some, if_pos (by rw [be_length]; show t.length + (4 : Int).toNat ≤ _; omega), if_pos (by omega)]
    refine ⟨z, ?_⟩
    rw [encs, ← List.append_assoc]
    exact hz
theorem r14t_l1 (a0 : List Top) (hb : a0.length ≤ 1000000) (hx : ∀ x, x ∈ a0 → wf_Top x) : ∀ (l : List Top) (t : List UInt8) (k fuel : Nat), a0.drop k = l → l.length < fuel → t.length + wTs l ≤ 1000000 → ∃ z, f_r14_Topics_l1 a0 fuel t k = some (t ++ encs encT l, z)
  | [], t, k, fuel + 1, h, hf, hl => by
    have := nil_drop h
    exact ⟨k, by rw [f_r14_Topics_l1, if_neg (by omega), encs, List.append_nil]⟩
  | x :: l, t, k, fuel + 1, h, hf, hl => by
    obtain ⟨g1, g2, g3⟩ := at_drop h
    have hw := hx x (List.mem_of_getElem? g1)
    rw [List.length_cons] at hf
    simp only [wTs, wT] at hl
    obtain ⟨z2, hz2⟩ := r14t_l2 x (by omega) hw.2.2 x.fParts ((t ++ (be (blen ⟨false, x.fName⟩) (2 : Int).toNat ++ x.fName)) ++ be (x.fParts.length : Int) (4 : Int).toNat) 0 (((x.fParts.length : Int)).toNat + 1) rfl (by omega) (by simp only [List.length_append, be_length]; show _ + (((2 : Int).toNat + _) + (4 : Int).toNat) + _ ≤ _; omega)
    obtain ⟨z, hz⟩ := r14t_l1 a0 hb hx l (t ++ encT x) (k + 1) fuel g2 (by omega) (by rw [List.length_append, encT_len, wT]; omega)
    rw [f_r14_Topics_l1, if_pos (by omega), g1, Option.bind_some, gRBFixed_eq _ _ ⟨by decide, by decide, by simp only; omega⟩, Option.bind_some, if_pos (by simp only [List.length_append, be_length]; show _ + ((2 : Int).toNat + _) ≤ _; omega), gRBytes_eq _ _ ⟨by omega, by decide, by decide⟩, Option.bind_some, if_pos (by simp only [List.length_append, be_length]; show _ + ((2 : Int).toNat + _) + (4 : Int).toNat ≤ _; omega), hz2, Option.bind_some]
    simp only
    rw [if_pos (by omega)]
    refine ⟨z, ?_⟩
    have e : t ++ encT x = ((t ++ (be (blen ⟨false, x.fName⟩) (2 : Int).toNat ++ x.fName)) ++ be (x.fParts.length : Int) (4 : Int).toNat) ++ encs (fun n => be n 4) x.fParts := by
      simp only [encT, List.append_assoc]
      rfl
    rw [encs, (List.append_assoc t (encT x) (encs encT l)).symm, e]
    rw [e] at hz
    exact hz
theorem r14t_eq (l : List Top) (hx : ∀ x, x ∈ l → wf_Top x) (hw : wTs l ≤ 2000) : f_r14_Topics l = some (be (l.length : Int) 4 ++ encs encT l) := by
  have := wTs_len l
  unfold f_r14_Topics
  rw [gRBytes_eq _ _ ⟨by omega, by decide, by decide⟩, Option.bind_some]
  obtain ⟨z, hz⟩ := r14t_l1 l (by omega) hx l (be (l.length : Int) (4 : Int).toNat) 0 (((l.length : Int)).toNat + 1) rfl (by omega) (by rw [be_length]; show (4 : Int).toNat + _ ≤ _; omega)
  rw [hz]
  rfl
end Go.Proofs.Ytdlpmcbglmgpiaa.Sl
