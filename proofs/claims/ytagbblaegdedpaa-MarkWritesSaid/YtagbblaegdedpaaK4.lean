/- MarkWrites: for every input the law returns true, and its arguments read behind the call as they did before. -/
import Derived.Test.YtagbblaegdedpaaRows
import Derived.WalkKit
import Derived.ProofKit
import Derived.OpenShut
import Derived.ShutString
import Derived.ChangeOld
import Derived.Below
import Derived.SizedLaws
import Derived.Test.YtagbblaegdedpaaK3
namespace Go.Proofs.Ytagbblaegdedpaa.Sl
open Go.RowKit
set_option linter.unusedVariables false
set_option linter.unusedSimpArgs false
theorem mwrite_loop (v : Int) : ∀ (l : List MarkMark) (t : List UInt8), (∀ m, m ∈ l → okM v m ∧ wTs m.fTopics ≤ 2000) → t.length + (encs (encM v) l).length ≤ 800000 → f_mark_Write_l1 v l (t, 0) = some (t ++ encs (encM v) l, 0)
  | [], t, _, _ => by rw [f_mark_Write_l1, encs, List.append_nil]
  | m :: l, t, h, ht => by
    obtain ⟨⟨o1, o2, o3, o4⟩, hw⟩ := h m (.head _)
    rw [encs, List.length_append] at ht
    have hl := (encM_len v m).1
    have hb : (encBool m.fCommit).length = 1 := be_length _ _
    rw [f_mark_Write_l1, gOInt_z o1 (by omega), Option.bind_some, gOInt_z o2 (by rw [List.length_append, be_length]; omega), Option.bind_some, putBool _ _ (by rw [List.length_append, List.length_append, be_length, be_length]; omega), Option.bind_some,
      put_topics m.fTopics _ o3.2 (by rw [List.length_append, List.length_append, List.length_append, be_length, be_length, hb]; omega) hw, Option.bind_some]
    have ih := fun t' (h' : t'.length + (encs (encM v) l).length ≤ 800000) => mwrite_loop v l t' (fun z hz => h z (.tail _ hz)) h'
    have htl : (encTs m.fTopics).length = 4 + wTs m.fTopics := by rw [encTs, List.length_append, be_length, encTs_len]
    by_cases hv : v > 0
    · rw [if_pos hv] at o4
      have e : encM v m = be m.fProducer 8 ++ (be m.fEpoch 2 ++ (encBool m.fCommit ++ (encTs m.fTopics ++ be m.fCoordinator 4))) := by rw [encM, if_pos hv]
      have el : (encM v m).length = 8 + (2 + (1 + (4 + wTs m.fTopics + 4))) := by rw [e]; simp only [List.length_append, be_length, hb, htl]
      rw [if_pos hv, gOInt_z o4 (by simp only [List.length_append, be_length, hb, encTs_len]; omega), Option.bind_some, Option.bind_some, ih _ (by simp only [List.length_append, be_length, hb, encTs_len, show (8 : Int).toNat = 8 from rfl, show (2 : Int).toNat = 2 from rfl, show (4 : Int).toNat = 4 from rfl]; omega), encs, e]
      simp only [encTs, List.append_assoc]
      rfl
    · have e : encM v m = be m.fProducer 8 ++ (be m.fEpoch 2 ++ (encBool m.fCommit ++ encTs m.fTopics)) := by rw [encM, if_neg hv, List.append_nil]
      have el : (encM v m).length = 8 + (2 + (1 + (4 + wTs m.fTopics))) := by rw [e]; simp only [List.length_append, be_length, hb, htl]
      rw [if_neg hv, Option.bind_some, ih _ (by simp only [List.length_append, be_length, hb, encTs_len, show (8 : Int).toNat = 8 from rfl, show (2 : Int).toNat = 2 from rfl]; omega), encs, e]
      simp only [encTs, List.append_assoc]
      rfl
theorem chkM_zero {v : Int} {m : MarkMark} (h : chkM v m = 0) : who m.fProducer m.fEpoch = true ∧ (0 ≤ m.fCoordinator ∧ m.fCoordinator ≤ 2147483647) ∧ (v = 0 → m.fCoordinator = 0) ∧ riseV m.fTopics = 0 := by
  unfold chkM at h
  split at h
  · rename_i h1
    simp only [Bool.and_eq_true, tmB, decide_eq_true_eq, Bool.not_eq_true', Bool.and_eq_false_iff, decide_eq_false_iff_not] at h1
    refine ⟨h1.1, h1.2.1, fun hv => ?_, h⟩
    rcases h1.2.2 with h2 | h2
    · exact absurd hv h2
    · exact Classical.byContradiction h2
  · exact absurd h (by decide)
theorem firstM_zero {v : Int} : ∀ {l : List MarkMark}, firstM v l = 0 → ∀ m, m ∈ l → chkM v m = 0
  | a :: l, h, m, hm => by
    rw [firstM] at h
    by_cases hc : chkM v a = 0
    · rw [if_pos hc] at h
      rcases List.mem_cons.1 hm with rfl | hm
      · exact hc
      · exact firstM_zero h m hm
    · rw [if_neg hc] at h
      exact absurd h hc
theorem chkM_ok {v : Int} (hv : v = 0 ∨ v = 1) {m : MarkMark} (h : chkM v m = 0) (hp : wI m.fProducer) (hw : wTs m.fTopics ≤ 2000) : okM v m := by
  obtain ⟨h1, h2, h3, h4⟩ := chkM_zero h
  obtain ⟨f1, f2⟩ := who_fits h1 hp
  refine ⟨f1, f2, ⟨by rw [fits_4]; exact decide_eq_true (by have := wTs_len m.fTopics; omega), okts_ok (rise_zero h4).2 hw⟩, ?_⟩
  rcases hv with rfl | rfl
  · rw [if_neg (by decide)]; exact h3 rfl
  · rw [if_pos (by decide), fits_4]; exact decide_eq_true (by omega)
theorem encMs_len (v : Int) : ∀ (l : List MarkMark) (b : Nat), (∀ m, m ∈ l → wTs m.fTopics ≤ b) → (encs (encM v) l).length ≤ l.length * (19 + b)
  | [], _, _ => by simp [encs]
  | m :: l, b, h => by
    have h1 := (encM_len v m).2
    have h2 := h m (.head _)
    have h3 := encMs_len v l b (fun z hz => h z (.tail _ hz))
    rw [encs, List.length_append, List.length_cons, Nat.add_mul]
    omega
theorem markWrite (v : Int) (hv : v = 0 ∨ v = 1) (l : List MarkMark) (hw : ∀ m, m ∈ l → okW m ∧ wI m.fProducer ∧ wTs m.fTopics ≤ 2000) (hl : l.length ≤ 100) : f_mark_Write ([], 0) l v = some (if chkMs v l = 0 then (encMs v l, 0) else ([], chkMs v l)) := by
  unfold f_mark_Write
  rw [mCheck v l (fun m hm => (hw m hm).1), Option.bind_some]
  by_cases hc : chkMs v l = 0
  · rw [if_pos hc, if_pos hc]
    have hf : firstM v l = 0 := by
      unfold chkMs at hc
      split at hc
      · exact absurd hc (by decide)
      · exact hc
    have hlen := encMs_len v l 2000 (fun m hm => (hw m hm).2.2)
    have f4 : fits (l.length : Int) 4 = true := by rw [fits_4]; exact decide_eq_true (by omega)
    rw [gOInt_z f4 (by decide), Option.bind_some, mwrite_loop v l _ (fun m hm => ⟨chkM_ok hv (firstM_zero hf m hm) (hw m hm).2.1 (hw m hm).2.2, (hw m hm).2.2⟩) (by rw [List.length_append, be_length, List.length_nil, show (4 : Int).toNat = 4 from rfl]; omega), Option.bind_some, List.nil_append]
    rfl
  · rw [if_neg hc, if_neg hc, gOFail_eq]
    rfl
theorem r19w_loop (v : Int) (hv : v = 0 ∨ v = 1) (a : List R19Mark) (hb : a.length ≤ 1000000) : ∀ (l : List MarkMark) (t : List UInt8) (k fuel : Nat), a.drop k = l.map toR → l.length < fuel → (∀ m, m ∈ l → wI m.fProducer ∧ wI m.fEpoch ∧ wI m.fCoordinator ∧ (∀ x, x ∈ m.fTopics → wf_Top x) ∧ wTs m.fTopics ≤ 2000) → t.length + (encs (encM v) l).length ≤ 900000 → ∃ z, f_r19_Write_l1 a v fuel t k = some (t ++ encs (encM v) l, z)
  | [], t, k, fuel + 1, h, _, _, _ => by
    have := nil_drop h
    exact ⟨k, by rw [f_r19_Write_l1, if_neg (by omega), encs, List.append_nil]⟩
  | m :: l, t, k, fuel + 1, h, hf, hw, ht => by
    obtain ⟨h1, h2, h3⟩ := at_drop h
    rw [List.length_cons] at hf
    obtain ⟨w1, w2, w3, w4, w5⟩ := hw m (.head _)
    rw [encs, List.length_append] at ht
    have hl := encM_len v m
    have hb1 : ∀ n, (be n 1).length = 1 := fun n => be_length n 1
    have hb8 : ∀ n, (be n 8).length = 8 := fun n => be_length n 8
    have hb2 : ∀ n, (be n 2).length = 2 := fun n => be_length n 2
    have hb4 : ∀ n, (be n 4).length = 4 := fun n => be_length n 4
    have htl : (be (m.fTopics.length : Int) 4 ++ encs encT m.fTopics).length = 4 + wTs m.fTopics := by rw [List.length_append, be_length, encTs_len]
    have ih := fun t' (h' : t'.length + (encs (encM v) l).length ≤ 900000) => r19w_loop v hv a hb l t' (k + 1) fuel h2 (by omega) (fun z hz => hw z (.tail _ hz)) h'
    have hcm : (if (toR m).fCommit = true then some (1 : Int) else some 0) = some (if m.fCommit = true then 1 else 0) := by
      show (if m.fCommit = true then some (1 : Int) else some 0) = _
      cases m.fCommit <;> rfl
    have hci : -9223372036854775808 ≤ (if m.fCommit = true then (1 : Int) else 0) ∧ (if m.fCommit = true then (1 : Int) else 0) ≤ 9223372036854775807 := by cases m.fCommit <;> decide
    rw [f_r19_Write_l1, if_pos (by omega), h1, Option.bind_some, hcm, Option.bind_some, gRBytes_eq (toR m).fProducer _ ⟨w1, by decide, by decide⟩, Option.bind_some, show (8 : Int).toNat = 8 from rfl, if_pos (by rw [hb8]; omega), gRBytes_eq (toR m).fEpoch _ ⟨w2, by decide, by decide⟩, Option.bind_some, show (2 : Int).toNat = 2 from rfl, if_pos (by rw [List.length_append, hb8, hb2]; omega),
      gRBytes_eq _ _ ⟨hci, by decide, by decide⟩, Option.bind_some, show (1 : Int).toNat = 1 from rfl, if_pos (by rw [List.length_append, List.length_append, hb8, hb2, hb1]; omega), show (toR m).fTopics = m.fTopics from rfl, r14t_eq _ w4 w5, Option.bind_some, if_pos (by rw [List.length_append, List.length_append, List.length_append, hb8, hb2, hb1, htl]; omega)]
    rcases hv with rfl | rfl
    · have e : encM 0 m = be m.fProducer 8 ++ (be m.fEpoch 2 ++ (encBool m.fCommit ++ encTs m.fTopics)) := by rw [encM, if_neg (by decide), List.append_nil]
      have el : (encM 0 m).length = 8 + (2 + (1 + (4 + wTs m.fTopics))) := by rw [e, encTs, encBool]; simp only [List.length_append, hb8, hb2, hb1, hb4, encTs_len]
      obtain ⟨z, hz⟩ := ih ((((t ++ be (toR m).fProducer 8) ++ be (toR m).fEpoch 2) ++ be (if m.fCommit = true then 1 else 0) 1) ++ (be (m.fTopics.length : Int) 4 ++ encs encT m.fTopics)) (by rw [List.length_append, List.length_append, List.length_append, List.length_append, hb8, hb2, hb1, htl]; omega)
      rw [if_neg (by decide), Option.bind_some, if_pos (by omega)]
      refine ⟨z, hz.trans ?_⟩
      rw [encs, e, encTs, encBool]
      simp only [List.append_assoc]
      rfl
    · have e : encM 1 m = be m.fProducer 8 ++ (be m.fEpoch 2 ++ (encBool m.fCommit ++ (encTs m.fTopics ++ be m.fCoordinator 4))) := by rw [encM, if_pos (by decide)]
      have el : (encM 1 m).length = 8 + (2 + (1 + (4 + wTs m.fTopics + 4))) := by rw [e, encTs, encBool]; simp only [List.length_append, hb8, hb2, hb1, hb4, encTs_len]
      obtain ⟨z, hz⟩ := ih (((((t ++ be (toR m).fProducer 8) ++ be (toR m).fEpoch 2) ++ be (if m.fCommit = true then 1 else 0) 1) ++ (be (m.fTopics.length : Int) 4 ++ encs encT m.fTopics)) ++ be (toR m).fCoordinator 4) (by rw [List.length_append, List.length_append, List.length_append, List.length_append, List.length_append, hb8, hb2, hb1, htl, hb4]; omega)
      rw [if_pos rfl, gRBytes_eq (toR m).fCoordinator _ ⟨w3, by decide, by decide⟩, Option.bind_some, show (4 : Int).toNat = 4 from rfl, if_pos (by rw [List.length_append, List.length_append, List.length_append, List.length_append, hb8, hb2, hb1, htl, hb4]; omega), Option.bind_some, if_pos (by omega)]
      refine ⟨z, hz.trans ?_⟩
      rw [encs, e, encTs, encBool]
      simp only [List.append_assoc]
      rfl
theorem r19_write (v : Int) (hv : v = 0 ∨ v = 1) (l : List MarkMark) (hl : l.length ≤ 100000) (hw : ∀ m, m ∈ l → wI m.fProducer ∧ wI m.fEpoch ∧ wI m.fCoordinator ∧ (∀ x, x ∈ m.fTopics → wf_Top x) ∧ wTs m.fTopics ≤ 2000) (ht : (encs (encM v) l).length ≤ 800000) : f_r19_Write (l.map toR) v = some (encMs v l) := by
  unfold f_r19_Write
  obtain ⟨z, hz⟩ := r19w_loop v hv (l.map toR) (by rw [List.length_map]; omega) l (be (l.length : Int) 4) 0 ((l.length : Int).toNat + 1) List.drop_zero (by omega) hw (by rw [be_length]; omega)
  rw [List.length_map, gRBytes_eq _ _ ⟨by omega, by decide, by decide⟩, Option.bind_some, show (4 : Int).toNat = 4 from rfl, hz]
  rfl
theorem mark_same (a b : MarkMark) (ha : ∀ t, t ∈ a.fTopics → t.fParts.length ≤ 140737488355328) : f_mark_Same a b = some (decide (a = b)) := by
  unfold f_mark_Same
  rw [vsame_eq _ _ ha, sameTs_iff]
  obtain ⟨a1, a2, a3, a4, a5⟩ := a
  obtain ⟨b1, b2, b3, b4, b5⟩ := b
  simp only [MarkMark.mk.injEq, Option.bind_some]
  by_cases h1 : a1 = b1 <;> by_cases h2 : a2 = b2 <;> by_cases h4 : a4 = b4 <;> by_cases h5 : a5 = b5 <;> cases a3 <;> cases b3 <;> simp [h1, h2, h4, h5]
theorem r19same_loop (a b : List R19Mark) (h0 : a.length ≤ 1000000) (y : Bool) : ∀ (l u : List MarkMark) (k fuel : Nat), (∀ m, m ∈ l → m.fTopics.length ≤ 1000000 ∧ ∀ t, t ∈ m.fTopics → t.fParts.length ≤ 140737488355328) → a.drop k = l.map toR → b.drop k = u.map toR → l.length = u.length → l.length < fuel → ∃ z, f_r19_Same_l1 a b fuel y k = some (if l = u then .go (y, z) else .ret false)
  | [], [], k, fuel + 1, _, ha, _, _, _ => by
    have := nil_drop ha
    exact ⟨k, by rw [f_r19_Same_l1, if_neg (by omega), if_pos rfl]⟩
  | [], d :: u, k, fuel, _, _, _, hl, _ => by simp at hl
  | c :: l, [], k, fuel, _, _, _, hl, _ => by simp at hl
  | c :: l, d :: u, k, fuel + 1, hx, ha, hb, hl, hf => by
    obtain ⟨t1, t2, t3⟩ := at_drop ha
    obtain ⟨u1, u2, u3⟩ := at_drop hb
    simp only [List.length_cons] at hl hf
    obtain ⟨z, hz⟩ := r19same_loop a b h0 y l u (k + 1) fuel (fun m hm => hx m (.tail _ hm)) t2 u2 (by omega) (by omega)
    have hc := hx c (.head _)
    rw [f_r19_Same_l1, if_pos (by omega), t1, Option.bind_some, u1, Option.bind_some]
    have hq : (if (toR c).fProducer = (toR d).fProducer then (if (toR c).fEpoch = (toR d).fEpoch then (if (toR c).fCommit = true then (if (toR d).fCommit = true then (if (toR c).fCoordinator = (toR d).fCoordinator then ((f_r14_SameTopics (toR c).fTopics (toR d).fTopics).bind fun x58 => if x58 = true then some false else some true) else some true) else some true) else (if (toR d).fCommit = true then some true else (if (toR c).fCoordinator = (toR d).fCoordinator then ((f_r14_SameTopics (toR c).fTopics (toR d).fTopics).bind fun x63 => if x63 = true then some false else some true) else some true))) else some true) else some true) = some (!decide (c = d)) := by
      rw [rsame_eq (toR c).fTopics _ hc.1 hc.2, sameTs_iff]
      obtain ⟨a1, a2, a3, a4, a5⟩ := c
      obtain ⟨b1, b2, b3, b4, b5⟩ := d
      simp only [MarkMark.mk.injEq, Option.bind_some, toR]
      by_cases h1 : a1 = b1 <;> by_cases h2 : a2 = b2 <;> by_cases h4 : a4 = b4 <;> by_cases h5 : a5 = b5 <;> cases a3 <;> cases b3 <;> simp [h1, h2, h4, h5]
    rw [hq, Option.bind_some]
    by_cases hcd : c = d
    · rw [decide_eq_true hcd, if_neg (by decide), if_pos (by omega)]
      refine ⟨z, hz.trans ?_⟩
      by_cases hlu : l = u
      · rw [if_pos hlu, if_pos (by rw [hcd, hlu])]
      · rw [if_neg hlu, if_neg (fun h => hlu (List.cons.inj h).2)]
    · rw [decide_eq_false hcd, if_pos (by decide)]
      exact ⟨0, by rw [if_neg (fun h => hcd (List.cons.inj h).1)]⟩
theorem r19_same (l u : List MarkMark) (h0 : l.length ≤ 1000000) (hx : ∀ m, m ∈ l → m.fTopics.length ≤ 1000000 ∧ ∀ t, t ∈ m.fTopics → t.fParts.length ≤ 140737488355328) : f_r19_Same (l.map toR) (u.map toR) = some (decide (l = u)) := by
  unfold f_r19_Same
  rw [List.length_map, List.length_map]
  by_cases hl : (l.length : Int) = (u.length : Int)
  · obtain ⟨z, hz⟩ := r19same_loop (l.map toR) (u.map toR) (by rw [List.length_map]; omega) false l u 0 ((l.length : Int).toNat + 1) hx List.drop_zero List.drop_zero (by omega) (by omega)
    rw [if_pos hl, hz]
    by_cases h : l = u
    · rw [if_pos h, decide_eq_true h]; rfl
    · rw [if_neg h, decide_eq_false h]; rfl
  · rw [if_neg hl, decide_eq_false (fun h => hl (by rw [h]))]
theorem speaks19_eq : f_l19_speaks = some true := by kernel_rfl
theorem few19_loop (y : Int) : ∀ l : List MarkMark, (∀ m, m ∈ l → wf_MarkMark m) → f_l19_Few_l1 l y = some (.ret 0) ∨ (f_l19_Few_l1 l y = some (.go y) ∧ ∀ m, m ∈ l → wTs m.fTopics ≤ 1000)
  | [], _ => .inr ⟨rfl, fun m h => nomatch h⟩
  | a :: l, h => by
    rw [f_l19_Few_l1]
    rcases few_eq a.fTopics (h a (.head _)).2.2.2.1.2 with g | ⟨g, hw⟩
    · rw [g]; exact .inl rfl
    · rw [g, Option.bind_some, if_neg (by decide)]
      rcases few19_loop y l (fun m hm => h m (.tail _ hm)) with k | ⟨k, hk⟩
      · exact .inl k
      · refine .inr ⟨k, fun m hm => ?_⟩
        rcases List.mem_cons.1 hm with rfl | hm
        · exact hw
        · exact hk m hm
theorem few19 (l : List MarkMark) (h : ∀ m, m ∈ l → wf_MarkMark m) : f_l19_Few l = some 0 ∨ (f_l19_Few l = some 1 ∧ l.length ≤ 20 ∧ ∀ m, m ∈ l → wTs m.fTopics ≤ 1000) := by
  unfold f_l19_Few
  by_cases hl : (l.length : Int) > 20
  · rw [if_pos hl]; exact .inl rfl
  rw [if_neg hl]
  rcases few19_loop 0 l h with k | ⟨k, hk⟩
  · rw [k]; exact .inl rfl
  · rw [k]; exact .inr ⟨rfl, by omega, hk⟩
theorem mw_loop (a0 : List MarkMark) (a1 v : Int) (hv : v = a1 % 2) (hv2 : v = 0 ∨ v = 1) (x0 : MarkMark) (h0 : a0[0]? = some x0) (h1 : a0.take 1 = [x0]) (hx0 : wTs x0.fTopics ≤ 1000) (y : Bool) : ∀ l : List MarkMark, (∀ m, m ∈ l → wf_MarkMark m ∧ wTs m.fTopics ≤ 1000) → 1 ≤ a0.length → f_l19_MarkWrites_l1 a0 a1 l y = some (.go y)
  | [], _, _ => rfl
  | m :: l, hw, hn => by
    obtain ⟨wm, wt⟩ := hw m (.head _)
    have hb := wTs_bounds (l := m.fTopics) (by omega)
    have hpl : ∀ t, t ∈ m.fTopics → t.fParts.length ≤ 140737488355328 := fun t ht => by have := (hb.2 t ht).1; omega
    have hW : okW m := ⟨wm.2.1, wm.2.2.2.2, wm.2.2.2.1.2, hb.1⟩
    have hc : f_r19_Check [toR m] v = some (chkM v m) := by
      have := r19_check v [m] (by simp) (fun z hz => by rw [List.mem_singleton.1 hz]; exact hb)
      rw [List.map_singleton] at this
      rw [this]
      unfold chkMs
      rw [if_neg (by simp), firstM, firstM]
      by_cases h : chkM v m = 0
      · rw [if_pos h, h]
      · rw [if_neg h]
    have hs : f_r19_Same [toR m] [toR x0] = some (decide (m = x0)) := by
      have := r19_same [m] [x0] (by simp) (fun z hz => by rw [List.mem_singleton.1 hz]; exact ⟨hb.1, hpl⟩)
      rw [List.map_singleton, List.map_singleton] at this
      rw [this]
      by_cases h : m = x0
      · rw [decide_eq_true h, decide_eq_true (by rw [h])]
      · rw [decide_eq_false h, decide_eq_false (fun hh => h (List.cons.inj hh).1)]
    rw [f_l19_MarkWrites_l1, ← hv, markCheck v m hW, Option.bind_some, of_eq [m] (by simp), Option.bind_some, List.map_singleton, hc, Option.bind_some, if_pos rfl, h0, Option.bind_some, mark_same m x0 hpl, Option.bind_some, Option.bind_some, if_pos hn, h1, of_eq [x0] (by simp), Option.bind_some, List.map_singleton, hs, Option.bind_some, mw_loop a0 a1 v hv hv2 x0 h0 h1 hx0 y l (fun z hz => hw z (.tail _ hz)) hn]
    by_cases h : m = x0
    · rw [decide_eq_true h]; rfl
    · rw [decide_eq_false h]; rfl
theorem pure_MarkWrites (a0 : List MarkMark) (a1 : Int) (w0 : (wL wf_MarkMark) a0) (w1 : 0 ≤ a1 ∧ a1 ≤ 255) : f_l19_MarkWrites a0 a1 = some true := by
  unfold f_l19_MarkWrites
  rw [speaks19_eq, Option.bind_some, if_pos rfl]
  rcases few19 a0 w0.2 with hf | ⟨hf, hl, hfw⟩
  · rw [hf]; rfl
  have hv : a1 % 2 = 0 ∨ a1 % 2 = 1 := by omega
  rw [hf, Option.bind_some, if_neg (by decide), if_pos w1.1, if_pos (by omega)]
  have hmem : ∀ m, m ∈ a0 → okW m ∧ wI m.fProducer ∧ wTs m.fTopics ≤ 2000 := fun m hm => by
    have h1 := w0.2 m hm
    have h2 := hfw m hm
    exact ⟨⟨h1.2.1, h1.2.2.2.2, h1.2.2.2.1.2, (wTs_bounds (l := m.fTopics) (by omega)).1⟩, h1.1, by omega⟩
  have hL : ∀ m, m ∈ a0 → okL m := fun m hm => wTs_bounds (by have := hfw m hm; omega)
  have hloop : f_l19_MarkWrites_l1 a0 a1 a0 false = some (.go false) := by
    cases a0 with
    | nil => rfl
    | cons x0 l => exact mw_loop (x0 :: l) a1 (a1 % 2) rfl hv x0 rfl rfl (hfw x0 (.head _)) false (x0 :: l) (fun m hm => ⟨w0.2 m hm, hfw m hm⟩) (by simp)
  rw [hloop]
  generalize a1 % 2 = v at hv ⊢
  have hsame := r19_same a0 a0 (by omega) (fun m hm => ⟨(hL m hm).1, fun t ht => by have := ((hL m hm).2 t ht).1; omega⟩)
  rw [decide_eq_true rfl] at hsame
  have hel := encMs_len v a0 1000 hfw
  have hel2 : a0.length * (19 + 1000) ≤ 20 * (19 + 1000) := Nat.mul_le_mul_right _ hl
  have hrw := r19_write v hv a0 (by omega) (fun m hm => ⟨(w0.2 m hm).1, (w0.2 m hm).2.1, (w0.2 m hm).2.2.2.2, (w0.2 m hm).2.2.2.1.2, by have := hfw m hm; omega⟩) (by omega)
  rw [markWrite v hv a0 hmem (by omega), Option.bind_some, gOText_eq, Option.bind_some]
  simp only
  rw [of_eq a0 (by omega), Option.bind_some, r19_check v a0 (by omega) hL, Option.bind_some, mCheck v a0 (fun m hm => (hmem m hm).1)]
  by_cases hc : chkMs v a0 = 0
  · have hfz : firstM v a0 = 0 := by
      unfold chkMs at hc
      split at hc
      · exact absurd hc (by decide)
      · exact hc
    have hok : (fits (a0.length : Int) 4 = true ∧ ∀ m, m ∈ a0 → okM v m) ∧ chkMs v a0 = 0 := ⟨⟨by rw [fits_4]; exact decide_eq_true (by omega), fun m hm => chkM_ok hv (firstM_zero hfz m hm) (w0.2 m hm).1 (by have := hfw m hm; omega)⟩, hc⟩
    have hlen : (encMs v a0).length ≤ 30000 := by rw [encMs, List.length_append, be_length]; omega
    have hread : f_mark_Read ⟨encMs v a0, 0, 0⟩ v = _ := (B_marks v).whole (Sp_marks v) (by omega) hok
    rw [if_pos hc, otx_z]
    simp only [hc, if_true, Option.bind_some]
    rw [if_neg (by decide), gNew_eq _ (by omega), Option.bind_some, hrw, Option.bind_some, if_pos rfl, hread, Option.bind_some]
    simp only
    rw [of_eq a0 (by omega), Option.bind_some, hsame, Option.bind_some, if_pos rfl, gClose_z]
    rfl
  · rw [if_neg hc, otx_e _ _ hc]
    simp only [if_true, Option.bind_some]
    rw [if_neg (by decide)]
    simp only [if_neg hc]
end Go.Proofs.Ytagbblaegdedpaa.Sl
namespace Go.Proofs.Ytagbblaegdedpaa.Sl
open Go.RowKit Go.Deep Go.ChangeShapes
set_option linter.unusedVariables false
theorem op_Top {H : Type} {enc : TypeId × Value → H} : OpensW enc Try.prog 162 (andRd Top_rd wf_Top) :=
  opensW_weak (fun x => ⟨x.1, x.2.1⟩) (opensW_struct Try.underlying162 (by kernel_rfl) (opensWFs_cons 1 (by kernel_rfl) (by kernel_rfl) (op_str Try.underlying9) (opensWFs_cons 1 (by kernel_rfl) (by kernel_rfl) (op_slice 1 8 Try.underlying160 (by kernel_rfl) (by kernel_rfl) (by decide) (by decide) (op_i64 Try.underlying3)) (opensWFs_nil _)))) (by
    rintro w S cs ⟨x0, x1, _⟩ ⟨_, _, rfl, ⟨p0, q0⟩, _, _, rfl, ⟨p1, q1⟩, rfl⟩
    obtain rfl := p0
    obtain ⟨A1, c1, rfl⟩ := slice_cells p1
    exact ⟨⟨A1, c1, rfl, p1⟩, q0, q1⟩)
theorem op_MarkMark {H : Type} {enc : TypeId × Value → H} : OpensW enc Try.prog 70 (andRd MarkMark_rd wf_MarkMark) :=
  opensW_weak (fun x => ⟨x.1, x.2.1, x.2.2.1, x.2.2.2.1, x.2.2.2.2.1⟩) (opensW_struct Try.underlying70 (by kernel_rfl) (opensWFs_cons 1 (by kernel_rfl) (by kernel_rfl) (op_i64 Try.underlying3) (opensWFs_cons 1 (by kernel_rfl) (by kernel_rfl) (op_i64 Try.underlying3) (opensWFs_cons 1 (by kernel_rfl) (by kernel_rfl) (op_bool Try.underlying4) (opensWFs_cons 1 (by kernel_rfl) (by kernel_rfl) (op_slice 2 40 Try.underlying68 (by kernel_rfl) (by kernel_rfl) (by decide) (by decide) op_Top) (opensWFs_cons 1 (by kernel_rfl) (by kernel_rfl) (op_i64 Try.underlying3) (opensWFs_nil _))))))) (by
    rintro w S cs ⟨x0, x1, x2, x3, x4, _⟩ ⟨_, _, rfl, ⟨p0, q0⟩, _, _, rfl, ⟨p1, q1⟩, _, _, rfl, ⟨p2, q2⟩, _, _, rfl, ⟨p3, q3⟩, _, _, rfl, ⟨p4, q4⟩, rfl⟩
    obtain rfl := p0
    obtain rfl := p1
    obtain rfl := p2
    obtain ⟨A3, c3, rfl⟩ := slice_cells p3
    obtain rfl := p4
    exact ⟨⟨A3, c3, rfl, p3⟩, q0, q1, q2, q3, q4⟩)
end Go.Proofs.Ytagbblaegdedpaa.Sl
namespace Go.Proofs.Ytagbblaegdedpaa.markWrites
open Go.ChangeShapes Go.WideShapes Go.ChangeAt Go.RowKit
open Go.ChangeMaps (open_string shut_string)
set_option linter.unusedVariables false
theorem own : ownKnob Try.prog.godebug = none := by kernel_rfl
theorem laidOut : laidOutB Try.prog = true := by kernel_rfl
set_option maxRecDepth 100000 in
set_option maxHeartbeats 1000000 in
theorem lifted (os : Os) (started : os.Started) (H : Type) (enc : TypeId × Value → H) :
    ReturnsInHanded {} Try.checked os 7 .any (Rows.markWritesSpec.pre6 enc Try.prog Try.f7 Rows.markWritesRow.domain false) (Rows.markWritesSpec.post enc Try.prog Try.f7 false true false false) := by
  refine returnsInHanded_of_change_sized (C := Try.checked) own started (by kernel_rfl) Try.func7
    (ChangeSpec.witness6 (enc := enc) (C := Try.checked) false ⟨#[], #[.slice none 0 0, .int .u8 0], []⟩ 8 (by kernel_rfl) (by kernel_rfl) (by kernel_rfl) (by kernel_rfl)) ?_
  intro W base args ds gs before hval0 hW hcnd hsz0 _
  have hsz : (DataW.weightsEach Try.prog (Try.f7.params.toList ++ Rows.markWritesSpec.plain.varTypes Try.prog) (ds ++ gs)).all (· ≤ reachBytes) = true := hsz0
  have hval : ∀ (j : Nat) t v, Try.f7.params[j]? = some t → args[j]? = some v → Value.okWide Try.prog W .any base t v := hval0
  have hW' := hW
  obtain ⟨p, q, hA0, hV, rfl, hfz, hnd⟩ := hW
  have hA : DataW.TrodAll enc Try.prog W 0 (fun _ => true) true Try.f7.params.toList args.toList ds p := hA0
  rw [Try.params7] at hA hval hsz
  obtain ⟨v0, vs0, d0, ds0, p0, q0, hargs, rfl, rfl, h0, r0⟩ := trodAll_cons hA
  obtain ⟨v1, vs1, d1, ds1, p1, q1, rfl, rfl, rfl, h1, r1⟩ := trodAll_cons r0
  obtain ⟨rfl, rfl, rfl⟩ := trodAll_nil r1
  obtain rfl : args = #[v0, v1] := by cases args; simp_all
  obtain ⟨rfl, rfl⟩ := trodVars_none hV
  have k0 := h0
  have lt0 : ∀ x ∈ p0, x.block < W.heap.size := by obtain ⟨m, hm⟩ := k0; exact DataW.trod_lt m _ _ _ hm
  obtain ⟨a0, r_0, w0⟩ := Sl.opens_arg1 Try.underlying55 (hval 0 55 v0 rfl rfl) (Sl.op_slice 5 56 Try.underlying55 (by kernel_rfl) (by kernel_rfl) (by decide) (by decide) Sl.op_MarkMark) h0 (fun x hx => of_decide_eq_true (List.all_eq_true.1 hsz x (Sl.weights_in 0 rfl rfl hx)))
  obtain ⟨A0, c0, e0⟩ := Sl.slice_cells r_0
  injection e0 with e0
  subst e0
  obtain ⟨a1, rfl, rfl, rfl, u1⟩ := open_int Try.underlying5 (hval 1 5 v1 rfl rfl) h1
  have w1 := Go.bounds_u8 u1
  clear hA0 hval0 hsz0 hsz
  refine (Sl.f_l19_MarkWrites_spec a0 A0 c0 a1 true (Sl.pure_MarkWrites a0 a1 w0 w1) (fun _ => False) W (fun _ h => h) (Sl.RX.reads_all r_0)).mono fun e W' hP => ?_
  obtain ⟨v, A', Ns, rfl, ⟨rfl, rfl, rfl⟩, hst⟩ := hP
  have bel := Sl.St.below hst
  exact ⟨_, rfl, _, _, _, [], _, [], hW', trodAll_mk1 (shut_bool Try.underlying4 _), (trodAll_cons_mk (Below.trod laidOut (by kernel_rfl) (of_decide_eq_true (by kernel_rfl)) k0 bel lt0) (trodAll_cons_mk (shut_int Try.underlying5 u1) trodAll_mk0)), rfl, bel.frame _, fun h => by cases h⟩
theorem over : Rows.markWritesRow.holds Try.pinned (OpenSpec.ofChange Rows.markWritesSpec) :=
  OpenClaim.holds_of_wide 7 Try.f7 rfl rfl rfl rfl rfl rfl rfl ⟨rfl, rfl, rfl, rfl, rfl⟩ rfl rfl rfl rfl rfl (by kernel_rfl) Try.func7 (by kernel_rfl)
    (of_decide_eq_true (by kernel_rfl)) (by unfold Func.isWrapper; first | (rw [if_pos (by decide +kernel)]; kernel_rfl) | (rw [if_neg (by decide +kernel)]; exact ⟨rfl, rfl⟩))
    (fun os started H enc _ => lifted os started H enc)
theorem proved : Rows.MarkWritesSaid := over
end Go.Proofs.Ytagbblaegdedpaa.markWrites
namespace Go.Proofs.Ytagbblaegdedpaa
theorem markWrites_holds : Rows.MarkWritesSaid := markWrites.proved
end Go.Proofs.Ytagbblaegdedpaa
