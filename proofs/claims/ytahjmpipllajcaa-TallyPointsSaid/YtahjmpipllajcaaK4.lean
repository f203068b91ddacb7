/- TallyPoints: for every input the law returns true, and its arguments read behind the call as they did before. -/
import Derived.KernelRfl
import Derived.Test.YtahjmpipllajcaaRows
import Derived.WalkKit
import Derived.ProofKit
import Derived.OpenShut
import Derived.ShutString
import Derived.ChangeOld
import Derived.Below
import Derived.SizedLaws
import Derived.Test.YtahjmpipllajcaaK3
namespace Go.Proofs.Ytahjmpipllajcaa.Sl
open Go.RowKit
set_option linter.unusedVariables false
set_option linter.unusedSimpArgs false
def firstR : List Rec → Int
  | [] => 0
  | r :: l => if rightR r = 0 then firstR l else rightR r
theorem bcheck_l1 (y : Int) : ∀ l : List Rec, (∀ r, r ∈ l → wI r.fOffset) → f_batch_Check_l1 l y = some (if firstR l = 0 then .go y else .ret (firstR l))
  | [], h => rfl
  | r :: l, h => by
    rw [f_batch_Check_l1, record_right _ (h r (.head _)), Option.bind_some, bcheck_l1 y l (fun x hx => h x (.tail _ hx)), firstR]
    by_cases hr : rightR r = 0
    · rw [if_pos hr, if_pos hr]
    · rw [if_neg hr, if_neg hr, if_neg hr]
theorem bcheck_l2 (y : Int) : ∀ l : List Rec, (∀ r, r ∈ l → wI r.fOffset) → f_batch_Check_l2 l y = some (if firstR l = 0 then .go y else .ret (firstR l))
  | [], h => rfl
  | r :: l, h => by
    rw [f_batch_Check_l2, record_right _ (h r (.head _)), Option.bind_some, bcheck_l2 y l (fun x hx => h x (.tail _ hx)), firstR]
    by_cases hr : rightR r = 0
    · rw [if_pos hr, if_pos hr]
    · rw [if_neg hr, if_neg hr, if_neg hr]
theorem rcheck_l1 (a : Bat) (hb : a.fRecords.length ≤ 1000000) (hh : ∀ r, r ∈ a.fRecords → r.fHeaders.length ≤ 1000000) (y : Int) : ∀ (l : List Rec) (k fuel : Nat), a.fRecords.drop k = l → l.length < fuel → ∃ z, f_r11_Check_l1 a fuel y k = some (if firstR l = 0 then .go (y, z) else .ret (firstR l))
  | [], k, fuel + 1, h, hf => by
    have := b_nil_drop h
    exact ⟨k, by rw [f_r11_Check_l1, if_neg (by omega)]; rfl⟩
  | r :: l, k, fuel + 1, h, hf => by
    obtain ⟨h1, h2, h3⟩ := b_at_drop h
    rw [List.length_cons] at hf
    obtain ⟨z, hz⟩ := rcheck_l1 a hb hh y l (k + 1) fuel h2 (by omega)
    rw [f_r11_Check_l1, if_pos (by omega), h1, Option.bind_some, r07_right _ (hh r (List.mem_of_getElem? h1)), Option.bind_some, firstR]
    by_cases hr : rightR r = 0
    · rw [if_pos hr, if_pos hr, if_pos (by omega)]
      exact ⟨z, hz⟩
    · rw [if_neg hr, if_neg hr]
      exact ⟨0, by rw [if_neg hr]⟩
theorem rcheck_l2 (a : Bat) : ∀ (fuel : Nat) (y : Int) (k : Nat), f_r11_Check_l2 a fuel y k = f_r11_Check_l1 a fuel y k
  | 0, y, k => rfl
  | fuel + 1, y, k => by
    rw [f_r11_Check_l2, f_r11_Check_l1]
    simp only [rcheck_l2 a fuel]
def badT (F t : Int) : Prop := t > 9223372036854775807 - F ∨ t < -F
instance (F t : Int) : Decidable (badT F t) := by unfold badT; infer_instance
def ordR (F L : Int) : Int → Int → List Rec → Except Int Int
  | p, m, [] => .ok m
  | p, m, r :: l => if r.fOffset ≤ p ∨ r.fOffset > L then .error 13 else if badT F r.fTime then .error 11 else ordR F L r.fOffset (if m < F + r.fTime then F + r.fTime else m) l
theorem wrap_time {F t : Int} (h0 : 0 ≤ F) (h1 : F ≤ 9223372036854775807) (ht : wI t) : (badT F t → (IntKind.i64.wrap (F + t) < 0)) ∧ (¬ badT F t → IntKind.i64.wrap (F + t) = F + t ∧ 0 ≤ F + t) := by
  obtain ⟨t0, t1⟩ := ht
  unfold badT
  rw [IntKind.wrap_i64]
  constructor
  · intro h
    omega
  · intro h
    omega
theorem brec_l1 (a : Bat) (h0 : 0 ≤ a.fFirst) (h1 : a.fFirst ≤ 9223372036854775807) (y : Int) : ∀ (l : List Rec) (p m : Int), (∀ r, r ∈ l → wI r.fTime) → (∃ e, ordR a.fFirst a.fLast p m l = .error e ∧ f_batch_records_l1 a l y p m = some (.ret e)) ∨ (∃ p' m', ordR a.fFirst a.fLast p m l = .ok m' ∧ f_batch_records_l1 a l y p m = some (.go (y, p', m')))
  | [], p, m, h => .inr ⟨p, m, rfl, rfl⟩
  | r :: l, p, m, h => by
    have ih := fun p m => brec_l1 a h0 h1 y l p m (fun x hx => h x (.tail _ hx))
    obtain ⟨w1, w2⟩ := wrap_time h0 h1 (h r (.head _))
    rw [f_batch_records_l1, ordR]
    by_cases c1 : r.fOffset ≤ p
    · rw [if_pos c1, if_pos (.inl c1)]
      exact .inl ⟨_, rfl, rfl⟩
    rw [if_neg c1]
    by_cases c2 : r.fOffset > a.fLast
    · rw [if_pos c2, if_pos (.inr c2)]
      exact .inl ⟨_, rfl, rfl⟩
    rw [if_neg c2, if_neg (by omega)]
    by_cases c3 : badT a.fFirst r.fTime
    · rw [if_pos c3, if_pos (w1 c3)]
      exact .inl ⟨_, rfl, rfl⟩
    obtain ⟨w3, w4⟩ := w2 c3
    rw [if_neg c3, w3, if_neg (show ¬ a.fFirst + r.fTime < 0 by omega), if_neg (show ¬ a.fFirst + r.fTime < r.fTime by omega), ite_self]
    by_cases c4 : m < a.fFirst + r.fTime
    · rw [if_pos c4, if_pos c4]
      exact ih _ _
    · rw [if_neg c4, if_neg c4]
      exact ih _ _
theorem rord_l1 (a : Bat) (h0 : 0 ≤ a.fFirst) (h1 : a.fFirst ≤ 9223372036854775807) (hb : a.fRecords.length ≤ 1000000) (y : Int) : ∀ (l : List Rec) (p m : Int) (k fuel : Nat), a.fRecords.drop k = l → l.length < fuel → (k = 0 → p = -1) → (0 < k → ∃ r, a.fRecords[k - 1]? = some r ∧ r.fOffset = p ∧ 0 ≤ p) →
    (∃ e, ordR a.fFirst a.fLast p m l = .error e ∧ f_r11_orders_l1 a fuel y k = some (.ret e)) ∨ (∃ m' z, ordR a.fFirst a.fLast p m l = .ok m' ∧ f_r11_orders_l1 a fuel y k = some (.go (y, z)))
  | [], p, m, k, fuel + 1, h, hf, hk0, hk1 => by
    have := b_nil_drop h
    exact .inr ⟨m, k, rfl, by rw [f_r11_orders_l1, if_neg (by omega)]⟩
  | r :: l, p, m, k, fuel + 1, h, hf, hk0, hk1 => by
    obtain ⟨g1, g2, g3⟩ := b_at_drop h
    rw [List.length_cons] at hf
    rw [f_r11_orders_l1, if_pos (by omega), g1, Option.bind_some, ordR]
    have hp : -1 ≤ p := by
      rcases Nat.eq_zero_or_pos k with hk | hk
      · have := hk0 hk; omega
      · obtain ⟨_, _, _, h5⟩ := hk1 hk; omega
    have ih := fun (hge : 0 ≤ r.fOffset) m => rord_l1 a h0 h1 hb y l r.fOffset m (k + 1) fuel g2 (by omega) (fun h => absurd h (by omega)) (fun _ => ⟨r, g1, rfl, hge⟩)
    have tail : 0 ≤ r.fOffset → ((if -9223372036854775808 ≤ (9223372036854775807 - a.fFirst) ∧ (9223372036854775807 - a.fFirst) ≤ 9223372036854775807 then (if r.fTime > (9223372036854775807 - a.fFirst) then some (Lp.ret (11 : Int)) else (if -9223372036854775808 ≤ (-a.fFirst) ∧ (-a.fFirst) ≤ 9223372036854775807 then (if r.fTime < (-a.fFirst) then some (Lp.ret 11) else (if -9223372036854775808 ≤ ((k : Int) + 1) ∧ ((k : Int) + 1) ≤ 9223372036854775807 then (f_r11_orders_l1 a fuel y (k + 1)) else none)) else none)) else none)) = if badT a.fFirst r.fTime then some (.ret 11) else f_r11_orders_l1 a fuel y (k + 1) := by
      intro hge
      rw [if_pos (by omega)]
      by_cases c1 : r.fTime > 9223372036854775807 - a.fFirst
      · rw [if_pos c1, if_pos (show badT a.fFirst r.fTime from .inl c1)]
      rw [if_neg c1, if_pos (by omega)]
      by_cases c2 : r.fTime < -a.fFirst
      · rw [if_pos c2, if_pos (show badT a.fFirst r.fTime from .inr c2)]
      rw [if_neg c2, if_neg (show ¬ badT a.fFirst r.fTime by unfold badT; omega), if_pos (by omega)]
    by_cases c2 : r.fOffset > a.fLast
    · rw [if_pos c2, if_pos (.inr c2)]
      exact .inl ⟨_, rfl, rfl⟩
    rw [if_neg c2]
    rcases Nat.eq_zero_or_pos k with hk | hk
    · have hp1 := hk0 hk
      rw [if_neg (show ¬ (k : Int) > 0 by omega)]
      by_cases c3 : r.fOffset < 0
      · rw [if_pos c3, if_pos (show r.fOffset ≤ p ∨ r.fOffset > a.fLast by omega)]
        exact .inl ⟨_, rfl, rfl⟩
      rw [if_neg c3, if_neg (show ¬ (r.fOffset ≤ p ∨ r.fOffset > a.fLast) by omega), tail (by omega)]
      by_cases c4 : badT a.fFirst r.fTime
      · rw [if_pos c4, if_pos c4]
        exact .inl ⟨_, rfl, rfl⟩
      · rw [if_neg c4, if_neg c4]
        exact ih (by omega) _
    · obtain ⟨q, q1, q2, q3⟩ := hk1 hk
      rw [if_pos (show (k : Int) > 0 by omega), if_pos (show -9223372036854775808 ≤ (k : Int) - 1 ∧ (k : Int) - 1 ≤ 9223372036854775807 by omega), if_pos (show 0 ≤ (k : Int) - 1 by omega), show ((k : Int) - 1).toNat = k - 1 by omega, q1, Option.bind_some, q2]
      by_cases c1 : r.fOffset ≤ p
      · rw [if_pos c1, if_pos (.inl c1)]
        exact .inl ⟨_, rfl, rfl⟩
      rw [if_neg c1, if_neg (show ¬ r.fOffset < 0 by omega), if_neg (show ¬ (r.fOffset ≤ p ∨ r.fOffset > a.fLast) by omega), tail (by omega)]
      by_cases c4 : badT a.fFirst r.fTime
      · rw [if_pos c4, if_pos c4]
        exact .inl ⟨_, rfl, rfl⟩
      · rw [if_neg c4, if_neg c4]
        exact ih (by omega) _
theorem rtim_l1 (a : Bat) (h0 : 0 ≤ a.fFirst) (h1 : a.fFirst ≤ 9223372036854775807) (hb : a.fRecords.length ≤ 1000000) (y : Int) : ∀ (l : List Rec) (p m m' : Int) (k fuel : Nat), a.fRecords.drop k = l → l.length < fuel → ordR a.fFirst a.fLast p m l = .ok m' → (∀ r, r ∈ l → wI r.fTime) → ∃ z, f_r11_times_l1 a fuel y m k = some (.go (y, m', z))
  | [], p, m, m', k, fuel + 1, h, hf, ho, hw => by
    have := b_nil_drop h
    injection ho with ho
    subst ho
    exact ⟨k, by rw [f_r11_times_l1, if_neg (by omega)]⟩
  | r :: l, p, m, m', k, fuel + 1, h, hf, ho, hw => by
    obtain ⟨g1, g2, g3⟩ := b_at_drop h
    rw [List.length_cons] at hf
    rw [ordR] at ho
    split at ho
    · exact nomatch ho
    split at ho
    · exact nomatch ho
    rename_i hb2
    have ht := hw r (.head _)
    have ht0 := ht.1
    have ht1 := ht.2
    unfold badT at hb2
    rw [f_r11_times_l1, if_pos (by omega), g1, Option.bind_some, if_pos (by omega), if_neg (by omega), if_pos (by omega), if_neg (by omega), if_pos (by omega)]
    obtain ⟨z, hz⟩ := rtim_l1 a h0 h1 hb y l r.fOffset _ m' (k + 1) fuel g2 (by omega) ho (fun x hx => hw x (.tail _ hx))
    by_cases c : m < a.fFirst + r.fTime
    · rw [if_pos c] at hz
      rw [if_pos c, if_pos (by omega), if_pos (by omega)]
      exact ⟨z, hz⟩
    · rw [if_neg c] at hz
      rw [if_neg c, if_pos (by omega)]
      exact ⟨z, hz⟩
theorem records_orders (a : Bat) (h0 : 0 ≤ a.fFirst) (h1 : a.fFirst ≤ 9223372036854775807) (hb : a.fRecords.length ≤ 1000000) (hw : ∀ r, r ∈ a.fRecords → wI r.fTime) : ∃ e, f_batch_records a = some e ∧ f_r11_orders a = some e := by
  unfold f_batch_records f_r11_orders f_r11_times
  rcases brec_l1 a h0 h1 0 a.fRecords (-1) a.fFirst hw with ⟨e, g1, g2⟩ | ⟨p', m', g1, g2⟩
  · rcases rord_l1 a h0 h1 hb 0 a.fRecords (-1) a.fFirst 0 (((a.fRecords.length : Int)).toNat + 1) rfl (by omega) (fun _ => rfl) (fun h => absurd h (by omega)) with ⟨e2, k1, k2⟩ | ⟨m2, z, k1, k2⟩
    · rw [g1] at k1
      injection k1 with k1
      subst k1
      exact ⟨e, by rw [g2]; rfl, by rw [k2]; rfl⟩
    · rw [g1] at k1
      exact nomatch k1
  · rcases rord_l1 a h0 h1 hb 0 a.fRecords (-1) a.fFirst 0 (((a.fRecords.length : Int)).toNat + 1) rfl (by omega) (fun _ => rfl) (fun h => absurd h (by omega)) with ⟨e2, k1, k2⟩ | ⟨m2, z, k1, k2⟩
    · rw [g1] at k1
      exact nomatch k1
    · obtain ⟨z2, hz2⟩ := rtim_l1 a h0 h1 hb 0 a.fRecords (-1) a.fFirst m' 0 (((a.fRecords.length : Int)).toNat + 1) rfl (by omega) g1 hw
      rw [g2, k2, hz2]
      simp only [Option.bind_some]
      by_cases ha : a.fAppend = true
      · exact ⟨0, by rw [if_pos ha], by rw [if_pos ha]⟩
      · rw [if_neg ha]
        by_cases hm : m' = a.fMax
        · exact ⟨0, by rw [if_pos hm], by rw [if_pos hm]⟩
        · exact ⟨11, by rw [if_neg hm], by rw [if_neg hm]⟩
def numOk (a : Bat) : Prop := 0 ≤ a.fBase ∧ (-1 ≤ a.fLeader ∧ a.fLeader ≤ 2147483647) ∧ (0 ≤ a.fLast ∧ a.fLast ≤ 2147483647) ∧ a.fBase + a.fLast ≤ 9223372036854775807 ∧ 0 ≤ a.fFirst ∧ 0 ≤ a.fMax
instance (a : Bat) : Decidable (numOk a) := by unfold numOk; infer_instance
theorem numbers_eq (a : Bat) (h1 : wI a.fBase) (h2 : wI a.fLeader) (h3 : wI a.fLast) : f_batch_numbers a = some (decide (numOk a)) := by
  obtain ⟨u1, u2⟩ := h1
  unfold f_batch_numbers
  rw [gFits_eq _ _ h2, gFits_eq _ _ h3, fits_4, fits_4, IntKind.wrap_i64]
  have no : ∀ {b : Bool}, ¬ numOk a → b = false → some b = some (decide (numOk a)) := fun h hb => by rw [decide_eq_false h, hb]
  by_cases c1 : a.fBase ≥ 0
  · rw [if_pos c1]
    by_cases c2 : a.fLeader ≥ -1
    · rw [if_pos c2, Option.bind_some]
      by_cases c3 : -2147483648 ≤ a.fLeader ∧ a.fLeader ≤ 2147483647
      · rw [if_pos (decide_eq_true c3)]
        by_cases c4 : a.fLast ≥ 0
        · rw [if_pos c4, Option.bind_some]
          by_cases c5 : -2147483648 ≤ a.fLast ∧ a.fLast ≤ 2147483647
          · rw [if_pos (decide_eq_true c5)]
            by_cases c6 : a.fBase + a.fLast ≤ 9223372036854775807
            · rw [if_pos (by omega)]
              by_cases c7 : a.fFirst ≥ 0
              · rw [if_pos c7]
                by_cases c8 : a.fMax ≥ 0
                · rw [if_pos c8, decide_eq_true (show numOk a from ⟨c1, ⟨c2, by omega⟩, ⟨c4, by omega⟩, c6, c7, c8⟩)]
                · rw [if_neg c8]; exact no (fun h => c8 h.2.2.2.2.2) rfl
              · rw [if_neg c7]; exact no (fun h => c7 h.2.2.2.2.1) rfl
            · rw [if_neg (by omega)]; exact no (fun h => c6 h.2.2.2.1) rfl
          · rw [if_neg (by rw [decide_eq_true_eq]; exact c5)]; exact no (fun h => by have := h.2.2.1; omega) rfl
        · rw [if_neg c4]; exact no (fun h => c4 h.2.2.1.1) rfl
      · rw [if_neg (by rw [decide_eq_true_eq]; exact c3)]; exact no (fun h => by have := h.2.1; omega) rfl
    · rw [if_neg c2]; exact no (fun h => c2 h.2.1.1) rfl
  · rw [if_neg c1]; exact no (fun h => c1 h.1) rfl
theorem int32s_eq (n k : Int) : f_r11_int32s n k = some (decide (k ≤ n ∧ n ≤ 2147483647)) := by
  unfold f_r11_int32s
  by_cases h1 : n ≥ k
  · rw [if_pos h1]
    by_cases h2 : n ≤ 2147483647
    · rw [if_pos h2, decide_eq_true ⟨h1, h2⟩]
    · rw [if_neg h2, decide_eq_false (fun h => h2 h.2)]
  · rw [if_neg h1, decide_eq_false (fun h => h1 h.1)]
def prodOk (a : Bat) : Prop := if a.fProducer = -1 then a.fEpoch = -1 ∧ a.fSequence = -1 ∧ a.fTxn = false else 0 ≤ a.fProducer ∧ (0 ≤ a.fEpoch ∧ a.fEpoch ≤ 32767) ∧ (if a.fControl = true then a.fSequence = -1 else 0 ≤ a.fSequence ∧ a.fSequence ≤ 2147483647)
instance (a : Bat) : Decidable (prodOk a) := by unfold prodOk; infer_instance
theorem b_fits_2 (n : Int) : fits n 2 = decide (-32768 ≤ n ∧ n ≤ 32767) := by
  rw [Bool.eq_iff_iff]
  unfold fits
  simp only [Bool.and_eq_true, decide_eq_true_eq]
  have : (2 : Int) ^ (8 * (2 : Int).toNat - 1) = 32768 := by decide
  omega
set_option maxHeartbeats 2000000 in
theorem producer_eq (a : Bat) (h1 : wI a.fEpoch) (h2 : wI a.fSequence) : f_batch_producer a = some (decide (prodOk a)) ∧ f_r11_producer a = some (decide (prodOk a)) := by
  unfold f_batch_producer f_r11_producer
  rw [gFits_eq _ _ h1, gFits_eq _ _ h2, fits_4, b_fits_2, int32s_eq]
  unfold prodOk
  obtain ⟨b0, b1, b2, tx, ct, b5, b6, b7, P, E, S, rs⟩ := a
  simp only
  clear h1 h2
  by_cases c1 : P = -1
  · simp only [if_pos c1]
    by_cases c2 : E = -1
    · simp only [if_pos c2]
      by_cases c3 : S = -1
      · simp only [if_pos c3]
        cases tx <;> simp [c2, c3]
      · simp [c3]
    · simp [c2]
  · simp only [if_neg c1, Option.bind_some]
    cases ct
    · simp only [Bool.false_eq_true, if_false]
      constructor
      · by_cases d1 : P ≥ 0
        · by_cases d2 : E ≥ 0
          · by_cases d3 : -32768 ≤ E ∧ E ≤ 32767
            · by_cases d4 : S ≥ 0
              · by_cases d5 : -2147483648 ≤ S ∧ S ≤ 2147483647
                · rw [if_pos d1, if_pos d2, if_pos (decide_eq_true d3), if_pos d4, if_pos (decide_eq_true d5), decide_eq_true (by omega)]
                · rw [if_pos d1, if_pos d2, if_pos (decide_eq_true d3), if_pos d4, if_neg (by rw [decide_eq_true_eq]; exact d5), decide_eq_false (by omega)]
              · rw [if_pos d1, if_pos d2, if_pos (decide_eq_true d3), if_neg d4, decide_eq_false (by omega)]
            · rw [if_pos d1, if_pos d2, if_neg (by rw [decide_eq_true_eq]; exact d3), decide_eq_false (by omega)]
          · rw [if_pos d1, if_neg d2, decide_eq_false (by omega)]
        · rw [if_neg d1, decide_eq_false (by omega)]
      · by_cases d1 : P < 0
        · rw [if_pos d1, decide_eq_false (by omega)]
        rw [if_neg d1]
        by_cases d2 : E < 0
        · rw [if_pos d2, decide_eq_false (by omega)]
        rw [if_neg d2]
        by_cases d3 : E > 32767
        · rw [if_pos d3, decide_eq_false (by omega)]
        rw [if_neg d3]
        by_cases d4 : 0 ≤ S ∧ S ≤ 2147483647
        · rw [decide_eq_true d4, decide_eq_true (by omega)]
        · rw [decide_eq_false d4, decide_eq_false (by omega)]
    · simp only [if_true]
      constructor
      · by_cases d1 : P ≥ 0
        · by_cases d2 : E ≥ 0
          · by_cases d3 : -32768 ≤ E ∧ E ≤ 32767
            · by_cases d4 : S ≥ -1
              · by_cases d5 : -2147483648 ≤ S ∧ S ≤ 2147483647
                · by_cases d6 : S = -1
                  · rw [if_pos d1, if_pos d2, if_pos (decide_eq_true d3), if_pos d4, if_pos (decide_eq_true d5), if_pos d6, decide_eq_true (by omega)]
                  · rw [if_pos d1, if_pos d2, if_pos (decide_eq_true d3), if_pos d4, if_pos (decide_eq_true d5), if_neg d6, decide_eq_false (by omega)]
                · rw [if_pos d1, if_pos d2, if_pos (decide_eq_true d3), if_pos d4, if_neg (by rw [decide_eq_true_eq]; exact d5), decide_eq_false (by omega)]
              · rw [if_pos d1, if_pos d2, if_pos (decide_eq_true d3), if_neg d4, decide_eq_false (by omega)]
            · rw [if_pos d1, if_pos d2, if_neg (by rw [decide_eq_true_eq]; exact d3), decide_eq_false (by omega)]
          · rw [if_pos d1, if_neg d2, decide_eq_false (by omega)]
        · rw [if_neg d1, decide_eq_false (by omega)]
      · by_cases d1 : P < 0
        · rw [if_pos d1, decide_eq_false (by omega)]
        rw [if_neg d1]
        by_cases d2 : E < 0
        · rw [if_pos d2, decide_eq_false (by omega)]
        rw [if_neg d2]
        by_cases d3 : E > 32767
        · rw [if_pos d3, decide_eq_false (by omega)]
        rw [if_neg d3]
        by_cases d4 : S = -1
        · rw [if_pos d4, decide_eq_true (by omega)]
        · rw [if_neg d4, decide_eq_false (by omega)]
theorem key_some (l : List UInt8) (hl : l.length ≤ 1000000) : ∃ x, f_control_ReadKey l = some x := by
  unfold f_control_ReadKey f_control_version
  simp only [gNew_eq l (by omega), gInt_eq, gClose_eq, gIFail_eq, Option.bind_some]
  generalize iint ⟨l, 0, 0⟩ 2 = x
  by_cases h : x.1 = 0
  · simp only [if_pos h, Option.bind_some]
    generalize iint x.2 2 = y
    split
    · split <;> exact ⟨_, rfl⟩
    · split
      · split <;> exact ⟨_, rfl⟩
      · split <;> exact ⟨_, rfl⟩
  · simp only [if_neg h, Option.bind_some]
    generalize iint (ifail x.2 7) 2 = y
    split
    · split <;> exact ⟨_, rfl⟩
    · split
      · split <;> exact ⟨_, rfl⟩
      · split <;> exact ⟨_, rfl⟩
theorem value_some (l : List UInt8) (hl : l.length ≤ 1000000) : ∃ x, f_control_ReadValue l = some x := by
  unfold f_control_ReadValue f_control_version
  simp only [gNew_eq l (by omega), gInt_eq, gClose_eq, gIFail_eq, Option.bind_some]
  generalize iint ⟨l, 0, 0⟩ 2 = x
  by_cases h : x.1 = 0
  · simp only [if_pos h, Option.bind_some]
    generalize iint x.2 4 = y
    split
    · split <;> exact ⟨_, rfl⟩
    · split <;> exact ⟨_, rfl⟩
  · simp only [if_neg h, Option.bind_some]
    generalize iint (ifail x.2 7) 4 = y
    split
    · split <;> exact ⟨_, rfl⟩
    · split <;> exact ⟨_, rfl⟩
theorem control_some (r : Rec) (h1 : r.fKey.data.length ≤ 1000000) (h2 : r.fValue.data.length ≤ 1000000) : ∃ x1 x2 x3, f_control_Read r = some (x1, x2, x3) := by
  obtain ⟨⟨k1, k2⟩, hk⟩ := key_some _ h1
  obtain ⟨⟨v1, v2⟩, hv⟩ := value_some _ h2
  unfold f_control_Read
  rw [hk, hv]
  simp only [Option.bind_some]
  split
  · exact ⟨_, _, _, rfl⟩
  split
  · exact ⟨_, _, _, rfl⟩
  split
  · exact ⟨_, _, _, rfl⟩
  split
  · split
    · split
      · exact ⟨_, _, _, rfl⟩
      · exact ⟨_, _, _, rfl⟩
    · exact ⟨_, _, _, rfl⟩
  · exact ⟨_, _, _, rfl⟩
def chkB (a : Bat) (cr e0 : Int) : Int := if numOk a then (if a.fControl = true then (if a.fTxn = true then (if prodOk a then (if (a.fRecords.length : Int) = 1 then (if firstR a.fRecords = 0 then (if cr = 0 then e0 else cr) else firstR a.fRecords) else 10) else 11) else 8) else (if prodOk a then (if firstR a.fRecords = 0 then e0 else firstR a.fRecords) else 11)) else 11
theorem bchk (a : Bat) (hw : wf_Bat a) (cr e0 : Int) (hc : numOk a → f_batch_records a = some e0) (hr : (a.fRecords.length : Int) = 1 → ∃ r x1 x2, a.fRecords[0]? = some r ∧ f_control_Read r = some (x1, x2, cr)) : f_batch_Check a = some (chkB a cr e0) := by
  obtain ⟨w1, w2, w3, w4, w5, w6, w7, w8, w9, w10, w11, w12⟩ := hw
  have hoff : ∀ r, r ∈ a.fRecords → wI r.fOffset := fun r h => (w12.2 r h).2.1
  unfold f_batch_Check chkB
  rw [numbers_eq a w1 w2 w6, (producer_eq a w10 w11).1, bcheck_l1 _ _ hoff, bcheck_l2 _ _ hoff]
  by_cases hn : numOk a
  · rw [decide_eq_true hn, Option.bind_some, if_pos rfl, if_pos hn, hc hn]
    by_cases hct : a.fControl = true
    · rw [if_pos hct, if_pos hct]
      by_cases ht : a.fTxn = true
      · rw [if_pos ht, if_pos ht, Option.bind_some]
        by_cases hp : prodOk a
        · rw [decide_eq_true hp, if_pos rfl, if_pos hp]
          by_cases hl : (a.fRecords.length : Int) = 1
          · obtain ⟨r, x1, x2, r1, r2⟩ := hr hl
            rw [if_pos hl, if_pos hl, r1]
            by_cases hf : firstR a.fRecords = 0
            · simp only [if_pos hf, Option.bind_some, r2]
              split <;> rfl
            · simp only [if_neg hf, Option.bind_some]
          · rw [if_neg hl, if_neg hl]
        · rw [decide_eq_false hp, if_neg (by decide), if_neg hp]
      · rw [if_neg ht, if_neg ht]
    · rw [if_neg hct, if_neg hct, Option.bind_some]
      by_cases hp : prodOk a
      · rw [decide_eq_true hp, if_pos rfl, if_pos hp]
        by_cases hf : firstR a.fRecords = 0
        · simp only [if_pos hf, Option.bind_some]
        · simp only [if_neg hf, Option.bind_some]
      · rw [decide_eq_false hp, if_neg (by decide), if_neg hp]
  · rw [decide_eq_false hn, Option.bind_some, if_neg (by decide), if_neg hn]
theorem rchk (a : Bat) (hw : wf_Bat a) (hb : a.fRecords.length ≤ 1000000) (hh : ∀ r, r ∈ a.fRecords → r.fHeaders.length ≤ 1000000) (cr e0 : Int) (hc : numOk a → f_r11_orders a = some e0) (hr : (a.fRecords.length : Int) = 1 → ∃ r x1 x2, a.fRecords[0]? = some r ∧ f_r08_Read r = some (x1, x2, cr)) : f_r11_Check a = some (chkB a cr e0) := by
  obtain ⟨w1, w2, w3, w4, w5, w6, w7, w8, w9, w10, w11, w12⟩ := hw
  obtain ⟨z, hz⟩ := rcheck_l1 a hb hh 0 a.fRecords 0 (((a.fRecords.length : Int)).toNat + 1) rfl (by omega)
  have b1 := w1.1
  have b2 := w1.2
  unfold f_r11_Check chkB
  rw [int32s_eq, int32s_eq, (producer_eq a w10 w11).2]
  simp only [rcheck_l2]
  rw [hz]
  by_cases hn : numOk a
  · obtain ⟨n1, n2, n3, n4, n5, n6⟩ := id hn
    rw [if_neg (show ¬ a.fBase < 0 by omega), decide_eq_true n2, Option.bind_some, if_pos rfl, decide_eq_true n3, Option.bind_some, if_pos rfl, if_pos (show -9223372036854775808 ≤ 9223372036854775807 - a.fBase ∧ 9223372036854775807 - a.fBase ≤ 9223372036854775807 by omega), if_neg (show ¬ a.fLast > 9223372036854775807 - a.fBase by omega), if_neg (show ¬ a.fFirst < 0 by omega), if_neg (show ¬ a.fMax < 0 by omega), if_pos hn, hc hn]
    by_cases hct : a.fControl = true
    · rw [if_pos hct, if_pos hct]
      by_cases ht : a.fTxn = true
      · rw [if_pos ht, if_pos ht, Option.bind_some]
        by_cases hp : prodOk a
        · rw [decide_eq_true hp, if_pos rfl, if_pos hp]
          by_cases hl : (a.fRecords.length : Int) = 1
          · obtain ⟨r, x1, x2, r1, r2⟩ := hr hl
            rw [if_pos hl, if_pos hl, r1]
            by_cases hf : firstR a.fRecords = 0
            · simp only [if_pos hf, Option.bind_some, r2]
              split <;> rfl
            · simp only [if_neg hf, Option.bind_some]
          · rw [if_neg hl, if_neg hl]
        · rw [decide_eq_false hp, if_neg (by decide), if_neg hp]
      · rw [if_neg ht, if_neg ht]
    · rw [if_neg hct, if_neg hct, Option.bind_some]
      by_cases hp : prodOk a
      · rw [decide_eq_true hp, if_pos rfl, if_pos hp]
        by_cases hf : firstR a.fRecords = 0
        · simp only [if_pos hf, Option.bind_some]
        · simp only [if_neg hf, Option.bind_some]
      · rw [decide_eq_false hp, if_neg (by decide), if_neg hp]
  · rw [if_neg hn]
    unfold numOk at hn
    by_cases c1 : a.fBase < 0
    · rw [if_pos c1]
    rw [if_neg c1, Option.bind_some]
    by_cases c2 : -1 ≤ a.fLeader ∧ a.fLeader ≤ 2147483647
    · rw [decide_eq_true c2, if_pos rfl, Option.bind_some]
      by_cases c3 : 0 ≤ a.fLast ∧ a.fLast ≤ 2147483647
      · rw [decide_eq_true c3, if_pos rfl, if_pos (show -9223372036854775808 ≤ 9223372036854775807 - a.fBase ∧ 9223372036854775807 - a.fBase ≤ 9223372036854775807 by omega)]
        by_cases c4 : a.fLast > 9223372036854775807 - a.fBase
        · rw [if_pos c4]
        rw [if_neg c4]
        by_cases c5 : a.fFirst < 0
        · rw [if_pos c5]
        rw [if_neg c5, if_pos (show a.fMax < 0 by omega)]
      · rw [decide_eq_false c3, if_neg (by decide)]
    · rw [decide_eq_false c2, if_neg (by decide)]
theorem check_same (a : Bat) (hw : wf_Bat a) (hb : a.fRecords.length ≤ 1000000) (hr : ∀ r, r ∈ a.fRecords → r.fHeaders.length ≤ 1000000 ∧ r.fKey.data.length ≤ 1000000 ∧ r.fValue.data.length ≤ 1000000) : ∃ cr e0, f_batch_Check a = some (chkB a cr e0) ∧ f_r11_Check a = some (chkB a cr e0) ∧ (numOk a → f_batch_records a = some e0) ∧ ((a.fRecords.length : Int) = 1 → ∃ r x1 x2, a.fRecords[0]? = some r ∧ f_control_Read r = some (x1, x2, cr) ∧ f_r08_Read r = some (x1, x2, cr)) := by
  have htim : ∀ r, r ∈ a.fRecords → wI r.fTime := fun r h => (hw.2.2.2.2.2.2.2.2.2.2.2.2 r h).1
  have hF := hw.2.2.2.2.2.2.1
  obtain ⟨e0, he⟩ : ∃ e0, numOk a → f_batch_records a = some e0 ∧ f_r11_orders a = some e0 := by
    by_cases hn : numOk a
    · obtain ⟨e0, h1, h2⟩ := records_orders a hn.2.2.2.2.1 hF.2 hb htim
      exact ⟨e0, fun _ => ⟨h1, h2⟩⟩
    · exact ⟨0, fun h => absurd h hn⟩
  obtain ⟨cr, hcr⟩ : ∃ cr, (a.fRecords.length : Int) = 1 → ∃ r x1 x2, a.fRecords[0]? = some r ∧ f_control_Read r = some (x1, x2, cr) ∧ f_r08_Read r = some (x1, x2, cr) := by
    by_cases hl : (a.fRecords.length : Int) = 1
    · obtain ⟨r, hrec⟩ : ∃ r, a.fRecords = [r] := List.length_eq_one_iff.1 (by omega)
      have h3 := hr r (by rw [hrec]; exact .head _)
      obtain ⟨x1, x2, x3, h4⟩ := control_some r h3.2.1 h3.2.2
      have h5 := read_control r (by omega) (by omega)
      exact ⟨x3, fun _ => ⟨r, x1, x2, by rw [hrec]; rfl, h4, by rw [← h5]; exact h4⟩⟩
    · exact ⟨0, fun h => absurd h hl⟩
  refine ⟨cr, e0, bchk a hw cr e0 (fun h => (he h).1) (fun h => ?_), rchk a hw hb (fun r h => (hr r h).1) cr e0 (fun h => (he h).2) (fun h => ?_), fun h => (he h).1, hcr⟩
  · obtain ⟨r, x1, x2, h1, h2, h3⟩ := hcr h
    exact ⟨r, x1, x2, h1, h2⟩
  · obtain ⟨r, x1, x2, h1, h2, h3⟩ := hcr h
    exact ⟨r, x1, x2, h1, h3⟩
end Go.Proofs.Ytahjmpipllajcaa.Sl
namespace Go.Proofs.Ytahjmpipllajcaa.Sl
open Go.RowKit
set_option linter.unusedVariables false
set_option linter.unusedSimpArgs false
abbrev Pr (α : Type) := List UInt8 → Nat → Except Int (α × Nat)
namespace Pr
variable {α β : Type}
def ret (a : α) : Pr α := fun _ q => .ok (a, q)
def err (e : Int) : Pr α := fun _ _ => .error e
def bind (p : Pr α) (f : α → Pr β) : Pr β := fun s q => match p s q with | .error e => .error e | .ok (a, r) => f a s r
theorem bind_ok {p : Pr α} {f : α → Pr β} {s : List UInt8} {q : Nat} {x : β × Nat} (h : p.bind f s q = .ok x) : ∃ a r, p s q = .ok (a, r) ∧ f a s r = .ok x := by
  unfold bind at h
  cases hp : p s q with
  | error e => rw [hp] at h; exact nomatch h
  | ok y => rw [hp] at h; exact ⟨_, _, rfl, h⟩
theorem bind_of {p : Pr α} {f : α → Pr β} {s : List UInt8} {q r : Nat} {a : α} (h : p s q = .ok (a, r)) : p.bind f s q = f a s r := by unfold bind; rw [h]
theorem bind_err {p : Pr α} {f : α → Pr β} {s : List UInt8} {q : Nat} {e : Int} (h : p s q = .error e) : p.bind f s q = .error e := by unfold bind; rw [h]
end Pr
structure Sp {α : Type} (p : Pr α) (enc : α → List UInt8) (ok : α → Prop) : Prop where
  spell : ∀ (s : List UInt8) (q : Nat) (a : α) (r : Nat), q ≤ s.length → p s q = .ok (a, r) → q ≤ r ∧ r ≤ s.length ∧ r = q + (enc a).length ∧ s.take r = s.take q ++ enc a ∧ ok a
  back : ∀ (s t : List UInt8) (q : Nat) (a : α), q ≤ s.length → ok a → s.drop q = enc a ++ t → p s q = .ok (a, q + (enc a).length)
theorem drop_step {s x t : List UInt8} {q : Nat} (h : s.drop q = x ++ t) : s.drop (q + x.length) = t := by rw [← List.drop_drop, h, List.drop_left]
theorem oput_z (t l : List UInt8) : oput (t, 0) l = (t ++ l, 0) := rfl
theorem ofail_z (t : List UInt8) (e : Int) : ofail (t, 0) e = (t, e) := rfl
theorem fits_rng {n k : Int} (h : fits n k = true) : -9223372036854775808 ≤ n ∧ n ≤ 9223372036854775807 := by
  unfold fits at h
  simp only [Bool.and_eq_true, decide_eq_true_eq] at h
  obtain ⟨⟨⟨h1, h2⟩, h3⟩, h4⟩ := h
  have : (2 : Nat) ^ (8 * k.toNat - 1) ≤ 2 ^ 63 := Nat.pow_le_pow_right (by decide) (by omega)
  have h5 : ((2 : Int) ^ (8 * k.toNat - 1)) = ((2 ^ (8 * k.toNat - 1) : Nat) : Int) := by simp
  have h6 : (2 : Nat) ^ 63 = 9223372036854775808 := by decide
  omega
theorem gOInt_z {t : List UInt8} {n k : Int} (hf : fits n k = true) (ht : t.length ≤ 140737488355320) : gOInt (t, 0) n k = some (t ++ be n k.toNat, 0) := by
  rw [gOInt_eq _ _ _ ⟨fits_rng hf, by simp only; omega⟩]
  unfold oint
  rw [if_pos hf, oput_z]
theorem gPutVaried_z {t : List UInt8} {b : Bl} (hb : bright b = true) (hl : b.data.length ≤ 2147483647) (ht : t.length + b.data.length ≤ 140737488355310) : gPutVaried (t, 0) b = some (t ++ (vput (vfold (blen b)) ++ b.data), 0) := by
  rw [gPutVaried_eq _ _ (by simp only; omega)]
  unfold bputVaried bwrite vputInt
  rw [if_pos hb, if_pos (by unfold blen; split <;> omega), oput_z, oput_z, List.append_assoc]
theorem otx_z (t : List UInt8) : otx (t, 0) = (t, 0) := by simp [otx]
end Go.Proofs.Ytahjmpipllajcaa.Sl
namespace Go.Proofs.Ytahjmpipllajcaa.Sl
open Go.RowKit
set_option linter.unusedVariables false
set_option linter.unusedSimpArgs false
def shift {α : Type} (q : Nat) : Except Int (α × Nat) → Except Int (α × Nat)
  | .error e => .error e
  | .ok (a, r) => .ok (a, q + r)
def Sh {α : Type} (p : Pr α) : Prop := ∀ (s : List UInt8) (q k : Nat), q + k ≤ s.length → p s (q + k) = shift q (p (s.drop q) k)
theorem Sh.ret {α : Type} (a : α) : Sh (Pr.ret a) := fun s q k h => rfl
theorem Sh.err {α : Type} (e : Int) : Sh (Pr.err e : Pr α) := fun s q k h => rfl
theorem Sh.bind {α β : Type} {p : Pr α} {f : α → Pr β} {enc : α → List UInt8} {ok : α → Prop} (hp : Sh p) (hs : Sp p enc ok) (hf : ∀ a, Sh (f a)) : Sh (p.bind f) := by
  intro s q k h
  unfold Pr.bind
  rw [hp s q k h]
  cases hx : p (s.drop q) k with
  | error e => rfl
  | ok x =>
    have := (hs.spell (s.drop q) k x.1 x.2 (by rw [List.length_drop]; omega) hx).2.1
    rw [List.length_drop] at this
    exact hf x.1 s q x.2 (by omega)
theorem Sh.zero {α : Type} {p : Pr α} (h : Sh p) {s : List UInt8} {q : Nat} (hq : q ≤ s.length) : p s q = shift q (p (s.drop q) 0) := h s q 0 hq
def encs {α : Type} (enc : α → List UInt8) : List α → List UInt8
  | [] => []
  | a :: l => enc a ++ encs enc l
structure CB {α : Type} (op : I → Option (α × I)) (p : Pr α) (z : α) : Prop where
  dead : ∀ st : I, st.err ≠ 0 → op st = some (z, st)
  run : ∀ (s : List UInt8) (q : Nat), s.length ≤ 1000000 → q ≤ s.length → (∃ (e : Int) (st : I), p s q = .error e ∧ op ⟨s.drop q, q, 0⟩ = some (z, st) ∧ st.err = e ∧ st.err ≠ 0) ∨ (∃ (a : α) (r : Nat), p s q = .ok (a, r) ∧ op ⟨s.drop q, q, 0⟩ = some (a, ⟨s.drop r, r, 0⟩) ∧ q ≤ r ∧ r ≤ s.length)
def NZ {α : Type} (p : Pr α) : Prop := ∀ (s : List UInt8) (q : Nat) (e : Int), s.length ≤ 1000000 → q ≤ s.length → p s q = .error e → e ≠ 0
theorem CB.nz {α : Type} {op : I → Option (α × I)} {p : Pr α} {z : α} (h : CB op p z) : NZ p := by
  intro s q e hs hq hp
  rcases h.run s q hs hq with ⟨e', st, p1, g, x, y⟩ | ⟨a, r, p1, g, n, l⟩
  · rw [hp] at p1
    injection p1 with p1
    rw [p1, ← x]
    exact y
  · rw [hp] at p1
    exact nomatch p1
theorem NZ.ret {α : Type} (a : α) : NZ (Pr.ret a) := fun s q e _ _ h => nomatch h
theorem NZ.err {α : Type} {e : Int} (he : e ≠ 0) : NZ (Pr.err e : Pr α) := fun s q e' _ _ h => by injection h with h; rw [← h]; exact he
theorem NZ.bind {α β : Type} {p : Pr α} {f : α → Pr β} {enc : α → List UInt8} {ok : α → Prop} (hp : NZ p) (hs : Sp p enc ok) (hf : ∀ a, NZ (f a)) : NZ (p.bind f) := by
  intro s q e hl hq h
  cases hx : p s q with
  | error e' =>
    rw [Pr.bind_err hx] at h
    injection h with h
    rw [← h]
    exact hp s q e' hl hq hx
  | ok x =>
    rw [Pr.bind_of (a := x.1) (r := x.2) hx] at h
    exact hf x.1 s x.2 e hl (hs.spell s q x.1 x.2 hq hx).2.1 h
end Go.Proofs.Ytahjmpipllajcaa.Sl
namespace Go.Proofs.Ytahjmpipllajcaa.Sl
open Go.RowKit
set_option linter.unusedVariables false
set_option linter.unusedSimpArgs false
theorem Sp.congr {α : Type} {p : Pr α} {enc enc' : α → List UInt8} {ok ok' : α → Prop} (h : Sp p enc ok) (hok : ∀ a, ok a ↔ ok' a) (he : ∀ a, ok a → enc a = enc' a) : Sp p enc' ok' := by
  refine ⟨fun s q a r hq hp => ?_, fun s t q a hq ha hd => ?_⟩
  · obtain ⟨h1, h2, h3, h4, h5⟩ := h.spell s q a r hq hp
    rw [← he a h5]
    exact ⟨h1, h2, h3, h4, (hok a).1 h5⟩
  · have ha' := (hok a).2 ha
    rw [← he a ha'] at hd ⊢
    exact h.back s t q a hq ha' hd
theorem Sp.seq {α β : Type} {p : Pr α} {f : α → Pr β} {π : β → α} {enc1 : α → List UInt8} {enc2 : β → List UInt8} {ok1 : α → Prop} {ok2 : β → Prop} (hp : Sp p enc1 ok1) (hf : ∀ a, Sp (f a) enc2 (fun x => ok2 x ∧ π x = a)) :
    Sp (p.bind f) (fun x => enc1 (π x) ++ enc2 x) (fun x => ok1 (π x) ∧ ok2 x) := by
  refine ⟨fun s q x r hq h => ?_, fun s t q x hq hx hd => ?_⟩
  · obtain ⟨a, m, h1, h2⟩ := Pr.bind_ok h
    obtain ⟨a1, a2, a3, a4, a5⟩ := hp.spell s q a m hq h1
    obtain ⟨b1, b2, b3, b4, b5, b6⟩ := (hf a).spell s m x r a2 h2
    subst b6
    exact ⟨by omega, b2, by rw [List.length_append]; omega, by rw [b4, a4, List.append_assoc], a5, b5⟩
  · rw [List.append_assoc] at hd
    have h1 := hp.back s _ q (π x) hq hx.1 hd
    have hl := congrArg List.length hd
    rw [List.length_drop, List.length_append] at hl
    have h2 := (hf (π x)).back s t _ x (by omega) ⟨hx.2, rfl⟩ (drop_step hd)
    rw [Pr.bind_of h1, h2, List.length_append, Nat.add_assoc]
theorem CB.bind {α β : Type} {op1 : I → Option (α × I)} {p : Pr α} {z1 : α} {op2 : α → I → Option (β × I)} {f : α → Pr β} {z : β} (W : α → Prop) (h : CB op1 p z1)
    (hs : ∀ s q a r, s.length ≤ 1000000 → q ≤ s.length → p s q = .ok (a, r) → W a) (hz : W z1) (hf : ∀ a, W a → CB (op2 a) (f a) z) : CB (fun st => (op1 st).bind fun (a, st1) => op2 a st1) (p.bind f) z := by
  refine ⟨fun st hd => ?_, fun s q hl hq => ?_⟩
  · show (op1 st).bind _ = _
    rw [h.dead st hd, Option.bind_some]
    exact (hf z1 hz).dead st hd
  · rcases h.run s q hl hq with ⟨e, st, p1, g1, x1, y1⟩ | ⟨a, r, p1, g1, n1, l1⟩
    · refine .inl ⟨e, st, Pr.bind_err p1, ?_, x1, y1⟩
      show (op1 _).bind _ = _
      rw [g1, Option.bind_some]
      exact (hf z1 hz).dead st y1
    · have g2 : ((op1 ⟨s.drop q, q, 0⟩).bind fun (a, st1) => op2 a st1) = op2 a ⟨s.drop r, r, 0⟩ := by rw [g1, Option.bind_some]
      show (∃ e st, p.bind f s q = _ ∧ ((op1 ⟨s.drop q, q, 0⟩).bind fun (a, st1) => op2 a st1) = _ ∧ _ ∧ _) ∨ (∃ x m, p.bind f s q = _ ∧ ((op1 ⟨s.drop q, q, 0⟩).bind fun (a, st1) => op2 a st1) = _ ∧ _ ∧ _)
      rw [g2, Pr.bind_of p1]
      rcases (hf a (hs s q a r hl hq p1)).run s r hl l1 with ⟨e, st, p2, k2, x2, y2⟩ | ⟨b, m, p2, k2, n2, l2⟩
      · exact .inl ⟨e, st, p2, k2, x2, y2⟩
      · exact .inr ⟨b, m, p2, k2, by omega, l2⟩
theorem CB.congr {α : Type} {op op' : I → Option (α × I)} {p : Pr α} {z : α} (h : CB op p z) (he : ∀ st, op' st = op st) : CB op' p z := ⟨fun st hd => (he st).trans (h.dead st hd), fun s q hl hq => by rw [he]; exact h.run s q hl hq⟩
theorem CB.at {α : Type} {op : I → Option (α × I)} {p : Pr α} {z : α} {enc : α → List UInt8} {ok : α → Prop} (h : CB op p z) (hs : Sp p enc ok) {a : α} {s t : List UInt8} {q : Nat} (hl : s.length ≤ 1000000) (hq : q ≤ s.length) (ha : ok a) (hd : s.drop q = enc a ++ t) :
    op ⟨s.drop q, q, 0⟩ = some (a, ⟨s.drop (q + (enc a).length), q + (enc a).length, 0⟩) ∧ q + (enc a).length ≤ s.length ∧ s.drop (q + (enc a).length) = t := by
  have h1 := hs.back s t q a hq ha hd
  have h2 := congrArg List.length hd
  rw [List.length_drop, List.length_append] at h2
  refine ⟨?_, by omega, drop_step hd⟩
  rcases h.run s q hl hq with ⟨e, st, p1, g1, x1, y1⟩ | ⟨b, r, p1, g1, n1, l1⟩
  · rw [h1] at p1
    exact nomatch p1
  · rw [h1] at p1
    injection p1 with p1
    obtain ⟨rfl, rfl⟩ := Prod.mk.inj p1
    exact g1
end Go.Proofs.Ytahjmpipllajcaa.Sl
namespace Go.Proofs.Ytahjmpipllajcaa.Sl
open Go.RowKit
set_option linter.unusedVariables false
set_option linter.unusedSimpArgs false
theorem Pr.bind_assoc {α β γ : Type} (p : Pr α) (f : α → Pr β) (g : β → Pr γ) : (p.bind f).bind g = p.bind fun a => (f a).bind g := by
  funext s q
  unfold Pr.bind
  cases p s q with
  | error e => rfl
  | ok x => rfl
def encI : List Nat → List Int → List UInt8
  | k :: ks, x :: xs => be x k ++ encI ks xs
  | _, _ => []
def okI : List Nat → List Int → Prop
  | [], [] => True
  | k :: ks, x :: xs => fits x k = true ∧ okI ks xs
  | _, _ => False
def KS : List Nat := [8, 4, 4, 1, 4, 2, 4, 8, 8, 8, 2, 4, 4]
def s32 (n : Int) : Int := if n > 2147483647 then n - 4294967296 else n
def toL (p : Pfx) : List Int := [p.fBase, p.fLength, p.fLeader, 2, s32 p.fSum, p.fAttr, p.fLast, p.fFirst, p.fMax, p.fProducer, p.fEpoch, p.fSequence, p.fCount]
def encP (p : Pfx) : List UInt8 := encI KS (toL p)
def okP (p : Pfx) : Prop := okI KS (toL p) ∧ (0 ≤ p.fSum ∧ p.fSum ≤ 4294967295) ∧ 49 ≤ p.fLength ∧ 0 ≤ p.fCount
theorem encI_len : ∀ {ks : List Nat} {l : List Int}, okI ks l → (encI ks l).length = ks.sum
  | [], [], _ => rfl
  | k :: ks, x :: xs, h => by rw [encI, List.length_append, be_length, encI_len h.2, List.sum_cons]
  | [], _ :: _, h => nomatch h
  | _ :: _, [], h => nomatch h
end Go.Proofs.Ytahjmpipllajcaa.Sl
namespace Go.Proofs.Ytahjmpipllajcaa.Sl
open Go.RowKit
set_option linter.unusedVariables false
set_option linter.unusedSimpArgs false
def r64 (n : Int) : Prop := -9223372036854775808 ≤ n ∧ n ≤ 9223372036854775807
def wrI : List Nat → List Int → List UInt8 × Int → Option (List UInt8 × Int)
  | k :: ks, x :: xs, st => (gOInt st x (k : Int)).bind fun st => wrI ks xs st
  | _, _, st => some st
theorem wrI_ok : ∀ (ks : List Nat) (l : List Int) (t : List UInt8), okI ks l → t.length + ks.sum ≤ 1000000 → wrI ks l (t, 0) = some (t ++ encI ks l, 0)
  | [], [], t, _, _ => by unfold wrI encI; rw [List.append_nil]
  | [], _ :: _, _, h, _ => nomatch h
  | _ :: _, [], _, h, _ => nomatch h
  | k :: ks, x :: xs, t, h, hl => by
    rw [List.sum_cons] at hl
    rw [wrI, gOInt_z h.1 (by omega), Option.bind_some, Int.toNat_natCast, wrI_ok ks xs _ h.2 (by rw [List.length_append, be_length]; omega), encI, List.append_assoc]
def w32 (n : Int) : Int := IntKind.i32.wrap (IntKind.u32.wrap n)
theorem w32_rng (n : Int) : -2147483648 ≤ w32 n ∧ w32 n ≤ 2147483647 := by
  unfold w32
  rw [IntKind.wrap_i32]
  omega
theorem w32_s {n : Int} (h : 0 ≤ n ∧ n ≤ 4294967295) : w32 n = s32 n := by
  unfold w32 s32
  rw [IntKind.wrap_i32, IntKind.wrap_u32]
  split <;> omega
def toW (p : Pfx) : List Int := [p.fBase, p.fLength, p.fLeader, 2, w32 p.fSum, p.fAttr, p.fLast, p.fFirst, p.fMax, p.fProducer, p.fEpoch, p.fSequence, p.fCount]
def wP (p : Pfx) : Prop := r64 p.fBase ∧ r64 p.fLength ∧ r64 p.fLeader ∧ r64 p.fSum ∧ r64 p.fAttr ∧ r64 p.fLast ∧ r64 p.fFirst ∧ r64 p.fMax ∧ r64 p.fProducer ∧ r64 p.fEpoch ∧ r64 p.fSequence ∧ r64 p.fCount
theorem write_eq (st : List UInt8 × Int) (p : Pfx) : f_prefix_Write st p = wrI KS (toW p) (if p.fSum < 0 ∨ p.fSum > 4294967295 then ofail st 11 else st) := by
  have hw := w32_rng p.fSum
  unfold f_prefix_Write
  have e : ((if p.fSum < 0 then some true else (if p.fSum > 4294967295 then some true else some false)).bind fun y4 => (if y4 = true then ((gOFail st 11).bind fun st14 => some st14) else some st)) = some (if p.fSum < 0 ∨ p.fSum > 4294967295 then ofail st 11 else st) := by
    by_cases h1 : p.fSum < 0
    · rw [if_pos h1, Option.bind_some, if_pos rfl, if_pos (.inl h1)]; rfl
    · rw [if_neg h1]
      by_cases h2 : p.fSum > 4294967295
      · rw [if_pos h2, Option.bind_some, if_pos rfl, if_pos (.inr h2)]; rfl
      · rw [if_neg h2, Option.bind_some, if_neg (by decide), if_neg (by omega)]
  have e2 : ∀ (K : List UInt8 × Int → Option (List UInt8 × Int)), ((if p.fSum < 0 then some true else (if p.fSum > 4294967295 then some true else some false)).bind fun y4 => (if y4 = true then ((gOFail st 11).bind fun st14 => some st14) else some st).bind K) = K (if p.fSum < 0 ∨ p.fSum > 4294967295 then ofail st 11 else st) := by
    intro K
    rw [← Option.bind_assoc, e, Option.bind_some]
  rw [e2]
  show (if -9223372036854775808 ≤ w32 p.fSum ∧ w32 p.fSum ≤ 9223372036854775807 then _ else _) = _
  rw [if_pos (by omega)]
  rfl
def okWp (p : Pfx) : Prop := okI KS (toL p) ∧ 0 ≤ p.fSum ∧ p.fSum ≤ 4294967295
theorem encP_len {p : Pfx} (h : okI KS (toL p)) : (encP p).length = 61 := by
  unfold encP
  rw [encI_len h]
  rfl
theorem write_ok {p : Pfx} (t : List UInt8) (h : okWp p) (ht : t.length ≤ 900000) : f_prefix_Write (t, 0) p = some (t ++ encP p, 0) := by
  have e : toW p = toL p := by
    unfold toW toL
    rw [w32_s h.2]
  have h2 := h.2
  rw [write_eq, if_neg (by omega), e]
  exact wrI_ok KS (toL p) t h.1 (by show t.length + 61 ≤ _; omega)
def listP (p : Pfx) : List Int := [p.fBase, p.fLength, p.fLeader, p.fSum, p.fAttr, p.fLast, p.fFirst, p.fMax, p.fProducer, p.fEpoch, p.fSequence, p.fCount]
theorem rb_step (l : List Int) (m : Nat) (y4 acc : List UInt8) (y5 : Bool) (k : Nat) (x : Int) (z : Nat) (hk : k < 12) (h3 : k ≠ 3) (hx : l[k]? = some x) (hz : [(8 : Int), 4, 4, 4, 2, 4, 8, 8, 8, 2, 4, 4][k]? = some (z : Int)) (h8 : z ≤ 8) (hr : r64 x) (ha : acc.length ≤ 1000) :
    f_r10_Bytes_l1 l (m + 1) y4 y5 acc k = if fits x z = true then f_r10_Bytes_l1 l m y4 y5 (acc ++ be x z) (k + 1) else some (.ret ([], false)) := by
  rw [f_r10_Bytes_l1, if_pos (by omega), hx, Option.bind_some, if_neg (by omega), hz, Option.bind_some, gRFits_eq _ _ hr, Option.bind_some]
  by_cases h : fits x z = true
  · rw [if_pos h, if_pos h, gRBytes_eq _ _ ⟨hr, by omega, by omega⟩, Option.bind_some, Int.toNat_natCast, if_pos (by rw [be_length]; omega), if_pos (by omega)]
  · rw [if_neg h, if_neg h]
theorem rb_step3 (l : List Int) (m : Nat) (y4 acc : List UInt8) (y5 : Bool) (x : Int) (hx : l[3]? = some x) (hr : r64 x) (ha : acc.length ≤ 1000) :
    f_r10_Bytes_l1 l (m + 1) y4 y5 acc 3 = if (0 ≤ x ∧ x ≤ 4294967295) then (if fits (s32 x) 4 = true then f_r10_Bytes_l1 l m y4 y5 (acc ++ be 2 1 ++ be (s32 x) 4) 4 else some (.ret ([], false))) else some (.ret ([], false)) := by
  obtain ⟨r1, r2⟩ := hr
  rw [f_r10_Bytes_l1, if_pos (by decide), hx, Option.bind_some, if_pos (by decide)]
  by_cases h : 0 ≤ x ∧ x ≤ 4294967295
  · have e1 : (if x < 0 then some true else (if x > 4294967295 then some true else some false)) = some false := by rw [if_neg (by omega), if_neg (by omega)]
    have e2 : (if x > 2147483647 then (if -9223372036854775808 ≤ (x - 4294967296) ∧ (x - 4294967296) ≤ 9223372036854775807 then some (x - 4294967296) else none) else some x) = some (s32 x) := by
      unfold s32
      by_cases q : x > 2147483647
      · rw [if_pos q, if_pos q, if_pos (by omega)]
      · rw [if_neg q, if_neg q]
    have e3 : r64 (s32 x) := by unfold s32 r64; split <;> omega
    rw [e1, Option.bind_some, if_neg (by decide), e2, Option.bind_some, gRBytes_eq _ _ ⟨by decide, by decide, by decide⟩, Option.bind_some, if_pos (by rw [be_length]; show _ + 1 ≤ _; omega), if_pos h]
    show ((some (4 : Int)).bind _) = _
    rw [Option.bind_some, gRFits_eq _ _ e3, Option.bind_some]
    by_cases hf : fits (s32 x) 4 = true
    · rw [if_pos hf, if_pos hf, gRBytes_eq _ _ ⟨e3, by decide, by decide⟩, Option.bind_some, if_pos (by rw [List.length_append, be_length, be_length]; show _ + 1 + 4 ≤ _; omega), if_pos (by decide)]
      rfl
    · rw [if_neg hf, if_neg hf]
  · have e1 : (if x < 0 then some true else (if x > 4294967295 then some true else some false)) = some true := by
      by_cases q : x < 0
      · rw [if_pos q]
      · rw [if_neg q, if_pos (by omega)]
    rw [e1, Option.bind_some, if_pos rfl, if_neg h]
theorem rb_end (l : List Int) (m : Nat) (y4 acc : List UInt8) (y5 : Bool) : f_r10_Bytes_l1 l (m + 1) y4 y5 acc 12 = some (.go (y4, y5, acc, 12)) := by
  rw [f_r10_Bytes_l1, if_neg (by decide)]
open Classical in
theorem r10_bytes (p : Pfx) (hw : wP p) : f_r10_Bytes (listP p) = some (if okWp p then (encP p, true) else ([], false)) := by
  obtain ⟨h1, h2, h3, h4, h5, h6, h7, h8, h9, h10, h11, h12⟩ := hw
  unfold f_r10_Bytes
  rw [show (12 : Int).toNat + 1 = 12 + 1 from rfl]
  have no : ¬ okWp p → ∀ (o : Option (Lp (List UInt8 × Bool) (List UInt8 × Bool × List UInt8 × Nat))), o = some (.ret ([], false)) → (o.bind fun e => match e with | .ret r => some r | .go (y55, y56, y57, k58) => some (y57, true)) = some (if okWp p then (encP p, true) else ([], false)) := by
    intro h o ho
    rw [ho, if_neg h]
    rfl
  by_cases f1 : fits p.fBase (8 : Nat) = true
  rotate_left
  · exact no (fun h => f1 h.1.1) _ (by rw [rb_step (listP p) 12 [] [] false 0 p.fBase 8 (by decide) (by decide) rfl rfl (by decide) h1 (by decide), if_neg f1])
  by_cases f2 : fits p.fLength (4 : Nat) = true
  rotate_left
  · exact no (fun h => f2 h.1.2.1) _ (by rw [rb_step (listP p) 12 [] [] false 0 p.fBase 8 (by decide) (by decide) rfl rfl (by decide) h1 (by decide), if_pos f1, rb_step (listP p) 11 [] _ false 1 p.fLength 4 (by decide) (by decide) rfl rfl (by decide) h2 (by simp [be_length]), if_neg f2])
  by_cases f3 : fits p.fLeader (4 : Nat) = true
  rotate_left
  · exact no (fun h => f3 h.1.2.2.1) _ (by rw [rb_step (listP p) 12 [] [] false 0 p.fBase 8 (by decide) (by decide) rfl rfl (by decide) h1 (by decide), if_pos f1, rb_step (listP p) 11 [] _ false 1 p.fLength 4 (by decide) (by decide) rfl rfl (by decide) h2 (by simp [be_length]), if_pos f2,
      rb_step (listP p) 10 [] _ false 2 p.fLeader 4 (by decide) (by decide) rfl rfl (by decide) h3 (by simp [be_length]), if_neg f3])
  rw [rb_step (listP p) 12 [] [] false 0 p.fBase 8 (by decide) (by decide) rfl rfl (by decide) h1 (by decide), if_pos f1, rb_step (listP p) 11 [] _ false 1 p.fLength 4 (by decide) (by decide) rfl rfl (by decide) h2 (by simp [be_length]), if_pos f2,
    rb_step (listP p) 10 [] _ false 2 p.fLeader 4 (by decide) (by decide) rfl rfl (by decide) h3 (by simp [be_length]), if_pos f3, rb_step3 (listP p) 9 [] _ false p.fSum rfl h4 (by simp [be_length])]
  by_cases g4 : 0 ≤ p.fSum ∧ p.fSum ≤ 4294967295
  rotate_left
  · exact no (fun h => g4 h.2) _ (by rw [if_neg g4])
  rw [if_pos g4]
  by_cases f4 : fits (s32 p.fSum) 4 = true
  rotate_left
  · exact no (fun h => f4 h.1.2.2.2.2.1) _ (by rw [if_neg f4])
  rw [if_pos f4, rb_step (listP p) 8 [] _ false 4 p.fAttr 2 (by decide) (by decide) rfl rfl (by decide) h5 (by simp [be_length])]
  by_cases f5 : fits p.fAttr (2 : Nat) = true
  rotate_left
  · exact no (fun h => f5 h.1.2.2.2.2.2.1) _ (by rw [if_neg f5])
  rw [if_pos f5, rb_step (listP p) 7 [] _ false 5 p.fLast 4 (by decide) (by decide) rfl rfl (by decide) h6 (by simp [be_length])]
  by_cases f6 : fits p.fLast (4 : Nat) = true
  rotate_left
  · exact no (fun h => f6 h.1.2.2.2.2.2.2.1) _ (by rw [if_neg f6])
  rw [if_pos f6, rb_step (listP p) 6 [] _ false 6 p.fFirst 8 (by decide) (by decide) rfl rfl (by decide) h7 (by simp [be_length])]
  by_cases f7 : fits p.fFirst (8 : Nat) = true
  rotate_left
  · exact no (fun h => f7 h.1.2.2.2.2.2.2.2.1) _ (by rw [if_neg f7])
  rw [if_pos f7, rb_step (listP p) 5 [] _ false 7 p.fMax 8 (by decide) (by decide) rfl rfl (by decide) h8 (by simp [be_length])]
  by_cases f8 : fits p.fMax (8 : Nat) = true
  rotate_left
  · exact no (fun h => f8 h.1.2.2.2.2.2.2.2.2.1) _ (by rw [if_neg f8])
  rw [if_pos f8, rb_step (listP p) 4 [] _ false 8 p.fProducer 8 (by decide) (by decide) rfl rfl (by decide) h9 (by simp [be_length])]
  by_cases f9 : fits p.fProducer (8 : Nat) = true
  rotate_left
  · exact no (fun h => f9 h.1.2.2.2.2.2.2.2.2.2.1) _ (by rw [if_neg f9])
  rw [if_pos f9, rb_step (listP p) 3 [] _ false 9 p.fEpoch 2 (by decide) (by decide) rfl rfl (by decide) h10 (by simp [be_length])]
  by_cases f10 : fits p.fEpoch (2 : Nat) = true
  rotate_left
  · exact no (fun h => f10 h.1.2.2.2.2.2.2.2.2.2.2.1) _ (by rw [if_neg f10])
  rw [if_pos f10, rb_step (listP p) 2 [] _ false 10 p.fSequence 4 (by decide) (by decide) rfl rfl (by decide) h11 (by simp [be_length])]
  by_cases f11 : fits p.fSequence (4 : Nat) = true
  rotate_left
  · exact no (fun h => f11 h.1.2.2.2.2.2.2.2.2.2.2.2.1) _ (by rw [if_neg f11])
  rw [if_pos f11, rb_step (listP p) 1 [] _ false 11 p.fCount 4 (by decide) (by decide) rfl rfl (by decide) h12 (by simp [be_length])]
  by_cases f12 : fits p.fCount (4 : Nat) = true
  rotate_left
  · exact no (fun h => f12 h.1.2.2.2.2.2.2.2.2.2.2.2.2.1) _ (by rw [if_neg f12])
  have hok : okWp p := ⟨⟨f1, f2, f3, rfl, f4, f5, f6, f7, f8, f9, f10, f11, f12, trivial⟩, g4⟩
  rw [if_pos f12, rb_end, Option.bind_some, if_pos hok]
  dsimp only
  unfold encP KS toL
  simp only [encI, List.append_assoc, List.nil_append, List.append_nil]
end Go.Proofs.Ytahjmpipllajcaa.Sl
namespace Go.Proofs.Ytahjmpipllajcaa.Sl
open Go.RowKit
set_option linter.unusedVariables false
set_option linter.unusedSimpArgs false
def encHd (h : Hd) : List UInt8 := (vput (vfold (h.fKey.length : Int)) ++ h.fKey) ++ (vput (vfold (blen h.fValue)) ++ h.fValue.data)
def okHd (h : Hd) : Prop := vfold (h.fKey.length : Int) < 2 ^ (32 : Int).toNat ∧ vfold (blen h.fValue) < 2 ^ (32 : Int).toNat ∧ bright h.fValue = true
end Go.Proofs.Ytahjmpipllajcaa.Sl
namespace Go.Proofs.Ytahjmpipllajcaa.Sl
open Go.RowKit
set_option linter.unusedVariables false
set_option linter.unusedSimpArgs false
def hwt (h : Hd) : Nat := 20 + h.fKey.length + h.fValue.data.length
def hwts : List Hd → Nat
  | [] => 0
  | h :: l => hwt h + hwts l
theorem vput_small32 (n : Int) (h : -1 ≤ n) (h2 : n ≤ 2147483647) : (vput (vfold n)).length ≤ 10 := vput_ten _ (vfold_lt n (by omega) (by omega))
theorem vfold_ok (n : Int) (h : -1 ≤ n) (h2 : n ≤ 2147483647) : vfold n < 2 ^ (32 : Int).toNat := by
  rw [show 2 ^ (32 : Int).toNat = 4294967296 by decide]
  exact vfold_lt32 n ⟨by omega, h2⟩
theorem blen_small (b : Bl) (h : b.data.length ≤ 2147483647) : -1 ≤ blen b ∧ blen b ≤ 2147483647 := by unfold blen; split <;> omega
theorem encHd_len (h : Hd) (hk : h.fKey.length ≤ 1000000) (hv : h.fValue.data.length ≤ 1000000) : (encHd h).length ≤ hwt h := by
  have h1 := vput_small32 (h.fKey.length : Int) (by omega) (by omega)
  have hb := blen_small h.fValue (by omega)
  have h2 := vput_small32 (blen h.fValue) hb.1 hb.2
  simp only [encHd, List.length_append, hwt]
  omega
theorem encHds_len : ∀ l : List Hd, hwts l ≤ 1000000 → (encs encHd l).length ≤ hwts l
  | [], h => Nat.le_refl _
  | x :: l, h => by
    have h1 : hwt x ≤ hwts (x :: l) := by rw [hwts]; omega
    have h2 := encHds_len l (by rw [hwts] at h; omega)
    have h3 := encHd_len x (by unfold hwt at h1; omega) (by unfold hwt at h1; omega)
    rw [encs, List.length_append, hwts]
    omega
theorem gPutName_z {t d : List UInt8} (hf : d.length ≤ 1000000) (ht : t.length ≤ 1000000000) : gPutName (t, 0) d = some (t ++ (vput (vfold (d.length : Int)) ++ d), 0) := by
  have := gPutVaried_z (t := t) (b := ⟨false, d⟩) rfl (by simp only; omega) (by simp only; omega)
  rw [gPutName_eq _ _ (by simp only; omega)]
  rw [gPutVaried_eq _ _ (by simp only; omega)] at this
  exact this
theorem hw_l1 : ∀ (l : List Hd) (t : List UInt8), (∀ h, h ∈ l → bright h.fValue = true) → t.length + hwts l ≤ 1000000 → f_header_Write_l1 l (t, 0) = some (t ++ encs encHd l, 0)
  | [], t, h, hl => by rw [f_header_Write_l1, encs, List.append_nil]
  | x :: l, t, h, hl => by
    have hx : t.length + (hwt x + hwts l) ≤ 1000000 := hl
    have h1 := encHd_len x (by unfold hwt at hx; omega) (by unfold hwt at hx; omega)
    have h2 : (vput (vfold (x.fKey.length : Int)) ++ x.fKey).length ≤ (encHd x).length := by simp only [encHd, List.length_append]; omega
    have e : t ++ (vput (vfold (x.fKey.length : Int)) ++ x.fKey) ++ (vput (vfold (blen x.fValue)) ++ x.fValue.data) = t ++ encHd x := by simp only [encHd, List.append_assoc]
    have h3 : (t ++ (vput (vfold (x.fKey.length : Int)) ++ x.fKey)).length = t.length + (vput (vfold (x.fKey.length : Int)) ++ x.fKey).length := List.length_append
    rw [f_header_Write_l1, gPutName_z (by unfold hwt at hx; omega) (by omega), Option.bind_some, gPutVaried_z (h x (.head _)) (by unfold hwt at hx; omega) (by rw [h3]; unfold hwt at hx h1; omega), Option.bind_some, e, hw_l1 l _ (fun y hy => h y (.tail _ hy)) (by rw [List.length_append]; omega), encs, List.append_assoc]
theorem hwts_len : ∀ l : List Hd, l.length * 20 ≤ hwts l
  | [] => by simp [hwts]
  | h :: l => by have := hwts_len l; simp only [hwts, hwt, List.length_cons]; omega
theorem hwts_mem : ∀ (l : List Hd) (h : Hd), h ∈ l → hwt h ≤ hwts l
  | x :: l, h, hm => by
    rcases List.mem_cons.1 hm with rfl | hm
    · simp only [hwts]; omega
    · have := hwts_mem l h hm; simp only [hwts]; omega
theorem hwrite_z (l : List Hd) (t : List UInt8) (h : ∀ x, x ∈ l → bright x.fValue = true) (ht : t.length + 10 + hwts l ≤ 1000000) : f_header_Write (t, 0) l = some (t ++ (vput (vfold (l.length : Int)) ++ encs encHd l), 0) := by
  have hn := hwts_len l
  have h1 := vput_small32 (l.length : Int) (by omega) (by omega)
  unfold f_header_Write
  rw [gPutInt_eq _ _ ⟨by omega, by simp only; omega⟩]
  unfold vputInt
  rw [if_pos (by omega), oput_z, Option.bind_some, hw_l1 l _ h (by rw [List.length_append]; omega), List.append_assoc]
  rfl
theorem r06_int (n : Int) (h : -9223372036854775808 ≤ n ∧ n ≤ 9223372036854775807) : f_r06_Int n = some (vput (vfold n)) := by
  have := vfold_lt n h.1 h.2
  unfold f_r06_Int
  rw [gRFold_eq _ h, Option.bind_some, gRPut_eq _ (by omega), Option.bind_some, Int.toNat_natCast]
theorem r06w_loop (a0 : List Hd) (hb : hwts a0 ≤ 1000000) : ∀ (l : List Hd) (t : List UInt8) (k fuel : Nat), a0.drop k = l → l.length < fuel → t.length + hwts l ≤ 2000000 → hwts l ≤ 1000000 → ∃ z, f_r06_Write_l1 a0 fuel t k = some (t ++ encs encHd l, z)
  | [], t, k, fuel + 1, h, hf, hl, hl2 => by
    have : a0.length ≤ k := List.drop_eq_nil_iff.1 h
    exact ⟨k, by rw [f_r06_Write_l1, if_neg (by omega), encs, List.append_nil]⟩
  | x :: l, t, k, fuel + 1, h, hf, hl, hl2 => by
    have hlen := congrArg List.length h
    rw [List.length_drop, List.length_cons] at hlen
    have g1 : a0[k]? = some x := by have := congrArg (fun z => z[0]?) h; simpa using this
    have g2 : a0.drop (k + 1) = l := by rw [← List.drop_drop, h]; rfl
    have hn := hwts_len a0
    rw [List.length_cons] at hf
    have hx : t.length + (hwt x + hwts l) ≤ 2000000 := hl
    have hx2 : hwt x + hwts l ≤ 1000000 := hl2
    have h1 := encHd_len x (by unfold hwt at hx2; omega) (by unfold hwt at hx2; omega)
    have e : t ++ (vput (vfold (blen ⟨false, x.fKey⟩)) ++ x.fKey) ++ (vput (vfold (blen x.fValue)) ++ x.fValue.data) = t ++ encHd x := by
      simp only [encHd, List.append_assoc]
      rfl
    have e1 : (vput (vfold (blen ⟨false, x.fKey⟩)) ++ x.fKey).length ≤ (encHd x).length ∧ (vput (vfold (blen x.fValue)) ++ x.fValue.data).length ≤ (encHd x).length := by
      simp only [encHd, List.length_append]
      have : blen ⟨false, x.fKey⟩ = (x.fKey.length : Int) := rfl
      rw [this]
      omega
    obtain ⟨z, hz⟩ := r06w_loop a0 hb l (t ++ encHd x) (k + 1) fuel g2 (by omega) (by rw [List.length_append]; omega) (by omega)
    rw [f_r06_Write_l1, if_pos (by omega), g1, Option.bind_some, gRBVaried_eq _ (by unfold hwt at hx2; simp only; omega), Option.bind_some, if_pos (by simp only; omega), gRBVaried_eq _ (by unfold hwt at hx2; omega), Option.bind_some, if_pos (by rw [List.length_append]; simp only; omega), if_pos (by omega)]
    refine ⟨z, ?_⟩
    simp only
    rw [e, hz, encs, List.append_assoc]
theorem r06_write (l : List Hd) (hb : hwts l ≤ 1000000) : f_r06_Write l = some (vput (vfold (l.length : Int)) ++ encs encHd l) := by
  have hn := hwts_len l
  have h1 := vput_small32 (l.length : Int) (by omega) (by omega)
  unfold f_r06_Write
  rw [r06_int _ (by omega), Option.bind_some]
  obtain ⟨z, hz⟩ := r06w_loop l hb l (vput (vfold (l.length : Int))) 0 (((l.length : Int)).toNat + 1) rfl (by omega) (by omega) hb
  rw [hz]
  rfl
end Go.Proofs.Ytahjmpipllajcaa.Sl
namespace Go.Proofs.Ytahjmpipllajcaa.Sl
open Go.RowKit
set_option linter.unusedVariables false
set_option linter.unusedSimpArgs false
def encBl (b : Bl) : List UInt8 := vput (vfold (blen b)) ++ b.data
def encHs (l : List Hd) : List UInt8 := vput (vfold (l.length : Int)) ++ encs encHd l
def encBody (x : Rec) : List UInt8 := be 0 1 ++ (vput (vfold x.fTime) ++ (vput (vfold x.fOffset) ++ (encBl x.fKey ++ (encBl x.fValue ++ encHs x.fHeaders))))
def okBl (b : Bl) : Prop := vfold (blen b) < 2 ^ (32 : Int).toNat ∧ bright b = true
def okHs (l : List Hd) : Prop := vfold (l.length : Int) < 2 ^ (32 : Int).toNat ∧ ∀ h, h ∈ l → okHd h
def okRec (x : Rec) : Prop := vfold x.fTime < 2 ^ (64 : Int).toNat ∧ (vfold x.fOffset < 2 ^ (32 : Int).toNat ∧ 0 ≤ x.fOffset) ∧ okBl x.fKey ∧ okBl x.fValue ∧ okHs x.fHeaders
def encRec (x : Rec) : List UInt8 := vput (vfold ((encBody x).length : Int)) ++ encBody x
end Go.Proofs.Ytahjmpipllajcaa.Sl
namespace Go.Proofs.Ytahjmpipllajcaa.Sl
open Go.RowKit
set_option linter.unusedVariables false
set_option linter.unusedSimpArgs false
def rwt (x : Rec) : Nat := x.fKey.data.length + x.fValue.data.length + hwts x.fHeaders
theorem encBl_len (b : Bl) (h : b.data.length ≤ 1000000) : (encBl b).length ≤ 10 + b.data.length := by
  have hb := blen_small b (by omega)
  have := vput_small32 (blen b) hb.1 hb.2
  rw [encBl, List.length_append]
  omega
theorem encHs_len (l : List Hd) (h : hwts l ≤ 1000000) : (encHs l).length ≤ 10 + hwts l := by
  have hn := hwts_len l
  have h1 := vput_small32 (l.length : Int) (by omega) (by omega)
  have h2 := encHds_len l h
  rw [encHs, List.length_append]
  omega
theorem encBody_len (x : Rec) (ht : wI x.fTime) (ho : wI x.fOffset) (hw : rwt x ≤ 900000) : (encBody x).length ≤ 51 + rwt x := by
  unfold rwt at hw ⊢
  have h1 := vput_ten _ (vfold_lt x.fTime ht.1 ht.2)
  have h2 := vput_ten _ (vfold_lt x.fOffset ho.1 ho.2)
  have h3 := encBl_len x.fKey (by omega)
  have h4 := encBl_len x.fValue (by omega)
  have h5 := encHs_len x.fHeaders (by omega)
  simp only [encBody, List.length_append, be_length]
  omega
theorem body_write (x : Rec) (ht : wI x.fTime) (ho : 0 ≤ x.fOffset ∧ x.fOffset ≤ 2147483647) (hk : bright x.fKey = true) (hv : bright x.fValue = true) (hh : ∀ h, h ∈ x.fHeaders → bright h.fValue = true) (hw : rwt x ≤ 900000) : f_record_body x = some (encBody x, 0) := by
  unfold rwt at hw
  have h1 := vput_ten _ (vfold_lt x.fTime ht.1 ht.2)
  have h2 := vput_ten _ (vfold_lt x.fOffset (by omega) (by omega))
  have h3 := encBl_len x.fKey (by omega)
  have h4 := encBl_len x.fValue (by omega)
  unfold encBl at h3 h4
  unfold f_record_body
  rw [gOByte_eq _ _ (by simp), Option.bind_some, show oput ([], 0) [UInt8.ofNat (0 : Int).toNat] = (be 0 1, 0) from by decide]
  have l1 : (be 0 1).length = 1 := be_length 0 1
  generalize hb0 : be 0 1 = b0 at l1
  rw [gPutLong_eq _ _ ⟨ht, by simp only; omega⟩, Option.bind_some, oput_z]
  have l2 : (b0 ++ vput (vfold x.fTime)).length ≤ 11 := by rw [List.length_append]; omega
  generalize hB1 : b0 ++ vput (vfold x.fTime) = B1 at l2
  rw [gPutInt_eq _ _ ⟨by omega, by simp only; omega⟩, Option.bind_some]
  unfold vputInt
  rw [if_pos (by omega), oput_z]
  have l3 : (B1 ++ vput (vfold x.fOffset)).length ≤ 21 := by rw [List.length_append]; omega
  generalize hB2 : B1 ++ vput (vfold x.fOffset) = B2 at l3
  rw [gPutVaried_z hk (by omega) (by omega), Option.bind_some]
  have l4 : (B2 ++ (vput (vfold (blen x.fKey)) ++ x.fKey.data)).length ≤ 31 + x.fKey.data.length := by rw [List.length_append]; omega
  generalize hB3 : B2 ++ (vput (vfold (blen x.fKey)) ++ x.fKey.data) = B3 at l4
  rw [gPutVaried_z hv (by omega) (by omega), Option.bind_some]
  have l5 : (B3 ++ (vput (vfold (blen x.fValue)) ++ x.fValue.data)).length ≤ 41 + x.fKey.data.length + x.fValue.data.length := by rw [List.length_append]; omega
  generalize hB4 : B3 ++ (vput (vfold (blen x.fValue)) ++ x.fValue.data) = B4 at l5
  rw [hwrite_z _ _ hh (by omega), Option.bind_some, gOText_eq, Option.bind_some, otx_z]
  rw [← hB4, ← hB3, ← hB2, ← hB1, ← hb0]
  simp only [encBody, encBl, encHs, List.append_assoc]
end Go.Proofs.Ytahjmpipllajcaa.Sl
namespace Go.Proofs.Ytahjmpipllajcaa.Sl
open Go.RowKit
set_option linter.unusedVariables false
set_option linter.unusedSimpArgs false
theorem right_zero {x : Rec} (h : rightR x = 0) : (0 ≤ x.fOffset ∧ x.fOffset ≤ 2147483647) ∧ bright x.fKey = true ∧ bright x.fValue = true ∧ ∀ h, h ∈ x.fHeaders → bright h.fValue = true := by
  unfold rightR at h
  split at h
  · exact absurd h (by decide)
  · rename_i h1
    split at h
    · rename_i h2
      simp only [Bool.and_eq_true] at h2
      exact ⟨by omega, h2.1.1, h2.1.2, fun y hy => List.all_eq_true.1 h2.2 y hy⟩
    · exact absurd h (by decide)
theorem rec_write (x : Rec) (t : List UInt8) (ht : wI x.fTime) (ho : wI x.fOffset) (hw : rwt x ≤ 900000) (hl : t.length ≤ 100000000) : f_record_Write (t, 0) x = some (if rightR x = 0 then (t ++ encRec x, 0) else (t, rightR x)) := by
  unfold f_record_Write
  rw [record_right x ho, Option.bind_some]
  by_cases hr : rightR x = 0
  · obtain ⟨h1, h2, h3, h4⟩ := right_zero hr
    have hb := encBody_len x ht ho hw
    rw [if_pos hr, if_pos hr, body_write x ht h1 h2 h3 h4 hw, Option.bind_some]
    simp only [if_true]
    rw [gPutName_z (by omega) (by omega), Option.bind_some]
    rfl
  · rw [if_neg hr, if_neg hr, gOFail_eq, Option.bind_some, ofail_z]
end Go.Proofs.Ytahjmpipllajcaa.Sl
namespace Go.Proofs.Ytahjmpipllajcaa.Sl
open Go.RowKit
set_option linter.unusedVariables false
set_option linter.unusedSimpArgs false
theorem r07_write (x : Rec) (ht : wI x.fTime) (ho : wI x.fOffset) (hw : rwt x ≤ 900000) : f_r07_Write x = some (encRec x) := by
  have hb := encBody_len x ht ho hw
  unfold rwt at hw hb
  have h1 := vput_ten _ (vfold_lt x.fTime ht.1 ht.2)
  have h2 := vput_ten _ (vfold_lt x.fOffset ho.1 ho.2)
  have h3 := encBl_len x.fKey (by omega)
  have h4 := encBl_len x.fValue (by omega)
  have h5 := encHs_len x.fHeaders (by omega)
  have hz : toBs [0] = be 0 1 := by decide
  have e : (((((be 0 1 ++ vput (vfold x.fTime)) ++ vput (vfold x.fOffset)) ++ encBl x.fKey) ++ encBl x.fValue) ++ encHs x.fHeaders) = encBody x := by simp only [encBody, List.append_assoc]
  unfold f_r07_Write
  rw [hz, r06_int _ ht, Option.bind_some, if_pos (by simp only [be_length]; omega), r06_int _ ho, Option.bind_some, if_pos (by simp only [List.length_append, be_length]; omega), gRBVaried_eq _ (by omega), Option.bind_some]
  rw [show vput (vfold (blen x.fKey)) ++ x.fKey.data = encBl x.fKey from rfl, if_pos (by simp only [List.length_append, be_length]; omega), gRBVaried_eq _ (by omega), Option.bind_some, show vput (vfold (blen x.fValue)) ++ x.fValue.data = encBl x.fValue from rfl, if_pos (by simp only [List.length_append, be_length]; omega), r06_write _ (by omega), Option.bind_some]
  rw [show vput (vfold (x.fHeaders.length : Int)) ++ encs encHd x.fHeaders = encHs x.fHeaders from rfl, e, if_pos (by simp only [List.length_append, be_length]; omega), r06_int _ (by omega), Option.bind_some]
  have h6 := vput_ten _ (vfold_lt ((encBody x).length : Int) (by omega) (by omega))
  rw [if_pos (by omega)]
  rfl
end Go.Proofs.Ytahjmpipllajcaa.Sl
namespace Go.Proofs.Ytahjmpipllajcaa.Sl
open Go.RowKit
set_option linter.unusedVariables false
set_option linter.unusedSimpArgs false
theorem okRec_of {x : Rec} (ht : wI x.fTime) (hr : rightR x = 0) (hw : rwt x ≤ 900000) : okRec x ∧ vfold ((encBody x).length : Int) < 2 ^ (32 : Int).toNat := by
  obtain ⟨h1, h2, h3, h4⟩ := right_zero hr
  have hb := encBody_len x ht ⟨by omega, by omega⟩ hw
  unfold rwt at hw hb
  have hn := hwts_len x.fHeaders
  have bk := blen_small x.fKey (by omega)
  have bv := blen_small x.fValue (by omega)
  refine ⟨⟨?_, ⟨vfold_ok _ (by omega) h1.2, h1.1⟩, ⟨vfold_ok _ bk.1 bk.2, h2⟩, ⟨vfold_ok _ bv.1 bv.2, h3⟩, vfold_ok _ (by omega) (by omega), fun h hh => ?_⟩, vfold_ok _ (by omega) (by omega)⟩
  · rw [show 2 ^ (64 : Int).toNat = 18446744073709551616 by decide]
    exact vfold_lt _ ht.1 ht.2
  · have hm := hwts_mem _ _ hh
    unfold hwt at hm
    have b := blen_small h.fValue (by omega)
    exact ⟨vfold_ok _ (by omega) (by omega), vfold_ok _ b.1 b.2, h4 h hh⟩
theorem encRec_len (x : Rec) (ht : wI x.fTime) (ho : wI x.fOffset) (hw : rwt x ≤ 900000) : (encRec x).length ≤ 61 + rwt x := by
  have hb := encBody_len x ht ho hw
  have h6 := vput_ten _ (vfold_lt ((encBody x).length : Int) (by omega) (by omega))
  rw [encRec, List.length_append]
  omega
end Go.Proofs.Ytahjmpipllajcaa.Sl
namespace Go.Proofs.Ytahjmpipllajcaa.Sl
set_option linter.unusedVariables false
def crcP : Nat := 2197175160
def crcS (x : Nat) : Nat := x / 2 ^^^ (if x % 2 = 1 then crcP else 0)
def crcI : Nat → Nat → Nat
  | 0, x => x
  | k + 1, x => crcI k (crcS x)
theorem nat_xor_mod2 (x y : Nat) : (x ^^^ y) % 2 = (x % 2 + y % 2) % 2 := by
  have h := Nat.xor_mod_two_pow (a := x) (b := y) (n := 1)
  rw [Nat.pow_one] at h
  rw [h]
  rcases Nat.mod_two_eq_zero_or_one x with hx | hx <;> rcases Nat.mod_two_eq_zero_or_one y with hy | hy <;> rw [hx, hy] <;> rfl
theorem nat_xor_div2 (x y : Nat) : (x ^^^ y) / 2 = (x / 2) ^^^ (y / 2) := Nat.xor_div_two
theorem crcS_xor (x y : Nat) : crcS (x ^^^ y) = crcS x ^^^ crcS y := by
  unfold crcS
  rw [nat_xor_div2, nat_xor_mod2]
  rcases Nat.mod_two_eq_zero_or_one x with hx | hx <;> rcases Nat.mod_two_eq_zero_or_one y with hy | hy <;> simp [hx, hy]
  · rw [Nat.xor_assoc]
  · ac_rfl
  · rw [show x / 2 ^^^ crcP ^^^ (y / 2 ^^^ crcP) = x / 2 ^^^ y / 2 ^^^ (crcP ^^^ crcP) by ac_rfl, Nat.xor_self, Nat.xor_zero]
theorem crcI_xor : ∀ (k x y : Nat), crcI k (x ^^^ y) = crcI k x ^^^ crcI k y
  | 0, _, _ => rfl
  | k + 1, x, y => by show crcI k _ = _; rw [crcS_xor, crcI_xor k]; rfl
theorem crcI_add : ∀ (j k x : Nat), crcI (j + k) x = crcI k (crcI j x)
  | 0, k, x => by rw [Nat.zero_add]; rfl
  | j + 1, k, x => by rw [show j + 1 + k = (j + k) + 1 by omega]; exact crcI_add j k (crcS x)
theorem crcS_even (x : Nat) : crcS (2 * x) = x := by
  unfold crcS; rw [if_neg (by omega), Nat.xor_zero]; omega
theorem crcI_shift : ∀ (k x : Nat), crcI k (2 ^ k * x) = x
  | 0, x => by rw [Nat.pow_zero, Nat.one_mul]; rfl
  | k + 1, x => by
    show crcI k (crcS _) = x
    rw [show 2 ^ (k + 1) * x = 2 * (2 ^ k * x) by rw [Nat.pow_succ, Nat.mul_comm (2 ^ k) 2, Nat.mul_assoc], crcS_even]
    exact crcI_shift k x
theorem crcS_lt {x : Nat} (h : x < 2 ^ 32) : crcS x < 2 ^ 32 := by
  unfold crcS
  exact Nat.xor_lt_two_pow (by omega) (by split <;> decide)
theorem crcI_lt : ∀ (k : Nat) {x : Nat}, x < 2 ^ 32 → crcI k x < 2 ^ 32
  | 0, _, h => h
  | k + 1, _, h => crcI_lt k (crcS_lt h)
theorem crcI_byte (x b : Nat) (hb : b < 256) : crcI 8 (x ^^^ b) = crcI 8 ((x % 256) ^^^ b) ^^^ (x / 256) := by
  have h : x = (x % 256) ^^^ (2 ^ 8 * (x / 256)) := by
    apply Nat.eq_of_testBit_eq
    intro i
    rw [Nat.testBit_xor, show (256 : Nat) = 2 ^ 8 from rfl, Nat.testBit_mod_two_pow, Nat.testBit_two_pow_mul, Nat.testBit_div_two_pow]
    by_cases hi : i < 8
    · simp [hi, show ¬ 8 ≤ i by omega]
    · simp [hi, show 8 ≤ i by omega]
  conv => lhs; rw [h]
  rw [show x % 256 ^^^ 2 ^ 8 * (x / 256) ^^^ b = (x % 256 ^^^ b) ^^^ (2 ^ 8 * (x / 256)) by ac_rfl, crcI_xor, crcI_shift]
def leN : List UInt8 → Nat
  | [] => 0
  | c :: l => c.toNat + 256 * leN l
def crcR : Nat → List UInt8 → Nat
  | x, [] => x
  | x, c :: l => crcR (crcI 8 (x ^^^ c.toNat)) l
theorem leN_lt : ∀ l, leN l < 2 ^ (8 * l.length)
  | [] => by decide
  | c :: l => by
    have := leN_lt l
    have hc := c.toNat_lt
    show c.toNat + 256 * leN l < 2 ^ (8 * (l.length + 1))
    rw [show 8 * (l.length + 1) = 8 + 8 * l.length by omega, Nat.pow_add]
    omega
theorem nat_add_xor {b : Nat} (hb : b < 256) (y : Nat) : b + 256 * y = b ^^^ (2 ^ 8 * y) := by
  apply Nat.eq_of_testBit_eq
  intro i
  rw [show b + 256 * y = 2 ^ 8 * y + b by omega, Nat.testBit_two_pow_mul_add _ (show b < 2 ^ 8 by omega), Nat.testBit_xor, Nat.testBit_two_pow_mul]
  by_cases hi : i < 8
  · simp [hi, show ¬ 8 ≤ i by omega]
  · have : b.testBit i = false := Nat.testBit_lt_two_pow (Nat.lt_of_lt_of_le hb (show 2 ^ 8 ≤ 2 ^ i from Nat.pow_le_pow_right (by decide) (by omega)))
    simp [hi, show 8 ≤ i by omega, this]
theorem crcR_eq : ∀ (l : List UInt8) (x : Nat), crcR x l = crcI (8 * l.length) (x ^^^ leN l)
  | [], x => by show x = crcI 0 (x ^^^ 0); rw [Nat.xor_zero]; rfl
  | c :: l, x => by
    show crcR _ l = _
    rw [crcR_eq l, show 8 * (c :: l).length = 8 + 8 * l.length by simp [Nat.mul_add]; omega, crcI_add]
    show _ = crcI _ (crcI 8 (x ^^^ (c.toNat + 256 * leN l)))
    rw [nat_add_xor c.toNat_lt, show x ^^^ (c.toNat ^^^ 2 ^ 8 * leN l) = (x ^^^ c.toNat) ^^^ (2 ^ 8 * leN l) by ac_rfl, crcI_xor 8 (x ^^^ c.toNat), crcI_shift]
theorem crcR_append : ∀ (l m : List UInt8) (x : Nat), crcR x (l ++ m) = crcR (crcR x l) m
  | [], _, _ => rfl
  | c :: l, m, x => crcR_append l m _
theorem crcR_lt : ∀ (l : List UInt8) {x : Nat}, x < 2 ^ 32 → crcR x l < 2 ^ 32
  | [], _, h => h
  | c :: l, _, h => crcR_lt l (crcI_lt 8 (Nat.xor_lt_two_pow h (Nat.lt_trans c.toNat_lt (by decide))))
end Go.Proofs.Ytahjmpipllajcaa.Sl
namespace Go.Proofs.Ytahjmpipllajcaa.Sl
open Go.RowKit
set_option linter.unusedVariables false
set_option linter.unusedSimpArgs false
theorem u32_ofInt (a : Nat) (h : a < 4294967296) : (BitVec.ofInt IntKind.u32.bits (a : Int)).toNat = a := by
  show (BitVec.ofInt 32 (a : Int)).toNat = a
  rw [BitVec.ofInt_natCast, BitVec.toNat_ofNat, Nat.mod_eq_of_lt (by omega)]
theorem u8_ofInt (a : Nat) (h : a < 256) : (BitVec.ofInt IntKind.u8.bits (a : Int)).toNat = a := by
  show (BitVec.ofInt 8 (a : Int)).toNat = a
  rw [BitVec.ofInt_natCast, BitVec.toNat_ofNat, Nat.mod_eq_of_lt (by omega)]
theorem wrap_u32 (a : Nat) : IntKind.u32.wrap (a : Int) = ((a % 4294967296 : Nat) : Int) := by
  rw [IntKind.wrap_u32]; omega
theorem wrap_u8 (a : Nat) : IntKind.u8.wrap (a : Int) = ((a % 256 : Nat) : Int) := by
  rw [IntKind.wrap_u8]; omega
theorem xor_u32 (a b : Nat) (ha : a < 4294967296) (hb : b < 4294967296) : Go.bits .xor .u32 (a : Int) (b : Int) = ((a ^^^ b : Nat) : Int) := by
  show IntKind.u32.wrap (((BitVec.ofInt IntKind.u32.bits (a : Int)) ^^^ (BitVec.ofInt IntKind.u32.bits (b : Int))).toNat : Int) = _
  rw [BitVec.toNat_xor, u32_ofInt a ha, u32_ofInt b hb, wrap_u32, Nat.mod_eq_of_lt (Nat.xor_lt_two_pow (n := 32) ha hb)]
theorem xor_u8 (a b : Nat) (ha : a < 256) (hb : b < 256) : Go.bits .xor .u8 (a : Int) (b : Int) = ((a ^^^ b : Nat) : Int) := by
  show IntKind.u8.wrap (((BitVec.ofInt IntKind.u8.bits (a : Int)) ^^^ (BitVec.ofInt IntKind.u8.bits (b : Int))).toNat : Int) = _
  rw [BitVec.toNat_xor, u8_ofInt a ha, u8_ofInt b hb, wrap_u8, Nat.mod_eq_of_lt (Nat.xor_lt_two_pow (n := 8) ha hb)]
theorem and1_u32 (a : Nat) (ha : a < 4294967296) : Go.bits .and .u32 (a : Int) 1 = ((a % 2 : Nat) : Int) := by
  show IntKind.u32.wrap (((BitVec.ofInt IntKind.u32.bits (a : Int)) &&& (BitVec.ofInt IntKind.u32.bits ((1 : Nat) : Int))).toNat : Int) = _
  rw [BitVec.toNat_and, u32_ofInt a ha, u32_ofInt 1 (by decide), wrap_u32, Nat.and_one_is_mod, Nat.mod_eq_of_lt (by omega)]
theorem shr1_u32 (a : Nat) : shrK .u32 (a : Int) 1 = ((a / 2 : Nat) : Int) := by
  show Int.fdiv (a : Int) 2 = _
  rw [Int.fdiv_eq_ediv_of_nonneg _ (by decide)]
  omega
theorem shr8_u32 (a : Nat) : shrK .u32 (a : Int) 8 = ((a / 256 : Nat) : Int) := by
  show Int.fdiv (a : Int) 256 = _
  rw [Int.fdiv_eq_ediv_of_nonneg _ (by decide)]
  omega
theorem crcS_int (y : Nat) (hy : y < 4294967296) : (if Go.bits .and .u32 (y : Int) 1 = 1 then some (Go.bits .xor .u32 (shrK .u32 (y : Int) 1) 2197175160) else some (shrK .u32 (y : Int) 1)) = some ((crcS y : Nat) : Int) := by
  rw [and1_u32 y hy, shr1_u32, show (2197175160 : Int) = ((2197175160 : Nat) : Int) from rfl, xor_u32 _ _ (by omega) (by decide)]
  unfold crcS
  by_cases h : y % 2 = 1
  · rw [if_pos (by omega), if_pos h]; rfl
  · rw [if_neg (by omega), if_neg h, Nat.xor_zero]
theorem new_l2 : ∀ (m y k : Nat), y < 4294967296 → k ≤ 8 → 8 - k < m → f_crc_New_l2 m (y : Int) k = some (((crcI (8 - k) y : Nat) : Int), 8)
  | 0, _, _, _, _, h => by omega
  | m + 1, y, k, hy, hk, hm => by
    rw [f_crc_New_l2]
    by_cases h : k < 8
    · rw [if_pos (by omega), crcS_int y hy, Option.bind_some, if_pos (by omega), new_l2 m (crcS y) (k + 1) (crcS_lt hy) (by omega) (by omega), show 8 - k = (8 - (k + 1)) + 1 by omega]
      rfl
    · rw [if_neg (by omega), show 8 - k = 0 by omega, show k = 8 by omega]
      rfl
def crcTab : List Int := (List.range 256).map (fun j => ((crcI 8 j : Nat) : Int))
theorem crcTab_get (j : Nat) (hj : j < 256) : crcTab[j]? = some ((crcI 8 j : Nat) : Int) := by
  unfold crcTab
  rw [List.getElem?_map, List.getElem?_range hj]
  rfl
theorem new_l1 : ∀ (m k : Nat) (l : List Int), l.length = 256 → k ≤ 256 → 256 - k < m → (∀ j, j < k → l[j]? = some ((crcI 8 j : Nat) : Int)) → f_crc_New_l1 m k l = some (256, crcTab)
  | 0, _, _, _, _, h, _ => by omega
  | m + 1, k, l, hl, hk, hm, hj => by
    rw [f_crc_New_l1]
    by_cases h : k < 256
    · have e1 : IntKind.u32.wrap (k : Int) = ((k : Nat) : Int) := by rw [wrap_u32, Nat.mod_eq_of_lt (by omega)]
      have e2 : f_crc_New_l2 ((8 : Int).toNat + 1) (IntKind.u32.wrap (k : Int)) 0 = some (((crcI 8 k : Nat) : Int), 8) := by
        rw [e1]
        exact new_l2 9 k 0 (by omega) (by omega) (by omega)
      have e3 : l[k]? = some (l[k]'(by omega)) := List.getElem?_eq_getElem (by omega)
      rw [if_pos (by omega), e2, Option.bind_some]
      dsimp only
      rw [e3, Option.bind_some, Option.bind_some, if_pos (by omega)]
      refine new_l1 m (k + 1) _ (by rw [List.length_set]; exact hl) (by omega) (by omega) (fun j hjk => ?_)
      rw [List.getElem?_set]
      by_cases e : k = j
      · rw [if_pos e, if_pos (by omega), e]
      · rw [if_neg e]
        exact hj j (by omega)
    · rw [if_neg (by omega), show k = 256 by omega]
      congr 2
      apply List.ext_getElem?
      intro j
      by_cases hj2 : j < 256
      · rw [crcTab_get j hj2]
        exact hj j (by omega)
      · rw [List.getElem?_eq_none (by omega), List.getElem?_eq_none (by unfold crcTab; simp; omega)]
theorem crc_new : f_crc_New = some crcTab := by
  unfold f_crc_New
  rw [show (256 : Int).toNat + 1 = 257 from rfl, new_l1 257 0 _ (List.length_replicate ..) (by omega) (by omega) (fun j hj => absurd hj (by omega)), Option.bind_some]
theorem more_l1 (s : List UInt8) (hs : s.length ≤ 9223372036854775806) : ∀ (m y k : Nat), y < 4294967296 → k ≤ s.length → s.length - k < m → f_crc_TableMore_l1 s m (y : Int) k crcTab = some (((crcR y (s.drop k) : Nat) : Int), s.length, crcTab)
  | 0, _, _, _, _, h => by omega
  | m + 1, y, k, hy, hk, hm => by
    rw [f_crc_TableMore_l1]
    by_cases h : k < s.length
    · have e1 : s[k]? = some s[k] := List.getElem?_eq_getElem h
      have hc := s[k].toNat_lt
      have hx : y % 256 ^^^ s[k].toNat < 256 := Nat.xor_lt_two_pow (n := 8) (by omega) hc
      have e2 : Go.bits .xor .u8 (IntKind.u8.wrap (y : Int)) (s[k].toNat : Int) = ((y % 256 ^^^ s[k].toNat : Nat) : Int) := by
        rw [wrap_u8, xor_u8 _ _ (by omega) (by omega)]
      have e3 : crcI 8 (y % 256 ^^^ s[k].toNat) < 2 ^ 32 := crcI_lt 8 (by omega)
      rw [if_pos (by omega), e1, Option.bind_some, e2, if_pos (by omega), Int.toNat_natCast, crcTab_get _ hx, Option.bind_some, if_pos (by omega), shr8_u32, xor_u32 _ _ (by omega) (by omega), ← crcI_byte y _ (by omega),
        more_l1 s hs m _ (k + 1) (crcI_lt 8 (Nat.xor_lt_two_pow (n := 32) hy (by omega))) (by omega) (by omega)]
      rw [drop_cons e1]
      rfl
    · rw [if_neg (by omega), show k = s.length by omega, List.drop_length]
      rfl
def crcM (x : Nat) (s : List UInt8) : Nat := 4294967295 ^^^ crcR (4294967295 ^^^ x) s
theorem crcM_lt {x : Nat} (hx : x < 4294967296) (s : List UInt8) : crcM x s < 4294967296 := Nat.xor_lt_two_pow (n := 32) (by decide) (crcR_lt s (Nat.xor_lt_two_pow (n := 32) (by decide) hx))
theorem ones2 (x : Nat) : 4294967295 ^^^ (4294967295 ^^^ x) = x := by rw [← Nat.xor_assoc, Nat.xor_self, Nat.zero_xor]
theorem crcM_append (x : Nat) (s t : List UInt8) : crcM x (s ++ t) = crcM (crcM x s) t := by
  unfold crcM
  rw [crcR_append, ones2]
theorem crcM_nil (x : Nat) : crcM x [] = x := ones2 x
theorem crc_more (x : Nat) (hx : x < 4294967296) (s : List UInt8) (hs : s.length ≤ 9223372036854775806) : f_crc_TableMore crcTab (x : Int) s = some (((crcM x s : Nat) : Int), crcTab) := by
  unfold f_crc_TableMore
  have h1 : (4294967295 ^^^ x : Nat) < 4294967296 := Nat.xor_lt_two_pow (n := 32) (by decide) hx
  rw [show (4294967295 : Int) = ((4294967295 : Nat) : Int) from rfl, xor_u32 _ _ (by decide) hx, Int.toNat_natCast, more_l1 s hs _ _ 0 h1 (by omega) (by omega), Option.bind_some, List.drop_zero]
  dsimp only
  rw [xor_u32 _ _ (by decide) (crcR_lt s h1)]
  rfl
theorem sum_l1 : ∀ (l : List (List UInt8)) (x : Nat), x < 4294967296 → (∀ s, s ∈ l → s.length ≤ 9223372036854775806) → f_crc_TableSum_l1 l (x : Int) crcTab = some (((crcM x l.flatten : Nat) : Int), crcTab)
  | [], x, _, _ => by rw [f_crc_TableSum_l1, List.flatten_nil, crcM_nil]
  | s :: l, x, hx, hs => by
    rw [f_crc_TableSum_l1, crc_more x hx s (hs s (List.mem_cons_self ..)), Option.bind_some]
    dsimp only
    rw [sum_l1 l _ (crcM_lt hx s) (fun t ht => hs t (List.mem_cons_of_mem _ ht)), List.flatten_cons, crcM_append]
theorem crc_sum (l : List (List UInt8)) (hs : ∀ s, s ∈ l → s.length ≤ 9223372036854775806) : f_crc_TableSum crcTab l = some (((crcM 0 l.flatten : Nat) : Int), crcTab) := by
  unfold f_crc_TableSum
  have h := sum_l1 l 0 (by decide) hs
  rw [show ((0 : Nat) : Int) = 0 from rfl] at h
  rw [h, Option.bind_some]
end Go.Proofs.Ytahjmpipllajcaa.Sl
namespace Go.Proofs.Ytahjmpipllajcaa.Sl
open Go.RowKit
set_option linter.unusedVariables false
set_option linter.unusedSimpArgs false
def bI (x j : Nat) : Int := if x.testBit j then 1 else 0
theorem bI_mod (x j : Nat) : bI x j = ((x / 2 ^ j % 2 : Nat) : Int) := by
  unfold bI
  rw [Nat.testBit_eq_decide_div_mod_eq]
  rcases Nat.mod_two_eq_zero_or_one (x / 2 ^ j) with h | h <;> rw [h] <;> rfl
theorem bI_01 (x j : Nat) : bI x j = 0 ∨ bI x j = 1 := by
  unfold bI
  by_cases h : x.testBit j = true
  · rw [if_pos h]; exact .inr rfl
  · rw [if_neg h]; exact .inl rfl
theorem bI_xor (x y j : Nat) : bI (x ^^^ y) j = (bI x j + bI y j) % 2 := by
  unfold bI
  rw [Nat.testBit_xor]
  cases x.testBit j <;> cases y.testBit j <;> rfl
theorem bI_half (x j : Nat) : bI (x / 2) j = bI x (j + 1) := by
  unfold bI
  rw [Nat.testBit_succ]
theorem leN_byte : ∀ (s : List UInt8) (k : Nat) (c : UInt8), s[k]? = some c → ∀ j, j < 8 → (leN s).testBit (8 * k + j) = c.toNat.testBit j
  | [], k, c, h, j, hj => by simp at h
  | a :: s, 0, c, h, j, hj => by
    obtain rfl : a = c := by simpa using h
    show (a.toNat + 256 * leN s).testBit (8 * 0 + j) = _
    rw [show a.toNat + 256 * leN s = 2 ^ 8 * leN s + a.toNat by omega, Nat.testBit_two_pow_mul_add _ (show a.toNat < 2 ^ 8 from a.toNat_lt), if_pos (by omega), Nat.mul_zero, Nat.zero_add]
  | a :: s, k + 1, c, h, j, hj => by
    show (a.toNat + 256 * leN s).testBit _ = _
    rw [show a.toNat + 256 * leN s = 2 ^ 8 * leN s + a.toNat by omega, Nat.testBit_two_pow_mul_add _ (show a.toNat < 2 ^ 8 from a.toNat_lt), if_neg (by omega), show 8 * (k + 1) + j - 8 = 8 * k + j by omega]
    exact leN_byte s k c (by simpa using h) j hj
theorem bit_l1 (a : Int) (ha : 0 ≤ a) (hb : a ≤ 9223372036854775807) : ∀ (m y k : Nat), y < 256 → k ≤ (a % 8).toNat → (a % 8).toNat - k < m → f_r05_bit_l1 a m (y : Int) k = some (((y / 2 ^ ((a % 8).toNat - k) : Nat) : Int), (a % 8).toNat)
  | 0, _, _, _, _, h => by omega
  | m + 1, y, k, hy, hk, hm => by
    rw [f_r05_bit_l1, if_pos ⟨ha, hb⟩]
    by_cases h : k < (a % 8).toNat
    · rw [if_pos (by omega), if_pos (by omega), if_pos (by omega), show ((y : Int) / 2) = ((y / 2 : Nat) : Int) by omega, bit_l1 a ha hb m (y / 2) (k + 1) (by omega) (by omega) (by omega), Nat.div_div_eq_div_mul,
        show (a % 8).toNat - k = ((a % 8).toNat - (k + 1)) + 1 by omega, Nat.pow_succ, Nat.mul_comm 2]
    · rw [if_neg (by omega), show (a % 8).toNat - k = 0 by omega, Nat.pow_zero, Nat.div_one, show k = (a % 8).toNat by omega]
theorem r05_bit (s : List UInt8) (i : Nat) (hi : i < 8 * s.length) (hb : i ≤ 9223372036854775807) : f_r05_bit s (i : Int) = some (bI (leN s) i) := by
  unfold f_r05_bit
  have hk : i / 8 < s.length := by omega
  have e1 : s[i / 8]? = some s[i / 8] := List.getElem?_eq_getElem hk
  have hc := s[i / 8].toNat_lt
  have e2 := bit_l1 (i : Int) (by omega) (by omega) (((i : Int) % 8).toNat + 1) s[i / 8].toNat 0 (by omega) (by omega) (by omega)
  have e3 : ((i : Int) % 8).toNat = i % 8 := by omega
  rw [if_pos (by omega), if_pos (by omega), show ((i : Int) / 8).toNat = i / 8 by omega, e1, Option.bind_some, if_pos (by omega), e2, Option.bind_some, e3, Nat.sub_zero]
  dsimp only
  have h4 : s[i / 8].toNat / 2 ^ (i % 8) ≤ s[i / 8].toNat := Nat.div_le_self _ _
  suffices h6 : bI (leN s) i = ((s[i / 8].toNat / 2 ^ (i % 8) % 2 : Nat) : Int) by
    rw [h6]
    generalize s[i / 8].toNat / 2 ^ (i % 8) = q at h4 ⊢
    rw [if_pos (by omega)]
    congr 1
  have h5 := leN_byte s (i / 8) _ e1 (i % 8) (by omega)
  rw [show 8 * (i / 8) + i % 8 = i by omega] at h5
  unfold bI
  rw [h5]
  exact bI_mod _ _
theorem r05_power : ∀ i : Nat, i < 32 → f_r05_power (31 - (i : Int)) = some (bI crcP i) := by decide +kernel
def Bts (L k : Nat) (l : List Int) (x : Nat) : Prop := l.length = L ∧ ∀ j, k + j < L → l[k + j]? = some (bI x j)
theorem r05_l1 (s : List UInt8) (hs : s.length ≤ 1000000) : ∀ (m k : Nat) (l : List Int), l.length = 8 * s.length + 32 → k ≤ 8 * s.length → 8 * s.length - k < m → (∀ j, j < k → l[j]? = some (bI (leN s) j)) → (∀ j, k ≤ j → j < 8 * s.length + 32 → l[j]? = some 0) →
    ∃ l', f_r05_Sum_l1 s m l k = some (l', 8 * s.length) ∧ Bts (8 * s.length + 32) 0 l' (leN s)
  | 0, _, _, _, _, h, _, _ => by omega
  | m + 1, k, l, hl, hk, hm, h1, h2 => by
    rw [f_r05_Sum_l1]
    by_cases h : k < 8 * s.length
    · rw [if_pos (by omega), r05_bit s k h (by omega), Option.bind_some, h2 k (Nat.le_refl _) (by omega), Option.bind_some, if_pos (by omega)]
      refine r05_l1 s hs m (k + 1) _ (by rw [List.length_set]; exact hl) (by omega) (by omega) (fun j hj => ?_) (fun j hj hj2 => ?_)
      · rw [List.getElem?_set]
        by_cases e : k = j
        · rw [if_pos e, if_pos (by omega), e]
        · rw [if_neg e]; exact h1 j (by omega)
      · rw [List.getElem?_set, if_neg (by omega)]
        exact h2 j (by omega) hj2
    · have hk2 : k = 8 * s.length := by omega
      rw [if_neg (by omega), hk2]
      refine ⟨l, rfl, hl, fun j hj => ?_⟩
      rw [Nat.zero_add] at hj ⊢
      by_cases e : j < k
      · exact h1 j e
      · rw [h2 j (by omega) hj]
        unfold bI
        rw [Nat.testBit_lt_two_pow (Nat.lt_of_lt_of_le (leN_lt s) (Nat.pow_le_pow_right (by decide) (by omega)))]
        rfl
theorem bI_ones (k j : Nat) : bI (2 ^ k - 1) j = if j < k then 1 else 0 := by
  unfold bI
  rw [Nat.testBit_two_pow_sub_one]
  by_cases h : j < k <;> simp [h]
theorem r05_l2 (x L : Nat) (hL : 32 ≤ L) : ∀ (m k : Nat) (l : List Int), k ≤ 32 → 32 - k < m → Bts L 0 l (x ^^^ (2 ^ k - 1)) → ∃ l', f_r05_Sum_l2 m l k = some (l', 32) ∧ Bts L 0 l' (x ^^^ 4294967295)
  | 0, _, _, _, h, _ => by omega
  | m + 1, k, l, hk, hm, hB => by
    rw [f_r05_Sum_l2]
    by_cases h : k < 32
    · have e := hB.2 k (by omega)
      rw [Nat.zero_add] at e
      rw [if_pos (by omega), e, Option.bind_some]
      have h01 := bI_01 (x ^^^ (2 ^ k - 1)) k
      rw [if_pos (by omega), if_pos (by omega)]
      refine r05_l2 x L hL m (k + 1) _ (by omega) (by omega) ⟨by rw [List.length_set]; exact hB.1, fun j hj => ?_⟩
      rw [Nat.zero_add] at hj ⊢
      have e2 := hB.2 j (by omega)
      rw [Nat.zero_add] at e2
      have R : bI (x ^^^ (2 ^ (k + 1) - 1)) j = (bI x j + if j < k + 1 then 1 else 0) % 2 := by rw [bI_xor, bI_ones]
      have R0 : bI (x ^^^ (2 ^ k - 1)) j = (bI x j + if j < k then 1 else 0) % 2 := by rw [bI_xor, bI_ones]
      rw [List.getElem?_set, R]
      by_cases e3 : k = j
      · subst e3
        rw [if_pos rfl, if_pos (by rw [hB.1]; exact hj), if_pos (by omega), R0, if_neg (by omega)]
        rcases bI_01 x k with q | q <;> rw [q] <;> rfl
      · rw [if_neg e3, e2, R0]
        by_cases e4 : j < k
        · rw [if_pos e4, if_pos (by omega)]
        · rw [if_neg e4, if_neg (by omega)]
    · have : k = 32 := by omega
      subst this
      rw [if_neg (by omega)]
      exact ⟨l, rfl, hB⟩
theorem r05_l4 (L k : Nat) (l0 : List Int) (y : Nat) (hL : k + 33 ≤ L) (hb : L ≤ 9000000) (h0 : Bts L k l0 y) : ∀ (m i : Nat) (l : List Int), 1 ≤ i → i ≤ 33 → 33 - i < m → l.length = L → (∀ j, k + i ≤ j → j < L → l[j]? = l0[j]?) → (∀ j, j + 1 < i → l[k + 1 + j]? = some (bI (y / 2 ^^^ crcP) j)) →
    ∃ l', f_r05_Sum_l4 k m l (i : Int) = some (l', 33) ∧ l'.length = L ∧ (∀ j, k + 33 ≤ j → j < L → l'[j]? = l0[j]?) ∧ ∀ j, j < 32 → l'[k + 1 + j]? = some (bI (y / 2 ^^^ crcP) j)
  | 0, _, _, _, _, h, _, _, _ => by omega
  | m + 1, i, l, h1, hi, hm, hl, hr, hd => by
    rw [f_r05_Sum_l4]
    by_cases h : i ≤ 32
    · have e1 : l[k + i]? = some (bI y i) := by rw [hr (k + i) (Nat.le_refl _) (by omega)]; exact h0.2 i (by omega)
      have e2 : f_r05_power (32 - (i : Int)) = some (bI crcP (i - 1)) := by
        rw [show (32 : Int) - (i : Int) = 31 - ((i - 1 : Nat) : Int) by omega]
        exact r05_power (i - 1) (by omega)
      have q1 := bI_01 y i
      have q2 := bI_01 crcP (i - 1)
      rw [if_pos (by omega), if_pos (by omega), show ((k : Int) + (i : Int)).toNat = k + i by omega, e1, Option.bind_some, if_pos (by omega), if_pos (by omega), if_pos (by omega), e2, Option.bind_some, if_pos (by omega), if_pos (by omega), if_pos (by omega),
        show (i : Int) + 1 = ((i + 1 : Nat) : Int) by omega]
      refine r05_l4 L k l0 y hL hb h0 m (i + 1) _ (by omega) (by omega) (by omega) (by rw [List.length_set]; exact hl) (fun j hj hj2 => ?_) (fun j hj => ?_)
      · rw [List.getElem?_set, if_neg (by omega)]
        exact hr j (by omega) hj2
      · rw [List.getElem?_set]
        by_cases e3 : k + i = k + 1 + j
        · rw [if_pos e3, if_pos (by omega), bI_xor, bI_half, show j + 1 = i by omega, show i - 1 = j by omega]
        · rw [if_neg e3]; exact hd j (by omega)
    · have : i = 33 := by omega
      subst this
      rw [if_neg (by omega)]
      exact ⟨l, rfl, hl, fun j hj hj2 => hr j hj hj2, fun j hj => hd j (by omega)⟩
theorem crcP_high (j : Nat) (hj : 32 ≤ j) : bI crcP j = 0 := by
  unfold bI
  rw [Nat.testBit_lt_two_pow (Nat.lt_of_lt_of_le (show crcP < 2 ^ 32 by decide) (Nat.pow_le_pow_right (by decide) hj))]
  rfl
theorem bI_zero (x : Nat) : bI x 0 = 1 ↔ x % 2 = 1 := by
  rw [bI_mod, Nat.pow_zero, Nat.div_one]; omega
theorem r05_l3 (s : List UInt8) (hs : s.length ≤ 1000000) : ∀ (m k : Nat) (l : List Int) (y : Nat), k ≤ 8 * s.length → 8 * s.length - k < m → Bts (8 * s.length + 32) k l y → ∃ l', f_r05_Sum_l3 s m l k = some (l', 8 * s.length) ∧ Bts (8 * s.length + 32) (8 * s.length) l' (crcI (8 * s.length - k) y)
  | 0, _, _, _, _, h, _ => by omega
  | m + 1, k, l, y, hk, hm, hB => by
    rw [f_r05_Sum_l3]
    by_cases h : k < 8 * s.length
    · have e1 := hB.2 0 (by omega)
      rw [Nat.add_zero] at e1
      rw [if_pos (by omega), e1, Option.bind_some, show 8 * s.length - k = (8 * s.length - (k + 1)) + 1 by omega]
      by_cases ho : bI y 0 = 1
      · have hy := (bI_zero y).1 ho
        obtain ⟨l', r1, r2, r3, r4⟩ := r05_l4 (8 * s.length + 32) k l y (by omega) (by omega) hB 33 1 l (by omega) (by omega) (by omega) hB.1 (fun j _ _ => rfl) (fun j hj => absurd hj (by omega))
        rw [if_pos ho, show ((33 : Int) - 1).toNat + 1 = 33 from rfl, show (1 : Int) = ((1 : Nat) : Int) from rfl, r1, Option.bind_some]
        dsimp only
        rw [if_pos (by omega)]
        refine r05_l3 s hs m (k + 1) l' (crcS y) (by omega) (by omega) ⟨r2, fun j hj => ?_⟩
        unfold crcS
        rw [if_pos hy]
        by_cases e : j < 32
        · exact r4 j e
        · rw [r3 _ (by omega) (by omega), show k + 1 + j = k + (j + 1) by omega, hB.2 (j + 1) (by omega), bI_xor, bI_half, crcP_high j (by omega)]
          rcases bI_01 y (j + 1) with q | q <;> rw [q] <;> rfl
      · have hy : ¬ y % 2 = 1 := fun e => ho ((bI_zero y).2 e)
        rw [if_neg ho, if_pos (by omega)]
        refine r05_l3 s hs m (k + 1) l (crcS y) (by omega) (by omega) ⟨hB.1, fun j hj => ?_⟩
        unfold crcS
        rw [if_neg hy, Nat.xor_zero, bI_half, show k + 1 + j = k + (j + 1) by omega]
        exact hB.2 (j + 1) (by omega)
    · have : k = 8 * s.length := by omega
      subst this
      rw [if_neg (by omega), Nat.sub_self]
      exact ⟨l, rfl, hB⟩
theorem ones_sub {z : Nat} (hz : z < 4294967296) : 4294967295 ^^^ z = 4294967295 - z := by
  apply Nat.eq_of_testBit_eq
  intro i
  rw [show 4294967295 - z = 2 ^ 32 - (z + 1) by omega, Nat.testBit_two_pow_sub_succ (show z < 2 ^ 32 from hz), Nat.testBit_xor, show (4294967295 : Nat) = 2 ^ 32 - 1 from rfl, Nat.testBit_two_pow_sub_one]
  by_cases h : i < 32
  · simp [h]
  · have : z.testBit i = false := Nat.testBit_lt_two_pow (Nat.lt_of_lt_of_le hz (show 2 ^ 32 ≤ 2 ^ i from Nat.pow_le_pow_right (by decide) (by omega)))
    simp [h, this]
theorem r05_l5 (s : List UInt8) (hs : s.length ≤ 1000000) (l : List Int) (z : Nat) (hz : z < 4294967296) (hB : Bts (8 * s.length + 32) (8 * s.length) l z) : ∀ (i m : Nat), i ≤ 32 → i < m → f_r05_Sum_l5 s l m (((4294967295 - z) / 2 ^ i : Nat) : Int) ((i : Int) - 1) = some (((4294967295 - z : Nat) : Int), -1)
  | i, 0, _, h => by omega
  | 0, m + 1, _, _ => by
    rw [f_r05_Sum_l5, if_neg (by omega), Nat.pow_zero, Nat.div_one]
    rfl
  | i + 1, m + 1, hi, hm => by
    have e1 := hB.2 i (by omega)
    have q := bI_01 z i
    rw [f_r05_Sum_l5, if_pos (by omega), if_pos (by omega), if_pos (by omega), show (8 * (s.length : Int) + (((i + 1 : Nat) : Int) - 1)).toNat = 8 * s.length + i by omega, e1, Option.bind_some, if_pos (by omega), if_pos (by omega),
      show ((i + 1 : Nat) : Int) - 1 - 1 = (i : Int) - 1 by omega]
    have h1 : (4294967295 - z) / 2 ^ i / 2 = (4294967295 - z) / 2 ^ (i + 1) := by rw [Nat.div_div_eq_div_mul, ← Nat.pow_succ]
    have h2 : (((4294967295 - z) / 2 ^ i % 2 : Nat) : Int) = 1 - bI z i := by
      rw [← bI_mod, ← ones_sub hz, bI_xor, show (4294967295 : Nat) = 2 ^ 32 - 1 from rfl, bI_ones, if_pos (by omega)]
      rcases q with q | q <;> rw [q] <;> rfl
    have h3 : (4294967295 - z) / 2 ^ i ≤ 4294967295 := Nat.le_trans (Nat.div_le_self _ _) (by omega)
    have h4 : IntKind.u32.wrap ((IntKind.u32.wrap ((((4294967295 - z) / 2 ^ (i + 1) : Nat) : Int) * 2)) + (IntKind.u32.wrap (1 - bI z i))) = (((4294967295 - z) / 2 ^ i : Nat) : Int) := by
      rw [IntKind.wrap_u32, IntKind.wrap_u32, IntKind.wrap_u32, ← h1, ← h2]
      generalize (4294967295 - z) / 2 ^ i = q at h3
      omega
    rw [h4]
    exact r05_l5 s hs l z hz hB i m (by omega) (by omega)
theorem r05_sum (s : List UInt8) (hs : s.length ≤ 1000000) : f_r05_Sum s = some ((crcM 0 s : Nat) : Int) := by
  unfold f_r05_Sum
  obtain ⟨l1, r1, B1⟩ := r05_l1 s hs (8 * s.length + 1) 0 (List.replicate (8 * s.length + 32) 0) (List.length_replicate ..) (by omega) (by omega) (fun j hj => absurd hj (by omega)) (fun j _ hj => by rw [List.getElem?_replicate, if_pos hj])
  obtain ⟨l2, r2, B2⟩ := r05_l2 (leN s) (8 * s.length + 32) (by omega) 33 0 l1 (by omega) (by omega) (by rw [Nat.pow_zero, Nat.sub_self, Nat.xor_zero]; exact B1)
  obtain ⟨l3, r3, B3⟩ := r05_l3 s hs (8 * s.length + 1) 0 l2 _ (by omega) (by omega) B2
  have hz : crcI (8 * s.length - 0) (leN s ^^^ 4294967295) = crcR 4294967295 s := by rw [Nat.sub_zero, crcR_eq, Nat.xor_comm]
  rw [hz] at B3
  have hlt : crcR 4294967295 s < 4294967296 := crcR_lt s (by decide)
  have r4 := r05_l5 s hs l3 _ hlt B3 32 33 (by omega) (by omega)
  rw [show (4294967295 - crcR 4294967295 s) / 2 ^ 32 = 0 from Nat.div_eq_of_lt (by omega)] at r4
  rw [if_pos (by omega), if_pos (by omega), if_pos (by omega), show (8 * (s.length : Int)).toNat = 8 * s.length by omega, show (8 * (s.length : Int) + 32).toNat = 8 * s.length + 32 by omega, r1, Option.bind_some]
  dsimp only
  rw [show (32 : Int).toNat + 1 = 33 from rfl, r2, Option.bind_some]
  dsimp only
  rw [r3, Option.bind_some]
  dsimp only
  rw [show ((31 : Int) - -1).toNat + 1 = 33 from rfl]
  have r5 : f_r05_Sum_l5 s l3 33 0 31 = some (((4294967295 - crcR 4294967295 s : Nat) : Int), -1) := r4
  rw [r5, Option.bind_some]
  dsimp only
  rw [← ones_sub hlt]
  unfold crcM
  rw [Nat.xor_zero]
end Go.Proofs.Ytahjmpipllajcaa.Sl
namespace Go.Proofs.Ytahjmpipllajcaa.Sl
open Go.RowKit
set_option linter.unusedVariables false
set_option linter.unusedSimpArgs false
def pre21 (p : Pfx) : List UInt8 := be p.fBase 8 ++ (be p.fLength 4 ++ (be p.fLeader 4 ++ (be 2 1 ++ be (s32 p.fSum) 4)))
def post21 (p : Pfx) : List UInt8 := be p.fAttr 2 ++ encI [4, 8, 8, 8, 2, 4, 4] [p.fLast, p.fFirst, p.fMax, p.fProducer, p.fEpoch, p.fSequence, p.fCount]
theorem encP_21 (p : Pfx) : encP p = pre21 p ++ post21 p := by
  unfold encP KS toL pre21 post21
  simp only [encI, List.append_assoc]
theorem pre21_len (p : Pfx) : (pre21 p).length = 21 := by
  unfold pre21
  simp only [List.length_append, be_length]
theorem encP_drop (p : Pfx) : (encP p).drop 21 = post21 p := by
  rw [encP_21, ← pre21_len p, List.drop_left]
def okRc (x : Rec) : Prop := okRec x ∧ vfold ((encBody x).length : Int) < 2 ^ (32 : Int).toNat
def chk (a : Bat) : Int := (f_batch_Check a).getD 0
def body (a : Bat) : List UInt8 := encs encRec a.fRecords
def pB (a : Bat) (s : Int) : Pfx := ⟨a.fBase, 49 + ((body a).length : Int), a.fLeader, s, ofBits a.fAppend a.fTxn a.fControl, a.fLast, a.fFirst, a.fMax, a.fProducer, a.fEpoch, a.fSequence, (a.fRecords.length : Int)⟩
def sumP (p : Pfx) (s : List UInt8) : Nat := crcM 0 (post21 p ++ s)
def sumB (a : Bat) : Nat := sumP (pB a 0) (body a)
def encBt (a : Bat) : List UInt8 := encP (pB a (sumB a)) ++ body a
def okB (a : Bat) : Prop := okP (pB a (sumB a)) ∧ acheck (ofBits a.fAppend a.fTxn a.fControl) = 0 ∧ (∀ x, x ∈ a.fRecords → okRc x) ∧ chk a = 0
end Go.Proofs.Ytahjmpipllajcaa.Sl
namespace Go.Proofs.Ytahjmpipllajcaa.Sl
open Go.RowKit
set_option linter.unusedVariables false
set_option linter.unusedSimpArgs false
def bnR (r : Rec) : Prop := r.fHeaders.length ≤ 1000000 ∧ r.fKey.data.length ≤ 1000000 ∧ r.fValue.data.length ≤ 1000000
def bnB (a : Bat) : Prop := wf_Bat a ∧ a.fRecords.length ≤ 1000000 ∧ ∀ r, r ∈ a.fRecords → bnR r
theorem chk_eq {a : Bat} (h : bnB a) : f_batch_Check a = some (chk a) ∧ f_r11_Check a = some (chk a) := by
  obtain ⟨cr, e0, h1, h2, _⟩ := check_same a h.1 h.2.1 h.2.2
  have e : chk a = chkB a cr e0 := by unfold chk; rw [h1]; rfl
  rw [e]
  exact ⟨h1, h2⟩
theorem b_fits_8 (n : Int) : fits n 8 = decide (-9223372036854775808 ≤ n ∧ n ≤ 9223372036854775807) := by
  rw [Bool.eq_iff_iff]
  unfold fits
  simp only [Bool.and_eq_true, decide_eq_true_eq]
  have : (2 : Int) ^ (8 * (8 : Int).toNat - 1) = 9223372036854775808 := by decide
  omega
end Go.Proofs.Ytahjmpipllajcaa.Sl
namespace Go.Proofs.Ytahjmpipllajcaa.Sl
open Go.RowKit
set_option linter.unusedVariables false
set_option linter.unusedSimpArgs false
theorem firstR_zero : ∀ {l : List Rec}, firstR l = 0 → ∀ r, r ∈ l → rightR r = 0
  | x :: l, h, r, hr => by
    rw [firstR] at h
    by_cases hx : rightR x = 0
    · rw [if_pos hx] at h
      rcases List.mem_cons.1 hr with rfl | hr
      · exact hx
      · exact firstR_zero h r hr
    · rw [if_neg hx] at h
      exact absurd h hx
theorem chk_facts {a : Bat} (h : bnB a) (h0 : chk a = 0) : numOk a ∧ prodOk a ∧ (a.fControl = true → a.fTxn = true ∧ (a.fRecords.length : Int) = 1) ∧ ∀ r, r ∈ a.fRecords → rightR r = 0 := by
  obtain ⟨cr, e0, h1, h2, h3, h4⟩ := check_same a h.1 h.2.1 h.2.2
  have e : chk a = chkB a cr e0 := by unfold chk; rw [h1]; rfl
  rw [e] at h0
  unfold chkB at h0
  by_cases hn : numOk a
  rotate_left
  · rw [if_neg hn] at h0; exact absurd h0 (by decide)
  rw [if_pos hn] at h0
  by_cases hc : a.fControl = true
  · rw [if_pos hc] at h0
    by_cases ht : a.fTxn = true
    rotate_left
    · rw [if_neg ht] at h0; exact absurd h0 (by decide)
    rw [if_pos ht] at h0
    by_cases hp : prodOk a
    rotate_left
    · rw [if_neg hp] at h0; exact absurd h0 (by decide)
    rw [if_pos hp] at h0
    by_cases hl : (a.fRecords.length : Int) = 1
    rotate_left
    · rw [if_neg hl] at h0; exact absurd h0 (by decide)
    rw [if_pos hl] at h0
    by_cases hf : firstR a.fRecords = 0
    rotate_left
    · rw [if_neg hf] at h0; exact absurd h0 hf
    exact ⟨hn, hp, fun _ => ⟨ht, hl⟩, firstR_zero hf⟩
  · rw [if_neg hc] at h0
    by_cases hp : prodOk a
    rotate_left
    · rw [if_neg hp] at h0; exact absurd h0 (by decide)
    rw [if_pos hp] at h0
    by_cases hf : firstR a.fRecords = 0
    rotate_left
    · rw [if_neg hf] at h0; exact absurd h0 hf
    exact ⟨hn, hp, fun h => absurd h hc, firstR_zero hf⟩
theorem attr_ok : ∀ a t c : Bool, (c = true → t = true) → acheck (ofBits a t c) = 0 := by decide
theorem ofBits_le : ∀ a t c : Bool, 0 ≤ ofBits a t c ∧ ofBits a t c ≤ 56 := by decide
theorem fits8 {n : Int} (h : wI n) : fits n (8 : Nat) = true := by
  show fits n 8 = true
  rw [b_fits_8]
  exact decide_eq_true h
theorem fits4 {n : Int} (h : -2147483648 ≤ n ∧ n ≤ 2147483647) : fits n (4 : Nat) = true := by
  show fits n 4 = true
  rw [fits_4]
  exact decide_eq_true h
theorem fits2 {n : Int} (h : -32768 ≤ n ∧ n ≤ 32767) : fits n (2 : Nat) = true := by
  show fits n 2 = true
  rw [b_fits_2]
  exact decide_eq_true h
def smB (a : Bat) : Prop := bnB a ∧ (∀ r, r ∈ a.fRecords → rwt r ≤ 900000) ∧ (body a).length ≤ 900000
theorem prod_rng {a : Bat} (h : prodOk a) : (-32768 ≤ a.fEpoch ∧ a.fEpoch ≤ 32767) ∧ (-2147483648 ≤ a.fSequence ∧ a.fSequence ≤ 2147483647) := by
  unfold prodOk at h
  split at h
  · omega
  · split at h <;> omega
theorem okP_pB {a : Bat} (hb : smB a) (h0 : chk a = 0) (s : Nat) (hs : s < 4294967296) : okP (pB a s) := by
  obtain ⟨hn, hp, hc, hr⟩ := chk_facts hb.1 h0
  obtain ⟨n1, n2, n3, n4, n5, n6⟩ := hn
  obtain ⟨w1, w2, _, _, _, w6, w7, w8, w9, w10, w11, w12⟩ := hb.1.1
  obtain ⟨p1, p2⟩ := prod_rng hp
  have hl := hb.2.2
  have hcount := hb.1.2.1
  have ha := ofBits_le a.fAppend a.fTxn a.fControl
  have hs2 : -2147483648 ≤ s32 (s : Int) ∧ s32 (s : Int) ≤ 2147483647 := by unfold s32; split <;> omega
  refine ⟨⟨fits8 w1, fits4 ⟨?_, ?_⟩, fits4 ⟨?_, ?_⟩, rfl, fits4 hs2, fits2 ⟨?_, ?_⟩, fits4 ⟨?_, ?_⟩, fits8 w7, fits8 w8, fits8 w9, fits2 p1, fits4 p2, fits4 ⟨?_, ?_⟩, trivial⟩, ⟨?_, ?_⟩, ?_, ?_⟩
  all_goals (try unfold pB) <;> (try dsimp only) <;> omega
theorem sumB_lt (a : Bat) : sumB a < 4294967296 := crcM_lt (by decide) _
theorem okB_of {a : Bat} (hb : smB a) (h0 : chk a = 0) : okB a := by
  obtain ⟨hn, hp, hc, hr⟩ := chk_facts hb.1 h0
  refine ⟨okP_pB hb h0 _ (sumB_lt a), attr_ok _ _ _ (fun h => (hc h).1), fun x hx => ?_, h0⟩
  exact okRec_of (hb.1.1.2.2.2.2.2.2.2.2.2.2.2.2 x hx).1 (hr x hx) (hb.2.1 x hx)
theorem encBt_len {a : Bat} (h : okB a) : (encBt a).length = 61 + (body a).length := by
  unfold encBt
  rw [List.length_append, encP_len h.1.1]
theorem benc_l1 : ∀ (l : List Rec) (t : List UInt8), (∀ x, x ∈ l → wI x.fTime ∧ wI x.fOffset ∧ rwt x ≤ 900000 ∧ rightR x = 0) → t.length + (encs encRec l).length ≤ 1000000 → f_batch_Encode_l1 l (t, 0) = some (t ++ encs encRec l, 0)
  | [], t, _, _ => by rw [encs, List.append_nil]; rfl
  | x :: l, t, h, hl => by
    obtain ⟨h1, h2, h3, h4⟩ := h x (.head _)
    rw [encs, List.length_append] at hl
    rw [f_batch_Encode_l1, rec_write x t h1 h2 h3 (by omega), if_pos h4, Option.bind_some, benc_l1 l _ (fun y hy => h y (.tail _ hy)) (by rw [List.length_append]; omega), encs, List.append_assoc]
theorem benc {a : Bat} (hb : smB a) : f_batch_Encode a = some (if chk a = 0 then (encBt a, 0) else ([], chk a)) := by
  unfold f_batch_Encode
  rw [(chk_eq hb.1).1, Option.bind_some]
  by_cases h0 : chk a = 0
  rotate_left
  · rw [if_neg h0, if_neg h0]
  obtain ⟨hn, hp, hc, hr⟩ := chk_facts hb.1 h0
  have hl := hb.2.2
  have hw : ∀ x, x ∈ a.fRecords → wI x.fTime ∧ wI x.fOffset ∧ rwt x ≤ 900000 ∧ rightR x = 0 := fun x hx => ⟨(hb.1.1.2.2.2.2.2.2.2.2.2.2.2.2 x hx).1, (hb.1.1.2.2.2.2.2.2.2.2.2.2.2.2 x hx).2.1, hb.2.1 x hx, hr x hx⟩
  have hlb : (encs encRec a.fRecords).length ≤ 900000 := hl
  rw [if_pos h0, if_pos h0, benc_l1 a.fRecords [] hw (by rw [List.length_nil]; omega), Option.bind_some, List.nil_append, gOText_eq, Option.bind_some]
  dsimp only
  rw [otx_z]
  dsimp only
  rw [if_pos (show -9223372036854775808 ≤ (49 + ((encs encRec a.fRecords).length : Int)) ∧ (49 + ((encs encRec a.fRecords).length : Int)) ≤ 9223372036854775807 by omega), gAOf_eq, Option.bind_some]
  have hP0 : okP (pB a 0) := okP_pB hb h0 0 (by decide)
  have e0 : f_prefix_Write ([], 0) (pB a 0) = some (encP (pB a 0), 0) := by
    have := write_ok [] (p := pB a 0) ⟨hP0.1, hP0.2.1⟩ (by decide)
    rwa [List.nil_append] at this
  have e0' : f_prefix_Write ([], 0) (⟨a.fBase, (49 + ((encs encRec a.fRecords).length : Int)), a.fLeader, 0, ofBits a.fAppend a.fTxn a.fControl, a.fLast, a.fFirst, a.fMax, a.fProducer, a.fEpoch, a.fSequence, (a.fRecords.length : Int)⟩ : Pfx) = some (encP (pB a 0), 0) := e0
  rw [e0', Option.bind_some, gOText_eq, Option.bind_some]
  dsimp only
  rw [otx_z]
  dsimp only
  rw [if_pos rfl, if_pos rfl, Option.bind_some, if_neg (by decide), crc_new, Option.bind_some]
  have hp61 := encP_len hP0.1
  have hp21 : (post21 (pB a 0)).length ≤ 61 := by rw [← encP_drop, List.length_drop]; omega
  have hs2 : [post21 (pB a 0), encs encRec a.fRecords].flatten = post21 (pB a 0) ++ encs encRec a.fRecords := by simp
  rw [if_pos (show 21 ≤ (encP (pB a 0)).length by omega), encP_drop, crc_sum [post21 (pB a 0), encs encRec a.fRecords] (by intro t ht; rcases List.mem_cons.1 ht with rfl | ht; omega; rw [List.mem_singleton.1 ht]; omega), Option.bind_some, hs2]
  dsimp only
  have hlt := sumB_lt a
  have hsum : crcM 0 (post21 (pB a 0) ++ encs encRec a.fRecords) = sumB a := rfl
  rw [hsum, if_pos (show -9223372036854775808 ≤ ((sumB a : Nat) : Int) ∧ ((sumB a : Nat) : Int) ≤ 9223372036854775807 by omega)]
  have hP := okP_pB hb h0 _ hlt
  have e1 : f_prefix_Write ([], 0) (⟨a.fBase, (49 + ((encs encRec a.fRecords).length : Int)), a.fLeader, ((sumB a : Nat) : Int), ofBits a.fAppend a.fTxn a.fControl, a.fLast, a.fFirst, a.fMax, a.fProducer, a.fEpoch, a.fSequence, (a.fRecords.length : Int)⟩ : Pfx) = some (encP (pB a (sumB a)), 0) := by
    have := write_ok [] (p := pB a (sumB a)) ⟨hP.1, hP.2.1⟩ (by decide)
    rwa [List.nil_append] at this
  have hp61' := encP_len hP.1
  rw [e1, Option.bind_some, gOPut_eq _ _ (by dsimp only; omega), oput_z, Option.bind_some, gOText_eq, Option.bind_some]
  dsimp only
  rw [otx_z]
  rfl
theorem r11a_eq (a : Bat) : f_r11_attributes a = some (ofBits a.fAppend a.fTxn a.fControl) := by
  unfold f_r11_attributes
  generalize a.fAppend = x
  generalize a.fTxn = y
  generalize a.fControl = z
  cases x <;> cases y <;> cases z <;> decide
theorem r11e_l1 (a : Bat) (hb : a.fRecords.length ≤ 1000000) : ∀ (l : List Rec) (t : List UInt8) (k fuel : Nat), a.fRecords.drop k = l → l.length < fuel → (∀ x, x ∈ l → wI x.fTime ∧ wI x.fOffset ∧ rwt x ≤ 900000) → t.length + (encs encRec l).length ≤ 1000000 → ∃ z, f_r11_Encode_l1 a fuel t k = some (t ++ encs encRec l, z)
  | [], t, k, fuel + 1, h, hf, _, _ => by
    have := b_nil_drop h
    exact ⟨k, by rw [f_r11_Encode_l1, if_neg (by omega), encs, List.append_nil]⟩
  | x :: l, t, k, fuel + 1, h, hf, hw, hl => by
    obtain ⟨g1, g2, g3⟩ := b_at_drop h
    obtain ⟨h1, h2, h3⟩ := hw x (.head _)
    rw [encs, List.length_append] at hl
    rw [List.length_cons] at hf
    obtain ⟨z, hz⟩ := r11e_l1 a hb l (t ++ encRec x) (k + 1) fuel g2 (by omega) (fun y hy => hw y (.tail _ hy)) (by rw [List.length_append]; omega)
    exact ⟨z, by rw [f_r11_Encode_l1, if_pos (by omega), g1, Option.bind_some, r07_write x h1 h2 h3, Option.bind_some, if_pos (by omega), if_pos (by omega), hz, encs, List.append_assoc]⟩
theorem r11enc {a : Bat} (hb : smB a) (h0 : chk a = 0) : f_r11_Encode a = some (encBt a) := by
  obtain ⟨hn, hp, hc, hr⟩ := chk_facts hb.1 h0
  have hl := hb.2.2
  have hlb : (encs encRec a.fRecords).length ≤ 900000 := hl
  have hw : ∀ x, x ∈ a.fRecords → wI x.fTime ∧ wI x.fOffset ∧ rwt x ≤ 900000 := fun x hx => ⟨(hb.1.1.2.2.2.2.2.2.2.2.2.2.2.2 x hx).1, (hb.1.1.2.2.2.2.2.2.2.2.2.2.2.2 x hx).2.1, hb.2.1 x hx⟩
  obtain ⟨z, hz⟩ := r11e_l1 a hb.1.2.1 a.fRecords [] 0 (((a.fRecords.length : Int)).toNat + 1) rfl (by omega) hw (by rw [List.length_nil]; omega)
  rw [List.nil_append] at hz
  have hN : -9223372036854775808 ≤ (49 + ((encs encRec a.fRecords).length : Int)) ∧ (49 + ((encs encRec a.fRecords).length : Int)) ≤ 9223372036854775807 := by omega
  have wP_of : ∀ s : Nat, s < 4294967296 → wP (pB a s) := fun s hs => by
    obtain ⟨w1, w2, _, _, _, w6, w7, w8, w9, w10, w11, w12⟩ := hb.1.1
    have ha := ofBits_le a.fAppend a.fTxn a.fControl
    have hcount := hb.1.2.1
    refine ⟨w1, ⟨?_, ?_⟩, w2, ⟨?_, ?_⟩, ⟨?_, ?_⟩, w6, w7, w8, w9, w10, w11, ⟨?_, ?_⟩⟩
    all_goals (try unfold pB) <;> (try dsimp only) <;> (try unfold body) <;> omega
  have hP0 : okP (pB a 0) := okP_pB hb h0 0 (by decide)
  have hlt := sumB_lt a
  have hP := okP_pB hb h0 _ hlt
  have b0 := r10_bytes (pB a 0) (wP_of 0 (by decide))
  rw [if_pos ⟨hP0.1, hP0.2.1⟩] at b0
  have b1 := r10_bytes (pB a (sumB a)) (wP_of _ hlt)
  rw [if_pos ⟨hP.1, hP.2.1⟩] at b1
  have b0' : f_r10_Bytes [a.fBase, (49 + ((encs encRec a.fRecords).length : Int)), a.fLeader, 0, ofBits a.fAppend a.fTxn a.fControl, a.fLast, a.fFirst, a.fMax, a.fProducer, a.fEpoch, a.fSequence, (a.fRecords.length : Int)] = some (encP (pB a 0), true) := b0
  have b1' : f_r10_Bytes [a.fBase, (49 + ((encs encRec a.fRecords).length : Int)), a.fLeader, ((sumB a : Nat) : Int), ofBits a.fAppend a.fTxn a.fControl, a.fLast, a.fFirst, a.fMax, a.fProducer, a.fEpoch, a.fSequence, (a.fRecords.length : Int)] = some (encP (pB a (sumB a)), true) := b1
  have hp61 := encP_len hP0.1
  have hp61' := encP_len hP.1
  have hp21 : (post21 (pB a 0)).length ≤ 61 := by rw [← encP_drop, List.length_drop]; omega
  have hsum : crcM 0 (post21 (pB a 0) ++ encs encRec a.fRecords) = sumB a := rfl
  unfold f_r11_Encode
  rw [hz, Option.bind_some]
  dsimp only
  rw [if_pos hN, r11a_eq, Option.bind_some, b0', Option.bind_some]
  dsimp only
  rw [if_pos (show 21 ≤ (encP (pB a 0)).length by omega), encP_drop, if_pos (by omega), r05_sum _ (by rw [List.length_append]; omega), Option.bind_some, hsum, if_pos (show -9223372036854775808 ≤ ((sumB a : Nat) : Int) ∧ ((sumB a : Nat) : Int) ≤ 9223372036854775807 by omega), if_pos hN, Option.bind_some, b1', Option.bind_some]
  dsimp only
  rw [if_pos (by omega)]
  rfl
end Go.Proofs.Ytahjmpipllajcaa.Sl
namespace Go.Proofs.Ytahjmpipllajcaa.Sl
open Go.RowKit
set_option linter.unusedVariables false
set_option linter.unusedSimpArgs false
theorem bind_eq {α β : Type} {o : Option α} {v : α} {f : α → Option β} {r : Option β} (h : o = some v) (k : f v = r) : o.bind f = r := by rw [h]; exact k
end Go.Proofs.Ytahjmpipllajcaa.Sl
namespace Go.Proofs.Ytahjmpipllajcaa.Sl
open Go.RowKit
set_option linter.unusedVariables false
set_option linter.unusedSimpArgs false
theorem small_l2 (y : Int) : ∀ l : List Hd, (∀ h, h ∈ l → wf_Hd h) → (f_l11_Small_l2 l y = some (.ret 0)) ∨ (f_l11_Small_l2 l y = some (.go y) ∧ ∀ h, h ∈ l → h.fKey.length + h.fValue.data.length ≤ 100)
  | [], h => .inr ⟨rfl, fun x h => nomatch h⟩
  | x :: l, h => by
    have hx := h x (.head _)
    have h1 : x.fKey.length ≤ 140737488351232 := hx.1
    have h2 : x.fValue.data.length ≤ 140737488351232 := hx.2.2
    rw [f_l11_Small_l2, if_pos (by omega)]
    by_cases hc : (x.fKey.length : Int) + (x.fValue.data.length : Int) > 100
    · rw [if_pos hc]
      exact .inl rfl
    · rw [if_neg hc]
      rcases small_l2 y l (fun z hz => h z (.tail _ hz)) with g | ⟨g, g2⟩
      · exact .inl g
      · refine .inr ⟨g, fun z hz => ?_⟩
        rcases List.mem_cons.1 hz with rfl | hz
        · omega
        · exact g2 z hz
theorem small_l1 (y : Int) : ∀ l : List Rec, (∀ r, r ∈ l → wf_Rec r) → (f_l11_Small_l1 l y = some (.ret 0)) ∨ (f_l11_Small_l1 l y = some (.go y) ∧ ∀ r, r ∈ l → r.fKey.data.length + r.fValue.data.length ≤ 100 ∧ r.fHeaders.length ≤ 6 ∧ ∀ h, h ∈ r.fHeaders → h.fKey.length + h.fValue.data.length ≤ 100)
  | [], h => .inr ⟨rfl, fun x h => nomatch h⟩
  | x :: l, h => by
    obtain ⟨h1, h2, h3, h4, h5⟩ := h x (.head _)
    have h6 : x.fKey.data.length ≤ 140737488351232 := h3.2
    have h7 : x.fValue.data.length ≤ 140737488351232 := h4.2
    rw [f_l11_Small_l1, if_pos (by omega)]
    by_cases hc : (x.fKey.data.length : Int) + (x.fValue.data.length : Int) > 100
    · rw [if_pos hc]
      exact .inl rfl
    rw [if_neg hc]
    by_cases hd : (x.fHeaders.length : Int) > 6
    · rw [if_pos hd]
      exact .inl rfl
    rw [if_neg hd]
    rcases small_l2 y x.fHeaders h5.2 with g | ⟨g, g2⟩
    · rw [g]
      exact .inl rfl
    · rw [g, Option.bind_some]
      simp only
      rcases small_l1 y l (fun z hz => h z (.tail _ hz)) with k | ⟨k, k2⟩
      · exact .inl k
      · refine .inr ⟨k, fun z hz => ?_⟩
        rcases List.mem_cons.1 hz with rfl | hz
        · exact ⟨by omega, by omega, g2⟩
        · exact k2 z hz
theorem small11 (a : Bat) (hw : wf_Bat a) : f_l11_Small a = some 0 ∨ (f_l11_Small a = some 1 ∧ a.fRecords.length ≤ 12 ∧ ∀ r, r ∈ a.fRecords → r.fKey.data.length + r.fValue.data.length ≤ 100 ∧ r.fHeaders.length ≤ 6 ∧ ∀ h, h ∈ r.fHeaders → h.fKey.length + h.fValue.data.length ≤ 100) := by
  unfold f_l11_Small
  by_cases hc : (a.fRecords.length : Int) > 12
  · rw [if_pos hc]
    exact .inl rfl
  rw [if_neg hc]
  rcases small_l1 0 a.fRecords hw.2.2.2.2.2.2.2.2.2.2.2.2 with g | ⟨g, g2⟩
  · rw [g]
    exact .inl rfl
  · rw [g]
    exact .inr ⟨rfl, by omega, g2⟩
end Go.Proofs.Ytahjmpipllajcaa.Sl
namespace Go.Proofs.Ytahjmpipllajcaa.Sl
open Go.RowKit
set_option linter.unusedVariables false
set_option linter.unusedSimpArgs false
theorem bnB_small {a : Bat} (hw : wf_Bat a) (h1 : a.fRecords.length ≤ 12) (h2 : ∀ r, r ∈ a.fRecords → r.fKey.data.length + r.fValue.data.length ≤ 100 ∧ r.fHeaders.length ≤ 6 ∧ ∀ h, h ∈ r.fHeaders → h.fKey.length + h.fValue.data.length ≤ 100) : bnB a :=
  ⟨hw, by omega, fun r hr => by have := h2 r hr; exact ⟨by omega, by omega, by omega⟩⟩
theorem hwts_le : ∀ (l : List Hd), (∀ h, h ∈ l → h.fKey.length + h.fValue.data.length ≤ 100) → hwts l ≤ 120 * l.length
  | [], _ => Nat.zero_le _
  | x :: l, h => by
    have h1 := h x (.head _)
    have h2 := hwts_le l (fun y hy => h y (.tail _ hy))
    rw [hwts, hwt, List.length_cons]
    omega
theorem encs_le {α : Type} (enc : α → List UInt8) (n : Nat) : ∀ (l : List α), (∀ x, x ∈ l → (enc x).length ≤ n) → (encs enc l).length ≤ n * l.length
  | [], _ => Nat.zero_le _
  | x :: l, h => by
    have h1 := h x (.head _)
    have h2 := encs_le enc n l (fun y hy => h y (.tail _ hy))
    rw [encs, List.length_append, List.length_cons, Nat.mul_succ]
    omega
theorem smB_small {a : Bat} (hw : wf_Bat a) (h1 : a.fRecords.length ≤ 12) (h2 : ∀ r, r ∈ a.fRecords → r.fKey.data.length + r.fValue.data.length ≤ 100 ∧ r.fHeaders.length ≤ 6 ∧ ∀ h, h ∈ r.fHeaders → h.fKey.length + h.fValue.data.length ≤ 100) : smB a ∧ (body a).length ≤ 12000 := by
  have hr : ∀ r, r ∈ a.fRecords → rwt r ≤ 900 := fun r hr => by
    obtain ⟨k1, k2, k3⟩ := h2 r hr
    have := hwts_le r.fHeaders k3
    unfold rwt
    omega
  have hl : (body a).length ≤ 12000 := by
    have h3 := encs_le encRec 1000 a.fRecords (fun x hx => by
      have h4 := hw.2.2.2.2.2.2.2.2.2.2.2.2 x hx
      have h5 := hr x hx
      have := encRec_len x h4.1 h4.2.1 (by omega)
      omega)
    unfold body
    omega
  exact ⟨⟨bnB_small hw h1 h2, fun r hr2 => by have := hr r hr2; omega, by omega⟩, hl⟩
end Go.Proofs.Ytahjmpipllajcaa.Sl
namespace Go.Proofs.Ytahjmpipllajcaa.Sl
open Go.RowKit
set_option linter.unusedVariables false
set_option linter.unusedSimpArgs false
def ptOf (b : Bat) : Int × Int := if chk b = 0 then (((encBt b).length : Int), (b.fRecords.length : Int)) else (0, 0)
def ptsOf : List Bat → Int × Int
  | [] => (0, 0)
  | b :: l => ((ptOf b).1 + (ptsOf l).1, (ptOf b).2 + (ptsOf l).2)
theorem point_eq {b : Bat} (h : smB b) : f_tally_Point b = some (fw (ptOf b).1, fw (ptOf b).2) := by
  unfold f_tally_Point ptOf
  rw [benc h, Option.bind_some]
  by_cases c : chk b = 0
  · rw [if_pos c, if_pos c]
    dsimp only
    rw [if_pos rfl]
    rfl
  · rw [if_neg c, if_neg c]
    dsimp only
    rw [if_neg c, fw_zero]
theorem pt_bd {b : Bat} (h : smB b) : (0 ≤ (ptOf b).1 ∧ (ptOf b).1 ≤ 1000000) ∧ (0 ≤ (ptOf b).2 ∧ (ptOf b).2 ≤ 1000000) := by
  unfold ptOf
  by_cases c : chk b = 0
  · have h1 := encBt_len (okB_of h c)
    have h2 := h.2.2
    have h3 := h.1.2.1
    rw [if_pos c]
    dsimp only
    omega
  · rw [if_neg c]
    decide
theorem pts_bd : ∀ (l : List Bat), (∀ b, b ∈ l → smB b) → (0 ≤ (ptsOf l).1 ∧ (ptsOf l).1 ≤ 1000000 * (l.length : Int)) ∧ (0 ≤ (ptsOf l).2 ∧ (ptsOf l).2 ≤ 1000000 * (l.length : Int))
  | [], _ => by decide
  | b :: l, h => by
    have h1 := pt_bd (h b (.head _))
    have h2 := pts_bd l (fun x hx => h x (.tail _ hx))
    rw [ptsOf, List.length_cons]
    dsimp only
    omega
theorem total_l1 : ∀ (l : List Bat) (z : Nat × Nat) (p : Int × Int), (∀ b, b ∈ l → smB b) → isC z p → (0 ≤ p.1 ∧ p.1 + 1000000 * (l.length : Int) ≤ 1000000000) → (0 ≤ p.2 ∧ p.2 + 1000000 * (l.length : Int) ≤ 1000000000) → ∃ w, f_tally_Total_l1 l z = some w ∧ isC w (p.1 + (ptsOf l).1, p.2 + (ptsOf l).2)
  | [], z, p, _, h, _, _ => ⟨z, rfl, by rw [ptsOf]; simpa using h⟩
  | b :: l, z, p, hs, h, h1, h2 => by
    have hb := pt_bd (hs b (.head _))
    rw [List.length_cons] at h1 h2
    obtain ⟨v, v1, v2⟩ := cadd_isC h (isC_fw (ptOf b).1 (ptOf b).2) (sm_of (by omega) (by omega)) (sm_of (by dsimp only; omega) (by dsimp only; omega)) (sm_of (by dsimp only; omega) (by dsimp only; omega))
    obtain ⟨w, w1, w2⟩ := total_l1 l v _ (fun x hx => hs x (.tail _ hx)) v2 (by dsimp only; omega) (by dsimp only; omega)
    refine ⟨w, ?_, ?_⟩
    · rw [f_tally_Total_l1, point_eq (hs b (.head _)), Option.bind_some, v1, Option.bind_some, w1]
    · rw [ptsOf]
      dsimp only at w2 ⊢
      rw [← Int.add_assoc, ← Int.add_assoc]
      exact w2
theorem total_eq {l : List Bat} (hs : ∀ b, b ∈ l → smB b) (hn : l.length ≤ 900) : ∃ w, f_tally_Total l = some w ∧ isC w (ptsOf l) := by
  obtain ⟨w, w1, w2⟩ := total_l1 l (0, 0) (0, 0) hs isC_zero (by dsimp only; omega) (by dsimp only; omega)
  refine ⟨w, ?_, ?_⟩
  · unfold f_tally_Total
    rw [w1, Option.bind_some]
  · dsimp only at w2
    rw [Int.zero_add, Int.zero_add] at w2
    exact w2
theorem tp_l1 (y : Bool) : ∀ (l : List Bat) (X Y : Int), (∀ b, b ∈ l → wf_Bat b) → (0 ≤ X ∧ X + 1000000 * (l.length : Int) ≤ 1000000000) → (0 ≤ Y ∧ Y + 1000000 * (l.length : Int) ≤ 1000000000) →
    f_l24_TallyPoints_l1 l y X Y = some (.ret true) ∨ (f_l24_TallyPoints_l1 l y X Y = some (.go (y, X + (ptsOf l).1, Y + (ptsOf l).2)) ∧ ∀ b, b ∈ l → smB b)
  | [], X, Y, _, _, _ => .inr ⟨by rw [ptsOf]; dsimp only; rw [Int.add_zero, Int.add_zero]; rfl, fun x h => nomatch h⟩
  | x :: l, X, Y, h, h1, h2 => by
    rw [List.length_cons] at h1 h2
    rw [f_l24_TallyPoints_l1]
    rcases small11 x (h x (.head _)) with g | ⟨g, g1, g2⟩
    · rw [g]
      exact .inl rfl
    obtain ⟨hb, hl⟩ := smB_small (h x (.head _)) g1 g2
    have hp := pt_bd hb
    rw [g, Option.bind_some, if_neg (by decide), (chk_eq hb.1).2, Option.bind_some]
    have e : (if chk x = 0 then ((f_r11_Encode x).bind fun x35 => some ((x35.length : Int), (x.fRecords.length : Int))) else ((some (0, 0) : Option (Int × Int)))) = some (ptOf x) := by
      unfold ptOf
      by_cases c : chk x = 0
      · rw [if_pos c, if_pos c, r11enc hb c, Option.bind_some]
      · rw [if_neg c, if_neg c]
    have hs : sm (ptOf x) := sm_of (by omega) (by omega)
    have hW := isC_fw (ptOf x).1 (ptOf x).2
    have k := fEq_C hW hW hs hs
    rw [decide_eq_true rfl] at k
    refine (show ∀ A B : Option (Lp Bool (Bool × Int × Int)), A = B → (B = some (.ret true) ∨ (B = some (.go (y, X + (ptsOf (x :: l)).1, Y + (ptsOf (x :: l)).2)) ∧ ∀ b, b ∈ x :: l → smB b)) → (A = some (.ret true) ∨ (A = some (.go (y, X + (ptsOf (x :: l)).1, Y + (ptsOf (x :: l)).2)) ∧ ∀ b, b ∈ x :: l → smB b)) from fun A B e h => e ▸ h) _ (f_l24_TallyPoints_l1 l y (X + (ptOf x).1) (Y + (ptOf x).2)) ?_ ?_
    · refine bind_eq e ?_
      dsimp only
      rw [point_eq hb, Option.bind_some, whole_eq, Option.bind_some, if_pos k, if_pos (by omega), if_pos (by omega)]
    · rcases tp_l1 y l (X + (ptOf x).1) (Y + (ptOf x).2) (fun z hz => h z (.tail _ hz)) (by omega) (by omega) with q | ⟨q, q2⟩
      · exact .inl q
      · refine .inr ⟨?_, fun z hz => ?_⟩
        · rw [q, ptsOf]
          dsimp only
          rw [Int.add_assoc, Int.add_assoc]
        · rcases List.mem_cons.1 hz with rfl | hz
          · exact hb
          · exact q2 z hz
theorem pure_TallyPoints (a0 : List Bat) (w0 : wL wf_Bat a0) : f_l24_TallyPoints a0 = some true := by
  unfold f_l24_TallyPoints
  rw [speaks24, Option.bind_some, if_pos rfl]
  by_cases h8 : (a0.length : Int) > 8
  · rw [if_pos h8]
  rw [if_neg h8]
  rcases tp_l1 false a0 0 0 w0.2 (by omega) (by omega) with g | ⟨g, g2⟩
  · rw [g]
    rfl
  obtain ⟨w, w1, w2⟩ := total_eq g2 (by omega)
  have hb := pts_bd a0 g2
  rw [Int.zero_add, Int.zero_add] at g
  have hs : sm (ptsOf a0) := sm_of (by omega) (by omega)
  have k := fEq_C w2 (isC_fw (ptsOf a0).1 (ptsOf a0).2) hs hs
  rw [decide_eq_true rfl] at k
  rw [g, Option.bind_some]
  dsimp only
  rw [w1, Option.bind_some, whole_eq, Option.bind_some, k]
end Go.Proofs.Ytahjmpipllajcaa.Sl
namespace Go.Proofs.Ytahjmpipllajcaa.Sl
open Go.RowKit Go.Deep Go.ChangeShapes
set_option linter.unusedVariables false
theorem op_Bl {H : Type} {enc : TypeId × Value → H} : OpensW enc Try.prog 80 (andRd Bl_rd wf_Bl) :=
  opensW_weak (fun x => ⟨x.1, x.2.1⟩) (opensW_struct Try.underlying80 (by kernel_rfl) (opensWFs_cons 1 (by kernel_rfl) (by kernel_rfl) (op_bool Try.underlying4) (opensWFs_cons 1 (by kernel_rfl) (by kernel_rfl) (op_str Try.underlying9) (opensWFs_nil _)))) (by
    rintro w S cs ⟨x0, x1, _⟩ ⟨_, _, rfl, ⟨p0, q0⟩, _, _, rfl, ⟨p1, q1⟩, rfl⟩
    obtain rfl := p0
    obtain rfl := p1
    exact ⟨rfl, q0, q1⟩)
theorem op_Hd {H : Type} {enc : TypeId × Value → H} : OpensW enc Try.prog 85 (andRd Hd_rd wf_Hd) :=
  opensW_weak (fun x => ⟨x.1, x.2.1⟩) (opensW_struct Try.underlying85 (by kernel_rfl) (opensWFs_cons 1 (by kernel_rfl) (by kernel_rfl) (op_str Try.underlying9) (opensWFs_cons 2 (by kernel_rfl) (by kernel_rfl) op_Bl (opensWFs_nil _)))) (by
    rintro w S cs ⟨x0, x1, _⟩ ⟨_, _, rfl, ⟨p0, q0⟩, _, _, rfl, ⟨p1, q1⟩, rfl⟩
    obtain rfl := p0
    obtain rfl := p1
    exact ⟨rfl, q0, q1⟩)
theorem op_Rec {H : Type} {enc : TypeId × Value → H} : OpensW enc Try.prog 83 (andRd Rec_rd wf_Rec) :=
  opensW_weak (fun x => ⟨x.1, x.2.1, x.2.2.1, x.2.2.2.1, x.2.2.2.2.1⟩) (opensW_struct Try.underlying83 (by kernel_rfl) (opensWFs_cons 1 (by kernel_rfl) (by kernel_rfl) (op_i64 Try.underlying3) (opensWFs_cons 1 (by kernel_rfl) (by kernel_rfl) (op_i64 Try.underlying3) (opensWFs_cons 2 (by kernel_rfl) (by kernel_rfl) op_Bl (opensWFs_cons 2 (by kernel_rfl) (by kernel_rfl) op_Bl (opensWFs_cons 1 (by kernel_rfl) (by kernel_rfl) (op_slice 3 40 Try.underlying81 (by kernel_rfl) (by kernel_rfl) (by decide) (by decide) op_Hd) (opensWFs_nil _))))))) (by
    rintro w S cs ⟨x0, x1, x2, x3, x4, _⟩ ⟨_, _, rfl, ⟨p0, q0⟩, _, _, rfl, ⟨p1, q1⟩, _, _, rfl, ⟨p2, q2⟩, _, _, rfl, ⟨p3, q3⟩, _, _, rfl, ⟨p4, q4⟩, rfl⟩
    obtain rfl := p0
    obtain rfl := p1
    obtain rfl := p2
    obtain rfl := p3
    obtain ⟨A4, c4, rfl⟩ := slice_cells p4
    exact ⟨⟨A4, c4, rfl, p4⟩, q0, q1, q2, q3, q4⟩)
theorem op_Bat {H : Type} {enc : TypeId × Value → H} : OpensW enc Try.prog 36 (andRd Bat_rd wf_Bat) :=
  opensW_weak (fun x => ⟨x.1, x.2.1, x.2.2.1, x.2.2.2.1, x.2.2.2.2.1, x.2.2.2.2.2.1, x.2.2.2.2.2.2.1, x.2.2.2.2.2.2.2.1, x.2.2.2.2.2.2.2.2.1, x.2.2.2.2.2.2.2.2.2.1, x.2.2.2.2.2.2.2.2.2.2.1, x.2.2.2.2.2.2.2.2.2.2.2.1⟩) (opensW_struct Try.underlying36 (by kernel_rfl) (opensWFs_cons 1 (by kernel_rfl) (by kernel_rfl) (op_i64 Try.underlying3) (opensWFs_cons 1 (by kernel_rfl) (by kernel_rfl) (op_i64 Try.underlying3) (opensWFs_cons 1 (by kernel_rfl) (by kernel_rfl) (op_bool Try.underlying4) (opensWFs_cons 1 (by kernel_rfl) (by kernel_rfl) (op_bool Try.underlying4) (opensWFs_cons 1 (by kernel_rfl) (by kernel_rfl) (op_bool Try.underlying4) (opensWFs_cons 1 (by kernel_rfl) (by kernel_rfl) (op_i64 Try.underlying3) (opensWFs_cons 1 (by kernel_rfl) (by kernel_rfl) (op_i64 Try.underlying3) (opensWFs_cons 1 (by kernel_rfl) (by kernel_rfl) (op_i64 Try.underlying3) (opensWFs_cons 1 (by kernel_rfl) (by kernel_rfl) (op_i64 Try.underlying3) (opensWFs_cons 1 (by kernel_rfl) (by kernel_rfl) (op_i64 Try.underlying3) (opensWFs_cons 1 (by kernel_rfl) (by kernel_rfl) (op_i64 Try.underlying3) (opensWFs_cons 1 (by kernel_rfl) (by kernel_rfl) (op_slice 7 88 Try.underlying34 (by kernel_rfl) (by kernel_rfl) (by decide) (by decide) op_Rec) (opensWFs_nil _)))))))))))))) (by
    rintro w S cs ⟨x0, x1, x2, x3, x4, x5, x6, x7, x8, x9, x10, x11, _⟩ ⟨_, _, rfl, ⟨p0, q0⟩, _, _, rfl, ⟨p1, q1⟩, _, _, rfl, ⟨p2, q2⟩, _, _, rfl, ⟨p3, q3⟩, _, _, rfl, ⟨p4, q4⟩, _, _, rfl, ⟨p5, q5⟩, _, _, rfl, ⟨p6, q6⟩, _, _, rfl, ⟨p7, q7⟩, _, _, rfl, ⟨p8, q8⟩, _, _, rfl, ⟨p9, q9⟩, _, _, rfl, ⟨p10, q10⟩, _, _, rfl, ⟨p11, q11⟩, rfl⟩
    obtain rfl := p0
    obtain rfl := p1
    obtain rfl := p2
    obtain rfl := p3
    obtain rfl := p4
    obtain rfl := p5
    obtain rfl := p6
    obtain rfl := p7
    obtain rfl := p8
    obtain rfl := p9
    obtain rfl := p10
    obtain ⟨A11, c11, rfl⟩ := slice_cells p11
    exact ⟨⟨A11, c11, rfl, p11⟩, q0, q1, q2, q3, q4, q5, q6, q7, q8, q9, q10, q11⟩)
end Go.Proofs.Ytahjmpipllajcaa.Sl
namespace Go.Proofs.Ytahjmpipllajcaa.tallyPoints
open Go.ChangeShapes Go.WideShapes Go.ChangeAt Go.RowKit
open Go.ChangeMaps (open_string shut_string)
set_option linter.unusedVariables false
theorem own : ownKnob Try.prog.godebug = none := by kernel_rfl
theorem laidOut : laidOutB Try.prog = true := by kernel_rfl
set_option maxRecDepth 100000 in
set_option maxHeartbeats 1000000 in
theorem lifted (os : Os) (started : os.Started) (H : Type) (enc : TypeId × Value → H) :
    ReturnsInHanded {} Try.checked os 6 .any (Rows.tallyPointsSpec.pre6 enc Try.prog Try.f6 Rows.tallyPointsRow.domain false) (Rows.tallyPointsSpec.post enc Try.prog Try.f6 false true false false) := by
  refine returnsInHanded_of_change_sized (C := Try.checked) own started (by kernel_rfl) Try.func6
    (ChangeSpec.witness6 (enc := enc) (C := Try.checked) false ⟨#[], #[.slice none 0 0], []⟩ 8 (by kernel_rfl) (by kernel_rfl) (by kernel_rfl) (by kernel_rfl)) ?_
  intro W base args ds gs before hval0 hW hcnd hsz0 _
  have hsz : (DataW.weightsEach Try.prog (Try.f6.params.toList ++ Rows.tallyPointsSpec.plain.varTypes Try.prog) (ds ++ gs)).all (· ≤ reachBytes) = true := hsz0
  have hval : ∀ (j : Nat) t v, Try.f6.params[j]? = some t → args[j]? = some v → Value.okWide Try.prog W .any base t v := hval0
  have hW' := hW
  obtain ⟨p, q, hA0, hV, rfl, hfz, hnd⟩ := hW
  have hA : DataW.TrodAll enc Try.prog W 0 (fun _ => true) true Try.f6.params.toList args.toList ds p := hA0
  rw [Try.params6] at hA hval hsz
  obtain ⟨v0, vs0, d0, ds0, p0, q0, hargs, rfl, rfl, h0, r0⟩ := trodAll_cons hA
  obtain ⟨rfl, rfl, rfl⟩ := trodAll_nil r0
  obtain rfl : args = #[v0] := by cases args; simp_all
  obtain ⟨rfl, rfl⟩ := trodVars_none hV
  have k0 := h0
  have lt0 : ∀ x ∈ p0, x.block < W.heap.size := by obtain ⟨m, hm⟩ := k0; exact DataW.trod_lt m _ _ _ hm
  obtain ⟨a0, r_0, w0⟩ := Sl.opens_arg1 Try.underlying23 (hval 0 23 v0 rfl rfl) (Sl.op_slice 12 96 Try.underlying23 (by kernel_rfl) (by kernel_rfl) (by decide) (by decide) Sl.op_Bat) h0 (fun x hx => of_decide_eq_true (List.all_eq_true.1 hsz x (Sl.weights_in 0 rfl rfl hx)))
  obtain ⟨A0, c0, e0⟩ := Sl.slice_cells r_0
  injection e0 with e0
  subst e0
  clear hA0 hval0 hsz0 hsz
  refine (Sl.f_l24_TallyPoints_spec a0 A0 c0 true (Sl.pure_TallyPoints a0 w0) (fun _ => False) W (fun _ h => h) (Sl.RX.reads_all r_0)).mono fun e W' hP => ?_
  obtain ⟨v, A', Ns, rfl, ⟨rfl, rfl, rfl⟩, hst⟩ := hP
  have bel := Sl.St.below hst
  exact ⟨_, rfl, _, _, _, [], _, [], hW', trodAll_mk1 (shut_bool Try.underlying4 _), (trodAll_cons_mk (Below.trod laidOut (by kernel_rfl) (of_decide_eq_true (by kernel_rfl)) k0 bel lt0) trodAll_mk0), rfl, bel.frame _, fun h => by cases h⟩
theorem over : Rows.tallyPointsRow.holds Try.pinned (OpenSpec.ofChange Rows.tallyPointsSpec) :=
  OpenClaim.holds_of_wide 6 Try.f6 rfl rfl rfl rfl rfl rfl rfl ⟨rfl, rfl, rfl, rfl, rfl⟩ rfl rfl rfl rfl rfl (by kernel_rfl) Try.func6 (by kernel_rfl)
    (of_decide_eq_true (by kernel_rfl)) (by unfold Func.isWrapper; first | (rw [if_pos (by decide +kernel)]; kernel_rfl) | (rw [if_neg (by decide +kernel)]; exact ⟨rfl, rfl⟩))
    (fun os started H enc _ => lifted os started H enc)
theorem proved : Rows.TallyPointsSaid := over
end Go.Proofs.Ytahjmpipllajcaa.tallyPoints
namespace Go.Proofs.Ytahjmpipllajcaa
theorem tallyPoints_holds : Rows.TallyPointsSaid := tallyPoints.proved
end Go.Proofs.Ytahjmpipllajcaa
