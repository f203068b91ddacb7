/- batches: what can be (plain laws). -/
import Derived.Test.YtdlpmcbglmgpiaaWf
import Derived.Test.YtdlpmcbglmgpiaaPbatch
import Derived.Test.YtdlpmcbglmgpiaaPcursitorref11
import Derived.Test.YtdlpmcbglmgpiaaQ08v
namespace Go.Proofs.Ytdlpmcbglmgpiaa.Sl
open Go.RowKit
set_option linter.unusedVariables false
set_option linter.unusedSimpArgs false
theorem b_at_drop {α : Type} {l : List α} {k : Nat} {x : α} {t : List α} (h : l.drop k = x :: t) : l[k]? = some x ∧ l.drop (k + 1) = t ∧ l.length = k + 1 + t.length := by
  have hl := congrArg List.length h
  rw [List.length_drop, List.length_cons] at hl
  refine ⟨?_, ?_, by omega⟩
  · have := congrArg (fun z => z[0]?) h
    simpa using this
  · rw [← List.drop_drop, h]
    rfl
theorem b_nil_drop {α : Type} {l : List α} {k : Nat} (h : l.drop k = []) : l.length ≤ k := List.drop_eq_nil_iff.1 h
/-! One record. -/
def brAll (l : List Hd) : Bool := l.all fun h => bright h.fValue
def rightR (r : Rec) : Int := if r.fOffset < 0 ∨ r.fOffset > 2147483647 then 11 else if (bright r.fKey && bright r.fValue && brAll r.fHeaders) = true then 0 else 4
theorem rights_loop (y : Bool) : ∀ l : List Bl, f_record_rights_l1 l y = some (if l.all bright = true then .go y else .ret false)
  | [] => rfl
  | b :: l => by
    rw [f_record_rights_l1, gRight_eq, Option.bind_some, List.all_cons, rights_loop y l]
    cases bright b <;> rfl
theorem rights_eq (l : List Bl) : f_record_rights l = some (l.all bright) := by
  unfold f_record_rights
  rw [rights_loop]
  cases l.all bright <;> rfl
theorem rightH_loop (y : Int) : ∀ l : List Hd, f_record_Right_l1 l y = some (if brAll l = true then .go y else .ret 4)
  | [] => rfl
  | h :: l => by
    rw [f_record_Right_l1, rights_eq, Option.bind_some, rightH_loop y l]
    unfold brAll
    rw [List.all_cons, List.all_cons, List.all_nil, Bool.and_true]
    cases bright h.fValue <;> rfl
theorem record_right (r : Rec) (hw : wI r.fOffset) : f_record_Right r = some (rightR r) := by
  unfold f_record_Right rightR
  by_cases h : r.fOffset < 0
  · rw [if_pos h, if_pos (.inl h)]
  rw [if_neg h, gFits_eq _ _ hw, fits_4, Option.bind_some]
  by_cases h2 : r.fOffset > 2147483647
  · rw [if_neg (by simp; omega), if_pos (.inr h2)]
  rw [if_pos (by simp; omega), if_neg (by omega), rights_eq, Option.bind_some, rightH_loop]
  simp only [List.all_cons, List.all_nil, Bool.and_true]
  cases bright r.fKey <;> cases bright r.fValue <;> cases brAll r.fHeaders <;> rfl
theorem odd_eq (b : Bl) : f_r07_odd b = some (!bright b) := by
  unfold f_r07_odd bright
  obtain ⟨n, d⟩ := b
  cases n
  · rfl
  · cases d <;> simp
theorem r06_loop (a0 : List Hd) (hb : a0.length ≤ 1000000) (y : Bool) : ∀ (l : List Hd) (k fuel : Nat), a0.drop k = l → l.length < fuel → ∃ z, f_r06_Right_l1 a0 fuel y k = some (if brAll l = true then .go (y, z) else .ret false)
  | [], k, fuel + 1, h, hf => by
    have := b_nil_drop h
    exact ⟨k, by rw [f_r06_Right_l1, if_neg (by omega)]; rfl⟩
  | x :: l, k, fuel + 1, h, hf => by
    obtain ⟨h1, h2, h3⟩ := b_at_drop h
    rw [List.length_cons] at hf
    obtain ⟨z, hz⟩ := r06_loop a0 hb y l (k + 1) fuel h2 (by omega)
    rw [f_r06_Right_l1, if_pos (by omega), h1, Option.bind_some]
    have e : brAll (x :: l) = (bright x.fValue && brAll l) := rfl
    rw [e]
    by_cases hn : x.fValue.null = true
    · rw [if_pos hn]
      by_cases hd : x.fValue.data = []
      · rw [if_pos hd, if_pos (by omega), hz]
        have : bright x.fValue = true := by unfold bright; rw [hd]; simp
        rw [this, Bool.true_and]
        exact ⟨z, rfl⟩
      · rw [if_neg hd]
        have : bright x.fValue = false := by unfold bright; rw [hn]; simp [hd]
        rw [this]
        exact ⟨0, rfl⟩
    · rw [if_neg hn, if_pos (by omega), hz]
      have : bright x.fValue = true := by unfold bright; simp [hn]
      rw [this, Bool.true_and]
      exact ⟨z, rfl⟩
theorem r06_right (a0 : List Hd) (hb : a0.length ≤ 1000000) : f_r06_Right a0 = some (brAll a0) := by
  unfold f_r06_Right
  obtain ⟨z, hz⟩ := r06_loop a0 hb false a0 0 (((a0.length : Int)).toNat + 1) rfl (by omega)
  rw [hz]
  cases brAll a0 <;> rfl
theorem r07_right (r : Rec) (hb : r.fHeaders.length ≤ 1000000) : f_r07_Right r = some (rightR r) := by
  unfold f_r07_Right rightR
  by_cases h : r.fOffset < 0
  · rw [if_pos h, if_pos (.inl h)]
  rw [if_neg h]
  by_cases h2 : r.fOffset > 2147483647
  · rw [if_pos h2, if_pos (.inr h2)]
  rw [if_neg h2, if_neg (by omega), odd_eq, odd_eq, r06_right _ hb]
  cases bright r.fKey <;> cases bright r.fValue <;> cases brAll r.fHeaders <;> rfl
/-! All of them. -/
def firstR : List Rec → Int
  | [] => 0
  | r :: l => if rightR r = 0 then firstR l else rightR r
theorem bcheck_l1 (y : Int) : ∀ l : List Rec, (∀ r, r ∈ l → wI r.fOffset) → f_batch_Check_l1 l y = some (if firstR l = 0 then .go y else .ret (firstR l))
  | [], h => rfl
  | r :: l, h => by
    rw [f_batch_Check_l1, record_right _ (h r (.head _)), Option.bind_some, bcheck_l1 y l (fun x hx => h x (.tail _ hx)), firstR]
    by_cases hr : rightR r = 0
    · rw [if_pos hr, if_pos hr]
    · rw [if_neg hr, if_neg hr, if_neg hr]
theorem bcheck_l2 (y : Int) : ∀ l : List Rec, (∀ r, r ∈ l → wI r.fOffset) → f_batch_Check_l2 l y = some (if firstR l = 0 then .go y else .ret (firstR l))
  | [], h => rfl
  | r :: l, h => by
    rw [f_batch_Check_l2, record_right _ (h r (.head _)), Option.bind_some, bcheck_l2 y l (fun x hx => h x (.tail _ hx)), firstR]
    by_cases hr : rightR r = 0
    · rw [if_pos hr, if_pos hr]
    · rw [if_neg hr, if_neg hr, if_neg hr]
theorem rcheck_l1 (a : Bat) (hb : a.fRecords.length ≤ 1000000) (hh : ∀ r, r ∈ a.fRecords → r.fHeaders.length ≤ 1000000) (y : Int) : ∀ (l : List Rec) (k fuel : Nat), a.fRecords.drop k = l → l.length < fuel → ∃ z, f_r11_Check_l1 a fuel y k = some (if firstR l = 0 then .go (y, z) else .ret (firstR l))
  | [], k, fuel + 1, h, hf => by
    have := b_nil_drop h
    exact ⟨k, by rw [f_r11_Check_l1, if_neg (by omega)]; rfl⟩
  | r :: l, k, fuel + 1, h, hf => by
    obtain ⟨h1, h2, h3⟩ := b_at_drop h
    rw [List.length_cons] at hf
    obtain ⟨z, hz⟩ := rcheck_l1 a hb hh y l (k + 1) fuel h2 (by omega)
    rw [f_r11_Check_l1, if_pos (by omega), h1, Option.bind_some, r07_right _ (hh r (List.mem_of_getElem? h1)), Option.bind_some, firstR]
    by_cases hr : rightR r = 0
    · rw [if_pos hr, if_pos hr, if_pos (by omega)]
      exact ⟨z, hz⟩
    · rw [if_neg hr, if_neg hr]
      exact ⟨0, by rw [if_neg hr]⟩
theorem rcheck_l2 (a : Bat) : ∀ (fuel : Nat) (y : Int) (k : Nat), f_r11_Check_l2 a fuel y k = f_r11_Check_l1 a fuel y k
  | 0, y, k => rfl
  | fuel + 1, y, k => by
    rw [f_r11_Check_l2, f_r11_Check_l1]
    simp only [rcheck_l2 a fuel]
/-! Offsets and times. -/
def badT (F t : Int) : Prop := t > 9223372036854775807 - F ∨ t < -F
instance (F t : Int) : Decidable (badT F t) := by unfold badT; infer_instance
def ordR (F L : Int) : Int → Int → List Rec → Except Int Int
  | p, m, [] => .ok m
  | p, m, r :: l => if r.fOffset ≤ p ∨ r.fOffset > L then .error 13 else if badT F r.fTime then .error 11 else ordR F L r.fOffset (if m < F + r.fTime then F + r.fTime else m) l
theorem wrap_time {F t : Int} (h0 : 0 ≤ F) (h1 : F ≤ 9223372036854775807) (ht : wI t) : (badT F t → (IntKind.i64.wrap (F + t) < 0)) ∧ (¬ badT F t → IntKind.i64.wrap (F + t) = F + t ∧ 0 ≤ F + t) := by
  obtain ⟨t0, t1⟩ := ht
  unfold badT
  rw [IntKind.wrap_i64]
  constructor
  · intro h
    omega
  · intro h
    omega
theorem brec_l1 (a : Bat) (h0 : 0 ≤ a.fFirst) (h1 : a.fFirst ≤ 9223372036854775807) (y : Int) : ∀ (l : List Rec) (p m : Int), (∀ r, r ∈ l → wI r.fTime) → (∃ e, ordR a.fFirst a.fLast p m l = .error e ∧ f_batch_records_l1 a l y p m = some (.ret e)) ∨ (∃ p' m', ordR a.fFirst a.fLast p m l = .ok m' ∧ f_batch_records_l1 a l y p m = some (.go (y, p', m')))
  | [], p, m, h => .inr ⟨p, m, rfl, rfl⟩
  | r :: l, p, m, h => by
    have ih := fun p m => brec_l1 a h0 h1 y l p m (fun x hx => h x (.tail _ hx))
    obtain ⟨w1, w2⟩ := wrap_time h0 h1 (h r (.head _))
    rw [f_batch_records_l1, ordR]
    by_cases c1 : r.fOffset ≤ p
    · rw [if_pos c1, if_pos (.inl c1)]
      exact .inl ⟨_, rfl, rfl⟩
    rw [if_neg c1]
    by_cases c2 : r.fOffset > a.fLast
    · rw [if_pos c2, if_pos (.inr c2)]
      exact .inl ⟨_, rfl, rfl⟩
    rw [if_neg c2, if_neg (by omega)]
    by_cases c3 : badT a.fFirst r.fTime
    · rw [if_pos c3, if_pos (w1 c3)]
      exact .inl ⟨_, rfl, rfl⟩
    obtain ⟨w3, w4⟩ := w2 c3
    rw [if_neg c3, w3, if_neg (show ¬ a.fFirst + r.fTime < 0 by omega), if_neg (show ¬ a.fFirst + r.fTime < r.fTime by omega), ite_self]
    by_cases c4 : m < a.fFirst + r.fTime
    · rw [if_pos c4, if_pos c4]
      exact ih _ _
    · rw [if_neg c4, if_neg c4]
      exact ih _ _
theorem rord_l1 (a : Bat) (h0 : 0 ≤ a.fFirst) (h1 : a.fFirst ≤ 9223372036854775807) (hb : a.fRecords.length ≤ 1000000) (y : Int) : ∀ (l : List Rec) (p m : Int) (k fuel : Nat), a.fRecords.drop k = l → l.length < fuel → (k = 0 → p = -1) → (0 < k → ∃ r, a.fRecords[k - 1]? = some r ∧ r.fOffset = p ∧ 0 ≤ p) →
    (∃ e, ordR a.fFirst a.fLast p m l = .error e ∧ f_r11_orders_l1 a fuel y k = some (.ret e)) ∨ (∃ m' z, ordR a.fFirst a.fLast p m l = .ok m' ∧ f_r11_orders_l1 a fuel y k = some (.go (y, z)))
  | [], p, m, k, fuel + 1, h, hf, hk0, hk1 => by
    have := b_nil_drop h
    exact .inr ⟨m, k, rfl, by rw [f_r11_orders_l1, if_neg (by omega)]⟩
  | r :: l, p, m, k, fuel + 1, h, hf, hk0, hk1 => by
    obtain ⟨g1, g2, g3⟩ := b_at_drop h
    rw [List.length_cons] at hf
    rw [f_r11_orders_l1, if_pos (by omega), g1, Option.bind_some, ordR]
    have hp : -1 ≤ p := by
      rcases Nat.eq_zero_or_pos k with hk | hk
      · have := hk0 hk; omega
      · obtain ⟨_, _, _, h5⟩ := hk1 hk; omega
    have ih := fun (hge : 0 ≤ r.fOffset) m => rord_l1 a h0 h1 hb y l r.fOffset m (k + 1) fuel g2 (by omega) (fun h => absurd h (by omega)) (fun _ => ⟨r, g1, rfl, hge⟩)
    have tail : 0 ≤ r.fOffset → ((if -9223372036854775808 ≤ (9223372036854775807 - a.fFirst) ∧ (9223372036854775807 - a.fFirst) ≤ 9223372036854775807 then (if r.fTime > (9223372036854775807 - a.fFirst) then some (Lp.ret (11 : Int)) else (if -9223372036854775808 ≤ (-a.fFirst) ∧ (-a.fFirst) ≤ 9223372036854775807 then (if r.fTime < (-a.fFirst) then some (Lp.ret 11) else (if -9223372036854775808 ≤ ((k : Int) + 1) ∧ ((k : Int) + 1) ≤ 9223372036854775807 then (f_r11_orders_l1 a fuel y (k + 1)) else none)) else none)) else none)) = if badT a.fFirst r.fTime then some (.ret 11) else f_r11_orders_l1 a fuel y (k + 1) := by
      intro hge
      rw [if_pos (by omega)]
      by_cases c1 : r.fTime > 9223372036854775807 - a.fFirst
      · rw [if_pos c1, if_pos (show badT a.fFirst r.fTime from .inl c1)]
      rw [if_neg c1, if_pos (by omega)]
      by_cases c2 : r.fTime < -a.fFirst
      · rw [if_pos c2, if_pos (show badT a.fFirst r.fTime from .inr c2)]
      rw [if_neg c2, if_neg (show ¬ badT a.fFirst r.fTime by unfold badT; omega), if_pos (by omega)]
    by_cases c2 : r.fOffset > a.fLast
    · rw [if_pos c2, if_pos (.inr c2)]
      exact .inl ⟨_, rfl, rfl⟩
    rw [if_neg c2]
    rcases Nat.eq_zero_or_pos k with hk | hk
    · have hp1 := hk0 hk
      rw [if_neg (show ¬ (k : Int) > 0 by omega)]
      by_cases c3 : r.fOffset < 0
      · rw [if_pos c3, if_pos (show r.fOffset ≤ p ∨ r.fOffset > a.fLast by omega)]
        exact .inl ⟨_, rfl, rfl⟩
      rw [if_neg c3, if_neg (show ¬ (r.fOffset ≤ p ∨ r.fOffset > a.fLast) by omega), tail (by omega)]
      by_cases c4 : badT a.fFirst r.fTime
      · rw [if_pos c4, if_pos c4]
        exact .inl ⟨_, rfl, rfl⟩
      · rw [if_neg c4, if_neg c4]
        exact ih (by omega) _
    · obtain ⟨q, q1, q2, q3⟩ := hk1 hk
      rw [if_pos (show (k : Int) > 0 by omega), if_pos (show -9223372036854775808 ≤ (k : Int) - 1 ∧ (k : Int) - 1 ≤ 9223372036854775807 by omega), if_pos (show 0 ≤ (k : Int) - 1 by omega), show ((k : Int) - 1).toNat = k - 1 by omega, q1, Option.bind_some, q2]
      by_cases c1 : r.fOffset ≤ p
      · rw [if_pos c1, if_pos (.inl c1)]
        exact .inl ⟨_, rfl, rfl⟩
      rw [if_neg c1, if_neg (show ¬ r.fOffset < 0 by omega), if_neg (show ¬ (r.fOffset ≤ p ∨ r.fOffset > a.fLast) by omega), tail (by omega)]
      by_cases c4 : badT a.fFirst r.fTime
      · rw [if_pos c4, if_pos c4]
        exact .inl ⟨_, rfl, rfl⟩
      · rw [if_neg c4, if_neg c4]
        exact ih (by omega) _
theorem rtim_l1 (a : Bat) (h0 : 0 ≤ a.fFirst) (h1 : a.fFirst ≤ 9223372036854775807) (hb : a.fRecords.length ≤ 1000000) (y : Int) : ∀ (l : List Rec) (p m m' : Int) (k fuel : Nat), a.fRecords.drop k = l → l.length < fuel → ordR a.fFirst a.fLast p m l = .ok m' → (∀ r, r ∈ l → wI r.fTime) → ∃ z, f_r11_times_l1 a fuel y m k = some (.go (y, m', z))
  | [], p, m, m', k, fuel + 1, h, hf, ho, hw => by
    have := b_nil_drop h
    injection ho with ho
    subst ho
    exact ⟨k, by rw [f_r11_times_l1, if_neg (by omega)]⟩
  | r :: l, p, m, m', k, fuel + 1, h, hf, ho, hw => by
    obtain ⟨g1, g2, g3⟩ := b_at_drop h
    rw [List.length_cons] at hf
    rw [ordR] at ho
    split at ho
    · exact nomatch ho
    split at ho
    · exact nomatch ho
    rename_i hb2
    have ht := hw r (.head _)
    have ht0 := ht.1
    have ht1 := ht.2
    unfold badT at hb2
    rw [f_r11_times_l1, if_pos (by omega), g1, Option.bind_some, if_pos (by omega), if_neg (by omega), if_pos (by omega), if_neg (by omega), if_pos (by omega)]
    obtain ⟨z, hz⟩ := rtim_l1 a h0 h1 hb y l r.fOffset _ m' (k + 1) fuel g2 (by omega) ho (fun x hx => hw x (.tail _ hx))
    by_cases c : m < a.fFirst + r.fTime
    · rw [if_pos c] at hz
      rw [if_pos c, if_pos (by omega), if_pos (by omega)]
      exact ⟨z, hz⟩
    · rw [if_neg c] at hz
      rw [if_neg c, if_pos (by omega)]
      exact ⟨z, hz⟩
theorem records_orders (a : Bat) (h0 : 0 ≤ a.fFirst) (h1 : a.fFirst ≤ 9223372036854775807) (hb : a.fRecords.length ≤ 1000000) (hw : ∀ r, r ∈ a.fRecords → wI r.fTime) : ∃ e, f_batch_records a = some e ∧ f_r11_orders a = some e := by
  unfold f_batch_records f_r11_orders f_r11_times
  rcases brec_l1 a h0 h1 0 a.fRecords (-1) a.fFirst hw with ⟨e, g1, g2⟩ | ⟨p', m', g1, g2⟩
  · rcases rord_l1 a h0 h1 hb 0 a.fRecords (-1) a.fFirst 0 (((a.fRecords.length : Int)).toNat + 1) rfl (by omega) (fun _ => rfl) (fun h => absurd h (by omega)) with ⟨e2, k1, k2⟩ | ⟨m2, z, k1, k2⟩
    · rw [g1] at k1
      injection k1 with k1
      subst k1
      exact ⟨e, by rw [g2]; rfl, by rw [k2]; rfl⟩
    · rw [g1] at k1
      exact nomatch k1
  · rcases rord_l1 a h0 h1 hb 0 a.fRecords (-1) a.fFirst 0 (((a.fRecords.length : Int)).toNat + 1) rfl (by omega) (fun _ => rfl) (fun h => absurd h (by omega)) with ⟨e2, k1, k2⟩ | ⟨m2, z, k1, k2⟩
    · rw [g1] at k1
      exact nomatch k1
    · obtain ⟨z2, hz2⟩ := rtim_l1 a h0 h1 hb 0 a.fRecords (-1) a.fFirst m' 0 (((a.fRecords.length : Int)).toNat + 1) rfl (by omega) g1 hw
      rw [g2, k2, hz2]
      simp only [Option.bind_some]
      by_cases ha : a.fAppend = true
      · exact ⟨0, by rw [if_pos ha], by rw [if_pos ha]⟩
      · rw [if_neg ha]
        by_cases hm : m' = a.fMax
        · exact ⟨0, by rw [if_pos hm], by rw [if_pos hm]⟩
        · exact ⟨11, by rw [if_neg hm], by rw [if_neg hm]⟩
/-! Its own numbers, and who wrote it. -/
def numOk (a : Bat) : Prop := 0 ≤ a.fBase ∧ (-1 ≤ a.fLeader ∧ a.fLeader ≤ 2147483647) ∧ (0 ≤ a.fLast ∧ a.fLast ≤ 2147483647) ∧ a.fBase + a.fLast ≤ 9223372036854775807 ∧ 0 ≤ a.fFirst ∧ 0 ≤ a.fMax
instance (a : Bat) : Decidable (numOk a) := by unfold numOk; infer_instance
theorem numbers_eq (a : Bat) (h1 : wI a.fBase) (h2 : wI a.fLeader) (h3 : wI a.fLast) : f_batch_numbers a = some (decide (numOk a)) := by
  obtain ⟨u1, u2⟩ := h1
  unfold f_batch_numbers
  rw [gFits_eq _ _ h2, gFits_eq _ _ h3, fits_4, fits_4, IntKind.wrap_i64]
  have no : ∀ {b : Bool}, ¬ numOk a → b = false → some b = some (decide (numOk a)) := fun h hb => by rw [decide_eq_false h, hb]
  by_cases c1 : a.fBase ≥ 0
  · rw [if_pos c1]
    by_cases c2 : a.fLeader ≥ -1
    · rw [if_pos c2, Option.bind_some]
      by_cases c3 : -2147483648 ≤ a.fLeader ∧ a.fLeader ≤ 2147483647
      · rw [if_pos (decide_eq_true c3)]
        by_cases c4 : a.fLast ≥ 0
        · rw [if_pos c4, Option.bind_some]
          by_cases c5 : -2147483648 ≤ a.fLast ∧ a.fLast ≤ 2147483647
          · rw [if_pos (decide_eq_true c5)]
            by_cases c6 : a.fBase + a.fLast ≤ 9223372036854775807
            · rw [if_pos (by omega)]
              by_cases c7 : a.fFirst ≥ 0
              · rw [if_pos c7]
                by_cases c8 : a.fMax ≥ 0
                · rw [if_pos c8, decide_eq_true (show numOk a from ⟨c1, ⟨c2, by omega⟩, ⟨c4, by omega⟩, c6, c7, c8⟩)]
                · rw [if_neg c8]; exact no (fun h => c8 h.2.2.2.2.2) rfl
              · rw [if_neg c7]; exact no (fun h => c7 h.2.2.2.2.1) rfl
            · rw [if_neg (by omega)]; exact no (fun h => c6 h.2.2.2.1) rfl
          · rw [if_neg (by rw [decide_eq_true_eq]; exact c5)]; exact no (fun h => by have := h.2.2.1; omega) rfl
        · rw [if_neg c4]; exact no (fun h => c4 h.2.2.1.1) rfl
      · rw [if_neg (by rw [decide_eq_true_eq]; exact c3)]; exact no (fun h => by have := h.2.1; omega) rfl
    · rw [if_neg c2]; exact no (fun h => c2 h.2.1.1) rfl
  · rw [if_neg c1]; exact no (fun h => c1 h.1) rfl
theorem int32s_eq (n k : Int) : f_r11_int32s n k = some (decide (k ≤ n ∧ n ≤ 2147483647)) := by
  unfold f_r11_int32s
  by_cases h1 : n ≥ k
  · rw [if_pos h1]
    by_cases h2 : n ≤ 2147483647
    · rw [if_pos h2, decide_eq_true ⟨h1, h2⟩]
    · rw [if_neg h2, decide_eq_false (fun h => h2 h.2)]
  · rw [if_neg h1, decide_eq_false (fun h => h1 h.1)]
def prodOk (a : Bat) : Prop := if a.fProducer = -1 then a.fEpoch = -1 ∧ a.fSequence = -1 ∧ a.fTxn = false else 0 ≤ a.fProducer ∧ (0 ≤ a.fEpoch ∧ a.fEpoch ≤ 32767) ∧ (if a.fControl = true then a.fSequence = -1 else 0 ≤ a.fSequence ∧ a.fSequence ≤ 2147483647)
instance (a : Bat) : Decidable (prodOk a) := by unfold prodOk; infer_instance
theorem b_fits_2 (n : Int) : fits n 2 = decide (-32768 ≤ n ∧ n ≤ 32767) := by
  rw [Bool.eq_iff_iff]
  unfold fits
  simp only [Bool.and_eq_true, decide_eq_true_eq]
  have : (2 : Int) ^ (8 * (2 : Int).toNat - 1) = 32768 := by decide
  omega
set_option maxHeartbeats 2000000 in
theorem producer_eq (a : Bat) (h1 : wI a.fEpoch) (h2 : wI a.fSequence) : f_batch_producer a = some (decide (prodOk a)) ∧ f_r11_producer a = some (decide (prodOk a)) := by
  unfold f_batch_producer f_r11_producer
  rw [gFits_eq _ _ h1, gFits_eq _ _ h2, fits_4, b_fits_2, int32s_eq]
  unfold prodOk
  obtain ⟨b0, b1, b2, tx, ct, b5, b6, b7, P, E, S, rs⟩ := a
  simp only
  clear h1 h2
  by_cases c1 : P = -1
  · simp only [if_pos c1]
    by_cases c2 : E = -1
    · simp only [if_pos c2]
      by_cases c3 : S = -1
      · simp only [if_pos c3]
        cases tx <;> simp [c2, c3]
      · simp [c3]
    · simp [c2]
  · simp only [if_neg c1, Option.bind_some]
    cases ct
    · simp only [Bool.false_eq_true, if_false]
      constructor
      · by_cases d1 : P ≥ 0
        · by_cases d2 : E ≥ 0
          · by_cases d3 : -32768 ≤ E ∧ E ≤ 32767
            · by_cases d4 : S ≥ 0
              · by_cases d5 : -2147483648 ≤ S ∧ S ≤ 2147483647
                · rw [if_pos d1, if_pos d2, if_pos (decide_eq_true d3), if_pos d4, if_pos (decide_eq_true d5), decide_eq_true (by omega)]
                · rw [if_pos d1, if_pos d2, if_pos (decide_eq_true d3), if_pos d4, if_neg (by rw [decide_eq_true_eq]; exact d5), decide_eq_false (by omega)]
              · rw [if_pos d1, if_pos d2, if_pos (decide_eq_true d3), if_neg d4, decide_eq_false (by omega)]
            · rw [if_pos d1, if_pos d2, if_neg (by rw [decide_eq_true_eq]; exact d3), decide_eq_false (by omega)]
          · rw [if_pos d1, if_neg d2, decide_eq_false (by omega)]
        · rw [if_neg d1, decide_eq_false (by omega)]
      · by_cases d1 : P < 0
        · rw [if_pos d1, decide_eq_false (by omega)]
        rw [if_neg d1]
        by_cases d2 : E < 0
        · rw [if_pos d2, decide_eq_false (by omega)]
        rw [if_neg d2]
        by_cases d3 : E > 32767
        · rw [if_pos d3, decide_eq_false (by omega)]
        rw [if_neg d3]
        by_cases d4 : 0 ≤ S ∧ S ≤ 2147483647
        · rw [decide_eq_true d4, decide_eq_true (by omega)]
        · rw [decide_eq_false d4, decide_eq_false (by omega)]
    · simp only [if_true]
      constructor
      · by_cases d1 : P ≥ 0
        · by_cases d2 : E ≥ 0
          · by_cases d3 : -32768 ≤ E ∧ E ≤ 32767
            · by_cases d4 : S ≥ -1
              · by_cases d5 : -2147483648 ≤ S ∧ S ≤ 2147483647
                · by_cases d6 : S = -1
                  · rw [if_pos d1, if_pos d2, if_pos (decide_eq_true d3), if_pos d4, if_pos (decide_eq_true d5), if_pos d6, decide_eq_true (by omega)]
                  · rw [if_pos d1, if_pos d2, if_pos (decide_eq_true d3), if_pos d4, if_pos (decide_eq_true d5), if_neg d6, decide_eq_false (by omega)]
                · rw [if_pos d1, if_pos d2, if_pos (decide_eq_true d3), if_pos d4, if_neg (by rw [decide_eq_true_eq]; exact d5), decide_eq_false (by omega)]
              · rw [if_pos d1, if_pos d2, if_pos (decide_eq_true d3), if_neg d4, decide_eq_false (by omega)]
            · rw [if_pos d1, if_pos d2, if_neg (by rw [decide_eq_true_eq]; exact d3), decide_eq_false (by omega)]
          · rw [if_pos d1, if_neg d2, decide_eq_false (by omega)]
        · rw [if_neg d1, decide_eq_false (by omega)]
      · by_cases d1 : P < 0
        · rw [if_pos d1, decide_eq_false (by omega)]
        rw [if_neg d1]
        by_cases d2 : E < 0
        · rw [if_pos d2, decide_eq_false (by omega)]
        rw [if_neg d2]
        by_cases d3 : E > 32767
        · rw [if_pos d3, decide_eq_false (by omega)]
        rw [if_neg d3]
        by_cases d4 : S = -1
        · rw [if_pos d4, decide_eq_true (by omega)]
        · rw [if_neg d4, decide_eq_false (by omega)]
/-! The whole batch. -/
theorem key_some (l : List UInt8) (hl : l.length ≤ 1000000) : ∃ x, f_control_ReadKey l = some x := by
  unfold f_control_ReadKey f_control_version
  simp only [gNew_eq l (by omega), gInt_eq, gClose_eq, gIFail_eq, Option.bind_some]
  generalize iint ⟨l, 0, 0⟩ 2 = x
  by_cases h : x.1 = 0
  · simp only [if_pos h, Option.bind_some]
    generalize iint x.2 2 = y
    split
    · split <;> exact ⟨_, rfl⟩
    · split
      · split <;> exact ⟨_, rfl⟩
      · split <;> exact ⟨_, rfl⟩
  · simp only [if_neg h, Option.bind_some]
    generalize iint (ifail x.2 7) 2 = y
    split
    · split <;> exact ⟨_, rfl⟩
    · split
      · split <;> exact ⟨_, rfl⟩
      · split <;> exact ⟨_, rfl⟩
theorem value_some (l : List UInt8) (hl : l.length ≤ 1000000) : ∃ x, f_control_ReadValue l = some x := by
  unfold f_control_ReadValue f_control_version
  simp only [gNew_eq l (by omega), gInt_eq, gClose_eq, gIFail_eq, Option.bind_some]
  generalize iint ⟨l, 0, 0⟩ 2 = x
  by_cases h : x.1 = 0
  · simp only [if_pos h, Option.bind_some]
    generalize iint x.2 4 = y
    split
    · split <;> exact ⟨_, rfl⟩
    · split <;> exact ⟨_, rfl⟩
  · simp only [if_neg h, Option.bind_some]
    generalize iint (ifail x.2 7) 4 = y
    split
    · split <;> exact ⟨_, rfl⟩
    · split <;> exact ⟨_, rfl⟩
theorem control_some (r : Rec) (h1 : r.fKey.data.length ≤ 1000000) (h2 : r.fValue.data.length ≤ 1000000) : ∃ x1 x2 x3, f_control_Read r = some (x1, x2, x3) := by
  obtain ⟨⟨k1, k2⟩, hk⟩ := key_some _ h1
  obtain ⟨⟨v1, v2⟩, hv⟩ := value_some _ h2
  unfold f_control_Read
  rw [hk, hv]
  simp only [Option.bind_some]
  split
  · exact ⟨_, _, _, rfl⟩
  split
  · exact ⟨_, _, _, rfl⟩
  split
  · exact ⟨_, _, _, rfl⟩
  split
  · split
    · split
      · exact ⟨_, _, _, rfl⟩
      · exact ⟨_, _, _, rfl⟩
    · exact ⟨_, _, _, rfl⟩
  · exact ⟨_, _, _, rfl⟩
def chkB (a : Bat) (cr e0 : Int) : Int := if numOk a then (if a.fControl = true then (if a.fTxn = true then (if prodOk a then (if (a.fRecords.length : Int) = 1 then (if firstR a.fRecords = 0 then (if cr = 0 then e0 else cr) else firstR a.fRecords) else 10) else 11) else 8) else (if prodOk a then (if firstR a.fRecords = 0 then e0 else firstR a.fRecords) else 11)) else 11
theorem bchk (a : Bat) (hw : wf_Bat a) (cr e0 : Int) (hc : numOk a → f_batch_records a = some e0) (hr : (a.fRecords.length : Int) = 1 → ∃ r x1 x2, a.fRecords[0]? = some r ∧ f_control_Read r = some (x1, x2, cr)) : f_batch_Check a = some (chkB a cr e0) := by
  obtain ⟨w1, w2, w3, w4, w5, w6, w7, w8, w9, w10, w11, w12⟩ := hw
  have hoff : ∀ r, r ∈ a.fRecords → wI r.fOffset := fun r h => (w12.2 r h).2.1
  unfold f_batch_Check chkB
  rw [numbers_eq a w1 w2 w6, (producer_eq a w10 w11).1, bcheck_l1 _ _ hoff, bcheck_l2 _ _ hoff]
  by_cases hn : numOk a
  · rw [decide_eq_true hn, Option.bind_some, if_pos rfl, if_pos hn, hc hn]
    by_cases hct : a.fControl = true
    · rw [if_pos hct, if_pos hct]
      by_cases ht : a.fTxn = true
      · rw [if_pos ht, if_pos ht, Option.bind_some]
        by_cases hp : prodOk a
        · rw [decide_eq_true hp, if_pos rfl, if_pos hp]
          by_cases hl : (a.fRecords.length : Int) = 1
          · obtain ⟨r, x1, x2, r1, r2⟩ := hr hl
            rw [if_pos hl, if_pos hl, r1]
            by_cases hf : firstR a.fRecords = 0
            · simp only [if_pos hf, Option.bind_some, r2]
              split <;> rfl
            · simp only [if_neg hf, Option.bind_some]
          · rw [if_neg hl, if_neg hl]
        · rw [decide_eq_false hp, if_neg (by decide), if_neg hp]
      · rw [if_neg ht, if_neg ht]
    · rw [if_neg hct, if_neg hct, Option.bind_some]
      by_cases hp : prodOk a
      · rw [decide_eq_true hp, if_pos rfl, if_pos hp]
        by_cases hf : firstR a.fRecords = 0
        · simp only [if_pos hf, Option.bind_some]
        · simp only [if_neg hf, Option.bind_some]
      · rw [decide_eq_false hp, if_neg (by decide), if_neg hp]
  · rw [decide_eq_false hn, Option.bind_some, if_neg (by decide), if_neg hn]
theorem rchk (a : Bat) (hw : wf_Bat a) (hb : a.fRecords.length ≤ 1000000) (hh : ∀ r, r ∈ a.fRecords → r.fHeaders.length ≤ 1000000) (cr e0 : Int) (hc : numOk a → f_r11_orders a = some e0) (hr : (a.fRecords.length : Int) = 1 → ∃ r x1 x2, a.fRecords[0]? = some r ∧ f_r08_Read r = some (x1, x2, cr)) : f_r11_Check a = some (chkB a cr e0) := by
  obtain ⟨w1, w2, w3, w4, w5, w6, w7, w8, w9, w10, w11, w12⟩ := hw
  obtain ⟨z, hz⟩ := rcheck_l1 a hb hh 0 a.fRecords 0 (((a.fRecords.length : Int)).toNat + 1) rfl (by omega)
  have b1 := w1.1
  have b2 := w1.2
  unfold f_r11_Check chkB
  rw [int32s_eq, int32s_eq, (producer_eq a w10 w11).2]
  simp only [rcheck_l2]
  rw [hz]
  by_cases hn : numOk a
  · obtain ⟨n1, n2, n3, n4, n5, n6⟩ := id hn
    rw [if_neg (show ¬ a.fBase < 0 by omega), decide_eq_true n2, Option.bind_some, if_pos rfl, decide_eq_true n3, Option.bind_some, if_pos rfl, if_pos (show -9223372036854775808 ≤ 9223372036854775807 - a.fBase ∧ 9223372036854775807 - a.fBase ≤ 9223372036854775807 by omega), if_neg (show ¬ a.fLast > 9223372036854775807 - a.fBase by omega), if_neg (show ¬ a.fFirst < 0 by omega), if_neg (show ¬ a.fMax < 0 by omega), if_pos hn, hc hn]
    by_cases hct : a.fControl = true
    · rw [if_pos hct, if_pos hct]
      by_cases ht : a.fTxn = true
      · rw [if_pos ht, if_pos ht, Option.bind_some]
        by_cases hp : prodOk a
        · rw [decide_eq_true hp, if_pos rfl, if_pos hp]
          by_cases hl : (a.fRecords.length : Int) = 1
          · obtain ⟨r, x1, x2, r1, r2⟩ := hr hl
            rw [if_pos hl, if_pos hl, r1]
            by_cases hf : firstR a.fRecords = 0
            · simp only [if_pos hf, Option.bind_some, r2]
              split <;> rfl
            · simp only [if_neg hf, Option.bind_some]
          · rw [if_neg hl, if_neg hl]
        · rw [decide_eq_false hp, if_neg (by decide), if_neg hp]
      · rw [if_neg ht, if_neg ht]
    · rw [if_neg hct, if_neg hct, Option.bind_some]
      by_cases hp : prodOk a
      · rw [decide_eq_true hp, if_pos rfl, if_pos hp]
        by_cases hf : firstR a.fRecords = 0
        · simp only [if_pos hf, Option.bind_some]
        · simp only [if_neg hf, Option.bind_some]
      · rw [decide_eq_false hp, if_neg (by decide), if_neg hp]
  · rw [if_neg hn]
    unfold numOk at hn
    by_cases c1 : a.fBase < 0
    · rw [if_pos c1]
    rw [if_neg c1, Option.bind_some]
    by_cases c2 : -1 ≤ a.fLeader ∧ a.fLeader ≤ 2147483647
    · rw [decide_eq_true c2, if_pos rfl, Option.bind_some]
      by_cases c3 : 0 ≤ a.fLast ∧ a.fLast ≤ 2147483647
      · rw [decide_eq_true c3, if_pos rfl, if_pos (show -9223372036854775808 ≤ 9223372036854775807 - a.fBase ∧ 9223372036854775807 - a.fBase ≤ 9223372036854775807 by omega)]
        by_cases c4 : a.fLast > 9223372036854775807 - a.fBase
        · rw [if_pos c4]
        rw [if_neg c4]
        by_cases c5 : a.fFirst < 0
        · rw [if_pos c5]
        rw [if_neg c5, if_pos (show a.fMax < 0 by omega)]
      · rw [decide_eq_false c3, if_neg (by decide)]
    · rw [decide_eq_false c2, if_neg (by decide)]
theorem check_same (a : Bat) (hw : wf_Bat a) (hb : a.fRecords.length ≤ 1000000) (hr : ∀ r, r ∈ a.fRecords → r.fHeaders.length ≤ 1000000 ∧ r.fKey.data.length ≤ 1000000 ∧ r.fValue.data.length ≤ 1000000) : ∃ cr e0, f_batch_Check a = some (chkB a cr e0) ∧ f_r11_Check a = some (chkB a cr e0) ∧ (numOk a → f_batch_records a = some e0) ∧ ((a.fRecords.length : Int) = 1 → ∃ r x1 x2, a.fRecords[0]? = some r ∧ f_control_Read r = some (x1, x2, cr) ∧ f_r08_Read r = some (x1, x2, cr)) := by
  have htim : ∀ r, r ∈ a.fRecords → wI r.fTime := fun r h => (hw.2.2.2.2.2.2.2.2.2.2.2.2 r h).1
  have hF := hw.2.2.2.2.2.2.1
  obtain ⟨e0, he⟩ : ∃ e0, numOk a → f_batch_records a = some e0 ∧ f_r11_orders a = some e0 := by
    by_cases hn : numOk a
    · obtain ⟨e0, h1, h2⟩ := records_orders a hn.2.2.2.2.1 hF.2 hb htim
      exact ⟨e0, fun _ => ⟨h1, h2⟩⟩
    · exact ⟨0, fun h => absurd h hn⟩
  obtain ⟨cr, hcr⟩ : ∃ cr, (a.fRecords.length : Int) = 1 → ∃ r x1 x2, a.fRecords[0]? = some r ∧ f_control_Read r = some (x1, x2, cr) ∧ f_r08_Read r = some (x1, x2, cr) := by
    by_cases hl : (a.fRecords.length : Int) = 1
    · obtain ⟨r, hrec⟩ : ∃ r, a.fRecords = [r] := List.length_eq_one_iff.1 (by omega)
      have h3 := hr r (by rw [hrec]; exact .head _)
      obtain ⟨x1, x2, x3, h4⟩ := control_some r h3.2.1 h3.2.2
      have h5 := read_control r (by omega) (by omega)
      exact ⟨x3, fun _ => ⟨r, x1, x2, by rw [hrec]; rfl, h4, by rw [← h5]; exact h4⟩⟩
    · exact ⟨0, fun h => absurd h hl⟩
  refine ⟨cr, e0, bchk a hw cr e0 (fun h => (he h).1) (fun h => ?_), rchk a hw hb (fun r h => (hr r h).1) cr e0 (fun h => (he h).2) (fun h => ?_), fun h => (he h).1, hcr⟩
  · obtain ⟨r, x1, x2, h1, h2, h3⟩ := hcr h
    exact ⟨r, x1, x2, h1, h2⟩
  · obtain ⟨r, x1, x2, h1, h2, h3⟩ := hcr h
    exact ⟨r, x1, x2, h1, h3⟩
end Go.Proofs.Ytdlpmcbglmgpiaa.Sl
