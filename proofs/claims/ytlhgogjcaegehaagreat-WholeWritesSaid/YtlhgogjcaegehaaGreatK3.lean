/- wholeWrites_holds: part 3. -/
import Derived.KernelRfl
import Derived.Test.YtlhgogjcaegehaaGreatK2
namespace Go.Proofs.YtlhgogjcaegehaaGreat.Sl
open Go.RowKit
set_option linter.unusedVariables false
set_option linter.unusedSimpArgs false
theorem iint_ok2 (l : List UInt8) (p : Nat) (h : 2 ≤ l.length) : iint ⟨l, p, 0⟩ 2 = (beInt (l.take 2), ⟨l.drop 2, p + 2, 0⟩) := iint_ok l p 2 (by decide) (by decide) h
theorem iint_ok4 (l : List UInt8) (p : Nat) (h : 4 ≤ l.length) : iint ⟨l, p, 0⟩ 4 = (beInt (l.take 4), ⟨l.drop 4, p + 4, 0⟩) := iint_ok l p 4 (by decide) (by decide) h
theorem iint_short2 (l : List UInt8) (p : Nat) (h : l.length < 2) : iint ⟨l, p, 0⟩ 2 = (0, ⟨l, p, 1⟩) := iint_short l p 2 (by decide) (by decide) (by omega)
theorem iint_short4 (l : List UInt8) (p : Nat) (h : l.length < 4) : iint ⟨l, p, 0⟩ 4 = (0, ⟨l, p, 1⟩) := iint_short l p 4 (by decide) (by decide) (by omega)
theorem iint_e (l : List UInt8) (p : Nat) (e n : Int) (h : e ≠ 0) : iint ⟨l, p, e⟩ n = (0, ⟨l, p, e⟩) := iint_err (st := ⟨l, p, e⟩) h n
theorem iclose_e (l : List UInt8) (p : Nat) (e : Int) (h : e ≠ 0) : iclose ⟨l, p, e⟩ = ⟨l, p, e⟩ := iclose_err (st := ⟨l, p, e⟩) h
theorem ifail_e (l : List UInt8) (p : Nat) (e f : Int) (h : e ≠ 0) : ifail ⟨l, p, e⟩ f = ⟨l, p, e⟩ := ifail_err (st := ⟨l, p, e⟩) h f
theorem ifail_0 (l : List UInt8) (p : Nat) (f : Int) : ifail ⟨l, p, 0⟩ f = ⟨l, p, f⟩ := by simp [ifail]
theorem iclose_0 (l : List UInt8) (p : Nat) : iclose ⟨l, p, 0⟩ = ⟨l, p, if l = [] then 0 else 2⟩ := by unfold iclose; split <;> simp_all [ifail]
theorem drop_nil_iff {l : List UInt8} {n : Nat} (h : n ≤ l.length) : l.drop n = [] ↔ ¬ (l.length : Int) > n := by rw [List.drop_eq_nil_iff]; omega
theorem read_key (l : List UInt8) (hl : l.length ≤ 9223372036854775807) : f_control_ReadKey l = f_r08_ReadKey l := by
  unfold f_control_ReadKey f_r08_ReadKey f_control_version
  simp only [gNew_eq l (by omega), gInt_eq, gClose_eq, gIFail_eq, Option.bind_some]
  by_cases h2 : l.length < 2
  · have h2i : (l.length : Int) < 2 := by omega
    simp [iint_short2 l 0 h2, iint_e, iclose_e, ifail_e, h2i]
  have h2i : ¬ (l.length : Int) < 2 := by omega
  have h2j : 2 ≤ (l.length : Int) := by omega
  rw [iint_ok2 l 0 (by omega), if_neg h2i, if_pos (show 2 ≤ l.length by omega), gRInt_eq _ (by simp; omega)]
  simp only [Option.bind_some]
  by_cases h0 : beInt (l.take 2) = 0
  · rw [if_pos h0, if_pos h0]
    simp only [Option.bind_some]
    by_cases h4 : l.length < 4
    · have h4i : (l.length : Int) < 4 := by omega
      simp [iint_short2 (l.drop 2) (0 + 2) (by simp; omega), iclose_e, h4i]
    have h4i : ¬ (l.length : Int) < 4 := by omega
    rw [iint_ok2 _ _ (by simp; omega), if_neg h4i, if_pos (show 4 ≤ l.length by omega), gRInt_eq _ (by simp; omega)]
    simp only [Option.bind_some, List.drop_drop, iclose_0, ifail_0]
    have hd := drop_nil_iff (l := l) (n := 4) (by omega)
    generalize beInt ((l.drop 2).take 2) = k
    by_cases h5 : (l.length : Int) > 4
    · have hd2 : ¬ l.drop (2 + 2) = [] := fun h => (hd.1 h) h5
      by_cases k0 : k = 0
      · simp [hd2, h5, iclose_e, k0]
      · by_cases k1 : k = 1 <;> simp [hd2, h5, iclose_e, k0, k1]
    · have hd2 : l.drop (2 + 2) = [] := hd.2 h5
      by_cases k0 : k = 0
      · simp [hd2, h5, iclose_e, k0]
      · by_cases k1 : k = 1 <;> simp [hd2, h5, iclose_e, k0, k1]
  · rw [if_neg h0, if_neg h0]
    simp [ifail_0, iint_e, iclose_e]
theorem read_value (l : List UInt8) (hl : l.length ≤ 9223372036854775807) : f_control_ReadValue l = f_r08_ReadValue l := by
  unfold f_control_ReadValue f_r08_ReadValue f_control_version
  simp only [gNew_eq l (by omega), gInt_eq, gClose_eq, gIFail_eq, Option.bind_some]
  by_cases h2 : l.length < 2
  · have h2i : (l.length : Int) < 2 := by omega
    simp [iint_short2 l 0 h2, iint_e, iclose_e, ifail_e, h2i]
  have h2i : ¬ (l.length : Int) < 2 := by omega
  have h2j : 2 ≤ (l.length : Int) := by omega
  rw [iint_ok2 l 0 (by omega), if_neg h2i, if_pos (show 2 ≤ l.length by omega), gRInt_eq _ (by simp; omega)]
  simp only [Option.bind_some]
  by_cases h0 : beInt (l.take 2) = 0
  · rw [if_pos h0, if_pos h0]
    simp only [Option.bind_some]
    by_cases h4 : l.length < 6
    · have h4i : (l.length : Int) < 6 := by omega
      simp [iint_short4 (l.drop 2) (0 + 2) (by simp; omega), iclose_e, h4i]
    have h4i : ¬ (l.length : Int) < 6 := by omega
    rw [iint_ok4 _ _ (by simp; omega), if_neg h4i, if_pos (show 6 ≤ l.length by omega), gRInt_eq _ (by simp; omega)]
    simp only [Option.bind_some, List.drop_drop, iclose_0, ifail_0]
    have hd := drop_nil_iff (l := l) (n := 6) (by omega)
    generalize beInt ((l.drop 2).take 4) = k
    by_cases h5 : (l.length : Int) > 6
    · have hd2 : ¬ l.drop (2 + 4) = [] := fun h => (hd.1 h) h5
      by_cases k0 : k < 0 <;> simp [hd2, h5, iclose_e, k0]
    · have hd2 : l.drop (2 + 4) = [] := hd.2 h5
      by_cases k0 : k < 0 <;> simp [hd2, h5, iclose_e, k0]
  · rw [if_neg h0, if_neg h0]
    simp [ifail_0, iint_e, iclose_e]
theorem read_control (r : Rec) (h1 : r.fKey.data.length ≤ 9223372036854775807) (h2 : r.fValue.data.length ≤ 9223372036854775807) : f_control_Read r = f_r08_Read r := by
  unfold f_control_Read f_r08_Read
  rw [read_key _ h1, read_value _ h2]
end Go.Proofs.YtlhgogjcaegehaaGreat.Sl
namespace Go.Proofs.YtlhgogjcaegehaaGreat.Sl
open Go.RowKit
set_option linter.unusedVariables false
set_option linter.unusedSimpArgs false
def firstR : List Rec → Int
  | [] => 0
  | r :: l => if rightR r = 0 then firstR l else rightR r
theorem bcheck_l1 (y : Int) : ∀ l : List Rec, (∀ r, r ∈ l → wI r.fOffset) → f_batch_Check_l1 l y = some (if firstR l = 0 then .go y else .ret (firstR l))
  | [], h => rfl
  | r :: l, h => by
    rw [f_batch_Check_l1, record_right _ (h r (.head _)), Option.bind_some, bcheck_l1 y l (fun x hx => h x (.tail _ hx)), firstR]
    by_cases hr : rightR r = 0
    · rw [if_pos hr, if_pos hr]
    · rw [if_neg hr, if_neg hr, if_neg hr]
theorem bcheck_l2 (y : Int) : ∀ l : List Rec, (∀ r, r ∈ l → wI r.fOffset) → f_batch_Check_l2 l y = some (if firstR l = 0 then .go y else .ret (firstR l))
  | [], h => rfl
  | r :: l, h => by
    rw [f_batch_Check_l2, record_right _ (h r (.head _)), Option.bind_some, bcheck_l2 y l (fun x hx => h x (.tail _ hx)), firstR]
    by_cases hr : rightR r = 0
    · rw [if_pos hr, if_pos hr]
    · rw [if_neg hr, if_neg hr, if_neg hr]
theorem rcheck_l1 (a : Bat) (hb : a.fRecords.length ≤ 1000000) (hh : ∀ r, r ∈ a.fRecords → r.fHeaders.length ≤ 1000000) (y : Int) : ∀ (l : List Rec) (k fuel : Nat), a.fRecords.drop k = l → l.length < fuel → ∃ z, f_r11_Check_l1 a fuel y k = some (if firstR l = 0 then .go (y, z) else .ret (firstR l))
  | [], k, fuel + 1, h, hf => by
    have := b_nil_drop h
    exact ⟨k, by rw [f_r11_Check_l1, if_neg (by omega)]; rfl⟩
  | r :: l, k, fuel + 1, h, hf => by
    obtain ⟨h1, h2, h3⟩ := b_at_drop h
    rw [List.length_cons] at hf
    obtain ⟨z, hz⟩ := rcheck_l1 a hb hh y l (k + 1) fuel h2 (by omega)
    rw [f_r11_Check_l1, if_pos (by omega), h1, Option.bind_some, r07_right _ (hh r (List.mem_of_getElem? h1)), Option.bind_some, firstR]
    by_cases hr : rightR r = 0
    · rw [if_pos hr, if_pos hr, if_pos (by omega)]
      exact ⟨z, hz⟩
    · rw [if_neg hr, if_neg hr]
      exact ⟨0, by rw [if_neg hr]⟩
theorem rcheck_l2 (a : Bat) : ∀ (fuel : Nat) (y : Int) (k : Nat), f_r11_Check_l2 a fuel y k = f_r11_Check_l1 a fuel y k
  | 0, y, k => rfl
  | fuel + 1, y, k => by
    rw [f_r11_Check_l2, f_r11_Check_l1]
    simp only [rcheck_l2 a fuel]
def badT (F t : Int) : Prop := t > 9223372036854775807 - F ∨ t < -F
instance (F t : Int) : Decidable (badT F t) := by unfold badT; infer_instance
def ordR (F L : Int) : Int → Int → List Rec → Except Int Int
  | p, m, [] => .ok m
  | p, m, r :: l => if r.fOffset ≤ p ∨ r.fOffset > L then .error 13 else if badT F r.fTime then .error 11 else ordR F L r.fOffset (if m < F + r.fTime then F + r.fTime else m) l
theorem wrap_time {F t : Int} (h0 : 0 ≤ F) (h1 : F ≤ 9223372036854775807) (ht : wI t) : (badT F t → (IntKind.i64.wrap (F + t) < 0)) ∧ (¬ badT F t → IntKind.i64.wrap (F + t) = F + t ∧ 0 ≤ F + t) := by
  obtain ⟨t0, t1⟩ := ht
  unfold badT
  rw [IntKind.wrap_i64]
  constructor
  · intro h
    omega
  · intro h
    omega
theorem brec_l1 (a : Bat) (h0 : 0 ≤ a.fFirst) (h1 : a.fFirst ≤ 9223372036854775807) (y : Int) : ∀ (l : List Rec) (p m : Int), (∀ r, r ∈ l → wI r.fTime) → (∃ e, ordR a.fFirst a.fLast p m l = .error e ∧ f_batch_records_l1 a l y p m = some (.ret e)) ∨ (∃ p' m', ordR a.fFirst a.fLast p m l = .ok m' ∧ f_batch_records_l1 a l y p m = some (.go (y, p', m')))
  | [], p, m, h => .inr ⟨p, m, rfl, rfl⟩
  | r :: l, p, m, h => by
    have ih := fun p m => brec_l1 a h0 h1 y l p m (fun x hx => h x (.tail _ hx))
    obtain ⟨w1, w2⟩ := wrap_time h0 h1 (h r (.head _))
    rw [f_batch_records_l1, ordR]
    by_cases c1 : r.fOffset ≤ p
    · rw [if_pos c1, if_pos (.inl c1)]
      exact .inl ⟨_, rfl, rfl⟩
    rw [if_neg c1]
    by_cases c2 : r.fOffset > a.fLast
    · rw [if_pos c2, if_pos (.inr c2)]
      exact .inl ⟨_, rfl, rfl⟩
    rw [if_neg c2, if_neg (by omega)]
    by_cases c3 : badT a.fFirst r.fTime
    · rw [if_pos c3, if_pos (w1 c3)]
      exact .inl ⟨_, rfl, rfl⟩
    obtain ⟨w3, w4⟩ := w2 c3
    rw [if_neg c3, w3, if_neg (show ¬ a.fFirst + r.fTime < 0 by omega), if_neg (show ¬ a.fFirst + r.fTime < r.fTime by omega), ite_self]
    by_cases c4 : m < a.fFirst + r.fTime
    · rw [if_pos c4, if_pos c4]
      exact ih _ _
    · rw [if_neg c4, if_neg c4]
      exact ih _ _
theorem rord_l1 (a : Bat) (h0 : 0 ≤ a.fFirst) (h1 : a.fFirst ≤ 9223372036854775807) (hb : a.fRecords.length ≤ 1000000) (y : Int) : ∀ (l : List Rec) (p m : Int) (k fuel : Nat), a.fRecords.drop k = l → l.length < fuel → (k = 0 → p = -1) → (0 < k → ∃ r, a.fRecords[k - 1]? = some r ∧ r.fOffset = p ∧ 0 ≤ p) →
    (∃ e, ordR a.fFirst a.fLast p m l = .error e ∧ f_r11_orders_l1 a fuel y k = some (.ret e)) ∨ (∃ m' z, ordR a.fFirst a.fLast p m l = .ok m' ∧ f_r11_orders_l1 a fuel y k = some (.go (y, z)))
  | [], p, m, k, fuel + 1, h, hf, hk0, hk1 => by
    have := b_nil_drop h
    exact .inr ⟨m, k, rfl, by rw [f_r11_orders_l1, if_neg (by omega)]⟩
  | r :: l, p, m, k, fuel + 1, h, hf, hk0, hk1 => by
    obtain ⟨g1, g2, g3⟩ := b_at_drop h
    rw [List.length_cons] at hf
    rw [f_r11_orders_l1, if_pos (by omega), g1, Option.bind_some, ordR]
    have hp : -1 ≤ p := by
      rcases Nat.eq_zero_or_pos k with hk | hk
      · have := hk0 hk; omega
      · obtain ⟨_, _, _, h5⟩ := hk1 hk; omega
    have ih := fun (hge : 0 ≤ r.fOffset) m => rord_l1 a h0 h1 hb y l r.fOffset m (k + 1) fuel g2 (by omega) (fun h => absurd h (by omega)) (fun _ => ⟨r, g1, rfl, hge⟩)
    have tail : 0 ≤ r.fOffset → ((if -9223372036854775808 ≤ (9223372036854775807 - a.fFirst) ∧ (9223372036854775807 - a.fFirst) ≤ 9223372036854775807 then (if r.fTime > (9223372036854775807 - a.fFirst) then some (Lp.ret (11 : Int)) else (if -9223372036854775808 ≤ (-a.fFirst) ∧ (-a.fFirst) ≤ 9223372036854775807 then (if r.fTime < (-a.fFirst) then some (Lp.ret 11) else (if -9223372036854775808 ≤ ((k : Int) + 1) ∧ ((k : Int) + 1) ≤ 9223372036854775807 then (f_r11_orders_l1 a fuel y (k + 1)) else none)) else none)) else none)) = if badT a.fFirst r.fTime then some (.ret 11) else f_r11_orders_l1 a fuel y (k + 1) := by
      intro hge
      rw [if_pos (by omega)]
      by_cases c1 : r.fTime > 9223372036854775807 - a.fFirst
      · rw [if_pos c1, if_pos (show badT a.fFirst r.fTime from .inl c1)]
      rw [if_neg c1, if_pos (by omega)]
      by_cases c2 : r.fTime < -a.fFirst
      · rw [if_pos c2, if_pos (show badT a.fFirst r.fTime from .inr c2)]
      rw [if_neg c2, if_neg (show ¬ badT a.fFirst r.fTime by unfold badT; omega), if_pos (by omega)]
    by_cases c2 : r.fOffset > a.fLast
    · rw [if_pos c2, if_pos (.inr c2)]
      exact .inl ⟨_, rfl, rfl⟩
    rw [if_neg c2]
    rcases Nat.eq_zero_or_pos k with hk | hk
    · have hp1 := hk0 hk
      rw [if_neg (show ¬ (k : Int) > 0 by omega)]
      by_cases c3 : r.fOffset < 0
      · rw [if_pos c3, if_pos (show r.fOffset ≤ p ∨ r.fOffset > a.fLast by omega)]
        exact .inl ⟨_, rfl, rfl⟩
      rw [if_neg c3, if_neg (show ¬ (r.fOffset ≤ p ∨ r.fOffset > a.fLast) by omega), tail (by omega)]
      by_cases c4 : badT a.fFirst r.fTime
      · rw [if_pos c4, if_pos c4]
        exact .inl ⟨_, rfl, rfl⟩
      · rw [if_neg c4, if_neg c4]
        exact ih (by omega) _
    · obtain ⟨q, q1, q2, q3⟩ := hk1 hk
      rw [if_pos (show (k : Int) > 0 by omega), if_pos (show -9223372036854775808 ≤ (k : Int) - 1 ∧ (k : Int) - 1 ≤ 9223372036854775807 by omega), if_pos (show 0 ≤ (k : Int) - 1 by omega), show ((k : Int) - 1).toNat = k - 1 by omega, q1, Option.bind_some, q2]
      by_cases c1 : r.fOffset ≤ p
      · rw [if_pos c1, if_pos (.inl c1)]
        exact .inl ⟨_, rfl, rfl⟩
      rw [if_neg c1, if_neg (show ¬ r.fOffset < 0 by omega), if_neg (show ¬ (r.fOffset ≤ p ∨ r.fOffset > a.fLast) by omega), tail (by omega)]
      by_cases c4 : badT a.fFirst r.fTime
      · rw [if_pos c4, if_pos c4]
        exact .inl ⟨_, rfl, rfl⟩
      · rw [if_neg c4, if_neg c4]
        exact ih (by omega) _
theorem rtim_l1 (a : Bat) (h0 : 0 ≤ a.fFirst) (h1 : a.fFirst ≤ 9223372036854775807) (hb : a.fRecords.length ≤ 1000000) (y : Int) : ∀ (l : List Rec) (p m m' : Int) (k fuel : Nat), a.fRecords.drop k = l → l.length < fuel → ordR a.fFirst a.fLast p m l = .ok m' → (∀ r, r ∈ l → wI r.fTime) → ∃ z, f_r11_times_l1 a fuel y m k = some (.go (y, m', z))
  | [], p, m, m', k, fuel + 1, h, hf, ho, hw => by
    have := b_nil_drop h
    injection ho with ho
    subst ho
    exact ⟨k, by rw [f_r11_times_l1, if_neg (by omega)]⟩
  | r :: l, p, m, m', k, fuel + 1, h, hf, ho, hw => by
    obtain ⟨g1, g2, g3⟩ := b_at_drop h
    rw [List.length_cons] at hf
    rw [ordR] at ho
    split at ho
    · exact nomatch ho
    split at ho
    · exact nomatch ho
    rename_i hb2
    have ht := hw r (.head _)
    have ht0 := ht.1
    have ht1 := ht.2
    unfold badT at hb2
    rw [f_r11_times_l1, if_pos (by omega), g1, Option.bind_some, if_pos (by omega), if_neg (by omega), if_pos (by omega), if_neg (by omega), if_pos (by omega)]
    obtain ⟨z, hz⟩ := rtim_l1 a h0 h1 hb y l r.fOffset _ m' (k + 1) fuel g2 (by omega) ho (fun x hx => hw x (.tail _ hx))
    by_cases c : m < a.fFirst + r.fTime
    · rw [if_pos c] at hz
      rw [if_pos c, if_pos (by omega), if_pos (by omega)]
      exact ⟨z, hz⟩
    · rw [if_neg c] at hz
      rw [if_neg c, if_pos (by omega)]
      exact ⟨z, hz⟩
theorem records_orders (a : Bat) (h0 : 0 ≤ a.fFirst) (h1 : a.fFirst ≤ 9223372036854775807) (hb : a.fRecords.length ≤ 1000000) (hw : ∀ r, r ∈ a.fRecords → wI r.fTime) : ∃ e, f_batch_records a = some e ∧ f_r11_orders a = some e := by
  unfold f_batch_records f_r11_orders f_r11_times
  rcases brec_l1 a h0 h1 0 a.fRecords (-1) a.fFirst hw with ⟨e, g1, g2⟩ | ⟨p', m', g1, g2⟩
  · rcases rord_l1 a h0 h1 hb 0 a.fRecords (-1) a.fFirst 0 (((a.fRecords.length : Int)).toNat + 1) rfl (by omega) (fun _ => rfl) (fun h => absurd h (by omega)) with ⟨e2, k1, k2⟩ | ⟨m2, z, k1, k2⟩
    · rw [g1] at k1
      injection k1 with k1
      subst k1
      exact ⟨e, by rw [g2]; rfl, by rw [k2]; rfl⟩
    · rw [g1] at k1
      exact nomatch k1
  · rcases rord_l1 a h0 h1 hb 0 a.fRecords (-1) a.fFirst 0 (((a.fRecords.length : Int)).toNat + 1) rfl (by omega) (fun _ => rfl) (fun h => absurd h (by omega)) with ⟨e2, k1, k2⟩ | ⟨m2, z, k1, k2⟩
    · rw [g1] at k1
      exact nomatch k1
    · obtain ⟨z2, hz2⟩ := rtim_l1 a h0 h1 hb 0 a.fRecords (-1) a.fFirst m' 0 (((a.fRecords.length : Int)).toNat + 1) rfl (by omega) g1 hw
      rw [g2, k2, hz2]
      simp only [Option.bind_some]
      by_cases ha : a.fAppend = true
      · exact ⟨0, by rw [if_pos ha], by rw [if_pos ha]⟩
      · rw [if_neg ha]
        by_cases hm : m' = a.fMax
        · exact ⟨0, by rw [if_pos hm], by rw [if_pos hm]⟩
        · exact ⟨11, by rw [if_neg hm], by rw [if_neg hm]⟩
def numOk (a : Bat) : Prop := 0 ≤ a.fBase ∧ (-1 ≤ a.fLeader ∧ a.fLeader ≤ 2147483647) ∧ (0 ≤ a.fLast ∧ a.fLast ≤ 2147483647) ∧ a.fBase + a.fLast ≤ 9223372036854775807 ∧ 0 ≤ a.fFirst ∧ 0 ≤ a.fMax
instance (a : Bat) : Decidable (numOk a) := by unfold numOk; infer_instance
theorem numbers_eq (a : Bat) (h1 : wI a.fBase) (h2 : wI a.fLeader) (h3 : wI a.fLast) : f_batch_numbers a = some (decide (numOk a)) := by
  obtain ⟨u1, u2⟩ := h1
  unfold f_batch_numbers
  rw [gFits_eq _ _ h2, gFits_eq _ _ h3, fits_4, fits_4, IntKind.wrap_i64]
  have no : ∀ {b : Bool}, ¬ numOk a → b = false → some b = some (decide (numOk a)) := fun h hb => by rw [decide_eq_false h, hb]
  by_cases c1 : a.fBase ≥ 0
  · rw [if_pos c1]
    by_cases c2 : a.fLeader ≥ -1
    · rw [if_pos c2, Option.bind_some]
      by_cases c3 : -2147483648 ≤ a.fLeader ∧ a.fLeader ≤ 2147483647
      · rw [if_pos (decide_eq_true c3)]
        by_cases c4 : a.fLast ≥ 0
        · rw [if_pos c4, Option.bind_some]
          by_cases c5 : -2147483648 ≤ a.fLast ∧ a.fLast ≤ 2147483647
          · rw [if_pos (decide_eq_true c5)]
            by_cases c6 : a.fBase + a.fLast ≤ 9223372036854775807
            · rw [if_pos (by omega)]
              by_cases c7 : a.fFirst ≥ 0
              · rw [if_pos c7]
                by_cases c8 : a.fMax ≥ 0
                · rw [if_pos c8, decide_eq_true (show numOk a from ⟨c1, ⟨c2, by omega⟩, ⟨c4, by omega⟩, c6, c7, c8⟩)]
                · rw [if_neg c8]; exact no (fun h => c8 h.2.2.2.2.2) rfl
              · rw [if_neg c7]; exact no (fun h => c7 h.2.2.2.2.1) rfl
            · rw [if_neg (by omega)]; exact no (fun h => c6 h.2.2.2.1) rfl
          · rw [if_neg (by rw [decide_eq_true_eq]; exact c5)]; exact no (fun h => by have := h.2.2.1; omega) rfl
        · rw [if_neg c4]; exact no (fun h => c4 h.2.2.1.1) rfl
      · rw [if_neg (by rw [decide_eq_true_eq]; exact c3)]; exact no (fun h => by have := h.2.1; omega) rfl
    · rw [if_neg c2]; exact no (fun h => c2 h.2.1.1) rfl
  · rw [if_neg c1]; exact no (fun h => c1 h.1) rfl
theorem int32s_eq (n k : Int) : f_r11_int32s n k = some (decide (k ≤ n ∧ n ≤ 2147483647)) := by
  unfold f_r11_int32s
  by_cases h1 : n ≥ k
  · rw [if_pos h1]
    by_cases h2 : n ≤ 2147483647
    · rw [if_pos h2, decide_eq_true ⟨h1, h2⟩]
    · rw [if_neg h2, decide_eq_false (fun h => h2 h.2)]
  · rw [if_neg h1, decide_eq_false (fun h => h1 h.1)]
def prodOk (a : Bat) : Prop := if a.fProducer = -1 then a.fEpoch = -1 ∧ a.fSequence = -1 ∧ a.fTxn = false else 0 ≤ a.fProducer ∧ (0 ≤ a.fEpoch ∧ a.fEpoch ≤ 32767) ∧ (if a.fControl = true then a.fSequence = -1 else 0 ≤ a.fSequence ∧ a.fSequence ≤ 2147483647)
instance (a : Bat) : Decidable (prodOk a) := by unfold prodOk; infer_instance
theorem b_fits_2 (n : Int) : fits n 2 = decide (-32768 ≤ n ∧ n ≤ 32767) := by
  rw [Bool.eq_iff_iff]
  unfold fits
  simp only [Bool.and_eq_true, decide_eq_true_eq]
  have : (2 : Int) ^ (8 * (2 : Int).toNat - 1) = 32768 := by decide
  omega
set_option maxHeartbeats 2000000 in
theorem producer_eq (a : Bat) (h1 : wI a.fEpoch) (h2 : wI a.fSequence) : f_batch_producer a = some (decide (prodOk a)) ∧ f_r11_producer a = some (decide (prodOk a)) := by
  unfold f_batch_producer f_r11_producer
  rw [gFits_eq _ _ h1, gFits_eq _ _ h2, fits_4, b_fits_2, int32s_eq]
  unfold prodOk
  obtain ⟨b0, b1, b2, tx, ct, b5, b6, b7, P, E, S, rs⟩ := a
  simp only
  clear h1 h2
  by_cases c1 : P = -1
  · simp only [if_pos c1]
    by_cases c2 : E = -1
    · simp only [if_pos c2]
      by_cases c3 : S = -1
      · simp only [if_pos c3]
        cases tx <;> simp [c2, c3]
      · simp [c3]
    · simp [c2]
  · simp only [if_neg c1, Option.bind_some]
    cases ct
    · simp only [Bool.false_eq_true, if_false]
      constructor
      · by_cases d1 : P ≥ 0
        · by_cases d2 : E ≥ 0
          · by_cases d3 : -32768 ≤ E ∧ E ≤ 32767
            · by_cases d4 : S ≥ 0
              · by_cases d5 : -2147483648 ≤ S ∧ S ≤ 2147483647
                · rw [if_pos d1, if_pos d2, if_pos (decide_eq_true d3), if_pos d4, if_pos (decide_eq_true d5), decide_eq_true (by omega)]
                · rw [if_pos d1, if_pos d2, if_pos (decide_eq_true d3), if_pos d4, if_neg (by rw [decide_eq_true_eq]; exact d5), decide_eq_false (by omega)]
              · rw [if_pos d1, if_pos d2, if_pos (decide_eq_true d3), if_neg d4, decide_eq_false (by omega)]
            · rw [if_pos d1, if_pos d2, if_neg (by rw [decide_eq_true_eq]; exact d3), decide_eq_false (by omega)]
          · rw [if_pos d1, if_neg d2, decide_eq_false (by omega)]
        · rw [if_neg d1, decide_eq_false (by omega)]
      · by_cases d1 : P < 0
        · rw [if_pos d1, decide_eq_false (by omega)]
        rw [if_neg d1]
        by_cases d2 : E < 0
        · rw [if_pos d2, decide_eq_false (by omega)]
        rw [if_neg d2]
        by_cases d3 : E > 32767
        · rw [if_pos d3, decide_eq_false (by omega)]
        rw [if_neg d3]
        by_cases d4 : 0 ≤ S ∧ S ≤ 2147483647
        · rw [decide_eq_true d4, decide_eq_true (by omega)]
        · rw [decide_eq_false d4, decide_eq_false (by omega)]
    · simp only [if_true]
      constructor
      · by_cases d1 : P ≥ 0
        · by_cases d2 : E ≥ 0
          · by_cases d3 : -32768 ≤ E ∧ E ≤ 32767
            · by_cases d4 : S ≥ -1
              · by_cases d5 : -2147483648 ≤ S ∧ S ≤ 2147483647
                · by_cases d6 : S = -1
                  · rw [if_pos d1, if_pos d2, if_pos (decide_eq_true d3), if_pos d4, if_pos (decide_eq_true d5), if_pos d6, decide_eq_true (by omega)]
                  · rw [if_pos d1, if_pos d2, if_pos (decide_eq_true d3), if_pos d4, if_pos (decide_eq_true d5), if_neg d6, decide_eq_false (by omega)]
                · rw [if_pos d1, if_pos d2, if_pos (decide_eq_true d3), if_pos d4, if_neg (by rw [decide_eq_true_eq]; exact d5), decide_eq_false (by omega)]
              · rw [if_pos d1, if_pos d2, if_pos (decide_eq_true d3), if_neg d4, decide_eq_false (by omega)]
            · rw [if_pos d1, if_pos d2, if_neg (by rw [decide_eq_true_eq]; exact d3), decide_eq_false (by omega)]
          · rw [if_pos d1, if_neg d2, decide_eq_false (by omega)]
        · rw [if_neg d1, decide_eq_false (by omega)]
      · by_cases d1 : P < 0
        · rw [if_pos d1, decide_eq_false (by omega)]
        rw [if_neg d1]
        by_cases d2 : E < 0
        · rw [if_pos d2, decide_eq_false (by omega)]
        rw [if_neg d2]
        by_cases d3 : E > 32767
        · rw [if_pos d3, decide_eq_false (by omega)]
        rw [if_neg d3]
        by_cases d4 : S = -1
        · rw [if_pos d4, decide_eq_true (by omega)]
        · rw [if_neg d4, decide_eq_false (by omega)]
theorem key_some (l : List UInt8) (hl : l.length ≤ 1000000) : ∃ x, f_control_ReadKey l = some x := by
  unfold f_control_ReadKey f_control_version
  simp only [gNew_eq l (by omega), gInt_eq, gClose_eq, gIFail_eq, Option.bind_some]
  generalize iint ⟨l, 0, 0⟩ 2 = x
  by_cases h : x.1 = 0
  · simp only [if_pos h, Option.bind_some]
    generalize iint x.2 2 = y
    split
    · split <;> exact ⟨_, rfl⟩
    · split
      · split <;> exact ⟨_, rfl⟩
      · split <;> exact ⟨_, rfl⟩
  · simp only [if_neg h, Option.bind_some]
    generalize iint (ifail x.2 7) 2 = y
    split
    · split <;> exact ⟨_, rfl⟩
    · split
      · split <;> exact ⟨_, rfl⟩
      · split <;> exact ⟨_, rfl⟩
theorem value_some (l : List UInt8) (hl : l.length ≤ 1000000) : ∃ x, f_control_ReadValue l = some x := by
  unfold f_control_ReadValue f_control_version
  simp only [gNew_eq l (by omega), gInt_eq, gClose_eq, gIFail_eq, Option.bind_some]
  generalize iint ⟨l, 0, 0⟩ 2 = x
  by_cases h : x.1 = 0
  · simp only [if_pos h, Option.bind_some]
    generalize iint x.2 4 = y
    split
    · split <;> exact ⟨_, rfl⟩
    · split <;> exact ⟨_, rfl⟩
  · simp only [if_neg h, Option.bind_some]
    generalize iint (ifail x.2 7) 4 = y
    split
    · split <;> exact ⟨_, rfl⟩
    · split <;> exact ⟨_, rfl⟩
theorem control_some (r : Rec) (h1 : r.fKey.data.length ≤ 1000000) (h2 : r.fValue.data.length ≤ 1000000) : ∃ x1 x2 x3, f_control_Read r = some (x1, x2, x3) := by
  obtain ⟨⟨k1, k2⟩, hk⟩ := key_some _ h1
  obtain ⟨⟨v1, v2⟩, hv⟩ := value_some _ h2
  unfold f_control_Read
  rw [hk, hv]
  simp only [Option.bind_some]
  split
  · exact ⟨_, _, _, rfl⟩
  split
  · exact ⟨_, _, _, rfl⟩
  split
  · exact ⟨_, _, _, rfl⟩
  split
  · split
    · split
      · exact ⟨_, _, _, rfl⟩
      · exact ⟨_, _, _, rfl⟩
    · exact ⟨_, _, _, rfl⟩
  · exact ⟨_, _, _, rfl⟩
def chkB (a : Bat) (cr e0 : Int) : Int := if numOk a then (if a.fControl = true then (if a.fTxn = true then (if prodOk a then (if (a.fRecords.length : Int) = 1 then (if firstR a.fRecords = 0 then (if cr = 0 then e0 else cr) else firstR a.fRecords) else 10) else 11) else 8) else (if prodOk a then (if firstR a.fRecords = 0 then e0 else firstR a.fRecords) else 11)) else 11
theorem bchk (a : Bat) (hw : wf_Bat a) (cr e0 : Int) (hc : numOk a → f_batch_records a = some e0) (hr : (a.fRecords.length : Int) = 1 → ∃ r x1 x2, a.fRecords[0]? = some r ∧ f_control_Read r = some (x1, x2, cr)) : f_batch_Check a = some (chkB a cr e0) := by
  obtain ⟨w1, w2, w3, w4, w5, w6, w7, w8, w9, w10, w11, w12⟩ := hw
  have hoff : ∀ r, r ∈ a.fRecords → wI r.fOffset := fun r h => (w12.2 r h).2.1
  unfold f_batch_Check chkB
  rw [numbers_eq a w1 w2 w6, (producer_eq a w10 w11).1, bcheck_l1 _ _ hoff, bcheck_l2 _ _ hoff]
  by_cases hn : numOk a
  · rw [decide_eq_true hn, Option.bind_some, if_pos rfl, if_pos hn, hc hn]
    by_cases hct : a.fControl = true
    · rw [if_pos hct, if_pos hct]
      by_cases ht : a.fTxn = true
      · rw [if_pos ht, if_pos ht, Option.bind_some]
        by_cases hp : prodOk a
        · rw [decide_eq_true hp, if_pos rfl, if_pos hp]
          by_cases hl : (a.fRecords.length : Int) = 1
          · obtain ⟨r, x1, x2, r1, r2⟩ := hr hl
            rw [if_pos hl, if_pos hl, r1]
            by_cases hf : firstR a.fRecords = 0
            · simp only [if_pos hf, Option.bind_some, r2]
              split <;> rfl
            · simp only [if_neg hf, Option.bind_some]
          · rw [if_neg hl, if_neg hl]
        · rw [decide_eq_false hp, if_neg (by decide), if_neg hp]
      · rw [if_neg ht, if_neg ht]
    · rw [if_neg hct, if_neg hct, Option.bind_some]
      by_cases hp : prodOk a
      · rw [decide_eq_true hp, if_pos rfl, if_pos hp]
        by_cases hf : firstR a.fRecords = 0
        · simp only [if_pos hf, Option.bind_some]
        · simp only [if_neg hf, Option.bind_some]
      · rw [decide_eq_false hp, if_neg (by decide), if_neg hp]
  · rw [decide_eq_false hn, Option.bind_some, if_neg (by decide), if_neg hn]
theorem rchk (a : Bat) (hw : wf_Bat a) (hb : a.fRecords.length ≤ 1000000) (hh : ∀ r, r ∈ a.fRecords → r.fHeaders.length ≤ 1000000) (cr e0 : Int) (hc : numOk a → f_r11_orders a = some e0) (hr : (a.fRecords.length : Int) = 1 → ∃ r x1 x2, a.fRecords[0]? = some r ∧ f_r08_Read r = some (x1, x2, cr)) : f_r11_Check a = some (chkB a cr e0) := by
  obtain ⟨w1, w2, w3, w4, w5, w6, w7, w8, w9, w10, w11, w12⟩ := hw
  obtain ⟨z, hz⟩ := rcheck_l1 a hb hh 0 a.fRecords 0 (((a.fRecords.length : Int)).toNat + 1) rfl (by omega)
  have b1 := w1.1
  have b2 := w1.2
  unfold f_r11_Check chkB
  rw [int32s_eq, int32s_eq, (producer_eq a w10 w11).2]
  simp only [rcheck_l2]
  rw [hz]
  by_cases hn : numOk a
  · obtain ⟨n1, n2, n3, n4, n5, n6⟩ := id hn
    rw [if_neg (show ¬ a.fBase < 0 by omega), decide_eq_true n2, Option.bind_some, if_pos rfl, decide_eq_true n3, Option.bind_some, if_pos rfl, if_pos (show -9223372036854775808 ≤ 9223372036854775807 - a.fBase ∧ 9223372036854775807 - a.fBase ≤ 9223372036854775807 by omega), if_neg (show ¬ a.fLast > 9223372036854775807 - a.fBase by omega), if_neg (show ¬ a.fFirst < 0 by omega), if_neg (show ¬ a.fMax < 0 by omega), if_pos hn, hc hn]
    by_cases hct : a.fControl = true
    · rw [if_pos hct, if_pos hct]
      by_cases ht : a.fTxn = true
      · rw [if_pos ht, if_pos ht, Option.bind_some]
        by_cases hp : prodOk a
        · rw [decide_eq_true hp, if_pos rfl, if_pos hp]
          by_cases hl : (a.fRecords.length : Int) = 1
          · obtain ⟨r, x1, x2, r1, r2⟩ := hr hl
            rw [if_pos hl, if_pos hl, r1]
            by_cases hf : firstR a.fRecords = 0
            · simp only [if_pos hf, Option.bind_some, r2]
              split <;> rfl
            · simp only [if_neg hf, Option.bind_some]
          · rw [if_neg hl, if_neg hl]
        · rw [decide_eq_false hp, if_neg (by decide), if_neg hp]
      · rw [if_neg ht, if_neg ht]
    · rw [if_neg hct, if_neg hct, Option.bind_some]
      by_cases hp : prodOk a
      · rw [decide_eq_true hp, if_pos rfl, if_pos hp]
        by_cases hf : firstR a.fRecords = 0
        · simp only [if_pos hf, Option.bind_some]
        · simp only [if_neg hf, Option.bind_some]
      · rw [decide_eq_false hp, if_neg (by decide), if_neg hp]
  · rw [if_neg hn]
    unfold numOk at hn
    by_cases c1 : a.fBase < 0
    · rw [if_pos c1]
    rw [if_neg c1, Option.bind_some]
    by_cases c2 : -1 ≤ a.fLeader ∧ a.fLeader ≤ 2147483647
    · rw [decide_eq_true c2, if_pos rfl, Option.bind_some]
      by_cases c3 : 0 ≤ a.fLast ∧ a.fLast ≤ 2147483647
      · rw [decide_eq_true c3, if_pos rfl, if_pos (show -9223372036854775808 ≤ 9223372036854775807 - a.fBase ∧ 9223372036854775807 - a.fBase ≤ 9223372036854775807 by omega)]
        by_cases c4 : a.fLast > 9223372036854775807 - a.fBase
        · rw [if_pos c4]
        rw [if_neg c4]
        by_cases c5 : a.fFirst < 0
        · rw [if_pos c5]
        rw [if_neg c5, if_pos (show a.fMax < 0 by omega)]
      · rw [decide_eq_false c3, if_neg (by decide)]
    · rw [decide_eq_false c2, if_neg (by decide)]
theorem check_same (a : Bat) (hw : wf_Bat a) (hb : a.fRecords.length ≤ 1000000) (hr : ∀ r, r ∈ a.fRecords → r.fHeaders.length ≤ 1000000 ∧ r.fKey.data.length ≤ 1000000 ∧ r.fValue.data.length ≤ 1000000) : ∃ cr e0, f_batch_Check a = some (chkB a cr e0) ∧ f_r11_Check a = some (chkB a cr e0) ∧ (numOk a → f_batch_records a = some e0) ∧ ((a.fRecords.length : Int) = 1 → ∃ r x1 x2, a.fRecords[0]? = some r ∧ f_control_Read r = some (x1, x2, cr) ∧ f_r08_Read r = some (x1, x2, cr)) := by
  have htim : ∀ r, r ∈ a.fRecords → wI r.fTime := fun r h => (hw.2.2.2.2.2.2.2.2.2.2.2.2 r h).1
  have hF := hw.2.2.2.2.2.2.1
  obtain ⟨e0, he⟩ : ∃ e0, numOk a → f_batch_records a = some e0 ∧ f_r11_orders a = some e0 := by
    by_cases hn : numOk a
    · obtain ⟨e0, h1, h2⟩ := records_orders a hn.2.2.2.2.1 hF.2 hb htim
      exact ⟨e0, fun _ => ⟨h1, h2⟩⟩
    · exact ⟨0, fun h => absurd h hn⟩
  obtain ⟨cr, hcr⟩ : ∃ cr, (a.fRecords.length : Int) = 1 → ∃ r x1 x2, a.fRecords[0]? = some r ∧ f_control_Read r = some (x1, x2, cr) ∧ f_r08_Read r = some (x1, x2, cr) := by
    by_cases hl : (a.fRecords.length : Int) = 1
    · obtain ⟨r, hrec⟩ : ∃ r, a.fRecords = [r] := List.length_eq_one_iff.1 (by omega)
      have h3 := hr r (by rw [hrec]; exact .head _)
      obtain ⟨x1, x2, x3, h4⟩ := control_some r h3.2.1 h3.2.2
      have h5 := read_control r (by omega) (by omega)
      exact ⟨x3, fun _ => ⟨r, x1, x2, by rw [hrec]; rfl, h4, by rw [← h5]; exact h4⟩⟩
    · exact ⟨0, fun h => absurd h hl⟩
  refine ⟨cr, e0, bchk a hw cr e0 (fun h => (he h).1) (fun h => ?_), rchk a hw hb (fun r h => (hr r h).1) cr e0 (fun h => (he h).2) (fun h => ?_), fun h => (he h).1, hcr⟩
  · obtain ⟨r, x1, x2, h1, h2, h3⟩ := hcr h
    exact ⟨r, x1, x2, h1, h2⟩
  · obtain ⟨r, x1, x2, h1, h2, h3⟩ := hcr h
    exact ⟨r, x1, x2, h1, h3⟩
end Go.Proofs.YtlhgogjcaegehaaGreat.Sl
namespace Go.Proofs.YtlhgogjcaegehaaGreat.Sl
open Go.RowKit
set_option linter.unusedVariables false
set_option linter.unusedSimpArgs false
abbrev Pr (α : Type) := List UInt8 → Nat → Except Int (α × Nat)
namespace Pr
variable {α β : Type}
def ret (a : α) : Pr α := fun _ q => .ok (a, q)
def err (e : Int) : Pr α := fun _ _ => .error e
def bind (p : Pr α) (f : α → Pr β) : Pr β := fun s q => match p s q with | .error e => .error e | .ok (a, r) => f a s r
theorem bind_ok {p : Pr α} {f : α → Pr β} {s : List UInt8} {q : Nat} {x : β × Nat} (h : p.bind f s q = .ok x) : ∃ a r, p s q = .ok (a, r) ∧ f a s r = .ok x := by
  unfold bind at h
  cases hp : p s q with
  | error e => rw [hp] at h; exact nomatch h
  | ok y => rw [hp] at h; exact ⟨_, _, rfl, h⟩
theorem bind_of {p : Pr α} {f : α → Pr β} {s : List UInt8} {q r : Nat} {a : α} (h : p s q = .ok (a, r)) : p.bind f s q = f a s r := by unfold bind; rw [h]
theorem bind_err {p : Pr α} {f : α → Pr β} {s : List UInt8} {q : Nat} {e : Int} (h : p s q = .error e) : p.bind f s q = .error e := by unfold bind; rw [h]
end Pr
structure Sp {α : Type} (p : Pr α) (enc : α → List UInt8) (ok : α → Prop) : Prop where
  spell : ∀ (s : List UInt8) (q : Nat) (a : α) (r : Nat), q ≤ s.length → p s q = .ok (a, r) → q ≤ r ∧ r ≤ s.length ∧ r = q + (enc a).length ∧ s.take r = s.take q ++ enc a ∧ ok a
  back : ∀ (s t : List UInt8) (q : Nat) (a : α), q ≤ s.length → ok a → s.drop q = enc a ++ t → p s q = .ok (a, q + (enc a).length)
theorem drop_step {s x t : List UInt8} {q : Nat} (h : s.drop q = x ++ t) : s.drop (q + x.length) = t := by rw [← List.drop_drop, h, List.drop_left]
theorem oput_z (t l : List UInt8) : oput (t, 0) l = (t ++ l, 0) := rfl
theorem ofail_z (t : List UInt8) (e : Int) : ofail (t, 0) e = (t, e) := rfl
theorem fits_rng {n k : Int} (h : fits n k = true) : -9223372036854775808 ≤ n ∧ n ≤ 9223372036854775807 := by
  unfold fits at h
  simp only [Bool.and_eq_true, decide_eq_true_eq] at h
  obtain ⟨⟨⟨h1, h2⟩, h3⟩, h4⟩ := h
  have : (2 : Nat) ^ (8 * k.toNat - 1) ≤ 2 ^ 63 := Nat.pow_le_pow_right (by decide) (by omega)
  have h5 : ((2 : Int) ^ (8 * k.toNat - 1)) = ((2 ^ (8 * k.toNat - 1) : Nat) : Int) := by simp
  have h6 : (2 : Nat) ^ 63 = 9223372036854775808 := by decide
  omega
theorem gOInt_z {t : List UInt8} {n k : Int} (hf : fits n k = true) (ht : t.length ≤ 140737488355320) : gOInt (t, 0) n k = some (t ++ be n k.toNat, 0) := by
  rw [gOInt_eq _ _ _ ⟨fits_rng hf, by simp only; omega⟩]
  unfold oint
  rw [if_pos hf, oput_z]
theorem gPutFixed_z {t : List UInt8} {b : Bl} {k : Int} (hf : fits (blen b) k = true) (hb : bright b = true) (ht : t.length + b.data.length ≤ 140737488355320) : gPutFixed (t, 0) b k = some (t ++ (be (blen b) k.toNat ++ b.data), 0) := by
  have h8 : 1 ≤ k ∧ k ≤ 8 := by unfold fits at hf; simp only [Bool.and_eq_true, decide_eq_true_eq] at hf; exact ⟨hf.1.1.1, hf.1.1.2⟩
  rw [gPutFixed_eq _ _ _ ⟨by omega, by simp only; omega⟩]
  unfold bputFixed bwrite oint
  rw [if_pos hb, if_pos hf, oput_z, oput_z, List.append_assoc]
theorem gPutVaried_z {t : List UInt8} {b : Bl} (hb : bright b = true) (hl : b.data.length ≤ 2147483647) (ht : t.length + b.data.length ≤ 140737488355310) : gPutVaried (t, 0) b = some (t ++ (vput (vfold (blen b)) ++ b.data), 0) := by
  rw [gPutVaried_eq _ _ (by simp only; omega)]
  unfold bputVaried bwrite vputInt
  rw [if_pos hb, if_pos (by unfold blen; split <;> omega), oput_z, oput_z, List.append_assoc]
theorem otx_z (t : List UInt8) : otx (t, 0) = (t, 0) := by simp [otx]
theorem otx_e (t : List UInt8) (e : Int) (h : e ≠ 0) : otx (t, e) = ([], e) := by simp [otx, h]
theorem fits_small {n : Int} {k : Int} (h : k = 2 ∨ k = 4 ∨ k = 8) (h1 : -32768 ≤ n) (h2 : n ≤ 32767) : fits n k = true := by
  have e2 : (2 : Int) ^ (8 * (2 : Int).toNat - 1) = 32768 := by decide
  have e4 : (2 : Int) ^ (8 * (4 : Int).toNat - 1) = 2147483648 := by decide
  have e8 : (2 : Int) ^ (8 * (8 : Int).toNat - 1) = 9223372036854775808 := by decide
  unfold fits
  simp only [Bool.and_eq_true, decide_eq_true_eq]
  rcases h with rfl | rfl | rfl <;> omega
end Go.Proofs.YtlhgogjcaegehaaGreat.Sl
namespace Go.Proofs.YtlhgogjcaegehaaGreat.Sl
open Go.RowKit
set_option linter.unusedVariables false
set_option linter.unusedSimpArgs false
def shift {α : Type} (q : Nat) : Except Int (α × Nat) → Except Int (α × Nat)
  | .error e => .error e
  | .ok (a, r) => .ok (a, q + r)
def Sh {α : Type} (p : Pr α) : Prop := ∀ (s : List UInt8) (q k : Nat), q + k ≤ s.length → p s (q + k) = shift q (p (s.drop q) k)
theorem Sh.ret {α : Type} (a : α) : Sh (Pr.ret a) := fun s q k h => rfl
theorem Sh.err {α : Type} (e : Int) : Sh (Pr.err e : Pr α) := fun s q k h => rfl
theorem Sh.bind {α β : Type} {p : Pr α} {f : α → Pr β} {enc : α → List UInt8} {ok : α → Prop} (hp : Sh p) (hs : Sp p enc ok) (hf : ∀ a, Sh (f a)) : Sh (p.bind f) := by
  intro s q k h
  unfold Pr.bind
  rw [hp s q k h]
  cases hx : p (s.drop q) k with
  | error e => rfl
  | ok x =>
    have := (hs.spell (s.drop q) k x.1 x.2 (by rw [List.length_drop]; omega) hx).2.1
    rw [List.length_drop] at this
    exact hf x.1 s q x.2 (by omega)
theorem Sh.zero {α : Type} {p : Pr α} (h : Sh p) {s : List UInt8} {q : Nat} (hq : q ≤ s.length) : p s q = shift q (p (s.drop q) 0) := h s q 0 hq
def encs {α : Type} (enc : α → List UInt8) : List α → List UInt8
  | [] => []
  | a :: l => enc a ++ encs enc l
structure CB {α : Type} (op : I → Option (α × I)) (p : Pr α) (z : α) : Prop where
  dead : ∀ st : I, st.err ≠ 0 → op st = some (z, st)
  run : ∀ (s : List UInt8) (q : Nat), s.length ≤ 1000000 → q ≤ s.length → (∃ (e : Int) (st : I), p s q = .error e ∧ op ⟨s.drop q, q, 0⟩ = some (z, st) ∧ st.err = e ∧ st.err ≠ 0) ∨ (∃ (a : α) (r : Nat), p s q = .ok (a, r) ∧ op ⟨s.drop q, q, 0⟩ = some (a, ⟨s.drop r, r, 0⟩) ∧ q ≤ r ∧ r ≤ s.length)
def NZ {α : Type} (p : Pr α) : Prop := ∀ (s : List UInt8) (q : Nat) (e : Int), s.length ≤ 1000000 → q ≤ s.length → p s q = .error e → e ≠ 0
theorem NZ.ret {α : Type} (a : α) : NZ (Pr.ret a) := fun s q e _ _ h => nomatch h
theorem NZ.err {α : Type} {e : Int} (he : e ≠ 0) : NZ (Pr.err e : Pr α) := fun s q e' _ _ h => by injection h with h; rw [← h]; exact he
theorem NZ.bind {α β : Type} {p : Pr α} {f : α → Pr β} {enc : α → List UInt8} {ok : α → Prop} (hp : NZ p) (hs : Sp p enc ok) (hf : ∀ a, NZ (f a)) : NZ (p.bind f) := by
  intro s q e hl hq h
  cases hx : p s q with
  | error e' =>
    rw [Pr.bind_err hx] at h
    injection h with h
    rw [← h]
    exact hp s q e' hl hq hx
  | ok x =>
    rw [Pr.bind_of (a := x.1) (r := x.2) hx] at h
    exact hf x.1 s x.2 e hl (hs.spell s q x.1 x.2 hq hx).2.1 h
end Go.Proofs.YtlhgogjcaegehaaGreat.Sl
namespace Go.Proofs.YtlhgogjcaegehaaGreat.Sl
open Go.RowKit
set_option linter.unusedVariables false
set_option linter.unusedSimpArgs false
theorem Sp.congr {α : Type} {p : Pr α} {enc enc' : α → List UInt8} {ok ok' : α → Prop} (h : Sp p enc ok) (hok : ∀ a, ok a ↔ ok' a) (he : ∀ a, ok a → enc a = enc' a) : Sp p enc' ok' := by
  refine ⟨fun s q a r hq hp => ?_, fun s t q a hq ha hd => ?_⟩
  · obtain ⟨h1, h2, h3, h4, h5⟩ := h.spell s q a r hq hp
    rw [← he a h5]
    exact ⟨h1, h2, h3, h4, (hok a).1 h5⟩
  · have ha' := (hok a).2 ha
    rw [← he a ha'] at hd ⊢
    exact h.back s t q a hq ha' hd
theorem Sp.seq {α β : Type} {p : Pr α} {f : α → Pr β} {π : β → α} {enc1 : α → List UInt8} {enc2 : β → List UInt8} {ok1 : α → Prop} {ok2 : β → Prop} (hp : Sp p enc1 ok1) (hf : ∀ a, Sp (f a) enc2 (fun x => ok2 x ∧ π x = a)) :
    Sp (p.bind f) (fun x => enc1 (π x) ++ enc2 x) (fun x => ok1 (π x) ∧ ok2 x) := by
  refine ⟨fun s q x r hq h => ?_, fun s t q x hq hx hd => ?_⟩
  · obtain ⟨a, m, h1, h2⟩ := Pr.bind_ok h
    obtain ⟨a1, a2, a3, a4, a5⟩ := hp.spell s q a m hq h1
    obtain ⟨b1, b2, b3, b4, b5, b6⟩ := (hf a).spell s m x r a2 h2
    subst b6
    exact ⟨by omega, b2, by rw [List.length_append]; omega, by rw [b4, a4, List.append_assoc], a5, b5⟩
  · rw [List.append_assoc] at hd
    have h1 := hp.back s _ q (π x) hq hx.1 hd
    have hl := congrArg List.length hd
    rw [List.length_drop, List.length_append] at hl
    have h2 := (hf (π x)).back s t _ x (by omega) ⟨hx.2, rfl⟩ (drop_step hd)
    rw [Pr.bind_of h1, h2, List.length_append, Nat.add_assoc]
theorem CB.bind {α β : Type} {op1 : I → Option (α × I)} {p : Pr α} {z1 : α} {op2 : α → I → Option (β × I)} {f : α → Pr β} {z : β} (W : α → Prop) (h : CB op1 p z1)
    (hs : ∀ s q a r, s.length ≤ 1000000 → q ≤ s.length → p s q = .ok (a, r) → W a) (hz : W z1) (hf : ∀ a, W a → CB (op2 a) (f a) z) : CB (fun st => (op1 st).bind fun (a, st1) => op2 a st1) (p.bind f) z := by
  refine ⟨fun st hd => ?_, fun s q hl hq => ?_⟩
  · show (op1 st).bind _ = _
    rw [h.dead st hd, Option.bind_some]
    exact (hf z1 hz).dead st hd
  · rcases h.run s q hl hq with ⟨e, st, p1, g1, x1, y1⟩ | ⟨a, r, p1, g1, n1, l1⟩
    · refine .inl ⟨e, st, Pr.bind_err p1, ?_, x1, y1⟩
      show (op1 _).bind _ = _
      rw [g1, Option.bind_some]
      exact (hf z1 hz).dead st y1
    · have g2 : ((op1 ⟨s.drop q, q, 0⟩).bind fun (a, st1) => op2 a st1) = op2 a ⟨s.drop r, r, 0⟩ := by rw [g1, Option.bind_some]
      show (∃ e st, p.bind f s q = _ ∧ ((op1 ⟨s.drop q, q, 0⟩).bind fun (a, st1) => op2 a st1) = _ ∧ _ ∧ _) ∨ (∃ x m, p.bind f s q = _ ∧ ((op1 ⟨s.drop q, q, 0⟩).bind fun (a, st1) => op2 a st1) = _ ∧ _ ∧ _)
      rw [g2, Pr.bind_of p1]
      rcases (hf a (hs s q a r hl hq p1)).run s r hl l1 with ⟨e, st, p2, k2, x2, y2⟩ | ⟨b, m, p2, k2, n2, l2⟩
      · exact .inl ⟨e, st, p2, k2, x2, y2⟩
      · exact .inr ⟨b, m, p2, k2, by omega, l2⟩
theorem CB.congr {α : Type} {op op' : I → Option (α × I)} {p : Pr α} {z : α} (h : CB op p z) (he : ∀ st, op' st = op st) : CB op' p z := ⟨fun st hd => (he st).trans (h.dead st hd), fun s q hl hq => by rw [he]; exact h.run s q hl hq⟩
def encBool (b : Bool) : List UInt8 := be (if b = true then 1 else 0) 1
theorem CB.at {α : Type} {op : I → Option (α × I)} {p : Pr α} {z : α} {enc : α → List UInt8} {ok : α → Prop} (h : CB op p z) (hs : Sp p enc ok) {a : α} {s t : List UInt8} {q : Nat} (hl : s.length ≤ 1000000) (hq : q ≤ s.length) (ha : ok a) (hd : s.drop q = enc a ++ t) :
    op ⟨s.drop q, q, 0⟩ = some (a, ⟨s.drop (q + (enc a).length), q + (enc a).length, 0⟩) ∧ q + (enc a).length ≤ s.length ∧ s.drop (q + (enc a).length) = t := by
  have h1 := hs.back s t q a hq ha hd
  have h2 := congrArg List.length hd
  rw [List.length_drop, List.length_append] at h2
  refine ⟨?_, by omega, drop_step hd⟩
  rcases h.run s q hl hq with ⟨e, st, p1, g1, x1, y1⟩ | ⟨b, r, p1, g1, n1, l1⟩
  · rw [h1] at p1
    exact nomatch p1
  · rw [h1] at p1
    injection p1 with p1
    obtain ⟨rfl, rfl⟩ := Prod.mk.inj p1
    exact g1
end Go.Proofs.YtlhgogjcaegehaaGreat.Sl
namespace Go.Proofs.YtlhgogjcaegehaaGreat.Sl
open Go.RowKit
set_option linter.unusedVariables false
set_option linter.unusedSimpArgs false
theorem Pr.bind_assoc {α β γ : Type} (p : Pr α) (f : α → Pr β) (g : β → Pr γ) : (p.bind f).bind g = p.bind fun a => (f a).bind g := by
  funext s q
  unfold Pr.bind
  cases p s q with
  | error e => rfl
  | ok x => rfl
def encI : List Nat → List Int → List UInt8
  | k :: ks, x :: xs => be x k ++ encI ks xs
  | _, _ => []
def okI : List Nat → List Int → Prop
  | [], [] => True
  | k :: ks, x :: xs => fits x k = true ∧ okI ks xs
  | _, _ => False
def KS : List Nat := [8, 4, 4, 1, 4, 2, 4, 8, 8, 8, 2, 4, 4]
def s32 (n : Int) : Int := if n > 2147483647 then n - 4294967296 else n
def toL (p : Pfx) : List Int := [p.fBase, p.fLength, p.fLeader, 2, s32 p.fSum, p.fAttr, p.fLast, p.fFirst, p.fMax, p.fProducer, p.fEpoch, p.fSequence, p.fCount]
def encP (p : Pfx) : List UInt8 := encI KS (toL p)
def okP (p : Pfx) : Prop := okI KS (toL p) ∧ (0 ≤ p.fSum ∧ p.fSum ≤ 4294967295) ∧ 49 ≤ p.fLength ∧ 0 ≤ p.fCount
theorem encI_len : ∀ {ks : List Nat} {l : List Int}, okI ks l → (encI ks l).length = ks.sum
  | [], [], _ => rfl
  | k :: ks, x :: xs, h => by rw [encI, List.length_append, be_length, encI_len h.2, List.sum_cons]
  | [], _ :: _, h => nomatch h
  | _ :: _, [], h => nomatch h
end Go.Proofs.YtlhgogjcaegehaaGreat.Sl
namespace Go.Proofs.YtlhgogjcaegehaaGreat.Sl
open Go.RowKit
set_option linter.unusedVariables false
set_option linter.unusedSimpArgs false
def wrI : List Nat → List Int → List UInt8 × Int → Option (List UInt8 × Int)
  | k :: ks, x :: xs, st => (gOInt st x (k : Int)).bind fun st => wrI ks xs st
  | _, _, st => some st
theorem wrI_ok : ∀ (ks : List Nat) (l : List Int) (t : List UInt8), okI ks l → t.length + ks.sum ≤ 1000000 → wrI ks l (t, 0) = some (t ++ encI ks l, 0)
  | [], [], t, _, _ => by unfold wrI encI; rw [List.append_nil]
  | [], _ :: _, _, h, _ => nomatch h
  | _ :: _, [], _, h, _ => nomatch h
  | k :: ks, x :: xs, t, h, hl => by
    rw [List.sum_cons] at hl
    rw [wrI, gOInt_z h.1 (by omega), Option.bind_some, Int.toNat_natCast, wrI_ok ks xs _ h.2 (by rw [List.length_append, be_length]; omega), encI, List.append_assoc]
def w32 (n : Int) : Int := IntKind.i32.wrap (IntKind.u32.wrap n)
theorem w32_rng (n : Int) : -2147483648 ≤ w32 n ∧ w32 n ≤ 2147483647 := by
  unfold w32
  rw [IntKind.wrap_i32]
  omega
theorem w32_s {n : Int} (h : 0 ≤ n ∧ n ≤ 4294967295) : w32 n = s32 n := by
  unfold w32 s32
  rw [IntKind.wrap_i32, IntKind.wrap_u32]
  split <;> omega
def toW (p : Pfx) : List Int := [p.fBase, p.fLength, p.fLeader, 2, w32 p.fSum, p.fAttr, p.fLast, p.fFirst, p.fMax, p.fProducer, p.fEpoch, p.fSequence, p.fCount]
theorem write_eq (st : List UInt8 × Int) (p : Pfx) : f_prefix_Write st p = wrI KS (toW p) (if p.fSum < 0 ∨ p.fSum > 4294967295 then ofail st 11 else st) := by
  have hw := w32_rng p.fSum
  unfold f_prefix_Write
  have e : ((if p.fSum < 0 then some true else (if p.fSum > 4294967295 then some true else some false)).bind fun y4 => (if y4 = true then ((gOFail st 11).bind fun st14 => some st14) else some st)) = some (if p.fSum < 0 ∨ p.fSum > 4294967295 then ofail st 11 else st) := by
    by_cases h1 : p.fSum < 0
    · rw [if_pos h1, Option.bind_some, if_pos rfl, if_pos (.inl h1)]; rfl
    · rw [if_neg h1]
      by_cases h2 : p.fSum > 4294967295
      · rw [if_pos h2, Option.bind_some, if_pos rfl, if_pos (.inr h2)]; rfl
      · rw [if_neg h2, Option.bind_some, if_neg (by decide), if_neg (by omega)]
  have e2 : ∀ (K : List UInt8 × Int → Option (List UInt8 × Int)), ((if p.fSum < 0 then some true else (if p.fSum > 4294967295 then some true else some false)).bind fun y4 => (if y4 = true then ((gOFail st 11).bind fun st14 => some st14) else some st).bind K) = K (if p.fSum < 0 ∨ p.fSum > 4294967295 then ofail st 11 else st) := by
    intro K
    rw [← Option.bind_assoc, e, Option.bind_some]
  rw [e2]
  show (if -9223372036854775808 ≤ w32 p.fSum ∧ w32 p.fSum ≤ 9223372036854775807 then _ else _) = _
  rw [if_pos (by omega)]
  rfl
def okWp (p : Pfx) : Prop := okI KS (toL p) ∧ 0 ≤ p.fSum ∧ p.fSum ≤ 4294967295
theorem encP_len {p : Pfx} (h : okI KS (toL p)) : (encP p).length = 61 := by
  unfold encP
  rw [encI_len h]
  rfl
theorem write_ok {p : Pfx} (t : List UInt8) (h : okWp p) (ht : t.length ≤ 900000) : f_prefix_Write (t, 0) p = some (t ++ encP p, 0) := by
  have e : toW p = toL p := by
    unfold toW toL
    rw [w32_s h.2]
  have h2 := h.2
  rw [write_eq, if_neg (by omega), e]
  exact wrI_ok KS (toL p) t h.1 (by show t.length + 61 ≤ _; omega)
end Go.Proofs.YtlhgogjcaegehaaGreat.Sl
namespace Go.Proofs.YtlhgogjcaegehaaGreat.Sl
open Go.RowKit
set_option linter.unusedVariables false
set_option linter.unusedSimpArgs false
def encHd (h : Hd) : List UInt8 := (vput (vfold (h.fKey.length : Int)) ++ h.fKey) ++ (vput (vfold (blen h.fValue)) ++ h.fValue.data)
def okHd (h : Hd) : Prop := vfold (h.fKey.length : Int) < 2 ^ (32 : Int).toNat ∧ vfold (blen h.fValue) < 2 ^ (32 : Int).toNat ∧ bright h.fValue = true
end Go.Proofs.YtlhgogjcaegehaaGreat.Sl
namespace Go.Proofs.YtlhgogjcaegehaaGreat.Sl
open Go.RowKit
set_option linter.unusedVariables false
set_option linter.unusedSimpArgs false
def hwt (h : Hd) : Nat := 20 + h.fKey.length + h.fValue.data.length
def hwts : List Hd → Nat
  | [] => 0
  | h :: l => hwt h + hwts l
theorem vput_small32 (n : Int) (h : -1 ≤ n) (h2 : n ≤ 2147483647) : (vput (vfold n)).length ≤ 10 := vput_ten _ (vfold_lt n (by omega) (by omega))
theorem vfold_ok (n : Int) (h : -1 ≤ n) (h2 : n ≤ 2147483647) : vfold n < 2 ^ (32 : Int).toNat := by
  rw [show 2 ^ (32 : Int).toNat = 4294967296 by decide]
  exact vfold_lt32 n ⟨by omega, h2⟩
theorem blen_small (b : Bl) (h : b.data.length ≤ 2147483647) : -1 ≤ blen b ∧ blen b ≤ 2147483647 := by unfold blen; split <;> omega
theorem encHd_len (h : Hd) (hk : h.fKey.length ≤ 1000000) (hv : h.fValue.data.length ≤ 1000000) : (encHd h).length ≤ hwt h := by
  have h1 := vput_small32 (h.fKey.length : Int) (by omega) (by omega)
  have hb := blen_small h.fValue (by omega)
  have h2 := vput_small32 (blen h.fValue) hb.1 hb.2
  simp only [encHd, List.length_append, hwt]
  omega
theorem encHds_len : ∀ l : List Hd, hwts l ≤ 1000000 → (encs encHd l).length ≤ hwts l
  | [], h => Nat.le_refl _
  | x :: l, h => by
    have h1 : hwt x ≤ hwts (x :: l) := by rw [hwts]; omega
    have h2 := encHds_len l (by rw [hwts] at h; omega)
    have h3 := encHd_len x (by unfold hwt at h1; omega) (by unfold hwt at h1; omega)
    rw [encs, List.length_append, hwts]
    omega
theorem gPutName_z {t d : List UInt8} (hf : d.length ≤ 1000000) (ht : t.length ≤ 1000000000) : gPutName (t, 0) d = some (t ++ (vput (vfold (d.length : Int)) ++ d), 0) := by
  have := gPutVaried_z (t := t) (b := ⟨false, d⟩) rfl (by simp only; omega) (by simp only; omega)
  rw [gPutName_eq _ _ (by simp only; omega)]
  rw [gPutVaried_eq _ _ (by simp only; omega)] at this
  exact this
theorem hw_l1 : ∀ (l : List Hd) (t : List UInt8), (∀ h, h ∈ l → bright h.fValue = true) → t.length + hwts l ≤ 1000000 → f_header_Write_l1 l (t, 0) = some (t ++ encs encHd l, 0)
  | [], t, h, hl => by rw [f_header_Write_l1, encs, List.append_nil]
  | x :: l, t, h, hl => by
    have hx : t.length + (hwt x + hwts l) ≤ 1000000 := hl
    have h1 := encHd_len x (by unfold hwt at hx; omega) (by unfold hwt at hx; omega)
    have h2 : (vput (vfold (x.fKey.length : Int)) ++ x.fKey).length ≤ (encHd x).length := by simp only [encHd, List.length_append]; omega
    have e : t ++ (vput (vfold (x.fKey.length : Int)) ++ x.fKey) ++ (vput (vfold (blen x.fValue)) ++ x.fValue.data) = t ++ encHd x := by simp only [encHd, List.append_assoc]
    have h3 : (t ++ (vput (vfold (x.fKey.length : Int)) ++ x.fKey)).length = t.length + (vput (vfold (x.fKey.length : Int)) ++ x.fKey).length := List.length_append
    rw [f_header_Write_l1, gPutName_z (by unfold hwt at hx; omega) (by omega), Option.bind_some, gPutVaried_z (h x (.head _)) (by unfold hwt at hx; omega) (by rw [h3]; unfold hwt at hx h1; omega), Option.bind_some, e, hw_l1 l _ (fun y hy => h y (.tail _ hy)) (by rw [List.length_append]; omega), encs, List.append_assoc]
theorem hwts_len : ∀ l : List Hd, l.length * 20 ≤ hwts l
  | [] => by simp [hwts]
  | h :: l => by have := hwts_len l; simp only [hwts, hwt, List.length_cons]; omega
theorem hwts_mem : ∀ (l : List Hd) (h : Hd), h ∈ l → hwt h ≤ hwts l
  | x :: l, h, hm => by
    rcases List.mem_cons.1 hm with rfl | hm
    · simp only [hwts]; omega
    · have := hwts_mem l h hm; simp only [hwts]; omega
theorem hwrite_z (l : List Hd) (t : List UInt8) (h : ∀ x, x ∈ l → bright x.fValue = true) (ht : t.length + 10 + hwts l ≤ 1000000) : f_header_Write (t, 0) l = some (t ++ (vput (vfold (l.length : Int)) ++ encs encHd l), 0) := by
  have hn := hwts_len l
  have h1 := vput_small32 (l.length : Int) (by omega) (by omega)
  unfold f_header_Write
  rw [gPutInt_eq _ _ ⟨by omega, by simp only; omega⟩]
  unfold vputInt
  rw [if_pos (by omega), oput_z, Option.bind_some, hw_l1 l _ h (by rw [List.length_append]; omega), List.append_assoc]
  rfl
end Go.Proofs.YtlhgogjcaegehaaGreat.Sl
namespace Go.Proofs.YtlhgogjcaegehaaGreat.Sl
open Go.RowKit
set_option linter.unusedVariables false
set_option linter.unusedSimpArgs false
def encBl (b : Bl) : List UInt8 := vput (vfold (blen b)) ++ b.data
def encHs (l : List Hd) : List UInt8 := vput (vfold (l.length : Int)) ++ encs encHd l
def encBody (x : Rec) : List UInt8 := be 0 1 ++ (vput (vfold x.fTime) ++ (vput (vfold x.fOffset) ++ (encBl x.fKey ++ (encBl x.fValue ++ encHs x.fHeaders))))
def okBl (b : Bl) : Prop := vfold (blen b) < 2 ^ (32 : Int).toNat ∧ bright b = true
def okHs (l : List Hd) : Prop := vfold (l.length : Int) < 2 ^ (32 : Int).toNat ∧ ∀ h, h ∈ l → okHd h
def okRec (x : Rec) : Prop := vfold x.fTime < 2 ^ (64 : Int).toNat ∧ (vfold x.fOffset < 2 ^ (32 : Int).toNat ∧ 0 ≤ x.fOffset) ∧ okBl x.fKey ∧ okBl x.fValue ∧ okHs x.fHeaders
def encRec (x : Rec) : List UInt8 := vput (vfold ((encBody x).length : Int)) ++ encBody x
end Go.Proofs.YtlhgogjcaegehaaGreat.Sl
namespace Go.Proofs.YtlhgogjcaegehaaGreat.Sl
open Go.RowKit
set_option linter.unusedVariables false
set_option linter.unusedSimpArgs false
def rwt (x : Rec) : Nat := x.fKey.data.length + x.fValue.data.length + hwts x.fHeaders
theorem encBl_len (b : Bl) (h : b.data.length ≤ 1000000) : (encBl b).length ≤ 10 + b.data.length := by
  have hb := blen_small b (by omega)
  have := vput_small32 (blen b) hb.1 hb.2
  rw [encBl, List.length_append]
  omega
theorem encHs_len (l : List Hd) (h : hwts l ≤ 1000000) : (encHs l).length ≤ 10 + hwts l := by
  have hn := hwts_len l
  have h1 := vput_small32 (l.length : Int) (by omega) (by omega)
  have h2 := encHds_len l h
  rw [encHs, List.length_append]
  omega
theorem encBody_len (x : Rec) (ht : wI x.fTime) (ho : wI x.fOffset) (hw : rwt x ≤ 900000) : (encBody x).length ≤ 51 + rwt x := by
  unfold rwt at hw ⊢
  have h1 := vput_ten _ (vfold_lt x.fTime ht.1 ht.2)
  have h2 := vput_ten _ (vfold_lt x.fOffset ho.1 ho.2)
  have h3 := encBl_len x.fKey (by omega)
  have h4 := encBl_len x.fValue (by omega)
  have h5 := encHs_len x.fHeaders (by omega)
  simp only [encBody, List.length_append, be_length]
  omega
theorem body_write (x : Rec) (ht : wI x.fTime) (ho : 0 ≤ x.fOffset ∧ x.fOffset ≤ 2147483647) (hk : bright x.fKey = true) (hv : bright x.fValue = true) (hh : ∀ h, h ∈ x.fHeaders → bright h.fValue = true) (hw : rwt x ≤ 900000) : f_record_body x = some (encBody x, 0) := by
  unfold rwt at hw
  have h1 := vput_ten _ (vfold_lt x.fTime ht.1 ht.2)
  have h2 := vput_ten _ (vfold_lt x.fOffset (by omega) (by omega))
  have h3 := encBl_len x.fKey (by omega)
  have h4 := encBl_len x.fValue (by omega)
  unfold encBl at h3 h4
  unfold f_record_body
  rw [gOByte_eq _ _ (by simp), Option.bind_some, show oput ([], 0) [UInt8.ofNat (0 : Int).toNat] = (be 0 1, 0) from by decide]
  have l1 : (be 0 1).length = 1 := be_length 0 1
  generalize hb0 : be 0 1 = b0 at l1
  rw [gPutLong_eq _ _ ⟨ht, by simp only; omega⟩, Option.bind_some, oput_z]
  have l2 : (b0 ++ vput (vfold x.fTime)).length ≤ 11 := by rw [List.length_append]; omega
  generalize hB1 : b0 ++ vput (vfold x.fTime) = B1 at l2
  rw [gPutInt_eq _ _ ⟨by omega, by simp only; omega⟩, Option.bind_some]
  unfold vputInt
  rw [if_pos (by omega), oput_z]
  have l3 : (B1 ++ vput (vfold x.fOffset)).length ≤ 21 := by rw [List.length_append]; omega
  generalize hB2 : B1 ++ vput (vfold x.fOffset) = B2 at l3
  rw [gPutVaried_z hk (by omega) (by omega), Option.bind_some]
  have l4 : (B2 ++ (vput (vfold (blen x.fKey)) ++ x.fKey.data)).length ≤ 31 + x.fKey.data.length := by rw [List.length_append]; omega
  generalize hB3 : B2 ++ (vput (vfold (blen x.fKey)) ++ x.fKey.data) = B3 at l4
  rw [gPutVaried_z hv (by omega) (by omega), Option.bind_some]
  have l5 : (B3 ++ (vput (vfold (blen x.fValue)) ++ x.fValue.data)).length ≤ 41 + x.fKey.data.length + x.fValue.data.length := by rw [List.length_append]; omega
  generalize hB4 : B3 ++ (vput (vfold (blen x.fValue)) ++ x.fValue.data) = B4 at l5
  rw [hwrite_z _ _ hh (by omega), Option.bind_some, gOText_eq, Option.bind_some, otx_z]
  rw [← hB4, ← hB3, ← hB2, ← hB1, ← hb0]
  simp only [encBody, encBl, encHs, List.append_assoc]
end Go.Proofs.YtlhgogjcaegehaaGreat.Sl
namespace Go.Proofs.YtlhgogjcaegehaaGreat.Sl
open Go.RowKit
set_option linter.unusedVariables false
set_option linter.unusedSimpArgs false
theorem right_zero {x : Rec} (h : rightR x = 0) : (0 ≤ x.fOffset ∧ x.fOffset ≤ 2147483647) ∧ bright x.fKey = true ∧ bright x.fValue = true ∧ ∀ h, h ∈ x.fHeaders → bright h.fValue = true := by
  unfold rightR at h
  split at h
  · exact absurd h (by decide)
  · rename_i h1
    split at h
    · rename_i h2
      simp only [Bool.and_eq_true] at h2
      exact ⟨by omega, h2.1.1, h2.1.2, fun y hy => List.all_eq_true.1 h2.2 y hy⟩
    · exact absurd h (by decide)
theorem rec_write (x : Rec) (t : List UInt8) (ht : wI x.fTime) (ho : wI x.fOffset) (hw : rwt x ≤ 900000) (hl : t.length ≤ 100000000) : f_record_Write (t, 0) x = some (if rightR x = 0 then (t ++ encRec x, 0) else (t, rightR x)) := by
  unfold f_record_Write
  rw [record_right x ho, Option.bind_some]
  by_cases hr : rightR x = 0
  · obtain ⟨h1, h2, h3, h4⟩ := right_zero hr
    have hb := encBody_len x ht ho hw
    rw [if_pos hr, if_pos hr, body_write x ht h1 h2 h3 h4 hw, Option.bind_some]
    simp only [if_true]
    rw [gPutName_z (by omega) (by omega), Option.bind_some]
    rfl
  · rw [if_neg hr, if_neg hr, gOFail_eq, Option.bind_some, ofail_z]
end Go.Proofs.YtlhgogjcaegehaaGreat.Sl
namespace Go.Proofs.YtlhgogjcaegehaaGreat.Sl
open Go.RowKit
set_option linter.unusedVariables false
set_option linter.unusedSimpArgs false
theorem okRec_of {x : Rec} (ht : wI x.fTime) (hr : rightR x = 0) (hw : rwt x ≤ 900000) : okRec x ∧ vfold ((encBody x).length : Int) < 2 ^ (32 : Int).toNat := by
  obtain ⟨h1, h2, h3, h4⟩ := right_zero hr
  have hb := encBody_len x ht ⟨by omega, by omega⟩ hw
  unfold rwt at hw hb
  have hn := hwts_len x.fHeaders
  have bk := blen_small x.fKey (by omega)
  have bv := blen_small x.fValue (by omega)
  refine ⟨⟨?_, ⟨vfold_ok _ (by omega) h1.2, h1.1⟩, ⟨vfold_ok _ bk.1 bk.2, h2⟩, ⟨vfold_ok _ bv.1 bv.2, h3⟩, vfold_ok _ (by omega) (by omega), fun h hh => ?_⟩, vfold_ok _ (by omega) (by omega)⟩
  · rw [show 2 ^ (64 : Int).toNat = 18446744073709551616 by decide]
    exact vfold_lt _ ht.1 ht.2
  · have hm := hwts_mem _ _ hh
    unfold hwt at hm
    have b := blen_small h.fValue (by omega)
    exact ⟨vfold_ok _ (by omega) (by omega), vfold_ok _ b.1 b.2, h4 h hh⟩
theorem encRec_len (x : Rec) (ht : wI x.fTime) (ho : wI x.fOffset) (hw : rwt x ≤ 900000) : (encRec x).length ≤ 61 + rwt x := by
  have hb := encBody_len x ht ho hw
  have h6 := vput_ten _ (vfold_lt ((encBody x).length : Int) (by omega) (by omega))
  rw [encRec, List.length_append]
  omega
end Go.Proofs.YtlhgogjcaegehaaGreat.Sl
namespace Go.Proofs.YtlhgogjcaegehaaGreat.Sl
set_option linter.unusedVariables false
def crcP : Nat := 2197175160
def crcS (x : Nat) : Nat := x / 2 ^^^ (if x % 2 = 1 then crcP else 0)
def crcI : Nat → Nat → Nat
  | 0, x => x
  | k + 1, x => crcI k (crcS x)
theorem nat_xor_mod2 (x y : Nat) : (x ^^^ y) % 2 = (x % 2 + y % 2) % 2 := by
  have h := Nat.xor_mod_two_pow (a := x) (b := y) (n := 1)
  rw [Nat.pow_one] at h
  rw [h]
  rcases Nat.mod_two_eq_zero_or_one x with hx | hx <;> rcases Nat.mod_two_eq_zero_or_one y with hy | hy <;> rw [hx, hy] <;> rfl
theorem nat_xor_div2 (x y : Nat) : (x ^^^ y) / 2 = (x / 2) ^^^ (y / 2) := Nat.xor_div_two
theorem crcS_xor (x y : Nat) : crcS (x ^^^ y) = crcS x ^^^ crcS y := by
  unfold crcS
  rw [nat_xor_div2, nat_xor_mod2]
  rcases Nat.mod_two_eq_zero_or_one x with hx | hx <;> rcases Nat.mod_two_eq_zero_or_one y with hy | hy <;> simp [hx, hy]
  · rw [Nat.xor_assoc]
  · ac_rfl
  · rw [show x / 2 ^^^ crcP ^^^ (y / 2 ^^^ crcP) = x / 2 ^^^ y / 2 ^^^ (crcP ^^^ crcP) by ac_rfl, Nat.xor_self, Nat.xor_zero]
theorem crcI_xor : ∀ (k x y : Nat), crcI k (x ^^^ y) = crcI k x ^^^ crcI k y
  | 0, _, _ => rfl
  | k + 1, x, y => by show crcI k _ = _; rw [crcS_xor, crcI_xor k]; rfl
theorem crcS_even (x : Nat) : crcS (2 * x) = x := by
  unfold crcS; rw [if_neg (by omega), Nat.xor_zero]; omega
theorem crcI_shift : ∀ (k x : Nat), crcI k (2 ^ k * x) = x
  | 0, x => by rw [Nat.pow_zero, Nat.one_mul]; rfl
  | k + 1, x => by
    show crcI k (crcS _) = x
    rw [show 2 ^ (k + 1) * x = 2 * (2 ^ k * x) by rw [Nat.pow_succ, Nat.mul_comm (2 ^ k) 2, Nat.mul_assoc], crcS_even]
    exact crcI_shift k x
theorem crcS_lt {x : Nat} (h : x < 2 ^ 32) : crcS x < 2 ^ 32 := by
  unfold crcS
  exact Nat.xor_lt_two_pow (by omega) (by split <;> decide)
theorem crcI_lt : ∀ (k : Nat) {x : Nat}, x < 2 ^ 32 → crcI k x < 2 ^ 32
  | 0, _, h => h
  | k + 1, _, h => crcI_lt k (crcS_lt h)
theorem crcI_byte (x b : Nat) (hb : b < 256) : crcI 8 (x ^^^ b) = crcI 8 ((x % 256) ^^^ b) ^^^ (x / 256) := by
  have h : x = (x % 256) ^^^ (2 ^ 8 * (x / 256)) := by
    apply Nat.eq_of_testBit_eq
    intro i
    rw [Nat.testBit_xor, show (256 : Nat) = 2 ^ 8 from rfl, Nat.testBit_mod_two_pow, Nat.testBit_two_pow_mul, Nat.testBit_div_two_pow]
    by_cases hi : i < 8
    · simp [hi, show ¬ 8 ≤ i by omega]
    · simp [hi, show 8 ≤ i by omega]
  conv => lhs; rw [h]
  rw [show x % 256 ^^^ 2 ^ 8 * (x / 256) ^^^ b = (x % 256 ^^^ b) ^^^ (2 ^ 8 * (x / 256)) by ac_rfl, crcI_xor, crcI_shift]
def crcR : Nat → List UInt8 → Nat
  | x, [] => x
  | x, c :: l => crcR (crcI 8 (x ^^^ c.toNat)) l
theorem crcR_append : ∀ (l m : List UInt8) (x : Nat), crcR x (l ++ m) = crcR (crcR x l) m
  | [], _, _ => rfl
  | c :: l, m, x => crcR_append l m _
theorem crcR_lt : ∀ (l : List UInt8) {x : Nat}, x < 2 ^ 32 → crcR x l < 2 ^ 32
  | [], _, h => h
  | c :: l, _, h => crcR_lt l (crcI_lt 8 (Nat.xor_lt_two_pow h (Nat.lt_trans c.toNat_lt (by decide))))
end Go.Proofs.YtlhgogjcaegehaaGreat.Sl
namespace Go.Proofs.YtlhgogjcaegehaaGreat.Sl
open Go.RowKit
set_option linter.unusedVariables false
set_option linter.unusedSimpArgs false
theorem u32_ofInt (a : Nat) (h : a < 4294967296) : (BitVec.ofInt IntKind.u32.bits (a : Int)).toNat = a := by
  show (BitVec.ofInt 32 (a : Int)).toNat = a
  rw [BitVec.ofInt_natCast, BitVec.toNat_ofNat, Nat.mod_eq_of_lt (by omega)]
theorem u8_ofInt (a : Nat) (h : a < 256) : (BitVec.ofInt IntKind.u8.bits (a : Int)).toNat = a := by
  show (BitVec.ofInt 8 (a : Int)).toNat = a
  rw [BitVec.ofInt_natCast, BitVec.toNat_ofNat, Nat.mod_eq_of_lt (by omega)]
theorem wrap_u32 (a : Nat) : IntKind.u32.wrap (a : Int) = ((a % 4294967296 : Nat) : Int) := by
  rw [IntKind.wrap_u32]; omega
theorem wrap_u8 (a : Nat) : IntKind.u8.wrap (a : Int) = ((a % 256 : Nat) : Int) := by
  rw [IntKind.wrap_u8]; omega
theorem xor_u32 (a b : Nat) (ha : a < 4294967296) (hb : b < 4294967296) : Go.bits .xor .u32 (a : Int) (b : Int) = ((a ^^^ b : Nat) : Int) := by
  show IntKind.u32.wrap (((BitVec.ofInt IntKind.u32.bits (a : Int)) ^^^ (BitVec.ofInt IntKind.u32.bits (b : Int))).toNat : Int) = _
  rw [BitVec.toNat_xor, u32_ofInt a ha, u32_ofInt b hb, wrap_u32, Nat.mod_eq_of_lt (Nat.xor_lt_two_pow (n := 32) ha hb)]
theorem xor_u8 (a b : Nat) (ha : a < 256) (hb : b < 256) : Go.bits .xor .u8 (a : Int) (b : Int) = ((a ^^^ b : Nat) : Int) := by
  show IntKind.u8.wrap (((BitVec.ofInt IntKind.u8.bits (a : Int)) ^^^ (BitVec.ofInt IntKind.u8.bits (b : Int))).toNat : Int) = _
  rw [BitVec.toNat_xor, u8_ofInt a ha, u8_ofInt b hb, wrap_u8, Nat.mod_eq_of_lt (Nat.xor_lt_two_pow (n := 8) ha hb)]
theorem and1_u32 (a : Nat) (ha : a < 4294967296) : Go.bits .and .u32 (a : Int) 1 = ((a % 2 : Nat) : Int) := by
  show IntKind.u32.wrap (((BitVec.ofInt IntKind.u32.bits (a : Int)) &&& (BitVec.ofInt IntKind.u32.bits ((1 : Nat) : Int))).toNat : Int) = _
  rw [BitVec.toNat_and, u32_ofInt a ha, u32_ofInt 1 (by decide), wrap_u32, Nat.and_one_is_mod, Nat.mod_eq_of_lt (by omega)]
theorem shr1_u32 (a : Nat) : shrK .u32 (a : Int) 1 = ((a / 2 : Nat) : Int) := by
  show Int.fdiv (a : Int) 2 = _
  rw [Int.fdiv_eq_ediv_of_nonneg _ (by decide)]
  omega
theorem shr8_u32 (a : Nat) : shrK .u32 (a : Int) 8 = ((a / 256 : Nat) : Int) := by
  show Int.fdiv (a : Int) 256 = _
  rw [Int.fdiv_eq_ediv_of_nonneg _ (by decide)]
  omega
theorem crcS_int (y : Nat) (hy : y < 4294967296) : (if Go.bits .and .u32 (y : Int) 1 = 1 then some (Go.bits .xor .u32 (shrK .u32 (y : Int) 1) 2197175160) else some (shrK .u32 (y : Int) 1)) = some ((crcS y : Nat) : Int) := by
  rw [and1_u32 y hy, shr1_u32, show (2197175160 : Int) = ((2197175160 : Nat) : Int) from rfl, xor_u32 _ _ (by omega) (by decide)]
  unfold crcS
  by_cases h : y % 2 = 1
  · rw [if_pos (by omega), if_pos h]; rfl
  · rw [if_neg (by omega), if_neg h, Nat.xor_zero]
theorem new_l2 : ∀ (m y k : Nat), y < 4294967296 → k ≤ 8 → 8 - k < m → f_crc_New_l2 m (y : Int) k = some (((crcI (8 - k) y : Nat) : Int), 8)
  | 0, _, _, _, _, h => by omega
  | m + 1, y, k, hy, hk, hm => by
    rw [f_crc_New_l2]
    by_cases h : k < 8
    · rw [if_pos (by omega), crcS_int y hy, Option.bind_some, if_pos (by omega), new_l2 m (crcS y) (k + 1) (crcS_lt hy) (by omega) (by omega), show 8 - k = (8 - (k + 1)) + 1 by omega]
      rfl
    · rw [if_neg (by omega), show 8 - k = 0 by omega, show k = 8 by omega]
      rfl
def crcTab : List Int := (List.range 256).map (fun j => ((crcI 8 j : Nat) : Int))
theorem crcTab_get (j : Nat) (hj : j < 256) : crcTab[j]? = some ((crcI 8 j : Nat) : Int) := by
  unfold crcTab
  rw [List.getElem?_map, List.getElem?_range hj]
  rfl
theorem new_l1 : ∀ (m k : Nat) (l : List Int), l.length = 256 → k ≤ 256 → 256 - k < m → (∀ j, j < k → l[j]? = some ((crcI 8 j : Nat) : Int)) → f_crc_New_l1 m k l = some (256, crcTab)
  | 0, _, _, _, _, h, _ => by omega
  | m + 1, k, l, hl, hk, hm, hj => by
    rw [f_crc_New_l1]
    by_cases h : k < 256
    · have e1 : IntKind.u32.wrap (k : Int) = ((k : Nat) : Int) := by rw [wrap_u32, Nat.mod_eq_of_lt (by omega)]
      have e2 : f_crc_New_l2 ((8 : Int).toNat + 1) (IntKind.u32.wrap (k : Int)) 0 = some (((crcI 8 k : Nat) : Int), 8) := by
        rw [e1]
        exact new_l2 9 k 0 (by omega) (by omega) (by omega)
      have e3 : l[k]? = some (l[k]'(by omega)) := List.getElem?_eq_getElem (by omega)
      rw [if_pos (by omega), e2, Option.bind_some]
      dsimp only
      rw [e3, Option.bind_some, Option.bind_some, if_pos (by omega)]
      refine new_l1 m (k + 1) _ (by rw [List.length_set]; exact hl) (by omega) (by omega) (fun j hjk => ?_)
      rw [List.getElem?_set]
      by_cases e : k = j
      · rw [if_pos e, if_pos (by omega), e]
      · rw [if_neg e]
        exact hj j (by omega)
    · rw [if_neg (by omega), show k = 256 by omega]
      congr 2
      apply List.ext_getElem?
      intro j
      by_cases hj2 : j < 256
      · rw [crcTab_get j hj2]
        exact hj j (by omega)
      · rw [List.getElem?_eq_none (by omega), List.getElem?_eq_none (by unfold crcTab; simp; omega)]
theorem crc_new : f_crc_New = some crcTab := by
  unfold f_crc_New
  rw [show (256 : Int).toNat + 1 = 257 from rfl, new_l1 257 0 _ (List.length_replicate ..) (by omega) (by omega) (fun j hj => absurd hj (by omega)), Option.bind_some]
theorem more_l1 (s : List UInt8) (hs : s.length ≤ 9223372036854775806) : ∀ (m y k : Nat), y < 4294967296 → k ≤ s.length → s.length - k < m → f_crc_TableMore_l1 s m (y : Int) k crcTab = some (((crcR y (s.drop k) : Nat) : Int), s.length, crcTab)
  | 0, _, _, _, _, h => by omega
  | m + 1, y, k, hy, hk, hm => by
    rw [f_crc_TableMore_l1]
    by_cases h : k < s.length
    · have e1 : s[k]? = some s[k] := List.getElem?_eq_getElem h
      have hc := s[k].toNat_lt
      have hx : y % 256 ^^^ s[k].toNat < 256 := Nat.xor_lt_two_pow (n := 8) (by omega) hc
      have e2 : Go.bits .xor .u8 (IntKind.u8.wrap (y : Int)) (s[k].toNat : Int) = ((y % 256 ^^^ s[k].toNat : Nat) : Int) := by
        rw [wrap_u8, xor_u8 _ _ (by omega) (by omega)]
      have e3 : crcI 8 (y % 256 ^^^ s[k].toNat) < 2 ^ 32 := crcI_lt 8 (by omega)
      rw [if_pos (by omega), e1, Option.bind_some, e2, if_pos (by omega), Int.toNat_natCast, crcTab_get _ hx, Option.bind_some, if_pos (by omega), shr8_u32, xor_u32 _ _ (by omega) (by omega), ← crcI_byte y _ (by omega),
        more_l1 s hs m _ (k + 1) (crcI_lt 8 (Nat.xor_lt_two_pow (n := 32) hy (by omega))) (by omega) (by omega)]
      rw [drop_cons e1]
      rfl
    · rw [if_neg (by omega), show k = s.length by omega, List.drop_length]
      rfl
def crcM (x : Nat) (s : List UInt8) : Nat := 4294967295 ^^^ crcR (4294967295 ^^^ x) s
theorem crcM_lt {x : Nat} (hx : x < 4294967296) (s : List UInt8) : crcM x s < 4294967296 := Nat.xor_lt_two_pow (n := 32) (by decide) (crcR_lt s (Nat.xor_lt_two_pow (n := 32) (by decide) hx))
theorem ones2 (x : Nat) : 4294967295 ^^^ (4294967295 ^^^ x) = x := by rw [← Nat.xor_assoc, Nat.xor_self, Nat.zero_xor]
theorem crcM_append (x : Nat) (s t : List UInt8) : crcM x (s ++ t) = crcM (crcM x s) t := by
  unfold crcM
  rw [crcR_append, ones2]
theorem crcM_nil (x : Nat) : crcM x [] = x := ones2 x
theorem crc_more (x : Nat) (hx : x < 4294967296) (s : List UInt8) (hs : s.length ≤ 9223372036854775806) : f_crc_TableMore crcTab (x : Int) s = some (((crcM x s : Nat) : Int), crcTab) := by
  unfold f_crc_TableMore
  have h1 : (4294967295 ^^^ x : Nat) < 4294967296 := Nat.xor_lt_two_pow (n := 32) (by decide) hx
  rw [show (4294967295 : Int) = ((4294967295 : Nat) : Int) from rfl, xor_u32 _ _ (by decide) hx, Int.toNat_natCast, more_l1 s hs _ _ 0 h1 (by omega) (by omega), Option.bind_some, List.drop_zero]
  dsimp only
  rw [xor_u32 _ _ (by decide) (crcR_lt s h1)]
  rfl
theorem sum_l1 : ∀ (l : List (List UInt8)) (x : Nat), x < 4294967296 → (∀ s, s ∈ l → s.length ≤ 9223372036854775806) → f_crc_TableSum_l1 l (x : Int) crcTab = some (((crcM x l.flatten : Nat) : Int), crcTab)
  | [], x, _, _ => by rw [f_crc_TableSum_l1, List.flatten_nil, crcM_nil]
  | s :: l, x, hx, hs => by
    rw [f_crc_TableSum_l1, crc_more x hx s (hs s (List.mem_cons_self ..)), Option.bind_some]
    dsimp only
    rw [sum_l1 l _ (crcM_lt hx s) (fun t ht => hs t (List.mem_cons_of_mem _ ht)), List.flatten_cons, crcM_append]
theorem crc_sum (l : List (List UInt8)) (hs : ∀ s, s ∈ l → s.length ≤ 9223372036854775806) : f_crc_TableSum crcTab l = some (((crcM 0 l.flatten : Nat) : Int), crcTab) := by
  unfold f_crc_TableSum
  have h := sum_l1 l 0 (by decide) hs
  rw [show ((0 : Nat) : Int) = 0 from rfl] at h
  rw [h, Option.bind_some]
end Go.Proofs.YtlhgogjcaegehaaGreat.Sl
namespace Go.Proofs.YtlhgogjcaegehaaGreat.Sl
open Go.RowKit
set_option linter.unusedVariables false
set_option linter.unusedSimpArgs false
def pre21 (p : Pfx) : List UInt8 := be p.fBase 8 ++ (be p.fLength 4 ++ (be p.fLeader 4 ++ (be 2 1 ++ be (s32 p.fSum) 4)))
def post21 (p : Pfx) : List UInt8 := be p.fAttr 2 ++ encI [4, 8, 8, 8, 2, 4, 4] [p.fLast, p.fFirst, p.fMax, p.fProducer, p.fEpoch, p.fSequence, p.fCount]
theorem encP_21 (p : Pfx) : encP p = pre21 p ++ post21 p := by
  unfold encP KS toL pre21 post21
  simp only [encI, List.append_assoc]
theorem pre21_len (p : Pfx) : (pre21 p).length = 21 := by
  unfold pre21
  simp only [List.length_append, be_length]
theorem encP_drop (p : Pfx) : (encP p).drop 21 = post21 p := by
  rw [encP_21, ← pre21_len p, List.drop_left]
def okRc (x : Rec) : Prop := okRec x ∧ vfold ((encBody x).length : Int) < 2 ^ (32 : Int).toNat
def chk (a : Bat) : Int := (f_batch_Check a).getD 0
def body (a : Bat) : List UInt8 := encs encRec a.fRecords
def pB (a : Bat) (s : Int) : Pfx := ⟨a.fBase, 49 + ((body a).length : Int), a.fLeader, s, ofBits a.fAppend a.fTxn a.fControl, a.fLast, a.fFirst, a.fMax, a.fProducer, a.fEpoch, a.fSequence, (a.fRecords.length : Int)⟩
def sumP (p : Pfx) (s : List UInt8) : Nat := crcM 0 (post21 p ++ s)
def sumB (a : Bat) : Nat := sumP (pB a 0) (body a)
def encBt (a : Bat) : List UInt8 := encP (pB a (sumB a)) ++ body a
def okB (a : Bat) : Prop := okP (pB a (sumB a)) ∧ acheck (ofBits a.fAppend a.fTxn a.fControl) = 0 ∧ (∀ x, x ∈ a.fRecords → okRc x) ∧ chk a = 0
end Go.Proofs.YtlhgogjcaegehaaGreat.Sl
namespace Go.Proofs.YtlhgogjcaegehaaGreat.Sl
open Go.RowKit
set_option linter.unusedVariables false
set_option linter.unusedSimpArgs false
def bnR (r : Rec) : Prop := r.fHeaders.length ≤ 1000000 ∧ r.fKey.data.length ≤ 1000000 ∧ r.fValue.data.length ≤ 1000000
def bnB (a : Bat) : Prop := wf_Bat a ∧ a.fRecords.length ≤ 1000000 ∧ ∀ r, r ∈ a.fRecords → bnR r
theorem chk_eq {a : Bat} (h : bnB a) : f_batch_Check a = some (chk a) ∧ f_r11_Check a = some (chk a) := by
  obtain ⟨cr, e0, h1, h2, _⟩ := check_same a h.1 h.2.1 h.2.2
  have e : chk a = chkB a cr e0 := by unfold chk; rw [h1]; rfl
  rw [e]
  exact ⟨h1, h2⟩
theorem b_fits_8 (n : Int) : fits n 8 = decide (-9223372036854775808 ≤ n ∧ n ≤ 9223372036854775807) := by
  rw [Bool.eq_iff_iff]
  unfold fits
  simp only [Bool.and_eq_true, decide_eq_true_eq]
  have : (2 : Int) ^ (8 * (8 : Int).toNat - 1) = 9223372036854775808 := by decide
  omega
end Go.Proofs.YtlhgogjcaegehaaGreat.Sl
namespace Go.Proofs.YtlhgogjcaegehaaGreat.Sl
open Go.RowKit
set_option linter.unusedVariables false
set_option linter.unusedSimpArgs false
theorem firstR_zero : ∀ {l : List Rec}, firstR l = 0 → ∀ r, r ∈ l → rightR r = 0
  | x :: l, h, r, hr => by
    rw [firstR] at h
    by_cases hx : rightR x = 0
    · rw [if_pos hx] at h
      rcases List.mem_cons.1 hr with rfl | hr
      · exact hx
      · exact firstR_zero h r hr
    · rw [if_neg hx] at h
      exact absurd h hx
theorem chk_facts {a : Bat} (h : bnB a) (h0 : chk a = 0) : numOk a ∧ prodOk a ∧ (a.fControl = true → a.fTxn = true ∧ (a.fRecords.length : Int) = 1) ∧ ∀ r, r ∈ a.fRecords → rightR r = 0 := by
  obtain ⟨cr, e0, h1, h2, h3, h4⟩ := check_same a h.1 h.2.1 h.2.2
  have e : chk a = chkB a cr e0 := by unfold chk; rw [h1]; rfl
  rw [e] at h0
  unfold chkB at h0
  by_cases hn : numOk a
  rotate_left
  · rw [if_neg hn] at h0; exact absurd h0 (by decide)
  rw [if_pos hn] at h0
  by_cases hc : a.fControl = true
  · rw [if_pos hc] at h0
    by_cases ht : a.fTxn = true
    rotate_left
    · rw [if_neg ht] at h0; exact absurd h0 (by decide)
    rw [if_pos ht] at h0
    by_cases hp : prodOk a
    rotate_left
    · rw [if_neg hp] at h0; exact absurd h0 (by decide)
    rw [if_pos hp] at h0
    by_cases hl : (a.fRecords.length : Int) = 1
    rotate_left
    · rw [if_neg hl] at h0; exact absurd h0 (by decide)
    rw [if_pos hl] at h0
    by_cases hf : firstR a.fRecords = 0
    rotate_left
    · rw [if_neg hf] at h0; exact absurd h0 hf
    exact ⟨hn, hp, fun _ => ⟨ht, hl⟩, firstR_zero hf⟩
  · rw [if_neg hc] at h0
    by_cases hp : prodOk a
    rotate_left
    · rw [if_neg hp] at h0; exact absurd h0 (by decide)
    rw [if_pos hp] at h0
    by_cases hf : firstR a.fRecords = 0
    rotate_left
    · rw [if_neg hf] at h0; exact absurd h0 hf
    exact ⟨hn, hp, fun h => absurd h hc, firstR_zero hf⟩
theorem attr_ok : ∀ a t c : Bool, (c = true → t = true) → acheck (ofBits a t c) = 0 := by decide
theorem ofBits_le : ∀ a t c : Bool, 0 ≤ ofBits a t c ∧ ofBits a t c ≤ 56 := by decide
theorem fits8 {n : Int} (h : wI n) : fits n (8 : Nat) = true := by
  show fits n 8 = true
  rw [b_fits_8]
  exact decide_eq_true h
theorem fits4 {n : Int} (h : -2147483648 ≤ n ∧ n ≤ 2147483647) : fits n (4 : Nat) = true := by
  show fits n 4 = true
  rw [fits_4]
  exact decide_eq_true h
theorem fits2 {n : Int} (h : -32768 ≤ n ∧ n ≤ 32767) : fits n (2 : Nat) = true := by
  show fits n 2 = true
  rw [b_fits_2]
  exact decide_eq_true h
def smB (a : Bat) : Prop := bnB a ∧ (∀ r, r ∈ a.fRecords → rwt r ≤ 900000) ∧ (body a).length ≤ 900000
theorem prod_rng {a : Bat} (h : prodOk a) : (-32768 ≤ a.fEpoch ∧ a.fEpoch ≤ 32767) ∧ (-2147483648 ≤ a.fSequence ∧ a.fSequence ≤ 2147483647) := by
  unfold prodOk at h
  split at h
  · omega
  · split at h <;> omega
theorem okP_pB {a : Bat} (hb : smB a) (h0 : chk a = 0) (s : Nat) (hs : s < 4294967296) : okP (pB a s) := by
  obtain ⟨hn, hp, hc, hr⟩ := chk_facts hb.1 h0
  obtain ⟨n1, n2, n3, n4, n5, n6⟩ := hn
  obtain ⟨w1, w2, _, _, _, w6, w7, w8, w9, w10, w11, w12⟩ := hb.1.1
  obtain ⟨p1, p2⟩ := prod_rng hp
  have hl := hb.2.2
  have hcount := hb.1.2.1
  have ha := ofBits_le a.fAppend a.fTxn a.fControl
  have hs2 : -2147483648 ≤ s32 (s : Int) ∧ s32 (s : Int) ≤ 2147483647 := by unfold s32; split <;> omega
  refine ⟨⟨fits8 w1, fits4 ⟨?_, ?_⟩, fits4 ⟨?_, ?_⟩, rfl, fits4 hs2, fits2 ⟨?_, ?_⟩, fits4 ⟨?_, ?_⟩, fits8 w7, fits8 w8, fits8 w9, fits2 p1, fits4 p2, fits4 ⟨?_, ?_⟩, trivial⟩, ⟨?_, ?_⟩, ?_, ?_⟩
  all_goals (try unfold pB) <;> (try dsimp only) <;> omega
theorem sumB_lt (a : Bat) : sumB a < 4294967296 := crcM_lt (by decide) _
theorem okB_of {a : Bat} (hb : smB a) (h0 : chk a = 0) : okB a := by
  obtain ⟨hn, hp, hc, hr⟩ := chk_facts hb.1 h0
  refine ⟨okP_pB hb h0 _ (sumB_lt a), attr_ok _ _ _ (fun h => (hc h).1), fun x hx => ?_, h0⟩
  exact okRec_of (hb.1.1.2.2.2.2.2.2.2.2.2.2.2.2 x hx).1 (hr x hx) (hb.2.1 x hx)
theorem encBt_len {a : Bat} (h : okB a) : (encBt a).length = 61 + (body a).length := by
  unfold encBt
  rw [List.length_append, encP_len h.1.1]
theorem benc_l1 : ∀ (l : List Rec) (t : List UInt8), (∀ x, x ∈ l → wI x.fTime ∧ wI x.fOffset ∧ rwt x ≤ 900000 ∧ rightR x = 0) → t.length + (encs encRec l).length ≤ 1000000 → f_batch_Encode_l1 l (t, 0) = some (t ++ encs encRec l, 0)
  | [], t, _, _ => by rw [encs, List.append_nil]; rfl
  | x :: l, t, h, hl => by
    obtain ⟨h1, h2, h3, h4⟩ := h x (.head _)
    rw [encs, List.length_append] at hl
    rw [f_batch_Encode_l1, rec_write x t h1 h2 h3 (by omega), if_pos h4, Option.bind_some, benc_l1 l _ (fun y hy => h y (.tail _ hy)) (by rw [List.length_append]; omega), encs, List.append_assoc]
theorem benc {a : Bat} (hb : smB a) : f_batch_Encode a = some (if chk a = 0 then (encBt a, 0) else ([], chk a)) := by
  unfold f_batch_Encode
  rw [(chk_eq hb.1).1, Option.bind_some]
  by_cases h0 : chk a = 0
  rotate_left
  · rw [if_neg h0, if_neg h0]
  obtain ⟨hn, hp, hc, hr⟩ := chk_facts hb.1 h0
  have hl := hb.2.2
  have hw : ∀ x, x ∈ a.fRecords → wI x.fTime ∧ wI x.fOffset ∧ rwt x ≤ 900000 ∧ rightR x = 0 := fun x hx => ⟨(hb.1.1.2.2.2.2.2.2.2.2.2.2.2.2 x hx).1, (hb.1.1.2.2.2.2.2.2.2.2.2.2.2.2 x hx).2.1, hb.2.1 x hx, hr x hx⟩
  have hlb : (encs encRec a.fRecords).length ≤ 900000 := hl
  rw [if_pos h0, if_pos h0, benc_l1 a.fRecords [] hw (by rw [List.length_nil]; omega), Option.bind_some, List.nil_append, gOText_eq, Option.bind_some]
  dsimp only
  rw [otx_z]
  dsimp only
  rw [if_pos (show -9223372036854775808 ≤ (49 + ((encs encRec a.fRecords).length : Int)) ∧ (49 + ((encs encRec a.fRecords).length : Int)) ≤ 9223372036854775807 by omega), gAOf_eq, Option.bind_some]
  have hP0 : okP (pB a 0) := okP_pB hb h0 0 (by decide)
  have e0 : f_prefix_Write ([], 0) (pB a 0) = some (encP (pB a 0), 0) := by
    have := write_ok [] (p := pB a 0) ⟨hP0.1, hP0.2.1⟩ (by decide)
    rwa [List.nil_append] at this
  have e0' : f_prefix_Write ([], 0) (⟨a.fBase, (49 + ((encs encRec a.fRecords).length : Int)), a.fLeader, 0, ofBits a.fAppend a.fTxn a.fControl, a.fLast, a.fFirst, a.fMax, a.fProducer, a.fEpoch, a.fSequence, (a.fRecords.length : Int)⟩ : Pfx) = some (encP (pB a 0), 0) := e0
  rw [e0', Option.bind_some, gOText_eq, Option.bind_some]
  dsimp only
  rw [otx_z]
  dsimp only
  rw [if_pos rfl, if_pos rfl, Option.bind_some, if_neg (by decide), crc_new, Option.bind_some]
  have hp61 := encP_len hP0.1
  have hp21 : (post21 (pB a 0)).length ≤ 61 := by rw [← encP_drop, List.length_drop]; omega
  have hs2 : [post21 (pB a 0), encs encRec a.fRecords].flatten = post21 (pB a 0) ++ encs encRec a.fRecords := by simp
  rw [if_pos (show 21 ≤ (encP (pB a 0)).length by omega), encP_drop, crc_sum [post21 (pB a 0), encs encRec a.fRecords] (by intro t ht; rcases List.mem_cons.1 ht with rfl | ht; omega; rw [List.mem_singleton.1 ht]; omega), Option.bind_some, hs2]
  dsimp only
  have hlt := sumB_lt a
  have hsum : crcM 0 (post21 (pB a 0) ++ encs encRec a.fRecords) = sumB a := rfl
  rw [hsum, if_pos (show -9223372036854775808 ≤ ((sumB a : Nat) : Int) ∧ ((sumB a : Nat) : Int) ≤ 9223372036854775807 by omega)]
  have hP := okP_pB hb h0 _ hlt
  have e1 : f_prefix_Write ([], 0) (⟨a.fBase, (49 + ((encs encRec a.fRecords).length : Int)), a.fLeader, ((sumB a : Nat) : Int), ofBits a.fAppend a.fTxn a.fControl, a.fLast, a.fFirst, a.fMax, a.fProducer, a.fEpoch, a.fSequence, (a.fRecords.length : Int)⟩ : Pfx) = some (encP (pB a (sumB a)), 0) := by
    have := write_ok [] (p := pB a (sumB a)) ⟨hP.1, hP.2.1⟩ (by decide)
    rwa [List.nil_append] at this
  have hp61' := encP_len hP.1
  rw [e1, Option.bind_some, gOPut_eq _ _ (by dsimp only; omega), oput_z, Option.bind_some, gOText_eq, Option.bind_some]
  dsimp only
  rw [otx_z]
  rfl
end Go.Proofs.YtlhgogjcaegehaaGreat.Sl
namespace Go.Proofs.YtlhgogjcaegehaaGreat.Sl
open Go.RowKit
set_option linter.unusedVariables false
set_option linter.unusedSimpArgs false
set_option maxRecDepth 100000
def ft_cursitorlaw11 : FTab := [(23, 1, 1), (30, 11, 11), (90, 2, 2), (90, 3, 4), (90, 4, 6), (103, 0, 0), (103, 1, 1)]
theorem ft_cursitorlaw11_ok : (ft_cursitorlaw11).OK Tryz.prog := ⟨FOK.mk Tryz.runUnderlying23 rfl Tryz.sizeOf9 rfl, FOK.mk Tryz.runUnderlying30 rfl Tryz.sizeOf28 rfl, FOK.mk Tryz.runUnderlying90 rfl Tryz.sizeOf23 rfl, FOK.mk Tryz.runUnderlying90 rfl Tryz.sizeOf23 rfl, FOK.mk Tryz.runUnderlying90 rfl Tryz.sizeOf88 rfl, FOK.mk Tryz.runUnderlying103 rfl Tryz.sizeOf9 rfl, FOK.mk Tryz.runUnderlying103 rfl Tryz.sizeOf23 rfl, trivial⟩
def nt_cursitorlaw11 : List Nat := [9, 28, 88]
theorem nt_cursitorlaw11_ok : NOK Tryz.prog nt_cursitorlaw11 := ⟨Tryz.isAgg9, Tryz.isAgg28, Tryz.isAgg88, trivial⟩
def f_l11_Small_l2 : List Hd → Int → Option (Lp Int Int)
  | [], y22 => some (Lp.go y22)
  | x28 :: xs, y22 => if -9223372036854775808 ≤ ((x28.fKey.length : Int) + (x28.fValue.data.length : Int)) ∧ ((x28.fKey.length : Int) + (x28.fValue.data.length : Int)) ≤ 9223372036854775807 then (if ((x28.fKey.length : Int) + (x28.fValue.data.length : Int)) > 100 then some (Lp.ret 0) else (f_l11_Small_l2 xs y22)) else none
def f_l11_Small_l1 : List Rec → Int → Option (Lp Int Int)
  | [], y5 => some (Lp.go y5)
  | x11 :: xs, y5 => if -9223372036854775808 ≤ ((x11.fKey.data.length : Int) + (x11.fValue.data.length : Int)) ∧ ((x11.fKey.data.length : Int) + (x11.fValue.data.length : Int)) ≤ 9223372036854775807 then (if ((x11.fKey.data.length : Int) + (x11.fValue.data.length : Int)) > 100 then some (Lp.ret 0) else (if (x11.fHeaders.length : Int) > 6 then some (Lp.ret 0) else ((f_l11_Small_l2 x11.fHeaders y5).bind fun e => match e with | .ret r => some (Lp.ret r) | .go y35 => (f_l11_Small_l1 xs y35)))) else none
theorem f_l11_Small_l1_z (y5 : Int) : f_l11_Small_l1 [] y5 = (some (Lp.go y5)) := rfl
theorem f_l11_Small_l1_s (x11 : Rec) (xs : List Rec) (y5 : Int) : f_l11_Small_l1 (x11 :: xs) y5 = (if -9223372036854775808 ≤ ((x11.fKey.data.length : Int) + (x11.fValue.data.length : Int)) ∧ ((x11.fKey.data.length : Int) + (x11.fValue.data.length : Int)) ≤ 9223372036854775807 then (if ((x11.fKey.data.length : Int) + (x11.fValue.data.length : Int)) > 100 then some (Lp.ret 0) else (if (x11.fHeaders.length : Int) > 6 then some (Lp.ret 0) else ((f_l11_Small_l2 x11.fHeaders y5).bind fun e => match e with | .ret r => some (Lp.ret r) | .go y35 => (f_l11_Small_l1 xs y35)))) else none) := rfl
def f_l11_Small (a0 : Bat) : Option (Int) := if (a0.fRecords.length : Int) > 12 then some 0 else ((f_l11_Small_l1 a0.fRecords 0).bind fun e => match e with | .ret r => some r | .go y37 => some 1)
set_option maxRecDepth 100000 in
set_option maxHeartbeats 4000000 in
theorem f_l11_Small_spec (a0 : Bat) (A1 : Option Addr) (c2 : Nat) (r : Int) (h : f_l11_Small a0 = some r) : SpecX Tryz.prog 17 #[.agg #[.int .i64 a0.fBase, .int .i64 a0.fLeader, .bool a0.fAppend, .bool a0.fTxn, .bool a0.fControl, .int .i64 a0.fLast, .int .i64 a0.fFirst, .int .i64 a0.fMax, .int .i64 a0.fProducer, .int .i64 a0.fEpoch, .int .i64 a0.fSequence, .slice A1 a0.fRecords.length c2]] (RX.of (sliceRd 7 Rec_rd) [.slice A1 a0.fRecords.length c2] a0.fRecords) (EmpR) (fun v A' N => v = .int .i64 r ∧ A' = EmpR ∧ N = []) := by
  refine enterA Tryz.func17 rfl Tryz.ntmps17 rfl ?_
  intro F w hX
  unfold f_l11_Small at h
  refine T.seq (T.region rfl ?_)
  refine TL.box rfl .u rfl rfl (fun b3 => ?_)
  refine TL.run ft_cursitorlaw11_ok [1] rfl rfl ?_
  refine TL.nil (X.seq (T.seq (T.seq (T.region rfl ?_))))
  refine TL.rb ft_cursitorlaw11_ok nt_cursitorlaw11_ok 0 rfl 2 rfl rfl ?_
  refine TL.q rfl .u (Ex.lenS rfl Tryz.runUnderlying28) rfl ?_
  refine TL.run ft_cursitorlaw11_ok [3] rfl rfl ?_
  by_cases c4 : (a0.fRecords.length : Int) > 12
  · replace h := ifT c4 h
    refine TL.nil (X.seq ?_)
    refine T.yes rfl (decide_eq_true c4) ?_
    refine T.seq (T.region rfl ?_)
    refine TL.run ft_cursitorlaw11_ok [0] rfl rfl ?_
    obtain rfl := Option.some.inj h
    exact TL.nil (X.seq (T.ret (X.rs (X.done1 [1] Tryz.results17 (RV.tm rfl) ⟨rfl, rfl, rfl⟩ (by rfl) (.inl rfl)))))
  · replace h := ifF c4 h
    refine TL.nil (X.seq ?_)
    refine T.no rfl (decide_eq_false c4) ?_
    refine T.skip (X.seq (T.seq (T.seq (T.region rfl ?_))))
    refine TL.rb ft_cursitorlaw11_ok nt_cursitorlaw11_ok 0 rfl 2 rfl rfl ?_
    refine TL.q rfl .u (Ex.lenS rfl Tryz.runUnderlying28) rfl ?_
    refine TL.run ft_cursitorlaw11_ok [3] rfl rfl ?_
    refine TL.nil (X.seq (T.block ?_))
    obtain ⟨E7, hE8, hO9⟩ := Option.bind_eq_some_iff.1 h
    have hk13len := RX.len_le hX
    refine T.lp (fun m e Rs => ∃ (y5 : Int) (k6 : Nat), k6 + m = a0.fRecords.length ∧ e = [(2, .int .i64 y5), (12, .slice A1 a0.fRecords.length c2), (13, .int .i64 (a0.fRecords.length : Int)), (14, .int .i64 (k6 : Int))] ∧ Rs = [BlkR b3 30 #[.int .i64 a0.fBase, .int .i64 a0.fLeader, .bool a0.fAppend, .bool a0.fTxn, .bool a0.fControl, .int .i64 a0.fLast, .int .i64 a0.fFirst, .int .i64 a0.fMax, .int .i64 a0.fProducer, .int .i64 a0.fEpoch, .int .i64 a0.fSequence, .slice A1 a0.fRecords.length c2], EmpR] ∧ f_l11_Small_l1 (a0.fRecords.drop k6) y5 = some E7) (a0.fRecords.length) [0, 0] ⟨0, 0, by simp, rfl, rfl, by rw [List.drop_zero]; exact hE8⟩ (by rfl) (by rfl) ?_
    rintro m10 _ _ ⟨y5, k6, hk13, rfl, rfl, hl12⟩
    clear hE8 h
    cases m10 with
    | zero =>
      have h := hl12
      clear hl12
      rw [List.drop_of_length_le (by omega), f_l11_Small_l1_z] at h
      have hk13ge : ¬ ((k6 : Int) < (a0.fRecords.length : Int)) := by omega
      refine T.seq (T.region rfl ?_)
      refine TL.run ft_cursitorlaw11_ok [0] rfl rfl ?_
      refine TL.nil (X.seq (T.seq ?_))
      refine T.no rfl (decide_eq_false hk13ge) ?_
      obtain rfl := Option.some.inj h
      replace h := hO9
      clear hO9
      try dsimp only at h
      refine T.exit (X.exs (X.exs (X.ex (X.seq (T.seq (T.region rfl ?_))))))
      refine TL.run ft_cursitorlaw11_ok [0] rfl rfl ?_
      obtain rfl := Option.some.inj h
      exact TL.nil (X.seq (T.ret (X.done1 [1] Tryz.results17 (RV.tm rfl) ⟨rfl, rfl, rfl⟩ (by rfl) (.inl rfl))))
    | succ m10 =>
      have h := hl12
      clear hl12
      obtain ⟨x11, hxx11⟩ : ∃ x, a0.fRecords[k6]? = some x := ⟨_, List.getElem?_eq_getElem (by omega)⟩
      rw [drop_cons hxx11, f_l11_Small_l1_s] at h
      have hk13lt : (k6 : Int) < (a0.fRecords.length : Int) := by omega
      refine T.seq (T.region rfl ?_)
      refine TL.run ft_cursitorlaw11_ok [0] rfl rfl ?_
      refine TL.nil (X.seq (T.seq ?_))
      refine T.yes rfl (decide_eq_true hk13lt) ?_
      obtain ⟨gz14, oz14, rfl, z14cs, z14cl, z14cc, z14nf, z14r⟩ := RX.elem (by decide) hX hxx11
      obtain ⟨z14S, z14r, z14rr⟩ := z14r
      obtain ⟨A15, c16, rfl, z14s0⟩ := z14r
      have hX17 : (RX.of (sliceRd 3 Hd_rd) [.slice A15 x11.fHeaders.length c16] x11.fHeaders).reads w F := ⟨z14S, z14s0, z14rr⟩
      refine T.skip (X.seq (T.seq (T.block (T.seq (T.region rfl ?_)))))
      refine TL.q rfl .u (Ex.ixS (k := k6) rfl rfl rfl Tryz.runUnderlying28 Tryz.sizeOf90 (List.getElem?_eq_some_iff.1 hxx11).1) rfl ?_
      refine TL.q rfl .u (Ex.oS (us := [.int .i64 x11.fTime, .int .i64 x11.fOffset, .bool x11.fKey.null, .string (bsOf x11.fKey.data), .bool x11.fValue.null, .string (bsOf x11.fValue.data), .slice A15 x11.fHeaders.length c16]) 0 rfl Tryz.isAgg90 Tryz.sizeOf90 z14nf z14cc rfl rfl rfl) rfl ?_
      refine TL.alloc rfl .u Tryz.zeroValue90 rfl (fun b18 => ?_)
      refine TL.st0 (cs' := #[.int .i64 x11.fTime, .int .i64 x11.fOffset, .bool x11.fKey.null, .string (bsOf x11.fKey.data), .bool x11.fValue.null, .string (bsOf x11.fValue.data), .slice A15 x11.fHeaders.length c16]) rfl .u rfl rfl Tryz.sizeOf90 rfl rfl rfl rfl ?_
      refine TL.nil (X.seq (T.seq (T.seq (T.region rfl ?_))))
      refine TL.rb ft_cursitorlaw11_ok nt_cursitorlaw11_ok 0 rfl 3 rfl rfl ?_
      refine TL.q rfl .u (Ex.lenB rfl Tryz.runUnderlying9) rfl ?_
      refine TL.rb ft_cursitorlaw11_ok nt_cursitorlaw11_ok 0 rfl 3 rfl rfl ?_
      refine TL.q rfl .u (Ex.lenB rfl Tryz.runUnderlying9) rfl ?_
      replace h := guard_some h
      obtain ⟨c19, h⟩ := h
      refine TL.q rfl .u (Ex.add rfl rfl c19) rfl ?_
      by_cases c20 : ((x11.fKey.data.length : Int) + (x11.fValue.data.length : Int)) > 100
      · replace h := ifT c20 h
        refine TL.run ft_cursitorlaw11_ok [9, 10] rfl rfl ?_
        refine TL.hv 28 rfl (decide_eq_true c20) ?_
        refine TL.rw ft_cursitorlaw11_ok 5 rfl ?_
        refine TL.nil (X.seq ?_)
        refine T.yes rfl rfl ?_
        refine T.seq (T.region rfl ?_)
        refine TL.run ft_cursitorlaw11_ok [0] rfl rfl ?_
        obtain rfl := Option.some.inj h
        replace h := hO9
        clear hO9
        try dsimp only at h
        obtain rfl := Option.some.inj h
        exact TL.nil (X.seq (T.ret (X.rs (X.rb (X.rs (X.rs (X.rb (X.rs (X.done1 [2] Tryz.results17 (RV.tm rfl) ⟨rfl, rfl, rfl⟩ (by rfl) (.inl rfl))))))))))
      · replace h := ifF c20 h
        refine TL.run ft_cursitorlaw11_ok [9, 10] rfl rfl ?_
        refine TL.hv 28 rfl (decide_eq_false c20) ?_
        refine TL.rb ft_cursitorlaw11_ok nt_cursitorlaw11_ok 0 rfl 2 rfl rfl ?_
        refine TL.q rfl (.g rfl rfl rfl) (Ex.lenS rfl Tryz.runUnderlying88) rfl ?_
        refine TL.rw ft_cursitorlaw11_ok 2 rfl ?_
        by_cases c21 : (x11.fHeaders.length : Int) > 6
        · replace h := ifT c21 h
          refine TL.nil (X.seq ?_)
          refine T.yes rfl (decide_eq_true c21) ?_
          refine T.seq (T.region rfl ?_)
          refine TL.run ft_cursitorlaw11_ok [0] rfl rfl ?_
          obtain rfl := Option.some.inj h
          replace h := hO9
          clear hO9
          try dsimp only at h
          obtain rfl := Option.some.inj h
          exact TL.nil (X.seq (T.ret (X.rs (X.rb (X.rs (X.rs (X.rb (X.rs (X.done1 [2] Tryz.results17 (RV.tm rfl) ⟨rfl, rfl, rfl⟩ (by rfl) (.inl rfl))))))))))
        · replace h := ifF c21 h
          refine TL.nil (X.seq ?_)
          refine T.no rfl (decide_eq_false c21) ?_
          refine T.skip (X.seq (T.seq (T.region rfl ?_)))
          refine TL.rb ft_cursitorlaw11_ok nt_cursitorlaw11_ok 0 rfl 2 rfl rfl ?_
          refine TL.q rfl .u (Ex.lenS rfl Tryz.runUnderlying88) rfl ?_
          refine TL.run ft_cursitorlaw11_ok [3] rfl rfl ?_
          refine TL.nil (X.seq (T.block ?_))
          obtain ⟨E24, hE25, hO26⟩ := Option.bind_eq_some_iff.1 h
          have hk30len := RX.len_le hX17
          refine T.lp (fun m e Rs => ∃ (y22 : Int) (k23 : Nat), k23 + m = x11.fHeaders.length ∧ e = [(2, .int .i64 y22), (12, .slice (some ⟨gz14, oz14, none⟩) a0.fRecords.length c2), (13, .int .i64 (a0.fRecords.length : Int)), (14, .int .i64 (k6 : Int)), (35, .slice A15 x11.fHeaders.length c16), (36, .int .i64 (x11.fHeaders.length : Int)), (37, .int .i64 (k23 : Int))] ∧ Rs = [BlkR b18 90 #[.int .i64 x11.fTime, .int .i64 x11.fOffset, .bool x11.fKey.null, .string (bsOf x11.fKey.data), .bool x11.fValue.null, .string (bsOf x11.fValue.data), .slice A15 x11.fHeaders.length c16], BlkR b3 30 #[.int .i64 a0.fBase, .int .i64 a0.fLeader, .bool a0.fAppend, .bool a0.fTxn, .bool a0.fControl, .int .i64 a0.fLast, .int .i64 a0.fFirst, .int .i64 a0.fMax, .int .i64 a0.fProducer, .int .i64 a0.fEpoch, .int .i64 a0.fSequence, .slice (some ⟨gz14, oz14, none⟩) a0.fRecords.length c2], EmpR] ∧ f_l11_Small_l2 (x11.fHeaders.drop k23) y22 = some E24) (x11.fHeaders.length) [0, 0, 0] ⟨y5, 0, by simp, rfl, rfl, by rw [List.drop_zero]; exact hE25⟩ (by rfl) (by rfl) ?_
          rintro m27 _ _ ⟨y22, k23, hk30, rfl, rfl, hl29⟩
          clear hE25 h
          cases m27 with
          | zero =>
            have h := hl29
            clear hl29
            rw [List.drop_of_length_le (by omega), f_l11_Small_l2] at h
            have hk30ge : ¬ ((k23 : Int) < (x11.fHeaders.length : Int)) := by omega
            refine T.seq (T.region rfl ?_)
            refine TL.run ft_cursitorlaw11_ok [0] rfl rfl ?_
            refine TL.nil (X.seq (T.seq ?_))
            refine T.no rfl (decide_eq_false hk30ge) ?_
            obtain rfl := Option.some.inj h
            replace h := hO26
            clear hO26
            try dsimp only at h
            refine T.exit (X.exs (X.exs (X.ex (X.blk (X.seq (T.region rfl ?_))))))
            refine TL.q rfl .u (Ex.add rfl rfl (by omega)) rfl ?_
            refine TL.run ft_cursitorlaw11_ok [1] rfl rfl ?_
            exact TL.nil (X.back (m' := m10) [1, 1] (by omega) ⟨y22, k6 + 1, by omega, rfl, rfl, h⟩ (by rfl) (by rfl))
          | succ m27 =>
            have h := hl29
            clear hl29
            obtain ⟨x28, hxx28⟩ : ∃ x, x11.fHeaders[k23]? = some x := ⟨_, List.getElem?_eq_getElem (by omega)⟩
            rw [drop_cons hxx28, f_l11_Small_l2] at h
            have hk30lt : (k23 : Int) < (x11.fHeaders.length : Int) := by omega
            refine T.seq (T.region rfl ?_)
            refine TL.run ft_cursitorlaw11_ok [0] rfl rfl ?_
            refine TL.nil (X.seq (T.seq ?_))
            refine T.yes rfl (decide_eq_true hk30lt) ?_
            obtain ⟨gz31, oz31, rfl, z31cs, z31cl, z31cc, z31nf, z31r⟩ := RX.elem (by decide) hX17 hxx28
            obtain ⟨z31S, z31r, z31rr⟩ := z31r
            obtain rfl : z31cs = [.string (bsOf x28.fKey), .bool x28.fValue.null, .string (bsOf x28.fValue.data)] := z31r
            refine T.skip (X.seq (T.seq (T.block (T.seq (T.region rfl ?_)))))
            refine TL.q rfl .u (Ex.ixS (k := k23) rfl rfl rfl Tryz.runUnderlying88 Tryz.sizeOf103 (List.getElem?_eq_some_iff.1 hxx28).1) rfl ?_
            refine TL.q rfl .u (Ex.oS (us := [.string (bsOf x28.fKey), .bool x28.fValue.null, .string (bsOf x28.fValue.data)]) 0 rfl Tryz.isAgg103 Tryz.sizeOf103 z31nf z31cc rfl rfl rfl) rfl ?_
            refine TL.alloc rfl .u Tryz.zeroValue103 rfl (fun b32 => ?_)
            refine TL.st0 (cs' := #[.string (bsOf x28.fKey), .bool x28.fValue.null, .string (bsOf x28.fValue.data)]) rfl .u rfl rfl Tryz.sizeOf103 rfl rfl rfl rfl ?_
            refine TL.nil (X.seq (T.seq (T.region rfl ?_)))
            refine TL.rb ft_cursitorlaw11_ok nt_cursitorlaw11_ok 0 rfl 2 rfl rfl ?_
            refine TL.q rfl .u (Ex.lenB rfl Tryz.runUnderlying9) rfl ?_
            refine TL.rb ft_cursitorlaw11_ok nt_cursitorlaw11_ok 0 rfl 3 rfl rfl ?_
            refine TL.q rfl .u (Ex.lenB rfl Tryz.runUnderlying9) rfl ?_
            replace h := guard_some h
            obtain ⟨c33, h⟩ := h
            refine TL.q rfl .u (Ex.add rfl rfl c33) rfl ?_
            refine TL.run ft_cursitorlaw11_ok [8] rfl rfl ?_
            by_cases c34 : ((x28.fKey.length : Int) + (x28.fValue.data.length : Int)) > 100
            · replace h := ifT c34 h
              refine TL.nil (X.seq ?_)
              refine T.yes rfl (decide_eq_true c34) ?_
              refine T.seq (T.region rfl ?_)
              refine TL.run ft_cursitorlaw11_ok [0] rfl rfl ?_
              obtain rfl := Option.some.inj h
              replace h := hO26
              clear hO26
              try dsimp only at h
              obtain rfl := Option.some.inj h
              replace h := hO9
              clear hO9
              try dsimp only at h
              obtain rfl := Option.some.inj h
              exact TL.nil (X.seq (T.ret (X.rb (X.rs (X.rs (X.rb (X.rb (X.rs (X.rs (X.rb (X.rs (X.done1 [3] Tryz.results17 (RV.tm rfl) ⟨rfl, rfl, rfl⟩ (by rfl) (.inl rfl)))))))))))))
            · replace h := ifF c34 h
              refine TL.nil (X.seq ?_)
              refine T.no rfl (decide_eq_false c34) ?_
              refine T.skip (X.blk (X.seq (T.region rfl ?_)))
              refine TL.q rfl .u (Ex.add rfl rfl (by omega)) rfl ?_
              refine TL.run ft_cursitorlaw11_ok [1] rfl rfl ?_
              exact TL.nil (X.back (m' := m27) [1, 1, 1] (by omega) ⟨y22, k23 + 1, by omega, rfl, rfl, h⟩ (by rfl) (by rfl))
end Go.Proofs.YtlhgogjcaegehaaGreat.Sl
namespace Go.Proofs.YtlhgogjcaegehaaGreat.Sl
open Go.RowKit
set_option linter.unusedVariables false
set_option linter.unusedSimpArgs false
theorem small_l2 (y : Int) : ∀ l : List Hd, (∀ h, h ∈ l → wf_Hd h) → (f_l11_Small_l2 l y = some (.ret 0)) ∨ (f_l11_Small_l2 l y = some (.go y) ∧ ∀ h, h ∈ l → h.fKey.length + h.fValue.data.length ≤ 100)
  | [], h => .inr ⟨rfl, fun x h => nomatch h⟩
  | x :: l, h => by
    have hx := h x (.head _)
    have h1 : x.fKey.length ≤ 140737488351232 := hx.1
    have h2 : x.fValue.data.length ≤ 140737488351232 := hx.2.2
    rw [f_l11_Small_l2, if_pos (by omega)]
    by_cases hc : (x.fKey.length : Int) + (x.fValue.data.length : Int) > 100
    · rw [if_pos hc]
      exact .inl rfl
    · rw [if_neg hc]
      rcases small_l2 y l (fun z hz => h z (.tail _ hz)) with g | ⟨g, g2⟩
      · exact .inl g
      · refine .inr ⟨g, fun z hz => ?_⟩
        rcases List.mem_cons.1 hz with rfl | hz
        · omega
        · exact g2 z hz
theorem small_l1 (y : Int) : ∀ l : List Rec, (∀ r, r ∈ l → wf_Rec r) → (f_l11_Small_l1 l y = some (.ret 0)) ∨ (f_l11_Small_l1 l y = some (.go y) ∧ ∀ r, r ∈ l → r.fKey.data.length + r.fValue.data.length ≤ 100 ∧ r.fHeaders.length ≤ 6 ∧ ∀ h, h ∈ r.fHeaders → h.fKey.length + h.fValue.data.length ≤ 100)
  | [], h => .inr ⟨rfl, fun x h => nomatch h⟩
  | x :: l, h => by
    obtain ⟨h1, h2, h3, h4, h5⟩ := h x (.head _)
    have h6 : x.fKey.data.length ≤ 140737488351232 := h3.2
    have h7 : x.fValue.data.length ≤ 140737488351232 := h4.2
    rw [f_l11_Small_l1, if_pos (by omega)]
    by_cases hc : (x.fKey.data.length : Int) + (x.fValue.data.length : Int) > 100
    · rw [if_pos hc]
      exact .inl rfl
    rw [if_neg hc]
    by_cases hd : (x.fHeaders.length : Int) > 6
    · rw [if_pos hd]
      exact .inl rfl
    rw [if_neg hd]
    rcases small_l2 y x.fHeaders h5.2 with g | ⟨g, g2⟩
    · rw [g]
      exact .inl rfl
    · rw [g, Option.bind_some]
      simp only
      rcases small_l1 y l (fun z hz => h z (.tail _ hz)) with k | ⟨k, k2⟩
      · exact .inl k
      · refine .inr ⟨k, fun z hz => ?_⟩
        rcases List.mem_cons.1 hz with rfl | hz
        · exact ⟨by omega, by omega, g2⟩
        · exact k2 z hz
theorem small11 (a : Bat) (hw : wf_Bat a) : f_l11_Small a = some 0 ∨ (f_l11_Small a = some 1 ∧ a.fRecords.length ≤ 12 ∧ ∀ r, r ∈ a.fRecords → r.fKey.data.length + r.fValue.data.length ≤ 100 ∧ r.fHeaders.length ≤ 6 ∧ ∀ h, h ∈ r.fHeaders → h.fKey.length + h.fValue.data.length ≤ 100) := by
  unfold f_l11_Small
  by_cases hc : (a.fRecords.length : Int) > 12
  · rw [if_pos hc]
    exact .inl rfl
  rw [if_neg hc]
  rcases small_l1 0 a.fRecords hw.2.2.2.2.2.2.2.2.2.2.2.2 with g | ⟨g, g2⟩
  · rw [g]
    exact .inl rfl
  · rw [g]
    exact .inr ⟨rfl, by omega, g2⟩
end Go.Proofs.YtlhgogjcaegehaaGreat.Sl
namespace Go.Proofs.YtlhgogjcaegehaaGreat.Sl
open Go.RowKit
set_option linter.unusedVariables false
set_option linter.unusedSimpArgs false
theorem bnB_small {a : Bat} (hw : wf_Bat a) (h1 : a.fRecords.length ≤ 12) (h2 : ∀ r, r ∈ a.fRecords → r.fKey.data.length + r.fValue.data.length ≤ 100 ∧ r.fHeaders.length ≤ 6 ∧ ∀ h, h ∈ r.fHeaders → h.fKey.length + h.fValue.data.length ≤ 100) : bnB a :=
  ⟨hw, by omega, fun r hr => by have := h2 r hr; exact ⟨by omega, by omega, by omega⟩⟩
theorem hwts_le : ∀ (l : List Hd), (∀ h, h ∈ l → h.fKey.length + h.fValue.data.length ≤ 100) → hwts l ≤ 120 * l.length
  | [], _ => Nat.zero_le _
  | x :: l, h => by
    have h1 := h x (.head _)
    have h2 := hwts_le l (fun y hy => h y (.tail _ hy))
    rw [hwts, hwt, List.length_cons]
    omega
theorem encs_le {α : Type} (enc : α → List UInt8) (n : Nat) : ∀ (l : List α), (∀ x, x ∈ l → (enc x).length ≤ n) → (encs enc l).length ≤ n * l.length
  | [], _ => Nat.zero_le _
  | x :: l, h => by
    have h1 := h x (.head _)
    have h2 := encs_le enc n l (fun y hy => h y (.tail _ hy))
    rw [encs, List.length_append, List.length_cons, Nat.mul_succ]
    omega
theorem smB_small {a : Bat} (hw : wf_Bat a) (h1 : a.fRecords.length ≤ 12) (h2 : ∀ r, r ∈ a.fRecords → r.fKey.data.length + r.fValue.data.length ≤ 100 ∧ r.fHeaders.length ≤ 6 ∧ ∀ h, h ∈ r.fHeaders → h.fKey.length + h.fValue.data.length ≤ 100) : smB a ∧ (body a).length ≤ 12000 := by
  have hr : ∀ r, r ∈ a.fRecords → rwt r ≤ 900 := fun r hr => by
    obtain ⟨k1, k2, k3⟩ := h2 r hr
    have := hwts_le r.fHeaders k3
    unfold rwt
    omega
  have hl : (body a).length ≤ 12000 := by
    have h3 := encs_le encRec 1000 a.fRecords (fun x hx => by
      have h4 := hw.2.2.2.2.2.2.2.2.2.2.2.2 x hx
      have h5 := hr x hx
      have := encRec_len x h4.1 h4.2.1 (by omega)
      omega)
    unfold body
    omega
  exact ⟨⟨bnB_small hw h1 h2, fun r hr2 => by have := hr r hr2; omega, by omega⟩, hl⟩
end Go.Proofs.YtlhgogjcaegehaaGreat.Sl
namespace Go.Proofs.YtlhgogjcaegehaaGreat.Sl
open Go.RowKit
set_option linter.unusedVariables false
set_option linter.unusedSimpArgs false
set_option maxRecDepth 100000
def ft_produce : FTab := [(23, 0, 0), (23, 1, 1), (26, 0, 0), (26, 1, 2), (26, 2, 3), (26, 3, 4), (30, 3, 3), (30, 4, 4), (51, 0, 0), (51, 1, 1), (54, 0, 0), (54, 1, 1)]
theorem ft_produce_ok : (ft_produce).OK Tryz.prog := ⟨FOK.mk Tryz.runUnderlying23 rfl Tryz.sizeOf4 rfl, FOK.mk Tryz.runUnderlying23 rfl Tryz.sizeOf9 rfl, FOK.mk Tryz.runUnderlying26 rfl Tryz.sizeOf23 rfl, FOK.mk Tryz.runUnderlying26 rfl Tryz.sizeOf3 rfl, FOK.mk Tryz.runUnderlying26 rfl Tryz.sizeOf3 rfl, FOK.mk Tryz.runUnderlying26 rfl Tryz.sizeOf24 rfl, FOK.mk Tryz.runUnderlying30 rfl Tryz.sizeOf4 rfl, FOK.mk Tryz.runUnderlying30 rfl Tryz.sizeOf4 rfl, FOK.mk Tryz.runUnderlying51 rfl Tryz.sizeOf9 rfl, FOK.mk Tryz.runUnderlying51 rfl Tryz.sizeOf49 rfl, FOK.mk Tryz.runUnderlying54 rfl Tryz.sizeOf3 rfl, FOK.mk Tryz.runUnderlying54 rfl Tryz.sizeOf52 rfl, trivial⟩
def nt_produce : List Nat := [3, 4, 9, 24, 49, 52]
theorem nt_produce_ok : NOK Tryz.prog nt_produce := ⟨Tryz.isAgg3, Tryz.isAgg4, Tryz.isAgg9, Tryz.isAgg24, Tryz.isAgg49, Tryz.isAgg52, trivial⟩
theorem mix_produce : Tryz.prog.follows .mixedOrders = true := by kernel_rfl
def f_produce_rise_l3 (x10 : ProduceTopic) : List ProducePart → Int → Nat → Option (Lp Int Int)
  | [], y158, k159 => some (Lp.go y158)
  | x164 :: xs, y158, k159 => (if x164.fIndex < 0 then some true else ((gFits x164.fIndex 4).bind fun x223 => if x223 = true then (if (k159 : Int) > 0 then (if -9223372036854775808 ≤ ((k159 : Int) - 1) ∧ ((k159 : Int) - 1) ≤ 9223372036854775807 then (if 0 ≤ ((k159 : Int) - 1) then ((x10.fParts[((k159 : Int) - 1).toNat]?).bind fun x229 => if x229.fIndex ≥ x164.fIndex then some true else some false) else none) else none) else some false) else some true)).bind fun y220 => if y220 = true then some (Lp.ret 13) else (f_produce_rise_l3 x10 xs y158 (k159 + 1))
def f_produce_rise_l1 (a0 : List ProduceTopic) : List ProduceTopic → Int → Nat → Option (Lp Int Int)
  | [], y4, k5 => some (Lp.go y4)
  | x10 :: xs, y4, k5 => if (x10.fParts.length : Int) = 0 then some (Lp.ret 10) else ((if x10.fName = [] then some true else (if (x10.fName.length : Int) > 32767 then some true else (if (k5 : Int) > 0 then (if -9223372036854775808 ≤ ((k5 : Int) - 1) ∧ ((k5 : Int) - 1) ≤ 9223372036854775807 then (if 0 ≤ ((k5 : Int) - 1) then ((a0[((k5 : Int) - 1).toNat]?).bind fun x150 => if (Op.bytesLess x150.fName x10.fName) = true then some false else some true) else none) else none) else some false))).bind fun y143 => if y143 = true then some (Lp.ret 13) else ((f_produce_rise_l3 x10 x10.fParts y4 0).bind fun e => match e with | .ret r => some (Lp.ret r) | .go y237 => (f_produce_rise_l1 a0 xs y237 (k5 + 1))))
theorem f_produce_rise_l1_z (a0 : List ProduceTopic) (y4 : Int) (k5 : Nat) : f_produce_rise_l1 a0 [] y4 k5 = (some (Lp.go y4)) := rfl
theorem f_produce_rise_l1_s (a0 : List ProduceTopic) (x10 : ProduceTopic) (xs : List ProduceTopic) (y4 : Int) (k5 : Nat) : f_produce_rise_l1 a0 (x10 :: xs) y4 k5 = (if (x10.fParts.length : Int) = 0 then some (Lp.ret 10) else ((if x10.fName = [] then some true else (if (x10.fName.length : Int) > 32767 then some true else (if (k5 : Int) > 0 then (if -9223372036854775808 ≤ ((k5 : Int) - 1) ∧ ((k5 : Int) - 1) ≤ 9223372036854775807 then (if 0 ≤ ((k5 : Int) - 1) then ((a0[((k5 : Int) - 1).toNat]?).bind fun x150 => if (Op.bytesLess x150.fName x10.fName) = true then some false else some true) else none) else none) else some false))).bind fun y143 => if y143 = true then some (Lp.ret 13) else ((f_produce_rise_l3 x10 x10.fParts y4 0).bind fun e => match e with | .ret r => some (Lp.ret r) | .go y237 => (f_produce_rise_l1 a0 xs y237 (k5 + 1))))) := rfl
def f_produce_rise (a0 : List ProduceTopic) : Option (Int) := if (a0.length : Int) = 0 then some 10 else ((f_produce_rise_l1 a0 a0 0 0).bind fun e => match e with | .ret r => some r | .go y239 => some 0)
set_option maxRecDepth 100000 in
set_option maxHeartbeats 4000000 in
theorem f_produce_rise_spec (a0 : List ProduceTopic) (A1 : Option Addr) (c2 : Nat) (r : Int) (h : f_produce_rise a0 = some r) : SpecX Tryz.prog 47 #[.slice A1 a0.length c2] (RX.of (sliceRd 2 ProduceTopic_rd) [.slice A1 a0.length c2] a0) (EmpR) (fun v A' N => v = .int .i64 r ∧ A' = EmpR ∧ N = []) := by
  refine enterA Tryz.func47 rfl Tryz.ntmps47 rfl ?_
  intro F w hX
  unfold f_produce_rise at h
  refine T.seq (T.region rfl ?_)
  refine TL.run ft_produce_ok [0] rfl rfl ?_
  refine TL.nil (X.seq (T.seq (T.seq (T.region rfl ?_))))
  refine TL.run ft_produce_ok [0] rfl rfl ?_
  refine TL.q rfl .u (Ex.lenS rfl Tryz.runUnderlying24) rfl ?_
  refine TL.run ft_produce_ok [2] rfl rfl ?_
  by_cases c3 : (a0.length : Int) = 0
  · replace h := ifT c3 h
    refine TL.nil (X.seq ?_)
    refine T.yes rfl (decide_eq_true c3) ?_
    refine T.seq (T.region rfl ?_)
    refine TL.run ft_produce_ok [0] rfl rfl ?_
    obtain rfl := Option.some.inj h
    exact TL.nil (X.seq (T.ret (X.rs (X.done1 [0] Tryz.results47 (RV.tm rfl) ⟨rfl, rfl, rfl⟩ (by rfl) (.inl rfl)))))
  · replace h := ifF c3 h
    refine TL.nil (X.seq ?_)
    refine T.no rfl (decide_eq_false c3) ?_
    refine T.skip (X.seq (T.seq (T.seq (T.region rfl ?_))))
    refine TL.run ft_produce_ok [0] rfl rfl ?_
    refine TL.q rfl .u (Ex.lenS rfl Tryz.runUnderlying24) rfl ?_
    refine TL.run ft_produce_ok [2] rfl rfl ?_
    refine TL.nil (X.seq (T.block ?_))
    obtain ⟨E6, hE7, hO8⟩ := Option.bind_eq_some_iff.1 h
    have hk12len := RX.len_le hX
    refine T.lp (fun m e Rs => ∃ (y4 : Int) (k5 : Nat), k5 + m = a0.length ∧ e = [(0, .slice A1 a0.length c2), (2, .int .i64 y4), (10, .slice A1 a0.length c2), (11, .int .i64 (a0.length : Int)), (12, .int .i64 (k5 : Int))] ∧ Rs = [EmpR] ∧ f_produce_rise_l1 a0 (a0.drop k5) y4 k5 = some E6) (a0.length) [0] ⟨0, 0, by simp, rfl, rfl, by rw [List.drop_zero]; exact hE7⟩ (by rfl) (by rfl) ?_
    rintro m9 _ _ ⟨y4, k5, hk12, rfl, rfl, hl11⟩
    clear hE7 h
    cases m9 with
    | zero =>
      have h := hl11
      clear hl11
      rw [List.drop_of_length_le (by omega), f_produce_rise_l1_z] at h
      have hk12ge : ¬ ((k5 : Int) < (a0.length : Int)) := by omega
      refine T.seq (T.region rfl ?_)
      refine TL.run ft_produce_ok [0] rfl rfl ?_
      refine TL.nil (X.seq (T.seq ?_))
      refine T.no rfl (decide_eq_false hk12ge) ?_
      obtain rfl := Option.some.inj h
      replace h := hO8
      clear hO8
      try dsimp only at h
      refine T.exit (X.exs (X.exs (X.ex (X.seq (T.seq (T.region rfl ?_))))))
      refine TL.run ft_produce_ok [0] rfl rfl ?_
      obtain rfl := Option.some.inj h
      exact TL.nil (X.seq (T.ret (X.done1 [0] Tryz.results47 (RV.tm rfl) ⟨rfl, rfl, rfl⟩ (by rfl) (.inl rfl))))
    | succ m9 =>
      have h := hl11
      clear hl11
      obtain ⟨x10, hxx10⟩ : ∃ x, a0[k5]? = some x := ⟨_, List.getElem?_eq_getElem (by omega)⟩
      rw [drop_cons hxx10, f_produce_rise_l1_s] at h
      have hk12lt : (k5 : Int) < (a0.length : Int) := by omega
      refine T.seq (T.region rfl ?_)
      refine TL.run ft_produce_ok [0] rfl rfl ?_
      refine TL.nil (X.seq (T.seq ?_))
      refine T.yes rfl (decide_eq_true hk12lt) ?_
      refine T.skip (X.seq (T.seq (T.block (T.seq (T.region rfl ?_)))))
      obtain ⟨gz126, oz126, rfl, z126cs, z126cl, z126cc, z126nf, z126r⟩ := RX.elem (by decide) hX hxx10
      obtain ⟨z126S, z126r, z126rr⟩ := z126r
      obtain ⟨A127, c128, rfl, z126s0⟩ := z126r
      have hX129 : (RX.of (sliceRd 2 ProducePart_rd) [.slice A127 x10.fParts.length c128] x10.fParts).reads w F := ⟨z126S, z126s0, z126rr⟩
      refine TL.run ft_produce_ok [0] rfl rfl ?_
      refine TL.q rfl .u (Ex.ixS (k := k5) rfl rfl rfl Tryz.runUnderlying24 Tryz.sizeOf51 (List.getElem?_eq_some_iff.1 hxx10).1) rfl ?_
      refine TL.q rfl .u (Ex.oS (us := [.string (bsOf x10.fName), .slice A127 x10.fParts.length c128]) 0 rfl Tryz.isAgg51 Tryz.sizeOf51 z126nf z126cc rfl rfl rfl) rfl ?_
      refine TL.alloc rfl .u Tryz.zeroValue51 rfl (fun b130 => ?_)
      refine TL.run ft_produce_ok [4] rfl rfl ?_
      refine TL.st0 (cs' := #[.string (bsOf x10.fName), .slice A127 x10.fParts.length c128]) rfl .u rfl rfl Tryz.sizeOf51 rfl rfl rfl rfl ?_
      refine TL.nil (X.seq (T.seq (T.seq (T.region rfl ?_))))
      refine TL.rb ft_produce_ok nt_produce_ok 0 rfl 2 rfl rfl ?_
      refine TL.q rfl .u (Ex.lenS rfl Tryz.runUnderlying49) rfl ?_
      refine TL.run ft_produce_ok [3] rfl rfl ?_
      by_cases c131 : (x10.fParts.length : Int) = 0
      · replace h := ifT c131 h
        refine TL.nil (X.seq ?_)
        refine T.yes rfl (decide_eq_true c131) ?_
        refine T.seq (T.region rfl ?_)
        refine TL.run ft_produce_ok [0] rfl rfl ?_
        obtain rfl := Option.some.inj h
        replace h := hO8
        clear hO8
        try dsimp only at h
        obtain rfl := Option.some.inj h
        exact TL.nil (X.seq (T.ret (X.rs (X.rb (X.rs (X.rs (X.rb (X.rs (X.done1 [1] Tryz.results47 (RV.tm rfl) ⟨rfl, rfl, rfl⟩ (by rfl) (.inl rfl))))))))))
      · replace h := ifF c131 h
        refine TL.nil (X.seq ?_)
        refine T.no rfl (decide_eq_false c131) ?_
        refine T.skip (X.seq (T.seq (T.seq ?_)))
        obtain ⟨y143, h, hk144⟩ := Option.bind_eq_some_iff.1 h
        refine T.jq (fun e Rs => e = [(0, .slice (some ⟨gz126, oz126, none⟩) a0.length c2), (2, .int .i64 y4), (4, .pointer (some ⟨b130, 0, none⟩)), (10, .slice (some ⟨gz126, oz126, none⟩) a0.length c2), (11, .int .i64 (a0.length : Int)), (12, .int .i64 (k5 : Int)), (44, .bool y143)] ∧ Rs = [BlkR b130 51 #[.string (bsOf x10.fName), .slice A127 x10.fParts.length c128], EmpR]) ?_ ?_
        · clear hk144
          refine T.draw (.q 0 (.q 1 (.q 2 (.q 3 (.q 4 (.q 5 (.q 6 (.q 7 (.q 8 (.q 9 (.q 10 (.q 11 (.q 12 (.q 13 (.q 14 (.q 15 (.q 16 (.q 17 (.q 18 (.q 19 (.q 20 (.q 21 (.q 22 (.q 23 .nil)))))))))))))))))))))))) [0, 0] rfl mix_produce (NoP.seq (NoP.seq (NoP.seq (NoP.blk (NoP.seq (NoP.seq (NoP.blk (NoP.seq np_post)))))))) (by kernel_rfl) ?_
          refine TD.run ft_produce_ok [0] rfl rfl ?_
          refine TD.q rfl .u (Ex.b1 0 rfl Tryz.isAgg9 rfl rfl) rfl ?_
          refine TD.q rfl .u (Ex.sEq rfl (m := []) rfl) rfl ?_
          by_cases c145 : x10.fName = []
          · replace h := ifT c145 h
            refine TD.run ft_produce_ok [3] rfl rfl ?_
            refine TD.no rfl (.gn rfl rfl (decide_eq_true c145)) rfl ?_
            refine TD.no rfl (.gn rfl rfl (decide_eq_true c145)) rfl ?_
            refine TD.no rfl (.gn rfl rfl (decide_eq_true c145)) rfl ?_
            refine TD.no rfl (.gn rfl rfl (decide_eq_true c145)) rfl ?_
            refine TD.q rfl .u (Ex.py rfl (decide_eq_true c145) rfl) rfl ?_
            refine TD.run ft_produce_ok [9] rfl rfl ?_
            refine TD.no rfl (.gn rfl rfl rfl) rfl ?_
            refine TD.no rfl (.gn rfl rfl rfl) rfl ?_
            refine TD.no rfl (.gn rfl rfl rfl) rfl ?_
            refine TD.no rfl (.gu rfl rfl) rfl ?_
            refine TD.no rfl (.gu rfl rfl) rfl ?_
            refine TD.no rfl (.gu rfl rfl) rfl ?_
            refine TD.no rfl (.gu rfl rfl) rfl ?_
            refine TD.no rfl (.gu rfl rfl) rfl ?_
            refine TD.no rfl (.gu rfl rfl) rfl ?_
            refine TD.no rfl (.gu rfl rfl) rfl ?_
            refine TD.no rfl (.gu rfl rfl) rfl ?_
            refine TD.no rfl (.gu rfl rfl) rfl ?_
            refine TD.no rfl (.gn rfl rfl rfl) rfl ?_
            refine TD.q rfl .u (Ex.py rfl rfl rfl) rfl ?_
            cases h
            exact TD.nil (X.jq [0, 0] ⟨rfl, rfl⟩ (by rfl) (by rfl))
          · replace h := ifF c145 h
            refine TD.run ft_produce_ok [3] rfl rfl ?_
            refine TD.q rfl (.g rfl rfl (decide_eq_false c145)) (Ex.ft ft_produce_ok rfl) rfl ?_
            refine TD.q rfl (.g rfl rfl (decide_eq_false c145)) (Ex.b1 0 rfl Tryz.isAgg9 rfl rfl) rfl ?_
            refine TD.q rfl (.g rfl rfl (decide_eq_false c145)) (Ex.lenB rfl Tryz.runUnderlying9) rfl ?_
            refine TD.q rfl (.g rfl rfl (decide_eq_false c145)) (Ex.ft ft_produce_ok rfl) rfl ?_
            refine TD.q rfl .u (Ex.pn rfl (decide_eq_false c145) rfl) rfl ?_
            by_cases c146 : (x10.fName.length : Int) > 32767
            · replace h := ifT c146 h
              refine TD.run ft_produce_ok [9] rfl rfl ?_
              refine TD.no rfl (.gn rfl rfl (decide_eq_true c146)) rfl ?_
              refine TD.no rfl (.gn rfl rfl (decide_eq_true c146)) rfl ?_
              refine TD.no rfl (.gn rfl rfl (decide_eq_true c146)) rfl ?_
              refine TD.no rfl (.gu rfl rfl) rfl ?_
              refine TD.no rfl (.gu rfl rfl) rfl ?_
              refine TD.no rfl (.gu rfl rfl) rfl ?_
              refine TD.no rfl (.gu rfl rfl) rfl ?_
              refine TD.no rfl (.gu rfl rfl) rfl ?_
              refine TD.no rfl (.gu rfl rfl) rfl ?_
              refine TD.no rfl (.gu rfl rfl) rfl ?_
              refine TD.no rfl (.gu rfl rfl) rfl ?_
              refine TD.no rfl (.gu rfl rfl) rfl ?_
              refine TD.no rfl (.gn rfl rfl (decide_eq_true c146)) rfl ?_
              refine TD.q rfl .u (Ex.py rfl (decide_eq_true c146) rfl) rfl ?_
              cases h
              exact TD.nil (X.jq [0, 0] ⟨rfl, rfl⟩ (by rfl) (by rfl))
            · replace h := ifF c146 h
              refine TD.run ft_produce_ok [9] rfl rfl ?_
              refine TD.q rfl (.g rfl rfl (decide_eq_false c146)) (Ex.ft ft_produce_ok rfl) rfl ?_
              refine TD.q rfl (.g rfl rfl (decide_eq_false c146)) (Ex.ft ft_produce_ok rfl) rfl ?_
              refine TD.q rfl (.g rfl rfl (decide_eq_false c146)) (Ex.ft ft_produce_ok rfl) rfl ?_
              by_cases c147 : (k5 : Int) > 0
              · replace h := ifT c147 h
                refine TD.q rfl (.g rfl rfl (decide_eq_true c147)) (Ex.ft ft_produce_ok rfl) rfl ?_
                refine TD.q rfl (.g rfl rfl (decide_eq_true c147)) (Ex.ft ft_produce_ok rfl) rfl ?_
                replace h := guard_some h
                obtain ⟨c148, h⟩ := h
                refine TD.q rfl (.g rfl rfl (decide_eq_true c147)) (Ex.sub rfl rfl c148) rfl ?_
                replace h := guard_some h
                obtain ⟨c149, h⟩ := h
                obtain ⟨x150, hx151, h⟩ := Option.bind_eq_some_iff.1 h
                obtain ⟨z152cs, z152cl, z152cc, z152nf, z152r⟩ := RX.elem' (by decide) hX hx151
                obtain ⟨z152S, z152r, z152rr⟩ := z152r
                obtain ⟨A153, c154, rfl, z152s0⟩ := z152r
                have hX155 : (RX.of (sliceRd 2 ProducePart_rd) [.slice A153 x150.fParts.length c154] x150.fParts).reads w F := ⟨z152S, z152s0, z152rr⟩
                refine TD.q rfl (.g rfl rfl (decide_eq_true c147)) (Ex.ixS (k := ((k5 : Int) - 1).toNat) rfl rfl ((Int.toNat_of_nonneg c149).symm) Tryz.runUnderlying24 Tryz.sizeOf51 (List.getElem?_eq_some_iff.1 hx151).1) rfl ?_
                refine TD.q rfl (.g rfl rfl (decide_eq_true c147)) (Ex.ft ft_produce_ok rfl) rfl ?_
                refine TD.q rfl (.g rfl rfl (decide_eq_true c147)) (Ex.o1 0 rfl Tryz.isAgg9 z152nf z152cc rfl rfl) rfl ?_
                refine TD.q rfl (.g rfl rfl (decide_eq_true c147)) (Ex.ft ft_produce_ok rfl) rfl ?_
                refine TD.q rfl (.g rfl rfl (decide_eq_true c147)) (Ex.b1 0 rfl Tryz.isAgg9 rfl rfl) rfl ?_
                refine TD.q rfl (.g rfl rfl (decide_eq_true c147)) (Ex.sGe rfl rfl) rfl ?_
                refine TD.q rfl (.g rfl rfl (decide_eq_false c146)) (Ex.py rfl (decide_eq_true c147) rfl) rfl ?_
                refine TD.q rfl .u (Ex.pn rfl (decide_eq_false c146) rfl) rfl ?_
                by_cases c156 : (Op.bytesLess x150.fName x10.fName) = true
                · replace h := ifT c156 h
                  cases h
                  exact TD.nil (X.as (d := 44) (v' := .bool false) rfl (congrArg Value.bool (bn_f c156)) (X.jq [0, 0] ⟨rfl, rfl⟩ (by rfl) (by rfl)))
                · replace h := ifF c156 h
                  replace c156 := eq_false_of_ne_true c156
                  cases h
                  exact TD.nil (X.as (d := 44) (v' := .bool true) rfl (congrArg Value.bool (bn_t c156)) (X.jq [0, 0] ⟨rfl, rfl⟩ (by rfl) (by rfl)))
              · replace h := ifF c147 h
                refine TD.no rfl (.gn rfl rfl (decide_eq_false c147)) rfl ?_
                refine TD.no rfl (.gn rfl rfl (decide_eq_false c147)) rfl ?_
                refine TD.no rfl (.gn rfl rfl (decide_eq_false c147)) rfl ?_
                refine TD.no rfl (.gn rfl rfl (decide_eq_false c147)) rfl ?_
                refine TD.no rfl (.gn rfl rfl (decide_eq_false c147)) rfl ?_
                refine TD.no rfl (.gn rfl rfl (decide_eq_false c147)) rfl ?_
                refine TD.no rfl (.gn rfl rfl (decide_eq_false c147)) rfl ?_
                refine TD.no rfl (.gn rfl rfl (decide_eq_false c147)) rfl ?_
                refine TD.no rfl (.gn rfl rfl (decide_eq_false c147)) rfl ?_
                refine TD.q rfl (.g rfl rfl (decide_eq_false c146)) (Ex.pn rfl (decide_eq_false c147) rfl) rfl ?_
                refine TD.q rfl .u (Ex.pn rfl (decide_eq_false c146) rfl) rfl ?_
                cases h
                exact TD.nil (X.jq [0, 0] ⟨rfl, rfl⟩ (by rfl) (by rfl))
        · rintro _ _ ⟨rfl, rfl⟩
          clear h
          have h := hk144
          clear hk144
          try dsimp only at h
          by_cases c157 : y143 = true
          · replace h := ifT c157 h
            refine X.seq ?_
            refine T.yes rfl c157 ?_
            refine T.seq (T.region rfl ?_)
            refine TL.run ft_produce_ok [0] rfl rfl ?_
            obtain rfl := Option.some.inj h
            replace h := hO8
            clear hO8
            try dsimp only at h
            obtain rfl := Option.some.inj h
            exact TL.nil (X.seq (T.ret (X.rs (X.rb (X.rs (X.rs (X.rb (X.rs (X.done1 [1] Tryz.results47 (RV.tm rfl) ⟨rfl, rfl, rfl⟩ (by rfl) (.inl rfl))))))))))
          · replace h := ifF c157 h
            replace c157 := eq_false_of_ne_true c157
            refine X.seq ?_
            refine T.no rfl c157 ?_
            refine T.skip (X.seq (T.seq (T.region rfl ?_)))
            refine TL.rb ft_produce_ok nt_produce_ok 0 rfl 2 rfl rfl ?_
            refine TL.q rfl .u (Ex.lenS rfl Tryz.runUnderlying49) rfl ?_
            refine TL.run ft_produce_ok [3] rfl rfl ?_
            refine TL.nil (X.seq (T.block ?_))
            obtain ⟨E160, hE161, hO162⟩ := Option.bind_eq_some_iff.1 h
            have hk166len := RX.len_le hX129
            refine T.lp (fun m e Rs => ∃ (y158 : Int) (k159 : Nat), k159 + m = x10.fParts.length ∧ e = [(0, .slice (some ⟨gz126, oz126, none⟩) a0.length c2), (2, .int .i64 y158), (4, .pointer (some ⟨b130, 0, none⟩)), (10, .slice (some ⟨gz126, oz126, none⟩) a0.length c2), (11, .int .i64 (a0.length : Int)), (12, .int .i64 (k5 : Int)), (46, .slice A127 x10.fParts.length c128), (47, .int .i64 (x10.fParts.length : Int)), (48, .int .i64 (k159 : Int))] ∧ Rs = [BlkR b130 51 #[.string (bsOf x10.fName), .slice A127 x10.fParts.length c128], EmpR] ∧ f_produce_rise_l3 x10 (x10.fParts.drop k159) y158 k159 = some E160) (x10.fParts.length) [0, 0] ⟨y4, 0, by simp, rfl, rfl, by rw [List.drop_zero]; exact hE161⟩ (by rfl) (by rfl) ?_
            rintro m163 _ _ ⟨y158, k159, hk166, rfl, rfl, hl165⟩
            clear hE161 h
            cases m163 with
            | zero =>
              have h := hl165
              clear hl165
              rw [List.drop_of_length_le (by omega), f_produce_rise_l3] at h
              have hk166ge : ¬ ((k159 : Int) < (x10.fParts.length : Int)) := by omega
              refine T.seq (T.region rfl ?_)
              refine TL.run ft_produce_ok [0] rfl rfl ?_
              refine TL.nil (X.seq (T.seq ?_))
              refine T.no rfl (decide_eq_false hk166ge) ?_
              obtain rfl := Option.some.inj h
              replace h := hO162
              clear hO162
              try dsimp only at h
              refine T.exit (X.exs (X.exs (X.ex (X.blk (X.seq (T.region rfl ?_))))))
              refine TL.q rfl .u (Ex.add rfl rfl (by omega)) rfl ?_
              refine TL.run ft_produce_ok [1] rfl rfl ?_
              exact TL.nil (X.back (m' := m9) [1] (by omega) ⟨y158, k5 + 1, by omega, rfl, rfl, h⟩ (by rfl) (by rfl))
            | succ m163 =>
              have h := hl165
              clear hl165
              obtain ⟨x164, hxx164⟩ : ∃ x, x10.fParts[k159]? = some x := ⟨_, List.getElem?_eq_getElem (by omega)⟩
              rw [drop_cons hxx164, f_produce_rise_l3] at h
              have hk166lt : (k159 : Int) < (x10.fParts.length : Int) := by omega
              refine T.seq (T.region rfl ?_)
              refine TL.run ft_produce_ok [0] rfl rfl ?_
              refine TL.nil (X.seq (T.seq ?_))
              refine T.yes rfl (decide_eq_true hk166lt) ?_
              refine T.skip (X.seq (T.seq (T.block (T.seq (T.region rfl ?_)))))
              obtain ⟨gz202, oz202, rfl, z202cs, z202cl, z202cc, z202nf, z202r⟩ := RX.elem (by decide) hX129 hxx164
              obtain ⟨z202S, z202r, z202rr⟩ := z202r
              obtain ⟨A203, c204, rfl, z202s0⟩ := z202r
              have hX205 : (RX.of (sliceRd 12 Bat_rd) [.slice A203 x164.fBatches.length c204] x164.fBatches).reads w F := ⟨z202S, z202s0, z202rr⟩
              refine TL.run ft_produce_ok [0] rfl rfl ?_
              refine TL.q rfl .u (Ex.ixS (k := k159) rfl rfl rfl Tryz.runUnderlying49 Tryz.sizeOf54 (List.getElem?_eq_some_iff.1 hxx164).1) rfl ?_
              refine TL.q rfl .u (Ex.oS (us := [.int .i64 x164.fIndex, .slice A203 x164.fBatches.length c204]) 0 rfl Tryz.isAgg54 Tryz.sizeOf54 z202nf z202cc rfl rfl rfl) rfl ?_
              refine TL.alloc rfl .u Tryz.zeroValue54 rfl (fun b206 => ?_)
              refine TL.run ft_produce_ok [4] rfl rfl ?_
              refine TL.st0 (cs' := #[.int .i64 x164.fIndex, .slice A203 x164.fBatches.length c204]) rfl .u rfl rfl Tryz.sizeOf54 rfl rfl rfl rfl ?_
              refine TL.nil (X.seq (T.seq ?_))
              obtain ⟨y220, h, hk221⟩ := Option.bind_eq_some_iff.1 h
              refine T.jq (fun e Rs => e = [(0, .slice (some ⟨gz126, oz126, none⟩) a0.length c2), (2, .int .i64 y158), (4, .pointer (some ⟨b130, 0, none⟩)), (10, .slice (some ⟨gz126, oz126, none⟩) a0.length c2), (11, .int .i64 (a0.length : Int)), (12, .int .i64 (k5 : Int)), (46, .slice (some ⟨gz202, oz202, none⟩) x10.fParts.length c128), (47, .int .i64 (x10.fParts.length : Int)), (48, .int .i64 (k159 : Int)), (77, .bool y220)] ∧ Rs = [BlkR b206 54 #[.int .i64 x164.fIndex, .slice A203 x164.fBatches.length c204], BlkR b130 51 #[.string (bsOf x10.fName), .slice (some ⟨gz202, oz202, none⟩) x10.fParts.length c128], EmpR]) ?_ ?_
              · clear hk221
                refine T.draw (.q 0 (.q 1 (.q 2 (.q 3 (.q 4 (.q 5 (.e 6 (.q 7 (.q 8 (.q 9 (.q 10 (.q 11 (.q 12 (.q 13 (.q 14 (.q 15 (.q 16 (.q 17 (.q 18 (.q 19 (.q 20 (.q 21 (.q 22 (.q 23 (.q 24 .nil))))))))))))))))))))))))) [0, 0, 0] rfl mix_produce (NoP.seq (NoP.seq (NoP.blk (NoP.seq (NoP.seq (NoP.blk (NoP.blk (NoP.seq (NoP.seq (NoP.blk (NoP.seq np_post))))))))))) (by kernel_rfl) ?_
                refine TD.run ft_produce_ok [0] rfl rfl ?_
                refine TD.q rfl .u (Ex.b1 0 rfl Tryz.isAgg3 rfl rfl) rfl ?_
                by_cases c222 : x164.fIndex < 0
                · replace h := ifT c222 h
                  refine TD.run ft_produce_ok [2, 3] rfl rfl ?_
                  refine TD.no rfl (.gn rfl rfl (decide_eq_true c222)) rfl ?_
                  refine TD.no rfl (.gn rfl rfl (decide_eq_true c222)) rfl ?_
                  refine TD.noe rfl (.gn rfl rfl (decide_eq_true c222)) rfl [0, 0, 0] rfl ?_
                  refine TD.no rfl (.gn rfl rfl (decide_eq_true c222)) rfl ?_
                  refine TD.q rfl .u (Ex.py rfl (decide_eq_true c222) rfl) rfl ?_
                  refine TD.run ft_produce_ok [9] rfl rfl ?_
                  refine TD.no rfl (.gn rfl rfl rfl) rfl ?_
                  refine TD.no rfl (.gn rfl rfl rfl) rfl ?_
                  refine TD.no rfl (.gn rfl rfl rfl) rfl ?_
                  refine TD.no rfl (.gu rfl rfl) rfl ?_
                  refine TD.no rfl (.gu rfl rfl) rfl ?_
                  refine TD.no rfl (.gu rfl rfl) rfl ?_
                  refine TD.no rfl (.gu rfl rfl) rfl ?_
                  refine TD.no rfl (.gu rfl rfl) rfl ?_
                  refine TD.no rfl (.gu rfl rfl) rfl ?_
                  refine TD.no rfl (.gu rfl rfl) rfl ?_
                  refine TD.no rfl (.gu rfl rfl) rfl ?_
                  refine TD.no rfl (.gu rfl rfl) rfl ?_
                  refine TD.no rfl (.gu rfl rfl) rfl ?_
                  refine TD.no rfl (.gn rfl rfl rfl) rfl ?_
                  refine TD.q rfl .u (Ex.py rfl rfl rfl) rfl ?_
                  cases h
                  exact TD.nil (X.jq [0, 0, 0] ⟨rfl, rfl⟩ (by rfl) (by rfl))
                · replace h := ifF c222 h
                  refine TD.run ft_produce_ok [2, 3] rfl rfl ?_
                  refine TD.q rfl (.g rfl rfl (decide_eq_false c222)) (Ex.ft ft_produce_ok rfl) rfl ?_
                  refine TD.q rfl (.g rfl rfl (decide_eq_false c222)) (Ex.b1 0 rfl Tryz.isAgg3 rfl rfl) rfl ?_
                  obtain ⟨x223, hx224, h⟩ := Option.bind_eq_some_iff.1 h
                  refine TD.ce rfl (.g rfl rfl (decide_eq_false c222)) (.fn Tryz.call40 rfl) (SpecX.pure (fun w => gFits_spec x164.fIndex 4 _ hx224 w)) (fun _ _ => RX.reads_triv _ _) rfl [0, 0, 0] (rfl) ?_
                  refine TD.q rfl (.g rfl rfl (decide_eq_false c222)) (Ex.ft ft_produce_ok rfl) rfl ?_
                  refine TD.q rfl .u (Ex.pn rfl (decide_eq_false c222) rfl) rfl ?_
                  by_cases c225 : x223 = true
                  · replace h := ifT c225 h
                    refine TD.run ft_produce_ok [9] rfl rfl ?_
                    refine TD.q rfl (.g rfl rfl (bn_f c225)) (Ex.ft ft_produce_ok rfl) rfl ?_
                    refine TD.q rfl (.g rfl rfl (bn_f c225)) (Ex.ft ft_produce_ok rfl) rfl ?_
                    refine TD.q rfl (.g rfl rfl (bn_f c225)) (Ex.ft ft_produce_ok rfl) rfl ?_
                    by_cases c226 : (k159 : Int) > 0
                    · replace h := ifT c226 h
                      refine TD.q rfl (.g rfl rfl (decide_eq_true c226)) (Ex.ft ft_produce_ok rfl) rfl ?_
                      refine TD.q rfl (.g rfl rfl (decide_eq_true c226)) (Ex.b1 1 rfl Tryz.isAgg49 rfl rfl) rfl ?_
                      refine TD.q rfl (.g rfl rfl (decide_eq_true c226)) (Ex.ft ft_produce_ok rfl) rfl ?_
                      replace h := guard_some h
                      obtain ⟨c227, h⟩ := h
                      refine TD.q rfl (.g rfl rfl (decide_eq_true c226)) (Ex.sub rfl rfl c227) rfl ?_
                      replace h := guard_some h
                      obtain ⟨c228, h⟩ := h
                      obtain ⟨x229, hx230, h⟩ := Option.bind_eq_some_iff.1 h
                      obtain ⟨z231cs, z231cl, z231cc, z231nf, z231r⟩ := RX.elem' (by decide) hX129 hx230
                      obtain ⟨z231S, z231r, z231rr⟩ := z231r
                      obtain ⟨A232, c233, rfl, z231s0⟩ := z231r
                      have hX234 : (RX.of (sliceRd 12 Bat_rd) [.slice A232 x229.fBatches.length c233] x229.fBatches).reads w F := ⟨z231S, z231s0, z231rr⟩
                      refine TD.q rfl (.g rfl rfl (decide_eq_true c226)) (Ex.ixS (k := ((k159 : Int) - 1).toNat) rfl rfl ((Int.toNat_of_nonneg c228).symm) Tryz.runUnderlying49 Tryz.sizeOf54 (List.getElem?_eq_some_iff.1 hx230).1) rfl ?_
                      refine TD.q rfl (.g rfl rfl (decide_eq_true c226)) (Ex.ft ft_produce_ok rfl) rfl ?_
                      refine TD.q rfl (.g rfl rfl (decide_eq_true c226)) (Ex.o1 0 rfl Tryz.isAgg3 z231nf z231cc rfl rfl) rfl ?_
                      refine TD.q rfl (.g rfl rfl (decide_eq_true c226)) (Ex.ft ft_produce_ok rfl) rfl ?_
                      refine TD.q rfl (.g rfl rfl (decide_eq_true c226)) (Ex.b1 0 rfl Tryz.isAgg3 rfl rfl) rfl ?_
                      refine TD.q rfl (.g rfl rfl (decide_eq_true c226)) (Ex.ft ft_produce_ok rfl) rfl ?_
                      refine TD.q rfl (.g rfl rfl (bn_f c225)) (Ex.py rfl (decide_eq_true c226) rfl) rfl ?_
                      refine TD.q rfl .u (Ex.pn rfl (bn_f c225) rfl) rfl ?_
                      by_cases c235 : x229.fIndex ≥ x164.fIndex
                      · replace h := ifT c235 h
                        cases h
                        exact TD.nil (X.as (d := 77) (v' := .bool true) rfl (congrArg Value.bool (decide_eq_true c235)) (X.jq [0, 0, 0] ⟨rfl, rfl⟩ (by rfl) (by rfl)))
                      · replace h := ifF c235 h
                        cases h
                        exact TD.nil (X.as (d := 77) (v' := .bool false) rfl (congrArg Value.bool (decide_eq_false c235)) (X.jq [0, 0, 0] ⟨rfl, rfl⟩ (by rfl) (by rfl)))
                    · replace h := ifF c226 h
                      refine TD.no rfl (.gn rfl rfl (decide_eq_false c226)) rfl ?_
                      refine TD.no rfl (.gn rfl rfl (decide_eq_false c226)) rfl ?_
                      refine TD.no rfl (.gn rfl rfl (decide_eq_false c226)) rfl ?_
                      refine TD.no rfl (.gn rfl rfl (decide_eq_false c226)) rfl ?_
                      refine TD.no rfl (.gn rfl rfl (decide_eq_false c226)) rfl ?_
                      refine TD.no rfl (.gn rfl rfl (decide_eq_false c226)) rfl ?_
                      refine TD.no rfl (.gn rfl rfl (decide_eq_false c226)) rfl ?_
                      refine TD.no rfl (.gn rfl rfl (decide_eq_false c226)) rfl ?_
                      refine TD.no rfl (.gn rfl rfl (decide_eq_false c226)) rfl ?_
                      refine TD.no rfl (.gn rfl rfl (decide_eq_false c226)) rfl ?_
                      refine TD.q rfl (.g rfl rfl (bn_f c225)) (Ex.pn rfl (decide_eq_false c226) rfl) rfl ?_
                      refine TD.q rfl .u (Ex.pn rfl (bn_f c225) rfl) rfl ?_
                      cases h
                      exact TD.nil (X.jq [0, 0, 0] ⟨rfl, rfl⟩ (by rfl) (by rfl))
                  · replace h := ifF c225 h
                    replace c225 := eq_false_of_ne_true c225
                    refine TD.run ft_produce_ok [9] rfl rfl ?_
                    refine TD.no rfl (.gn rfl rfl (bn_t c225)) rfl ?_
                    refine TD.no rfl (.gn rfl rfl (bn_t c225)) rfl ?_
                    refine TD.no rfl (.gn rfl rfl (bn_t c225)) rfl ?_
                    refine TD.no rfl (.gu rfl rfl) rfl ?_
                    refine TD.no rfl (.gu rfl rfl) rfl ?_
                    refine TD.no rfl (.gu rfl rfl) rfl ?_
                    refine TD.no rfl (.gu rfl rfl) rfl ?_
                    refine TD.no rfl (.gu rfl rfl) rfl ?_
                    refine TD.no rfl (.gu rfl rfl) rfl ?_
                    refine TD.no rfl (.gu rfl rfl) rfl ?_
                    refine TD.no rfl (.gu rfl rfl) rfl ?_
                    refine TD.no rfl (.gu rfl rfl) rfl ?_
                    refine TD.no rfl (.gu rfl rfl) rfl ?_
                    refine TD.no rfl (.gn rfl rfl (bn_t c225)) rfl ?_
                    refine TD.q rfl .u (Ex.py rfl (bn_t c225) rfl) rfl ?_
                    cases h
                    exact TD.nil (X.jq [0, 0, 0] ⟨rfl, rfl⟩ (by rfl) (by rfl))
              · rintro _ _ ⟨rfl, rfl⟩
                clear h
                have h := hk221
                clear hk221
                try dsimp only at h
                by_cases c236 : y220 = true
                · replace h := ifT c236 h
                  refine X.seq ?_
                  refine T.yes rfl c236 ?_
                  refine T.seq (T.region rfl ?_)
                  refine TL.run ft_produce_ok [0] rfl rfl ?_
                  obtain rfl := Option.some.inj h
                  replace h := hO162
                  clear hO162
                  try dsimp only at h
                  obtain rfl := Option.some.inj h
                  replace h := hO8
                  clear hO8
                  try dsimp only at h
                  obtain rfl := Option.some.inj h
                  exact TL.nil (X.seq (T.ret (X.rb (X.rs (X.rs (X.rb (X.rb (X.rs (X.rs (X.rb (X.rs (X.done1 [2] Tryz.results47 (RV.tm rfl) ⟨rfl, rfl, rfl⟩ (by rfl) (.inl rfl)))))))))))))
                · replace h := ifF c236 h
                  replace c236 := eq_false_of_ne_true c236
                  refine X.seq ?_
                  refine T.no rfl c236 ?_
                  refine T.skip (X.blk (X.seq (T.region rfl ?_)))
                  refine TL.q rfl .u (Ex.add rfl rfl (by omega)) rfl ?_
                  refine TL.run ft_produce_ok [1] rfl rfl ?_
                  exact TL.nil (X.back (m' := m163) [1, 1] (by omega) ⟨y158, k159 + 1, by omega, rfl, rfl, h⟩ (by rfl) (by rfl))
def f_produce_RequestBatches_l1 (a0 : ProduceRequest) : List Bat → Int → Option (Lp Int Int)
  | [], y14 => some (Lp.go y14)
  | x20 :: xs, y14 => (f_batch_Check x20).bind fun x28 => if x28 = 0 then (if x20.fControl = true then some (Lp.ret 12) else (if (x20.fTxn == a0.fID.null) = true then some (Lp.ret 8) else (f_produce_RequestBatches_l1 a0 xs y14))) else some (Lp.ret x28)
def f_produce_RequestBatches (a0 : ProduceRequest) (a1 : List Bat) (a2 : Int) : Option (Int) := (if (a1.length : Int) = 0 then some true else (if a2 < 4 then (if (a1.length : Int) > 1 then some true else some false) else some false)).bind fun y8 => if y8 = true then some 10 else ((f_produce_RequestBatches_l1 a0 a1 0).bind fun e => match e with | .ret r => some r | .go y33 => some 0)
set_option maxRecDepth 100000 in
set_option maxHeartbeats 4000000 in
theorem f_produce_RequestBatches_spec (a0 : ProduceRequest) (A1 : Option Addr) (c2 : Nat) (a1 : List Bat) (A3 : Option Addr) (c4 : Nat) (a2 : Int) (r : Int) (h : f_produce_RequestBatches a0 a1 a2 = some r) : SpecX Tryz.prog 48 #[.agg #[.bool a0.fID.null, .string (bsOf a0.fID.data), .int .i64 a0.fAcks, .int .i64 a0.fTimeout, .slice A1 a0.fTopics.length c2], .slice A3 a1.length c4, .int .i64 a2] (RX.and (RX.of (sliceRd 2 ProduceTopic_rd) [.slice A1 a0.fTopics.length c2] a0.fTopics) (RX.of (sliceRd 12 Bat_rd) [.slice A3 a1.length c4] a1)) (EmpR) (fun v A' N => v = .int .i64 r ∧ A' = EmpR ∧ N = []) := by
  refine enterA Tryz.func48 rfl Tryz.ntmps48 rfl ?_
  intro F w hX
  unfold f_produce_RequestBatches at h
  refine T.seq (T.region rfl ?_)
  refine TL.box rfl .u rfl rfl (fun b5 => ?_)
  refine TL.run ft_produce_ok [1] rfl rfl ?_
  refine TL.nil (X.seq (T.seq (T.seq ?_)))
  obtain ⟨y8, h, hk9⟩ := Option.bind_eq_some_iff.1 h
  refine T.jq (fun e Rs => e = [(1, .slice A3 a1.length c4), (3, .pointer (some ⟨b5, 0, none⟩)), (6, .int .i64 0), (21, .bool y8)] ∧ Rs = [BlkR b5 26 #[.bool a0.fID.null, .string (bsOf a0.fID.data), .int .i64 a0.fAcks, .int .i64 a0.fTimeout, .slice A1 a0.fTopics.length c2], EmpR]) ?_ ?_
  · clear hk9
    refine T.region rfl ?_
    refine TL.run ft_produce_ok [0] rfl rfl ?_
    refine TL.q rfl .u (Ex.lenS rfl Tryz.runUnderlying52) rfl ?_
    by_cases c10 : (a1.length : Int) = 0
    · replace h := ifT c10 h
      refine TL.run ft_produce_ok [2, 3] rfl rfl ?_
      refine TL.hv 13 rfl (decide_eq_true c10) ?_
      refine TL.rw ft_produce_ok 8 rfl ?_
      cases h
      exact TL.nil (X.jq [0, 0] ⟨rfl, rfl⟩ (by rfl) (by rfl))
    · replace h := ifF c10 h
      refine TL.run ft_produce_ok [2, 3] rfl rfl ?_
      refine TL.hv 13 rfl (decide_eq_false c10) ?_
      by_cases c11 : a2 < 4
      · replace h := ifT c11 h
        refine TL.rw ft_produce_ok 3 rfl ?_
        refine TL.hv 16 rfl (decide_eq_true c11) ?_
        refine TL.rw ft_produce_ok 1 rfl ?_
        refine TL.q rfl (.g rfl rfl rfl) (Ex.lenS rfl Tryz.runUnderlying52) rfl ?_
        refine TL.rw ft_produce_ok 3 rfl ?_
        by_cases c12 : (a1.length : Int) > 1
        · replace h := ifT c12 h
          cases h
          exact TL.nil (X.as (d := 21) (v' := .bool true) rfl (congrArg Value.bool (decide_eq_true c12)) (X.jq [0, 0] ⟨rfl, rfl⟩ (by rfl) (by rfl)))
        · replace h := ifF c12 h
          cases h
          exact TL.nil (X.as (d := 21) (v' := .bool false) rfl (congrArg Value.bool (decide_eq_false c12)) (X.jq [0, 0] ⟨rfl, rfl⟩ (by rfl) (by rfl)))
      · replace h := ifF c11 h
        refine TL.rw ft_produce_ok 3 rfl ?_
        refine TL.hv 16 rfl (decide_eq_false c11) ?_
        refine TL.rw ft_produce_ok 5 rfl ?_
        cases h
        exact TL.nil (X.jq [0, 0] ⟨rfl, rfl⟩ (by rfl) (by rfl))
  · rintro _ _ ⟨rfl, rfl⟩
    clear h
    have h := hk9
    clear hk9
    try dsimp only at h
    by_cases c13 : y8 = true
    · replace h := ifT c13 h
      refine X.seq ?_
      refine T.yes rfl c13 ?_
      refine T.seq (T.region rfl ?_)
      refine TL.run ft_produce_ok [0] rfl rfl ?_
      obtain rfl := Option.some.inj h
      exact TL.nil (X.seq (T.ret (X.rs (X.done1 [1] Tryz.results48 (RV.tm rfl) ⟨rfl, rfl, rfl⟩ (by rfl) (.inl rfl)))))
    · replace h := ifF c13 h
      replace c13 := eq_false_of_ne_true c13
      refine X.seq ?_
      refine T.no rfl c13 ?_
      refine T.skip (X.seq (T.seq (T.seq (T.region rfl ?_))))
      refine TL.run ft_produce_ok [0] rfl rfl ?_
      refine TL.q rfl .u (Ex.lenS rfl Tryz.runUnderlying52) rfl ?_
      refine TL.run ft_produce_ok [2] rfl rfl ?_
      refine TL.nil (X.seq (T.block ?_))
      obtain ⟨E16, hE17, hO18⟩ := Option.bind_eq_some_iff.1 h
      have hk22len := RX.len_le (RX.reads_right hX)
      refine T.lp (fun m e Rs => ∃ (y14 : Int) (k15 : Nat), k15 + m = a1.length ∧ e = [(3, .pointer (some ⟨b5, 0, none⟩)), (6, .int .i64 y14), (22, .slice A3 a1.length c4), (23, .int .i64 (a1.length : Int)), (24, .int .i64 (k15 : Int))] ∧ Rs = [BlkR b5 26 #[.bool a0.fID.null, .string (bsOf a0.fID.data), .int .i64 a0.fAcks, .int .i64 a0.fTimeout, .slice A1 a0.fTopics.length c2], EmpR] ∧ f_produce_RequestBatches_l1 a0 (a1.drop k15) y14 = some E16) (a1.length) [0, 0] ⟨0, 0, by simp, rfl, rfl, by rw [List.drop_zero]; exact hE17⟩ (by rfl) (by rfl) ?_
      rintro m19 _ _ ⟨y14, k15, hk22, rfl, rfl, hl21⟩
      clear hE17 h
      cases m19 with
      | zero =>
        have h := hl21
        clear hl21
        rw [List.drop_of_length_le (by omega), f_produce_RequestBatches_l1] at h
        have hk22ge : ¬ ((k15 : Int) < (a1.length : Int)) := by omega
        refine T.seq (T.region rfl ?_)
        refine TL.run ft_produce_ok [0] rfl rfl ?_
        refine TL.nil (X.seq (T.seq ?_))
        refine T.no rfl (decide_eq_false hk22ge) ?_
        obtain rfl := Option.some.inj h
        replace h := hO18
        clear hO18
        try dsimp only at h
        refine T.exit (X.exs (X.exs (X.ex (X.seq (T.seq (T.region rfl ?_))))))
        refine TL.run ft_produce_ok [0] rfl rfl ?_
        obtain rfl := Option.some.inj h
        exact TL.nil (X.seq (T.ret (X.done1 [1] Tryz.results48 (RV.tm rfl) ⟨rfl, rfl, rfl⟩ (by rfl) (.inl rfl))))
      | succ m19 =>
        have h := hl21
        clear hl21
        obtain ⟨x20, hxx20⟩ : ∃ x, a1[k15]? = some x := ⟨_, List.getElem?_eq_getElem (by omega)⟩
        rw [drop_cons hxx20, f_produce_RequestBatches_l1] at h
        have hk22lt : (k15 : Int) < (a1.length : Int) := by omega
        refine T.seq (T.region rfl ?_)
        refine TL.run ft_produce_ok [0] rfl rfl ?_
        refine TL.nil (X.seq (T.seq ?_))
        refine T.yes rfl (decide_eq_true hk22lt) ?_
        obtain ⟨gz23, oz23, rfl, z23cs, z23cl, z23cc, z23nf, z23r⟩ := RX.elem (by decide) (RX.reads_right hX) hxx20
        obtain ⟨z23S, z23r, z23rr⟩ := z23r
        obtain ⟨A24, c25, rfl, z23s0⟩ := z23r
        have hX26 : (RX.of (sliceRd 7 Rec_rd) [.slice A24 x20.fRecords.length c25] x20.fRecords).reads w F := ⟨z23S, z23s0, z23rr⟩
        refine T.skip (X.seq (T.seq (T.block (T.seq (T.region rfl ?_)))))
        refine TL.q rfl .u (Ex.ixS (k := k15) rfl rfl rfl Tryz.runUnderlying52 Tryz.sizeOf30 (List.getElem?_eq_some_iff.1 hxx20).1) rfl ?_
        refine TL.q rfl .u (Ex.oS (us := [.int .i64 x20.fBase, .int .i64 x20.fLeader, .bool x20.fAppend, .bool x20.fTxn, .bool x20.fControl, .int .i64 x20.fLast, .int .i64 x20.fFirst, .int .i64 x20.fMax, .int .i64 x20.fProducer, .int .i64 x20.fEpoch, .int .i64 x20.fSequence, .slice A24 x20.fRecords.length c25]) 0 rfl Tryz.isAgg30 Tryz.sizeOf30 z23nf z23cc rfl rfl rfl) rfl ?_
        refine TL.alloc rfl .u Tryz.zeroValue30 rfl (fun b27 => ?_)
        refine TL.st0 (cs' := #[.int .i64 x20.fBase, .int .i64 x20.fLeader, .bool x20.fAppend, .bool x20.fTxn, .bool x20.fControl, .int .i64 x20.fLast, .int .i64 x20.fFirst, .int .i64 x20.fMax, .int .i64 x20.fProducer, .int .i64 x20.fEpoch, .int .i64 x20.fSequence, .slice A24 x20.fRecords.length c25]) rfl .u rfl rfl Tryz.sizeOf30 rfl rfl rfl rfl ?_
        refine TL.nil (X.seq (T.seq (T.seq (T.region rfl ?_))))
        refine TL.q rfl .u (Ex.bS (us := [.int .i64 x20.fBase, .int .i64 x20.fLeader, .bool x20.fAppend, .bool x20.fTxn, .bool x20.fControl, .int .i64 x20.fLast, .int .i64 x20.fFirst, .int .i64 x20.fMax, .int .i64 x20.fProducer, .int .i64 x20.fEpoch, .int .i64 x20.fSequence, .slice A24 x20.fRecords.length c25]) 0 rfl Tryz.isAgg30 Tryz.sizeOf30 rfl rfl rfl) rfl ?_
        obtain ⟨x28, hx29, h⟩ := Option.bind_eq_some_iff.1 h
        refine TL.ce rfl .u (.fn Tryz.call32 rfl) (f_batch_Check_spec x20 _ _ _ hx29) (fun _ hs => (SrcE.old hs hX26)) rfl ?_
        refine TL.run ft_produce_ok [2] rfl rfl ?_
        refine TL.nil (X.seq (T.seq (T.region rfl ?_)))
        refine TL.run ft_produce_ok [0, 1] rfl rfl ?_
        by_cases c30 : x28 = 0
        · replace h := ifT c30 h
          refine TL.nil (X.seq ?_)
          refine T.no rfl (bn_f (decide_eq_true c30)) ?_
          refine T.skip (X.seq (T.block (T.seq (T.region rfl ?_))))
          refine TL.rb ft_produce_ok nt_produce_ok 0 rfl 3 rfl rfl ?_
          by_cases c31 : x20.fControl = true
          · replace h := ifT c31 h
            refine TL.nil (X.seq ?_)
            refine T.yes rfl c31 ?_
            refine T.seq (T.region rfl ?_)
            refine TL.run ft_produce_ok [0] rfl rfl ?_
            obtain rfl := Option.some.inj h
            replace h := hO18
            clear hO18
            try dsimp only at h
            obtain rfl := Option.some.inj h
            exact TL.nil (X.seq (T.ret (X.rb (X.rb (X.rs (X.rs (X.rb (X.rs (X.done1 [2] Tryz.results48 (RV.tm rfl) ⟨rfl, rfl, rfl⟩ (by rfl) (.inl rfl))))))))))
          · replace h := ifF c31 h
            replace c31 := eq_false_of_ne_true c31
            refine TL.nil (X.seq ?_)
            refine T.no rfl c31 ?_
            refine T.seq (T.region rfl ?_)
            refine TL.rb ft_produce_ok nt_produce_ok 0 rfl 4 rfl rfl ?_
            refine TL.rb ft_produce_ok nt_produce_ok 1 rfl 1 rfl rfl ?_
            refine TL.q rfl .u (Ex.bEq rfl rfl rfl rfl Tryz.runUnderlying4) rfl ?_
            refine TL.run ft_produce_ok [6] rfl rfl ?_
            by_cases c32 : (x20.fTxn == a0.fID.null) = true
            · replace h := ifT c32 h
              refine TL.nil (X.seq ?_)
              refine T.yes rfl c32 ?_
              refine T.seq (T.region rfl ?_)
              refine TL.run ft_produce_ok [0] rfl rfl ?_
              obtain rfl := Option.some.inj h
              replace h := hO18
              clear hO18
              try dsimp only at h
              obtain rfl := Option.some.inj h
              exact TL.nil (X.seq (T.ret (X.rb (X.rb (X.rs (X.rs (X.rb (X.rs (X.done1 [2] Tryz.results48 (RV.tm rfl) ⟨rfl, rfl, rfl⟩ (by rfl) (.inl rfl))))))))))
            · replace h := ifF c32 h
              replace c32 := eq_false_of_ne_true c32
              refine TL.nil (X.seq ?_)
              refine T.no rfl c32 ?_
              refine T.skip (X.blk (X.blk (X.seq (T.region rfl ?_))))
              refine TL.q rfl .u (Ex.add rfl rfl (by omega)) rfl ?_
              refine TL.run ft_produce_ok [1] rfl rfl ?_
              exact TL.nil (X.back (m' := m19) [1, 1] (by omega) ⟨y14, k15 + 1, by omega, rfl, rfl, h⟩ (by rfl) (by rfl))
        · replace h := ifF c30 h
          refine TL.nil (X.seq ?_)
          refine T.yes rfl (bn_t (decide_eq_false c30)) ?_
          refine T.seq (T.region rfl ?_)
          refine TL.run ft_produce_ok [0, 1] rfl rfl ?_
          obtain rfl := Option.some.inj h
          replace h := hO18
          clear hO18
          try dsimp only at h
          obtain rfl := Option.some.inj h
          exact TL.nil (X.seq (T.ret (X.rs (X.rb (X.rs (X.rs (X.rb (X.rs (X.done1 [2] Tryz.results48 (RV.tm rfl) ⟨rfl, rfl, rfl⟩ (by rfl) (.inl rfl))))))))))
def f_produce_RequestCheck_l2 (a0 : ProduceRequest) (a1 : Int) : List ProducePart → Int → Option (Lp Int Int)
  | [], y51 => some (Lp.go y51)
  | x57 :: xs, y51 => (f_produce_RequestBatches a0 x57.fBatches a1).bind fun x65 => if x65 = 0 then (f_produce_RequestCheck_l2 a0 a1 xs y51) else some (Lp.ret x65)
def f_produce_RequestCheck_l1 (a0 : ProduceRequest) (a1 : Int) : List ProduceTopic → Int → Option (Lp Int Int)
  | [], y37 => some (Lp.go y37)
  | x43 :: xs, y37 => (f_produce_RequestCheck_l2 a0 a1 x43.fParts y37).bind fun e => match e with | .ret r => some (Lp.ret r) | .go y68 => (f_produce_RequestCheck_l1 a0 a1 xs y68)
def f_produce_RequestCheck (a0 : ProduceRequest) (a1 : Int) : Option (Int) := ((gRight a0.fID).bind fun x12 => if x12 = true then (if a0.fID.null = true then some false else ((gKRight a0.fID.data).bind fun x16 => if x16 = true then some false else some true)) else some true).bind fun y10 => if y10 = true then some 4 else ((if a0.fAcks < (-1) then some true else (if a0.fAcks > 1 then some true else (if a0.fTimeout < 0 then some true else ((gFits a0.fTimeout 4).bind fun x30 => if x30 = true then some false else some true)))).bind fun y25 => if y25 = true then some 11 else ((f_produce_rise a0.fTopics).bind fun x34 => if x34 = 0 then ((f_produce_RequestCheck_l1 a0 a1 a0.fTopics 0).bind fun e => match e with | .ret r => some r | .go y70 => some 0) else some x34))
set_option maxRecDepth 100000 in
set_option maxHeartbeats 4000000 in
theorem f_produce_RequestCheck_spec (a0 : ProduceRequest) (A1 : Option Addr) (c2 : Nat) (a1 : Int) (r : Int) (h : f_produce_RequestCheck a0 a1 = some r) : SpecX Tryz.prog 21 #[.agg #[.bool a0.fID.null, .string (bsOf a0.fID.data), .int .i64 a0.fAcks, .int .i64 a0.fTimeout, .slice A1 a0.fTopics.length c2], .int .i64 a1] (RX.of (sliceRd 2 ProduceTopic_rd) [.slice A1 a0.fTopics.length c2] a0.fTopics) (EmpR) (fun v A' N => v = .int .i64 r ∧ A' = EmpR ∧ N = []) := by
  refine enterA Tryz.func21 rfl Tryz.ntmps21 rfl ?_
  intro F w hX
  unfold f_produce_RequestCheck at h
  refine T.seq (T.region rfl ?_)
  refine TL.box rfl .u rfl rfl (fun b3 => ?_)
  refine TL.run ft_produce_ok [1] rfl rfl ?_
  refine TL.nil (X.seq (T.seq (T.block (T.seq ?_))))
  obtain ⟨y10, h, hk11⟩ := Option.bind_eq_some_iff.1 h
  refine T.jq (fun e Rs => e = [(1, .int .i64 a1), (2, .pointer (some ⟨b3, 0, none⟩)), (4, .int .i64 0), (11, .bool y10)] ∧ Rs = [BlkR b3 26 #[.bool a0.fID.null, .string (bsOf a0.fID.data), .int .i64 a0.fAcks, .int .i64 a0.fTimeout, .slice A1 a0.fTopics.length c2], EmpR]) ?_ ?_
  · clear hk11
    refine T.region rfl ?_
    refine TL.run ft_produce_ok [0] rfl rfl ?_
    refine TL.q rfl .u (Ex.bS (us := [.bool a0.fID.null, .string (bsOf a0.fID.data)]) 0 rfl Tryz.isAgg23 Tryz.sizeOf23 rfl rfl rfl) rfl ?_
    obtain ⟨x12, hx13, h⟩ := Option.bind_eq_some_iff.1 h
    refine TL.ce rfl .u (.fn Tryz.call45 rfl) (gRight_spec a0.fID _ hx13) (fun _ hs => (RX.reads_triv _ _)) rfl ?_
    by_cases c14 : x12 = true
    · replace h := ifT c14 h
      refine TL.run ft_produce_ok [3, 4] rfl rfl ?_
      refine TL.hv 16 rfl (bn_f c14) ?_
      by_cases c15 : a0.fID.null = true
      · replace h := ifT c15 h
        refine TL.rb ft_produce_ok nt_produce_ok 0 rfl 5 rfl rfl ?_
        refine TL.hv 21 rfl (bn_f c15) ?_
        refine TL.rw ft_produce_ok 8 rfl ?_
        cases h
        exact TL.nil (X.jq [0, 0] ⟨rfl, rfl⟩ (by rfl) (by rfl))
      · replace h := ifF c15 h
        replace c15 := eq_false_of_ne_true c15
        refine TL.rb ft_produce_ok nt_produce_ok 0 rfl 5 rfl rfl ?_
        refine TL.hv 21 rfl (bn_t c15) ?_
        obtain ⟨x16, hx17, h⟩ := Option.bind_eq_some_iff.1 h
        refine TL.rb ft_produce_ok nt_produce_ok 0 rfl 3 rfl rfl ?_
        refine TL.ce rfl (.g rfl rfl rfl) (.fn Tryz.call46 rfl) (SpecX.pure (fun w => gKRight_spec a0.fID.data _ hx17 w)) (fun _ _ => RX.reads_triv _ _) rfl ?_
        refine TL.rw ft_produce_ok 4 rfl ?_
        by_cases c18 : x16 = true
        · replace h := ifT c18 h
          cases h
          exact TL.nil (X.as (d := 11) (v' := .bool false) rfl (congrArg Value.bool (bn_f c18)) (X.jq [0, 0] ⟨rfl, rfl⟩ (by rfl) (by rfl)))
        · replace h := ifF c18 h
          replace c18 := eq_false_of_ne_true c18
          cases h
          exact TL.nil (X.as (d := 11) (v' := .bool true) rfl (congrArg Value.bool (bn_t c18)) (X.jq [0, 0] ⟨rfl, rfl⟩ (by rfl) (by rfl)))
    · replace h := ifF c14 h
      replace c14 := eq_false_of_ne_true c14
      refine TL.run ft_produce_ok [3, 4] rfl rfl ?_
      refine TL.hv 16 rfl (bn_t c14) ?_
      refine TL.rw ft_produce_ok 13 rfl ?_
      cases h
      exact TL.nil (X.jq [0, 0] ⟨rfl, rfl⟩ (by rfl) (by rfl))
  · rintro _ _ ⟨rfl, rfl⟩
    clear h
    have h := hk11
    clear hk11
    try dsimp only at h
    by_cases c19 : y10 = true
    · replace h := ifT c19 h
      refine X.seq ?_
      refine T.yes rfl c19 ?_
      refine T.seq (T.region rfl ?_)
      refine TL.run ft_produce_ok [0] rfl rfl ?_
      obtain rfl := Option.some.inj h
      exact TL.nil (X.seq (T.ret (X.rb (X.rs (X.done1 [1] Tryz.results21 (RV.tm rfl) ⟨rfl, rfl, rfl⟩ (by rfl) (.inl rfl))))))
    · replace h := ifF c19 h
      replace c19 := eq_false_of_ne_true c19
      refine X.seq ?_
      refine T.no rfl c19 ?_
      refine T.seq ?_
      obtain ⟨y25, h, hk26⟩ := Option.bind_eq_some_iff.1 h
      refine T.jq (fun e Rs => e = [(1, .int .i64 a1), (2, .pointer (some ⟨b3, 0, none⟩)), (4, .int .i64 0), (29, .bool y25)] ∧ Rs = [BlkR b3 26 #[.bool a0.fID.null, .string (bsOf a0.fID.data), .int .i64 a0.fAcks, .int .i64 a0.fTimeout, .slice A1 a0.fTopics.length c2], EmpR]) ?_ ?_
      · clear hk26
        refine T.region rfl ?_
        by_cases c27 : a0.fAcks < (-1)
        · replace h := ifT c27 h
          refine TL.rb ft_produce_ok nt_produce_ok 0 rfl 4 rfl rfl ?_
          refine TL.hv 33 rfl (decide_eq_true c27) ?_
          refine TL.rw ft_produce_ok 16 rfl ?_
          cases h
          exact TL.nil (X.jq [0, 0] ⟨rfl, rfl⟩ (by rfl) (by rfl))
        · replace h := ifF c27 h
          refine TL.rb ft_produce_ok nt_produce_ok 0 rfl 4 rfl rfl ?_
          refine TL.hv 33 rfl (decide_eq_false c27) ?_
          by_cases c28 : a0.fAcks > 1
          · replace h := ifT c28 h
            refine TL.rb ft_produce_ok nt_produce_ok 0 rfl 5 rfl rfl ?_
            refine TL.hv 38 rfl (decide_eq_true c28) ?_
            refine TL.rw ft_produce_ok 11 rfl ?_
            cases h
            exact TL.nil (X.jq [0, 0] ⟨rfl, rfl⟩ (by rfl) (by rfl))
          · replace h := ifF c28 h
            refine TL.rb ft_produce_ok nt_produce_ok 0 rfl 5 rfl rfl ?_
            refine TL.hv 38 rfl (decide_eq_false c28) ?_
            by_cases c29 : a0.fTimeout < 0
            · replace h := ifT c29 h
              refine TL.rb ft_produce_ok nt_produce_ok 0 rfl 5 rfl rfl ?_
              refine TL.hv 43 rfl (decide_eq_true c29) ?_
              refine TL.rw ft_produce_ok 6 rfl ?_
              cases h
              exact TL.nil (X.jq [0, 0] ⟨rfl, rfl⟩ (by rfl) (by rfl))
            · replace h := ifF c29 h
              refine TL.rb ft_produce_ok nt_produce_ok 0 rfl 5 rfl rfl ?_
              refine TL.hv 43 rfl (decide_eq_false c29) ?_
              obtain ⟨x30, hx31, h⟩ := Option.bind_eq_some_iff.1 h
              refine TL.rb ft_produce_ok nt_produce_ok 0 rfl 2 rfl rfl ?_
              refine TL.ce rfl (.g rfl rfl rfl) (.fn Tryz.call40 rfl) (SpecX.pure (fun w => gFits_spec a0.fTimeout 4 _ hx31 w)) (fun _ _ => RX.reads_triv _ _) rfl ?_
              refine TL.rw ft_produce_ok 3 rfl ?_
              by_cases c32 : x30 = true
              · replace h := ifT c32 h
                cases h
                exact TL.nil (X.as (d := 29) (v' := .bool false) rfl (congrArg Value.bool (bn_f c32)) (X.jq [0, 0] ⟨rfl, rfl⟩ (by rfl) (by rfl)))
              · replace h := ifF c32 h
                replace c32 := eq_false_of_ne_true c32
                cases h
                exact TL.nil (X.as (d := 29) (v' := .bool true) rfl (congrArg Value.bool (bn_t c32)) (X.jq [0, 0] ⟨rfl, rfl⟩ (by rfl) (by rfl)))
      · rintro _ _ ⟨rfl, rfl⟩
        clear h
        have h := hk26
        clear hk26
        try dsimp only at h
        by_cases c33 : y25 = true
        · replace h := ifT c33 h
          refine X.seq ?_
          refine T.yes rfl c33 ?_
          refine T.seq (T.region rfl ?_)
          refine TL.run ft_produce_ok [0] rfl rfl ?_
          obtain rfl := Option.some.inj h
          exact TL.nil (X.seq (T.ret (X.rb (X.rs (X.done1 [1] Tryz.results21 (RV.tm rfl) ⟨rfl, rfl, rfl⟩ (by rfl) (.inl rfl))))))
        · replace h := ifF c33 h
          replace c33 := eq_false_of_ne_true c33
          refine X.seq ?_
          refine T.no rfl c33 ?_
          refine T.skip (X.blk (X.seq (T.seq (T.seq (T.region rfl ?_)))))
          obtain ⟨x34, hx35, h⟩ := Option.bind_eq_some_iff.1 h
          refine TL.rb ft_produce_ok nt_produce_ok 0 rfl 2 rfl rfl ?_
          refine TL.ce rfl .u (.fn Tryz.call47 rfl) (f_produce_rise_spec a0.fTopics _ _ _ hx35) (fun _ hs => (SrcE.old hs hX)) rfl ?_
          refine TL.run ft_produce_ok [3] rfl rfl ?_
          refine TL.nil (X.seq (T.seq (T.region rfl ?_)))
          refine TL.run ft_produce_ok [0, 1] rfl rfl ?_
          by_cases c36 : x34 = 0
          · replace h := ifT c36 h
            refine TL.nil (X.seq ?_)
            refine T.no rfl (bn_f (decide_eq_true c36)) ?_
            refine T.skip (X.seq (T.seq (T.seq (T.region rfl ?_))))
            refine TL.rb ft_produce_ok nt_produce_ok 0 rfl 2 rfl rfl ?_
            refine TL.q rfl .u (Ex.lenS rfl Tryz.runUnderlying24) rfl ?_
            refine TL.run ft_produce_ok [3] rfl rfl ?_
            refine TL.nil (X.seq (T.block ?_))
            obtain ⟨E39, hE40, hO41⟩ := Option.bind_eq_some_iff.1 h
            have hk45len := RX.len_le hX
            refine T.lp (fun m e Rs => ∃ (y37 : Int) (k38 : Nat), k38 + m = a0.fTopics.length ∧ e = [(1, .int .i64 a1), (2, .pointer (some ⟨b3, 0, none⟩)), (4, .int .i64 y37), (56, .slice A1 a0.fTopics.length c2), (57, .int .i64 (a0.fTopics.length : Int)), (58, .int .i64 (k38 : Int))] ∧ Rs = [BlkR b3 26 #[.bool a0.fID.null, .string (bsOf a0.fID.data), .int .i64 a0.fAcks, .int .i64 a0.fTimeout, .slice A1 a0.fTopics.length c2], EmpR] ∧ f_produce_RequestCheck_l1 a0 a1 (a0.fTopics.drop k38) y37 = some E39) (a0.fTopics.length) [0, 0] ⟨0, 0, by simp, rfl, rfl, by rw [List.drop_zero]; exact hE40⟩ (by rfl) (by rfl) ?_
            rintro m42 _ _ ⟨y37, k38, hk45, rfl, rfl, hl44⟩
            clear hE40 h
            cases m42 with
            | zero =>
              have h := hl44
              clear hl44
              rw [List.drop_of_length_le (by omega), f_produce_RequestCheck_l1] at h
              have hk45ge : ¬ ((k38 : Int) < (a0.fTopics.length : Int)) := by omega
              refine T.seq (T.region rfl ?_)
              refine TL.run ft_produce_ok [0] rfl rfl ?_
              refine TL.nil (X.seq (T.seq ?_))
              refine T.no rfl (decide_eq_false hk45ge) ?_
              obtain rfl := Option.some.inj h
              replace h := hO41
              clear hO41
              try dsimp only at h
              refine T.exit (X.exs (X.exs (X.ex (X.seq (T.seq (T.region rfl ?_))))))
              refine TL.run ft_produce_ok [0] rfl rfl ?_
              obtain rfl := Option.some.inj h
              exact TL.nil (X.seq (T.ret (X.done1 [1] Tryz.results21 (RV.tm rfl) ⟨rfl, rfl, rfl⟩ (by rfl) (.inl rfl))))
            | succ m42 =>
              have h := hl44
              clear hl44
              obtain ⟨x43, hxx43⟩ : ∃ x, a0.fTopics[k38]? = some x := ⟨_, List.getElem?_eq_getElem (by omega)⟩
              rw [drop_cons hxx43, f_produce_RequestCheck_l1] at h
              have hk45lt : (k38 : Int) < (a0.fTopics.length : Int) := by omega
              refine T.seq (T.region rfl ?_)
              refine TL.run ft_produce_ok [0] rfl rfl ?_
              refine TL.nil (X.seq (T.seq ?_))
              refine T.yes rfl (decide_eq_true hk45lt) ?_
              obtain ⟨gz46, oz46, rfl, z46cs, z46cl, z46cc, z46nf, z46r⟩ := RX.elem (by decide) hX hxx43
              obtain ⟨z46S, z46r, z46rr⟩ := z46r
              obtain ⟨A47, c48, rfl, z46s0⟩ := z46r
              have hX49 : (RX.of (sliceRd 2 ProducePart_rd) [.slice A47 x43.fParts.length c48] x43.fParts).reads w F := ⟨z46S, z46s0, z46rr⟩
              refine T.skip (X.seq (T.seq (T.block (T.seq (T.region rfl ?_)))))
              refine TL.q rfl .u (Ex.ixS (k := k38) rfl rfl rfl Tryz.runUnderlying24 Tryz.sizeOf51 (List.getElem?_eq_some_iff.1 hxx43).1) rfl ?_
              refine TL.q rfl .u (Ex.oS (us := [.string (bsOf x43.fName), .slice A47 x43.fParts.length c48]) 0 rfl Tryz.isAgg51 Tryz.sizeOf51 z46nf z46cc rfl rfl rfl) rfl ?_
              refine TL.alloc rfl .u Tryz.zeroValue51 rfl (fun b50 => ?_)
              refine TL.st0 (cs' := #[.string (bsOf x43.fName), .slice A47 x43.fParts.length c48]) rfl .u rfl rfl Tryz.sizeOf51 rfl rfl rfl rfl ?_
              refine TL.nil (X.seq (T.seq (T.region rfl ?_)))
              refine TL.rb ft_produce_ok nt_produce_ok 0 rfl 2 rfl rfl ?_
              refine TL.q rfl .u (Ex.lenS rfl Tryz.runUnderlying49) rfl ?_
              refine TL.run ft_produce_ok [3] rfl rfl ?_
              refine TL.nil (X.seq (T.block ?_))
              obtain ⟨E53, hE54, hO55⟩ := Option.bind_eq_some_iff.1 h
              have hk59len := RX.len_le hX49
              refine T.lp (fun m e Rs => ∃ (y51 : Int) (k52 : Nat), k52 + m = x43.fParts.length ∧ e = [(1, .int .i64 a1), (2, .pointer (some ⟨b3, 0, none⟩)), (4, .int .i64 y51), (56, .slice (some ⟨gz46, oz46, none⟩) a0.fTopics.length c2), (57, .int .i64 (a0.fTopics.length : Int)), (58, .int .i64 (k38 : Int)), (63, .slice A47 x43.fParts.length c48), (64, .int .i64 (x43.fParts.length : Int)), (65, .int .i64 (k52 : Int))] ∧ Rs = [BlkR b50 51 #[.string (bsOf x43.fName), .slice A47 x43.fParts.length c48], BlkR b3 26 #[.bool a0.fID.null, .string (bsOf a0.fID.data), .int .i64 a0.fAcks, .int .i64 a0.fTimeout, .slice (some ⟨gz46, oz46, none⟩) a0.fTopics.length c2], EmpR] ∧ f_produce_RequestCheck_l2 a0 a1 (x43.fParts.drop k52) y51 = some E53) (x43.fParts.length) [0, 0, 0] ⟨y37, 0, by simp, rfl, rfl, by rw [List.drop_zero]; exact hE54⟩ (by rfl) (by rfl) ?_
              rintro m56 _ _ ⟨y51, k52, hk59, rfl, rfl, hl58⟩
              clear hE54 h
              cases m56 with
              | zero =>
                have h := hl58
                clear hl58
                rw [List.drop_of_length_le (by omega), f_produce_RequestCheck_l2] at h
                have hk59ge : ¬ ((k52 : Int) < (x43.fParts.length : Int)) := by omega
                refine T.seq (T.region rfl ?_)
                refine TL.run ft_produce_ok [0] rfl rfl ?_
                refine TL.nil (X.seq (T.seq ?_))
                refine T.no rfl (decide_eq_false hk59ge) ?_
                obtain rfl := Option.some.inj h
                replace h := hO55
                clear hO55
                try dsimp only at h
                refine T.exit (X.exs (X.exs (X.ex (X.blk (X.seq (T.region rfl ?_))))))
                refine TL.q rfl .u (Ex.add rfl rfl (by omega)) rfl ?_
                refine TL.run ft_produce_ok [1] rfl rfl ?_
                exact TL.nil (X.back (m' := m42) [1, 1] (by omega) ⟨y51, k38 + 1, by omega, rfl, rfl, h⟩ (by rfl) (by rfl))
              | succ m56 =>
                have h := hl58
                clear hl58
                obtain ⟨x57, hxx57⟩ : ∃ x, x43.fParts[k52]? = some x := ⟨_, List.getElem?_eq_getElem (by omega)⟩
                rw [drop_cons hxx57, f_produce_RequestCheck_l2] at h
                have hk59lt : (k52 : Int) < (x43.fParts.length : Int) := by omega
                refine T.seq (T.region rfl ?_)
                refine TL.run ft_produce_ok [0] rfl rfl ?_
                refine TL.nil (X.seq (T.seq ?_))
                refine T.yes rfl (decide_eq_true hk59lt) ?_
                obtain ⟨gz60, oz60, rfl, z60cs, z60cl, z60cc, z60nf, z60r⟩ := RX.elem (by decide) hX49 hxx57
                obtain ⟨z60S, z60r, z60rr⟩ := z60r
                obtain ⟨A61, c62, rfl, z60s0⟩ := z60r
                have hX63 : (RX.of (sliceRd 12 Bat_rd) [.slice A61 x57.fBatches.length c62] x57.fBatches).reads w F := ⟨z60S, z60s0, z60rr⟩
                refine T.skip (X.seq (T.seq (T.block (T.seq (T.region rfl ?_)))))
                refine TL.q rfl .u (Ex.ixS (k := k52) rfl rfl rfl Tryz.runUnderlying49 Tryz.sizeOf54 (List.getElem?_eq_some_iff.1 hxx57).1) rfl ?_
                refine TL.q rfl .u (Ex.oS (us := [.int .i64 x57.fIndex, .slice A61 x57.fBatches.length c62]) 0 rfl Tryz.isAgg54 Tryz.sizeOf54 z60nf z60cc rfl rfl rfl) rfl ?_
                refine TL.alloc rfl .u Tryz.zeroValue54 rfl (fun b64 => ?_)
                refine TL.st0 (cs' := #[.int .i64 x57.fIndex, .slice A61 x57.fBatches.length c62]) rfl .u rfl rfl Tryz.sizeOf54 rfl rfl rfl rfl ?_
                refine TL.nil (X.seq (T.seq (T.region rfl ?_)))
                refine TL.q rfl .u (Ex.bS (us := [.bool a0.fID.null, .string (bsOf a0.fID.data), .int .i64 a0.fAcks, .int .i64 a0.fTimeout, .slice (some ⟨gz46, oz46, none⟩) a0.fTopics.length c2]) 2 rfl Tryz.isAgg26 Tryz.sizeOf26 rfl rfl rfl) rfl ?_
                obtain ⟨x65, hx66, h⟩ := Option.bind_eq_some_iff.1 h
                refine TL.rb ft_produce_ok nt_produce_ok 0 rfl 3 rfl rfl ?_
                refine TL.ce rfl .u (.fn Tryz.call48 rfl) (f_produce_RequestBatches_spec a0 _ _ x57.fBatches _ _ a1 _ hx66) (fun _ hs => (RX.reads_and (SrcE.old hs hX) (SrcE.old hs hX63))) rfl ?_
                refine TL.run ft_produce_ok [5] rfl rfl ?_
                refine TL.nil (X.seq (T.seq (T.region rfl ?_)))
                refine TL.run ft_produce_ok [0, 1] rfl rfl ?_
                by_cases c67 : x65 = 0
                · replace h := ifT c67 h
                  refine TL.nil (X.seq ?_)
                  refine T.no rfl (bn_f (decide_eq_true c67)) ?_
                  refine T.skip (X.blk (X.seq (T.region rfl ?_)))
                  refine TL.q rfl .u (Ex.add rfl rfl (by omega)) rfl ?_
                  refine TL.run ft_produce_ok [1] rfl rfl ?_
                  exact TL.nil (X.back (m' := m56) [1, 1, 1] (by omega) ⟨y51, k52 + 1, by omega, rfl, rfl, h⟩ (by rfl) (by rfl))
                · replace h := ifF c67 h
                  refine TL.nil (X.seq ?_)
                  refine T.yes rfl (bn_t (decide_eq_false c67)) ?_
                  refine T.seq (T.region rfl ?_)
                  refine TL.run ft_produce_ok [0, 1] rfl rfl ?_
                  obtain rfl := Option.some.inj h
                  replace h := hO55
                  clear hO55
                  try dsimp only at h
                  obtain rfl := Option.some.inj h
                  replace h := hO41
                  clear hO41
                  try dsimp only at h
                  obtain rfl := Option.some.inj h
                  exact TL.nil (X.seq (T.ret (X.rb (X.rs (X.rs (X.rb (X.rb (X.rs (X.rs (X.rb (X.rs (X.done1 [3] Tryz.results21 (RV.tm rfl) ⟨rfl, rfl, rfl⟩ (by rfl) (.inl rfl)))))))))))))
          · replace h := ifF c36 h
            refine TL.nil (X.seq ?_)
            refine T.yes rfl (bn_t (decide_eq_false c36)) ?_
            refine T.seq (T.region rfl ?_)
            refine TL.run ft_produce_ok [0, 1] rfl rfl ?_
            obtain rfl := Option.some.inj h
            exact TL.nil (X.seq (T.ret (X.rs (X.done1 [1] Tryz.results21 (RV.tm rfl) ⟨rfl, rfl, rfl⟩ (by rfl) (.inl rfl)))))
def f_produce_RequestWrite_l2 : List ProducePart → (List UInt8 × Int) → Option (List UInt8 × Int)
  | [], st78 => some st78
  | x83 :: xs, st78 => (f_batch_All x83.fBatches).bind fun (x91, x92) => (if x92 = 0 then some st78 else ((gOFail st78 x92).bind fun st100 => some st100)).bind fun st97 => (gOInt st97 x83.fIndex 4).bind fun st102 => (gOf x91).bind fun x104 => (gPutFixed st102 x104 4).bind fun st106 => f_produce_RequestWrite_l2 xs st106
def f_produce_RequestWrite_l1 : List ProduceTopic → (List UInt8 × Int) → Option (List UInt8 × Int)
  | [], st16 => some st16
  | x21 :: xs, st16 => ((gPutText st16 x21.fName).bind fun st73 => (gOInt st73 (x21.fParts.length : Int) 4).bind fun st75 => (f_produce_RequestWrite_l2 x21.fParts st75).bind fun st109 => some st109).bind fun st66 => f_produce_RequestWrite_l1 xs st66
def f_produce_RequestWrite (st : List UInt8 × Int) (a0 : ProduceRequest) (a2 : Int) : Option (List UInt8 × Int) := (f_produce_RequestCheck a0 a2).bind fun x4 => if x4 = 0 then ((gPutFixed st a0.fID 2).bind fun st7 => (gOInt st7 a0.fAcks 2).bind fun st9 => (gOInt st9 a0.fTimeout 4).bind fun st11 => (gOInt st11 (a0.fTopics.length : Int) 4).bind fun st13 => (f_produce_RequestWrite_l1 a0.fTopics st13).bind fun st111 => some st111) else ((gOFail st x4).bind fun st112 => some st112)
set_option maxRecDepth 100000 in
set_option maxHeartbeats 4000000 in
theorem f_produce_RequestWrite_spec (g : Nat) (st : List UInt8 × Int) (a0 : ProduceRequest) (A1 : Option Addr) (c2 : Nat) (a2 : Int) (r : List UInt8 × Int) (h : f_produce_RequestWrite st a0 a2 = some r) : SpecX Tryz.prog 10 #[.agg #[.bool a0.fID.null, .string (bsOf a0.fID.data), .int .i64 a0.fAcks, .int .i64 a0.fTimeout, .slice A1 a0.fTopics.length c2], .pointer (some ⟨g, 0, none⟩), .int .i64 a2] (RX.of (sliceRd 2 ProduceTopic_rd) [.slice A1 a0.fTopics.length c2] a0.fTopics) (OutR g st) (fun v A' N => v = .tuple #[] ∧ A' = OutR g r ∧ N = []) := by
  refine enterA Tryz.func10 rfl Tryz.ntmps10 rfl ?_
  intro F w hX
  unfold f_produce_RequestWrite at h
  refine T.seq (T.region rfl ?_)
  refine TL.box rfl .u rfl rfl (fun b3 => ?_)
  refine TL.nil (X.seq (T.seq (T.seq (T.region rfl ?_))))
  refine TL.q rfl .u (Ex.bS (us := [.bool a0.fID.null, .string (bsOf a0.fID.data), .int .i64 a0.fAcks, .int .i64 a0.fTimeout, .slice A1 a0.fTopics.length c2]) 0 rfl Tryz.isAgg26 Tryz.sizeOf26 rfl rfl rfl) rfl ?_
  obtain ⟨x4, hx5, h⟩ := Option.bind_eq_some_iff.1 h
  refine TL.run ft_produce_ok [1] rfl rfl ?_
  refine TL.ce rfl .u (.fn Tryz.call21 rfl) (f_produce_RequestCheck_spec a0 _ _ a2 _ hx5) (fun _ hs => (SrcE.old hs hX)) rfl ?_
  refine TL.run ft_produce_ok [3] rfl rfl ?_
  refine TL.nil (X.seq (T.seq (T.region rfl ?_)))
  refine TL.run ft_produce_ok [0, 1] rfl rfl ?_
  by_cases c6 : x4 = 0
  · replace h := ifT c6 h
    refine TL.nil (X.seq ?_)
    refine T.no rfl (bn_f (decide_eq_true c6)) ?_
    refine T.skip (X.seq (T.seq (T.region rfl ?_)))
    refine TL.run ft_produce_ok [0, 1] rfl rfl ?_
    refine TL.q rfl .u (Ex.bS (us := [.bool a0.fID.null, .string (bsOf a0.fID.data)]) 0 rfl Tryz.isAgg23 Tryz.sizeOf23 rfl rfl rfl) rfl ?_
    obtain ⟨st7, hx8, h⟩ := Option.bind_eq_some_iff.1 h
    refine TL.c1 rfl .u (.fn Tryz.call23 rfl) (gPutFixed_spec g st a0.fID 2 _ hx8) (fun _ hs => (Src.triv _)) rfl ?_
    refine TL.nil (X.seq (T.seq (T.region rfl ?_)))
    obtain ⟨st9, hx10, h⟩ := Option.bind_eq_some_iff.1 h
    refine TL.rb ft_produce_ok nt_produce_ok 0 rfl 3 rfl rfl ?_
    refine TL.c1 rfl .u (.fn Tryz.call24 rfl) (gOInt_spec g st7 a0.fAcks 2 _ hx10) (fun _ hs => (Src.triv _)) rfl ?_
    refine TL.nil (X.seq (T.seq (T.region rfl ?_)))
    obtain ⟨st11, hx12, h⟩ := Option.bind_eq_some_iff.1 h
    refine TL.rb ft_produce_ok nt_produce_ok 0 rfl 3 rfl rfl ?_
    refine TL.c1 rfl .u (.fn Tryz.call24 rfl) (gOInt_spec g st9 a0.fTimeout 4 _ hx12) (fun _ hs => (Src.triv _)) rfl ?_
    refine TL.nil (X.seq (T.seq (T.region rfl ?_)))
    refine TL.rb ft_produce_ok nt_produce_ok 0 rfl 3 rfl rfl ?_
    refine TL.q rfl .u (Ex.lenS rfl Tryz.runUnderlying24) rfl ?_
    obtain ⟨st13, hx14, h⟩ := Option.bind_eq_some_iff.1 h
    refine TL.c1 rfl .u (.fn Tryz.call24 rfl) (gOInt_spec g st11 (a0.fTopics.length : Int) 4 _ hx14) (fun _ hs => (Src.triv _)) rfl ?_
    refine TL.nil (X.seq (T.seq (T.region rfl ?_)))
    refine TL.rb ft_produce_ok nt_produce_ok 0 rfl 2 rfl rfl ?_
    refine TL.q rfl .u (Ex.lenS rfl Tryz.runUnderlying24) rfl ?_
    refine TL.run ft_produce_ok [3] rfl rfl ?_
    refine TL.nil (X.seq (T.block ?_))
    obtain ⟨E17, hE18, hO19⟩ := Option.bind_eq_some_iff.1 h
    have hk23len := RX.len_le hX
    refine T.lp (fun m e Rs => ∃ (k15 : Nat) (st16 : List UInt8 × Int), k15 + m = a0.fTopics.length ∧ e = [(1, .pointer (some ⟨g, 0, none⟩)), (39, .slice A1 a0.fTopics.length c2), (40, .int .i64 (a0.fTopics.length : Int)), (41, .int .i64 (k15 : Int))] ∧ Rs = [BlkR b3 26 #[.bool a0.fID.null, .string (bsOf a0.fID.data), .int .i64 a0.fAcks, .int .i64 a0.fTimeout, .slice A1 a0.fTopics.length c2], OutR g st16] ∧ f_produce_RequestWrite_l1 (a0.fTopics.drop k15) st16 = some E17) (a0.fTopics.length) [0, 0] ⟨0, st13, by simp, rfl, rfl, by rw [List.drop_zero]; exact hE18⟩ (by rfl) (by rfl) ?_
    rintro m20 _ _ ⟨k15, st16, hk23, rfl, rfl, hl22⟩
    clear hE18 h
    cases m20 with
    | zero =>
      have h := hl22
      clear hl22
      rw [List.drop_of_length_le (by omega), f_produce_RequestWrite_l1] at h
      have hk23ge : ¬ ((k15 : Int) < (a0.fTopics.length : Int)) := by omega
      refine T.seq (T.region rfl ?_)
      refine TL.run ft_produce_ok [0] rfl rfl ?_
      refine TL.nil (X.seq (T.seq ?_))
      refine T.no rfl (decide_eq_false hk23ge) ?_
      obtain rfl := Option.some.inj h
      replace h := hO19
      clear hO19
      try dsimp only at h
      obtain rfl := Option.some.inj h
      exact T.exit (X.exs (X.exs (X.ex (X.done0 [1] Tryz.results10 ⟨rfl, rfl, rfl⟩ (by rfl) (.inr rfl)))))
    | succ m20 =>
      have h := hl22
      clear hl22
      obtain ⟨x21, hxx21⟩ : ∃ x, a0.fTopics[k15]? = some x := ⟨_, List.getElem?_eq_getElem (by omega)⟩
      rw [drop_cons hxx21, f_produce_RequestWrite_l1] at h
      have hk23lt : (k15 : Int) < (a0.fTopics.length : Int) := by omega
      refine T.seq (T.region rfl ?_)
      refine TL.run ft_produce_ok [0] rfl rfl ?_
      refine TL.nil (X.seq (T.seq ?_))
      refine T.yes rfl (decide_eq_true hk23lt) ?_
      refine T.skip (X.seq (T.seq ?_))
      obtain ⟨st66, h, hk67⟩ := Option.bind_eq_some_iff.1 h
      refine T.jq (fun e Rs => e = [(1, .pointer (some ⟨g, 0, none⟩)), (39, .slice A1 a0.fTopics.length c2), (40, .int .i64 (a0.fTopics.length : Int)), (41, .int .i64 (k15 : Int))] ∧ Rs = [BlkR b3 26 #[.bool a0.fID.null, .string (bsOf a0.fID.data), .int .i64 a0.fAcks, .int .i64 a0.fTimeout, .slice A1 a0.fTopics.length c2], OutR g st66]) ?_ ?_
      · clear hk67
        obtain ⟨gz68, oz68, rfl, z68cs, z68cl, z68cc, z68nf, z68r⟩ := RX.elem (by decide) hX hxx21
        obtain ⟨z68S, z68r, z68rr⟩ := z68r
        obtain ⟨A69, c70, rfl, z68s0⟩ := z68r
        have hX71 : (RX.of (sliceRd 2 ProducePart_rd) [.slice A69 x21.fParts.length c70] x21.fParts).reads w F := ⟨z68S, z68s0, z68rr⟩
        refine T.block (T.seq (T.region rfl ?_))
        refine TL.q rfl .u (Ex.ixS (k := k15) rfl rfl rfl Tryz.runUnderlying24 Tryz.sizeOf51 (List.getElem?_eq_some_iff.1 hxx21).1) rfl ?_
        refine TL.q rfl .u (Ex.oS (us := [.string (bsOf x21.fName), .slice A69 x21.fParts.length c70]) 0 rfl Tryz.isAgg51 Tryz.sizeOf51 z68nf z68cc rfl rfl rfl) rfl ?_
        refine TL.alloc rfl .u Tryz.zeroValue51 rfl (fun b72 => ?_)
        refine TL.st0 (cs' := #[.string (bsOf x21.fName), .slice A69 x21.fParts.length c70]) rfl .u rfl rfl Tryz.sizeOf51 rfl rfl rfl rfl ?_
        refine TL.nil (X.seq (T.seq (T.region rfl ?_)))
        obtain ⟨st73, hx74, h⟩ := Option.bind_eq_some_iff.1 h
        refine TL.rb ft_produce_ok nt_produce_ok 0 rfl 3 rfl rfl ?_
        refine TL.c2 rfl .u (.fn Tryz.call25 rfl) (gPutText_spec g st16 x21.fName _ hx74) (fun _ hs => (Src.triv _)) rfl ?_
        refine TL.nil (X.seq (T.seq (T.region rfl ?_)))
        refine TL.rb ft_produce_ok nt_produce_ok 0 rfl 3 rfl rfl ?_
        refine TL.q rfl .u (Ex.lenS rfl Tryz.runUnderlying49) rfl ?_
        obtain ⟨st75, hx76, h⟩ := Option.bind_eq_some_iff.1 h
        refine TL.c2 rfl .u (.fn Tryz.call24 rfl) (gOInt_spec g st73 (x21.fParts.length : Int) 4 _ hx76) (fun _ hs => (Src.triv _)) rfl ?_
        refine TL.nil (X.seq (T.seq (T.region rfl ?_)))
        refine TL.rb ft_produce_ok nt_produce_ok 0 rfl 2 rfl rfl ?_
        refine TL.q rfl .u (Ex.lenS rfl Tryz.runUnderlying49) rfl ?_
        refine TL.run ft_produce_ok [3] rfl rfl ?_
        refine TL.nil (X.seq (T.block ?_))
        obtain ⟨E79, hE80, hO81⟩ := Option.bind_eq_some_iff.1 h
        have hk85len := RX.len_le hX71
        refine T.lp (fun m e Rs => ∃ (k77 : Nat) (st78 : List UInt8 × Int), k77 + m = x21.fParts.length ∧ e = [(1, .pointer (some ⟨g, 0, none⟩)), (39, .slice (some ⟨gz68, oz68, none⟩) a0.fTopics.length c2), (40, .int .i64 (a0.fTopics.length : Int)), (41, .int .i64 (k15 : Int)), (55, .slice A69 x21.fParts.length c70), (56, .int .i64 (x21.fParts.length : Int)), (57, .int .i64 (k77 : Int))] ∧ Rs = [BlkR b72 51 #[.string (bsOf x21.fName), .slice A69 x21.fParts.length c70], BlkR b3 26 #[.bool a0.fID.null, .string (bsOf a0.fID.data), .int .i64 a0.fAcks, .int .i64 a0.fTimeout, .slice (some ⟨gz68, oz68, none⟩) a0.fTopics.length c2], OutR g st78] ∧ f_produce_RequestWrite_l2 (x21.fParts.drop k77) st78 = some E79) (x21.fParts.length) [0, 0, 0] ⟨0, st75, by simp, rfl, rfl, by rw [List.drop_zero]; exact hE80⟩ (by rfl) (by rfl) ?_
        rintro m82 _ _ ⟨k77, st78, hk85, rfl, rfl, hl84⟩
        clear hE80 h
        cases m82 with
        | zero =>
          have h := hl84
          clear hl84
          rw [List.drop_of_length_le (by omega), f_produce_RequestWrite_l2] at h
          have hk85ge : ¬ ((k77 : Int) < (x21.fParts.length : Int)) := by omega
          refine T.seq (T.region rfl ?_)
          refine TL.run ft_produce_ok [0] rfl rfl ?_
          refine TL.nil (X.seq (T.seq ?_))
          refine T.no rfl (decide_eq_false hk85ge) ?_
          obtain rfl := Option.some.inj h
          replace h := hO81
          clear hO81
          try dsimp only at h
          cases h
          exact T.exit (X.exs (X.exs (X.ex (X.blk (X.jq [1, 1] ⟨rfl, rfl⟩ (by rfl) (by rfl))))))
        | succ m82 =>
          have h := hl84
          clear hl84
          obtain ⟨x83, hxx83⟩ : ∃ x, x21.fParts[k77]? = some x := ⟨_, List.getElem?_eq_getElem (by omega)⟩
          rw [drop_cons hxx83, f_produce_RequestWrite_l2] at h
          have hk85lt : (k77 : Int) < (x21.fParts.length : Int) := by omega
          refine T.seq (T.region rfl ?_)
          refine TL.run ft_produce_ok [0] rfl rfl ?_
          refine TL.nil (X.seq (T.seq ?_))
          refine T.yes rfl (decide_eq_true hk85lt) ?_
          obtain ⟨gz86, oz86, rfl, z86cs, z86cl, z86cc, z86nf, z86r⟩ := RX.elem (by decide) hX71 hxx83
          obtain ⟨z86S, z86r, z86rr⟩ := z86r
          obtain ⟨A87, c88, rfl, z86s0⟩ := z86r
          have hX89 : (RX.of (sliceRd 12 Bat_rd) [.slice A87 x83.fBatches.length c88] x83.fBatches).reads w F := ⟨z86S, z86s0, z86rr⟩
          refine T.skip (X.seq (T.seq (T.block (T.seq (T.region rfl ?_)))))
          refine TL.q rfl .u (Ex.ixS (k := k77) rfl rfl rfl Tryz.runUnderlying49 Tryz.sizeOf54 (List.getElem?_eq_some_iff.1 hxx83).1) rfl ?_
          refine TL.q rfl .u (Ex.oS (us := [.int .i64 x83.fIndex, .slice A87 x83.fBatches.length c88]) 0 rfl Tryz.isAgg54 Tryz.sizeOf54 z86nf z86cc rfl rfl rfl) rfl ?_
          refine TL.alloc rfl .u Tryz.zeroValue54 rfl (fun b90 => ?_)
          refine TL.st0 (cs' := #[.int .i64 x83.fIndex, .slice A87 x83.fBatches.length c88]) rfl .u rfl rfl Tryz.sizeOf54 rfl rfl rfl rfl ?_
          refine TL.nil (X.seq (T.seq (T.region rfl ?_)))
          obtain ⟨⟨x91, x92⟩, hx93, h⟩ := Option.bind_eq_some_iff.1 h
          try dsimp only at h
          refine TL.rb ft_produce_ok nt_produce_ok 0 rfl 2 rfl rfl ?_
          refine TL.ce rfl .u (.fn Tryz.call12 rfl) (f_batch_All_spec x83.fBatches _ _ _ hx93) (fun _ hs => (SrcE.old hs hX89)) rfl ?_
          refine TL.run ft_produce_ok [3, 4, 5, 6, 7] rfl rfl ?_
          refine TL.nil (X.seq (T.seq (T.seq (T.region rfl ?_))))
          refine TL.run ft_produce_ok [0, 1] rfl rfl ?_
          refine TL.nil (X.seq ?_)
          obtain ⟨st97, h, hk98⟩ := Option.bind_eq_some_iff.1 h
          refine T.jq (fun e Rs => e = [(1, .pointer (some ⟨g, 0, none⟩)), (10, .pointer (some ⟨b90, 0, none⟩)), (11, .string (bsOf x91)), (39, .slice (some ⟨gz68, oz68, none⟩) a0.fTopics.length c2), (40, .int .i64 (a0.fTopics.length : Int)), (41, .int .i64 (k15 : Int)), (55, .slice (some ⟨gz86, oz86, none⟩) x21.fParts.length c70), (56, .int .i64 (x21.fParts.length : Int)), (57, .int .i64 (k77 : Int))] ∧ Rs = [BlkR b90 54 #[.int .i64 x83.fIndex, .slice A87 x83.fBatches.length c88], BlkR b72 51 #[.string (bsOf x21.fName), .slice (some ⟨gz86, oz86, none⟩) x21.fParts.length c70], BlkR b3 26 #[.bool a0.fID.null, .string (bsOf a0.fID.data), .int .i64 a0.fAcks, .int .i64 a0.fTimeout, .slice (some ⟨gz68, oz68, none⟩) a0.fTopics.length c2], OutR g st97]) ?_ ?_
          · clear hk98
            by_cases c99 : x92 = 0
            · replace h := ifT c99 h
              refine T.no rfl (bn_f (decide_eq_true c99)) ?_
              cases h
              exact T.skip (X.jq [0, 0, 0, 0] ⟨rfl, rfl⟩ (by rfl) (by rfl))
            · replace h := ifF c99 h
              refine T.yes rfl (bn_t (decide_eq_false c99)) ?_
              refine T.region rfl ?_
              obtain ⟨st100, hx101, h⟩ := Option.bind_eq_some_iff.1 h
              refine TL.run ft_produce_ok [0, 1] rfl rfl ?_
              refine TL.c3 rfl .u (.fn Tryz.call22 rfl) (gOFail_spec g st78 x92 _ hx101) (fun _ hs => (Src.triv _)) rfl ?_
              cases h
              exact TL.nil (X.jq [0, 0, 0, 0] ⟨rfl, rfl⟩ (by rfl) (by rfl))
          · rintro _ _ ⟨rfl, rfl⟩
            clear h
            have h := hk98
            clear hk98
            try dsimp only at h
            refine X.seq (T.seq (T.region rfl ?_))
            obtain ⟨st102, hx103, h⟩ := Option.bind_eq_some_iff.1 h
            refine TL.rb ft_produce_ok nt_produce_ok 0 rfl 3 rfl rfl ?_
            refine TL.c3 rfl .u (.fn Tryz.call24 rfl) (gOInt_spec g st97 x83.fIndex 4 _ hx103) (fun _ hs => (Src.triv _)) rfl ?_
            refine TL.nil (X.seq (T.region rfl ?_))
            obtain ⟨x104, hx105, h⟩ := Option.bind_eq_some_iff.1 h
            refine TL.run ft_produce_ok [0, 1] rfl rfl ?_
            refine TL.ce rfl .u (.fn Tryz.call26 rfl) (gOf_spec x91 _ hx105) (fun _ hs => (RX.reads_triv _ _)) rfl ?_
            obtain ⟨st106, hx107, h⟩ := Option.bind_eq_some_iff.1 h
            refine TL.c3 rfl .u (.fn Tryz.call23 rfl) (gPutFixed_spec g st102 x104 4 _ hx107) (fun _ hs => (Src.triv _)) rfl ?_
            refine TL.nil (X.blk (X.seq (T.region rfl ?_)))
            refine TL.q rfl .u (Ex.add rfl rfl (by omega)) rfl ?_
            refine TL.run ft_produce_ok [1] rfl rfl ?_
            exact TL.nil (X.back (m' := m82) [1, 1, 1] (by omega) ⟨k77 + 1, st106, by omega, rfl, rfl, h⟩ (by rfl) (by rfl))
      · rintro _ _ ⟨rfl, rfl⟩
        clear h
        have h := hk67
        clear hk67
        try dsimp only at h
        refine X.seq (T.region rfl ?_)
        refine TL.q rfl .u (Ex.add rfl rfl (by omega)) rfl ?_
        refine TL.run ft_produce_ok [1] rfl rfl ?_
        exact TL.nil (X.back (m' := m20) [0, 0] (by omega) ⟨k15 + 1, st66, by omega, rfl, rfl, h⟩ (by rfl) (by rfl))
  · replace h := ifF c6 h
    refine TL.nil (X.seq ?_)
    refine T.yes rfl (bn_t (decide_eq_false c6)) ?_
    refine T.seq (T.region rfl ?_)
    obtain ⟨st112, hx113, h⟩ := Option.bind_eq_some_iff.1 h
    refine TL.run ft_produce_ok [0, 1] rfl rfl ?_
    refine TL.c1 rfl .u (.fn Tryz.call22 rfl) (gOFail_spec g st x4 _ hx113) (fun _ hs => (Src.triv _)) rfl ?_
    obtain rfl := Option.some.inj h
    exact TL.nil (X.seq (T.ret (X.rs (X.done0 [1] Tryz.results10 ⟨rfl, rfl, rfl⟩ (by rfl) (.inl rfl)))))
end Go.Proofs.YtlhgogjcaegehaaGreat.Sl
namespace Go.Proofs.YtlhgogjcaegehaaGreat.Sl
open Go.RowKit
set_option linter.unusedVariables false
set_option linter.unusedSimpArgs false
set_option maxRecDepth 100000
def ft_cursitorref14 : FTab := [(106, 0, 0), (106, 1, 1)]
theorem ft_cursitorref14_ok : (ft_cursitorref14).OK Tryz.prog := ⟨FOK.mk Tryz.runUnderlying106 rfl Tryz.sizeOf9 rfl, FOK.mk Tryz.runUnderlying106 rfl Tryz.sizeOf104 rfl, trivial⟩
theorem mix_cursitorref14 : Tryz.prog.follows .mixedOrders = true := by kernel_rfl
def f_r14_less_l1 (a0 : List UInt8) (a1 : List UInt8) : Nat → Bool → Nat → Option (Lp Bool (Bool × Nat))
  | 0, _, _ => none
  | m6 + 1, y1, k2 => if (k2 : Int) < (a0.length : Int) then (if (k2 : Int) < (a1.length : Int) then ((a0[k2]?).bind fun ch12 => (a1[k2]?).bind fun ch14 => if (ch12.toNat : Int) = (ch14.toNat : Int) then (if -9223372036854775808 ≤ ((k2 : Int) + 1) ∧ ((k2 : Int) + 1) ≤ 9223372036854775807 then (f_r14_less_l1 a0 a1 m6 y1 (k2 + 1)) else none) else (if (ch12.toNat : Int) < (ch14.toNat : Int) then some (Lp.ret true) else some (Lp.ret false))) else (some (Lp.go (y1, k2)))) else (some (Lp.go (y1, k2)))
def f_r14_less (a0 : List UInt8) (a1 : List UInt8) : Option (Bool) := (f_r14_less_l1 a0 a1 (((a1.length : Int)).toNat + 1) false 0).bind fun e => match e with | .ret r => some r | .go (y21, k22) => (if (a0.length : Int) < (a1.length : Int) then some true else some false)
set_option maxRecDepth 100000 in
set_option maxHeartbeats 4000000 in
theorem f_r14_less_spec (a0 : List UInt8) (a1 : List UInt8) (r : Bool) (h : f_r14_less a0 a1 = some r) : SpecX Tryz.prog 67 #[.string (bsOf a0), .string (bsOf a1)] .triv (EmpR) (fun v A' N => v = .bool r ∧ A' = EmpR ∧ N = []) := by
  refine enterA Tryz.func67 rfl Tryz.ntmps67 rfl ?_
  intro F w hX
  unfold f_r14_less at h
  refine T.seq (T.region rfl ?_)
  refine TL.run ft_cursitorref14_ok [0] rfl rfl ?_
  refine TL.nil (X.seq (T.seq (T.seq (T.region rfl ?_))))
  refine TL.run ft_cursitorref14_ok [0] rfl rfl ?_
  refine TL.nil (X.seq (T.block ?_))
  obtain ⟨E3, hE4, hO5⟩ := Option.bind_eq_some_iff.1 h
  refine T.lp (fun m e Rs => ∃ (y1 : Bool) (k2 : Nat), e = [(0, .string (bsOf a0)), (1, .string (bsOf a1)), (4, .bool y1), (5, .int .i64 (k2 : Int))] ∧ Rs = [EmpR] ∧ f_r14_less_l1 a0 a1 m y1 k2 = some E3) (((a1.length : Int)).toNat + 1) [0] ⟨false, 0, rfl, rfl, by exact hE4⟩ (by rfl) (by rfl) ?_
  rintro m6 _ _ ⟨y1, k2, rfl, rfl, hl8⟩
  clear hE4 h
  cases m6 with
  | zero =>
    rw [f_r14_less_l1] at hl8
    cases hl8
  | succ m6 =>
    have h := hl8
    clear hl8
    rw [f_r14_less_l1] at h
    refine T.seq (T.seq (T.region rfl ?_))
    refine TL.run ft_cursitorref14_ok [0, 1] rfl rfl ?_
    refine TL.q rfl .u (Ex.lenB rfl Tryz.runUnderlying9) rfl ?_
    by_cases c10 : (k2 : Int) < (a0.length : Int)
    · replace h := ifT c10 h
      refine TL.run ft_cursitorref14_ok [3, 4] rfl rfl ?_
      refine TL.hv 10 rfl (decide_eq_true c10) ?_
      refine TL.rw ft_cursitorref14_ok 2 rfl ?_
      refine TL.q rfl (.g rfl rfl rfl) (Ex.lenB rfl Tryz.runUnderlying9) rfl ?_
      refine TL.rw ft_cursitorref14_ok 2 rfl ?_
      by_cases c11 : (k2 : Int) < (a1.length : Int)
      · replace h := ifT c11 h
        refine TL.nil (X.seq ?_)
        refine T.yes rfl (decide_eq_true c11) ?_
        refine T.skip (X.seq (T.seq (T.block (T.seq (T.draw (.q 0 (.q 1 (.q 2 (.q 3 (.q 4 (.q 5 (.q 6 .nil))))))) [0] rfl mix_cursitorref14 (NoP.seq (NoP.blk (NoP.seq (NoP.seq (NoP.blk (NoP.seq np_post)))))) (by kernel_rfl) ?_)))))
        obtain ⟨ch12, hc13, h⟩ := Option.bind_eq_some_iff.1 h
        refine TD.run ft_cursitorref14_ok [0, 1] rfl rfl ?_
        refine TD.q rfl .u (Ex.sIx rfl rfl rfl Tryz.underlying9 hc13) rfl ?_
        obtain ⟨ch14, hc15, h⟩ := Option.bind_eq_some_iff.1 h
        refine TD.run ft_cursitorref14_ok [3, 4] rfl rfl ?_
        refine TD.q rfl .u (Ex.sIx rfl rfl rfl Tryz.underlying9 hc15) rfl ?_
        refine TD.run ft_cursitorref14_ok [6] rfl rfl ?_
        by_cases c16 : (ch12.toNat : Int) = (ch14.toNat : Int)
        · replace h := ifT c16 h
          refine TD.nil (X.seq ?_)
          refine T.no rfl (bn_f (decide_eq_true c16)) ?_
          refine T.skip (X.blk (X.seq (T.region rfl ?_)))
          replace h := guard_some h
          obtain ⟨c17, h⟩ := h
          refine TL.run ft_cursitorref14_ok [0] rfl rfl ?_
          refine TL.q rfl .u (Ex.add rfl rfl c17) rfl ?_
          refine TL.run ft_cursitorref14_ok [2] rfl rfl ?_
          exact TL.nil (X.back (m' := m6) [0] (by omega) ⟨y1, k2 + 1, rfl, rfl, h⟩ (by rfl) (by rfl))
        · replace h := ifF c16 h
          refine TD.nil (X.seq ?_)
          refine T.yes rfl (bn_t (decide_eq_false c16)) ?_
          refine T.seq (T.draw (.q 0 (.q 1 (.q 2 (.q 3 (.q 4 (.q 5 (.q 6 (.q 7 .nil)))))))) [0] rfl mix_cursitorref14 (NoP.seq (NoP.blk (NoP.seq (NoP.seq (NoP.blk (NoP.seq np_post)))))) (by kernel_rfl) ?_)
          refine TD.run ft_cursitorref14_ok [0, 1] rfl rfl ?_
          refine TD.q rfl .u (Ex.sIx rfl rfl rfl Tryz.underlying9 hc13) rfl ?_
          refine TD.run ft_cursitorref14_ok [3, 4] rfl rfl ?_
          refine TD.q rfl .u (Ex.sIx rfl rfl rfl Tryz.underlying9 hc15) rfl ?_
          refine TD.run ft_cursitorref14_ok [6, 7] rfl rfl ?_
          by_cases c18 : (ch12.toNat : Int) < (ch14.toNat : Int)
          · replace h := ifT c18 h
            obtain rfl := Option.some.inj h
            replace h := hO5
            clear hO5
            try dsimp only at h
            obtain rfl := Option.some.inj h
            exact TD.nil (X.seq (T.ret (X.rb (X.rs (X.rs (X.rb (X.rs (X.done1 [0] Tryz.results67 (RV.tm (v := .bool true) (congrArg (fun b => some (Value.bool b)) (decide_eq_true c18))) ⟨rfl, rfl, rfl⟩ (by rfl) (.inl rfl)))))))))
          · replace h := ifF c18 h
            obtain rfl := Option.some.inj h
            replace h := hO5
            clear hO5
            try dsimp only at h
            obtain rfl := Option.some.inj h
            exact TD.nil (X.seq (T.ret (X.rb (X.rs (X.rs (X.rb (X.rs (X.done1 [0] Tryz.results67 (RV.tm (v := .bool false) (congrArg (fun b => some (Value.bool b)) (decide_eq_false c18))) ⟨rfl, rfl, rfl⟩ (by rfl) (.inl rfl)))))))))
      · replace h := ifF c11 h
        refine TL.nil (X.seq ?_)
        refine T.no rfl (decide_eq_false c11) ?_
        obtain rfl := Option.some.inj h
        replace h := hO5
        clear hO5
        try dsimp only at h
        refine T.exit (X.exs (X.exs (X.ex (X.seq (T.seq (T.region rfl ?_))))))
        refine TL.run ft_cursitorref14_ok [0] rfl rfl ?_
        refine TL.q rfl .u (Ex.lenB rfl Tryz.runUnderlying9) rfl ?_
        refine TL.run ft_cursitorref14_ok [2] rfl rfl ?_
        refine TL.q rfl .u (Ex.lenB rfl Tryz.runUnderlying9) rfl ?_
        refine TL.run ft_cursitorref14_ok [4, 5] rfl rfl ?_
        by_cases c19 : (a0.length : Int) < (a1.length : Int)
        · replace h := ifT c19 h
          obtain rfl := Option.some.inj h
          exact TL.nil (X.seq (T.ret (X.done1 [0] Tryz.results67 (RV.tm (v := .bool true) (congrArg (fun b => some (Value.bool b)) (decide_eq_true c19))) ⟨rfl, rfl, rfl⟩ (by rfl) (.inl rfl))))
        · replace h := ifF c19 h
          obtain rfl := Option.some.inj h
          exact TL.nil (X.seq (T.ret (X.done1 [0] Tryz.results67 (RV.tm (v := .bool false) (congrArg (fun b => some (Value.bool b)) (decide_eq_false c19))) ⟨rfl, rfl, rfl⟩ (by rfl) (.inl rfl))))
    · replace h := ifF c10 h
      refine TL.run ft_cursitorref14_ok [3, 4] rfl rfl ?_
      refine TL.hv 10 rfl (decide_eq_false c10) ?_
      refine TL.rw ft_cursitorref14_ok 5 rfl ?_
      refine TL.nil (X.seq ?_)
      refine T.no rfl rfl ?_
      obtain rfl := Option.some.inj h
      replace h := hO5
      clear hO5
      try dsimp only at h
      refine T.exit (X.exs (X.exs (X.ex (X.seq (T.seq (T.region rfl ?_))))))
      refine TL.run ft_cursitorref14_ok [0] rfl rfl ?_
      refine TL.q rfl .u (Ex.lenB rfl Tryz.runUnderlying9) rfl ?_
      refine TL.run ft_cursitorref14_ok [2] rfl rfl ?_
      refine TL.q rfl .u (Ex.lenB rfl Tryz.runUnderlying9) rfl ?_
      refine TL.run ft_cursitorref14_ok [4, 5] rfl rfl ?_
      by_cases c20 : (a0.length : Int) < (a1.length : Int)
      · replace h := ifT c20 h
        obtain rfl := Option.some.inj h
        exact TL.nil (X.seq (T.ret (X.done1 [0] Tryz.results67 (RV.tm (v := .bool true) (congrArg (fun b => some (Value.bool b)) (decide_eq_true c20))) ⟨rfl, rfl, rfl⟩ (by rfl) (.inl rfl))))
      · replace h := ifF c20 h
        obtain rfl := Option.some.inj h
        exact TL.nil (X.seq (T.ret (X.done1 [0] Tryz.results67 (RV.tm (v := .bool false) (congrArg (fun b => some (Value.bool b)) (decide_eq_false c20))) ⟨rfl, rfl, rfl⟩ (by rfl) (.inl rfl))))
def f_r14_Rise_l2 (x13 : Top) : Nat → Bool → Nat → Option (Lp Bool (Bool × Nat))
  | 0, _, _ => none
  | m39 + 1, y34, k35 => if (k35 : Int) < (x13.fParts.length : Int) then ((x13.fParts[k35]?).bind fun x44 => if x44 < 0 then some (Lp.ret false) else (if x44 > 2147483647 then some (Lp.ret false) else (if (k35 : Int) > 0 then (if -9223372036854775808 ≤ ((k35 : Int) - 1) ∧ ((k35 : Int) - 1) ≤ 9223372036854775807 then (if 0 ≤ ((k35 : Int) - 1) then ((x13.fParts[((k35 : Int) - 1).toNat]?).bind fun x52 => if x52 ≥ x44 then some (Lp.ret false) else (if -9223372036854775808 ≤ ((k35 : Int) + 1) ∧ ((k35 : Int) + 1) ≤ 9223372036854775807 then (f_r14_Rise_l2 x13 m39 y34 (k35 + 1)) else none)) else none) else none) else (if -9223372036854775808 ≤ ((k35 : Int) + 1) ∧ ((k35 : Int) + 1) ≤ 9223372036854775807 then (f_r14_Rise_l2 x13 m39 y34 (k35 + 1)) else none)))) else (some (Lp.go (y34, k35)))
def f_r14_Rise_l3 (x13 : Top) : Nat → Bool → Nat → Option (Lp Bool (Bool × Nat))
  | 0, _, _ => none
  | m67 + 1, y62, k63 => if (k63 : Int) < (x13.fParts.length : Int) then ((x13.fParts[k63]?).bind fun x72 => if x72 < 0 then some (Lp.ret false) else (if x72 > 2147483647 then some (Lp.ret false) else (if (k63 : Int) > 0 then (if -9223372036854775808 ≤ ((k63 : Int) - 1) ∧ ((k63 : Int) - 1) ≤ 9223372036854775807 then (if 0 ≤ ((k63 : Int) - 1) then ((x13.fParts[((k63 : Int) - 1).toNat]?).bind fun x80 => if x80 ≥ x72 then some (Lp.ret false) else (if -9223372036854775808 ≤ ((k63 : Int) + 1) ∧ ((k63 : Int) + 1) ≤ 9223372036854775807 then (f_r14_Rise_l3 x13 m67 y62 (k63 + 1)) else none)) else none) else none) else (if -9223372036854775808 ≤ ((k63 : Int) + 1) ∧ ((k63 : Int) + 1) ≤ 9223372036854775807 then (f_r14_Rise_l3 x13 m67 y62 (k63 + 1)) else none)))) else (some (Lp.go (y62, k63)))
def f_r14_Rise_l1 (a0 : List Top) : Nat → Bool → Nat → Option (Lp Bool (Bool × Nat))
  | 0, _, _ => none
  | m8 + 1, y3, k4 => if (k4 : Int) < (a0.length : Int) then ((a0[k4]?).bind fun x13 => if (x13.fName.length : Int) < 1 then some (Lp.ret false) else (if (x13.fName.length : Int) > 32767 then some (Lp.ret false) else (if (x13.fParts.length : Int) < 1 then some (Lp.ret false) else (if (k4 : Int) > 0 then (if -9223372036854775808 ≤ ((k4 : Int) - 1) ∧ ((k4 : Int) - 1) ≤ 9223372036854775807 then (if 0 ≤ ((k4 : Int) - 1) then ((a0[((k4 : Int) - 1).toNat]?).bind fun x25 => (f_r14_less x25.fName x13.fName).bind fun x31 => if x31 = true then ((f_r14_Rise_l2 x13 (((x13.fParts.length : Int)).toNat + 1) y3 0).bind fun e => match e with | .ret r => some (Lp.ret r) | .go (y59, k60) => (if -9223372036854775808 ≤ ((k4 : Int) + 1) ∧ ((k4 : Int) + 1) ≤ 9223372036854775807 then (f_r14_Rise_l1 a0 m8 y59 (k4 + 1)) else none)) else some (Lp.ret false)) else none) else none) else ((f_r14_Rise_l3 x13 (((x13.fParts.length : Int)).toNat + 1) y3 0).bind fun e => match e with | .ret r => some (Lp.ret r) | .go (y87, k88) => (if -9223372036854775808 ≤ ((k4 : Int) + 1) ∧ ((k4 : Int) + 1) ≤ 9223372036854775807 then (f_r14_Rise_l1 a0 m8 y87 (k4 + 1)) else none)))))) else (some (Lp.go (y3, k4)))
theorem f_r14_Rise_l1_z (a0 : List Top) (u1 : Bool) (u2 : Nat) : f_r14_Rise_l1 a0 0 u1 u2 = none := rfl
theorem f_r14_Rise_l1_s (a0 : List Top) (m8 : Nat) (y3 : Bool) (k4 : Nat) : f_r14_Rise_l1 a0 (m8 + 1) y3 k4 = (if (k4 : Int) < (a0.length : Int) then ((a0[k4]?).bind fun x13 => if (x13.fName.length : Int) < 1 then some (Lp.ret false) else (if (x13.fName.length : Int) > 32767 then some (Lp.ret false) else (if (x13.fParts.length : Int) < 1 then some (Lp.ret false) else (if (k4 : Int) > 0 then (if -9223372036854775808 ≤ ((k4 : Int) - 1) ∧ ((k4 : Int) - 1) ≤ 9223372036854775807 then (if 0 ≤ ((k4 : Int) - 1) then ((a0[((k4 : Int) - 1).toNat]?).bind fun x25 => (f_r14_less x25.fName x13.fName).bind fun x31 => if x31 = true then ((f_r14_Rise_l2 x13 (((x13.fParts.length : Int)).toNat + 1) y3 0).bind fun e => match e with | .ret r => some (Lp.ret r) | .go (y59, k60) => (if -9223372036854775808 ≤ ((k4 : Int) + 1) ∧ ((k4 : Int) + 1) ≤ 9223372036854775807 then (f_r14_Rise_l1 a0 m8 y59 (k4 + 1)) else none)) else some (Lp.ret false)) else none) else none) else ((f_r14_Rise_l3 x13 (((x13.fParts.length : Int)).toNat + 1) y3 0).bind fun e => match e with | .ret r => some (Lp.ret r) | .go (y87, k88) => (if -9223372036854775808 ≤ ((k4 : Int) + 1) ∧ ((k4 : Int) + 1) ≤ 9223372036854775807 then (f_r14_Rise_l1 a0 m8 y87 (k4 + 1)) else none)))))) else (some (Lp.go (y3, k4)))) := rfl
def f_r14_Rise (a0 : List Top) : Option (Bool) := (f_r14_Rise_l1 a0 (((a0.length : Int)).toNat + 1) false 0).bind fun e => match e with | .ret r => some r | .go (y90, k91) => some true
set_option maxRecDepth 100000 in
set_option maxHeartbeats 4000000 in
theorem f_r14_Rise_spec (a0 : List Top) (A1 : Option Addr) (c2 : Nat) (r : Bool) (h : f_r14_Rise a0 = some r) : SpecX Tryz.prog 43 #[.slice A1 a0.length c2] (RX.of (sliceRd 2 Top_rd) [.slice A1 a0.length c2] a0) (EmpR) (fun v A' N => v = .bool r ∧ A' = EmpR ∧ N = []) := by
  refine enterA Tryz.func43 rfl Tryz.ntmps43 rfl ?_
  intro F w hX
  unfold f_r14_Rise at h
  refine T.seq (T.region rfl ?_)
  refine TL.run ft_cursitorref14_ok [0] rfl rfl ?_
  refine TL.nil (X.seq (T.seq (T.seq (T.region rfl ?_))))
  refine TL.run ft_cursitorref14_ok [0] rfl rfl ?_
  refine TL.nil (X.seq (T.block ?_))
  obtain ⟨E5, hE6, hO7⟩ := Option.bind_eq_some_iff.1 h
  refine T.lp (fun m e Rs => ∃ (y3 : Bool) (k4 : Nat), e = [(0, .slice A1 a0.length c2), (2, .bool y3), (3, .int .i64 (k4 : Int))] ∧ Rs = [EmpR] ∧ f_r14_Rise_l1 a0 m y3 k4 = some E5) (((a0.length : Int)).toNat + 1) [0] ⟨false, 0, rfl, rfl, by exact hE6⟩ (by rfl) (by rfl) ?_
  rintro m8 _ _ ⟨y3, k4, rfl, rfl, hl10⟩
  clear hE6 h
  cases m8 with
  | zero =>
    rw [f_r14_Rise_l1_z] at hl10
    cases hl10
  | succ m8 =>
    have h := hl10
    clear hl10
    rw [f_r14_Rise_l1_s] at h
    refine T.seq (T.seq (T.region rfl ?_))
    refine TL.run ft_cursitorref14_ok [0, 1] rfl rfl ?_
    refine TL.q rfl .u (Ex.lenS rfl Tryz.runUnderlying60) rfl ?_
    refine TL.run ft_cursitorref14_ok [3] rfl rfl ?_
    by_cases c12 : (k4 : Int) < (a0.length : Int)
    · replace h := ifT c12 h
      refine TL.nil (X.seq ?_)
      refine T.yes rfl (decide_eq_true c12) ?_
      refine T.skip (X.seq (T.seq (T.block (T.seq (T.seq (T.region rfl ?_))))))
      obtain ⟨x13, hx14, h⟩ := Option.bind_eq_some_iff.1 h
      obtain ⟨gz15, oz15, rfl, z15cs, z15cl, z15cc, z15nf, z15r⟩ := RX.elem (by decide) hX hx14
      obtain ⟨z15S, z15r, z15rr⟩ := z15r
      obtain ⟨A16, c17, rfl, z15s0⟩ := z15r
      have hX18 : (RX.of (sliceRd 1 intE) [.slice A16 x13.fParts.length c17] x13.fParts).reads w F := ⟨z15S, z15s0, z15rr⟩
      refine TL.run ft_cursitorref14_ok [0, 1] rfl rfl ?_
      refine TL.q rfl .u (Ex.ixS (k := k4) rfl rfl rfl Tryz.runUnderlying60 Tryz.sizeOf106 (List.getElem?_eq_some_iff.1 hx14).1) rfl ?_
      refine TL.run ft_cursitorref14_ok [3] rfl rfl ?_
      refine TL.q rfl .u (Ex.o1 0 rfl Tryz.isAgg9 z15nf z15cc rfl rfl) rfl ?_
      refine TL.q rfl .u (Ex.lenB rfl Tryz.runUnderlying9) rfl ?_
      by_cases c19 : (x13.fName.length : Int) < 1
      · replace h := ifT c19 h
        refine TL.run ft_cursitorref14_ok [6, 7] rfl rfl ?_
        refine TL.hv 19 rfl (decide_eq_true c19) ?_
        refine TL.rw ft_cursitorref14_ok 17 rfl ?_
        refine TL.nil (X.seq ?_)
        refine T.yes rfl rfl ?_
        refine T.seq (T.region rfl ?_)
        refine TL.run ft_cursitorref14_ok [0] rfl rfl ?_
        obtain rfl := Option.some.inj h
        replace h := hO7
        clear hO7
        try dsimp only at h
        obtain rfl := Option.some.inj h
        exact TL.nil (X.seq (T.ret (X.rs (X.rb (X.rs (X.rs (X.rb (X.rs (X.done1 [0] Tryz.results43 (RV.tm rfl) ⟨rfl, rfl, rfl⟩ (by rfl) (.inl rfl))))))))))
      · replace h := ifF c19 h
        refine TL.run ft_cursitorref14_ok [6, 7] rfl rfl ?_
        refine TL.hv 19 rfl (decide_eq_false c19) ?_
        refine TL.rw ft_cursitorref14_ok 2 rfl ?_
        refine TL.q rfl (.g rfl rfl rfl) (Ex.ixS (k := k4) rfl rfl rfl Tryz.runUnderlying60 Tryz.sizeOf106 (List.getElem?_eq_some_iff.1 hx14).1) rfl ?_
        refine TL.rw ft_cursitorref14_ok 1 rfl ?_
        refine TL.q rfl (.g rfl rfl rfl) (Ex.o1 0 rfl Tryz.isAgg9 z15nf z15cc rfl rfl) rfl ?_
        refine TL.q rfl (.g rfl rfl rfl) (Ex.lenB rfl Tryz.runUnderlying9) rfl ?_
        by_cases c20 : (x13.fName.length : Int) > 32767
        · replace h := ifT c20 h
          refine TL.rw ft_cursitorref14_ok 3 rfl ?_
          refine TL.hv 28 rfl (decide_eq_true c20) ?_
          refine TL.rw ft_cursitorref14_ok 8 rfl ?_
          refine TL.nil (X.seq ?_)
          refine T.yes rfl rfl ?_
          refine T.seq (T.region rfl ?_)
          refine TL.run ft_cursitorref14_ok [0] rfl rfl ?_
          obtain rfl := Option.some.inj h
          replace h := hO7
          clear hO7
          try dsimp only at h
          obtain rfl := Option.some.inj h
          exact TL.nil (X.seq (T.ret (X.rs (X.rb (X.rs (X.rs (X.rb (X.rs (X.done1 [0] Tryz.results43 (RV.tm rfl) ⟨rfl, rfl, rfl⟩ (by rfl) (.inl rfl))))))))))
        · replace h := ifF c20 h
          refine TL.rw ft_cursitorref14_ok 3 rfl ?_
          refine TL.hv 28 rfl (decide_eq_false c20) ?_
          refine TL.rw ft_cursitorref14_ok 2 rfl ?_
          refine TL.q rfl (.g rfl rfl rfl) (Ex.ixS (k := k4) rfl rfl rfl Tryz.runUnderlying60 Tryz.sizeOf106 (List.getElem?_eq_some_iff.1 hx14).1) rfl ?_
          refine TL.rw ft_cursitorref14_ok 1 rfl ?_
          refine TL.q rfl (.g rfl rfl rfl) (Ex.o1 1 rfl Tryz.isAgg104 z15nf z15cc rfl rfl) rfl ?_
          refine TL.q rfl (.g rfl rfl rfl) (Ex.lenS rfl Tryz.runUnderlying104) rfl ?_
          refine TL.rw ft_cursitorref14_ok 2 rfl ?_
          by_cases c21 : (x13.fParts.length : Int) < 1
          · replace h := ifT c21 h
            refine TL.nil (X.seq ?_)
            refine T.yes rfl (decide_eq_true c21) ?_
            refine T.seq (T.region rfl ?_)
            refine TL.run ft_cursitorref14_ok [0] rfl rfl ?_
            obtain rfl := Option.some.inj h
            replace h := hO7
            clear hO7
            try dsimp only at h
            obtain rfl := Option.some.inj h
            exact TL.nil (X.seq (T.ret (X.rs (X.rb (X.rs (X.rs (X.rb (X.rs (X.done1 [0] Tryz.results43 (RV.tm rfl) ⟨rfl, rfl, rfl⟩ (by rfl) (.inl rfl))))))))))
          · replace h := ifF c21 h
            refine TL.nil (X.seq ?_)
            refine T.no rfl (decide_eq_false c21) ?_
            refine T.skip (X.seq (T.seq (T.seq (T.draw (.q 0 (.q 1 (.q 2 (.q 3 (.q 4 (.q 5 (.q 6 (.q 7 (.q 8 (.q 9 (.q 10 (.q 11 (.q 12 (.q 13 (.e 14 (.q 15 (.q 16 .nil))))))))))))))))) [0] rfl mix_cursitorref14 (NoP.seq (NoP.seq (NoP.blk (NoP.seq (NoP.seq (NoP.blk (NoP.seq np_post))))))) (by kernel_rfl) ?_))))
            by_cases c22 : (k4 : Int) > 0
            · replace h := ifT c22 h
              refine TD.run ft_cursitorref14_ok [0, 1, 2] rfl rfl ?_
              refine TD.q rfl (.g rfl rfl (decide_eq_true c22)) (Ex.ft ft_cursitorref14_ok rfl) rfl ?_
              refine TD.q rfl (.g rfl rfl (decide_eq_true c22)) (Ex.ft ft_cursitorref14_ok rfl) rfl ?_
              replace h := guard_some h
              obtain ⟨c23, h⟩ := h
              refine TD.q rfl (.g rfl rfl (decide_eq_true c22)) (Ex.sub rfl rfl c23) rfl ?_
              replace h := guard_some h
              obtain ⟨c24, h⟩ := h
              obtain ⟨x25, hx26, h⟩ := Option.bind_eq_some_iff.1 h
              obtain ⟨z27cs, z27cl, z27cc, z27nf, z27r⟩ := RX.elem' (by decide) hX hx26
              obtain ⟨z27S, z27r, z27rr⟩ := z27r
              obtain ⟨A28, c29, rfl, z27s0⟩ := z27r
              have hX30 : (RX.of (sliceRd 1 intE) [.slice A28 x25.fParts.length c29] x25.fParts).reads w F := ⟨z27S, z27s0, z27rr⟩
              refine TD.q rfl (.g rfl rfl (decide_eq_true c22)) (Ex.ixS (k := ((k4 : Int) - 1).toNat) rfl rfl ((Int.toNat_of_nonneg c24).symm) Tryz.runUnderlying60 Tryz.sizeOf106 (List.getElem?_eq_some_iff.1 hx26).1) rfl ?_
              refine TD.q rfl (.g rfl rfl (decide_eq_true c22)) (Ex.ft ft_cursitorref14_ok rfl) rfl ?_
              refine TD.q rfl (.g rfl rfl (decide_eq_true c22)) (Ex.o1 0 rfl Tryz.isAgg9 z27nf z27cc rfl rfl) rfl ?_
              refine TD.q rfl (.g rfl rfl (decide_eq_true c22)) (Ex.ft ft_cursitorref14_ok rfl) rfl ?_
              refine TD.q rfl (.g rfl rfl (decide_eq_true c22)) (Ex.ft ft_cursitorref14_ok rfl) rfl ?_
              refine TD.q rfl (.g rfl rfl (decide_eq_true c22)) (Ex.ixS (k := k4) rfl rfl rfl Tryz.runUnderlying60 Tryz.sizeOf106 (List.getElem?_eq_some_iff.1 hx14).1) rfl ?_
              refine TD.q rfl (.g rfl rfl (decide_eq_true c22)) (Ex.ft ft_cursitorref14_ok rfl) rfl ?_
              refine TD.q rfl (.g rfl rfl (decide_eq_true c22)) (Ex.o1 0 rfl Tryz.isAgg9 z15nf z15cc rfl rfl) rfl ?_
              obtain ⟨x31, hx32, h⟩ := Option.bind_eq_some_iff.1 h
              refine TD.ce rfl (.g rfl rfl (decide_eq_true c22)) (.fn Tryz.call67 rfl) (f_r14_less_spec x25.fName x13.fName _ hx32) (fun _ hs => (RX.reads_triv _ _)) rfl [0] (rfl) ?_
              refine TD.q rfl (.g rfl rfl (decide_eq_true c22)) (Ex.ft ft_cursitorref14_ok rfl) rfl ?_
              refine TD.q rfl .u (Ex.py rfl (decide_eq_true c22) rfl) rfl ?_
              by_cases c33 : x31 = true
              · replace h := ifT c33 h
                refine TD.nil (X.seq ?_)
                refine T.no rfl (bn_f c33) ?_
                refine T.skip (X.seq (T.seq (T.region rfl ?_)))
                refine TL.run ft_cursitorref14_ok [0] rfl rfl ?_
                refine TL.nil (X.seq (T.block ?_))
                obtain ⟨E36, hE37, hO38⟩ := Option.bind_eq_some_iff.1 h
                refine T.lp (fun m e Rs => ∃ (y34 : Bool) (k35 : Nat), e = [(0, .slice (some ⟨gz15, oz15, none⟩) a0.length c2), (2, .bool y34), (3, .int .i64 (k4 : Int)), (4, .int .i64 (k35 : Int))] ∧ Rs = [EmpR] ∧ f_r14_Rise_l2 x13 m y34 k35 = some E36) (((x13.fParts.length : Int)).toNat + 1) [0] ⟨y3, 0, rfl, rfl, by exact hE37⟩ (by rfl) (by rfl) ?_
                rintro m39 _ _ ⟨y34, k35, rfl, rfl, hl41⟩
                clear hE37 h
                cases m39 with
                | zero =>
                  rw [f_r14_Rise_l2] at hl41
                  cases hl41
                | succ m39 =>
                  have h := hl41
                  clear hl41
                  rw [f_r14_Rise_l2] at h
                  refine T.seq (T.seq (T.region rfl ?_))
                  refine TL.run ft_cursitorref14_ok [0, 1, 2] rfl rfl ?_
                  refine TL.q rfl .u (Ex.ixS (k := k4) rfl rfl rfl Tryz.runUnderlying60 Tryz.sizeOf106 (List.getElem?_eq_some_iff.1 hx14).1) rfl ?_
                  refine TL.run ft_cursitorref14_ok [4] rfl rfl ?_
                  refine TL.q rfl .u (Ex.o1 1 rfl Tryz.isAgg104 z15nf z15cc rfl rfl) rfl ?_
                  refine TL.q rfl .u (Ex.lenS rfl Tryz.runUnderlying104) rfl ?_
                  refine TL.run ft_cursitorref14_ok [7] rfl rfl ?_
                  by_cases c43 : (k35 : Int) < (x13.fParts.length : Int)
                  · replace h := ifT c43 h
                    refine TL.nil (X.seq ?_)
                    refine T.yes rfl (decide_eq_true c43) ?_
                    refine T.skip (X.seq (T.seq (T.block (T.seq (T.region rfl ?_)))))
                    refine TL.run ft_cursitorref14_ok [0, 1] rfl rfl ?_
                    refine TL.q rfl .u (Ex.ixS (k := k4) rfl rfl rfl Tryz.runUnderlying60 Tryz.sizeOf106 (List.getElem?_eq_some_iff.1 hx14).1) rfl ?_
                    refine TL.run ft_cursitorref14_ok [3] rfl rfl ?_
                    refine TL.q rfl .u (Ex.o1 1 rfl Tryz.isAgg104 z15nf z15cc rfl rfl) rfl ?_
                    obtain ⟨x44, hx45, h⟩ := Option.bind_eq_some_iff.1 h
                    obtain ⟨gz46, oz46, rfl, z46cs, z46cl, z46cc, z46nf, z46r⟩ := RX.elem (by decide) hX18 hx45
                    obtain ⟨z46S, z46r, z46rr⟩ := z46r
                    obtain rfl : z46cs = [.int .i64 x44] := z46r
                    refine TL.run ft_cursitorref14_ok [5] rfl rfl ?_
                    refine TL.q rfl .u (Ex.ixS (k := k35) rfl rfl rfl Tryz.runUnderlying104 Tryz.sizeOf3 (List.getElem?_eq_some_iff.1 hx45).1) rfl ?_
                    refine TL.q rfl .u (Ex.o1 0 rfl Tryz.isAgg3 z46nf z46cc rfl rfl) rfl ?_
                    refine TL.run ft_cursitorref14_ok [8] rfl rfl ?_
                    refine TL.nil (X.seq (T.seq (T.region rfl ?_)))
                    by_cases c47 : x44 < 0
                    · replace h := ifT c47 h
                      refine TL.run ft_cursitorref14_ok [0, 1, 2] rfl rfl ?_
                      refine TL.hv 74 rfl (decide_eq_true c47) ?_
                      refine TL.rw ft_cursitorref14_ok 20 rfl ?_
                      refine TL.nil (X.seq ?_)
                      refine T.yes rfl rfl ?_
                      refine T.seq (T.region rfl ?_)
                      refine TL.run ft_cursitorref14_ok [0] rfl rfl ?_
                      obtain rfl := Option.some.inj h
                      replace h := hO38
                      clear hO38
                      try dsimp only at h
                      obtain rfl := Option.some.inj h
                      replace h := hO7
                      clear hO7
                      try dsimp only at h
                      obtain rfl := Option.some.inj h
                      exact TL.nil (X.seq (T.ret (X.rb (X.rs (X.rs (X.rb (X.rb (X.rs (X.rs (X.rb (X.rs (X.done1 [0] Tryz.results43 (RV.tm rfl) ⟨rfl, rfl, rfl⟩ (by rfl) (.inl rfl)))))))))))))
                    · replace h := ifF c47 h
                      refine TL.run ft_cursitorref14_ok [0, 1, 2] rfl rfl ?_
                      refine TL.hv 74 rfl (decide_eq_false c47) ?_
                      by_cases c48 : x44 > 2147483647
                      · replace h := ifT c48 h
                        refine TL.rw ft_cursitorref14_ok 4 rfl ?_
                        refine TL.hv 78 rfl (decide_eq_true c48) ?_
                        refine TL.rw ft_cursitorref14_ok 16 rfl ?_
                        refine TL.nil (X.seq ?_)
                        refine T.yes rfl rfl ?_
                        refine T.seq (T.region rfl ?_)
                        refine TL.run ft_cursitorref14_ok [0] rfl rfl ?_
                        obtain rfl := Option.some.inj h
                        replace h := hO38
                        clear hO38
                        try dsimp only at h
                        obtain rfl := Option.some.inj h
                        replace h := hO7
                        clear hO7
                        try dsimp only at h
                        obtain rfl := Option.some.inj h
                        exact TL.nil (X.seq (T.ret (X.rb (X.rs (X.rs (X.rb (X.rb (X.rs (X.rs (X.rb (X.rs (X.done1 [0] Tryz.results43 (RV.tm rfl) ⟨rfl, rfl, rfl⟩ (by rfl) (.inl rfl)))))))))))))
                      · replace h := ifF c48 h
                        refine TL.rw ft_cursitorref14_ok 4 rfl ?_
                        refine TL.hv 78 rfl (decide_eq_false c48) ?_
                        by_cases c49 : (k35 : Int) > 0
                        · replace h := ifT c49 h
                          refine TL.rw ft_cursitorref14_ok 3 rfl ?_
                          refine TL.hv 81 rfl (decide_eq_true c49) ?_
                          refine TL.rw ft_cursitorref14_ok 2 rfl ?_
                          refine TL.q rfl (.g rfl rfl rfl) (Ex.ixS (k := k4) rfl rfl rfl Tryz.runUnderlying60 Tryz.sizeOf106 (List.getElem?_eq_some_iff.1 hx14).1) rfl ?_
                          refine TL.rw ft_cursitorref14_ok 1 rfl ?_
                          refine TL.q rfl (.g rfl rfl rfl) (Ex.o1 1 rfl Tryz.isAgg104 z15nf z15cc rfl rfl) rfl ?_
                          replace h := guard_some h
                          obtain ⟨c50, h⟩ := h
                          refine TL.rw ft_cursitorref14_ok 1 rfl ?_
                          refine TL.q rfl (.g rfl rfl rfl) (Ex.sub rfl rfl c50) rfl ?_
                          replace h := guard_some h
                          obtain ⟨c51, h⟩ := h
                          obtain ⟨x52, hx53, h⟩ := Option.bind_eq_some_iff.1 h
                          obtain ⟨z54cs, z54cl, z54cc, z54nf, z54r⟩ := RX.elem' (by decide) hX18 hx53
                          obtain ⟨z54S, z54r, z54rr⟩ := z54r
                          obtain rfl : z54cs = [.int .i64 x52] := z54r
                          refine TL.q rfl (.g rfl rfl rfl) (Ex.ixS (k := ((k35 : Int) - 1).toNat) rfl rfl ((Int.toNat_of_nonneg c51).symm) Tryz.runUnderlying104 Tryz.sizeOf3 (List.getElem?_eq_some_iff.1 hx53).1) rfl ?_
                          refine TL.q rfl (.g rfl rfl rfl) (Ex.o1 0 rfl Tryz.isAgg3 z54nf z54cc rfl rfl) rfl ?_
                          refine TL.rw ft_cursitorref14_ok 4 rfl ?_
                          by_cases c55 : x52 ≥ x44
                          · replace h := ifT c55 h
                            refine TL.nil (X.seq ?_)
                            refine T.yes rfl (decide_eq_true c55) ?_
                            refine T.seq (T.region rfl ?_)
                            refine TL.run ft_cursitorref14_ok [0] rfl rfl ?_
                            obtain rfl := Option.some.inj h
                            replace h := hO38
                            clear hO38
                            try dsimp only at h
                            obtain rfl := Option.some.inj h
                            replace h := hO7
                            clear hO7
                            try dsimp only at h
                            obtain rfl := Option.some.inj h
                            exact TL.nil (X.seq (T.ret (X.rb (X.rs (X.rs (X.rb (X.rb (X.rs (X.rs (X.rb (X.rs (X.done1 [0] Tryz.results43 (RV.tm rfl) ⟨rfl, rfl, rfl⟩ (by rfl) (.inl rfl)))))))))))))
                          · replace h := ifF c55 h
                            refine TL.nil (X.seq ?_)
                            refine T.no rfl (decide_eq_false c55) ?_
                            refine T.skip (X.blk (X.seq (T.region rfl ?_)))
                            replace h := guard_some h
                            obtain ⟨c56, h⟩ := h
                            refine TL.run ft_cursitorref14_ok [0] rfl rfl ?_
                            refine TL.q rfl .u (Ex.add rfl rfl c56) rfl ?_
                            refine TL.run ft_cursitorref14_ok [2] rfl rfl ?_
                            exact TL.nil (X.back (m' := m39) [0] (by omega) ⟨y34, k35 + 1, rfl, rfl, h⟩ (by rfl) (by rfl))
                        · replace h := ifF c49 h
                          refine TL.rw ft_cursitorref14_ok 3 rfl ?_
                          refine TL.hv 81 rfl (decide_eq_false c49) ?_
                          refine TL.rw ft_cursitorref14_ok 13 rfl ?_
                          refine TL.nil (X.seq ?_)
                          refine T.no rfl rfl ?_
                          refine T.skip (X.blk (X.seq (T.region rfl ?_)))
                          replace h := guard_some h
                          obtain ⟨c57, h⟩ := h
                          refine TL.run ft_cursitorref14_ok [0] rfl rfl ?_
                          refine TL.q rfl .u (Ex.add rfl rfl c57) rfl ?_
                          refine TL.run ft_cursitorref14_ok [2] rfl rfl ?_
                          exact TL.nil (X.back (m' := m39) [0] (by omega) ⟨y34, k35 + 1, rfl, rfl, h⟩ (by rfl) (by rfl))
                  · replace h := ifF c43 h
                    refine TL.nil (X.seq ?_)
                    refine T.no rfl (decide_eq_false c43) ?_
                    obtain rfl := Option.some.inj h
                    replace h := hO38
                    clear hO38
                    try dsimp only at h
                    refine T.exit (X.exs (X.exs (X.ex (X.blk (X.seq (T.region rfl ?_))))))
                    replace h := guard_some h
                    obtain ⟨c58, h⟩ := h
                    refine TL.run ft_cursitorref14_ok [0] rfl rfl ?_
                    refine TL.q rfl .u (Ex.add rfl rfl c58) rfl ?_
                    refine TL.run ft_cursitorref14_ok [2] rfl rfl ?_
                    exact TL.nil (X.back (m' := m8) [0] (by omega) ⟨y34, k4 + 1, rfl, rfl, h⟩ (by rfl) (by rfl))
              · replace h := ifF c33 h
                replace c33 := eq_false_of_ne_true c33
                refine TD.nil (X.seq ?_)
                refine T.yes rfl (bn_t c33) ?_
                refine T.seq (T.region rfl ?_)
                refine TL.run ft_cursitorref14_ok [0] rfl rfl ?_
                obtain rfl := Option.some.inj h
                replace h := hO7
                clear hO7
                try dsimp only at h
                obtain rfl := Option.some.inj h
                exact TL.nil (X.seq (T.ret (X.rs (X.rb (X.rs (X.rs (X.rb (X.rs (X.done1 [0] Tryz.results43 (RV.tm rfl) ⟨rfl, rfl, rfl⟩ (by rfl) (.inl rfl))))))))))
            · replace h := ifF c22 h
              refine TD.run ft_cursitorref14_ok [0, 1, 2] rfl rfl ?_
              refine TD.no rfl (.gn rfl rfl (decide_eq_false c22)) rfl ?_
              refine TD.no rfl (.gn rfl rfl (decide_eq_false c22)) rfl ?_
              refine TD.no rfl (.gn rfl rfl (decide_eq_false c22)) rfl ?_
              refine TD.no rfl (.gn rfl rfl (decide_eq_false c22)) rfl ?_
              refine TD.no rfl (.gn rfl rfl (decide_eq_false c22)) rfl ?_
              refine TD.no rfl (.gn rfl rfl (decide_eq_false c22)) rfl ?_
              refine TD.no rfl (.gn rfl rfl (decide_eq_false c22)) rfl ?_
              refine TD.no rfl (.gn rfl rfl (decide_eq_false c22)) rfl ?_
              refine TD.no rfl (.gn rfl rfl (decide_eq_false c22)) rfl ?_
              refine TD.no rfl (.gn rfl rfl (decide_eq_false c22)) rfl ?_
              refine TD.no rfl (.gn rfl rfl (decide_eq_false c22)) rfl ?_
              refine TD.noe rfl (.gn rfl rfl (decide_eq_false c22)) rfl [0] rfl ?_
              refine TD.no rfl (.gn rfl rfl (decide_eq_false c22)) rfl ?_
              refine TD.q rfl .u (Ex.pn rfl (decide_eq_false c22) rfl) rfl ?_
              refine TD.nil (X.seq ?_)
              refine T.no rfl rfl ?_
              refine T.skip (X.seq (T.seq (T.region rfl ?_)))
              refine TL.run ft_cursitorref14_ok [0] rfl rfl ?_
              refine TL.nil (X.seq (T.block ?_))
              obtain ⟨E64, hE65, hO66⟩ := Option.bind_eq_some_iff.1 h
              refine T.lp (fun m e Rs => ∃ (y62 : Bool) (k63 : Nat), e = [(0, .slice (some ⟨gz15, oz15, none⟩) a0.length c2), (2, .bool y62), (3, .int .i64 (k4 : Int)), (4, .int .i64 (k63 : Int))] ∧ Rs = [EmpR] ∧ f_r14_Rise_l3 x13 m y62 k63 = some E64) (((x13.fParts.length : Int)).toNat + 1) [0] ⟨y3, 0, rfl, rfl, by exact hE65⟩ (by rfl) (by rfl) ?_
              rintro m67 _ _ ⟨y62, k63, rfl, rfl, hl69⟩
              clear hE65 h
              cases m67 with
              | zero =>
                rw [f_r14_Rise_l3] at hl69
                cases hl69
              | succ m67 =>
                have h := hl69
                clear hl69
                rw [f_r14_Rise_l3] at h
                refine T.seq (T.seq (T.region rfl ?_))
                refine TL.run ft_cursitorref14_ok [0, 1, 2] rfl rfl ?_
                refine TL.q rfl .u (Ex.ixS (k := k4) rfl rfl rfl Tryz.runUnderlying60 Tryz.sizeOf106 (List.getElem?_eq_some_iff.1 hx14).1) rfl ?_
                refine TL.run ft_cursitorref14_ok [4] rfl rfl ?_
                refine TL.q rfl .u (Ex.o1 1 rfl Tryz.isAgg104 z15nf z15cc rfl rfl) rfl ?_
                refine TL.q rfl .u (Ex.lenS rfl Tryz.runUnderlying104) rfl ?_
                refine TL.run ft_cursitorref14_ok [7] rfl rfl ?_
                by_cases c71 : (k63 : Int) < (x13.fParts.length : Int)
                · replace h := ifT c71 h
                  refine TL.nil (X.seq ?_)
                  refine T.yes rfl (decide_eq_true c71) ?_
                  refine T.skip (X.seq (T.seq (T.block (T.seq (T.region rfl ?_)))))
                  refine TL.run ft_cursitorref14_ok [0, 1] rfl rfl ?_
                  refine TL.q rfl .u (Ex.ixS (k := k4) rfl rfl rfl Tryz.runUnderlying60 Tryz.sizeOf106 (List.getElem?_eq_some_iff.1 hx14).1) rfl ?_
                  refine TL.run ft_cursitorref14_ok [3] rfl rfl ?_
                  refine TL.q rfl .u (Ex.o1 1 rfl Tryz.isAgg104 z15nf z15cc rfl rfl) rfl ?_
                  obtain ⟨x72, hx73, h⟩ := Option.bind_eq_some_iff.1 h
                  obtain ⟨gz74, oz74, rfl, z74cs, z74cl, z74cc, z74nf, z74r⟩ := RX.elem (by decide) hX18 hx73
                  obtain ⟨z74S, z74r, z74rr⟩ := z74r
                  obtain rfl : z74cs = [.int .i64 x72] := z74r
                  refine TL.run ft_cursitorref14_ok [5] rfl rfl ?_
                  refine TL.q rfl .u (Ex.ixS (k := k63) rfl rfl rfl Tryz.runUnderlying104 Tryz.sizeOf3 (List.getElem?_eq_some_iff.1 hx73).1) rfl ?_
                  refine TL.q rfl .u (Ex.o1 0 rfl Tryz.isAgg3 z74nf z74cc rfl rfl) rfl ?_
                  refine TL.run ft_cursitorref14_ok [8] rfl rfl ?_
                  refine TL.nil (X.seq (T.seq (T.region rfl ?_)))
                  by_cases c75 : x72 < 0
                  · replace h := ifT c75 h
                    refine TL.run ft_cursitorref14_ok [0, 1, 2] rfl rfl ?_
                    refine TL.hv 74 rfl (decide_eq_true c75) ?_
                    refine TL.rw ft_cursitorref14_ok 20 rfl ?_
                    refine TL.nil (X.seq ?_)
                    refine T.yes rfl rfl ?_
                    refine T.seq (T.region rfl ?_)
                    refine TL.run ft_cursitorref14_ok [0] rfl rfl ?_
                    obtain rfl := Option.some.inj h
                    replace h := hO66
                    clear hO66
                    try dsimp only at h
                    obtain rfl := Option.some.inj h
                    replace h := hO7
                    clear hO7
                    try dsimp only at h
                    obtain rfl := Option.some.inj h
                    exact TL.nil (X.seq (T.ret (X.rb (X.rs (X.rs (X.rb (X.rb (X.rs (X.rs (X.rb (X.rs (X.done1 [0] Tryz.results43 (RV.tm rfl) ⟨rfl, rfl, rfl⟩ (by rfl) (.inl rfl)))))))))))))
                  · replace h := ifF c75 h
                    refine TL.run ft_cursitorref14_ok [0, 1, 2] rfl rfl ?_
                    refine TL.hv 74 rfl (decide_eq_false c75) ?_
                    by_cases c76 : x72 > 2147483647
                    · replace h := ifT c76 h
                      refine TL.rw ft_cursitorref14_ok 4 rfl ?_
                      refine TL.hv 78 rfl (decide_eq_true c76) ?_
                      refine TL.rw ft_cursitorref14_ok 16 rfl ?_
                      refine TL.nil (X.seq ?_)
                      refine T.yes rfl rfl ?_
                      refine T.seq (T.region rfl ?_)
                      refine TL.run ft_cursitorref14_ok [0] rfl rfl ?_
                      obtain rfl := Option.some.inj h
                      replace h := hO66
                      clear hO66
                      try dsimp only at h
                      obtain rfl := Option.some.inj h
                      replace h := hO7
                      clear hO7
                      try dsimp only at h
                      obtain rfl := Option.some.inj h
                      exact TL.nil (X.seq (T.ret (X.rb (X.rs (X.rs (X.rb (X.rb (X.rs (X.rs (X.rb (X.rs (X.done1 [0] Tryz.results43 (RV.tm rfl) ⟨rfl, rfl, rfl⟩ (by rfl) (.inl rfl)))))))))))))
                    · replace h := ifF c76 h
                      refine TL.rw ft_cursitorref14_ok 4 rfl ?_
                      refine TL.hv 78 rfl (decide_eq_false c76) ?_
                      by_cases c77 : (k63 : Int) > 0
                      · replace h := ifT c77 h
                        refine TL.rw ft_cursitorref14_ok 3 rfl ?_
                        refine TL.hv 81 rfl (decide_eq_true c77) ?_
                        refine TL.rw ft_cursitorref14_ok 2 rfl ?_
                        refine TL.q rfl (.g rfl rfl rfl) (Ex.ixS (k := k4) rfl rfl rfl Tryz.runUnderlying60 Tryz.sizeOf106 (List.getElem?_eq_some_iff.1 hx14).1) rfl ?_
                        refine TL.rw ft_cursitorref14_ok 1 rfl ?_
                        refine TL.q rfl (.g rfl rfl rfl) (Ex.o1 1 rfl Tryz.isAgg104 z15nf z15cc rfl rfl) rfl ?_
                        replace h := guard_some h
                        obtain ⟨c78, h⟩ := h
                        refine TL.rw ft_cursitorref14_ok 1 rfl ?_
                        refine TL.q rfl (.g rfl rfl rfl) (Ex.sub rfl rfl c78) rfl ?_
                        replace h := guard_some h
                        obtain ⟨c79, h⟩ := h
                        obtain ⟨x80, hx81, h⟩ := Option.bind_eq_some_iff.1 h
                        obtain ⟨z82cs, z82cl, z82cc, z82nf, z82r⟩ := RX.elem' (by decide) hX18 hx81
                        obtain ⟨z82S, z82r, z82rr⟩ := z82r
                        obtain rfl : z82cs = [.int .i64 x80] := z82r
                        refine TL.q rfl (.g rfl rfl rfl) (Ex.ixS (k := ((k63 : Int) - 1).toNat) rfl rfl ((Int.toNat_of_nonneg c79).symm) Tryz.runUnderlying104 Tryz.sizeOf3 (List.getElem?_eq_some_iff.1 hx81).1) rfl ?_
                        refine TL.q rfl (.g rfl rfl rfl) (Ex.o1 0 rfl Tryz.isAgg3 z82nf z82cc rfl rfl) rfl ?_
                        refine TL.rw ft_cursitorref14_ok 4 rfl ?_
                        by_cases c83 : x80 ≥ x72
                        · replace h := ifT c83 h
                          refine TL.nil (X.seq ?_)
                          refine T.yes rfl (decide_eq_true c83) ?_
                          refine T.seq (T.region rfl ?_)
                          refine TL.run ft_cursitorref14_ok [0] rfl rfl ?_
                          obtain rfl := Option.some.inj h
                          replace h := hO66
                          clear hO66
                          try dsimp only at h
                          obtain rfl := Option.some.inj h
                          replace h := hO7
                          clear hO7
                          try dsimp only at h
                          obtain rfl := Option.some.inj h
                          exact TL.nil (X.seq (T.ret (X.rb (X.rs (X.rs (X.rb (X.rb (X.rs (X.rs (X.rb (X.rs (X.done1 [0] Tryz.results43 (RV.tm rfl) ⟨rfl, rfl, rfl⟩ (by rfl) (.inl rfl)))))))))))))
                        · replace h := ifF c83 h
                          refine TL.nil (X.seq ?_)
                          refine T.no rfl (decide_eq_false c83) ?_
                          refine T.skip (X.blk (X.seq (T.region rfl ?_)))
                          replace h := guard_some h
                          obtain ⟨c84, h⟩ := h
                          refine TL.run ft_cursitorref14_ok [0] rfl rfl ?_
                          refine TL.q rfl .u (Ex.add rfl rfl c84) rfl ?_
                          refine TL.run ft_cursitorref14_ok [2] rfl rfl ?_
                          exact TL.nil (X.back (m' := m67) [0] (by omega) ⟨y62, k63 + 1, rfl, rfl, h⟩ (by rfl) (by rfl))
                      · replace h := ifF c77 h
                        refine TL.rw ft_cursitorref14_ok 3 rfl ?_
                        refine TL.hv 81 rfl (decide_eq_false c77) ?_
                        refine TL.rw ft_cursitorref14_ok 13 rfl ?_
                        refine TL.nil (X.seq ?_)
                        refine T.no rfl rfl ?_
                        refine T.skip (X.blk (X.seq (T.region rfl ?_)))
                        replace h := guard_some h
                        obtain ⟨c85, h⟩ := h
                        refine TL.run ft_cursitorref14_ok [0] rfl rfl ?_
                        refine TL.q rfl .u (Ex.add rfl rfl c85) rfl ?_
                        refine TL.run ft_cursitorref14_ok [2] rfl rfl ?_
                        exact TL.nil (X.back (m' := m67) [0] (by omega) ⟨y62, k63 + 1, rfl, rfl, h⟩ (by rfl) (by rfl))
                · replace h := ifF c71 h
                  refine TL.nil (X.seq ?_)
                  refine T.no rfl (decide_eq_false c71) ?_
                  obtain rfl := Option.some.inj h
                  replace h := hO66
                  clear hO66
                  try dsimp only at h
                  refine T.exit (X.exs (X.exs (X.ex (X.blk (X.seq (T.region rfl ?_))))))
                  replace h := guard_some h
                  obtain ⟨c86, h⟩ := h
                  refine TL.run ft_cursitorref14_ok [0] rfl rfl ?_
                  refine TL.q rfl .u (Ex.add rfl rfl c86) rfl ?_
                  refine TL.run ft_cursitorref14_ok [2] rfl rfl ?_
                  exact TL.nil (X.back (m' := m8) [0] (by omega) ⟨y62, k4 + 1, rfl, rfl, h⟩ (by rfl) (by rfl))
    · replace h := ifF c12 h
      refine TL.nil (X.seq ?_)
      refine T.no rfl (decide_eq_false c12) ?_
      obtain rfl := Option.some.inj h
      replace h := hO7
      clear hO7
      try dsimp only at h
      refine T.exit (X.exs (X.exs (X.ex (X.seq (T.seq (T.region rfl ?_))))))
      refine TL.run ft_cursitorref14_ok [0] rfl rfl ?_
      obtain rfl := Option.some.inj h
      exact TL.nil (X.seq (T.ret (X.done1 [0] Tryz.results43 (RV.tm rfl) ⟨rfl, rfl, rfl⟩ (by rfl) (.inl rfl))))
end Go.Proofs.YtlhgogjcaegehaaGreat.Sl
