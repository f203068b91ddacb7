/- values: what can be, and sameness (plain laws). -/
import Derived.Test.YtdlpmcbglmgpiaaQ14
namespace Go.Proofs.Ytdlpmcbglmgpiaa.Sl
open Go.RowKit
set_option linter.unusedVariables false
set_option linter.unusedSimpArgs false
theorem at_drop {α : Type} {l : List α} {k : Nat} {x : α} {t : List α} (h : l.drop k = x :: t) : l[k]? = some x ∧ l.drop (k + 1) = t ∧ l.length = k + 1 + t.length := by
  have hl := congrArg List.length h
  rw [List.length_drop, List.length_cons] at hl
  refine ⟨?_, ?_, by omega⟩
  · have := congrArg (fun z => z[0]?) h
    simpa using this
  · rw [← List.drop_drop, h]
    rfl
theorem nil_drop {α : Type} {l : List α} {k : Nat} (h : l.drop k = []) : l.length ≤ k := List.drop_eq_nil_iff.1 h
/-- Each above the one ahead of it. -/
def up {α : Type} (lt : α → α → Bool) : Option α → List α → Bool
  | _, [] => true
  | none, x :: t => up lt (some x) t
  | some p, x :: t => lt p x && up lt (some x) t
def ltI (a b : Int) : Bool := decide (a < b)
theorem rint_loop (a0 : List Int) (hb : a0.length ≤ 140737488355328) : ∀ (t : List Int) (p : Int) (k fuel : Nat) (y : Bool), a0.drop k = p :: t → t.length < fuel → ∃ z, f_value_risingint_l1 a0 fuel y ((k : Int) + 1) = some (if up ltI (some p) t = true then .go (y, z) else .ret false)
  | [], p, k, fuel + 1, y, h, hf => by
    obtain ⟨h1, h2, h3⟩ := at_drop h
    refine ⟨(k : Int) + 1, ?_⟩
    rw [f_value_risingint_l1, if_neg (by simp only [List.length_nil] at h3; omega)]
    rfl
  | x :: t, p, k, fuel + 1, y, h, hf => by
    obtain ⟨h1, h2, h3⟩ := at_drop h
    obtain ⟨g1, g2, g3⟩ := at_drop h2
    rw [List.length_cons] at hf h3
    obtain ⟨z, hz⟩ := rint_loop a0 hb t x (k + 1) fuel y h2 (by omega)
    rw [f_value_risingint_l1, if_pos (by omega), if_pos (by omega), if_pos (by omega), show ((k : Int) + 1 - 1).toNat = k by omega, h1]
    rw [Option.bind_some]
    rw [if_pos (by omega), show ((k : Int) + 1).toNat = k + 1 by omega, g1]
    rw [Option.bind_some]
    by_cases hc : p < x
    · rw [if_neg (by omega), if_pos (by omega)]
      refine ⟨z, ?_⟩
      rw [show ((k : Int) + 1 + 1) = ((k + 1 : Nat) : Int) + 1 by omega, hz]
      simp only [up, ltI, hc, decide_true, Bool.true_and]
    · rw [if_pos (by omega)]
      refine ⟨0, ?_⟩
      simp only [up, ltI, hc, decide_false, Bool.false_and, Bool.false_eq_true, if_false]
theorem rint_eq (a0 : List Int) (hb : a0.length ≤ 140737488355328) : f_value_risingint a0 = some (up ltI none a0) := by
  unfold f_value_risingint
  cases a0 with
  | nil => rfl
  | cons x t =>
    obtain ⟨z, hz⟩ := rint_loop (x :: t) hb t x 0 ((((x :: t).length : Int) - 1).toNat + 1) false rfl (by simp only [List.length_cons]; omega)
    rw [show (((0 : Nat) : Int) + 1) = 1 from rfl] at hz
    rw [hz]
    simp only [up]
    cases up ltI (some x) t <;> rfl
theorem rstr_loop (a0 : List (List UInt8)) (hb : a0.length ≤ 140737488355328) : ∀ (t : List (List UInt8)) (p : List UInt8) (k fuel : Nat) (y : Bool), a0.drop k = p :: t → t.length < fuel → ∃ z, f_value_risingstring_l1 a0 fuel y ((k : Int) + 1) = some (if up Op.bytesLess (some p) t = true then .go (y, z) else .ret false)
  | [], p, k, fuel + 1, y, h, hf => by
    obtain ⟨h1, h2, h3⟩ := at_drop h
    refine ⟨(k : Int) + 1, ?_⟩
    rw [f_value_risingstring_l1, if_neg (by simp only [List.length_nil] at h3; omega)]
    rfl
  | x :: t, p, k, fuel + 1, y, h, hf => by
    obtain ⟨h1, h2, h3⟩ := at_drop h
    obtain ⟨g1, g2, g3⟩ := at_drop h2
    rw [List.length_cons] at hf h3
    obtain ⟨z, hz⟩ := rstr_loop a0 hb t x (k + 1) fuel y h2 (by omega)
    rw [f_value_risingstring_l1, if_pos (by omega), if_pos (by omega), if_pos (by omega), show ((k : Int) + 1 - 1).toNat = k by omega, h1]
    simp only [Option.bind_some]
    rw [if_pos (by omega), show ((k : Int) + 1).toNat = k + 1 by omega, g1]
    simp only [Option.bind_some]
    by_cases hc : Op.bytesLess p x = true
    · rw [if_pos hc, if_pos (by omega)]
      refine ⟨z, ?_⟩
      rw [show ((k : Int) + 1 + 1) = ((k + 1 : Nat) : Int) + 1 by omega, hz]
      simp only [up, hc, Bool.true_and]
    · rw [if_neg hc]
      refine ⟨0, ?_⟩
      simp only [up, hc, Bool.false_and, Bool.false_eq_true, if_false]
theorem rstr_eq (a0 : List (List UInt8)) (hb : a0.length ≤ 140737488355328) : f_value_risingstring a0 = some (up Op.bytesLess none a0) := by
  unfold f_value_risingstring
  cases a0 with
  | nil => rfl
  | cons x t =>
    obtain ⟨z, hz⟩ := rstr_loop (x :: t) hb t x 0 ((((x :: t).length : Int) - 1).toNat + 1) false rfl (by simp only [List.length_cons]; omega)
    rw [show (((0 : Nat) : Int) + 1) = 1 from rfl] at hz
    rw [hz]
    simp only [up]
    cases up Op.bytesLess (some x) t <;> rfl
/-- Partitions, and topics, that can be. -/
def okn (n : Int) : Bool := decide (0 ≤ n) && decide (n ≤ 2147483647)
def okps (l : List Int) : Bool := l.all okn && up ltI none l && !l.isEmpty
def oktB (t : Top) : Bool := !t.fName.isEmpty && decide (t.fName.length ≤ 32767) && okps t.fParts
def okts (l : List Top) : Bool := l.all oktB && up Op.bytesLess none (l.map (·.fName))
theorem parts_loop (y : Bool) : ∀ l : List Int, (∀ n, n ∈ l → wI n) → f_value_parts_l1 l y = some (if l.all okn = true then .go y else .ret false)
  | [], h => rfl
  | n :: l, h => by
    have hn := h n (.head _)
    rw [f_value_parts_l1, gFits_eq _ _ hn, fits_4, List.all_cons]
    by_cases h1 : n < 0
    · have : okn n = false := by unfold okn; simp; omega
      rw [if_pos h1, this]
      rfl
    · rw [if_neg h1, Option.bind_some]
      by_cases h2 : n ≤ 2147483647
      · have : okn n = true := by unfold okn; simp; omega
        rw [if_pos (by simp; omega), parts_loop y l (fun m hm => h m (.tail _ hm)), this, Bool.true_and]
      · have : okn n = false := by unfold okn; simp; omega
        rw [if_neg (by simp; omega), this]
        rfl
theorem parts_eq (l : List Int) (hw : wL wI l) : f_value_parts l = some (okps l) := by
  unfold f_value_parts okps
  rw [parts_loop false l hw.2]
  cases hall : l.all okn with
  | false => rfl
  | true =>
    simp only [if_true, Option.bind_some, Bool.true_and]
    cases l with
    | nil => rfl
    | cons x t =>
      rw [if_pos (by simp only [List.length_cons]; omega), rint_eq _ (by have := hw.1; omega)]
      simp
theorem vtopics_loop (y : Bool) : ∀ (l : List Top) (acc : List (List UInt8)), (∀ t, t ∈ l → wf_Top t) → acc.length + l.length ≤ 1000000 → f_value_topics_l1 l y acc = some (if l.all oktB = true then .go (y, acc ++ l.map (·.fName)) else .ret false)
  | [], acc, h, hl => by simp [f_value_topics_l1]
  | t :: l, acc, h, hl => by
    have ht := h t (.head _)
    rw [List.length_cons] at hl
    rw [f_value_topics_l1, parts_eq _ ht.2, List.all_cons]
    by_cases h1 : t.fName = []
    · have : oktB t = false := by simp [oktB, h1]
      rw [if_pos h1, this]
      rfl
    · rw [if_neg h1]
      by_cases h2 : (t.fName.length : Int) > 32767
      · have : oktB t = false := by simp [oktB, show ¬ t.fName.length ≤ 32767 by omega]
        rw [if_pos h2, this]
        rfl
      · rw [if_neg h2, Option.bind_some]
        have hne : t.fName.isEmpty = false := by cases hh : t.fName with | nil => exact absurd hh h1 | cons c u => rfl
        have ho : oktB t = okps t.fParts := by simp [oktB, hne, show t.fName.length ≤ 32767 by omega]
        rw [ho]
        cases hp : okps t.fParts with
        | false => rfl
        | true =>
          rw [if_pos rfl, if_pos (by omega), vtopics_loop y l _ (fun u hu => h u (.tail _ hu)) (by rw [List.length_append]; simp only [List.length_cons, List.length_nil]; omega), Bool.true_and, List.map_cons, List.append_assoc]
          rfl
theorem vtopics_eq (l : List Top) (hw : ∀ t, t ∈ l → wf_Top t) (hl : l.length ≤ 1000000) : f_value_topics l = some (okts l) := by
  unfold f_value_topics okts
  rw [vtopics_loop false l [] hw (by simpa using hl)]
  cases hall : l.all oktB with
  | false => rfl
  | true =>
    simp only [if_true, Option.bind_some, Bool.true_and, List.nil_append]
    rw [rstr_eq _ (by rw [List.length_map]; omega)]
    rfl
theorem less_loop (a b : List UInt8) (ha : a.length ≤ 1000000) (y : Bool) : ∀ (u v : List UInt8) (k fuel : Nat), a.drop k = u → b.drop k = v → v.length < fuel → k ≤ a.length → k ≤ b.length → (∃ r, f_r14_less_l1 a b fuel y k = some (.ret r) ∧ r = Op.bytesLess u v) ∨ (∃ z, f_r14_less_l1 a b fuel y k = some (.go z) ∧ Op.bytesLess u v = decide (a.length < b.length))
  | [], v, k, fuel + 1, hu, hv, hf, h1, h2 => by
    have := nil_drop hu
    right
    refine ⟨(y, k), by rw [f_r14_less_l1, if_neg (by omega)], ?_⟩
    cases v with
    | nil =>
      have := nil_drop hv
      simp [Op.bytesLess]
      omega
    | cons c v =>
      have := (at_drop hv).2.2
      simp [Op.bytesLess]
      omega
  | c :: u, [], k, fuel + 1, hu, hv, hf, h1, h2 => by
    have g1 := nil_drop hv
    have g2 := (at_drop hu).2.2
    right
    refine ⟨(y, k), by rw [f_r14_less_l1, if_pos (by omega), if_neg (by omega)], ?_⟩
    simp [Op.bytesLess]
    omega
  | c :: u, d :: v, k, fuel + 1, hu, hv, hf, h1, h2 => by
    obtain ⟨u1, u2, u3⟩ := at_drop hu
    obtain ⟨v1, v2, v3⟩ := at_drop hv
    rw [List.length_cons] at hf
    rw [f_r14_less_l1, if_pos (by omega), if_pos (by omega), u1, v1]
    simp only [Option.bind_some]
    by_cases hc : (c.toNat : Int) = (d.toNat : Int)
    · have hcd : c = d := UInt8.toNat_inj.1 (by omega)
      rw [if_pos hc, if_pos (by omega)]
      have := less_loop a b ha y u v (k + 1) fuel u2 v2 (by omega) (by omega) (by omega)
      have hb : Op.bytesLess (c :: u) (d :: v) = Op.bytesLess u v := by
        rw [hcd]
        simp [Op.bytesLess]
      rw [hb]
      exact this
    · rw [if_neg hc]
      left
      have hcd : c ≠ d := fun h => hc (by rw [h])
      by_cases hl : (c.toNat : Int) < (d.toNat : Int)
      · refine ⟨true, by rw [if_pos hl], ?_⟩
        have : c < d := UInt8.lt_iff_toNat_lt.2 (by omega)
        simp [Op.bytesLess, this]
      · refine ⟨false, by rw [if_neg hl], ?_⟩
        have : ¬ c < d := fun h => hl (by have := UInt8.lt_iff_toNat_lt.1 h; omega)
        simp [Op.bytesLess, this, hcd]
theorem less_eq (a b : List UInt8) (ha : a.length ≤ 1000000) : f_r14_less a b = some (Op.bytesLess a b) := by
  unfold f_r14_less
  rcases less_loop a b ha false a b 0 (((b.length : Int)).toNat + 1) rfl rfl (by omega) (Nat.zero_le _) (Nat.zero_le _) with ⟨r, h1, h2⟩ | ⟨z, h1, h2⟩
  · rw [show ((0 : Nat)) = 0 from rfl] at h1
    rw [h1, h2]
    rfl
  · rw [h1, h2]
    simp only [Option.bind_some]
    by_cases h : a.length < b.length
    · rw [if_pos (by omega)]
      simp [h]
    · rw [if_neg (by omega)]
      simp [h]
theorem rise_l3 (x : Top) : ∀ (fuel : Nat) (y : Bool) (k : Nat), f_r14_Rise_l3 x fuel y k = f_r14_Rise_l2 x fuel y k
  | 0, y, k => rfl
  | fuel + 1, y, k => by
    rw [f_r14_Rise_l3, f_r14_Rise_l2]
    simp only [rise_l3 x fuel]
theorem rise_l2 (x : Top) (hb : x.fParts.length ≤ 1000000) (y : Bool) : ∀ (t : List Int) (p : Option Int) (k fuel : Nat), x.fParts.drop k = t → t.length < fuel → (k = 0 → p = none) → (0 < k → x.fParts[k - 1]? = p ∧ p ≠ none) → ∃ z, f_r14_Rise_l2 x fuel y k = some (if (t.all okn && up ltI p t) = true then .go (y, z) else .ret false)
  | [], p, k, fuel + 1, h, hf, h0, h1 => by
    have := nil_drop h
    refine ⟨k, ?_⟩
    rw [f_r14_Rise_l2, if_neg (by omega)]
    cases p <;> rfl
  | n :: t, p, k, fuel + 1, h, hf, h0, h1 => by
    obtain ⟨g1, g2, g3⟩ := at_drop h
    rw [List.length_cons] at hf
    obtain ⟨z, hz⟩ := rise_l2 x hb y t (some n) (k + 1) fuel g2 (by omega) (fun h => absurd h (by omega)) (fun _ => ⟨g1, by simp⟩)
    rw [f_r14_Rise_l2, if_pos (by omega), g1]
    simp only [Option.bind_some]
    rw [List.all_cons]
    by_cases c1 : n < 0
    · refine ⟨0, ?_⟩
      rw [if_pos c1, if_neg]
      simp only [okn, Bool.and_eq_true, decide_eq_true_eq]
      omega
    by_cases c2 : n > 2147483647
    · refine ⟨0, ?_⟩
      rw [if_neg c1, if_pos c2, if_neg]
      simp only [okn, Bool.and_eq_true, decide_eq_true_eq]
      omega
    rw [if_neg c1, if_neg c2]
    have ho : okn n = true := by simp only [okn, Bool.and_eq_true, decide_eq_true_eq]; omega
    rcases Nat.eq_zero_or_pos k with hk | hk
    · obtain rfl := h0 hk
      refine ⟨z, ?_⟩
      rw [if_neg (by omega), if_pos (by omega), hz, ho, Bool.true_and, show up ltI none (n :: t) = up ltI (some n) t from rfl]
    · obtain ⟨e1, e2⟩ := h1 hk
      rw [if_pos (by omega), if_pos (by omega), if_pos (by omega), show ((k : Int) - 1).toNat = k - 1 by omega, e1]
      cases p with
      | none => exact absurd rfl e2
      | some q =>
        simp only [Option.bind_some]
        by_cases hc : q < n
        · refine ⟨z, ?_⟩
          rw [if_neg (by omega), if_pos (by omega), hz, ho, Bool.true_and]
          simp only [up, ltI, hc, decide_true, Bool.true_and]
        · refine ⟨0, ?_⟩
          rw [if_pos (by omega), if_neg]
          simp only [up, ltI, hc, decide_false, Bool.false_and, Bool.and_false, Bool.false_eq_true, not_false_eq_true]
theorem rise_l1 (a0 : List Top) (hb : a0.length ≤ 1000000) (hw : ∀ t, t ∈ a0 → t.fParts.length ≤ 1000000 ∧ t.fName.length ≤ 1000000) (y : Bool) : ∀ (t : List Top) (p : Option Top) (k fuel : Nat), a0.drop k = t → t.length < fuel → (k = 0 → p = none) → (0 < k → a0[k - 1]? = p ∧ p ≠ none) → ∃ z, f_r14_Rise_l1 a0 fuel y k = some (if (t.all oktB && up Op.bytesLess (p.map (·.fName)) (t.map (·.fName))) = true then .go (y, z) else .ret false)
  | [], p, k, fuel + 1, h, hf, h0, h1 => by
    have := nil_drop h
    refine ⟨k, ?_⟩
    rw [f_r14_Rise_l1, if_neg (by omega)]
    cases p <;> rfl
  | x :: t, p, k, fuel + 1, h, hf, h0, h1 => by
    obtain ⟨g1, g2, g3⟩ := at_drop h
    have hx := hw x (List.mem_of_getElem? g1)
    rw [List.length_cons] at hf
    obtain ⟨z, hz⟩ := rise_l1 a0 hb hw y t (some x) (k + 1) fuel g2 (by omega) (fun h => absurd h (by omega)) (fun _ => ⟨g1, by simp⟩)
    rw [f_r14_Rise_l1, if_pos (by omega), g1, Option.bind_some]
    rw [List.all_cons, List.map_cons]
    by_cases c1 : (x.fName.length : Int) < 1
    · refine ⟨0, ?_⟩
      have : x.fName = [] := List.length_eq_zero_iff.1 (by omega)
      rw [if_pos c1, if_neg]
      simp [oktB, this]
    by_cases c2 : (x.fName.length : Int) > 32767
    · refine ⟨0, ?_⟩
      rw [if_neg c1, if_pos c2, if_neg]
      simp [oktB, show ¬ x.fName.length ≤ 32767 by omega]
    by_cases c3 : (x.fParts.length : Int) < 1
    · refine ⟨0, ?_⟩
      have : x.fParts = [] := List.length_eq_zero_iff.1 (by omega)
      rw [if_neg c1, if_neg c2, if_pos c3, if_neg]
      simp [oktB, okps, this]
    rw [if_neg c1, if_neg c2, if_neg c3]
    have hne : x.fName.isEmpty = false := by cases hh : x.fName with | nil => rw [hh] at c1; simp at c1 | cons c u => rfl
    have hnp : x.fParts.isEmpty = false := by cases hh : x.fParts with | nil => rw [hh] at c3; simp at c3 | cons c u => rfl
    have ho : oktB x = (x.fParts.all okn && up ltI none x.fParts) := by
      simp [oktB, okps, hne, hnp, show x.fName.length ≤ 32767 by omega]
    obtain ⟨z2, hz2⟩ := rise_l2 x hx.1 y x.fParts none 0 (((x.fParts.length : Int)).toNat + 1) rfl (by omega) (fun _ => rfl) (fun h => absurd h (by omega))
    rw [ho]
    rcases Nat.eq_zero_or_pos k with hk | hk
    · obtain rfl := h0 hk
      rw [if_neg (by omega), rise_l3, hz2]
      cases hq : (x.fParts.all okn && up ltI none x.fParts) with
      | false => exact ⟨0, by simp⟩
      | true =>
        refine ⟨z, ?_⟩
        rw [if_pos rfl, Option.bind_some, Bool.true_and]
        simp only
        rw [if_pos (by omega), hz, show (none : Option Top).map (·.fName) = none from rfl, show up Op.bytesLess none (x.fName :: t.map (·.fName)) = up Op.bytesLess (some x.fName) (t.map (·.fName)) from rfl]
        rfl
    · obtain ⟨e1, e2⟩ := h1 hk
      rw [if_pos (by omega), if_pos (by omega), if_pos (by omega), show ((k : Int) - 1).toNat = k - 1 by omega, e1]
      cases p with
      | none => exact absurd rfl e2
      | some q =>
        rw [Option.bind_some]
        rw [less_eq _ _ (hw q (List.mem_of_getElem? e1)).2]
        rw [Option.bind_some, show (some q).map (·.fName) = some q.fName from rfl, show up Op.bytesLess (some q.fName) (x.fName :: t.map (·.fName)) = (Op.bytesLess q.fName x.fName && up Op.bytesLess (some x.fName) (t.map (·.fName))) from rfl]
        cases hc : Op.bytesLess q.fName x.fName with
        | false => exact ⟨0, by simp⟩
        | true =>
          rw [if_pos rfl, hz2]
          cases hq : (x.fParts.all okn && up ltI none x.fParts) with
          | false => exact ⟨0, by simp⟩
          | true =>
            refine ⟨z, ?_⟩
            rw [if_pos rfl, Option.bind_some, Bool.true_and]
            simp only
            rw [if_pos (by omega), hz]
            rfl
theorem rise_eq (a0 : List Top) (hb : a0.length ≤ 1000000) (hw : ∀ t, t ∈ a0 → t.fParts.length ≤ 1000000 ∧ t.fName.length ≤ 1000000) : f_r14_Rise a0 = some (okts a0) := by
  unfold f_r14_Rise okts
  obtain ⟨z, hz⟩ := rise_l1 a0 hb hw false a0 none 0 (((a0.length : Int)).toNat + 1) rfl (by omega) (fun _ => rfl) (fun h => absurd h (by omega))
  rw [show (none : Option Top).map (·.fName) = none from rfl] at hz
  rw [hz]
  cases (a0.all oktB && up Op.bytesLess none (a0.map (·.fName))) <;> rfl
end Go.Proofs.Ytdlpmcbglmgpiaa.Sl
