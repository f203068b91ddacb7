/- JournalPuts: for every input the law returns true, and its arguments read behind the call as they did before. -/
import Derived.Maps.OwnSet
import Derived.StringKeys
import Derived.Lib.SliceRun
import Derived.Shelf.SlIter.Nil
import Derived.Shelf.SortM.Plain
import Derived.Shelf.SortM.SortNone
import Derived.Ground.GgzProg
import Derived.Ground.SlgmProg
import Derived.Test.YtlhgogjcaegehaaProg
import Derived.Sort.KeysCollected
import Derived.Test.YtlhgogjcaegehaaRows
import Derived.WalkKit
import Derived.ProofKit
import Derived.OpenShut
import Derived.ShutString
import Derived.ChangeOld
import Derived.Below
import Derived.SizedLaws
import Derived.Test.YtlhgogjcaegehaaK2
namespace Go.Proofs.Ytlhgogjcaegehaa.Sl
open Go.RowKit
set_option linter.unusedVariables false
set_option linter.unusedSimpArgs false
def pTopic : Pr Top := pText.bind fun nm => (pRow 4 4 (pInt 4)).bind fun ps => .ret ⟨nm, ps⟩
def encT (t : Top) : List UInt8 := (be (t.fName.length : Int) 2 ++ t.fName) ++ (be (t.fParts.length : Int) 4 ++ encs (fun n => be n 4) t.fParts)
def okT (t : Top) : Prop := fits (t.fName.length : Int) 2 = true ∧ fits (t.fParts.length : Int) 4 = true ∧ ∀ n, n ∈ t.fParts → fits n 4 = true
theorem Sp_parts : Sp (pRow 4 4 (pInt 4)) (fun l => be (l.length : Int) 4 ++ encs (fun n => be n 4) l) (fun l => fits (l.length : Int) 4 = true ∧ ∀ n, n ∈ l → fits n 4 = true) := Sp_row 4 4 (by decide) (by decide) (Sp_int 4 (by decide) (by decide)) (fun x _ => by rw [be_length]; decide)
theorem Sp_topic : Sp pTopic encT okT := by
  refine ⟨fun s q a r hq h => ?_, fun s t q a hq ha h => ?_⟩
  · obtain ⟨k, q1, h1, h⟩ := Pr.bind_ok h
    obtain ⟨v, q2, h2, h⟩ := Pr.bind_ok h
    injection h with h
    obtain ⟨rfl, rfl⟩ := Prod.mk.inj h
    obtain ⟨a1, a2, a3, a4, a5⟩ := Sp_text.spell _ _ _ _ hq h1
    obtain ⟨b1, b2, b3, b4, b5⟩ := Sp_parts.spell _ _ _ _ a2 h2
    exact ⟨by omega, b2, by simp only [encT, List.length_append] at *; omega, by rw [b4, a4]; simp only [encT, List.append_assoc], a5.1, b5⟩
  · obtain ⟨a1, a2, a3⟩ := ha
    have hl := congrArg List.length h
    rw [encT, List.append_assoc] at h
    have g1 := Sp_text.back _ _ _ _ hq ⟨a1, rfl⟩ h
    have h := drop_step h
    have g2 := Sp_parts.back _ _ _ _ (by simp only [encT, List.length_drop, List.length_append, be_length] at *; omega) ⟨a2, a3⟩ h
    rw [pTopic, Pr.bind_of g1, Pr.bind_of g2]
    simp only [Pr.ret, encT, List.length_append, Nat.add_assoc]
theorem encT_ge (t : Top) (h : okT t) : 6 ≤ (encT t).length := by simp only [encT, List.length_append, be_length]; omega
theorem Sp_topics : Sp (pRow 4 6 pTopic) (fun l => be (l.length : Int) 4 ++ encs encT l) (fun l => fits (l.length : Int) 4 = true ∧ ∀ t, t ∈ l → okT t) := Sp_row 4 6 (by decide) (by decide) Sp_topic encT_ge
theorem topics_l2 (n : Int) (s : List UInt8) (hn : n ≤ 1000000) : ∀ (m fuel k : Nat) (acc : List Int) (q : Nat), ((k + m : Nat) : Int) = n → m < fuel → q + 4 * m ≤ s.length → acc.length = k →
    ∃ l, pRep (pInt 4) m s q = .ok (l, q + 4 * m) ∧ f_value_Topics_l2 n fuel k acc ⟨s.drop q, q, 0⟩ = some (k + m, acc ++ l, ⟨s.drop (q + 4 * m), q + 4 * m, 0⟩)
  | 0, fuel + 1, k, acc, q, h1, h2, h3, h4 => ⟨[], rfl, by rw [f_value_Topics_l2, if_neg (by omega), List.append_nil]; rfl⟩
  | m + 1, fuel + 1, k, acc, q, h1, h2, h3, h4 => by
    rw [f_value_Topics_l2, if_pos (by omega)]
    rcases Q4.run s q (by omega) with ⟨e, st, p1, g1, x1, y1⟩ | ⟨a, r, p1, g1, n1, l1⟩
    · unfold pInt at p1
      rw [if_neg (by omega)] at p1
      exact nomatch p1
    · have hr : r = q + 4 := by
        unfold pInt at p1
        rw [if_neg (by omega)] at p1
        injection p1 with p1
        exact (Prod.mk.inj p1).2.symm
      subst hr
      rw [g1]
      simp only [Option.bind_some]
      rw [if_pos (by omega), if_pos (by omega)]
      obtain ⟨l, e1, e2⟩ := topics_l2 n s hn m fuel (k + 1) (acc ++ [a]) (q + 4) (by omega) (by omega) (by omega) (by rw [List.length_append, h4]; rfl)
      have eq : q + 4 + 4 * m = q + 4 * (m + 1) := by omega
      rw [eq] at e1 e2
      refine ⟨a :: l, ?_, ?_⟩
      · rw [pRep, Pr.bind_of p1, Pr.bind_of e1]
        rfl
      · rw [e2, List.append_assoc]
        rw [show k + 1 + m = k + (m + 1) by omega]
        rfl
theorem topics_l1 (n : Int) (s : List UInt8) (hs : s.length ≤ 1000000) (hn : n ≤ 1000000) : ∀ (m fuel k : Nat) (acc : List Top) (q : Nat), ((k + m : Nat) : Int) = n → m < fuel → q ≤ s.length → acc.length = k →
    (∃ (e : Int) (st : I), pRep pTopic m s q = .error e ∧ f_value_Topics_l1 n fuel [] acc k ⟨s.drop q, q, 0⟩ = some (.ret ([], st)) ∧ st.err = e ∧ st.err ≠ 0) ∨
    (∃ l r, pRep pTopic m s q = .ok (l, r) ∧ f_value_Topics_l1 n fuel [] acc k ⟨s.drop q, q, 0⟩ = some (.go ([], acc ++ l, k + m, ⟨s.drop r, r, 0⟩)) ∧ q ≤ r ∧ r ≤ s.length)
  | 0, fuel + 1, k, acc, q, h1, h2, h3, h4 => .inr ⟨[], q, rfl, by rw [f_value_Topics_l1, if_neg (by omega), List.append_nil]; rfl, Nat.le_refl _, h3⟩
  | m + 1, fuel + 1, k, acc, q, h1, h2, h3, h4 => by
    rw [f_value_Topics_l1, if_pos (by omega)]
    have died : ∀ (st : I) (t : List UInt8), st.err ≠ 0 → ((gCount st 4 4).bind fun (x24, st25) => (f_value_Topics_l2 x24 ((x24).toNat + 1) 0 [] st25).bind fun (k57, y58, st61) => if (acc.length + 1) * 40 ≤ 140737488355328 then ((gErr st61).bind fun (x66, st67) => if x66 = 0 then (if -9223372036854775808 ≤ ((k : Int) + 1) ∧ ((k : Int) + 1) ≤ 9223372036854775807 then (f_value_Topics_l1 n fuel [] (acc ++ [(⟨t, y58⟩ : Top)]) (k + 1) st67) else none) else (some (Lp.ret ([], st67)))) else none) = some (Lp.ret ([], st)) := by
      intro st t h
      rw [gCount_d h (by decide) (by decide)]
      simp only [Option.bind_some]
      rw [show (0 : Int).toNat + 1 = 1 from rfl, f_value_Topics_l2, if_neg (by decide)]
      simp only [Option.bind_some, gErr_eq]
      rw [if_pos (by omega), if_neg h]
    rcases QT.run s q h3 with ⟨e, st, p1, g1, x1, y1⟩ | ⟨nm, q1, p1, g1, n1, l1⟩
    · left
      refine ⟨e, st, by rw [pRep, Pr.bind_err (show pTopic s q = .error e from Pr.bind_err p1)], ?_, x1, y1⟩
      rw [g1]
      simp only [Option.bind_some]
      exact died st [] y1
    rw [g1]
    simp only [Option.bind_some]
    rcases (Q_count 4 4 (by decide) (by decide) 4 4 rfl rfl (by decide)).run s q1 l1 with ⟨e, st, p2, g2, x2, y2⟩ | ⟨c, q2, p2, g2, n2, l2⟩
    · left
      refine ⟨e, st, by rw [pRep, Pr.bind_err]; rw [pTopic, Pr.bind_of p1, Pr.bind_err]; rw [pRow, Pr.bind_err p2], ?_, x2, y2⟩
      have := died st nm y2
      rw [gCount_d y2 (by decide) (by decide)] at this
      rw [g2]
      exact this
    obtain ⟨c1, c2, c3, c4, c5, c6⟩ := pCount_ok (by decide) (by decide) l1 p2
    have c2 := c2 (by decide)
    rw [g2]
    simp only [Option.bind_some]
    obtain ⟨ps, e1, e2⟩ := topics_l2 c s (by omega) c.toNat (c.toNat + 1) 0 [] q2 (by omega) (by omega) (by omega) rfl
    rw [e2]
    simp only [Option.bind_some, gErr_eq, if_true]
    rw [if_pos (by omega), if_pos (by omega), List.nil_append]
    have ht : pTopic s q = .ok (⟨nm, ps⟩, q2 + 4 * c.toNat) := by
      rw [pTopic, Pr.bind_of p1, Pr.bind_of (a := ps) (r := q2 + 4 * c.toNat) (by rw [pRow, Pr.bind_of p2, e1])]
      rfl
    rw [pRep, Pr.bind_of ht]
    rcases topics_l1 n s hs hn m fuel (k + 1) (acc ++ [⟨nm, ps⟩]) (q2 + 4 * c.toNat) (by omega) (by omega) (by omega) (by rw [List.length_append, h4]; rfl) with ⟨e, st, r1, r2, r3, r4⟩ | ⟨l, r, r1, r2, r3, r4⟩
    · exact .inl ⟨e, st, by rw [Pr.bind_err r1], r2, r3, r4⟩
    · refine .inr ⟨⟨nm, ps⟩ :: l, r, by rw [Pr.bind_of r1]; rfl, ?_, by omega, r4⟩
      rw [r2, List.append_assoc, show k + 1 + m = k + (m + 1) by omega]
      rfl
theorem B_topics : CB f_value_Topics (pRow 4 6 pTopic) [] := by
  refine ⟨fun st h => ?_, fun s q hs hq => ?_⟩
  · unfold f_value_Topics
    rw [gCount_d h (by decide) (by decide)]
    simp only [Option.bind_some]
    rw [show (0 : Int).toNat + 1 = 1 from rfl, f_value_Topics_l1, if_neg (by decide)]
    rfl
  · unfold f_value_Topics
    rcases (Q_count 4 6 (by decide) (by decide) 4 6 rfl rfl (by decide)).run s q hq with ⟨e, st, p1, g1, x1, y1⟩ | ⟨c, q1, p1, g1, n1, l1⟩
    · refine .inl ⟨e, st, Pr.bind_err p1, ?_, x1, y1⟩
      rw [g1]
      simp only [Option.bind_some]
      rw [show (0 : Int).toNat + 1 = 1 from rfl, f_value_Topics_l1, if_neg (by decide)]
      rfl
    · obtain ⟨c1, c2, c3, c4, c5, c6⟩ := pCount_ok (by decide) (by decide) hq p1
      have c2 := c2 (by decide)
      rw [g1, pRow, Pr.bind_of p1]
      simp only [Option.bind_some]
      rcases topics_l1 c s hs (by omega) c.toNat (c.toNat + 1) 0 [] q1 (by omega) (by omega) l1 rfl with ⟨e, st, r1, r2, r3, r4⟩ | ⟨l, r, r1, r2, r3, r4⟩
      · exact .inl ⟨e, st, r1, by rw [r2]; rfl, r3, r4⟩
      · refine .inr ⟨l, r, r1, ?_, by omega, r4⟩
        rw [r2, List.nil_append]
        rfl
end Go.Proofs.Ytlhgogjcaegehaa.Sl
namespace Go.Proofs.Ytlhgogjcaegehaa.Sl
open Go.RowKit
set_option linter.unusedVariables false
set_option linter.unusedSimpArgs false
theorem at_drop {α : Type} {l : List α} {k : Nat} {x : α} {t : List α} (h : l.drop k = x :: t) : l[k]? = some x ∧ l.drop (k + 1) = t ∧ l.length = k + 1 + t.length := by
  have hl := congrArg List.length h
  rw [List.length_drop, List.length_cons] at hl
  refine ⟨?_, ?_, by omega⟩
  · have := congrArg (fun z => z[0]?) h
    simpa using this
  · rw [← List.drop_drop, h]
    rfl
theorem nil_drop {α : Type} {l : List α} {k : Nat} (h : l.drop k = []) : l.length ≤ k := List.drop_eq_nil_iff.1 h
def up {α : Type} (lt : α → α → Bool) : Option α → List α → Bool
  | _, [] => true
  | none, x :: t => up lt (some x) t
  | some p, x :: t => lt p x && up lt (some x) t
def ltI (a b : Int) : Bool := decide (a < b)
theorem rint_loop (a0 : List Int) (hb : a0.length ≤ 140737488355328) : ∀ (t : List Int) (p : Int) (k fuel : Nat) (y : Bool), a0.drop k = p :: t → t.length < fuel → ∃ z, f_value_risingint_l1 a0 fuel y ((k : Int) + 1) = some (if up ltI (some p) t = true then .go (y, z) else .ret false)
  | [], p, k, fuel + 1, y, h, hf => by
    obtain ⟨h1, h2, h3⟩ := at_drop h
    refine ⟨(k : Int) + 1, ?_⟩
    rw [f_value_risingint_l1, if_neg (by simp only [List.length_nil] at h3; omega)]
    rfl
  | x :: t, p, k, fuel + 1, y, h, hf => by
    obtain ⟨h1, h2, h3⟩ := at_drop h
    obtain ⟨g1, g2, g3⟩ := at_drop h2
    rw [List.length_cons] at hf h3
    obtain ⟨z, hz⟩ := rint_loop a0 hb t x (k + 1) fuel y h2 (by omega)
    rw [f_value_risingint_l1, if_pos (by omega), if_pos (by omega), if_pos (by omega), show ((k : Int) + 1 - 1).toNat = k by omega, h1]
    rw [Option.bind_some]
    rw [if_pos (by omega), show ((k : Int) + 1).toNat = k + 1 by omega, g1]
    rw [Option.bind_some]
    by_cases hc : p < x
    · rw [if_neg (by omega), if_pos (by omega)]
      refine ⟨z, ?_⟩
      rw [show ((k : Int) + 1 + 1) = ((k + 1 : Nat) : Int) + 1 by omega, hz]
      simp only [up, ltI, hc, decide_true, Bool.true_and]
    · rw [if_pos (by omega)]
      refine ⟨0, ?_⟩
      simp only [up, ltI, hc, decide_false, Bool.false_and, Bool.false_eq_true, if_false]
theorem rint_eq (a0 : List Int) (hb : a0.length ≤ 140737488355328) : f_value_risingint a0 = some (up ltI none a0) := by
  unfold f_value_risingint
  cases a0 with
  | nil => rfl
  | cons x t =>
    obtain ⟨z, hz⟩ := rint_loop (x :: t) hb t x 0 ((((x :: t).length : Int) - 1).toNat + 1) false rfl (by simp only [List.length_cons]; omega)
    rw [show (((0 : Nat) : Int) + 1) = 1 from rfl] at hz
    rw [hz]
    simp only [up]
    cases up ltI (some x) t <;> rfl
theorem rstr_loop (a0 : List (List UInt8)) (hb : a0.length ≤ 140737488355328) : ∀ (t : List (List UInt8)) (p : List UInt8) (k fuel : Nat) (y : Bool), a0.drop k = p :: t → t.length < fuel → ∃ z, f_value_risingstring_l1 a0 fuel y ((k : Int) + 1) = some (if up Op.bytesLess (some p) t = true then .go (y, z) else .ret false)
  | [], p, k, fuel + 1, y, h, hf => by
    obtain ⟨h1, h2, h3⟩ := at_drop h
    refine ⟨(k : Int) + 1, ?_⟩
    rw [f_value_risingstring_l1, if_neg (by simp only [List.length_nil] at h3; omega)]
    rfl
  | x :: t, p, k, fuel + 1, y, h, hf => by
    obtain ⟨h1, h2, h3⟩ := at_drop h
    obtain ⟨g1, g2, g3⟩ := at_drop h2
    rw [List.length_cons] at hf h3
    obtain ⟨z, hz⟩ := rstr_loop a0 hb t x (k + 1) fuel y h2 (by omega)
    rw [f_value_risingstring_l1, if_pos (by omega), if_pos (by omega), if_pos (by omega), show ((k : Int) + 1 - 1).toNat = k by omega, h1]
    simp only [Option.bind_some]
    rw [if_pos (by omega), show ((k : Int) + 1).toNat = k + 1 by omega, g1]
    simp only [Option.bind_some]
    by_cases hc : Op.bytesLess p x = true
    · rw [if_pos hc, if_pos (by omega)]
      refine ⟨z, ?_⟩
      rw [show ((k : Int) + 1 + 1) = ((k + 1 : Nat) : Int) + 1 by omega, hz]
      simp only [up, hc, Bool.true_and]
    · rw [if_neg hc]
      refine ⟨0, ?_⟩
      simp only [up, hc, Bool.false_and, Bool.false_eq_true, if_false]
theorem rstr_eq (a0 : List (List UInt8)) (hb : a0.length ≤ 140737488355328) : f_value_risingstring a0 = some (up Op.bytesLess none a0) := by
  unfold f_value_risingstring
  cases a0 with
  | nil => rfl
  | cons x t =>
    obtain ⟨z, hz⟩ := rstr_loop (x :: t) hb t x 0 ((((x :: t).length : Int) - 1).toNat + 1) false rfl (by simp only [List.length_cons]; omega)
    rw [show (((0 : Nat) : Int) + 1) = 1 from rfl] at hz
    rw [hz]
    simp only [up]
    cases up Op.bytesLess (some x) t <;> rfl
def okn (n : Int) : Bool := decide (0 ≤ n) && decide (n ≤ 2147483647)
def okps (l : List Int) : Bool := l.all okn && up ltI none l && !l.isEmpty
def oktB (t : Top) : Bool := !t.fName.isEmpty && decide (t.fName.length ≤ 32767) && okps t.fParts
def okts (l : List Top) : Bool := l.all oktB && up Op.bytesLess none (l.map (·.fName))
theorem parts_loop (y : Bool) : ∀ l : List Int, (∀ n, n ∈ l → wI n) → f_value_parts_l1 l y = some (if l.all okn = true then .go y else .ret false)
  | [], h => rfl
  | n :: l, h => by
    have hn := h n (.head _)
    rw [f_value_parts_l1, gFits_eq _ _ hn, fits_4, List.all_cons]
    by_cases h1 : n < 0
    · have : okn n = false := by unfold okn; simp; omega
      rw [if_pos h1, this]
      rfl
    · rw [if_neg h1, Option.bind_some]
      by_cases h2 : n ≤ 2147483647
      · have : okn n = true := by unfold okn; simp; omega
        rw [if_pos (by simp; omega), parts_loop y l (fun m hm => h m (.tail _ hm)), this, Bool.true_and]
      · have : okn n = false := by unfold okn; simp; omega
        rw [if_neg (by simp; omega), this]
        rfl
theorem parts_eq (l : List Int) (hw : wL wI l) : f_value_parts l = some (okps l) := by
  unfold f_value_parts okps
  rw [parts_loop false l hw.2]
  cases hall : l.all okn with
  | false => rfl
  | true =>
    simp only [if_true, Option.bind_some, Bool.true_and]
    cases l with
    | nil => rfl
    | cons x t =>
      rw [if_pos (by simp only [List.length_cons]; omega), rint_eq _ (by have := hw.1; omega)]
      simp
theorem vtopics_loop (y : Bool) : ∀ (l : List Top) (acc : List (List UInt8)), (∀ t, t ∈ l → wf_Top t) → acc.length + l.length ≤ 1000000 → f_value_topics_l1 l y acc = some (if l.all oktB = true then .go (y, acc ++ l.map (·.fName)) else .ret false)
  | [], acc, h, hl => by simp [f_value_topics_l1]
  | t :: l, acc, h, hl => by
    have ht := h t (.head _)
    rw [List.length_cons] at hl
    rw [f_value_topics_l1, parts_eq _ ht.2, List.all_cons]
    by_cases h1 : t.fName = []
    · have : oktB t = false := by simp [oktB, h1]
      rw [if_pos h1, this]
      rfl
    · rw [if_neg h1]
      by_cases h2 : (t.fName.length : Int) > 32767
      · have : oktB t = false := by simp [oktB, show ¬ t.fName.length ≤ 32767 by omega]
        rw [if_pos h2, this]
        rfl
      · rw [if_neg h2, Option.bind_some]
        have hne : t.fName.isEmpty = false := by cases hh : t.fName with | nil => exact absurd hh h1 | cons c u => rfl
        have ho : oktB t = okps t.fParts := by simp [oktB, hne, show t.fName.length ≤ 32767 by omega]
        rw [ho]
        cases hp : okps t.fParts with
        | false => rfl
        | true =>
          rw [if_pos rfl, if_pos (by omega), vtopics_loop y l _ (fun u hu => h u (.tail _ hu)) (by rw [List.length_append]; simp only [List.length_cons, List.length_nil]; omega), Bool.true_and, List.map_cons, List.append_assoc]
          rfl
theorem vtopics_eq (l : List Top) (hw : ∀ t, t ∈ l → wf_Top t) (hl : l.length ≤ 1000000) : f_value_topics l = some (okts l) := by
  unfold f_value_topics okts
  rw [vtopics_loop false l [] hw (by simpa using hl)]
  cases hall : l.all oktB with
  | false => rfl
  | true =>
    simp only [if_true, Option.bind_some, Bool.true_and, List.nil_append]
    rw [rstr_eq _ (by rw [List.length_map]; omega)]
    rfl
theorem less_loop (a b : List UInt8) (ha : a.length ≤ 1000000) (y : Bool) : ∀ (u v : List UInt8) (k fuel : Nat), a.drop k = u → b.drop k = v → v.length < fuel → k ≤ a.length → k ≤ b.length → (∃ r, f_r14_less_l1 a b fuel y k = some (.ret r) ∧ r = Op.bytesLess u v) ∨ (∃ z, f_r14_less_l1 a b fuel y k = some (.go z) ∧ Op.bytesLess u v = decide (a.length < b.length))
  | [], v, k, fuel + 1, hu, hv, hf, h1, h2 => by
    have := nil_drop hu
    right
    refine ⟨(y, k), by rw [f_r14_less_l1, if_neg (by omega)], ?_⟩
    cases v with
    | nil =>
      have := nil_drop hv
      simp [Op.bytesLess]
      omega
    | cons c v =>
      have := (at_drop hv).2.2
      simp [Op.bytesLess]
      omega
  | c :: u, [], k, fuel + 1, hu, hv, hf, h1, h2 => by
    have g1 := nil_drop hv
    have g2 := (at_drop hu).2.2
    right
    refine ⟨(y, k), by rw [f_r14_less_l1, if_pos (by omega), if_neg (by omega)], ?_⟩
    simp [Op.bytesLess]
    omega
  | c :: u, d :: v, k, fuel + 1, hu, hv, hf, h1, h2 => by
    obtain ⟨u1, u2, u3⟩ := at_drop hu
    obtain ⟨v1, v2, v3⟩ := at_drop hv
    rw [List.length_cons] at hf
    rw [f_r14_less_l1, if_pos (by omega), if_pos (by omega), u1, v1]
    simp only [Option.bind_some]
    by_cases hc : (c.toNat : Int) = (d.toNat : Int)
    · have hcd : c = d := UInt8.toNat_inj.1 (by omega)
      rw [if_pos hc, if_pos (by omega)]
      have := less_loop a b ha y u v (k + 1) fuel u2 v2 (by omega) (by omega) (by omega)
      have hb : Op.bytesLess (c :: u) (d :: v) = Op.bytesLess u v := by
        rw [hcd]
        simp [Op.bytesLess]
      rw [hb]
      exact this
    · rw [if_neg hc]
      left
      have hcd : c ≠ d := fun h => hc (by rw [h])
      by_cases hl : (c.toNat : Int) < (d.toNat : Int)
      · refine ⟨true, by rw [if_pos hl], ?_⟩
        have : c < d := UInt8.lt_iff_toNat_lt.2 (by omega)
        simp [Op.bytesLess, this]
      · refine ⟨false, by rw [if_neg hl], ?_⟩
        have : ¬ c < d := fun h => hl (by have := UInt8.lt_iff_toNat_lt.1 h; omega)
        simp [Op.bytesLess, this, hcd]
theorem less_eq (a b : List UInt8) (ha : a.length ≤ 1000000) : f_r14_less a b = some (Op.bytesLess a b) := by
  unfold f_r14_less
  rcases less_loop a b ha false a b 0 (((b.length : Int)).toNat + 1) rfl rfl (by omega) (Nat.zero_le _) (Nat.zero_le _) with ⟨r, h1, h2⟩ | ⟨z, h1, h2⟩
  · rw [show ((0 : Nat)) = 0 from rfl] at h1
    rw [h1, h2]
    rfl
  · rw [h1, h2]
    simp only [Option.bind_some]
    by_cases h : a.length < b.length
    · rw [if_pos (by omega)]
      simp [h]
    · rw [if_neg (by omega)]
      simp [h]
theorem rise_l3 (x : Top) : ∀ (fuel : Nat) (y : Bool) (k : Nat), f_r14_Rise_l3 x fuel y k = f_r14_Rise_l2 x fuel y k
  | 0, y, k => rfl
  | fuel + 1, y, k => by
    rw [f_r14_Rise_l3, f_r14_Rise_l2]
    simp only [rise_l3 x fuel]
theorem rise_l2 (x : Top) (hb : x.fParts.length ≤ 1000000) (y : Bool) : ∀ (t : List Int) (p : Option Int) (k fuel : Nat), x.fParts.drop k = t → t.length < fuel → (k = 0 → p = none) → (0 < k → x.fParts[k - 1]? = p ∧ p ≠ none) → ∃ z, f_r14_Rise_l2 x fuel y k = some (if (t.all okn && up ltI p t) = true then .go (y, z) else .ret false)
  | [], p, k, fuel + 1, h, hf, h0, h1 => by
    have := nil_drop h
    refine ⟨k, ?_⟩
    rw [f_r14_Rise_l2, if_neg (by omega)]
    cases p <;> rfl
  | n :: t, p, k, fuel + 1, h, hf, h0, h1 => by
    obtain ⟨g1, g2, g3⟩ := at_drop h
    rw [List.length_cons] at hf
    obtain ⟨z, hz⟩ := rise_l2 x hb y t (some n) (k + 1) fuel g2 (by omega) (fun h => absurd h (by omega)) (fun _ => ⟨g1, by simp⟩)
    rw [f_r14_Rise_l2, if_pos (by omega), g1]
    simp only [Option.bind_some]
    rw [List.all_cons]
    by_cases c1 : n < 0
    · refine ⟨0, ?_⟩
      rw [if_pos c1, if_neg]
      simp only [okn, Bool.and_eq_true, decide_eq_true_eq]
      omega
    by_cases c2 : n > 2147483647
    · refine ⟨0, ?_⟩
      rw [if_neg c1, if_pos c2, if_neg]
      simp only [okn, Bool.and_eq_true, decide_eq_true_eq]
      omega
    rw [if_neg c1, if_neg c2]
    have ho : okn n = true := by simp only [okn, Bool.and_eq_true, decide_eq_true_eq]; omega
    rcases Nat.eq_zero_or_pos k with hk | hk
    · obtain rfl := h0 hk
      refine ⟨z, ?_⟩
      rw [if_neg (by omega), if_pos (by omega), hz, ho, Bool.true_and, show up ltI none (n :: t) = up ltI (some n) t from rfl]
    · obtain ⟨e1, e2⟩ := h1 hk
      rw [if_pos (by omega), if_pos (by omega), if_pos (by omega), show ((k : Int) - 1).toNat = k - 1 by omega, e1]
      cases p with
      | none => exact absurd rfl e2
      | some q =>
        simp only [Option.bind_some]
        by_cases hc : q < n
        · refine ⟨z, ?_⟩
          rw [if_neg (by omega), if_pos (by omega), hz, ho, Bool.true_and]
          simp only [up, ltI, hc, decide_true, Bool.true_and]
        · refine ⟨0, ?_⟩
          rw [if_pos (by omega), if_neg]
          simp only [up, ltI, hc, decide_false, Bool.false_and, Bool.and_false, Bool.false_eq_true, not_false_eq_true]
theorem rise_l1 (a0 : List Top) (hb : a0.length ≤ 1000000) (hw : ∀ t, t ∈ a0 → t.fParts.length ≤ 1000000 ∧ t.fName.length ≤ 1000000) (y : Bool) : ∀ (t : List Top) (p : Option Top) (k fuel : Nat), a0.drop k = t → t.length < fuel → (k = 0 → p = none) → (0 < k → a0[k - 1]? = p ∧ p ≠ none) → ∃ z, f_r14_Rise_l1 a0 fuel y k = some (if (t.all oktB && up Op.bytesLess (p.map (·.fName)) (t.map (·.fName))) = true then .go (y, z) else .ret false)
  | [], p, k, fuel + 1, h, hf, h0, h1 => by
    have := nil_drop h
    refine ⟨k, ?_⟩
    rw [f_r14_Rise_l1, if_neg (by omega)]
    cases p <;> rfl
  | x :: t, p, k, fuel + 1, h, hf, h0, h1 => by
    obtain ⟨g1, g2, g3⟩ := at_drop h
    have hx := hw x (List.mem_of_getElem? g1)
    rw [List.length_cons] at hf
    obtain ⟨z, hz⟩ := rise_l1 a0 hb hw y t (some x) (k + 1) fuel g2 (by omega) (fun h => absurd h (by omega)) (fun _ => ⟨g1, by simp⟩)
    rw [f_r14_Rise_l1, if_pos (by omega), g1, Option.bind_some]
    rw [List.all_cons, List.map_cons]
    by_cases c1 : (x.fName.length : Int) < 1
    · refine ⟨0, ?_⟩
      have : x.fName = [] := List.length_eq_zero_iff.1 (by omega)
      rw [if_pos c1, if_neg]
      simp [oktB, this]
    by_cases c2 : (x.fName.length : Int) > 32767
    · refine ⟨0, ?_⟩
      rw [if_neg c1, if_pos c2, if_neg]
      simp [oktB, show ¬ x.fName.length ≤ 32767 by omega]
    by_cases c3 : (x.fParts.length : Int) < 1
    · refine ⟨0, ?_⟩
      have : x.fParts = [] := List.length_eq_zero_iff.1 (by omega)
      rw [if_neg c1, if_neg c2, if_pos c3, if_neg]
      simp [oktB, okps, this]
    rw [if_neg c1, if_neg c2, if_neg c3]
    have hne : x.fName.isEmpty = false := by cases hh : x.fName with | nil => rw [hh] at c1; simp at c1 | cons c u => rfl
    have hnp : x.fParts.isEmpty = false := by cases hh : x.fParts with | nil => rw [hh] at c3; simp at c3 | cons c u => rfl
    have ho : oktB x = (x.fParts.all okn && up ltI none x.fParts) := by
      simp [oktB, okps, hne, hnp, show x.fName.length ≤ 32767 by omega]
    obtain ⟨z2, hz2⟩ := rise_l2 x hx.1 y x.fParts none 0 (((x.fParts.length : Int)).toNat + 1) rfl (by omega) (fun _ => rfl) (fun h => absurd h (by omega))
    rw [ho]
    rcases Nat.eq_zero_or_pos k with hk | hk
    · obtain rfl := h0 hk
      rw [if_neg (by omega), rise_l3, hz2]
      cases hq : (x.fParts.all okn && up ltI none x.fParts) with
      | false => exact ⟨0, by simp⟩
      | true =>
        refine ⟨z, ?_⟩
        rw [if_pos rfl, Option.bind_some, Bool.true_and]
        simp only
        rw [if_pos (by omega), hz, show (none : Option Top).map (·.fName) = none from rfl, show up Op.bytesLess none (x.fName :: t.map (·.fName)) = up Op.bytesLess (some x.fName) (t.map (·.fName)) from rfl]
        rfl
    · obtain ⟨e1, e2⟩ := h1 hk
      rw [if_pos (by omega), if_pos (by omega), if_pos (by omega), show ((k : Int) - 1).toNat = k - 1 by omega, e1]
      cases p with
      | none => exact absurd rfl e2
      | some q =>
        rw [Option.bind_some]
        rw [less_eq _ _ (hw q (List.mem_of_getElem? e1)).2]
        rw [Option.bind_some, show (some q).map (·.fName) = some q.fName from rfl, show up Op.bytesLess (some q.fName) (x.fName :: t.map (·.fName)) = (Op.bytesLess q.fName x.fName && up Op.bytesLess (some x.fName) (t.map (·.fName))) from rfl]
        cases hc : Op.bytesLess q.fName x.fName with
        | false => exact ⟨0, by simp⟩
        | true =>
          rw [if_pos rfl, hz2]
          cases hq : (x.fParts.all okn && up ltI none x.fParts) with
          | false => exact ⟨0, by simp⟩
          | true =>
            refine ⟨z, ?_⟩
            rw [if_pos rfl, Option.bind_some, Bool.true_and]
            simp only
            rw [if_pos (by omega), hz]
            rfl
theorem rise_eq (a0 : List Top) (hb : a0.length ≤ 1000000) (hw : ∀ t, t ∈ a0 → t.fParts.length ≤ 1000000 ∧ t.fName.length ≤ 1000000) : f_r14_Rise a0 = some (okts a0) := by
  unfold f_r14_Rise okts
  obtain ⟨z, hz⟩ := rise_l1 a0 hb hw false a0 none 0 (((a0.length : Int)).toNat + 1) rfl (by omega) (fun _ => rfl) (fun h => absurd h (by omega))
  rw [show (none : Option Top).map (·.fName) = none from rfl] at hz
  rw [hz]
  cases (a0.all oktB && up Op.bytesLess none (a0.map (·.fName))) <;> rfl
end Go.Proofs.Ytlhgogjcaegehaa.Sl
namespace Go.Proofs.Ytlhgogjcaegehaa.Sl
open Go.RowKit
set_option linter.unusedVariables false
set_option linter.unusedSimpArgs false
theorem same_loop (a b : List Int) (ha : a.length ≤ 140737488355328) (y : Bool) : ∀ (t u : List Int) (k fuel : Nat), a.drop k = t → b.drop k = u → t.length = u.length → t.length < fuel → ∃ z, f_r01_Same_l1 a b fuel y k = some (if t = u then .go (y, z) else .ret false)
  | [], [], k, fuel + 1, ht, hu, hl, hf => by
    have := nil_drop ht
    exact ⟨k, by rw [f_r01_Same_l1, if_neg (by omega), if_pos rfl]⟩
  | [], d :: u, k, fuel, ht, hu, hl, hf => by simp at hl
  | c :: t, [], k, fuel, ht, hu, hl, hf => by simp at hl
  | c :: t, d :: u, k, fuel + 1, ht, hu, hl, hf => by
    obtain ⟨t1, t2, t3⟩ := at_drop ht
    obtain ⟨u1, u2, u3⟩ := at_drop hu
    simp only [List.length_cons] at hl hf
    obtain ⟨z, hz⟩ := same_loop a b ha y t u (k + 1) fuel t2 u2 (by omega) (by omega)
    rw [f_r01_Same_l1, if_pos (by omega), t1, Option.bind_some, u1, Option.bind_some]
    by_cases hc : c = d
    · rw [if_pos hc, if_pos (by omega), hz]
      subst hc
      refine ⟨z, ?_⟩
      by_cases h : t = u
      · rw [if_pos h, if_pos (by rw [h])]
      · rw [if_neg h, if_neg (by simpa using h)]
    · rw [if_neg hc]
      exact ⟨0, by rw [if_neg (fun h => hc (List.cons.inj h).1)]⟩
theorem same_eq (a b : List Int) (ha : a.length ≤ 140737488355328) : f_r01_Same a b = some (decide (a = b)) := by
  unfold f_r01_Same
  by_cases hl : (a.length : Int) = (b.length : Int)
  · rw [if_pos hl]
    obtain ⟨z, hz⟩ := same_loop a b ha false a b 0 (((a.length : Int)).toNat + 1) rfl rfl (by omega) (by omega)
    rw [hz]
    by_cases h : a = b
    · rw [if_pos h, decide_eq_true h]
      rfl
    · rw [if_neg h, decide_eq_false h]
      rfl
  · rw [if_neg hl, decide_eq_false (fun h => hl (by rw [h]))]
def sameT (a b : Top) : Bool := decide (a.fName = b.fName) && decide (a.fParts = b.fParts)
def sameTs : List Top → List Top → Bool
  | [], [] => true
  | a :: l, b :: m => sameT a b && sameTs l m
  | _, _ => false
theorem sameT_refl (a : Top) : sameT a a = true := by simp [sameT]
theorem sameTs_refl : ∀ l : List Top, sameTs l l = true
  | [] => rfl
  | a :: l => by rw [sameTs, sameT_refl, sameTs_refl l]; rfl
theorem sameTs_len : ∀ (l m : List Top), sameTs l m = true → l.length = m.length
  | [], [], h => rfl
  | [], b :: m, h => nomatch h
  | a :: l, [], h => nomatch h
  | a :: l, b :: m, h => by
    rw [sameTs, Bool.and_eq_true] at h
    rw [List.length_cons, List.length_cons, sameTs_len l m h.2]
theorem rsame_loop (a0 a1 : List Top) (h0 : a0.length ≤ 1000000) (y : Bool) : ∀ (l u : List Top) (k fuel : Nat), (∀ t, t ∈ l → t.fParts.length ≤ 140737488355328) → a0.drop k = l → a1.drop k = u → l.length = u.length → l.length < fuel → ∃ z, f_r14_SameTopics_l1 a0 a1 fuel y k = some (if sameTs l u = true then .go (y, z) else .ret false)
  | [], [], k, fuel + 1, hw, ht, hu, hl, hf => by
    have := nil_drop ht
    exact ⟨k, by rw [f_r14_SameTopics_l1, if_neg (by omega)]; rfl⟩
  | [], d :: u, k, fuel, hw, ht, hu, hl, hf => by simp at hl
  | c :: l, [], k, fuel, hw, ht, hu, hl, hf => by simp at hl
  | c :: l, d :: u, k, fuel + 1, hw, ht, hu, hl, hf => by
    obtain ⟨t1, t2, t3⟩ := at_drop ht
    obtain ⟨u1, u2, u3⟩ := at_drop hu
    simp only [List.length_cons] at hl hf
    obtain ⟨z, hz⟩ := rsame_loop a0 a1 h0 y l u (k + 1) fuel (fun t ht => hw t (.tail _ ht)) t2 u2 (by omega) (by omega)
    rw [f_r14_SameTopics_l1, if_pos (by omega), t1, Option.bind_some, u1, Option.bind_some, sameTs, sameT, same_eq _ _ (hw c (.head _))]
    by_cases hc : c.fName = d.fName
    · rw [if_pos hc, decide_eq_true hc, Option.bind_some, Bool.true_and]
      cases decide (c.fParts = d.fParts) with
      | false => exact ⟨0, rfl⟩
      | true =>
        rw [if_pos rfl, if_pos (by omega), Bool.true_and]
        exact ⟨z, hz⟩
    · rw [if_neg hc, decide_eq_false hc]
      exact ⟨0, rfl⟩
theorem rsame_eq (a b : List Top) (h0 : a.length ≤ 1000000) (ha : ∀ t, t ∈ a → t.fParts.length ≤ 140737488355328) : f_r14_SameTopics a b = some (sameTs a b) := by
  unfold f_r14_SameTopics
  by_cases hl : (a.length : Int) = (b.length : Int)
  · obtain ⟨z, hz⟩ := rsame_loop a b h0 false a b 0 (((a.length : Int)).toNat + 1) ha rfl rfl (by omega) (by omega)
    rw [if_pos hl, hz]
    cases sameTs a b <;> rfl
  · rw [if_neg hl]
    have : sameTs a b = false := by
      cases h : sameTs a b with
      | false => rfl
      | true => exact absurd (congrArg Int.ofNat (sameTs_len a b h)) hl
    rw [this]
def wT (t : Top) : Nat := t.fName.length + 4 * t.fParts.length + 6
def wTs : List Top → Nat
  | [] => 0
  | t :: l => wT t + wTs l
theorem few_loop (y : Int) : ∀ (l : List Top) (acc : Int), (∀ t, t ∈ l → wf_Top t) → 0 ≤ acc → acc ≤ 1000 → (f_l14_Few_l1 l y acc = some (.ret 0)) ∨ (∃ z, f_l14_Few_l1 l y acc = some (.go z) ∧ acc + wTs l ≤ 1000)
  | [], acc, hw, h0, h1 => .inr ⟨_, rfl, by simp [wTs]; omega⟩
  | t :: l, acc, hw, h0, h1 => by
    have ht := hw t (.head _)
    have ht1 : t.fName.length ≤ 140737488351232 := ht.1
    have ht2 : t.fParts.length ≤ 140737488351232 := ht.2.1
    rw [f_l14_Few_l1, if_pos (by omega), if_pos (by omega), if_pos (by omega), if_pos (by omega)]
    by_cases hc : (acc + (((t.fName.length : Int) + (4 * (t.fParts.length : Int))) + 6)) > 1000
    · rw [if_pos hc]
      exact .inl rfl
    · rw [if_neg hc]
      rcases few_loop y l _ (fun u hu => hw u (.tail _ hu)) (by omega) (show acc + (((t.fName.length : Int) + (4 * (t.fParts.length : Int))) + 6) ≤ 1000 by omega) with h | ⟨z, h, h2⟩
      · exact .inl h
      · exact .inr ⟨z, h, by simp only [wTs, wT]; omega⟩
theorem few_eq (l : List Top) (hw : ∀ t, t ∈ l → wf_Top t) : (f_l14_Few l = some 0) ∨ (f_l14_Few l = some 1 ∧ wTs l ≤ 1000) := by
  unfold f_l14_Few
  rcases few_loop 0 l 0 hw (by decide) (by decide) with h | ⟨z, h, h2⟩
  · exact .inl (by rw [h]; rfl)
  · exact .inr ⟨by rw [h]; rfl, by omega⟩
theorem wTs_len : ∀ l : List Top, l.length * 6 ≤ wTs l
  | [] => by simp [wTs]
  | t :: l => by have := wTs_len l; simp only [wTs, wT, List.length_cons]; omega
theorem wTs_mem : ∀ (l : List Top) (t : Top), t ∈ l → wT t ≤ wTs l
  | u :: l, t, h => by
    rcases List.mem_cons.1 h with rfl | h
    · simp only [wTs]; omega
    · have := wTs_mem l t h; simp only [wTs]; omega
theorem encs_len4 : ∀ l : List Int, (encs (fun n => be n 4) l).length = 4 * l.length
  | [] => rfl
  | n :: l => by rw [encs, List.length_append, be_length, encs_len4 l, List.length_cons]; omega
theorem encT_len (t : Top) : (encT t).length = wT t := by
  simp only [encT, List.length_append, be_length, encs_len4, wT]
  omega
theorem encTs_len : ∀ l : List Top, (encs encT l).length = wTs l
  | [] => rfl
  | t :: l => by rw [encs, List.length_append, encT_len, encTs_len l, wTs]
theorem put_l2 : ∀ (l : List Int) (t : List UInt8), (∀ n, n ∈ l → fits n 4 = true) → t.length + 4 * l.length ≤ 1000000000 → f_value_PutTopics_l2 l (t, 0) = some (t ++ encs (fun n => be n 4) l, 0)
  | [], t, h, hl => by rw [f_value_PutTopics_l2, encs, List.append_nil]
  | n :: l, t, h, hl => by
    rw [List.length_cons] at hl
    rw [f_value_PutTopics_l2, gOInt_z (h n (.head _)) (by omega), Option.bind_some, put_l2 l _ (fun m hm => h m (.tail _ hm)) (by rw [List.length_append, be_length]; show t.length + 4 + 4 * l.length ≤ _; omega), encs, List.append_assoc]
    rfl
theorem gPutText_z {t d : List UInt8} (hf : d.length ≤ 32767) (ht : t.length ≤ 1000000000) : gPutText (t, 0) d = some (t ++ (be (d.length : Int) 2 ++ d), 0) := by
  rw [gPutText_eq _ _ (by simp only; omega)]
  have := gPutFixed_z (t := t) (b := ⟨false, d⟩) (k := 2) (fits_small (.inl rfl) (show -32768 ≤ (d.length : Int) by omega) (show (d.length : Int) ≤ 32767 by omega)) rfl (by simp only; omega)
  rw [gPutFixed_eq _ _ _ ⟨by decide, by simp only; omega⟩] at this
  exact this
theorem put_l1 : ∀ (l : List Top) (t : List UInt8), (∀ x, x ∈ l → okT x) → t.length + wTs l ≤ 1000000 → wTs l ≤ 2000 → f_value_PutTopics_l1 l (t, 0) = some (t ++ encs encT l, 0)
  | [], t, h, hl, hw => by rw [f_value_PutTopics_l1, encs, List.append_nil]
  | x :: l, t, h, hl, hw => by
    obtain ⟨h1, h2, h3⟩ := h x (.head _)
    simp only [wTs, wT] at hl hw
    rw [f_value_PutTopics_l1, gPutText_z (by omega) (by omega), Option.bind_some, gOInt_z h2 (by simp only [List.length_append, be_length]; omega), Option.bind_some, put_l2 _ _ h3 (by simp only [List.length_append, be_length]; show _ + (4 : Int).toNat + _ ≤ _; omega), Option.bind_some, put_l1 l _ (fun y hy => h y (.tail _ hy)) (by simp only [List.length_append, be_length, encs_len4]; show _ + (4 : Int).toNat + _ + _ ≤ _; omega) (by omega)]
    simp only [encs, encT, List.append_assoc]
    rfl
theorem put_topics (l : List Top) (t : List UInt8) (h : ∀ x, x ∈ l → okT x) (ht : t.length ≤ 900000) (hw : wTs l ≤ 2000) : f_value_PutTopics (t, 0) l = some (t ++ (be (l.length : Int) 4 ++ encs encT l), 0) := by
  have := wTs_len l
  unfold f_value_PutTopics
  rw [gOInt_z (fits_small (.inr (.inl rfl)) (by omega) (by omega)) (by omega), Option.bind_some, put_l1 l _ h (by simp only [List.length_append, be_length]; show _ + (4 : Int).toNat + _ ≤ _; omega) hw, List.append_assoc]
  rfl
theorem r14t_l2 (x : Top) (hb : x.fParts.length ≤ 1000000) (hx : ∀ n, n ∈ x.fParts → wI n) : ∀ (l : List Int) (t : List UInt8) (k fuel : Nat), x.fParts.drop k = l → l.length < fuel → t.length + 4 * l.length ≤ 1000000000 → ∃ z, f_r14_Topics_l2 x fuel t k = some (t ++ encs (fun n => be n 4) l, z)
  | [], t, k, fuel + 1, h, hf, hl => by
    have := nil_drop h
    exact ⟨k, by rw [f_r14_Topics_l2, if_neg (by omega), encs, List.append_nil]⟩
  | n :: l, t, k, fuel + 1, h, hf, hl => by
    obtain ⟨g1, g2, g3⟩ := at_drop h
    rw [List.length_cons] at hf hl
    obtain ⟨z, hz⟩ := r14t_l2 x hb hx l (t ++ be n 4) (k + 1) fuel g2 (by omega) (by rw [List.length_append, be_length]; omega)
    rw [f_r14_Topics_l2, if_pos (by omega), g1, Option.bind_some, gRBytes_eq _ _ ⟨hx n (List.mem_of_getElem? g1), by decide, by decide⟩, Option.bind_some, if_pos (by rw [be_length]; show t.length + (4 : Int).toNat ≤ _; omega), if_pos (by omega)]
    refine ⟨z, ?_⟩
    rw [encs, ← List.append_assoc]
    exact hz
theorem r14t_l1 (a0 : List Top) (hb : a0.length ≤ 1000000) (hx : ∀ x, x ∈ a0 → wf_Top x) : ∀ (l : List Top) (t : List UInt8) (k fuel : Nat), a0.drop k = l → l.length < fuel → t.length + wTs l ≤ 1000000 → ∃ z, f_r14_Topics_l1 a0 fuel t k = some (t ++ encs encT l, z)
  | [], t, k, fuel + 1, h, hf, hl => by
    have := nil_drop h
    exact ⟨k, by rw [f_r14_Topics_l1, if_neg (by omega), encs, List.append_nil]⟩
  | x :: l, t, k, fuel + 1, h, hf, hl => by
    obtain ⟨g1, g2, g3⟩ := at_drop h
    have hw := hx x (List.mem_of_getElem? g1)
    rw [List.length_cons] at hf
    simp only [wTs, wT] at hl
    obtain ⟨z2, hz2⟩ := r14t_l2 x (by omega) hw.2.2 x.fParts ((t ++ (be (blen ⟨false, x.fName⟩) (2 : Int).toNat ++ x.fName)) ++ be (x.fParts.length : Int) (4 : Int).toNat) 0 (((x.fParts.length : Int)).toNat + 1) rfl (by omega) (by simp only [List.length_append, be_length]; show _ + (((2 : Int).toNat + _) + (4 : Int).toNat) + _ ≤ _; omega)
    obtain ⟨z, hz⟩ := r14t_l1 a0 hb hx l (t ++ encT x) (k + 1) fuel g2 (by omega) (by rw [List.length_append, encT_len, wT]; omega)
    rw [f_r14_Topics_l1, if_pos (by omega), g1, Option.bind_some, gRBFixed_eq _ _ ⟨by decide, by decide, by simp only; omega⟩, Option.bind_some, if_pos (by simp only [List.length_append, be_length]; show _ + ((2 : Int).toNat + _) ≤ _; omega), gRBytes_eq _ _ ⟨by omega, by decide, by decide⟩, Option.bind_some, if_pos (by simp only [List.length_append, be_length]; show _ + ((2 : Int).toNat + _) + (4 : Int).toNat ≤ _; omega), hz2, Option.bind_some]
    simp only
    rw [if_pos (by omega)]
    refine ⟨z, ?_⟩
    have e : t ++ encT x = ((t ++ (be (blen ⟨false, x.fName⟩) (2 : Int).toNat ++ x.fName)) ++ be (x.fParts.length : Int) (4 : Int).toNat) ++ encs (fun n => be n 4) x.fParts := by
      simp only [encT, List.append_assoc]
      rfl
    rw [encs, (List.append_assoc t (encT x) (encs encT l)).symm, e]
    rw [e] at hz
    exact hz
theorem r14t_eq (l : List Top) (hx : ∀ x, x ∈ l → wf_Top x) (hw : wTs l ≤ 2000) : f_r14_Topics l = some (be (l.length : Int) 4 ++ encs encT l) := by
  have := wTs_len l
  unfold f_r14_Topics
  rw [gRBytes_eq _ _ ⟨by omega, by decide, by decide⟩, Option.bind_some]
  obtain ⟨z, hz⟩ := r14t_l1 l (by omega) hx l (be (l.length : Int) (4 : Int).toNat) 0 (((l.length : Int)).toNat + 1) rfl (by omega) (by rw [be_length]; show (4 : Int).toNat + _ ≤ _; omega)
  rw [hz]
  rfl
end Go.Proofs.Ytlhgogjcaegehaa.Sl
namespace Go.Proofs.Ytlhgogjcaegehaa.Sl
open Go.RowKit
set_option linter.unusedVariables false
set_option linter.unusedSimpArgs false
theorem fits_2 (n : Int) : fits n 2 = decide (-32768 ≤ n ∧ n ≤ 32767) := by
  rw [Bool.eq_iff_iff]
  unfold fits
  simp only [Bool.and_eq_true, decide_eq_true_eq]
  have : (2 : Int) ^ (8 * (2 : Int).toNat - 1) = 32768 := by decide
  omega
theorem fits_8 (n : Int) : fits n 8 = decide (-9223372036854775808 ≤ n ∧ n ≤ 9223372036854775807) := by
  rw [Bool.eq_iff_iff]
  unfold fits
  simp only [Bool.and_eq_true, decide_eq_true_eq]
  have : (2 : Int) ^ (8 * (8 : Int).toNat - 1) = 9223372036854775808 := by decide
  omega
theorem fits_1 (n : Int) : fits n 1 = decide (-128 ≤ n ∧ n ≤ 127) := by
  rw [Bool.eq_iff_iff]
  unfold fits
  simp only [Bool.and_eq_true, decide_eq_true_eq]
  have : (2 : Int) ^ (8 * (1 : Int).toNat - 1) = 128 := by decide
  omega
def badR (v : Val) : Prop := v.fProducer < 0 ∨ v.fEpoch < 0 ∨ v.fEpoch > 32767 ∨ v.fTimeout < 0 ∨ v.fTimeout > 2147483647 ∨ v.fUpdated < 0 ∨ v.fStarted < -1
def badC (v : Val) : Prop := ¬ ((1 ≤ v.fState ∧ v.fState ≤ 3) ↔ 0 < (v.fTopics.length : Int)) ∨ ¬ (v.fState = 0 ↔ v.fStarted = -1)
open Classical in
noncomputable def chkV (v : Val) : Int := if badR v then 11 else if v.fState < 0 ∨ v.fState > 6 then 12 else if badC v then 10 else if okts v.fTopics = true then 0 else 13
set_option maxHeartbeats 4000000 in
theorem vcheck_eq (v : Val) (hw : wf_Val v) (hl : v.fTopics.length ≤ 1000000) : f_value_Check v = some (chkV v) := by
  unfold f_value_Check chkV
  rw [vtopics_eq _ hw.2.2.2.2.1.2 hl, gFits_eq _ _ hw.2.1, gFits_eq _ _ hw.2.2.1, fits_2, fits_4]
  generalize okts v.fTopics = b
  by_cases hr : badR v
  · rw [if_pos hr]
    unfold badR at hr
    by_cases c1 : v.fProducer < 0
    · rw [if_pos c1]
    rw [if_neg c1]
    by_cases c2 : v.fEpoch < 0
    · rw [if_pos c2]
    rw [if_neg c2, Option.bind_some]
    by_cases c3 : -32768 ≤ v.fEpoch ∧ v.fEpoch ≤ 32767
    · rw [if_pos (decide_eq_true c3)]
      by_cases c4 : v.fTimeout < 0
      · rw [if_pos c4]
      rw [if_neg c4, Option.bind_some]
      by_cases c5 : -2147483648 ≤ v.fTimeout ∧ v.fTimeout ≤ 2147483647
      · rw [if_pos (decide_eq_true c5)]
        by_cases c6 : v.fUpdated < 0
        · rw [if_pos c6]
        rw [if_neg c6, if_pos (by omega)]
      · rw [if_neg (by simp only [decide_eq_true_eq]; exact c5)]
    · rw [if_neg (by simp only [decide_eq_true_eq]; exact c3)]
  rw [if_neg hr]
  unfold badR at hr
  rw [if_neg (by omega), if_neg (by omega), Option.bind_some, if_pos (decide_eq_true (by omega)), if_neg (by omega), Option.bind_some, if_pos (decide_eq_true (by omega)), if_neg (by omega), if_neg (by omega)]
  unfold f_value_Idle
  by_cases hs : v.fState < 0 ∨ v.fState > 6
  · rw [if_pos hs]
    by_cases c1 : v.fState < 0
    · rw [if_pos c1]
    · rw [if_neg c1, if_pos (by omega)]
  rw [if_neg hs, if_neg (by omega), if_neg (by omega)]
  by_cases hc : badC v
  · rw [if_pos hc]
    unfold badC at hc
    by_cases c0 : v.fState = 0
    · rw [if_pos c0, Option.bind_some, if_pos rfl]
      by_cases c1 : (v.fTopics.length : Int) = 0
      · rw [if_pos c1, if_pos c0, if_neg (by omega)]
      · rw [if_neg c1]
    · rw [if_neg c0]
      by_cases c4 : v.fState ≥ 4
      · rw [if_pos c4, Option.bind_some, if_pos rfl]
        by_cases c1 : (v.fTopics.length : Int) = 0
        · rw [if_pos c1, if_neg c0, if_pos (by omega)]
        · rw [if_neg c1]
      · rw [if_neg c4, Option.bind_some, if_neg (by decide)]
        by_cases c1 : (v.fTopics.length : Int) = 0
        · rw [if_pos c1]
        · rw [if_neg c1, if_neg c0, if_pos (by omega)]
  rw [if_neg hc]
  unfold badC at hc
  by_cases c0 : v.fState = 0
  · rw [if_pos c0, Option.bind_some, if_pos rfl, if_pos (by omega), if_pos c0, if_pos (by omega)]
    cases b <;> rfl
  · rw [if_neg c0]
    by_cases c4 : v.fState ≥ 4
    · rw [if_pos c4, Option.bind_some, if_pos rfl, if_pos (by omega), if_neg c0, if_neg (by omega)]
      cases b <;> rfl
    · rw [if_neg c4, Option.bind_some, if_neg (by decide), if_neg (by omega), if_neg c0, if_neg (by omega)]
      cases b <;> rfl
set_option maxHeartbeats 4000000 in
theorem rcheck_eq (v : Val) (hl : v.fTopics.length ≤ 1000000) (hx : ∀ t, t ∈ v.fTopics → t.fParts.length ≤ 1000000 ∧ t.fName.length ≤ 1000000) : f_r14_Check v = some (chkV v) := by
  unfold f_r14_Check chkV
  rw [rise_eq _ hl hx]
  generalize okts v.fTopics = b
  by_cases hr : badR v
  · rw [if_pos hr]
    unfold badR at hr
    by_cases c1 : v.fProducer < 0
    · rw [if_pos c1]
    by_cases c2 : v.fEpoch < 0
    · rw [if_neg c1, if_pos c2]
    by_cases c3 : v.fEpoch > 32767
    · rw [if_neg c1, if_neg c2, if_pos c3]
    by_cases c4 : v.fTimeout < 0
    · rw [if_neg c1, if_neg c2, if_neg c3, if_pos c4]
    by_cases c5 : v.fTimeout > 2147483647
    · rw [if_neg c1, if_neg c2, if_neg c3, if_neg c4, if_pos c5]
    by_cases c6 : v.fUpdated < 0
    · rw [if_neg c1, if_neg c2, if_neg c3, if_neg c4, if_neg c5, if_pos c6]
    · rw [if_neg c1, if_neg c2, if_neg c3, if_neg c4, if_neg c5, if_neg c6, if_pos (by omega)]
  rw [if_neg hr]
  unfold badR at hr
  rw [if_neg (by omega), if_neg (by omega), if_neg (by omega), if_neg (by omega), if_neg (by omega), if_neg (by omega), if_neg (by omega)]
  by_cases hs : v.fState < 0 ∨ v.fState > 6
  · rw [if_pos hs]
    by_cases c1 : v.fState < 0
    · rw [if_pos c1]
    · rw [if_neg c1, if_pos (by omega)]
  rw [if_neg hs, if_neg (by omega), if_neg (by omega)]
  by_cases hc : badC v
  · rw [if_pos hc]
    unfold badC at hc
    by_cases c0 : v.fState ≥ 1
    · rw [if_pos c0]
      by_cases c3 : v.fState ≤ 3
      · rw [if_pos c3]
        by_cases c1 : (v.fTopics.length : Int) = 0
        · rw [if_pos c1]
        · rw [if_neg c1, if_neg (by omega), if_pos (by omega), if_pos (by omega)]
      · rw [if_neg c3]
        by_cases c1 : (v.fTopics.length : Int) > 0
        · rw [if_pos c1]
        · rw [if_neg c1, if_neg (by omega), if_pos (by omega), if_pos (by omega)]
    · rw [if_neg c0]
      by_cases c1 : (v.fTopics.length : Int) > 0
      · rw [if_pos c1]
      · rw [if_neg c1, if_pos (by omega), if_neg (by omega)]
  rw [if_neg hc]
  unfold badC at hc
  by_cases c0 : v.fState ≥ 1
  · rw [if_pos c0]
    by_cases c3 : v.fState ≤ 3
    · rw [if_pos c3, if_neg (by omega), if_neg (by omega), if_pos (by omega), if_neg (by omega)]
      cases b <;> rfl
    · rw [if_neg c3, if_neg (by omega), if_neg (by omega), if_pos (by omega), if_neg (by omega)]
      cases b <;> rfl
  · rw [if_neg c0, if_neg (by omega), if_pos (by omega), if_pos (by omega), if_neg (by omega)]
    cases b <;> rfl
theorem chk_zero {v : Val} (h : chkV v = 0) : ¬ badR v ∧ ¬ (v.fState < 0 ∨ v.fState > 6) ∧ ¬ badC v ∧ okts v.fTopics = true := by
  unfold chkV at h
  split at h
  · exact absurd h (by decide)
  · rename_i h1
    split at h
    · exact absurd h (by decide)
    · rename_i h2
      split at h
      · exact absurd h (by decide)
      · rename_i h3
        split at h
        · rename_i h4
          exact ⟨h1, h2, h3, h4⟩
        · exact absurd h (by decide)
theorem okts_ok {l : List Top} (h : okts l = true) (hw : wTs l ≤ 2000) : ∀ t, t ∈ l → okT t := by
  intro t ht
  unfold okts at h
  rw [Bool.and_eq_true] at h
  have h1 := List.all_eq_true.1 h.1 t ht
  unfold oktB okps at h1
  simp only [Bool.and_eq_true, decide_eq_true_eq, List.all_eq_true] at h1
  have h2 := wTs_mem l t ht
  unfold wT at h2
  refine ⟨fits_small (.inl rfl) (by omega) (by omega), fits_small (.inr (.inl rfl)) (by omega) (by omega), fun n hn => ?_⟩
  have h3 := h1.2.1.1 n hn
  unfold okn at h3
  simp only [Bool.and_eq_true, decide_eq_true_eq] at h3
  rw [fits_4]
  exact decide_eq_true (by omega)
def encV (v : Val) : List UInt8 := be 0 2 ++ (be v.fProducer 8 ++ (be v.fEpoch 2 ++ (be v.fTimeout 4 ++ (be v.fState 1 ++ ((be (v.fTopics.length : Int) 4 ++ encs encT v.fTopics) ++ (be v.fUpdated 8 ++ be v.fStarted 8))))))
def pEnd : Pr Unit := fun s q => if q = s.length then .ok ((), q) else .error 2
def pVal0 : Pr Val := (pInt 2).bind fun z => if z = 0 then (pInt 8).bind fun a => (pInt 2).bind fun b => (pInt 4).bind fun c => (pInt 1).bind fun d => (pRow 4 6 pTopic).bind fun l => (pInt 8).bind fun e => (pInt 8).bind fun f => pEnd.bind fun _ => .ret ⟨a, b, c, d, l, e, f⟩ else .err 7
def okV (v : Val) : Prop := fits v.fProducer 8 = true ∧ fits v.fEpoch 2 = true ∧ fits v.fTimeout 4 = true ∧ fits v.fState 1 = true ∧ (fits (v.fTopics.length : Int) 4 = true ∧ ∀ t, t ∈ v.fTopics → okT t) ∧ fits v.fUpdated 8 = true ∧ fits v.fStarted 8 = true
theorem val_spell {s : List UInt8} {v : Val} {r : Nat} (h : pVal0 s 0 = .ok (v, r)) : s = encV v ∧ okV v := by
  obtain ⟨z, q0, h0, h⟩ := Pr.bind_ok h
  split at h
  · rename_i hz
    subst hz
    obtain ⟨a, q1, h1, h⟩ := Pr.bind_ok h
    obtain ⟨b, q2, h2, h⟩ := Pr.bind_ok h
    obtain ⟨c, q3, h3, h⟩ := Pr.bind_ok h
    obtain ⟨d, q4, h4, h⟩ := Pr.bind_ok h
    obtain ⟨l, q5, h5, h⟩ := Pr.bind_ok h
    obtain ⟨e, q6, h6, h⟩ := Pr.bind_ok h
    obtain ⟨f, q7, h7, h⟩ := Pr.bind_ok h
    obtain ⟨u, q8, h8, h⟩ := Pr.bind_ok h
    injection h with h
    obtain ⟨rfl, rfl⟩ := Prod.mk.inj h
    have I2 := Sp_int 2 (by decide) (by decide)
    have I8 := Sp_int 8 (by decide) (by decide)
    obtain ⟨-, a2, -, a4, a5⟩ := I2.spell _ _ _ _ (Nat.zero_le _) h0
    obtain ⟨-, b2, -, b4, b5⟩ := I8.spell _ _ _ _ a2 h1
    obtain ⟨-, c2, -, c4, c5⟩ := I2.spell _ _ _ _ b2 h2
    obtain ⟨-, d2, -, d4, d5⟩ := (Sp_int 4 (by decide) (by decide)).spell _ _ _ _ c2 h3
    obtain ⟨-, e2, -, e4, e5⟩ := (Sp_int 1 (by decide) (by decide)).spell _ _ _ _ d2 h4
    obtain ⟨-, f2, -, f4, f5⟩ := Sp_topics.spell _ _ _ _ e2 h5
    obtain ⟨-, g2, -, g4, g5⟩ := I8.spell _ _ _ _ f2 h6
    obtain ⟨-, i2, -, i4, i5⟩ := I8.spell _ _ _ _ g2 h7
    have hq : q7 = s.length := by
      unfold pEnd at h8
      split at h8
      · rename_i hh; exact hh
      · exact nomatch h8
    refine ⟨?_, b5, c5, d5, e5, f5, g5, i5⟩
    have hs : s = s.take q7 := by rw [hq, List.take_length]
    rw [hs, i4, g4, f4, e4, d4, c4, b4, a4]
    simp only [encV, List.append_assoc, List.take_zero, List.nil_append]
  · exact nomatch h
theorem val_back {v : Val} (h : okV v) : ∃ r, pVal0 (encV v) 0 = .ok (v, r) := by
  obtain ⟨h1, h2, h3, h4, h5, h6, h7⟩ := h
  have I2 := Sp_int 2 (by decide) (by decide)
  have I8 := Sp_int 8 (by decide) (by decide)
  have hlen : (encV v).length = 37 + (encs encT v.fTopics).length := by
    simp only [encV, List.length_append, be_length]
    omega
  have hd : (encV v).drop 0 = encV v := rfl
  generalize hE : encV v = E at hd hlen ⊢
  have hh : E.drop 0 = be 0 2 ++ (be v.fProducer 8 ++ (be v.fEpoch 2 ++ (be v.fTimeout 4 ++ (be v.fState 1 ++ ((be (v.fTopics.length : Int) 4 ++ encs encT v.fTopics) ++ (be v.fUpdated 8 ++ (be v.fStarted 8 ++ []))))))) := by
    rw [hd, ← hE]
    simp only [encV, List.append_nil]
  have g0 := I2.back _ _ _ 0 (Nat.zero_le _) (fits_small (.inl rfl) (by decide) (by decide)) hh
  have hh := drop_step hh
  rw [be_length] at hh g0
  have g1 := I8.back _ _ _ _ (by omega) h1 hh
  have hh := drop_step hh
  rw [be_length] at hh g1
  have g2 := I2.back _ _ _ _ (by omega) h2 hh
  have hh := drop_step hh
  rw [be_length] at hh g2
  have g3 := (Sp_int 4 (by decide) (by decide)).back _ _ _ _ (by omega) h3 hh
  have hh := drop_step hh
  rw [be_length] at hh g3
  have g4 := (Sp_int 1 (by decide) (by decide)).back _ _ _ _ (by omega) h4 hh
  have hh := drop_step hh
  rw [be_length] at hh g4
  have g5 := Sp_topics.back _ _ _ _ (by omega) h5 hh
  have hh := drop_step hh
  rw [List.length_append, be_length] at hh g5
  have g6 := I8.back _ _ _ _ (by omega) h6 hh
  have hh := drop_step hh
  rw [be_length] at hh g6
  have g7 := I8.back _ _ _ _ (by omega) h7 hh
  rw [be_length] at g7
  refine ⟨E.length, ?_⟩
  rw [pVal0, Pr.bind_of g0, if_pos rfl, Pr.bind_of g1, Pr.bind_of g2, Pr.bind_of g3, Pr.bind_of g4, Pr.bind_of g5, Pr.bind_of g6, Pr.bind_of g7]
  have he : 0 + 2 + 8 + 2 + 4 + 1 + (4 + (encs encT v.fTopics).length) + 8 + 8 = E.length := by omega
  rw [he, Pr.bind_of (a := ()) (r := E.length) (by unfold pEnd; rw [if_pos rfl])]
  rfl
def zVal : Val := ⟨0, 0, 0, 0, [], 0, 0⟩
theorem gClose_d {st : I} (h : st.err ≠ 0) : gClose st = some (st.err, st) := by rw [gClose_eq, iclose_err h]
theorem okV_wf {v : Val} (h : okV v) (hl : wTs v.fTopics ≤ 1000000) : wf_Val v := by
  obtain ⟨h1, h2, h3, h4, h5, h6, h7⟩ := h
  have hn := wTs_len v.fTopics
  refine ⟨fits_rng h1, fits_rng h2, fits_rng h3, fits_rng h4, ⟨by omega, fun t ht => ?_⟩, fits_rng h6, fits_rng h7⟩
  have hw := wTs_mem _ _ ht
  unfold wT at hw
  exact ⟨show t.fName.length ≤ _ by omega, by omega, fun n hn => fits_rng ((h5.2 t ht).2.2 n hn)⟩
open Classical in
noncomputable def decV (s : List UInt8) : Val × Int := match pVal0 s 0 with
  | .error e => (zVal, e)
  | .ok (v, _) => if chkV v = 0 then (v, 0) else (zVal, chkV v)
theorem encV_len (v : Val) : (encV v).length = 37 + wTs v.fTopics := by
  simp only [encV, List.length_append, be_length, encTs_len]
  omega
theorem vdecode_eq (s : List UInt8) (hs : s.length ≤ 2000) : f_value_Decode s = some (decV s) := by
  unfold f_value_Decode decV
  rw [gNew_eq _ (by omega), Option.bind_some]
  have Q1' := Q1
  have hB := B_topics
  have r0 := Q2.run s 0 (Nat.zero_le _)
  rw [List.drop_zero] at r0
  rcases r0 with ⟨e, st, p0, g0, x0, y0⟩ | ⟨z, q0, p0, g0, n0, l0⟩
  · rw [show pVal0 s 0 = .error e from Pr.bind_err p0, g0]
    simp only [Option.bind_some, if_true, gInt_d y0, hB.dead _ y0, gClose_d y0, if_neg y0, x0]
    rw [if_neg (by rw [← x0]; exact y0)]
    rfl
  rw [g0, Option.bind_some]
  simp only
  by_cases hz : z = 0
  · have hp : pVal0 s 0 = ((pInt 8).bind fun a => (pInt 2).bind fun b => (pInt 4).bind fun c => (pInt 1).bind fun d => (pRow 4 6 pTopic).bind fun l => (pInt 8).bind fun e => (pInt 8).bind fun f => pEnd.bind fun _ => .ret (⟨a, b, c, d, l, e, f⟩ : Val)) s q0 := by rw [pVal0, Pr.bind_of p0, if_pos hz]
    rw [if_pos hz]
    have hval := fun v r (h : pVal0 s 0 = .ok (v, r)) => val_spell h
    rw [hp] at hval ⊢
    clear hp
    rcases Q8.run s q0 l0 with ⟨e, st, p1, g1, x1, y1⟩ | ⟨a, q1, p1, g1, n1, l1⟩
    · rw [Pr.bind_err p1, g1]
      simp only [Option.bind_some, gInt_d y1, hB.dead _ y1, gClose_d y1, x1]
      rw [if_neg (by rw [← x1]; exact y1)]
      rfl
    rw [g1, Option.bind_some]
    simp only
    rw [Pr.bind_of p1] at hval ⊢
    rcases Q2.run s q1 l1 with ⟨e, st, p2, g2, x2, y2⟩ | ⟨b, q2, p2, g2, n2, l2⟩
    · rw [Pr.bind_err p2, g2]
      simp only [Option.bind_some, gInt_d y2, hB.dead _ y2, gClose_d y2, x2]
      rw [if_neg (by rw [← x2]; exact y2)]
      rfl
    rw [g2, Option.bind_some]
    simp only
    rw [Pr.bind_of p2] at hval ⊢
    rcases Q4.run s q2 l2 with ⟨e, st, p3, g3, x3, y3⟩ | ⟨c, q3, p3, g3, n3, l3⟩
    · rw [Pr.bind_err p3, g3]
      simp only [Option.bind_some, gInt_d y3, hB.dead _ y3, gClose_d y3, x3]
      rw [if_neg (by rw [← x3]; exact y3)]
      rfl
    rw [g3, Option.bind_some]
    simp only
    rw [Pr.bind_of p3] at hval ⊢
    rcases Q1.run s q3 l3 with ⟨e, st, p4, g4, x4, y4⟩ | ⟨d, q4, p4, g4, n4, l4⟩
    · rw [Pr.bind_err p4, g4]
      simp only [Option.bind_some, gInt_d y4, hB.dead _ y4, gClose_d y4, x4]
      rw [if_neg (by rw [← x4]; exact y4)]
      rfl
    rw [g4, Option.bind_some]
    simp only
    rw [Pr.bind_of p4] at hval ⊢
    rcases hB.run s q4 (by omega) l4 with ⟨e, st, p5, g5, x5, y5⟩ | ⟨l, q5, p5, g5, n5, l5⟩
    · rw [Pr.bind_err p5, g5]
      simp only [Option.bind_some, gInt_d y5, hB.dead _ y5, gClose_d y5, x5]
      rw [if_neg (by rw [← x5]; exact y5)]
      rfl
    rw [g5, Option.bind_some]
    simp only
    rw [Pr.bind_of p5] at hval ⊢
    rcases Q8.run s q5 l5 with ⟨e, st, p6, g6, x6, y6⟩ | ⟨e', q6, p6, g6, n6, l6⟩
    · rw [Pr.bind_err p6, g6]
      simp only [Option.bind_some, gInt_d y6, hB.dead _ y6, gClose_d y6, x6]
      rw [if_neg (by rw [← x6]; exact y6)]
      rfl
    rw [g6, Option.bind_some]
    simp only
    rw [Pr.bind_of p6] at hval ⊢
    rcases Q8.run s q6 l6 with ⟨e, st, p7, g7, x7, y7⟩ | ⟨f, q7, p7, g7, n7, l7⟩
    · rw [Pr.bind_err p7, g7]
      simp only [Option.bind_some, gInt_d y7, hB.dead _ y7, gClose_d y7, x7]
      rw [if_neg (by rw [← x7]; exact y7)]
      rfl
    rw [g7, Option.bind_some]
    simp only
    rw [Pr.bind_of p7] at hval ⊢
    rw [gClose_eq, Option.bind_some]
    simp only
    by_cases hq : q7 = s.length
    · have he : pEnd s q7 = .ok ((), q7) := by unfold pEnd; rw [if_pos hq]
      rw [Pr.bind_of he] at hval ⊢
      have hv := hval _ _ rfl
      have hlen := congrArg List.length hv.1
      rw [encV_len] at hlen
      have hi : (iclose ⟨s.drop q7, q7, 0⟩).err = 0 := by rw [hq, List.drop_length]; rfl
      rw [hi, if_pos rfl, vcheck_eq _ (okV_wf hv.2 (by omega)) (show l.length ≤ 1000000 by have := wTs_len l; simp only at hlen; omega), Option.bind_some]
      show (if _ then _ else _) = some (if _ then _ else _)
      split <;> rfl
    · have he : pEnd s q7 = .error 2 := by unfold pEnd; rw [if_neg hq]
      have hi : (iclose ⟨s.drop q7, q7, 0⟩).err = 2 := by
        unfold iclose
        rw [if_neg]
        · rfl
        · intro h0
          have := List.drop_eq_nil_iff.1 h0
          omega
      rw [Pr.bind_err he, hi, if_neg (by decide)]
      rfl
  · have hp : pVal0 s 0 = .error 7 := by rw [pVal0, Pr.bind_of p0, if_neg hz]; rfl
    rw [if_neg hz, hp, gIFail_eq, Option.bind_some, ifail_z]
    have y : (⟨s.drop q0, q0, 7⟩ : I).err ≠ 0 := by simp
    simp only [Option.bind_some, gInt_d y, hB.dead _ y, gClose_d y]
    rfl
theorem encode_eq (v : Val) (hw : wf_Val v) (hl : wTs v.fTopics ≤ 2000) : f_value_Encode v = some (if chkV v = 0 then (encV v, 0) else ([], chkV v)) := by
  have hn := wTs_len v.fTopics
  unfold f_value_Encode
  rw [vcheck_eq v hw (by omega), Option.bind_some]
  by_cases hc : chkV v = 0
  · obtain ⟨h1, h2, h3, h4⟩ := chk_zero hc
    have hok := okts_ok h4 hl
    unfold badR at h1
    obtain ⟨w1, w2, w3, w4, w5, w6, w7⟩ := hw
    have f8 : ∀ n : Int, wI n → fits n 8 = true := fun n h => by rw [fits_8]; exact decide_eq_true h
    rw [if_pos hc, if_pos hc, gOInt_z (fits_small (.inl rfl) (by decide) (by decide)) (by simp), Option.bind_some, gOInt_z (f8 _ w1) (by simp only [List.length_append, be_length]; decide), Option.bind_some]
    rw [gOInt_z (by rw [fits_2]; exact decide_eq_true (by omega)) (by simp only [List.length_append, be_length]; decide), Option.bind_some]
    rw [gOInt_z (by rw [fits_4]; exact decide_eq_true (by omega)) (by simp only [List.length_append, be_length]; decide), Option.bind_some]
    rw [gOInt_z (by rw [fits_1]; exact decide_eq_true (by omega)) (by simp only [List.length_append, be_length]; decide), Option.bind_some]
    rw [put_topics _ _ hok (by simp only [List.length_append, be_length]; decide) hl, Option.bind_some]
    have hx : (2 : Int).toNat = 2 ∧ (8 : Int).toNat = 8 ∧ (4 : Int).toNat = 4 ∧ (1 : Int).toNat = 1 := ⟨rfl, rfl, rfl, rfl⟩
    rw [gOInt_z (f8 _ w6) (by simp only [List.length_append, be_length, encTs_len, hx, List.length_nil]; omega), Option.bind_some, gOInt_z (f8 _ w7) (by simp only [List.length_append, be_length, encTs_len, hx, List.length_nil]; omega), Option.bind_some, gOText_eq, otx_z, Option.bind_some]
    simp only [encV, List.append_assoc, List.nil_append, hx]
  · rw [if_neg hc, if_neg hc]
theorem rencode_eq (v : Val) (hw : wf_Val v) (hl : wTs v.fTopics ≤ 2000) : f_r14_Encode v = some (encV v) := by
  have hn := wTs_len v.fTopics
  obtain ⟨w1, w2, w3, w4, w5, w6, w7⟩ := hw
  unfold f_r14_Encode
  have hx : (2 : Int).toNat = 2 ∧ (8 : Int).toNat = 8 ∧ (4 : Int).toNat = 4 ∧ (1 : Int).toNat = 1 := ⟨rfl, rfl, rfl, rfl⟩
  rw [gRBytes_eq _ _ ⟨by decide, by decide, by decide⟩, Option.bind_some, gRBytes_eq _ _ ⟨w1, by decide, by decide⟩, Option.bind_some, if_pos (by simp only [List.length_append, be_length]; decide)]
  rw [gRBytes_eq _ _ ⟨w2, by decide, by decide⟩, Option.bind_some, if_pos (by simp only [List.length_append, be_length]; decide)]
  rw [gRBytes_eq _ _ ⟨w3, by decide, by decide⟩, Option.bind_some, if_pos (by simp only [List.length_append, be_length]; decide)]
  rw [gRBytes_eq _ _ ⟨w4, by decide, by decide⟩, Option.bind_some, if_pos (by simp only [List.length_append, be_length]; decide)]
  rw [r14t_eq _ w5.2 hl, Option.bind_some, if_pos (by simp only [List.length_append, be_length, encTs_len, hx]; omega)]
  rw [gRBytes_eq _ _ ⟨w6, by decide, by decide⟩, Option.bind_some, if_pos (by simp only [List.length_append, be_length, encTs_len, hx]; omega)]
  rw [gRBytes_eq _ _ ⟨w7, by decide, by decide⟩, Option.bind_some, if_pos (by simp only [List.length_append, be_length, encTs_len, hx]; omega)]
  simp only [encV, List.append_assoc, hx]
end Go.Proofs.Ytlhgogjcaegehaa.Sl
namespace Go.Proofs.Ytlhgogjcaegehaa.Sl
open Go.RowKit
set_option linter.unusedVariables false
set_option linter.unusedSimpArgs false
def encK (l : List UInt8) : List UInt8 := be 0 2 ++ (be (l.length : Int) 2 ++ l)
theorem kr_fits {l : List UInt8} (h : kright l = true) : fits (l.length : Int) 2 = true ∧ l.length ≤ 32767 ∧ l ≠ [] := by
  unfold kright at h
  simp only [Bool.and_eq_true, decide_eq_true_eq, Bool.not_eq_true'] at h
  refine ⟨fits_small (.inl rfl) (by omega) (by omega), by omega, fun h0 => ?_⟩
  rw [h0] at h
  exact absurd h.1 (by decide)
theorem kenc_good {l : List UInt8} (h : kright l = true) : kenc l = (encK l, 0) := by
  obtain ⟨h1, h2, h3⟩ := kr_fits h
  have hb : bright ⟨false, l⟩ = true := rfl
  have hbl : blen ⟨false, l⟩ = (l.length : Int) := by simp [blen]
  unfold kenc
  rw [if_pos h]
  unfold bputText bputFixed bwrite oint
  rw [if_pos hb, hbl, if_pos h1, if_pos (show fits 0 2 = true by decide), oput_z, oput_z, oput_z, otx_z]
  simp only [encK, List.nil_append, List.append_assoc]
  rfl
theorem kenc_bad {l : List UInt8} (h : kright l = false) : kenc l = ([], 4) := by
  unfold kenc
  rw [h]
  rfl
theorem kdec_enc {l : List UInt8} (h : kright l = true) : kdec (encK l) = (l, 0) := by
  obtain ⟨h1, h2, h3⟩ := kr_fits h
  have hlen : (encK l).length = 2 + (2 + l.length) := by simp only [encK, List.length_append, be_length]
  have ha : kdA (encK l) = ⟨(encK l).drop 2, 2, 0⟩ := by
    unfold kdA
    have := iint_ok (encK l) 0 2 (by decide) (by decide) (by omega)
    have e : beInt ((encK l).take 2) = 0 := by
      unfold encK
      rw [List.take_append_of_le_length (by rw [be_length]; omega), List.take_of_length_le (by rw [be_length]; omega)]
      decide
    rw [show (2 : Int) = ((2 : Nat) : Int) from rfl, this, e]
    rfl
  have hd : (encK l).drop 2 = (be (l.length : Int) 2 ++ l) ++ [] := by
    unfold encK
    rw [List.append_nil, List.drop_append_of_le_length (by rw [be_length]; omega), List.drop_of_length_le (by rw [be_length]; omega), List.nil_append]
  have hb := Sp_text.back (encK l) [] 2 l (by omega) ⟨h1, rfl⟩ hd
  have ht : btext ⟨(encK l).drop 2, 2, 0⟩ = (l, ⟨[], 2 + (2 + l.length), 0⟩) := by
    rcases QT.run (encK l) 2 (by omega) with ⟨e, st, p1, g1, x1, y1⟩ | ⟨b, r, p1, g1, n1, l1⟩
    · rw [hb] at p1
      exact nomatch p1
    · rw [hb] at p1
      injection p1 with p1
      obtain ⟨rfl, rfl⟩ := Prod.mk.inj p1
      rw [gText_eq] at g1
      have g1 := Option.some.inj g1
      have : 2 + (be (l.length : Int) 2 ++ l).length = (encK l).length := by rw [hlen, List.length_append, be_length]
      rw [this, List.drop_length, hlen] at g1
      exact g1
  unfold kdec
  rw [ha, ht]
  unfold kdB
  simp only
  rw [if_neg h3]
  rfl
end Go.Proofs.Ytlhgogjcaegehaa.Sl
namespace Go.Proofs.Ytlhgogjcaegehaa.Sl
open Go.RowKit Go.Maps Go.WideMaps
set_option linter.unusedVariables false
set_option linter.unusedSimpArgs false
def mins {α : Type} (k : List UInt8) (x : α) : List (List UInt8 × α) → List (List UInt8 × α)
  | [] => [(k, x)]
  | y :: r => if bytesBefore k y.1 = true then (k, x) :: y :: r else y :: mins k x r
def mrem {α : Type} (k : List UInt8) : List (List UInt8 × α) → List (List UInt8 × α)
  | [] => []
  | y :: r => if y.1 == k then mrem k r else y :: mrem k r
def mput {α : Type} (k : List UInt8) (x : α) (l : List (List UInt8 × α)) : List (List UInt8 × α) := mins k x (mrem k l)
def mget {α : Type} (k : List UInt8) : List (List UInt8 × α) → Option α
  | [] => none
  | y :: r => if y.1 == k then some y.2 else mget k r
def mhas {α : Type} (k : List UInt8) (l : List (List UInt8 × α)) : Bool := (mget k l).isSome
def tokR : Value → Option (DataW Value × List MemPlace) := fun v => some (.held v, [])
section
variable {α : Type} {E : Rd α} {w w' : World} {S S' : Nat → Prop} {k : List UInt8} {x : α}
def Ents (E : Rd α) (w : World) (S : Nat → Prop) : List (Lit × DataW Value) → List (List UInt8 × α) → Prop
  | [], [] => True
  | p :: es, y :: l => p.1 = .string y.1 ∧ (∃ cs : List Value, p.2 = .held (.agg cs.toArray) ∧ E.P w S cs y.2) ∧ Ents E w S es l
  | [], _ :: _ => False
  | _ :: _, [] => False
theorem Ents.mono : ∀ {es : List (Lit × DataW Value)} {l : List (List UInt8 × α)}, Ents E w S es l → (∀ k, S k → S' k) → Ents E w S' es l
  | [], [], _, _ => trivial
  | _ :: _, _ :: _, ⟨h1, ⟨cs, h2, h3⟩, h4⟩, k => ⟨h1, ⟨cs, h2, E.mono h3 k⟩, h4.mono k⟩
  | [], _ :: _, h, _ => h.elim
  | _ :: _, [], h, _ => h.elim
theorem Ents.move : ∀ {es : List (Lit × DataW Value)} {l : List (List UInt8 × α)}, Ents E w S es l → (∀ k, S k → w'.heap[k]? = w.heap[k]?) → Ents E w' S es l
  | [], [], _, _ => trivial
  | _ :: _, _ :: _, ⟨h1, ⟨cs, h2, h3⟩, h4⟩, k => ⟨h1, ⟨cs, h2, E.move h3 k⟩, h4.move k⟩
  | [], _ :: _, h, _ => h.elim
  | _ :: _, [], h, _ => h.elim
theorem Ents.length : ∀ {es : List (Lit × DataW Value)} {l : List (List UInt8 × α)}, Ents E w S es l → es.length = l.length
  | [], [], _ => rfl
  | _ :: _, _ :: _, ⟨_, _, h4⟩ => congrArg (· + 1) h4.length
  | [], _ :: _, h => h.elim
  | _ :: _, [], h => h.elim
theorem Ents.ins {cs : List Value} (hx : E.P w S cs x) : ∀ {es : List (Lit × DataW Value)} {l : List (List UInt8 × α)}, Ents E w S es l → Ents E w S (DataW.insert (.string k, .held (.agg cs.toArray)) es) (mins k x l)
  | [], [], _ => ⟨rfl, ⟨cs, rfl, hx⟩, trivial⟩
  | p :: es, y :: l, ⟨h1, h2, h3⟩ => by
    have e : (Lit.string k).before p.1 = bytesBefore k y.1 := by rw [h1]; rfl
    unfold DataW.insert mins
    show Ents E w S (if (Lit.string k).before p.1 = true then _ else _) _
    rw [e]
    split
    · exact ⟨rfl, ⟨cs, rfl, hx⟩, h1, h2, h3⟩
    · exact ⟨h1, h2, Ents.ins hx h3⟩
  | [], _ :: _, h => h.elim
  | _ :: _, [], h => h.elim
theorem notKey_str {p : Lit × DataW Value} {q : List UInt8} (h : p.1 = .string q) : p.1.sameKey (.string k) = (q == k) := by rw [h]; rfl
theorem Ents.del : ∀ {es : List (Lit × DataW Value)} {l : List (List UInt8 × α)}, Ents E w S es l → Ents E w S (es.filter fun p => !p.1.sameKey (.string k)) (mrem k l)
  | [], [], _ => trivial
  | p :: es, y :: l, ⟨h1, h2, h3⟩ => by
    have ih := Ents.del h3
    have e := notKey_str (k := k) h1
    unfold mrem
    rw [List.filter_cons]
    cases hq : (y.1 == k) with
    | true =>
      rw [hq] at e
      rw [e]
      exact ih
    | false =>
      rw [hq] at e
      rw [e]
      exact ⟨h1, h2, ih⟩
  | [], _ :: _, h => h.elim
  | _ :: _, [], h => h.elim
theorem atKey_cons (p : Lit × DataW Value) (es : List (Lit × DataW Value)) (kl : Lit) (z : DataW Value) : (DataW.map (p :: es)).atKey kl z = if p.1.sameKey kl = true then p.2 else (DataW.map es).atKey kl z := by
  simp only [DataW.atKey, List.find?_cons]
  cases p.1.sameKey kl <;> rfl
theorem Ents.find : ∀ {es : List (Lit × DataW Value)} {l : List (List UInt8 × α)}, Ents E w S es l →
    (mget k l = none ∧ (∀ z, (DataW.map es).atKey (.string k) z = z) ∧ has (.map es) (.string k) = false) ∨
    ∃ (cs : List Value) (x : α), mget k l = some x ∧ (∀ z, (DataW.map es).atKey (.string k) z = .held (.agg cs.toArray)) ∧ has (.map es) (.string k) = true ∧ E.P w S cs x
  | [], [], _ => .inl ⟨rfl, fun _ => rfl, rfl⟩
  | p :: es, y :: l, ⟨h1, ⟨cs, h2, h2'⟩, h3⟩ => by
    have e := notKey_str (k := k) h1
    have eh : has (.map (p :: es)) (.string k) = (p.1.sameKey (.string k) || has (.map es) (.string k)) := rfl
    rw [eh]
    unfold mget
    cases hq : (y.1 == k) with
    | true =>
      rw [hq] at e
      refine .inr ⟨cs, y.2, if_pos rfl, fun z => ?_, by rw [e]; rfl, h2'⟩
      rw [atKey_cons, e, if_pos rfl, h2]
    | false =>
      rw [hq] at e
      rw [if_neg (by decide), e]
      rcases Ents.find h3 with ⟨i1, i2, i3⟩ | ⟨cs', x', i1, i2, i3, i4⟩
      · refine .inl ⟨i1, fun z => ?_, by rw [i3]; rfl⟩
        rw [atKey_cons, e, if_neg (by decide), i2]
      · refine .inr ⟨cs', x', i1, fun z => ?_, by rw [i3]; rfl, i4⟩
        rw [atKey_cons, e, if_neg (by decide), i2]
  | [], _ :: _, h => h.elim
  | _ :: _, [], h => h.elim
end
theorem owns_fit {P : Program} {kt : TypeId} {w : World} {b n : Nat} {es : List (Lit × DataW Value)} (h : w.ownsMap P kt tokR b n (.map es)) : w.ownsMap P kt tokR b es.length (.map es) := by
  obtain ⟨es', clock, hb, F, hs, hD⟩ := h
  refine ⟨es', clock, hb, F, ?_, hD⟩
  injection hD with hD
  rw [hD, length_sorted]
  simp
theorem owns_move {P : Program} {kt : TypeId} {w w' : World} {b n : Nat} {D : DataW Value} (h : w.ownsMap P kt tokR b n D) (hm : w'.heap[b]? = w.heap[b]?) : w'.ownsMap P kt tokR b n D := by
  obtain ⟨es', clock, hb, F, hs, hD⟩ := h
  exact ⟨es', clock, hm.trans hb, F, hs, hD⟩
def MapR {α : Type} (P : Program) (kt : TypeId) (E : Rd α) (b : Nat) (l : List (List UInt8 × α)) : Res where
  P := fun w G => ∃ es S, w.ownsMap P kt tokR b l.length (.map es) ∧ Ents E w S es l ∧ (∀ k, S k → k < w.heap.size) ∧ ¬ S b ∧ ∀ k, G k ↔ k = b ∨ S k
  lt := by
    rintro w G ⟨es, S, h1, h2, h3, h4, h5⟩ k hk
    rcases (h5 k).1 hk with rfl | h
    · exact h1.lt
    · exact h3 k h
  move := by
    rintro w w' G ⟨es, S, h1, h2, h3, h4, h5⟩ hm
    refine ⟨es, S, owns_move h1 (hm b ((h5 b).2 (.inl rfl))), h2.move (fun k hk => hm k ((h5 k).2 (.inr hk))), fun k hk => ?_, h4, h5⟩
    have h6 := h3 k hk
    have h7 := hm k ((h5 k).2 (.inr hk))
    rw [Array.getElem?_eq_getElem h6] at h7
    exact (Array.getElem?_eq_some_iff.1 h7).1
def MapAt (P : Program) (kt : TypeId) (w : World) (b : Nat) (k : List UInt8) (cs : List Value) : Prop := ∃ es n, w.ownsMap P kt tokR b n (.map es) ∧ (∀ z, (DataW.map es).atKey (.string k) z = .held (.agg cs.toArray)) ∧ has (.map es) (.string k) = true
def EntK {α : Type} (B : Res) (P : Program) (kt : TypeId) (b : Nat) (E : Rd α) (k : List UInt8) (cs : List Value) (x : α) : Res where
  P := fun w G => B.P w G ∧ G b ∧ MapAt P kt w b k cs ∧ E.P w G cs x
  lt := fun h => B.lt h.1
  move := fun {w w' G} h hm => ⟨B.move h.1 hm, h.2.1, let ⟨es, n, k1, k2⟩ := h.2.2.1; ⟨es, n, owns_move k1 (hm b h.2.1), k2⟩, E.move h.2.2.2 hm⟩
section
variable {α : Type} {P : Program} {n : Nat} {F0 : Nat → Prop} {w0 w : World} {e : Env} {Rs Rf : List Res} {Q : Exit → Act → World → Prop} {ops : Array Oper} {d : Option Tmp} {i dd : Nat} {ty t kt et b : Nat} {pos : String} {af : Array Edge} {gd : Option (Nat × Bool)} {x y m : Operand} {lr : List Nat} {lo : Sch} {c : Code} {E : Rd α} {l : List (List UInt8 × α)} {k : List UInt8} {u : α} {B : Res} {cs : List Value} {zv : Value}
theorem mkey (hk : P.underlying kt = some .string) (hl : k.length ≤ 140737488355328) : keyOf P kt (.string (bsOf k)) = some (.string k) := by
  have h1 := keyOf_string_mk (s := bsOf k) hk (by rw [bsOf_size]; have : maxLen = 9223372036854775807 := rfl; omega)
  rwa [bsOf_list] at h1
theorem St.focM (j : Nat) (h : St F0 w0 Rs w) (hi : Rs[j]? = some (MapR P kt E b l)) (hx : mget k l = some u) : ∃ cs, (∃ w S, E.P w S cs u) ∧ St F0 w0 (Rs.set j (EntK (MapR P kt E b l) P kt b E k cs u)) w := by
  obtain ⟨f, hs⟩ := h
  obtain ⟨G, hG, h2, h3⟩ := Sep.pick j hi hs
  have hG' := hG
  obtain ⟨es, S, k1, k2, k3, k4, k5⟩ := hG
  rcases k2.find (k := k) with ⟨i1, _⟩ | ⟨cs, x', i1, i2, i3, i4⟩
  · rw [hx] at i1; cases i1
  · rw [hx] at i1
    injection i1 with i1
    subst i1
    exact ⟨cs, ⟨w, S, i4⟩, f, Sep.back j hi ⟨hG', (k5 b).2 (.inl rfl), ⟨es, _, k1, i2, i3⟩, E.mono i4 (fun q hq => (k5 q).2 (.inr hq))⟩ h2 h3⟩
theorem TL.focM (j : Nat) (hi : Rs[j]? = some (MapR P kt E b l)) (hx : mget k l = some u) (h : ∀ cs, (∃ w S, E.P w S cs u) → TL P n F0 w0 ops lr e (Rs.set j (EntK (MapR P kt E b l) P kt b E k cs u)) Q) : TL P n F0 w0 ops lr e Rs Q := by
  intro a w ha hs
  obtain ⟨cs, k1, k2⟩ := hs.focM j hi hx
  exact h cs k1 a w ha k2
theorem T.focM (j : Nat) (hi : Rs[j]? = some (MapR P kt E b l)) (hx : mget k l = some u) (h : ∀ cs, (∃ w S, E.P w S cs u) → T P n F0 w0 e (Rs.set j (EntK (MapR P kt E b l) P kt b E k cs u)) c Q) : T P n F0 w0 e Rs c Q := by
  intro a w ha hs
  obtain ⟨cs, k1, k2⟩ := hs.focM j hi hx
  exact h cs k1 a w ha k2
theorem St.unfM (j : Nat) (h : St F0 w0 Rs w) (hi : Rs[j]? = some (EntK B P kt b E k cs u)) : St F0 w0 (Rs.set j B) w := h.weaken j hi (fun G hG => hG.1)
theorem T.unfM (j : Nat) (hi : Rs[j]? = some (EntK B P kt b E k cs u)) (h : T P n F0 w0 e (Rs.set j B) c Q) : T P n F0 w0 e Rs c Q := fun a w ha hs => h a w ha (hs.unfM j hi)
theorem TL.unfM (j : Nat) (hi : Rs[j]? = some (EntK B P kt b E k cs u)) (h : TL P n F0 w0 ops lr e (Rs.set j B) Q) : TL P n F0 w0 ops lr e Rs Q := fun a w ha hs => h a w ha (hs.unfM j hi)
theorem X.unfM {z : Exit} (j : Nat) (hi : Rs[j]? = some (EntK B P kt b E k cs u)) (h : X n F0 w0 e (Rs.set j B) z Q) : X n F0 w0 e Rs z Q := fun a w ha hs => h a w ha (hs.unfM j hi)
theorem Ex.lookT (j : Nat) (hm : e.ev m = some (.map (some b))) (hy : e.ev y = some (.string (bsOf k))) (ht : P.underlying t = some (.map kt et)) (hk : P.underlying kt = some .string) (hz : ∀ w, (zeroValue et).run P w = .ok zv w) (hl : k.length ≤ 140737488355328) (hi : Rs[j]? = some B) (hB : ∀ w G, B.P w G → MapAt P kt w b k cs) :
    Ex P n e (St F0 w0 Rs) ⟨d, .lookup t m y true, ty, pos, af, gd⟩ (.tuple #[.agg cs.toArray, .bool true]) := by
  intro a w ha hs
  obtain ⟨G, hG, _⟩ := hs.get j hi
  obtain ⟨es, nn, k1, k2, k3⟩ := hB w G hG
  obtain ⟨v, ps, r1, r2⟩ := k1.look_ok (string_keyed hk) ht (hz w) (zd := .held zv) (zp := []) rfl (mkey hk hl)
  have e1 := congrArg Prod.fst (Option.some.inj r2)
  have e2 : (DataW.held v : DataW Value) = .held (.agg cs.toArray) := e1.trans (k2 _)
  injection e2 with e2
  rw [e2, k3] at r1
  simp [execOp, ha.ev hm, ha.ev hy, r1]
theorem Ex.lookF (j : Nat) (hm : e.ev m = some (.map (some b))) (hy : e.ev y = some (.string (bsOf k))) (ht : P.underlying t = some (.map kt et)) (hk : P.underlying kt = some .string) (hz : ∀ w, (zeroValue et).run P w = .ok zv w) (hl : k.length ≤ 140737488355328) (hi : Rs[j]? = some (MapR P kt E b l)) (hx : mhas k l = false) :
    Ex P n e (St F0 w0 Rs) ⟨d, .lookup t m y true, ty, pos, af, gd⟩ (.tuple #[zv, .bool false]) := by
  intro a w ha hs
  obtain ⟨G, ⟨es, S, k1, k2, k3, k4, k5⟩, _⟩ := hs.get j hi
  obtain ⟨v, ps, r1, r2⟩ := k1.look_ok (string_keyed hk) ht (hz w) (zd := .held zv) (zp := []) rfl (mkey hk hl)
  rcases k2.find (k := k) with ⟨i1, i2, i3⟩ | ⟨cs, x', i1, _⟩
  · have e1 := congrArg Prod.fst (Option.some.inj r2)
    have e2 : (DataW.held v : DataW Value) = .held zv := e1.trans (i2 _)
    injection e2 with e2
    rw [e2, i3] at r1
    simp [execOp, ha.ev hm, ha.ev hy, r1]
  · unfold mhas at hx
    rw [i1] at hx
    cases hx
theorem Ef.mkmap (hd : okd d n = true) (E : Rd α) : Ef P n F0 w0 e Rs ⟨d, .makeMap t none, ty, pos, af, gd⟩ (fun e' Rs' => ∃ b, e' = envput d (.map (some b)) e ∧ Rs' = MapR P kt E b ([] : List (List UInt8 × α)) :: Rs) := by
  intro a w K Q ha hs hk
  have h1 : (execOp a.eval ⟨d, .makeMap t none, ty, pos, af, gd⟩).run P w = .ok (.value (.map (some w.heap.size))) (w.alloc (.map #[] 0)) := by
    simp [execOp, run_makeMap]
  unfold Oper.wp
  rw [h1]
  refine hk _ _ ⟨_, rfl, rfl⟩ _ _ (ha.putd hd) (hs.grow (Ns := [MapR P kt E w.heap.size ([] : List (List UInt8 × α))]) (Fr.of_below ((Below.refl _ _).alloc (Nat.le_refl _) _)) ⟨fun k => k = w.heap.size, ⟨[], fun _ => False, World.ownsMap_made w P kt tokR, trivial, fun _ h => h.elim, fun h => h, fun k => by simp⟩, fun k hk => by omega, trivial⟩)
theorem Ef.mset (j q : Nat) (hm : e.ev m = some (.map (some b))) (hx : e.ev x = some (.string (bsOf k))) (hy : e.ev y = some (.agg cs.toArray)) (ht : P.underlying t = some (.map kt et)) (hk : P.underlying kt = some .string) (hl : l.length + 1 ≤ 140737488355328 ∧ k.length ≤ 140737488355328)
    (hi : Rs[j]? = some (MapR P kt E b l)) (hq : (Rs.eraseIdx j)[q]? = some B) (hE : ∀ w G, B.P w G → E.P w G cs u) :
    Ef P n F0 w0 e Rs ⟨none, .mapUpdate t m x y, ty, pos, af, gd⟩ (fun e' Rs' => e' = e ∧ Rs' = MapR P kt E b (mput k u l) :: (Rs.eraseIdx j).eraseIdx q) := by
  intro a w K Q ha hst hk'
  obtain ⟨f, hs⟩ := hst
  obtain ⟨G, ⟨es, S, k1, k2, k3, k4, k5⟩, g2, g3⟩ := Sep.pick j hi hs
  obtain ⟨G2, b1, b2, b3⟩ := Sep.pick q hq g3
  have hn : l.length < maxLen := by have : maxLen = 9223372036854775807 := rfl; omega
  obtain ⟨w', r1, r2, r3⟩ := k1.store (string_keyed hk) ht hn (mkey hk hl.2) (val := .agg cs.toArray) (d := .held (.agg cs.toArray)) (ps := []) rfl
  have hg := r3.grown
  have h1 : (execOp a.eval ⟨none, .mapUpdate t m x y, ty, pos, af, gd⟩).run P w = .ok .skip w' := by
    simp [execOp, ha.ev hm, ha.ev hx, ha.ev hy, r1]
  unfold Oper.wp
  rw [h1]
  have hGb : G b := (k5 b).2 (.inl rfl)
  have hS : ∀ z, S z → w'.heap[z]? = w.heap[z]? := fun z hz => hg.block z (k3 z hz) (fun h => k4 (by injection h with h; exact h ▸ hz))
  have hB2 : ∀ z, G2 z → w'.heap[z]? = w.heap[z]? := fun z hz => hg.block z (B.lt b1 z hz) (fun h => (b2 z hz).2 (by injection h with h; exact h ▸ hGb))
  have f2 : Fr G w w' := Fr.of_grown hg (fun z hz => by injection hz with hz; exact hz ▸ hGb)
  have hents : Ents E w' (fun z => S z ∨ G2 z) (DataW.insert (.string k, .held (.agg cs.toArray)) (es.filter fun p => !p.1.sameKey (.string k))) (mput k u l) :=
    Ents.ins (E.mono (E.move (hE w G2 b1) hB2) (fun _ h => .inr h)) (((k2.move hS).mono (fun _ h => .inl h)).del)
  refine hk' _ _ ⟨rfl, rfl⟩ _ _ ha.put0 ⟨f.trans f2 g2, fun z => z = b ∨ (S z ∨ G2 z), ⟨_, _, ?_, hents, ?_, ?_, fun _ => Iff.rfl⟩, ?_, ?_⟩
  · rw [← hents.length]
    exact owns_fit r2
  · rintro z (hz | hz)
    · exact Nat.lt_of_lt_of_le (k3 z hz) hg.size
    · exact Nat.lt_of_lt_of_le (B.lt b1 z hz) hg.size
  · rintro (h | h)
    · exact k4 h
    · exact (b2 b h).2 hGb
  · rintro z (rfl | hz | hz)
    · exact g2 z hGb
    · exact g2 z ((k5 z).2 (.inr hz))
    · exact (b2 z hz).1
  · refine (b3.inside.move (fun z hz _ => hg.block z hz.2 (fun h => hz.1.1.2 (by injection h with h; exact h ▸ hGb)))).mono (fun z hz => ⟨hz.1.1.1, ?_⟩)
    rintro (rfl | h | h)
    · exact hz.1.1.2 hGb
    · exact hz.1.1.2 ((k5 z).2 (.inr h))
    · exact hz.1.2 h
theorem Ef.mdel (j : Nat) (hm : e.ev m = some (.map (some b))) (hx : e.ev x = some (.string (bsOf k))) (ht : P.underlying t = some (.map kt et)) (hk : P.underlying kt = some .string) (hl : k.length ≤ 140737488355328)
    (hi : Rs[j]? = some (MapR P kt E b l)) (hd : okd d n = true) :
    Ef P n F0 w0 e Rs ⟨d, .call ⟨.builtin .delete, #[m, x], #[t, kt]⟩, ty, pos, af, gd⟩ (fun e' Rs' => e' = envput d (.tuple #[]) e ∧ Rs' = Rs.set j (MapR P kt E b (mrem k l))) := by
  intro a w K Q ha hst hk'
  obtain ⟨f, hs⟩ := hst
  obtain ⟨G, ⟨es, S, k1, k2, k3, k4, k5⟩, g2, g3⟩ := Sep.pick j hi hs
  obtain ⟨w', r1, r2, r3⟩ := k1.drop (string_keyed hk) ht (mkey hk hl) ty
  have hg := r3.grown
  have h1 : (execOp a.eval ⟨d, .call ⟨.builtin .delete, #[m, x], #[t, kt]⟩, ty, pos, af, gd⟩).run P w = .ok (.value (.tuple #[])) w' := by
    simp [execOp, resolve, invoke, builtin, ha.ev hm, ha.ev hx, r1]
  unfold Oper.wp
  rw [h1]
  have hGb : G b := (k5 b).2 (.inl rfl)
  have hS : ∀ z, S z → w'.heap[z]? = w.heap[z]? := fun z hz => hg.block z (k3 z hz) (fun h => k4 (by injection h with h; exact h ▸ hz))
  have f2 : Fr G w w' := Fr.of_grown hg (fun z hz => by injection hz with hz; exact hz ▸ hGb)
  have hents : Ents E w' S (es.filter fun p => !p.1.sameKey (.string k)) (mrem k l) := (k2.move hS).del
  refine hk' _ _ ⟨rfl, rfl⟩ _ _ (ha.putd hd) ⟨f.trans f2 g2, Sep.back j hi ⟨_, S, ?_, hents, fun z hz => Nat.lt_of_lt_of_le (k3 z hz) hg.size, k4, k5⟩ g2 ?_⟩
  · rw [← hents.length]
    exact owns_fit r2
  · exact (g3.inside.move (fun z hz _ => hg.block z hz.2 (fun h => hz.1.2 (by injection h with h; exact h ▸ hGb)))).mono (fun z hz => hz.1)
theorem TL.mkmap (E : Rd α) (ho : ops[i]? = some ⟨some dd, .makeMap t none, ty, pos, af, gd⟩) (hw : Wd n ops e ⟨some dd, .makeMap t none, ty, pos, af, gd⟩ true) (hd : Nat.blt dd n = true) (h : ∀ b, TL P n F0 w0 ops lr ((dd, .map (some b)) :: e) (MapR P kt E b ([] : List (List UInt8 × α)) :: Rs) Q) : TL P n F0 w0 ops (i :: lr) e Rs Q := by
  refine TL.ef ho hw (Ef.mkmap (P := P) (kt := kt) (d := some dd) hd E) ?_
  rintro _ _ ⟨b, rfl, rfl⟩
  exact h b
theorem TL.mset (j q : Nat) {u : α} (ho : ops[i]? = some ⟨none, .mapUpdate t m x y, ty, pos, af, gd⟩) (hw : Wd n ops e ⟨none, .mapUpdate t m x y, ty, pos, af, gd⟩ true) (hm : e.ev m = some (.map (some b))) (hx : e.ev x = some (.string (bsOf k))) (hy : e.ev y = some (.agg cs.toArray)) (ht : P.underlying t = some (.map kt et)) (hk : P.underlying kt = some .string) (hl : l.length + 1 ≤ 140737488355328 ∧ k.length ≤ 140737488355328)
    (hi : Rs[j]? = some (MapR P kt E b l)) (hq : (Rs.eraseIdx j)[q]? = some B) (hE : ∀ w G, B.P w G → E.P w G cs u) (h : TL P n F0 w0 ops lr e (MapR P kt E b (mput k u l) :: (Rs.eraseIdx j).eraseIdx q) Q) : TL P n F0 w0 ops (i :: lr) e Rs Q := by
  refine TL.ef ho hw (Ef.mset j q hm hx hy ht hk hl hi hq hE) ?_
  rintro _ _ ⟨rfl, rfl⟩
  exact h
theorem TD.mset (j q : Nat) {u : α} (ho : ops[i]? = some ⟨none, .mapUpdate t m x y, ty, pos, af, gd⟩) (hw : Wd n ops e ⟨none, .mapUpdate t m x y, ty, pos, af, gd⟩ true) (hm : e.ev m = some (.map (some b))) (hx : e.ev x = some (.string (bsOf k))) (hy : e.ev y = some (.agg cs.toArray)) (ht : P.underlying t = some (.map kt et)) (hk : P.underlying kt = some .string) (hl : l.length + 1 ≤ 140737488355328 ∧ k.length ≤ 140737488355328)
    (hi : Rs[j]? = some (MapR P kt E b l)) (hq : (Rs.eraseIdx j)[q]? = some B) (hE : ∀ w G, B.P w G → E.P w G cs u) (is : List Nat) (hf : Sel (MapR P kt E b (mput k u l) :: (Rs.eraseIdx j).eraseIdx q) is Rf) (h : TD P n F0 w0 ops lo Rf e (MapR P kt E b (mput k u l) :: (Rs.eraseIdx j).eraseIdx q) Q) : TD P n F0 w0 ops (.e i lo) Rf e Rs Q := by
  refine TD.ef ho hw (Ef.mset j q hm hx hy ht hk hl hi hq hE) ?_
  rintro _ _ ⟨rfl, rfl⟩
  exact ⟨Rf, fun w hw => hw.sel is hf, fun _ h => h, h⟩
theorem TL.mdel (j : Nat) (ho : ops[i]? = some ⟨d, .call ⟨.builtin .delete, #[m, x], #[t, kt]⟩, ty, pos, af, gd⟩) (hw : Wd n ops e ⟨d, .call ⟨.builtin .delete, #[m, x], #[t, kt]⟩, ty, pos, af, gd⟩ true) (hm : e.ev m = some (.map (some b))) (hx : e.ev x = some (.string (bsOf k))) (ht : P.underlying t = some (.map kt et)) (hk : P.underlying kt = some .string) (hl : k.length ≤ 140737488355328)
    (hi : Rs[j]? = some (MapR P kt E b l)) (hd : okd d n = true) (h : TL P n F0 w0 ops lr (envput d (.tuple #[]) e) (Rs.set j (MapR P kt E b (mrem k l))) Q) : TL P n F0 w0 ops (i :: lr) e Rs Q := by
  refine TL.ef ho hw (Ef.mdel j hm hx ht hk hl hi hd) ?_
  rintro _ _ ⟨rfl, rfl⟩
  exact h
end
end Go.Proofs.Ytlhgogjcaegehaa.Sl
namespace Go.Proofs.Ytlhgogjcaegehaa.Sl
open Go.RowKit
set_option linter.unusedVariables false
set_option linter.unusedSimpArgs false
structure JournalJournal where
  fknown : List (List UInt8 × Val)
  fmany : Int
def MbR_JournalJournal (g : Nat) (st : JournalJournal) : Res := PakR (fun x : Nat => [BlkR g 81 #[.map (some x), .int .i64 st.fmany], MapR Try.prog 9 Val_rd x st.fknown])
theorem MbR_JournalJournal_shut {n : Nat} {F0 : Nat → Prop} {w0 : World} {e : Env} {Rs Rs' : List Res} {Q : Exit → Act → World → Prop} {z : Exit} (g : Nat) (st : JournalJournal) (b0 : Nat) (hR : Rs = [BlkR g 81 #[.map (some b0), .int .i64 st.fmany], MapR Try.prog 9 Val_rd b0 st.fknown] ++ Rs') (h : X n F0 w0 e (MbR_JournalJournal g st :: Rs') z Q) : X n F0 w0 e Rs z Q := X.pakShut (b0) hR h
def Top_cop : Rd Top where
  P := fun w S cs x => ∃ (A0 : Option Addr) (c0 : Nat), cs = [.string (bsOf x.fName), .slice A0 x.fParts.length c0] ∧ ∃ H, (OwnR 3 1 intE (.slice A0 x.fParts.length c0) x.fParts).P w H ∧ ∀ k, H k → S k
  mono := fun ⟨A0, c0, e, H, h0, h1⟩ k => ⟨A0, c0, e, H, h0, fun q hq => k q (h1 q hq)⟩
  move := fun ⟨A0, c0, e, H, h0, h1⟩ k => ⟨A0, c0, e, H, (OwnR 3 1 intE _ _).move h0 (fun q hq => k q (h1 q hq)), h1⟩
theorem cop_top {w : World} {S : Nat → Prop} {cs : List Value} {x : Top} (h : Top_cop.P w S cs x) : Top_rd.P w S cs x := by
  obtain ⟨A0, c0, e, H, h0, h1⟩ := h
  exact ⟨A0, c0, e, (sliceRd 1 intE).mono (own_reads (by decide) _ _ h0) h1⟩
theorem cop_slice {w : World} {S : Nat → Prop} {v : Value} {xs : List Top} (h : (sliceRd 2 Top_cop).P w S [v] xs) : (sliceRd 2 Top_rd).P w S [v] xs := by
  rcases h with h | ⟨a, cap, e1, e2, e3, hb, hr⟩
  · exact .inl h
  · refine .inr ⟨a, cap, e1, e2, e3, hb, fun i x hx => ?_⟩
    obtain ⟨cs, k1, k2, k3⟩ := hr i x hx
    exact ⟨cs, k1, k2, cop_top k3⟩
section
variable {P : Program} {n : Nat} {F0 : Nat → Prop} {w0 w : World} {e : Env} {Rs Rf : List Res} {Q : Exit → Act → World → Prop} {ops : Array Oper} {d : Option Tmp} {i dd : Nat} {ty t t' el T : TypeId} {pos : String} {af : Array Edge} {gd : Option (Nat × Bool)} {x y : Operand} {lr : List Nat} {lo : Sch} {S : World → Prop} {v : Value} {xs : List Top}
theorem St.copRd (j : Nat) (h : St F0 w0 Rs w) (hi : Rs[j]? = some (OwnR T 2 Top_cop v xs)) : St F0 w0 (Rs.set j (RdR (sliceRd 2 Top_rd) [v] xs)) w :=
  h.weaken j hi (fun G hG => ⟨cop_slice (own_reads (by decide) _ _ hG), fun k hk => (OwnR T 2 Top_cop v xs).lt hG k hk⟩)
theorem TL.copRd (j : Nat) (hi : Rs[j]? = some (OwnR T 2 Top_cop v xs)) (h : TL P n F0 w0 ops lr e (Rs.set j (RdR (sliceRd 2 Top_rd) [v] xs)) Q) : TL P n F0 w0 ops lr e Rs Q := fun a w ha hs => h a w ha (hs.copRd j hi)
theorem Ex.slN {A : Option Addr} {m c : Nat} (hx : e.ev x = some (.slice A m c)) (hy : e.ev y = some (.slice none 0 0)) (hu : P.underlying t = some (.slice el)) : Ex P n e S ⟨d, .binOp .eql t x y t', ty, pos, af, gd⟩ (.bool A.isNone) := by
  intro a w ha _
  simp [execOp, ha.ev hx, ha.ev hy, eqGuard, Lib.run_eql_slice_nil w t el A m c 0 0 hu]
def TopR (Tt Ti : TypeId) (A : Option Addr) (n c : Nat) : Res where
  P := fun w G => (∀ k, G k → k < w.heap.size) ∧ ∀ i, i < n → ∃ g cur, A = some ⟨g, 0, none⟩ ∧ w.heap[g]? = some (.cells cur Tt (0, 0)) ∧ G g ∧
    ∃ s h m c' cur' z, cur[i * 2]? = some (.string s) ∧ cur[i * 2 + 1]? = some (.slice (some ⟨h, 0, none⟩) m c') ∧ 0 < m ∧ w.heap[h]? = some (.cells cur' Ti (0, 0)) ∧ G h ∧ cur'[0]? = some (.int .i64 z)
  lt := fun h k hk => h.1 k hk
  move := fun {w w' G} h hm => ⟨fun k hk => by
    have h1 := h.1 k hk
    have h2 := hm k hk
    rw [Array.getElem?_eq_getElem h1] at h2
    exact (Array.getElem?_eq_some_iff.1 h2).1, fun i hi => by
    obtain ⟨g, cur, a1, a2, a3, s, h', m, c', cur', z, b1, b2, b3, b4, b5, b6⟩ := h.2 i hi
    exact ⟨g, cur, a1, (hm g a3).trans a2, a3, s, h', m, c', cur', z, b1, b2, b3, (hm h' b5).trans b4, b5, b6⟩⟩
def TopK (Tt Ti : TypeId) (A : Option Addr) (n c g k h m c' : Nat) (z : Int) : Res where
  P := fun w G => (TopR Tt Ti A n c).P w G ∧ G g ∧ G h ∧ (∃ cur, w.heap[g]? = some (.cells cur Tt (0, 0)) ∧ cur[k * 2 + 1]? = some (.slice (some ⟨h, 0, none⟩) m c') ∧ k * 2 < cur.size) ∧ ∃ cur, w.heap[h]? = some (.cells cur Ti (0, 0)) ∧ cur[0]? = some (.int .i64 z)
  lt := fun h => (TopR Tt Ti A n c).lt h.1
  move := fun {w w' G} q hm => ⟨(TopR Tt Ti A n c).move q.1 hm, q.2.1, q.2.2.1, let ⟨cur, a1, a2⟩ := q.2.2.2.1; ⟨cur, (hm g q.2.1).trans a1, a2⟩, let ⟨cur, a1, a2⟩ := q.2.2.2.2; ⟨cur, (hm h q.2.2.1).trans a1, a2⟩⟩
variable {A : Option Addr} {c Tt Ti : Nat}
theorem St.copTop (j : Nat) (h : St F0 w0 Rs w) (hi : Rs[j]? = some (OwnR T 2 Top_cop (.slice A xs.length c) xs)) (hx : ∀ x, x ∈ xs → x.fParts ≠ []) : St F0 w0 (Rs.set j (TopR T 3 A xs.length c)) w := by
  refine h.weaken j hi (fun G hG => ⟨fun k hk => (OwnR T 2 Top_cop _ xs).lt hG k hk, fun i hi => ?_⟩)
  obtain ⟨cells, S, h1, h2, h3, h4, h5⟩ := hG
  rcases h1.2 with ⟨_, hn⟩ | ⟨g, cap, cur, hv, _, hb, q1, q2, q3, q4⟩
  · omega
  injection hv with hv1 hv2 hv3
  have hx0 : xs[i]? = some xs[i] := List.getElem?_eq_getElem hi
  obtain ⟨e1, e2⟩ := elems_get h2 hx0
  obtain ⟨A0, c0, e3, H, e4, e5⟩ := e2
  have hat : ∀ j, j < 2 → cur[i * 2 + j]? = ((cells.drop (i * 2)).take 2)[j]? := by
    intro j hj
    have hlt : i * 2 + j < xs.length * 2 := by omega
    rw [List.getElem?_take, if_pos hj, List.getElem?_drop, ← q4, List.getElem?_take, if_pos hlt, Array.getElem?_toList]
  have hne : xs[i].fParts ≠ [] := hx _ (List.getElem_mem hi)
  obtain ⟨cells', S', k1, k2, k3, k4, k5⟩ := e4
  rcases k1.2 with ⟨_, hn⟩ | ⟨g', cap', cur', hv', _, hb', r1, r2, r3, r4⟩
  · exact absurd (List.length_eq_zero_iff.1 hn) hne
  injection hv' with hv1' hv2' hv3'
  have hG' : G g := (h5 g).2 (.inl (by rw [hv1]; rfl))
  have hH : S g' := e5 g' ((k5 g').2 (.inl (by rw [hv1']; rfl)))
  have hpos : 0 < xs[i].fParts.length := List.length_pos_iff.2 hne
  obtain ⟨z0, hz0⟩ : ∃ z, xs[i].fParts[0]? = some z := ⟨_, List.getElem?_eq_getElem hpos⟩
  obtain ⟨p1, p2⟩ := elems_get k2 hz0
  have hc0 : cells'[0]? = some (.int .i64 z0) := by
    have p3 : (cells'.drop (0 * 1)).take 1 = [.int .i64 z0] := p2
    rw [Nat.zero_mul, List.drop_zero] at p3
    have := congrArg (·[0]?) p3
    simpa [List.getElem?_take] using this
  have h0 := hat 0 (by decide)
  have h1' := hat 1 (by decide)
  rw [e3] at h0 h1'
  refine ⟨g, cur, hv1, hb, hG', bsOf xs[i].fName, g', xs[i].fParts.length, c0, cur', z0, by simpa using h0, ?_, hpos, hb', (h5 g').2 (.inr hH), ?_⟩
  · rw [← hv1']
    simpa using h1'
  · rw [← r4, List.getElem?_take, Nat.mul_one, if_pos hpos, Array.getElem?_toList] at hc0
    exact hc0
theorem TL.copTop (j : Nat) (hi : Rs[j]? = some (OwnR T 2 Top_cop (.slice A xs.length c) xs)) (hx : ∀ x, x ∈ xs → x.fParts ≠ []) (h : TL P n F0 w0 ops lr e (Rs.set j (TopR T 3 A xs.length c)) Q) : TL P n F0 w0 ops lr e Rs Q := fun a w ha hs => h a w ha (hs.copTop j hi hx)
theorem TL.topO {nn k : Nat} (j : Nat) (hi : Rs[j]? = some (TopR Tt Ti A nn c)) (hk : k < nn) (h : ∀ g h m c' z, A = some ⟨g, 0, none⟩ → 0 < m → TL P n F0 w0 ops lr e (Rs.set j (TopK Tt Ti A nn c g k h m c' z)) Q) : TL P n F0 w0 ops lr e Rs Q := by
  intro a w ha hs
  obtain ⟨f, hp⟩ := hs
  obtain ⟨G, hG, h2, h3⟩ := Sep.pick j hi hp
  obtain ⟨g, cur, a1, a2, a3, s, h', m, c', cur', z, b1, b2, b3, b4, b5, b6⟩ := hG.2 k hk
  exact h g h' m c' z a1 b3 a w ha ⟨f, Sep.back j hi ⟨hG, a3, b5, ⟨cur, a2, b2, (Array.getElem?_eq_some_iff.1 b1).1⟩, ⟨cur', b4, b6⟩⟩ h2 h3⟩
theorem Ex.topL {nn g k h m c' o : Nat} {z : Int} (j : Nat) (hx : e.ev x = some (.pointer (some ⟨g, o, none⟩))) (ho : o = 0 + k * 2 + 1) (ha : ∀ w, (isAgg t).run P w = .ok false w) (hi : Rs[j]? = some (TopK Tt Ti A nn c g k h m c' z)) : Ex P n e (St F0 w0 Rs) ⟨d, .load t x, ty, pos, af, gd⟩ (.slice (some ⟨h, 0, none⟩) m c') :=
  Ex.ld1 hx ha (fun w hw => by
    obtain ⟨G, hG, _⟩ := hw.get j hi
    obtain ⟨cur, k1, k2, _⟩ := hG.2.2.2.1
    rw [ho, Nat.zero_add, heap_at k1, k2])
theorem Ex.topI {nn g k h m c' o : Nat} {z : Int} (j : Nat) (hx : e.ev x = some (.pointer (some ⟨h, o, none⟩))) (ho : o = 0) (ha : ∀ w, (isAgg t).run P w = .ok false w) (hi : Rs[j]? = some (TopK Tt Ti A nn c g k h m c' z)) : Ex P n e (St F0 w0 Rs) ⟨d, .load t x, ty, pos, af, gd⟩ (.int .i64 z) :=
  Ex.ld1 hx ha (fun w hw => by
    obtain ⟨G, hG, _⟩ := hw.get j hi
    obtain ⟨cur, k1, k2⟩ := hG.2.2.2.2
    rw [ho, heap_at k1, k2])
theorem run_store1 {w : World} (b o : Nat) (T : TypeId) (cur : Array Value) (u : Value) (hz : ∀ w, (sizeOf t).run P w = .ok 1 w) (hu : u.cells = #[u]) (h1 : u.oneCell' = true) (hb : w.heap[b]? = some (.cells cur T (0, 0))) (ho : o < cur.size) {a : Act} (hx : a.eval x = .pointer (some ⟨b, o, none⟩)) (hy : a.eval y = u) :
    (execOp a.eval ⟨none, .store t x y, ty, pos, af, gd⟩).run P w = .ok .skip (w.setRow b (cur.toList.take o ++ [u] ++ cur.toList.drop (o + 1)).toArray) := by
  have h5 := run_storeCells_at (P := P) b o T [u] 0 cur w hb (by simp; omega) (by simpa using h1)
  simp only [Nat.add_zero] at h5
  simp [execOp, hx, hy, Instr.storeAt, Instr.sureAddr, storeVar, hz, hu, h5]
theorem set_at {cur : Array Value} {o q : Nat} {u : Value} (ho : o < cur.size) : ((cur.toList.take o ++ [u] ++ cur.toList.drop (o + 1)).toArray)[q]? = if q = o then some u else cur[q]? := by
  have e : cur.toList.take o ++ [u] ++ cur.toList.drop (o + 1) = cur.toList.set o u := by
    rw [List.set_eq_take_append_cons_drop, if_pos (by simpa using ho)]
    simp
  rw [e, List.getElem?_toArray, List.getElem?_set]
  by_cases c : o = q
  · subst c
    rw [if_pos rfl, if_pos rfl, if_pos (by simpa using ho)]
  · rw [if_neg c, if_neg (fun h => c h.symm), Array.getElem?_toList]
theorem TL.topSt {nn g k h m c' o : Nat} {z z' : Int} (j : Nat) (hTT : Tt ≠ Ti) (hop : ops[i]? = some ⟨none, .store t x y, ty, pos, af, gd⟩) (hw : Wd n ops e ⟨none, .store t x y, ty, pos, af, gd⟩ true) (hx : e.ev x = some (.pointer (some ⟨h, o, none⟩))) (ho : o = 0) (hy : e.ev y = some (.int .i64 z')) (hz : ∀ w, (sizeOf t).run P w = .ok 1 w) (hi : Rs[j]? = some (TopK Tt Ti A nn c g k h m c' z))
    (hk : TL P n F0 w0 ops lr e (Rs.set j (TopR Tt Ti A nn c)) Q) : TL P n F0 w0 ops (i :: lr) e Rs Q := by
  refine TL.ef (R := fun e' Rs' => e' = e ∧ Rs' = Rs.set j (TopR Tt Ti A nn c)) hop hw ?_ ?_
  rotate_left
  · rintro _ _ ⟨rfl, rfl⟩
    exact hk
  subst ho
  intro a w K Q ha hs hk'
  obtain ⟨G, hG, _⟩ := hs.get j hi
  obtain ⟨cur, a1, a2⟩ := hG.2.2.2.2
  have hlt : 0 < cur.size := (Array.getElem?_eq_some_iff.1 a2).1
  unfold Oper.wp
  rw [run_store1 h 0 Ti cur (.int .i64 z') hz rfl rfl a1 hlt (ha.ev hx) (ha.ev hy)]
  refine hk' _ _ ⟨rfl, rfl⟩ _ _ ha.put0 (hs.step j hi (Ns := []) (fun G' hG' => ?_))
  have hGh := hG'.2.2.1
  obtain ⟨cur2, d1, d2⟩ := hG'.2.2.2.2
  rw [a1] at d1
  injection d1 with d1
  injection d1 with d1
  subst d1
  refine ⟨⟨rfl, rfl, rfl, by simp [World.setRow], fun q hq hn => setRow_other w h q _ (fun e => hn (e ▸ hGh))⟩, G', ⟨fun q hq => by rw [show (w.setRow h _).heap.size = w.heap.size by simp [World.setRow]]; exact hG'.1.1 q hq, fun i hi => ?_⟩, fun q hq => .inl hq, trivial⟩
  obtain ⟨g1, cur1, b1, b2, b3, s, h1, m1, c1, cur', z1, f1, f2, f3, f4, f5, f6⟩ := hG'.1.2 i hi
  have hne : g1 ≠ h := fun q => hTT (by rw [q, a1] at b2; injection b2 with b2; injection b2 with _ b2; exact b2.symm)
  by_cases q : h1 = h
  · subst q
    rw [a1] at f4
    injection f4 with f4
    injection f4 with f4
    subst f4
    exact ⟨g1, cur1, b1, (setRow_other w h1 g1 _ hne).trans b2, b3, s, h1, m1, c1, _, z', f1, f2, f3, setRow_heap w h1 cur _ Ti (0, 0) a1, f5, by rw [set_at hlt, if_pos rfl]⟩
  · exact ⟨g1, cur1, b1, (setRow_other w h g1 _ hne).trans b2, b3, s, h1, m1, c1, cur', z1, f1, f2, f3, (setRow_other w h h1 _ q).trans f4, f5, f6⟩
theorem TL.topNm {nn g k h m c' o : Nat} {z : Int} {l : List UInt8} (j : Nat) (hTT : Tt ≠ Ti) (hop : ops[i]? = some ⟨none, .store t x y, ty, pos, af, gd⟩) (hw : Wd n ops e ⟨none, .store t x y, ty, pos, af, gd⟩ true) (hx : e.ev x = some (.pointer (some ⟨g, o, none⟩))) (ho : o = 0 + k * 2) (hy : e.ev y = some (.string (bsOf l))) (hz : ∀ w, (sizeOf t).run P w = .ok 1 w) (hi : Rs[j]? = some (TopK Tt Ti A nn c g k h m c' z))
    (hk : TL P n F0 w0 ops lr e (Rs.set j (TopR Tt Ti A nn c)) Q) : TL P n F0 w0 ops (i :: lr) e Rs Q := by
  refine TL.ef (R := fun e' Rs' => e' = e ∧ Rs' = Rs.set j (TopR Tt Ti A nn c)) hop hw ?_ ?_
  rotate_left
  · rintro _ _ ⟨rfl, rfl⟩
    exact hk
  rw [Nat.zero_add] at ho
  subst ho
  intro a w K Q ha hs hk'
  obtain ⟨G, hG, _⟩ := hs.get j hi
  obtain ⟨cur, a1, a2, hlt⟩ := hG.2.2.2.1
  unfold Oper.wp
  rw [run_store1 g (k * 2) Tt cur (.string (bsOf l)) hz rfl rfl a1 hlt (ha.ev hx) (ha.ev hy)]
  refine hk' _ _ ⟨rfl, rfl⟩ _ _ ha.put0 (hs.step j hi (Ns := []) (fun G' hG' => ?_))
  have hGg := hG'.2.1
  refine ⟨⟨rfl, rfl, rfl, by simp [World.setRow], fun q hq hn => setRow_other w g q _ (fun e => hn (e ▸ hGg))⟩, G', ⟨fun q hq => by rw [show (w.setRow g _).heap.size = w.heap.size by simp [World.setRow]]; exact hG'.1.1 q hq, fun i hi => ?_⟩, fun q hq => .inl hq, trivial⟩
  obtain ⟨g1, cur1, b1, b2, b3, s, h1, m1, c1, cur', z1, f1, f2, f3, f4, f5, f6⟩ := hG'.1.2 i hi
  have hne : h1 ≠ g := fun q => hTT (by rw [q, a1] at f4; injection f4 with f4; injection f4 with _ f4)
  by_cases q : g1 = g
  · subst q
    rw [a1] at b2
    injection b2 with b2
    injection b2 with b2
    subst b2
    by_cases q2 : i * 2 = k * 2
    · exact ⟨g1, _, b1, setRow_heap w g1 cur _ Tt (0, 0) a1, b3, bsOf l, h1, m1, c1, cur', z1, by rw [set_at hlt, if_pos q2], by rw [set_at hlt, if_neg (by omega)]; exact f2, f3, (setRow_other w g1 h1 _ hne).trans f4, f5, f6⟩
    · exact ⟨g1, _, b1, setRow_heap w g1 cur _ Tt (0, 0) a1, b3, s, h1, m1, c1, cur', z1, by rw [set_at hlt, if_neg q2]; exact f1, by rw [set_at hlt, if_neg (by omega)]; exact f2, f3, (setRow_other w g1 h1 _ hne).trans f4, f5, f6⟩
  · exact ⟨g1, cur1, b1, (setRow_other w g g1 _ q).trans b2, b3, s, h1, m1, c1, cur', z1, f1, f2, f3, (setRow_other w g h1 _ hne).trans f4, f5, f6⟩
end
theorem ft_jr_ok : FTab.OK Try.prog [] := trivial
theorem sok_jr : SOK Try.prog 44 3 0 1 #[] := SOK.mk0 Try.runUnderlying44 Try.sizeOf3
theorem inf_jr : (Try.prog.info? 3).map (fun i => (i.zero, i.size, i.bytes)) = some (some (.int .i64 0), 1, 8) := by kernel_rfl
def gClone (a0 : List Int) : Option (List Int) := if a0.length * 8 ≤ 140737488355328 then some a0 else none
set_option maxRecDepth 100000 in
set_option maxHeartbeats 4000000 in
theorem gClone_spec (a0 : List Int) (A1 : Option Addr) (c2 : Nat) (r : List Int) (h : gClone a0 = some r) : SpecX Try.prog 57 #[.slice A1 a0.length c2] (RX.of (sliceRd 1 intE) [.slice A1 a0.length c2] a0) (EmpR) (fun v A' N => ∃ (A7 : Option Addr) (c8 : Nat), v = .slice A7 r.length c8 ∧ A' = EmpR ∧ N = [OwnR 3 1 intE (.slice A7 r.length c8) r]) := by
  unfold gClone at h
  obtain ⟨c4, h⟩ := guard_some h
  obtain rfl := Option.some.inj h
  refine enterA Try.func57 rfl Try.ntmps57 rfl ?_
  intro F w hX
  refine T.seq (T.region rfl ?_)
  refine TL.run ft_jr_ok [0] rfl rfl ?_
  refine TL.nil (X.seq (T.seq (T.seq (T.region rfl ?_))))
  refine TL.run ft_jr_ok [0] rfl rfl ?_
  refine TL.q rfl .u (Ex.slN rfl rfl Try.underlying44) rfl ?_
  refine TL.nil (X.seq ?_)
  rcases A1 with _ | A1
  · have hn : a0 = [] := by
      obtain ⟨S, hS, _⟩ := hX
      rcases hS with ⟨_, h⟩ | ⟨a, cap, h, _⟩
      · exact h
      · injection h with h
        injection h with h
        cases h
    subst hn
    refine T.yes rfl rfl ?_
    refine T.seq (T.region rfl ?_)
    refine TL.run ft_jr_ok [0] rfl rfl ?_
    refine TL.nil (X.seq (T.ret (X.rs ?_)))
    refine X.nilrow 3 1 intE ?_
    exact X.done1 [1, 0] Try.results57 (RV.tm rfl) ⟨none, 0, rfl, rfl, rfl⟩ (by rfl) (.inl rfl)
  refine T.no rfl rfl ?_
  refine T.skip (X.seq (T.seq (T.region rfl ?_)))
  refine TL.lit (cells := #[]) rfl .u sok_jr rfl (by rfl) rfl (fun b3 => ?_)
  refine TL.rowOf (us := []) (xs := ([] : List Int)) (E := intE) (z := 1) rfl (Nat.le_of_ble_eq_true rfl) (fun _ => rfl) ?_
  refine TL.run ft_jr_ok [1] rfl rfl ?_
  refine TL.appX (cf := fun x : Int => [.int .i64 x]) (l := ([] : List Int)) (l2 := a0) (E := intE) 0 rfl .u ⟨fun _ _ _ _ h => h, fun _ => rfl, fun _ _ _ => rfl, fun _ => rfl⟩ Try.underlying44 inf_jr rfl (by decide) rfl rfl hX rfl (by simpa using c4) (by simp only [List.length_nil]; omega) rfl (fun A5 c6 => ?_)
  refine TL.sel [0, 0] rfl ?_
  refine TL.run ft_jr_ok [3] rfl rfl ?_
  refine TL.nil (X.seq (T.ret ?_))
  exact X.done1 [1, 0] Try.results57 (RV.tm rfl) ⟨_, _, rfl, rfl, rfl⟩ (by rfl) (.inl rfl)
end Go.Proofs.Ytlhgogjcaegehaa.Sl
namespace Go.Proofs
open Go.RowKit Go.Maps Go.Sort Go.Shelf
def Try.keys40_ren : Go.Shelf.Ren := ⟨fun | 7 => 40 | 10 => 61 | n => n, fun | 23 => 79 | 26 => 9 | 3 => 24 | 28 => 89 | 0 => 0 | 27 => 88 | 33 => 70 | 4 => 4 | n => n, fun | n => n⟩
theorem Try.keys40 : Go.Proofs.SlLaysZ.n7 Try.prog Try.keys40_ren := {
  mixed := by kernel_rfl
  f7 := ⟨Try.f40.name, by decide, Try.func40.trans (congrArg some (by kernel_rfl))⟩
  f10 := ⟨Try.f61.name, by decide, Try.func61.trans (congrArg some (by kernel_rfl))⟩
  t0 := Try.underlying0
  a0 := Try.isAgg0
  z0 := Try.sizeOf0
  v0 := Try.zeroValue0
  t4 := Try.underlying4
  a4 := Try.isAgg4
  z4 := Try.sizeOf4
  v4 := Try.zeroValue4
  t23 := Try.underlying79
  a23 := Try.isAgg79
  z23 := Try.sizeOf79
  v23 := Try.zeroValue79
  t26 := Try.underlying9
  a26 := Try.isAgg9
  z26 := Try.sizeOf9
  v26 := Try.zeroValue9
  t27 := Try.underlying88
  a27 := Try.isAgg88
  z27 := Try.sizeOf88
  v27 := Try.zeroValue88
  t28 := Try.underlying89
  a28 := Try.isAgg89
  z28 := Try.sizeOf89
  v28 := Try.zeroValue89
  t33 := Try.underlying70
  a33 := Try.isAgg70
  z33 := Try.sizeOf70
  v33 := Try.zeroValue70 }
def Try.sorted39_ren : Go.Shelf.Ren := ⟨fun | 6 => 39 | 8 => 59 | 9 => 60 | 11 => 74 | 13 => 76 | 12 => 75 | 23 => 90 | 24 => 91 | 14 => 81 | 15 => 82 | 16 => 83 | 17 => 84 | 18 => 85 | 19 => 86 | 20 => 87 | 21 => 88 | 22 => 89 | 25 => 93 | 26 => 94 | 27 => 95 | 28 => 96 | 29 => 97 | 30 => 98 | 31 => 99 | n => n, fun | 26 => 9 | 28 => 89 | 24 => 48 | 0 => 0 | 3 => 3 | 37 => 109 | 48 => 142 | 50 => 144 | 4 => 4 | 40 => 135 | 39 => 134 | 45 => 139 | 5 => 5 | 9 => 9 | 51 => 145 | 55 => 149 | 57 => 151 | 58 => 152 | 33 => 70 | n => n, fun | n => n⟩
theorem Try.sorted39 : Go.Proofs.SlLaysZ.n6 Try.prog Try.sorted39_ren := {
  mixed := by kernel_rfl
  f6 := ⟨Try.f39.name, by decide, Try.func39.trans (congrArg some (by kernel_rfl))⟩
  f8 := ⟨Try.f59.name, by decide, Try.func59.trans (congrArg some (by kernel_rfl))⟩
  f11 := ⟨Try.f74.name, by decide, Try.func74.trans (congrArg some (by kernel_rfl))⟩
  t0 := Try.underlying0
  a0 := Try.isAgg0
  z0 := Try.sizeOf0
  v0 := Try.zeroValue0
  t24 := Try.underlying48
  a24 := Try.isAgg48
  z24 := Try.sizeOf48
  v24 := Try.zeroValue48
  t26 := Try.underlying9
  a26 := Try.isAgg9
  z26 := Try.sizeOf9
  v26 := Try.zeroValue9
  t28 := Try.underlying89
  a28 := Try.isAgg89
  z28 := Try.sizeOf89
  v28 := Try.zeroValue89
  i26 := by kernel_rfl }
def Try.sort60_ren : Go.Shelf.Ren := ⟨fun | 6 => 60 | 8 => 76 | 9 => 75 | 19 => 90 | 20 => 91 | 21 => 81 | 22 => 82 | 23 => 83 | 24 => 84 | 25 => 85 | 26 => 86 | 27 => 87 | 28 => 88 | 29 => 89 | 36 => 93 | 31 => 94 | 32 => 95 | 37 => 96 | 38 => 97 | 39 => 98 | 41 => 99 | n => n, fun | 27 => 48 | 29 => 9 | 3 => 3 | 32 => 109 | 26 => 48 | 0 => 0 | 44 => 142 | 46 => 144 | 4 => 4 | 36 => 135 | 35 => 134 | 41 => 139 | 5 => 5 | 9 => 9 | 53 => 145 | 57 => 149 | 63 => 151 | 64 => 152 | n => n, fun | n => n⟩
theorem Try.sort60 : Go.Proofs.SlLaysM.n6 Try.prog Try.sort60_ren := {
  mixed := by kernel_rfl
  f6 := ⟨Try.f60.name, by decide, Try.func60.trans (congrArg some (by kernel_rfl))⟩
  f8 := Try.func76.trans (congrArg some (by kernel_rfl))
  f9 := ⟨Try.f75.name, by decide, Try.func75.trans (congrArg some (by kernel_rfl))⟩
  f19 := Try.func90.trans (congrArg some (by kernel_rfl))
  f20 := Try.func91.trans (congrArg some (by kernel_rfl))
  f21 := ⟨Try.f81.name, by decide, Try.func81.trans (congrArg some (by kernel_rfl))⟩
  f22 := ⟨Try.f82.name, by decide, Try.func82.trans (congrArg some (by kernel_rfl))⟩
  f23 := ⟨Try.f83.name, by decide, Try.func83.trans (congrArg some (by kernel_rfl))⟩
  f24 := ⟨Try.f84.name, by decide, Try.func84.trans (congrArg some (by kernel_rfl))⟩
  f25 := ⟨Try.f85.name, by decide, Try.func85.trans (congrArg some (by kernel_rfl))⟩
  f26 := ⟨Try.f86.name, by decide, Try.func86.trans (congrArg some (by kernel_rfl))⟩
  f27 := ⟨Try.f87.name, by decide, Try.func87.trans (congrArg some (by kernel_rfl))⟩
  f28 := ⟨Try.f88.name, by decide, Try.func88.trans (congrArg some (by kernel_rfl))⟩
  f29 := ⟨Try.f89.name, by decide, Try.func89.trans (congrArg some (by kernel_rfl))⟩
  f31 := Try.func94.trans (congrArg some (by kernel_rfl))
  f32 := Try.func95.trans (congrArg some (by kernel_rfl))
  f36 := ⟨Try.f93.name, by decide, Try.func93.trans (congrArg some (by kernel_rfl))⟩
  f37 := ⟨Try.f96.name, by decide, Try.func96.trans (congrArg some (by kernel_rfl))⟩
  f38 := ⟨Try.f97.name, by decide, Try.func97.trans (congrArg some (by kernel_rfl))⟩
  f39 := ⟨Try.f98.name, by decide, Try.func98.trans (congrArg some (by kernel_rfl))⟩
  f41 := ⟨Try.f99.name, by decide, Try.func99.trans (congrArg some (by kernel_rfl))⟩
  t0 := Try.underlying0
  a0 := Try.isAgg0
  z0 := Try.sizeOf0
  v0 := Try.zeroValue0
  t3 := Try.underlying3
  a3 := Try.isAgg3
  z3 := Try.sizeOf3
  v3 := Try.zeroValue3
  t4 := Try.underlying4
  a4 := Try.isAgg4
  z4 := Try.sizeOf4
  v4 := Try.zeroValue4
  t5 := Try.underlying5
  a5 := Try.isAgg5
  z5 := Try.sizeOf5
  v5 := Try.zeroValue5
  t9 := Try.underlying9
  a9 := Try.isAgg9
  z9 := Try.sizeOf9
  v9 := Try.zeroValue9
  t26 := Try.underlying48
  a26 := Try.isAgg48
  z26 := Try.sizeOf48
  v26 := Try.zeroValue48
  t27 := Try.underlying48
  a27 := Try.isAgg48
  z27 := Try.sizeOf48
  v27 := Try.zeroValue48
  t29 := Try.underlying9
  a29 := Try.isAgg9
  z29 := Try.sizeOf9
  v29 := Try.zeroValue9
  t32 := Try.underlying109
  a32 := Try.isAgg109
  z32 := Try.sizeOf109
  v32 := Try.zeroValue109
  t35 := Try.underlying134
  a35 := Try.isAgg134
  z35 := Try.sizeOf134
  v35 := Try.zeroValue134
  t36 := Try.underlying135
  a36 := Try.isAgg135
  z36 := Try.sizeOf135
  v36 := Try.zeroValue135
  t41 := Try.underlying139
  a41 := Try.isAgg139
  z41 := Try.sizeOf139
  v41 := Try.zeroValue139
  t44 := Try.underlying142
  a44 := Try.isAgg142
  z44 := Try.sizeOf142
  v44 := Try.zeroValue142
  t46 := Try.underlying144
  a46 := Try.isAgg144
  z46 := Try.sizeOf144
  v46 := Try.zeroValue144
  t53 := Try.underlying145
  a53 := Try.isAgg145
  z53 := Try.sizeOf145
  v53 := Try.zeroValue145
  t57 := Try.underlying149
  a57 := Try.isAgg149
  z57 := Try.sizeOf149
  v57 := Try.zeroValue149
  t63 := Try.underlying151
  a63 := Try.isAgg151
  z63 := Try.sizeOf151
  v63 := Try.zeroValue151
  t64 := Try.underlying152
  a64 := Try.isAgg152
  z64 := Try.sizeOf152
  v64 := Try.zeroValue152 }
theorem Try.sorts39 (m : Nat) : AnyZ.SortsIn Try.prog Try.sorted39_ren Fence.wide m :=
  ⟨fun blk off cap ss W hH hblk hsz => callsIn_wide.2 (AnyM.slices_Sort_string Try.sort60 blk off cap ss W hH hblk hsz),
   fun p cap W => callsIn_wide.2 (AnyM.slices_Sort_string_none Try.sort60 p cap W)⟩
theorem Try.maps_Keys_40 (mb : Option Nat) (W : World) : CallsIn Fence.wide 5 Try.prog 40 #[.map mb] W fun e w' => e = .returned (.func (.func 61) #[] #[.pointer (some ⟨W.heap.size, 0, none⟩)]) ∧ w' = W.alloc (.cells #[.map mb] 79) :=
  AnyZ.keys_in Try.keys40 Fence.wide 5 trivial rfl mb W
end Go.Proofs
namespace Go.Proofs.Ytlhgogjcaegehaa.Sl
open Go.RowKit Go.Maps Go.Sort
set_option linter.unusedVariables false
set_option linter.unusedSimpArgs false
theorem before_lt : ∀ {a b : List UInt8}, bytesBefore a b = true → a < b
  | [], [], h => by cases h
  | [], _ :: _, _ => List.nil_lt_cons _ _
  | _ :: _, [], h => by cases h
  | x :: a, y :: b, h => by
    have h' : (decide (x < y) || (x == y && bytesBefore a b)) = true := h
    rw [List.cons_lt_cons_iff]
    rcases Bool.or_eq_true_iff.1 h' with h1 | h1
    · exact .inl (of_decide_eq_true h1)
    · obtain ⟨h2, h3⟩ := Bool.and_eq_true_iff.1 h1
      exact .inr ⟨by simpa using h2, before_lt h3⟩
def Rise {α : Type} (l : List (List UInt8 × α)) : Prop := (l.map Prod.fst).Pairwise (fun a b => bytesBefore a b = true)
theorem ents_keys {α : Type} {E : Rd α} {w : World} {S : Nat → Prop} : ∀ {es : List (Lit × DataW Value)} {l : List (List UInt8 × α)}, Ents E w S es l → es.map Prod.fst = (l.map Prod.fst).map Lit.string
  | [], [], _ => rfl
  | p :: es, y :: l, ⟨h1, _, h4⟩ => by rw [List.map_cons, List.map_cons, List.map_cons, h1, ents_keys h4]
  | [], _ :: _, h => h.elim
  | _ :: _, [], h => h.elim
theorem strKeys_ents {α : Type} {E : Rd α} {w : World} {S : Nat → Prop} {es : List (Lit × DataW Value)} {l : List (List UInt8 × α)} (h : Ents E w S es l) : strKeys (DataW.map es) = l.map Prod.fst := by
  have e : strKeys (DataW.map es) = (es.map Prod.fst).map strOf := by
    show es.map (fun p => strOf p.1) = _
    rw [List.map_map]
    rfl
  rw [e, ents_keys h, List.map_map]
  conv => rhs; rw [← List.map_id (l.map Prod.fst)]
  rfl
theorem owns_rise {α : Type} {P : Program} {kt : TypeId} {E : Rd α} {w : World} {S : Nat → Prop} {b n : Nat} {es : List (Lit × DataW Value)} {l : List (List UInt8 × α)} (hk : P.underlying kt = some .string) (h : w.ownsMap P kt tokR b n (.map es)) (he : Ents E w S es l) : Rise l := by
  obtain ⟨es', clock, hb, F, hs, hD⟩ := h
  injection hD with hD
  have h1 := sorted_sorted (string_keyed hk).one _ (fit_keys F) (fit_apart (string_keyed hk) F)
  rw [← hD] at h1
  have h2 : (es.map Prod.fst).Pairwise (fun a b => a.before b = true) := List.pairwise_map.2 h1
  rw [ents_keys he] at h2
  exact List.pairwise_map.1 h2
theorem sort_rise {α : Type} {l : List (List UInt8 × α)} (h : Rise l) : (l.map Prod.fst).mergeSort leB = l.map Prod.fst := by
  refine List.mergeSort_of_pairwise ?_
  exact h.imp (fun {a b} hab => decide_eq_true (List.le_of_lt (before_lt hab)))
def RX.res (R : Res) : RX := ⟨fun w S => ∃ G, R.P w G ∧ ∀ k, G k → S k, fun ⟨G, h1, h2⟩ h => ⟨G, h1, fun k hk => h k (h2 k hk)⟩, fun ⟨G, h1, h2⟩ h => ⟨G, R.move h1 (fun k hk => h k (h2 k hk)), h2⟩⟩
theorem res_reads {R : Res} : ∀ w G, R.P w G → (RX.res R).P w G := fun w G h => ⟨G, h, fun _ h => h⟩
theorem jkeys_spec (b : Nat) : SpecX Try.prog 40 #[.map (some b)] .triv EmpR (fun v A' N => ∃ q : Nat, v = .func (.func 61) #[] #[.pointer (some ⟨q, 0, none⟩)] ∧ A' = EmpR ∧ N = [BlkR q 79 #[.map (some b)]]) := by
  intro F w hA _
  refine (callsIn_wide.1 (Try.maps_Keys_40 (some b) w)).mono ?_
  rintro e w' ⟨rfl, rfl⟩
  exact ⟨_, _, _, rfl, ⟨_, rfl, rfl, rfl⟩, ((SpecX.start hA).alloc #[.map (some b)] 79).sel [1, 0] rfl⟩
theorem blk_cell {b T : Nat} {cs : Array Value} {w : World} {G : Nat → Prop} (h : (BlkR b T cs).P w G) (i : Nat) : w.cell? ⟨b, i, none⟩ = cs[i]? := heap_at h.1 i
theorem jsorted_spec {α : Type} (E : Rd α) (b q : Nat) (l : List (List UInt8 × α)) (hl : l.length ≤ 8796093022208) : SpecX Try.prog 39 #[.func (.func 61) #[] #[.pointer (some ⟨q, 0, none⟩)]] (RX.and (RX.res (BlkR q 79 #[.map (some b)])) (RX.res (MapR Try.prog 9 E b l))) EmpR
    (fun v A' N => ∃ (A : Option Addr) (c : Nat), v = .slice A (l.map Prod.fst).length c ∧ A' = EmpR ∧ N = [OwnR 9 1 strE (.slice A (l.map Prod.fst).length c) (l.map Prod.fst)]) := by
  intro F w hA hX
  obtain ⟨S, ⟨⟨G1, h1, h2⟩, ⟨G2, h3, h4⟩⟩, hS⟩ := hX
  obtain ⟨es, S2, k1, k2, k3, k4, k5⟩ := h3
  have hk : Try.prog.underlying 9 = some .string := Try.underlying9
  have hsz : Maps.size (DataW.map es) = l.length := k2.length
  have hmax : Maps.size (DataW.map es) ≤ maxLen := by rw [hsz]; have : maxLen = 9223372036854775807 := rfl; omega
  have hbytes : Maps.size (DataW.map es) * 16 ≤ 140737488355328 := by rw [hsz]; omega
  have hc : w.cell? ⟨q, 0, none⟩ = some (.map (some b)) := (blk_cell h1 0).trans rfl
  have hseq : SeqGives Fence.wide 2 Try.prog 61 #[.pointer (some ⟨q, 0, none⟩)] encStr (fun ss => ss.Perm (strKeys (DataW.map es))) (Maps.size (DataW.map es)) w :=
    AnyZ.keys_gives (ρ := Try.keys40_ren) { Try.keys40 with } Fence.wide _ trivial rfl (by omega) q b _ (DataW.map es) w (heap_lt h1.1) hc k1
  refine (callsIn_wide.1 (AnyZ.sorted_in Try.sorted39 Fence.wide 5 trivial trivial trivial trivial rfl (by omega) (Try.sorts39 _) (enters_of Try.func60 (by kernel_rfl) rfl) 61 #[.pointer (some ⟨q, 0, none⟩)] trivial (enters_of Try.func61 (by kernel_rfl) rfl) _ _ hmax hbytes w hseq)).mono ?_
  rintro e w' ⟨v, ss, rfl, hperm, hrow, hnil, hb⟩
  rw [strKeys_ents k2] at hperm
  have hsort : ss.mergeSort leB = l.map Prod.fst := (mergeSort_of_perm hperm).trans (sort_rise (owns_rise hk k1 k2))
  have hlen : ss.length = (l.map Prod.fst).length := hperm.length_eq
  rw [show (ss.mergeSort (fun x y => decide (x ≤ y))) = l.map Prod.fst from hsort, hlen] at hrow
  have hrow0 : w'.ownsRow 0 9 1 v (l.map Prod.fst).length ((l.map Prod.fst).map encStr) := ownsRow_base_a hrow (Nat.zero_le _)
  obtain ⟨A, c, rfl⟩ := row_slice hrow0
  refine ⟨_, _, _, rfl, ⟨A, c, rfl, rfl, rfl⟩, Fr.of_below hb, fun _ => False, fun _ h => h, fun _ h => h.elim, fun k => (Value.slice A (l.map Prod.fst).length c).ownBlock = some k, ⟨_, fun _ => False, hrow0, ?_, fun _ h => h.elim, fun _ _ h => h, fun k => by simp⟩, fun k hk => ?_, trivial⟩
  · generalize l.map Prod.fst = ks
    clear hrow hrow0 hperm hsort hlen
    induction ks with
    | nil => rfl
    | cons k ks ih => exact ⟨rfl, rfl, ih⟩
  · have := (hrow.lt k hk).1
    exact ⟨.inr this, fun h => h⟩
def gJIDs (st : JournalJournal) : Option (List (List UInt8) × JournalJournal) := if st.fknown.length ≤ 8796093022208 then some (st.fknown.map Prod.fst, st) else none
def ft_ji : FTab := [(81, 0, 0)]
set_option maxRecDepth 100000 in
theorem ft_ji_ok : (ft_ji).OK Try.prog := ⟨FOK.mk Try.runUnderlying81 rfl Try.sizeOf79 rfl, trivial⟩
set_option maxRecDepth 100000 in
set_option maxHeartbeats 4000000 in
theorem gJIDs_spec (g : Nat) (st : JournalJournal) (r : List (List UInt8) × JournalJournal) (h : gJIDs st = some r) : SpecX Try.prog 17 #[.pointer (some ⟨g, 0, none⟩)] .triv (MbR_JournalJournal g st) (fun v A' N => ∃ (A : Option Addr) (c : Nat), v = .slice A r.1.length c ∧ A' = MbR_JournalJournal g r.2 ∧ N = [OwnR 9 1 strE (.slice A r.1.length c) r.1]) := by
  unfold gJIDs at h
  obtain ⟨hl, h⟩ := guard_some h
  obtain rfl := Option.some.inj h
  refine enterA Try.func17 rfl Try.ntmps17 rfl ?_
  intro F w hX
  refine T.pakOpen 0 rfl ?_
  rintro b1
  refine T.sel [0, 0] rfl ?_
  refine T.seq (T.region rfl ?_)
  refine TL.run ft_ji_ok [0] rfl rfl ?_
  refine TL.nil (X.seq (T.seq (T.region rfl ?_)))
  refine TL.run ft_ji_ok [0, 1, 2] rfl rfl ?_
  refine TL.q rfl .u (Ex.b1 0 rfl Try.isAgg79 rfl rfl) rfl ?_
  refine TL.cge rfl .u (.fn Try.call40 rfl) (jkeys_spec b1) (fun _ hs => RX.reads_triv _ _) rfl ?_
  rintro _ _ _ ⟨q, rfl, rfl, rfl⟩
  refine TL.sel [0, 0, 0] rfl ?_
  refine TL.cge rfl .u (.fn Try.call39 rfl) (jsorted_spec Val_rd b1 q st.fknown hl) (fun _ hs => RX.reads_and (SrcE.res 0 hs rfl res_reads) (SrcE.res 2 hs rfl res_reads)) rfl ?_
  rintro _ _ _ ⟨A, c, rfl, rfl, rfl⟩
  refine TL.sel [0, 0, 0, 0] rfl ?_
  refine TL.run ft_ji_ok [6] rfl rfl ?_
  refine TL.nil (X.seq (T.ret ?_))
  refine X.sel [2, 2, 0] rfl ?_
  refine MbR_JournalJournal_shut g st b1 rfl ?_
  exact X.done1 [0, 0] Try.results17 (RV.tm rfl) ⟨_, _, rfl, rfl, rfl⟩ (by rfl) (.inl rfl)
end Go.Proofs.Ytlhgogjcaegehaa.Sl
namespace Go.Proofs.Ytlhgogjcaegehaa.Sl
open Go.RowKit
set_option linter.unusedVariables false
set_option linter.unusedSimpArgs false
set_option maxRecDepth 100000
def ft_journal : FTab := [(24, 4, 4), (28, 0, 0), (28, 1, 1), (30, 0, 0), (30, 1, 1), (46, 0, 0), (46, 1, 1), (81, 0, 0), (81, 1, 1)]
theorem ft_journal_ok : (ft_journal).OK Try.prog := ⟨FOK.mk Try.runUnderlying24 rfl Try.sizeOf22 rfl, FOK.mk Try.runUnderlying28 rfl Try.sizeOf4 rfl, FOK.mk Try.runUnderlying28 rfl Try.sizeOf9 rfl, FOK.mk Try.runUnderlying30 rfl Try.sizeOf9 rfl, FOK.mk Try.runUnderlying30 rfl Try.sizeOf28 rfl, FOK.mk Try.runUnderlying46 rfl Try.sizeOf9 rfl, FOK.mk Try.runUnderlying46 rfl Try.sizeOf44 rfl, FOK.mk Try.runUnderlying81 rfl Try.sizeOf79 rfl, FOK.mk Try.runUnderlying81 rfl Try.sizeOf3 rfl, trivial⟩
def nt_journal : List Nat := [3, 4, 9, 22, 79]
theorem nt_journal_ok : NOK Try.prog nt_journal := ⟨Try.isAgg3, Try.isAgg4, Try.isAgg9, Try.isAgg22, Try.isAgg79, trivial⟩
theorem mix_journal : Try.prog.follows .mixedOrders = true := by kernel_rfl
theorem bok_journal_30 : BOK Try.prog 30 #[.string ⟨#[]⟩, .bool false, .string ⟨#[]⟩] [(0, 1), (1, 2)] := BOK.mk Try.zeroValue30 Try.runUnderlying30 (by intro w; simp)
theorem bok_journal_46 : BOK Try.prog 46 #[.string ⟨#[]⟩, .slice none 0 0] [(0, 1), (1, 1)] := BOK.mk Try.zeroValue46 Try.runUnderlying46 (by intro w; simp)
theorem bok_journal_81 : BOK Try.prog 81 #[.map none, .int .i64 0] [(0, 1), (1, 1)] := BOK.mk Try.zeroValue81 Try.runUnderlying81 (by intro w; simp)
theorem sok_journal_22_1 : SOK Try.prog 22 46 1 2 #[.string ⟨#[]⟩, .slice none 0 0] := SOK.mk Try.runUnderlying22 Try.sizeOf46 Try.zeroValue46 (by decide) (by kernel_rfl)
theorem inf_journal_46 : (Try.prog.info? 46).map (fun i => (i.zero, i.size, i.bytes)) = some (some (.agg #[.string ⟨#[]⟩, .slice none 0 0]), 2, 40) := by kernel_rfl
def f_journal_Put (a0 : List UInt8) (a1 : Val) : Option (JournalEntry × Int) := (gKEncode a0).bind fun (x5, x6) => if x6 = 0 then ((f_value_Encode a1).bind fun (x9, x10) => if x10 = 0 then ((gOf x9).bind fun x13 => some ((⟨x5, x13⟩ : JournalEntry), 0)) else (some ((⟨[], (⟨false, []⟩ : Bl)⟩ : JournalEntry), x10))) else (some ((⟨[], (⟨false, []⟩ : Bl)⟩ : JournalEntry), x6))
set_option maxRecDepth 100000 in
set_option maxHeartbeats 4000000 in
theorem f_journal_Put_spec (a0 : List UInt8) (a1 : Val) (A1 : Option Addr) (c2 : Nat) (r : JournalEntry × Int) (h : f_journal_Put a0 a1 = some r) : SpecX Try.prog 8 #[.string (bsOf a0), .agg #[.int .i64 a1.fProducer, .int .i64 a1.fEpoch, .int .i64 a1.fTimeout, .int .i64 a1.fState, .slice A1 a1.fTopics.length c2, .int .i64 a1.fUpdated, .int .i64 a1.fStarted]] (RX.of (sliceRd 2 Top_rd) [.slice A1 a1.fTopics.length c2] a1.fTopics) (EmpR) (fun v A' N => v = .tuple #[.agg #[.string (bsOf r.1.fKey), .bool r.1.fValue.null, .string (bsOf r.1.fValue.data)], .int .i64 r.2] ∧ A' = EmpR ∧ N = []) := by
  refine enterA Try.func8 rfl Try.ntmps8 rfl ?_
  intro F w hX
  unfold f_journal_Put at h
  refine T.seq (T.region rfl ?_)
  refine TL.box rfl .u rfl rfl (fun b3 => ?_)
  refine TL.alloc rfl .u Try.zeroValue30 rfl (fun b4 => ?_)
  refine TL.run ft_journal_ok [2] rfl rfl ?_
  refine TL.nil (X.seq (T.seq (T.region rfl ?_)))
  obtain ⟨⟨x5, x6⟩, hx7, h⟩ := Option.bind_eq_some_iff.1 h
  try dsimp only at h
  refine TL.run ft_journal_ok [0] rfl rfl ?_
  refine TL.ce rfl .u (.fn Try.call10 rfl) (gKEncode_spec a0 _ hx7) (fun _ hs => (RX.reads_triv _ _)) rfl ?_
  refine TL.run ft_journal_ok [2, 3, 4, 5, 6] rfl rfl ?_
  refine TL.nil (X.seq (T.seq (T.seq (T.region rfl ?_))))
  refine TL.run ft_journal_ok [0, 1] rfl rfl ?_
  by_cases c8 : x6 = 0
  · replace h := ifT c8 h
    refine TL.nil (X.seq ?_)
    refine T.no rfl (bn_f (decide_eq_true c8)) ?_
    refine T.skip (X.seq (T.seq (T.region rfl ?_)))
    refine TL.q rfl .u (Ex.bS (us := [.int .i64 a1.fProducer, .int .i64 a1.fEpoch, .int .i64 a1.fTimeout, .int .i64 a1.fState, .slice A1 a1.fTopics.length c2, .int .i64 a1.fUpdated, .int .i64 a1.fStarted]) 1 rfl Try.isAgg24 Try.sizeOf24 rfl rfl rfl) rfl ?_
    obtain ⟨⟨x9, x10⟩, hx11, h⟩ := Option.bind_eq_some_iff.1 h
    try dsimp only at h
    refine TL.ce rfl .u (.fn Try.call26 rfl) (f_value_Encode_spec a1 _ _ _ hx11) (fun _ hs => (SrcE.old hs hX)) rfl ?_
    refine TL.run ft_journal_ok [2, 3, 4, 5, 6] rfl rfl ?_
    refine TL.nil (X.seq (T.seq (T.seq (T.region rfl ?_))))
    refine TL.run ft_journal_ok [0, 1] rfl rfl ?_
    by_cases c12 : x10 = 0
    · replace h := ifT c12 h
      refine TL.nil (X.seq ?_)
      refine T.no rfl (bn_f (decide_eq_true c12)) ?_
      refine T.skip (X.seq (T.seq (T.region rfl ?_)))
      obtain ⟨x13, hx14, h⟩ := Option.bind_eq_some_iff.1 h
      refine TL.run ft_journal_ok [0, 1] rfl rfl ?_
      refine TL.ce rfl .u (.fn Try.call27 rfl) (gOf_spec x9 _ hx14) (fun _ hs => (RX.reads_triv _ _)) rfl ?_
      refine TL.q rfl .u (Ex.bld (cells := #[.string (bsOf x5), .bool x13.null, .string (bsOf x13.data)]) bok_journal_30 rfl (by kernel_rfl)) rfl ?_
      refine TL.st0 (cs' := #[.string (bsOf x5), .bool x13.null, .string (bsOf x13.data)]) rfl .u rfl rfl Try.sizeOf30 rfl rfl rfl rfl ?_
      refine TL.run ft_journal_ok [5] rfl rfl ?_
      obtain rfl := Option.some.inj h
      exact TL.nil (X.seq (T.ret (X.done2 [2] Try.results8 (RV.cS (us := #[.string (bsOf x5), .bool x13.null, .string (bsOf x13.data)]) 0 rfl Try.isAgg30 Try.sizeOf30 rfl rfl) (RV.tm rfl) ⟨rfl, rfl, rfl⟩ (by rfl) (.inl rfl))))
    · replace h := ifF c12 h
      refine TL.nil (X.seq ?_)
      refine T.yes rfl (bn_t (decide_eq_false c12)) ?_
      refine T.seq (T.region rfl ?_)
      refine TL.q rfl .u (Ex.bld (cells := #[.string ⟨#[]⟩, .bool false, .string ⟨#[]⟩]) bok_journal_30 rfl (by kernel_rfl)) rfl ?_
      refine TL.run ft_journal_ok [1] rfl rfl ?_
      refine TL.st0 (cs' := #[.string ⟨#[]⟩, .bool false, .string ⟨#[]⟩]) rfl .u rfl rfl Try.sizeOf30 rfl rfl rfl rfl ?_
      refine TL.run ft_journal_ok [3] rfl rfl ?_
      obtain rfl := Option.some.inj h
      exact TL.nil (X.seq (T.ret (X.rs (X.done2 [2] Try.results8 (RV.cS (us := #[.string ⟨#[]⟩, .bool false, .string ⟨#[]⟩]) 0 rfl Try.isAgg30 Try.sizeOf30 rfl rfl) (RV.tm rfl) ⟨rfl, rfl, rfl⟩ (by rfl) (.inl rfl)))))
  · replace h := ifF c8 h
    refine TL.nil (X.seq ?_)
    refine T.yes rfl (bn_t (decide_eq_false c8)) ?_
    refine T.seq (T.region rfl ?_)
    refine TL.q rfl .u (Ex.bld (cells := #[.string ⟨#[]⟩, .bool false, .string ⟨#[]⟩]) bok_journal_30 rfl (by kernel_rfl)) rfl ?_
    refine TL.run ft_journal_ok [1] rfl rfl ?_
    refine TL.st0 (cs' := #[.string ⟨#[]⟩, .bool false, .string ⟨#[]⟩]) rfl .u rfl rfl Try.sizeOf30 rfl rfl rfl rfl ?_
    refine TL.run ft_journal_ok [3] rfl rfl ?_
    obtain rfl := Option.some.inj h
    exact TL.nil (X.seq (T.ret (X.rs (X.done2 [2] Try.results8 (RV.cS (us := #[.string ⟨#[]⟩, .bool false, .string ⟨#[]⟩]) 0 rfl Try.isAgg30 Try.sizeOf30 rfl rfl) (RV.tm rfl) ⟨rfl, rfl, rfl⟩ (by rfl) (.inl rfl)))))
def f_journal_Drop (a0 : List UInt8) : Option (JournalEntry × Int) := (gKEncode a0).bind fun (x2, x3) => if x3 = 0 then ((gNone).bind fun x6 => some ((⟨x2, x6⟩ : JournalEntry), 0)) else (some ((⟨[], (⟨false, []⟩ : Bl)⟩ : JournalEntry), x3))
set_option maxRecDepth 100000 in
set_option maxHeartbeats 4000000 in
theorem f_journal_Drop_spec (a0 : List UInt8) (r : JournalEntry × Int) (h : f_journal_Drop a0 = some r) : SpecX Try.prog 9 #[.string (bsOf a0)] .triv (EmpR) (fun v A' N => v = .tuple #[.agg #[.string (bsOf r.1.fKey), .bool r.1.fValue.null, .string (bsOf r.1.fValue.data)], .int .i64 r.2] ∧ A' = EmpR ∧ N = []) := by
  refine enterA Try.func9 rfl Try.ntmps9 rfl ?_
  intro F w hX
  unfold f_journal_Drop at h
  refine T.seq (T.region rfl ?_)
  refine TL.alloc rfl .u Try.zeroValue30 rfl (fun b1 => ?_)
  refine TL.run ft_journal_ok [1] rfl rfl ?_
  refine TL.nil (X.seq (T.seq (T.region rfl ?_)))
  obtain ⟨⟨x2, x3⟩, hx4, h⟩ := Option.bind_eq_some_iff.1 h
  try dsimp only at h
  refine TL.run ft_journal_ok [0] rfl rfl ?_
  refine TL.ce rfl .u (.fn Try.call10 rfl) (gKEncode_spec a0 _ hx4) (fun _ hs => (RX.reads_triv _ _)) rfl ?_
  refine TL.run ft_journal_ok [2, 3, 4, 5, 6] rfl rfl ?_
  refine TL.nil (X.seq (T.seq (T.seq (T.region rfl ?_))))
  refine TL.run ft_journal_ok [0, 1] rfl rfl ?_
  by_cases c5 : x3 = 0
  · replace h := ifT c5 h
    refine TL.nil (X.seq ?_)
    refine T.no rfl (bn_f (decide_eq_true c5)) ?_
    refine T.skip (X.seq (T.seq (T.region rfl ?_)))
    obtain ⟨x6, hx7, h⟩ := Option.bind_eq_some_iff.1 h
    refine TL.run ft_journal_ok [0] rfl rfl ?_
    refine TL.ce rfl .u (.fn Try.call28 rfl) (gNone_spec _ hx7) (fun _ hs => (RX.reads_triv _ _)) rfl ?_
    refine TL.q rfl .u (Ex.bld (cells := #[.string (bsOf x2), .bool x6.null, .string (bsOf x6.data)]) bok_journal_30 rfl (by kernel_rfl)) rfl ?_
    refine TL.st0 (cs' := #[.string (bsOf x2), .bool x6.null, .string (bsOf x6.data)]) rfl .u rfl rfl Try.sizeOf30 rfl rfl rfl rfl ?_
    refine TL.run ft_journal_ok [4] rfl rfl ?_
    obtain rfl := Option.some.inj h
    exact TL.nil (X.seq (T.ret (X.done2 [1] Try.results9 (RV.cS (us := #[.string (bsOf x2), .bool x6.null, .string (bsOf x6.data)]) 0 rfl Try.isAgg30 Try.sizeOf30 rfl rfl) (RV.tm rfl) ⟨rfl, rfl, rfl⟩ (by rfl) (.inl rfl))))
  · replace h := ifF c5 h
    refine TL.nil (X.seq ?_)
    refine T.yes rfl (bn_t (decide_eq_false c5)) ?_
    refine T.seq (T.region rfl ?_)
    refine TL.q rfl .u (Ex.bld (cells := #[.string ⟨#[]⟩, .bool false, .string ⟨#[]⟩]) bok_journal_30 rfl (by kernel_rfl)) rfl ?_
    refine TL.run ft_journal_ok [1] rfl rfl ?_
    refine TL.st0 (cs' := #[.string ⟨#[]⟩, .bool false, .string ⟨#[]⟩]) rfl .u rfl rfl Try.sizeOf30 rfl rfl rfl rfl ?_
    refine TL.run ft_journal_ok [3] rfl rfl ?_
    obtain rfl := Option.some.inj h
    exact TL.nil (X.seq (T.ret (X.rs (X.done2 [1] Try.results9 (RV.cS (us := #[.string ⟨#[]⟩, .bool false, .string ⟨#[]⟩]) 0 rfl Try.isAgg30 Try.sizeOf30 rfl rfl) (RV.tm rfl) ⟨rfl, rfl, rfl⟩ (by rfl) (.inl rfl)))))
def f_journal_New  : Option (JournalJournal) := some (⟨[], 0⟩ : JournalJournal)
set_option maxRecDepth 100000 in
set_option maxHeartbeats 4000000 in
theorem f_journal_New_spec  (r : JournalJournal) (h : f_journal_New  = some r) : SpecX Try.prog 12 #[] .triv (EmpR) (fun v A' N => ∃ q : Nat, v = .pointer (some ⟨q, 0, none⟩) ∧ A' = EmpR ∧ N = [MbR_JournalJournal q r]) := by
  refine enterA Try.func12 rfl Try.ntmps12 rfl ?_
  intro F w hX
  unfold f_journal_New at h
  refine T.seq (T.region rfl ?_)
  refine TL.run ft_journal_ok [0] rfl rfl ?_
  refine TL.nil (X.seq (T.seq (T.region rfl ?_)))
  refine TL.mkmap (kt := 9) Val_rd rfl .u rfl (fun b1 => ?_)
  refine TL.q rfl .u (Ex.bld (cells := #[.map (some b1), .int .i64 0]) bok_journal_81 rfl (by kernel_rfl)) rfl ?_
  refine TL.box rfl .u rfl rfl (fun b2 => ?_)
  refine TL.run ft_journal_ok [3] rfl rfl ?_
  obtain rfl := Option.some.inj h
  refine TL.nil (X.seq (T.ret ?_))
  refine X.sel [0, 0, 0] rfl ?_
  refine MbR_JournalJournal_shut b2 (⟨[], 0⟩ : JournalJournal) b1 rfl ?_
  exact X.done1 [1, 0] Try.results12 (RV.tm rfl) ⟨_, rfl, rfl, rfl⟩ (by rfl) (.inl rfl)
def f_journal_JournalApply (st : JournalJournal) (a1 : JournalEntry) : Option (Int × JournalJournal) := (gKDecode a1.fKey).bind fun (x3, x4) => if x4 = 0 then ((gRight a1.fValue).bind fun x7 => if x7 = true then (if a1.fValue.null = true then (if x3.length ≤ 140737488355328 then (if -9223372036854775808 ≤ (st.fmany + 1) ∧ (st.fmany + 1) ≤ 9223372036854775807 then (some (0, (⟨(mrem x3 st.fknown), (st.fmany + 1)⟩ : JournalJournal))) else none) else none) else ((f_value_Decode a1.fValue.data).bind fun (x13, x16) => if x16 = 0 then (if st.fknown.length + 1 ≤ 140737488355328 ∧ x3.length ≤ 140737488355328 then (if -9223372036854775808 ≤ (st.fmany + 1) ∧ (st.fmany + 1) ≤ 9223372036854775807 then (some (0, (⟨(mput x3 x13 st.fknown), (st.fmany + 1)⟩ : JournalJournal))) else none) else none) else some (x16, st))) else some (4, st)) else some (x4, st)
set_option maxRecDepth 100000 in
set_option maxHeartbeats 4000000 in
theorem f_journal_JournalApply_spec (g : Nat) (st : JournalJournal) (a1 : JournalEntry) (r : Int × JournalJournal) (h : f_journal_JournalApply st a1 = some r) : SpecX Try.prog 14 #[.pointer (some ⟨g, 0, none⟩), .agg #[.string (bsOf a1.fKey), .bool a1.fValue.null, .string (bsOf a1.fValue.data)]] .triv (MbR_JournalJournal g st) (fun v A' N => v = .int .i64 r.1 ∧ A' = MbR_JournalJournal g r.2 ∧ N = []) := by
  refine enterA Try.func14 rfl Try.ntmps14 rfl ?_
  intro F w hX
  refine T.pakOpen 0 rfl ?_
  rintro b1
  refine T.sel [0, 0] rfl ?_
  unfold f_journal_JournalApply at h
  refine T.seq (T.region rfl ?_)
  refine TL.box rfl .u rfl rfl (fun b2 => ?_)
  refine TL.run ft_journal_ok [1] rfl rfl ?_
  refine TL.nil (X.seq (T.seq (T.region rfl ?_)))
  obtain ⟨⟨x3, x4⟩, hx5, h⟩ := Option.bind_eq_some_iff.1 h
  try dsimp only at h
  refine TL.rb ft_journal_ok nt_journal_ok 0 rfl 2 rfl rfl ?_
  refine TL.ce rfl .u (.fn Try.call18 rfl) (gKDecode_spec a1.fKey _ hx5) (fun _ hs => (RX.reads_triv _ _)) rfl ?_
  refine TL.run ft_journal_ok [3, 4, 5, 6, 7] rfl rfl ?_
  refine TL.nil (X.seq (T.seq (T.seq (T.region rfl ?_))))
  refine TL.run ft_journal_ok [0, 1] rfl rfl ?_
  by_cases c6 : x4 = 0
  · replace h := ifT c6 h
    refine TL.nil (X.seq ?_)
    refine T.no rfl (bn_f (decide_eq_true c6)) ?_
    refine T.skip (X.seq (T.seq (T.seq (T.region rfl ?_))))
    refine TL.run ft_journal_ok [0] rfl rfl ?_
    refine TL.q rfl .u (Ex.bS (us := [.bool a1.fValue.null, .string (bsOf a1.fValue.data)]) 0 rfl Try.isAgg28 Try.sizeOf28 rfl rfl rfl) rfl ?_
    obtain ⟨x7, hx8, h⟩ := Option.bind_eq_some_iff.1 h
    refine TL.ce rfl .u (.fn Try.call36 rfl) (gRight_spec a1.fValue _ hx8) (fun _ hs => (RX.reads_triv _ _)) rfl ?_
    refine TL.run ft_journal_ok [3] rfl rfl ?_
    by_cases c9 : x7 = true
    · replace h := ifT c9 h
      refine TL.nil (X.seq ?_)
      refine T.no rfl (bn_f c9) ?_
      refine T.skip (X.seq (T.seq (T.seq (T.region rfl ?_))))
      refine TL.rb ft_journal_ok nt_journal_ok 0 rfl 3 rfl rfl ?_
      by_cases c10 : a1.fValue.null = true
      · replace h := ifT c10 h
        refine TL.nil (X.seq ?_)
        refine T.yes rfl c10 ?_
        refine T.region rfl ?_
        replace h := guard_some h
        obtain ⟨c11, h⟩ := h
        refine TL.rb ft_journal_ok nt_journal_ok 1 rfl 5 rfl rfl ?_
        refine TL.mdel (k := x3) 2 rfl .u rfl rfl Try.underlying79 Try.underlying9 c11 rfl rfl ?_
        refine TL.sel [0, 0, 0] rfl ?_
        refine TL.nil (X.seq (T.seq (T.region rfl ?_)))
        replace h := guard_some h
        obtain ⟨c12, h⟩ := h
        refine TL.rb ft_journal_ok nt_journal_ok 1 rfl 4 rfl rfl ?_
        refine TL.q rfl .u (Ex.add rfl rfl c12) rfl ?_
        refine TL.run ft_journal_ok [5, 6] rfl rfl ?_
        refine TL.st1 (cs' := #[.map (some b1), .int .i64 (st.fmany + 1)]) rfl .u rfl rfl Try.sizeOf3 rfl rfl rfl rfl ?_
        refine TL.nil (X.seq (T.seq (T.region rfl ?_)))
        refine TL.run ft_journal_ok [0] rfl rfl ?_
        obtain rfl := Option.some.inj h
        refine TL.nil (X.seq (T.ret ?_))
        refine X.sel [1, 1, 0] rfl ?_
        refine MbR_JournalJournal_shut g (⟨(mrem x3 st.fknown), (st.fmany + 1)⟩ : JournalJournal) b1 rfl ?_
        exact X.done1 [0] Try.results14 (RV.tm rfl) ⟨rfl, rfl, rfl⟩ (by rfl) (.inl rfl)
      · replace h := ifF c10 h
        replace c10 := eq_false_of_ne_true c10
        refine TL.nil (X.seq ?_)
        refine T.no rfl c10 ?_
        refine T.seq (T.region rfl ?_)
        obtain ⟨⟨x13, x16⟩, hx17, h⟩ := Option.bind_eq_some_iff.1 h
        try dsimp only at h
        refine TL.rb ft_journal_ok nt_journal_ok 0 rfl 3 rfl rfl ?_
        refine TL.cge rfl .u (.fn Try.call20 rfl) (f_value_Decode_spec a1.fValue.data _ hx17) (fun _ hs => (RX.reads_triv _ _)) rfl ?_
        rintro _ _ _ ⟨A14, c15, rfl, rfl, rfl⟩
        refine TL.sel [0, 0, 0, 0] rfl ?_
        refine TL.run ft_journal_ok [4, 5, 6] rfl rfl ?_
        refine TL.alloc rfl .u Try.zeroValue24 rfl (fun b18 => ?_)
        refine TL.st0 (cs' := #[.int .i64 x13.fProducer, .int .i64 x13.fEpoch, .int .i64 x13.fTimeout, .int .i64 x13.fState, .slice A14 x13.fTopics.length c15, .int .i64 x13.fUpdated, .int .i64 x13.fStarted]) rfl .u rfl rfl Try.sizeOf24 rfl rfl rfl rfl ?_
        refine TL.run ft_journal_ok [9] rfl rfl ?_
        refine TL.nil (X.seq (T.seq (T.seq (T.region rfl ?_))))
        refine TL.run ft_journal_ok [0, 1] rfl rfl ?_
        by_cases c19 : x16 = 0
        · replace h := ifT c19 h
          refine TL.nil (X.seq ?_)
          refine T.no rfl (bn_f (decide_eq_true c19)) ?_
          refine T.skip (X.seq (T.draw (.q 0 (.q 1 (.q 2 (.q 3 (.q 4 (.q 5 (.e 6 .nil))))))) [0, 1, 1] rfl mix_journal (NoP.seq np_post) (by kernel_rfl) ?_))
          refine TD.run ft_journal_ok [0, 1, 2] rfl rfl ?_
          refine TD.q rfl .u (Ex.b1 2 rfl Try.isAgg79 rfl rfl) rfl ?_
          refine TD.run ft_journal_ok [4] rfl rfl ?_
          refine TD.q rfl .u (Ex.bS (us := [.int .i64 x13.fProducer, .int .i64 x13.fEpoch, .int .i64 x13.fTimeout, .int .i64 x13.fState, .slice A14 x13.fTopics.length c15, .int .i64 x13.fUpdated, .int .i64 x13.fStarted]) 0 rfl Try.isAgg24 Try.sizeOf24 rfl rfl rfl) rfl ?_
          replace h := guard_some h
          obtain ⟨c20, h⟩ := h
          refine TD.mset 4 1 (cs := [.int .i64 x13.fProducer, .int .i64 x13.fEpoch, .int .i64 x13.fTimeout, .int .i64 x13.fState, .slice A14 x13.fTopics.length c15, .int .i64 x13.fUpdated, .int .i64 x13.fStarted]) (u := x13) (k := x3) rfl .u rfl rfl rfl Try.underlying79 Try.underlying9 c20 rfl rfl (fun w G hG => ⟨_, _, rfl, hG.1⟩) [1, 1, 1] rfl ?_
          refine TD.sel [0, 0, 0, 0] rfl ?_
          refine TD.nil (X.seq (T.seq (T.region rfl ?_)))
          replace h := guard_some h
          obtain ⟨c21, h⟩ := h
          refine TL.rb ft_journal_ok nt_journal_ok 3 rfl 4 rfl rfl ?_
          refine TL.q rfl .u (Ex.add rfl rfl c21) rfl ?_
          refine TL.run ft_journal_ok [5, 6] rfl rfl ?_
          refine TL.st3 (cs' := #[.map (some b1), .int .i64 (st.fmany + 1)]) rfl .u rfl rfl Try.sizeOf3 rfl rfl rfl rfl ?_
          refine TL.nil (X.seq (T.seq (T.region rfl ?_)))
          refine TL.run ft_journal_ok [0] rfl rfl ?_
          obtain rfl := Option.some.inj h
          refine TL.nil (X.seq (T.ret ?_))
          refine X.sel [3, 0, 0, 0] rfl ?_
          refine MbR_JournalJournal_shut g (⟨(mput x3 x13 st.fknown), (st.fmany + 1)⟩ : JournalJournal) b1 rfl ?_
          exact X.done1 [0] Try.results14 (RV.tm rfl) ⟨rfl, rfl, rfl⟩ (by rfl) (.inl rfl)
        · replace h := ifF c19 h
          refine TL.nil (X.seq ?_)
          refine T.yes rfl (bn_t (decide_eq_false c19)) ?_
          refine T.seq (T.region rfl ?_)
          refine TL.run ft_journal_ok [0, 1] rfl rfl ?_
          obtain rfl := Option.some.inj h
          refine TL.nil (X.seq (T.ret (X.rs (X.rs ?_))))
          refine X.sel [3, 3, 0, 0, 0] rfl ?_
          refine MbR_JournalJournal_shut g st b1 rfl ?_
          exact X.done1 [0] Try.results14 (RV.tm rfl) ⟨rfl, rfl, rfl⟩ (by rfl) (.inl rfl)
    · replace h := ifF c9 h
      replace c9 := eq_false_of_ne_true c9
      refine TL.nil (X.seq ?_)
      refine T.yes rfl (bn_t c9) ?_
      refine T.seq (T.region rfl ?_)
      refine TL.run ft_journal_ok [0] rfl rfl ?_
      obtain rfl := Option.some.inj h
      refine TL.nil (X.seq (T.ret (X.rs ?_)))
      refine X.sel [1, 1, 0] rfl ?_
      refine MbR_JournalJournal_shut g st b1 rfl ?_
      exact X.done1 [0] Try.results14 (RV.tm rfl) ⟨rfl, rfl, rfl⟩ (by rfl) (.inl rfl)
  · replace h := ifF c6 h
    refine TL.nil (X.seq ?_)
    refine T.yes rfl (bn_t (decide_eq_false c6)) ?_
    refine T.seq (T.region rfl ?_)
    refine TL.run ft_journal_ok [0, 1] rfl rfl ?_
    obtain rfl := Option.some.inj h
    refine TL.nil (X.seq (T.ret (X.rs ?_)))
    refine X.sel [1, 1, 0] rfl ?_
    refine MbR_JournalJournal_shut g st b1 rfl ?_
    exact X.done1 [0] Try.results14 (RV.tm rfl) ⟨rfl, rfl, rfl⟩ (by rfl) (.inl rfl)
def f_journal_copied_l1 : List Top → List Top → Option (List Top)
  | [], y5 => some y5
  | x13 :: xs, y5 => (gClone x13.fParts).bind fun x21 => if (y5.length + 1) * 40 ≤ 140737488355328 then (f_journal_copied_l1 xs (y5 ++ [(⟨x13.fName, x21⟩ : Top)])) else none
def f_journal_copied (a0 : Val) : Option (Val) := (f_journal_copied_l1 a0.fTopics []).bind fun y29 => some (⟨a0.fProducer, a0.fEpoch, a0.fTimeout, a0.fState, y29, a0.fUpdated, a0.fStarted⟩ : Val)
set_option maxRecDepth 100000 in
set_option maxHeartbeats 4000000 in
theorem f_journal_copied_spec (a0 : Val) (A1 : Option Addr) (c2 : Nat) (r : Val) (h : f_journal_copied a0 = some r) : SpecX Try.prog 37 #[.agg #[.int .i64 a0.fProducer, .int .i64 a0.fEpoch, .int .i64 a0.fTimeout, .int .i64 a0.fState, .slice A1 a0.fTopics.length c2, .int .i64 a0.fUpdated, .int .i64 a0.fStarted]] (RX.of (sliceRd 2 Top_rd) [.slice A1 a0.fTopics.length c2] a0.fTopics) (EmpR) (fun v A' N => ∃ (A33 : Option Addr) (c34 : Nat), v = .agg #[.int .i64 r.fProducer, .int .i64 r.fEpoch, .int .i64 r.fTimeout, .int .i64 r.fState, .slice A33 r.fTopics.length c34, .int .i64 r.fUpdated, .int .i64 r.fStarted] ∧ A' = EmpR ∧ N = [OwnR 46 2 Top_cop (.slice A33 r.fTopics.length c34) r.fTopics]) := by
  refine enterA Try.func37 rfl Try.ntmps37 rfl ?_
  intro F w hX
  unfold f_journal_copied at h
  refine T.seq (T.region rfl ?_)
  refine TL.box rfl .u rfl rfl (fun b3 => ?_)
  refine TL.alloc rfl .u Try.zeroValue24 rfl (fun b4 => ?_)
  refine TL.nil (X.seq (T.seq (T.region rfl ?_)))
  refine TL.run ft_journal_ok [0] rfl rfl ?_
  refine TL.nil (X.seq (T.seq (T.seq (T.region rfl ?_))))
  refine TL.rb ft_journal_ok nt_journal_ok 1 rfl 2 rfl rfl ?_
  refine TL.q rfl .u (Ex.lenS rfl Try.runUnderlying22) rfl ?_
  refine TL.run ft_journal_ok [3] rfl rfl ?_
  refine TL.nil (X.seq (T.block ?_))
  refine T.nilrow 46 2 Top_cop ?_
  obtain ⟨E9, hE10, hO11⟩ := Option.bind_eq_some_iff.1 h
  have hk15len := RX.len_le hX
  refine T.lp (fun m e Rs => ∃ (y5 : List Top) (A6 : Option Addr) (c7 : Nat) (k8 : Nat), k8 + m = a0.fTopics.length ∧ e = [(1, .pointer (some ⟨b3, 0, none⟩)), (2, .pointer (some ⟨b4, 0, none⟩)), (3, .slice A6 y5.length c7), (7, .slice A1 a0.fTopics.length c2), (8, .int .i64 (a0.fTopics.length : Int)), (9, .int .i64 (k8 : Int))] ∧ Rs = [OwnR 46 2 Top_cop (.slice A6 y5.length c7) y5, BlkR b4 24 #[.int .i64 0, .int .i64 0, .int .i64 0, .int .i64 0, .slice none 0 0, .int .i64 0, .int .i64 0], BlkR b3 24 #[.int .i64 a0.fProducer, .int .i64 a0.fEpoch, .int .i64 a0.fTimeout, .int .i64 a0.fState, .slice A1 a0.fTopics.length c2, .int .i64 a0.fUpdated, .int .i64 a0.fStarted], EmpR] ∧ f_journal_copied_l1 (a0.fTopics.drop k8) y5 = some E9) (a0.fTopics.length) [0, 0, 0, 0] ⟨[], none, 0, 0, by simp, rfl, rfl, by rw [List.drop_zero]; exact hE10⟩ (by rfl) (by rfl) ?_
  rintro m12 _ _ ⟨y5, A6, c7, k8, hk15, rfl, rfl, hl14⟩
  clear hE10 h
  cases m12 with
  | zero =>
    have h := hl14
    clear hl14
    rw [List.drop_of_length_le (by omega), f_journal_copied_l1] at h
    have hk15ge : ¬ ((k8 : Int) < (a0.fTopics.length : Int)) := by omega
    refine T.seq (T.region rfl ?_)
    refine TL.run ft_journal_ok [0] rfl rfl ?_
    refine TL.nil (X.seq (T.seq ?_))
    refine T.no rfl (decide_eq_false hk15ge) ?_
    obtain rfl := Option.some.inj h
    replace h := hO11
    clear hO11
    try dsimp only at h
    refine T.exit (X.exs (X.exs (X.ex (X.seq (T.seq (T.region rfl ?_))))))
    refine TL.run ft_journal_ok [0, 1] rfl rfl ?_
    refine TL.st2 (cs' := #[.int .i64 a0.fProducer, .int .i64 a0.fEpoch, .int .i64 a0.fTimeout, .int .i64 a0.fState, .slice A6 y5.length c7, .int .i64 a0.fUpdated, .int .i64 a0.fStarted]) rfl .u rfl rfl Try.sizeOf22 rfl rfl rfl rfl ?_
    refine TL.nil (X.seq (T.seq (T.region rfl ?_)))
    refine TL.q rfl .u (Ex.bS (us := [.int .i64 a0.fProducer, .int .i64 a0.fEpoch, .int .i64 a0.fTimeout, .int .i64 a0.fState, .slice A6 y5.length c7, .int .i64 a0.fUpdated, .int .i64 a0.fStarted]) 2 rfl Try.isAgg24 Try.sizeOf24 rfl rfl rfl) rfl ?_
    refine TL.st1 (cs' := #[.int .i64 a0.fProducer, .int .i64 a0.fEpoch, .int .i64 a0.fTimeout, .int .i64 a0.fState, .slice A6 y5.length c7, .int .i64 a0.fUpdated, .int .i64 a0.fStarted]) rfl .u rfl rfl Try.sizeOf24 rfl rfl rfl rfl ?_
    obtain rfl := Option.some.inj h
    exact TL.nil (X.seq (T.ret (X.done1 [3, 0] Try.results37 (RV.cS (us := #[.int .i64 a0.fProducer, .int .i64 a0.fEpoch, .int .i64 a0.fTimeout, .int .i64 a0.fState, .slice A6 y5.length c7, .int .i64 a0.fUpdated, .int .i64 a0.fStarted]) 1 rfl Try.isAgg24 Try.sizeOf24 rfl rfl) ⟨_, _, rfl, rfl, rfl⟩ (by rfl) (.inl rfl))))
  | succ m12 =>
    have h := hl14
    clear hl14
    obtain ⟨x13, hxx13⟩ : ∃ x, a0.fTopics[k8]? = some x := ⟨_, List.getElem?_eq_getElem (by omega)⟩
    rw [drop_cons hxx13, f_journal_copied_l1] at h
    have hk15lt : (k8 : Int) < (a0.fTopics.length : Int) := by omega
    refine T.seq (T.region rfl ?_)
    refine TL.run ft_journal_ok [0] rfl rfl ?_
    refine TL.nil (X.seq (T.seq ?_))
    refine T.yes rfl (decide_eq_true hk15lt) ?_
    obtain ⟨gz16, oz16, rfl, z16cs, z16cl, z16cc, z16nf, z16r⟩ := RX.elem (by decide) hX hxx13
    obtain ⟨z16S, z16r, z16rr⟩ := z16r
    obtain ⟨A17, c18, rfl, z16s0⟩ := z16r
    have hX19 : (RX.of (sliceRd 1 intE) [.slice A17 x13.fParts.length c18] x13.fParts).reads w F := ⟨z16S, z16s0, z16rr⟩
    refine T.skip (X.seq (T.seq (T.block (T.seq (T.region rfl ?_)))))
    refine TL.q rfl .u (Ex.ixS (k := k8) rfl rfl rfl Try.runUnderlying22 Try.sizeOf46 (List.getElem?_eq_some_iff.1 hxx13).1) rfl ?_
    refine TL.q rfl .u (Ex.oS (us := [.string (bsOf x13.fName), .slice A17 x13.fParts.length c18]) 0 rfl Try.isAgg46 Try.sizeOf46 z16nf z16cc rfl rfl rfl) rfl ?_
    refine TL.alloc rfl .u Try.zeroValue46 rfl (fun b20 => ?_)
    refine TL.st0 (cs' := #[.string (bsOf x13.fName), .slice A17 x13.fParts.length c18]) rfl .u rfl rfl Try.sizeOf46 rfl rfl rfl rfl ?_
    refine TL.nil (X.seq (T.draw (.q 0 (.q 1 (.q 2 (.q 3 (.q 4 (.e 5 (.q 6 (.e 7 (.e 8 (.q 9 .nil)))))))))) [0, 1, 1, 1] rfl mix_journal (NoP.blk (NoP.seq (NoP.seq (NoP.blk (NoP.seq np_post))))) (by kernel_rfl) ?_))
    refine TD.run ft_journal_ok [0, 1] rfl rfl ?_
    refine TD.q rfl .u (Ex.b1 0 rfl Try.isAgg9 rfl rfl) rfl ?_
    refine TD.run ft_journal_ok [3] rfl rfl ?_
    refine TD.q rfl .u (Ex.b1 0 rfl Try.isAgg44 rfl rfl) rfl ?_
    obtain ⟨x21, hx24, h⟩ := Option.bind_eq_some_iff.1 h
    refine TD.cge rfl .u (.fn Try.call57 rfl) (gClone_spec x13.fParts _ _ _ hx24) (fun _ hs => (SrcE.old hs hX19)) rfl [1, 2, 2, 2] ?_ ?_
    · rintro _ _ _ ⟨A22, c23, rfl, rfl, rfl⟩
      rfl
    rintro _ _ _ ⟨A22, c23, rfl, rfl, rfl⟩
    refine TD.sel [0, 0, 0, 0, 0, 0] rfl ?_
    refine TD.q rfl .u (Ex.bld (cells := #[.string (bsOf x13.fName), .slice A22 x21.length c23]) bok_journal_46 rfl (by kernel_rfl)) rfl ?_
    refine TD.lit (cells := #[.string (bsOf x13.fName), .slice A22 x21.length c23]) rfl .u sok_journal_22_1 rfl (by rfl) rfl [2, 3, 3, 3] (fun _ => rfl) (fun b25 => ?_)
    replace h := guard_some h
    obtain ⟨c26, h⟩ := h
    refine TD.app2 2 0 rfl .u (us := [.string (bsOf x13.fName), .slice A22 x21.length c23]) (u := (⟨x13.fName, x21⟩ : Top)) (l := y5) (E := Top_cop) Try.underlying22 inf_journal_46 rfl (by decide) rfl rfl rfl rfl rfl rfl rfl (fun w G hG => ⟨_, _, rfl, G, hG, fun _ h => h⟩) (by have hq := c26; omega) (by have hq := c26; omega) rfl [1, 1, 1, 1] (fun _ _ => rfl) (fun A27 c28 => ?_)
    refine TD.sel [0, 0, 0, 0, 0] rfl ?_
    refine TD.run ft_journal_ok [9] rfl rfl ?_
    refine TD.nil (X.blk (X.seq (T.region rfl ?_)))
    refine TL.q rfl .u (Ex.add rfl rfl (by omega)) rfl ?_
    refine TL.run ft_journal_ok [1] rfl rfl ?_
    exact TL.nil (X.back (m' := m12) [0, 1, 1, 1] (by omega) ⟨(y5 ++ [(⟨x13.fName, x21⟩ : Top)]), A27, c28, k8 + 1, by omega, rfl, rfl, h⟩ (by rfl) (by rfl))
def f_journal_JournalGet (st : JournalJournal) (a1 : List UInt8) : Option (Val × Bool × JournalJournal) := if (mhas a1 st.fknown) = true then (if a1.length ≤ 140737488355328 then ((mget a1 st.fknown).bind fun x5 => (f_journal_copied x5).bind fun x11 => some (x11, true, st)) else none) else (if a1.length ≤ 140737488355328 then ((f_journal_copied (⟨0, 0, 0, 0, [], 0, 0⟩ : Val)).bind fun x17 => some (x17, false, st)) else none)
set_option maxRecDepth 100000 in
set_option maxHeartbeats 4000000 in
theorem f_journal_JournalGet_spec (g : Nat) (st : JournalJournal) (a1 : List UInt8) (r : Val × Bool × JournalJournal) (h : f_journal_JournalGet st a1 = some r) : SpecX Try.prog 15 #[.pointer (some ⟨g, 0, none⟩), .string (bsOf a1)] .triv (MbR_JournalJournal g st) (fun v A' N => ∃ (A21 : Option Addr) (c22 : Nat), v = .tuple #[.agg #[.int .i64 r.1.fProducer, .int .i64 r.1.fEpoch, .int .i64 r.1.fTimeout, .int .i64 r.1.fState, .slice A21 r.1.fTopics.length c22, .int .i64 r.1.fUpdated, .int .i64 r.1.fStarted], .bool r.2.1] ∧ A' = MbR_JournalJournal g r.2.2 ∧ N = [OwnR 46 2 Top_cop (.slice A21 r.1.fTopics.length c22) r.1.fTopics]) := by
  refine enterA Try.func15 rfl Try.ntmps15 rfl ?_
  intro F w hX
  refine T.pakOpen 0 rfl ?_
  rintro b1
  refine T.sel [0, 0] rfl ?_
  unfold f_journal_JournalGet at h
  refine T.seq (T.region rfl ?_)
  refine TL.alloc rfl .u Try.zeroValue24 rfl (fun b2 => ?_)
  refine TL.run ft_journal_ok [1] rfl rfl ?_
  refine TL.nil (X.seq (T.seq (T.region rfl ?_)))
  by_cases c3 : (mhas a1 st.fknown) = true
  · replace h := ifT c3 h
    replace h := guard_some h
    obtain ⟨c4, h⟩ := h
    obtain ⟨x5, hx6, h⟩ := Option.bind_eq_some_iff.1 h
    refine TL.rb ft_journal_ok nt_journal_ok 1 rfl 5 rfl rfl ?_
    refine TL.focM 2 rfl hx6 ?_
    rintro z7cs ⟨_, _, z7r⟩
    obtain ⟨A8, c9, rfl, _⟩ := z7r
    refine TL.sel [0, 0, 0] rfl ?_
    refine TL.q rfl .u (Ex.lookT (k := a1) (cs := [.int .i64 x5.fProducer, .int .i64 x5.fEpoch, .int .i64 x5.fTimeout, .int .i64 x5.fState, .slice A8 x5.fTopics.length c9, .int .i64 x5.fUpdated, .int .i64 x5.fStarted]) 2 rfl rfl Try.underlying79 Try.underlying9 Try.zeroValue24 c4 rfl (fun _ _ h => h.2.2.1)) rfl ?_
    refine TL.run ft_journal_ok [6, 7, 8] rfl rfl ?_
    refine TL.alloc rfl .u Try.zeroValue24 rfl (fun b10 => ?_)
    refine TL.st0 (cs' := #[.int .i64 x5.fProducer, .int .i64 x5.fEpoch, .int .i64 x5.fTimeout, .int .i64 x5.fState, .slice A8 x5.fTopics.length c9, .int .i64 x5.fUpdated, .int .i64 x5.fStarted]) rfl .u rfl rfl Try.sizeOf24 rfl rfl rfl rfl ?_
    refine TL.run ft_journal_ok [11] rfl rfl ?_
    refine TL.nil (X.seq (T.seq (T.region rfl ?_)))
    refine TL.q rfl .u (Ex.bS (us := [.int .i64 x5.fProducer, .int .i64 x5.fEpoch, .int .i64 x5.fTimeout, .int .i64 x5.fState, .slice A8 x5.fTopics.length c9, .int .i64 x5.fUpdated, .int .i64 x5.fStarted]) 0 rfl Try.isAgg24 Try.sizeOf24 rfl rfl rfl) rfl ?_
    obtain ⟨x11, hx14, h⟩ := Option.bind_eq_some_iff.1 h
    refine TL.cge rfl .u (.fn Try.call37 rfl) (f_journal_copied_spec x5 _ _ _ hx14) (fun _ hs => (SrcE.res 3 hs rfl (fun _ _ h => by obtain ⟨_, _, hc, hs⟩ := h.2.2.2; cases hc; exact hs))) rfl ?_
    rintro _ _ _ ⟨A12, c13, rfl, rfl, rfl⟩
    refine TL.sel [0, 0, 0, 0, 0] rfl ?_
    refine TL.run ft_journal_ok [2] rfl rfl ?_
    refine TL.st2 (cs' := #[.int .i64 x11.fProducer, .int .i64 x11.fEpoch, .int .i64 x11.fTimeout, .int .i64 x11.fState, .slice A12 x11.fTopics.length c13, .int .i64 x11.fUpdated, .int .i64 x11.fStarted]) rfl .u rfl rfl Try.sizeOf24 rfl rfl rfl rfl ?_
    refine TL.run ft_journal_ok [4] rfl rfl ?_
    obtain rfl := Option.some.inj h
    refine TL.nil (X.seq (T.ret ?_))
    refine X.unfM 4 rfl ?_
    refine X.sel [0, 0, 0, 0, 0] rfl ?_
    refine X.sel [3, 3, 0, 0, 0] rfl ?_
    refine MbR_JournalJournal_shut g st b1 rfl ?_
    exact X.done2 [0, 0] Try.results15 (RV.cS (us := #[.int .i64 x11.fProducer, .int .i64 x11.fEpoch, .int .i64 x11.fTimeout, .int .i64 x11.fState, .slice A12 x11.fTopics.length c13, .int .i64 x11.fUpdated, .int .i64 x11.fStarted]) 3 rfl Try.isAgg24 Try.sizeOf24 rfl rfl) (RV.tm rfl) ⟨_, _, rfl, rfl, rfl⟩ (by rfl) (.inl rfl)
  · replace h := ifF c3 h
    replace c3 := eq_false_of_ne_true c3
    replace h := guard_some h
    obtain ⟨c15, h⟩ := h
    refine TL.rb ft_journal_ok nt_journal_ok 1 rfl 5 rfl rfl ?_
    refine TL.q rfl .u (Ex.lookF (k := a1) 2 rfl rfl Try.underlying79 Try.underlying9 Try.zeroValue24 c15 rfl c3) rfl ?_
    refine TL.run ft_journal_ok [6, 7, 8] rfl rfl ?_
    refine TL.alloc rfl .u Try.zeroValue24 rfl (fun b16 => ?_)
    refine TL.st0 (cs' := #[.int .i64 0, .int .i64 0, .int .i64 0, .int .i64 0, .slice none 0 0, .int .i64 0, .int .i64 0]) rfl .u rfl rfl Try.sizeOf24 rfl rfl rfl rfl ?_
    refine TL.run ft_journal_ok [11] rfl rfl ?_
    refine TL.nil (X.seq (T.seq (T.region rfl ?_)))
    refine TL.q rfl .u (Ex.bS (us := [.int .i64 0, .int .i64 0, .int .i64 0, .int .i64 0, .slice none 0 0, .int .i64 0, .int .i64 0]) 0 rfl Try.isAgg24 Try.sizeOf24 rfl rfl rfl) rfl ?_
    obtain ⟨x17, hx20, h⟩ := Option.bind_eq_some_iff.1 h
    refine TL.cge rfl .u (.fn Try.call37 rfl) (f_journal_copied_spec (⟨0, 0, 0, 0, [], 0, 0⟩ : Val) _ _ _ hx20) (fun _ hs => slice_nil_reads) rfl ?_
    rintro _ _ _ ⟨A18, c19, rfl, rfl, rfl⟩
    refine TL.sel [0, 0, 0, 0, 0] rfl ?_
    refine TL.run ft_journal_ok [2] rfl rfl ?_
    refine TL.st2 (cs' := #[.int .i64 x17.fProducer, .int .i64 x17.fEpoch, .int .i64 x17.fTimeout, .int .i64 x17.fState, .slice A18 x17.fTopics.length c19, .int .i64 x17.fUpdated, .int .i64 x17.fStarted]) rfl .u rfl rfl Try.sizeOf24 rfl rfl rfl rfl ?_
    refine TL.run ft_journal_ok [4] rfl rfl ?_
    obtain rfl := Option.some.inj h
    refine TL.nil (X.seq (T.ret ?_))
    refine X.sel [3, 3, 0, 0, 0] rfl ?_
    refine MbR_JournalJournal_shut g st b1 rfl ?_
    exact X.done2 [0, 0] Try.results15 (RV.cS (us := #[.int .i64 x17.fProducer, .int .i64 x17.fEpoch, .int .i64 x17.fTimeout, .int .i64 x17.fState, .slice A18 x17.fTopics.length c19, .int .i64 x17.fUpdated, .int .i64 x17.fStarted]) 3 rfl Try.isAgg24 Try.sizeOf24 rfl rfl) (RV.tm rfl) ⟨_, _, rfl, rfl, rfl⟩ (by rfl) (.inl rfl)
def f_journal_JournalMany (st : JournalJournal)  : Option (Int × JournalJournal) := some (st.fmany, st)
set_option maxRecDepth 100000 in
set_option maxHeartbeats 4000000 in
theorem f_journal_JournalMany_spec (g : Nat) (st : JournalJournal)  (r : Int × JournalJournal) (h : f_journal_JournalMany st  = some r) : SpecX Try.prog 22 #[.pointer (some ⟨g, 0, none⟩)] .triv (MbR_JournalJournal g st) (fun v A' N => v = .int .i64 r.1 ∧ A' = MbR_JournalJournal g r.2 ∧ N = []) := by
  refine enterA Try.func22 rfl Try.ntmps22 rfl ?_
  intro F w hX
  refine T.pakOpen 0 rfl ?_
  rintro b1
  refine T.sel [0, 0] rfl ?_
  unfold f_journal_JournalMany at h
  refine T.seq (T.region rfl ?_)
  refine TL.run ft_journal_ok [0] rfl rfl ?_
  refine TL.nil (X.seq (T.seq (T.region rfl ?_)))
  refine TL.rb ft_journal_ok nt_journal_ok 0 rfl 5 rfl rfl ?_
  obtain rfl := Option.some.inj h
  refine TL.nil (X.seq (T.ret ?_))
  refine X.sel [0, 0] rfl ?_
  refine MbR_JournalJournal_shut g st b1 rfl ?_
  exact X.done1 [0] Try.results22 (RV.tm rfl) ⟨rfl, rfl, rfl⟩ (by rfl) (.inl rfl)
end Go.Proofs.Ytlhgogjcaegehaa.Sl
namespace Go.Proofs.Ytlhgogjcaegehaa.Sl
open Go.RowKit
set_option linter.unusedVariables false
set_option linter.unusedSimpArgs false
set_option maxRecDepth 100000
def ft_cursitorlaw15 : FTab := [(24, 4, 4), (46, 0, 0), (46, 1, 1), (98, 0, 0), (98, 1, 1)]
theorem ft_cursitorlaw15_ok : (ft_cursitorlaw15).OK Try.prog := ⟨FOK.mk Try.runUnderlying24 rfl Try.sizeOf22 rfl, FOK.mk Try.runUnderlying46 rfl Try.sizeOf9 rfl, FOK.mk Try.runUnderlying46 rfl Try.sizeOf44 rfl, FOK.mk Try.runUnderlying98 rfl Try.sizeOf9 rfl, FOK.mk Try.runUnderlying98 rfl Try.sizeOf24 rfl, trivial⟩
def nt_cursitorlaw15 : List Nat := [9, 22]
theorem nt_cursitorlaw15_ok : NOK Try.prog nt_cursitorlaw15 := ⟨Try.isAgg9, Try.isAgg22, trivial⟩
theorem mix_cursitorlaw15 : Try.prog.follows .mixedOrders = true := by kernel_rfl
theorem bok_cursitorlaw15_24 : BOK Try.prog 24 #[.int .i64 0, .int .i64 0, .int .i64 0, .int .i64 0, .slice none 0 0, .int .i64 0, .int .i64 0] [(0, 1), (1, 1), (2, 1), (3, 1), (4, 1), (5, 1), (6, 1)] := BOK.mk Try.zeroValue24 Try.runUnderlying24 (by intro w; simp)
theorem bok_cursitorlaw15_28 : BOK Try.prog 28 #[.bool false, .string ⟨#[]⟩] [(0, 1), (1, 1)] := BOK.mk Try.zeroValue28 Try.runUnderlying28 (by intro w; simp)
theorem bok_cursitorlaw15_30 : BOK Try.prog 30 #[.string ⟨#[]⟩, .bool false, .string ⟨#[]⟩] [(0, 1), (1, 2)] := BOK.mk Try.zeroValue30 Try.runUnderlying30 (by intro w; simp)
theorem flat_cursitorlaw15_30 : Flat Try.prog 3 30 [.string, .bool, .string] true := (Flat.struct Try.isAgg30 Try.sizeOf30 rfl Try.underlying30 Try.stoodInHeld30 ⟨by decide, rfl, [.string], [.bool, .string], false, rfl, ((Flat.one_ Try.isAgg9 Try.sizeOf9 Try.underlying9).mono (by decide)), ⟨by decide, rfl, [.bool, .string], [], true, rfl, (Flat.struct Try.isAgg28 Try.sizeOf28 rfl Try.underlying28 Try.stoodInHeld28 ⟨by decide, rfl, [.bool], [.string], false, rfl, (Flat.one_ Try.isAgg4 Try.sizeOf4 Try.underlying4), ⟨by decide, rfl, [.string], [], false, rfl, (Flat.one_ Try.isAgg9 Try.sizeOf9 Try.underlying9), rfl⟩⟩), rfl⟩⟩)
def f_l15_speaks  : Option (Bool) := (f_journal_New).bind fun st1 => (f_journal_Put [97] (⟨0, 0, 0, 0, [], 0, -1⟩ : Val)).bind fun (x4, x5) => (f_journal_Drop [97]).bind fun (x8, x9) => (if x5 = 0 then (if x9 = 0 then ((f_journal_JournalApply st1 x4).bind fun (x22, st23) => if x22 = 0 then some (false, st23) else some (true, st23)) else some (true, st1)) else some (true, st1)).bind fun (y17, st18) => if y17 = true then some false else ((f_journal_JournalGet st18 [97]).bind fun (x27, x30, st31) => (f_journal_JournalApply st31 x8).bind fun (x34, st35) => (f_journal_JournalGet st35 [97]).bind fun (x37, x40, st41) => (if x30 = true then (if x34 = 0 then (if x40 = true then some (false, st41) else ((f_journal_JournalMany st41).bind fun (x56, st57) => if x56 = 2 then some (true, st57) else some (false, st57))) else some (false, st41)) else some (false, st41)).bind fun (y50, st51) => some y50)
set_option maxRecDepth 100000 in
set_option maxHeartbeats 4000000 in
theorem f_l15_speaks_spec  (r : Bool) (h : f_l15_speaks  = some r) : SpecX Try.prog 6 #[] .triv (EmpR) (fun v A' N => v = .bool r ∧ A' = EmpR ∧ N = []) := by
  refine enterA Try.func6 rfl Try.ntmps6 rfl ?_
  intro F w hX
  unfold f_l15_speaks at h
  refine T.seq (T.region rfl ?_)
  refine TL.run ft_cursitorlaw15_ok [0] rfl rfl ?_
  obtain ⟨st1, hx2, h⟩ := Option.bind_eq_some_iff.1 h
  refine TL.nil (X.seq (T.seq (T.region rfl ?_)))
  refine TL.cge rfl .u (.fn Try.call12 rfl) (f_journal_New_spec _ hx2) (fun _ hs => (RX.reads_triv _ _)) rfl ?_
  rintro _ _ _ ⟨b3, rfl, rfl, rfl⟩
  refine TL.sel [0, 0] rfl ?_
  refine TL.run ft_cursitorlaw15_ok [1] rfl rfl ?_
  refine TL.nil (X.seq (T.seq (T.region rfl ?_)))
  refine TL.q rfl .u (Ex.bld (cells := #[.int .i64 0, .int .i64 0, .int .i64 0, .int .i64 0, .slice none 0 0, .int .i64 0, .int .i64 (-1)]) bok_cursitorlaw15_24 rfl (by kernel_rfl)) rfl ?_
  obtain ⟨⟨x4, x5⟩, hx6, h⟩ := Option.bind_eq_some_iff.1 h
  try dsimp only at h
  refine TL.ce rfl .u (.fn Try.call8 rfl) (f_journal_Put_spec [97] (⟨0, 0, 0, 0, [], 0, -1⟩ : Val) _ _ _ hx6) (fun _ hs => slice_nil_reads) rfl ?_
  refine TL.run ft_cursitorlaw15_ok [2, 3, 4] rfl rfl ?_
  refine TL.alloc rfl .u Try.zeroValue30 rfl (fun b7 => ?_)
  refine TL.st0 (cs' := #[.string (bsOf x4.fKey), .bool x4.fValue.null, .string (bsOf x4.fValue.data)]) rfl .u rfl rfl Try.sizeOf30 rfl rfl rfl rfl ?_
  refine TL.run ft_cursitorlaw15_ok [7] rfl rfl ?_
  obtain ⟨⟨x8, x9⟩, hx10, h⟩ := Option.bind_eq_some_iff.1 h
  try dsimp only at h
  refine TL.nil (X.seq (T.seq (T.region rfl ?_)))
  refine TL.ce rfl .u (.fn Try.call9 rfl) (f_journal_Drop_spec [97] _ hx10) (fun _ hs => (RX.reads_triv _ _)) rfl ?_
  refine TL.run ft_cursitorlaw15_ok [1, 2, 3] rfl rfl ?_
  refine TL.alloc rfl .u Try.zeroValue30 rfl (fun b11 => ?_)
  refine TL.st0 (cs' := #[.string (bsOf x8.fKey), .bool x8.fValue.null, .string (bsOf x8.fValue.data)]) rfl .u rfl rfl Try.sizeOf30 rfl rfl rfl rfl ?_
  refine TL.run ft_cursitorlaw15_ok [6] rfl rfl ?_
  refine TL.nil (X.seq (T.seq (T.seq ?_)))
  obtain ⟨⟨y17, st18⟩, h, hk19⟩ := Option.bind_eq_some_iff.1 h
  refine T.jq (fun e Rs => e = [(0, .bool false), (1, .pointer (some ⟨b3, 0, none⟩)), (4, .pointer (some ⟨b11, 0, none⟩)), (36, .bool y17)] ∧ Rs = [BlkR b11 30 #[.string (bsOf x8.fKey), .bool x8.fValue.null, .string (bsOf x8.fValue.data)], BlkR b7 30 #[.string (bsOf x4.fKey), .bool x4.fValue.null, .string (bsOf x4.fValue.data)], MbR_JournalJournal b3 st18, EmpR]) ?_ ?_
  · clear hk19
    refine T.region rfl ?_
    refine TL.run ft_cursitorlaw15_ok [0] rfl rfl ?_
    refine TL.q rfl .u (Ex.pNe (.inl ⟨rfl, rfl⟩) rfl rfl Try.runUnderlying38) rfl ?_
    by_cases c20 : x5 = 0
    · replace h := ifT c20 h
      refine TL.rw ft_cursitorlaw15_ok 5 rfl ?_
      refine TL.hv 27 rfl (bn_f (decide_eq_true c20)) ?_
      by_cases c21 : x9 = 0
      · replace h := ifT c21 h
        refine TL.rw ft_cursitorlaw15_ok 4 rfl ?_
        refine TL.hv 31 rfl (bn_f (decide_eq_true c21)) ?_
        refine TL.rw ft_cursitorlaw15_ok 1 rfl ?_
        refine TL.q rfl (.g rfl rfl rfl) (Ex.bS (us := [.string (bsOf x4.fKey), .bool x4.fValue.null, .string (bsOf x4.fValue.data)]) 1 rfl Try.isAgg30 Try.sizeOf30 rfl rfl rfl) rfl ?_
        obtain ⟨⟨x22, st23⟩, hx24, h⟩ := Option.bind_eq_some_iff.1 h
        try dsimp only at h
        refine TL.c2 rfl (.g rfl rfl rfl) (.fn Try.call14 rfl) (f_journal_JournalApply_spec b3 st1 x4 _ hx24) (fun _ hs => (Src.triv _)) rfl ?_
        refine TL.rw ft_cursitorlaw15_ok 2 rfl ?_
        by_cases c25 : x22 = 0
        · replace h := ifT c25 h
          cases h
          exact TL.nil (X.as (d := 36) (v' := .bool false) rfl (congrArg Value.bool (bn_f (decide_eq_true c25))) (X.jq [0, 0, 0, 0] ⟨rfl, rfl⟩ (by rfl) (by rfl)))
        · replace h := ifF c25 h
          cases h
          exact TL.nil (X.as (d := 36) (v' := .bool true) rfl (congrArg Value.bool (bn_t (decide_eq_false c25))) (X.jq [0, 0, 0, 0] ⟨rfl, rfl⟩ (by rfl) (by rfl)))
      · replace h := ifF c21 h
        refine TL.rw ft_cursitorlaw15_ok 4 rfl ?_
        refine TL.hv 31 rfl (bn_t (decide_eq_false c21)) ?_
        refine TL.rw ft_cursitorlaw15_ok 5 rfl ?_
        cases h
        exact TL.nil (X.jq [0, 0, 0, 0] ⟨rfl, rfl⟩ (by rfl) (by rfl))
    · replace h := ifF c20 h
      refine TL.rw ft_cursitorlaw15_ok 5 rfl ?_
      refine TL.hv 27 rfl (bn_t (decide_eq_false c20)) ?_
      refine TL.rw ft_cursitorlaw15_ok 9 rfl ?_
      cases h
      exact TL.nil (X.jq [0, 0, 0, 0] ⟨rfl, rfl⟩ (by rfl) (by rfl))
  · rintro _ _ ⟨rfl, rfl⟩
    clear h
    have h := hk19
    clear hk19
    try dsimp only at h
    by_cases c26 : y17 = true
    · replace h := ifT c26 h
      refine X.seq ?_
      refine T.yes rfl c26 ?_
      refine T.seq (T.region rfl ?_)
      refine TL.run ft_cursitorlaw15_ok [0] rfl rfl ?_
      obtain rfl := Option.some.inj h
      exact TL.nil (X.seq (T.ret (X.rs (X.done1 [3] Try.results6 (RV.tm rfl) ⟨rfl, rfl, rfl⟩ (by rfl) (.inl rfl)))))
    · replace h := ifF c26 h
      replace c26 := eq_false_of_ne_true c26
      refine X.seq ?_
      refine T.no rfl c26 ?_
      refine T.skip (X.seq (T.seq (T.region rfl ?_)))
      obtain ⟨⟨x27, x30, st31⟩, hx32, h⟩ := Option.bind_eq_some_iff.1 h
      try dsimp only at h
      refine TL.run ft_cursitorlaw15_ok [0] rfl rfl ?_
      refine TL.cg2 rfl .u (.fn Try.call15 rfl) (f_journal_JournalGet_spec b3 st18 [97] _ hx32) (fun _ hs => (Src.triv _)) rfl ?_
      rintro _ _ _ ⟨A28, c29, rfl, rfl, rfl⟩
      refine TL.sel [0, 0, 0, 0, 0] rfl ?_
      refine TL.copRd 0 rfl ?_
      refine TL.sel [0, 0, 0, 0, 0] rfl ?_
      refine TL.run ft_cursitorlaw15_ok [2, 3, 4] rfl rfl ?_
      refine TL.alloc rfl .u Try.zeroValue24 rfl (fun b33 => ?_)
      refine TL.st0 (cs' := #[.int .i64 x27.fProducer, .int .i64 x27.fEpoch, .int .i64 x27.fTimeout, .int .i64 x27.fState, .slice A28 x27.fTopics.length c29, .int .i64 x27.fUpdated, .int .i64 x27.fStarted]) rfl .u rfl rfl Try.sizeOf24 rfl rfl rfl rfl ?_
      refine TL.run ft_cursitorlaw15_ok [7] rfl rfl ?_
      refine TL.nil (X.seq (T.seq (T.region rfl ?_)))
      refine TL.run ft_cursitorlaw15_ok [0] rfl rfl ?_
      refine TL.q rfl .u (Ex.bS (us := [.string (bsOf x8.fKey), .bool x8.fValue.null, .string (bsOf x8.fValue.data)]) 2 rfl Try.isAgg30 Try.sizeOf30 rfl rfl rfl) rfl ?_
      obtain ⟨⟨x34, st35⟩, hx36, h⟩ := Option.bind_eq_some_iff.1 h
      try dsimp only at h
      refine TL.c4 rfl .u (.fn Try.call14 rfl) (f_journal_JournalApply_spec b3 st31 x8 _ hx36) (fun _ hs => (Src.triv _)) rfl ?_
      refine TL.run ft_cursitorlaw15_ok [3] rfl rfl ?_
      refine TL.nil (X.seq (T.seq (T.region rfl ?_)))
      obtain ⟨⟨x37, x40, st41⟩, hx42, h⟩ := Option.bind_eq_some_iff.1 h
      try dsimp only at h
      refine TL.run ft_cursitorlaw15_ok [0] rfl rfl ?_
      refine TL.cg4 rfl .u (.fn Try.call15 rfl) (f_journal_JournalGet_spec b3 st35 [97] _ hx42) (fun _ hs => (Src.triv _)) rfl ?_
      rintro _ _ _ ⟨A38, c39, rfl, rfl, rfl⟩
      refine TL.sel [0, 0, 0, 0, 0, 0, 0] rfl ?_
      refine TL.copRd 0 rfl ?_
      refine TL.sel [0, 0, 0, 0, 0, 0, 0] rfl ?_
      refine TL.run ft_cursitorlaw15_ok [2, 3, 4] rfl rfl ?_
      refine TL.alloc rfl .u Try.zeroValue24 rfl (fun b43 => ?_)
      refine TL.st0 (cs' := #[.int .i64 x37.fProducer, .int .i64 x37.fEpoch, .int .i64 x37.fTimeout, .int .i64 x37.fState, .slice A38 x37.fTopics.length c39, .int .i64 x37.fUpdated, .int .i64 x37.fStarted]) rfl .u rfl rfl Try.sizeOf24 rfl rfl rfl rfl ?_
      refine TL.run ft_cursitorlaw15_ok [7] rfl rfl ?_
      refine TL.nil (X.seq (T.seq ?_))
      obtain ⟨⟨y50, st51⟩, h, hk52⟩ := Option.bind_eq_some_iff.1 h
      refine T.jq (fun e Rs => e = [(0, .bool y50)] ∧ Rs = [BlkR b43 24 #[.int .i64 x37.fProducer, .int .i64 x37.fEpoch, .int .i64 x37.fTimeout, .int .i64 x37.fState, .slice A38 x37.fTopics.length c39, .int .i64 x37.fUpdated, .int .i64 x37.fStarted], RdR (sliceRd 2 Top_rd) [.slice A38 x37.fTopics.length c39] x37.fTopics, BlkR b33 24 #[.int .i64 x27.fProducer, .int .i64 x27.fEpoch, .int .i64 x27.fTimeout, .int .i64 x27.fState, .slice A28 x27.fTopics.length c29, .int .i64 x27.fUpdated, .int .i64 x27.fStarted], RdR (sliceRd 2 Top_rd) [.slice A28 x27.fTopics.length c29] x27.fTopics, BlkR b11 30 #[.string (bsOf x8.fKey), .bool x8.fValue.null, .string (bsOf x8.fValue.data)], BlkR b7 30 #[.string (bsOf x4.fKey), .bool x4.fValue.null, .string (bsOf x4.fValue.data)], MbR_JournalJournal b3 st51, EmpR]) ?_ ?_
      · clear hk52
        refine T.region rfl ?_
        by_cases c53 : x30 = true
        · replace h := ifT c53 h
          refine TL.run ft_cursitorlaw15_ok [0, 1] rfl rfl ?_
          refine TL.hv 51 rfl c53 ?_
          by_cases c54 : x34 = 0
          · replace h := ifT c54 h
            refine TL.rw ft_cursitorlaw15_ok 4 rfl ?_
            refine TL.hv 55 rfl (decide_eq_true c54) ?_
            by_cases c55 : x40 = true
            · replace h := ifT c55 h
              refine TL.rw ft_cursitorlaw15_ok 4 rfl ?_
              refine TL.hv 59 rfl (bn_f c55) ?_
              refine TL.rw ft_cursitorlaw15_ok 5 rfl ?_
              cases h
              exact TL.nil (X.jq [0, 0, 0, 0, 0, 0, 0, 0] ⟨rfl, rfl⟩ (by rfl) (by rfl))
            · replace h := ifF c55 h
              replace c55 := eq_false_of_ne_true c55
              refine TL.rw ft_cursitorlaw15_ok 4 rfl ?_
              refine TL.hv 59 rfl (bn_t c55) ?_
              obtain ⟨⟨x56, st57⟩, hx58, h⟩ := Option.bind_eq_some_iff.1 h
              try dsimp only at h
              refine TL.rw ft_cursitorlaw15_ok 1 rfl ?_
              refine TL.c6 rfl (.g rfl rfl rfl) (.fn Try.call22 rfl) (f_journal_JournalMany_spec b3 st41 _ hx58) (fun _ hs => (Src.triv _)) rfl ?_
              refine TL.rw ft_cursitorlaw15_ok 3 rfl ?_
              by_cases c59 : x56 = 2
              · replace h := ifT c59 h
                cases h
                exact TL.nil (X.as (d := 0) (v' := .bool true) rfl (congrArg Value.bool (decide_eq_true c59)) (X.jq [0, 0, 0, 0, 0, 0, 0, 0] ⟨rfl, rfl⟩ (by rfl) (by rfl)))
              · replace h := ifF c59 h
                cases h
                exact TL.nil (X.as (d := 0) (v' := .bool false) rfl (congrArg Value.bool (decide_eq_false c59)) (X.jq [0, 0, 0, 0, 0, 0, 0, 0] ⟨rfl, rfl⟩ (by rfl) (by rfl)))
          · replace h := ifF c54 h
            refine TL.rw ft_cursitorlaw15_ok 4 rfl ?_
            refine TL.hv 55 rfl (decide_eq_false c54) ?_
            refine TL.rw ft_cursitorlaw15_ok 9 rfl ?_
            cases h
            exact TL.nil (X.jq [0, 0, 0, 0, 0, 0, 0, 0] ⟨rfl, rfl⟩ (by rfl) (by rfl))
        · replace h := ifF c53 h
          replace c53 := eq_false_of_ne_true c53
          refine TL.run ft_cursitorlaw15_ok [0, 1] rfl rfl ?_
          refine TL.hv 51 rfl c53 ?_
          refine TL.rw ft_cursitorlaw15_ok 13 rfl ?_
          cases h
          exact TL.nil (X.jq [0, 0, 0, 0, 0, 0, 0, 0] ⟨rfl, rfl⟩ (by rfl) (by rfl))
      · rintro _ _ ⟨rfl, rfl⟩
        clear h
        have h := hk52
        clear hk52
        try dsimp only at h
        obtain rfl := Option.some.inj h
        exact X.seq (T.ret (X.done1 [7] Try.results6 (RV.tm rfl) ⟨rfl, rfl, rfl⟩ (by rfl) (.inl rfl)))
def f_l15_JournalPuts_l1 (x82 : Val) : Nat → Nat → Option Nat
  | 0, _ => none
  | m94 + 1, k90 => if (k90 : Int) < (x82.fTopics.length : Int) then (if k90 < x82.fTopics.length then (if k90 < x82.fTopics.length then (if -9223372036854775808 ≤ ((k90 : Int) + 1) ∧ ((k90 : Int) + 1) ≤ 9223372036854775807 then (f_l15_JournalPuts_l1 x82 m94 (k90 + 1)) else none) else none) else none) else some k90
def f_l15_JournalPuts (a0 : List UInt8) (a1 : Val) : Option (Bool) := (f_l15_speaks).bind fun x4 => if x4 = true then ((if (a0.length : Int) > 40000 then some true else ((f_l14_Few a1.fTopics).bind fun x13 => if x13 = 0 then some true else some false)).bind fun y10 => if y10 = true then some true else ((f_journal_Put a0 a1).bind fun (x17, x18) => (f_journal_Drop a0).bind fun (x21, x22) => (gKEncode a0).bind fun (x25, x26) => (if x22 = x26 then (if x26 = 0 then (if x21.fKey = x25 then (if x21.fValue.null = true then (if x21.fValue.data = [] then some false else some true) else some true) else some true) else (if x21.fKey = [] then (if x21.fValue.null = true then some true else (if x21.fValue.data = [] then some false else some true)) else some true)) else some true).bind fun y36 => if y36 = true then none else ((if x26 = 0 then ((f_r14_Check a1).bind fun x53 => some x53) else some x26).bind fun y50 => if y50 = 0 then ((f_journal_New).bind fun st56 => (if x18 = 0 then ((f_r14_Encode a1).bind fun x72 => if x17.fKey = x25 then (if x17.fValue.null = true then some (true, st56) else (if x17.fValue.data = x72 then ((f_journal_JournalApply st56 x17).bind fun (x77, st78) => if x77 = 0 then some (false, st78) else some (true, st78)) else some (true, st56))) else some (true, st56)) else some (true, st56)).bind fun (y68, st69) => if y68 = true then none else ((f_journal_JournalGet st69 a0).bind fun (x82, x85, st86) => if ∀ x, x ∈ x82.fTopics → x.fParts ≠ [] then ((f_l15_JournalPuts_l1 x82 (((x82.fTopics.length : Int)).toNat + 1) 0).bind fun k135 => (f_journal_JournalGet st86 a0).bind fun (x136, x139, st140) => (if x85 = true then (if x139 = true then ((f_r14_Same x136 a1).bind fun x158 => if x158 = true then ((gJIDs st140).bind fun (x161, st164) => if (x161.length : Int) = 1 then some (true, st164) else some (false, st164)) else some (false, st140)) else some (false, st140)) else some (false, st140)).bind fun (y153, st154) => some y153) else none)) else ((if x18 = y50 then (if x17.fKey = [] then (if x17.fValue.null = true then some false else (if x17.fValue.data = [] then some true else some false)) else some false) else some false).bind fun y171 => some y171)))) else none
set_option maxRecDepth 100000 in
set_option maxHeartbeats 4000000 in
theorem f_l15_JournalPuts_spec (a0 : List UInt8) (a1 : Val) (A1 : Option Addr) (c2 : Nat) (r : Bool) (h : f_l15_JournalPuts a0 a1 = some r) : SpecX Try.prog 3 #[.string (bsOf a0), .agg #[.int .i64 a1.fProducer, .int .i64 a1.fEpoch, .int .i64 a1.fTimeout, .int .i64 a1.fState, .slice A1 a1.fTopics.length c2, .int .i64 a1.fUpdated, .int .i64 a1.fStarted]] (RX.of (sliceRd 2 Top_rd) [.slice A1 a1.fTopics.length c2] a1.fTopics) (EmpR) (fun v A' N => v = .bool r ∧ A' = EmpR ∧ N = []) := by
  refine enterA Try.func3 rfl Try.ntmps3 rfl ?_
  intro F w hX
  unfold f_l15_JournalPuts at h
  refine T.seq (T.region rfl ?_)
  refine TL.box rfl .u rfl rfl (fun b3 => ?_)
  refine TL.run ft_cursitorlaw15_ok [1] rfl rfl ?_
  obtain ⟨x4, hx5, h⟩ := Option.bind_eq_some_iff.1 h
  refine TL.nil (X.seq (T.seq (T.seq (T.region rfl ?_))))
  refine TL.ce rfl .u (.fn Try.call6 rfl) (f_l15_speaks_spec _ hx5) (fun _ hs => (RX.reads_triv _ _)) rfl ?_
  refine TL.run ft_cursitorlaw15_ok [1] rfl rfl ?_
  by_cases c6 : x4 = true
  · replace h := ifT c6 h
    refine TL.nil (X.seq ?_)
    refine T.no rfl (bn_f c6) ?_
    refine T.skip (X.seq (T.seq (T.seq ?_)))
    obtain ⟨y10, h, hk11⟩ := Option.bind_eq_some_iff.1 h
    refine T.jq (fun e Rs => e = [(0, .string (bsOf a0)), (3, .pointer (some ⟨b3, 0, none⟩)), (4, .bool false), (28, .bool y10)] ∧ Rs = [BlkR b3 24 #[.int .i64 a1.fProducer, .int .i64 a1.fEpoch, .int .i64 a1.fTimeout, .int .i64 a1.fState, .slice A1 a1.fTopics.length c2, .int .i64 a1.fUpdated, .int .i64 a1.fStarted], EmpR]) ?_ ?_
    · clear hk11
      refine T.region rfl ?_
      refine TL.run ft_cursitorlaw15_ok [0] rfl rfl ?_
      refine TL.q rfl .u (Ex.lenB rfl Try.runUnderlying9) rfl ?_
      by_cases c12 : (a0.length : Int) > 40000
      · replace h := ifT c12 h
        refine TL.run ft_cursitorlaw15_ok [2, 3] rfl rfl ?_
        refine TL.hv 23 rfl (decide_eq_true c12) ?_
        refine TL.rw ft_cursitorlaw15_ok 5 rfl ?_
        cases h
        exact TL.nil (X.jq [0, 0] ⟨rfl, rfl⟩ (by rfl) (by rfl))
      · replace h := ifF c12 h
        refine TL.run ft_cursitorlaw15_ok [2, 3] rfl rfl ?_
        refine TL.hv 23 rfl (decide_eq_false c12) ?_
        obtain ⟨x13, hx14, h⟩ := Option.bind_eq_some_iff.1 h
        refine TL.rb ft_cursitorlaw15_ok nt_cursitorlaw15_ok 0 rfl 2 rfl rfl ?_
        refine TL.ce rfl (.g rfl rfl rfl) (.fn Try.call7 rfl) (f_l14_Few_spec a1.fTopics _ _ _ hx14) (fun _ hs => (SrcE.old hs hX)) rfl ?_
        refine TL.rw ft_cursitorlaw15_ok 2 rfl ?_
        by_cases c15 : x13 = 0
        · replace h := ifT c15 h
          cases h
          exact TL.nil (X.as (d := 28) (v' := .bool true) rfl (congrArg Value.bool (decide_eq_true c15)) (X.jq [0, 0] ⟨rfl, rfl⟩ (by rfl) (by rfl)))
        · replace h := ifF c15 h
          cases h
          exact TL.nil (X.as (d := 28) (v' := .bool false) rfl (congrArg Value.bool (decide_eq_false c15)) (X.jq [0, 0] ⟨rfl, rfl⟩ (by rfl) (by rfl)))
    · rintro _ _ ⟨rfl, rfl⟩
      clear h
      have h := hk11
      clear hk11
      try dsimp only at h
      by_cases c16 : y10 = true
      · replace h := ifT c16 h
        refine X.seq ?_
        refine T.yes rfl c16 ?_
        refine T.seq (T.region rfl ?_)
        refine TL.run ft_cursitorlaw15_ok [0] rfl rfl ?_
        obtain rfl := Option.some.inj h
        exact TL.nil (X.seq (T.ret (X.rs (X.done1 [1] Try.results3 (RV.tm rfl) ⟨rfl, rfl, rfl⟩ (by rfl) (.inl rfl)))))
      · replace h := ifF c16 h
        replace c16 := eq_false_of_ne_true c16
        refine X.seq ?_
        refine T.no rfl c16 ?_
        refine T.skip (X.seq (T.seq (T.region rfl ?_)))
        refine TL.run ft_cursitorlaw15_ok [0] rfl rfl ?_
        refine TL.q rfl .u (Ex.bS (us := [.int .i64 a1.fProducer, .int .i64 a1.fEpoch, .int .i64 a1.fTimeout, .int .i64 a1.fState, .slice A1 a1.fTopics.length c2, .int .i64 a1.fUpdated, .int .i64 a1.fStarted]) 0 rfl Try.isAgg24 Try.sizeOf24 rfl rfl rfl) rfl ?_
        obtain ⟨⟨x17, x18⟩, hx19, h⟩ := Option.bind_eq_some_iff.1 h
        try dsimp only at h
        refine TL.ce rfl .u (.fn Try.call8 rfl) (f_journal_Put_spec a0 a1 _ _ _ hx19) (fun _ hs => (SrcE.old hs hX)) rfl ?_
        refine TL.run ft_cursitorlaw15_ok [3, 4, 5] rfl rfl ?_
        refine TL.alloc rfl .u Try.zeroValue30 rfl (fun b20 => ?_)
        refine TL.st0 (cs' := #[.string (bsOf x17.fKey), .bool x17.fValue.null, .string (bsOf x17.fValue.data)]) rfl .u rfl rfl Try.sizeOf30 rfl rfl rfl rfl ?_
        refine TL.run ft_cursitorlaw15_ok [8] rfl rfl ?_
        refine TL.nil (X.seq (T.seq (T.region rfl ?_)))
        obtain ⟨⟨x21, x22⟩, hx23, h⟩ := Option.bind_eq_some_iff.1 h
        try dsimp only at h
        refine TL.run ft_cursitorlaw15_ok [0] rfl rfl ?_
        refine TL.ce rfl .u (.fn Try.call9 rfl) (f_journal_Drop_spec a0 _ hx23) (fun _ hs => (RX.reads_triv _ _)) rfl ?_
        refine TL.run ft_cursitorlaw15_ok [2, 3, 4] rfl rfl ?_
        refine TL.alloc rfl .u Try.zeroValue30 rfl (fun b24 => ?_)
        refine TL.st0 (cs' := #[.string (bsOf x21.fKey), .bool x21.fValue.null, .string (bsOf x21.fValue.data)]) rfl .u rfl rfl Try.sizeOf30 rfl rfl rfl rfl ?_
        refine TL.run ft_cursitorlaw15_ok [7] rfl rfl ?_
        refine TL.nil (X.seq (T.seq (T.region rfl ?_)))
        obtain ⟨⟨x25, x26⟩, hx27, h⟩ := Option.bind_eq_some_iff.1 h
        try dsimp only at h
        refine TL.run ft_cursitorlaw15_ok [0] rfl rfl ?_
        refine TL.ce rfl .u (.fn Try.call10 rfl) (gKEncode_spec a0 _ hx27) (fun _ hs => (RX.reads_triv _ _)) rfl ?_
        refine TL.run ft_cursitorlaw15_ok [2, 3, 4, 5, 6] rfl rfl ?_
        refine TL.nil (X.seq (T.seq (T.seq ?_)))
        obtain ⟨y36, h, hk37⟩ := Option.bind_eq_some_iff.1 h
        refine T.jq (fun e Rs => e = [(0, .string (bsOf a0)), (3, .pointer (some ⟨b3, 0, none⟩)), (4, .bool false), (5, .pointer (some ⟨b20, 0, none⟩)), (6, .int .i64 x18), (9, .string (bsOf x25)), (10, .int .i64 x26), (67, .bool y36)] ∧ Rs = [BlkR b24 30 #[.string (bsOf x21.fKey), .bool x21.fValue.null, .string (bsOf x21.fValue.data)], BlkR b20 30 #[.string (bsOf x17.fKey), .bool x17.fValue.null, .string (bsOf x17.fValue.data)], BlkR b3 24 #[.int .i64 a1.fProducer, .int .i64 a1.fEpoch, .int .i64 a1.fTimeout, .int .i64 a1.fState, .slice A1 a1.fTopics.length c2, .int .i64 a1.fUpdated, .int .i64 a1.fStarted], EmpR]) ?_ ?_
        · clear hk37
          refine T.region rfl ?_
          by_cases c38 : x22 = x26
          · replace h := ifT c38 h
            refine TL.run ft_cursitorlaw15_ok [0, 1, 2, 3] rfl rfl ?_
            refine TL.hv 48 rfl (bn_f (decide_eq_true c38)) ?_
            by_cases c39 : x26 = 0
            · replace h := ifT c39 h
              refine TL.rw ft_cursitorlaw15_ok 3 rfl ?_
              refine TL.hv 51 rfl (decide_eq_true c39) ?_
              refine TL.q rfl (.g rfl rfl rfl) (Ex.bS (us := [.string (bsOf x21.fKey), .bool x21.fValue.null, .string (bsOf x21.fValue.data)]) 0 rfl Try.isAgg30 Try.sizeOf30 rfl rfl rfl) rfl ?_
              refine TL.rw ft_cursitorlaw15_ok 1 rfl ?_
              refine TL.q rfl (.g rfl rfl rfl) (Ex.bld (cells := #[.bool true, .string ⟨#[]⟩]) bok_cursitorlaw15_28 rfl (by kernel_rfl)) rfl ?_
              refine TL.q rfl (.g rfl rfl rfl) (Ex.bld (cells := #[.string (bsOf x25), .bool true, .string ⟨#[]⟩]) bok_cursitorlaw15_30 rfl (by kernel_rfl)) rfl ?_
              by_cases c40 : x21.fKey = x25
              · replace h := ifT c40 h
                by_cases c41 : x21.fValue.null = true
                · replace h := ifT c41 h
                  by_cases c42 : x21.fValue.data = []
                  · replace h := ifT c42 h
                    refine TL.q rfl (.g rfl rfl rfl) (Ex.aNe (us := [.string (bsOf x21.fKey), .bool x21.fValue.null, .string (bsOf x21.fValue.data)]) (vs := [.string (bsOf x25), .bool true, .string ⟨#[]⟩]) flat_cursitorlaw15_30 rfl Try.eqGuardType30 rfl rfl rfl rfl (eqL_t (eqV_s (l := x21.fKey) (m := x25) c40) (eqL_t (eqV_b (c41.trans (Eq.symm rfl))) (eqL_t (eqV_s (l := x21.fValue.data) (m := []) c42) rfl)))) rfl ?_
                    refine TL.rw ft_cursitorlaw15_ok 6 rfl ?_
                    refine TL.hv 62 rfl (bn_f (decide_eq_true c39)) ?_
                    refine TL.rw ft_cursitorlaw15_ok 5 rfl ?_
                    cases h
                    exact TL.nil (X.jq [0, 0, 0, 0] ⟨rfl, rfl⟩ (by rfl) (by rfl))
                  · replace h := ifF c42 h
                    refine TL.q rfl (.g rfl rfl rfl) (Ex.aNe (us := [.string (bsOf x21.fKey), .bool x21.fValue.null, .string (bsOf x21.fValue.data)]) (vs := [.string (bsOf x25), .bool true, .string ⟨#[]⟩]) flat_cursitorlaw15_30 rfl Try.eqGuardType30 rfl rfl rfl rfl (eqL_t (eqV_s (l := x21.fKey) (m := x25) c40) (eqL_t (eqV_b (c41.trans (Eq.symm rfl))) (eqL_f (eqV_sn (l := x21.fValue.data) (m := []) c42))))) rfl ?_
                    refine TL.rw ft_cursitorlaw15_ok 11 rfl ?_
                    cases h
                    exact TL.nil (X.jq [0, 0, 0, 0] ⟨rfl, rfl⟩ (by rfl) (by rfl))
                · replace h := ifF c41 h
                  replace c41 := eq_false_of_ne_true c41
                  refine TL.q rfl (.g rfl rfl rfl) (Ex.aNe (us := [.string (bsOf x21.fKey), .bool x21.fValue.null, .string (bsOf x21.fValue.data)]) (vs := [.string (bsOf x25), .bool true, .string ⟨#[]⟩]) flat_cursitorlaw15_30 rfl Try.eqGuardType30 rfl rfl rfl rfl (eqL_t (eqV_s (l := x21.fKey) (m := x25) c40) (eqL_f (eqV_bn (fun h => absurd ((Eq.symm c41).trans (h.trans rfl)) (by decide)))))) rfl ?_
                  refine TL.rw ft_cursitorlaw15_ok 11 rfl ?_
                  cases h
                  exact TL.nil (X.jq [0, 0, 0, 0] ⟨rfl, rfl⟩ (by rfl) (by rfl))
              · replace h := ifF c40 h
                refine TL.q rfl (.g rfl rfl rfl) (Ex.aNe (us := [.string (bsOf x21.fKey), .bool x21.fValue.null, .string (bsOf x21.fValue.data)]) (vs := [.string (bsOf x25), .bool true, .string ⟨#[]⟩]) flat_cursitorlaw15_30 rfl Try.eqGuardType30 rfl rfl rfl rfl (eqL_f (eqV_sn (l := x21.fKey) (m := x25) c40))) rfl ?_
                refine TL.rw ft_cursitorlaw15_ok 11 rfl ?_
                cases h
                exact TL.nil (X.jq [0, 0, 0, 0] ⟨rfl, rfl⟩ (by rfl) (by rfl))
            · replace h := ifF c39 h
              refine TL.rw ft_cursitorlaw15_ok 3 rfl ?_
              refine TL.hv 51 rfl (decide_eq_false c39) ?_
              refine TL.rw ft_cursitorlaw15_ok 11 rfl ?_
              refine TL.hv 62 rfl (bn_t (decide_eq_false c39)) ?_
              refine TL.q rfl (.g rfl rfl rfl) (Ex.bS (us := [.string (bsOf x21.fKey), .bool x21.fValue.null, .string (bsOf x21.fValue.data)]) 0 rfl Try.isAgg30 Try.sizeOf30 rfl rfl rfl) rfl ?_
              refine TL.q rfl (.g rfl rfl rfl) (Ex.bld (cells := #[.string ⟨#[]⟩, .bool false, .string ⟨#[]⟩]) bok_cursitorlaw15_30 rfl (by kernel_rfl)) rfl ?_
              by_cases c43 : x21.fKey = []
              · replace h := ifT c43 h
                by_cases c44 : x21.fValue.null = true
                · replace h := ifT c44 h
                  refine TL.q rfl (.g rfl rfl rfl) (Ex.aNe (us := [.string (bsOf x21.fKey), .bool x21.fValue.null, .string (bsOf x21.fValue.data)]) (vs := [.string ⟨#[]⟩, .bool false, .string ⟨#[]⟩]) flat_cursitorlaw15_30 rfl Try.eqGuardType30 rfl rfl rfl rfl (eqL_t (eqV_s (l := x21.fKey) (m := []) c43) (eqL_f (eqV_bn (fun h => absurd ((Eq.symm c44).trans (h.trans rfl)) (by decide)))))) rfl ?_
                  refine TL.rw ft_cursitorlaw15_ok 2 rfl ?_
                  cases h
                  exact TL.nil (X.jq [0, 0, 0, 0] ⟨rfl, rfl⟩ (by rfl) (by rfl))
                · replace h := ifF c44 h
                  replace c44 := eq_false_of_ne_true c44
                  by_cases c45 : x21.fValue.data = []
                  · replace h := ifT c45 h
                    refine TL.q rfl (.g rfl rfl rfl) (Ex.aNe (us := [.string (bsOf x21.fKey), .bool x21.fValue.null, .string (bsOf x21.fValue.data)]) (vs := [.string ⟨#[]⟩, .bool false, .string ⟨#[]⟩]) flat_cursitorlaw15_30 rfl Try.eqGuardType30 rfl rfl rfl rfl (eqL_t (eqV_s (l := x21.fKey) (m := []) c43) (eqL_t (eqV_b (c44.trans (Eq.symm rfl))) (eqL_t (eqV_s (l := x21.fValue.data) (m := []) c45) rfl)))) rfl ?_
                    refine TL.rw ft_cursitorlaw15_ok 2 rfl ?_
                    cases h
                    exact TL.nil (X.jq [0, 0, 0, 0] ⟨rfl, rfl⟩ (by rfl) (by rfl))
                  · replace h := ifF c45 h
                    refine TL.q rfl (.g rfl rfl rfl) (Ex.aNe (us := [.string (bsOf x21.fKey), .bool x21.fValue.null, .string (bsOf x21.fValue.data)]) (vs := [.string ⟨#[]⟩, .bool false, .string ⟨#[]⟩]) flat_cursitorlaw15_30 rfl Try.eqGuardType30 rfl rfl rfl rfl (eqL_t (eqV_s (l := x21.fKey) (m := []) c43) (eqL_t (eqV_b (c44.trans (Eq.symm rfl))) (eqL_f (eqV_sn (l := x21.fValue.data) (m := []) c45))))) rfl ?_
                    refine TL.rw ft_cursitorlaw15_ok 2 rfl ?_
                    cases h
                    exact TL.nil (X.jq [0, 0, 0, 0] ⟨rfl, rfl⟩ (by rfl) (by rfl))
              · replace h := ifF c43 h
                refine TL.q rfl (.g rfl rfl rfl) (Ex.aNe (us := [.string (bsOf x21.fKey), .bool x21.fValue.null, .string (bsOf x21.fValue.data)]) (vs := [.string ⟨#[]⟩, .bool false, .string ⟨#[]⟩]) flat_cursitorlaw15_30 rfl Try.eqGuardType30 rfl rfl rfl rfl (eqL_f (eqV_sn (l := x21.fKey) (m := []) c43))) rfl ?_
                refine TL.rw ft_cursitorlaw15_ok 2 rfl ?_
                cases h
                exact TL.nil (X.jq [0, 0, 0, 0] ⟨rfl, rfl⟩ (by rfl) (by rfl))
          · replace h := ifF c38 h
            refine TL.run ft_cursitorlaw15_ok [0, 1, 2, 3] rfl rfl ?_
            refine TL.hv 48 rfl (bn_t (decide_eq_false c38)) ?_
            refine TL.rw ft_cursitorlaw15_ok 19 rfl ?_
            cases h
            exact TL.nil (X.jq [0, 0, 0, 0] ⟨rfl, rfl⟩ (by rfl) (by rfl))
        · rintro _ _ ⟨rfl, rfl⟩
          clear h
          have h := hk37
          clear hk37
          try dsimp only at h
          by_cases c46 : y36 = true
          · replace h := ifT c46 h
            refine X.seq ?_
            refine T.yes rfl c46 ?_
            exact nomatch h
          · replace h := ifF c46 h
            replace c46 := eq_false_of_ne_true c46
            refine X.seq ?_
            refine T.no rfl c46 ?_
            refine T.skip (X.seq (T.seq (T.region rfl ?_)))
            refine TL.run ft_cursitorlaw15_ok [0, 1] rfl rfl ?_
            refine TL.nil (X.seq (T.seq (T.seq (T.region rfl ?_))))
            refine TL.run ft_cursitorlaw15_ok [0, 1] rfl rfl ?_
            refine TL.nil (X.seq ?_)
            obtain ⟨y50, h, hk51⟩ := Option.bind_eq_some_iff.1 h
            refine T.jq (fun e Rs => e = [(0, .string (bsOf a0)), (3, .pointer (some ⟨b3, 0, none⟩)), (4, .bool false), (5, .pointer (some ⟨b20, 0, none⟩)), (6, .int .i64 x18), (9, .string (bsOf x25)), (11, .int .i64 y50)] ∧ Rs = [BlkR b24 30 #[.string (bsOf x21.fKey), .bool x21.fValue.null, .string (bsOf x21.fValue.data)], BlkR b20 30 #[.string (bsOf x17.fKey), .bool x17.fValue.null, .string (bsOf x17.fValue.data)], BlkR b3 24 #[.int .i64 a1.fProducer, .int .i64 a1.fEpoch, .int .i64 a1.fTimeout, .int .i64 a1.fState, .slice A1 a1.fTopics.length c2, .int .i64 a1.fUpdated, .int .i64 a1.fStarted], EmpR]) ?_ ?_
            · clear hk51
              by_cases c52 : x26 = 0
              · replace h := ifT c52 h
                refine T.yes rfl (decide_eq_true c52) ?_
                refine T.region rfl ?_
                refine TL.q rfl .u (Ex.bS (us := [.int .i64 a1.fProducer, .int .i64 a1.fEpoch, .int .i64 a1.fTimeout, .int .i64 a1.fState, .slice A1 a1.fTopics.length c2, .int .i64 a1.fUpdated, .int .i64 a1.fStarted]) 2 rfl Try.isAgg24 Try.sizeOf24 rfl rfl rfl) rfl ?_
                obtain ⟨x53, hx54, h⟩ := Option.bind_eq_some_iff.1 h
                refine TL.ce rfl .u (.fn Try.call11 rfl) (f_r14_Check_spec a1 _ _ _ hx54) (fun _ hs => (SrcE.old hs hX)) rfl ?_
                refine TL.run ft_cursitorlaw15_ok [2] rfl rfl ?_
                cases h
                exact TL.nil (X.jq [0, 0, 0, 0] ⟨rfl, rfl⟩ (by rfl) (by rfl))
              · replace h := ifF c52 h
                refine T.no rfl (decide_eq_false c52) ?_
                cases h
                exact T.skip (X.jq [0, 0, 0, 0] ⟨rfl, rfl⟩ (by rfl) (by rfl))
            · rintro _ _ ⟨rfl, rfl⟩
              clear h
              have h := hk51
              clear hk51
              try dsimp only at h
              refine X.seq (T.seq (T.seq (T.region rfl ?_)))
              refine TL.run ft_cursitorlaw15_ok [0, 1] rfl rfl ?_
              by_cases c55 : y50 = 0
              · replace h := ifT c55 h
                refine TL.nil (X.seq ?_)
                refine T.no rfl (bn_f (decide_eq_true c55)) ?_
                obtain ⟨st56, hx57, h⟩ := Option.bind_eq_some_iff.1 h
                refine T.skip (X.seq (T.seq (T.region rfl ?_)))
                refine TL.cge rfl .u (.fn Try.call12 rfl) (f_journal_New_spec _ hx57) (fun _ hs => (RX.reads_triv _ _)) rfl ?_
                rintro _ _ _ ⟨b58, rfl, rfl, rfl⟩
                refine TL.sel [0, 0, 0, 0, 0] rfl ?_
                refine TL.run ft_cursitorlaw15_ok [1] rfl rfl ?_
                refine TL.nil (X.seq (T.seq (T.seq ?_)))
                obtain ⟨⟨y68, st69⟩, h, hk70⟩ := Option.bind_eq_some_iff.1 h
                refine T.jq (fun e Rs => e = [(0, .string (bsOf a0)), (3, .pointer (some ⟨b3, 0, none⟩)), (4, .bool false), (12, .pointer (some ⟨b58, 0, none⟩)), (100, .bool y68)] ∧ Rs = [MbR_JournalJournal b58 st69, BlkR b24 30 #[.string (bsOf x21.fKey), .bool x21.fValue.null, .string (bsOf x21.fValue.data)], BlkR b20 30 #[.string (bsOf x17.fKey), .bool x17.fValue.null, .string (bsOf x17.fValue.data)], BlkR b3 24 #[.int .i64 a1.fProducer, .int .i64 a1.fEpoch, .int .i64 a1.fTimeout, .int .i64 a1.fState, .slice A1 a1.fTopics.length c2, .int .i64 a1.fUpdated, .int .i64 a1.fStarted], EmpR]) ?_ ?_
                · clear hk70
                  refine T.draw (.q 0 (.q 1 (.q 2 (.q 3 (.q 4 (.q 5 (.e 6 (.q 7 (.q 8 (.q 9 (.q 10 (.q 11 (.q 12 (.q 13 (.e 14 (.q 15 (.q 16 .nil))))))))))))))))) [1, 1, 1, 1] rfl mix_cursitorlaw15 (NoP.seq (NoP.seq (NoP.seq np_post))) (by kernel_rfl) ?_
                  by_cases c71 : x18 = 0
                  · replace h := ifT c71 h
                    refine TD.run ft_cursitorlaw15_ok [0, 1, 2] rfl rfl ?_
                    refine TD.q rfl (.g rfl rfl (bn_f (decide_eq_true c71))) (Ex.bS (us := [.string (bsOf x17.fKey), .bool x17.fValue.null, .string (bsOf x17.fValue.data)]) 1 rfl Try.isAgg30 Try.sizeOf30 rfl rfl rfl) rfl ?_
                    refine TD.q rfl (.g rfl rfl (bn_f (decide_eq_true c71))) (Ex.ft ft_cursitorlaw15_ok rfl) rfl ?_
                    refine TD.q rfl (.g rfl rfl (bn_f (decide_eq_true c71))) (Ex.bS (us := [.int .i64 a1.fProducer, .int .i64 a1.fEpoch, .int .i64 a1.fTimeout, .int .i64 a1.fState, .slice A1 a1.fTopics.length c2, .int .i64 a1.fUpdated, .int .i64 a1.fStarted]) 2 rfl Try.isAgg24 Try.sizeOf24 rfl rfl rfl) rfl ?_
                    obtain ⟨x72, hx73, h⟩ := Option.bind_eq_some_iff.1 h
                    refine TD.ce rfl (.g rfl rfl (bn_f (decide_eq_true c71))) (.fn Try.call13 rfl) (f_r14_Encode_spec a1 _ _ _ hx73) (fun _ hs => (SrcE.old hs hX)) rfl [1, 1, 1, 1] (rfl) ?_
                    refine TD.q rfl (.g rfl rfl (bn_f (decide_eq_true c71))) (Ex.bld (cells := #[.bool false, .string (bsOf x72)]) bok_cursitorlaw15_28 rfl (by kernel_rfl)) rfl ?_
                    refine TD.q rfl (.g rfl rfl (bn_f (decide_eq_true c71))) (Ex.bld (cells := #[.string (bsOf x25), .bool false, .string (bsOf x72)]) bok_cursitorlaw15_30 rfl (by kernel_rfl)) rfl ?_
                    by_cases c74 : x17.fKey = x25
                    · replace h := ifT c74 h
                      by_cases c75 : x17.fValue.null = true
                      · replace h := ifT c75 h
                        refine TD.q rfl (.g rfl rfl (bn_f (decide_eq_true c71))) (Ex.aNe (us := [.string (bsOf x17.fKey), .bool x17.fValue.null, .string (bsOf x17.fValue.data)]) (vs := [.string (bsOf x25), .bool false, .string (bsOf x72)]) flat_cursitorlaw15_30 rfl Try.eqGuardType30 rfl rfl rfl rfl (eqL_t (eqV_s (l := x17.fKey) (m := x25) c74) (eqL_f (eqV_bn (fun h => absurd ((Eq.symm c75).trans (h.trans rfl)) (by decide)))))) rfl ?_
                        refine TD.q rfl .u (Ex.pn rfl (bn_f (decide_eq_true c71)) rfl) rfl ?_
                        refine TD.run ft_cursitorlaw15_ok [11] rfl rfl ?_
                        refine TD.no rfl (.gn rfl rfl rfl) rfl ?_
                        refine TD.no rfl (.gn rfl rfl rfl) rfl ?_
                        refine TD.noe rfl (.gn rfl rfl rfl) rfl [1, 1, 1, 1] rfl ?_
                        refine TD.no rfl (.gn rfl rfl rfl) rfl ?_
                        refine TD.q rfl .u (Ex.py rfl rfl rfl) rfl ?_
                        cases h
                        exact TD.nil (X.jq [0, 0, 0, 0, 0] ⟨rfl, rfl⟩ (by rfl) (by rfl))
                      · replace h := ifF c75 h
                        replace c75 := eq_false_of_ne_true c75
                        by_cases c76 : x17.fValue.data = x72
                        · replace h := ifT c76 h
                          refine TD.q rfl (.g rfl rfl (bn_f (decide_eq_true c71))) (Ex.aNe (us := [.string (bsOf x17.fKey), .bool x17.fValue.null, .string (bsOf x17.fValue.data)]) (vs := [.string (bsOf x25), .bool false, .string (bsOf x72)]) flat_cursitorlaw15_30 rfl Try.eqGuardType30 rfl rfl rfl rfl (eqL_t (eqV_s (l := x17.fKey) (m := x25) c74) (eqL_t (eqV_b (c75.trans (Eq.symm rfl))) (eqL_t (eqV_s (l := x17.fValue.data) (m := x72) c76) rfl)))) rfl ?_
                          refine TD.q rfl .u (Ex.pn rfl (bn_f (decide_eq_true c71)) rfl) rfl ?_
                          refine TD.run ft_cursitorlaw15_ok [11] rfl rfl ?_
                          refine TD.q rfl (.g rfl rfl rfl) (Ex.ft ft_cursitorlaw15_ok rfl) rfl ?_
                          refine TD.q rfl (.g rfl rfl rfl) (Ex.bS (us := [.string (bsOf x17.fKey), .bool x17.fValue.null, .string (bsOf x17.fValue.data)]) 1 rfl Try.isAgg30 Try.sizeOf30 rfl rfl rfl) rfl ?_
                          obtain ⟨⟨x77, st78⟩, hx79, h⟩ := Option.bind_eq_some_iff.1 h
                          try dsimp only at h
                          refine TD.c0 rfl (.g rfl rfl rfl) (.fn Try.call14 rfl) (f_journal_JournalApply_spec b58 st56 x17 _ hx79) (fun _ hs => (Src.triv _)) rfl [1, 1, 1, 1] (rfl) ?_
                          refine TD.q rfl (.g rfl rfl rfl) (Ex.ft ft_cursitorlaw15_ok rfl) rfl ?_
                          refine TD.q rfl .u (Ex.pn rfl rfl rfl) rfl ?_
                          by_cases c80 : x77 = 0
                          · replace h := ifT c80 h
                            cases h
                            exact TD.nil (X.as (d := 100) (v' := .bool false) rfl (congrArg Value.bool (bn_f (decide_eq_true c80))) (X.jq [0, 0, 0, 0, 0] ⟨rfl, rfl⟩ (by rfl) (by rfl)))
                          · replace h := ifF c80 h
                            cases h
                            exact TD.nil (X.as (d := 100) (v' := .bool true) rfl (congrArg Value.bool (bn_t (decide_eq_false c80))) (X.jq [0, 0, 0, 0, 0] ⟨rfl, rfl⟩ (by rfl) (by rfl)))
                        · replace h := ifF c76 h
                          refine TD.q rfl (.g rfl rfl (bn_f (decide_eq_true c71))) (Ex.aNe (us := [.string (bsOf x17.fKey), .bool x17.fValue.null, .string (bsOf x17.fValue.data)]) (vs := [.string (bsOf x25), .bool false, .string (bsOf x72)]) flat_cursitorlaw15_30 rfl Try.eqGuardType30 rfl rfl rfl rfl (eqL_t (eqV_s (l := x17.fKey) (m := x25) c74) (eqL_t (eqV_b (c75.trans (Eq.symm rfl))) (eqL_f (eqV_sn (l := x17.fValue.data) (m := x72) c76))))) rfl ?_
                          refine TD.q rfl .u (Ex.pn rfl (bn_f (decide_eq_true c71)) rfl) rfl ?_
                          refine TD.run ft_cursitorlaw15_ok [11] rfl rfl ?_
                          refine TD.no rfl (.gn rfl rfl rfl) rfl ?_
                          refine TD.no rfl (.gn rfl rfl rfl) rfl ?_
                          refine TD.noe rfl (.gn rfl rfl rfl) rfl [1, 1, 1, 1] rfl ?_
                          refine TD.no rfl (.gn rfl rfl rfl) rfl ?_
                          refine TD.q rfl .u (Ex.py rfl rfl rfl) rfl ?_
                          cases h
                          exact TD.nil (X.jq [0, 0, 0, 0, 0] ⟨rfl, rfl⟩ (by rfl) (by rfl))
                    · replace h := ifF c74 h
                      refine TD.q rfl (.g rfl rfl (bn_f (decide_eq_true c71))) (Ex.aNe (us := [.string (bsOf x17.fKey), .bool x17.fValue.null, .string (bsOf x17.fValue.data)]) (vs := [.string (bsOf x25), .bool false, .string (bsOf x72)]) flat_cursitorlaw15_30 rfl Try.eqGuardType30 rfl rfl rfl rfl (eqL_f (eqV_sn (l := x17.fKey) (m := x25) c74))) rfl ?_
                      refine TD.q rfl .u (Ex.pn rfl (bn_f (decide_eq_true c71)) rfl) rfl ?_
                      refine TD.run ft_cursitorlaw15_ok [11] rfl rfl ?_
                      refine TD.no rfl (.gn rfl rfl rfl) rfl ?_
                      refine TD.no rfl (.gn rfl rfl rfl) rfl ?_
                      refine TD.noe rfl (.gn rfl rfl rfl) rfl [1, 1, 1, 1] rfl ?_
                      refine TD.no rfl (.gn rfl rfl rfl) rfl ?_
                      refine TD.q rfl .u (Ex.py rfl rfl rfl) rfl ?_
                      cases h
                      exact TD.nil (X.jq [0, 0, 0, 0, 0] ⟨rfl, rfl⟩ (by rfl) (by rfl))
                  · replace h := ifF c71 h
                    refine TD.run ft_cursitorlaw15_ok [0, 1, 2] rfl rfl ?_
                    refine TD.no rfl (.gn rfl rfl (bn_t (decide_eq_false c71))) rfl ?_
                    refine TD.no rfl (.gn rfl rfl (bn_t (decide_eq_false c71))) rfl ?_
                    refine TD.no rfl (.gn rfl rfl (bn_t (decide_eq_false c71))) rfl ?_
                    refine TD.noe rfl (.gn rfl rfl (bn_t (decide_eq_false c71))) rfl [1, 1, 1, 1] rfl ?_
                    refine TD.no rfl (.gn rfl rfl (bn_t (decide_eq_false c71))) rfl ?_
                    refine TD.no rfl (.gn rfl rfl (bn_t (decide_eq_false c71))) rfl ?_
                    refine TD.no rfl (.gn rfl rfl (bn_t (decide_eq_false c71))) rfl ?_
                    refine TD.q rfl .u (Ex.py rfl (bn_t (decide_eq_false c71)) rfl) rfl ?_
                    refine TD.run ft_cursitorlaw15_ok [11] rfl rfl ?_
                    refine TD.no rfl (.gn rfl rfl rfl) rfl ?_
                    refine TD.no rfl (.gn rfl rfl rfl) rfl ?_
                    refine TD.noe rfl (.gn rfl rfl rfl) rfl [1, 1, 1, 1] rfl ?_
                    refine TD.no rfl (.gn rfl rfl rfl) rfl ?_
                    refine TD.q rfl .u (Ex.py rfl rfl rfl) rfl ?_
                    cases h
                    exact TD.nil (X.jq [0, 0, 0, 0, 0] ⟨rfl, rfl⟩ (by rfl) (by rfl))
                · rintro _ _ ⟨rfl, rfl⟩
                  clear h
                  have h := hk70
                  clear hk70
                  try dsimp only at h
                  by_cases c81 : y68 = true
                  · replace h := ifT c81 h
                    refine X.seq ?_
                    refine T.yes rfl c81 ?_
                    exact nomatch h
                  · replace h := ifF c81 h
                    replace c81 := eq_false_of_ne_true c81
                    refine X.seq ?_
                    refine T.no rfl c81 ?_
                    refine T.skip (X.seq (T.seq (T.region rfl ?_)))
                    obtain ⟨⟨x82, x85, st86⟩, hx87, h⟩ := Option.bind_eq_some_iff.1 h
                    try dsimp only at h
                    refine TL.run ft_cursitorlaw15_ok [0, 1] rfl rfl ?_
                    refine TL.cg0 rfl .u (.fn Try.call15 rfl) (f_journal_JournalGet_spec b58 st69 a0 _ hx87) (fun _ hs => (Src.triv _)) rfl ?_
                    rintro _ _ _ ⟨A83, c84, rfl, rfl, rfl⟩
                    refine TL.sel [0, 0, 0, 0, 0, 0] rfl ?_
                    replace h := guard_some h
                    obtain ⟨c88, h⟩ := h
                    refine TL.copTop 0 rfl c88 ?_
                    refine TL.sel [0, 0, 0, 0, 0, 0] rfl ?_
                    refine TL.run ft_cursitorlaw15_ok [3, 4, 5] rfl rfl ?_
                    refine TL.alloc rfl .u Try.zeroValue24 rfl (fun b89 => ?_)
                    refine TL.st0 (cs' := #[.int .i64 x82.fProducer, .int .i64 x82.fEpoch, .int .i64 x82.fTimeout, .int .i64 x82.fState, .slice A83 x82.fTopics.length c84, .int .i64 x82.fUpdated, .int .i64 x82.fStarted]) rfl .u rfl rfl Try.sizeOf24 rfl rfl rfl rfl ?_
                    refine TL.run ft_cursitorlaw15_ok [8] rfl rfl ?_
                    refine TL.nil (X.seq (T.seq (T.seq (T.region rfl ?_))))
                    refine TL.rb ft_cursitorlaw15_ok nt_cursitorlaw15_ok 0 rfl 2 rfl rfl ?_
                    refine TL.q rfl .u (Ex.lenS rfl Try.runUnderlying22) rfl ?_
                    refine TL.run ft_cursitorlaw15_ok [3] rfl rfl ?_
                    refine TL.nil (X.seq (T.block ?_))
                    obtain ⟨E91, hE92, hO93⟩ := Option.bind_eq_some_iff.1 h
                    refine T.lp (fun m e Rs => ∃ (k90 : Nat), e = [(0, .string (bsOf a0)), (3, .pointer (some ⟨b3, 0, none⟩)), (4, .bool false), (12, .pointer (some ⟨b58, 0, none⟩)), (13, .pointer (some ⟨b89, 0, none⟩)), (14, .bool x85), (109, .int .i64 (x82.fTopics.length : Int)), (110, .int .i64 (k90 : Int))] ∧ Rs = [BlkR b89 24 #[.int .i64 x82.fProducer, .int .i64 x82.fEpoch, .int .i64 x82.fTimeout, .int .i64 x82.fState, .slice A83 x82.fTopics.length c84, .int .i64 x82.fUpdated, .int .i64 x82.fStarted], TopR 46 3 A83 x82.fTopics.length c84, MbR_JournalJournal b58 st86, BlkR b24 30 #[.string (bsOf x21.fKey), .bool x21.fValue.null, .string (bsOf x21.fValue.data)], BlkR b20 30 #[.string (bsOf x17.fKey), .bool x17.fValue.null, .string (bsOf x17.fValue.data)], BlkR b3 24 #[.int .i64 a1.fProducer, .int .i64 a1.fEpoch, .int .i64 a1.fTimeout, .int .i64 a1.fState, .slice A1 a1.fTopics.length c2, .int .i64 a1.fUpdated, .int .i64 a1.fStarted], EmpR] ∧ f_l15_JournalPuts_l1 x82 m k90 = some E91) (((x82.fTopics.length : Int)).toNat + 1) [0, 0, 0, 0, 0, 0, 0] ⟨0, rfl, rfl, by exact hE92⟩ (by rfl) (by rfl) ?_
                    rintro m94 _ _ ⟨k90, rfl, rfl, hl96⟩
                    clear hE92 h
                    cases m94 with
                    | zero =>
                      rw [f_l15_JournalPuts_l1] at hl96
                      cases hl96
                    | succ m94 =>
                      have h := hl96
                      clear hl96
                      rw [f_l15_JournalPuts_l1] at h
                      refine T.seq (T.region rfl ?_)
                      refine TL.run ft_cursitorlaw15_ok [0] rfl rfl ?_
                      by_cases c98 : (k90 : Int) < (x82.fTopics.length : Int)
                      · replace h := ifT c98 h
                        refine TL.nil (X.seq (T.seq ?_))
                        refine T.yes rfl (decide_eq_true c98) ?_
                        refine T.skip (X.seq (T.seq (T.block (T.seq (T.region rfl ?_)))))
                        refine TL.run ft_cursitorlaw15_ok [0, 1] rfl rfl ?_
                        refine TL.nil (X.seq (T.seq (T.region rfl ?_)))
                        replace h := guard_some h
                        obtain ⟨c99, h⟩ := h
                        refine TL.rb ft_cursitorlaw15_ok nt_cursitorlaw15_ok 0 rfl 3 rfl rfl ?_
                        refine TL.topO (k := k90) 1 rfl c99 ?_
                        rintro gz100 hz100 mz100 cz100 vz100 hA hmz100
                        cases hA
                        refine TL.sel [0, 0, 0, 0, 0, 0, 0] rfl ?_
                        refine TL.q rfl .u (Ex.ixS (k := k90) rfl rfl rfl Try.runUnderlying22 Try.sizeOf46 c99) rfl ?_
                        refine TL.run ft_cursitorlaw15_ok [4] rfl rfl ?_
                        refine TL.q rfl .u (Ex.topL 1 rfl rfl Try.isAgg44 rfl) rfl ?_
                        refine TL.q rfl .u (Ex.ixS (k := 0) rfl rfl rfl Try.runUnderlying44 Try.sizeOf3 hmz100) rfl ?_
                        refine TL.q rfl .u (Ex.topI 1 rfl rfl Try.isAgg3 rfl) rfl ?_
                        refine TL.q rfl .u (Ex.addw rfl rfl) rfl ?_
                        refine TL.q rfl .u (Ex.ixS (k := 0) rfl rfl rfl Try.runUnderlying44 Try.sizeOf3 hmz100) rfl ?_
                        refine TL.topSt 1 (by decide) rfl .u rfl rfl rfl Try.sizeOf3 rfl ?_
                        refine TL.sel [0, 0, 0, 0, 0, 0, 0] rfl ?_
                        refine TL.nil (X.seq (T.region rfl ?_))
                        replace h := guard_some h
                        obtain ⟨c101, h⟩ := h
                        refine TL.rb ft_cursitorlaw15_ok nt_cursitorlaw15_ok 0 rfl 3 rfl rfl ?_
                        refine TL.topO (k := k90) 1 rfl c101 ?_
                        rintro gz102 hz102 mz102 cz102 vz102 hA hmz102
                        cases hA
                        refine TL.sel [0, 0, 0, 0, 0, 0, 0] rfl ?_
                        refine TL.q rfl .u (Ex.ixS (k := k90) rfl rfl rfl Try.runUnderlying22 Try.sizeOf46 c101) rfl ?_
                        refine TL.run ft_cursitorlaw15_ok [4] rfl rfl ?_
                        refine TL.topNm 1 (by decide) rfl .u rfl rfl rfl Try.sizeOf9 rfl ?_
                        refine TL.sel [0, 0, 0, 0, 0, 0, 0] rfl ?_
                        replace h := guard_some h
                        obtain ⟨c103, h⟩ := h
                        refine TL.nil (X.blk (X.seq (T.region rfl ?_)))
                        refine TL.q rfl .u (Ex.add rfl rfl c103) rfl ?_
                        refine TL.run ft_cursitorlaw15_ok [1] rfl rfl ?_
                        exact TL.nil (X.back (m' := m94) [0, 0, 0, 0, 0, 0, 0] (by omega) ⟨k90 + 1, rfl, rfl, h⟩ (by rfl) (by rfl))
                      · replace h := ifF c98 h
                        refine TL.nil (X.seq (T.seq ?_))
                        refine T.no rfl (decide_eq_false c98) ?_
                        obtain rfl := Option.some.inj h
                        replace h := hO93
                        clear hO93
                        try dsimp only at h
                        refine T.exit (X.exs (X.exs (X.ex (X.seq (T.seq (T.region rfl ?_))))))
                        obtain ⟨⟨x104, x107, st108⟩, hx109, h⟩ := Option.bind_eq_some_iff.1 h
                        try dsimp only at h
                        refine TL.run ft_cursitorlaw15_ok [0, 1] rfl rfl ?_
                        refine TL.cg2 rfl .u (.fn Try.call15 rfl) (f_journal_JournalGet_spec b58 st86 a0 _ hx109) (fun _ hs => (Src.triv _)) rfl ?_
                        rintro _ _ _ ⟨A105, c106, rfl, rfl, rfl⟩
                        refine TL.sel [0, 0, 0, 0, 0, 0, 0, 0] rfl ?_
                        refine TL.copRd 0 rfl ?_
                        refine TL.sel [0, 0, 0, 0, 0, 0, 0, 0] rfl ?_
                        refine TL.run ft_cursitorlaw15_ok [3, 4, 5] rfl rfl ?_
                        refine TL.alloc rfl .u Try.zeroValue24 rfl (fun b110 => ?_)
                        refine TL.st0 (cs' := #[.int .i64 x104.fProducer, .int .i64 x104.fEpoch, .int .i64 x104.fTimeout, .int .i64 x104.fState, .slice A105 x104.fTopics.length c106, .int .i64 x104.fUpdated, .int .i64 x104.fStarted]) rfl .u rfl rfl Try.sizeOf24 rfl rfl rfl rfl ?_
                        refine TL.run ft_cursitorlaw15_ok [8] rfl rfl ?_
                        refine TL.nil (X.seq (T.seq ?_))
                        obtain ⟨⟨y121, st122⟩, h, hk123⟩ := Option.bind_eq_some_iff.1 h
                        refine T.jq (fun e Rs => e = [(4, .bool y121)] ∧ Rs = [BlkR b110 24 #[.int .i64 x104.fProducer, .int .i64 x104.fEpoch, .int .i64 x104.fTimeout, .int .i64 x104.fState, .slice A105 x104.fTopics.length c106, .int .i64 x104.fUpdated, .int .i64 x104.fStarted], RdR (sliceRd 2 Top_rd) [.slice A105 x104.fTopics.length c106] x104.fTopics, BlkR b89 24 #[.int .i64 x82.fProducer, .int .i64 x82.fEpoch, .int .i64 x82.fTimeout, .int .i64 x82.fState, .slice A83 x82.fTopics.length c84, .int .i64 x82.fUpdated, .int .i64 x82.fStarted], TopR 46 3 A83 x82.fTopics.length c84, MbR_JournalJournal b58 st122, BlkR b24 30 #[.string (bsOf x21.fKey), .bool x21.fValue.null, .string (bsOf x21.fValue.data)], BlkR b20 30 #[.string (bsOf x17.fKey), .bool x17.fValue.null, .string (bsOf x17.fValue.data)], BlkR b3 24 #[.int .i64 a1.fProducer, .int .i64 a1.fEpoch, .int .i64 a1.fTimeout, .int .i64 a1.fState, .slice A1 a1.fTopics.length c2, .int .i64 a1.fUpdated, .int .i64 a1.fStarted], EmpR]) ?_ ?_
                        · clear hk123
                          refine T.region rfl ?_
                          by_cases c124 : x85 = true
                          · replace h := ifT c124 h
                            refine TL.run ft_cursitorlaw15_ok [0, 1] rfl rfl ?_
                            refine TL.hv 136 rfl c124 ?_
                            by_cases c125 : x107 = true
                            · replace h := ifT c125 h
                              refine TL.rw ft_cursitorlaw15_ok 3 rfl ?_
                              refine TL.hv 139 rfl c125 ?_
                              refine TL.q rfl (.g rfl rfl rfl) (Ex.bS (us := [.int .i64 x104.fProducer, .int .i64 x104.fEpoch, .int .i64 x104.fTimeout, .int .i64 x104.fState, .slice A105 x104.fTopics.length c106, .int .i64 x104.fUpdated, .int .i64 x104.fStarted]) 0 rfl Try.isAgg24 Try.sizeOf24 rfl rfl rfl) rfl ?_
                              refine TL.q rfl (.g rfl rfl rfl) (Ex.bS (us := [.int .i64 a1.fProducer, .int .i64 a1.fEpoch, .int .i64 a1.fTimeout, .int .i64 a1.fState, .slice A1 a1.fTopics.length c2, .int .i64 a1.fUpdated, .int .i64 a1.fStarted]) 7 rfl Try.isAgg24 Try.sizeOf24 rfl rfl rfl) rfl ?_
                              obtain ⟨x126, hx127, h⟩ := Option.bind_eq_some_iff.1 h
                              refine TL.ce rfl (.g rfl rfl rfl) (.fn Try.call16 rfl) (f_r14_Same_spec x104 _ _ a1 _ _ _ hx127) (fun _ hs => (RX.reads_and (SrcE.res 1 hs rfl (fun w G h => rd_reads w G h)) (SrcE.old hs hX))) rfl ?_
                              by_cases c128 : x126 = true
                              · replace h := ifT c128 h
                                refine TL.rw ft_cursitorlaw15_ok 2 rfl ?_
                                refine TL.hv 144 rfl c128 ?_
                                obtain ⟨⟨x129, st132⟩, hx133, h⟩ := Option.bind_eq_some_iff.1 h
                                try dsimp only at h
                                refine TL.rw ft_cursitorlaw15_ok 1 rfl ?_
                                refine TL.cg4 rfl (.g rfl rfl rfl) (.fn Try.call17 rfl) (gJIDs_spec b58 st108 _ hx133) (fun _ hs => (Src.triv _)) rfl ?_
                                rintro _ _ _ ⟨A130, c131, rfl, rfl, rfl⟩
                                refine TL.sel [0, 0, 0, 0, 0, 0, 0, 0, 0, 0] rfl ?_
                                refine TL.q rfl (.g rfl rfl rfl) (Ex.lenS rfl Try.runUnderlying48) rfl ?_
                                refine TL.rw ft_cursitorlaw15_ok 3 rfl ?_
                                by_cases c134 : (x129.length : Int) = 1
                                · replace h := ifT c134 h
                                  cases h
                                  exact TL.nil (X.as (d := 4) (v' := .bool true) rfl (congrArg Value.bool (decide_eq_true c134)) (X.jq [1, 1, 1, 1, 1, 1, 1, 1, 1] ⟨rfl, rfl⟩ (by rfl) (by rfl)))
                                · replace h := ifF c134 h
                                  cases h
                                  exact TL.nil (X.as (d := 4) (v' := .bool false) rfl (congrArg Value.bool (decide_eq_false c134)) (X.jq [1, 1, 1, 1, 1, 1, 1, 1, 1] ⟨rfl, rfl⟩ (by rfl) (by rfl)))
                              · replace h := ifF c128 h
                                replace c128 := eq_false_of_ne_true c128
                                refine TL.rw ft_cursitorlaw15_ok 2 rfl ?_
                                refine TL.hv 144 rfl c128 ?_
                                refine TL.rw ft_cursitorlaw15_ok 6 rfl ?_
                                cases h
                                exact TL.nil (X.jq [0, 0, 0, 0, 0, 0, 0, 0, 0] ⟨rfl, rfl⟩ (by rfl) (by rfl))
                            · replace h := ifF c125 h
                              replace c125 := eq_false_of_ne_true c125
                              refine TL.rw ft_cursitorlaw15_ok 3 rfl ?_
                              refine TL.hv 139 rfl c125 ?_
                              refine TL.rw ft_cursitorlaw15_ok 11 rfl ?_
                              cases h
                              exact TL.nil (X.jq [0, 0, 0, 0, 0, 0, 0, 0, 0] ⟨rfl, rfl⟩ (by rfl) (by rfl))
                          · replace h := ifF c124 h
                            replace c124 := eq_false_of_ne_true c124
                            refine TL.run ft_cursitorlaw15_ok [0, 1] rfl rfl ?_
                            refine TL.hv 136 rfl c124 ?_
                            refine TL.rw ft_cursitorlaw15_ok 14 rfl ?_
                            cases h
                            exact TL.nil (X.jq [0, 0, 0, 0, 0, 0, 0, 0, 0] ⟨rfl, rfl⟩ (by rfl) (by rfl))
                        · rintro _ _ ⟨rfl, rfl⟩
                          clear h
                          have h := hk123
                          clear hk123
                          try dsimp only at h
                          obtain rfl := Option.some.inj h
                          exact X.seq (T.ret (X.done1 [8] Try.results3 (RV.tm rfl) ⟨rfl, rfl, rfl⟩ (by rfl) (.inl rfl)))
              · replace h := ifF c55 h
                refine TL.nil (X.seq ?_)
                refine T.yes rfl (bn_t (decide_eq_false c55)) ?_
                refine T.seq ?_
                obtain ⟨y171, h, hk172⟩ := Option.bind_eq_some_iff.1 h
                refine T.jq (fun e Rs => e = [(0, .string (bsOf a0)), (3, .pointer (some ⟨b3, 0, none⟩)), (4, .bool y171), (5, .pointer (some ⟨b20, 0, none⟩)), (6, .int .i64 x18), (9, .string (bsOf x25))] ∧ Rs = [BlkR b24 30 #[.string (bsOf x21.fKey), .bool x21.fValue.null, .string (bsOf x21.fValue.data)], BlkR b20 30 #[.string (bsOf x17.fKey), .bool x17.fValue.null, .string (bsOf x17.fValue.data)], BlkR b3 24 #[.int .i64 a1.fProducer, .int .i64 a1.fEpoch, .int .i64 a1.fTimeout, .int .i64 a1.fState, .slice A1 a1.fTopics.length c2, .int .i64 a1.fUpdated, .int .i64 a1.fStarted], EmpR]) ?_ ?_
                · clear hk172
                  refine T.region rfl ?_
                  by_cases c173 : x18 = y50
                  · replace h := ifT c173 h
                    refine TL.run ft_cursitorlaw15_ok [0, 1, 2, 3] rfl rfl ?_
                    refine TL.hv 78 rfl (decide_eq_true c173) ?_
                    refine TL.q rfl (.g rfl rfl rfl) (Ex.bS (us := [.string (bsOf x17.fKey), .bool x17.fValue.null, .string (bsOf x17.fValue.data)]) 1 rfl Try.isAgg30 Try.sizeOf30 rfl rfl rfl) rfl ?_
                    refine TL.q rfl (.g rfl rfl rfl) (Ex.bld (cells := #[.string ⟨#[]⟩, .bool false, .string ⟨#[]⟩]) bok_cursitorlaw15_30 rfl (by kernel_rfl)) rfl ?_
                    by_cases c174 : x17.fKey = []
                    · replace h := ifT c174 h
                      by_cases c175 : x17.fValue.null = true
                      · replace h := ifT c175 h
                        refine TL.q rfl (.g rfl rfl rfl) (Ex.aEq (us := [.string (bsOf x17.fKey), .bool x17.fValue.null, .string (bsOf x17.fValue.data)]) (vs := [.string ⟨#[]⟩, .bool false, .string ⟨#[]⟩]) flat_cursitorlaw15_30 rfl Try.eqGuardType30 rfl rfl rfl rfl (eqL_t (eqV_s (l := x17.fKey) (m := []) c174) (eqL_f (eqV_bn (fun h => absurd ((Eq.symm c175).trans (h.trans rfl)) (by decide)))))) rfl ?_
                        refine TL.rw ft_cursitorlaw15_ok 2 rfl ?_
                        cases h
                        exact TL.nil (X.jq [0, 0, 0, 0] ⟨rfl, rfl⟩ (by rfl) (by rfl))
                      · replace h := ifF c175 h
                        replace c175 := eq_false_of_ne_true c175
                        by_cases c176 : x17.fValue.data = []
                        · replace h := ifT c176 h
                          refine TL.q rfl (.g rfl rfl rfl) (Ex.aEq (us := [.string (bsOf x17.fKey), .bool x17.fValue.null, .string (bsOf x17.fValue.data)]) (vs := [.string ⟨#[]⟩, .bool false, .string ⟨#[]⟩]) flat_cursitorlaw15_30 rfl Try.eqGuardType30 rfl rfl rfl rfl (eqL_t (eqV_s (l := x17.fKey) (m := []) c174) (eqL_t (eqV_b (c175.trans (Eq.symm rfl))) (eqL_t (eqV_s (l := x17.fValue.data) (m := []) c176) rfl)))) rfl ?_
                          refine TL.rw ft_cursitorlaw15_ok 2 rfl ?_
                          cases h
                          exact TL.nil (X.jq [0, 0, 0, 0] ⟨rfl, rfl⟩ (by rfl) (by rfl))
                        · replace h := ifF c176 h
                          refine TL.q rfl (.g rfl rfl rfl) (Ex.aEq (us := [.string (bsOf x17.fKey), .bool x17.fValue.null, .string (bsOf x17.fValue.data)]) (vs := [.string ⟨#[]⟩, .bool false, .string ⟨#[]⟩]) flat_cursitorlaw15_30 rfl Try.eqGuardType30 rfl rfl rfl rfl (eqL_t (eqV_s (l := x17.fKey) (m := []) c174) (eqL_t (eqV_b (c175.trans (Eq.symm rfl))) (eqL_f (eqV_sn (l := x17.fValue.data) (m := []) c176))))) rfl ?_
                          refine TL.rw ft_cursitorlaw15_ok 2 rfl ?_
                          cases h
                          exact TL.nil (X.jq [0, 0, 0, 0] ⟨rfl, rfl⟩ (by rfl) (by rfl))
                    · replace h := ifF c174 h
                      refine TL.q rfl (.g rfl rfl rfl) (Ex.aEq (us := [.string (bsOf x17.fKey), .bool x17.fValue.null, .string (bsOf x17.fValue.data)]) (vs := [.string ⟨#[]⟩, .bool false, .string ⟨#[]⟩]) flat_cursitorlaw15_30 rfl Try.eqGuardType30 rfl rfl rfl rfl (eqL_f (eqV_sn (l := x17.fKey) (m := []) c174))) rfl ?_
                      refine TL.rw ft_cursitorlaw15_ok 2 rfl ?_
                      cases h
                      exact TL.nil (X.jq [0, 0, 0, 0] ⟨rfl, rfl⟩ (by rfl) (by rfl))
                  · replace h := ifF c173 h
                    refine TL.run ft_cursitorlaw15_ok [0, 1, 2, 3] rfl rfl ?_
                    refine TL.hv 78 rfl (decide_eq_false c173) ?_
                    refine TL.rw ft_cursitorlaw15_ok 5 rfl ?_
                    cases h
                    exact TL.nil (X.jq [0, 0, 0, 0] ⟨rfl, rfl⟩ (by rfl) (by rfl))
                · rintro _ _ ⟨rfl, rfl⟩
                  clear h
                  have h := hk172
                  clear hk172
                  try dsimp only at h
                  obtain rfl := Option.some.inj h
                  exact X.seq (T.ret (X.rs (X.done1 [3] Try.results3 (RV.tm rfl) ⟨rfl, rfl, rfl⟩ (by rfl) (.inl rfl))))
  · replace h := ifF c6 h
    replace c6 := eq_false_of_ne_true c6
    refine TL.nil (X.seq ?_)
    refine T.yes rfl (bn_t c6) ?_
    exact nomatch h
end Go.Proofs.Ytlhgogjcaegehaa.Sl
namespace Go.Proofs.Ytlhgogjcaegehaa.Sl
open Go.RowKit
set_option linter.unusedVariables false
set_option linter.unusedSimpArgs false
theorem speaks15_eq : f_l15_speaks = some true := by kernel_rfl
theorem gClone_z {l : List Int} (h : l.length ≤ 1000000) : gClone l = some l := if_pos (by omega)
theorem copied_loop : ∀ (l acc : List Top), (∀ t, t ∈ l → t.fParts.length ≤ 1000000) → acc.length + l.length ≤ 1000000 → f_journal_copied_l1 l acc = some (acc ++ l)
  | [], acc, _, _ => by rw [f_journal_copied_l1, List.append_nil]
  | x :: xs, acc, hx, hl => by
    rw [f_journal_copied_l1, gClone_z (hx x List.mem_cons_self), Option.bind_some, if_pos (by simp only [List.length_cons] at hl; omega), copied_loop xs _ (fun t ht => hx t (List.mem_cons_of_mem _ ht)) (by simp only [List.length_append, List.length_cons, List.length_nil] at hl ⊢; omega), List.append_assoc]
    rfl
theorem copied_eq (v : Val) (hl : v.fTopics.length ≤ 1000000) (hx : ∀ t, t ∈ v.fTopics → t.fParts.length ≤ 1000000) : f_journal_copied v = some v := by
  unfold f_journal_copied
  rw [copied_loop _ _ hx (by simpa using hl)]
  rfl
theorem encK_len {l : List UInt8} (h : kright l = true) : (encK l).length ≤ 40000 := by
  obtain ⟨h1, h2, h3⟩ := kr_fits h
  simp only [encK, List.length_append, be_length]
  omega
theorem r14same_refl (v : Val) (hl : v.fTopics.length ≤ 1000000) (ha : ∀ t, t ∈ v.fTopics → t.fParts.length ≤ 140737488355328) : f_r14_Same v v = some true := by
  unfold f_r14_Same
  rw [rsame_eq _ _ hl ha, sameTs_refl]
  simp
theorem dec_enc {v : Val} (hw : wf_Val v) (hl : wTs v.fTopics ≤ 2000) (hc : chkV v = 0) : okV v ∧ decV (encV v) = (v, 0) := by
  obtain ⟨h1, h2, h3, h4⟩ := chk_zero hc
  have hn := wTs_len v.fTopics
  obtain ⟨w1, w2, w3, w4, w5, w6, w7⟩ := id hw
  have f8 : ∀ n : Int, wI n → fits n 8 = true := fun n h => by rw [fits_8]; exact decide_eq_true h
  have hok : okV v := by
    unfold badR at h1
    exact ⟨f8 _ w1, by rw [fits_2]; exact decide_eq_true (by omega), by rw [fits_4]; exact decide_eq_true (by omega), by rw [fits_1]; exact decide_eq_true (by omega), ⟨fits_small (.inr (.inl rfl)) (by omega) (by omega), okts_ok h4 (by omega)⟩, f8 _ w6, f8 _ w7⟩
  obtain ⟨r, hr⟩ := val_back hok
  refine ⟨hok, ?_⟩
  unfold decV
  rw [hr]
  simp only [if_pos hc]
theorem okts_parts {l : List Top} (h : okts l = true) : ∀ t, t ∈ l → t.fParts ≠ [] := fun t ht h0 => by
  unfold okts at h
  rw [Bool.and_eq_true, List.all_eq_true] at h
  have := h.1 t ht
  unfold oktB okps at this
  rw [h0] at this
  simp at this
theorem puts_l1 (v : Val) (hl : v.fTopics.length ≤ 1000000) : ∀ (m k : Nat), k ≤ v.fTopics.length → v.fTopics.length - k < m → ∃ z, f_l15_JournalPuts_l1 v m k = some z
  | 0, k, _, h => absurd h (Nat.not_lt_zero _)
  | m + 1, k, hk, h => by
    rw [f_l15_JournalPuts_l1]
    by_cases c : (k : Int) < (v.fTopics.length : Int)
    · rw [if_pos c, if_pos (by omega), if_pos (by omega), if_pos (by omega)]
      exact puts_l1 v hl m (k + 1) (by omega) (by omega)
    · rw [if_neg c]
      exact ⟨_, rfl⟩
theorem apply_put {st : JournalJournal} {k : List UInt8} {v : Val} (hk : kright k = true) (hw : wf_Val v) (hl : wTs v.fTopics ≤ 1900) (hc : chkV v = 0) (hm : -9223372036854775808 ≤ st.fmany + 1 ∧ st.fmany + 1 ≤ 9223372036854775807) (hn : st.fknown.length + 1 ≤ 140737488355328) :
    f_journal_JournalApply st ⟨encK k, ⟨false, encV v⟩⟩ = some (0, ⟨mput k v st.fknown, st.fmany + 1⟩) := by
  obtain ⟨hok, hd⟩ := dec_enc hw (by omega) hc
  obtain ⟨-, k2, -⟩ := kr_fits hk
  unfold f_journal_JournalApply
  simp only
  rw [gKDecode_eq _ (by have := encK_len hk; omega), kdec_enc hk]
  simp only [Option.bind_some, if_true]
  rw [gRight_eq, Option.bind_some, show bright ⟨false, encV v⟩ = true from rfl, if_pos rfl, if_neg (by decide), vdecode_eq _ (by rw [encV_len]; have := encV_len v; omega), hd]
  simp only [Option.bind_some, if_true]
  rw [if_pos ⟨hn, by omega⟩, if_pos hm]
theorem put_eq {k : List UInt8} {v : Val} (hw : wf_Val v) (hl : wTs v.fTopics ≤ 2000) : f_journal_Put k v = some (if kright k = true then (if chkV v = 0 then (⟨encK k, ⟨false, encV v⟩⟩, 0) else (⟨[], ⟨false, []⟩⟩, chkV v)) else (⟨[], ⟨false, []⟩⟩, 4)) := by
  unfold f_journal_Put
  rw [gKEncode_eq, Option.bind_some]
  cases hk : kright k with
  | false => rw [kenc_bad hk]; rfl
  | true =>
    rw [kenc_good hk]
    simp only [if_true]
    rw [encode_eq v hw hl, Option.bind_some]
    by_cases hc : chkV v = 0
    · rw [if_pos hc, if_pos hc]; rfl
    · rw [if_neg hc, if_neg hc]
      simp only
      rw [if_neg hc]
theorem drop_eq (k : List UInt8) : f_journal_Drop k = some (if kright k = true then (⟨encK k, ⟨true, []⟩⟩, 0) else (⟨[], ⟨false, []⟩⟩, 4)) := by
  unfold f_journal_Drop
  rw [gKEncode_eq, Option.bind_some]
  cases hk : kright k with
  | false => rw [kenc_bad hk]; rfl
  | true => rw [kenc_good hk]; rfl
theorem pure_JournalPuts (a0 : List UInt8) (a1 : Val) (w0 : a0.length ≤ 140737488351232) (w1 : wf_Val a1) : f_l15_JournalPuts a0 a1 = some true := by
  unfold f_l15_JournalPuts
  rw [speaks15_eq]
  simp only [Option.bind_some, if_true]
  by_cases hl : (a0.length : Int) > 40000
  · rw [if_pos hl]; rfl
  rw [if_neg hl]
  rcases few_eq a1.fTopics w1.2.2.2.2.1.2 with h | ⟨h, hw⟩
  · rw [h]; rfl
  have hn := wTs_len a1.fTopics
  have hm : ∀ t, t ∈ a1.fTopics → t.fParts.length ≤ 1000000 ∧ t.fName.length ≤ 1000000 := fun t ht => by
    have := wTs_mem _ t ht
    unfold wT at this
    exact ⟨by omega, by omega⟩
  rw [h, put_eq w1 (by omega), drop_eq, gKEncode_eq]
  simp only [Option.bind_some]
  rw [if_neg (by decide)]
  simp only [Option.bind_some]
  rw [if_neg (by decide)]
  cases hk : kright a0 with
  | false =>
    rw [kenc_bad hk]
    simp
  | true =>
    rw [kenc_good hk, rcheck_eq _ (by omega) hm]
    simp only [if_true, Option.bind_some, Bool.false_eq_true, if_false]
    by_cases hc : chkV a1 = 0
    · have hcp : f_journal_copied a1 = some a1 := copied_eq a1 (by omega) fun t ht => (hm t ht).1
      obtain ⟨z, hz⟩ := puts_l1 a1 (by omega) (((a1.fTopics.length : Int)).toNat + 1) 0 (Nat.zero_le _) (by omega)
      have hp := okts_parts (chk_zero hc).2.2.2
      have hs := r14same_refl a1 (by omega) (fun t ht => by have := (hm t ht).1; omega)
      rw [if_pos hc, if_pos hc, rencode_eq _ w1 (by omega)]
      simp only [if_true, Option.bind_some, f_journal_New]
      rw [apply_put hk w1 (by omega) hc (by decide) (by decide)]
      simp only [if_true, Option.bind_some, Bool.false_eq_true, if_false]
      have hg : ∀ m, f_journal_JournalGet ⟨mput a0 a1 [], m⟩ a0 = some (a1, true, ⟨mput a0 a1 [], m⟩) := fun m => by
        unfold f_journal_JournalGet
        have e : mget a0 (mput a0 a1 []) = some a1 := by simp [mput, mrem, mins, mget]
        simp only [mhas, e, Option.isSome_some, if_true]
        rw [if_pos (by omega), Option.bind_some, hcp, Option.bind_some]
      rw [hg, Option.bind_some]
      simp only
      rw [if_pos hp, hz, Option.bind_some, hg]
      simp only [Option.bind_some, if_true]
      rw [hs]
      simp only [Option.bind_some, if_true]
      unfold gJIDs
      simp [mput, mrem, mins]
    · rw [if_neg hc, if_neg hc]
      simp
end Go.Proofs.Ytlhgogjcaegehaa.Sl
namespace Go.Proofs.Ytlhgogjcaegehaa.Sl
open Go.RowKit Go.Deep Go.ChangeShapes
set_option linter.unusedVariables false
theorem op_Top {H : Type} {enc : TypeId × Value → H} : OpensW enc Try.prog 46 (andRd Top_rd wf_Top) :=
  opensW_weak (fun x => ⟨x.1, x.2.1⟩) (opensW_struct Try.underlying46 (by kernel_rfl) (opensWFs_cons 1 (by kernel_rfl) (by kernel_rfl) (op_str Try.underlying9) (opensWFs_cons 1 (by kernel_rfl) (by kernel_rfl) (op_slice 1 8 Try.underlying44 (by kernel_rfl) (by kernel_rfl) (by decide) (by decide) (op_i64 Try.underlying3)) (opensWFs_nil _)))) (by
    rintro w S cs ⟨x0, x1, _⟩ ⟨_, _, rfl, ⟨p0, q0⟩, _, _, rfl, ⟨p1, q1⟩, rfl⟩
    obtain rfl := p0
    obtain ⟨A1, c1, rfl⟩ := slice_cells p1
    exact ⟨⟨A1, c1, rfl, p1⟩, q0, q1⟩)
theorem op_Val {H : Type} {enc : TypeId × Value → H} : OpensW enc Try.prog 24 (andRd Val_rd wf_Val) :=
  opensW_weak (fun x => ⟨x.1, x.2.1, x.2.2.1, x.2.2.2.1, x.2.2.2.2.1, x.2.2.2.2.2.1, x.2.2.2.2.2.2.1⟩) (opensW_struct Try.underlying24 (by kernel_rfl) (opensWFs_cons 1 (by kernel_rfl) (by kernel_rfl) (op_i64 Try.underlying3) (opensWFs_cons 1 (by kernel_rfl) (by kernel_rfl) (op_i64 Try.underlying3) (opensWFs_cons 1 (by kernel_rfl) (by kernel_rfl) (op_i64 Try.underlying3) (opensWFs_cons 1 (by kernel_rfl) (by kernel_rfl) (op_i64 Try.underlying3) (opensWFs_cons 1 (by kernel_rfl) (by kernel_rfl) (op_slice 2 40 Try.underlying22 (by kernel_rfl) (by kernel_rfl) (by decide) (by decide) op_Top) (opensWFs_cons 1 (by kernel_rfl) (by kernel_rfl) (op_i64 Try.underlying3) (opensWFs_cons 1 (by kernel_rfl) (by kernel_rfl) (op_i64 Try.underlying3) (opensWFs_nil _))))))))) (by
    rintro w S cs ⟨x0, x1, x2, x3, x4, x5, x6, _⟩ ⟨_, _, rfl, ⟨p0, q0⟩, _, _, rfl, ⟨p1, q1⟩, _, _, rfl, ⟨p2, q2⟩, _, _, rfl, ⟨p3, q3⟩, _, _, rfl, ⟨p4, q4⟩, _, _, rfl, ⟨p5, q5⟩, _, _, rfl, ⟨p6, q6⟩, rfl⟩
    obtain rfl := p0
    obtain rfl := p1
    obtain rfl := p2
    obtain rfl := p3
    obtain ⟨A4, c4, rfl⟩ := slice_cells p4
    obtain rfl := p5
    obtain rfl := p6
    exact ⟨⟨A4, c4, rfl, p4⟩, q0, q1, q2, q3, q4, q5, q6⟩)
end Go.Proofs.Ytlhgogjcaegehaa.Sl
namespace Go.Proofs.Ytlhgogjcaegehaa.journalPuts
open Go.ChangeShapes Go.WideShapes Go.ChangeAt Go.RowKit
open Go.ChangeMaps (open_string shut_string)
set_option linter.unusedVariables false
theorem own : ownKnob Try.prog.godebug = none := by kernel_rfl
theorem laidOut : laidOutB Try.prog = true := by kernel_rfl
set_option maxRecDepth 100000 in
set_option maxHeartbeats 1000000 in
theorem lifted (os : Os) (started : os.Started) (H : Type) (enc : TypeId × Value → H) :
    ReturnsInHanded {} Try.checked os 3 .any (Rows.journalPutsSpec.pre6 enc Try.prog Try.f3 Rows.journalPutsRow.domain false) (Rows.journalPutsSpec.post enc Try.prog Try.f3 false true false false) := by
  refine returnsInHanded_of_change_sized (C := Try.checked) own started (by kernel_rfl) Try.func3
    (ChangeSpec.witness6 (enc := enc) (C := Try.checked) false ⟨#[], #[.string ByteArray.empty, .agg #[.int .i64 0, .int .i64 0, .int .i64 0, .int .i64 0, .slice none 0 0, .int .i64 0, .int .i64 0]], []⟩ 8 (by kernel_rfl) (by kernel_rfl) (by kernel_rfl) (by kernel_rfl)) ?_
  intro W base args ds gs before hval0 hW hcnd hsz0 _
  have hsz : (DataW.weightsEach Try.prog (Try.f3.params.toList ++ Rows.journalPutsSpec.plain.varTypes Try.prog) (ds ++ gs)).all (· ≤ reachBytes) = true := hsz0
  have hval : ∀ (j : Nat) t v, Try.f3.params[j]? = some t → args[j]? = some v → Value.okWide Try.prog W .any base t v := hval0
  have hW' := hW
  obtain ⟨p, q, hA0, hV, rfl, hfz, hnd⟩ := hW
  have hA : DataW.TrodAll enc Try.prog W 0 (fun _ => true) true Try.f3.params.toList args.toList ds p := hA0
  rw [Try.params3] at hA hval hsz
  obtain ⟨v0, vs0, d0, ds0, p0, q0, hargs, rfl, rfl, h0, r0⟩ := trodAll_cons hA
  obtain ⟨v1, vs1, d1, ds1, p1, q1, rfl, rfl, rfl, h1, r1⟩ := trodAll_cons r0
  obtain ⟨rfl, rfl, rfl⟩ := trodAll_nil r1
  obtain rfl : args = #[v0, v1] := by cases args; simp_all
  obtain ⟨rfl, rfl⟩ := trodVars_none hV
  obtain ⟨s0, rfl, rfl, rfl, y0⟩ := open_string Try.underlying9 (hval 0 9 v0 rfl rfl) h0
  have z0 : s0.size ≤ 140737488351232 := by
    have z := sized_string hsz (j := 0) (t := 9) rfl rfl
    rw [Array.length_toList] at z
    exact z
  obtain ⟨a0, rfl⟩ := Sl.bsOf_of s0
  have w0 : a0.length ≤ 140737488351232 := by rwa [Sl.bsOf_size] at z0
  have k1 := h1
  have lt1 : ∀ x ∈ p1, x.block < W.heap.size := by obtain ⟨m, hm⟩ := k1; exact DataW.trod_lt m _ _ _ hm
  obtain ⟨a1, cs1, rfl, r_1, w1⟩ := Sl.opens_arg2 Try.underlying24 (hval 1 24 v1 rfl rfl) Sl.op_Val h1 (fun x hx => of_decide_eq_true (List.all_eq_true.1 hsz x (Sl.weights_in 1 rfl rfl hx)))
  obtain ⟨A1_0, c1_0, e1, r1_0⟩ := r_1
  obtain rfl : cs1 = #[.int .i64 a1.fProducer, .int .i64 a1.fEpoch, .int .i64 a1.fTimeout, .int .i64 a1.fState, .slice A1_0 a1.fTopics.length c1_0, .int .i64 a1.fUpdated, .int .i64 a1.fStarted] := by apply Array.toList_inj.1; exact e1
  clear hA0 hval0 hsz0 hsz
  refine (Sl.f_l15_JournalPuts_spec a0 a1 A1_0 c1_0 true (Sl.pure_JournalPuts a0 a1 w0 w1) (fun _ => False) W (fun _ h => h) (Sl.RX.reads_all r1_0)).mono fun e W' hP => ?_
  obtain ⟨v, A', Ns, rfl, ⟨rfl, rfl, rfl⟩, hst⟩ := hP
  have bel := Sl.St.below hst
  exact ⟨_, rfl, _, _, _, [], _, [], hW', trodAll_mk1 (shut_bool Try.underlying4 _), (trodAll_cons_mk (shut_string Try.underlying9 y0) (trodAll_cons_mk (Below.trod laidOut (by kernel_rfl) (of_decide_eq_true (by kernel_rfl)) k1 bel lt1) trodAll_mk0)), rfl, bel.frame _, fun h => by cases h⟩
theorem over : Rows.journalPutsRow.holds Try.pinned (OpenSpec.ofChange Rows.journalPutsSpec) :=
  OpenClaim.holds_of_wide 3 Try.f3 rfl rfl rfl rfl rfl rfl rfl ⟨rfl, rfl, rfl, rfl, rfl⟩ rfl rfl rfl rfl rfl (by kernel_rfl) Try.func3 (by kernel_rfl)
    (of_decide_eq_true (by kernel_rfl)) (by unfold Func.isWrapper; first | (rw [if_pos (by decide +kernel)]; kernel_rfl) | (rw [if_neg (by decide +kernel)]; exact ⟨rfl, rfl⟩))
    (fun os started H enc _ => lifted os started H enc)
theorem proved : Rows.JournalPutsSaid := over
end Go.Proofs.Ytlhgogjcaegehaa.journalPuts
namespace Go.Proofs.Ytlhgogjcaegehaa
theorem journalPuts_holds : Rows.JournalPutsSaid := journalPuts.proved
end Go.Proofs.Ytlhgogjcaegehaa
