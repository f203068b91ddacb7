/- ProduceSame: for every input the law returns true, and its arguments read behind the call as they did before. -/
import Derived.Test.YtcoppaggpbfcmaaRows
import Derived.WalkKit
import Derived.ProofKit
import Derived.OpenShut
import Derived.ShutString
import Derived.ChangeOld
import Derived.Below
import Derived.SizedLaws
import Derived.Test.YtcoppaggpbfcmaaK4
namespace Go.Proofs.Ytcoppaggpbfcmaa.Sl
open Go.RowKit
set_option linter.unusedVariables false
set_option linter.unusedSimpArgs false
theorem speaks20 : f_l20_speaks = some true := by kernel_rfl
def sameBs : List Bat → List Bat → Bool
  | x :: l, y :: m => sameB x y && sameBs l m
  | _, _ => true
def sameP (p q : ProducePart) : Bool := decide (p.fIndex = q.fIndex ∧ p.fBatches.length = q.fBatches.length) && sameBs p.fBatches q.fBatches
def samePs : List ProducePart → List ProducePart → Bool
  | x :: l, y :: m => sameP x y && samePs l m
  | _, _ => true
def sameT (t u : ProduceTopic) : Bool := decide (t.fName = u.fName ∧ t.fParts.length = u.fParts.length) && samePs t.fParts u.fParts
def sameTs : List ProduceTopic → List ProduceTopic → Bool
  | x :: l, y :: m => sameT x y && sameTs l m
  | _, _ => true
def sameQ (a b : ProduceRequest) : Bool := decide (a.fID.null = b.fID.null ∧ a.fID.data = b.fID.data ∧ a.fAcks = b.fAcks ∧ a.fTimeout = b.fTimeout ∧ a.fTopics.length = b.fTopics.length) && sameTs a.fTopics b.fTopics
theorem psame_l7 (p : ProducePart) (y : Bool) : ∀ (l m : List Bat) (k : Nat), p.fBatches.drop k = m → l.length = m.length → f_produce_Same_l7 p l y k = some (if sameBs l m = true then .go y else .ret false)
  | [], m, k, h, hl => rfl
  | x :: l, v :: m, k, h, hl => by
    obtain ⟨k1, k2, k3⟩ := b_at_drop h
    rw [List.length_cons, List.length_cons] at hl
    rw [f_produce_Same_l7, k1, Option.bind_some, batch_same_eq, Option.bind_some, sameBs, psame_l7 p y l m (k + 1) k2 (by omega)]
    cases sameB x v <;> rfl
theorem psame_l5 (t : ProduceTopic) (y : Bool) : ∀ (l m : List ProducePart) (k : Nat), t.fParts.drop k = m → l.length = m.length → f_produce_Same_l5 t l y k = some (if samePs l m = true then .go y else .ret false)
  | [], m, k, h, hl => rfl
  | x :: l, v :: m, k, h, hl => by
    obtain ⟨k1, k2, k3⟩ := b_at_drop h
    rw [List.length_cons, List.length_cons] at hl
    rw [f_produce_Same_l5, k1, Option.bind_some, samePs, sameP]
    by_cases c1 : x.fIndex = v.fIndex
    · rw [if_pos c1]
      by_cases c2 : x.fBatches.length = v.fBatches.length
      · rw [if_pos (by omega), Option.bind_some, if_neg (by decide), psame_l7 v y x.fBatches v.fBatches 0 rfl c2, decide_eq_true (⟨c1, c2⟩ : x.fIndex = v.fIndex ∧ x.fBatches.length = v.fBatches.length)]
        cases sameBs x.fBatches v.fBatches
        · rfl
        · rw [if_pos rfl, Option.bind_some]
          dsimp only
          rw [psame_l5 t y l m (k + 1) k2 (by omega)]
          rfl
      · rw [if_neg (by omega), Option.bind_some, if_pos rfl, decide_eq_false (fun h => c2 h.2)]
        rfl
    · rw [if_neg c1, Option.bind_some, if_pos rfl, decide_eq_false (fun h => c1 h.1)]
      rfl
theorem psame_l1 (b : ProduceRequest) (y : Bool) : ∀ (l m : List ProduceTopic) (k : Nat), b.fTopics.drop k = m → l.length = m.length → f_produce_Same_l1 b l y k = some (if sameTs l m = true then .go y else .ret false)
  | [], m, k, h, hl => rfl
  | x :: l, v :: m, k, h, hl => by
    obtain ⟨k1, k2, k3⟩ := b_at_drop h
    rw [List.length_cons, List.length_cons] at hl
    rw [f_produce_Same_l1, k1, Option.bind_some, sameTs, sameT]
    by_cases c1 : x.fName = v.fName
    · rw [if_pos c1]
      by_cases c2 : x.fParts.length = v.fParts.length
      · rw [if_pos (by omega), Option.bind_some, if_neg (by decide), psame_l5 v y x.fParts v.fParts 0 rfl c2, decide_eq_true (⟨c1, c2⟩ : x.fName = v.fName ∧ x.fParts.length = v.fParts.length)]
        cases samePs x.fParts v.fParts
        · rfl
        · rw [if_pos rfl, Option.bind_some]
          dsimp only
          rw [psame_l1 b y l m (k + 1) k2 (by omega)]
          rfl
      · rw [if_neg (by omega), Option.bind_some, if_pos rfl, decide_eq_false (fun h => c2 h.2)]
        rfl
    · rw [if_neg c1, Option.bind_some, if_pos rfl, decide_eq_false (fun h => c1 h.1)]
      rfl
theorem produce_same (a b : ProduceRequest) : f_produce_Same a b = some (sameQ a b) := by
  unfold f_produce_Same sameQ
  by_cases c1 : a.fID.null = b.fID.null
  rotate_left
  · rw [if_neg c1, Option.bind_some, if_pos rfl, decide_eq_false (fun h => c1 h.1)]; rfl
  by_cases c2 : a.fID.data = b.fID.data
  rotate_left
  · rw [if_pos c1, if_neg c2, Option.bind_some, if_pos rfl, decide_eq_false (fun h => c2 h.2.1)]; rfl
  by_cases c3 : a.fAcks = b.fAcks
  rotate_left
  · rw [if_pos c1, if_pos c2, if_neg c3, Option.bind_some, if_pos rfl, decide_eq_false (fun h => c3 h.2.2.1)]; rfl
  by_cases c4 : a.fTimeout = b.fTimeout
  rotate_left
  · rw [if_pos c1, if_pos c2, if_pos c3, if_neg c4, Option.bind_some, if_pos rfl, decide_eq_false (fun h => c4 h.2.2.2.1)]; rfl
  by_cases c5 : a.fTopics.length = b.fTopics.length
  rotate_left
  · rw [if_pos c1, if_pos c2, if_pos c3, if_pos c4, if_neg (by omega), Option.bind_some, if_pos rfl, decide_eq_false (fun h => c5 h.2.2.2.2)]; rfl
  rw [if_pos c1, if_pos c2, if_pos c3, if_pos c4, if_pos (by omega), Option.bind_some, if_neg (by decide), psame_l1 b false a.fTopics b.fTopics 0 rfl c5, decide_eq_true ⟨c1, c2, c3, c4, c5⟩, Bool.true_and]
  cases sameTs a.fTopics b.fTopics <;> rfl
def ofP (p : ProducePart) : R20Part := ⟨p.fIndex, p.fBatches⟩
def ofT (t : ProduceTopic) : R20Topic := ⟨t.fName, t.fParts.map ofP⟩
def ofQ (a : ProduceRequest) : R20Request := ⟨a.fID, a.fAcks, a.fTimeout, a.fTopics.map ofT⟩
theorem of_l2 : ∀ (l : List ProducePart) (acc : List R20Part), (acc.length + l.length) * 32 ≤ 140737488355328 → f_l20_Of_l2 l acc = some (acc ++ l.map ofP)
  | [], acc, _ => by rw [List.map_nil, List.append_nil]; rfl
  | x :: l, acc, h => by
    rw [List.length_cons] at h
    rw [f_l20_Of_l2, if_pos (by omega), of_l2 l _ (by rw [List.length_append, List.length_singleton]; omega), List.append_assoc]
    rfl
theorem of_l1 : ∀ (l : List ProduceTopic) (acc : List R20Topic), (acc.length + l.length) * 40 ≤ 140737488355328 → (∀ t, t ∈ l → t.fParts.length * 32 ≤ 140737488351232) → f_l20_Of_l1 l acc = some (acc ++ l.map ofT)
  | [], acc, _, _ => by rw [List.map_nil, List.append_nil]; rfl
  | x :: l, acc, h, hp => by
    have hx := hp x (.head _)
    rw [List.length_cons] at h
    rw [f_l20_Of_l1, of_l2 x.fParts [] (by rw [List.length_nil]; omega), Option.bind_some, if_pos (by omega), of_l1 l _ (by rw [List.length_append, List.length_singleton]; omega) (fun t ht => hp t (.tail _ ht)), List.append_assoc]
    rfl
theorem of_eq {a : ProduceRequest} (hw : wf_ProduceRequest a) : f_l20_Of a = some (ofQ a) := by
  have h := hw.2.2.2.1
  unfold f_l20_Of
  rw [of_l1 a.fTopics [] (by rw [List.length_nil]; omega) (fun t ht => (hw.2.2.2.2 t ht).2.1), Option.bind_some, List.nil_append]
  rfl
def smBs (l : List Bat) : Prop := ∀ b, b ∈ l → smB b ∧ (body b).length ≤ 12000
theorem rows_loop (a b : List Bat) (hn : a.length ≤ 140737488351232) (y : Bool) : ∀ (l m : List Bat) (k fuel : Nat), a.drop k = l → b.drop k = m → l.length = m.length → l.length < fuel → (∀ x, x ∈ l → bnB x) → ∃ z, f_r11_Rows_l1 a b fuel y k = some (if sameBs l m = true then .go (y, z) else .ret false)
  | [], m, k, fuel + 1, h1, h2, hl, hf, _ => by
    have := b_nil_drop h1
    exact ⟨k, by rw [f_r11_Rows_l1, if_neg (by omega)]; rfl⟩
  | x :: l, v :: m, k, fuel + 1, h1, h2, hl, hf, hw => by
    obtain ⟨g1, g2, g3⟩ := b_at_drop h1
    obtain ⟨k1, k2, k3⟩ := b_at_drop h2
    have hx := hw x (.head _)
    rw [List.length_cons] at hf
    rw [List.length_cons, List.length_cons] at hl
    obtain ⟨z, hz⟩ := rows_loop a b hn y l m (k + 1) fuel g2 k2 (by omega) (by omega) (fun u hu => hw u (.tail _ hu))
    refine ⟨z, ?_⟩
    rw [f_r11_Rows_l1, if_pos (by omega), g1, Option.bind_some, k1, Option.bind_some, r11_same hx.2.1 (fun z hz => (hx.2.2 z hz).1), Option.bind_some, sameBs, if_pos (show -9223372036854775808 ≤ (k : Int) + 1 ∧ (k : Int) + 1 ≤ 9223372036854775807 by omega), hz]
    cases sameB x v <;> rfl
theorem r11_rows {a b : List Bat} (hn : a.length ≤ 140737488351232) (hw : ∀ x, x ∈ a → bnB x) : f_r11_Rows a b = some (decide (a.length = b.length) && sameBs a b) := by
  unfold f_r11_Rows
  by_cases c : a.length = b.length
  · obtain ⟨z, hz⟩ := rows_loop a b hn false a b 0 (((a.length : Int)).toNat + 1) rfl rfl c (by omega) hw
    rw [if_pos (by omega), hz, decide_eq_true c, Bool.true_and]
    cases sameBs a b <;> rfl
  · rw [if_neg (by omega), decide_eq_false c]
    rfl
def bnT (t : ProduceTopic) : Prop := t.fParts.length ≤ 140737488351232 ∧ ∀ p, p ∈ t.fParts → p.fBatches.length ≤ 140737488351232 ∧ ∀ b, b ∈ p.fBatches → bnB b
theorem r20s_l2 (t u : ProduceTopic) (hn : t.fParts.length ≤ 140737488351232) (y : Bool) : ∀ (l m : List ProducePart) (k fuel : Nat), t.fParts.drop k = l → u.fParts.drop k = m → l.length = m.length → l.length < fuel → (∀ p, p ∈ l → p.fBatches.length ≤ 140737488351232 ∧ ∀ b, b ∈ p.fBatches → bnB b) → ∃ z, f_r20_Same_l2 (ofT t) (ofT u) fuel y k = some (if samePs l m = true then .go (y, z) else .ret false)
  | [], m, k, fuel + 1, h1, h2, hl, hf, _ => by
    have := b_nil_drop h1
    exact ⟨k, by rw [f_r20_Same_l2, if_neg (by show ¬ (k : Int) < ((t.fParts.map ofP).length : Int); rw [List.length_map]; omega)]; rfl⟩
  | x :: l, v :: m, k, fuel + 1, h1, h2, hl, hf, hw => by
    obtain ⟨g1, g2, g3⟩ := b_at_drop h1
    obtain ⟨k1, k2, k3⟩ := b_at_drop h2
    have hx := hw x (.head _)
    rw [List.length_cons] at hf
    rw [List.length_cons, List.length_cons] at hl
    obtain ⟨z, hz⟩ := r20s_l2 t u hn y l m (k + 1) fuel g2 k2 (by omega) (by omega) (fun q hq => hw q (.tail _ hq))
    refine ⟨z, ?_⟩
    have e1 : (ofT t).fParts[k]? = some (ofP x) := by show (t.fParts.map ofP)[k]? = _; rw [List.getElem?_map, g1]; rfl
    have e2 : (ofT u).fParts[k]? = some (ofP v) := by show (u.fParts.map ofP)[k]? = _; rw [List.getElem?_map, k1]; rfl
    have e3 : f_r11_Rows (ofP x).fBatches (ofP v).fBatches = some (decide (x.fBatches.length = v.fBatches.length) && sameBs x.fBatches v.fBatches) := r11_rows hx.1 hx.2
    rw [f_r20_Same_l2, if_pos (by show (k : Int) < ((t.fParts.map ofP).length : Int); rw [List.length_map]; omega), e1, Option.bind_some, e2, Option.bind_some, e3, if_pos (show -9223372036854775808 ≤ (k : Int) + 1 ∧ (k : Int) + 1 ≤ 9223372036854775807 by omega), hz, samePs, sameP]
    show ((if x.fIndex = v.fIndex then _ else some true).bind _) = _
    by_cases c1 : x.fIndex = v.fIndex
    · rw [if_pos c1, Option.bind_some]
      by_cases c2 : x.fBatches.length = v.fBatches.length
      · rw [decide_eq_true c2, decide_eq_true (⟨c1, c2⟩ : x.fIndex = v.fIndex ∧ x.fBatches.length = v.fBatches.length)]
        cases sameBs x.fBatches v.fBatches <;> rfl
      · rw [decide_eq_false c2, decide_eq_false (fun h : x.fIndex = v.fIndex ∧ x.fBatches.length = v.fBatches.length => c2 h.2)]
        rfl
    · rw [if_neg c1, decide_eq_false (fun h : x.fIndex = v.fIndex ∧ x.fBatches.length = v.fBatches.length => c1 h.1)]
      rfl
theorem r20s_l1 (a b : ProduceRequest) (hn : a.fTopics.length ≤ 140737488351232) (y : Bool) : ∀ (l m : List ProduceTopic) (k fuel : Nat), a.fTopics.drop k = l → b.fTopics.drop k = m → l.length = m.length → l.length < fuel → (∀ t, t ∈ l → bnT t) → ∃ z, f_r20_Same_l1 (ofQ a) (ofQ b) fuel y k = some (if sameTs l m = true then .go (y, z) else .ret false)
  | [], m, k, fuel + 1, h1, h2, hl, hf, _ => by
    have := b_nil_drop h1
    exact ⟨k, by rw [f_r20_Same_l1, if_neg (by show ¬ (k : Int) < ((a.fTopics.map ofT).length : Int); rw [List.length_map]; omega)]; rfl⟩
  | x :: l, v :: m, k, fuel + 1, h1, h2, hl, hf, hw => by
    obtain ⟨g1, g2, g3⟩ := b_at_drop h1
    obtain ⟨k1, k2, k3⟩ := b_at_drop h2
    have hx := hw x (.head _)
    rw [List.length_cons] at hf
    rw [List.length_cons, List.length_cons] at hl
    obtain ⟨z, hz⟩ := r20s_l1 a b hn y l m (k + 1) fuel g2 k2 (by omega) (by omega) (fun q hq => hw q (.tail _ hq))
    refine ⟨z, ?_⟩
    have e1 : (ofQ a).fTopics[k]? = some (ofT x) := by show (a.fTopics.map ofT)[k]? = _; rw [List.getElem?_map, g1]; rfl
    have e2 : (ofQ b).fTopics[k]? = some (ofT v) := by show (b.fTopics.map ofT)[k]? = _; rw [List.getElem?_map, k1]; rfl
    have e4 : (ofT x).fParts.length = x.fParts.length := List.length_map _
    have e5 : (ofT v).fParts.length = v.fParts.length := List.length_map _
    rw [f_r20_Same_l1, if_pos (by show (k : Int) < ((a.fTopics.map ofT).length : Int); rw [List.length_map]; omega), e1, Option.bind_some, e2, Option.bind_some, e4, e5, sameTs, sameT]
    show ((if x.fName = v.fName then _ else some true).bind _) = _
    by_cases c1 : x.fName = v.fName
    · rw [if_pos c1]
      by_cases c2 : x.fParts.length = v.fParts.length
      · obtain ⟨z2, hz2⟩ := r20s_l2 x v hx.1 y x.fParts v.fParts 0 (((x.fParts.length : Int)).toNat + 1) rfl rfl c2 (by omega) hx.2
        rw [if_pos (by omega), Option.bind_some, if_neg (by decide), hz2, decide_eq_true (⟨c1, c2⟩ : x.fName = v.fName ∧ x.fParts.length = v.fParts.length), Bool.true_and]
        cases samePs x.fParts v.fParts
        · rfl
        · rw [if_pos rfl, Option.bind_some]
          dsimp only
          rw [if_pos (show -9223372036854775808 ≤ (k : Int) + 1 ∧ (k : Int) + 1 ≤ 9223372036854775807 by omega), hz]
          rfl
      · rw [if_neg (by omega), Option.bind_some, if_pos rfl, decide_eq_false (fun h : x.fName = v.fName ∧ x.fParts.length = v.fParts.length => c2 h.2)]
        rfl
    · rw [if_neg c1, Option.bind_some, if_pos rfl, decide_eq_false (fun h : x.fName = v.fName ∧ x.fParts.length = v.fParts.length => c1 h.1)]
      rfl
theorem r20_same {a b : ProduceRequest} (hn : a.fTopics.length ≤ 140737488351232) (hw : ∀ t, t ∈ a.fTopics → bnT t) : f_r20_Same (ofQ a) (ofQ b) = some (sameQ a b) := by
  have e4 : (ofQ a).fTopics.length = a.fTopics.length := List.length_map _
  have e5 : (ofQ b).fTopics.length = b.fTopics.length := List.length_map _
  unfold f_r20_Same sameQ
  rw [e4, e5]
  show ((if a.fID.null = b.fID.null then (if a.fID.data = b.fID.data then (if a.fAcks = b.fAcks then (if a.fTimeout = b.fTimeout then _ else some true) else some true) else some true) else some true).bind _) = _
  by_cases c1 : a.fID.null = b.fID.null
  rotate_left
  · rw [if_neg c1, Option.bind_some, if_pos rfl, decide_eq_false (fun h => c1 h.1)]; rfl
  by_cases c2 : a.fID.data = b.fID.data
  rotate_left
  · rw [if_pos c1, if_neg c2, Option.bind_some, if_pos rfl, decide_eq_false (fun h => c2 h.2.1)]; rfl
  by_cases c3 : a.fAcks = b.fAcks
  rotate_left
  · rw [if_pos c1, if_pos c2, if_neg c3, Option.bind_some, if_pos rfl, decide_eq_false (fun h => c3 h.2.2.1)]; rfl
  by_cases c4 : a.fTimeout = b.fTimeout
  rotate_left
  · rw [if_pos c1, if_pos c2, if_pos c3, if_neg c4, Option.bind_some, if_pos rfl, decide_eq_false (fun h => c4 h.2.2.2.1)]; rfl
  by_cases c5 : a.fTopics.length = b.fTopics.length
  rotate_left
  · rw [if_pos c1, if_pos c2, if_pos c3, if_pos c4, if_neg (by omega), Option.bind_some, if_pos rfl, decide_eq_false (fun h => c5 h.2.2.2.2)]; rfl
  obtain ⟨z, hz⟩ := r20s_l1 a b hn false a.fTopics b.fTopics 0 (((a.fTopics.length : Int)).toNat + 1) rfl rfl c5 (by omega) hw
  rw [if_pos c1, if_pos c2, if_pos c3, if_pos c4, if_pos (by omega), Option.bind_some, if_neg (by decide), hz, decide_eq_true ⟨c1, c2, c3, c4, c5⟩, Bool.true_and]
  cases sameTs a.fTopics b.fTopics <;> rfl
theorem few_l3 (y : Int) : ∀ l : List Bat, (∀ b, b ∈ l → wf_Bat b) → f_l20_Few_l3 l y = some (.ret 0) ∨ (f_l20_Few_l3 l y = some (.go y) ∧ smBs l)
  | [], _ => .inr ⟨rfl, fun x h => nomatch h⟩
  | x :: l, h => by
    rw [f_l20_Few_l3]
    rcases small11 x (h x (.head _)) with g | ⟨g, g1, g2⟩
    · rw [g]
      exact .inl rfl
    · rw [g, Option.bind_some, if_neg (by decide)]
      rcases few_l3 y l (fun z hz => h z (.tail _ hz)) with k | ⟨k, k2⟩
      · exact .inl k
      · refine .inr ⟨k, fun z hz => ?_⟩
        rcases List.mem_cons.1 hz with rfl | hz
        · exact smB_small (h _ (.head _)) g1 g2
        · exact k2 z hz
def nP (n : Int) (p : ProducePart) : Int := IntKind.i64.wrap (n + IntKind.i64.wrap (10 + IntKind.i64.wrap (100 * (p.fBatches.length : Int))))
def nPs : Int → List ProducePart → Int
  | n, [] => n
  | n, p :: l => nPs (nP n p) l
def okPs : Int → List ProducePart → Prop
  | _, [] => True
  | n, p :: l => nP n p ≤ 2000 ∧ smBs p.fBatches ∧ okPs (nP n p) l
theorem few_l2 (y : Int) : ∀ (l : List ProducePart) (n : Int), (∀ p, p ∈ l → wf_ProducePart p) → f_l20_Few_l2 l y n = some (.ret 0) ∨ (f_l20_Few_l2 l y n = some (.go (y, nPs n l)) ∧ okPs n l)
  | [], n, _ => .inr ⟨rfl, trivial⟩
  | p :: l, n, h => by
    rw [f_l20_Few_l2]
    show (if nP n p > 2000 then _ else _) = _ ∨ (if nP n p > 2000 then _ else _) = _ ∧ _
    by_cases hc : nP n p > 2000
    · rw [if_pos hc]
      exact .inl rfl
    rw [if_neg hc]
    rcases few_l3 y p.fBatches (h p (.head _)).2.2 with g | ⟨g, g2⟩
    · rw [g]
      exact .inl rfl
    · rw [g, Option.bind_some]
      rcases few_l2 y l (nP n p) (fun q hq => h q (.tail _ hq)) with k | ⟨k, k2⟩
      · exact .inl k
      · exact .inr ⟨k, by omega, g2, k2⟩
def nT (n : Int) (t : ProduceTopic) : Int := IntKind.i64.wrap (n + IntKind.i64.wrap ((t.fName.length : Int) + 10))
def nTs : Int → List ProduceTopic → Int
  | n, [] => n
  | n, t :: l => nTs (nPs (nT n t) t.fParts) l
def okTs : Int → List ProduceTopic → Prop
  | _, [] => True
  | n, t :: l => okPs (nT n t) t.fParts ∧ okTs (nPs (nT n t) t.fParts) l
theorem few_l1 (y : Int) : ∀ (l : List ProduceTopic) (n : Int), (∀ t, t ∈ l → wf_ProduceTopic t) → f_l20_Few_l1 l y n = some (.ret 0) ∨ (f_l20_Few_l1 l y n = some (.go (y, nTs n l)) ∧ okTs n l)
  | [], n, _ => .inr ⟨rfl, trivial⟩
  | t :: l, n, h => by
    rw [f_l20_Few_l1]
    show ((f_l20_Few_l2 t.fParts y (nT n t)).bind _) = _ ∨ ((f_l20_Few_l2 t.fParts y (nT n t)).bind _) = _ ∧ _
    rcases few_l2 y t.fParts (nT n t) (h t (.head _)).2.2 with g | ⟨g, g2⟩
    · rw [g]
      exact .inl rfl
    · rw [g, Option.bind_some]
      rcases few_l1 y l (nPs (nT n t) t.fParts) (fun q hq => h q (.tail _ hq)) with k | ⟨k, k2⟩
      · exact .inl k
      · exact .inr ⟨k, g2, k2⟩
theorem few_eq {a : ProduceRequest} (hw : wf_ProduceRequest a) : f_l20_Few a = some 0 ∨ (f_l20_Few a = some 1 ∧ okTs (a.fID.data.length : Int) a.fTopics ∧ nTs (a.fID.data.length : Int) a.fTopics ≤ 2000) := by
  unfold f_l20_Few
  rcases few_l1 0 a.fTopics (a.fID.data.length : Int) hw.2.2.2.2 with g | ⟨g, g2⟩
  · rw [g]
    exact .inl rfl
  · rw [g, Option.bind_some]
    dsimp only
    by_cases hc : nTs (a.fID.data.length : Int) a.fTopics > 2000
    · rw [if_pos hc]
      exact .inl rfl
    · rw [if_neg hc]
      exact .inr ⟨rfl, g2, by omega⟩
theorem okPs_mem : ∀ {l : List ProducePart} {n : Int}, okPs n l → ∀ p, p ∈ l → smBs p.fBatches
  | q :: l, n, h, p, hp => by
    rcases List.mem_cons.1 hp with rfl | hp
    · exact h.2.1
    · exact okPs_mem h.2.2 p hp
theorem okTs_mem : ∀ {l : List ProduceTopic} {n : Int}, okTs n l → ∀ t, t ∈ l → ∀ p, p ∈ t.fParts → smBs p.fBatches
  | u :: l, n, h, t, ht => by
    rcases List.mem_cons.1 ht with rfl | ht
    · exact okPs_mem h.1
    · exact okTs_mem h.2 t ht
theorem bnT_of {a : ProduceRequest} (hw : wf_ProduceRequest a) (ho : okTs (a.fID.data.length : Int) a.fTopics) : ∀ t, t ∈ a.fTopics → bnT t := fun t ht => by
  have h1 := (hw.2.2.2.2 t ht).2
  have h2 := h1.1
  exact ⟨by omega, fun p hp => ⟨(h1.2 p hp).2.1, fun b hb => (okTs_mem ho t ht p hp b hb).1.1⟩⟩
theorem pure_ProduceSame (a0 : ProduceRequest) (a1 : ProduceRequest) (w0 : wf_ProduceRequest a0) (w1 : wf_ProduceRequest a1) : f_l20_ProduceSame a0 a1 = some true := by
  unfold f_l20_ProduceSame
  rw [speaks20, Option.bind_some, if_pos rfl]
  rcases few_eq w0 with h | ⟨h, h2, h3⟩
  · rw [h, Option.bind_some, if_pos rfl]; rfl
  rw [h, Option.bind_some, if_neg (by decide)]
  rcases few_eq w1 with g | ⟨g, g2, g3⟩
  · rw [g, Option.bind_some, if_pos rfl]; rfl
  have hl := w0.2.2.2.1
  rw [g, Option.bind_some, if_neg (by decide), produce_same, Option.bind_some, of_eq w0, Option.bind_some, of_eq w1, Option.bind_some, r20_same (by omega) (bnT_of w0 h2), Option.bind_some, beq_self_eq_true]
  rfl
end Go.Proofs.Ytcoppaggpbfcmaa.Sl
namespace Go.Proofs.Ytcoppaggpbfcmaa.Sl
open Go.RowKit Go.Deep Go.ChangeShapes
set_option linter.unusedVariables false
theorem op_Bl {H : Type} {enc : TypeId × Value → H} : OpensW enc Try.prog 30 (andRd Bl_rd wf_Bl) :=
  opensW_weak (fun x => ⟨x.1, x.2.1⟩) (opensW_struct Try.underlying30 (by kernel_rfl) (opensWFs_cons 1 (by kernel_rfl) (by kernel_rfl) (op_bool Try.underlying4) (opensWFs_cons 1 (by kernel_rfl) (by kernel_rfl) (op_str Try.underlying9) (opensWFs_nil _)))) (by
    rintro w S cs ⟨x0, x1, _⟩ ⟨_, _, rfl, ⟨p0, q0⟩, _, _, rfl, ⟨p1, q1⟩, rfl⟩
    obtain rfl := p0
    obtain rfl := p1
    exact ⟨rfl, q0, q1⟩)
theorem op_Hd {H : Type} {enc : TypeId × Value → H} : OpensW enc Try.prog 81 (andRd Hd_rd wf_Hd) :=
  opensW_weak (fun x => ⟨x.1, x.2.1⟩) (opensW_struct Try.underlying81 (by kernel_rfl) (opensWFs_cons 1 (by kernel_rfl) (by kernel_rfl) (op_str Try.underlying9) (opensWFs_cons 2 (by kernel_rfl) (by kernel_rfl) op_Bl (opensWFs_nil _)))) (by
    rintro w S cs ⟨x0, x1, _⟩ ⟨_, _, rfl, ⟨p0, q0⟩, _, _, rfl, ⟨p1, q1⟩, rfl⟩
    obtain rfl := p0
    obtain rfl := p1
    exact ⟨rfl, q0, q1⟩)
theorem op_Rec {H : Type} {enc : TypeId × Value → H} : OpensW enc Try.prog 33 (andRd Rec_rd wf_Rec) :=
  opensW_weak (fun x => ⟨x.1, x.2.1, x.2.2.1, x.2.2.2.1, x.2.2.2.2.1⟩) (opensW_struct Try.underlying33 (by kernel_rfl) (opensWFs_cons 1 (by kernel_rfl) (by kernel_rfl) (op_i64 Try.underlying3) (opensWFs_cons 1 (by kernel_rfl) (by kernel_rfl) (op_i64 Try.underlying3) (opensWFs_cons 2 (by kernel_rfl) (by kernel_rfl) op_Bl (opensWFs_cons 2 (by kernel_rfl) (by kernel_rfl) op_Bl (opensWFs_cons 1 (by kernel_rfl) (by kernel_rfl) (op_slice 3 40 Try.underlying31 (by kernel_rfl) (by kernel_rfl) (by decide) (by decide) op_Hd) (opensWFs_nil _))))))) (by
    rintro w S cs ⟨x0, x1, x2, x3, x4, _⟩ ⟨_, _, rfl, ⟨p0, q0⟩, _, _, rfl, ⟨p1, q1⟩, _, _, rfl, ⟨p2, q2⟩, _, _, rfl, ⟨p3, q3⟩, _, _, rfl, ⟨p4, q4⟩, rfl⟩
    obtain rfl := p0
    obtain rfl := p1
    obtain rfl := p2
    obtain rfl := p3
    obtain ⟨A4, c4, rfl⟩ := slice_cells p4
    exact ⟨⟨A4, c4, rfl, p4⟩, q0, q1, q2, q3, q4⟩)
theorem op_Bat {H : Type} {enc : TypeId × Value → H} : OpensW enc Try.prog 25 (andRd Bat_rd wf_Bat) :=
  opensW_weak (fun x => ⟨x.1, x.2.1, x.2.2.1, x.2.2.2.1, x.2.2.2.2.1, x.2.2.2.2.2.1, x.2.2.2.2.2.2.1, x.2.2.2.2.2.2.2.1, x.2.2.2.2.2.2.2.2.1, x.2.2.2.2.2.2.2.2.2.1, x.2.2.2.2.2.2.2.2.2.2.1, x.2.2.2.2.2.2.2.2.2.2.2.1⟩) (opensW_struct Try.underlying25 (by kernel_rfl) (opensWFs_cons 1 (by kernel_rfl) (by kernel_rfl) (op_i64 Try.underlying3) (opensWFs_cons 1 (by kernel_rfl) (by kernel_rfl) (op_i64 Try.underlying3) (opensWFs_cons 1 (by kernel_rfl) (by kernel_rfl) (op_bool Try.underlying4) (opensWFs_cons 1 (by kernel_rfl) (by kernel_rfl) (op_bool Try.underlying4) (opensWFs_cons 1 (by kernel_rfl) (by kernel_rfl) (op_bool Try.underlying4) (opensWFs_cons 1 (by kernel_rfl) (by kernel_rfl) (op_i64 Try.underlying3) (opensWFs_cons 1 (by kernel_rfl) (by kernel_rfl) (op_i64 Try.underlying3) (opensWFs_cons 1 (by kernel_rfl) (by kernel_rfl) (op_i64 Try.underlying3) (opensWFs_cons 1 (by kernel_rfl) (by kernel_rfl) (op_i64 Try.underlying3) (opensWFs_cons 1 (by kernel_rfl) (by kernel_rfl) (op_i64 Try.underlying3) (opensWFs_cons 1 (by kernel_rfl) (by kernel_rfl) (op_i64 Try.underlying3) (opensWFs_cons 1 (by kernel_rfl) (by kernel_rfl) (op_slice 7 88 Try.underlying23 (by kernel_rfl) (by kernel_rfl) (by decide) (by decide) op_Rec) (opensWFs_nil _)))))))))))))) (by
    rintro w S cs ⟨x0, x1, x2, x3, x4, x5, x6, x7, x8, x9, x10, x11, _⟩ ⟨_, _, rfl, ⟨p0, q0⟩, _, _, rfl, ⟨p1, q1⟩, _, _, rfl, ⟨p2, q2⟩, _, _, rfl, ⟨p3, q3⟩, _, _, rfl, ⟨p4, q4⟩, _, _, rfl, ⟨p5, q5⟩, _, _, rfl, ⟨p6, q6⟩, _, _, rfl, ⟨p7, q7⟩, _, _, rfl, ⟨p8, q8⟩, _, _, rfl, ⟨p9, q9⟩, _, _, rfl, ⟨p10, q10⟩, _, _, rfl, ⟨p11, q11⟩, rfl⟩
    obtain rfl := p0
    obtain rfl := p1
    obtain rfl := p2
    obtain rfl := p3
    obtain rfl := p4
    obtain rfl := p5
    obtain rfl := p6
    obtain rfl := p7
    obtain rfl := p8
    obtain rfl := p9
    obtain rfl := p10
    obtain ⟨A11, c11, rfl⟩ := slice_cells p11
    exact ⟨⟨A11, c11, rfl, p11⟩, q0, q1, q2, q3, q4, q5, q6, q7, q8, q9, q10, q11⟩)
theorem op_ProducePart {H : Type} {enc : TypeId × Value → H} : OpensW enc Try.prog 78 (andRd ProducePart_rd wf_ProducePart) :=
  opensW_weak (fun x => ⟨x.1, x.2.1⟩) (opensW_struct Try.underlying78 (by kernel_rfl) (opensWFs_cons 1 (by kernel_rfl) (by kernel_rfl) (op_i64 Try.underlying3) (opensWFs_cons 1 (by kernel_rfl) (by kernel_rfl) (op_slice 12 96 Try.underlying46 (by kernel_rfl) (by kernel_rfl) (by decide) (by decide) op_Bat) (opensWFs_nil _)))) (by
    rintro w S cs ⟨x0, x1, _⟩ ⟨_, _, rfl, ⟨p0, q0⟩, _, _, rfl, ⟨p1, q1⟩, rfl⟩
    obtain rfl := p0
    obtain ⟨A1, c1, rfl⟩ := slice_cells p1
    exact ⟨⟨A1, c1, rfl, p1⟩, q0, q1⟩)
theorem op_ProduceTopic {H : Type} {enc : TypeId × Value → H} : OpensW enc Try.prog 76 (andRd ProduceTopic_rd wf_ProduceTopic) :=
  opensW_weak (fun x => ⟨x.1, x.2.1⟩) (opensW_struct Try.underlying76 (by kernel_rfl) (opensWFs_cons 1 (by kernel_rfl) (by kernel_rfl) (op_str Try.underlying9) (opensWFs_cons 1 (by kernel_rfl) (by kernel_rfl) (op_sliceB 2 32 Try.underlying74 (by kernel_rfl) (by kernel_rfl) (by decide) (by decide) op_ProducePart) (opensWFs_nil _)))) (by
    rintro w S cs ⟨x0, x1, _⟩ ⟨_, _, rfl, ⟨p0, q0⟩, _, _, rfl, ⟨p1, q1⟩, rfl⟩
    obtain rfl := p0
    obtain ⟨A1, c1, rfl⟩ := slice_cells p1
    exact ⟨⟨A1, c1, rfl, p1⟩, q0, q1⟩)
theorem op_ProduceRequest {H : Type} {enc : TypeId × Value → H} : OpensW enc Try.prog 65 (andRd ProduceRequest_rd wf_ProduceRequest) :=
  opensW_weak (fun x => ⟨x.1, x.2.1, x.2.2.1, x.2.2.2.1⟩) (opensW_struct Try.underlying65 (by kernel_rfl) (opensWFs_cons 2 (by kernel_rfl) (by kernel_rfl) op_Bl (opensWFs_cons 1 (by kernel_rfl) (by kernel_rfl) (op_i64 Try.underlying3) (opensWFs_cons 1 (by kernel_rfl) (by kernel_rfl) (op_i64 Try.underlying3) (opensWFs_cons 1 (by kernel_rfl) (by kernel_rfl) (op_sliceB 2 40 Try.underlying63 (by kernel_rfl) (by kernel_rfl) (by decide) (by decide) op_ProduceTopic) (opensWFs_nil _)))))) (by
    rintro w S cs ⟨x0, x1, x2, x3, _⟩ ⟨_, _, rfl, ⟨p0, q0⟩, _, _, rfl, ⟨p1, q1⟩, _, _, rfl, ⟨p2, q2⟩, _, _, rfl, ⟨p3, q3⟩, rfl⟩
    obtain rfl := p0
    obtain rfl := p1
    obtain rfl := p2
    obtain ⟨A3, c3, rfl⟩ := slice_cells p3
    exact ⟨⟨A3, c3, rfl, p3⟩, q0, q1, q2, q3⟩)
end Go.Proofs.Ytcoppaggpbfcmaa.Sl
namespace Go.Proofs.Ytcoppaggpbfcmaa.produceSame
open Go.ChangeShapes Go.WideShapes Go.ChangeAt Go.RowKit
open Go.ChangeMaps (open_string shut_string)
set_option linter.unusedVariables false
theorem own : ownKnob Try.prog.godebug = none := by kernel_rfl
theorem laidOut : laidOutB Try.prog = true := by kernel_rfl
set_option maxRecDepth 100000 in
set_option maxHeartbeats 1000000 in
theorem lifted (os : Os) (started : os.Started) (H : Type) (enc : TypeId × Value → H) :
    ReturnsInHanded {} Try.checked os 8 .any (Rows.produceSameSpec.pre6 enc Try.prog Try.f8 Rows.produceSameRow.domain false) (Rows.produceSameSpec.post enc Try.prog Try.f8 false true false false) := by
  refine returnsInHanded_of_change_sized (C := Try.checked) own started (by kernel_rfl) Try.func8
    (ChangeSpec.witness6 (enc := enc) (C := Try.checked) false ⟨#[], #[.agg #[.bool false, .string ⟨#[]⟩, .int .i64 0, .int .i64 0, .slice none 0 0], .agg #[.bool false, .string ⟨#[]⟩, .int .i64 0, .int .i64 0, .slice none 0 0]], []⟩ 8 (by kernel_rfl) (by kernel_rfl) (by kernel_rfl) (by kernel_rfl)) ?_
  intro W base args ds gs before hval0 hW hcnd hsz0 _
  have hsz : (DataW.weightsEach Try.prog (Try.f8.params.toList ++ Rows.produceSameSpec.plain.varTypes Try.prog) (ds ++ gs)).all (· ≤ reachBytes) = true := hsz0
  have hval : ∀ (j : Nat) t v, Try.f8.params[j]? = some t → args[j]? = some v → Value.okWide Try.prog W .any base t v := hval0
  have hW' := hW
  obtain ⟨p, q, hA0, hV, rfl, hfz, hnd⟩ := hW
  have hA : DataW.TrodAll enc Try.prog W 0 (fun _ => true) true Try.f8.params.toList args.toList ds p := hA0
  rw [Try.params8] at hA hval hsz
  obtain ⟨v0, vs0, d0, ds0, p0, q0, hargs, rfl, rfl, h0, r0⟩ := trodAll_cons hA
  obtain ⟨v1, vs1, d1, ds1, p1, q1, rfl, rfl, rfl, h1, r1⟩ := trodAll_cons r0
  obtain ⟨rfl, rfl, rfl⟩ := trodAll_nil r1
  obtain rfl : args = #[v0, v1] := by cases args; simp_all
  obtain ⟨rfl, rfl⟩ := trodVars_none hV
  have k0 := h0
  have lt0 : ∀ x ∈ p0, x.block < W.heap.size := by obtain ⟨m, hm⟩ := k0; exact DataW.trod_lt m _ _ _ hm
  obtain ⟨a0, cs0, rfl, r_0, w0⟩ := Sl.opens_arg2 Try.underlying65 (hval 0 65 v0 rfl rfl) Sl.op_ProduceRequest h0 (fun x hx => of_decide_eq_true (List.all_eq_true.1 hsz x (Sl.weights_in 0 rfl rfl hx)))
  obtain ⟨A0_0, c0_0, e0, r0_0⟩ := r_0
  obtain rfl : cs0 = #[.bool a0.fID.null, .string (Sl.bsOf a0.fID.data), .int .i64 a0.fAcks, .int .i64 a0.fTimeout, .slice A0_0 a0.fTopics.length c0_0] := by apply Array.toList_inj.1; exact e0
  have k1 := h1
  have lt1 : ∀ x ∈ p1, x.block < W.heap.size := by obtain ⟨m, hm⟩ := k1; exact DataW.trod_lt m _ _ _ hm
  obtain ⟨a1, cs1, rfl, r_1, w1⟩ := Sl.opens_arg2 Try.underlying65 (hval 1 65 v1 rfl rfl) Sl.op_ProduceRequest h1 (fun x hx => of_decide_eq_true (List.all_eq_true.1 hsz x (Sl.weights_in 1 rfl rfl hx)))
  obtain ⟨A1_0, c1_0, e1, r1_0⟩ := r_1
  obtain rfl : cs1 = #[.bool a1.fID.null, .string (Sl.bsOf a1.fID.data), .int .i64 a1.fAcks, .int .i64 a1.fTimeout, .slice A1_0 a1.fTopics.length c1_0] := by apply Array.toList_inj.1; exact e1
  clear hA0 hval0 hsz0 hsz
  refine (Sl.f_l20_ProduceSame_spec a0 A0_0 c0_0 a1 A1_0 c1_0 true (Sl.pure_ProduceSame a0 a1 w0 w1) (fun _ => False) W (fun _ h => h) (Sl.RX.reads_and (Sl.RX.reads_all r0_0) (Sl.RX.reads_all r1_0))).mono fun e W' hP => ?_
  obtain ⟨v, A', Ns, rfl, ⟨rfl, rfl, rfl⟩, hst⟩ := hP
  have bel := Sl.St.below hst
  exact ⟨_, rfl, _, _, _, [], _, [], hW', trodAll_mk1 (shut_bool Try.underlying4 _), (trodAll_cons_mk (Below.trod laidOut (by kernel_rfl) (of_decide_eq_true (by kernel_rfl)) k0 bel lt0) (trodAll_cons_mk (Below.trod laidOut (by kernel_rfl) (of_decide_eq_true (by kernel_rfl)) k1 bel lt1) trodAll_mk0)), rfl, bel.frame _, fun h => by cases h⟩
theorem over : Rows.produceSameRow.holds Try.pinned (OpenSpec.ofChange Rows.produceSameSpec) :=
  OpenClaim.holds_of_wide 8 Try.f8 rfl rfl rfl rfl rfl rfl rfl ⟨rfl, rfl, rfl, rfl, rfl⟩ rfl rfl rfl rfl rfl (by kernel_rfl) Try.func8 (by kernel_rfl)
    (of_decide_eq_true (by kernel_rfl)) (by unfold Func.isWrapper; first | (rw [if_pos (by decide +kernel)]; kernel_rfl) | (rw [if_neg (by decide +kernel)]; exact ⟨rfl, rfl⟩))
    (fun os started H enc _ => lifted os started H enc)
theorem proved : Rows.ProduceSameSaid := over
end Go.Proofs.Ytcoppaggpbfcmaa.produceSame
namespace Go.Proofs.Ytcoppaggpbfcmaa
theorem produceSame_holds : Rows.ProduceSameSaid := produceSame.proved
end Go.Proofs.Ytcoppaggpbfcmaa
