/- TxnReads: for every input the law returns true, and its arguments read behind the call as they did before. -/
import Derived.Test.YtagbblaegdedpaaRows
import Derived.WalkKit
import Derived.ProofKit
import Derived.OpenShut
import Derived.ShutString
import Derived.ChangeOld
import Derived.Below
import Derived.SizedLaws
import Derived.Test.YtagbblaegdedpaaK2
namespace Go.Proofs.Ytagbblaegdedpaa.Sl
open Go.RowKit
set_option linter.unusedVariables false
set_option linter.unusedSimpArgs false
theorem wi0 : wI 0 := ⟨by decide, by decide⟩
theorem wi1 : wI 1 := ⟨by decide, by decide⟩
theorem wim : wI (-1) := ⟨by decide, by decide⟩
def who (p e : Int) : Bool := decide (0 ≤ p ∧ 0 ≤ e ∧ e ≤ 32767)
theorem who_eq (p e : Int) (he : wI e) : f_txn_Who p e = some (who p e) := by
  unfold f_txn_Who who
  by_cases h1 : p ≥ 0
  · rw [if_pos h1]
    by_cases h2 : e ≥ 0
    · rw [if_pos h2, gFits_eq _ _ he, fits_2]
      simp only [Option.bind_some]
      congr 1
      by_cases h3 : e ≤ 32767
      · rw [decide_eq_true (by omega), decide_eq_true (by omega)]
      · rw [decide_eq_false (by omega), decide_eq_false (by omega)]
    · rw [if_neg h2, decide_eq_false (by omega)]
      rfl
  · rw [if_neg h1, decide_eq_false (by omega)]
    rfl
def riseV (l : List Top) : Int := if l.length = 0 then 10 else if okts l = true then 0 else 13
def wTl (l : List Top) : Prop := (∀ t, t ∈ l → wf_Top t) ∧ l.length ≤ 1000000
theorem rise_txn (l : List Top) (hw : wTl l) : f_txn_Rise l = some (riseV l) := by
  unfold f_txn_Rise riseV
  by_cases h : l.length = 0
  · rw [if_pos (by omega), if_pos h]
  · rw [if_neg (by omega), if_neg h, vcheck_eq _ ⟨wi0, wi0, wi0, wi1, ⟨by have := hw.2; simp only; omega, hw.1⟩, wi0, wi0⟩ hw.2, Option.bind_some]
    unfold chkV
    rw [if_neg (by unfold badR; simp), if_neg (by simp), if_neg (by
      unfold badC
      simp only
      rintro (h1 | h1)
      · exact h1 ⟨fun _ => by omega, fun _ => by omega⟩
      · exact h1 ⟨fun h => absurd h (by decide), fun h => absurd h (by decide)⟩)]
def chkE (d : List UInt8) (p e : Int) : Int := if kright d = true then (if who p e = true then 0 else 11) else 4
def chkA (d : List UInt8) (p e : Int) (l : List Top) : Int := if kright d = true then (if who p e = true then riseV l else 11) else 4
def tmB (t : Int) : Bool := decide (0 ≤ t ∧ t ≤ 2147483647)
def nobB (p e : Int) : Bool := decide (p = -1 ∧ e = -1)
def chkB (b : Bl) (t p e v : Int) : Int := if (bright b && (b.null || kright b.data)) = true then (if (tmB t && (nobB p e || (decide (v > 0) && who p e))) = true then 0 else 11) else 4
theorem endCheck (x : TxnEnd) (he : wI x.fEpoch) : f_txn_EndCheck x = some (chkE x.fID x.fProducer x.fEpoch) := by
  unfold f_txn_EndCheck chkE
  rw [gKRight_eq, Option.bind_some, who_eq _ _ he, Option.bind_some]
  cases kright x.fID <;> cases who x.fProducer x.fEpoch <;> rfl
theorem addCheck (x : TxnAdd) (he : wI x.fEpoch) (hl : wTl x.fTopics) : f_txn_AddCheck x = some (chkA x.fID x.fProducer x.fEpoch x.fTopics) := by
  unfold f_txn_AddCheck chkA
  rw [gKRight_eq, Option.bind_some, who_eq _ _ he, Option.bind_some, rise_txn _ hl, Option.bind_some]
  cases kright x.fID <;> cases who x.fProducer x.fEpoch <;> rfl
theorem beginCheck (x : TxnBegin) (v : Int) (he : wI x.fEpoch) (ht : wI x.fTimeout) : f_txn_BeginCheck x v = some (chkB x.fID x.fTimeout x.fProducer x.fEpoch v) := by
  unfold f_txn_BeginCheck chkB
  have h1 : (if x.fProducer = (-1) then (if x.fEpoch = (-1) then some true else some false) else some false) = some (nobB x.fProducer x.fEpoch) := by
    unfold nobB
    by_cases a : x.fProducer = -1 <;> by_cases b : x.fEpoch = -1 <;> simp [a, b]
  have h3 : (if x.fTimeout < 0 then some true else ((gFits x.fTimeout 4).bind fun x29 => if x29 = true then some false else some true)) = some (!tmB x.fTimeout) := by
    unfold tmB
    by_cases a : x.fTimeout < 0
    · rw [if_pos a, decide_eq_false (by omega)]
      rfl
    · rw [if_neg a, gFits_eq _ _ ht, fits_4, Option.bind_some]
      by_cases b : x.fTimeout ≤ 2147483647
      · rw [if_pos (decide_eq_true (by omega)), decide_eq_true (by omega)]
        rfl
      · rw [if_neg (by simp; omega), decide_eq_false (by omega)]
        rfl
  have h4 : (if v > 0 then ((some (who x.fProducer x.fEpoch)).bind fun x55 => if x55 = true then some false else some true) else some true) = some (!(decide (v > 0) && who x.fProducer x.fEpoch)) := by
    by_cases d : v > 0
    · rw [if_pos d, decide_eq_true d]
      cases who x.fProducer x.fEpoch <;> rfl
    · rw [if_neg d, decide_eq_false d]
      rfl
  rw [h1, Option.bind_some, h3, who_eq _ _ he, h4, gRight_eq, gKRight_eq]
  cases bright x.fID <;> cases x.fID.null <;> cases kright x.fID.data <;> cases tmB x.fTimeout <;> cases nobB x.fProducer x.fEpoch <;> cases (decide (v > 0) && who x.fProducer x.fEpoch) <;> rfl
theorem B_bool : CB f_txn_Bool pBool false := by
  refine ⟨fun st h => ?_, fun s q hl hq => ?_⟩
  · unfold f_txn_Bool
    rw [gInt_d h, Option.bind_some]
    rfl
  · unfold f_txn_Bool pBool
    rcases Q1.run s q hq with ⟨e, st, p1, g1, x1, y1⟩ | ⟨n, r, p1, g1, n1, l1⟩
    · refine .inl ⟨e, st, Pr.bind_err p1, ?_, x1, y1⟩
      rw [g1, Option.bind_some]
      rfl
    · rw [g1, Option.bind_some, Pr.bind_of p1]
      simp only
      by_cases h0 : n = 0
      · rw [if_pos h0, if_pos h0, Option.bind_some, if_neg (by decide), Option.bind_some, if_neg (by omega)]
        exact .inr ⟨false, r, rfl, rfl, n1, l1⟩
      · by_cases h1 : n = 1
        · rw [if_neg h0, if_pos h1, if_neg h0, if_pos h1, Option.bind_some, if_neg (by decide), Option.bind_some, if_pos h1]
          exact .inr ⟨true, r, rfl, rfl, n1, l1⟩
        · rw [if_neg h0, if_neg h1, if_neg h0, if_neg h1, Option.bind_some, if_pos rfl, gIFail_eq, Option.bind_some, Option.bind_some, if_neg h1]
          exact .inl ⟨11, _, rfl, rfl, rfl, by simp [ifail]⟩
abbrev pTops : Pr (List Top) := pRow 4 6 pTopic
theorem encs_mem_len {α : Type} {enc : α → List UInt8} : ∀ (l : List α) (x : α), x ∈ l → (enc x).length ≤ (encs enc l).length
  | y :: l, x, h => by
    rw [encs, List.length_append]
    rcases List.mem_cons.1 h with rfl | h
    · omega
    · have := encs_mem_len (enc := enc) l x h
      omega
theorem w_tops (s : List UInt8) (q : Nat) (l : List Top) (r : Nat) (hl : s.length ≤ 1000000) (hq : q ≤ s.length) (h : pTops s q = .ok (l, r)) : wTl l := by
  obtain ⟨a1, a2, a3, a4, a5, a6⟩ := Sp_topics.spell s q l r hq h
  rw [List.length_append, be_length] at a3
  have hlen := encs_ge encT_ge l a6
  refine ⟨fun t ht => ?_, by omega⟩
  have h1 := encs_mem_len (enc := encT) l t ht
  obtain ⟨b1, b2, b3⟩ := a6 t ht
  have h2 : (encT t).length = wT t := encT_len t
  unfold wT at h2
  exact ⟨by show t.fName.length ≤ _; omega, by show t.fParts.length ≤ _; omega, fun n hn => fits_rng (b3 n hn)⟩
def zE : TxnEnd := ⟨[], 0, 0, false⟩
def zA : TxnAdd := ⟨[], 0, 0, []⟩
def zB : TxnBegin := ⟨⟨false, []⟩, 0, 0, 0⟩
def pEndR : Pr TxnEnd := pText.bind fun d => (pInt 8).bind fun p => (pInt 2).bind fun e => pBool.bind fun c => if chkE d p e = 0 then .ret ⟨d, p, e, c⟩ else .err (chkE d p e)
def pAddR : Pr TxnAdd := pText.bind fun d => (pInt 8).bind fun p => (pInt 2).bind fun e => pTops.bind fun l => if chkA d p e l = 0 then .ret ⟨d, p, e, l⟩ else .err (chkA d p e l)
def pBeg0 (v : Int) : Pr TxnBegin := (pFixed 2).bind fun b => (pInt 4).bind fun t => if chkB b t (-1) (-1) v = 0 then .ret ⟨b, t, -1, -1⟩ else .err (chkB b t (-1) (-1) v)
def pBeg1 (v : Int) : Pr TxnBegin := (pFixed 2).bind fun b => (pInt 4).bind fun t => (pInt 8).bind fun p => (pInt 2).bind fun e => if chkB b t p e v = 0 then .ret ⟨b, t, p, e⟩ else .err (chkB b t p e v)
theorem B_end : CB f_txn_ReadEnd pEndR zE := by
  refine CB.congr (CB.bind (fun _ => True) QT.cb (fun _ _ _ _ _ _ _ => trivial) trivial fun d _ => CB.bind wI Q8.cb (w_int (by decide) (by decide)) wi0 fun p hp => CB.bind wI Q2.cb (w_int (by decide) (by decide)) wi0 fun e he => CB.bind (fun _ => True) B_bool (fun _ _ _ _ _ _ _ => trivial) trivial fun c _ =>
    CB_chk (op := fun st => (f_txn_closed_txn_EndCheck st ⟨d, p, e, c⟩).bind fun (x15, st16) => if x15 = true then some (⟨d, p, e, c⟩, st16) else some (zE, st16)) (fun st h => ?_) (fun st h => ?_)) (fun st => rfl)
  · unfold f_txn_closed_txn_EndCheck
    rw [gErr_eq, Option.bind_some]
    simp only
    rw [if_neg h]
    rfl
  · unfold f_txn_closed_txn_EndCheck
    rw [gErr_eq, Option.bind_some]
    simp only
    rw [if_pos h, endCheck _ he, Option.bind_some]
    by_cases hc : chkE d p e = 0
    · rw [if_pos hc, if_pos hc]
      rfl
    · rw [if_neg hc, if_neg hc, gIFail_eq]
      rfl
theorem B_add : CB f_txn_ReadAdd pAddR zA := by
  refine CB.congr (CB.bind (fun _ => True) QT.cb (fun _ _ _ _ _ _ _ => trivial) trivial fun d _ => CB.bind wI Q8.cb (w_int (by decide) (by decide)) wi0 fun p hp => CB.bind wI Q2.cb (w_int (by decide) (by decide)) wi0 fun e he => CB.bind wTl B_topics w_tops ⟨(fun t h => nomatch h), by decide⟩ fun l hl =>
    CB_chk (op := fun st => (f_txn_closed_txn_AddCheck st ⟨d, p, e, l⟩).bind fun (x15, st16) => if x15 = true then some (⟨d, p, e, l⟩, st16) else some (zA, st16)) (fun st h => ?_) (fun st h => ?_)) (fun st => rfl)
  · unfold f_txn_closed_txn_AddCheck
    rw [gErr_eq, Option.bind_some]
    simp only
    rw [if_neg h]
    rfl
  · unfold f_txn_closed_txn_AddCheck
    rw [gErr_eq, Option.bind_some]
    simp only
    rw [if_pos h, addCheck _ he hl, Option.bind_some]
    by_cases hc : chkA d p e l = 0
    · rw [if_pos hc, if_pos hc]
      rfl
    · rw [if_neg hc, if_neg hc, gIFail_eq]
      rfl
theorem closedB (b : Bl) (t p e v : Int) (ht : wI t) (he : wI e) : CB (fun st => (f_txn_closed_txn_ReadBegin1 st ⟨b, t, p, e⟩ v).bind fun (x15, st16) => if x15 = true then some ((⟨b, t, p, e⟩ : TxnBegin), st16) else some (zB, st16)) (if chkB b t p e v = 0 then .ret ⟨b, t, p, e⟩ else .err (chkB b t p e v)) zB := by
  refine CB_chk (fun st h => ?_) (fun st h => ?_)
  · unfold f_txn_closed_txn_ReadBegin1
    rw [gErr_eq, Option.bind_some]
    simp only
    rw [if_neg h]
    rfl
  · unfold f_txn_closed_txn_ReadBegin1 f_txn_ReadBegin1_b
    rw [gErr_eq, Option.bind_some]
    simp only
    rw [if_pos h, beginCheck _ _ he ht, Option.bind_some, Option.bind_some]
    by_cases hc : chkB b t p e v = 0
    · rw [if_pos hc, if_pos hc]
      rfl
    · rw [if_neg hc, if_neg hc, gIFail_eq]
      rfl
theorem B_beg0 (v : Int) (hv : ¬ v > 0) : CB (fun st => f_txn_ReadBegin st v) (pBeg0 v) zB := by
  refine CB.congr (CB.bind (fun _ => True) QF2.cb (fun _ _ _ _ _ _ _ => trivial) trivial fun b _ => CB.bind wI Q4.cb (w_int (by decide) (by decide)) wi0 fun t ht => closedB b t (-1) (-1) v ht wim) (fun st => ?_)
  unfold f_txn_ReadBegin
  simp only [if_neg hv, Option.bind_some]
  rfl
theorem B_beg1 (v : Int) (hv : v > 0) : CB (fun st => f_txn_ReadBegin st v) (pBeg1 v) zB := by
  refine CB.congr (CB.bind (fun _ => True) QF2.cb (fun _ _ _ _ _ _ _ => trivial) trivial fun b _ => CB.bind wI Q4.cb (w_int (by decide) (by decide)) wi0 fun t ht => CB.bind wI Q8.cb (w_int (by decide) (by decide)) wi0 fun p hp => CB.bind wI Q2.cb (w_int (by decide) (by decide)) wi0 fun e he => closedB b t p e v ht he) (fun st => ?_)
  unfold f_txn_ReadBegin
  simp only [if_pos hv, Option.bind_assoc, Option.bind_some]
  rfl
def encTx (d : List UInt8) : List UInt8 := be (d.length : Int) 2 ++ d
def encTs (l : List Top) : List UInt8 := be (l.length : Int) 4 ++ encs encT l
def encE (x : TxnEnd) : List UInt8 := encTx x.fID ++ (be x.fProducer 8 ++ (be x.fEpoch 2 ++ encBool x.fCommit))
def encA (x : TxnAdd) : List UInt8 := encTx x.fID ++ (be x.fProducer 8 ++ (be x.fEpoch 2 ++ encTs x.fTopics))
def encFx (b : Bl) : List UInt8 := be (blen b) 2 ++ b.data
def encB0 (x : TxnBegin) : List UInt8 := encFx x.fID ++ be x.fTimeout 4
def encB1 (x : TxnBegin) : List UInt8 := encFx x.fID ++ (be x.fTimeout 4 ++ (be x.fProducer 8 ++ be x.fEpoch 2))
def okTx (d : List UInt8) : Prop := fits (d.length : Int) 2 = true ∧ bright ⟨false, d⟩ = true
def okFx (b : Bl) : Prop := fits (blen b) 2 = true ∧ bright b = true
def okTs (l : List Top) : Prop := fits (l.length : Int) 4 = true ∧ ∀ t, t ∈ l → okT t
abbrev spI (k : Nat) (h1 : 1 ≤ k := by decide) (h8 : k ≤ 8 := by decide) := Sp_int k h1 h8
theorem Sp_end : Sp pEndR encE (fun x => okTx x.fID ∧ fits x.fProducer 8 = true ∧ fits x.fEpoch 2 = true ∧ chkE x.fID x.fProducer x.fEpoch = 0) := by
  refine Sp.congr (Sp.seq (β := TxnEnd) (π := (·.fID)) (ok2 := fun x : TxnEnd => fits x.fProducer 8 = true ∧ fits x.fEpoch 2 = true ∧ chkE x.fID x.fProducer x.fEpoch = 0) Sp_text fun d =>
    Sp.congr (Sp.seq (β := TxnEnd) (π := (·.fProducer)) (ok2 := fun x : TxnEnd => fits x.fEpoch 2 = true ∧ chkE d x.fProducer x.fEpoch = 0 ∧ x.fID = d) (spI 8) fun p =>
    Sp.congr (Sp.seq (β := TxnEnd) (π := (·.fEpoch)) (ok2 := fun x : TxnEnd => chkE d p x.fEpoch = 0 ∧ x.fID = d ∧ x.fProducer = p) (spI 2) fun e =>
    Sp.congr (Sp.seq (β := TxnEnd) (π := (·.fCommit)) (ok2 := fun x : TxnEnd => chkE d p e = 0 ∧ x.fID = d ∧ x.fProducer = p ∧ x.fEpoch = e) Sp_bool fun c =>
    (Sp_chk (β := TxnEnd) _ _ _).congr (ok' := fun x : TxnEnd => (chkE d p e = 0 ∧ x.fID = d ∧ x.fProducer = p ∧ x.fEpoch = e) ∧ x.fCommit = c) (fun x => ?_) (fun _ _ => rfl)) (fun x => ?_) (fun _ _ => rfl)) (fun x => ?_) (fun _ _ => rfl)) (fun x => ?_) (fun _ _ => rfl)) (fun x => ?_) (fun x _ => by simp only [encE, encTx, List.append_nil])
  · obtain ⟨a1, a2, a3, a4⟩ := x
    simp only [TxnEnd.mk.injEq]
    exact ⟨fun ⟨h, h1, h2, h3, h4⟩ => ⟨⟨h, h1, h2, h3⟩, h4⟩, fun ⟨⟨h, h1, h2, h3⟩, h4⟩ => ⟨h, h1, h2, h3, h4⟩⟩
  · exact ⟨fun ⟨_, h, h1, h2, h3⟩ => ⟨⟨by rw [h3]; exact h, h1, h2⟩, h3⟩, fun ⟨⟨h, h1, h2⟩, h3⟩ => ⟨trivial, by rw [← h3]; exact h, h1, h2, h3⟩⟩
  · exact ⟨fun ⟨h0, h, h1, h2⟩ => ⟨⟨h0, by rw [h2]; exact h, h1⟩, h2⟩, fun ⟨⟨h0, h, h1⟩, h2⟩ => ⟨h0, by rw [← h2]; exact h, h1, h2⟩⟩
  · exact ⟨fun ⟨h0, h, h1, h2⟩ => ⟨⟨h0, h, by rw [h2]; exact h1⟩, h2⟩, fun ⟨⟨h0, h, h1⟩, h2⟩ => ⟨h0, h, by rw [← h2]; exact h1, h2⟩⟩
  · exact Iff.rfl
theorem Sp_add : Sp pAddR encA (fun x => okTx x.fID ∧ fits x.fProducer 8 = true ∧ fits x.fEpoch 2 = true ∧ okTs x.fTopics ∧ chkA x.fID x.fProducer x.fEpoch x.fTopics = 0) := by
  refine Sp.congr (Sp.seq (β := TxnAdd) (π := (·.fID)) (ok2 := fun x : TxnAdd => fits x.fProducer 8 = true ∧ fits x.fEpoch 2 = true ∧ okTs x.fTopics ∧ chkA x.fID x.fProducer x.fEpoch x.fTopics = 0) Sp_text fun d =>
    Sp.congr (Sp.seq (β := TxnAdd) (π := (·.fProducer)) (ok2 := fun x : TxnAdd => fits x.fEpoch 2 = true ∧ okTs x.fTopics ∧ chkA d x.fProducer x.fEpoch x.fTopics = 0 ∧ x.fID = d) (spI 8) fun p =>
    Sp.congr (Sp.seq (β := TxnAdd) (π := (·.fEpoch)) (ok2 := fun x : TxnAdd => okTs x.fTopics ∧ chkA d p x.fEpoch x.fTopics = 0 ∧ x.fID = d ∧ x.fProducer = p) (spI 2) fun e =>
    Sp.congr (Sp.seq (β := TxnAdd) (π := (·.fTopics)) (ok2 := fun x : TxnAdd => chkA d p e x.fTopics = 0 ∧ x.fID = d ∧ x.fProducer = p ∧ x.fEpoch = e) Sp_topics fun l =>
    (Sp_chk (β := TxnAdd) _ _ _).congr (ok' := fun x : TxnAdd => (chkA d p e x.fTopics = 0 ∧ x.fID = d ∧ x.fProducer = p ∧ x.fEpoch = e) ∧ x.fTopics = l) (fun x => ?_) (fun _ _ => rfl)) (fun x => ?_) (fun _ _ => rfl)) (fun x => ?_) (fun _ _ => rfl)) (fun x => ?_) (fun _ _ => rfl)) (fun x => ?_) (fun x _ => by simp only [encA, encTx, encTs, List.append_nil])
  · obtain ⟨a1, a2, a3, a4⟩ := x
    simp only [TxnAdd.mk.injEq]
    exact ⟨fun ⟨h, h1, h2, h3, h4⟩ => ⟨⟨by rw [h4]; exact h, h1, h2, h3⟩, h4⟩, fun ⟨⟨h, h1, h2, h3⟩, h4⟩ => ⟨by rw [← h4]; exact h, h1, h2, h3, h4⟩⟩
  · exact ⟨fun ⟨h0, h, h1, h2, h3⟩ => ⟨⟨h0, by rw [h3]; exact h, h1, h2⟩, h3⟩, fun ⟨⟨h0, h, h1, h2⟩, h3⟩ => ⟨h0, by rw [← h3]; exact h, h1, h2, h3⟩⟩
  · exact ⟨fun ⟨h0, hk, h, h1, h2⟩ => ⟨⟨h0, hk, by rw [h2]; exact h, h1⟩, h2⟩, fun ⟨⟨h0, hk, h, h1⟩, h2⟩ => ⟨h0, hk, by rw [← h2]; exact h, h1, h2⟩⟩
  · exact ⟨fun ⟨h0, h, hk, h1, h2⟩ => ⟨⟨h0, h, hk, by rw [h2]; exact h1⟩, h2⟩, fun ⟨⟨h0, h, hk, h1⟩, h2⟩ => ⟨h0, h, hk, by rw [← h2]; exact h1, h2⟩⟩
  · exact Iff.rfl
theorem Sp_beg1 (v : Int) : Sp (pBeg1 v) encB1 (fun x => okFx x.fID ∧ fits x.fTimeout 4 = true ∧ fits x.fProducer 8 = true ∧ fits x.fEpoch 2 = true ∧ chkB x.fID x.fTimeout x.fProducer x.fEpoch v = 0) := by
  refine Sp.congr (Sp.seq (β := TxnBegin) (π := (·.fID)) (ok2 := fun x : TxnBegin => fits x.fTimeout 4 = true ∧ fits x.fProducer 8 = true ∧ fits x.fEpoch 2 = true ∧ chkB x.fID x.fTimeout x.fProducer x.fEpoch v = 0) (Sp_fixed 2 (by decide) (by decide)) fun b =>
    Sp.congr (Sp.seq (β := TxnBegin) (π := (·.fTimeout)) (ok2 := fun x : TxnBegin => fits x.fProducer 8 = true ∧ fits x.fEpoch 2 = true ∧ chkB b x.fTimeout x.fProducer x.fEpoch v = 0 ∧ x.fID = b) (spI 4) fun t =>
    Sp.congr (Sp.seq (β := TxnBegin) (π := (·.fProducer)) (ok2 := fun x : TxnBegin => fits x.fEpoch 2 = true ∧ chkB b t x.fProducer x.fEpoch v = 0 ∧ x.fID = b ∧ x.fTimeout = t) (spI 8) fun p =>
    Sp.congr (Sp.seq (β := TxnBegin) (π := (·.fEpoch)) (ok2 := fun x : TxnBegin => chkB b t p x.fEpoch v = 0 ∧ x.fID = b ∧ x.fTimeout = t ∧ x.fProducer = p) (spI 2) fun e =>
    (Sp_chk (β := TxnBegin) _ _ _).congr (ok' := fun x : TxnBegin => (chkB b t p x.fEpoch v = 0 ∧ x.fID = b ∧ x.fTimeout = t ∧ x.fProducer = p) ∧ x.fEpoch = e) (fun x => ?_) (fun _ _ => rfl)) (fun x => ?_) (fun _ _ => rfl)) (fun x => ?_) (fun _ _ => rfl)) (fun x => ?_) (fun _ _ => rfl)) (fun x => ?_) (fun x _ => by simp only [encB1, encFx, List.append_nil])
  · obtain ⟨a1, a2, a3, a4⟩ := x
    simp only [TxnBegin.mk.injEq]
    exact ⟨fun ⟨h, h1, h2, h3, h4⟩ => ⟨⟨by rw [h4]; exact h, h1, h2, h3⟩, h4⟩, fun ⟨⟨h, h1, h2, h3⟩, h4⟩ => ⟨by rw [← h4]; exact h, h1, h2, h3, h4⟩⟩
  · exact ⟨fun ⟨h0, h, h1, h2, h3⟩ => ⟨⟨h0, by rw [h3]; exact h, h1, h2⟩, h3⟩, fun ⟨⟨h0, h, h1, h2⟩, h3⟩ => ⟨h0, by rw [← h3]; exact h, h1, h2, h3⟩⟩
  · exact ⟨fun ⟨h0, hk, h, h1, h2⟩ => ⟨⟨h0, hk, by rw [h2]; exact h, h1⟩, h2⟩, fun ⟨⟨h0, hk, h, h1⟩, h2⟩ => ⟨h0, hk, by rw [← h2]; exact h, h1, h2⟩⟩
  · exact ⟨fun ⟨h0, h, hk, h1, h2⟩ => ⟨⟨h0, h, hk, by rw [h2]; exact h1⟩, h2⟩, fun ⟨⟨h0, h, hk, h1⟩, h2⟩ => ⟨h0, h, hk, by rw [← h2]; exact h1, h2⟩⟩
  · exact Iff.rfl
theorem Sp_beg0 (v : Int) : Sp (pBeg0 v) encB0 (fun x => okFx x.fID ∧ fits x.fTimeout 4 = true ∧ chkB x.fID x.fTimeout x.fProducer x.fEpoch v = 0 ∧ x.fProducer = -1 ∧ x.fEpoch = -1) := by
  refine Sp.congr (Sp.seq (β := TxnBegin) (π := (·.fID)) (ok2 := fun x : TxnBegin => fits x.fTimeout 4 = true ∧ chkB x.fID x.fTimeout (-1) (-1) v = 0 ∧ x.fProducer = -1 ∧ x.fEpoch = -1) (Sp_fixed 2 (by decide) (by decide)) fun b =>
    Sp.congr (Sp.seq (β := TxnBegin) (π := (·.fTimeout)) (ok2 := fun x : TxnBegin => chkB b x.fTimeout (-1) (-1) v = 0 ∧ x.fID = b ∧ x.fProducer = -1 ∧ x.fEpoch = -1) (spI 4) fun t =>
    (Sp_chk (β := TxnBegin) _ _ _).congr (ok' := fun x : TxnBegin => (chkB b x.fTimeout (-1) (-1) v = 0 ∧ x.fID = b ∧ x.fProducer = -1 ∧ x.fEpoch = -1) ∧ x.fTimeout = t) (fun x => ?_) (fun _ _ => rfl)) (fun x => ?_) (fun _ _ => rfl)) (fun x => ?_) (fun x _ => by simp only [encB0, encFx, List.append_nil])
  · obtain ⟨a1, a2, a3, a4⟩ := x
    simp only [TxnBegin.mk.injEq]
    exact ⟨fun ⟨h, h1, h2, h3, h4⟩ => ⟨⟨by rw [h2]; exact h, h1, h3, h4⟩, h2⟩, fun ⟨⟨h, h1, h3, h4⟩, h2⟩ => ⟨by rw [← h2]; exact h, h1, h2, h3, h4⟩⟩
  · exact ⟨fun ⟨h0, h, h1, h2, h3⟩ => ⟨⟨h0, by rw [h1]; exact h, h2, h3⟩, h1⟩, fun ⟨⟨h0, h, h2, h3⟩, h1⟩ => ⟨h0, by rw [← h1]; exact h, h1, h2, h3⟩⟩
  · exact ⟨fun ⟨h0, h, h1, h2, h3⟩ => ⟨h0, h, by rw [h2, h3]; exact h1, h2, h3⟩, fun ⟨h0, h, h1, h2, h3⟩ => ⟨h0, h, by rw [h2, h3] at h1; exact h1, h2, h3⟩⟩
end Go.Proofs.Ytagbblaegdedpaa.Sl
namespace Go.Proofs.Ytagbblaegdedpaa.Sl
open Go.RowKit
set_option linter.unusedVariables false
set_option linter.unusedSimpArgs false
set_option maxRecDepth 100000
def ft_cursitorref18 : FTab := [(26, 0, 0), (26, 1, 1), (76, 0, 0), (76, 1, 2), (76, 2, 3), (76, 3, 4), (76, 4, 5), (76, 5, 6), (147, 0, 0), (147, 1, 2), (147, 2, 3)]
theorem ft_cursitorref18_ok : (ft_cursitorref18).OK Try.prog := ⟨FOK.mk Try.runUnderlying26 rfl Try.sizeOf4 rfl, FOK.mk Try.runUnderlying26 rfl Try.sizeOf9 rfl, FOK.mk Try.runUnderlying76 rfl Try.sizeOf26 rfl, FOK.mk Try.runUnderlying76 rfl Try.sizeOf3 rfl, FOK.mk Try.runUnderlying76 rfl Try.sizeOf3 rfl, FOK.mk Try.runUnderlying76 rfl Try.sizeOf3 rfl, FOK.mk Try.runUnderlying76 rfl Try.sizeOf68 rfl, FOK.mk Try.runUnderlying76 rfl Try.sizeOf4 rfl, FOK.mk Try.runUnderlying147 rfl Try.sizeOf26 rfl, FOK.mk Try.runUnderlying147 rfl Try.sizeOf3 rfl, FOK.mk Try.runUnderlying147 rfl Try.sizeOf3 rfl, trivial⟩
theorem mix_cursitorref18 : Try.prog.follows .mixedOrders = true := by kernel_rfl
theorem flat_cursitorref18_26 : Flat Try.prog 2 26 [.bool, .string] true := (Flat.struct Try.isAgg26 Try.sizeOf26 rfl Try.underlying26 Try.stoodInHeld26 ⟨by decide, rfl, [.bool], [.string], false, rfl, (Flat.one_ Try.isAgg4 Try.sizeOf4 Try.underlying4), ⟨by decide, rfl, [.string], [], false, rfl, (Flat.one_ Try.isAgg9 Try.sizeOf9 Try.underlying9), rfl⟩⟩)
theorem bok_cursitorref18_76 : BOK Try.prog 76 #[.bool false, .string ⟨#[]⟩, .int .i64 0, .int .i64 0, .int .i64 0, .slice none 0 0, .bool false] [(0, 2), (2, 1), (3, 1), (4, 1), (5, 1), (6, 1)] := BOK.mk Try.zeroValue76 Try.runUnderlying76 (by intro w; simp)
def f_r18_named (a0 : Bl) : Option (Bool) := (if a0.null = true then some false else (if (a0.data.length : Int) ≥ 1 then (if (a0.data.length : Int) ≤ 32767 then some true else some false) else some false)).bind fun y4 => some y4
set_option maxRecDepth 100000 in
set_option maxHeartbeats 4000000 in
theorem f_r18_named_spec (a0 : Bl) (r : Bool) (h : f_r18_named a0 = some r) : SpecX Try.prog 125 #[.agg #[.bool a0.null, .string (bsOf a0.data)]] .triv (EmpR) (fun v A' N => v = .bool r ∧ A' = EmpR ∧ N = []) := by
  refine enterA Try.func125 rfl Try.ntmps125 rfl ?_
  intro F w hX
  unfold f_r18_named at h
  refine T.seq (T.region rfl ?_)
  refine TL.box rfl .u rfl rfl (fun b1 => ?_)
  refine TL.run ft_cursitorref18_ok [1] rfl rfl ?_
  refine TL.nil (X.seq (T.seq ?_))
  obtain ⟨y4, h, hk5⟩ := Option.bind_eq_some_iff.1 h
  refine T.jq (fun e Rs => e = [(2, .bool y4)] ∧ Rs = [BlkR b1 26 #[.bool a0.null, .string (bsOf a0.data)], EmpR]) ?_ ?_
  · clear hk5
    refine T.region rfl ?_
    refine TL.run ft_cursitorref18_ok [0] rfl rfl ?_
    refine TL.q rfl .u (Ex.b1 0 rfl Try.isAgg4 rfl rfl) rfl ?_
    by_cases c6 : a0.null = true
    · replace h := ifT c6 h
      refine TL.run ft_cursitorref18_ok [2, 3] rfl rfl ?_
      refine TL.no rfl (.gn rfl rfl (bn_f c6)) rfl ?_
      refine TL.no rfl (.gn rfl rfl (bn_f c6)) rfl ?_
      refine TL.no rfl (.gn rfl rfl (bn_f c6)) rfl ?_
      refine TL.no rfl (.gn rfl rfl (bn_f c6)) rfl ?_
      refine TL.q rfl .u (Ex.pn rfl (bn_f c6) rfl) rfl ?_
      refine TL.run ft_cursitorref18_ok [9] rfl rfl ?_
      refine TL.no rfl (.gn rfl rfl rfl) rfl ?_
      refine TL.no rfl (.gn rfl rfl rfl) rfl ?_
      refine TL.no rfl (.gn rfl rfl rfl) rfl ?_
      refine TL.no rfl (.gn rfl rfl rfl) rfl ?_
      refine TL.q rfl .u (Ex.pn rfl rfl rfl) rfl ?_
      refine TL.run ft_cursitorref18_ok [15] rfl rfl ?_
      cases h
      exact TL.nil (X.jq [0, 0] ⟨rfl, rfl⟩ (by rfl) (by rfl))
    · replace h := ifF c6 h
      replace c6 := eq_false_of_ne_true c6
      refine TL.run ft_cursitorref18_ok [2, 3] rfl rfl ?_
      refine TL.q rfl (.g rfl rfl (bn_t c6)) (Ex.ft ft_cursitorref18_ok rfl) rfl ?_
      refine TL.q rfl (.g rfl rfl (bn_t c6)) (Ex.b1 0 rfl Try.isAgg9 rfl rfl) rfl ?_
      refine TL.q rfl (.g rfl rfl (bn_t c6)) (Ex.lenB rfl Try.runUnderlying9) rfl ?_
      refine TL.q rfl (.g rfl rfl (bn_t c6)) (Ex.ft ft_cursitorref18_ok rfl) rfl ?_
      refine TL.q rfl .u (Ex.py rfl (bn_t c6) rfl) rfl ?_
      by_cases c7 : (a0.data.length : Int) ≥ 1
      · replace h := ifT c7 h
        refine TL.run ft_cursitorref18_ok [9] rfl rfl ?_
        refine TL.q rfl (.g rfl rfl (decide_eq_true c7)) (Ex.ft ft_cursitorref18_ok rfl) rfl ?_
        refine TL.q rfl (.g rfl rfl (decide_eq_true c7)) (Ex.b1 0 rfl Try.isAgg9 rfl rfl) rfl ?_
        refine TL.q rfl (.g rfl rfl (decide_eq_true c7)) (Ex.lenB rfl Try.runUnderlying9) rfl ?_
        refine TL.q rfl (.g rfl rfl (decide_eq_true c7)) (Ex.ft ft_cursitorref18_ok rfl) rfl ?_
        refine TL.q rfl .u (Ex.py rfl (decide_eq_true c7) rfl) rfl ?_
        refine TL.run ft_cursitorref18_ok [15] rfl rfl ?_
        by_cases c8 : (a0.data.length : Int) ≤ 32767
        · replace h := ifT c8 h
          cases h
          exact TL.nil (X.as (d := 2) (v' := .bool true) rfl (congrArg Value.bool (decide_eq_true c8)) (X.jq [0, 0] ⟨rfl, rfl⟩ (by rfl) (by rfl)))
        · replace h := ifF c8 h
          cases h
          exact TL.nil (X.as (d := 2) (v' := .bool false) rfl (congrArg Value.bool (decide_eq_false c8)) (X.jq [0, 0] ⟨rfl, rfl⟩ (by rfl) (by rfl)))
      · replace h := ifF c7 h
        refine TL.run ft_cursitorref18_ok [9] rfl rfl ?_
        refine TL.no rfl (.gn rfl rfl (decide_eq_false c7)) rfl ?_
        refine TL.no rfl (.gn rfl rfl (decide_eq_false c7)) rfl ?_
        refine TL.no rfl (.gn rfl rfl (decide_eq_false c7)) rfl ?_
        refine TL.no rfl (.gn rfl rfl (decide_eq_false c7)) rfl ?_
        refine TL.q rfl .u (Ex.pn rfl (decide_eq_false c7) rfl) rfl ?_
        refine TL.run ft_cursitorref18_ok [15] rfl rfl ?_
        cases h
        exact TL.nil (X.jq [0, 0] ⟨rfl, rfl⟩ (by rfl) (by rfl))
  · rintro _ _ ⟨rfl, rfl⟩
    clear h
    have h := hk5
    clear hk5
    try dsimp only at h
    obtain rfl := Option.some.inj h
    exact X.seq (T.ret (X.done1 [1] Try.results125 (RV.tm rfl) ⟨rfl, rfl, rfl⟩ (by rfl) (.inl rfl)))
def f_r18_who (a0 : R18Request) : Option (Bool) := (if a0.fProducer ≥ 0 then (if a0.fEpoch ≥ 0 then (if a0.fEpoch ≤ 32767 then some true else some false) else some false) else some false).bind fun y6 => some y6
set_option maxRecDepth 100000 in
set_option maxHeartbeats 4000000 in
theorem f_r18_who_spec (a0 : R18Request) (A1 : Option Addr) (c2 : Nat) (r : Bool) (h : f_r18_who a0 = some r) : SpecX Try.prog 126 #[.agg #[.bool a0.fID.null, .string (bsOf a0.fID.data), .int .i64 a0.fTimeout, .int .i64 a0.fProducer, .int .i64 a0.fEpoch, .slice A1 a0.fTopics.length c2, .bool a0.fCommit]] (RX.of (sliceRd 2 Top_rd) [.slice A1 a0.fTopics.length c2] a0.fTopics) (EmpR) (fun v A' N => v = .bool r ∧ A' = EmpR ∧ N = []) := by
  refine enterA Try.func126 rfl Try.ntmps126 rfl ?_
  intro F w hX
  unfold f_r18_who at h
  refine T.seq (T.region rfl ?_)
  refine TL.box rfl .u rfl rfl (fun b3 => ?_)
  refine TL.run ft_cursitorref18_ok [1] rfl rfl ?_
  refine TL.nil (X.seq (T.seq ?_))
  obtain ⟨y6, h, hk7⟩ := Option.bind_eq_some_iff.1 h
  refine T.jq (fun e Rs => e = [(2, .bool y6)] ∧ Rs = [BlkR b3 76 #[.bool a0.fID.null, .string (bsOf a0.fID.data), .int .i64 a0.fTimeout, .int .i64 a0.fProducer, .int .i64 a0.fEpoch, .slice A1 a0.fTopics.length c2, .bool a0.fCommit], EmpR]) ?_ ?_
  · clear hk7
    refine T.region rfl ?_
    refine TL.run ft_cursitorref18_ok [0] rfl rfl ?_
    refine TL.q rfl .u (Ex.b1 0 rfl Try.isAgg3 rfl rfl) rfl ?_
    by_cases c8 : a0.fProducer ≥ 0
    · replace h := ifT c8 h
      refine TL.run ft_cursitorref18_ok [2, 3] rfl rfl ?_
      refine TL.q rfl (.g rfl rfl (decide_eq_true c8)) (Ex.ft ft_cursitorref18_ok rfl) rfl ?_
      refine TL.q rfl (.g rfl rfl (decide_eq_true c8)) (Ex.b1 0 rfl Try.isAgg3 rfl rfl) rfl ?_
      refine TL.q rfl (.g rfl rfl (decide_eq_true c8)) (Ex.ft ft_cursitorref18_ok rfl) rfl ?_
      refine TL.q rfl .u (Ex.py rfl (decide_eq_true c8) rfl) rfl ?_
      by_cases c9 : a0.fEpoch ≥ 0
      · replace h := ifT c9 h
        refine TL.run ft_cursitorref18_ok [8] rfl rfl ?_
        refine TL.q rfl (.g rfl rfl (decide_eq_true c9)) (Ex.ft ft_cursitorref18_ok rfl) rfl ?_
        refine TL.q rfl (.g rfl rfl (decide_eq_true c9)) (Ex.b1 0 rfl Try.isAgg3 rfl rfl) rfl ?_
        refine TL.q rfl (.g rfl rfl (decide_eq_true c9)) (Ex.ft ft_cursitorref18_ok rfl) rfl ?_
        refine TL.q rfl .u (Ex.py rfl (decide_eq_true c9) rfl) rfl ?_
        refine TL.run ft_cursitorref18_ok [13] rfl rfl ?_
        by_cases c10 : a0.fEpoch ≤ 32767
        · replace h := ifT c10 h
          cases h
          exact TL.nil (X.as (d := 2) (v' := .bool true) rfl (congrArg Value.bool (decide_eq_true c10)) (X.jq [0, 0] ⟨rfl, rfl⟩ (by rfl) (by rfl)))
        · replace h := ifF c10 h
          cases h
          exact TL.nil (X.as (d := 2) (v' := .bool false) rfl (congrArg Value.bool (decide_eq_false c10)) (X.jq [0, 0] ⟨rfl, rfl⟩ (by rfl) (by rfl)))
      · replace h := ifF c9 h
        refine TL.run ft_cursitorref18_ok [8] rfl rfl ?_
        refine TL.no rfl (.gn rfl rfl (decide_eq_false c9)) rfl ?_
        refine TL.no rfl (.gn rfl rfl (decide_eq_false c9)) rfl ?_
        refine TL.no rfl (.gn rfl rfl (decide_eq_false c9)) rfl ?_
        refine TL.q rfl .u (Ex.pn rfl (decide_eq_false c9) rfl) rfl ?_
        refine TL.run ft_cursitorref18_ok [13] rfl rfl ?_
        cases h
        exact TL.nil (X.jq [0, 0] ⟨rfl, rfl⟩ (by rfl) (by rfl))
    · replace h := ifF c8 h
      refine TL.run ft_cursitorref18_ok [2, 3] rfl rfl ?_
      refine TL.no rfl (.gn rfl rfl (decide_eq_false c8)) rfl ?_
      refine TL.no rfl (.gn rfl rfl (decide_eq_false c8)) rfl ?_
      refine TL.no rfl (.gn rfl rfl (decide_eq_false c8)) rfl ?_
      refine TL.q rfl .u (Ex.pn rfl (decide_eq_false c8) rfl) rfl ?_
      refine TL.run ft_cursitorref18_ok [8] rfl rfl ?_
      refine TL.no rfl (.gn rfl rfl rfl) rfl ?_
      refine TL.no rfl (.gn rfl rfl rfl) rfl ?_
      refine TL.no rfl (.gn rfl rfl rfl) rfl ?_
      refine TL.q rfl .u (Ex.pn rfl rfl rfl) rfl ?_
      refine TL.run ft_cursitorref18_ok [13] rfl rfl ?_
      cases h
      exact TL.nil (X.jq [0, 0] ⟨rfl, rfl⟩ (by rfl) (by rfl))
  · rintro _ _ ⟨rfl, rfl⟩
    clear h
    have h := hk7
    clear hk7
    try dsimp only at h
    obtain rfl := Option.some.inj h
    exact X.seq (T.ret (X.done1 [1] Try.results126 (RV.tm rfl) ⟨rfl, rfl, rfl⟩ (by rfl) (.inl rfl)))
def f_r18_Check (a0 : Int) (a1 : Int) (a2 : R18Request) : Option (Int) := if a0 = 22 then ((if a2.fID.null = true then (if a2.fID.data = [] then some false else some true) else ((f_r18_named a2.fID).bind fun x13 => if x13 = true then some false else some true)).bind fun y9 => if y9 = true then some 4 else ((if a2.fTimeout < 0 then some true else (if a2.fTimeout > 2147483647 then some true else some false)).bind fun y18 => if y18 = true then some 11 else ((if a2.fProducer = (-1) then (if a2.fEpoch = (-1) then some true else (if a1 = 1 then ((f_r18_who a2).bind fun x36 => some x36) else some false)) else (if a1 = 1 then ((f_r18_who a2).bind fun x39 => some x39) else some false)).bind fun y31 => if y31 = true then some 0 else some 11))) else ((f_r18_named a2.fID).bind fun x42 => if x42 = true then ((f_r18_who a2).bind fun x45 => if x45 = true then ((if a0 = 24 then (if (a2.fTopics.length : Int) = 0 then some true else some false) else some false).bind fun y49 => if y49 = true then some 10 else ((if a0 = 24 then ((f_r14_Rise a2.fTopics).bind fun x60 => if x60 = true then some false else some true) else some false).bind fun y57 => if y57 = true then some 13 else some 0)) else some 11) else some 4)
set_option maxRecDepth 100000 in
set_option maxHeartbeats 4000000 in
theorem f_r18_Check_spec (a0 : Int) (a1 : Int) (a2 : R18Request) (A1 : Option Addr) (c2 : Nat) (r : Int) (h : f_r18_Check a0 a1 a2 = some r) : SpecX Try.prog 52 #[.int .i64 a0, .int .i64 a1, .agg #[.bool a2.fID.null, .string (bsOf a2.fID.data), .int .i64 a2.fTimeout, .int .i64 a2.fProducer, .int .i64 a2.fEpoch, .slice A1 a2.fTopics.length c2, .bool a2.fCommit]] (RX.of (sliceRd 2 Top_rd) [.slice A1 a2.fTopics.length c2] a2.fTopics) (EmpR) (fun v A' N => v = .int .i64 r ∧ A' = EmpR ∧ N = []) := by
  refine enterA Try.func52 rfl Try.ntmps52 rfl ?_
  intro F w hX
  unfold f_r18_Check at h
  refine T.seq (T.region rfl ?_)
  refine TL.box rfl .u rfl rfl (fun b3 => ?_)
  refine TL.run ft_cursitorref18_ok [1] rfl rfl ?_
  refine TL.nil (X.seq (T.seq (T.seq (T.region rfl ?_))))
  refine TL.run ft_cursitorref18_ok [0, 1] rfl rfl ?_
  by_cases c4 : a0 = 22
  · replace h := ifT c4 h
    refine TL.nil (X.seq ?_)
    refine T.no rfl (bn_f (decide_eq_true c4)) ?_
    refine T.skip (X.seq (T.seq (T.seq ?_)))
    obtain ⟨y9, h, hk10⟩ := Option.bind_eq_some_iff.1 h
    refine T.jq (fun e Rs => e = [(1, .int .i64 a1), (5, .pointer (some ⟨b3, 0, none⟩)), (6, .int .i64 0), (52, .bool y9)] ∧ Rs = [BlkR b3 76 #[.bool a2.fID.null, .string (bsOf a2.fID.data), .int .i64 a2.fTimeout, .int .i64 a2.fProducer, .int .i64 a2.fEpoch, .slice A1 a2.fTopics.length c2, .bool a2.fCommit], EmpR]) ?_ ?_
    · clear hk10
      refine T.region rfl ?_
      refine TL.run ft_cursitorref18_ok [0, 1] rfl rfl ?_
      refine TL.q rfl .u (Ex.b1 0 rfl Try.isAgg4 rfl rfl) rfl ?_
      by_cases c11 : a2.fID.null = true
      · replace h := ifT c11 h
        refine TL.run ft_cursitorref18_ok [3] rfl rfl ?_
        refine TL.q rfl (.g rfl rfl c11) (Ex.ft ft_cursitorref18_ok rfl) rfl ?_
        refine TL.q rfl (.g rfl rfl c11) (Ex.ft ft_cursitorref18_ok rfl) rfl ?_
        refine TL.q rfl (.g rfl rfl c11) (Ex.b1 0 rfl Try.isAgg9 rfl rfl) rfl ?_
        refine TL.q rfl (.g rfl rfl c11) (Ex.sNe rfl (m := []) rfl) rfl ?_
        refine TL.q rfl .u (Ex.py rfl c11 rfl) rfl ?_
        by_cases c12 : a2.fID.data = []
        · replace h := ifT c12 h
          refine TL.run ft_cursitorref18_ok [9] rfl rfl ?_
          refine TL.q rfl (.g rfl rfl (bn_f (decide_eq_true c12))) (Ex.ft ft_cursitorref18_ok rfl) rfl ?_
          refine TL.q rfl (.g rfl rfl (bn_f (decide_eq_true c12))) (Ex.ft ft_cursitorref18_ok rfl) rfl ?_
          refine TL.q rfl (.g rfl rfl (bn_f (decide_eq_true c12))) (Ex.b1 0 rfl Try.isAgg4 rfl rfl) rfl ?_
          refine TL.q rfl (.g rfl rfl (bn_f (decide_eq_true c12))) (Ex.ft ft_cursitorref18_ok rfl) rfl ?_
          refine TL.q rfl (.g rfl rfl (bn_f (decide_eq_true c12))) (Ex.ft ft_cursitorref18_ok rfl) rfl ?_
          refine TL.no rfl (.gn rfl rfl (bn_f c11)) rfl ?_
          refine TL.no rfl (.gn rfl rfl (bn_f c11)) rfl ?_
          refine TL.no rfl (.gn rfl rfl (bn_f c11)) rfl ?_
          refine TL.no rfl (.gn rfl rfl (bn_f c11)) rfl ?_
          refine TL.q rfl (.g rfl rfl (bn_f (decide_eq_true c12))) (Ex.pn rfl (bn_f c11) rfl) rfl ?_
          refine TL.q rfl .u (Ex.pn rfl (bn_f (decide_eq_true c12)) rfl) rfl ?_
          cases h
          exact TL.nil (X.jq [0, 0] ⟨rfl, rfl⟩ (by rfl) (by rfl))
        · replace h := ifF c12 h
          refine TL.run ft_cursitorref18_ok [9] rfl rfl ?_
          refine TL.no rfl (.gn rfl rfl (bn_t (decide_eq_false c12))) rfl ?_
          refine TL.no rfl (.gn rfl rfl (bn_t (decide_eq_false c12))) rfl ?_
          refine TL.no rfl (.gn rfl rfl (bn_t (decide_eq_false c12))) rfl ?_
          refine TL.no rfl (.gn rfl rfl (bn_t (decide_eq_false c12))) rfl ?_
          refine TL.no rfl (.gn rfl rfl (bn_t (decide_eq_false c12))) rfl ?_
          refine TL.no rfl (.gu rfl rfl) rfl ?_
          refine TL.no rfl (.gu rfl rfl) rfl ?_
          refine TL.no rfl (.gu rfl rfl) rfl ?_
          refine TL.no rfl (.gu rfl rfl) rfl ?_
          refine TL.no rfl (.gn rfl rfl (bn_t (decide_eq_false c12))) rfl ?_
          refine TL.q rfl .u (Ex.py rfl (bn_t (decide_eq_false c12)) rfl) rfl ?_
          cases h
          exact TL.nil (X.jq [0, 0] ⟨rfl, rfl⟩ (by rfl) (by rfl))
      · replace h := ifF c11 h
        replace c11 := eq_false_of_ne_true c11
        refine TL.run ft_cursitorref18_ok [3] rfl rfl ?_
        refine TL.no rfl (.gn rfl rfl c11) rfl ?_
        refine TL.no rfl (.gn rfl rfl c11) rfl ?_
        refine TL.no rfl (.gn rfl rfl c11) rfl ?_
        refine TL.no rfl (.gn rfl rfl c11) rfl ?_
        refine TL.q rfl .u (Ex.pn rfl c11 rfl) rfl ?_
        refine TL.run ft_cursitorref18_ok [9] rfl rfl ?_
        refine TL.q rfl (.g rfl rfl rfl) (Ex.ft ft_cursitorref18_ok rfl) rfl ?_
        refine TL.q rfl (.g rfl rfl rfl) (Ex.ft ft_cursitorref18_ok rfl) rfl ?_
        refine TL.q rfl (.g rfl rfl rfl) (Ex.b1 0 rfl Try.isAgg4 rfl rfl) rfl ?_
        refine TL.q rfl (.g rfl rfl rfl) (Ex.ft ft_cursitorref18_ok rfl) rfl ?_
        refine TL.q rfl (.g rfl rfl rfl) (Ex.ft ft_cursitorref18_ok rfl) rfl ?_
        refine TL.q rfl (.g rfl rfl (bn_t c11)) (Ex.ft ft_cursitorref18_ok rfl) rfl ?_
        refine TL.q rfl (.g rfl rfl (bn_t c11)) (Ex.bS (us := [.bool a2.fID.null, .string (bsOf a2.fID.data)]) 0 rfl Try.isAgg26 Try.sizeOf26 rfl rfl rfl) rfl ?_
        obtain ⟨x13, hx14, h⟩ := Option.bind_eq_some_iff.1 h
        refine TL.ce rfl (.g rfl rfl (bn_t c11)) (.fn Try.call125 rfl) (f_r18_named_spec a2.fID _ hx14) (fun _ hs => (RX.reads_triv _ _)) rfl ?_
        refine TL.q rfl (.g rfl rfl (bn_t c11)) (Ex.ft ft_cursitorref18_ok rfl) rfl ?_
        refine TL.q rfl (.g rfl rfl rfl) (Ex.py rfl (bn_t c11) rfl) rfl ?_
        refine TL.q rfl .u (Ex.pn rfl rfl rfl) rfl ?_
        by_cases c15 : x13 = true
        · replace h := ifT c15 h
          cases h
          exact TL.nil (X.as (d := 52) (v' := .bool false) rfl (congrArg Value.bool (bn_f c15)) (X.jq [0, 0] ⟨rfl, rfl⟩ (by rfl) (by rfl)))
        · replace h := ifF c15 h
          replace c15 := eq_false_of_ne_true c15
          cases h
          exact TL.nil (X.as (d := 52) (v' := .bool true) rfl (congrArg Value.bool (bn_t c15)) (X.jq [0, 0] ⟨rfl, rfl⟩ (by rfl) (by rfl)))
    · rintro _ _ ⟨rfl, rfl⟩
      clear h
      have h := hk10
      clear hk10
      try dsimp only at h
      by_cases c16 : y9 = true
      · replace h := ifT c16 h
        refine X.seq ?_
        refine T.yes rfl c16 ?_
        refine T.seq (T.region rfl ?_)
        refine TL.run ft_cursitorref18_ok [0] rfl rfl ?_
        obtain rfl := Option.some.inj h
        exact TL.nil (X.seq (T.ret (X.rs (X.done1 [1] Try.results52 (RV.tm rfl) ⟨rfl, rfl, rfl⟩ (by rfl) (.inl rfl)))))
      · replace h := ifF c16 h
        replace c16 := eq_false_of_ne_true c16
        refine X.seq ?_
        refine T.no rfl c16 ?_
        refine T.skip (X.seq (T.seq (T.seq ?_)))
        obtain ⟨y18, h, hk19⟩ := Option.bind_eq_some_iff.1 h
        refine T.jq (fun e Rs => e = [(1, .int .i64 a1), (5, .pointer (some ⟨b3, 0, none⟩)), (6, .int .i64 0), (60, .bool y18)] ∧ Rs = [BlkR b3 76 #[.bool a2.fID.null, .string (bsOf a2.fID.data), .int .i64 a2.fTimeout, .int .i64 a2.fProducer, .int .i64 a2.fEpoch, .slice A1 a2.fTopics.length c2, .bool a2.fCommit], EmpR]) ?_ ?_
        · clear hk19
          refine T.region rfl ?_
          refine TL.run ft_cursitorref18_ok [0] rfl rfl ?_
          refine TL.q rfl .u (Ex.b1 0 rfl Try.isAgg3 rfl rfl) rfl ?_
          by_cases c20 : a2.fTimeout < 0
          · replace h := ifT c20 h
            refine TL.run ft_cursitorref18_ok [2, 3] rfl rfl ?_
            refine TL.no rfl (.gn rfl rfl (decide_eq_true c20)) rfl ?_
            refine TL.no rfl (.gn rfl rfl (decide_eq_true c20)) rfl ?_
            refine TL.no rfl (.gn rfl rfl (decide_eq_true c20)) rfl ?_
            refine TL.q rfl .u (Ex.py rfl (decide_eq_true c20) rfl) rfl ?_
            cases h
            exact TL.nil (X.jq [0, 0] ⟨rfl, rfl⟩ (by rfl) (by rfl))
          · replace h := ifF c20 h
            refine TL.run ft_cursitorref18_ok [2, 3] rfl rfl ?_
            refine TL.q rfl (.g rfl rfl (decide_eq_false c20)) (Ex.ft ft_cursitorref18_ok rfl) rfl ?_
            refine TL.q rfl (.g rfl rfl (decide_eq_false c20)) (Ex.b1 0 rfl Try.isAgg3 rfl rfl) rfl ?_
            refine TL.q rfl (.g rfl rfl (decide_eq_false c20)) (Ex.ft ft_cursitorref18_ok rfl) rfl ?_
            refine TL.q rfl .u (Ex.pn rfl (decide_eq_false c20) rfl) rfl ?_
            by_cases c21 : a2.fTimeout > 2147483647
            · replace h := ifT c21 h
              cases h
              exact TL.nil (X.as (d := 60) (v' := .bool true) rfl (congrArg Value.bool (decide_eq_true c21)) (X.jq [0, 0] ⟨rfl, rfl⟩ (by rfl) (by rfl)))
            · replace h := ifF c21 h
              cases h
              exact TL.nil (X.as (d := 60) (v' := .bool false) rfl (congrArg Value.bool (decide_eq_false c21)) (X.jq [0, 0] ⟨rfl, rfl⟩ (by rfl) (by rfl)))
        · rintro _ _ ⟨rfl, rfl⟩
          clear h
          have h := hk19
          clear hk19
          try dsimp only at h
          by_cases c22 : y18 = true
          · replace h := ifT c22 h
            refine X.seq ?_
            refine T.yes rfl c22 ?_
            refine T.seq (T.region rfl ?_)
            refine TL.run ft_cursitorref18_ok [0] rfl rfl ?_
            obtain rfl := Option.some.inj h
            exact TL.nil (X.seq (T.ret (X.rs (X.done1 [1] Try.results52 (RV.tm rfl) ⟨rfl, rfl, rfl⟩ (by rfl) (.inl rfl)))))
          · replace h := ifF c22 h
            replace c22 := eq_false_of_ne_true c22
            refine X.seq ?_
            refine T.no rfl c22 ?_
            refine T.skip (X.seq (T.seq (T.seq ?_)))
            obtain ⟨y31, h, hk32⟩ := Option.bind_eq_some_iff.1 h
            refine T.jq (fun e Rs => e = [(6, .int .i64 0), (76, .bool y31)] ∧ Rs = [BlkR b3 76 #[.bool a2.fID.null, .string (bsOf a2.fID.data), .int .i64 a2.fTimeout, .int .i64 a2.fProducer, .int .i64 a2.fEpoch, .slice A1 a2.fTopics.length c2, .bool a2.fCommit], EmpR]) ?_ ?_
            · clear hk32
              refine T.region rfl ?_
              refine TL.run ft_cursitorref18_ok [0] rfl rfl ?_
              refine TL.q rfl .u (Ex.b1 0 rfl Try.isAgg3 rfl rfl) rfl ?_
              by_cases c33 : a2.fProducer = (-1)
              · replace h := ifT c33 h
                refine TL.run ft_cursitorref18_ok [2, 3] rfl rfl ?_
                refine TL.q rfl (.g rfl rfl (decide_eq_true c33)) (Ex.ft ft_cursitorref18_ok rfl) rfl ?_
                refine TL.q rfl (.g rfl rfl (decide_eq_true c33)) (Ex.b1 0 rfl Try.isAgg3 rfl rfl) rfl ?_
                refine TL.q rfl (.g rfl rfl (decide_eq_true c33)) (Ex.ft ft_cursitorref18_ok rfl) rfl ?_
                refine TL.q rfl .u (Ex.py rfl (decide_eq_true c33) rfl) rfl ?_
                by_cases c34 : a2.fEpoch = (-1)
                · replace h := ifT c34 h
                  refine TL.run ft_cursitorref18_ok [8] rfl rfl ?_
                  refine TL.no rfl (.gn rfl rfl (decide_eq_true c34)) rfl ?_
                  refine TL.no rfl (.gn rfl rfl (decide_eq_true c34)) rfl ?_
                  refine TL.no rfl (.gn rfl rfl (decide_eq_true c34)) rfl ?_
                  refine TL.no rfl (.gu rfl rfl) rfl ?_
                  refine TL.no rfl (.gu rfl rfl) rfl ?_
                  refine TL.no rfl (.gn rfl rfl (decide_eq_true c34)) rfl ?_
                  refine TL.q rfl .u (Ex.py rfl (decide_eq_true c34) rfl) rfl ?_
                  cases h
                  exact TL.nil (X.jq [0, 0] ⟨rfl, rfl⟩ (by rfl) (by rfl))
                · replace h := ifF c34 h
                  refine TL.run ft_cursitorref18_ok [8] rfl rfl ?_
                  refine TL.q rfl (.g rfl rfl (decide_eq_false c34)) (Ex.ft ft_cursitorref18_ok rfl) rfl ?_
                  refine TL.q rfl (.g rfl rfl (decide_eq_false c34)) (Ex.ft ft_cursitorref18_ok rfl) rfl ?_
                  refine TL.q rfl (.g rfl rfl (decide_eq_false c34)) (Ex.ft ft_cursitorref18_ok rfl) rfl ?_
                  by_cases c35 : a1 = 1
                  · replace h := ifT c35 h
                    refine TL.q rfl (.g rfl rfl (decide_eq_true c35)) (Ex.bS (us := [.bool a2.fID.null, .string (bsOf a2.fID.data), .int .i64 a2.fTimeout, .int .i64 a2.fProducer, .int .i64 a2.fEpoch, .slice A1 a2.fTopics.length c2, .bool a2.fCommit]) 0 rfl Try.isAgg76 Try.sizeOf76 rfl rfl rfl) rfl ?_
                    obtain ⟨x36, hx37, h⟩ := Option.bind_eq_some_iff.1 h
                    refine TL.ce rfl (.g rfl rfl (decide_eq_true c35)) (.fn Try.call126 rfl) (f_r18_who_spec a2 _ _ _ hx37) (fun _ hs => (SrcE.old hs hX)) rfl ?_
                    refine TL.q rfl (.g rfl rfl (decide_eq_false c34)) (Ex.py rfl (decide_eq_true c35) rfl) rfl ?_
                    refine TL.q rfl .u (Ex.pn rfl (decide_eq_false c34) rfl) rfl ?_
                    cases h
                    exact TL.nil (X.jq [0, 0] ⟨rfl, rfl⟩ (by rfl) (by rfl))
                  · replace h := ifF c35 h
                    refine TL.no rfl (.gn rfl rfl (decide_eq_false c35)) rfl ?_
                    refine TL.no rfl (.gn rfl rfl (decide_eq_false c35)) rfl ?_
                    refine TL.q rfl (.g rfl rfl (decide_eq_false c34)) (Ex.pn rfl (decide_eq_false c35) rfl) rfl ?_
                    refine TL.q rfl .u (Ex.pn rfl (decide_eq_false c34) rfl) rfl ?_
                    cases h
                    exact TL.nil (X.jq [0, 0] ⟨rfl, rfl⟩ (by rfl) (by rfl))
              · replace h := ifF c33 h
                refine TL.run ft_cursitorref18_ok [2, 3] rfl rfl ?_
                refine TL.no rfl (.gn rfl rfl (decide_eq_false c33)) rfl ?_
                refine TL.no rfl (.gn rfl rfl (decide_eq_false c33)) rfl ?_
                refine TL.no rfl (.gn rfl rfl (decide_eq_false c33)) rfl ?_
                refine TL.q rfl .u (Ex.pn rfl (decide_eq_false c33) rfl) rfl ?_
                refine TL.run ft_cursitorref18_ok [8] rfl rfl ?_
                refine TL.q rfl (.g rfl rfl rfl) (Ex.ft ft_cursitorref18_ok rfl) rfl ?_
                refine TL.q rfl (.g rfl rfl rfl) (Ex.ft ft_cursitorref18_ok rfl) rfl ?_
                refine TL.q rfl (.g rfl rfl rfl) (Ex.ft ft_cursitorref18_ok rfl) rfl ?_
                by_cases c38 : a1 = 1
                · replace h := ifT c38 h
                  refine TL.q rfl (.g rfl rfl (decide_eq_true c38)) (Ex.bS (us := [.bool a2.fID.null, .string (bsOf a2.fID.data), .int .i64 a2.fTimeout, .int .i64 a2.fProducer, .int .i64 a2.fEpoch, .slice A1 a2.fTopics.length c2, .bool a2.fCommit]) 0 rfl Try.isAgg76 Try.sizeOf76 rfl rfl rfl) rfl ?_
                  obtain ⟨x39, hx40, h⟩ := Option.bind_eq_some_iff.1 h
                  refine TL.ce rfl (.g rfl rfl (decide_eq_true c38)) (.fn Try.call126 rfl) (f_r18_who_spec a2 _ _ _ hx40) (fun _ hs => (SrcE.old hs hX)) rfl ?_
                  refine TL.q rfl (.g rfl rfl rfl) (Ex.py rfl (decide_eq_true c38) rfl) rfl ?_
                  refine TL.q rfl .u (Ex.pn rfl rfl rfl) rfl ?_
                  cases h
                  exact TL.nil (X.jq [0, 0] ⟨rfl, rfl⟩ (by rfl) (by rfl))
                · replace h := ifF c38 h
                  refine TL.no rfl (.gn rfl rfl (decide_eq_false c38)) rfl ?_
                  refine TL.no rfl (.gn rfl rfl (decide_eq_false c38)) rfl ?_
                  refine TL.q rfl (.g rfl rfl rfl) (Ex.pn rfl (decide_eq_false c38) rfl) rfl ?_
                  refine TL.q rfl .u (Ex.pn rfl rfl rfl) rfl ?_
                  cases h
                  exact TL.nil (X.jq [0, 0] ⟨rfl, rfl⟩ (by rfl) (by rfl))
            · rintro _ _ ⟨rfl, rfl⟩
              clear h
              have h := hk32
              clear hk32
              try dsimp only at h
              by_cases c41 : y31 = true
              · replace h := ifT c41 h
                refine X.seq ?_
                refine T.yes rfl c41 ?_
                refine T.seq (T.region rfl ?_)
                refine TL.run ft_cursitorref18_ok [0] rfl rfl ?_
                obtain rfl := Option.some.inj h
                exact TL.nil (X.seq (T.ret (X.rs (X.done1 [1] Try.results52 (RV.tm rfl) ⟨rfl, rfl, rfl⟩ (by rfl) (.inl rfl)))))
              · replace h := ifF c41 h
                replace c41 := eq_false_of_ne_true c41
                refine X.seq ?_
                refine T.no rfl c41 ?_
                refine T.skip (X.seq (T.seq (T.region rfl ?_)))
                refine TL.run ft_cursitorref18_ok [0] rfl rfl ?_
                obtain rfl := Option.some.inj h
                exact TL.nil (X.seq (T.ret (X.done1 [1] Try.results52 (RV.tm rfl) ⟨rfl, rfl, rfl⟩ (by rfl) (.inl rfl))))
  · replace h := ifF c4 h
    refine TL.nil (X.seq ?_)
    refine T.yes rfl (bn_t (decide_eq_false c4)) ?_
    refine T.seq (T.seq (T.region rfl ?_))
    refine TL.run ft_cursitorref18_ok [0] rfl rfl ?_
    refine TL.q rfl .u (Ex.bS (us := [.bool a2.fID.null, .string (bsOf a2.fID.data)]) 0 rfl Try.isAgg26 Try.sizeOf26 rfl rfl rfl) rfl ?_
    obtain ⟨x42, hx43, h⟩ := Option.bind_eq_some_iff.1 h
    refine TL.ce rfl .u (.fn Try.call125 rfl) (f_r18_named_spec a2.fID _ hx43) (fun _ hs => (RX.reads_triv _ _)) rfl ?_
    refine TL.run ft_cursitorref18_ok [3] rfl rfl ?_
    by_cases c44 : x42 = true
    · replace h := ifT c44 h
      refine TL.nil (X.seq ?_)
      refine T.no rfl (bn_f c44) ?_
      refine T.skip (X.seq (T.seq (T.seq (T.region rfl ?_))))
      refine TL.q rfl .u (Ex.bS (us := [.bool a2.fID.null, .string (bsOf a2.fID.data), .int .i64 a2.fTimeout, .int .i64 a2.fProducer, .int .i64 a2.fEpoch, .slice A1 a2.fTopics.length c2, .bool a2.fCommit]) 0 rfl Try.isAgg76 Try.sizeOf76 rfl rfl rfl) rfl ?_
      obtain ⟨x45, hx46, h⟩ := Option.bind_eq_some_iff.1 h
      refine TL.ce rfl .u (.fn Try.call126 rfl) (f_r18_who_spec a2 _ _ _ hx46) (fun _ hs => (SrcE.old hs hX)) rfl ?_
      refine TL.run ft_cursitorref18_ok [2] rfl rfl ?_
      by_cases c47 : x45 = true
      · replace h := ifT c47 h
        refine TL.nil (X.seq ?_)
        refine T.no rfl (bn_f c47) ?_
        refine T.skip (X.seq (T.seq (T.seq ?_)))
        obtain ⟨y49, h, hk50⟩ := Option.bind_eq_some_iff.1 h
        refine T.jq (fun e Rs => e = [(0, .int .i64 a0), (1, .int .i64 a1), (5, .pointer (some ⟨b3, 0, none⟩)), (6, .int .i64 0), (23, .bool y49)] ∧ Rs = [BlkR b3 76 #[.bool a2.fID.null, .string (bsOf a2.fID.data), .int .i64 a2.fTimeout, .int .i64 a2.fProducer, .int .i64 a2.fEpoch, .slice A1 a2.fTopics.length c2, .bool a2.fCommit], EmpR]) ?_ ?_
        · clear hk50
          refine T.region rfl ?_
          by_cases c51 : a0 = 24
          · replace h := ifT c51 h
            refine TL.run ft_cursitorref18_ok [0, 1, 2] rfl rfl ?_
            refine TL.q rfl (.g rfl rfl (decide_eq_true c51)) (Ex.ft ft_cursitorref18_ok rfl) rfl ?_
            refine TL.q rfl (.g rfl rfl (decide_eq_true c51)) (Ex.b1 0 rfl Try.isAgg68 rfl rfl) rfl ?_
            refine TL.q rfl (.g rfl rfl (decide_eq_true c51)) (Ex.lenS rfl Try.runUnderlying68) rfl ?_
            refine TL.q rfl (.g rfl rfl (decide_eq_true c51)) (Ex.ft ft_cursitorref18_ok rfl) rfl ?_
            refine TL.q rfl .u (Ex.py rfl (decide_eq_true c51) rfl) rfl ?_
            by_cases c52 : (a2.fTopics.length : Int) = 0
            · replace h := ifT c52 h
              cases h
              exact TL.nil (X.as (d := 23) (v' := .bool true) rfl (congrArg Value.bool (decide_eq_true c52)) (X.jq [0, 0] ⟨rfl, rfl⟩ (by rfl) (by rfl)))
            · replace h := ifF c52 h
              cases h
              exact TL.nil (X.as (d := 23) (v' := .bool false) rfl (congrArg Value.bool (decide_eq_false c52)) (X.jq [0, 0] ⟨rfl, rfl⟩ (by rfl) (by rfl)))
          · replace h := ifF c51 h
            refine TL.run ft_cursitorref18_ok [0, 1, 2] rfl rfl ?_
            refine TL.no rfl (.gn rfl rfl (decide_eq_false c51)) rfl ?_
            refine TL.no rfl (.gn rfl rfl (decide_eq_false c51)) rfl ?_
            refine TL.no rfl (.gn rfl rfl (decide_eq_false c51)) rfl ?_
            refine TL.no rfl (.gn rfl rfl (decide_eq_false c51)) rfl ?_
            refine TL.q rfl .u (Ex.pn rfl (decide_eq_false c51) rfl) rfl ?_
            cases h
            exact TL.nil (X.jq [0, 0] ⟨rfl, rfl⟩ (by rfl) (by rfl))
        · rintro _ _ ⟨rfl, rfl⟩
          clear h
          have h := hk50
          clear hk50
          try dsimp only at h
          by_cases c53 : y49 = true
          · replace h := ifT c53 h
            refine X.seq ?_
            refine T.yes rfl c53 ?_
            refine T.seq (T.region rfl ?_)
            refine TL.run ft_cursitorref18_ok [0] rfl rfl ?_
            obtain rfl := Option.some.inj h
            exact TL.nil (X.seq (T.ret (X.rs (X.rs (X.done1 [1] Try.results52 (RV.tm rfl) ⟨rfl, rfl, rfl⟩ (by rfl) (.inl rfl))))))
          · replace h := ifF c53 h
            replace c53 := eq_false_of_ne_true c53
            refine X.seq ?_
            refine T.no rfl c53 ?_
            refine T.skip (X.seq (T.seq (T.seq ?_)))
            obtain ⟨y57, h, hk58⟩ := Option.bind_eq_some_iff.1 h
            refine T.jq (fun e Rs => e = [(1, .int .i64 a1), (5, .pointer (some ⟨b3, 0, none⟩)), (6, .int .i64 0), (31, .bool y57)] ∧ Rs = [BlkR b3 76 #[.bool a2.fID.null, .string (bsOf a2.fID.data), .int .i64 a2.fTimeout, .int .i64 a2.fProducer, .int .i64 a2.fEpoch, .slice A1 a2.fTopics.length c2, .bool a2.fCommit], EmpR]) ?_ ?_
            · clear hk58
              refine T.region rfl ?_
              by_cases c59 : a0 = 24
              · replace h := ifT c59 h
                refine TL.run ft_cursitorref18_ok [0, 1, 2] rfl rfl ?_
                refine TL.q rfl (.g rfl rfl (decide_eq_true c59)) (Ex.ft ft_cursitorref18_ok rfl) rfl ?_
                refine TL.q rfl (.g rfl rfl (decide_eq_true c59)) (Ex.b1 0 rfl Try.isAgg68 rfl rfl) rfl ?_
                obtain ⟨x60, hx61, h⟩ := Option.bind_eq_some_iff.1 h
                refine TL.ce rfl (.g rfl rfl (decide_eq_true c59)) (.fn Try.call127 rfl) (f_r14_Rise_spec a2.fTopics _ _ _ hx61) (fun _ hs => (SrcE.old hs hX)) rfl ?_
                refine TL.q rfl (.g rfl rfl (decide_eq_true c59)) (Ex.ft ft_cursitorref18_ok rfl) rfl ?_
                refine TL.q rfl .u (Ex.py rfl (decide_eq_true c59) rfl) rfl ?_
                by_cases c62 : x60 = true
                · replace h := ifT c62 h
                  cases h
                  exact TL.nil (X.as (d := 31) (v' := .bool false) rfl (congrArg Value.bool (bn_f c62)) (X.jq [0, 0] ⟨rfl, rfl⟩ (by rfl) (by rfl)))
                · replace h := ifF c62 h
                  replace c62 := eq_false_of_ne_true c62
                  cases h
                  exact TL.nil (X.as (d := 31) (v' := .bool true) rfl (congrArg Value.bool (bn_t c62)) (X.jq [0, 0] ⟨rfl, rfl⟩ (by rfl) (by rfl)))
              · replace h := ifF c59 h
                refine TL.run ft_cursitorref18_ok [0, 1, 2] rfl rfl ?_
                refine TL.no rfl (.gn rfl rfl (decide_eq_false c59)) rfl ?_
                refine TL.no rfl (.gn rfl rfl (decide_eq_false c59)) rfl ?_
                refine TL.no rfl (.gn rfl rfl (decide_eq_false c59)) rfl ?_
                refine TL.no rfl (.gn rfl rfl (decide_eq_false c59)) rfl ?_
                refine TL.q rfl .u (Ex.pn rfl (decide_eq_false c59) rfl) rfl ?_
                cases h
                exact TL.nil (X.jq [0, 0] ⟨rfl, rfl⟩ (by rfl) (by rfl))
            · rintro _ _ ⟨rfl, rfl⟩
              clear h
              have h := hk58
              clear hk58
              try dsimp only at h
              by_cases c63 : y57 = true
              · replace h := ifT c63 h
                refine X.seq ?_
                refine T.yes rfl c63 ?_
                refine T.seq (T.region rfl ?_)
                refine TL.run ft_cursitorref18_ok [0] rfl rfl ?_
                obtain rfl := Option.some.inj h
                exact TL.nil (X.seq (T.ret (X.rs (X.rs (X.done1 [1] Try.results52 (RV.tm rfl) ⟨rfl, rfl, rfl⟩ (by rfl) (.inl rfl))))))
              · replace h := ifF c63 h
                replace c63 := eq_false_of_ne_true c63
                refine X.seq ?_
                refine T.no rfl c63 ?_
                refine T.skip (X.seq (T.seq (T.region rfl ?_)))
                refine TL.run ft_cursitorref18_ok [0] rfl rfl ?_
                obtain rfl := Option.some.inj h
                exact TL.nil (X.seq (T.ret (X.rs (X.done1 [1] Try.results52 (RV.tm rfl) ⟨rfl, rfl, rfl⟩ (by rfl) (.inl rfl)))))
      · replace h := ifF c47 h
        replace c47 := eq_false_of_ne_true c47
        refine TL.nil (X.seq ?_)
        refine T.yes rfl (bn_t c47) ?_
        refine T.seq (T.region rfl ?_)
        refine TL.run ft_cursitorref18_ok [0] rfl rfl ?_
        obtain rfl := Option.some.inj h
        exact TL.nil (X.seq (T.ret (X.rs (X.rs (X.done1 [1] Try.results52 (RV.tm rfl) ⟨rfl, rfl, rfl⟩ (by rfl) (.inl rfl))))))
    · replace h := ifF c44 h
      replace c44 := eq_false_of_ne_true c44
      refine TL.nil (X.seq ?_)
      refine T.yes rfl (bn_t c44) ?_
      refine T.seq (T.region rfl ?_)
      refine TL.run ft_cursitorref18_ok [0] rfl rfl ?_
      obtain rfl := Option.some.inj h
      exact TL.nil (X.seq (T.ret (X.rs (X.rs (X.done1 [1] Try.results52 (RV.tm rfl) ⟨rfl, rfl, rfl⟩ (by rfl) (.inl rfl))))))
def f_r18_Read (a0 : Int) (a1 : Int) (a2 : List UInt8) : Option (R18Request × Int × Int) := (gRRFixed a2 2).bind fun x3 => if x3.err = 0 then ((if x3.blob.null = true then (if a0 = 22 then some false else some true) else some false).bind fun y8 => if y8 = true then (some ((⟨(⟨false, []⟩ : Bl), 0, 0, 0, [], false⟩ : R18Request), 0, 4)) else (if a0 = 22 then (if -9223372036854775808 ≤ ((a2.length : Int) - x3.many) ∧ ((a2.length : Int) - x3.many) ≤ 9223372036854775807 then (if ((a2.length : Int) - x3.many) < 4 then (some ((⟨(⟨false, []⟩ : Bl), 0, 0, 0, [], false⟩ : R18Request), 0, 1)) else (if -9223372036854775808 ≤ (x3.many + 4) ∧ (x3.many + 4) ≤ 9223372036854775807 then (if 0 ≤ x3.many ∧ 0 ≤ (x3.many + 4) ∧ x3.many.toNat ≤ (x3.many + 4).toNat ∧ (x3.many + 4).toNat ≤ a2.length then ((gRInt ((a2.drop x3.many.toNat).take (((x3.many + 4).toNat) - x3.many.toNat))).bind fun x19 => if -9223372036854775808 ≤ (x3.many + 4) ∧ (x3.many + 4) ≤ 9223372036854775807 then (if a1 = 1 then (if -9223372036854775808 ≤ ((a2.length : Int) - (x3.many + 4)) ∧ ((a2.length : Int) - (x3.many + 4)) ≤ 9223372036854775807 then (if ((a2.length : Int) - (x3.many + 4)) < 10 then (some ((⟨(⟨false, []⟩ : Bl), 0, 0, 0, [], false⟩ : R18Request), 0, 1)) else (if -9223372036854775808 ≤ ((x3.many + 4) + 8) ∧ ((x3.many + 4) + 8) ≤ 9223372036854775807 then (if 0 ≤ (x3.many + 4) ∧ 0 ≤ ((x3.many + 4) + 8) ∧ (x3.many + 4).toNat ≤ ((x3.many + 4) + 8).toNat ∧ ((x3.many + 4) + 8).toNat ≤ a2.length then ((gRInt ((a2.drop ((x3.many + 4).toNat)).take ((((x3.many + 4) + 8).toNat) - ((x3.many + 4).toNat)))).bind fun x27 => if -9223372036854775808 ≤ ((x3.many + 4) + 8) ∧ ((x3.many + 4) + 8) ≤ 9223372036854775807 then (if -9223372036854775808 ≤ ((x3.many + 4) + 10) ∧ ((x3.many + 4) + 10) ≤ 9223372036854775807 then (if 0 ≤ ((x3.many + 4) + 8) ∧ 0 ≤ ((x3.many + 4) + 10) ∧ ((x3.many + 4) + 8).toNat ≤ ((x3.many + 4) + 10).toNat ∧ ((x3.many + 4) + 10).toNat ≤ a2.length then ((gRInt ((a2.drop (((x3.many + 4) + 8).toNat)).take ((((x3.many + 4) + 10).toNat) - (((x3.many + 4) + 8).toNat)))).bind fun x32 => if -9223372036854775808 ≤ ((x3.many + 4) + 10) ∧ ((x3.many + 4) + 10) ≤ 9223372036854775807 then ((f_r18_Check a0 a1 (⟨x3.blob, x19, x27, x32, [], false⟩ : R18Request)).bind fun x37 => if x37 = 0 then (some ((⟨x3.blob, x19, x27, x32, [], false⟩ : R18Request), ((x3.many + 4) + 10), 0)) else (some ((⟨(⟨false, []⟩ : Bl), 0, 0, 0, [], false⟩ : R18Request), 0, x37))) else none) else none) else none) else none) else none) else none)) else none) else ((f_r18_Check a0 a1 (⟨x3.blob, x19, -1, -1, [], false⟩ : R18Request)).bind fun x42 => if x42 = 0 then (some ((⟨x3.blob, x19, -1, -1, [], false⟩ : R18Request), (x3.many + 4), 0)) else (some ((⟨(⟨false, []⟩ : Bl), 0, 0, 0, [], false⟩ : R18Request), 0, x42)))) else none) else none) else none)) else none) else (if -9223372036854775808 ≤ ((a2.length : Int) - x3.many) ∧ ((a2.length : Int) - x3.many) ≤ 9223372036854775807 then (if ((a2.length : Int) - x3.many) < 10 then (some ((⟨(⟨false, []⟩ : Bl), 0, 0, 0, [], false⟩ : R18Request), 0, 1)) else (if -9223372036854775808 ≤ (x3.many + 8) ∧ (x3.many + 8) ≤ 9223372036854775807 then (if 0 ≤ x3.many ∧ 0 ≤ (x3.many + 8) ∧ x3.many.toNat ≤ (x3.many + 8).toNat ∧ (x3.many + 8).toNat ≤ a2.length then ((gRInt ((a2.drop x3.many.toNat).take (((x3.many + 8).toNat) - x3.many.toNat))).bind fun x49 => if -9223372036854775808 ≤ (x3.many + 8) ∧ (x3.many + 8) ≤ 9223372036854775807 then (if -9223372036854775808 ≤ (x3.many + 10) ∧ (x3.many + 10) ≤ 9223372036854775807 then (if 0 ≤ (x3.many + 8) ∧ 0 ≤ (x3.many + 10) ∧ (x3.many + 8).toNat ≤ (x3.many + 10).toNat ∧ (x3.many + 10).toNat ≤ a2.length then ((gRInt ((a2.drop ((x3.many + 8).toNat)).take (((x3.many + 10).toNat) - ((x3.many + 8).toNat)))).bind fun x54 => if -9223372036854775808 ≤ (x3.many + 10) ∧ (x3.many + 10) ≤ 9223372036854775807 then (if a0 = 24 then (if 0 ≤ (x3.many + 10) ∧ (x3.many + 10).toNat ≤ a2.length then ((f_r14_ReadTopics (a2.drop ((x3.many + 10).toNat))).bind fun (x59, x62, x63) => if x63 = 0 then (if -9223372036854775808 ≤ ((x3.many + 10) + x62) ∧ ((x3.many + 10) + x62) ≤ 9223372036854775807 then ((f_r18_Check a0 a1 (⟨x3.blob, 0, x49, x54, x59, false⟩ : R18Request)).bind fun x68 => if x68 = 0 then (some ((⟨x3.blob, 0, x49, x54, x59, false⟩ : R18Request), ((x3.many + 10) + x62), 0)) else (some ((⟨(⟨false, []⟩ : Bl), 0, 0, 0, [], false⟩ : R18Request), 0, x68))) else none) else (some ((⟨(⟨false, []⟩ : Bl), 0, 0, 0, [], false⟩ : R18Request), 0, x63))) else none) else (if a0 = 26 then (if -9223372036854775808 ≤ ((a2.length : Int) - (x3.many + 10)) ∧ ((a2.length : Int) - (x3.many + 10)) ≤ 9223372036854775807 then (if ((a2.length : Int) - (x3.many + 10)) < 1 then (some ((⟨(⟨false, []⟩ : Bl), 0, 0, 0, [], false⟩ : R18Request), 0, 1)) else (if 0 ≤ (x3.many + 10) then ((a2[(x3.many + 10).toNat]?).bind fun ch75 => if (ch75.toNat : Int) > 1 then (some ((⟨(⟨false, []⟩ : Bl), 0, 0, 0, [], false⟩ : R18Request), 0, 11)) else (if -9223372036854775808 ≤ ((x3.many + 10) + 1) ∧ ((x3.many + 10) + 1) ≤ 9223372036854775807 then (if (ch75.toNat : Int) = 1 then ((f_r18_Check a0 a1 (⟨x3.blob, 0, x49, x54, [], decide ((ch75.toNat : Int) = 1)⟩ : R18Request)).bind fun x80 => if x80 = 0 then (some ((⟨x3.blob, 0, x49, x54, [], decide ((ch75.toNat : Int) = 1)⟩ : R18Request), ((x3.many + 10) + 1), 0)) else (some ((⟨(⟨false, []⟩ : Bl), 0, 0, 0, [], false⟩ : R18Request), 0, x80))) else ((f_r18_Check a0 a1 (⟨x3.blob, 0, x49, x54, [], decide ((ch75.toNat : Int) = 1)⟩ : R18Request)).bind fun x83 => if x83 = 0 then (some ((⟨x3.blob, 0, x49, x54, [], decide ((ch75.toNat : Int) = 1)⟩ : R18Request), ((x3.many + 10) + 1), 0)) else (some ((⟨(⟨false, []⟩ : Bl), 0, 0, 0, [], false⟩ : R18Request), 0, x83)))) else none)) else none)) else none) else ((f_r18_Check a0 a1 (⟨x3.blob, 0, x49, x54, [], false⟩ : R18Request)).bind fun x86 => if x86 = 0 then (some ((⟨x3.blob, 0, x49, x54, [], false⟩ : R18Request), (x3.many + 10), 0)) else (some ((⟨(⟨false, []⟩ : Bl), 0, 0, 0, [], false⟩ : R18Request), 0, x86))))) else none) else none) else none) else none) else none) else none)) else none))) else (some ((⟨(⟨false, []⟩ : Bl), 0, 0, 0, [], false⟩ : R18Request), 0, x3.err))
set_option maxRecDepth 100000 in
set_option maxHeartbeats 4000000 in
theorem f_r18_Read_spec (a0 : Int) (a1 : Int) (a2 : List UInt8) (r : R18Request × Int × Int) (h : f_r18_Read a0 a1 a2 = some r) : SpecX Try.prog 47 #[.int .i64 a0, .int .i64 a1, .string (bsOf a2)] .triv (EmpR) (fun v A' N => ∃ (A89 : Option Addr) (c90 : Nat), v = .tuple #[.agg #[.bool r.1.fID.null, .string (bsOf r.1.fID.data), .int .i64 r.1.fTimeout, .int .i64 r.1.fProducer, .int .i64 r.1.fEpoch, .slice A89 r.1.fTopics.length c90, .bool r.1.fCommit], .int .i64 r.2.1, .int .i64 r.2.2] ∧ A' = EmpR ∧ N = [RdR (sliceRd 2 Top_rd) [.slice A89 r.1.fTopics.length c90] r.1.fTopics]) := by
  refine enterA Try.func47 rfl Try.ntmps47 rfl ?_
  intro F w hX
  unfold f_r18_Read at h
  refine T.seq (T.region rfl ?_)
  refine TL.alloc rfl .u Try.zeroValue76 rfl (fun b1 => ?_)
  refine TL.run ft_cursitorref18_ok [1, 2] rfl rfl ?_
  refine TL.nil (X.seq (T.seq (T.region rfl ?_)))
  refine TL.q rfl .u (Ex.bld (cells := #[.bool false, .string ⟨#[]⟩, .int .i64 0, .int .i64 0, .int .i64 0, .slice none 0 0, .bool false]) bok_cursitorref18_76 rfl (by kernel_rfl)) rfl ?_
  refine TL.alloc rfl .u Try.zeroValue76 rfl (fun b2 => ?_)
  refine TL.st0 (cs' := #[.bool false, .string ⟨#[]⟩, .int .i64 0, .int .i64 0, .int .i64 0, .slice none 0 0, .bool false]) rfl .u rfl rfl Try.sizeOf76 rfl rfl rfl rfl ?_
  refine TL.nil (X.seq (T.seq (T.region rfl ?_)))
  obtain ⟨x3, hx4, h⟩ := Option.bind_eq_some_iff.1 h
  refine TL.run ft_cursitorref18_ok [0] rfl rfl ?_
  refine TL.ce rfl .u (.fn Try.call121 rfl) (gRRFixed_spec a2 2 _ hx4) (fun _ hs => (RX.reads_triv _ _)) rfl ?_
  refine TL.alloc rfl .u Try.zeroValue147 rfl (fun b5 => ?_)
  refine TL.st0 (cs' := #[.bool x3.blob.null, .string (bsOf x3.blob.data), .int .i64 x3.many, .int .i64 x3.err]) rfl .u rfl rfl Try.sizeOf147 rfl rfl rfl rfl ?_
  refine TL.nil (X.seq (T.seq (T.seq (T.region rfl ?_))))
  refine TL.run ft_cursitorref18_ok [0] rfl rfl ?_
  refine TL.q rfl .u (Ex.b1 0 rfl Try.isAgg3 rfl rfl) rfl ?_
  refine TL.run ft_cursitorref18_ok [2] rfl rfl ?_
  by_cases c6 : x3.err = 0
  · replace h := ifT c6 h
    refine TL.nil (X.seq ?_)
    refine T.no rfl (bn_f (decide_eq_true c6)) ?_
    refine T.skip (X.seq (T.seq (T.seq ?_)))
    obtain ⟨y8, h, hk9⟩ := Option.bind_eq_some_iff.1 h
    refine T.jq (fun e Rs => e = [(0, .int .i64 a0), (1, .int .i64 a1), (2, .string (bsOf a2)), (6, .pointer (some ⟨b1, 0, none⟩)), (7, .int .i64 0), (8, .int .i64 0), (9, .pointer (some ⟨b2, 0, none⟩)), (10, .pointer (some ⟨b5, 0, none⟩)), (32, .bool y8)] ∧ Rs = [BlkR b5 147 #[.bool x3.blob.null, .string (bsOf x3.blob.data), .int .i64 x3.many, .int .i64 x3.err], BlkR b2 76 #[.bool false, .string ⟨#[]⟩, .int .i64 0, .int .i64 0, .int .i64 0, .slice none 0 0, .bool false], BlkR b1 76 #[.bool false, .string ⟨#[]⟩, .int .i64 0, .int .i64 0, .int .i64 0, .slice none 0 0, .bool false], EmpR]) ?_ ?_
    · clear hk9
      refine T.region rfl ?_
      refine TL.run ft_cursitorref18_ok [0, 1] rfl rfl ?_
      refine TL.q rfl .u (Ex.b1 0 rfl Try.isAgg4 rfl rfl) rfl ?_
      by_cases c10 : x3.blob.null = true
      · replace h := ifT c10 h
        refine TL.run ft_cursitorref18_ok [3] rfl rfl ?_
        refine TL.q rfl (.g rfl rfl c10) (Ex.ft ft_cursitorref18_ok rfl) rfl ?_
        refine TL.q rfl (.g rfl rfl c10) (Ex.ft ft_cursitorref18_ok rfl) rfl ?_
        refine TL.q rfl .u (Ex.py rfl c10 rfl) rfl ?_
        by_cases c11 : a0 = 22
        · replace h := ifT c11 h
          cases h
          exact TL.nil (X.as (d := 32) (v' := .bool false) rfl (congrArg Value.bool (bn_f (decide_eq_true c11))) (X.jq [0, 0, 0, 0] ⟨rfl, rfl⟩ (by rfl) (by rfl)))
        · replace h := ifF c11 h
          cases h
          exact TL.nil (X.as (d := 32) (v' := .bool true) rfl (congrArg Value.bool (bn_t (decide_eq_false c11))) (X.jq [0, 0, 0, 0] ⟨rfl, rfl⟩ (by rfl) (by rfl)))
      · replace h := ifF c10 h
        replace c10 := eq_false_of_ne_true c10
        refine TL.run ft_cursitorref18_ok [3] rfl rfl ?_
        refine TL.no rfl (.gn rfl rfl c10) rfl ?_
        refine TL.no rfl (.gn rfl rfl c10) rfl ?_
        refine TL.q rfl .u (Ex.pn rfl c10 rfl) rfl ?_
        cases h
        exact TL.nil (X.jq [0, 0, 0, 0] ⟨rfl, rfl⟩ (by rfl) (by rfl))
    · rintro _ _ ⟨rfl, rfl⟩
      clear h
      have h := hk9
      clear hk9
      try dsimp only at h
      by_cases c12 : y8 = true
      · replace h := ifT c12 h
        refine X.seq ?_
        refine T.yes rfl c12 ?_
        refine T.seq (T.region rfl ?_)
        refine TL.q rfl .u (Ex.bS (us := [.bool false, .string ⟨#[]⟩, .int .i64 0, .int .i64 0, .int .i64 0, .slice none 0 0, .bool false]) 1 rfl Try.isAgg76 Try.sizeOf76 rfl rfl rfl) rfl ?_
        refine TL.st2 (cs' := #[.bool false, .string ⟨#[]⟩, .int .i64 0, .int .i64 0, .int .i64 0, .slice none 0 0, .bool false]) rfl .u rfl rfl Try.sizeOf76 rfl rfl rfl rfl ?_
        refine TL.run ft_cursitorref18_ok [2, 3] rfl rfl ?_
        obtain rfl := Option.some.inj h
        refine TL.nil (X.seq (T.ret (X.rs ?_)))
        refine X.nilrd 2 Top_rd ?_
        exact X.done3 [4, 0] Try.results47 (RV.cS (us := #[.bool false, .string ⟨#[]⟩, .int .i64 0, .int .i64 0, .int .i64 0, .slice none 0 0, .bool false]) 3 rfl Try.isAgg76 Try.sizeOf76 rfl rfl) (RV.tm rfl) (RV.tm rfl) ⟨_, _, rfl, rfl, rfl⟩ (by rfl) (.inl rfl)
      · replace h := ifF c12 h
        replace c12 := eq_false_of_ne_true c12
        refine X.seq ?_
        refine T.no rfl c12 ?_
        refine T.skip (X.seq (T.seq (T.region rfl ?_)))
        refine TL.run ft_cursitorref18_ok [0] rfl rfl ?_
        refine TL.q rfl .u (Ex.bS (us := [.bool x3.blob.null, .string (bsOf x3.blob.data)]) 0 rfl Try.isAgg26 Try.sizeOf26 rfl rfl rfl) rfl ?_
        refine TL.q rfl .u (Ex.bld (cells := #[.bool x3.blob.null, .string (bsOf x3.blob.data), .int .i64 0, .int .i64 (-1), .int .i64 (-1), .slice none 0 0, .bool false]) bok_cursitorref18_76 rfl (by kernel_rfl)) rfl ?_
        refine TL.alloc rfl .u Try.zeroValue76 rfl (fun b13 => ?_)
        refine TL.st0 (cs' := #[.bool x3.blob.null, .string (bsOf x3.blob.data), .int .i64 0, .int .i64 (-1), .int .i64 (-1), .slice none 0 0, .bool false]) rfl .u rfl rfl Try.sizeOf76 rfl rfl rfl rfl ?_
        refine TL.nil (X.seq (T.seq (T.region rfl ?_)))
        refine TL.run ft_cursitorref18_ok [0] rfl rfl ?_
        refine TL.q rfl .u (Ex.b1 1 rfl Try.isAgg3 rfl rfl) rfl ?_
        refine TL.run ft_cursitorref18_ok [2] rfl rfl ?_
        refine TL.nil (X.seq (T.seq (T.seq (T.region rfl ?_))))
        refine TL.run ft_cursitorref18_ok [0, 1] rfl rfl ?_
        by_cases c14 : a0 = 22
        · replace h := ifT c14 h
          refine TL.nil (X.seq ?_)
          refine T.yes rfl (decide_eq_true c14) ?_
          refine T.seq (T.seq (T.region rfl ?_))
          refine TL.run ft_cursitorref18_ok [0] rfl rfl ?_
          refine TL.q rfl .u (Ex.lenB rfl Try.runUnderlying9) rfl ?_
          replace h := guard_some h
          obtain ⟨c15, h⟩ := h
          refine TL.run ft_cursitorref18_ok [2] rfl rfl ?_
          refine TL.q rfl .u (Ex.sub rfl rfl c15) rfl ?_
          refine TL.run ft_cursitorref18_ok [4] rfl rfl ?_
          by_cases c16 : ((a2.length : Int) - x3.many) < 4
          · replace h := ifT c16 h
            refine TL.nil (X.seq ?_)
            refine T.yes rfl (decide_eq_true c16) ?_
            refine T.seq (T.region rfl ?_)
            refine TL.q rfl .u (Ex.bS (us := [.bool false, .string ⟨#[]⟩, .int .i64 0, .int .i64 0, .int .i64 0, .slice none 0 0, .bool false]) 2 rfl Try.isAgg76 Try.sizeOf76 rfl rfl rfl) rfl ?_
            refine TL.st3 (cs' := #[.bool false, .string ⟨#[]⟩, .int .i64 0, .int .i64 0, .int .i64 0, .slice none 0 0, .bool false]) rfl .u rfl rfl Try.sizeOf76 rfl rfl rfl rfl ?_
            refine TL.run ft_cursitorref18_ok [2, 3] rfl rfl ?_
            obtain rfl := Option.some.inj h
            refine TL.nil (X.seq (T.ret (X.rs (X.rs ?_))))
            refine X.nilrd 2 Top_rd ?_
            exact X.done3 [5, 0] Try.results47 (RV.cS (us := #[.bool false, .string ⟨#[]⟩, .int .i64 0, .int .i64 0, .int .i64 0, .slice none 0 0, .bool false]) 4 rfl Try.isAgg76 Try.sizeOf76 rfl rfl) (RV.tm rfl) (RV.tm rfl) ⟨_, _, rfl, rfl, rfl⟩ (by rfl) (.inl rfl)
          · replace h := ifF c16 h
            refine TL.nil (X.seq ?_)
            refine T.no rfl (decide_eq_false c16) ?_
            refine T.skip (X.seq (T.seq (T.region rfl ?_)))
            replace h := guard_some h
            obtain ⟨c17, h⟩ := h
            refine TL.run ft_cursitorref18_ok [0, 1, 2] rfl rfl ?_
            refine TL.q rfl .u (Ex.add rfl rfl c17) rfl ?_
            replace h := guard_some h
            obtain ⟨c18, h⟩ := h
            refine TL.q rfl .u (Ex.sSl (p := x3.many.toNat) (q := (x3.many + 4).toNat) (m := ((a2.drop x3.many.toNat).take (((x3.many + 4).toNat) - x3.many.toNat))) rfl Try.runUnderlying9 (.some rfl ((Int.toNat_of_nonneg c18.1).symm)) (.some rfl ((Int.toNat_of_nonneg c18.2.1).symm)) (by omega) rfl) rfl ?_
            obtain ⟨x19, hx20, h⟩ := Option.bind_eq_some_iff.1 h
            refine TL.ce rfl .u (.fn Try.call108 rfl) (SpecX.pure (fun w => gRInt_spec ((a2.drop x3.many.toNat).take (((x3.many + 4).toNat) - x3.many.toNat)) _ hx20 w)) (fun _ _ => RX.reads_triv _ _) rfl ?_
            refine TL.run ft_cursitorref18_ok [6] rfl rfl ?_
            refine TL.st0 (cs' := #[.bool x3.blob.null, .string (bsOf x3.blob.data), .int .i64 x19, .int .i64 (-1), .int .i64 (-1), .slice none 0 0, .bool false]) rfl .u rfl rfl Try.sizeOf3 rfl rfl rfl rfl ?_
            refine TL.nil (X.seq (T.region rfl ?_))
            replace h := guard_some h
            obtain ⟨c21, h⟩ := h
            refine TL.run ft_cursitorref18_ok [0] rfl rfl ?_
            refine TL.q rfl .u (Ex.add rfl rfl c21) rfl ?_
            refine TL.run ft_cursitorref18_ok [2] rfl rfl ?_
            refine TL.nil (X.seq (T.seq (T.seq (T.region rfl ?_))))
            refine TL.run ft_cursitorref18_ok [0, 1, 2] rfl rfl ?_
            refine TL.q rfl (.g rfl rfl (bn_f (decide_eq_true c14))) (Ex.ft ft_cursitorref18_ok rfl) rfl ?_
            refine TL.q rfl (.g rfl rfl (bn_f (decide_eq_true c14))) (Ex.ft ft_cursitorref18_ok rfl) rfl ?_
            refine TL.q rfl .u (Ex.pn rfl (bn_f (decide_eq_true c14)) rfl) rfl ?_
            by_cases c22 : a1 = 1
            · replace h := ifT c22 h
              refine TL.nil (X.seq ?_)
              refine T.yes rfl (decide_eq_true c22) ?_
              refine T.seq (T.seq (T.region rfl ?_))
              refine TL.run ft_cursitorref18_ok [0] rfl rfl ?_
              refine TL.q rfl .u (Ex.lenB rfl Try.runUnderlying9) rfl ?_
              replace h := guard_some h
              obtain ⟨c23, h⟩ := h
              refine TL.run ft_cursitorref18_ok [2] rfl rfl ?_
              refine TL.q rfl .u (Ex.sub rfl rfl c23) rfl ?_
              refine TL.run ft_cursitorref18_ok [4] rfl rfl ?_
              by_cases c24 : ((a2.length : Int) - (x3.many + 4)) < 10
              · replace h := ifT c24 h
                refine TL.nil (X.seq ?_)
                refine T.yes rfl (decide_eq_true c24) ?_
                refine T.seq (T.region rfl ?_)
                refine TL.q rfl .u (Ex.bS (us := [.bool false, .string ⟨#[]⟩, .int .i64 0, .int .i64 0, .int .i64 0, .slice none 0 0, .bool false]) 2 rfl Try.isAgg76 Try.sizeOf76 rfl rfl rfl) rfl ?_
                refine TL.st3 (cs' := #[.bool false, .string ⟨#[]⟩, .int .i64 0, .int .i64 0, .int .i64 0, .slice none 0 0, .bool false]) rfl .u rfl rfl Try.sizeOf76 rfl rfl rfl rfl ?_
                refine TL.run ft_cursitorref18_ok [2, 3] rfl rfl ?_
                obtain rfl := Option.some.inj h
                refine TL.nil (X.seq (T.ret (X.rs (X.rs ?_))))
                refine X.nilrd 2 Top_rd ?_
                exact X.done3 [5, 0] Try.results47 (RV.cS (us := #[.bool false, .string ⟨#[]⟩, .int .i64 0, .int .i64 0, .int .i64 0, .slice none 0 0, .bool false]) 4 rfl Try.isAgg76 Try.sizeOf76 rfl rfl) (RV.tm rfl) (RV.tm rfl) ⟨_, _, rfl, rfl, rfl⟩ (by rfl) (.inl rfl)
              · replace h := ifF c24 h
                refine TL.nil (X.seq ?_)
                refine T.no rfl (decide_eq_false c24) ?_
                refine T.skip (X.seq (T.seq (T.region rfl ?_)))
                replace h := guard_some h
                obtain ⟨c25, h⟩ := h
                refine TL.run ft_cursitorref18_ok [0, 1, 2] rfl rfl ?_
                refine TL.q rfl .u (Ex.add rfl rfl c25) rfl ?_
                replace h := guard_some h
                obtain ⟨c26, h⟩ := h
                refine TL.q rfl .u (Ex.sSl (p := (x3.many + 4).toNat) (q := ((x3.many + 4) + 8).toNat) (m := ((a2.drop ((x3.many + 4).toNat)).take ((((x3.many + 4) + 8).toNat) - ((x3.many + 4).toNat)))) rfl Try.runUnderlying9 (.some rfl ((Int.toNat_of_nonneg c26.1).symm)) (.some rfl ((Int.toNat_of_nonneg c26.2.1).symm)) (by omega) rfl) rfl ?_
                obtain ⟨x27, hx28, h⟩ := Option.bind_eq_some_iff.1 h
                refine TL.ce rfl .u (.fn Try.call108 rfl) (SpecX.pure (fun w => gRInt_spec ((a2.drop ((x3.many + 4).toNat)).take ((((x3.many + 4) + 8).toNat) - ((x3.many + 4).toNat))) _ hx28 w)) (fun _ _ => RX.reads_triv _ _) rfl ?_
                refine TL.run ft_cursitorref18_ok [6] rfl rfl ?_
                refine TL.st0 (cs' := #[.bool x3.blob.null, .string (bsOf x3.blob.data), .int .i64 x19, .int .i64 x27, .int .i64 (-1), .slice none 0 0, .bool false]) rfl .u rfl rfl Try.sizeOf3 rfl rfl rfl rfl ?_
                refine TL.nil (X.seq (T.seq (T.region rfl ?_)))
                replace h := guard_some h
                obtain ⟨c29, h⟩ := h
                refine TL.run ft_cursitorref18_ok [0, 1] rfl rfl ?_
                refine TL.q rfl .u (Ex.add rfl rfl c29) rfl ?_
                replace h := guard_some h
                obtain ⟨c30, h⟩ := h
                refine TL.run ft_cursitorref18_ok [3] rfl rfl ?_
                refine TL.q rfl .u (Ex.add rfl rfl c30) rfl ?_
                replace h := guard_some h
                obtain ⟨c31, h⟩ := h
                refine TL.q rfl .u (Ex.sSl (p := ((x3.many + 4) + 8).toNat) (q := ((x3.many + 4) + 10).toNat) (m := ((a2.drop (((x3.many + 4) + 8).toNat)).take ((((x3.many + 4) + 10).toNat) - (((x3.many + 4) + 8).toNat)))) rfl Try.runUnderlying9 (.some rfl ((Int.toNat_of_nonneg c31.1).symm)) (.some rfl ((Int.toNat_of_nonneg c31.2.1).symm)) (by omega) rfl) rfl ?_
                obtain ⟨x32, hx33, h⟩ := Option.bind_eq_some_iff.1 h
                refine TL.ce rfl .u (.fn Try.call108 rfl) (SpecX.pure (fun w => gRInt_spec ((a2.drop (((x3.many + 4) + 8).toNat)).take ((((x3.many + 4) + 10).toNat) - (((x3.many + 4) + 8).toNat))) _ hx33 w)) (fun _ _ => RX.reads_triv _ _) rfl ?_
                refine TL.run ft_cursitorref18_ok [7] rfl rfl ?_
                refine TL.st0 (cs' := #[.bool x3.blob.null, .string (bsOf x3.blob.data), .int .i64 x19, .int .i64 x27, .int .i64 x32, .slice none 0 0, .bool false]) rfl .u rfl rfl Try.sizeOf3 rfl rfl rfl rfl ?_
                refine TL.nil (X.seq (T.region rfl ?_))
                replace h := guard_some h
                obtain ⟨c34, h⟩ := h
                refine TL.run ft_cursitorref18_ok [0] rfl rfl ?_
                refine TL.q rfl .u (Ex.add rfl rfl c34) rfl ?_
                refine TL.run ft_cursitorref18_ok [2] rfl rfl ?_
                refine TL.nil (X.seq (T.seq (T.seq (T.region rfl ?_))))
                refine TL.run ft_cursitorref18_ok [0, 1] rfl rfl ?_
                have c35 : ¬ (a0 = 24) := by have hq := c14; omega
                refine TL.nil (X.seq ?_)
                refine T.no rfl (decide_eq_false c35) ?_
                refine T.skip (X.seq (T.seq (T.seq (T.region rfl ?_))))
                refine TL.run ft_cursitorref18_ok [0, 1] rfl rfl ?_
                have c36 : ¬ (a0 = 26) := by have hq := c14; omega
                refine TL.nil (X.seq ?_)
                refine T.no rfl (decide_eq_false c36) ?_
                refine T.skip (X.seq (T.seq (T.region rfl ?_)))
                refine TL.run ft_cursitorref18_ok [0, 1] rfl rfl ?_
                refine TL.q rfl .u (Ex.bS (us := [.bool x3.blob.null, .string (bsOf x3.blob.data), .int .i64 x19, .int .i64 x27, .int .i64 x32, .slice none 0 0, .bool false]) 0 rfl Try.isAgg76 Try.sizeOf76 rfl rfl rfl) rfl ?_
                obtain ⟨x37, hx38, h⟩ := Option.bind_eq_some_iff.1 h
                refine TL.ce rfl .u (.fn Try.call52 rfl) (f_r18_Check_spec a0 a1 (⟨x3.blob, x19, x27, x32, [], false⟩ : R18Request) _ _ _ hx38) (fun _ hs => slice_nil_reads) rfl ?_
                refine TL.run ft_cursitorref18_ok [4] rfl rfl ?_
                refine TL.nil (X.seq (T.seq (T.seq (T.region rfl ?_))))
                refine TL.run ft_cursitorref18_ok [0, 1] rfl rfl ?_
                by_cases c39 : x37 = 0
                · replace h := ifT c39 h
                  refine TL.nil (X.seq ?_)
                  refine T.no rfl (bn_f (decide_eq_true c39)) ?_
                  refine T.skip (X.seq (T.seq (T.region rfl ?_)))
                  refine TL.q rfl .u (Ex.bS (us := [.bool x3.blob.null, .string (bsOf x3.blob.data), .int .i64 x19, .int .i64 x27, .int .i64 x32, .slice none 0 0, .bool false]) 0 rfl Try.isAgg76 Try.sizeOf76 rfl rfl rfl) rfl ?_
                  refine TL.run ft_cursitorref18_ok [1] rfl rfl ?_
                  refine TL.st3 (cs' := #[.bool x3.blob.null, .string (bsOf x3.blob.data), .int .i64 x19, .int .i64 x27, .int .i64 x32, .slice none 0 0, .bool false]) rfl .u rfl rfl Try.sizeOf76 rfl rfl rfl rfl ?_
                  refine TL.run ft_cursitorref18_ok [3, 4] rfl rfl ?_
                  obtain rfl := Option.some.inj h
                  refine TL.nil (X.seq (T.ret ?_))
                  refine X.nilrd 2 Top_rd ?_
                  exact X.done3 [5, 0] Try.results47 (RV.cS (us := #[.bool x3.blob.null, .string (bsOf x3.blob.data), .int .i64 x19, .int .i64 x27, .int .i64 x32, .slice none 0 0, .bool false]) 4 rfl Try.isAgg76 Try.sizeOf76 rfl rfl) (RV.tm rfl) (RV.tm rfl) ⟨_, _, rfl, rfl, rfl⟩ (by rfl) (.inl rfl)
                · replace h := ifF c39 h
                  refine TL.nil (X.seq ?_)
                  refine T.yes rfl (bn_t (decide_eq_false c39)) ?_
                  refine T.seq (T.region rfl ?_)
                  refine TL.q rfl .u (Ex.bS (us := [.bool false, .string ⟨#[]⟩, .int .i64 0, .int .i64 0, .int .i64 0, .slice none 0 0, .bool false]) 2 rfl Try.isAgg76 Try.sizeOf76 rfl rfl rfl) rfl ?_
                  refine TL.run ft_cursitorref18_ok [1] rfl rfl ?_
                  refine TL.st3 (cs' := #[.bool false, .string ⟨#[]⟩, .int .i64 0, .int .i64 0, .int .i64 0, .slice none 0 0, .bool false]) rfl .u rfl rfl Try.sizeOf76 rfl rfl rfl rfl ?_
                  refine TL.run ft_cursitorref18_ok [3, 4] rfl rfl ?_
                  obtain rfl := Option.some.inj h
                  refine TL.nil (X.seq (T.ret (X.rs ?_)))
                  refine X.nilrd 2 Top_rd ?_
                  exact X.done3 [5, 0] Try.results47 (RV.cS (us := #[.bool false, .string ⟨#[]⟩, .int .i64 0, .int .i64 0, .int .i64 0, .slice none 0 0, .bool false]) 4 rfl Try.isAgg76 Try.sizeOf76 rfl rfl) (RV.tm rfl) (RV.tm rfl) ⟨_, _, rfl, rfl, rfl⟩ (by rfl) (.inl rfl)
            · replace h := ifF c22 h
              refine TL.nil (X.seq ?_)
              refine T.no rfl (decide_eq_false c22) ?_
              refine T.skip (X.seq (T.seq (T.seq (T.region rfl ?_))))
              refine TL.run ft_cursitorref18_ok [0, 1] rfl rfl ?_
              have c40 : ¬ (a0 = 24) := by have hq := c14; omega
              refine TL.nil (X.seq ?_)
              refine T.no rfl (decide_eq_false c40) ?_
              refine T.skip (X.seq (T.seq (T.seq (T.region rfl ?_))))
              refine TL.run ft_cursitorref18_ok [0, 1] rfl rfl ?_
              have c41 : ¬ (a0 = 26) := by have hq := c14; omega
              refine TL.nil (X.seq ?_)
              refine T.no rfl (decide_eq_false c41) ?_
              refine T.skip (X.seq (T.seq (T.region rfl ?_)))
              refine TL.run ft_cursitorref18_ok [0, 1] rfl rfl ?_
              refine TL.q rfl .u (Ex.bS (us := [.bool x3.blob.null, .string (bsOf x3.blob.data), .int .i64 x19, .int .i64 (-1), .int .i64 (-1), .slice none 0 0, .bool false]) 0 rfl Try.isAgg76 Try.sizeOf76 rfl rfl rfl) rfl ?_
              obtain ⟨x42, hx43, h⟩ := Option.bind_eq_some_iff.1 h
              refine TL.ce rfl .u (.fn Try.call52 rfl) (f_r18_Check_spec a0 a1 (⟨x3.blob, x19, -1, -1, [], false⟩ : R18Request) _ _ _ hx43) (fun _ hs => slice_nil_reads) rfl ?_
              refine TL.run ft_cursitorref18_ok [4] rfl rfl ?_
              refine TL.nil (X.seq (T.seq (T.seq (T.region rfl ?_))))
              refine TL.run ft_cursitorref18_ok [0, 1] rfl rfl ?_
              by_cases c44 : x42 = 0
              · replace h := ifT c44 h
                refine TL.nil (X.seq ?_)
                refine T.no rfl (bn_f (decide_eq_true c44)) ?_
                refine T.skip (X.seq (T.seq (T.region rfl ?_)))
                refine TL.q rfl .u (Ex.bS (us := [.bool x3.blob.null, .string (bsOf x3.blob.data), .int .i64 x19, .int .i64 (-1), .int .i64 (-1), .slice none 0 0, .bool false]) 0 rfl Try.isAgg76 Try.sizeOf76 rfl rfl rfl) rfl ?_
                refine TL.run ft_cursitorref18_ok [1] rfl rfl ?_
                refine TL.st3 (cs' := #[.bool x3.blob.null, .string (bsOf x3.blob.data), .int .i64 x19, .int .i64 (-1), .int .i64 (-1), .slice none 0 0, .bool false]) rfl .u rfl rfl Try.sizeOf76 rfl rfl rfl rfl ?_
                refine TL.run ft_cursitorref18_ok [3, 4] rfl rfl ?_
                obtain rfl := Option.some.inj h
                refine TL.nil (X.seq (T.ret ?_))
                refine X.nilrd 2 Top_rd ?_
                exact X.done3 [5, 0] Try.results47 (RV.cS (us := #[.bool x3.blob.null, .string (bsOf x3.blob.data), .int .i64 x19, .int .i64 (-1), .int .i64 (-1), .slice none 0 0, .bool false]) 4 rfl Try.isAgg76 Try.sizeOf76 rfl rfl) (RV.tm rfl) (RV.tm rfl) ⟨_, _, rfl, rfl, rfl⟩ (by rfl) (.inl rfl)
              · replace h := ifF c44 h
                refine TL.nil (X.seq ?_)
                refine T.yes rfl (bn_t (decide_eq_false c44)) ?_
                refine T.seq (T.region rfl ?_)
                refine TL.q rfl .u (Ex.bS (us := [.bool false, .string ⟨#[]⟩, .int .i64 0, .int .i64 0, .int .i64 0, .slice none 0 0, .bool false]) 2 rfl Try.isAgg76 Try.sizeOf76 rfl rfl rfl) rfl ?_
                refine TL.run ft_cursitorref18_ok [1] rfl rfl ?_
                refine TL.st3 (cs' := #[.bool false, .string ⟨#[]⟩, .int .i64 0, .int .i64 0, .int .i64 0, .slice none 0 0, .bool false]) rfl .u rfl rfl Try.sizeOf76 rfl rfl rfl rfl ?_
                refine TL.run ft_cursitorref18_ok [3, 4] rfl rfl ?_
                obtain rfl := Option.some.inj h
                refine TL.nil (X.seq (T.ret (X.rs ?_)))
                refine X.nilrd 2 Top_rd ?_
                exact X.done3 [5, 0] Try.results47 (RV.cS (us := #[.bool false, .string ⟨#[]⟩, .int .i64 0, .int .i64 0, .int .i64 0, .slice none 0 0, .bool false]) 4 rfl Try.isAgg76 Try.sizeOf76 rfl rfl) (RV.tm rfl) (RV.tm rfl) ⟨_, _, rfl, rfl, rfl⟩ (by rfl) (.inl rfl)
        · replace h := ifF c14 h
          refine TL.nil (X.seq ?_)
          refine T.no rfl (decide_eq_false c14) ?_
          refine T.skip (X.seq (T.seq (T.seq (T.region rfl ?_))))
          refine TL.run ft_cursitorref18_ok [0, 1, 2] rfl rfl ?_
          refine TL.no rfl (.gn rfl rfl (bn_t (decide_eq_false c14))) rfl ?_
          refine TL.no rfl (.gn rfl rfl (bn_t (decide_eq_false c14))) rfl ?_
          refine TL.q rfl .u (Ex.py rfl (bn_t (decide_eq_false c14)) rfl) rfl ?_
          refine TL.nil (X.seq ?_)
          refine T.yes rfl rfl ?_
          refine T.seq (T.seq (T.region rfl ?_))
          refine TL.run ft_cursitorref18_ok [0] rfl rfl ?_
          refine TL.q rfl .u (Ex.lenB rfl Try.runUnderlying9) rfl ?_
          replace h := guard_some h
          obtain ⟨c45, h⟩ := h
          refine TL.run ft_cursitorref18_ok [2] rfl rfl ?_
          refine TL.q rfl .u (Ex.sub rfl rfl c45) rfl ?_
          refine TL.run ft_cursitorref18_ok [4] rfl rfl ?_
          by_cases c46 : ((a2.length : Int) - x3.many) < 10
          · replace h := ifT c46 h
            refine TL.nil (X.seq ?_)
            refine T.yes rfl (decide_eq_true c46) ?_
            refine T.seq (T.region rfl ?_)
            refine TL.q rfl .u (Ex.bS (us := [.bool false, .string ⟨#[]⟩, .int .i64 0, .int .i64 0, .int .i64 0, .slice none 0 0, .bool false]) 2 rfl Try.isAgg76 Try.sizeOf76 rfl rfl rfl) rfl ?_
            refine TL.st3 (cs' := #[.bool false, .string ⟨#[]⟩, .int .i64 0, .int .i64 0, .int .i64 0, .slice none 0 0, .bool false]) rfl .u rfl rfl Try.sizeOf76 rfl rfl rfl rfl ?_
            refine TL.run ft_cursitorref18_ok [2, 3] rfl rfl ?_
            obtain rfl := Option.some.inj h
            refine TL.nil (X.seq (T.ret (X.rs (X.rs ?_))))
            refine X.nilrd 2 Top_rd ?_
            exact X.done3 [5, 0] Try.results47 (RV.cS (us := #[.bool false, .string ⟨#[]⟩, .int .i64 0, .int .i64 0, .int .i64 0, .slice none 0 0, .bool false]) 4 rfl Try.isAgg76 Try.sizeOf76 rfl rfl) (RV.tm rfl) (RV.tm rfl) ⟨_, _, rfl, rfl, rfl⟩ (by rfl) (.inl rfl)
          · replace h := ifF c46 h
            refine TL.nil (X.seq ?_)
            refine T.no rfl (decide_eq_false c46) ?_
            refine T.skip (X.seq (T.seq (T.region rfl ?_)))
            replace h := guard_some h
            obtain ⟨c47, h⟩ := h
            refine TL.run ft_cursitorref18_ok [0, 1, 2] rfl rfl ?_
            refine TL.q rfl .u (Ex.add rfl rfl c47) rfl ?_
            replace h := guard_some h
            obtain ⟨c48, h⟩ := h
            refine TL.q rfl .u (Ex.sSl (p := x3.many.toNat) (q := (x3.many + 8).toNat) (m := ((a2.drop x3.many.toNat).take (((x3.many + 8).toNat) - x3.many.toNat))) rfl Try.runUnderlying9 (.some rfl ((Int.toNat_of_nonneg c48.1).symm)) (.some rfl ((Int.toNat_of_nonneg c48.2.1).symm)) (by omega) rfl) rfl ?_
            obtain ⟨x49, hx50, h⟩ := Option.bind_eq_some_iff.1 h
            refine TL.ce rfl .u (.fn Try.call108 rfl) (SpecX.pure (fun w => gRInt_spec ((a2.drop x3.many.toNat).take (((x3.many + 8).toNat) - x3.many.toNat)) _ hx50 w)) (fun _ _ => RX.reads_triv _ _) rfl ?_
            refine TL.run ft_cursitorref18_ok [6] rfl rfl ?_
            refine TL.st0 (cs' := #[.bool x3.blob.null, .string (bsOf x3.blob.data), .int .i64 0, .int .i64 x49, .int .i64 (-1), .slice none 0 0, .bool false]) rfl .u rfl rfl Try.sizeOf3 rfl rfl rfl rfl ?_
            refine TL.nil (X.seq (T.seq (T.region rfl ?_)))
            replace h := guard_some h
            obtain ⟨c51, h⟩ := h
            refine TL.run ft_cursitorref18_ok [0, 1] rfl rfl ?_
            refine TL.q rfl .u (Ex.add rfl rfl c51) rfl ?_
            replace h := guard_some h
            obtain ⟨c52, h⟩ := h
            refine TL.run ft_cursitorref18_ok [3] rfl rfl ?_
            refine TL.q rfl .u (Ex.add rfl rfl c52) rfl ?_
            replace h := guard_some h
            obtain ⟨c53, h⟩ := h
            refine TL.q rfl .u (Ex.sSl (p := (x3.many + 8).toNat) (q := (x3.many + 10).toNat) (m := ((a2.drop ((x3.many + 8).toNat)).take (((x3.many + 10).toNat) - ((x3.many + 8).toNat)))) rfl Try.runUnderlying9 (.some rfl ((Int.toNat_of_nonneg c53.1).symm)) (.some rfl ((Int.toNat_of_nonneg c53.2.1).symm)) (by omega) rfl) rfl ?_
            obtain ⟨x54, hx55, h⟩ := Option.bind_eq_some_iff.1 h
            refine TL.ce rfl .u (.fn Try.call108 rfl) (SpecX.pure (fun w => gRInt_spec ((a2.drop ((x3.many + 8).toNat)).take (((x3.many + 10).toNat) - ((x3.many + 8).toNat))) _ hx55 w)) (fun _ _ => RX.reads_triv _ _) rfl ?_
            refine TL.run ft_cursitorref18_ok [7] rfl rfl ?_
            refine TL.st0 (cs' := #[.bool x3.blob.null, .string (bsOf x3.blob.data), .int .i64 0, .int .i64 x49, .int .i64 x54, .slice none 0 0, .bool false]) rfl .u rfl rfl Try.sizeOf3 rfl rfl rfl rfl ?_
            refine TL.nil (X.seq (T.region rfl ?_))
            replace h := guard_some h
            obtain ⟨c56, h⟩ := h
            refine TL.run ft_cursitorref18_ok [0] rfl rfl ?_
            refine TL.q rfl .u (Ex.add rfl rfl c56) rfl ?_
            refine TL.run ft_cursitorref18_ok [2] rfl rfl ?_
            refine TL.nil (X.seq (T.seq (T.seq (T.region rfl ?_))))
            refine TL.run ft_cursitorref18_ok [0, 1] rfl rfl ?_
            by_cases c57 : a0 = 24
            · replace h := ifT c57 h
              refine TL.nil (X.seq ?_)
              refine T.yes rfl (decide_eq_true c57) ?_
              refine T.seq (T.region rfl ?_)
              replace h := guard_some h
              obtain ⟨c58, h⟩ := h
              refine TL.run ft_cursitorref18_ok [0, 1] rfl rfl ?_
              refine TL.q rfl .u (Ex.sSl (p := (x3.many + 10).toNat) (q := a2.length) (m := (a2.drop ((x3.many + 10).toNat))) rfl Try.runUnderlying9 (.some rfl ((Int.toNat_of_nonneg c58.1).symm)) .none (by omega) (sl_drop _ _)) rfl ?_
              obtain ⟨⟨x59, x62, x63⟩, hx64, h⟩ := Option.bind_eq_some_iff.1 h
              try dsimp only at h
              refine TL.cge rfl .u (.fn Try.call109 rfl) (f_r14_ReadTopics_spec (a2.drop ((x3.many + 10).toNat)) _ hx64) (fun _ hs => (RX.reads_triv _ _)) rfl ?_
              rintro _ _ _ ⟨A60, c61, rfl, rfl, rfl⟩
              refine TL.sel [0, 0, 0, 0, 0, 0] rfl ?_
              refine TL.run ft_cursitorref18_ok [4, 5, 6, 7, 8, 9, 10] rfl rfl ?_
              refine TL.nil (X.seq (T.seq (T.seq (T.region rfl ?_))))
              refine TL.run ft_cursitorref18_ok [0, 1] rfl rfl ?_
              by_cases c65 : x63 = 0
              · replace h := ifT c65 h
                refine TL.nil (X.seq ?_)
                refine T.no rfl (bn_f (decide_eq_true c65)) ?_
                refine T.skip (X.seq (T.seq (T.region rfl ?_)))
                refine TL.run ft_cursitorref18_ok [0, 1] rfl rfl ?_
                refine TL.st1 (cs' := #[.bool x3.blob.null, .string (bsOf x3.blob.data), .int .i64 0, .int .i64 x49, .int .i64 x54, .slice A60 x59.length c61, .bool false]) rfl .u rfl rfl Try.sizeOf68 rfl rfl rfl rfl ?_
                refine TL.nil (X.seq (T.region rfl ?_))
                replace h := guard_some h
                obtain ⟨c66, h⟩ := h
                refine TL.run ft_cursitorref18_ok [0, 1] rfl rfl ?_
                refine TL.q rfl .u (Ex.add rfl rfl c66) rfl ?_
                refine TL.run ft_cursitorref18_ok [3] rfl rfl ?_
                refine TL.nil (X.seq (T.seq (T.seq (T.region rfl ?_))))
                refine TL.run ft_cursitorref18_ok [0, 1] rfl rfl ?_
                have c67 : ¬ (a0 = 26) := by have hq := c57; omega
                refine TL.nil (X.seq ?_)
                refine T.no rfl (decide_eq_false c67) ?_
                refine T.skip (X.seq (T.seq (T.region rfl ?_)))
                refine TL.run ft_cursitorref18_ok [0, 1] rfl rfl ?_
                refine TL.q rfl .u (Ex.bS (us := [.bool x3.blob.null, .string (bsOf x3.blob.data), .int .i64 0, .int .i64 x49, .int .i64 x54, .slice A60 x59.length c61, .bool false]) 1 rfl Try.isAgg76 Try.sizeOf76 rfl rfl rfl) rfl ?_
                obtain ⟨x68, hx69, h⟩ := Option.bind_eq_some_iff.1 h
                refine TL.ce rfl .u (.fn Try.call52 rfl) (f_r18_Check_spec a0 a1 (⟨x3.blob, 0, x49, x54, x59, false⟩ : R18Request) _ _ _ hx69) (fun _ hs => (SrcE.res 0 hs rfl (fun w G h => rd_reads w G h))) rfl ?_
                refine TL.run ft_cursitorref18_ok [4] rfl rfl ?_
                refine TL.nil (X.seq (T.seq (T.seq (T.region rfl ?_))))
                refine TL.run ft_cursitorref18_ok [0, 1] rfl rfl ?_
                by_cases c70 : x68 = 0
                · replace h := ifT c70 h
                  refine TL.nil (X.seq ?_)
                  refine T.no rfl (bn_f (decide_eq_true c70)) ?_
                  refine T.skip (X.seq (T.seq (T.region rfl ?_)))
                  refine TL.q rfl .u (Ex.bS (us := [.bool x3.blob.null, .string (bsOf x3.blob.data), .int .i64 0, .int .i64 x49, .int .i64 x54, .slice A60 x59.length c61, .bool false]) 1 rfl Try.isAgg76 Try.sizeOf76 rfl rfl rfl) rfl ?_
                  refine TL.run ft_cursitorref18_ok [1] rfl rfl ?_
                  refine TL.st4 (cs' := #[.bool x3.blob.null, .string (bsOf x3.blob.data), .int .i64 0, .int .i64 x49, .int .i64 x54, .slice A60 x59.length c61, .bool false]) rfl .u rfl rfl Try.sizeOf76 rfl rfl rfl rfl ?_
                  refine TL.run ft_cursitorref18_ok [3, 4] rfl rfl ?_
                  obtain rfl := Option.some.inj h
                  exact TL.nil (X.seq (T.ret (X.done3 [5, 0] Try.results47 (RV.cS (us := #[.bool x3.blob.null, .string (bsOf x3.blob.data), .int .i64 0, .int .i64 x49, .int .i64 x54, .slice A60 x59.length c61, .bool false]) 4 rfl Try.isAgg76 Try.sizeOf76 rfl rfl) (RV.tm rfl) (RV.tm rfl) ⟨_, _, rfl, rfl, rfl⟩ (by rfl) (.inl rfl))))
                · replace h := ifF c70 h
                  refine TL.nil (X.seq ?_)
                  refine T.yes rfl (bn_t (decide_eq_false c70)) ?_
                  refine T.seq (T.region rfl ?_)
                  refine TL.q rfl .u (Ex.bS (us := [.bool false, .string ⟨#[]⟩, .int .i64 0, .int .i64 0, .int .i64 0, .slice none 0 0, .bool false]) 3 rfl Try.isAgg76 Try.sizeOf76 rfl rfl rfl) rfl ?_
                  refine TL.run ft_cursitorref18_ok [1] rfl rfl ?_
                  refine TL.st4 (cs' := #[.bool false, .string ⟨#[]⟩, .int .i64 0, .int .i64 0, .int .i64 0, .slice none 0 0, .bool false]) rfl .u rfl rfl Try.sizeOf76 rfl rfl rfl rfl ?_
                  refine TL.run ft_cursitorref18_ok [3, 4] rfl rfl ?_
                  obtain rfl := Option.some.inj h
                  refine TL.nil (X.seq (T.ret (X.rs ?_)))
                  refine X.nilrd 2 Top_rd ?_
                  exact X.done3 [6, 0] Try.results47 (RV.cS (us := #[.bool false, .string ⟨#[]⟩, .int .i64 0, .int .i64 0, .int .i64 0, .slice none 0 0, .bool false]) 5 rfl Try.isAgg76 Try.sizeOf76 rfl rfl) (RV.tm rfl) (RV.tm rfl) ⟨_, _, rfl, rfl, rfl⟩ (by rfl) (.inl rfl)
              · replace h := ifF c65 h
                refine TL.nil (X.seq ?_)
                refine T.yes rfl (bn_t (decide_eq_false c65)) ?_
                refine T.seq (T.region rfl ?_)
                refine TL.q rfl .u (Ex.bS (us := [.bool false, .string ⟨#[]⟩, .int .i64 0, .int .i64 0, .int .i64 0, .slice none 0 0, .bool false]) 3 rfl Try.isAgg76 Try.sizeOf76 rfl rfl rfl) rfl ?_
                refine TL.run ft_cursitorref18_ok [1] rfl rfl ?_
                refine TL.st4 (cs' := #[.bool false, .string ⟨#[]⟩, .int .i64 0, .int .i64 0, .int .i64 0, .slice none 0 0, .bool false]) rfl .u rfl rfl Try.sizeOf76 rfl rfl rfl rfl ?_
                refine TL.run ft_cursitorref18_ok [3, 4] rfl rfl ?_
                obtain rfl := Option.some.inj h
                refine TL.nil (X.seq (T.ret (X.rs (X.rs ?_))))
                refine X.nilrd 2 Top_rd ?_
                exact X.done3 [6, 0] Try.results47 (RV.cS (us := #[.bool false, .string ⟨#[]⟩, .int .i64 0, .int .i64 0, .int .i64 0, .slice none 0 0, .bool false]) 5 rfl Try.isAgg76 Try.sizeOf76 rfl rfl) (RV.tm rfl) (RV.tm rfl) ⟨_, _, rfl, rfl, rfl⟩ (by rfl) (.inl rfl)
            · replace h := ifF c57 h
              refine TL.nil (X.seq ?_)
              refine T.no rfl (decide_eq_false c57) ?_
              refine T.skip (X.seq (T.seq (T.seq (T.region rfl ?_))))
              refine TL.run ft_cursitorref18_ok [0, 1] rfl rfl ?_
              by_cases c71 : a0 = 26
              · replace h := ifT c71 h
                refine TL.nil (X.seq ?_)
                refine T.yes rfl (decide_eq_true c71) ?_
                refine T.seq (T.seq (T.region rfl ?_))
                refine TL.run ft_cursitorref18_ok [0] rfl rfl ?_
                refine TL.q rfl .u (Ex.lenB rfl Try.runUnderlying9) rfl ?_
                replace h := guard_some h
                obtain ⟨c72, h⟩ := h
                refine TL.run ft_cursitorref18_ok [2] rfl rfl ?_
                refine TL.q rfl .u (Ex.sub rfl rfl c72) rfl ?_
                refine TL.run ft_cursitorref18_ok [4] rfl rfl ?_
                by_cases c73 : ((a2.length : Int) - (x3.many + 10)) < 1
                · replace h := ifT c73 h
                  refine TL.nil (X.seq ?_)
                  refine T.yes rfl (decide_eq_true c73) ?_
                  refine T.seq (T.region rfl ?_)
                  refine TL.q rfl .u (Ex.bS (us := [.bool false, .string ⟨#[]⟩, .int .i64 0, .int .i64 0, .int .i64 0, .slice none 0 0, .bool false]) 2 rfl Try.isAgg76 Try.sizeOf76 rfl rfl rfl) rfl ?_
                  refine TL.st3 (cs' := #[.bool false, .string ⟨#[]⟩, .int .i64 0, .int .i64 0, .int .i64 0, .slice none 0 0, .bool false]) rfl .u rfl rfl Try.sizeOf76 rfl rfl rfl rfl ?_
                  refine TL.run ft_cursitorref18_ok [2, 3] rfl rfl ?_
                  obtain rfl := Option.some.inj h
                  refine TL.nil (X.seq (T.ret (X.rs (X.rs ?_))))
                  refine X.nilrd 2 Top_rd ?_
                  exact X.done3 [5, 0] Try.results47 (RV.cS (us := #[.bool false, .string ⟨#[]⟩, .int .i64 0, .int .i64 0, .int .i64 0, .slice none 0 0, .bool false]) 4 rfl Try.isAgg76 Try.sizeOf76 rfl rfl) (RV.tm rfl) (RV.tm rfl) ⟨_, _, rfl, rfl, rfl⟩ (by rfl) (.inl rfl)
                · replace h := ifF c73 h
                  refine TL.nil (X.seq ?_)
                  refine T.no rfl (decide_eq_false c73) ?_
                  refine T.skip (X.seq (T.seq (T.seq (T.region rfl ?_))))
                  replace h := guard_some h
                  obtain ⟨c74, h⟩ := h
                  obtain ⟨ch75, hc76, h⟩ := Option.bind_eq_some_iff.1 h
                  refine TL.run ft_cursitorref18_ok [0, 1] rfl rfl ?_
                  refine TL.q rfl .u (Ex.sIx rfl rfl ((Int.toNat_of_nonneg c74).symm) Try.underlying9 hc76) rfl ?_
                  refine TL.run ft_cursitorref18_ok [3] rfl rfl ?_
                  by_cases c77 : (ch75.toNat : Int) > 1
                  · replace h := ifT c77 h
                    refine TL.nil (X.seq ?_)
                    refine T.yes rfl (decide_eq_true c77) ?_
                    refine T.seq (T.region rfl ?_)
                    refine TL.q rfl .u (Ex.bS (us := [.bool false, .string ⟨#[]⟩, .int .i64 0, .int .i64 0, .int .i64 0, .slice none 0 0, .bool false]) 2 rfl Try.isAgg76 Try.sizeOf76 rfl rfl rfl) rfl ?_
                    refine TL.st3 (cs' := #[.bool false, .string ⟨#[]⟩, .int .i64 0, .int .i64 0, .int .i64 0, .slice none 0 0, .bool false]) rfl .u rfl rfl Try.sizeOf76 rfl rfl rfl rfl ?_
                    refine TL.run ft_cursitorref18_ok [2, 3] rfl rfl ?_
                    obtain rfl := Option.some.inj h
                    refine TL.nil (X.seq (T.ret (X.rs (X.rs ?_))))
                    refine X.nilrd 2 Top_rd ?_
                    exact X.done3 [5, 0] Try.results47 (RV.cS (us := #[.bool false, .string ⟨#[]⟩, .int .i64 0, .int .i64 0, .int .i64 0, .slice none 0 0, .bool false]) 4 rfl Try.isAgg76 Try.sizeOf76 rfl rfl) (RV.tm rfl) (RV.tm rfl) ⟨_, _, rfl, rfl, rfl⟩ (by rfl) (.inl rfl)
                  · replace h := ifF c77 h
                    refine TL.nil (X.seq ?_)
                    refine T.no rfl (decide_eq_false c77) ?_
                    refine T.skip (X.seq (T.seq (T.region rfl ?_)))
                    refine TL.run ft_cursitorref18_ok [0, 1] rfl rfl ?_
                    refine TL.q rfl .u (Ex.sIx rfl rfl ((Int.toNat_of_nonneg c74).symm) Try.underlying9 hc76) rfl ?_
                    refine TL.run ft_cursitorref18_ok [3, 4] rfl rfl ?_
                    refine TL.st0 (cs' := #[.bool x3.blob.null, .string (bsOf x3.blob.data), .int .i64 0, .int .i64 x49, .int .i64 x54, .slice none 0 0, .bool (decide ((ch75.toNat : Int) = 1))]) rfl .u rfl rfl Try.sizeOf4 rfl rfl rfl rfl ?_
                    refine TL.nil (X.seq (T.region rfl ?_))
                    replace h := guard_some h
                    obtain ⟨c78, h⟩ := h
                    refine TL.run ft_cursitorref18_ok [0] rfl rfl ?_
                    refine TL.q rfl .u (Ex.add rfl rfl c78) rfl ?_
                    refine TL.run ft_cursitorref18_ok [2] rfl rfl ?_
                    refine TL.nil (X.seq (T.seq (T.region rfl ?_)))
                    refine TL.run ft_cursitorref18_ok [0, 1] rfl rfl ?_
                    refine TL.q rfl .u (Ex.bS (us := [.bool x3.blob.null, .string (bsOf x3.blob.data), .int .i64 0, .int .i64 x49, .int .i64 x54, .slice none 0 0, .bool (decide ((ch75.toNat : Int) = 1))]) 0 rfl Try.isAgg76 Try.sizeOf76 rfl rfl rfl) rfl ?_
                    by_cases c79 : (ch75.toNat : Int) = 1
                    · replace h := ifT c79 h
                      obtain ⟨x80, hx81, h⟩ := Option.bind_eq_some_iff.1 h
                      refine TL.ce rfl .u (.fn Try.call52 rfl) (f_r18_Check_spec a0 a1 (⟨x3.blob, 0, x49, x54, [], decide ((ch75.toNat : Int) = 1)⟩ : R18Request) _ _ _ hx81) (fun _ hs => slice_nil_reads) rfl ?_
                      refine TL.run ft_cursitorref18_ok [4] rfl rfl ?_
                      refine TL.nil (X.seq (T.seq (T.seq (T.region rfl ?_))))
                      refine TL.run ft_cursitorref18_ok [0, 1] rfl rfl ?_
                      by_cases c82 : x80 = 0
                      · replace h := ifT c82 h
                        refine TL.nil (X.seq ?_)
                        refine T.no rfl (bn_f (decide_eq_true c82)) ?_
                        refine T.skip (X.seq (T.seq (T.region rfl ?_)))
                        refine TL.q rfl .u (Ex.bS (us := [.bool x3.blob.null, .string (bsOf x3.blob.data), .int .i64 0, .int .i64 x49, .int .i64 x54, .slice none 0 0, .bool (decide ((ch75.toNat : Int) = 1))]) 0 rfl Try.isAgg76 Try.sizeOf76 rfl rfl rfl) rfl ?_
                        refine TL.run ft_cursitorref18_ok [1] rfl rfl ?_
                        refine TL.st3 (cs' := #[.bool x3.blob.null, .string (bsOf x3.blob.data), .int .i64 0, .int .i64 x49, .int .i64 x54, .slice none 0 0, .bool (decide ((ch75.toNat : Int) = 1))]) rfl .u rfl rfl Try.sizeOf76 rfl rfl rfl rfl ?_
                        refine TL.run ft_cursitorref18_ok [3, 4] rfl rfl ?_
                        obtain rfl := Option.some.inj h
                        refine TL.nil (X.seq (T.ret ?_))
                        refine X.nilrd 2 Top_rd ?_
                        exact X.done3 [5, 0] Try.results47 (RV.cS (us := #[.bool x3.blob.null, .string (bsOf x3.blob.data), .int .i64 0, .int .i64 x49, .int .i64 x54, .slice none 0 0, .bool (decide ((ch75.toNat : Int) = 1))]) 4 rfl Try.isAgg76 Try.sizeOf76 rfl rfl) (RV.tm rfl) (RV.tm rfl) ⟨_, _, rfl, rfl, rfl⟩ (by rfl) (.inl rfl)
                      · replace h := ifF c82 h
                        refine TL.nil (X.seq ?_)
                        refine T.yes rfl (bn_t (decide_eq_false c82)) ?_
                        refine T.seq (T.region rfl ?_)
                        refine TL.q rfl .u (Ex.bS (us := [.bool false, .string ⟨#[]⟩, .int .i64 0, .int .i64 0, .int .i64 0, .slice none 0 0, .bool false]) 2 rfl Try.isAgg76 Try.sizeOf76 rfl rfl rfl) rfl ?_
                        refine TL.run ft_cursitorref18_ok [1] rfl rfl ?_
                        refine TL.st3 (cs' := #[.bool false, .string ⟨#[]⟩, .int .i64 0, .int .i64 0, .int .i64 0, .slice none 0 0, .bool false]) rfl .u rfl rfl Try.sizeOf76 rfl rfl rfl rfl ?_
                        refine TL.run ft_cursitorref18_ok [3, 4] rfl rfl ?_
                        obtain rfl := Option.some.inj h
                        refine TL.nil (X.seq (T.ret (X.rs ?_)))
                        refine X.nilrd 2 Top_rd ?_
                        exact X.done3 [5, 0] Try.results47 (RV.cS (us := #[.bool false, .string ⟨#[]⟩, .int .i64 0, .int .i64 0, .int .i64 0, .slice none 0 0, .bool false]) 4 rfl Try.isAgg76 Try.sizeOf76 rfl rfl) (RV.tm rfl) (RV.tm rfl) ⟨_, _, rfl, rfl, rfl⟩ (by rfl) (.inl rfl)
                    · replace h := ifF c79 h
                      obtain ⟨x83, hx84, h⟩ := Option.bind_eq_some_iff.1 h
                      refine TL.ce rfl .u (.fn Try.call52 rfl) (f_r18_Check_spec a0 a1 (⟨x3.blob, 0, x49, x54, [], decide ((ch75.toNat : Int) = 1)⟩ : R18Request) _ _ _ hx84) (fun _ hs => slice_nil_reads) rfl ?_
                      refine TL.run ft_cursitorref18_ok [4] rfl rfl ?_
                      refine TL.nil (X.seq (T.seq (T.seq (T.region rfl ?_))))
                      refine TL.run ft_cursitorref18_ok [0, 1] rfl rfl ?_
                      by_cases c85 : x83 = 0
                      · replace h := ifT c85 h
                        refine TL.nil (X.seq ?_)
                        refine T.no rfl (bn_f (decide_eq_true c85)) ?_
                        refine T.skip (X.seq (T.seq (T.region rfl ?_)))
                        refine TL.q rfl .u (Ex.bS (us := [.bool x3.blob.null, .string (bsOf x3.blob.data), .int .i64 0, .int .i64 x49, .int .i64 x54, .slice none 0 0, .bool (decide ((ch75.toNat : Int) = 1))]) 0 rfl Try.isAgg76 Try.sizeOf76 rfl rfl rfl) rfl ?_
                        refine TL.run ft_cursitorref18_ok [1] rfl rfl ?_
                        refine TL.st3 (cs' := #[.bool x3.blob.null, .string (bsOf x3.blob.data), .int .i64 0, .int .i64 x49, .int .i64 x54, .slice none 0 0, .bool (decide ((ch75.toNat : Int) = 1))]) rfl .u rfl rfl Try.sizeOf76 rfl rfl rfl rfl ?_
                        refine TL.run ft_cursitorref18_ok [3, 4] rfl rfl ?_
                        obtain rfl := Option.some.inj h
                        refine TL.nil (X.seq (T.ret ?_))
                        refine X.nilrd 2 Top_rd ?_
                        exact X.done3 [5, 0] Try.results47 (RV.cS (us := #[.bool x3.blob.null, .string (bsOf x3.blob.data), .int .i64 0, .int .i64 x49, .int .i64 x54, .slice none 0 0, .bool (decide ((ch75.toNat : Int) = 1))]) 4 rfl Try.isAgg76 Try.sizeOf76 rfl rfl) (RV.tm rfl) (RV.tm rfl) ⟨_, _, rfl, rfl, rfl⟩ (by rfl) (.inl rfl)
                      · replace h := ifF c85 h
                        refine TL.nil (X.seq ?_)
                        refine T.yes rfl (bn_t (decide_eq_false c85)) ?_
                        refine T.seq (T.region rfl ?_)
                        refine TL.q rfl .u (Ex.bS (us := [.bool false, .string ⟨#[]⟩, .int .i64 0, .int .i64 0, .int .i64 0, .slice none 0 0, .bool false]) 2 rfl Try.isAgg76 Try.sizeOf76 rfl rfl rfl) rfl ?_
                        refine TL.run ft_cursitorref18_ok [1] rfl rfl ?_
                        refine TL.st3 (cs' := #[.bool false, .string ⟨#[]⟩, .int .i64 0, .int .i64 0, .int .i64 0, .slice none 0 0, .bool false]) rfl .u rfl rfl Try.sizeOf76 rfl rfl rfl rfl ?_
                        refine TL.run ft_cursitorref18_ok [3, 4] rfl rfl ?_
                        obtain rfl := Option.some.inj h
                        refine TL.nil (X.seq (T.ret (X.rs ?_)))
                        refine X.nilrd 2 Top_rd ?_
                        exact X.done3 [5, 0] Try.results47 (RV.cS (us := #[.bool false, .string ⟨#[]⟩, .int .i64 0, .int .i64 0, .int .i64 0, .slice none 0 0, .bool false]) 4 rfl Try.isAgg76 Try.sizeOf76 rfl rfl) (RV.tm rfl) (RV.tm rfl) ⟨_, _, rfl, rfl, rfl⟩ (by rfl) (.inl rfl)
              · replace h := ifF c71 h
                refine TL.nil (X.seq ?_)
                refine T.no rfl (decide_eq_false c71) ?_
                refine T.skip (X.seq (T.seq (T.region rfl ?_)))
                refine TL.run ft_cursitorref18_ok [0, 1] rfl rfl ?_
                refine TL.q rfl .u (Ex.bS (us := [.bool x3.blob.null, .string (bsOf x3.blob.data), .int .i64 0, .int .i64 x49, .int .i64 x54, .slice none 0 0, .bool false]) 0 rfl Try.isAgg76 Try.sizeOf76 rfl rfl rfl) rfl ?_
                obtain ⟨x86, hx87, h⟩ := Option.bind_eq_some_iff.1 h
                refine TL.ce rfl .u (.fn Try.call52 rfl) (f_r18_Check_spec a0 a1 (⟨x3.blob, 0, x49, x54, [], false⟩ : R18Request) _ _ _ hx87) (fun _ hs => slice_nil_reads) rfl ?_
                refine TL.run ft_cursitorref18_ok [4] rfl rfl ?_
                refine TL.nil (X.seq (T.seq (T.seq (T.region rfl ?_))))
                refine TL.run ft_cursitorref18_ok [0, 1] rfl rfl ?_
                by_cases c88 : x86 = 0
                · replace h := ifT c88 h
                  refine TL.nil (X.seq ?_)
                  refine T.no rfl (bn_f (decide_eq_true c88)) ?_
                  refine T.skip (X.seq (T.seq (T.region rfl ?_)))
                  refine TL.q rfl .u (Ex.bS (us := [.bool x3.blob.null, .string (bsOf x3.blob.data), .int .i64 0, .int .i64 x49, .int .i64 x54, .slice none 0 0, .bool false]) 0 rfl Try.isAgg76 Try.sizeOf76 rfl rfl rfl) rfl ?_
                  refine TL.run ft_cursitorref18_ok [1] rfl rfl ?_
                  refine TL.st3 (cs' := #[.bool x3.blob.null, .string (bsOf x3.blob.data), .int .i64 0, .int .i64 x49, .int .i64 x54, .slice none 0 0, .bool false]) rfl .u rfl rfl Try.sizeOf76 rfl rfl rfl rfl ?_
                  refine TL.run ft_cursitorref18_ok [3, 4] rfl rfl ?_
                  obtain rfl := Option.some.inj h
                  refine TL.nil (X.seq (T.ret ?_))
                  refine X.nilrd 2 Top_rd ?_
                  exact X.done3 [5, 0] Try.results47 (RV.cS (us := #[.bool x3.blob.null, .string (bsOf x3.blob.data), .int .i64 0, .int .i64 x49, .int .i64 x54, .slice none 0 0, .bool false]) 4 rfl Try.isAgg76 Try.sizeOf76 rfl rfl) (RV.tm rfl) (RV.tm rfl) ⟨_, _, rfl, rfl, rfl⟩ (by rfl) (.inl rfl)
                · replace h := ifF c88 h
                  refine TL.nil (X.seq ?_)
                  refine T.yes rfl (bn_t (decide_eq_false c88)) ?_
                  refine T.seq (T.region rfl ?_)
                  refine TL.q rfl .u (Ex.bS (us := [.bool false, .string ⟨#[]⟩, .int .i64 0, .int .i64 0, .int .i64 0, .slice none 0 0, .bool false]) 2 rfl Try.isAgg76 Try.sizeOf76 rfl rfl rfl) rfl ?_
                  refine TL.run ft_cursitorref18_ok [1] rfl rfl ?_
                  refine TL.st3 (cs' := #[.bool false, .string ⟨#[]⟩, .int .i64 0, .int .i64 0, .int .i64 0, .slice none 0 0, .bool false]) rfl .u rfl rfl Try.sizeOf76 rfl rfl rfl rfl ?_
                  refine TL.run ft_cursitorref18_ok [3, 4] rfl rfl ?_
                  obtain rfl := Option.some.inj h
                  refine TL.nil (X.seq (T.ret (X.rs ?_)))
                  refine X.nilrd 2 Top_rd ?_
                  exact X.done3 [5, 0] Try.results47 (RV.cS (us := #[.bool false, .string ⟨#[]⟩, .int .i64 0, .int .i64 0, .int .i64 0, .slice none 0 0, .bool false]) 4 rfl Try.isAgg76 Try.sizeOf76 rfl rfl) (RV.tm rfl) (RV.tm rfl) ⟨_, _, rfl, rfl, rfl⟩ (by rfl) (.inl rfl)
  · replace h := ifF c6 h
    refine TL.nil (X.seq ?_)
    refine T.yes rfl (bn_t (decide_eq_false c6)) ?_
    refine T.seq (T.draw (.q 0 (.q 1 (.q 2 (.e 3 (.q 4 (.q 5 .nil)))))) [0, 0, 1] rfl mix_cursitorref18 (NoP.seq (NoP.seq np_post)) (by kernel_rfl) ?_)
    refine TD.q rfl .u (Ex.bS (us := [.bool false, .string ⟨#[]⟩, .int .i64 0, .int .i64 0, .int .i64 0, .slice none 0 0, .bool false]) 1 rfl Try.isAgg76 Try.sizeOf76 rfl rfl rfl) rfl ?_
    refine TD.run ft_cursitorref18_ok [1] rfl rfl ?_
    refine TD.q rfl .u (Ex.b1 0 rfl Try.isAgg3 rfl rfl) rfl ?_
    refine TD.st2 (cs' := #[.bool false, .string ⟨#[]⟩, .int .i64 0, .int .i64 0, .int .i64 0, .slice none 0 0, .bool false]) rfl .u rfl rfl Try.sizeOf76 rfl rfl rfl rfl [0, 0, 1] (rfl) ?_
    refine TD.run ft_cursitorref18_ok [4, 5] rfl rfl ?_
    obtain rfl := Option.some.inj h
    refine TD.nil (X.seq (T.ret (X.rs ?_)))
    refine X.nilrd 2 Top_rd ?_
    exact X.done3 [4, 0] Try.results47 (RV.cS (us := #[.bool false, .string ⟨#[]⟩, .int .i64 0, .int .i64 0, .int .i64 0, .slice none 0 0, .bool false]) 3 rfl Try.isAgg76 Try.sizeOf76 rfl rfl) (RV.tm rfl) (RV.tm rfl) ⟨_, _, rfl, rfl, rfl⟩ (by rfl) (.inl rfl)
def f_r18_Same (a0 : R18Request) (a1 : R18Request) : Option (Bool) := (if a0.fID.null = a1.fID.null then (if a0.fID.data = a1.fID.data then (if a0.fTimeout = a1.fTimeout then (if a0.fProducer = a1.fProducer then (if a0.fEpoch = a1.fEpoch then (if a0.fCommit = true then (if a1.fCommit = true then ((f_r14_SameTopics a0.fTopics a1.fTopics).bind fun x28 => some x28) else some false) else (if a1.fCommit = true then some false else ((f_r14_SameTopics a0.fTopics a1.fTopics).bind fun x31 => some x31))) else some false) else some false) else some false) else some false) else some false).bind fun y19 => some y19
set_option maxRecDepth 100000 in
set_option maxHeartbeats 4000000 in
theorem f_r18_Same_spec (a0 : R18Request) (A1 : Option Addr) (c2 : Nat) (a1 : R18Request) (A3 : Option Addr) (c4 : Nat) (r : Bool) (h : f_r18_Same a0 a1 = some r) : SpecX Try.prog 48 #[.agg #[.bool a0.fID.null, .string (bsOf a0.fID.data), .int .i64 a0.fTimeout, .int .i64 a0.fProducer, .int .i64 a0.fEpoch, .slice A1 a0.fTopics.length c2, .bool a0.fCommit], .agg #[.bool a1.fID.null, .string (bsOf a1.fID.data), .int .i64 a1.fTimeout, .int .i64 a1.fProducer, .int .i64 a1.fEpoch, .slice A3 a1.fTopics.length c4, .bool a1.fCommit]] (RX.and (RX.of (sliceRd 2 Top_rd) [.slice A1 a0.fTopics.length c2] a0.fTopics) (RX.of (sliceRd 2 Top_rd) [.slice A3 a1.fTopics.length c4] a1.fTopics)) (EmpR) (fun v A' N => v = .bool r ∧ A' = EmpR ∧ N = []) := by
  refine enterA Try.func48 rfl Try.ntmps48 rfl ?_
  intro F w hX
  unfold f_r18_Same at h
  refine T.seq (T.region rfl ?_)
  refine TL.box rfl .u rfl rfl (fun b5 => ?_)
  refine TL.box rfl .u rfl rfl (fun b6 => ?_)
  refine TL.run ft_cursitorref18_ok [2] rfl rfl ?_
  refine TL.nil (X.seq (T.seq ?_))
  obtain ⟨y19, h, hk20⟩ := Option.bind_eq_some_iff.1 h
  refine T.jq (fun e Rs => e = [(4, .bool y19)] ∧ Rs = [BlkR b6 76 #[.bool a1.fID.null, .string (bsOf a1.fID.data), .int .i64 a1.fTimeout, .int .i64 a1.fProducer, .int .i64 a1.fEpoch, .slice A3 a1.fTopics.length c4, .bool a1.fCommit], BlkR b5 76 #[.bool a0.fID.null, .string (bsOf a0.fID.data), .int .i64 a0.fTimeout, .int .i64 a0.fProducer, .int .i64 a0.fEpoch, .slice A1 a0.fTopics.length c2, .bool a0.fCommit], EmpR]) ?_ ?_
  · clear hk20
    refine T.region rfl ?_
    refine TL.run ft_cursitorref18_ok [0] rfl rfl ?_
    refine TL.q rfl .u (Ex.bS (us := [.bool a0.fID.null, .string (bsOf a0.fID.data)]) 1 rfl Try.isAgg26 Try.sizeOf26 rfl rfl rfl) rfl ?_
    refine TL.run ft_cursitorref18_ok [2] rfl rfl ?_
    refine TL.q rfl .u (Ex.bS (us := [.bool a1.fID.null, .string (bsOf a1.fID.data)]) 0 rfl Try.isAgg26 Try.sizeOf26 rfl rfl rfl) rfl ?_
    by_cases c21 : a0.fID.null = a1.fID.null
    · replace h := ifT c21 h
      by_cases c22 : a0.fID.data = a1.fID.data
      · replace h := ifT c22 h
        refine TL.q rfl .u (Ex.aEq (us := [.bool a0.fID.null, .string (bsOf a0.fID.data)]) (vs := [.bool a1.fID.null, .string (bsOf a1.fID.data)]) flat_cursitorref18_26 rfl Try.eqGuardType26 rfl rfl rfl rfl (eqL_t (eqV_b c21) (eqL_t (eqV_s (l := a0.fID.data) (m := a1.fID.data) c22) rfl))) rfl ?_
        refine TL.run ft_cursitorref18_ok [5] rfl rfl ?_
        refine TL.q rfl (.g rfl rfl rfl) (Ex.ft ft_cursitorref18_ok rfl) rfl ?_
        refine TL.q rfl (.g rfl rfl rfl) (Ex.b1 1 rfl Try.isAgg3 rfl rfl) rfl ?_
        refine TL.q rfl (.g rfl rfl rfl) (Ex.ft ft_cursitorref18_ok rfl) rfl ?_
        refine TL.q rfl (.g rfl rfl rfl) (Ex.b1 0 rfl Try.isAgg3 rfl rfl) rfl ?_
        refine TL.q rfl (.g rfl rfl rfl) (Ex.ft ft_cursitorref18_ok rfl) rfl ?_
        refine TL.q rfl .u (Ex.py rfl rfl rfl) rfl ?_
        by_cases c23 : a0.fTimeout = a1.fTimeout
        · replace h := ifT c23 h
          refine TL.run ft_cursitorref18_ok [12] rfl rfl ?_
          refine TL.q rfl (.g rfl rfl (decide_eq_true c23)) (Ex.ft ft_cursitorref18_ok rfl) rfl ?_
          refine TL.q rfl (.g rfl rfl (decide_eq_true c23)) (Ex.b1 1 rfl Try.isAgg3 rfl rfl) rfl ?_
          refine TL.q rfl (.g rfl rfl (decide_eq_true c23)) (Ex.ft ft_cursitorref18_ok rfl) rfl ?_
          refine TL.q rfl (.g rfl rfl (decide_eq_true c23)) (Ex.b1 0 rfl Try.isAgg3 rfl rfl) rfl ?_
          refine TL.q rfl (.g rfl rfl (decide_eq_true c23)) (Ex.ft ft_cursitorref18_ok rfl) rfl ?_
          refine TL.q rfl .u (Ex.py rfl (decide_eq_true c23) rfl) rfl ?_
          by_cases c24 : a0.fProducer = a1.fProducer
          · replace h := ifT c24 h
            refine TL.run ft_cursitorref18_ok [19] rfl rfl ?_
            refine TL.q rfl (.g rfl rfl (decide_eq_true c24)) (Ex.ft ft_cursitorref18_ok rfl) rfl ?_
            refine TL.q rfl (.g rfl rfl (decide_eq_true c24)) (Ex.b1 1 rfl Try.isAgg3 rfl rfl) rfl ?_
            refine TL.q rfl (.g rfl rfl (decide_eq_true c24)) (Ex.ft ft_cursitorref18_ok rfl) rfl ?_
            refine TL.q rfl (.g rfl rfl (decide_eq_true c24)) (Ex.b1 0 rfl Try.isAgg3 rfl rfl) rfl ?_
            refine TL.q rfl (.g rfl rfl (decide_eq_true c24)) (Ex.ft ft_cursitorref18_ok rfl) rfl ?_
            refine TL.q rfl .u (Ex.py rfl (decide_eq_true c24) rfl) rfl ?_
            by_cases c25 : a0.fEpoch = a1.fEpoch
            · replace h := ifT c25 h
              refine TL.run ft_cursitorref18_ok [26] rfl rfl ?_
              refine TL.q rfl (.g rfl rfl (decide_eq_true c25)) (Ex.ft ft_cursitorref18_ok rfl) rfl ?_
              refine TL.q rfl (.g rfl rfl (decide_eq_true c25)) (Ex.b1 1 rfl Try.isAgg4 rfl rfl) rfl ?_
              refine TL.q rfl (.g rfl rfl (decide_eq_true c25)) (Ex.ft ft_cursitorref18_ok rfl) rfl ?_
              refine TL.q rfl (.g rfl rfl (decide_eq_true c25)) (Ex.b1 0 rfl Try.isAgg4 rfl rfl) rfl ?_
              by_cases c26 : a0.fCommit = true
              · replace h := ifT c26 h
                by_cases c27 : a1.fCommit = true
                · replace h := ifT c27 h
                  refine TL.q rfl (.g rfl rfl (decide_eq_true c25)) (Ex.bEq rfl c26 rfl c27 Try.runUnderlying4) rfl ?_
                  refine TL.q rfl .u (Ex.py rfl (decide_eq_true c25) rfl) rfl ?_
                  refine TL.run ft_cursitorref18_ok [33] rfl rfl ?_
                  refine TL.q rfl (.g rfl rfl rfl) (Ex.ft ft_cursitorref18_ok rfl) rfl ?_
                  refine TL.q rfl (.g rfl rfl rfl) (Ex.b1 1 rfl Try.isAgg68 rfl rfl) rfl ?_
                  refine TL.q rfl (.g rfl rfl rfl) (Ex.ft ft_cursitorref18_ok rfl) rfl ?_
                  refine TL.q rfl (.g rfl rfl rfl) (Ex.b1 0 rfl Try.isAgg68 rfl rfl) rfl ?_
                  obtain ⟨x28, hx29, h⟩ := Option.bind_eq_some_iff.1 h
                  refine TL.ce rfl (.g rfl rfl rfl) (.fn Try.call110 rfl) (f_r14_SameTopics_spec a0.fTopics _ _ a1.fTopics _ _ _ hx29) (fun _ hs => (RX.reads_and (SrcE.old hs (RX.reads_left hX)) (SrcE.old hs (RX.reads_right hX)))) rfl ?_
                  refine TL.q rfl .u (Ex.py rfl rfl rfl) rfl ?_
                  refine TL.run ft_cursitorref18_ok [40] rfl rfl ?_
                  cases h
                  exact TL.nil (X.jq [0, 0, 0] ⟨rfl, rfl⟩ (by rfl) (by rfl))
                · replace h := ifF c27 h
                  replace c27 := eq_false_of_ne_true c27
                  refine TL.q rfl (.g rfl rfl (decide_eq_true c25)) (Ex.bEq rfl c26 rfl c27 Try.runUnderlying4) rfl ?_
                  refine TL.q rfl .u (Ex.py rfl (decide_eq_true c25) rfl) rfl ?_
                  refine TL.run ft_cursitorref18_ok [33] rfl rfl ?_
                  refine TL.no rfl (.gn rfl rfl rfl) rfl ?_
                  refine TL.no rfl (.gn rfl rfl rfl) rfl ?_
                  refine TL.no rfl (.gn rfl rfl rfl) rfl ?_
                  refine TL.no rfl (.gn rfl rfl rfl) rfl ?_
                  refine TL.no rfl (.gn rfl rfl rfl) rfl ?_
                  refine TL.q rfl .u (Ex.pn rfl rfl rfl) rfl ?_
                  refine TL.run ft_cursitorref18_ok [40] rfl rfl ?_
                  cases h
                  exact TL.nil (X.jq [0, 0, 0] ⟨rfl, rfl⟩ (by rfl) (by rfl))
              · replace h := ifF c26 h
                replace c26 := eq_false_of_ne_true c26
                by_cases c30 : a1.fCommit = true
                · replace h := ifT c30 h
                  refine TL.q rfl (.g rfl rfl (decide_eq_true c25)) (Ex.bEq rfl c26 rfl c30 Try.runUnderlying4) rfl ?_
                  refine TL.q rfl .u (Ex.py rfl (decide_eq_true c25) rfl) rfl ?_
                  refine TL.run ft_cursitorref18_ok [33] rfl rfl ?_
                  refine TL.no rfl (.gn rfl rfl rfl) rfl ?_
                  refine TL.no rfl (.gn rfl rfl rfl) rfl ?_
                  refine TL.no rfl (.gn rfl rfl rfl) rfl ?_
                  refine TL.no rfl (.gn rfl rfl rfl) rfl ?_
                  refine TL.no rfl (.gn rfl rfl rfl) rfl ?_
                  refine TL.q rfl .u (Ex.pn rfl rfl rfl) rfl ?_
                  refine TL.run ft_cursitorref18_ok [40] rfl rfl ?_
                  cases h
                  exact TL.nil (X.jq [0, 0, 0] ⟨rfl, rfl⟩ (by rfl) (by rfl))
                · replace h := ifF c30 h
                  replace c30 := eq_false_of_ne_true c30
                  refine TL.q rfl (.g rfl rfl (decide_eq_true c25)) (Ex.bEq rfl c26 rfl c30 Try.runUnderlying4) rfl ?_
                  refine TL.q rfl .u (Ex.py rfl (decide_eq_true c25) rfl) rfl ?_
                  refine TL.run ft_cursitorref18_ok [33] rfl rfl ?_
                  refine TL.q rfl (.g rfl rfl rfl) (Ex.ft ft_cursitorref18_ok rfl) rfl ?_
                  refine TL.q rfl (.g rfl rfl rfl) (Ex.b1 1 rfl Try.isAgg68 rfl rfl) rfl ?_
                  refine TL.q rfl (.g rfl rfl rfl) (Ex.ft ft_cursitorref18_ok rfl) rfl ?_
                  refine TL.q rfl (.g rfl rfl rfl) (Ex.b1 0 rfl Try.isAgg68 rfl rfl) rfl ?_
                  obtain ⟨x31, hx32, h⟩ := Option.bind_eq_some_iff.1 h
                  refine TL.ce rfl (.g rfl rfl rfl) (.fn Try.call110 rfl) (f_r14_SameTopics_spec a0.fTopics _ _ a1.fTopics _ _ _ hx32) (fun _ hs => (RX.reads_and (SrcE.old hs (RX.reads_left hX)) (SrcE.old hs (RX.reads_right hX)))) rfl ?_
                  refine TL.q rfl .u (Ex.py rfl rfl rfl) rfl ?_
                  refine TL.run ft_cursitorref18_ok [40] rfl rfl ?_
                  cases h
                  exact TL.nil (X.jq [0, 0, 0] ⟨rfl, rfl⟩ (by rfl) (by rfl))
            · replace h := ifF c25 h
              refine TL.run ft_cursitorref18_ok [26] rfl rfl ?_
              refine TL.no rfl (.gn rfl rfl (decide_eq_false c25)) rfl ?_
              refine TL.no rfl (.gn rfl rfl (decide_eq_false c25)) rfl ?_
              refine TL.no rfl (.gn rfl rfl (decide_eq_false c25)) rfl ?_
              refine TL.no rfl (.gn rfl rfl (decide_eq_false c25)) rfl ?_
              refine TL.no rfl (.gn rfl rfl (decide_eq_false c25)) rfl ?_
              refine TL.q rfl .u (Ex.pn rfl (decide_eq_false c25) rfl) rfl ?_
              refine TL.run ft_cursitorref18_ok [33] rfl rfl ?_
              refine TL.no rfl (.gn rfl rfl rfl) rfl ?_
              refine TL.no rfl (.gn rfl rfl rfl) rfl ?_
              refine TL.no rfl (.gn rfl rfl rfl) rfl ?_
              refine TL.no rfl (.gn rfl rfl rfl) rfl ?_
              refine TL.no rfl (.gn rfl rfl rfl) rfl ?_
              refine TL.q rfl .u (Ex.pn rfl rfl rfl) rfl ?_
              refine TL.run ft_cursitorref18_ok [40] rfl rfl ?_
              cases h
              exact TL.nil (X.jq [0, 0, 0] ⟨rfl, rfl⟩ (by rfl) (by rfl))
          · replace h := ifF c24 h
            refine TL.run ft_cursitorref18_ok [19] rfl rfl ?_
            refine TL.no rfl (.gn rfl rfl (decide_eq_false c24)) rfl ?_
            refine TL.no rfl (.gn rfl rfl (decide_eq_false c24)) rfl ?_
            refine TL.no rfl (.gn rfl rfl (decide_eq_false c24)) rfl ?_
            refine TL.no rfl (.gn rfl rfl (decide_eq_false c24)) rfl ?_
            refine TL.no rfl (.gn rfl rfl (decide_eq_false c24)) rfl ?_
            refine TL.q rfl .u (Ex.pn rfl (decide_eq_false c24) rfl) rfl ?_
            refine TL.run ft_cursitorref18_ok [26] rfl rfl ?_
            refine TL.no rfl (.gn rfl rfl rfl) rfl ?_
            refine TL.no rfl (.gn rfl rfl rfl) rfl ?_
            refine TL.no rfl (.gn rfl rfl rfl) rfl ?_
            refine TL.no rfl (.gn rfl rfl rfl) rfl ?_
            refine TL.no rfl (.gn rfl rfl rfl) rfl ?_
            refine TL.q rfl .u (Ex.pn rfl rfl rfl) rfl ?_
            refine TL.run ft_cursitorref18_ok [33] rfl rfl ?_
            refine TL.no rfl (.gn rfl rfl rfl) rfl ?_
            refine TL.no rfl (.gn rfl rfl rfl) rfl ?_
            refine TL.no rfl (.gn rfl rfl rfl) rfl ?_
            refine TL.no rfl (.gn rfl rfl rfl) rfl ?_
            refine TL.no rfl (.gn rfl rfl rfl) rfl ?_
            refine TL.q rfl .u (Ex.pn rfl rfl rfl) rfl ?_
            refine TL.run ft_cursitorref18_ok [40] rfl rfl ?_
            cases h
            exact TL.nil (X.jq [0, 0, 0] ⟨rfl, rfl⟩ (by rfl) (by rfl))
        · replace h := ifF c23 h
          refine TL.run ft_cursitorref18_ok [12] rfl rfl ?_
          refine TL.no rfl (.gn rfl rfl (decide_eq_false c23)) rfl ?_
          refine TL.no rfl (.gn rfl rfl (decide_eq_false c23)) rfl ?_
          refine TL.no rfl (.gn rfl rfl (decide_eq_false c23)) rfl ?_
          refine TL.no rfl (.gn rfl rfl (decide_eq_false c23)) rfl ?_
          refine TL.no rfl (.gn rfl rfl (decide_eq_false c23)) rfl ?_
          refine TL.q rfl .u (Ex.pn rfl (decide_eq_false c23) rfl) rfl ?_
          refine TL.run ft_cursitorref18_ok [19] rfl rfl ?_
          refine TL.no rfl (.gn rfl rfl rfl) rfl ?_
          refine TL.no rfl (.gn rfl rfl rfl) rfl ?_
          refine TL.no rfl (.gn rfl rfl rfl) rfl ?_
          refine TL.no rfl (.gn rfl rfl rfl) rfl ?_
          refine TL.no rfl (.gn rfl rfl rfl) rfl ?_
          refine TL.q rfl .u (Ex.pn rfl rfl rfl) rfl ?_
          refine TL.run ft_cursitorref18_ok [26] rfl rfl ?_
          refine TL.no rfl (.gn rfl rfl rfl) rfl ?_
          refine TL.no rfl (.gn rfl rfl rfl) rfl ?_
          refine TL.no rfl (.gn rfl rfl rfl) rfl ?_
          refine TL.no rfl (.gn rfl rfl rfl) rfl ?_
          refine TL.no rfl (.gn rfl rfl rfl) rfl ?_
          refine TL.q rfl .u (Ex.pn rfl rfl rfl) rfl ?_
          refine TL.run ft_cursitorref18_ok [33] rfl rfl ?_
          refine TL.no rfl (.gn rfl rfl rfl) rfl ?_
          refine TL.no rfl (.gn rfl rfl rfl) rfl ?_
          refine TL.no rfl (.gn rfl rfl rfl) rfl ?_
          refine TL.no rfl (.gn rfl rfl rfl) rfl ?_
          refine TL.no rfl (.gn rfl rfl rfl) rfl ?_
          refine TL.q rfl .u (Ex.pn rfl rfl rfl) rfl ?_
          refine TL.run ft_cursitorref18_ok [40] rfl rfl ?_
          cases h
          exact TL.nil (X.jq [0, 0, 0] ⟨rfl, rfl⟩ (by rfl) (by rfl))
      · replace h := ifF c22 h
        refine TL.q rfl .u (Ex.aEq (us := [.bool a0.fID.null, .string (bsOf a0.fID.data)]) (vs := [.bool a1.fID.null, .string (bsOf a1.fID.data)]) flat_cursitorref18_26 rfl Try.eqGuardType26 rfl rfl rfl rfl (eqL_t (eqV_b c21) (eqL_f (eqV_sn (l := a0.fID.data) (m := a1.fID.data) c22)))) rfl ?_
        refine TL.run ft_cursitorref18_ok [5] rfl rfl ?_
        refine TL.no rfl (.gn rfl rfl rfl) rfl ?_
        refine TL.no rfl (.gn rfl rfl rfl) rfl ?_
        refine TL.no rfl (.gn rfl rfl rfl) rfl ?_
        refine TL.no rfl (.gn rfl rfl rfl) rfl ?_
        refine TL.no rfl (.gn rfl rfl rfl) rfl ?_
        refine TL.q rfl .u (Ex.pn rfl rfl rfl) rfl ?_
        refine TL.run ft_cursitorref18_ok [12] rfl rfl ?_
        refine TL.no rfl (.gn rfl rfl rfl) rfl ?_
        refine TL.no rfl (.gn rfl rfl rfl) rfl ?_
        refine TL.no rfl (.gn rfl rfl rfl) rfl ?_
        refine TL.no rfl (.gn rfl rfl rfl) rfl ?_
        refine TL.no rfl (.gn rfl rfl rfl) rfl ?_
        refine TL.q rfl .u (Ex.pn rfl rfl rfl) rfl ?_
        refine TL.run ft_cursitorref18_ok [19] rfl rfl ?_
        refine TL.no rfl (.gn rfl rfl rfl) rfl ?_
        refine TL.no rfl (.gn rfl rfl rfl) rfl ?_
        refine TL.no rfl (.gn rfl rfl rfl) rfl ?_
        refine TL.no rfl (.gn rfl rfl rfl) rfl ?_
        refine TL.no rfl (.gn rfl rfl rfl) rfl ?_
        refine TL.q rfl .u (Ex.pn rfl rfl rfl) rfl ?_
        refine TL.run ft_cursitorref18_ok [26] rfl rfl ?_
        refine TL.no rfl (.gn rfl rfl rfl) rfl ?_
        refine TL.no rfl (.gn rfl rfl rfl) rfl ?_
        refine TL.no rfl (.gn rfl rfl rfl) rfl ?_
        refine TL.no rfl (.gn rfl rfl rfl) rfl ?_
        refine TL.no rfl (.gn rfl rfl rfl) rfl ?_
        refine TL.q rfl .u (Ex.pn rfl rfl rfl) rfl ?_
        refine TL.run ft_cursitorref18_ok [33] rfl rfl ?_
        refine TL.no rfl (.gn rfl rfl rfl) rfl ?_
        refine TL.no rfl (.gn rfl rfl rfl) rfl ?_
        refine TL.no rfl (.gn rfl rfl rfl) rfl ?_
        refine TL.no rfl (.gn rfl rfl rfl) rfl ?_
        refine TL.no rfl (.gn rfl rfl rfl) rfl ?_
        refine TL.q rfl .u (Ex.pn rfl rfl rfl) rfl ?_
        refine TL.run ft_cursitorref18_ok [40] rfl rfl ?_
        cases h
        exact TL.nil (X.jq [0, 0, 0] ⟨rfl, rfl⟩ (by rfl) (by rfl))
    · replace h := ifF c21 h
      refine TL.q rfl .u (Ex.aEq (us := [.bool a0.fID.null, .string (bsOf a0.fID.data)]) (vs := [.bool a1.fID.null, .string (bsOf a1.fID.data)]) flat_cursitorref18_26 rfl Try.eqGuardType26 rfl rfl rfl rfl (eqL_f (eqV_bn c21))) rfl ?_
      refine TL.run ft_cursitorref18_ok [5] rfl rfl ?_
      refine TL.no rfl (.gn rfl rfl rfl) rfl ?_
      refine TL.no rfl (.gn rfl rfl rfl) rfl ?_
      refine TL.no rfl (.gn rfl rfl rfl) rfl ?_
      refine TL.no rfl (.gn rfl rfl rfl) rfl ?_
      refine TL.no rfl (.gn rfl rfl rfl) rfl ?_
      refine TL.q rfl .u (Ex.pn rfl rfl rfl) rfl ?_
      refine TL.run ft_cursitorref18_ok [12] rfl rfl ?_
      refine TL.no rfl (.gn rfl rfl rfl) rfl ?_
      refine TL.no rfl (.gn rfl rfl rfl) rfl ?_
      refine TL.no rfl (.gn rfl rfl rfl) rfl ?_
      refine TL.no rfl (.gn rfl rfl rfl) rfl ?_
      refine TL.no rfl (.gn rfl rfl rfl) rfl ?_
      refine TL.q rfl .u (Ex.pn rfl rfl rfl) rfl ?_
      refine TL.run ft_cursitorref18_ok [19] rfl rfl ?_
      refine TL.no rfl (.gn rfl rfl rfl) rfl ?_
      refine TL.no rfl (.gn rfl rfl rfl) rfl ?_
      refine TL.no rfl (.gn rfl rfl rfl) rfl ?_
      refine TL.no rfl (.gn rfl rfl rfl) rfl ?_
      refine TL.no rfl (.gn rfl rfl rfl) rfl ?_
      refine TL.q rfl .u (Ex.pn rfl rfl rfl) rfl ?_
      refine TL.run ft_cursitorref18_ok [26] rfl rfl ?_
      refine TL.no rfl (.gn rfl rfl rfl) rfl ?_
      refine TL.no rfl (.gn rfl rfl rfl) rfl ?_
      refine TL.no rfl (.gn rfl rfl rfl) rfl ?_
      refine TL.no rfl (.gn rfl rfl rfl) rfl ?_
      refine TL.no rfl (.gn rfl rfl rfl) rfl ?_
      refine TL.q rfl .u (Ex.pn rfl rfl rfl) rfl ?_
      refine TL.run ft_cursitorref18_ok [33] rfl rfl ?_
      refine TL.no rfl (.gn rfl rfl rfl) rfl ?_
      refine TL.no rfl (.gn rfl rfl rfl) rfl ?_
      refine TL.no rfl (.gn rfl rfl rfl) rfl ?_
      refine TL.no rfl (.gn rfl rfl rfl) rfl ?_
      refine TL.no rfl (.gn rfl rfl rfl) rfl ?_
      refine TL.q rfl .u (Ex.pn rfl rfl rfl) rfl ?_
      refine TL.run ft_cursitorref18_ok [40] rfl rfl ?_
      cases h
      exact TL.nil (X.jq [0, 0, 0] ⟨rfl, rfl⟩ (by rfl) (by rfl))
  · rintro _ _ ⟨rfl, rfl⟩
    clear h
    have h := hk20
    clear hk20
    try dsimp only at h
    obtain rfl := Option.some.inj h
    exact X.seq (T.ret (X.done1 [2] Try.results48 (RV.tm rfl) ⟨rfl, rfl, rfl⟩ (by rfl) (.inl rfl)))
def f_r18_Write (a0 : Int) (a1 : Int) (a2 : R18Request) : Option (List UInt8) := (gRBFixed a2.fID 2).bind fun x4 => if a0 = 22 then ((gRBytes a2.fTimeout 4).bind fun x7 => if x4.length + x7.length ≤ 9223372036854775807 then (if a1 = 0 then some (x4 ++ x7) else ((gRBytes a2.fProducer 8).bind fun x11 => if (x4 ++ x7).length + x11.length ≤ 9223372036854775807 then ((gRBytes a2.fEpoch 2).bind fun x14 => if ((x4 ++ x7) ++ x11).length + x14.length ≤ 9223372036854775807 then (some (((x4 ++ x7) ++ x11) ++ x14)) else none) else none)) else none) else ((gRBytes a2.fProducer 8).bind fun x19 => if x4.length + x19.length ≤ 9223372036854775807 then ((gRBytes a2.fEpoch 2).bind fun x22 => if (x4 ++ x19).length + x22.length ≤ 9223372036854775807 then (if a0 = 24 then ((f_r14_Topics a2.fTopics).bind fun x26 => if ((x4 ++ x19) ++ x22).length + x26.length ≤ 9223372036854775807 then (some (((x4 ++ x19) ++ x22) ++ x26)) else none) else ((if a0 = 26 then some a2.fCommit else some false).bind fun y30 => if y30 = true then ((gRBytes 1 1).bind fun x34 => if ((x4 ++ x19) ++ x22).length + x34.length ≤ 9223372036854775807 then (some (((x4 ++ x19) ++ x22) ++ x34)) else none) else (if a0 = 26 then ((gRBytes 0 1).bind fun x38 => if ((x4 ++ x19) ++ x22).length + x38.length ≤ 9223372036854775807 then (some (((x4 ++ x19) ++ x22) ++ x38)) else none) else (some ((x4 ++ x19) ++ x22))))) else none) else none)
set_option maxRecDepth 100000 in
set_option maxHeartbeats 4000000 in
theorem f_r18_Write_spec (a0 : Int) (a1 : Int) (a2 : R18Request) (A1 : Option Addr) (c2 : Nat) (r : List UInt8) (h : f_r18_Write a0 a1 a2 = some r) : SpecX Try.prog 49 #[.int .i64 a0, .int .i64 a1, .agg #[.bool a2.fID.null, .string (bsOf a2.fID.data), .int .i64 a2.fTimeout, .int .i64 a2.fProducer, .int .i64 a2.fEpoch, .slice A1 a2.fTopics.length c2, .bool a2.fCommit]] (RX.of (sliceRd 2 Top_rd) [.slice A1 a2.fTopics.length c2] a2.fTopics) (EmpR) (fun v A' N => v = .string (bsOf r) ∧ A' = EmpR ∧ N = []) := by
  refine enterA Try.func49 rfl Try.ntmps49 rfl ?_
  intro F w hX
  unfold f_r18_Write at h
  refine T.seq (T.region rfl ?_)
  refine TL.box rfl .u rfl rfl (fun b3 => ?_)
  refine TL.run ft_cursitorref18_ok [1] rfl rfl ?_
  refine TL.nil (X.seq (T.seq (T.region rfl ?_)))
  refine TL.run ft_cursitorref18_ok [0] rfl rfl ?_
  refine TL.q rfl .u (Ex.bS (us := [.bool a2.fID.null, .string (bsOf a2.fID.data)]) 0 rfl Try.isAgg26 Try.sizeOf26 rfl rfl rfl) rfl ?_
  obtain ⟨x4, hx5, h⟩ := Option.bind_eq_some_iff.1 h
  refine TL.ce rfl .u (.fn Try.call122 rfl) (gRBFixed_spec a2.fID 2 _ hx5) (fun _ hs => (RX.reads_triv _ _)) rfl ?_
  refine TL.run ft_cursitorref18_ok [3] rfl rfl ?_
  refine TL.nil (X.seq (T.seq (T.seq (T.region rfl ?_))))
  refine TL.run ft_cursitorref18_ok [0, 1] rfl rfl ?_
  by_cases c6 : a0 = 22
  · replace h := ifT c6 h
    refine TL.nil (X.seq ?_)
    refine T.yes rfl (decide_eq_true c6) ?_
    refine T.seq (T.region rfl ?_)
    refine TL.run ft_cursitorref18_ok [0, 1] rfl rfl ?_
    refine TL.q rfl .u (Ex.b1 0 rfl Try.isAgg3 rfl rfl) rfl ?_
    obtain ⟨x7, hx8, h⟩ := Option.bind_eq_some_iff.1 h
    refine TL.ce rfl .u (.fn Try.call111 rfl) (gRBytes_spec a2.fTimeout 4 _ hx8) (fun _ hs => (RX.reads_triv _ _)) rfl ?_
    replace h := guard_some h
    obtain ⟨c9, h⟩ := h
    refine TL.q rfl .u (Ex.sAdd rfl rfl c9) rfl ?_
    refine TL.run ft_cursitorref18_ok [5] rfl rfl ?_
    refine TL.nil (X.seq (T.seq (T.region rfl ?_)))
    refine TL.run ft_cursitorref18_ok [0, 1] rfl rfl ?_
    by_cases c10 : a1 = 0
    · replace h := ifT c10 h
      refine TL.nil (X.seq ?_)
      refine T.yes rfl (decide_eq_true c10) ?_
      refine T.seq (T.region rfl ?_)
      refine TL.run ft_cursitorref18_ok [0, 1] rfl rfl ?_
      obtain rfl := Option.some.inj h
      exact TL.nil (X.seq (T.ret (X.rs (X.done1 [1] Try.results49 (RV.tm rfl) ⟨rfl, rfl, rfl⟩ (by rfl) (.inl rfl)))))
    · replace h := ifF c10 h
      refine TL.nil (X.seq ?_)
      refine T.no rfl (decide_eq_false c10) ?_
      refine T.skip (X.seq (T.seq (T.draw (.q 0 (.q 1 (.q 2 (.q 5 (.q 6 (.e 3 (.q 4 (.e 7 (.q 8 (.q 9 .nil)))))))))) [0, 0] rfl mix_cursitorref18 (NoP.seq np_post) (by kernel_rfl) ?_)))
      refine TD.run ft_cursitorref18_ok [0, 1] rfl rfl ?_
      refine TD.q rfl .u (Ex.b1 0 rfl Try.isAgg3 rfl rfl) rfl ?_
      refine TD.run ft_cursitorref18_ok [5] rfl rfl ?_
      refine TD.q rfl .u (Ex.b1 0 rfl Try.isAgg3 rfl rfl) rfl ?_
      obtain ⟨x11, hx12, h⟩ := Option.bind_eq_some_iff.1 h
      refine TD.ce rfl .u (.fn Try.call111 rfl) (gRBytes_spec a2.fProducer 8 _ hx12) (fun _ hs => (RX.reads_triv _ _)) rfl [0, 0] (rfl) ?_
      replace h := guard_some h
      obtain ⟨c13, h⟩ := h
      refine TD.q rfl .u (Ex.sAdd rfl rfl c13) rfl ?_
      obtain ⟨x14, hx15, h⟩ := Option.bind_eq_some_iff.1 h
      refine TD.ce rfl .u (.fn Try.call111 rfl) (gRBytes_spec a2.fEpoch 2 _ hx15) (fun _ hs => (RX.reads_triv _ _)) rfl [0, 0] (rfl) ?_
      replace h := guard_some h
      obtain ⟨c16, h⟩ := h
      refine TD.q rfl .u (Ex.sAdd rfl rfl c16) rfl ?_
      refine TD.run ft_cursitorref18_ok [9] rfl rfl ?_
      refine TD.nil (X.seq (T.seq (T.seq (T.region rfl ?_))))
      refine TL.run ft_cursitorref18_ok [0, 1] rfl rfl ?_
      have c17 : ¬ (a0 = 24) := by have hq := c6; omega
      refine TL.nil (X.seq ?_)
      refine T.no rfl (decide_eq_false c17) ?_
      refine T.skip (X.seq (T.seq (T.seq (T.region rfl ?_))))
      have c18 : ¬ (a0 = 26) := by have hq := c6; omega
      refine TL.run ft_cursitorref18_ok [0, 1, 2] rfl rfl ?_
      refine TL.no rfl (.gn rfl rfl (decide_eq_false c18)) rfl ?_
      refine TL.no rfl (.gn rfl rfl (decide_eq_false c18)) rfl ?_
      refine TL.q rfl .u (Ex.pn rfl (decide_eq_false c18) rfl) rfl ?_
      refine TL.nil (X.seq ?_)
      refine T.no rfl rfl ?_
      refine T.skip (X.seq (T.seq (T.seq (T.region rfl ?_))))
      refine TL.run ft_cursitorref18_ok [0, 1] rfl rfl ?_
      refine TL.nil (X.seq ?_)
      refine T.no rfl (decide_eq_false c18) ?_
      refine T.skip (X.seq (T.seq (T.region rfl ?_)))
      refine TL.run ft_cursitorref18_ok [0, 1] rfl rfl ?_
      obtain rfl := Option.some.inj h
      exact TL.nil (X.seq (T.ret (X.done1 [1] Try.results49 (RV.tm rfl) ⟨rfl, rfl, rfl⟩ (by rfl) (.inl rfl))))
  · replace h := ifF c6 h
    refine TL.nil (X.seq ?_)
    refine T.no rfl (decide_eq_false c6) ?_
    refine T.skip (X.seq (T.seq (T.draw (.q 0 (.q 1 (.q 2 (.q 5 (.q 6 (.e 3 (.q 4 (.e 7 (.q 8 (.q 9 .nil)))))))))) [0, 0] rfl mix_cursitorref18 (NoP.seq np_post) (by kernel_rfl) ?_)))
    refine TD.run ft_cursitorref18_ok [0, 1] rfl rfl ?_
    refine TD.q rfl .u (Ex.b1 0 rfl Try.isAgg3 rfl rfl) rfl ?_
    refine TD.run ft_cursitorref18_ok [5] rfl rfl ?_
    refine TD.q rfl .u (Ex.b1 0 rfl Try.isAgg3 rfl rfl) rfl ?_
    obtain ⟨x19, hx20, h⟩ := Option.bind_eq_some_iff.1 h
    refine TD.ce rfl .u (.fn Try.call111 rfl) (gRBytes_spec a2.fProducer 8 _ hx20) (fun _ hs => (RX.reads_triv _ _)) rfl [0, 0] (rfl) ?_
    replace h := guard_some h
    obtain ⟨c21, h⟩ := h
    refine TD.q rfl .u (Ex.sAdd rfl rfl c21) rfl ?_
    obtain ⟨x22, hx23, h⟩ := Option.bind_eq_some_iff.1 h
    refine TD.ce rfl .u (.fn Try.call111 rfl) (gRBytes_spec a2.fEpoch 2 _ hx23) (fun _ hs => (RX.reads_triv _ _)) rfl [0, 0] (rfl) ?_
    replace h := guard_some h
    obtain ⟨c24, h⟩ := h
    refine TD.q rfl .u (Ex.sAdd rfl rfl c24) rfl ?_
    refine TD.run ft_cursitorref18_ok [9] rfl rfl ?_
    refine TD.nil (X.seq (T.seq (T.seq (T.region rfl ?_))))
    refine TL.run ft_cursitorref18_ok [0, 1] rfl rfl ?_
    by_cases c25 : a0 = 24
    · replace h := ifT c25 h
      refine TL.nil (X.seq ?_)
      refine T.yes rfl (decide_eq_true c25) ?_
      refine T.seq (T.region rfl ?_)
      refine TL.run ft_cursitorref18_ok [0, 1] rfl rfl ?_
      refine TL.q rfl .u (Ex.b1 0 rfl Try.isAgg68 rfl rfl) rfl ?_
      obtain ⟨x26, hx27, h⟩ := Option.bind_eq_some_iff.1 h
      refine TL.ce rfl .u (.fn Try.call112 rfl) (f_r14_Topics_spec a2.fTopics _ _ _ hx27) (fun _ hs => (SrcE.old hs hX)) rfl ?_
      replace h := guard_some h
      obtain ⟨c28, h⟩ := h
      refine TL.q rfl .u (Ex.sAdd rfl rfl c28) rfl ?_
      refine TL.run ft_cursitorref18_ok [5] rfl rfl ?_
      obtain rfl := Option.some.inj h
      exact TL.nil (X.seq (T.ret (X.rs (X.done1 [1] Try.results49 (RV.tm rfl) ⟨rfl, rfl, rfl⟩ (by rfl) (.inl rfl)))))
    · replace h := ifF c25 h
      refine TL.nil (X.seq ?_)
      refine T.no rfl (decide_eq_false c25) ?_
      refine T.skip (X.seq (T.seq (T.seq ?_)))
      obtain ⟨y30, h, hk31⟩ := Option.bind_eq_some_iff.1 h
      refine T.jq (fun e Rs => e = [(0, .int .i64 a0), (6, .string ⟨#[]⟩), (7, .string (bsOf ((x4 ++ x19) ++ x22))), (42, .bool y30)] ∧ Rs = [BlkR b3 76 #[.bool a2.fID.null, .string (bsOf a2.fID.data), .int .i64 a2.fTimeout, .int .i64 a2.fProducer, .int .i64 a2.fEpoch, .slice A1 a2.fTopics.length c2, .bool a2.fCommit], EmpR]) ?_ ?_
      · clear hk31
        refine T.region rfl ?_
        by_cases c32 : a0 = 26
        · replace h := ifT c32 h
          refine TL.run ft_cursitorref18_ok [0, 1, 2] rfl rfl ?_
          refine TL.q rfl (.g rfl rfl (decide_eq_true c32)) (Ex.ft ft_cursitorref18_ok rfl) rfl ?_
          refine TL.q rfl (.g rfl rfl (decide_eq_true c32)) (Ex.b1 0 rfl Try.isAgg4 rfl rfl) rfl ?_
          refine TL.q rfl .u (Ex.py rfl (decide_eq_true c32) rfl) rfl ?_
          cases h
          exact TL.nil (X.jq [0, 0] ⟨rfl, rfl⟩ (by rfl) (by rfl))
        · replace h := ifF c32 h
          refine TL.run ft_cursitorref18_ok [0, 1, 2] rfl rfl ?_
          refine TL.no rfl (.gn rfl rfl (decide_eq_false c32)) rfl ?_
          refine TL.no rfl (.gn rfl rfl (decide_eq_false c32)) rfl ?_
          refine TL.q rfl .u (Ex.pn rfl (decide_eq_false c32) rfl) rfl ?_
          cases h
          exact TL.nil (X.jq [0, 0] ⟨rfl, rfl⟩ (by rfl) (by rfl))
      · rintro _ _ ⟨rfl, rfl⟩
        clear h
        have h := hk31
        clear hk31
        try dsimp only at h
        by_cases c33 : y30 = true
        · replace h := ifT c33 h
          refine X.seq ?_
          refine T.yes rfl c33 ?_
          refine T.seq (T.region rfl ?_)
          obtain ⟨x34, hx35, h⟩ := Option.bind_eq_some_iff.1 h
          refine TL.run ft_cursitorref18_ok [0] rfl rfl ?_
          refine TL.ce rfl .u (.fn Try.call111 rfl) (gRBytes_spec 1 1 _ hx35) (fun _ hs => (RX.reads_triv _ _)) rfl ?_
          replace h := guard_some h
          obtain ⟨c36, h⟩ := h
          refine TL.q rfl .u (Ex.sAdd rfl rfl c36) rfl ?_
          refine TL.run ft_cursitorref18_ok [3] rfl rfl ?_
          obtain rfl := Option.some.inj h
          exact TL.nil (X.seq (T.ret (X.rs (X.done1 [1] Try.results49 (RV.tm rfl) ⟨rfl, rfl, rfl⟩ (by rfl) (.inl rfl)))))
        · replace h := ifF c33 h
          replace c33 := eq_false_of_ne_true c33
          refine X.seq ?_
          refine T.no rfl c33 ?_
          refine T.skip (X.seq (T.seq (T.seq (T.region rfl ?_))))
          refine TL.run ft_cursitorref18_ok [0, 1] rfl rfl ?_
          by_cases c37 : a0 = 26
          · replace h := ifT c37 h
            refine TL.nil (X.seq ?_)
            refine T.yes rfl (decide_eq_true c37) ?_
            refine T.seq (T.region rfl ?_)
            obtain ⟨x38, hx39, h⟩ := Option.bind_eq_some_iff.1 h
            refine TL.run ft_cursitorref18_ok [0] rfl rfl ?_
            refine TL.ce rfl .u (.fn Try.call111 rfl) (gRBytes_spec 0 1 _ hx39) (fun _ hs => (RX.reads_triv _ _)) rfl ?_
            replace h := guard_some h
            obtain ⟨c40, h⟩ := h
            refine TL.q rfl .u (Ex.sAdd rfl rfl c40) rfl ?_
            refine TL.run ft_cursitorref18_ok [3] rfl rfl ?_
            obtain rfl := Option.some.inj h
            exact TL.nil (X.seq (T.ret (X.rs (X.done1 [1] Try.results49 (RV.tm rfl) ⟨rfl, rfl, rfl⟩ (by rfl) (.inl rfl)))))
          · replace h := ifF c37 h
            refine TL.nil (X.seq ?_)
            refine T.no rfl (decide_eq_false c37) ?_
            refine T.skip (X.seq (T.seq (T.region rfl ?_)))
            refine TL.run ft_cursitorref18_ok [0, 1] rfl rfl ?_
            obtain rfl := Option.some.inj h
            exact TL.nil (X.seq (T.ret (X.done1 [1] Try.results49 (RV.tm rfl) ⟨rfl, rfl, rfl⟩ (by rfl) (.inl rfl))))
end Go.Proofs.Ytagbblaegdedpaa.Sl
namespace Go.Proofs.Ytagbblaegdedpaa.Sl
open Go.RowKit
set_option linter.unusedVariables false
set_option linter.unusedSimpArgs false
set_option maxRecDepth 100000
def ft_cursitorlaw18 : FTab := [(26, 0, 0), (26, 1, 1), (76, 0, 0), (76, 1, 2), (76, 2, 3), (76, 3, 4), (76, 4, 5), (76, 5, 6), (107, 0, 0), (107, 1, 2), (107, 2, 3), (107, 3, 4), (109, 0, 0), (109, 1, 1), (109, 2, 2), (109, 3, 3), (180, 0, 0), (180, 1, 1), (180, 2, 2), (180, 3, 3)]
theorem ft_cursitorlaw18_ok : (ft_cursitorlaw18).OK Try.prog := ⟨FOK.mk Try.runUnderlying26 rfl Try.sizeOf4 rfl, FOK.mk Try.runUnderlying26 rfl Try.sizeOf9 rfl, FOK.mk Try.runUnderlying76 rfl Try.sizeOf26 rfl, FOK.mk Try.runUnderlying76 rfl Try.sizeOf3 rfl, FOK.mk Try.runUnderlying76 rfl Try.sizeOf3 rfl, FOK.mk Try.runUnderlying76 rfl Try.sizeOf3 rfl, FOK.mk Try.runUnderlying76 rfl Try.sizeOf68 rfl, FOK.mk Try.runUnderlying76 rfl Try.sizeOf4 rfl, FOK.mk Try.runUnderlying107 rfl Try.sizeOf26 rfl, FOK.mk Try.runUnderlying107 rfl Try.sizeOf3 rfl, FOK.mk Try.runUnderlying107 rfl Try.sizeOf3 rfl, FOK.mk Try.runUnderlying107 rfl Try.sizeOf3 rfl, FOK.mk Try.runUnderlying109 rfl Try.sizeOf9 rfl, FOK.mk Try.runUnderlying109 rfl Try.sizeOf3 rfl, FOK.mk Try.runUnderlying109 rfl Try.sizeOf3 rfl, FOK.mk Try.runUnderlying109 rfl Try.sizeOf4 rfl, FOK.mk Try.runUnderlying180 rfl Try.sizeOf9 rfl, FOK.mk Try.runUnderlying180 rfl Try.sizeOf3 rfl, FOK.mk Try.runUnderlying180 rfl Try.sizeOf3 rfl, FOK.mk Try.runUnderlying180 rfl Try.sizeOf68 rfl, trivial⟩
theorem mix_cursitorlaw18 : Try.prog.follows .mixedOrders = true := by kernel_rfl
theorem flat_cursitorlaw18_109 : Flat Try.prog 2 109 [.string, .int .i64, .int .i64, .bool] true := (Flat.struct Try.isAgg109 Try.sizeOf109 rfl Try.underlying109 Try.stoodInHeld109 ⟨by decide, rfl, [.string], [.int .i64, .int .i64, .bool], false, rfl, (Flat.one_ Try.isAgg9 Try.sizeOf9 Try.underlying9), ⟨by decide, rfl, [.int .i64], [.int .i64, .bool], false, rfl, (Flat.one_ Try.isAgg3 Try.sizeOf3 Try.underlying3), ⟨by decide, rfl, [.int .i64], [.bool], false, rfl, (Flat.one_ Try.isAgg3 Try.sizeOf3 Try.underlying3), ⟨by decide, rfl, [.bool], [], false, rfl, (Flat.one_ Try.isAgg4 Try.sizeOf4 Try.underlying4), rfl⟩⟩⟩⟩)
theorem bok_cursitorlaw18_26 : BOK Try.prog 26 #[.bool false, .string ⟨#[]⟩] [(0, 1), (1, 1)] := BOK.mk Try.zeroValue26 Try.runUnderlying26 (by intro w; simp)
theorem bok_cursitorlaw18_76 : BOK Try.prog 76 #[.bool false, .string ⟨#[]⟩, .int .i64 0, .int .i64 0, .int .i64 0, .slice none 0 0, .bool false] [(0, 2), (2, 1), (3, 1), (4, 1), (5, 1), (6, 1)] := BOK.mk Try.zeroValue76 Try.runUnderlying76 (by intro w; simp)
theorem bok_cursitorlaw18_109 : BOK Try.prog 109 #[.string ⟨#[]⟩, .int .i64 0, .int .i64 0, .bool false] [(0, 1), (1, 1), (2, 1), (3, 1)] := BOK.mk Try.zeroValue109 Try.runUnderlying109 (by intro w; simp)
theorem bok_cursitorlaw18_178 : BOK Try.prog 178 #[.int .i64 0, .int .i64 0, .int .i64 0] [(0, 1), (1, 1), (2, 1)] := BOK.mkA Try.zeroValue178 Try.runUnderlying178 Try.sizeOf3 (by decide)
def f_l18_speaks  : Option (Bool) := (f_txn_EndWrite ([], 0) (⟨[97], 0, 0, true⟩ : TxnEnd)).bind fun st2 => (gOText st2).bind fun (x4, x5, st6) => (gNew x4).bind fun st8 => (if x5 = 0 then (if x4 = [0, 1, 97, 0, 0, 0, 0, 0, 0, 0, 0, 0, 0, 1] then ((f_txn_ReadEnd st8).bind fun (x30, st31) => if x30.fID = [97] then (if x30.fProducer = 0 then (if x30.fEpoch = 0 then (if x30.fCommit = true then ((f_txn_Rise []).bind fun x37 => if x37 = 10 then ((f_txn_Who 0 0).bind fun x40 => some (x40, st31)) else some (false, st31)) else some (false, st31)) else some (false, st31)) else some (false, st31)) else some (false, st31)) else some (false, st8)) else some (false, st8)).bind fun (y25, st26) => some y25
set_option maxRecDepth 100000 in
set_option maxHeartbeats 4000000 in
theorem f_l18_speaks_spec  (r : Bool) (h : f_l18_speaks  = some r) : SpecX Try.prog 44 #[] .triv (EmpR) (fun v A' N => v = .bool r ∧ A' = EmpR ∧ N = []) := by
  refine enterA Try.func44 rfl Try.ntmps44 rfl ?_
  intro F w hX
  unfold f_l18_speaks at h
  refine T.seq (T.region rfl ?_)
  refine TL.run ft_cursitorlaw18_ok [0] rfl rfl ?_
  refine TL.nil (X.seq (T.seq (T.region rfl ?_)))
  refine TL.newout rfl .u Try.zeroValue50 rfl (fun b1 => ?_)
  refine TL.nil (X.seq (T.seq (T.region rfl ?_)))
  refine TL.q rfl .u (Ex.bld (cells := #[.string ⟨#[97]⟩, .int .i64 0, .int .i64 0, .bool true]) bok_cursitorlaw18_109 rfl (by kernel_rfl)) rfl ?_
  obtain ⟨st2, hx3, h⟩ := Option.bind_eq_some_iff.1 h
  refine TL.c0 rfl .u (.fn Try.call66 rfl) (f_txn_EndWrite_spec b1 ([], 0) (⟨[97], 0, 0, true⟩ : TxnEnd) _ hx3) (fun _ hs => (Src.triv _)) rfl ?_
  obtain ⟨⟨x4, x5, st6⟩, hx7, h⟩ := Option.bind_eq_some_iff.1 h
  try dsimp only at h
  refine TL.nil (X.seq (T.seq (T.region rfl ?_)))
  refine TL.c0 rfl .u (.fn Try.call30 rfl) (gOText_spec b1 st2 _ hx7) (fun _ hs => (Src.triv _)) rfl ?_
  refine TL.run ft_cursitorlaw18_ok [1, 2, 3, 4, 5] rfl rfl ?_
  refine TL.nil (X.seq (T.seq (T.region rfl ?_)))
  obtain ⟨st8, hx9, h⟩ := Option.bind_eq_some_iff.1 h
  refine TL.run ft_cursitorlaw18_ok [0] rfl rfl ?_
  refine TL.cge rfl .u (.fn Try.call16 rfl) (gNew_spec x4 _ hx9) (fun _ hs => (RX.reads_triv _ _)) rfl ?_
  rintro _ _ _ ⟨b10, rfl, rfl, rfl⟩
  refine TL.sel [0, 0, 0] rfl ?_
  refine TL.run ft_cursitorlaw18_ok [2] rfl rfl ?_
  refine TL.nil (X.seq (T.seq ?_))
  obtain ⟨⟨y25, st26⟩, h, hk27⟩ := Option.bind_eq_some_iff.1 h
  refine T.jq (fun e Rs => e = [(0, .bool y25)] ∧ Rs = [InR b10 st26, OutR b1 st6, EmpR]) ?_ ?_
  · clear hk27
    refine T.region rfl ?_
    by_cases c28 : x5 = 0
    · replace h := ifT c28 h
      refine TL.run ft_cursitorlaw18_ok [0, 1, 2] rfl rfl ?_
      refine TL.q rfl (.g rfl rfl (decide_eq_true c28)) (Ex.ft ft_cursitorlaw18_ok rfl) rfl ?_
      refine TL.q rfl (.g rfl rfl (decide_eq_true c28)) (Ex.sEq rfl (m := [0, 1, 97, 0, 0, 0, 0, 0, 0, 0, 0, 0, 0, 1]) rfl) rfl ?_
      refine TL.q rfl .u (Ex.py rfl (decide_eq_true c28) rfl) rfl ?_
      by_cases c29 : x4 = [0, 1, 97, 0, 0, 0, 0, 0, 0, 0, 0, 0, 0, 1]
      · replace h := ifT c29 h
        refine TL.run ft_cursitorlaw18_ok [6] rfl rfl ?_
        refine TL.q rfl (.g rfl rfl (decide_eq_true c29)) (Ex.ft ft_cursitorlaw18_ok rfl) rfl ?_
        refine TL.q rfl (.g rfl rfl (decide_eq_true c29)) (Ex.pNe (.inr ⟨rfl, rfl⟩) rfl rfl Try.runUnderlying23) rfl ?_
        refine TL.q rfl .u (Ex.py rfl (decide_eq_true c29) rfl) rfl ?_
        refine TL.run ft_cursitorlaw18_ok [10] rfl rfl ?_
        refine TL.q rfl (.g rfl rfl rfl) (Ex.ft ft_cursitorlaw18_ok rfl) rfl ?_
        obtain ⟨⟨x30, st31⟩, hx32, h⟩ := Option.bind_eq_some_iff.1 h
        try dsimp only at h
        refine TL.c0 rfl (.g rfl rfl rfl) (.fn Try.call69 rfl) (f_txn_ReadEnd_spec b10 st8 _ hx32) (fun _ hs => (Src.triv _)) rfl ?_
        refine TL.q rfl (.g rfl rfl rfl) (Ex.bld (cells := #[.string ⟨#[97]⟩, .int .i64 0, .int .i64 0, .bool true]) bok_cursitorlaw18_109 rfl (by kernel_rfl)) rfl ?_
        by_cases c33 : x30.fID = [97]
        · replace h := ifT c33 h
          by_cases c34 : x30.fProducer = 0
          · replace h := ifT c34 h
            by_cases c35 : x30.fEpoch = 0
            · replace h := ifT c35 h
              by_cases c36 : x30.fCommit = true
              · replace h := ifT c36 h
                refine TL.q rfl (.g rfl rfl rfl) (Ex.aEq (us := [.string (bsOf x30.fID), .int .i64 x30.fProducer, .int .i64 x30.fEpoch, .bool x30.fCommit]) (vs := [.string ⟨#[97]⟩, .int .i64 0, .int .i64 0, .bool true]) flat_cursitorlaw18_109 rfl Try.eqGuardType109 rfl rfl rfl rfl (eqL_t (eqV_s (l := x30.fID) (m := [97]) c33) (eqL_t (eqV_i c34) (eqL_t (eqV_i c35) (eqL_t (eqV_b (c36.trans (Eq.symm rfl))) rfl))))) rfl ?_
                refine TL.q rfl .u (Ex.py rfl rfl rfl) rfl ?_
                obtain ⟨x37, hx38, h⟩ := Option.bind_eq_some_iff.1 h
                refine TL.run ft_cursitorlaw18_ok [16] rfl rfl ?_
                refine TL.ce rfl (.g rfl rfl rfl) (.fn Try.call118 rfl) (f_txn_Rise_spec [] _ _ _ hx38) (fun _ hs => slice_nil_reads) rfl ?_
                refine TL.q rfl (.g rfl rfl rfl) (Ex.ft ft_cursitorlaw18_ok rfl) rfl ?_
                refine TL.q rfl .u (Ex.py rfl rfl rfl) rfl ?_
                by_cases c39 : x37 = 10
                · replace h := ifT c39 h
                  obtain ⟨x40, hx41, h⟩ := Option.bind_eq_some_iff.1 h
                  refine TL.run ft_cursitorlaw18_ok [20] rfl rfl ?_
                  refine TL.ce rfl (.g rfl rfl (decide_eq_true c39)) (.fn Try.call117 rfl) (f_txn_Who_spec 0 0 _ hx41) (fun _ hs => (RX.reads_triv _ _)) rfl ?_
                  refine TL.q rfl .u (Ex.py rfl (decide_eq_true c39) rfl) rfl ?_
                  refine TL.run ft_cursitorlaw18_ok [23] rfl rfl ?_
                  cases h
                  exact TL.nil (X.jq [0, 0, 0] ⟨rfl, rfl⟩ (by rfl) (by rfl))
                · replace h := ifF c39 h
                  refine TL.run ft_cursitorlaw18_ok [20] rfl rfl ?_
                  refine TL.no rfl (.gn rfl rfl (decide_eq_false c39)) rfl ?_
                  refine TL.q rfl .u (Ex.pn rfl (decide_eq_false c39) rfl) rfl ?_
                  refine TL.run ft_cursitorlaw18_ok [23] rfl rfl ?_
                  cases h
                  exact TL.nil (X.jq [0, 0, 0] ⟨rfl, rfl⟩ (by rfl) (by rfl))
              · replace h := ifF c36 h
                replace c36 := eq_false_of_ne_true c36
                refine TL.q rfl (.g rfl rfl rfl) (Ex.aEq (us := [.string (bsOf x30.fID), .int .i64 x30.fProducer, .int .i64 x30.fEpoch, .bool x30.fCommit]) (vs := [.string ⟨#[97]⟩, .int .i64 0, .int .i64 0, .bool true]) flat_cursitorlaw18_109 rfl Try.eqGuardType109 rfl rfl rfl rfl (eqL_t (eqV_s (l := x30.fID) (m := [97]) c33) (eqL_t (eqV_i c34) (eqL_t (eqV_i c35) (eqL_f (eqV_bn (fun h => absurd ((Eq.symm c36).trans (h.trans rfl)) (by decide)))))))) rfl ?_
                refine TL.q rfl .u (Ex.py rfl rfl rfl) rfl ?_
                refine TL.run ft_cursitorlaw18_ok [16] rfl rfl ?_
                refine TL.no rfl (.gn rfl rfl rfl) rfl ?_
                refine TL.no rfl (.gn rfl rfl rfl) rfl ?_
                refine TL.q rfl .u (Ex.pn rfl rfl rfl) rfl ?_
                refine TL.run ft_cursitorlaw18_ok [20] rfl rfl ?_
                refine TL.no rfl (.gn rfl rfl rfl) rfl ?_
                refine TL.q rfl .u (Ex.pn rfl rfl rfl) rfl ?_
                refine TL.run ft_cursitorlaw18_ok [23] rfl rfl ?_
                cases h
                exact TL.nil (X.jq [0, 0, 0] ⟨rfl, rfl⟩ (by rfl) (by rfl))
            · replace h := ifF c35 h
              refine TL.q rfl (.g rfl rfl rfl) (Ex.aEq (us := [.string (bsOf x30.fID), .int .i64 x30.fProducer, .int .i64 x30.fEpoch, .bool x30.fCommit]) (vs := [.string ⟨#[97]⟩, .int .i64 0, .int .i64 0, .bool true]) flat_cursitorlaw18_109 rfl Try.eqGuardType109 rfl rfl rfl rfl (eqL_t (eqV_s (l := x30.fID) (m := [97]) c33) (eqL_t (eqV_i c34) (eqL_f (eqV_in c35))))) rfl ?_
              refine TL.q rfl .u (Ex.py rfl rfl rfl) rfl ?_
              refine TL.run ft_cursitorlaw18_ok [16] rfl rfl ?_
              refine TL.no rfl (.gn rfl rfl rfl) rfl ?_
              refine TL.no rfl (.gn rfl rfl rfl) rfl ?_
              refine TL.q rfl .u (Ex.pn rfl rfl rfl) rfl ?_
              refine TL.run ft_cursitorlaw18_ok [20] rfl rfl ?_
              refine TL.no rfl (.gn rfl rfl rfl) rfl ?_
              refine TL.q rfl .u (Ex.pn rfl rfl rfl) rfl ?_
              refine TL.run ft_cursitorlaw18_ok [23] rfl rfl ?_
              cases h
              exact TL.nil (X.jq [0, 0, 0] ⟨rfl, rfl⟩ (by rfl) (by rfl))
          · replace h := ifF c34 h
            refine TL.q rfl (.g rfl rfl rfl) (Ex.aEq (us := [.string (bsOf x30.fID), .int .i64 x30.fProducer, .int .i64 x30.fEpoch, .bool x30.fCommit]) (vs := [.string ⟨#[97]⟩, .int .i64 0, .int .i64 0, .bool true]) flat_cursitorlaw18_109 rfl Try.eqGuardType109 rfl rfl rfl rfl (eqL_t (eqV_s (l := x30.fID) (m := [97]) c33) (eqL_f (eqV_in c34)))) rfl ?_
            refine TL.q rfl .u (Ex.py rfl rfl rfl) rfl ?_
            refine TL.run ft_cursitorlaw18_ok [16] rfl rfl ?_
            refine TL.no rfl (.gn rfl rfl rfl) rfl ?_
            refine TL.no rfl (.gn rfl rfl rfl) rfl ?_
            refine TL.q rfl .u (Ex.pn rfl rfl rfl) rfl ?_
            refine TL.run ft_cursitorlaw18_ok [20] rfl rfl ?_
            refine TL.no rfl (.gn rfl rfl rfl) rfl ?_
            refine TL.q rfl .u (Ex.pn rfl rfl rfl) rfl ?_
            refine TL.run ft_cursitorlaw18_ok [23] rfl rfl ?_
            cases h
            exact TL.nil (X.jq [0, 0, 0] ⟨rfl, rfl⟩ (by rfl) (by rfl))
        · replace h := ifF c33 h
          refine TL.q rfl (.g rfl rfl rfl) (Ex.aEq (us := [.string (bsOf x30.fID), .int .i64 x30.fProducer, .int .i64 x30.fEpoch, .bool x30.fCommit]) (vs := [.string ⟨#[97]⟩, .int .i64 0, .int .i64 0, .bool true]) flat_cursitorlaw18_109 rfl Try.eqGuardType109 rfl rfl rfl rfl (eqL_f (eqV_sn (l := x30.fID) (m := [97]) c33))) rfl ?_
          refine TL.q rfl .u (Ex.py rfl rfl rfl) rfl ?_
          refine TL.run ft_cursitorlaw18_ok [16] rfl rfl ?_
          refine TL.no rfl (.gn rfl rfl rfl) rfl ?_
          refine TL.no rfl (.gn rfl rfl rfl) rfl ?_
          refine TL.q rfl .u (Ex.pn rfl rfl rfl) rfl ?_
          refine TL.run ft_cursitorlaw18_ok [20] rfl rfl ?_
          refine TL.no rfl (.gn rfl rfl rfl) rfl ?_
          refine TL.q rfl .u (Ex.pn rfl rfl rfl) rfl ?_
          refine TL.run ft_cursitorlaw18_ok [23] rfl rfl ?_
          cases h
          exact TL.nil (X.jq [0, 0, 0] ⟨rfl, rfl⟩ (by rfl) (by rfl))
      · replace h := ifF c29 h
        refine TL.run ft_cursitorlaw18_ok [6] rfl rfl ?_
        refine TL.no rfl (.gn rfl rfl (decide_eq_false c29)) rfl ?_
        refine TL.no rfl (.gn rfl rfl (decide_eq_false c29)) rfl ?_
        refine TL.q rfl .u (Ex.pn rfl (decide_eq_false c29) rfl) rfl ?_
        refine TL.run ft_cursitorlaw18_ok [10] rfl rfl ?_
        refine TL.no rfl (.gn rfl rfl rfl) rfl ?_
        refine TL.no rfl (.gn rfl rfl rfl) rfl ?_
        refine TL.no rfl (.gn rfl rfl rfl) rfl ?_
        refine TL.no rfl (.gn rfl rfl rfl) rfl ?_
        refine TL.q rfl .u (Ex.pn rfl rfl rfl) rfl ?_
        refine TL.run ft_cursitorlaw18_ok [16] rfl rfl ?_
        refine TL.no rfl (.gn rfl rfl rfl) rfl ?_
        refine TL.no rfl (.gn rfl rfl rfl) rfl ?_
        refine TL.q rfl .u (Ex.pn rfl rfl rfl) rfl ?_
        refine TL.run ft_cursitorlaw18_ok [20] rfl rfl ?_
        refine TL.no rfl (.gn rfl rfl rfl) rfl ?_
        refine TL.q rfl .u (Ex.pn rfl rfl rfl) rfl ?_
        refine TL.run ft_cursitorlaw18_ok [23] rfl rfl ?_
        cases h
        exact TL.nil (X.jq [0, 0, 0] ⟨rfl, rfl⟩ (by rfl) (by rfl))
    · replace h := ifF c28 h
      refine TL.run ft_cursitorlaw18_ok [0, 1, 2] rfl rfl ?_
      refine TL.no rfl (.gn rfl rfl (decide_eq_false c28)) rfl ?_
      refine TL.no rfl (.gn rfl rfl (decide_eq_false c28)) rfl ?_
      refine TL.q rfl .u (Ex.pn rfl (decide_eq_false c28) rfl) rfl ?_
      refine TL.run ft_cursitorlaw18_ok [6] rfl rfl ?_
      refine TL.no rfl (.gn rfl rfl rfl) rfl ?_
      refine TL.no rfl (.gn rfl rfl rfl) rfl ?_
      refine TL.q rfl .u (Ex.pn rfl rfl rfl) rfl ?_
      refine TL.run ft_cursitorlaw18_ok [10] rfl rfl ?_
      refine TL.no rfl (.gn rfl rfl rfl) rfl ?_
      refine TL.no rfl (.gn rfl rfl rfl) rfl ?_
      refine TL.no rfl (.gn rfl rfl rfl) rfl ?_
      refine TL.no rfl (.gn rfl rfl rfl) rfl ?_
      refine TL.q rfl .u (Ex.pn rfl rfl rfl) rfl ?_
      refine TL.run ft_cursitorlaw18_ok [16] rfl rfl ?_
      refine TL.no rfl (.gn rfl rfl rfl) rfl ?_
      refine TL.no rfl (.gn rfl rfl rfl) rfl ?_
      refine TL.q rfl .u (Ex.pn rfl rfl rfl) rfl ?_
      refine TL.run ft_cursitorlaw18_ok [20] rfl rfl ?_
      refine TL.no rfl (.gn rfl rfl rfl) rfl ?_
      refine TL.q rfl .u (Ex.pn rfl rfl rfl) rfl ?_
      refine TL.run ft_cursitorlaw18_ok [23] rfl rfl ?_
      cases h
      exact TL.nil (X.jq [0, 0, 0] ⟨rfl, rfl⟩ (by rfl) (by rfl))
  · rintro _ _ ⟨rfl, rfl⟩
    clear h
    have h := hk27
    clear hk27
    try dsimp only at h
    obtain rfl := Option.some.inj h
    exact X.seq (T.ret (X.done1 [2] Try.results44 (RV.tm rfl) ⟨rfl, rfl, rfl⟩ (by rfl) (.inl rfl)))
def f_l18_kinds (a0 : Int) : Option (Int) := if 0 ≤ a0 then (if (a0 % 3) = 0 then some 22 else (if (a0 % 3) = 1 then some 24 else (if (a0 % 3) = 2 then some 26 else none))) else none
set_option maxRecDepth 100000 in
set_option maxHeartbeats 4000000 in
theorem f_l18_kinds_spec (a0 : Int) (r : Int) (h : f_l18_kinds a0 = some r) : SpecX Try.prog 45 #[.int .u8 a0] .triv (EmpR) (fun v A' N => v = .int .i64 r ∧ A' = EmpR ∧ N = []) := by
  refine enterA Try.func45 rfl Try.ntmps45 rfl ?_
  intro F w hX
  unfold f_l18_kinds at h
  refine T.seq (T.region rfl ?_)
  refine TL.run ft_cursitorlaw18_ok [0] rfl rfl ?_
  refine TL.nil (X.seq (T.seq (T.region rfl ?_)))
  refine TL.q rfl .u (Ex.bld (cells := #[.int .i64 22, .int .i64 24, .int .i64 26]) bok_cursitorlaw18_178 rfl (by kernel_rfl)) rfl ?_
  replace h := guard_some h
  obtain ⟨c1, h⟩ := h
  refine TL.run ft_cursitorlaw18_ok [1] rfl rfl ?_
  refine TL.q rfl .u (Ex.remK rfl rfl (by omega) c1) rfl ?_
  by_cases c2 : (a0 % 3) = 0
  · replace h := ifT c2 h
    refine TL.q rfl .u (Ex.ixA1 (cs := [.int .i64 22, .int .i64 24, .int .i64 26]) (k := 0) rfl rfl c2 Try.runUnderlying178 Try.sizeOf3 Try.isAgg3 (by decide) rfl) rfl ?_
    refine TL.run ft_cursitorlaw18_ok [4] rfl rfl ?_
    obtain rfl := Option.some.inj h
    exact TL.nil (X.seq (T.ret (X.done1 [0] Try.results45 (RV.tm rfl) ⟨rfl, rfl, rfl⟩ (by rfl) (.inl rfl))))
  · replace h := ifF c2 h
    by_cases c3 : (a0 % 3) = 1
    · replace h := ifT c3 h
      refine TL.q rfl .u (Ex.ixA1 (cs := [.int .i64 22, .int .i64 24, .int .i64 26]) (k := 1) rfl rfl c3 Try.runUnderlying178 Try.sizeOf3 Try.isAgg3 (by decide) rfl) rfl ?_
      refine TL.run ft_cursitorlaw18_ok [4] rfl rfl ?_
      obtain rfl := Option.some.inj h
      exact TL.nil (X.seq (T.ret (X.done1 [0] Try.results45 (RV.tm rfl) ⟨rfl, rfl, rfl⟩ (by rfl) (.inl rfl))))
    · replace h := ifF c3 h
      replace h := guard_some h
      obtain ⟨c4, h⟩ := h
      refine TL.q rfl .u (Ex.ixA1 (cs := [.int .i64 22, .int .i64 24, .int .i64 26]) (k := 2) rfl rfl c4 Try.runUnderlying178 Try.sizeOf3 Try.isAgg3 (by decide) rfl) rfl ?_
      refine TL.run ft_cursitorlaw18_ok [4] rfl rfl ?_
      obtain rfl := Option.some.inj h
      exact TL.nil (X.seq (T.ret (X.done1 [0] Try.results45 (RV.tm rfl) ⟨rfl, rfl, rfl⟩ (by rfl) (.inl rfl))))
def f_l18_read (st : I) (a0 : Int) (a1 : Int) : Option (R18Request × I) := if a0 = 22 then ((f_txn_ReadBegin st a1).bind fun (x3, st4) => some ((⟨x3.fID, x3.fTimeout, x3.fProducer, x3.fEpoch, [], false⟩ : R18Request), st4)) else (if a0 = 24 then ((f_txn_ReadAdd st).bind fun (x8, st11) => some ((⟨(⟨false, x8.fID⟩ : Bl), 0, x8.fProducer, x8.fEpoch, x8.fTopics, false⟩ : R18Request), st11)) else ((f_txn_ReadEnd st).bind fun (x14, st15) => some ((⟨(⟨false, x14.fID⟩ : Bl), 0, x14.fProducer, x14.fEpoch, [], x14.fCommit⟩ : R18Request), st15)))
set_option maxRecDepth 100000 in
set_option maxHeartbeats 4000000 in
theorem f_l18_read_spec (g : Nat) (st : I) (a0 : Int) (a1 : Int) (r : R18Request × I) (h : f_l18_read st a0 a1 = some r) : SpecX Try.prog 46 #[.int .i64 a0, .int .i64 a1, .pointer (some ⟨g, 0, none⟩)] .triv (InR g st) (fun v A' N => ∃ (A18 : Option Addr) (c19 : Nat), v = .agg #[.bool r.1.fID.null, .string (bsOf r.1.fID.data), .int .i64 r.1.fTimeout, .int .i64 r.1.fProducer, .int .i64 r.1.fEpoch, .slice A18 r.1.fTopics.length c19, .bool r.1.fCommit] ∧ A' = InR g r.2 ∧ N = [RdR (sliceRd 2 Top_rd) [.slice A18 r.1.fTopics.length c19] r.1.fTopics]) := by
  refine enterA Try.func46 rfl Try.ntmps46 rfl ?_
  intro F w hX
  unfold f_l18_read at h
  refine T.seq (T.region rfl ?_)
  refine TL.alloc rfl .u Try.zeroValue76 rfl (fun b1 => ?_)
  refine TL.nil (X.seq (T.seq (T.seq (T.region rfl ?_))))
  refine TL.run ft_cursitorlaw18_ok [0] rfl rfl ?_
  refine TL.nil (X.seq (T.block (T.seq (T.region rfl ?_))))
  refine TL.run ft_cursitorlaw18_ok [0, 1] rfl rfl ?_
  by_cases c2 : a0 = 22
  · replace h := ifT c2 h
    refine TL.nil (X.seq ?_)
    refine T.yes rfl (decide_eq_true c2) ?_
    refine T.seq (T.region rfl ?_)
    obtain ⟨⟨x3, st4⟩, hx5, h⟩ := Option.bind_eq_some_iff.1 h
    try dsimp only at h
    refine TL.run ft_cursitorlaw18_ok [0, 1] rfl rfl ?_
    refine TL.c1 rfl .u (.fn Try.call68 rfl) (f_txn_ReadBegin_spec g st a1 _ hx5) (fun _ hs => (Src.triv _)) rfl ?_
    refine TL.alloc rfl .u Try.zeroValue107 rfl (fun b6 => ?_)
    refine TL.st0 (cs' := #[.bool x3.fID.null, .string (bsOf x3.fID.data), .int .i64 x3.fTimeout, .int .i64 x3.fProducer, .int .i64 x3.fEpoch]) rfl .u rfl rfl Try.sizeOf107 rfl rfl rfl rfl ?_
    refine TL.nil (X.seq (T.seq (T.region rfl ?_)))
    refine TL.run ft_cursitorlaw18_ok [0] rfl rfl ?_
    refine TL.q rfl .u (Ex.bS (us := [.bool x3.fID.null, .string (bsOf x3.fID.data)]) 0 rfl Try.isAgg26 Try.sizeOf26 rfl rfl rfl) rfl ?_
    refine TL.run ft_cursitorlaw18_ok [2] rfl rfl ?_
    refine TL.q rfl .u (Ex.b1 0 rfl Try.isAgg3 rfl rfl) rfl ?_
    refine TL.run ft_cursitorlaw18_ok [4] rfl rfl ?_
    refine TL.q rfl .u (Ex.b1 0 rfl Try.isAgg3 rfl rfl) rfl ?_
    refine TL.run ft_cursitorlaw18_ok [6] rfl rfl ?_
    refine TL.q rfl .u (Ex.b1 0 rfl Try.isAgg3 rfl rfl) rfl ?_
    refine TL.q rfl .u (Ex.bld (cells := #[.bool x3.fID.null, .string (bsOf x3.fID.data), .int .i64 x3.fTimeout, .int .i64 x3.fProducer, .int .i64 x3.fEpoch, .slice none 0 0, .bool false]) bok_cursitorlaw18_76 rfl (by kernel_rfl)) rfl ?_
    refine TL.st1 (cs' := #[.bool x3.fID.null, .string (bsOf x3.fID.data), .int .i64 x3.fTimeout, .int .i64 x3.fProducer, .int .i64 x3.fEpoch, .slice none 0 0, .bool false]) rfl .u rfl rfl Try.sizeOf76 rfl rfl rfl rfl ?_
    obtain rfl := Option.some.inj h
    refine TL.nil (X.seq (T.ret (X.rb (X.rs ?_))))
    refine X.nilrd 2 Top_rd ?_
    exact X.done1 [3, 0] Try.results46 (RV.cS (us := #[.bool x3.fID.null, .string (bsOf x3.fID.data), .int .i64 x3.fTimeout, .int .i64 x3.fProducer, .int .i64 x3.fEpoch, .slice none 0 0, .bool false]) 2 rfl Try.isAgg76 Try.sizeOf76 rfl rfl) ⟨_, _, rfl, rfl, rfl⟩ (by rfl) (.inl rfl)
  · replace h := ifF c2 h
    refine TL.nil (X.seq ?_)
    refine T.no rfl (decide_eq_false c2) ?_
    refine T.seq (T.region rfl ?_)
    refine TL.run ft_cursitorlaw18_ok [0, 1] rfl rfl ?_
    by_cases c7 : a0 = 24
    · replace h := ifT c7 h
      refine TL.nil (X.seq ?_)
      refine T.yes rfl (decide_eq_true c7) ?_
      refine T.seq (T.region rfl ?_)
      obtain ⟨⟨x8, st11⟩, hx12, h⟩ := Option.bind_eq_some_iff.1 h
      try dsimp only at h
      refine TL.run ft_cursitorlaw18_ok [0] rfl rfl ?_
      refine TL.cg1 rfl .u (.fn Try.call120 rfl) (f_txn_ReadAdd_spec g st _ hx12) (fun _ hs => (Src.triv _)) rfl ?_
      rintro _ _ _ ⟨A9, c10, rfl, rfl, rfl⟩
      refine TL.sel [0, 0, 0] rfl ?_
      refine TL.alloc rfl .u Try.zeroValue180 rfl (fun b13 => ?_)
      refine TL.st0 (cs' := #[.string (bsOf x8.fID), .int .i64 x8.fProducer, .int .i64 x8.fEpoch, .slice A9 x8.fTopics.length c10]) rfl .u rfl rfl Try.sizeOf180 rfl rfl rfl rfl ?_
      refine TL.nil (X.seq (T.seq (T.region rfl ?_)))
      refine TL.run ft_cursitorlaw18_ok [0] rfl rfl ?_
      refine TL.q rfl .u (Ex.b1 0 rfl Try.isAgg9 rfl rfl) rfl ?_
      refine TL.q rfl .u (Ex.bld (cells := #[.bool false, .string (bsOf x8.fID)]) bok_cursitorlaw18_26 rfl (by kernel_rfl)) rfl ?_
      refine TL.run ft_cursitorlaw18_ok [3] rfl rfl ?_
      refine TL.q rfl .u (Ex.b1 0 rfl Try.isAgg3 rfl rfl) rfl ?_
      refine TL.run ft_cursitorlaw18_ok [5] rfl rfl ?_
      refine TL.q rfl .u (Ex.b1 0 rfl Try.isAgg3 rfl rfl) rfl ?_
      refine TL.run ft_cursitorlaw18_ok [7] rfl rfl ?_
      refine TL.q rfl .u (Ex.b1 0 rfl Try.isAgg68 rfl rfl) rfl ?_
      refine TL.q rfl .u (Ex.bld (cells := #[.bool false, .string (bsOf x8.fID), .int .i64 0, .int .i64 x8.fProducer, .int .i64 x8.fEpoch, .slice A9 x8.fTopics.length c10, .bool false]) bok_cursitorlaw18_76 rfl (by kernel_rfl)) rfl ?_
      refine TL.st2 (cs' := #[.bool false, .string (bsOf x8.fID), .int .i64 0, .int .i64 x8.fProducer, .int .i64 x8.fEpoch, .slice A9 x8.fTopics.length c10, .bool false]) rfl .u rfl rfl Try.sizeOf76 rfl rfl rfl rfl ?_
      obtain rfl := Option.some.inj h
      exact TL.nil (X.seq (T.ret (X.rb (X.rs (X.done1 [3, 1] Try.results46 (RV.cS (us := #[.bool false, .string (bsOf x8.fID), .int .i64 0, .int .i64 x8.fProducer, .int .i64 x8.fEpoch, .slice A9 x8.fTopics.length c10, .bool false]) 2 rfl Try.isAgg76 Try.sizeOf76 rfl rfl) ⟨_, _, rfl, rfl, rfl⟩ (by rfl) (.inl rfl))))))
    · replace h := ifF c7 h
      refine TL.nil (X.seq ?_)
      refine T.no rfl (decide_eq_false c7) ?_
      refine T.skip (X.blk (X.seq (T.seq (T.region rfl ?_))))
      obtain ⟨⟨x14, st15⟩, hx16, h⟩ := Option.bind_eq_some_iff.1 h
      try dsimp only at h
      refine TL.run ft_cursitorlaw18_ok [0] rfl rfl ?_
      refine TL.c1 rfl .u (.fn Try.call69 rfl) (f_txn_ReadEnd_spec g st _ hx16) (fun _ hs => (Src.triv _)) rfl ?_
      refine TL.alloc rfl .u Try.zeroValue109 rfl (fun b17 => ?_)
      refine TL.st0 (cs' := #[.string (bsOf x14.fID), .int .i64 x14.fProducer, .int .i64 x14.fEpoch, .bool x14.fCommit]) rfl .u rfl rfl Try.sizeOf109 rfl rfl rfl rfl ?_
      refine TL.nil (X.seq (T.seq (T.region rfl ?_)))
      refine TL.run ft_cursitorlaw18_ok [0] rfl rfl ?_
      refine TL.q rfl .u (Ex.b1 0 rfl Try.isAgg9 rfl rfl) rfl ?_
      refine TL.q rfl .u (Ex.bld (cells := #[.bool false, .string (bsOf x14.fID)]) bok_cursitorlaw18_26 rfl (by kernel_rfl)) rfl ?_
      refine TL.run ft_cursitorlaw18_ok [3] rfl rfl ?_
      refine TL.q rfl .u (Ex.b1 0 rfl Try.isAgg3 rfl rfl) rfl ?_
      refine TL.run ft_cursitorlaw18_ok [5] rfl rfl ?_
      refine TL.q rfl .u (Ex.b1 0 rfl Try.isAgg3 rfl rfl) rfl ?_
      refine TL.run ft_cursitorlaw18_ok [7] rfl rfl ?_
      refine TL.q rfl .u (Ex.b1 0 rfl Try.isAgg4 rfl rfl) rfl ?_
      refine TL.q rfl .u (Ex.bld (cells := #[.bool false, .string (bsOf x14.fID), .int .i64 0, .int .i64 x14.fProducer, .int .i64 x14.fEpoch, .slice none 0 0, .bool x14.fCommit]) bok_cursitorlaw18_76 rfl (by kernel_rfl)) rfl ?_
      refine TL.st1 (cs' := #[.bool false, .string (bsOf x14.fID), .int .i64 0, .int .i64 x14.fProducer, .int .i64 x14.fEpoch, .slice none 0 0, .bool x14.fCommit]) rfl .u rfl rfl Try.sizeOf76 rfl rfl rfl rfl ?_
      obtain rfl := Option.some.inj h
      refine TL.nil (X.seq (T.ret ?_))
      refine X.nilrd 2 Top_rd ?_
      exact X.done1 [3, 0] Try.results46 (RV.cS (us := #[.bool false, .string (bsOf x14.fID), .int .i64 0, .int .i64 x14.fProducer, .int .i64 x14.fEpoch, .slice none 0 0, .bool x14.fCommit]) 2 rfl Try.isAgg76 Try.sizeOf76 rfl rfl) ⟨_, _, rfl, rfl, rfl⟩ (by rfl) (.inl rfl)
def f_l18_TxnReads (a0 : Int) (a1 : Int) (a2 : List UInt8) : Option (Bool) := (f_l18_speaks).bind fun x1 => if x1 = true then (if (a2.length : Int) > 2000 then some true else ((f_l18_kinds a0).bind fun x5 => if 0 ≤ a1 then (if -9223372036854775808 ≤ (a1 % 2) ∧ (a1 % 2) ≤ 9223372036854775807 then ((gNew a2).bind fun st9 => (f_l18_read st9 x5 (a1 % 2)).bind fun (x12, st15) => (f_r18_Read x5 (a1 % 2) a2).bind fun (x18, x21, x22) => (gErr st15).bind fun (x25, st26) => if x25 = x22 then (if x22 = 0 then (((f_r18_Same x12 x18).bind fun x43 => if x43 = true then ((gAt st26).bind fun (x46, st47) => if x46 = x21 then (if 0 ≤ x21 ∧ x21.toNat ≤ a2.length then ((f_r18_Write x5 (a1 % 2) x12).bind fun x51 => if x51 = (a2.take x21.toNat) then some (true, st47) else some (false, st47)) else none) else some (false, st47)) else some (false, st26)).bind fun (y40, st41) => some y40) else ((f_r18_Same x12 (⟨(⟨false, []⟩ : Bl), 0, 0, 0, [], false⟩ : R18Request)).bind fun x54 => some x54)) else none) else none) else none)) else none
set_option maxRecDepth 100000 in
set_option maxHeartbeats 4000000 in
theorem f_l18_TxnReads_spec (a0 : Int) (a1 : Int) (a2 : List UInt8) (r : Bool) (h : f_l18_TxnReads a0 a1 a2 = some r) : SpecX Try.prog 8 #[.int .u8 a0, .int .u8 a1, .string (bsOf a2)] .triv (EmpR) (fun v A' N => v = .bool r ∧ A' = EmpR ∧ N = []) := by
  refine enterA Try.func8 rfl Try.ntmps8 rfl ?_
  intro F w hX
  unfold f_l18_TxnReads at h
  refine T.seq (T.region rfl ?_)
  refine TL.run ft_cursitorlaw18_ok [0] rfl rfl ?_
  obtain ⟨x1, hx2, h⟩ := Option.bind_eq_some_iff.1 h
  refine TL.nil (X.seq (T.seq (T.seq (T.region rfl ?_))))
  refine TL.ce rfl .u (.fn Try.call44 rfl) (f_l18_speaks_spec _ hx2) (fun _ hs => (RX.reads_triv _ _)) rfl ?_
  refine TL.run ft_cursitorlaw18_ok [1] rfl rfl ?_
  by_cases c3 : x1 = true
  · replace h := ifT c3 h
    refine TL.nil (X.seq ?_)
    refine T.no rfl (bn_f c3) ?_
    refine T.skip (X.seq (T.seq (T.seq (T.region rfl ?_))))
    refine TL.run ft_cursitorlaw18_ok [0] rfl rfl ?_
    refine TL.q rfl .u (Ex.lenB rfl Try.runUnderlying9) rfl ?_
    refine TL.run ft_cursitorlaw18_ok [2] rfl rfl ?_
    by_cases c4 : (a2.length : Int) > 2000
    · replace h := ifT c4 h
      refine TL.nil (X.seq ?_)
      refine T.yes rfl (decide_eq_true c4) ?_
      refine T.seq (T.region rfl ?_)
      refine TL.run ft_cursitorlaw18_ok [0] rfl rfl ?_
      obtain rfl := Option.some.inj h
      exact TL.nil (X.seq (T.ret (X.rs (X.done1 [0] Try.results8 (RV.tm rfl) ⟨rfl, rfl, rfl⟩ (by rfl) (.inl rfl)))))
    · replace h := ifF c4 h
      refine TL.nil (X.seq ?_)
      refine T.no rfl (decide_eq_false c4) ?_
      refine T.skip (X.seq (T.seq (T.region rfl ?_)))
      obtain ⟨x5, hx6, h⟩ := Option.bind_eq_some_iff.1 h
      refine TL.run ft_cursitorlaw18_ok [0] rfl rfl ?_
      refine TL.ce rfl .u (.fn Try.call45 rfl) (f_l18_kinds_spec a0 _ hx6) (fun _ hs => (RX.reads_triv _ _)) rfl ?_
      replace h := guard_some h
      obtain ⟨c7, h⟩ := h
      refine TL.run ft_cursitorlaw18_ok [2] rfl rfl ?_
      refine TL.q rfl .u (Ex.remK rfl rfl (by omega) c7) rfl ?_
      replace h := guard_some h
      obtain ⟨c8, h⟩ := h
      refine TL.q rfl .u (Ex.conv64 rfl Try.runUnderlying5 Try.runUnderlying3 c8) rfl ?_
      refine TL.run ft_cursitorlaw18_ok [5, 6] rfl rfl ?_
      refine TL.nil (X.seq (T.seq (T.region rfl ?_)))
      obtain ⟨st9, hx10, h⟩ := Option.bind_eq_some_iff.1 h
      refine TL.run ft_cursitorlaw18_ok [0] rfl rfl ?_
      refine TL.cge rfl .u (.fn Try.call16 rfl) (gNew_spec a2 _ hx10) (fun _ hs => (RX.reads_triv _ _)) rfl ?_
      rintro _ _ _ ⟨b11, rfl, rfl, rfl⟩
      refine TL.sel [0, 0] rfl ?_
      refine TL.run ft_cursitorlaw18_ok [2] rfl rfl ?_
      refine TL.nil (X.seq (T.seq (T.region rfl ?_)))
      obtain ⟨⟨x12, st15⟩, hx16, h⟩ := Option.bind_eq_some_iff.1 h
      try dsimp only at h
      refine TL.run ft_cursitorlaw18_ok [0, 1, 2] rfl rfl ?_
      refine TL.cg0 rfl .u (.fn Try.call46 rfl) (f_l18_read_spec b11 st9 x5 (a1 % 2) _ hx16) (fun _ hs => (Src.triv _)) rfl ?_
      rintro _ _ _ ⟨A13, c14, rfl, rfl, rfl⟩
      refine TL.sel [0, 0, 0] rfl ?_
      refine TL.alloc rfl .u Try.zeroValue76 rfl (fun b17 => ?_)
      refine TL.st0 (cs' := #[.bool x12.fID.null, .string (bsOf x12.fID.data), .int .i64 x12.fTimeout, .int .i64 x12.fProducer, .int .i64 x12.fEpoch, .slice A13 x12.fTopics.length c14, .bool x12.fCommit]) rfl .u rfl rfl Try.sizeOf76 rfl rfl rfl rfl ?_
      refine TL.nil (X.seq (T.seq (T.region rfl ?_)))
      obtain ⟨⟨x18, x21, x22⟩, hx23, h⟩ := Option.bind_eq_some_iff.1 h
      try dsimp only at h
      refine TL.run ft_cursitorlaw18_ok [0, 1, 2] rfl rfl ?_
      refine TL.cge rfl .u (.fn Try.call47 rfl) (f_r18_Read_spec x5 (a1 % 2) a2 _ hx23) (fun _ hs => (RX.reads_triv _ _)) rfl ?_
      rintro _ _ _ ⟨A19, c20, rfl, rfl, rfl⟩
      refine TL.sel [0, 0, 0, 0, 0] rfl ?_
      refine TL.run ft_cursitorlaw18_ok [4, 5, 6, 7] rfl rfl ?_
      refine TL.alloc rfl .u Try.zeroValue76 rfl (fun b24 => ?_)
      refine TL.st0 (cs' := #[.bool x18.fID.null, .string (bsOf x18.fID.data), .int .i64 x18.fTimeout, .int .i64 x18.fProducer, .int .i64 x18.fEpoch, .slice A19 x18.fTopics.length c20, .bool x18.fCommit]) rfl .u rfl rfl Try.sizeOf76 rfl rfl rfl rfl ?_
      refine TL.run ft_cursitorlaw18_ok [10, 11] rfl rfl ?_
      refine TL.nil (X.seq (T.seq (T.seq (T.region rfl ?_))))
      obtain ⟨⟨x25, st26⟩, hx27, h⟩ := Option.bind_eq_some_iff.1 h
      try dsimp only at h
      refine TL.run ft_cursitorlaw18_ok [0] rfl rfl ?_
      refine TL.c4 rfl .u (.fn Try.call19 rfl) (gErr_spec b11 st15 _ hx27) (fun _ hs => (Src.triv _)) rfl ?_
      refine TL.run ft_cursitorlaw18_ok [2, 3] rfl rfl ?_
      by_cases c28 : x25 = x22
      · replace h := ifT c28 h
        refine TL.nil (X.seq ?_)
        refine T.no rfl (bn_f (decide_eq_true c28)) ?_
        refine T.skip (X.seq (T.seq (T.seq (T.region rfl ?_))))
        refine TL.run ft_cursitorlaw18_ok [0, 1] rfl rfl ?_
        by_cases c29 : x22 = 0
        · replace h := ifT c29 h
          refine TL.nil (X.seq ?_)
          refine T.no rfl (bn_f (decide_eq_true c29)) ?_
          refine T.skip (X.seq (T.seq ?_))
          obtain ⟨⟨y40, st41⟩, h, hk42⟩ := Option.bind_eq_some_iff.1 h
          refine T.jq (fun e Rs => e = [(6, .bool y40)] ∧ Rs = [BlkR b24 76 #[.bool x18.fID.null, .string (bsOf x18.fID.data), .int .i64 x18.fTimeout, .int .i64 x18.fProducer, .int .i64 x18.fEpoch, .slice A19 x18.fTopics.length c20, .bool x18.fCommit], RdR (sliceRd 2 Top_rd) [.slice A19 x18.fTopics.length c20] x18.fTopics, BlkR b17 76 #[.bool x12.fID.null, .string (bsOf x12.fID.data), .int .i64 x12.fTimeout, .int .i64 x12.fProducer, .int .i64 x12.fEpoch, .slice A13 x12.fTopics.length c14, .bool x12.fCommit], RdR (sliceRd 2 Top_rd) [.slice A13 x12.fTopics.length c14] x12.fTopics, InR b11 st41, EmpR]) ?_ ?_
          · clear hk42
            refine T.draw (.q 0 (.q 1 (.e 2 (.q 3 (.q 4 (.q 6 (.e 5 (.q 7 (.q 8 (.q 9 (.q 10 (.q 11 (.q 12 (.q 14 (.q 15 (.q 16 (.e 13 (.q 17 (.q 18 (.q 19 .nil)))))))))))))))))))) [0, 0, 0, 0, 1] rfl mix_cursitorlaw18 (NoP.seq (NoP.seq np_post)) (by kernel_rfl) ?_
            refine TD.q rfl .u (Ex.bS (us := [.bool x12.fID.null, .string (bsOf x12.fID.data), .int .i64 x12.fTimeout, .int .i64 x12.fProducer, .int .i64 x12.fEpoch, .slice A13 x12.fTopics.length c14, .bool x12.fCommit]) 2 rfl Try.isAgg76 Try.sizeOf76 rfl rfl rfl) rfl ?_
            refine TD.q rfl .u (Ex.bS (us := [.bool x18.fID.null, .string (bsOf x18.fID.data), .int .i64 x18.fTimeout, .int .i64 x18.fProducer, .int .i64 x18.fEpoch, .slice A19 x18.fTopics.length c20, .bool x18.fCommit]) 0 rfl Try.isAgg76 Try.sizeOf76 rfl rfl rfl) rfl ?_
            obtain ⟨x43, hx44, h⟩ := Option.bind_eq_some_iff.1 h
            refine TD.ce rfl .u (.fn Try.call48 rfl) (f_r18_Same_spec x12 _ _ x18 _ _ _ hx44) (fun _ hs => (RX.reads_and (SrcE.res 3 hs rfl (fun w G h => rd_reads w G h)) (SrcE.res 1 hs rfl (fun w G h => rd_reads w G h)))) rfl [0, 0, 0, 0, 1] (rfl) ?_
            by_cases c45 : x43 = true
            · replace h := ifT c45 h
              refine TD.run ft_cursitorlaw18_ok [3] rfl rfl ?_
              refine TD.q rfl (.g rfl rfl c45) (Ex.ft ft_cursitorlaw18_ok rfl) rfl ?_
              refine TD.q rfl (.g rfl rfl c45) (Ex.ft ft_cursitorlaw18_ok rfl) rfl ?_
              obtain ⟨⟨x46, st47⟩, hx48, h⟩ := Option.bind_eq_some_iff.1 h
              try dsimp only at h
              refine TD.c4 rfl (.g rfl rfl c45) (.fn Try.call21 rfl) (gAt_spec b11 st26 _ hx48) (fun _ hs => (Src.triv _)) rfl [0, 0, 0, 0, 1] (rfl) ?_
              refine TD.q rfl (.g rfl rfl c45) (Ex.ft ft_cursitorlaw18_ok rfl) rfl ?_
              refine TD.q rfl .u (Ex.py rfl c45 rfl) rfl ?_
              by_cases c49 : x46 = x21
              · replace h := ifT c49 h
                refine TD.run ft_cursitorlaw18_ok [9] rfl rfl ?_
                refine TD.q rfl (.g rfl rfl (decide_eq_true c49)) (Ex.ft ft_cursitorlaw18_ok rfl) rfl ?_
                refine TD.q rfl (.g rfl rfl (decide_eq_true c49)) (Ex.ft ft_cursitorlaw18_ok rfl) rfl ?_
                refine TD.q rfl (.g rfl rfl (decide_eq_true c49)) (Ex.bS (us := [.bool x12.fID.null, .string (bsOf x12.fID.data), .int .i64 x12.fTimeout, .int .i64 x12.fProducer, .int .i64 x12.fEpoch, .slice A13 x12.fTopics.length c14, .bool x12.fCommit]) 2 rfl Try.isAgg76 Try.sizeOf76 rfl rfl rfl) rfl ?_
                refine TD.q rfl (.g rfl rfl (decide_eq_true c49)) (Ex.ft ft_cursitorlaw18_ok rfl) rfl ?_
                refine TD.q rfl (.g rfl rfl (decide_eq_true c49)) (Ex.ft ft_cursitorlaw18_ok rfl) rfl ?_
                replace h := guard_some h
                obtain ⟨c50, h⟩ := h
                refine TD.q rfl (.g rfl rfl (decide_eq_true c49)) (Ex.sSl (p := 0) (q := x21.toNat) (m := (a2.take x21.toNat)) rfl Try.runUnderlying9 .none (.some rfl ((Int.toNat_of_nonneg c50.1).symm)) (by omega) (by simp)) rfl ?_
                obtain ⟨x51, hx52, h⟩ := Option.bind_eq_some_iff.1 h
                refine TD.ce rfl (.g rfl rfl (decide_eq_true c49)) (.fn Try.call49 rfl) (f_r18_Write_spec x5 (a1 % 2) x12 _ _ _ hx52) (fun _ hs => (SrcE.res 3 hs rfl (fun w G h => rd_reads w G h))) rfl [0, 0, 0, 0, 1] (rfl) ?_
                refine TD.q rfl (.g rfl rfl (decide_eq_true c49)) (Ex.sEq rfl rfl) rfl ?_
                refine TD.q rfl .u (Ex.py rfl (decide_eq_true c49) rfl) rfl ?_
                refine TD.run ft_cursitorlaw18_ok [19] rfl rfl ?_
                by_cases c53 : x51 = (a2.take x21.toNat)
                · replace h := ifT c53 h
                  cases h
                  exact TD.nil (X.as (d := 6) (v' := .bool true) rfl (congrArg Value.bool (decide_eq_true c53)) (X.jq [0, 0, 0, 0, 0, 0] ⟨rfl, rfl⟩ (by rfl) (by rfl)))
                · replace h := ifF c53 h
                  cases h
                  exact TD.nil (X.as (d := 6) (v' := .bool false) rfl (congrArg Value.bool (decide_eq_false c53)) (X.jq [0, 0, 0, 0, 0, 0] ⟨rfl, rfl⟩ (by rfl) (by rfl)))
              · replace h := ifF c49 h
                refine TD.run ft_cursitorlaw18_ok [9] rfl rfl ?_
                refine TD.no rfl (.gn rfl rfl (decide_eq_false c49)) rfl ?_
                refine TD.no rfl (.gn rfl rfl (decide_eq_false c49)) rfl ?_
                refine TD.no rfl (.gn rfl rfl (decide_eq_false c49)) rfl ?_
                refine TD.no rfl (.gn rfl rfl (decide_eq_false c49)) rfl ?_
                refine TD.no rfl (.gn rfl rfl (decide_eq_false c49)) rfl ?_
                refine TD.no rfl (.gn rfl rfl (decide_eq_false c49)) rfl ?_
                refine TD.noe rfl (.gn rfl rfl (decide_eq_false c49)) rfl [0, 0, 0, 0, 1] rfl ?_
                refine TD.no rfl (.gn rfl rfl (decide_eq_false c49)) rfl ?_
                refine TD.q rfl .u (Ex.pn rfl (decide_eq_false c49) rfl) rfl ?_
                refine TD.run ft_cursitorlaw18_ok [19] rfl rfl ?_
                cases h
                exact TD.nil (X.jq [0, 0, 0, 0, 0, 0] ⟨rfl, rfl⟩ (by rfl) (by rfl))
            · replace h := ifF c45 h
              replace c45 := eq_false_of_ne_true c45
              refine TD.run ft_cursitorlaw18_ok [3] rfl rfl ?_
              refine TD.no rfl (.gn rfl rfl c45) rfl ?_
              refine TD.no rfl (.gn rfl rfl c45) rfl ?_
              refine TD.noe rfl (.gn rfl rfl c45) rfl [0, 0, 0, 0, 1] rfl ?_
              refine TD.no rfl (.gn rfl rfl c45) rfl ?_
              refine TD.q rfl .u (Ex.pn rfl c45 rfl) rfl ?_
              refine TD.run ft_cursitorlaw18_ok [9] rfl rfl ?_
              refine TD.no rfl (.gn rfl rfl rfl) rfl ?_
              refine TD.no rfl (.gn rfl rfl rfl) rfl ?_
              refine TD.no rfl (.gn rfl rfl rfl) rfl ?_
              refine TD.no rfl (.gn rfl rfl rfl) rfl ?_
              refine TD.no rfl (.gn rfl rfl rfl) rfl ?_
              refine TD.no rfl (.gn rfl rfl rfl) rfl ?_
              refine TD.noe rfl (.gn rfl rfl rfl) rfl [0, 0, 0, 0, 1] rfl ?_
              refine TD.no rfl (.gn rfl rfl rfl) rfl ?_
              refine TD.q rfl .u (Ex.pn rfl rfl rfl) rfl ?_
              refine TD.run ft_cursitorlaw18_ok [19] rfl rfl ?_
              cases h
              exact TD.nil (X.jq [0, 0, 0, 0, 0, 0] ⟨rfl, rfl⟩ (by rfl) (by rfl))
          · rintro _ _ ⟨rfl, rfl⟩
            clear h
            have h := hk42
            clear hk42
            try dsimp only at h
            obtain rfl := Option.some.inj h
            exact X.seq (T.ret (X.done1 [5] Try.results8 (RV.tm rfl) ⟨rfl, rfl, rfl⟩ (by rfl) (.inl rfl)))
        · replace h := ifF c29 h
          refine TL.nil (X.seq ?_)
          refine T.yes rfl (bn_t (decide_eq_false c29)) ?_
          refine T.seq (T.region rfl ?_)
          refine TL.q rfl .u (Ex.bS (us := [.bool x12.fID.null, .string (bsOf x12.fID.data), .int .i64 x12.fTimeout, .int .i64 x12.fProducer, .int .i64 x12.fEpoch, .slice A13 x12.fTopics.length c14, .bool x12.fCommit]) 2 rfl Try.isAgg76 Try.sizeOf76 rfl rfl rfl) rfl ?_
          refine TL.q rfl .u (Ex.bld (cells := #[.bool false, .string ⟨#[]⟩, .int .i64 0, .int .i64 0, .int .i64 0, .slice none 0 0, .bool false]) bok_cursitorlaw18_76 rfl (by kernel_rfl)) rfl ?_
          obtain ⟨x54, hx55, h⟩ := Option.bind_eq_some_iff.1 h
          refine TL.ce rfl .u (.fn Try.call48 rfl) (f_r18_Same_spec x12 _ _ (⟨(⟨false, []⟩ : Bl), 0, 0, 0, [], false⟩ : R18Request) _ _ _ hx55) (fun _ hs => (RX.reads_and (SrcE.res 3 hs rfl (fun w G h => rd_reads w G h)) slice_nil_reads)) rfl ?_
          refine TL.run ft_cursitorlaw18_ok [3] rfl rfl ?_
          obtain rfl := Option.some.inj h
          exact TL.nil (X.seq (T.ret (X.rs (X.done1 [5] Try.results8 (RV.tm rfl) ⟨rfl, rfl, rfl⟩ (by rfl) (.inl rfl)))))
      · replace h := ifF c28 h
        refine TL.nil (X.seq ?_)
        refine T.yes rfl (bn_t (decide_eq_false c28)) ?_
        exact nomatch h
  · replace h := ifF c3 h
    replace c3 := eq_false_of_ne_true c3
    refine TL.nil (X.seq ?_)
    refine T.yes rfl (bn_t c3) ?_
    exact nomatch h
end Go.Proofs.Ytagbblaegdedpaa.Sl
namespace Go.Proofs.Ytagbblaegdedpaa.Sl
open Go.RowKit
set_option linter.unusedVariables false
set_option linter.unusedSimpArgs false
theorem chkB_zero {b : Bl} {t p e v : Int} (hc : chkB b t p e v = 0) : bright b = true ∧ (b.null = true ∨ kright b.data = true) ∧ (0 ≤ t ∧ t ≤ 2147483647) ∧ (p = -1 ∧ e = -1 ∨ v > 0 ∧ who p e = true) := by
  unfold chkB at hc
  split at hc
  · rename_i h1
    split at hc
    · rename_i h2
      simp only [Bool.and_eq_true, Bool.or_eq_true, tmB, nobB, decide_eq_true_eq] at h1 h2
      exact ⟨h1.1, h1.2, h2.1, h2.2⟩
    · exact absurd hc (by decide)
  · exact absurd hc (by decide)
def encB (v : Int) (x : TxnBegin) : List UInt8 := if v > 0 then encB1 x else encB0 x
theorem r18_named (b : Bl) : f_r18_named b = some (!b.null && kright b.data) := by
  unfold f_r18_named
  cases hb : b.null with
  | true => rfl
  | false =>
    rw [if_neg (by decide)]
    unfold kright
    by_cases h1 : (b.data.length : Int) ≥ 1
    · rw [if_pos h1]
      have : b.data.isEmpty = false := by cases hd : b.data with | nil => rw [hd] at h1; exact absurd h1 (by decide) | cons c l => rfl
      by_cases h2 : (b.data.length : Int) ≤ 32767
      · rw [if_pos h2, this, decide_eq_true h2]
        rfl
      · rw [if_neg h2, this, decide_eq_false h2]
        rfl
    · rw [if_neg h1]
      have : b.data = [] := List.eq_nil_of_length_eq_zero (by omega)
      rw [this]
      rfl
theorem r18_who (r : R18Request) : f_r18_who r = some (who r.fProducer r.fEpoch) := by
  unfold f_r18_who who
  by_cases h1 : r.fProducer ≥ 0
  · rw [if_pos h1]
    by_cases h2 : r.fEpoch ≥ 0
    · rw [if_pos h2]
      by_cases h3 : r.fEpoch ≤ 32767
      · rw [if_pos h3, decide_eq_true (by omega)]
        rfl
      · rw [if_neg h3, decide_eq_false (by omega)]
        rfl
    · rw [if_neg h2, decide_eq_false (by omega)]
      rfl
  · rw [if_neg h1, decide_eq_false (by omega)]
    rfl
def chkR (k v : Int) (r : R18Request) : Int := if k = 22 then chkB r.fID r.fTimeout r.fProducer r.fEpoch v else if k = 24 then chkA r.fID.data r.fProducer r.fEpoch r.fTopics else chkE r.fID.data r.fProducer r.fEpoch
theorem r18_check (k v : Int) (hv : v = 0 ∨ v = 1) (r : R18Request) (hn : k ≠ 22 → r.fID.null = false) (hl : r.fTopics.length ≤ 1000000) (hx : ∀ t, t ∈ r.fTopics → t.fParts.length ≤ 1000000 ∧ t.fName.length ≤ 1000000) : f_r18_Check k v r = some (chkR k v r) := by
  unfold f_r18_Check chkR
  by_cases hk : k = 22
  · rw [if_pos hk, if_pos hk, r18_named, r18_who]
    unfold chkB
    have h1 : (if r.fID.null = true then (if r.fID.data = [] then some false else some true) else ((some (!r.fID.null && kright r.fID.data)).bind fun x13 => if x13 = true then some false else some true)) = some (!(bright r.fID && (r.fID.null || kright r.fID.data))) := by
      unfold bright
      cases r.fID.null with
      | true =>
        rw [if_pos rfl]
        by_cases hd : r.fID.data = []
        · rw [if_pos hd, hd]; rfl
        · rw [if_neg hd]
          simp [hd]
      | false => cases kright r.fID.data <;> rfl
    have h2 : (if r.fTimeout < 0 then some true else (if r.fTimeout > 2147483647 then some true else some false)) = some (!tmB r.fTimeout) := by
      unfold tmB
      by_cases a : r.fTimeout < 0
      · rw [if_pos a, decide_eq_false (by omega)]; rfl
      · rw [if_neg a]
        by_cases b : r.fTimeout > 2147483647
        · rw [if_pos b, decide_eq_false (by omega)]; rfl
        · rw [if_neg b, decide_eq_true (by omega)]; rfl
    have h3 : (if r.fProducer = (-1) then (if r.fEpoch = (-1) then some true else (if v = 1 then ((some (who r.fProducer r.fEpoch)).bind fun x36 => some x36) else some false)) else (if v = 1 then ((some (who r.fProducer r.fEpoch)).bind fun x39 => some x39) else some false)) = some (nobB r.fProducer r.fEpoch || (decide (v > 0) && who r.fProducer r.fEpoch)) := by
      unfold nobB
      rcases hv with rfl | rfl
      · by_cases a : r.fProducer = -1 <;> by_cases b : r.fEpoch = -1 <;> simp [a, b]
      · by_cases a : r.fProducer = -1 <;> by_cases b : r.fEpoch = -1 <;> simp [a, b]
    rw [h1, h2, h3]
    cases (bright r.fID && (r.fID.null || kright r.fID.data)) <;> cases tmB r.fTimeout <;> cases (nobB r.fProducer r.fEpoch || (decide (v > 0) && who r.fProducer r.fEpoch)) <;> rfl
  · rw [if_neg hk, if_neg hk, r18_named, r18_who, hn hk]
    simp only [Bool.not_false, Bool.true_and]
    by_cases h4 : k = 24
    · rw [if_pos h4, if_pos h4, if_pos h4, rise_eq _ hl hx]
      unfold chkA riseV
      by_cases h0 : r.fTopics.length = 0
      · rw [if_pos (by omega), if_pos h0]
        cases kright r.fID.data <;> cases who r.fProducer r.fEpoch <;> rfl
      · rw [if_neg (by omega), if_neg h0]
        cases kright r.fID.data <;> cases who r.fProducer r.fEpoch <;> cases okts r.fTopics <;> rfl
    · rw [if_neg h4, if_neg h4, if_neg h4]
      unfold chkE
      cases kright r.fID.data <;> cases who r.fProducer r.fEpoch <;> rfl
def gE (x : TxnEnd) : R18Request := ⟨⟨false, x.fID⟩, 0, x.fProducer, x.fEpoch, [], x.fCommit⟩
def gA (x : TxnAdd) : R18Request := ⟨⟨false, x.fID⟩, 0, x.fProducer, x.fEpoch, x.fTopics, false⟩
def gB (x : TxnBegin) : R18Request := ⟨x.fID, x.fTimeout, x.fProducer, x.fEpoch, [], false⟩
def toE (r : R18Request) : TxnEnd := ⟨r.fID.data, r.fProducer, r.fEpoch, r.fCommit⟩
def toA (r : R18Request) : TxnAdd := ⟨r.fID.data, r.fProducer, r.fEpoch, r.fTopics⟩
def toB (r : R18Request) : TxnBegin := ⟨r.fID, r.fTimeout, r.fProducer, r.fEpoch⟩
def Pr.map {α β : Type} (g : α → β) (p : Pr α) : Pr β := p.bind fun x => .ret (g x)
theorem Sp.map {α β : Type} {p : Pr α} {enc : α → List UInt8} {ok : α → Prop} (g : α → β) (g' : β → α) (hg : ∀ x, g' (g x) = x) (h : Sp p enc ok) : Sp (p.map g) (fun y => enc (g' y)) (fun y => ok (g' y) ∧ g (g' y) = y) := by
  refine ⟨fun s q y r hq hp => ?_, fun s t q y hq hy hd => ?_⟩
  · obtain ⟨x, m, h1, h2⟩ := Pr.bind_ok hp
    injection h2 with h2
    obtain ⟨rfl, rfl⟩ := Prod.mk.inj h2
    obtain ⟨a1, a2, a3, a4, a5⟩ := h.spell s q x m hq h1
    rw [hg x]
    exact ⟨a1, a2, a3, a4, a5, rfl⟩
  · have := h.back s t q (g' y) hq hy.1 hd
    rw [Pr.map, Pr.bind_of this, hy.2]
    rfl
theorem CB.map {α β : Type} {op : I → Option (α × I)} {p : Pr α} {z : α} (g : α → β) (h : CB op p z) : CB (fun st => (op st).bind fun (x, st1) => some (g x, st1)) (p.map g) (g z) := by
  refine ⟨fun st hd => ?_, fun s q hl hq => ?_⟩
  · show (op st).bind _ = _
    rw [h.dead st hd]
    rfl
  · rcases h.run s q hl hq with ⟨e, st, p1, g1, x1, y1⟩ | ⟨a, r, p1, g1, n1, l1⟩
    · refine .inl ⟨e, st, Pr.bind_err p1, ?_, x1, y1⟩
      show (op _).bind _ = _
      rw [g1]
      rfl
    · refine .inr ⟨g a, r, by rw [Pr.map, Pr.bind_of p1]; rfl, ?_, n1, l1⟩
      show (op _).bind _ = _
      rw [g1]
      rfl
def pReq (k v : Int) : Pr R18Request := if k = 22 then (if v > 0 then (pBeg1 v).map gB else (pBeg0 v).map gB) else if k = 24 then pAddR.map gA else pEndR.map gE
def encR (k v : Int) (r : R18Request) : List UInt8 := if k = 22 then encB v (toB r) else if k = 24 then encA (toA r) else encE (toE r)
def zR : R18Request := ⟨⟨false, []⟩, 0, 0, 0, [], false⟩
theorem B_req (k v : Int) : CB (fun st => f_l18_read st k v) (pReq k v) zR := by
  unfold pReq
  by_cases hk : k = 22
  · rw [if_pos hk]
    by_cases hv : v > 0
    · rw [if_pos hv]
      exact CB.congr ((B_beg1 v hv).map gB) (fun st => by unfold f_l18_read; rw [if_pos hk]; rfl)
    · rw [if_neg hv]
      exact CB.congr ((B_beg0 v hv).map gB) (fun st => by unfold f_l18_read; rw [if_pos hk]; rfl)
  · rw [if_neg hk]
    by_cases h4 : k = 24
    · rw [if_pos h4]
      exact CB.congr (B_add.map gA) (fun st => by unfold f_l18_read; rw [if_neg hk, if_pos h4]; rfl)
    · rw [if_neg h4]
      exact CB.congr (B_end.map gE) (fun st => by unfold f_l18_read; rw [if_neg hk, if_neg h4]; rfl)
def nrm (k : Int) (r : R18Request) : Prop := if k = 22 then gB (toB r) = r else if k = 24 then gA (toA r) = r else gE (toE r) = r
def okRq (k v : Int) (r : R18Request) : Prop := fits r.fProducer 8 = true ∧ fits r.fEpoch 2 = true ∧ (k = 22 → okFx r.fID ∧ fits r.fTimeout 4 = true) ∧ (k ≠ 22 → okTx r.fID.data) ∧ (k = 24 → okTs r.fTopics) ∧ chkR k v r = 0 ∧ nrm k r
theorem Sp_req (k v : Int) (hv : v = 0 ∨ v = 1) : Sp (pReq k v) (encR k v) (okRq k v) := by
  unfold pReq
  by_cases hk : k = 22
  · rw [if_pos hk]
    by_cases hv0 : v > 0
    · rw [if_pos hv0]
      refine ((Sp_beg1 v).map gB toB (fun _ => rfl)).congr (fun r => ?_) (fun r _ => by unfold encR encB; rw [if_pos hk, if_pos hv0])
      unfold okRq chkR nrm
      rw [if_pos hk, if_pos hk]
      exact ⟨fun ⟨⟨h1, h2, h3, h4, h5⟩, h6⟩ => ⟨h3, h4, fun _ => ⟨h1, h2⟩, fun h => absurd hk h, fun h => absurd (hk.symm.trans h) (by decide), h5, h6⟩, fun ⟨h3, h4, h1, _, _, h5, h6⟩ => ⟨⟨(h1 hk).1, (h1 hk).2, h3, h4, h5⟩, h6⟩⟩
    · rw [if_neg hv0]
      refine ((Sp_beg0 v).map gB toB (fun _ => rfl)).congr (fun r => ?_) (fun r _ => by unfold encR encB; rw [if_pos hk, if_neg hv0])
      unfold okRq chkR nrm
      rw [if_pos hk, if_pos hk]
      refine ⟨fun ⟨⟨h1, h2, h5, h3, h4⟩, h6⟩ => ⟨?_, ?_, fun _ => ⟨h1, h2⟩, fun h => absurd hk h, fun h => absurd (hk.symm.trans h) (by decide), h5, h6⟩, fun ⟨h3, h4, h1, _, _, h5, h6⟩ => ⟨⟨(h1 hk).1, (h1 hk).2, h5, ?_⟩, h6⟩⟩
      · have h3 : r.fProducer = -1 := h3
        rw [h3]; decide
      · have h4 : r.fEpoch = -1 := h4
        rw [h4]; decide
      · rcases (chkB_zero h5).2.2.2 with h | h
        · exact h
        · exact absurd h.1 hv0
  · rw [if_neg hk]
    by_cases h4 : k = 24
    · rw [if_pos h4]
      refine (Sp_add.map gA toA (fun _ => rfl)).congr (fun r => ?_) (fun r _ => by unfold encR; rw [if_neg hk, if_pos h4])
      unfold okRq chkR nrm
      rw [if_neg hk, if_neg hk, if_pos h4, if_pos h4]
      exact ⟨fun ⟨⟨h1, h2, h3, h5, h6⟩, h7⟩ => ⟨h2, h3, fun h => absurd h hk, fun _ => h1, fun _ => h5, h6, h7⟩, fun ⟨h2, h3, _, h1, h5, h6, h7⟩ => ⟨⟨h1 hk, h2, h3, h5 h4, h6⟩, h7⟩⟩
    · rw [if_neg h4]
      refine (Sp_end.map gE toE (fun _ => rfl)).congr (fun r => ?_) (fun r _ => by unfold encR; rw [if_neg hk, if_neg h4])
      unfold okRq chkR nrm
      rw [if_neg hk, if_neg hk, if_neg h4, if_neg h4]
      exact ⟨fun ⟨⟨h1, h2, h3, h6⟩, h7⟩ => ⟨h2, h3, fun h => absurd h hk, fun _ => h1, fun h => absurd h h4, h6, h7⟩, fun ⟨h2, h3, _, h1, _, h6, h7⟩ => ⟨⟨h1 hk, h2, h3, h6⟩, h7⟩⟩
end Go.Proofs.Ytagbblaegdedpaa.Sl
namespace Go.Proofs.Ytagbblaegdedpaa.Sl
open Go.RowKit
set_option linter.unusedVariables false
set_option linter.unusedSimpArgs false
def outR (x : Except Int (R18Request × Nat)) : R18Request × Int × Int := match x with
  | .error e => (zR, 0, e)
  | .ok (x, r) => (x, (r : Int), 0)
theorem r18_read22 (v : Int) (hv : v = 0 ∨ v = 1) (s : List UInt8) (hs : s.length ≤ 1000000) : f_r18_Read 22 v s = some (outR (pReq 22 v s 0)) := by
  unfold f_r18_Read
  have h0 := rfixed_p s 0 2 (by decide) (by decide) (Nat.zero_le _)
  rw [List.drop_zero] at h0
  rw [gRRFixed_eq _ _ ⟨by decide, by decide, by omega⟩, Option.bind_some, show (2 : Int).toNat = 2 from rfl]
  rcases h0 with ⟨e, p0, e0, g0⟩ | ⟨b, m, p0, n0, l0, g0⟩
  · have : pReq 22 v s 0 = .error e := by unfold pReq; rw [if_pos rfl]; split <;> exact Pr.bind_err (Pr.bind_err p0)
    rw [g0, this]
    simp only
    rw [if_neg e0]
    rfl
  · have y : (if b.null = true then some false else some false) = some false := by split <;> rfl
    rw [g0]
    simp only [if_true]
    rw [y, Option.bind_some, if_neg (by decide), show ((m - 0 : Nat) : Int) = (m : Int) by omega, if_pos (by omega)]
    by_cases h4 : (s.length : Int) - (m : Int) < 4
    · have : pReq 22 v s 0 = .error 1 := by
        unfold pReq
        rw [if_pos rfl]
        have p4 : pInt 4 s m = .error 1 := pInt_no (by omega)
        split
        · exact Pr.bind_err (by rw [pBeg1, Pr.bind_of p0, Pr.bind_err p4])
        · exact Pr.bind_err (by rw [pBeg0, Pr.bind_of p0, Pr.bind_err p4])
      rw [if_pos h4, this]
      rfl
    have p4 : pInt 4 s m = .ok (beInt ((s.drop m).take 4), m + 4) := pInt_ok (by omega)
    have e1 : ((m : Int) + 4).toNat = m + 4 := by omega
    rw [if_neg h4, if_pos (by omega), if_pos (by omega), e1, Int.toNat_natCast, Nat.add_sub_cancel_left, gRInt_eq _ (by rw [List.length_take]; omega), Option.bind_some, if_pos (by omega)]
    generalize beInt ((s.drop m).take 4) = T at p4 ⊢
    rcases hv with rfl | rfl
    · rw [if_neg (by decide), r18_check 22 0 (.inl rfl) _ (fun h => absurd rfl h) (by simp) (by simp), Option.bind_some]
      have hp : pReq 22 0 s 0 = ((if chkB b T (-1) (-1) 0 = 0 then Pr.ret ⟨b, T, -1, -1⟩ else Pr.err (chkB b T (-1) (-1) 0)).map gB) s (m + 4) := by
        unfold pReq
        rw [if_pos rfl, if_neg (by decide), Pr.map, Pr.map, Pr.bind, Pr.bind, pBeg0, Pr.bind_of p0, Pr.bind_of p4]
      have hc : chkR 22 0 ⟨b, T, -1, -1, [], false⟩ = chkB b T (-1) (-1) 0 := rfl
      rw [hp, hc]
      by_cases hz : chkB b T (-1) (-1) 0 = 0
      · rw [if_pos hz, if_pos hz]
        have e4 : (m : Int) + 4 = ((m + 4 : Nat) : Int) := by omega
        rw [e4]
        rfl
      · rw [if_neg hz, if_neg hz]
        rfl
    · rw [if_pos rfl, if_pos (by omega)]
      by_cases h10 : (s.length : Int) - ((m : Int) + 4) < 10
      · have : pReq 22 1 s 0 = .error 1 := by
          unfold pReq
          rw [if_pos rfl, if_pos (by decide)]
          refine Pr.bind_err ?_
          rw [pBeg1, Pr.bind_of p0, Pr.bind_of p4]
          by_cases h8 : s.length < m + 4 + 8
          · rw [Pr.bind_err (pInt_no h8)]
          · rw [Pr.bind_of (pInt_ok (k := 8) (by omega)), Pr.bind_err (pInt_no (by omega))]
        rw [if_pos h10, this]
        rfl
      have p8 : pInt 8 s (m + 4) = .ok (beInt ((s.drop (m + 4)).take 8), m + 4 + 8) := pInt_ok (by omega)
      have p2 : pInt 2 s (m + 4 + 8) = .ok (beInt ((s.drop (m + 4 + 8)).take 2), m + 4 + 8 + 2) := pInt_ok (by omega)
      have e2 : ((m : Int) + 4 + 8).toNat = m + 4 + 8 := by omega
      have e3 : ((m : Int) + 4 + 10).toNat = m + 4 + 8 + 2 := by omega
      rw [if_neg h10, if_pos (by omega), if_pos (by omega), e2, Nat.add_sub_cancel_left, gRInt_eq _ (by rw [List.length_take]; omega), Option.bind_some, if_pos (by omega), if_pos (by omega), if_pos (by omega), e3, Nat.add_sub_cancel_left, gRInt_eq _ (by rw [List.length_take]; omega), Option.bind_some, if_pos (by omega)]
      generalize beInt ((s.drop (m + 4)).take 8) = A at p8 ⊢
      generalize beInt ((s.drop (m + 4 + 8)).take 2) = B at p2 ⊢
      rw [r18_check 22 1 (.inr rfl) _ (fun h => absurd rfl h) (by simp) (by simp), Option.bind_some]
      have hp : pReq 22 1 s 0 = ((if chkB b T A B 1 = 0 then Pr.ret ⟨b, T, A, B⟩ else Pr.err (chkB b T A B 1)).map gB) s (m + 4 + 8 + 2) := by
        unfold pReq
        rw [if_pos rfl, if_pos (by decide), Pr.map, Pr.map, Pr.bind, Pr.bind, pBeg1, Pr.bind_of p0, Pr.bind_of p4, Pr.bind_of p8, Pr.bind_of p2]
      have hc : chkR 22 1 ⟨b, T, A, B, [], false⟩ = chkB b T A B 1 := rfl
      rw [hp, hc]
      by_cases hz : chkB b T A B 1 = 0
      · rw [if_pos hz, if_pos hz]
        have e4 : (m : Int) + 4 + 10 = ((m + 4 + 8 + 2 : Nat) : Int) := by omega
        rw [e4]
        rfl
      · rw [if_neg hz, if_neg hz]
        rfl
theorem Pr.map_bind_of {α β γ : Type} {p : Pr α} {f : α → Pr β} {g : β → γ} {s : List UInt8} {q r : Nat} {a : α} (h : p s q = .ok (a, r)) : ((p.bind f).map g) s q = ((f a).map g) s r := by
  unfold Pr.map Pr.bind
  rw [h]
theorem ten_err {s : List UInt8} {m : Nat} {β : Type} (h : s.length < m + 10) (f : Int → Int → Pr β) : ((pInt 8).bind fun p => (pInt 2).bind fun e => f p e) s m = .error 1 := by
  by_cases h8 : s.length < m + 8
  · rw [Pr.bind_err (pInt_no h8)]
  · rw [Pr.bind_of (pInt_ok (k := 8) (by omega)), Pr.bind_err (pInt_no (by omega))]
theorem r18_read_ (k v : Int) (hk : k = 24 ∨ k = 26) (hv : v = 0 ∨ v = 1) (s : List UInt8) (hs : s.length ≤ 1000000) : f_r18_Read k v s = some (outR (pReq k v s 0)) := by
  have hk2 : ¬ k = 22 := by omega
  unfold f_r18_Read
  have h0 := rfixed_p s 0 2 (by decide) (by decide) (Nat.zero_le _)
  rw [List.drop_zero] at h0
  rw [gRRFixed_eq _ _ ⟨by decide, by decide, by omega⟩, Option.bind_some, show (2 : Int).toNat = 2 from rfl]
  have hP : ∀ e, pText s 0 = .error e → pReq k v s 0 = .error e := by
    intro e h
    unfold pReq
    rw [if_neg hk2]
    split
    · exact Pr.bind_err (by rw [pAddR, Pr.bind_err h])
    · exact Pr.bind_err (by rw [pEndR, Pr.bind_err h])
  rcases h0 with ⟨e, p0, e0, g0⟩ | ⟨b, m, p0, n0, l0, g0⟩
  · have : pText s 0 = .error e := by rw [pText, pMust, Pr.bind_err p0]
    rw [g0, hP e this]
    simp only
    rw [if_neg e0]
    rfl
  · rw [g0]
    simp only [if_true, if_neg hk2]
    by_cases hb : b.null = true
    · have : pText s 0 = .error 4 := by rw [pText, pMust, Pr.bind_of p0, if_pos hb]; rfl
      rw [if_pos hb, Option.bind_some, if_pos rfl, hP 4 this]
      rfl
    have pt : pText s 0 = .ok (b.data, m) := by rw [pText, pMust, Pr.bind_of p0, if_neg hb]; rfl
    have hbf : b.null = false := by simpa using hb
    rw [if_neg hb, Option.bind_some, if_neg (by decide), show ((m - 0 : Nat) : Int) = (m : Int) by omega, if_pos (by omega)]
    by_cases h10 : (s.length : Int) - (m : Int) < 10
    · have : pReq k v s 0 = .error 1 := by
        unfold pReq
        rw [if_neg hk2]
        split
        · exact Pr.bind_err (by rw [pAddR, Pr.bind_of pt]; exact ten_err (by omega) _)
        · exact Pr.bind_err (by rw [pEndR, Pr.bind_of pt]; exact ten_err (by omega) _)
      rw [if_pos h10, this]
      rfl
    have p8 : pInt 8 s m = .ok (beInt ((s.drop m).take 8), m + 8) := pInt_ok (by omega)
    have p2 : pInt 2 s (m + 8) = .ok (beInt ((s.drop (m + 8)).take 2), m + 8 + 2) := pInt_ok (by omega)
    have e2 : ((m : Int) + 8).toNat = m + 8 := by omega
    have e3 : ((m : Int) + 10).toNat = m + 8 + 2 := by omega
    rw [if_neg h10, if_pos (by omega), if_pos (by omega), e2, Int.toNat_natCast, Nat.add_sub_cancel_left, gRInt_eq _ (by rw [List.length_take]; omega), Option.bind_some, if_pos (by omega), if_pos (by omega), if_pos (by omega), e3, Nat.add_sub_cancel_left, gRInt_eq _ (by rw [List.length_take]; omega), Option.bind_some, if_pos (by omega)]
    generalize beInt ((s.drop m).take 8) = A at p8 ⊢
    generalize beInt ((s.drop (m + 8)).take 2) = B at p2 ⊢
    rcases hk with rfl | rfl
    · rw [if_pos rfl, if_pos (by omega), r14_topics _ (by rw [List.length_drop]; omega), Option.bind_some]
      have hsh := Sh_topics.zero (s := s) (q := m + 8 + 2) (by omega)
      have hp : pReq 24 v s 0 = ((pTops.bind fun l => if chkA b.data A B l = 0 then Pr.ret ⟨b.data, A, B, l⟩ else Pr.err (chkA b.data A B l)).map gA) s (m + 8 + 2) := by
        unfold pReq
        rw [if_neg (by decide), if_pos rfl, Pr.map, Pr.map, Pr.bind, Pr.bind, pAddR, Pr.bind_of pt, Pr.bind_of p8, Pr.bind_of p2]
      rw [hp]
      cases ht : pRow 4 6 pTopic (s.drop (m + 8 + 2)) 0 with
      | error e =>
        rw [ht] at hsh
        have he : e ≠ 0 := pRow_err (by rw [List.length_drop]; omega) (Nat.zero_le _) ht
        simp only
        rw [if_neg he, Pr.map, Pr.bind_err (Pr.bind_err hsh)]
        rfl
      | ok y =>
        obtain ⟨l, r⟩ := y
        rw [ht] at hsh
        have hr := (Sp_topics.spell _ _ _ _ (Nat.zero_le _) ht).2.1
        rw [List.length_drop] at hr
        have hwl := w_tops _ _ _ _ (by rw [List.length_drop]; omega) (Nat.zero_le _) ht
        have hxl : ∀ t, t ∈ l → t.fParts.length ≤ 1000000 ∧ t.fName.length ≤ 1000000 := by
          intro t htm
          have h1 := encs_mem_len (enc := encT) l t htm
          have h2 : (encT t).length = wT t := encT_len t
          unfold wT at h2
          have h3 := (Sp_topics.spell _ _ _ _ (Nat.zero_le _) ht).2.2.1
          rw [List.length_append, be_length] at h3
          omega
        simp only [if_true]
        rw [if_pos (by omega), r18_check 24 v hv _ (fun _ => hbf) hwl.2 hxl, Option.bind_some]
        have hsh2 : pTops s (m + 8 + 2) = .ok (l, m + 8 + 2 + r) := hsh
        have hc : chkR 24 v ⟨b, 0, A, B, l, false⟩ = chkA b.data A B l := rfl
        have hpp : ((pTops.bind fun l => if chkA b.data A B l = 0 then Pr.ret (⟨b.data, A, B, l⟩ : TxnAdd) else Pr.err (chkA b.data A B l)).map gA) s (m + 8 + 2) = ((if chkA b.data A B l = 0 then Pr.ret (⟨b.data, A, B, l⟩ : TxnAdd) else Pr.err (chkA b.data A B l)).map gA) s (m + 8 + 2 + r) := by
          exact Pr.map_bind_of hsh2
        rw [hc, hpp]
        by_cases hz : chkA b.data A B l = 0
        · have e4 : (m : Int) + 10 + (r : Int) = ((m + 8 + 2 + r : Nat) : Int) := by omega
          have hbb : b = ⟨false, b.data⟩ := by rw [← hbf]
          rw [if_pos hz, if_pos hz, e4]
          show some ((⟨b, 0, A, B, l, false⟩ : R18Request), _) = some ((⟨⟨false, b.data⟩, 0, A, B, l, false⟩ : R18Request), _)
          rw [← hbb]
        · rw [if_neg hz, if_neg hz]
          rfl
    · rw [if_neg (by decide), if_pos rfl, if_pos (by omega)]
      have hp : pReq 26 v s 0 = ((pBool.bind fun c => if chkE b.data A B = 0 then Pr.ret ⟨b.data, A, B, c⟩ else Pr.err (chkE b.data A B)).map gE) s (m + 8 + 2) := by
        unfold pReq
        rw [if_neg (by decide), if_neg (by decide), Pr.map, Pr.map, Pr.bind, Pr.bind, pEndR, Pr.bind_of pt, Pr.bind_of p8, Pr.bind_of p2]
      rw [hp]
      by_cases h1 : (s.length : Int) - ((m : Int) + 10) < 1
      · rw [if_pos h1, Pr.map, Pr.bind_err (Pr.bind_err (e := 1) (by rw [pBool, Pr.bind_err (pInt_no (by omega))]))]
        rfl
      obtain ⟨c, hc⟩ : ∃ c, s[m + 8 + 2]? = some c := ⟨_, List.getElem?_eq_getElem (by omega)⟩
      have p1 : pInt 1 s (m + 8 + 2) = .ok (sgn c, m + 8 + 2 + 1) := by
        rw [pInt_ok (by omega), drop_cons hc]
        rfl
      rw [if_neg h1, if_pos (by omega), hc, Option.bind_some]
      have hcl := c.toNat_lt
      by_cases hg : (c.toNat : Int) > 1
      · have hs1 : ¬ sgn c = 0 ∧ ¬ sgn c = 1 := by unfold sgn; split <;> omega
        rw [if_pos hg, Pr.map, Pr.bind_err (Pr.bind_err (e := 11) (by rw [pBool, Pr.bind_of p1, if_neg hs1.1, if_neg hs1.2]; rfl))]
        rfl
      · rw [if_neg hg, if_pos (by omega)]
        have hb1 : pBool s (m + 8 + 2) = .ok (decide ((c.toNat : Int) = 1), m + 8 + 2 + 1) := by
          rw [pBool, Pr.bind_of p1]
          by_cases h1 : (c.toNat : Int) = 1
          · have : sgn c = 1 := by unfold sgn; rw [if_pos (by omega)]; exact h1
            rw [this, decide_eq_true h1]
            rfl
          · have : sgn c = 0 := by unfold sgn; rw [if_pos (by omega)]; omega
            rw [this, decide_eq_false h1]
            rfl
        have hpp : ((pBool.bind fun c => if chkE b.data A B = 0 then Pr.ret (⟨b.data, A, B, c⟩ : TxnEnd) else Pr.err (chkE b.data A B)).map gE) s (m + 8 + 2) = ((if chkE b.data A B = 0 then Pr.ret (⟨b.data, A, B, decide ((c.toNat : Int) = 1)⟩ : TxnEnd) else Pr.err (chkE b.data A B)).map gE) s (m + 8 + 2 + 1) := by
          exact Pr.map_bind_of hb1
        have hcc : chkR 26 v ⟨b, 0, A, B, [], decide ((c.toNat : Int) = 1)⟩ = chkE b.data A B := rfl
        have e4 : (m : Int) + 10 + 1 = ((m + 8 + 2 + 1 : Nat) : Int) := by omega
        have hbb : b = ⟨false, b.data⟩ := by rw [← hbf]
        rw [r18_check 26 v hv _ (fun _ => hbf) (by simp) (by simp), Option.bind_some, hcc, hpp, e4, ite_self]
        by_cases hz : chkE b.data A B = 0
        · rw [if_pos hz, if_pos hz]
          show some ((⟨b, 0, A, B, [], decide ((c.toNat : Int) = 1)⟩ : R18Request), _) = some ((⟨⟨false, b.data⟩, 0, A, B, [], decide ((c.toNat : Int) = 1)⟩ : R18Request), _)
          rw [← hbb]
        · rw [if_neg hz, if_neg hz]
          rfl
theorem r18_read (k v : Int) (hk : k = 22 ∨ k = 24 ∨ k = 26) (hv : v = 0 ∨ v = 1) (s : List UInt8) (hs : s.length ≤ 1000000) : f_r18_Read k v s = some (outR (pReq k v s 0)) := by
  rcases hk with rfl | hk
  · exact r18_read22 v hv s hs
  · exact r18_read_ k v hk hv s hs
end Go.Proofs.Ytagbblaegdedpaa.Sl
namespace Go.Proofs.Ytagbblaegdedpaa.Sl
open Go.RowKit
set_option linter.unusedVariables false
set_option linter.unusedSimpArgs false
theorem r18_write (k v : Int) (hk : k = 22 ∨ k = 24 ∨ k = 26) (hv : v = 0 ∨ v = 1) (r : R18Request) (hn : k ≠ 22 → r.fID.null = false) (hm : wI r.fTimeout) (hp : wI r.fProducer) (he : wI r.fEpoch) (hl : ∀ t, t ∈ r.fTopics → wf_Top t) (hw2 : wTs r.fTopics ≤ 2000) (hd : r.fID.data.length ≤ 100000) : f_r18_Write k v r = some (encR k v r) := by
  unfold f_r18_Write encR
  have l8 := be_length r.fProducer 8
  have l2 := be_length r.fEpoch 2
  have l4 := be_length r.fTimeout 4
  have l1 : ∀ n, (be n 1).length = 1 := fun n => be_length n 1
  have lb : (be (blen r.fID) 2 ++ r.fID.data).length ≤ 100002 := by rw [List.length_append, be_length]; omega
  rw [gRBFixed_eq _ _ ⟨by decide, by decide, by omega⟩, Option.bind_some, show (2 : Int).toNat = 2 from rfl]
  by_cases h22 : k = 22
  · rw [if_pos h22, if_pos h22, gRBytes_eq _ _ ⟨hm, by decide, by decide⟩, Option.bind_some, show (4 : Int).toNat = 4 from rfl, if_pos (by omega)]
    unfold encB
    rcases hv with rfl | rfl
    · rw [if_pos rfl, if_neg (by decide)]
      rfl
    · rw [if_neg (by decide), if_pos (by decide), gRBytes_eq _ _ ⟨hp, by decide, by decide⟩, Option.bind_some, show (8 : Int).toNat = 8 from rfl, if_pos (by rw [List.length_append]; omega), gRBytes_eq _ _ ⟨he, by decide, by decide⟩, Option.bind_some, show (2 : Int).toNat = 2 from rfl, if_pos (by rw [List.length_append, List.length_append]; omega)]
      simp only [encB1, encFx, toB, List.append_assoc]
  · have hnull := hn h22
    have hbl : blen r.fID = (r.fID.data.length : Int) := by unfold blen; rw [if_neg (by simp [hnull])]
    rw [if_neg h22, if_neg h22, gRBytes_eq _ _ ⟨hp, by decide, by decide⟩, Option.bind_some, show (8 : Int).toNat = 8 from rfl, if_pos (by omega), gRBytes_eq _ _ ⟨he, by decide, by decide⟩, Option.bind_some, show (2 : Int).toNat = 2 from rfl, if_pos (by rw [List.length_append]; omega), hbl]
    rcases hk with rfl | rfl | rfl
    · exact absurd rfl h22
    · have hts : (be (r.fTopics.length : Int) 4 ++ encs encT r.fTopics).length ≤ 2004 := by rw [List.length_append, be_length, encTs_len]; omega
      rw [if_pos rfl, if_pos rfl, r14t_eq _ hl hw2, Option.bind_some, if_pos (by rw [List.length_append, List.length_append, ← hbl]; omega)]
      simp only [encA, encTx, encTs, toA, List.append_assoc]
    · rw [if_neg (show ¬ (26 : Int) = 24 by decide), if_pos rfl, Option.bind_some, if_neg (show ¬ (26 : Int) = 24 by decide)]
      unfold encE encBool
      cases hc : (toE r).fCommit with
      | true =>
        have hc : r.fCommit = true := hc
        rw [hc, if_pos rfl, if_pos rfl, gRBytes_eq _ _ ⟨by decide, by decide, by decide⟩, Option.bind_some, show (1 : Int).toNat = 1 from rfl, if_pos (by rw [List.length_append, List.length_append, l1, ← hbl]; omega)]
        simp only [encTx, toE, List.append_assoc]
      | false =>
        have hc : r.fCommit = false := hc
        rw [hc, if_neg (by decide), if_pos rfl, gRBytes_eq _ _ ⟨by decide, by decide, by decide⟩, Option.bind_some, show (1 : Int).toNat = 1 from rfl, if_pos (by rw [List.length_append, List.length_append, l1, ← hbl]; omega)]
        simp only [encTx, toE, List.append_assoc]
        rfl
theorem same18 (r : R18Request) (h1 : r.fTopics.length ≤ 1000000) (h2 : ∀ t, t ∈ r.fTopics → t.fParts.length ≤ 140737488355328) : f_r18_Same r r = some true := by
  unfold f_r18_Same
  rw [if_pos rfl, if_pos rfl, if_pos rfl, if_pos rfl, if_pos rfl, rsame_eq _ _ h1 h2, sameTs_refl]
  cases r.fCommit <;> rfl
theorem speaks18_eq : f_l18_speaks = some true := by kernel_rfl
theorem kinds_eq (a : Int) (h : 0 ≤ a) : ∃ k, f_l18_kinds a = some k ∧ (k = 22 ∨ k = 24 ∨ k = 26) := by
  unfold f_l18_kinds
  rw [if_pos h]
  by_cases h0 : a % 3 = 0
  · exact ⟨22, by rw [if_pos h0], .inl rfl⟩
  · by_cases h1 : a % 3 = 1
    · exact ⟨24, by rw [if_neg h0, if_pos h1], .inr (.inl rfl)⟩
    · exact ⟨26, by rw [if_neg h0, if_neg h1, if_pos (by omega)], .inr (.inr rfl)⟩
theorem okRq_wf {k v : Int} {r : R18Request} (h : okRq k v r) (hl : (encR k v r).length ≤ 1000000) : (k ≠ 22 → r.fID.null = false) ∧ wI r.fTimeout ∧ wI r.fProducer ∧ wI r.fEpoch ∧ (∀ t, t ∈ r.fTopics → wf_Top t) ∧ wTs r.fTopics ≤ (encR k v r).length ∧ r.fID.data.length ≤ (encR k v r).length := by
  obtain ⟨h1, h2, h3, h4, h5, h6, h7⟩ := h
  unfold nrm at h7
  unfold encR at hl ⊢
  by_cases h22 : k = 22
  · rw [if_pos h22] at h7 hl ⊢
    have ht : r.fTopics = [] := by rw [← h7]; rfl
    rw [ht]
    refine ⟨fun h => absurd h22 h, fits_rng (h3 h22).2, fits_rng h1, fits_rng h2, (fun t h => nomatch h), Nat.zero_le _, ?_⟩
    unfold encB
    split <;> simp only [encB1, encB0, encFx, toB, List.length_append] <;> omega
  · rw [if_neg h22] at h7 hl ⊢
    by_cases h24 : k = 24
    · rw [if_pos h24] at h7 hl ⊢
      have hm : r.fTimeout = 0 := by rw [← h7]; rfl
      have hn : r.fID.null = false := by rw [← h7]; rfl
      have hlen : (encA (toA r)).length = 2 + r.fID.data.length + (8 + (2 + (4 + wTs r.fTopics))) := by
        simp only [encA, encTx, encTs, toA, List.length_append, be_length, encTs_len]
      rw [hlen] at hl ⊢
      refine ⟨fun _ => hn, by rw [hm]; exact wi0, fits_rng h1, fits_rng h2, fun t ht => ?_, by omega, by omega⟩
      have hmem := wTs_mem _ _ ht
      unfold wT at hmem
      obtain ⟨b1, b2, b3⟩ := (h5 h24).2 t ht
      exact ⟨by show t.fName.length ≤ _; omega, by show t.fParts.length ≤ _; omega, fun n hn => fits_rng (b3 n hn)⟩
    · rw [if_neg h24] at h7 hl ⊢
      have hm : r.fTimeout = 0 := by rw [← h7]; rfl
      have hn : r.fID.null = false := by rw [← h7]; rfl
      have ht : r.fTopics = [] := by rw [← h7]; rfl
      rw [ht]
      refine ⟨fun _ => hn, by rw [hm]; exact wi0, fits_rng h1, fits_rng h2, (fun t h => nomatch h), Nat.zero_le _, ?_⟩
      simp only [encE, encTx, toE, List.length_append]
      omega
theorem wTs_bounds {l : List Top} (h : wTs l ≤ 1000000) : l.length ≤ 1000000 ∧ ∀ t, t ∈ l → t.fParts.length ≤ 1000000 ∧ t.fName.length ≤ 1000000 := by
  have := wTs_len l
  refine ⟨by omega, fun t ht => ?_⟩
  have := wTs_mem _ _ ht
  unfold wT at this
  omega
theorem pure_TxnReads (a0 : Int) (a1 : Int) (a2 : List UInt8) (w0 : 0 ≤ a0 ∧ a0 ≤ 255) (w1 : 0 ≤ a1 ∧ a1 ≤ 255) (w2 : a2.length ≤ 140737488351232) : f_l18_TxnReads a0 a1 a2 = some true := by
  unfold f_l18_TxnReads
  rw [speaks18_eq, Option.bind_some, if_pos rfl]
  by_cases hl : (a2.length : Int) > 2000
  · rw [if_pos hl]
  obtain ⟨k, hk, hkk⟩ := kinds_eq a0 w0.1
  have hv : a1 % 2 = 0 ∨ a1 % 2 = 1 := by omega
  rw [if_neg hl, hk, Option.bind_some, if_pos w1.1, if_pos (by omega), gNew_eq _ (by omega), Option.bind_some]
  generalize a1 % 2 = v at hv ⊢
  have hr := (B_req k v).run a2 0 (by omega) (Nat.zero_le _)
  rw [List.drop_zero] at hr
  rw [r18_read k v hkk hv a2 (by omega)]
  have hz : f_r18_Same zR zR = some true := same18 _ (by decide) (fun t h => nomatch h)
  rcases hr with ⟨e, st, p1, g1, x1, y1⟩ | ⟨x, r, p1, g1, n1, l1⟩
  · have he : e ≠ 0 := by rw [← x1]; exact y1
    rw [g1, p1]
    simp only [Option.bind_some, outR, gErr_eq, x1, if_true, if_neg he]
    rw [show (⟨⟨false, []⟩, 0, 0, 0, [], false⟩ : R18Request) = zR from rfl, hz]
    rfl
  · obtain ⟨s1, s2, s3, s4, s5⟩ := (Sp_req k v hv).spell _ _ _ _ (Nat.zero_le _) p1
    have hlen : (encR k v x).length ≤ 2000 := by omega
    obtain ⟨q1, q2, q3, q4, q5, q6, q7⟩ := okRq_wf s5 (by omega)
    have hb := wTs_bounds (l := x.fTopics) (by omega)
    have hs : f_r18_Same x x = some true := same18 x hb.1 (fun t ht => by have := (hb.2 t ht).1; omega)
    have hw := r18_write k v hkk hv x q1 q2 q3 q4 q5 (by omega) (by omega)
    rw [g1, p1]
    simp only [Option.bind_some, outR, gErr_eq, if_true, hs, gAt_eq]
    rw [if_pos ⟨by omega, by rw [Int.toNat_natCast]; omega⟩, hw, Option.bind_some, Int.toNat_natCast, s4, List.take_zero, List.nil_append, if_pos rfl]
    rfl
end Go.Proofs.Ytagbblaegdedpaa.Sl
namespace Go.Proofs.Ytagbblaegdedpaa.txnReads
open Go.ChangeShapes Go.WideShapes Go.ChangeAt Go.RowKit
open Go.ChangeMaps (open_string shut_string)
set_option linter.unusedVariables false
theorem own : ownKnob Try.prog.godebug = none := by kernel_rfl
set_option maxRecDepth 100000 in
set_option maxHeartbeats 1000000 in
theorem lifted (os : Os) (started : os.Started) (H : Type) (enc : TypeId × Value → H) :
    ReturnsInHanded {} Try.checked os 8 .any (Rows.txnReadsSpec.pre6 enc Try.prog Try.f8 Rows.txnReadsRow.domain false) (Rows.txnReadsSpec.post enc Try.prog Try.f8 false true false false) := by
  refine returnsInHanded_of_change_sized (C := Try.checked) own started (by kernel_rfl) Try.func8
    (ChangeSpec.witness6 (enc := enc) (C := Try.checked) false ⟨#[], #[.int .u8 0, .int .u8 0, .string ByteArray.empty], []⟩ 8 (by kernel_rfl) (by kernel_rfl) (by kernel_rfl) (by kernel_rfl)) ?_
  intro W base args ds gs before hval0 hW hcnd hsz0 _
  have hsz : (DataW.weightsEach Try.prog (Try.f8.params.toList ++ Rows.txnReadsSpec.plain.varTypes Try.prog) (ds ++ gs)).all (· ≤ reachBytes) = true := hsz0
  have hval : ∀ (j : Nat) t v, Try.f8.params[j]? = some t → args[j]? = some v → Value.okWide Try.prog W .any base t v := hval0
  have hW' := hW
  obtain ⟨p, q, hA0, hV, rfl, hfz, hnd⟩ := hW
  have hA : DataW.TrodAll enc Try.prog W 0 (fun _ => true) true Try.f8.params.toList args.toList ds p := hA0
  rw [Try.params8] at hA hval hsz
  obtain ⟨v0, vs0, d0, ds0, p0, q0, hargs, rfl, rfl, h0, r0⟩ := trodAll_cons hA
  obtain ⟨v1, vs1, d1, ds1, p1, q1, rfl, rfl, rfl, h1, r1⟩ := trodAll_cons r0
  obtain ⟨v2, vs2, d2, ds2, p2, q2, rfl, rfl, rfl, h2, r2⟩ := trodAll_cons r1
  obtain ⟨rfl, rfl, rfl⟩ := trodAll_nil r2
  obtain rfl : args = #[v0, v1, v2] := by cases args; simp_all
  obtain ⟨rfl, rfl⟩ := trodVars_none hV
  obtain ⟨a0, rfl, rfl, rfl, u0⟩ := open_int Try.underlying5 (hval 0 5 v0 rfl rfl) h0
  have w0 := Go.bounds_u8 u0
  obtain ⟨a1, rfl, rfl, rfl, u1⟩ := open_int Try.underlying5 (hval 1 5 v1 rfl rfl) h1
  have w1 := Go.bounds_u8 u1
  obtain ⟨s2, rfl, rfl, rfl, y2⟩ := open_string Try.underlying9 (hval 2 9 v2 rfl rfl) h2
  have z2 : s2.size ≤ 140737488351232 := by
    have z := sized_string hsz (j := 2) (t := 9) rfl rfl
    rw [Array.length_toList] at z
    exact z
  obtain ⟨a2, rfl⟩ := Sl.bsOf_of s2
  have w2 : a2.length ≤ 140737488351232 := by rwa [Sl.bsOf_size] at z2
  clear hA0 hval0 hsz0 hsz
  refine (Sl.f_l18_TxnReads_spec a0 a1 a2 true (Sl.pure_TxnReads a0 a1 a2 w0 w1 w2) (fun _ => False) W (fun _ h => h) (Sl.RX.reads_triv _ _)).mono fun e W' hP => ?_
  obtain ⟨v, A', Ns, rfl, ⟨rfl, rfl, rfl⟩, hst⟩ := hP
  have bel := Sl.St.below hst
  exact ⟨_, rfl, _, _, _, [], _, [], hW', trodAll_mk1 (shut_bool Try.underlying4 _), (trodAll_cons_mk (shut_int Try.underlying5 u0) (trodAll_cons_mk (shut_int Try.underlying5 u1) (trodAll_cons_mk (shut_string Try.underlying9 y2) trodAll_mk0))), rfl, bel.frame _, fun h => by cases h⟩
theorem over : Rows.txnReadsRow.holds Try.pinned (OpenSpec.ofChange Rows.txnReadsSpec) :=
  OpenClaim.holds_of_wide 8 Try.f8 rfl rfl rfl rfl rfl rfl rfl ⟨rfl, rfl, rfl, rfl, rfl⟩ rfl rfl rfl rfl rfl (by kernel_rfl) Try.func8 (by kernel_rfl)
    (of_decide_eq_true (by kernel_rfl)) (by unfold Func.isWrapper; first | (rw [if_pos (by decide +kernel)]; kernel_rfl) | (rw [if_neg (by decide +kernel)]; exact ⟨rfl, rfl⟩))
    (fun os started H enc _ => lifted os started H enc)
theorem proved : Rows.TxnReadsSaid := over
end Go.Proofs.Ytagbblaegdedpaa.txnReads
namespace Go.Proofs.Ytagbblaegdedpaa
theorem txnReads_holds : Rows.TxnReadsSaid := txnReads.proved
end Go.Proofs.Ytagbblaegdedpaa
