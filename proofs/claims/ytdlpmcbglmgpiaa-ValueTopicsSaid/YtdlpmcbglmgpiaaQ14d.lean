/- values: the laws (plain). -/
import Derived.Test.YtdlpmcbglmgpiaaQ14c
namespace Go.Proofs.Ytdlpmcbglmgpiaa.Sl
open Go.RowKit
set_option linter.unusedVariables false
set_option linter.unusedSimpArgs false
theorem fits_2 (n : Int) : fits n 2 = decide (-32768 ≤ n ∧ n ≤ 32767) := by
  rw [Bool.eq_iff_iff]
  unfold fits
  simp only [Bool.and_eq_true, decide_eq_true_eq]
  have : (2 : Int) ^ (8 * (2 : Int).toNat - 1) = 32768 := by decide
  omega
theorem fits_8 (n : Int) : fits n 8 = decide (-9223372036854775808 ≤ n ∧ n ≤ 9223372036854775807) := by
  rw [Bool.eq_iff_iff]
  unfold fits
  simp only [Bool.and_eq_true, decide_eq_true_eq]
  have : (2 : Int) ^ (8 * (8 : Int).toNat - 1) = 9223372036854775808 := by decide
  omega
theorem fits_1 (n : Int) : fits n 1 = decide (-128 ≤ n ∧ n ≤ 127) := by
  rw [Bool.eq_iff_iff]
  unfold fits
  simp only [Bool.and_eq_true, decide_eq_true_eq]
  have : (2 : Int) ^ (8 * (1 : Int).toNat - 1) = 128 := by decide
  omega
def badR (v : Val) : Prop := v.fProducer < 0 ∨ v.fEpoch < 0 ∨ v.fEpoch > 32767 ∨ v.fTimeout < 0 ∨ v.fTimeout > 2147483647 ∨ v.fUpdated < 0 ∨ v.fStarted < -1
def badC (v : Val) : Prop := ¬ ((1 ≤ v.fState ∧ v.fState ≤ 3) ↔ 0 < (v.fTopics.length : Int)) ∨ ¬ (v.fState = 0 ↔ v.fStarted = -1)
open Classical in
noncomputable def chkV (v : Val) : Int := if badR v then 11 else if v.fState < 0 ∨ v.fState > 6 then 12 else if badC v then 10 else if okts v.fTopics = true then 0 else 13
theorem if_topics (n : Int) (b : Bool) : ((some b).bind fun x => if x = true then some (0 : Int) else some 13) = some (if b = true then 0 else 13) := by cases b <;> rfl
set_option maxHeartbeats 4000000 in
theorem vcheck_eq (v : Val) (hw : wf_Val v) (hl : v.fTopics.length ≤ 1000000) : f_value_Check v = some (chkV v) := by
  unfold f_value_Check chkV
  rw [vtopics_eq _ hw.2.2.2.2.1.2 hl, gFits_eq _ _ hw.2.1, gFits_eq _ _ hw.2.2.1, fits_2, fits_4]
  generalize okts v.fTopics = b
  by_cases hr : badR v
  · rw [if_pos hr]
    unfold badR at hr
    by_cases c1 : v.fProducer < 0
    · rw [if_pos c1]
    rw [if_neg c1]
    by_cases c2 : v.fEpoch < 0
    · rw [if_pos c2]
    rw [if_neg c2, Option.bind_some]
    by_cases c3 : -32768 ≤ v.fEpoch ∧ v.fEpoch ≤ 32767
    · rw [if_pos (decide_eq_true c3)]
      by_cases c4 : v.fTimeout < 0
      · rw [if_pos c4]
      rw [if_neg c4, Option.bind_some]
      by_cases c5 : -2147483648 ≤ v.fTimeout ∧ v.fTimeout ≤ 2147483647
      · rw [if_pos (decide_eq_true c5)]
        by_cases c6 : v.fUpdated < 0
        · rw [if_pos c6]
        rw [if_neg c6, if_pos (by omega)]
      · rw [if_neg (by simp only [decide_eq_true_eq]; exact c5)]
    · rw [if_neg (by simp only [decide_eq_true_eq]; exact c3)]
  rw [if_neg hr]
  unfold badR at hr
  rw [if_neg (by omega), if_neg (by omega), Option.bind_some, if_pos (decide_eq_true (by omega)), if_neg (by omega), Option.bind_some, if_pos (decide_eq_true (by omega)), if_neg (by omega), if_neg (by omega)]
  unfold f_value_Idle
  by_cases hs : v.fState < 0 ∨ v.fState > 6
  · rw [if_pos hs]
    by_cases c1 : v.fState < 0
    · rw [if_pos c1]
    · rw [if_neg c1, if_pos (by omega)]
  rw [if_neg hs, if_neg (by omega), if_neg (by omega)]
  by_cases hc : badC v
  · rw [if_pos hc]
    unfold badC at hc
    by_cases c0 : v.fState = 0
    · rw [if_pos c0, Option.bind_some, if_pos rfl]
      by_cases c1 : (v.fTopics.length : Int) = 0
      · rw [if_pos c1, if_pos c0, if_neg (by omega)]
      · rw [if_neg c1]
    · rw [if_neg c0]
      by_cases c4 : v.fState ≥ 4
      · rw [if_pos c4, Option.bind_some, if_pos rfl]
        by_cases c1 : (v.fTopics.length : Int) = 0
        · rw [if_pos c1, if_neg c0, if_pos (by omega)]
        · rw [if_neg c1]
      · rw [if_neg c4, Option.bind_some, if_neg (by decide)]
        by_cases c1 : (v.fTopics.length : Int) = 0
        · rw [if_pos c1]
        · rw [if_neg c1, if_neg c0, if_pos (by omega)]
  rw [if_neg hc]
  unfold badC at hc
  by_cases c0 : v.fState = 0
  · rw [if_pos c0, Option.bind_some, if_pos rfl, if_pos (by omega), if_pos c0, if_pos (by omega)]
    cases b <;> rfl
  · rw [if_neg c0]
    by_cases c4 : v.fState ≥ 4
    · rw [if_pos c4, Option.bind_some, if_pos rfl, if_pos (by omega), if_neg c0, if_neg (by omega)]
      cases b <;> rfl
    · rw [if_neg c4, Option.bind_some, if_neg (by decide), if_neg (by omega), if_neg c0, if_neg (by omega)]
      cases b <;> rfl
set_option maxHeartbeats 4000000 in
theorem rcheck_eq (v : Val) (hl : v.fTopics.length ≤ 1000000) (hx : ∀ t, t ∈ v.fTopics → t.fParts.length ≤ 1000000 ∧ t.fName.length ≤ 1000000) : f_r14_Check v = some (chkV v) := by
  unfold f_r14_Check chkV
  rw [rise_eq _ hl hx]
  generalize okts v.fTopics = b
  by_cases hr : badR v
  · rw [if_pos hr]
    unfold badR at hr
    by_cases c1 : v.fProducer < 0
    · rw [if_pos c1]
    by_cases c2 : v.fEpoch < 0
    · rw [if_neg c1, if_pos c2]
    by_cases c3 : v.fEpoch > 32767
    · rw [if_neg c1, if_neg c2, if_pos c3]
    by_cases c4 : v.fTimeout < 0
    · rw [if_neg c1, if_neg c2, if_neg c3, if_pos c4]
    by_cases c5 : v.fTimeout > 2147483647
    · rw [if_neg c1, if_neg c2, if_neg c3, if_neg c4, if_pos c5]
    by_cases c6 : v.fUpdated < 0
    · rw [if_neg c1, if_neg c2, if_neg c3, if_neg c4, if_neg c5, if_pos c6]
    · rw [if_neg c1, if_neg c2, if_neg c3, if_neg c4, if_neg c5, if_neg c6, if_pos (by omega)]
  rw [if_neg hr]
  unfold badR at hr
  rw [if_neg (by omega), if_neg (by omega), if_neg (by omega), if_neg (by omega), if_neg (by omega), if_neg (by omega), if_neg (by omega)]
  by_cases hs : v.fState < 0 ∨ v.fState > 6
  · rw [if_pos hs]
    by_cases c1 : v.fState < 0
    · rw [if_pos c1]
    · rw [if_neg c1, if_pos (by omega)]
  rw [if_neg hs, if_neg (by omega), if_neg (by omega)]
  by_cases hc : badC v
  · rw [if_pos hc]
    unfold badC at hc
    by_cases c0 : v.fState ≥ 1
    · rw [if_pos c0]
      by_cases c3 : v.fState ≤ 3
      · rw [if_pos c3]
        by_cases c1 : (v.fTopics.length : Int) = 0
        · rw [if_pos c1]
        · rw [if_neg c1, if_neg (by omega), if_pos (by omega), if_pos (by omega)]
      · rw [if_neg c3]
        by_cases c1 : (v.fTopics.length : Int) > 0
        · rw [if_pos c1]
        · rw [if_neg c1, if_neg (by omega), if_pos (by omega), if_pos (by omega)]
    · rw [if_neg c0]
      by_cases c1 : (v.fTopics.length : Int) > 0
      · rw [if_pos c1]
      · rw [if_neg c1, if_pos (by omega), if_neg (by omega)]
  rw [if_neg hc]
  unfold badC at hc
  by_cases c0 : v.fState ≥ 1
  · rw [if_pos c0]
    by_cases c3 : v.fState ≤ 3
    · rw [if_pos c3, if_neg (by omega), if_neg (by omega), if_pos (by omega), if_neg (by omega)]
      cases b <;> rfl
    · rw [if_neg c3, if_neg (by omega), if_neg (by omega), if_pos (by omega), if_neg (by omega)]
      cases b <;> rfl
  · rw [if_neg c0, if_neg (by omega), if_pos (by omega), if_pos (by omega), if_neg (by omega)]
    cases b <;> rfl
/-- A value that can be. -/
theorem chk_zero {v : Val} (h : chkV v = 0) : ¬ badR v ∧ ¬ (v.fState < 0 ∨ v.fState > 6) ∧ ¬ badC v ∧ okts v.fTopics = true := by
  unfold chkV at h
  split at h
  · exact absurd h (by decide)
  · rename_i h1
    split at h
    · exact absurd h (by decide)
    · rename_i h2
      split at h
      · exact absurd h (by decide)
      · rename_i h3
        split at h
        · rename_i h4
          exact ⟨h1, h2, h3, h4⟩
        · exact absurd h (by decide)
theorem okts_ok {l : List Top} (h : okts l = true) (hw : wTs l ≤ 2000) : ∀ t, t ∈ l → okT t := by
  intro t ht
  unfold okts at h
  rw [Bool.and_eq_true] at h
  have h1 := List.all_eq_true.1 h.1 t ht
  unfold oktB okps at h1
  simp only [Bool.and_eq_true, decide_eq_true_eq, List.all_eq_true] at h1
  have h2 := wTs_mem l t ht
  unfold wT at h2
  refine ⟨fits_small (.inl rfl) (by omega) (by omega), fits_small (.inr (.inl rfl)) (by omega) (by omega), fun n hn => ?_⟩
  have h3 := h1.2.1.1 n hn
  unfold okn at h3
  simp only [Bool.and_eq_true, decide_eq_true_eq] at h3
  rw [fits_4]
  exact decide_eq_true (by omega)
def encV (v : Val) : List UInt8 := be 0 2 ++ (be v.fProducer 8 ++ (be v.fEpoch 2 ++ (be v.fTimeout 4 ++ (be v.fState 1 ++ ((be (v.fTopics.length : Int) 4 ++ encs encT v.fTopics) ++ (be v.fUpdated 8 ++ be v.fStarted 8))))))
def pEnd : Pr Unit := fun s q => if q = s.length then .ok ((), q) else .error 2
def pVal0 : Pr Val := (pInt 2).bind fun z => if z = 0 then (pInt 8).bind fun a => (pInt 2).bind fun b => (pInt 4).bind fun c => (pInt 1).bind fun d => (pRow 4 6 pTopic).bind fun l => (pInt 8).bind fun e => (pInt 8).bind fun f => pEnd.bind fun _ => .ret ⟨a, b, c, d, l, e, f⟩ else .err 7
/-- What can be a value as it stands there. -/
def okV (v : Val) : Prop := fits v.fProducer 8 = true ∧ fits v.fEpoch 2 = true ∧ fits v.fTimeout 4 = true ∧ fits v.fState 1 = true ∧ (fits (v.fTopics.length : Int) 4 = true ∧ ∀ t, t ∈ v.fTopics → okT t) ∧ fits v.fUpdated 8 = true ∧ fits v.fStarted 8 = true
theorem val_spell {s : List UInt8} {v : Val} {r : Nat} (h : pVal0 s 0 = .ok (v, r)) : s = encV v ∧ okV v := by
  obtain ⟨z, q0, h0, h⟩ := Pr.bind_ok h
  split at h
  · rename_i hz
    subst hz
    obtain ⟨a, q1, h1, h⟩ := Pr.bind_ok h
    obtain ⟨b, q2, h2, h⟩ := Pr.bind_ok h
    obtain ⟨c, q3, h3, h⟩ := Pr.bind_ok h
    obtain ⟨d, q4, h4, h⟩ := Pr.bind_ok h
    obtain ⟨l, q5, h5, h⟩ := Pr.bind_ok h
    obtain ⟨e, q6, h6, h⟩ := Pr.bind_ok h
    obtain ⟨f, q7, h7, h⟩ := Pr.bind_ok h
    obtain ⟨u, q8, h8, h⟩ := Pr.bind_ok h
    injection h with h
    obtain ⟨rfl, rfl⟩ := Prod.mk.inj h
    have I2 := Sp_int 2 (by decide) (by decide)
    have I8 := Sp_int 8 (by decide) (by decide)
    obtain ⟨-, a2, -, a4, a5⟩ := I2.spell _ _ _ _ (Nat.zero_le _) h0
    obtain ⟨-, b2, -, b4, b5⟩ := I8.spell _ _ _ _ a2 h1
    obtain ⟨-, c2, -, c4, c5⟩ := I2.spell _ _ _ _ b2 h2
    obtain ⟨-, d2, -, d4, d5⟩ := (Sp_int 4 (by decide) (by decide)).spell _ _ _ _ c2 h3
    obtain ⟨-, e2, -, e4, e5⟩ := (Sp_int 1 (by decide) (by decide)).spell _ _ _ _ d2 h4
    obtain ⟨-, f2, -, f4, f5⟩ := Sp_topics.spell _ _ _ _ e2 h5
    obtain ⟨-, g2, -, g4, g5⟩ := I8.spell _ _ _ _ f2 h6
    obtain ⟨-, i2, -, i4, i5⟩ := I8.spell _ _ _ _ g2 h7
    have hq : q7 = s.length := by
      unfold pEnd at h8
      split at h8
      · rename_i hh; exact hh
      · exact nomatch h8
    refine ⟨?_, b5, c5, d5, e5, f5, g5, i5⟩
    have hs : s = s.take q7 := by rw [hq, List.take_length]
    rw [hs, i4, g4, f4, e4, d4, c4, b4, a4]
    simp only [encV, List.append_assoc, List.take_zero, List.nil_append]
  · exact nomatch h
theorem val_back {v : Val} (h : okV v) : ∃ r, pVal0 (encV v) 0 = .ok (v, r) := by
  obtain ⟨h1, h2, h3, h4, h5, h6, h7⟩ := h
  have I2 := Sp_int 2 (by decide) (by decide)
  have I8 := Sp_int 8 (by decide) (by decide)
  have hlen : (encV v).length = 37 + (encs encT v.fTopics).length := by
    simp only [encV, List.length_append, be_length]
    omega
  have hd : (encV v).drop 0 = encV v := rfl
  generalize hE : encV v = E at hd hlen ⊢
  have hh : E.drop 0 = be 0 2 ++ (be v.fProducer 8 ++ (be v.fEpoch 2 ++ (be v.fTimeout 4 ++ (be v.fState 1 ++ ((be (v.fTopics.length : Int) 4 ++ encs encT v.fTopics) ++ (be v.fUpdated 8 ++ (be v.fStarted 8 ++ []))))))) := by
    rw [hd, ← hE]
    simp only [encV, List.append_nil]
  have g0 := I2.back _ _ _ 0 (Nat.zero_le _) (fits_small (.inl rfl) (by decide) (by decide)) hh
  have hh := drop_step hh
  rw [be_length] at hh g0
  have g1 := I8.back _ _ _ _ (by omega) h1 hh
  have hh := drop_step hh
  rw [be_length] at hh g1
  have g2 := I2.back _ _ _ _ (by omega) h2 hh
  have hh := drop_step hh
  rw [be_length] at hh g2
  have g3 := (Sp_int 4 (by decide) (by decide)).back _ _ _ _ (by omega) h3 hh
  have hh := drop_step hh
  rw [be_length] at hh g3
  have g4 := (Sp_int 1 (by decide) (by decide)).back _ _ _ _ (by omega) h4 hh
  have hh := drop_step hh
  rw [be_length] at hh g4
  have g5 := Sp_topics.back _ _ _ _ (by omega) h5 hh
  have hh := drop_step hh
  rw [List.length_append, be_length] at hh g5
  have g6 := I8.back _ _ _ _ (by omega) h6 hh
  have hh := drop_step hh
  rw [be_length] at hh g6
  have g7 := I8.back _ _ _ _ (by omega) h7 hh
  rw [be_length] at g7
  refine ⟨E.length, ?_⟩
  rw [pVal0, Pr.bind_of g0, if_pos rfl, Pr.bind_of g1, Pr.bind_of g2, Pr.bind_of g3, Pr.bind_of g4, Pr.bind_of g5, Pr.bind_of g6, Pr.bind_of g7]
  have he : 0 + 2 + 8 + 2 + 4 + 1 + (4 + (encs encT v.fTopics).length) + 8 + 8 = E.length := by omega
  rw [he, Pr.bind_of (a := ()) (r := E.length) (by unfold pEnd; rw [if_pos rfl])]
  rfl
def zVal : Val := ⟨0, 0, 0, 0, [], 0, 0⟩
theorem gClose_d {st : I} (h : st.err ≠ 0) : gClose st = some (st.err, st) := by rw [gClose_eq, iclose_err h]
theorem okV_wf {v : Val} (h : okV v) (hl : wTs v.fTopics ≤ 1000000) : wf_Val v := by
  obtain ⟨h1, h2, h3, h4, h5, h6, h7⟩ := h
  have hn := wTs_len v.fTopics
  refine ⟨fits_rng h1, fits_rng h2, fits_rng h3, fits_rng h4, ⟨by omega, fun t ht => ?_⟩, fits_rng h6, fits_rng h7⟩
  have hw := wTs_mem _ _ ht
  unfold wT at hw
  exact ⟨show t.fName.length ≤ _ by omega, by omega, fun n hn => fits_rng ((h5.2 t ht).2.2 n hn)⟩
open Classical in
noncomputable def decV (s : List UInt8) : Val × Int := match pVal0 s 0 with
  | .error e => (zVal, e)
  | .ok (v, _) => if chkV v = 0 then (v, 0) else (zVal, chkV v)
theorem encV_len (v : Val) : (encV v).length = 37 + wTs v.fTopics := by
  simp only [encV, List.length_append, be_length, encTs_len]
  omega
theorem dead_val (st : I) (h : st.err ≠ 0) : (gClose st).bind (fun (x33, st34) => if x33 = 0 then ((f_value_Check zVal).bind fun x37 => if x37 = 0 then (some (zVal, (0 : Int))) else (some (zVal, x37))) else (some (zVal, x33))) = some (zVal, st.err) := by
  rw [gClose_d h, Option.bind_some]
  simp only
  rw [if_neg h]
theorem vdecode_eq (s : List UInt8) (hs : s.length ≤ 2000) : f_value_Decode s = some (decV s) := by
  unfold f_value_Decode decV
  rw [gNew_eq _ (by omega), Option.bind_some]
  have Q1' := Q1
  have hB := B_topics
  have r0 := Q2.run s 0 (Nat.zero_le _)
  rw [List.drop_zero] at r0
  rcases r0 with ⟨e, st, p0, g0, x0, y0⟩ | ⟨z, q0, p0, g0, n0, l0⟩
  · rw [show pVal0 s 0 = .error e from Pr.bind_err p0, g0]
    simp only [Option.bind_some, if_true, gInt_d y0, hB.dead _ y0, gClose_d y0, if_neg y0, x0]
    rw [if_neg (by rw [← x0]; exact y0)]
    rfl
  rw [g0, Option.bind_some]
  simp only
  by_cases hz : z = 0
  · have hp : pVal0 s 0 = ((pInt 8).bind fun a => (pInt 2).bind fun b => (pInt 4).bind fun c => (pInt 1).bind fun d => (pRow 4 6 pTopic).bind fun l => (pInt 8).bind fun e => (pInt 8).bind fun f => pEnd.bind fun _ => .ret (⟨a, b, c, d, l, e, f⟩ : Val)) s q0 := by rw [pVal0, Pr.bind_of p0, if_pos hz]
    rw [if_pos hz]
    have hval := fun v r (h : pVal0 s 0 = .ok (v, r)) => val_spell h
    rw [hp] at hval ⊢
    clear hp
    rcases Q8.run s q0 l0 with ⟨e, st, p1, g1, x1, y1⟩ | ⟨a, q1, p1, g1, n1, l1⟩
    · rw [Pr.bind_err p1, g1]
      simp only [Option.bind_some, gInt_d y1, hB.dead _ y1, gClose_d y1, x1]
      rw [if_neg (by rw [← x1]; exact y1)]
      rfl
    rw [g1, Option.bind_some]
    simp only
    rw [Pr.bind_of p1] at hval ⊢
    rcases Q2.run s q1 l1 with ⟨e, st, p2, g2, x2, y2⟩ | ⟨b, q2, p2, g2, n2, l2⟩
    · rw [Pr.bind_err p2, g2]
      simp only [Option.bind_some, gInt_d y2, hB.dead _ y2, gClose_d y2, x2]
      rw [if_neg (by rw [← x2]; exact y2)]
      rfl
    rw [g2, Option.bind_some]
    simp only
    rw [Pr.bind_of p2] at hval ⊢
    rcases Q4.run s q2 l2 with ⟨e, st, p3, g3, x3, y3⟩ | ⟨c, q3, p3, g3, n3, l3⟩
    · rw [Pr.bind_err p3, g3]
      simp only [Option.bind_some, gInt_d y3, hB.dead _ y3, gClose_d y3, x3]
      rw [if_neg (by rw [← x3]; exact y3)]
      rfl
    rw [g3, Option.bind_some]
    simp only
    rw [Pr.bind_of p3] at hval ⊢
    rcases Q1.run s q3 l3 with ⟨e, st, p4, g4, x4, y4⟩ | ⟨d, q4, p4, g4, n4, l4⟩
    · rw [Pr.bind_err p4, g4]
      simp only [Option.bind_some, gInt_d y4, hB.dead _ y4, gClose_d y4, x4]
      rw [if_neg (by rw [← x4]; exact y4)]
      rfl
    rw [g4, Option.bind_some]
    simp only
    rw [Pr.bind_of p4] at hval ⊢
    rcases hB.run s q4 (by omega) l4 with ⟨e, st, p5, g5, x5, y5⟩ | ⟨l, q5, p5, g5, n5, l5⟩
    · rw [Pr.bind_err p5, g5]
      simp only [Option.bind_some, gInt_d y5, hB.dead _ y5, gClose_d y5, x5]
      rw [if_neg (by rw [← x5]; exact y5)]
      rfl
    rw [g5, Option.bind_some]
    simp only
    rw [Pr.bind_of p5] at hval ⊢
    rcases Q8.run s q5 l5 with ⟨e, st, p6, g6, x6, y6⟩ | ⟨e', q6, p6, g6, n6, l6⟩
    · rw [Pr.bind_err p6, g6]
      simp only [Option.bind_some, gInt_d y6, hB.dead _ y6, gClose_d y6, x6]
      rw [if_neg (by rw [← x6]; exact y6)]
      rfl
    rw [g6, Option.bind_some]
    simp only
    rw [Pr.bind_of p6] at hval ⊢
    rcases Q8.run s q6 l6 with ⟨e, st, p7, g7, x7, y7⟩ | ⟨f, q7, p7, g7, n7, l7⟩
    · rw [Pr.bind_err p7, g7]
      simp only [Option.bind_some, gInt_d y7, hB.dead _ y7, gClose_d y7, x7]
      rw [if_neg (by rw [← x7]; exact y7)]
      rfl
    rw [g7, Option.bind_some]
    simp only
    rw [Pr.bind_of p7] at hval ⊢
    rw [gClose_eq, Option.bind_some]
    simp only
    by_cases hq : q7 = s.length
    · have he : pEnd s q7 = .ok ((), q7) := by unfold pEnd; rw [if_pos hq]
      rw [Pr.bind_of he] at hval ⊢
      have hv := hval _ _ rfl
      have hlen := congrArg List.length hv.1
      rw [encV_len] at hlen
      have hi : (iclose ⟨s.drop q7, q7, 0⟩).err = 0 := by rw [hq, List.drop_length]; rfl
      rw [hi, if_pos rfl, vcheck_eq _ (okV_wf hv.2 (by omega)) (show l.length ≤ 1000000 by have := wTs_len l; simp only at hlen; omega), Option.bind_some]
      show (if _ then _ else _) = some (if _ then _ else _)
      split <;> rfl
    · have he : pEnd s q7 = .error 2 := by unfold pEnd; rw [if_neg hq]
      have hi : (iclose ⟨s.drop q7, q7, 0⟩).err = 2 := by
        unfold iclose
        rw [if_neg]
        · rfl
        · intro h0
          have := List.drop_eq_nil_iff.1 h0
          omega
      rw [Pr.bind_err he, hi, if_neg (by decide)]
      rfl
  · have hp : pVal0 s 0 = .error 7 := by rw [pVal0, Pr.bind_of p0, if_neg hz]; rfl
    rw [if_neg hz, hp, gIFail_eq, Option.bind_some, ifail_z]
    have y : (⟨s.drop q0, q0, 7⟩ : I).err ≠ 0 := by simp
    simp only [Option.bind_some, gInt_d y, hB.dead _ y, gClose_d y]
    rfl
/-! The document's decoder. -/
theorem pInt_ok {k : Nat} {s : List UInt8} {q : Nat} (h : q + k ≤ s.length) : pInt k s q = .ok (beInt ((s.drop q).take k), q + k) := by unfold pInt; rw [if_neg (by omega)]
theorem pInt_no {k : Nat} {s : List UInt8} {q : Nat} (h : s.length < q + k) : pInt k s q = .error 1 := by unfold pInt; rw [if_pos h]
theorem pRow_err {s : List UInt8} {q : Nat} {e : Int} (hs : s.length ≤ 1000000) (hq : q ≤ s.length) (h : pRow 4 6 pTopic s q = .error e) : e ≠ 0 := by
  rcases B_topics.run s q hs hq with ⟨e', st, p, g, x, y⟩ | ⟨a, r, p, g, n, l⟩
  · rw [h] at p
    injection p with p
    rw [p, ← x]
    exact y
  · rw [h] at p
    exact nomatch p
theorem rdecode_eq (s : List UInt8) (hs : s.length ≤ 2000) : f_r14_Decode s = some (decV s) := by
  unfold f_r14_Decode decV
  by_cases h2 : (s.length : Int) < 2
  · rw [if_pos h2, show pVal0 s 0 = .error 1 from Pr.bind_err (pInt_no (by omega))]
    rfl
  rw [if_neg h2, if_pos (by omega), gRInt_eq _ (by rw [List.length_take]; omega), Option.bind_some]
  have hval := fun v r (h : pVal0 s 0 = .ok (v, r)) => val_spell h
  have p0 : pInt 2 s 0 = .ok (beInt (s.take 2), 2) := pInt_ok (by omega)
  by_cases hz : beInt (s.take 2) = 0
  · have hp : pVal0 s 0 = ((pInt 8).bind fun a => (pInt 2).bind fun b => (pInt 4).bind fun c => (pInt 1).bind fun d => (pRow 4 6 pTopic).bind fun l => (pInt 8).bind fun e => (pInt 8).bind fun f => pEnd.bind fun _ => .ret (⟨a, b, c, d, l, e, f⟩ : Val)) s 2 := by rw [pVal0, Pr.bind_of p0, if_pos hz]
    rw [if_pos hz]
    rw [hp] at hval ⊢
    clear hp
    by_cases h17 : (s.length : Int) < 17
    · rw [if_pos h17]
      suffices h : ∀ f : Int → Int → Int → Int → Pr Val, ((pInt 8).bind fun a => (pInt 2).bind fun b => (pInt 4).bind fun c => (pInt 1).bind fun d => f a b c d) s 2 = .error 1 by
        rw [h]
        rfl
      intro f
      by_cases h10 : s.length < 10
      · exact Pr.bind_err (pInt_no (by omega))
      rw [Pr.bind_of (pInt_ok (by omega))]
      by_cases h12 : s.length < 12
      · exact Pr.bind_err (pInt_no (by omega))
      rw [Pr.bind_of (pInt_ok (by omega))]
      by_cases h16 : s.length < 16
      · exact Pr.bind_err (pInt_no (by omega))
      rw [Pr.bind_of (pInt_ok (by omega))]
      exact Pr.bind_err (pInt_no (by omega))
    rw [if_neg h17, if_pos (by omega), gRInt_eq _ (by rw [List.length_take]; omega), Option.bind_some, if_pos (by omega), gRInt_eq _ (by rw [List.length_take]; omega), Option.bind_some, if_pos (by omega), gRInt_eq _ (by rw [List.length_take]; omega), Option.bind_some, if_pos (by omega), gRInt_eq _ (by rw [List.length_take]; omega), Option.bind_some, if_pos (by omega)]
    rw [Pr.bind_of (pInt_ok (by omega)), Pr.bind_of (pInt_ok (by omega)), Pr.bind_of (pInt_ok (by omega)), Pr.bind_of (pInt_ok (by omega))] at hval ⊢
    simp only [show 2 + 8 = 10 from rfl, show 10 + 2 = 12 from rfl, show 12 + 4 = 16 from rfl, show 16 + 1 = 17 from rfl] at hval ⊢
    generalize beInt ((s.drop 2).take 8) = a at hval ⊢
    generalize beInt ((s.drop 10).take 2) = b at hval ⊢
    generalize beInt ((s.drop 12).take 4) = c at hval ⊢
    generalize beInt ((s.drop 16).take 1) = d at hval ⊢
    have hsh := Sh_topics.zero (s := s) (q := 17) (by omega)
    have hl17 : (s.drop 17).length = s.length - 17 := List.length_drop
    rw [r14_topics _ (by omega), Option.bind_some]
    cases ht : pRow 4 6 pTopic (s.drop 17) 0 with
    | error e =>
      rw [ht] at hsh
      have he := pRow_err (by omega) (by omega) hsh
      rw [Pr.bind_err hsh]
      simp only
      rw [if_neg he]
      rfl
    | ok x =>
      obtain ⟨l, m⟩ := x
      rw [ht] at hsh
      have hsh : pRow 4 6 pTopic s 17 = .ok (l, 17 + m) := hsh
      have hm := (Sp_topics.spell _ _ _ _ (Nat.zero_le _) ht).2.1
      rw [hl17] at hm
      rw [Pr.bind_of hsh] at hval ⊢
      simp only [if_true]
      rw [if_pos (by omega), if_pos (by omega), show ((17 : Int) + (m : Int)).toNat = 17 + m by omega]
      have hlr : (s.drop (17 + m)).length = s.length - (17 + m) := List.length_drop
      by_cases h16 : ((s.drop (17 + m)).length : Int) < 16
      · rw [if_pos h16]
        suffices h : ∀ f : Int → Int → Pr Val, ((pInt 8).bind fun a => (pInt 8).bind fun b => f a b) s (17 + m) = .error 1 by
          rw [h]
          rfl
        intro f
        by_cases h8 : s.length < 17 + m + 8
        · exact Pr.bind_err (pInt_no (by omega))
        rw [Pr.bind_of (pInt_ok (by omega))]
        exact Pr.bind_err (pInt_no (by omega))
      rw [if_neg h16]
      rw [Pr.bind_of (pInt_ok (by omega)), Pr.bind_of (pInt_ok (by omega))] at hval ⊢
      by_cases hg : ((s.drop (17 + m)).length : Int) > 16
      · rw [if_pos hg, Pr.bind_err (e := 2) (by unfold pEnd; rw [if_neg (by omega)])]
        rfl
      · have he : pEnd s (17 + m + 8 + 8) = .ok ((), 17 + m + 8 + 8) := by unfold pEnd; rw [if_pos (by omega)]
        rw [Pr.bind_of he] at hval ⊢
        have hv := hval _ _ rfl
        have hlen := congrArg List.length hv.1
        rw [encV_len] at hlen
        rw [if_neg hg, if_pos (by omega), gRInt_eq _ (by rw [List.length_take]; omega), Option.bind_some, if_pos (by omega), gRInt_eq _ (by rw [List.length_drop]; omega), Option.bind_some]
        have hd8 : ((s.drop (17 + m + 8)).take 8) = (s.drop (17 + m)).drop 8 := by
          rw [List.drop_drop, List.take_of_length_le (by rw [List.length_drop]; omega)]
        rw [hd8] at hv hlen ⊢
        generalize beInt ((s.drop (17 + m)).take 8) = e at hv hlen ⊢
        generalize beInt ((s.drop (17 + m)).drop 8) = f at hv hlen ⊢
        have hwl : wTs l ≤ 2000 := by simp only at hlen; omega
        rw [rcheck_eq _ (show l.length ≤ 1000000 by have := wTs_len l; omega) (fun t ht => by have := wTs_mem l t ht; unfold wT at this; exact ⟨by omega, by omega⟩), Option.bind_some]
        show (if _ then _ else _) = some (if _ then _ else _)
        split <;> rfl
  · have hp : pVal0 s 0 = .error 7 := by rw [pVal0, Pr.bind_of p0, if_neg hz]; rfl
    rw [if_neg hz, hp]
    rfl
theorem encode_eq (v : Val) (hw : wf_Val v) (hl : wTs v.fTopics ≤ 2000) : f_value_Encode v = some (if chkV v = 0 then (encV v, 0) else ([], chkV v)) := by
  have hn := wTs_len v.fTopics
  unfold f_value_Encode
  rw [vcheck_eq v hw (by omega), Option.bind_some]
  by_cases hc : chkV v = 0
  · obtain ⟨h1, h2, h3, h4⟩ := chk_zero hc
    have hok := okts_ok h4 hl
    unfold badR at h1
    obtain ⟨w1, w2, w3, w4, w5, w6, w7⟩ := hw
    have f8 : ∀ n : Int, wI n → fits n 8 = true := fun n h => by rw [fits_8]; exact decide_eq_true h
    rw [if_pos hc, if_pos hc, gOInt_z (fits_small (.inl rfl) (by decide) (by decide)) (by simp), Option.bind_some, gOInt_z (f8 _ w1) (by simp only [List.length_append, be_length]; decide), Option.bind_some]
    rw [gOInt_z (by rw [fits_2]; exact decide_eq_true (by omega)) (by simp only [List.length_append, be_length]; decide), Option.bind_some]
    rw [gOInt_z (by rw [fits_4]; exact decide_eq_true (by omega)) (by simp only [List.length_append, be_length]; decide), Option.bind_some]
    rw [gOInt_z (by rw [fits_1]; exact decide_eq_true (by omega)) (by simp only [List.length_append, be_length]; decide), Option.bind_some]
    rw [put_topics _ _ hok (by simp only [List.length_append, be_length]; decide) hl, Option.bind_some]
    have hx : (2 : Int).toNat = 2 ∧ (8 : Int).toNat = 8 ∧ (4 : Int).toNat = 4 ∧ (1 : Int).toNat = 1 := ⟨rfl, rfl, rfl, rfl⟩
    rw [gOInt_z (f8 _ w6) (by simp only [List.length_append, be_length, encTs_len, hx, List.length_nil]; omega), Option.bind_some, gOInt_z (f8 _ w7) (by simp only [List.length_append, be_length, encTs_len, hx, List.length_nil]; omega), Option.bind_some, gOText_eq, otx_z, Option.bind_some]
    simp only [encV, List.append_assoc, List.nil_append, hx]
  · rw [if_neg hc, if_neg hc]
theorem rencode_eq (v : Val) (hw : wf_Val v) (hl : wTs v.fTopics ≤ 2000) : f_r14_Encode v = some (encV v) := by
  have hn := wTs_len v.fTopics
  obtain ⟨w1, w2, w3, w4, w5, w6, w7⟩ := hw
  unfold f_r14_Encode
  have hx : (2 : Int).toNat = 2 ∧ (8 : Int).toNat = 8 ∧ (4 : Int).toNat = 4 ∧ (1 : Int).toNat = 1 := ⟨rfl, rfl, rfl, rfl⟩
  rw [gRBytes_eq _ _ ⟨by decide, by decide, by decide⟩, Option.bind_some, gRBytes_eq _ _ ⟨w1, by decide, by decide⟩, Option.bind_some, if_pos (by simp only [List.length_append, be_length]; decide)]
  rw [gRBytes_eq _ _ ⟨w2, by decide, by decide⟩, Option.bind_some, if_pos (by simp only [List.length_append, be_length]; decide)]
  rw [gRBytes_eq _ _ ⟨w3, by decide, by decide⟩, Option.bind_some, if_pos (by simp only [List.length_append, be_length]; decide)]
  rw [gRBytes_eq _ _ ⟨w4, by decide, by decide⟩, Option.bind_some, if_pos (by simp only [List.length_append, be_length]; decide)]
  rw [r14t_eq _ w5.2 hl, Option.bind_some, if_pos (by simp only [List.length_append, be_length, encTs_len, hx]; omega)]
  rw [gRBytes_eq _ _ ⟨w6, by decide, by decide⟩, Option.bind_some, if_pos (by simp only [List.length_append, be_length, encTs_len, hx]; omega)]
  rw [gRBytes_eq _ _ ⟨w7, by decide, by decide⟩, Option.bind_some, if_pos (by simp only [List.length_append, be_length, encTs_len, hx]; omega)]
  simp only [encV, List.append_assoc, hx]
theorem vsame_refl (v : Val) (hl : v.fTopics.length ≤ 1000000) (ha : ∀ t, t ∈ v.fTopics → t.fParts.length ≤ 140737488355328) : f_r14_Same v v = some true ∧ f_value_Same v v = some true := by
  unfold f_r14_Same f_value_Same
  rw [rsame_eq _ _ hl ha, vsame_eq _ _ ha, sameTs_refl]
  simp
theorem NZ_val0 : NZ pVal0 := by
  have I2 := Sp_int 2 (by decide) (by decide)
  have I8 := Sp_int 8 (by decide) (by decide)
  refine NZ.bind Q2.cb.nz I2 fun z => ?_
  by_cases hz : z = 0
  · rw [if_pos hz]
    refine NZ.bind Q8.cb.nz I8 fun _ => NZ.bind Q2.cb.nz I2 fun _ => NZ.bind Q4.cb.nz (Sp_int 4 (by decide) (by decide)) fun _ => NZ.bind Q1.cb.nz (Sp_int 1 (by decide) (by decide)) fun _ => NZ.bind B_topics.nz Sp_topics fun _ => NZ.bind Q8.cb.nz I8 fun _ => NZ.bind Q8.cb.nz I8 fun _ => ?_
    intro s q e hs hq h
    by_cases hq2 : q = s.length
    · rw [Pr.bind_of (a := ()) (r := q) (by unfold pEnd; rw [if_pos hq2])] at h
      exact nomatch h
    · rw [Pr.bind_err (e := 2) (by unfold pEnd; rw [if_neg hq2])] at h
      injection h with h
      omega
  · rw [if_neg hz]
    exact NZ.err (by decide)
theorem decV_good {s : List UInt8} (h : (decV s).2 = 0) (hs : s.length ≤ 2000) : s = encV (decV s).1 ∧ okV (decV s).1 ∧ chkV (decV s).1 = 0 ∧ wTs (decV s).1.fTopics ≤ 2000 := by
  unfold decV at h ⊢
  cases hp : pVal0 s 0 with
  | error e =>
    rw [hp] at h
    exact absurd h (NZ_val0 s 0 e (by omega) (Nat.zero_le _) hp)
  | ok x =>
    rw [hp] at h
    simp only at h ⊢
    by_cases hc : chkV x.1 = 0
    · rw [if_pos hc] at h ⊢
      have hv := val_spell (v := x.1) (r := x.2) hp
      have hlen := congrArg List.length hv.1
      rw [encV_len] at hlen
      exact ⟨hv.1, hv.2, hc, by simp only; omega⟩
    · rw [if_neg hc] at h
      exact absurd h hc
theorem pure_ValueDecodes (a0 : List UInt8) (w0 : a0.length ≤ 140737488351232) : f_l14_ValueDecodes a0 = some true := by
  unfold f_l14_ValueDecodes
  rw [speaks14_eq]
  simp only [Option.bind_some, if_true]
  by_cases hl : (a0.length : Int) > 2000
  · rw [if_pos hl]
  rw [if_neg hl, vdecode_eq _ (by omega), rdecode_eq _ (by omega)]
  simp only [Option.bind_some, if_true]
  by_cases he : (decV a0).2 = 0
  · obtain ⟨h1, h2, h3, h4⟩ := decV_good he (by omega)
    have hn := wTs_len (decV a0).1.fTopics
    rw [(vsame_refl _ (by omega) (fun t ht => by have := wTs_mem _ t ht; unfold wT at this; omega)).1, encode_eq _ (okV_wf h2 (by omega)) h4, if_pos h3]
    simp only [Option.bind_some, if_true, if_pos he, ← h1]
  · have hz : (decV a0).1 = zVal := by
      unfold decV at he ⊢
      cases hp : pVal0 a0 0 with
      | error e => rfl
      | ok x =>
        rw [hp] at he
        simp only at he ⊢
        by_cases hc : chkV x.1 = 0
        · rw [if_pos hc] at he
          exact absurd rfl he
        · rw [if_neg hc]
    rw [hz, show f_r14_Same zVal zVal = some true from by kernel_rfl, show f_value_Encode zVal = some ([], 10) from by kernel_rfl]
    simp only [Option.bind_some, if_true, if_neg he]
theorem pure_ValueEncodes (a0 : Val) (w0 : wf_Val a0) : f_l14_ValueEncodes a0 = some true := by
  unfold f_l14_ValueEncodes
  rw [speaks14_eq]
  simp only [Option.bind_some, if_true]
  rcases few_eq a0.fTopics w0.2.2.2.2.1.2 with h | ⟨h, hw⟩
  · rw [h]
    rfl
  have hn := wTs_len a0.fTopics
  have hm : ∀ t, t ∈ a0.fTopics → t.fParts.length ≤ 1000000 ∧ t.fName.length ≤ 1000000 := fun t ht => by
    have := wTs_mem _ t ht
    unfold wT at this
    exact ⟨by omega, by omega⟩
  rw [h, Option.bind_some, if_neg (by decide), encode_eq _ w0 (by omega), rcheck_eq _ (by omega) hm, vcheck_eq _ w0 (by omega)]
  simp only [Option.bind_some]
  by_cases hc : chkV a0 = 0
  · obtain ⟨h1, h2, h3, h4⟩ := chk_zero hc
    obtain ⟨w1, w2, w3, w4, w5, w6, w7⟩ := id w0
    have f8 : ∀ n : Int, wI n → fits n 8 = true := fun n h => by rw [fits_8]; exact decide_eq_true h
    have hok : okV a0 := by
      unfold badR at h1
      exact ⟨f8 _ w1, by rw [fits_2]; exact decide_eq_true (by omega), by rw [fits_4]; exact decide_eq_true (by omega), by rw [fits_1]; exact decide_eq_true (by omega), ⟨fits_small (.inr (.inl rfl)) (by omega) (by omega), okts_ok h4 (by omega)⟩, f8 _ w6, f8 _ w7⟩
    obtain ⟨r, hr⟩ := val_back hok
    have hd : decV (encV a0) = (a0, 0) := by
      unfold decV
      rw [hr]
      simp only [if_pos hc]
    have hs := vsame_refl a0 (by omega) (fun t ht => by have := (hm t ht).1; omega)
    simp only [if_pos hc, hc, if_true]
    rw [vdecode_eq _ (by rw [encV_len]; omega), hd, rencode_eq _ w0 (by omega)]
    simp only [Option.bind_some, if_true, hs.1, hs.2]
    unfold badC at h3
    unfold f_value_Idle
    by_cases c0 : a0.fState = 0
    · rw [if_pos c0, Option.bind_some, if_pos rfl, if_pos (by omega)]
    · rw [if_neg c0]
      by_cases c4 : a0.fState ≥ 4
      · rw [if_pos c4, Option.bind_some, if_pos rfl, if_pos (by omega)]
      · rw [if_neg c4, Option.bind_some, if_neg (by decide), if_neg (by omega)]
  · simp only [if_neg hc, if_true]
end Go.Proofs.Ytdlpmcbglmgpiaa.Sl
