/- requests' heads (plain laws). -/
import Derived.Test.YtdlpmcbglmgpiaaC
import Derived.Test.YtdlpmcbglmgpiaaWf
import Derived.Test.YtdlpmcbglmgpiaaPcursitorlaw17
namespace Go.Proofs.Ytdlpmcbglmgpiaa.Sl
open Go.RowKit
set_option linter.unusedVariables false
set_option linter.unusedSimpArgs false
theorem speaks17_eq : f_l17_speaks = some true := by kernel_rfl
theorem vers_eq (k v : Int) : f_r17_Versions k v = some (vcheck k v) := by
  unfold f_r17_Versions vcheck vKnown
  by_cases h0 : k = 0
  · subst h0
    by_cases h3 : v = 3
    · simp [h3]
    · by_cases h4 : v = 4
      · simp [h4]
      · simp [h3, h4]
        omega
  rw [if_neg h0, if_neg h0]
  by_cases h1 : k = 22
  · subst h1
    by_cases h3 : v = 0
    · simp [h3]
    · by_cases h4 : v = 1
      · simp [h4]
      · simp [h3, h4]
        omega
  rw [if_neg h1, if_neg h1]
  by_cases h2 : k = 27
  · subst h2
    by_cases h3 : v = 0
    · simp [h3]
    · by_cases h4 : v = 1
      · simp [h4]
      · simp [h3, h4]
        omega
  rw [if_neg h2]
  by_cases h5 : k = 24
  · subst h5
    by_cases h3 : v = 0
    · simp [h3]
    · simp [h3]
      omega
  rw [if_neg h5, if_neg h5]
  by_cases h6 : k = 26
  · subst h6
    by_cases h3 : v = 0
    · simp [h3]
    · simp [h3]
      omega
  rw [if_neg h6, if_neg h6, if_neg h2]
  simp
theorem vcheck_fits {k v : Int} (h : vcheck k v = 0) : fits k 2 = true ∧ fits v 2 = true := by
  unfold vcheck vKnown at h
  have e : (2 : Int) ^ (8 * (2 : Int).toNat - 1) = 32768 := by decide
  have hv : ∀ n : Int, -100 ≤ n → n ≤ 100 → fits n 2 = true := fun n h1 h2 => by
    unfold fits
    simp only [Bool.and_eq_true, decide_eq_true_eq]
    omega
  by_cases h0 : k = 0
  · simp [h0] at h
    exact ⟨hv _ (by omega) (by omega), hv _ (by omega) (by omega)⟩
  by_cases h1 : k = 22
  · simp [h1] at h
    exact ⟨hv _ (by omega) (by omega), hv _ (by omega) (by omega)⟩
  by_cases h2 : k = 24
  · simp [h2] at h
    exact ⟨hv _ (by omega) (by omega), hv _ (by omega) (by omega)⟩
  by_cases h3 : k = 26
  · simp [h3] at h
    exact ⟨hv _ (by omega) (by omega), hv _ (by omega) (by omega)⟩
  by_cases h4 : k = 27
  · simp [h4] at h
    exact ⟨hv _ (by omega) (by omega), hv _ (by omega) (by omega)⟩
  simp [h0, h1, h2, h3, h4] at h
def encH (h : Head) : List UInt8 := be h.fKind 2 ++ (be h.fVersion 2 ++ (be h.fNumber 4 ++ (be (blen h.fClient) 2 ++ h.fClient.data)))
def okH (h : Head) : Prop := vcheck h.fKind h.fVersion = 0 ∧ fits h.fNumber 4 = true ∧ fits (blen h.fClient) 2 = true ∧ bright h.fClient = true
def pHead : Pr Head := (pInt 2).bind fun k => (pInt 2).bind fun v => if vcheck k v = 0 then (pInt 4).bind fun n => (pFixed 2).bind fun c => .ret ⟨k, v, n, c⟩ else .err (vcheck k v)
theorem Sp_head : Sp pHead encH okH := by
  refine ⟨fun s q a r hq h => ?_, fun s t q a hq ha h => ?_⟩
  · obtain ⟨k, q1, h1, h⟩ := Pr.bind_ok h
    obtain ⟨v, q2, h2, h⟩ := Pr.bind_ok h
    split at h
    · rename_i hv
      obtain ⟨n, q3, h3, h⟩ := Pr.bind_ok h
      obtain ⟨c, q4, h4, h⟩ := Pr.bind_ok h
      injection h with h
      obtain ⟨rfl, rfl⟩ := Prod.mk.inj h
      obtain ⟨a1, a2, a3, a4, a5⟩ := (Sp_int 2 (by decide) (by decide)).spell _ _ _ _ hq h1
      obtain ⟨b1, b2, b3, b4, b5⟩ := (Sp_int 2 (by decide) (by decide)).spell _ _ _ _ a2 h2
      obtain ⟨c1, c2, c3, c4, c5⟩ := (Sp_int 4 (by decide) (by decide)).spell _ _ _ _ b2 h3
      obtain ⟨d1, d2, d3, d4, d5⟩ := (Sp_fixed 2 (by decide) (by decide)).spell _ _ _ _ c2 h4
      refine ⟨by omega, d2, ?_, ?_, hv, c5, d5.1, d5.2⟩
      · simp only [encH, List.length_append] at *
        omega
      · rw [d4, c4, b4, a4]
        simp only [encH, List.append_assoc]
    · exact nomatch h
  · obtain ⟨a1, a2, a3, a4⟩ := ha
    obtain ⟨f1, f2⟩ := vcheck_fits a1
    have hl := congrArg List.length h
    simp only [encH, List.length_drop, List.length_append, be_length] at hl
    simp only [encH, List.append_assoc] at h
    have g1 := (Sp_int 2 (by decide) (by decide)).back _ _ _ _ hq f1 h
    have h := drop_step h
    have g2 := (Sp_int 2 (by decide) (by decide)).back _ _ _ _ (by rw [be_length]; omega) f2 h
    have h := drop_step h
    have g3 := (Sp_int 4 (by decide) (by decide)).back _ _ _ _ (by simp only [be_length]; omega) a2 h
    have h := drop_step h
    rw [← List.append_assoc] at h
    have g4 := (Sp_fixed 2 (by decide) (by decide)).back _ _ _ _ (by simp only [be_length]; omega) ⟨a3, a4⟩ h
    rw [pHead, Pr.bind_of g1, Pr.bind_of g2, if_pos a1, Pr.bind_of g3, Pr.bind_of g4]
    simp only [Pr.ret, encH, List.length_append, Nat.add_assoc]
def zHead : Head := ⟨0, 0, 0, ⟨false, []⟩⟩
theorem Q_head : CQ f_request_Read pHead zHead := by
  refine ⟨fun st h => ?_, fun s q hq => ?_⟩
  · unfold f_request_Read
    simp only [gInt_d h, gFixed_d h, gErr_eq, Option.bind_some, if_neg h]
    rfl
  · unfold f_request_Read pHead
    rcases Q2.run s q hq with ⟨e, st, p1, g1, x1, y1⟩ | ⟨k, q1, p1, g1, n1, l1⟩
    · refine .inl ⟨e, st, Pr.bind_err p1, ?_, x1, y1⟩
      simp only [g1, gInt_d y1, gFixed_d y1, gErr_eq, Option.bind_some, if_neg y1]
      rfl
    simp only [g1, Option.bind_some, Pr.bind_of p1]
    rcases Q2.run s q1 l1 with ⟨e, st, p2, g2, x2, y2⟩ | ⟨v, q2, p2, g2, n2, l2⟩
    · refine .inl ⟨e, st, Pr.bind_err p2, ?_, x2, y2⟩
      simp only [g2, gInt_d y2, gFixed_d y2, gErr_eq, Option.bind_some, if_neg y2]
      rfl
    simp only [g2, Option.bind_some, Pr.bind_of p2, gErr_eq, gVCheck_eq, if_true]
    by_cases hv : vcheck k v = 0
    · simp only [if_pos hv]
      rcases Q4.run s q2 l2 with ⟨e, st, p3, g3, x3, y3⟩ | ⟨n, q3, p3, g3, n3, l3⟩
      · refine .inl ⟨e, st, Pr.bind_err p3, ?_, x3, y3⟩
        simp only [g3, gInt_d y3, gFixed_d y3, gErr_eq, Option.bind_some, if_neg y3]
        rfl
      simp only [g3, Option.bind_some, Pr.bind_of p3]
      rcases QF2.run s q3 l3 with ⟨e, st, p4, g4, x4, y4⟩ | ⟨c, q4, p4, g4, n4, l4⟩
      · refine .inl ⟨e, st, Pr.bind_err p4, ?_, x4, y4⟩
        simp only [g4, gInt_d y4, gFixed_d y4, gErr_eq, Option.bind_some, if_neg y4]
        rfl
      refine .inr ⟨⟨k, v, n, c⟩, q4, by rw [Pr.bind_of p4]; rfl, ?_, by omega, l4⟩
      simp only [g4, Option.bind_some, if_true]
    · simp only [if_neg hv]
      have y : (⟨s.drop q2, q2, vcheck k v⟩ : I).err ≠ 0 := hv
      refine .inl ⟨vcheck k v, ⟨s.drop q2, q2, vcheck k v⟩, rfl, ?_, rfl, hv⟩
      simp only [gIFail_eq, ifail_z, Option.bind_some, gInt_d y, gFixed_d y, gErr_eq, if_neg hv]
      rfl
theorem r17_read (s : List UInt8) (hs : s.length ≤ 140737488355328) : f_r17_Read s = some (match pHead s 0 with | .error e => (⟨0, 0, 0, ⟨false, []⟩⟩, 0, e) | .ok (h, r) => (⟨h.fKind, h.fVersion, h.fNumber, h.fClient⟩, (r : Int), 0)) := by
  unfold f_r17_Read pHead
  by_cases h4 : (s.length : Int) < 4
  · rw [if_pos h4]
    by_cases h2 : s.length < 2
    · rw [Pr.bind_err (e := 1) (by unfold pInt; rw [if_pos (by omega)])]
    · rw [Pr.bind_of (a := beInt (s.take 2)) (r := 2) (by unfold pInt; rw [if_neg (by omega)]; rfl), Pr.bind_err (e := 1) (by unfold pInt; rw [if_pos (by omega)])]
  · rw [if_neg h4, if_pos (by omega), gRInt_eq _ (by rw [List.length_take]; omega), Option.bind_some, if_pos (by omega), gRInt_eq _ (by rw [List.length_take]; omega), Option.bind_some, vers_eq, Option.bind_some]
    rw [Pr.bind_of (a := beInt (s.take 2)) (r := 2) (by unfold pInt; rw [if_neg (by omega)]; rfl), Pr.bind_of (a := beInt ((s.drop 2).take 2)) (r := 4) (by unfold pInt; rw [if_neg (by omega)])]
    generalize beInt (s.take 2) = k
    generalize beInt ((s.drop 2).take 2) = v
    by_cases hv : vcheck k v = 0
    · rw [if_pos hv, if_pos hv]
      by_cases h8 : (s.length : Int) < 8
      · rw [if_pos h8, Pr.bind_err (e := 1) (by unfold pInt; rw [if_pos (by omega)])]
      · rw [if_neg h8, if_pos (by omega), gRInt_eq _ (by rw [List.length_take]; omega), Option.bind_some, if_pos (by omega), gRRFixed_eq _ _ ⟨by decide, by decide, by rw [List.length_drop]; omega⟩, Option.bind_some]
        rw [Pr.bind_of (a := beInt ((s.drop 4).take 4)) (r := 8) (by unfold pInt; rw [if_neg (by omega)])]
        generalize beInt ((s.drop 4).take 4) = n
        rcases rfixed_p s 8 2 (by decide) (by decide) (by omega) with ⟨e, g1, g2, g3⟩ | ⟨b, r, g1, g2, g3, g4⟩
        · rw [Pr.bind_err g1, show (2 : Int).toNat = 2 from rfl, g3, if_neg g2]
        · rw [Pr.bind_of g1, show (2 : Int).toNat = 2 from rfl, g4]
          simp only [if_true, Pr.ret]
          rw [if_pos (by omega)]
          congr 4
          omega
    · rw [if_neg hv, if_neg hv]
      rfl
theorem vcheck_rng {k v : Int} (h : vcheck k v = 0) : (-9223372036854775808 ≤ k ∧ k ≤ 9223372036854775807) ∧ (-9223372036854775808 ≤ v ∧ v ≤ 9223372036854775807) := ⟨fits_rng (vcheck_fits h).1, fits_rng (vcheck_fits h).2⟩
theorem r17_write (h : R17Head) (hk : -9223372036854775808 ≤ h.fKind ∧ h.fKind ≤ 9223372036854775807) (hv : -9223372036854775808 ≤ h.fVersion ∧ h.fVersion ≤ 9223372036854775807) (hn : -9223372036854775808 ≤ h.fNumber ∧ h.fNumber ≤ 9223372036854775807) (hc : h.fClient.data.length ≤ 140737488355328) : f_r17_Write h = some (encH ⟨h.fKind, h.fVersion, h.fNumber, h.fClient⟩) := by
  unfold f_r17_Write
  rw [gRBytes_eq _ _ ⟨hk, by decide, by decide⟩, gRBytes_eq _ _ ⟨hv, by decide, by decide⟩]
  simp only [Option.bind_some]
  rw [if_pos (by simp only [be_length]; omega), gRBytes_eq _ _ ⟨hn, by decide, by decide⟩]
  simp only [Option.bind_some]
  rw [if_pos (by simp only [be_length, List.length_append]; omega), gRBFixed_eq _ _ ⟨by decide, by decide, hc⟩]
  simp only [Option.bind_some]
  rw [if_pos (by simp only [be_length, List.length_append]; omega)]
  simp only [encH, List.append_assoc]
  rfl
theorem pure_RequestReads (a0 : List UInt8) (w0 : a0.length ≤ 140737488351232) : f_l17_RequestReads a0 = some true := by
  unfold f_l17_RequestReads
  rw [speaks17_eq]
  simp only [Option.bind_some, if_true]
  by_cases hl : (a0.length : Int) > 2000
  · rw [if_pos hl]
  rw [if_neg hl, gNew_eq _ (by omega), r17_read _ (by omega)]
  simp only [Option.bind_some]
  have hr := Q_head.run a0 0 (Nat.zero_le _)
  rw [List.drop_zero] at hr
  rcases hr with ⟨e, st, p1, g1, x1, y1⟩ | ⟨h, r, p1, g1, n1, l1⟩
  · rw [g1, p1]
    subst x1
    simp only [Option.bind_some, gErr_eq, if_true, zHead, if_neg y1]
  · rw [g1, p1]
    simp only [Option.bind_some, gErr_eq, if_true, gAt_eq]
    obtain ⟨-, -, s3, s4, s5⟩ := Sp_head.spell a0 0 _ _ (Nat.zero_le _) p1
    obtain ⟨o1, o2, o3, o4⟩ := s5
    have hd : h.fClient.data.length ≤ 2000 := by
      simp only [encH, List.length_append] at s3
      omega
    rw [if_pos (by omega), r17_write _ (vcheck_rng o1).1 (vcheck_rng o1).2 (fits_rng o2) (by simp only; omega)]
    simp only [Option.bind_some]
    rw [if_pos]
    rw [Int.toNat_natCast, s4]
    simp
def chkH (h : Head) : Int := if vcheck h.fKind h.fVersion = 0 then (if fits h.fNumber 4 = true then (if bright h.fClient = true then (if (h.fClient.data.length : Int) > 32767 then 4 else 0) else 4) else 11) else vcheck h.fKind h.fVersion
theorem check_eq (h : Head) (hn : wI h.fNumber) : f_request_Check h = some (chkH h) := by
  unfold f_request_Check chkH
  rw [gVCheck_eq, Option.bind_some]
  by_cases h1 : vcheck h.fKind h.fVersion = 0
  · rw [if_pos h1, if_pos h1, gFits_eq _ _ hn, Option.bind_some]
    by_cases h2 : fits h.fNumber 4 = true
    · rw [if_pos h2, if_pos h2, gRight_eq, Option.bind_some]
      by_cases h3 : bright h.fClient = true
      · rw [if_pos h3, if_pos h3]
        split <;> rfl
      · rw [if_neg h3, if_neg h3]
    · rw [if_neg h2, if_neg h2]
  · rw [if_neg h1, if_neg h1]
theorem r17_check (h : R17Head) : f_r17_Check h = some (chkH ⟨h.fKind, h.fVersion, h.fNumber, h.fClient⟩) := by
  unfold f_r17_Check chkH
  rw [vers_eq, Option.bind_some]
  simp only [fits_4, decide_eq_true_eq]
  by_cases h1 : vcheck h.fKind h.fVersion = 0
  · rw [if_pos h1, if_pos h1]
    by_cases h2 : -2147483648 ≤ h.fNumber ∧ h.fNumber ≤ 2147483647
    · rw [if_pos h2, if_neg (by omega), if_neg (by omega)]
      obtain ⟨k, v, n, nu, d⟩ := h
      simp only
      unfold bright
      cases nu
      · simp
        split <;> rfl
      · by_cases hd : d = []
        · subst hd
          simp
        · simp [hd]
    · rw [if_neg h2]
      by_cases h3 : h.fNumber < -2147483648
      · rw [if_pos h3]
      · rw [if_neg h3, if_pos (by omega)]
  · rw [if_neg h1, if_neg h1]
theorem chk_ok {h : Head} (hc : chkH h = 0) : okH h := by
  unfold chkH at hc
  split at hc
  · rename_i h1
    split at hc
    · rename_i h2
      split at hc
      · rename_i h3
        split at hc
        · exact absurd hc (by decide)
        · exact ⟨h1, h2, fits_small (.inl rfl) (by unfold blen; split <;> omega) (by unfold blen; split <;> omega), h3⟩
      · exact absurd hc (by decide)
    · exact absurd hc (by decide)
  · rename_i h1
    exact absurd hc h1
theorem head_write (h : Head) (t : List UInt8) (ht : t.length ≤ 140737488000000) (hn : wI h.fNumber) (hl : h.fClient.data.length ≤ 40000) : f_request_Write (t, 0) h = some (if chkH h = 0 then (t ++ encH h, 0) else (t, chkH h)) := by
  unfold f_request_Write
  rw [check_eq h hn, Option.bind_some]
  by_cases hc : chkH h = 0
  · rw [if_pos hc, if_pos hc]
    obtain ⟨o1, o2, o3, o4⟩ := chk_ok hc
    rw [gOInt_z (vcheck_fits o1).1 (by omega), Option.bind_some, gOInt_z (vcheck_fits o1).2 (by simp only [List.length_append, be_length]; omega), Option.bind_some]
    rw [gOInt_z o2 (by simp only [List.length_append, be_length]; omega), Option.bind_some, gPutFixed_z o3 o4 (by simp only [List.length_append, be_length]; omega), Option.bind_some]
    simp only [encH, List.append_assoc]
    rfl
  · rw [if_neg hc, if_neg hc, gOFail_eq, ofail_z]
    rfl
theorem pure_RequestWrites (a0 : Head) (w0 : wf_Head a0) : f_l17_RequestWrites a0 = some true := by
  unfold f_l17_RequestWrites
  rw [speaks17_eq]
  simp only [Option.bind_some, if_true]
  by_cases hl : (a0.fClient.data.length : Int) > 40000
  · rw [if_pos hl]
  obtain ⟨wk, wv, wn, wc⟩ := w0
  rw [if_neg hl, head_write a0 [] (by simp) wn (by omega), r17_check, check_eq _ wn]
  simp only [Option.bind_some, gOText_eq]
  by_cases hc : chkH a0 = 0
  · rw [if_pos hc, otx_z]
    simp only [hc, if_true, List.nil_append]
    obtain ⟨o1, o2, o3, o4⟩ := chk_ok hc
    have hlen : (encH a0).length ≤ 41000 := by simp only [encH, List.length_append, be_length]; omega
    rw [gNew_eq _ (by omega), r17_write ⟨a0.fKind, a0.fVersion, a0.fNumber, a0.fClient⟩ wk wv wn (show a0.fClient.data.length ≤ 140737488355328 by omega)]
    simp only [Option.bind_some, if_true]
    rw [Q_head.whole Sp_head ⟨o1, o2, o3, o4⟩]
    simp only [Option.bind_some, gClose_z, if_true]
  · rw [if_neg hc, otx_e _ _ hc]
    simp only [if_true, if_neg hc]
end Go.Proofs.Ytdlpmcbglmgpiaa.Sl
