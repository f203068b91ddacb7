/- BatchRows: for every input the law returns true, and its arguments read behind the call as they did before. -/
import Derived.KernelRfl
import Derived.Test.YtcoppaggpbfcmaaRows
import Derived.WalkKit
import Derived.ProofKit
import Derived.OpenShut
import Derived.ShutString
import Derived.ChangeOld
import Derived.Below
import Derived.SizedLaws
import Derived.Test.YtcoppaggpbfcmaaK5
namespace Go.Proofs.Ytcoppaggpbfcmaa.Sl
open Go.RowKit
set_option linter.unusedVariables false
set_option linter.unusedSimpArgs false
def encBl (b : Bl) : List UInt8 := vput (vfold (blen b)) ++ b.data
def encHs (l : List Hd) : List UInt8 := vput (vfold (l.length : Int)) ++ encs encHd l
def encBody (x : Rec) : List UInt8 := be 0 1 ++ (vput (vfold x.fTime) ++ (vput (vfold x.fOffset) ++ (encBl x.fKey ++ (encBl x.fValue ++ encHs x.fHeaders))))
def okBl (b : Bl) : Prop := vfold (blen b) < 2 ^ (32 : Int).toNat ∧ bright b = true
def okHs (l : List Hd) : Prop := vfold (l.length : Int) < 2 ^ (32 : Int).toNat ∧ ∀ h, h ∈ l → okHd h
def okRec (x : Rec) : Prop := vfold x.fTime < 2 ^ (64 : Int).toNat ∧ (vfold x.fOffset < 2 ^ (32 : Int).toNat ∧ 0 ≤ x.fOffset) ∧ okBl x.fKey ∧ okBl x.fValue ∧ okHs x.fHeaders
theorem body_spell {s : List UInt8} {x : Rec} {r : Nat} (h : pBody s 0 = .ok (x, r)) : s = encBody x ∧ okRec x := by
  obtain ⟨z, q0, h0, h⟩ := Pr.bind_ok h
  split at h
  · rename_i hz
    subst hz
    obtain ⟨t, q1, h1, h⟩ := Pr.bind_ok h
    obtain ⟨o, q2, h2, h⟩ := Pr.bind_ok h
    split at h
    · exact nomatch h
    · rename_i ho
      obtain ⟨k, q3, h3, h⟩ := Pr.bind_ok h
      obtain ⟨v, q4, h4, h⟩ := Pr.bind_ok h
      obtain ⟨hs, q5, h5, h⟩ := Pr.bind_ok h
      obtain ⟨u, q6, h6, h⟩ := Pr.bind_ok h
      injection h with h
      obtain ⟨rfl, rfl⟩ := Prod.mk.inj h
      obtain ⟨-, a2, -, a4, a5⟩ := (Sp_int 1 (by decide) (by decide)).spell _ _ _ _ (Nat.zero_le _) h0
      obtain ⟨-, b2, -, b4, b5⟩ := (Sp_vint 64 (.inr rfl)).spell _ _ _ _ a2 h1
      obtain ⟨-, c2, -, c4, c5⟩ := (Sp_vint 32 (.inl rfl)).spell _ _ _ _ b2 h2
      obtain ⟨-, d2, -, d4, d5⟩ := Sp_varied.spell _ _ _ _ c2 h3
      obtain ⟨-, e2, -, e4, e5⟩ := Sp_varied.spell _ _ _ _ d2 h4
      obtain ⟨-, f2, -, f4, f5⟩ := Sp_hds.spell _ _ _ _ e2 h5
      have hq : q5 = s.length := by
        unfold pStop at h6
        split at h6
        · rename_i hh; exact hh
        · exact nomatch h6
      refine ⟨?_, b5, ⟨c5, by simp only; omega⟩, d5, e5, f5⟩
      have hs2 : s = s.take q5 := by rw [hq, List.take_length]
      rw [hs2, f4, e4, d4, c4, b4, a4]
      simp only [encBody, encBl, encHs, List.append_assoc, List.take_zero, List.nil_append]
  · exact nomatch h
theorem SpV : Sp pVaried encBl okBl := Sp_varied
theorem SpH : Sp pHds encHs okHs := Sp_hds
theorem body_back {x : Rec} (h : okRec x) : pBody (encBody x) 0 = .ok (x, (encBody x).length) := by
  obtain ⟨h1, ⟨h2, h3⟩, h4, h5, h6⟩ := h
  have hd : (encBody x).drop 0 = encBody x := rfl
  have hlen : (encBody x).length = 1 + ((vput (vfold x.fTime)).length + ((vput (vfold x.fOffset)).length + ((encBl x.fKey).length + ((encBl x.fValue).length + (encHs x.fHeaders).length)))) := by
    simp only [encBody, List.length_append, be_length]
  generalize hE : encBody x = E at hd hlen ⊢
  have hh : E.drop 0 = be 0 1 ++ (vput (vfold x.fTime) ++ (vput (vfold x.fOffset) ++ (encBl x.fKey ++ (encBl x.fValue ++ (encHs x.fHeaders ++ []))))) := by
    rw [hd, ← hE]
    simp only [encBody, List.append_nil]
  have g0 := (Sp_int 1 (by decide) (by decide)).back _ _ _ 0 (Nat.zero_le _) (by decide) hh
  have hh := drop_step hh
  rw [be_length] at hh g0
  have g1 := (Sp_vint 64 (.inr rfl)).back _ _ _ _ (by omega) h1 hh
  have hh := drop_step hh
  have g2 := (Sp_vint 32 (.inl rfl)).back _ _ _ _ (by omega) h2 hh
  have hh := drop_step hh
  have g3 := SpV.back _ _ _ _ (by omega) h4 hh
  have hh := drop_step hh
  have g4 := SpV.back _ _ _ _ (by omega) h5 hh
  have hh := drop_step hh
  have g5 := SpH.back _ _ _ _ (by omega) h6 hh
  rw [pBody, Pr.bind_of g0, if_pos rfl, Pr.bind_of g1, Pr.bind_of g2, if_neg (by omega), Pr.bind_of g3, Pr.bind_of g4, Pr.bind_of g5]
  have he : 0 + 1 + (vput (vfold x.fTime)).length + (vput (vfold x.fOffset)).length + (encBl x.fKey).length + (encBl x.fValue).length + (encHs x.fHeaders).length = E.length := by omega
  rw [he, Pr.bind_of (a := ()) (r := E.length) (by unfold pStop; rw [if_pos rfl])]
  rfl
def encRec (x : Rec) : List UInt8 := vput (vfold ((encBody x).length : Int)) ++ encBody x
theorem Sp_rec : Sp pRec encRec (fun x => okRec x ∧ vfold ((encBody x).length : Int) < 2 ^ (32 : Int).toNat) := by
  refine ⟨fun s q a r hq h => ?_, fun s t q a hq ha h => ?_⟩
  · unfold pRec at h
    cases hp : pName s q with
    | error e => rw [hp] at h; exact nomatch h
    | ok y =>
      obtain ⟨d, r'⟩ := y
      rw [hp] at h
      simp only at h
      obtain ⟨a1, a2, a3, a4, a5⟩ := Sp_name.spell _ _ _ _ hq hp
      cases hb : pBody d 0 with
      | error e => rw [hb] at h; exact nomatch h
      | ok z =>
        rw [hb] at h
        injection h with h
        obtain ⟨rfl, rfl⟩ := Prod.mk.inj h
        obtain ⟨b1, b2⟩ := body_spell (x := z.1) (r := z.2) hb
        unfold encRec
        rw [← b1]
        exact ⟨a1, a2, a3, a4, b2, a5.1⟩
  · have g1 := Sp_name.back s t q (encBody a) hq ⟨ha.2, rfl⟩ h
    unfold pRec
    rw [g1]
    simp only
    rw [body_back ha.1]
    rfl
end Go.Proofs.Ytcoppaggpbfcmaa.Sl
namespace Go.Proofs.Ytcoppaggpbfcmaa.Sl
open Go.RowKit
set_option linter.unusedVariables false
set_option linter.unusedSimpArgs false
def rwt (x : Rec) : Nat := x.fKey.data.length + x.fValue.data.length + hwts x.fHeaders
theorem encBl_len (b : Bl) (h : b.data.length ≤ 1000000) : (encBl b).length ≤ 10 + b.data.length := by
  have hb := blen_small b (by omega)
  have := vput_small32 (blen b) hb.1 hb.2
  rw [encBl, List.length_append]
  omega
theorem encHs_len (l : List Hd) (h : hwts l ≤ 1000000) : (encHs l).length ≤ 10 + hwts l := by
  have hn := hwts_len l
  have h1 := vput_small32 (l.length : Int) (by omega) (by omega)
  have h2 := encHds_len l h
  rw [encHs, List.length_append]
  omega
theorem encBody_len (x : Rec) (ht : wI x.fTime) (ho : wI x.fOffset) (hw : rwt x ≤ 900000) : (encBody x).length ≤ 51 + rwt x := by
  unfold rwt at hw ⊢
  have h1 := vput_ten _ (vfold_lt x.fTime ht.1 ht.2)
  have h2 := vput_ten _ (vfold_lt x.fOffset ho.1 ho.2)
  have h3 := encBl_len x.fKey (by omega)
  have h4 := encBl_len x.fValue (by omega)
  have h5 := encHs_len x.fHeaders (by omega)
  simp only [encBody, List.length_append, be_length]
  omega
theorem body_write (x : Rec) (ht : wI x.fTime) (ho : 0 ≤ x.fOffset ∧ x.fOffset ≤ 2147483647) (hk : bright x.fKey = true) (hv : bright x.fValue = true) (hh : ∀ h, h ∈ x.fHeaders → bright h.fValue = true) (hw : rwt x ≤ 900000) : f_record_body x = some (encBody x, 0) := by
  unfold rwt at hw
  have h1 := vput_ten _ (vfold_lt x.fTime ht.1 ht.2)
  have h2 := vput_ten _ (vfold_lt x.fOffset (by omega) (by omega))
  have h3 := encBl_len x.fKey (by omega)
  have h4 := encBl_len x.fValue (by omega)
  unfold encBl at h3 h4
  unfold f_record_body
  rw [gOByte_eq _ _ (by simp), Option.bind_some, show oput ([], 0) [UInt8.ofNat (0 : Int).toNat] = (be 0 1, 0) from by decide]
  have l1 : (be 0 1).length = 1 := be_length 0 1
  generalize hb0 : be 0 1 = b0 at l1
  rw [gPutLong_eq _ _ ⟨ht, by simp only; omega⟩, Option.bind_some, oput_z]
  have l2 : (b0 ++ vput (vfold x.fTime)).length ≤ 11 := by rw [List.length_append]; omega
  generalize hB1 : b0 ++ vput (vfold x.fTime) = B1 at l2
  rw [gPutInt_eq _ _ ⟨by omega, by simp only; omega⟩, Option.bind_some]
  unfold vputInt
  rw [if_pos (by omega), oput_z]
  have l3 : (B1 ++ vput (vfold x.fOffset)).length ≤ 21 := by rw [List.length_append]; omega
  generalize hB2 : B1 ++ vput (vfold x.fOffset) = B2 at l3
  rw [gPutVaried_z hk (by omega) (by omega), Option.bind_some]
  have l4 : (B2 ++ (vput (vfold (blen x.fKey)) ++ x.fKey.data)).length ≤ 31 + x.fKey.data.length := by rw [List.length_append]; omega
  generalize hB3 : B2 ++ (vput (vfold (blen x.fKey)) ++ x.fKey.data) = B3 at l4
  rw [gPutVaried_z hv (by omega) (by omega), Option.bind_some]
  have l5 : (B3 ++ (vput (vfold (blen x.fValue)) ++ x.fValue.data)).length ≤ 41 + x.fKey.data.length + x.fValue.data.length := by rw [List.length_append]; omega
  generalize hB4 : B3 ++ (vput (vfold (blen x.fValue)) ++ x.fValue.data) = B4 at l5
  rw [hwrite_z _ _ hh (by omega), Option.bind_some, gOText_eq, Option.bind_some, otx_z]
  rw [← hB4, ← hB3, ← hB2, ← hB1, ← hb0]
  simp only [encBody, encBl, encHs, List.append_assoc]
end Go.Proofs.Ytcoppaggpbfcmaa.Sl
namespace Go.Proofs.Ytcoppaggpbfcmaa.Sl
open Go.RowKit
set_option linter.unusedVariables false
set_option linter.unusedSimpArgs false
theorem right_zero {x : Rec} (h : rightR x = 0) : (0 ≤ x.fOffset ∧ x.fOffset ≤ 2147483647) ∧ bright x.fKey = true ∧ bright x.fValue = true ∧ ∀ h, h ∈ x.fHeaders → bright h.fValue = true := by
  unfold rightR at h
  split at h
  · exact absurd h (by decide)
  · rename_i h1
    split at h
    · rename_i h2
      simp only [Bool.and_eq_true] at h2
      exact ⟨by omega, h2.1.1, h2.1.2, fun y hy => List.all_eq_true.1 h2.2 y hy⟩
    · exact absurd h (by decide)
theorem rec_write (x : Rec) (t : List UInt8) (ht : wI x.fTime) (ho : wI x.fOffset) (hw : rwt x ≤ 900000) (hl : t.length ≤ 100000000) : f_record_Write (t, 0) x = some (if rightR x = 0 then (t ++ encRec x, 0) else (t, rightR x)) := by
  unfold f_record_Write
  rw [record_right x ho, Option.bind_some]
  by_cases hr : rightR x = 0
  · obtain ⟨h1, h2, h3, h4⟩ := right_zero hr
    have hb := encBody_len x ht ho hw
    rw [if_pos hr, if_pos hr, body_write x ht h1 h2 h3 h4 hw, Option.bind_some]
    simp only [if_true]
    rw [gPutName_z (by omega) (by omega), Option.bind_some]
    rfl
  · rw [if_neg hr, if_neg hr, gOFail_eq, Option.bind_some, ofail_z]
end Go.Proofs.Ytcoppaggpbfcmaa.Sl
namespace Go.Proofs.Ytcoppaggpbfcmaa.Sl
open Go.RowKit
set_option linter.unusedVariables false
set_option linter.unusedSimpArgs false
def sameH (a b : Hd) : Bool := decide (a.fKey = b.fKey) && decide (a.fValue.null = b.fValue.null) && decide (a.fValue.data = b.fValue.data)
def sameHs : List Hd → List Hd → Bool
  | [], [] => true
  | a :: l, b :: m => sameH a b && sameHs l m
  | _, _ => false
theorem sameHs_refl : ∀ l : List Hd, sameHs l l = true
  | [] => rfl
  | a :: l => by rw [sameHs, sameHs_refl l]; simp [sameH]
theorem sameHs_len : ∀ (l m : List Hd), sameHs l m = true → l.length = m.length
  | [], [], h => rfl
  | [], b :: m, h => nomatch h
  | a :: l, [], h => nomatch h
  | a :: l, b :: m, h => by
    rw [sameHs, Bool.and_eq_true] at h
    rw [List.length_cons, List.length_cons, sameHs_len l m h.2]
theorem r06s_loop (a b : List Hd) (ha : a.length ≤ 1000000) (y : Bool) : ∀ (t u : List Hd) (k fuel : Nat), a.drop k = t → b.drop k = u → t.length = u.length → t.length < fuel → ∃ z, f_r06_Same_l1 a b fuel y k = some (if sameHs t u = true then .go (y, z) else .ret false)
  | [], [], k, fuel + 1, ht, hu, hl, hf => by
    have := b_nil_drop ht
    exact ⟨k, by rw [f_r06_Same_l1, if_neg (by omega)]; rfl⟩
  | [], d :: u, k, fuel, ht, hu, hl, hf => by simp at hl
  | c :: t, [], k, fuel, ht, hu, hl, hf => by simp at hl
  | c :: t, d :: u, k, fuel + 1, ht, hu, hl, hf => by
    obtain ⟨t1, t2, t3⟩ := b_at_drop ht
    obtain ⟨u1, u2, u3⟩ := b_at_drop hu
    simp only [List.length_cons] at hl hf
    obtain ⟨z, hz⟩ := r06s_loop a b ha y t u (k + 1) fuel t2 u2 (by omega) (by omega)
    rw [f_r06_Same_l1, if_pos (by omega), t1, Option.bind_some, u1, Option.bind_some, sameHs, sameH]
    by_cases h1 : c.fKey = d.fKey
    · rw [if_pos h1, decide_eq_true h1]
      by_cases h2 : c.fValue.null = d.fValue.null
      · rw [if_pos h2, decide_eq_true h2]
        by_cases h3 : c.fValue.data = d.fValue.data
        · rw [if_pos h3, decide_eq_true h3, if_pos (by omega)]
          exact ⟨z, hz⟩
        · rw [if_neg h3, decide_eq_false h3]
          exact ⟨0, rfl⟩
      · rw [if_neg h2, decide_eq_false h2]
        exact ⟨0, rfl⟩
    · rw [if_neg h1, decide_eq_false h1]
      exact ⟨0, rfl⟩
theorem r06_same (a b : List Hd) (ha : a.length ≤ 1000000) : f_r06_Same a b = some (sameHs a b) := by
  unfold f_r06_Same
  by_cases hl : (a.length : Int) = (b.length : Int)
  · obtain ⟨z, hz⟩ := r06s_loop a b ha false a b 0 (((a.length : Int)).toNat + 1) rfl rfl (by omega) (by omega)
    rw [if_pos hl, hz]
    cases sameHs a b <;> rfl
  · rw [if_neg hl]
    have : sameHs a b = false := by
      cases h : sameHs a b with
      | false => rfl
      | true => exact absurd (congrArg Int.ofNat (sameHs_len a b h)) hl
    rw [this]
end Go.Proofs.Ytcoppaggpbfcmaa.Sl
namespace Go.Proofs.Ytcoppaggpbfcmaa.Sl
open Go.RowKit
set_option linter.unusedVariables false
set_option linter.unusedSimpArgs false
def sameR (a b : Rec) : Bool := decide (a.fTime = b.fTime) && decide (a.fOffset = b.fOffset) && decide (a.fKey.null = b.fKey.null) && decide (a.fKey.data = b.fKey.data) && decide (a.fValue.null = b.fValue.null) && decide (a.fValue.data = b.fValue.data) && sameHs a.fHeaders b.fHeaders
theorem sameR_refl (a : Rec) : sameR a a = true := by simp [sameR, sameHs_refl]
theorem sameH_sym (a b : Hd) : sameH b a = sameH a b := by
  unfold sameH
  simp only [eq_comm]
theorem recs_loop (b : Rec) (y : Bool) : ∀ (l u : List Hd) (k : Nat), b.fHeaders.drop k = u → l.length = u.length → f_record_Same_l1 b l y k = some (if sameHs l u = true then .go y else .ret false)
  | [], [], k, hu, hl => rfl
  | [], d :: u, k, hu, hl => by simp at hl
  | c :: l, [], k, hu, hl => by simp at hl
  | c :: l, d :: u, k, hu, hl => by
    obtain ⟨u1, u2, u3⟩ := b_at_drop hu
    simp only [List.length_cons] at hl
    have ih := recs_loop b y l u (k + 1) u2 (by omega)
    rw [f_record_Same_l1, u1, Option.bind_some, sameHs, ← sameH_sym c d, sameH, ih]
    by_cases h1 : d.fKey = c.fKey
    · rw [if_pos h1, decide_eq_true h1]
      by_cases h2 : d.fValue.null = c.fValue.null
      · rw [if_pos h2, decide_eq_true h2]
        by_cases h3 : d.fValue.data = c.fValue.data
        · rw [if_pos h3, decide_eq_true h3]
          rfl
        · rw [if_neg h3, decide_eq_false h3]
          rfl
      · rw [if_neg h2, decide_eq_false h2]
        rfl
    · rw [if_neg h1, decide_eq_false h1]
      rfl
theorem r07_same (a b : Rec) (ha : a.fHeaders.length ≤ 1000000) : f_r07_Same a b = some (sameR a b) := by
  unfold f_r07_Same sameR
  rw [r06_same _ _ ha]
  by_cases h1 : a.fTime = b.fTime <;> by_cases h2 : a.fOffset = b.fOffset <;> by_cases h3 : a.fKey.null = b.fKey.null <;> by_cases h4 : a.fKey.data = b.fKey.data <;> by_cases h5 : a.fValue.null = b.fValue.null <;> by_cases h6 : a.fValue.data = b.fValue.data <;> simp [h1, h2, h3, h4, h5, h6]
theorem record_same (a b : Rec) : f_record_Same a b = some (sameR a b) := by
  unfold f_record_Same sameR
  have hh : (if (a.fHeaders.length : Int) = (b.fHeaders.length : Int) then ((f_record_Same_l1 b a.fHeaders false 0).bind fun e => match e with | .ret r => some r | .go y39 => some true) else some false) = some (sameHs a.fHeaders b.fHeaders) := by
    by_cases hl : (a.fHeaders.length : Int) = (b.fHeaders.length : Int)
    · rw [if_pos hl, recs_loop b false a.fHeaders b.fHeaders 0 rfl (by omega)]
      cases sameHs a.fHeaders b.fHeaders <;> rfl
    · rw [if_neg hl]
      have : sameHs a.fHeaders b.fHeaders = false := by
        cases h : sameHs a.fHeaders b.fHeaders with
        | false => rfl
        | true => exact absurd (congrArg Int.ofNat (sameHs_len _ _ h)) hl
      rw [this]
  by_cases h1 : a.fTime = b.fTime
  case neg => rw [if_neg h1, decide_eq_false h1]; simp
  rw [if_pos h1, decide_eq_true h1]
  by_cases h2 : a.fOffset = b.fOffset
  case neg => rw [if_neg h2, decide_eq_false h2]; simp
  rw [if_pos h2, decide_eq_true h2]
  by_cases h3 : a.fKey.null = b.fKey.null
  case neg => rw [if_neg h3, decide_eq_false h3]; simp
  rw [if_pos h3, decide_eq_true h3]
  by_cases h4 : a.fKey.data = b.fKey.data
  case neg => rw [if_neg h4, decide_eq_false h4]; simp
  rw [if_pos h4, decide_eq_true h4]
  by_cases h5 : a.fValue.null = b.fValue.null
  case neg => rw [if_neg h5, decide_eq_false h5]; simp
  rw [if_pos h5, decide_eq_true h5]
  by_cases h6 : a.fValue.data = b.fValue.data
  case neg => rw [if_neg h6, decide_eq_false h6]; simp
  rw [if_pos h6, decide_eq_true h6]
  simp only [Bool.true_and]
  exact hh
end Go.Proofs.Ytcoppaggpbfcmaa.Sl
namespace Go.Proofs.Ytcoppaggpbfcmaa.Sl
open Go.RowKit
set_option linter.unusedVariables false
set_option linter.unusedSimpArgs false
theorem okRec_of {x : Rec} (ht : wI x.fTime) (hr : rightR x = 0) (hw : rwt x ≤ 900000) : okRec x ∧ vfold ((encBody x).length : Int) < 2 ^ (32 : Int).toNat := by
  obtain ⟨h1, h2, h3, h4⟩ := right_zero hr
  have hb := encBody_len x ht ⟨by omega, by omega⟩ hw
  unfold rwt at hw hb
  have hn := hwts_len x.fHeaders
  have bk := blen_small x.fKey (by omega)
  have bv := blen_small x.fValue (by omega)
  refine ⟨⟨?_, ⟨vfold_ok _ (by omega) h1.2, h1.1⟩, ⟨vfold_ok _ bk.1 bk.2, h2⟩, ⟨vfold_ok _ bv.1 bv.2, h3⟩, vfold_ok _ (by omega) (by omega), fun h hh => ?_⟩, vfold_ok _ (by omega) (by omega)⟩
  · rw [show 2 ^ (64 : Int).toNat = 18446744073709551616 by decide]
    exact vfold_lt _ ht.1 ht.2
  · have hm := hwts_mem _ _ hh
    unfold hwt at hm
    have b := blen_small h.fValue (by omega)
    exact ⟨vfold_ok _ (by omega) (by omega), vfold_ok _ b.1 b.2, h4 h hh⟩
theorem encRec_len (x : Rec) (ht : wI x.fTime) (ho : wI x.fOffset) (hw : rwt x ≤ 900000) : (encRec x).length ≤ 61 + rwt x := by
  have hb := encBody_len x ht ho hw
  have h6 := vput_ten _ (vfold_lt ((encBody x).length : Int) (by omega) (by omega))
  rw [encRec, List.length_append]
  omega
end Go.Proofs.Ytcoppaggpbfcmaa.Sl
namespace Go.Proofs.Ytcoppaggpbfcmaa.Sl
open Go.RowKit
set_option linter.unusedVariables false
set_option linter.unusedSimpArgs false
theorem okRec_right {x : Rec} (h : okRec x) : rightR x = 0 ∧ wI x.fTime ∧ wI x.fOffset := by
  obtain ⟨h1, ⟨h2, h3⟩, h4, h5, h6⟩ := h
  rw [show 2 ^ (64 : Int).toNat = 18446744073709551616 by decide] at h1
  rw [show 2 ^ (32 : Int).toNat = 4294967296 by decide] at h2
  have ho : x.fOffset ≤ 2147483647 := by unfold vfold at h2; split at h2 <;> omega
  refine ⟨?_, ?_, ⟨by omega, by omega⟩⟩
  · unfold rightR
    have hb : brAll x.fHeaders = true := List.all_eq_true.2 fun y hy => (h6.2 y hy).2.2
    rw [if_neg (by omega), h4.2, h5.2, hb]
    rfl
  · unfold vfold at h1
    constructor <;> (split at h1 <;> omega)
end Go.Proofs.Ytcoppaggpbfcmaa.Sl
namespace Go.Proofs.Ytcoppaggpbfcmaa.Sl
set_option linter.unusedVariables false
def crcP : Nat := 2197175160
def crcS (x : Nat) : Nat := x / 2 ^^^ (if x % 2 = 1 then crcP else 0)
def crcI : Nat → Nat → Nat
  | 0, x => x
  | k + 1, x => crcI k (crcS x)
theorem nat_xor_mod2 (x y : Nat) : (x ^^^ y) % 2 = (x % 2 + y % 2) % 2 := by
  have h := Nat.xor_mod_two_pow (a := x) (b := y) (n := 1)
  rw [Nat.pow_one] at h
  rw [h]
  rcases Nat.mod_two_eq_zero_or_one x with hx | hx <;> rcases Nat.mod_two_eq_zero_or_one y with hy | hy <;> rw [hx, hy] <;> rfl
theorem nat_xor_div2 (x y : Nat) : (x ^^^ y) / 2 = (x / 2) ^^^ (y / 2) := Nat.xor_div_two
theorem crcS_xor (x y : Nat) : crcS (x ^^^ y) = crcS x ^^^ crcS y := by
  unfold crcS
  rw [nat_xor_div2, nat_xor_mod2]
  rcases Nat.mod_two_eq_zero_or_one x with hx | hx <;> rcases Nat.mod_two_eq_zero_or_one y with hy | hy <;> simp [hx, hy]
  · rw [Nat.xor_assoc]
  · ac_rfl
  · rw [show x / 2 ^^^ crcP ^^^ (y / 2 ^^^ crcP) = x / 2 ^^^ y / 2 ^^^ (crcP ^^^ crcP) by ac_rfl, Nat.xor_self, Nat.xor_zero]
theorem crcI_xor : ∀ (k x y : Nat), crcI k (x ^^^ y) = crcI k x ^^^ crcI k y
  | 0, _, _ => rfl
  | k + 1, x, y => by show crcI k _ = _; rw [crcS_xor, crcI_xor k]; rfl
theorem crcS_even (x : Nat) : crcS (2 * x) = x := by
  unfold crcS; rw [if_neg (by omega), Nat.xor_zero]; omega
theorem crcI_shift : ∀ (k x : Nat), crcI k (2 ^ k * x) = x
  | 0, x => by rw [Nat.pow_zero, Nat.one_mul]; rfl
  | k + 1, x => by
    show crcI k (crcS _) = x
    rw [show 2 ^ (k + 1) * x = 2 * (2 ^ k * x) by rw [Nat.pow_succ, Nat.mul_comm (2 ^ k) 2, Nat.mul_assoc], crcS_even]
    exact crcI_shift k x
theorem crcS_lt {x : Nat} (h : x < 2 ^ 32) : crcS x < 2 ^ 32 := by
  unfold crcS
  exact Nat.xor_lt_two_pow (by omega) (by split <;> decide)
theorem crcI_lt : ∀ (k : Nat) {x : Nat}, x < 2 ^ 32 → crcI k x < 2 ^ 32
  | 0, _, h => h
  | k + 1, _, h => crcI_lt k (crcS_lt h)
theorem crcI_byte (x b : Nat) (hb : b < 256) : crcI 8 (x ^^^ b) = crcI 8 ((x % 256) ^^^ b) ^^^ (x / 256) := by
  have h : x = (x % 256) ^^^ (2 ^ 8 * (x / 256)) := by
    apply Nat.eq_of_testBit_eq
    intro i
    rw [Nat.testBit_xor, show (256 : Nat) = 2 ^ 8 from rfl, Nat.testBit_mod_two_pow, Nat.testBit_two_pow_mul, Nat.testBit_div_two_pow]
    by_cases hi : i < 8
    · simp [hi, show ¬ 8 ≤ i by omega]
    · simp [hi, show 8 ≤ i by omega]
  conv => lhs; rw [h]
  rw [show x % 256 ^^^ 2 ^ 8 * (x / 256) ^^^ b = (x % 256 ^^^ b) ^^^ (2 ^ 8 * (x / 256)) by ac_rfl, crcI_xor, crcI_shift]
def crcR : Nat → List UInt8 → Nat
  | x, [] => x
  | x, c :: l => crcR (crcI 8 (x ^^^ c.toNat)) l
theorem crcR_append : ∀ (l m : List UInt8) (x : Nat), crcR x (l ++ m) = crcR (crcR x l) m
  | [], _, _ => rfl
  | c :: l, m, x => crcR_append l m _
theorem crcR_lt : ∀ (l : List UInt8) {x : Nat}, x < 2 ^ 32 → crcR x l < 2 ^ 32
  | [], _, h => h
  | c :: l, _, h => crcR_lt l (crcI_lt 8 (Nat.xor_lt_two_pow h (Nat.lt_trans c.toNat_lt (by decide))))
end Go.Proofs.Ytcoppaggpbfcmaa.Sl
namespace Go.Proofs.Ytcoppaggpbfcmaa.Sl
open Go.RowKit
set_option linter.unusedVariables false
set_option linter.unusedSimpArgs false
theorem u32_ofInt (a : Nat) (h : a < 4294967296) : (BitVec.ofInt IntKind.u32.bits (a : Int)).toNat = a := by
  show (BitVec.ofInt 32 (a : Int)).toNat = a
  rw [BitVec.ofInt_natCast, BitVec.toNat_ofNat, Nat.mod_eq_of_lt (by omega)]
theorem u8_ofInt (a : Nat) (h : a < 256) : (BitVec.ofInt IntKind.u8.bits (a : Int)).toNat = a := by
  show (BitVec.ofInt 8 (a : Int)).toNat = a
  rw [BitVec.ofInt_natCast, BitVec.toNat_ofNat, Nat.mod_eq_of_lt (by omega)]
theorem wrap_u32 (a : Nat) : IntKind.u32.wrap (a : Int) = ((a % 4294967296 : Nat) : Int) := by
  rw [IntKind.wrap_u32]; omega
theorem wrap_u8 (a : Nat) : IntKind.u8.wrap (a : Int) = ((a % 256 : Nat) : Int) := by
  rw [IntKind.wrap_u8]; omega
theorem xor_u32 (a b : Nat) (ha : a < 4294967296) (hb : b < 4294967296) : Go.bits .xor .u32 (a : Int) (b : Int) = ((a ^^^ b : Nat) : Int) := by
  show IntKind.u32.wrap (((BitVec.ofInt IntKind.u32.bits (a : Int)) ^^^ (BitVec.ofInt IntKind.u32.bits (b : Int))).toNat : Int) = _
  rw [BitVec.toNat_xor, u32_ofInt a ha, u32_ofInt b hb, wrap_u32, Nat.mod_eq_of_lt (Nat.xor_lt_two_pow (n := 32) ha hb)]
theorem xor_u8 (a b : Nat) (ha : a < 256) (hb : b < 256) : Go.bits .xor .u8 (a : Int) (b : Int) = ((a ^^^ b : Nat) : Int) := by
  show IntKind.u8.wrap (((BitVec.ofInt IntKind.u8.bits (a : Int)) ^^^ (BitVec.ofInt IntKind.u8.bits (b : Int))).toNat : Int) = _
  rw [BitVec.toNat_xor, u8_ofInt a ha, u8_ofInt b hb, wrap_u8, Nat.mod_eq_of_lt (Nat.xor_lt_two_pow (n := 8) ha hb)]
theorem and1_u32 (a : Nat) (ha : a < 4294967296) : Go.bits .and .u32 (a : Int) 1 = ((a % 2 : Nat) : Int) := by
  show IntKind.u32.wrap (((BitVec.ofInt IntKind.u32.bits (a : Int)) &&& (BitVec.ofInt IntKind.u32.bits ((1 : Nat) : Int))).toNat : Int) = _
  rw [BitVec.toNat_and, u32_ofInt a ha, u32_ofInt 1 (by decide), wrap_u32, Nat.and_one_is_mod, Nat.mod_eq_of_lt (by omega)]
theorem shr1_u32 (a : Nat) : shrK .u32 (a : Int) 1 = ((a / 2 : Nat) : Int) := by
  show Int.fdiv (a : Int) 2 = _
  rw [Int.fdiv_eq_ediv_of_nonneg _ (by decide)]
  omega
theorem shr8_u32 (a : Nat) : shrK .u32 (a : Int) 8 = ((a / 256 : Nat) : Int) := by
  show Int.fdiv (a : Int) 256 = _
  rw [Int.fdiv_eq_ediv_of_nonneg _ (by decide)]
  omega
theorem crcS_int (y : Nat) (hy : y < 4294967296) : (if Go.bits .and .u32 (y : Int) 1 = 1 then some (Go.bits .xor .u32 (shrK .u32 (y : Int) 1) 2197175160) else some (shrK .u32 (y : Int) 1)) = some ((crcS y : Nat) : Int) := by
  rw [and1_u32 y hy, shr1_u32, show (2197175160 : Int) = ((2197175160 : Nat) : Int) from rfl, xor_u32 _ _ (by omega) (by decide)]
  unfold crcS
  by_cases h : y % 2 = 1
  · rw [if_pos (by omega), if_pos h]; rfl
  · rw [if_neg (by omega), if_neg h, Nat.xor_zero]
theorem new_l2 : ∀ (m y k : Nat), y < 4294967296 → k ≤ 8 → 8 - k < m → f_crc_New_l2 m (y : Int) k = some (((crcI (8 - k) y : Nat) : Int), 8)
  | 0, _, _, _, _, h => by omega
  | m + 1, y, k, hy, hk, hm => by
    rw [f_crc_New_l2]
    by_cases h : k < 8
    · rw [if_pos (by omega), crcS_int y hy, Option.bind_some, if_pos (by omega), new_l2 m (crcS y) (k + 1) (crcS_lt hy) (by omega) (by omega), show 8 - k = (8 - (k + 1)) + 1 by omega]
      rfl
    · rw [if_neg (by omega), show 8 - k = 0 by omega, show k = 8 by omega]
      rfl
def crcTab : List Int := (List.range 256).map (fun j => ((crcI 8 j : Nat) : Int))
theorem crcTab_get (j : Nat) (hj : j < 256) : crcTab[j]? = some ((crcI 8 j : Nat) : Int) := by
  unfold crcTab
  rw [List.getElem?_map, List.getElem?_range hj]
  rfl
theorem new_l1 : ∀ (m k : Nat) (l : List Int), l.length = 256 → k ≤ 256 → 256 - k < m → (∀ j, j < k → l[j]? = some ((crcI 8 j : Nat) : Int)) → f_crc_New_l1 m k l = some (256, crcTab)
  | 0, _, _, _, _, h, _ => by omega
  | m + 1, k, l, hl, hk, hm, hj => by
    rw [f_crc_New_l1]
    by_cases h : k < 256
    · have e1 : IntKind.u32.wrap (k : Int) = ((k : Nat) : Int) := by rw [wrap_u32, Nat.mod_eq_of_lt (by omega)]
      have e2 : f_crc_New_l2 ((8 : Int).toNat + 1) (IntKind.u32.wrap (k : Int)) 0 = some (((crcI 8 k : Nat) : Int), 8) := by
        rw [e1]
        exact new_l2 9 k 0 (by omega) (by omega) (by omega)
      have e3 : l[k]? = some (l[k]'(by omega)) := List.getElem?_eq_getElem (by omega)
      rw [if_pos (by omega), e2, Option.bind_some]
      dsimp only
      rw [e3, Option.bind_some, Option.bind_some, if_pos (by omega)]
      refine new_l1 m (k + 1) _ (by rw [List.length_set]; exact hl) (by omega) (by omega) (fun j hjk => ?_)
      rw [List.getElem?_set]
      by_cases e : k = j
      · rw [if_pos e, if_pos (by omega), e]
      · rw [if_neg e]
        exact hj j (by omega)
    · rw [if_neg (by omega), show k = 256 by omega]
      congr 2
      apply List.ext_getElem?
      intro j
      by_cases hj2 : j < 256
      · rw [crcTab_get j hj2]
        exact hj j (by omega)
      · rw [List.getElem?_eq_none (by omega), List.getElem?_eq_none (by unfold crcTab; simp; omega)]
theorem crc_new : f_crc_New = some crcTab := by
  unfold f_crc_New
  rw [show (256 : Int).toNat + 1 = 257 from rfl, new_l1 257 0 _ (List.length_replicate ..) (by omega) (by omega) (fun j hj => absurd hj (by omega)), Option.bind_some]
theorem more_l1 (s : List UInt8) (hs : s.length ≤ 9223372036854775806) : ∀ (m y k : Nat), y < 4294967296 → k ≤ s.length → s.length - k < m → f_crc_TableMore_l1 s m (y : Int) k crcTab = some (((crcR y (s.drop k) : Nat) : Int), s.length, crcTab)
  | 0, _, _, _, _, h => by omega
  | m + 1, y, k, hy, hk, hm => by
    rw [f_crc_TableMore_l1]
    by_cases h : k < s.length
    · have e1 : s[k]? = some s[k] := List.getElem?_eq_getElem h
      have hc := s[k].toNat_lt
      have hx : y % 256 ^^^ s[k].toNat < 256 := Nat.xor_lt_two_pow (n := 8) (by omega) hc
      have e2 : Go.bits .xor .u8 (IntKind.u8.wrap (y : Int)) (s[k].toNat : Int) = ((y % 256 ^^^ s[k].toNat : Nat) : Int) := by
        rw [wrap_u8, xor_u8 _ _ (by omega) (by omega)]
      have e3 : crcI 8 (y % 256 ^^^ s[k].toNat) < 2 ^ 32 := crcI_lt 8 (by omega)
      rw [if_pos (by omega), e1, Option.bind_some, e2, if_pos (by omega), Int.toNat_natCast, crcTab_get _ hx, Option.bind_some, if_pos (by omega), shr8_u32, xor_u32 _ _ (by omega) (by omega), ← crcI_byte y _ (by omega),
        more_l1 s hs m _ (k + 1) (crcI_lt 8 (Nat.xor_lt_two_pow (n := 32) hy (by omega))) (by omega) (by omega)]
      rw [drop_cons e1]
      rfl
    · rw [if_neg (by omega), show k = s.length by omega, List.drop_length]
      rfl
def crcM (x : Nat) (s : List UInt8) : Nat := 4294967295 ^^^ crcR (4294967295 ^^^ x) s
theorem crcM_lt {x : Nat} (hx : x < 4294967296) (s : List UInt8) : crcM x s < 4294967296 := Nat.xor_lt_two_pow (n := 32) (by decide) (crcR_lt s (Nat.xor_lt_two_pow (n := 32) (by decide) hx))
theorem ones2 (x : Nat) : 4294967295 ^^^ (4294967295 ^^^ x) = x := by rw [← Nat.xor_assoc, Nat.xor_self, Nat.zero_xor]
theorem crcM_append (x : Nat) (s t : List UInt8) : crcM x (s ++ t) = crcM (crcM x s) t := by
  unfold crcM
  rw [crcR_append, ones2]
theorem crcM_nil (x : Nat) : crcM x [] = x := ones2 x
theorem crc_more (x : Nat) (hx : x < 4294967296) (s : List UInt8) (hs : s.length ≤ 9223372036854775806) : f_crc_TableMore crcTab (x : Int) s = some (((crcM x s : Nat) : Int), crcTab) := by
  unfold f_crc_TableMore
  have h1 : (4294967295 ^^^ x : Nat) < 4294967296 := Nat.xor_lt_two_pow (n := 32) (by decide) hx
  rw [show (4294967295 : Int) = ((4294967295 : Nat) : Int) from rfl, xor_u32 _ _ (by decide) hx, Int.toNat_natCast, more_l1 s hs _ _ 0 h1 (by omega) (by omega), Option.bind_some, List.drop_zero]
  dsimp only
  rw [xor_u32 _ _ (by decide) (crcR_lt s h1)]
  rfl
theorem sum_l1 : ∀ (l : List (List UInt8)) (x : Nat), x < 4294967296 → (∀ s, s ∈ l → s.length ≤ 9223372036854775806) → f_crc_TableSum_l1 l (x : Int) crcTab = some (((crcM x l.flatten : Nat) : Int), crcTab)
  | [], x, _, _ => by rw [f_crc_TableSum_l1, List.flatten_nil, crcM_nil]
  | s :: l, x, hx, hs => by
    rw [f_crc_TableSum_l1, crc_more x hx s (hs s (List.mem_cons_self ..)), Option.bind_some]
    dsimp only
    rw [sum_l1 l _ (crcM_lt hx s) (fun t ht => hs t (List.mem_cons_of_mem _ ht)), List.flatten_cons, crcM_append]
theorem crc_sum (l : List (List UInt8)) (hs : ∀ s, s ∈ l → s.length ≤ 9223372036854775806) : f_crc_TableSum crcTab l = some (((crcM 0 l.flatten : Nat) : Int), crcTab) := by
  unfold f_crc_TableSum
  have h := sum_l1 l 0 (by decide) hs
  rw [show ((0 : Nat) : Int) = 0 from rfl] at h
  rw [h, Option.bind_some]
end Go.Proofs.Ytcoppaggpbfcmaa.Sl
namespace Go.Proofs.Ytcoppaggpbfcmaa.Sl
open Go.RowKit
set_option linter.unusedVariables false
set_option linter.unusedSimpArgs false
def pre21 (p : Pfx) : List UInt8 := be p.fBase 8 ++ (be p.fLength 4 ++ (be p.fLeader 4 ++ (be 2 1 ++ be (s32 p.fSum) 4)))
def post21 (p : Pfx) : List UInt8 := be p.fAttr 2 ++ encI [4, 8, 8, 8, 2, 4, 4] [p.fLast, p.fFirst, p.fMax, p.fProducer, p.fEpoch, p.fSequence, p.fCount]
theorem encP_21 (p : Pfx) : encP p = pre21 p ++ post21 p := by
  unfold encP KS toL pre21 post21
  simp only [encI, List.append_assoc]
theorem pre21_len (p : Pfx) : (pre21 p).length = 21 := by
  unfold pre21
  simp only [List.length_append, be_length]
theorem encP_drop (p : Pfx) : (encP p).drop 21 = post21 p := by
  rw [encP_21, ← pre21_len p, List.drop_left]
def okRc (x : Rec) : Prop := okRec x ∧ vfold ((encBody x).length : Int) < 2 ^ (32 : Int).toNat
def pMore : Pr Unit := fun s q => if q = s.length then .error 10 else .ok ((), q)
def pRecs : Nat → Pr (List Rec)
  | 0 => .ret []
  | n + 1 => pMore.bind fun _ => pRec.bind fun x => (pRecs n).bind fun l => .ret (x :: l)
theorem encRec_pos (x : Rec) : 0 < (encRec x).length := by
  unfold encRec
  rw [List.length_append]
  have := vput_pos (vfold ((encBody x).length : Int))
  omega
theorem recs_spell : ∀ (n : Nat) (s : List UInt8) (q : Nat) (l : List Rec) (r : Nat), q ≤ s.length → pRecs n s q = .ok (l, r) → q ≤ r ∧ r ≤ s.length ∧ s.take r = s.take q ++ encs encRec l ∧ l.length = n ∧ ∀ x, x ∈ l → okRc x
  | 0, s, q, l, r, hq, h => by
    injection h with h
    obtain ⟨rfl, rfl⟩ := Prod.mk.inj h
    exact ⟨Nat.le_refl _, hq, by simp [encs], rfl, fun x h => nomatch h⟩
  | n + 1, s, q, l, r, hq, h => by
    obtain ⟨u, m, h1, h2⟩ := Pr.bind_ok h
    unfold pMore at h1
    split at h1
    · exact nomatch h1
    injection h1 with h1
    obtain ⟨_, rfl⟩ := Prod.mk.inj h1
    obtain ⟨x, m2, h3, h4⟩ := Pr.bind_ok h2
    obtain ⟨xs, m3, h5, h6⟩ := Pr.bind_ok h4
    injection h6 with h6
    obtain ⟨rfl, rfl⟩ := Prod.mk.inj h6
    obtain ⟨a1, a2, a3, a4, a5⟩ := Sp_rec.spell s q x m2 hq h3
    obtain ⟨b1, b2, b3, b4, b5⟩ := recs_spell n s m2 xs m3 a2 h5
    refine ⟨by omega, b2, by rw [b3, a4, encs, List.append_assoc], by rw [List.length_cons, b4], fun y hy => ?_⟩
    rcases List.mem_cons.1 hy with rfl | hy
    · exact a5
    · exact b5 y hy
theorem recs_back : ∀ (l : List Rec) (s t : List UInt8) (q : Nat), q ≤ s.length → (∀ x, x ∈ l → okRc x) → s.drop q = encs encRec l ++ t → pRecs l.length s q = .ok (l, q + (encs encRec l).length)
  | [], s, t, q, hq, _, _ => rfl
  | x :: l, s, t, q, hq, ho, hd => by
    rw [encs, List.append_assoc] at hd
    have hl := congrArg List.length hd
    rw [List.length_drop, List.length_append] at hl
    have hp := encRec_pos x
    have h0 : pMore s q = .ok ((), q) := if_neg (by omega)
    have h1 := Sp_rec.back s _ q x hq (ho x (.head _)) hd
    have h2 := recs_back l s t _ (by omega) (fun y hy => ho y (.tail _ hy)) (drop_step hd)
    rw [List.length_cons, pRecs, Pr.bind_of h0, Pr.bind_of h1, Pr.bind_of h2, encs, List.length_append, ← Nat.add_assoc]
    rfl
def chk (a : Bat) : Int := (f_batch_Check a).getD 0
def body (a : Bat) : List UInt8 := encs encRec a.fRecords
def mkB (p : Pfx) (l : List Rec) : Bat := ⟨p.fBase, p.fLeader, bitAt p.fAttr 3, bitAt p.fAttr 4, bitAt p.fAttr 5, p.fLast, p.fFirst, p.fMax, p.fProducer, p.fEpoch, p.fSequence, l⟩
def pB (a : Bat) (s : Int) : Pfx := ⟨a.fBase, 49 + ((body a).length : Int), a.fLeader, s, ofBits a.fAppend a.fTxn a.fControl, a.fLast, a.fFirst, a.fMax, a.fProducer, a.fEpoch, a.fSequence, (a.fRecords.length : Int)⟩
def sumP (p : Pfx) (s : List UInt8) : Nat := crcM 0 (post21 p ++ s)
def sumB (a : Bat) : Nat := sumP (pB a 0) (body a)
def encB (a : Bat) : List UInt8 := encP (pB a (sumB a)) ++ body a
def okB (a : Bat) : Prop := okP (pB a (sumB a)) ∧ acheck (ofBits a.fAppend a.fTxn a.fControl) = 0 ∧ (∀ x, x ∈ a.fRecords → okRc x) ∧ chk a = 0
def openP (p : Pfx) (s : List UInt8) : Except Int Bat :=
  if acheck p.fAttr = 0 then
    match pRecs p.fCount.toNat s 0 with
    | .error e => .error e
    | .ok (l, r) => if r < s.length then .error 10 else if chk (mkB p l) = 0 then .ok (mkB p l) else .error (chk (mkB p l))
  else .error (acheck p.fAttr)
def pBat : Pr Bat := fun s q =>
  match pPfx s q with
  | .error e => .error e
  | .ok (p, r) => if s.length < r + (p.fLength - 49).toNat then .error 1 else
    if ((sumP p ((s.drop r).take (p.fLength - 49).toNat) : Nat) : Int) = p.fSum then
      match openP p ((s.drop r).take (p.fLength - 49).toNat) with
      | .error e => .error e
      | .ok b => .ok (b, r + (p.fLength - 49).toNat)
    else .error 5
theorem attr_back {n : Int} (h : acheck n = 0) : ofBits (bitAt n 3) (bitAt n 4) (bitAt n 5) = n := by
  have h1 : n % 8 = 0 ∧ 0 ≤ n ∧ n ≤ 63 := by
    unfold acheck at h
    split at h
    · cases h
    · split at h
      · cases h
      · omega
  have h2 : n = 0 ∨ n = 8 ∨ n = 16 ∨ n = 24 ∨ n = 32 ∨ n = 40 ∨ n = 48 ∨ n = 56 := by omega
  rcases h2 with rfl | rfl | rfl | rfl | rfl | rfl | rfl | rfl <;> decide
theorem bits_of : ∀ a b c : Bool, bitAt (ofBits a b c) 3 = a ∧ bitAt (ofBits a b c) 4 = b ∧ bitAt (ofBits a b c) 5 = c := by decide
theorem openP_ok {p : Pfx} {s : List UInt8} {b : Bat} (h : openP p s = .ok b) (h0 : 0 ≤ p.fCount) : acheck p.fAttr = 0 ∧ ∃ l, b = mkB p l ∧ s = encs encRec l ∧ (l.length : Int) = p.fCount ∧ (∀ x, x ∈ l → okRc x) ∧ chk b = 0 := by
  unfold openP at h
  by_cases ha : acheck p.fAttr = 0
  · rw [if_pos ha] at h
    refine ⟨ha, ?_⟩
    cases hr : pRecs p.fCount.toNat s 0 with
    | error e => rw [hr] at h; exact nomatch h
    | ok x =>
      obtain ⟨l, r⟩ := x
      rw [hr] at h
      dsimp only at h
      by_cases hl : r < s.length
      · rw [if_pos hl] at h; exact nomatch h
      rw [if_neg hl] at h
      by_cases hc : chk (mkB p l) = 0
      · rw [if_pos hc] at h
        injection h with h
        subst h
        obtain ⟨b1, b2, b3, b4, b5⟩ := recs_spell _ s 0 l r (Nat.zero_le _) hr
        rw [List.take_of_length_le (by omega), List.take_zero, List.nil_append] at b3
        exact ⟨l, rfl, b3, by omega, b5, hc⟩
      · rw [if_neg hc] at h; exact nomatch h
  · rw [if_neg ha] at h; exact nomatch h
theorem pB_mk {p : Pfx} {l : List Rec} (h1 : (49 : Int) + ((encs encRec l).length : Int) = p.fLength) (h2 : acheck p.fAttr = 0) (h3 : (l.length : Int) = p.fCount) (s : Int) : pB (mkB p l) s = ⟨p.fBase, p.fLength, p.fLeader, s, p.fAttr, p.fLast, p.fFirst, p.fMax, p.fProducer, p.fEpoch, p.fSequence, p.fCount⟩ := by
  unfold pB mkB body
  dsimp only
  rw [h1, h3, attr_back h2]
theorem Sp_bat : Sp pBat encB okB := by
  refine ⟨fun s q b r hq h => ?_, fun s t q a hq ha hd => ?_⟩
  · unfold pBat at h
    cases hp : pPfx s q with
    | error e => rw [hp] at h; exact nomatch h
    | ok x =>
      obtain ⟨p, m⟩ := x
      rw [hp] at h
      dsimp only at h
      obtain ⟨a1, a2, a3, a4, a5, a6, a7, a8⟩ := Sp_pfx.spell s q p m hq hp
      by_cases hl : s.length < m + (p.fLength - 49).toNat
      · rw [if_pos hl] at h; exact nomatch h
      rw [if_neg hl] at h
      by_cases hs : ((sumP p ((s.drop m).take (p.fLength - 49).toNat) : Nat) : Int) = p.fSum
      · rw [if_pos hs] at h
        cases ho : openP p ((s.drop m).take (p.fLength - 49).toNat) with
        | error e => rw [ho] at h; exact nomatch h
        | ok b' =>
          rw [ho] at h
          injection h with h
          obtain ⟨rfl, rfl⟩ := Prod.mk.inj h
          obtain ⟨k1, l, rfl, k3, k4, k5, k6⟩ := openP_ok ho a8
          have hn : ((s.drop m).take (p.fLength - 49).toNat).length = (p.fLength - 49).toNat := by rw [List.length_take, List.length_drop]; omega
          have e1 : (49 : Int) + ((encs encRec l).length : Int) = p.fLength := by rw [← k3, hn]; omega
          have e2 : ((sumB (mkB p l) : Nat) : Int) = p.fSum := by
            rw [← hs, k3]
            unfold sumB
            rw [pB_mk e1 k1 k4]
            rfl
          have e3 : pB (mkB p l) (sumB (mkB p l)) = p := by rw [pB_mk e1 k1 k4, e2]
          have e4 : encB (mkB p l) = encP p ++ (s.drop m).take (p.fLength - 49).toNat := by
            unfold encB
            rw [e3, k3]
            rfl
          have a9 := congrArg List.length a4
          refine ⟨by omega, by omega, ?_, ?_, ?_⟩
          · rw [e4, List.length_append, hn]; omega
          · rw [e4, take_step, a4, List.append_assoc]
          · refine ⟨by rw [e3]; exact ⟨a5, a6, a7, a8⟩, ?_, k5, k6⟩
            show acheck (ofBits (bitAt p.fAttr 3) (bitAt p.fAttr 4) (bitAt p.fAttr 5)) = 0
            rw [attr_back k1]
            exact k1
      · rw [if_neg hs] at h; exact nomatch h
  · obtain ⟨h1, h2, h3, h4⟩ := ha
    unfold encB at hd
    rw [List.append_assoc] at hd
    have hp := Sp_pfx.back s _ q _ hq h1 hd
    have hd2 := drop_step hd
    have hl := congrArg List.length hd
    rw [List.length_drop, List.length_append, List.length_append] at hl
    have hn : ((pB a (sumB a)).fLength - 49).toNat = (body a).length := by
      show ((49 : Int) + ((body a).length : Int) - 49).toNat = _
      omega
    have ht : (s.drop (q + (encP (pB a (sumB a))).length)).take (body a).length = body a := by rw [hd2, List.take_left]
    unfold pBat
    rw [hp]
    dsimp only
    rw [hn, ht, if_neg (by omega), if_pos (show ((sumP (pB a (sumB a)) (body a) : Nat) : Int) = (pB a (sumB a)).fSum from rfl)]
    have hr := recs_back a.fRecords (body a) [] 0 (Nat.zero_le _) h3 (by rw [List.drop_zero, List.append_nil]; rfl)
    have ho : openP (pB a (sumB a)) (body a) = .ok a := by
      unfold openP
      rw [if_pos (show acheck (pB a (sumB a)).fAttr = 0 from h2), show (pB a (sumB a)).fCount.toNat = a.fRecords.length from rfl, hr]
      dsimp only
      obtain ⟨b1, b2, b3⟩ := bits_of a.fAppend a.fTxn a.fControl
      have e : mkB (pB a (sumB a)) a.fRecords = a := by
        unfold mkB pB
        dsimp only
        rw [b1, b2, b3]
      rw [e, if_neg (by show ¬ 0 + (body a).length < _; omega), if_pos h4]
    rw [ho]
    dsimp only
    unfold encB
    rw [List.length_append, Nat.add_assoc]
end Go.Proofs.Ytcoppaggpbfcmaa.Sl
namespace Go.Proofs.Ytcoppaggpbfcmaa.Sl
open Go.RowKit
set_option linter.unusedVariables false
set_option linter.unusedSimpArgs false
def zBat : Bat := ⟨0, 0, false, false, false, 0, 0, 0, 0, 0, 0, []⟩
def bnR (r : Rec) : Prop := r.fHeaders.length ≤ 1000000 ∧ r.fKey.data.length ≤ 1000000 ∧ r.fValue.data.length ≤ 1000000
def bnB (a : Bat) : Prop := wf_Bat a ∧ a.fRecords.length ≤ 1000000 ∧ ∀ r, r ∈ a.fRecords → bnR r
theorem encs_mem {α : Type} (enc : α → List UInt8) : ∀ (l : List α) (x : α), x ∈ l → (enc x).length ≤ (encs enc l).length
  | y :: l, x, h => by
    rw [encs, List.length_append]
    rcases List.mem_cons.1 h with rfl | h
    · omega
    · have := encs_mem enc l x h
      omega
theorem encs_pos {α : Type} (enc : α → List UInt8) : ∀ (l : List α), (∀ x, x ∈ l → 0 < (enc x).length) → l.length ≤ (encs enc l).length
  | [], _ => Nat.zero_le _
  | y :: l, h => by
    rw [encs, List.length_append, List.length_cons]
    have h1 := h y (.head _)
    have := encs_pos enc l (fun x hx => h x (.tail _ hx))
    omega
theorem encHd_pos (h : Hd) : 0 < (encHd h).length := by
  unfold encHd
  simp only [List.length_append]
  have := vput_pos (vfold (h.fKey.length : Int))
  omega
theorem rec_bounds {x : Rec} (h : okRec x) (hl : (encRec x).length ≤ 1000000) : wf_Rec x ∧ bnR x := by
  obtain ⟨_, h2, h3⟩ := okRec_right h
  have e : (encRec x).length = (vput (vfold ((encBody x).length : Int))).length + (encBody x).length := by unfold encRec; rw [List.length_append]
  have e2 : (encBody x).length ≤ 1000000 := by omega
  simp only [encBody, encBl, encHs, List.length_append, be_length] at e2
  have h4 := encs_pos encHd x.fHeaders (fun y _ => encHd_pos y)
  have hS : ∀ d : List UInt8, d.length ≤ 1000000 → wS d := fun d hd => by unfold wS; omega
  refine ⟨⟨h2, h3, ⟨trivial, hS _ (by omega)⟩, ⟨trivial, hS _ (by omega)⟩, by omega, fun y hy => ?_⟩, by omega, by omega, by omega⟩
  have h5 := encs_mem encHd x.fHeaders y hy
  have h6 : (encHd y).length ≤ 1000000 := by omega
  simp only [encHd, List.length_append] at h6
  exact ⟨hS _ (by omega), trivial, hS _ (by omega)⟩
theorem chk_eq {a : Bat} (h : bnB a) : f_batch_Check a = some (chk a) ∧ f_r11_Check a = some (chk a) := by
  obtain ⟨cr, e0, h1, h2, _⟩ := check_same a h.1 h.2.1 h.2.2
  have e : chk a = chkB a cr e0 := by unfold chk; rw [h1]; rfl
  rw [e]
  exact ⟨h1, h2⟩
theorem fits_8 (n : Int) : fits n 8 = decide (-9223372036854775808 ≤ n ∧ n ≤ 9223372036854775807) := by
  rw [Bool.eq_iff_iff]
  unfold fits
  simp only [Bool.and_eq_true, decide_eq_true_eq]
  have : (2 : Int) ^ (8 * (8 : Int).toNat - 1) = 9223372036854775808 := by decide
  omega
theorem wI8 {n : Int} (h : fits n (8 : Nat) = true) : wI n := by
  have h' : fits n 8 = true := h
  rw [fits_8] at h'
  have h2 := of_decide_eq_true h'
  exact h2
theorem wI4 {n : Int} (h : fits n (4 : Nat) = true) : -2147483648 ≤ n ∧ n ≤ 2147483647 := by
  have h' : fits n 4 = true := h
  rw [fits_4] at h'
  exact of_decide_eq_true h'
theorem wI2 {n : Int} (h : fits n (2 : Nat) = true) : -32768 ≤ n ∧ n ≤ 32767 := by
  have h' : fits n 2 = true := h
  rw [b_fits_2] at h'
  exact of_decide_eq_true h'
theorem mkB_bounds {p : Pfx} (hp : okP p) {l : List Rec} (hl : ∀ x, x ∈ l → okRc x) (hb : (encs encRec l).length ≤ 1000000) : bnB (mkB p l) := by
  obtain ⟨⟨k1, k2, k3, _, k5, k6, k7, k8, k9, k10, k11, k12, k13, _⟩, _, _, _⟩ := hp
  have w4 : ∀ {n : Int}, fits n (4 : Nat) = true → wI n := fun h => by have := wI4 h; unfold wI; omega
  have w2 : ∀ {n : Int}, fits n (2 : Nat) = true → wI n := fun h => by have := wI2 h; unfold wI; omega
  have hr : ∀ x, x ∈ l → wf_Rec x ∧ bnR x := fun x hx => rec_bounds (hl x hx).1 (by have := encs_mem encRec l x hx; omega)
  have h4 := encs_pos encRec l (fun y _ => encRec_pos y)
  exact ⟨⟨wI8 k1, w4 k3, trivial, trivial, trivial, w4 k7, wI8 k8, wI8 k9, wI8 k10, w2 k11, w4 k12, by show l.length ≤ _; omega, fun x hx => (hr x hx).1⟩, by show l.length ≤ _; omega, fun x hx => (hr x hx).2⟩
theorem bopen_l1 (p : Pfx) (hc : p.fCount ≤ 2147483647) (s : List UInt8) (hs : s.length ≤ 1000000) (y : Int) : ∀ (n k fuel : Nat) (acc : List Rec) (q : Nat), ((k + n : Nat) : Int) = p.fCount → n < fuel → q ≤ s.length → acc.length ≤ q →
    (∃ e, pRecs n s q = .error e ∧ e ≠ 0 ∧ f_batch_open_l1 p fuel y k acc ⟨s.drop q, q, 0⟩ = some (.ret (zBat, e))) ∨ (∃ l r, pRecs n s q = .ok (l, r) ∧ q ≤ r ∧ r ≤ s.length ∧ f_batch_open_l1 p fuel y k acc ⟨s.drop q, q, 0⟩ = some (.go (y, k + n, acc ++ l, ⟨s.drop r, r, 0⟩)))
  | 0, k, fuel + 1, acc, q, hk, hf, hq, ha => .inr ⟨[], q, rfl, Nat.le_refl _, hq, by rw [f_batch_open_l1, if_neg (by omega), List.append_nil, Nat.add_zero]⟩
  | n + 1, k, fuel + 1, acc, q, hk, hf, hq, ha => by
    rw [f_batch_open_l1, if_pos (by omega), gLeft_eq, Option.bind_some]
    dsimp only
    rw [List.length_drop, pRecs]
    by_cases hz : q = s.length
    · rw [if_pos (by omega)]
      exact .inl ⟨10, Pr.bind_err (if_pos hz), by decide, rfl⟩
    rw [if_neg (by omega), Pr.bind_of (show pMore s q = .ok ((), q) from if_neg hz)]
    rcases B_rec.run s q hs hq with ⟨e, st, p1, g1, x1, y1⟩ | ⟨b, r, p1, g1, n1, l1⟩
    · rw [g1, Option.bind_some]
      dsimp only
      rw [gErr_eq, Option.bind_some]
      dsimp only
      rw [if_neg y1]
      exact .inl ⟨e, Pr.bind_err p1, by rw [← x1]; exact y1, by rw [x1]; rfl⟩
    · have h3 := (Sp_rec.spell s q b r hq p1).2.2.1
      have h4 := encRec_pos b
      rw [g1, Option.bind_some]
      dsimp only
      rw [gErr_eq, Option.bind_some]
      dsimp only
      rw [if_pos rfl, if_pos (by omega), if_pos (by omega), Pr.bind_of p1]
      rcases bopen_l1 p hc s hs y n (k + 1) fuel (acc ++ [b]) r (by omega) (by omega) l1 (by rw [List.length_append, List.length_singleton]; omega) with ⟨e, q1, q2, q3⟩ | ⟨l, m, q1, q2, q3, q4⟩
      · exact .inl ⟨e, Pr.bind_err q1, q2, q3⟩
      · exact .inr ⟨b :: l, m, by rw [Pr.bind_of q1]; rfl, by omega, q3, by rw [q4, List.append_assoc, show k + 1 + n = k + (n + 1) by omega]; rfl⟩
theorem bopen {p : Pfx} (hp : okP p) (s : List UInt8) (hs : s.length ≤ 1000000) : (∃ e x, openP p s = .error e ∧ e ≠ 0 ∧ f_batch_open p s = some (x, e)) ∨ (∃ b, openP p s = .ok b ∧ f_batch_open p s = some (b, 0)) := by
  obtain ⟨k1, k2, k3, k4⟩ := id hp
  have ha := wI2 k1.2.2.2.2.2.1
  have hc := wI4 k1.2.2.2.2.2.2.2.2.2.2.2.2.1
  try dsimp only at ha
  unfold f_batch_open openP
  rw [gACheck_eq _ (by omega), Option.bind_some]
  by_cases h0 : acheck p.fAttr = 0
  rotate_left
  · rw [if_neg h0, if_neg h0]
    exact .inl ⟨_, _, rfl, h0, rfl⟩
  rw [if_pos h0, if_pos h0, gARead_eq, Option.bind_some]
  dsimp only
  rw [gNew_eq _ (by omega), Option.bind_some]
  rcases bopen_l1 p hc.2 s hs 0 p.fCount.toNat 0 (p.fCount.toNat + 1) [] 0 (by omega) (by omega) (Nat.zero_le _) (Nat.zero_le _) with ⟨e, q1, q2, q3⟩ | ⟨l, m, q1, q2, q3, q4⟩
  · rw [List.drop_zero] at q3
    rw [q3, q1]
    exact .inl ⟨e, _, rfl, q2, rfl⟩
  · rw [List.drop_zero] at q4
    obtain ⟨b1, b2, b3, b4, b5⟩ := recs_spell _ s 0 l m (Nat.zero_le _) q1
    rw [q4, q1, Option.bind_some]
    dsimp only
    rw [gLeft_eq, Option.bind_some]
    dsimp only
    rw [List.length_drop]
    by_cases hl : m < s.length
    · rw [if_pos hl, if_pos (show ((s.length - m : Nat) : Int) > 0 by omega)]
      exact .inl ⟨_, _, rfl, by decide, rfl⟩
    · rw [if_neg hl, if_neg (show ¬ ((s.length - m : Nat) : Int) > 0 by omega)]
      rw [List.take_of_length_le (by omega), List.take_zero, List.nil_append] at b3
      have hB := mkB_bounds hp b5 (by rw [← b3]; exact hs)
      have e : f_batch_Check (⟨p.fBase, p.fLeader, bitAt p.fAttr 3, bitAt p.fAttr 4, bitAt p.fAttr 5, p.fLast, p.fFirst, p.fMax, p.fProducer, p.fEpoch, p.fSequence, [] ++ l⟩ : Bat) = some (chk (mkB p l)) := (chk_eq hB).1
      rw [e, Option.bind_some]
      by_cases hk : chk (mkB p l) = 0
      · rw [if_pos hk, hk]
        exact .inr ⟨_, rfl, rfl⟩
      · rw [if_neg hk]
        exact .inl ⟨_, _, rfl, hk, rfl⟩
theorem B_bat : CB f_batch_Read pBat zBat := by
  refine ⟨fun st h => ?_, fun s q hs hq => ?_⟩
  · unfold f_batch_Read
    rw [B_pfx.dead st h, Option.bind_some]
    dsimp only
    rw [if_pos (by decide), gTake_eq _ _ (by decide), Option.bind_some]
    dsimp only
    have e : itake st ((0 : Int) - 49) = ([], st) := if_pos h
    rw [show zP.fLength = (0 : Int) from rfl, e, gErr_eq, Option.bind_some]
    dsimp only
    rw [if_neg h]
    rfl
  · unfold f_batch_Read pBat
    rcases B_pfx.run s q hs hq with ⟨e, st, p1, g1, x1, y1⟩ | ⟨p, r, p1, g1, n1, l1⟩
    · refine .inl ⟨e, st, by rw [p1], ?_, x1, y1⟩
      rw [g1, Option.bind_some]
      dsimp only
      rw [if_pos (by decide), gTake_eq _ _ (by decide), Option.bind_some]
      dsimp only
      have e : itake st ((0 : Int) - 49) = ([], st) := if_pos y1
      rw [show zP.fLength = (0 : Int) from rfl, e, gErr_eq, Option.bind_some]
      dsimp only
      rw [if_neg y1]
      rfl
    · obtain ⟨a1, a2, a3, a4, ap⟩ := Sp_pfx.spell s q p r hq p1
      obtain ⟨k1, k2, k3, k4⟩ := id ap
      have hL := wI4 k1.2.1
      try dsimp only at hL
      have hT : -9223372036854775808 ≤ p.fLength - 49 ∧ p.fLength - 49 ≤ 9223372036854775807 := by omega
      rw [g1, Option.bind_some, p1]
      dsimp only
      rw [if_pos hT, gTake_eq _ _ hT, Option.bind_some]
      dsimp only
      by_cases hl : s.length < r + (p.fLength - 49).toNat
      · have e : itake ⟨s.drop r, r, 0⟩ (p.fLength - 49) = ([], ⟨s.drop r, r, 1⟩) := by
          unfold itake
          rw [if_neg (by simp), if_neg (by omega), if_pos (by rw [List.length_drop]; omega)]
        rw [if_pos hl, e, gErr_eq, Option.bind_some]
        exact .inl ⟨1, ⟨s.drop r, r, 1⟩, rfl, rfl, rfl, by show (1 : Int) ≠ 0; decide⟩
      have e : itake ⟨s.drop r, r, 0⟩ (p.fLength - 49) = ((s.drop r).take (p.fLength - 49).toNat, ⟨s.drop (r + (p.fLength - 49).toNat), r + (p.fLength - 49).toNat, 0⟩) := by
        unfold itake
        rw [if_neg (by simp), if_neg (by omega), if_neg (by rw [List.length_drop]; omega), List.drop_drop]
      rw [if_neg hl, e, gErr_eq, Option.bind_some]
      dsimp only
      have hn : ((s.drop r).take (p.fLength - 49).toNat).length = (p.fLength - 49).toNat := by rw [List.length_take, List.length_drop]; omega
      generalize (s.drop r).take (p.fLength - 49).toNat = b at hn
      have hlen : (encP p).length = 61 := encP_len k1
      rw [if_pos rfl, write_ok [] ⟨k1, k2⟩ (by decide), Option.bind_some, List.nil_append, gOText_eq, Option.bind_some]
      dsimp only
      rw [otx_z, crc_new, Option.bind_some]
      dsimp only
      rw [if_pos (show 21 ≤ (encP p).length by omega)]
      have hp21 : (post21 p).length ≤ 61 := by rw [← encP_drop p, List.length_drop]; omega
      have hs2 : [post21 p, b].flatten = post21 p ++ b := by simp
      rw [encP_drop, crc_sum [post21 p, b] (by intro t ht; rcases List.mem_cons.1 ht with rfl | ht; omega; rw [List.mem_singleton.1 ht]; omega), Option.bind_some, hs2]
      dsimp only
      have hlt : crcM 0 (post21 p ++ b) < 4294967296 := crcM_lt (by decide) _
      rw [if_pos (show -9223372036854775808 ≤ ((crcM 0 (post21 p ++ b) : Nat) : Int) ∧ ((crcM 0 (post21 p ++ b) : Nat) : Int) ≤ 9223372036854775807 by omega)]
      by_cases hsum : ((sumP p b : Nat) : Int) = p.fSum
      rotate_left
      · rw [if_neg hsum, if_neg (show ¬ ((crcM 0 (post21 p ++ b) : Nat) : Int) = p.fSum from hsum), gIFail_eq, Option.bind_some]
        exact .inl ⟨5, _, rfl, rfl, rfl, by show (5 : Int) ≠ 0; decide⟩
      rw [if_pos hsum, if_pos (show ((crcM 0 (post21 p ++ b) : Nat) : Int) = p.fSum from hsum)]
      rcases bopen ap b (by omega) with ⟨e, x, o1, o2, o3⟩ | ⟨x, o1, o3⟩
      · rw [o1, o3, Option.bind_some]
        dsimp only
        rw [if_neg o2, gIFail_eq, Option.bind_some]
        exact .inl ⟨e, _, rfl, rfl, rfl, o2⟩
      · rw [o1, o3, Option.bind_some]
        dsimp only
        rw [if_pos rfl]
        exact .inr ⟨x, _, rfl, rfl, by omega, by omega⟩
end Go.Proofs.Ytcoppaggpbfcmaa.Sl
namespace Go.Proofs.Ytcoppaggpbfcmaa.Sl
open Go.RowKit
set_option linter.unusedVariables false
set_option linter.unusedSimpArgs false
theorem firstR_zero : ∀ {l : List Rec}, firstR l = 0 → ∀ r, r ∈ l → rightR r = 0
  | x :: l, h, r, hr => by
    rw [firstR] at h
    by_cases hx : rightR x = 0
    · rw [if_pos hx] at h
      rcases List.mem_cons.1 hr with rfl | hr
      · exact hx
      · exact firstR_zero h r hr
    · rw [if_neg hx] at h
      exact absurd h hx
theorem chk_facts {a : Bat} (h : bnB a) (h0 : chk a = 0) : numOk a ∧ prodOk a ∧ (a.fControl = true → a.fTxn = true ∧ (a.fRecords.length : Int) = 1) ∧ ∀ r, r ∈ a.fRecords → rightR r = 0 := by
  obtain ⟨cr, e0, h1, h2, h3, h4⟩ := check_same a h.1 h.2.1 h.2.2
  have e : chk a = chkB a cr e0 := by unfold chk; rw [h1]; rfl
  rw [e] at h0
  unfold chkB at h0
  by_cases hn : numOk a
  rotate_left
  · rw [if_neg hn] at h0; exact absurd h0 (by decide)
  rw [if_pos hn] at h0
  by_cases hc : a.fControl = true
  · rw [if_pos hc] at h0
    by_cases ht : a.fTxn = true
    rotate_left
    · rw [if_neg ht] at h0; exact absurd h0 (by decide)
    rw [if_pos ht] at h0
    by_cases hp : prodOk a
    rotate_left
    · rw [if_neg hp] at h0; exact absurd h0 (by decide)
    rw [if_pos hp] at h0
    by_cases hl : (a.fRecords.length : Int) = 1
    rotate_left
    · rw [if_neg hl] at h0; exact absurd h0 (by decide)
    rw [if_pos hl] at h0
    by_cases hf : firstR a.fRecords = 0
    rotate_left
    · rw [if_neg hf] at h0; exact absurd h0 hf
    exact ⟨hn, hp, fun _ => ⟨ht, hl⟩, firstR_zero hf⟩
  · rw [if_neg hc] at h0
    by_cases hp : prodOk a
    rotate_left
    · rw [if_neg hp] at h0; exact absurd h0 (by decide)
    rw [if_pos hp] at h0
    by_cases hf : firstR a.fRecords = 0
    rotate_left
    · rw [if_neg hf] at h0; exact absurd h0 hf
    exact ⟨hn, hp, fun h => absurd h hc, firstR_zero hf⟩
theorem attr_ok : ∀ a t c : Bool, (c = true → t = true) → acheck (ofBits a t c) = 0 := by decide
theorem ofBits_le : ∀ a t c : Bool, 0 ≤ ofBits a t c ∧ ofBits a t c ≤ 56 := by decide
theorem fits8 {n : Int} (h : wI n) : fits n (8 : Nat) = true := by
  show fits n 8 = true
  rw [fits_8]
  exact decide_eq_true h
theorem fits4 {n : Int} (h : -2147483648 ≤ n ∧ n ≤ 2147483647) : fits n (4 : Nat) = true := by
  show fits n 4 = true
  rw [fits_4]
  exact decide_eq_true h
theorem fits2 {n : Int} (h : -32768 ≤ n ∧ n ≤ 32767) : fits n (2 : Nat) = true := by
  show fits n 2 = true
  rw [b_fits_2]
  exact decide_eq_true h
def smB (a : Bat) : Prop := bnB a ∧ (∀ r, r ∈ a.fRecords → rwt r ≤ 900000) ∧ (body a).length ≤ 900000
theorem prod_rng {a : Bat} (h : prodOk a) : (-32768 ≤ a.fEpoch ∧ a.fEpoch ≤ 32767) ∧ (-2147483648 ≤ a.fSequence ∧ a.fSequence ≤ 2147483647) := by
  unfold prodOk at h
  split at h
  · omega
  · split at h <;> omega
theorem okP_pB {a : Bat} (hb : smB a) (h0 : chk a = 0) (s : Nat) (hs : s < 4294967296) : okP (pB a s) := by
  obtain ⟨hn, hp, hc, hr⟩ := chk_facts hb.1 h0
  obtain ⟨n1, n2, n3, n4, n5, n6⟩ := hn
  obtain ⟨w1, w2, _, _, _, w6, w7, w8, w9, w10, w11, w12⟩ := hb.1.1
  obtain ⟨p1, p2⟩ := prod_rng hp
  have hl := hb.2.2
  have hcount := hb.1.2.1
  have ha := ofBits_le a.fAppend a.fTxn a.fControl
  have hs2 : -2147483648 ≤ s32 (s : Int) ∧ s32 (s : Int) ≤ 2147483647 := by unfold s32; split <;> omega
  refine ⟨⟨fits8 w1, fits4 ⟨?_, ?_⟩, fits4 ⟨?_, ?_⟩, rfl, fits4 hs2, fits2 ⟨?_, ?_⟩, fits4 ⟨?_, ?_⟩, fits8 w7, fits8 w8, fits8 w9, fits2 p1, fits4 p2, fits4 ⟨?_, ?_⟩, trivial⟩, ⟨?_, ?_⟩, ?_, ?_⟩
  all_goals (try unfold pB) <;> (try dsimp only) <;> omega
theorem sumB_lt (a : Bat) : sumB a < 4294967296 := crcM_lt (by decide) _
theorem okB_of {a : Bat} (hb : smB a) (h0 : chk a = 0) : okB a := by
  obtain ⟨hn, hp, hc, hr⟩ := chk_facts hb.1 h0
  refine ⟨okP_pB hb h0 _ (sumB_lt a), attr_ok _ _ _ (fun h => (hc h).1), fun x hx => ?_, h0⟩
  exact okRec_of (hb.1.1.2.2.2.2.2.2.2.2.2.2.2.2 x hx).1 (hr x hx) (hb.2.1 x hx)
theorem encB_len {a : Bat} (h : okB a) : (encB a).length = 61 + (body a).length := by
  unfold encB
  rw [List.length_append, encP_len h.1.1]
theorem benc_l1 : ∀ (l : List Rec) (t : List UInt8), (∀ x, x ∈ l → wI x.fTime ∧ wI x.fOffset ∧ rwt x ≤ 900000 ∧ rightR x = 0) → t.length + (encs encRec l).length ≤ 1000000 → f_batch_Encode_l1 l (t, 0) = some (t ++ encs encRec l, 0)
  | [], t, _, _ => by rw [encs, List.append_nil]; rfl
  | x :: l, t, h, hl => by
    obtain ⟨h1, h2, h3, h4⟩ := h x (.head _)
    rw [encs, List.length_append] at hl
    rw [f_batch_Encode_l1, rec_write x t h1 h2 h3 (by omega), if_pos h4, Option.bind_some, benc_l1 l _ (fun y hy => h y (.tail _ hy)) (by rw [List.length_append]; omega), encs, List.append_assoc]
theorem benc {a : Bat} (hb : smB a) : f_batch_Encode a = some (if chk a = 0 then (encB a, 0) else ([], chk a)) := by
  unfold f_batch_Encode
  rw [(chk_eq hb.1).1, Option.bind_some]
  by_cases h0 : chk a = 0
  rotate_left
  · rw [if_neg h0, if_neg h0]
  obtain ⟨hn, hp, hc, hr⟩ := chk_facts hb.1 h0
  have hl := hb.2.2
  have hw : ∀ x, x ∈ a.fRecords → wI x.fTime ∧ wI x.fOffset ∧ rwt x ≤ 900000 ∧ rightR x = 0 := fun x hx => ⟨(hb.1.1.2.2.2.2.2.2.2.2.2.2.2.2 x hx).1, (hb.1.1.2.2.2.2.2.2.2.2.2.2.2.2 x hx).2.1, hb.2.1 x hx, hr x hx⟩
  have hlb : (encs encRec a.fRecords).length ≤ 900000 := hl
  rw [if_pos h0, if_pos h0, benc_l1 a.fRecords [] hw (by rw [List.length_nil]; omega), Option.bind_some, List.nil_append, gOText_eq, Option.bind_some]
  dsimp only
  rw [otx_z]
  dsimp only
  rw [if_pos (show -9223372036854775808 ≤ (49 + ((encs encRec a.fRecords).length : Int)) ∧ (49 + ((encs encRec a.fRecords).length : Int)) ≤ 9223372036854775807 by omega), gAOf_eq, Option.bind_some]
  have hP0 : okP (pB a 0) := okP_pB hb h0 0 (by decide)
  have e0 : f_prefix_Write ([], 0) (pB a 0) = some (encP (pB a 0), 0) := by
    have := write_ok [] (p := pB a 0) ⟨hP0.1, hP0.2.1⟩ (by decide)
    rwa [List.nil_append] at this
  have e0' : f_prefix_Write ([], 0) (⟨a.fBase, (49 + ((encs encRec a.fRecords).length : Int)), a.fLeader, 0, ofBits a.fAppend a.fTxn a.fControl, a.fLast, a.fFirst, a.fMax, a.fProducer, a.fEpoch, a.fSequence, (a.fRecords.length : Int)⟩ : Pfx) = some (encP (pB a 0), 0) := e0
  rw [e0', Option.bind_some, gOText_eq, Option.bind_some]
  dsimp only
  rw [otx_z]
  dsimp only
  rw [if_pos rfl, if_pos rfl, Option.bind_some, if_neg (by decide), crc_new, Option.bind_some]
  have hp61 := encP_len hP0.1
  have hp21 : (post21 (pB a 0)).length ≤ 61 := by rw [← encP_drop, List.length_drop]; omega
  have hs2 : [post21 (pB a 0), encs encRec a.fRecords].flatten = post21 (pB a 0) ++ encs encRec a.fRecords := by simp
  rw [if_pos (show 21 ≤ (encP (pB a 0)).length by omega), encP_drop, crc_sum [post21 (pB a 0), encs encRec a.fRecords] (by intro t ht; rcases List.mem_cons.1 ht with rfl | ht; omega; rw [List.mem_singleton.1 ht]; omega), Option.bind_some, hs2]
  dsimp only
  have hlt := sumB_lt a
  have hsum : crcM 0 (post21 (pB a 0) ++ encs encRec a.fRecords) = sumB a := rfl
  rw [hsum, if_pos (show -9223372036854775808 ≤ ((sumB a : Nat) : Int) ∧ ((sumB a : Nat) : Int) ≤ 9223372036854775807 by omega)]
  have hP := okP_pB hb h0 _ hlt
  have e1 : f_prefix_Write ([], 0) (⟨a.fBase, (49 + ((encs encRec a.fRecords).length : Int)), a.fLeader, ((sumB a : Nat) : Int), ofBits a.fAppend a.fTxn a.fControl, a.fLast, a.fFirst, a.fMax, a.fProducer, a.fEpoch, a.fSequence, (a.fRecords.length : Int)⟩ : Pfx) = some (encP (pB a (sumB a)), 0) := by
    have := write_ok [] (p := pB a (sumB a)) ⟨hP.1, hP.2.1⟩ (by decide)
    rwa [List.nil_append] at this
  have hp61' := encP_len hP.1
  rw [e1, Option.bind_some, gOPut_eq _ _ (by dsimp only; omega), oput_z, Option.bind_some, gOText_eq, Option.bind_some]
  dsimp only
  rw [otx_z]
  rfl
def sameRs : List Rec → List Rec → Bool
  | x :: l, y :: m => sameR x y && sameRs l m
  | _, _ => true
def sameB (a b : Bat) : Bool := decide (a.fBase = b.fBase ∧ a.fLeader = b.fLeader ∧ a.fAppend = b.fAppend ∧ a.fTxn = b.fTxn ∧ a.fControl = b.fControl ∧ a.fLast = b.fLast ∧ a.fFirst = b.fFirst ∧ a.fMax = b.fMax ∧ a.fProducer = b.fProducer ∧ a.fEpoch = b.fEpoch ∧ a.fSequence = b.fSequence ∧ a.fRecords.length = b.fRecords.length) && sameRs a.fRecords b.fRecords
theorem sameRs_refl : ∀ l : List Rec, sameRs l l = true
  | [] => rfl
  | x :: l => by rw [sameRs, sameR_refl, sameRs_refl l]; rfl
theorem sameB_refl (a : Bat) : sameB a a = true := by
  unfold sameB
  rw [sameRs_refl]
  simp
theorem r11s_l1 (a b : Bat) (hn : a.fRecords.length ≤ 1000000) (y : Bool) : ∀ (l m : List Rec) (k fuel : Nat), a.fRecords.drop k = l → b.fRecords.drop k = m → l.length = m.length → l.length < fuel → (∀ x, x ∈ l → x.fHeaders.length ≤ 1000000) → ∃ z, f_r11_Same_l1 a b fuel y k = some (if sameRs l m = true then .go (y, z) else .ret false)
  | [], m, k, fuel + 1, h1, h2, hl, hf, _ => by
    have := b_nil_drop h1
    exact ⟨k, by rw [f_r11_Same_l1, if_neg (by omega)]; rfl⟩
  | x :: l, v :: m, k, fuel + 1, h1, h2, hl, hf, hw => by
    obtain ⟨g1, g2, g3⟩ := b_at_drop h1
    obtain ⟨k1, k2, k3⟩ := b_at_drop h2
    rw [List.length_cons] at hf
    rw [List.length_cons, List.length_cons] at hl
    obtain ⟨z, hz⟩ := r11s_l1 a b hn y l m (k + 1) fuel g2 k2 (by omega) (by omega) (fun u hu => hw u (.tail _ hu))
    refine ⟨z, ?_⟩
    rw [f_r11_Same_l1, if_pos (by omega), g1, Option.bind_some, k1, Option.bind_some, r07_same x v (hw x (.head _)), Option.bind_some, sameRs, if_pos (show -9223372036854775808 ≤ (k : Int) + 1 ∧ (k : Int) + 1 ≤ 9223372036854775807 by omega), hz]
    cases sameR x v <;> rfl
theorem r11_same {a b : Bat} (hn : a.fRecords.length ≤ 1000000) (hw : ∀ x, x ∈ a.fRecords → x.fHeaders.length ≤ 1000000) : f_r11_Same a b = some (sameB a b) := by
  have hL : ∀ o : Option Bool, o = some (sameB a b) ∨ True := fun _ => .inr trivial
  unfold f_r11_Same sameB
  by_cases c1 : a.fBase = b.fBase
  rotate_left
  · rw [if_neg c1, Option.bind_some, if_pos rfl, decide_eq_false (fun h => c1 h.1)]; rfl
  by_cases c2 : a.fLeader = b.fLeader
  rotate_left
  · rw [if_pos c1, if_neg c2, Option.bind_some, if_pos rfl, decide_eq_false (fun h => c2 h.2.1)]; rfl
  by_cases c3 : a.fAppend = b.fAppend
  rotate_left
  · rw [if_pos c1, if_pos c2, if_neg (by simpa using c3), Option.bind_some, if_pos rfl, decide_eq_false (fun h => c3 h.2.2.1)]; rfl
  by_cases c4 : a.fTxn = b.fTxn
  rotate_left
  · rw [if_pos c1, if_pos c2, if_pos (by simpa using c3), if_neg (by simpa using c4), Option.bind_some, if_pos rfl, decide_eq_false (fun h => c4 h.2.2.2.1)]; rfl
  by_cases c5 : a.fControl = b.fControl
  rotate_left
  · rw [if_pos c1, if_pos c2, if_pos (by simpa using c3), if_pos (by simpa using c4), if_neg (by simpa using c5), Option.bind_some, if_pos rfl, decide_eq_false (fun h => c5 h.2.2.2.2.1)]; rfl
  rw [if_pos c1, if_pos c2, if_pos (by simpa using c3), if_pos (by simpa using c4), if_pos (by simpa using c5)]
  by_cases c6 : a.fLast = b.fLast
  rotate_left
  · rw [if_neg c6, Option.bind_some, if_pos rfl, decide_eq_false (fun h => c6 h.2.2.2.2.2.1)]; rfl
  by_cases c7 : a.fFirst = b.fFirst
  rotate_left
  · rw [if_pos c6, if_neg c7, Option.bind_some, if_pos rfl, decide_eq_false (fun h => c7 h.2.2.2.2.2.2.1)]; rfl
  by_cases c8 : a.fMax = b.fMax
  rotate_left
  · rw [if_pos c6, if_pos c7, if_neg c8, Option.bind_some, if_pos rfl, decide_eq_false (fun h => c8 h.2.2.2.2.2.2.2.1)]; rfl
  by_cases c9 : a.fProducer = b.fProducer
  rotate_left
  · rw [if_pos c6, if_pos c7, if_pos c8, if_neg c9, Option.bind_some, if_pos rfl, decide_eq_false (fun h => c9 h.2.2.2.2.2.2.2.2.1)]; rfl
  by_cases c10 : a.fEpoch = b.fEpoch
  rotate_left
  · rw [if_pos c6, if_pos c7, if_pos c8, if_pos c9, if_neg c10, Option.bind_some, if_pos rfl, decide_eq_false (fun h => c10 h.2.2.2.2.2.2.2.2.2.1)]; rfl
  by_cases c11 : a.fSequence = b.fSequence
  rotate_left
  · rw [if_pos c6, if_pos c7, if_pos c8, if_pos c9, if_pos c10, if_neg c11, Option.bind_some, if_pos rfl, decide_eq_false (fun h => c11 h.2.2.2.2.2.2.2.2.2.2.1)]; rfl
  by_cases c12 : a.fRecords.length = b.fRecords.length
  rotate_left
  · rw [if_pos c6, if_pos c7, if_pos c8, if_pos c9, if_pos c10, if_pos c11, if_neg (by omega), Option.bind_some, if_pos rfl, decide_eq_false (fun h => c12 h.2.2.2.2.2.2.2.2.2.2.2)]; rfl
  obtain ⟨z, hz⟩ := r11s_l1 a b hn false a.fRecords b.fRecords 0 (((a.fRecords.length : Int)).toNat + 1) rfl rfl c12 (by omega) hw
  rw [if_pos c6, if_pos c7, if_pos c8, if_pos c9, if_pos c10, if_pos c11, if_pos (by omega), Option.bind_some, if_neg (by decide), hz, decide_eq_true ⟨c1, c2, c3, c4, c5, c6, c7, c8, c9, c10, c11, c12⟩, Bool.true_and]
  cases sameRs a.fRecords b.fRecords <;> rfl
theorem bsame_l1 (b : Bat) (y : Bool) : ∀ (l m : List Rec) (k : Nat), b.fRecords.drop k = m → l.length = m.length → f_batch_Same_l1 b l y k = some (if sameRs l m = true then .go y else .ret false)
  | [], m, k, h, hl => rfl
  | x :: l, v :: m, k, h, hl => by
    obtain ⟨k1, k2, k3⟩ := b_at_drop h
    rw [List.length_cons, List.length_cons] at hl
    rw [f_batch_Same_l1, k1, Option.bind_some, record_same x v, Option.bind_some, sameRs, bsame_l1 b y l m (k + 1) k2 (by omega)]
    cases sameR x v <;> rfl
theorem batch_same_eq (a b : Bat) : f_batch_Same a b = some (sameB a b) := by
  unfold f_batch_Same f_batch_same f_batch_same1 sameB
  rw [Option.bind_some, Option.bind_some]
  dsimp only
  by_cases c1 : a.fBase = b.fBase
  rotate_left
  · rw [if_neg c1, Option.bind_some, if_neg (by decide), Option.bind_some, if_pos rfl, decide_eq_false (fun h => c1 h.1)]; rfl
  by_cases c2 : a.fLeader = b.fLeader
  rotate_left
  · rw [if_pos c1, if_neg c2, Option.bind_some, if_neg (by decide), Option.bind_some, if_pos rfl, decide_eq_false (fun h => c2 h.2.1)]; rfl
  by_cases c6 : a.fLast = b.fLast
  rotate_left
  · rw [if_pos c1, if_pos c2, if_neg c6, Option.bind_some, if_neg (by decide), Option.bind_some, if_pos rfl, decide_eq_false (fun h => c6 h.2.2.2.2.2.1)]; rfl
  by_cases c7 : a.fFirst = b.fFirst
  rotate_left
  · rw [if_pos c1, if_pos c2, if_pos c6, if_neg c7, Option.bind_some, if_neg (by decide), Option.bind_some, if_pos rfl, decide_eq_false (fun h => c7 h.2.2.2.2.2.2.1)]; rfl
  by_cases c8 : a.fMax = b.fMax
  rotate_left
  · rw [if_pos c1, if_pos c2, if_pos c6, if_pos c7, if_neg c8, Option.bind_some, if_neg (by decide), Option.bind_some, if_pos rfl, decide_eq_false (fun h => c8 h.2.2.2.2.2.2.2.1)]; rfl
  by_cases c9 : a.fProducer = b.fProducer
  rotate_left
  · rw [if_pos c1, if_pos c2, if_pos c6, if_pos c7, if_pos c8, if_neg c9, Option.bind_some, if_neg (by decide), Option.bind_some, if_pos rfl, decide_eq_false (fun h => c9 h.2.2.2.2.2.2.2.2.1)]; rfl
  rw [if_pos c1, if_pos c2, if_pos c6, if_pos c7, if_pos c8, if_pos c9]
  by_cases c10 : a.fEpoch = b.fEpoch
  rotate_left
  · rw [if_neg c10, Option.bind_some, if_neg (by decide), Option.bind_some, if_pos rfl, decide_eq_false (fun h => c10 h.2.2.2.2.2.2.2.2.2.1)]; rfl
  by_cases c11 : a.fSequence = b.fSequence
  rotate_left
  · rw [if_pos c10, if_neg c11, Option.bind_some, if_neg (by decide), Option.bind_some, if_pos rfl, decide_eq_false (fun h => c11 h.2.2.2.2.2.2.2.2.2.2.1)]; rfl
  by_cases c3 : a.fAppend = b.fAppend
  rotate_left
  · rw [if_pos c10, if_pos c11, if_neg c3, Option.bind_some, if_neg (by decide), Option.bind_some, if_pos rfl, decide_eq_false (fun h => c3 h.2.2.1)]; rfl
  by_cases c4 : a.fTxn = b.fTxn
  rotate_left
  · rw [if_pos c10, if_pos c11, if_pos c3, if_neg c4, Option.bind_some, if_neg (by decide), Option.bind_some, if_pos rfl, decide_eq_false (fun h => c4 h.2.2.2.1)]; rfl
  by_cases c5 : a.fControl = b.fControl
  rotate_left
  · rw [if_pos c10, if_pos c11, if_pos c3, if_pos c4, if_neg c5, Option.bind_some, if_neg (by decide), Option.bind_some, if_pos rfl, decide_eq_false (fun h => c5 h.2.2.2.2.1)]; rfl
  rw [if_pos c10, if_pos c11, if_pos c3, if_pos c4, if_pos c5, Option.bind_some, if_pos rfl]
  by_cases c12 : a.fRecords.length = b.fRecords.length
  rotate_left
  · rw [if_neg (by omega), Option.bind_some, if_pos rfl, decide_eq_false (fun h => c12 h.2.2.2.2.2.2.2.2.2.2.2)]; rfl
  rw [if_pos (by omega), Option.bind_some, if_neg (by decide), bsame_l1 b false a.fRecords b.fRecords 0 rfl c12, decide_eq_true ⟨c1, c2, c3, c4, c5, c6, c7, c8, c9, c10, c11, c12⟩, Bool.true_and]
  cases sameRs a.fRecords b.fRecords <;> rfl
end Go.Proofs.Ytcoppaggpbfcmaa.Sl
namespace Go.Proofs.Ytcoppaggpbfcmaa.Sl
open Go.RowKit
set_option linter.unusedVariables false
set_option linter.unusedSimpArgs false
set_option maxRecDepth 100000
def ft_cursitorlaw11 : FTab := [(25, 3, 3), (25, 4, 4), (25, 8, 8), (25, 11, 11), (30, 0, 0), (30, 1, 1), (33, 2, 2), (33, 3, 4), (33, 4, 6), (81, 0, 0), (81, 1, 1)]
theorem ft_cursitorlaw11_ok : (ft_cursitorlaw11).OK Try.prog := ⟨FOK.mk Try.runUnderlying25 rfl Try.sizeOf4 rfl, FOK.mk Try.runUnderlying25 rfl Try.sizeOf4 rfl, FOK.mk Try.runUnderlying25 rfl Try.sizeOf3 rfl, FOK.mk Try.runUnderlying25 rfl Try.sizeOf23 rfl, FOK.mk Try.runUnderlying30 rfl Try.sizeOf4 rfl, FOK.mk Try.runUnderlying30 rfl Try.sizeOf9 rfl, FOK.mk Try.runUnderlying33 rfl Try.sizeOf30 rfl, FOK.mk Try.runUnderlying33 rfl Try.sizeOf30 rfl, FOK.mk Try.runUnderlying33 rfl Try.sizeOf31 rfl, FOK.mk Try.runUnderlying81 rfl Try.sizeOf9 rfl, FOK.mk Try.runUnderlying81 rfl Try.sizeOf30 rfl, trivial⟩
theorem mix_cursitorlaw11 : Try.prog.follows .mixedOrders = true := by kernel_rfl
theorem bok_cursitorlaw11_25 : BOK Try.prog 25 #[.int .i64 0, .int .i64 0, .bool false, .bool false, .bool false, .int .i64 0, .int .i64 0, .int .i64 0, .int .i64 0, .int .i64 0, .int .i64 0, .slice none 0 0] [(0, 1), (1, 1), (2, 1), (3, 1), (4, 1), (5, 1), (6, 1), (7, 1), (8, 1), (9, 1), (10, 1), (11, 1)] := BOK.mk Try.zeroValue25 Try.runUnderlying25 (by intro w; simp)
def f_l11_speaks  : Option (Bool) := (f_batch_Encode (⟨0, 0, false, false, false, 0, 0, 0, -1, -1, -1, []⟩ : Bat)).bind fun (x1, x2) => (f_batch_Decode x1).bind fun (x4, x7) => if x1.length + [120].length ≤ 9223372036854775807 then ((f_batch_Decode (x1 ++ [120])).bind fun (x11, x14) => (f_batch_Encode (⟨0, 0, false, false, true, 0, 0, 0, 0, 0, 0, []⟩ : Bat)).bind fun (x17, x18) => (if x2 = 0 then (if (x1.length : Int) = 61 then (if x7 = 0 then (if x4.fProducer = (-1) then (if x14 = 2 then (if x18 = 8 then some true else some false) else some false) else some false) else some false) else some false) else some false).bind fun y25 => some y25) else none
set_option maxRecDepth 100000 in
set_option maxHeartbeats 4000000 in
theorem f_l11_speaks_spec  (r : Bool) (h : f_l11_speaks  = some r) : SpecX Try.prog 10 #[] .triv (EmpR) (fun v A' N => v = .bool r ∧ A' = EmpR ∧ N = []) := by
  refine enterA Try.func10 rfl Try.ntmps10 rfl ?_
  intro F w hX
  unfold f_l11_speaks at h
  refine T.seq (T.region rfl ?_)
  refine TL.run ft_cursitorlaw11_ok [0] rfl rfl ?_
  refine TL.nil (X.seq (T.seq (T.region rfl ?_)))
  refine TL.q rfl .u (Ex.bld (cells := #[.int .i64 0, .int .i64 0, .bool false, .bool false, .bool false, .int .i64 0, .int .i64 0, .int .i64 0, .int .i64 (-1), .int .i64 (-1), .int .i64 (-1), .slice none 0 0]) bok_cursitorlaw11_25 rfl (by kernel_rfl)) rfl ?_
  obtain ⟨⟨x1, x2⟩, hx3, h⟩ := Option.bind_eq_some_iff.1 h
  try dsimp only at h
  refine TL.ce rfl .u (.fn Try.call14 rfl) (f_batch_Encode_spec (⟨0, 0, false, false, false, 0, 0, 0, -1, -1, -1, []⟩ : Bat) _ _ _ hx3) (fun _ hs => slice_nil_reads) rfl ?_
  refine TL.run ft_cursitorlaw11_ok [2, 3, 4, 5, 6] rfl rfl ?_
  refine TL.nil (X.seq (T.seq (T.region rfl ?_)))
  obtain ⟨⟨x4, x7⟩, hx8, h⟩ := Option.bind_eq_some_iff.1 h
  try dsimp only at h
  refine TL.run ft_cursitorlaw11_ok [0] rfl rfl ?_
  refine TL.cge rfl .u (.fn Try.call11 rfl) (f_batch_Decode_spec x1 _ hx8) (fun _ hs => (RX.reads_triv _ _)) rfl ?_
  rintro _ _ _ ⟨A5, c6, rfl, rfl, rfl⟩
  refine TL.sel [0, 0] rfl ?_
  refine TL.run ft_cursitorlaw11_ok [2, 3, 4] rfl rfl ?_
  refine TL.alloc rfl .u Try.zeroValue25 rfl (fun b9 => ?_)
  refine TL.st0 (cs' := #[.int .i64 x4.fBase, .int .i64 x4.fLeader, .bool x4.fAppend, .bool x4.fTxn, .bool x4.fControl, .int .i64 x4.fLast, .int .i64 x4.fFirst, .int .i64 x4.fMax, .int .i64 x4.fProducer, .int .i64 x4.fEpoch, .int .i64 x4.fSequence, .slice A5 x4.fRecords.length c6]) rfl .u rfl rfl Try.sizeOf25 rfl rfl rfl rfl ?_
  refine TL.run ft_cursitorlaw11_ok [7] rfl rfl ?_
  refine TL.nil (X.seq (T.seq (T.region rfl ?_)))
  replace h := guard_some h
  obtain ⟨c10, h⟩ := h
  refine TL.run ft_cursitorlaw11_ok [0] rfl rfl ?_
  refine TL.q rfl .u (Ex.sAdd rfl (m := [120]) rfl c10) rfl ?_
  obtain ⟨⟨x11, x14⟩, hx15, h⟩ := Option.bind_eq_some_iff.1 h
  try dsimp only at h
  refine TL.cge rfl .u (.fn Try.call11 rfl) (f_batch_Decode_spec (x1 ++ [120]) _ hx15) (fun _ hs => (RX.reads_triv _ _)) rfl ?_
  rintro _ _ _ ⟨A12, c13, rfl, rfl, rfl⟩
  refine TL.sel [0, 0, 0, 0] rfl ?_
  refine TL.run ft_cursitorlaw11_ok [3, 4, 5] rfl rfl ?_
  refine TL.alloc rfl .u Try.zeroValue25 rfl (fun b16 => ?_)
  refine TL.st0 (cs' := #[.int .i64 x11.fBase, .int .i64 x11.fLeader, .bool x11.fAppend, .bool x11.fTxn, .bool x11.fControl, .int .i64 x11.fLast, .int .i64 x11.fFirst, .int .i64 x11.fMax, .int .i64 x11.fProducer, .int .i64 x11.fEpoch, .int .i64 x11.fSequence, .slice A12 x11.fRecords.length c13]) rfl .u rfl rfl Try.sizeOf25 rfl rfl rfl rfl ?_
  refine TL.run ft_cursitorlaw11_ok [8] rfl rfl ?_
  refine TL.nil (X.seq (T.seq (T.region rfl ?_)))
  refine TL.q rfl .u (Ex.bld (cells := #[.int .i64 0, .int .i64 0, .bool false, .bool false, .bool true, .int .i64 0, .int .i64 0, .int .i64 0, .int .i64 0, .int .i64 0, .int .i64 0, .slice none 0 0]) bok_cursitorlaw11_25 rfl (by kernel_rfl)) rfl ?_
  obtain ⟨⟨x17, x18⟩, hx19, h⟩ := Option.bind_eq_some_iff.1 h
  try dsimp only at h
  refine TL.ce rfl .u (.fn Try.call14 rfl) (f_batch_Encode_spec (⟨0, 0, false, false, true, 0, 0, 0, 0, 0, 0, []⟩ : Bat) _ _ _ hx19) (fun _ hs => slice_nil_reads) rfl ?_
  refine TL.run ft_cursitorlaw11_ok [2, 3, 4, 5, 6] rfl rfl ?_
  refine TL.nil (X.seq (T.seq ?_))
  obtain ⟨y25, h, hk26⟩ := Option.bind_eq_some_iff.1 h
  refine T.jq (fun e Rs => e = [(0, .bool y25)] ∧ Rs = [BlkR b16 25 #[.int .i64 x11.fBase, .int .i64 x11.fLeader, .bool x11.fAppend, .bool x11.fTxn, .bool x11.fControl, .int .i64 x11.fLast, .int .i64 x11.fFirst, .int .i64 x11.fMax, .int .i64 x11.fProducer, .int .i64 x11.fEpoch, .int .i64 x11.fSequence, .slice A12 x11.fRecords.length c13], RdR (sliceRd 7 Rec_rd) [.slice A12 x11.fRecords.length c13] x11.fRecords, BlkR b9 25 #[.int .i64 x4.fBase, .int .i64 x4.fLeader, .bool x4.fAppend, .bool x4.fTxn, .bool x4.fControl, .int .i64 x4.fLast, .int .i64 x4.fFirst, .int .i64 x4.fMax, .int .i64 x4.fProducer, .int .i64 x4.fEpoch, .int .i64 x4.fSequence, .slice A5 x4.fRecords.length c6], RdR (sliceRd 7 Rec_rd) [.slice A5 x4.fRecords.length c6] x4.fRecords, EmpR]) ?_ ?_
  · clear hk26
    refine T.region rfl ?_
    by_cases c27 : x2 = 0
    · replace h := ifT c27 h
      refine TL.run ft_cursitorlaw11_ok [0, 1, 2] rfl rfl ?_
      refine TL.q rfl (.g rfl rfl (decide_eq_true c27)) (Ex.ft ft_cursitorlaw11_ok rfl) rfl ?_
      refine TL.q rfl (.g rfl rfl (decide_eq_true c27)) (Ex.lenB rfl Try.runUnderlying9) rfl ?_
      refine TL.q rfl (.g rfl rfl (decide_eq_true c27)) (Ex.ft ft_cursitorlaw11_ok rfl) rfl ?_
      refine TL.q rfl .u (Ex.py rfl (decide_eq_true c27) rfl) rfl ?_
      by_cases c28 : (x1.length : Int) = 61
      · replace h := ifT c28 h
        refine TL.run ft_cursitorlaw11_ok [7] rfl rfl ?_
        refine TL.q rfl (.g rfl rfl (decide_eq_true c28)) (Ex.ft ft_cursitorlaw11_ok rfl) rfl ?_
        refine TL.q rfl (.g rfl rfl (decide_eq_true c28)) (Ex.ft ft_cursitorlaw11_ok rfl) rfl ?_
        refine TL.q rfl .u (Ex.py rfl (decide_eq_true c28) rfl) rfl ?_
        by_cases c29 : x7 = 0
        · replace h := ifT c29 h
          refine TL.run ft_cursitorlaw11_ok [11] rfl rfl ?_
          refine TL.q rfl (.g rfl rfl (decide_eq_true c29)) (Ex.ft ft_cursitorlaw11_ok rfl) rfl ?_
          refine TL.q rfl (.g rfl rfl (decide_eq_true c29)) (Ex.b1 2 rfl Try.isAgg3 rfl rfl) rfl ?_
          refine TL.q rfl (.g rfl rfl (decide_eq_true c29)) (Ex.ft ft_cursitorlaw11_ok rfl) rfl ?_
          refine TL.q rfl .u (Ex.py rfl (decide_eq_true c29) rfl) rfl ?_
          by_cases c30 : x4.fProducer = (-1)
          · replace h := ifT c30 h
            refine TL.run ft_cursitorlaw11_ok [16] rfl rfl ?_
            refine TL.q rfl (.g rfl rfl (decide_eq_true c30)) (Ex.ft ft_cursitorlaw11_ok rfl) rfl ?_
            refine TL.q rfl (.g rfl rfl (decide_eq_true c30)) (Ex.ft ft_cursitorlaw11_ok rfl) rfl ?_
            refine TL.q rfl .u (Ex.py rfl (decide_eq_true c30) rfl) rfl ?_
            by_cases c31 : x14 = 2
            · replace h := ifT c31 h
              refine TL.run ft_cursitorlaw11_ok [20] rfl rfl ?_
              refine TL.q rfl (.g rfl rfl (decide_eq_true c31)) (Ex.ft ft_cursitorlaw11_ok rfl) rfl ?_
              refine TL.q rfl (.g rfl rfl (decide_eq_true c31)) (Ex.ft ft_cursitorlaw11_ok rfl) rfl ?_
              refine TL.q rfl .u (Ex.py rfl (decide_eq_true c31) rfl) rfl ?_
              refine TL.run ft_cursitorlaw11_ok [24] rfl rfl ?_
              by_cases c32 : x18 = 8
              · replace h := ifT c32 h
                cases h
                exact TL.nil (X.as (d := 0) (v' := .bool true) rfl (congrArg Value.bool (decide_eq_true c32)) (X.jq [0, 0, 0, 0, 0] ⟨rfl, rfl⟩ (by rfl) (by rfl)))
              · replace h := ifF c32 h
                cases h
                exact TL.nil (X.as (d := 0) (v' := .bool false) rfl (congrArg Value.bool (decide_eq_false c32)) (X.jq [0, 0, 0, 0, 0] ⟨rfl, rfl⟩ (by rfl) (by rfl)))
            · replace h := ifF c31 h
              refine TL.run ft_cursitorlaw11_ok [20] rfl rfl ?_
              refine TL.no rfl (.gn rfl rfl (decide_eq_false c31)) rfl ?_
              refine TL.no rfl (.gn rfl rfl (decide_eq_false c31)) rfl ?_
              refine TL.q rfl .u (Ex.pn rfl (decide_eq_false c31) rfl) rfl ?_
              refine TL.run ft_cursitorlaw11_ok [24] rfl rfl ?_
              cases h
              exact TL.nil (X.jq [0, 0, 0, 0, 0] ⟨rfl, rfl⟩ (by rfl) (by rfl))
          · replace h := ifF c30 h
            refine TL.run ft_cursitorlaw11_ok [16] rfl rfl ?_
            refine TL.no rfl (.gn rfl rfl (decide_eq_false c30)) rfl ?_
            refine TL.no rfl (.gn rfl rfl (decide_eq_false c30)) rfl ?_
            refine TL.q rfl .u (Ex.pn rfl (decide_eq_false c30) rfl) rfl ?_
            refine TL.run ft_cursitorlaw11_ok [20] rfl rfl ?_
            refine TL.no rfl (.gn rfl rfl rfl) rfl ?_
            refine TL.no rfl (.gn rfl rfl rfl) rfl ?_
            refine TL.q rfl .u (Ex.pn rfl rfl rfl) rfl ?_
            refine TL.run ft_cursitorlaw11_ok [24] rfl rfl ?_
            cases h
            exact TL.nil (X.jq [0, 0, 0, 0, 0] ⟨rfl, rfl⟩ (by rfl) (by rfl))
        · replace h := ifF c29 h
          refine TL.run ft_cursitorlaw11_ok [11] rfl rfl ?_
          refine TL.no rfl (.gn rfl rfl (decide_eq_false c29)) rfl ?_
          refine TL.no rfl (.gn rfl rfl (decide_eq_false c29)) rfl ?_
          refine TL.no rfl (.gn rfl rfl (decide_eq_false c29)) rfl ?_
          refine TL.q rfl .u (Ex.pn rfl (decide_eq_false c29) rfl) rfl ?_
          refine TL.run ft_cursitorlaw11_ok [16] rfl rfl ?_
          refine TL.no rfl (.gn rfl rfl rfl) rfl ?_
          refine TL.no rfl (.gn rfl rfl rfl) rfl ?_
          refine TL.q rfl .u (Ex.pn rfl rfl rfl) rfl ?_
          refine TL.run ft_cursitorlaw11_ok [20] rfl rfl ?_
          refine TL.no rfl (.gn rfl rfl rfl) rfl ?_
          refine TL.no rfl (.gn rfl rfl rfl) rfl ?_
          refine TL.q rfl .u (Ex.pn rfl rfl rfl) rfl ?_
          refine TL.run ft_cursitorlaw11_ok [24] rfl rfl ?_
          cases h
          exact TL.nil (X.jq [0, 0, 0, 0, 0] ⟨rfl, rfl⟩ (by rfl) (by rfl))
      · replace h := ifF c28 h
        refine TL.run ft_cursitorlaw11_ok [7] rfl rfl ?_
        refine TL.no rfl (.gn rfl rfl (decide_eq_false c28)) rfl ?_
        refine TL.no rfl (.gn rfl rfl (decide_eq_false c28)) rfl ?_
        refine TL.q rfl .u (Ex.pn rfl (decide_eq_false c28) rfl) rfl ?_
        refine TL.run ft_cursitorlaw11_ok [11] rfl rfl ?_
        refine TL.no rfl (.gn rfl rfl rfl) rfl ?_
        refine TL.no rfl (.gn rfl rfl rfl) rfl ?_
        refine TL.no rfl (.gn rfl rfl rfl) rfl ?_
        refine TL.q rfl .u (Ex.pn rfl rfl rfl) rfl ?_
        refine TL.run ft_cursitorlaw11_ok [16] rfl rfl ?_
        refine TL.no rfl (.gn rfl rfl rfl) rfl ?_
        refine TL.no rfl (.gn rfl rfl rfl) rfl ?_
        refine TL.q rfl .u (Ex.pn rfl rfl rfl) rfl ?_
        refine TL.run ft_cursitorlaw11_ok [20] rfl rfl ?_
        refine TL.no rfl (.gn rfl rfl rfl) rfl ?_
        refine TL.no rfl (.gn rfl rfl rfl) rfl ?_
        refine TL.q rfl .u (Ex.pn rfl rfl rfl) rfl ?_
        refine TL.run ft_cursitorlaw11_ok [24] rfl rfl ?_
        cases h
        exact TL.nil (X.jq [0, 0, 0, 0, 0] ⟨rfl, rfl⟩ (by rfl) (by rfl))
    · replace h := ifF c27 h
      refine TL.run ft_cursitorlaw11_ok [0, 1, 2] rfl rfl ?_
      refine TL.no rfl (.gn rfl rfl (decide_eq_false c27)) rfl ?_
      refine TL.no rfl (.gn rfl rfl (decide_eq_false c27)) rfl ?_
      refine TL.no rfl (.gn rfl rfl (decide_eq_false c27)) rfl ?_
      refine TL.q rfl .u (Ex.pn rfl (decide_eq_false c27) rfl) rfl ?_
      refine TL.run ft_cursitorlaw11_ok [7] rfl rfl ?_
      refine TL.no rfl (.gn rfl rfl rfl) rfl ?_
      refine TL.no rfl (.gn rfl rfl rfl) rfl ?_
      refine TL.q rfl .u (Ex.pn rfl rfl rfl) rfl ?_
      refine TL.run ft_cursitorlaw11_ok [11] rfl rfl ?_
      refine TL.no rfl (.gn rfl rfl rfl) rfl ?_
      refine TL.no rfl (.gn rfl rfl rfl) rfl ?_
      refine TL.no rfl (.gn rfl rfl rfl) rfl ?_
      refine TL.q rfl .u (Ex.pn rfl rfl rfl) rfl ?_
      refine TL.run ft_cursitorlaw11_ok [16] rfl rfl ?_
      refine TL.no rfl (.gn rfl rfl rfl) rfl ?_
      refine TL.no rfl (.gn rfl rfl rfl) rfl ?_
      refine TL.q rfl .u (Ex.pn rfl rfl rfl) rfl ?_
      refine TL.run ft_cursitorlaw11_ok [20] rfl rfl ?_
      refine TL.no rfl (.gn rfl rfl rfl) rfl ?_
      refine TL.no rfl (.gn rfl rfl rfl) rfl ?_
      refine TL.q rfl .u (Ex.pn rfl rfl rfl) rfl ?_
      refine TL.run ft_cursitorlaw11_ok [24] rfl rfl ?_
      cases h
      exact TL.nil (X.jq [0, 0, 0, 0, 0] ⟨rfl, rfl⟩ (by rfl) (by rfl))
  · rintro _ _ ⟨rfl, rfl⟩
    clear h
    have h := hk26
    clear hk26
    try dsimp only at h
    obtain rfl := Option.some.inj h
    exact X.seq (T.ret (X.done1 [4] Try.results10 (RV.tm rfl) ⟨rfl, rfl, rfl⟩ (by rfl) (.inl rfl)))
def f_l11_Small_l2 : List Hd → Int → Option (Lp Int Int)
  | [], y22 => some (Lp.go y22)
  | x28 :: xs, y22 => if -9223372036854775808 ≤ ((x28.fKey.length : Int) + (x28.fValue.data.length : Int)) ∧ ((x28.fKey.length : Int) + (x28.fValue.data.length : Int)) ≤ 9223372036854775807 then (if ((x28.fKey.length : Int) + (x28.fValue.data.length : Int)) > 100 then some (Lp.ret 0) else (f_l11_Small_l2 xs y22)) else none
def f_l11_Small_l1 : List Rec → Int → Option (Lp Int Int)
  | [], y5 => some (Lp.go y5)
  | x11 :: xs, y5 => if -9223372036854775808 ≤ ((x11.fKey.data.length : Int) + (x11.fValue.data.length : Int)) ∧ ((x11.fKey.data.length : Int) + (x11.fValue.data.length : Int)) ≤ 9223372036854775807 then (if ((x11.fKey.data.length : Int) + (x11.fValue.data.length : Int)) > 100 then some (Lp.ret 0) else (if (x11.fHeaders.length : Int) > 6 then some (Lp.ret 0) else ((f_l11_Small_l2 x11.fHeaders y5).bind fun e => match e with | .ret r => some (Lp.ret r) | .go y35 => (f_l11_Small_l1 xs y35)))) else none
theorem f_l11_Small_l1_z (y5 : Int) : f_l11_Small_l1 [] y5 = (some (Lp.go y5)) := rfl
theorem f_l11_Small_l1_s (x11 : Rec) (xs : List Rec) (y5 : Int) : f_l11_Small_l1 (x11 :: xs) y5 = (if -9223372036854775808 ≤ ((x11.fKey.data.length : Int) + (x11.fValue.data.length : Int)) ∧ ((x11.fKey.data.length : Int) + (x11.fValue.data.length : Int)) ≤ 9223372036854775807 then (if ((x11.fKey.data.length : Int) + (x11.fValue.data.length : Int)) > 100 then some (Lp.ret 0) else (if (x11.fHeaders.length : Int) > 6 then some (Lp.ret 0) else ((f_l11_Small_l2 x11.fHeaders y5).bind fun e => match e with | .ret r => some (Lp.ret r) | .go y35 => (f_l11_Small_l1 xs y35)))) else none) := rfl
def f_l11_Small (a0 : Bat) : Option (Int) := if (a0.fRecords.length : Int) > 12 then some 0 else ((f_l11_Small_l1 a0.fRecords 0).bind fun e => match e with | .ret r => some r | .go y37 => some 1)
set_option maxRecDepth 100000 in
set_option maxHeartbeats 4000000 in
theorem f_l11_Small_spec (a0 : Bat) (A1 : Option Addr) (c2 : Nat) (r : Int) (h : f_l11_Small a0 = some r) : SpecX Try.prog 12 #[.agg #[.int .i64 a0.fBase, .int .i64 a0.fLeader, .bool a0.fAppend, .bool a0.fTxn, .bool a0.fControl, .int .i64 a0.fLast, .int .i64 a0.fFirst, .int .i64 a0.fMax, .int .i64 a0.fProducer, .int .i64 a0.fEpoch, .int .i64 a0.fSequence, .slice A1 a0.fRecords.length c2]] (RX.of (sliceRd 7 Rec_rd) [.slice A1 a0.fRecords.length c2] a0.fRecords) (EmpR) (fun v A' N => v = .int .i64 r ∧ A' = EmpR ∧ N = []) := by
  refine enterA Try.func12 rfl Try.ntmps12 rfl ?_
  intro F w hX
  unfold f_l11_Small at h
  refine T.seq (T.region rfl ?_)
  refine TL.box rfl .u rfl rfl (fun b3 => ?_)
  refine TL.run ft_cursitorlaw11_ok [1] rfl rfl ?_
  refine TL.nil (X.seq (T.seq (T.seq (T.region rfl ?_))))
  refine TL.run ft_cursitorlaw11_ok [0] rfl rfl ?_
  refine TL.q rfl .u (Ex.b1 0 rfl Try.isAgg23 rfl rfl) rfl ?_
  refine TL.q rfl .u (Ex.lenS rfl Try.runUnderlying23) rfl ?_
  refine TL.run ft_cursitorlaw11_ok [3] rfl rfl ?_
  by_cases c4 : (a0.fRecords.length : Int) > 12
  · replace h := ifT c4 h
    refine TL.nil (X.seq ?_)
    refine T.yes rfl (decide_eq_true c4) ?_
    refine T.seq (T.region rfl ?_)
    refine TL.run ft_cursitorlaw11_ok [0] rfl rfl ?_
    obtain rfl := Option.some.inj h
    exact TL.nil (X.seq (T.ret (X.rs (X.done1 [1] Try.results12 (RV.tm rfl) ⟨rfl, rfl, rfl⟩ (by rfl) (.inl rfl)))))
  · replace h := ifF c4 h
    refine TL.nil (X.seq ?_)
    refine T.no rfl (decide_eq_false c4) ?_
    refine T.skip (X.seq (T.seq (T.seq (T.region rfl ?_))))
    refine TL.run ft_cursitorlaw11_ok [0] rfl rfl ?_
    refine TL.q rfl .u (Ex.b1 0 rfl Try.isAgg23 rfl rfl) rfl ?_
    refine TL.q rfl .u (Ex.lenS rfl Try.runUnderlying23) rfl ?_
    refine TL.run ft_cursitorlaw11_ok [3] rfl rfl ?_
    refine TL.nil (X.seq (T.block ?_))
    obtain ⟨E7, hE8, hO9⟩ := Option.bind_eq_some_iff.1 h
    have hk13len := RX.len_le hX
    refine T.lp (fun m e Rs => ∃ (y5 : Int) (k6 : Nat), k6 + m = a0.fRecords.length ∧ e = [(2, .int .i64 y5), (12, .slice A1 a0.fRecords.length c2), (13, .int .i64 (a0.fRecords.length : Int)), (14, .int .i64 (k6 : Int))] ∧ Rs = [BlkR b3 25 #[.int .i64 a0.fBase, .int .i64 a0.fLeader, .bool a0.fAppend, .bool a0.fTxn, .bool a0.fControl, .int .i64 a0.fLast, .int .i64 a0.fFirst, .int .i64 a0.fMax, .int .i64 a0.fProducer, .int .i64 a0.fEpoch, .int .i64 a0.fSequence, .slice A1 a0.fRecords.length c2], EmpR] ∧ f_l11_Small_l1 (a0.fRecords.drop k6) y5 = some E7) (a0.fRecords.length) [0, 0] ⟨0, 0, by simp, rfl, rfl, by rw [List.drop_zero]; exact hE8⟩ (by rfl) (by rfl) ?_
    rintro m10 _ _ ⟨y5, k6, hk13, rfl, rfl, hl12⟩
    clear hE8 h
    cases m10 with
    | zero =>
      have h := hl12
      clear hl12
      rw [List.drop_of_length_le (by omega), f_l11_Small_l1_z] at h
      have hk13ge : ¬ ((k6 : Int) < (a0.fRecords.length : Int)) := by omega
      refine T.seq (T.region rfl ?_)
      refine TL.run ft_cursitorlaw11_ok [0] rfl rfl ?_
      refine TL.nil (X.seq (T.seq ?_))
      refine T.no rfl (decide_eq_false hk13ge) ?_
      obtain rfl := Option.some.inj h
      replace h := hO9
      clear hO9
      try dsimp only at h
      refine T.exit (X.exs (X.exs (X.ex (X.seq (T.seq (T.region rfl ?_))))))
      refine TL.run ft_cursitorlaw11_ok [0] rfl rfl ?_
      obtain rfl := Option.some.inj h
      exact TL.nil (X.seq (T.ret (X.done1 [1] Try.results12 (RV.tm rfl) ⟨rfl, rfl, rfl⟩ (by rfl) (.inl rfl))))
    | succ m10 =>
      have h := hl12
      clear hl12
      obtain ⟨x11, hxx11⟩ : ∃ x, a0.fRecords[k6]? = some x := ⟨_, List.getElem?_eq_getElem (by omega)⟩
      rw [drop_cons hxx11, f_l11_Small_l1_s] at h
      have hk13lt : (k6 : Int) < (a0.fRecords.length : Int) := by omega
      refine T.seq (T.region rfl ?_)
      refine TL.run ft_cursitorlaw11_ok [0] rfl rfl ?_
      refine TL.nil (X.seq (T.seq ?_))
      refine T.yes rfl (decide_eq_true hk13lt) ?_
      obtain ⟨gz14, oz14, rfl, z14cs, z14cl, z14cc, z14nf, z14r⟩ := RX.elem (by decide) hX hxx11
      obtain ⟨z14S, z14r, z14rr⟩ := z14r
      obtain ⟨A15, c16, rfl, z14s0⟩ := z14r
      have hX17 : (RX.of (sliceRd 3 Hd_rd) [.slice A15 x11.fHeaders.length c16] x11.fHeaders).reads w F := ⟨z14S, z14s0, z14rr⟩
      refine T.skip (X.seq (T.seq (T.block (T.seq (T.region rfl ?_)))))
      refine TL.q rfl .u (Ex.ixS (k := k6) rfl rfl rfl Try.runUnderlying23 Try.sizeOf33 (List.getElem?_eq_some_iff.1 hxx11).1) rfl ?_
      refine TL.q rfl .u (Ex.oS (us := [.int .i64 x11.fTime, .int .i64 x11.fOffset, .bool x11.fKey.null, .string (bsOf x11.fKey.data), .bool x11.fValue.null, .string (bsOf x11.fValue.data), .slice A15 x11.fHeaders.length c16]) 0 rfl Try.isAgg33 Try.sizeOf33 z14nf z14cc rfl rfl rfl) rfl ?_
      refine TL.alloc rfl .u Try.zeroValue33 rfl (fun b18 => ?_)
      refine TL.st0 (cs' := #[.int .i64 x11.fTime, .int .i64 x11.fOffset, .bool x11.fKey.null, .string (bsOf x11.fKey.data), .bool x11.fValue.null, .string (bsOf x11.fValue.data), .slice A15 x11.fHeaders.length c16]) rfl .u rfl rfl Try.sizeOf33 rfl rfl rfl rfl ?_
      refine TL.nil (X.seq (T.seq (T.seq (T.region rfl ?_))))
      refine TL.run ft_cursitorlaw11_ok [0, 1] rfl rfl ?_
      refine TL.q rfl .u (Ex.b1 0 rfl Try.isAgg9 rfl rfl) rfl ?_
      refine TL.q rfl .u (Ex.lenB rfl Try.runUnderlying9) rfl ?_
      refine TL.run ft_cursitorlaw11_ok [4, 5] rfl rfl ?_
      refine TL.q rfl .u (Ex.b1 0 rfl Try.isAgg9 rfl rfl) rfl ?_
      refine TL.q rfl .u (Ex.lenB rfl Try.runUnderlying9) rfl ?_
      replace h := guard_some h
      obtain ⟨c19, h⟩ := h
      refine TL.q rfl .u (Ex.add rfl rfl c19) rfl ?_
      by_cases c20 : ((x11.fKey.data.length : Int) + (x11.fValue.data.length : Int)) > 100
      · replace h := ifT c20 h
        refine TL.run ft_cursitorlaw11_ok [9, 10] rfl rfl ?_
        refine TL.no rfl (.gn rfl rfl (decide_eq_true c20)) rfl ?_
        refine TL.no rfl (.gn rfl rfl (decide_eq_true c20)) rfl ?_
        refine TL.no rfl (.gn rfl rfl (decide_eq_true c20)) rfl ?_
        refine TL.no rfl (.gn rfl rfl (decide_eq_true c20)) rfl ?_
        refine TL.q rfl .u (Ex.py rfl (decide_eq_true c20) rfl) rfl ?_
        refine TL.nil (X.seq ?_)
        refine T.yes rfl rfl ?_
        refine T.seq (T.region rfl ?_)
        refine TL.run ft_cursitorlaw11_ok [0] rfl rfl ?_
        obtain rfl := Option.some.inj h
        replace h := hO9
        clear hO9
        try dsimp only at h
        obtain rfl := Option.some.inj h
        exact TL.nil (X.seq (T.ret (X.rs (X.rb (X.rs (X.rs (X.rb (X.rs (X.done1 [2] Try.results12 (RV.tm rfl) ⟨rfl, rfl, rfl⟩ (by rfl) (.inl rfl))))))))))
      · replace h := ifF c20 h
        refine TL.run ft_cursitorlaw11_ok [9, 10] rfl rfl ?_
        refine TL.q rfl (.g rfl rfl (decide_eq_false c20)) (Ex.ft ft_cursitorlaw11_ok rfl) rfl ?_
        refine TL.q rfl (.g rfl rfl (decide_eq_false c20)) (Ex.b1 0 rfl Try.isAgg31 rfl rfl) rfl ?_
        refine TL.q rfl (.g rfl rfl (decide_eq_false c20)) (Ex.lenS rfl Try.runUnderlying31) rfl ?_
        refine TL.q rfl (.g rfl rfl (decide_eq_false c20)) (Ex.ft ft_cursitorlaw11_ok rfl) rfl ?_
        refine TL.q rfl .u (Ex.pn rfl (decide_eq_false c20) rfl) rfl ?_
        by_cases c21 : (x11.fHeaders.length : Int) > 6
        · replace h := ifT c21 h
          refine TL.nil (X.seq ?_)
          refine T.yes rfl (decide_eq_true c21) ?_
          refine T.seq (T.region rfl ?_)
          refine TL.run ft_cursitorlaw11_ok [0] rfl rfl ?_
          obtain rfl := Option.some.inj h
          replace h := hO9
          clear hO9
          try dsimp only at h
          obtain rfl := Option.some.inj h
          exact TL.nil (X.seq (T.ret (X.rs (X.rb (X.rs (X.rs (X.rb (X.rs (X.done1 [2] Try.results12 (RV.tm rfl) ⟨rfl, rfl, rfl⟩ (by rfl) (.inl rfl))))))))))
        · replace h := ifF c21 h
          refine TL.nil (X.seq ?_)
          refine T.no rfl (decide_eq_false c21) ?_
          refine T.skip (X.seq (T.seq (T.region rfl ?_)))
          refine TL.run ft_cursitorlaw11_ok [0] rfl rfl ?_
          refine TL.q rfl .u (Ex.b1 0 rfl Try.isAgg31 rfl rfl) rfl ?_
          refine TL.q rfl .u (Ex.lenS rfl Try.runUnderlying31) rfl ?_
          refine TL.run ft_cursitorlaw11_ok [3] rfl rfl ?_
          refine TL.nil (X.seq (T.block ?_))
          obtain ⟨E24, hE25, hO26⟩ := Option.bind_eq_some_iff.1 h
          have hk30len := RX.len_le hX17
          refine T.lp (fun m e Rs => ∃ (y22 : Int) (k23 : Nat), k23 + m = x11.fHeaders.length ∧ e = [(2, .int .i64 y22), (12, .slice (some ⟨gz14, oz14, none⟩) a0.fRecords.length c2), (13, .int .i64 (a0.fRecords.length : Int)), (14, .int .i64 (k6 : Int)), (35, .slice A15 x11.fHeaders.length c16), (36, .int .i64 (x11.fHeaders.length : Int)), (37, .int .i64 (k23 : Int))] ∧ Rs = [BlkR b18 33 #[.int .i64 x11.fTime, .int .i64 x11.fOffset, .bool x11.fKey.null, .string (bsOf x11.fKey.data), .bool x11.fValue.null, .string (bsOf x11.fValue.data), .slice A15 x11.fHeaders.length c16], BlkR b3 25 #[.int .i64 a0.fBase, .int .i64 a0.fLeader, .bool a0.fAppend, .bool a0.fTxn, .bool a0.fControl, .int .i64 a0.fLast, .int .i64 a0.fFirst, .int .i64 a0.fMax, .int .i64 a0.fProducer, .int .i64 a0.fEpoch, .int .i64 a0.fSequence, .slice (some ⟨gz14, oz14, none⟩) a0.fRecords.length c2], EmpR] ∧ f_l11_Small_l2 (x11.fHeaders.drop k23) y22 = some E24) (x11.fHeaders.length) [0, 0, 0] ⟨y5, 0, by simp, rfl, rfl, by rw [List.drop_zero]; exact hE25⟩ (by rfl) (by rfl) ?_
          rintro m27 _ _ ⟨y22, k23, hk30, rfl, rfl, hl29⟩
          clear hE25 h
          cases m27 with
          | zero =>
            have h := hl29
            clear hl29
            rw [List.drop_of_length_le (by omega), f_l11_Small_l2] at h
            have hk30ge : ¬ ((k23 : Int) < (x11.fHeaders.length : Int)) := by omega
            refine T.seq (T.region rfl ?_)
            refine TL.run ft_cursitorlaw11_ok [0] rfl rfl ?_
            refine TL.nil (X.seq (T.seq ?_))
            refine T.no rfl (decide_eq_false hk30ge) ?_
            obtain rfl := Option.some.inj h
            replace h := hO26
            clear hO26
            try dsimp only at h
            refine T.exit (X.exs (X.exs (X.ex (X.blk (X.seq (T.region rfl ?_))))))
            refine TL.q rfl .u (Ex.add rfl rfl (by omega)) rfl ?_
            refine TL.run ft_cursitorlaw11_ok [1] rfl rfl ?_
            exact TL.nil (X.back (m' := m10) [1, 1] (by omega) ⟨y22, k6 + 1, by omega, rfl, rfl, h⟩ (by rfl) (by rfl))
          | succ m27 =>
            have h := hl29
            clear hl29
            obtain ⟨x28, hxx28⟩ : ∃ x, x11.fHeaders[k23]? = some x := ⟨_, List.getElem?_eq_getElem (by omega)⟩
            rw [drop_cons hxx28, f_l11_Small_l2] at h
            have hk30lt : (k23 : Int) < (x11.fHeaders.length : Int) := by omega
            refine T.seq (T.region rfl ?_)
            refine TL.run ft_cursitorlaw11_ok [0] rfl rfl ?_
            refine TL.nil (X.seq (T.seq ?_))
            refine T.yes rfl (decide_eq_true hk30lt) ?_
            obtain ⟨gz31, oz31, rfl, z31cs, z31cl, z31cc, z31nf, z31r⟩ := RX.elem (by decide) hX17 hxx28
            obtain ⟨z31S, z31r, z31rr⟩ := z31r
            obtain rfl : z31cs = [.string (bsOf x28.fKey), .bool x28.fValue.null, .string (bsOf x28.fValue.data)] := z31r
            refine T.skip (X.seq (T.seq (T.block (T.seq (T.region rfl ?_)))))
            refine TL.q rfl .u (Ex.ixS (k := k23) rfl rfl rfl Try.runUnderlying31 Try.sizeOf81 (List.getElem?_eq_some_iff.1 hxx28).1) rfl ?_
            refine TL.q rfl .u (Ex.oS (us := [.string (bsOf x28.fKey), .bool x28.fValue.null, .string (bsOf x28.fValue.data)]) 0 rfl Try.isAgg81 Try.sizeOf81 z31nf z31cc rfl rfl rfl) rfl ?_
            refine TL.alloc rfl .u Try.zeroValue81 rfl (fun b32 => ?_)
            refine TL.st0 (cs' := #[.string (bsOf x28.fKey), .bool x28.fValue.null, .string (bsOf x28.fValue.data)]) rfl .u rfl rfl Try.sizeOf81 rfl rfl rfl rfl ?_
            refine TL.nil (X.seq (T.seq (T.region rfl ?_)))
            refine TL.run ft_cursitorlaw11_ok [0] rfl rfl ?_
            refine TL.q rfl .u (Ex.b1 0 rfl Try.isAgg9 rfl rfl) rfl ?_
            refine TL.q rfl .u (Ex.lenB rfl Try.runUnderlying9) rfl ?_
            refine TL.run ft_cursitorlaw11_ok [3, 4] rfl rfl ?_
            refine TL.q rfl .u (Ex.b1 0 rfl Try.isAgg9 rfl rfl) rfl ?_
            refine TL.q rfl .u (Ex.lenB rfl Try.runUnderlying9) rfl ?_
            replace h := guard_some h
            obtain ⟨c33, h⟩ := h
            refine TL.q rfl .u (Ex.add rfl rfl c33) rfl ?_
            refine TL.run ft_cursitorlaw11_ok [8] rfl rfl ?_
            by_cases c34 : ((x28.fKey.length : Int) + (x28.fValue.data.length : Int)) > 100
            · replace h := ifT c34 h
              refine TL.nil (X.seq ?_)
              refine T.yes rfl (decide_eq_true c34) ?_
              refine T.seq (T.region rfl ?_)
              refine TL.run ft_cursitorlaw11_ok [0] rfl rfl ?_
              obtain rfl := Option.some.inj h
              replace h := hO26
              clear hO26
              try dsimp only at h
              obtain rfl := Option.some.inj h
              replace h := hO9
              clear hO9
              try dsimp only at h
              obtain rfl := Option.some.inj h
              exact TL.nil (X.seq (T.ret (X.rb (X.rs (X.rs (X.rb (X.rb (X.rs (X.rs (X.rb (X.rs (X.done1 [3] Try.results12 (RV.tm rfl) ⟨rfl, rfl, rfl⟩ (by rfl) (.inl rfl)))))))))))))
            · replace h := ifF c34 h
              refine TL.nil (X.seq ?_)
              refine T.no rfl (decide_eq_false c34) ?_
              refine T.skip (X.blk (X.seq (T.region rfl ?_)))
              refine TL.q rfl .u (Ex.add rfl rfl (by omega)) rfl ?_
              refine TL.run ft_cursitorlaw11_ok [1] rfl rfl ?_
              exact TL.nil (X.back (m' := m27) [1, 1, 1] (by omega) ⟨y22, k23 + 1, by omega, rfl, rfl, h⟩ (by rfl) (by rfl))
def f_l11_BatchRows_l1 : List Bat → Bool → Int → Option (Lp Bool (Bool × Int))
  | [], y7, y8 => some (Lp.go (y7, y8))
  | x14 :: xs, y7, y8 => (f_l11_Small x14).bind fun x22 => if x22 = 0 then some (Lp.ret true) else ((if y8 = 0 then ((f_r11_Check x14).bind fun x31 => some x31) else some y8).bind fun y28 => f_l11_BatchRows_l1 xs y7 y28)
def f_l11_BatchRows_l2 (a0 : List Bat) : List Bat → Bool → I → Option (Lp Bool (Bool × I))
  | [], y133, st135 => some (Lp.go (y133, st135))
  | x140 :: xs, y133, st135 => (f_batch_Read st135).bind fun (x148, st151) => ((f_r11_Same x148 x140).bind fun x169 => if x169 = true then ((a0[0]?).bind fun x172 => (f_batch_Same x148 x172).bind fun x178 => (f_r11_Same x140 x172).bind fun x180 => if (x178 == x180) = true then some false else some true) else some true).bind fun y167 => if y167 = true then none else (f_l11_BatchRows_l2 a0 xs y133 st151)
def f_l11_BatchRows (a0 : List Bat) : Option (Bool) := (f_l11_speaks).bind fun x3 => if x3 = true then (if (a0.length : Int) > 8 then some true else ((f_l11_BatchRows_l1 a0 false 0).bind fun e => match e with | .ret r => some r | .go (y33, y34) => ((f_batch_All a0).bind fun (x36, x37) => if y34 = 0 then ((gNew x36).bind fun st40 => (f_l11_BatchRows_l2 a0 a0 y33 st40).bind fun e => match e with | .ret r => some r | .go (y94, st96) => ((if x37 = 0 then ((gClose st96).bind fun (x105, st106) => if x105 = 0 then some (true, st106) else some (false, st106)) else some (false, st96)).bind fun (y101, st102) => some y101)) else ((if x37 = y34 then (if x36 = [] then some true else some false) else some false).bind fun y122 => some y122)))) else none
set_option maxRecDepth 100000 in
set_option maxHeartbeats 4000000 in
theorem f_l11_BatchRows_spec (a0 : List Bat) (A1 : Option Addr) (c2 : Nat) (r : Bool) (h : f_l11_BatchRows a0 = some r) : SpecX Try.prog 6 #[.slice A1 a0.length c2] (RX.of (sliceRd 12 Bat_rd) [.slice A1 a0.length c2] a0) (EmpR) (fun v A' N => v = .bool r ∧ A' = EmpR ∧ N = []) := by
  refine enterA Try.func6 rfl Try.ntmps6 rfl ?_
  intro F w hX
  unfold f_l11_BatchRows at h
  refine T.seq (T.region rfl ?_)
  refine TL.run ft_cursitorlaw11_ok [0] rfl rfl ?_
  obtain ⟨x3, hx4, h⟩ := Option.bind_eq_some_iff.1 h
  refine TL.nil (X.seq (T.seq (T.seq (T.region rfl ?_))))
  refine TL.ce rfl .u (.fn Try.call10 rfl) (f_l11_speaks_spec _ hx4) (fun _ hs => (RX.reads_triv _ _)) rfl ?_
  refine TL.run ft_cursitorlaw11_ok [1] rfl rfl ?_
  by_cases c5 : x3 = true
  · replace h := ifT c5 h
    refine TL.nil (X.seq ?_)
    refine T.no rfl (bn_f c5) ?_
    refine T.skip (X.seq (T.seq (T.seq (T.region rfl ?_))))
    refine TL.run ft_cursitorlaw11_ok [0] rfl rfl ?_
    refine TL.q rfl .u (Ex.lenS rfl Try.runUnderlying46) rfl ?_
    refine TL.run ft_cursitorlaw11_ok [2] rfl rfl ?_
    by_cases c6 : (a0.length : Int) > 8
    · replace h := ifT c6 h
      refine TL.nil (X.seq ?_)
      refine T.yes rfl (decide_eq_true c6) ?_
      refine T.seq (T.region rfl ?_)
      refine TL.run ft_cursitorlaw11_ok [0] rfl rfl ?_
      obtain rfl := Option.some.inj h
      exact TL.nil (X.seq (T.ret (X.rs (X.done1 [0] Try.results6 (RV.tm rfl) ⟨rfl, rfl, rfl⟩ (by rfl) (.inl rfl)))))
    · replace h := ifF c6 h
      refine TL.nil (X.seq ?_)
      refine T.no rfl (decide_eq_false c6) ?_
      refine T.skip (X.seq (T.seq (T.region rfl ?_)))
      refine TL.run ft_cursitorlaw11_ok [0] rfl rfl ?_
      refine TL.nil (X.seq (T.seq (T.seq (T.region rfl ?_))))
      refine TL.run ft_cursitorlaw11_ok [0] rfl rfl ?_
      refine TL.q rfl .u (Ex.lenS rfl Try.runUnderlying46) rfl ?_
      refine TL.run ft_cursitorlaw11_ok [2] rfl rfl ?_
      refine TL.nil (X.seq (T.block ?_))
      obtain ⟨E10, hE11, hO12⟩ := Option.bind_eq_some_iff.1 h
      have hk16len := RX.len_le hX
      refine T.lp (fun m e Rs => ∃ (y7 : Bool) (y8 : Int) (k9 : Nat), k9 + m = a0.length ∧ e = [(0, .slice A1 a0.length c2), (2, .bool y7), (3, .int .i64 y8), (17, .slice A1 a0.length c2), (18, .int .i64 (a0.length : Int)), (19, .int .i64 (k9 : Int))] ∧ Rs = [EmpR] ∧ f_l11_BatchRows_l1 (a0.drop k9) y7 y8 = some E10) (a0.length) [0] ⟨false, 0, 0, by simp, rfl, rfl, by rw [List.drop_zero]; exact hE11⟩ (by rfl) (by rfl) ?_
      rintro m13 _ _ ⟨y7, y8, k9, hk16, rfl, rfl, hl15⟩
      clear hE11 h
      cases m13 with
      | zero =>
        have h := hl15
        clear hl15
        rw [List.drop_of_length_le (by omega), f_l11_BatchRows_l1] at h
        have hk16ge : ¬ ((k9 : Int) < (a0.length : Int)) := by omega
        refine T.seq (T.region rfl ?_)
        refine TL.run ft_cursitorlaw11_ok [0] rfl rfl ?_
        refine TL.nil (X.seq (T.seq ?_))
        refine T.no rfl (decide_eq_false hk16ge) ?_
        obtain rfl := Option.some.inj h
        replace h := hO12
        clear hO12
        try dsimp only at h
        refine T.exit (X.exs (X.exs (X.ex (X.seq (T.seq (T.region rfl ?_))))))
        obtain ⟨⟨x126, x127⟩, hx128, h⟩ := Option.bind_eq_some_iff.1 h
        try dsimp only at h
        refine TL.run ft_cursitorlaw11_ok [0] rfl rfl ?_
        refine TL.ce rfl .u (.fn Try.call19 rfl) (f_batch_All_spec a0 _ _ _ hx128) (fun _ hs => (SrcE.old hs hX)) rfl ?_
        refine TL.run ft_cursitorlaw11_ok [2, 3, 4, 5, 6] rfl rfl ?_
        refine TL.nil (X.seq (T.seq (T.seq (T.region rfl ?_))))
        refine TL.run ft_cursitorlaw11_ok [0, 1] rfl rfl ?_
        by_cases c129 : y8 = 0
        · replace h := ifT c129 h
          refine TL.nil (X.seq ?_)
          refine T.no rfl (bn_f (decide_eq_true c129)) ?_
          refine T.skip (X.seq (T.seq (T.region rfl ?_)))
          obtain ⟨st130, hx131, h⟩ := Option.bind_eq_some_iff.1 h
          refine TL.run ft_cursitorlaw11_ok [0] rfl rfl ?_
          refine TL.cge rfl .u (.fn Try.call20 rfl) (gNew_spec x126 _ hx131) (fun _ hs => (RX.reads_triv _ _)) rfl ?_
          rintro _ _ _ ⟨b132, rfl, rfl, rfl⟩
          refine TL.sel [0, 0] rfl ?_
          refine TL.run ft_cursitorlaw11_ok [2] rfl rfl ?_
          refine TL.nil (X.seq (T.seq (T.seq (T.region rfl ?_))))
          refine TL.run ft_cursitorlaw11_ok [0] rfl rfl ?_
          refine TL.q rfl .u (Ex.lenS rfl Try.runUnderlying46) rfl ?_
          refine TL.run ft_cursitorlaw11_ok [2] rfl rfl ?_
          refine TL.nil (X.seq (T.block ?_))
          obtain ⟨E136, hE137, hO138⟩ := Option.bind_eq_some_iff.1 h
          have hk142len := RX.len_le hX
          refine T.lp (fun m e Rs => ∃ (y133 : Bool) (k134 : Nat) (st135 : I), k134 + m = a0.length ∧ e = [(0, .slice A1 a0.length c2), (2, .bool y133), (7, .int .i64 x127), (8, .pointer (some ⟨b132, 0, none⟩)), (47, .slice A1 a0.length c2), (48, .int .i64 (a0.length : Int)), (49, .int .i64 (k134 : Int))] ∧ Rs = [InR b132 st135, EmpR] ∧ f_l11_BatchRows_l2 a0 (a0.drop k134) y133 st135 = some E136) (a0.length) [0, 0] ⟨y7, 0, st130, by simp, rfl, rfl, by rw [List.drop_zero]; exact hE137⟩ (by rfl) (by rfl) ?_
          rintro m139 _ _ ⟨y133, k134, st135, hk142, rfl, rfl, hl141⟩
          clear hE137 h
          cases m139 with
          | zero =>
            have h := hl141
            clear hl141
            rw [List.drop_of_length_le (by omega), f_l11_BatchRows_l2] at h
            have hk142ge : ¬ ((k134 : Int) < (a0.length : Int)) := by omega
            refine T.seq (T.region rfl ?_)
            refine TL.run ft_cursitorlaw11_ok [0] rfl rfl ?_
            refine TL.nil (X.seq (T.seq ?_))
            refine T.no rfl (decide_eq_false hk142ge) ?_
            obtain rfl := Option.some.inj h
            replace h := hO138
            clear hO138
            try dsimp only at h
            refine T.exit (X.exs (X.exs (X.ex (X.seq (T.seq ?_)))))
            obtain ⟨⟨y203, st204⟩, h, hk205⟩ := Option.bind_eq_some_iff.1 h
            refine T.jq (fun e Rs => e = [(2, .bool y203)] ∧ Rs = [InR b132 st204, EmpR]) ?_ ?_
            · clear hk205
              refine T.region rfl ?_
              by_cases c206 : x127 = 0
              · replace h := ifT c206 h
                refine TL.run ft_cursitorlaw11_ok [0, 1, 2] rfl rfl ?_
                refine TL.q rfl (.g rfl rfl (decide_eq_true c206)) (Ex.ft ft_cursitorlaw11_ok rfl) rfl ?_
                obtain ⟨⟨x207, st208⟩, hx209, h⟩ := Option.bind_eq_some_iff.1 h
                try dsimp only at h
                refine TL.c0 rfl (.g rfl rfl (decide_eq_true c206)) (.fn Try.call22 rfl) (gClose_spec b132 st135 _ hx209) (fun _ hs => (Src.triv _)) rfl ?_
                refine TL.q rfl (.g rfl rfl (decide_eq_true c206)) (Ex.ft ft_cursitorlaw11_ok rfl) rfl ?_
                refine TL.q rfl .u (Ex.py rfl (decide_eq_true c206) rfl) rfl ?_
                refine TL.run ft_cursitorlaw11_ok [7] rfl rfl ?_
                by_cases c210 : x207 = 0
                · replace h := ifT c210 h
                  cases h
                  exact TL.nil (X.as (d := 2) (v' := .bool true) rfl (congrArg Value.bool (decide_eq_true c210)) (X.jq [0, 0] ⟨rfl, rfl⟩ (by rfl) (by rfl)))
                · replace h := ifF c210 h
                  cases h
                  exact TL.nil (X.as (d := 2) (v' := .bool false) rfl (congrArg Value.bool (decide_eq_false c210)) (X.jq [0, 0] ⟨rfl, rfl⟩ (by rfl) (by rfl)))
              · replace h := ifF c206 h
                refine TL.run ft_cursitorlaw11_ok [0, 1, 2] rfl rfl ?_
                refine TL.no rfl (.gn rfl rfl (decide_eq_false c206)) rfl ?_
                refine TL.no rfl (.gn rfl rfl (decide_eq_false c206)) rfl ?_
                refine TL.no rfl (.gn rfl rfl (decide_eq_false c206)) rfl ?_
                refine TL.q rfl .u (Ex.pn rfl (decide_eq_false c206) rfl) rfl ?_
                refine TL.run ft_cursitorlaw11_ok [7] rfl rfl ?_
                cases h
                exact TL.nil (X.jq [0, 0] ⟨rfl, rfl⟩ (by rfl) (by rfl))
            · rintro _ _ ⟨rfl, rfl⟩
              clear h
              have h := hk205
              clear hk205
              try dsimp only at h
              obtain rfl := Option.some.inj h
              exact X.seq (T.ret (X.done1 [1] Try.results6 (RV.tm rfl) ⟨rfl, rfl, rfl⟩ (by rfl) (.inl rfl)))
          | succ m139 =>
            have h := hl141
            clear hl141
            obtain ⟨x140, hxx140⟩ : ∃ x, a0[k134]? = some x := ⟨_, List.getElem?_eq_getElem (by omega)⟩
            rw [drop_cons hxx140, f_l11_BatchRows_l2] at h
            have hk142lt : (k134 : Int) < (a0.length : Int) := by omega
            refine T.seq (T.region rfl ?_)
            refine TL.run ft_cursitorlaw11_ok [0] rfl rfl ?_
            refine TL.nil (X.seq (T.seq ?_))
            refine T.yes rfl (decide_eq_true hk142lt) ?_
            refine T.skip (X.seq (T.seq (T.block (T.seq (T.region rfl ?_)))))
            obtain ⟨gz143, oz143, rfl, z143cs, z143cl, z143cc, z143nf, z143r⟩ := RX.elem (by decide) hX hxx140
            obtain ⟨z143S, z143r, z143rr⟩ := z143r
            obtain ⟨A144, c145, rfl, z143s0⟩ := z143r
            have hX146 : (RX.of (sliceRd 7 Rec_rd) [.slice A144 x140.fRecords.length c145] x140.fRecords).reads w F := ⟨z143S, z143s0, z143rr⟩
            refine TL.run ft_cursitorlaw11_ok [0] rfl rfl ?_
            refine TL.q rfl .u (Ex.ixS (k := k134) rfl rfl rfl Try.runUnderlying46 Try.sizeOf25 (List.getElem?_eq_some_iff.1 hxx140).1) rfl ?_
            refine TL.q rfl .u (Ex.oS (us := [.int .i64 x140.fBase, .int .i64 x140.fLeader, .bool x140.fAppend, .bool x140.fTxn, .bool x140.fControl, .int .i64 x140.fLast, .int .i64 x140.fFirst, .int .i64 x140.fMax, .int .i64 x140.fProducer, .int .i64 x140.fEpoch, .int .i64 x140.fSequence, .slice A144 x140.fRecords.length c145]) 0 rfl Try.isAgg25 Try.sizeOf25 z143nf z143cc rfl rfl rfl) rfl ?_
            refine TL.alloc rfl .u Try.zeroValue25 rfl (fun b147 => ?_)
            refine TL.run ft_cursitorlaw11_ok [4] rfl rfl ?_
            refine TL.st0 (cs' := #[.int .i64 x140.fBase, .int .i64 x140.fLeader, .bool x140.fAppend, .bool x140.fTxn, .bool x140.fControl, .int .i64 x140.fLast, .int .i64 x140.fFirst, .int .i64 x140.fMax, .int .i64 x140.fProducer, .int .i64 x140.fEpoch, .int .i64 x140.fSequence, .slice A144 x140.fRecords.length c145]) rfl .u rfl rfl Try.sizeOf25 rfl rfl rfl rfl ?_
            refine TL.nil (X.seq (T.seq (T.region rfl ?_)))
            obtain ⟨⟨x148, st151⟩, hx152, h⟩ := Option.bind_eq_some_iff.1 h
            try dsimp only at h
            refine TL.run ft_cursitorlaw11_ok [0] rfl rfl ?_
            refine TL.cg1 rfl .u (.fn Try.call21 rfl) (f_batch_Read_spec b132 st135 _ hx152) (fun _ hs => (Src.triv _)) rfl ?_
            rintro _ _ _ ⟨A149, c150, rfl, rfl, rfl⟩
            refine TL.sel [0, 0, 0, 0] rfl ?_
            refine TL.alloc rfl .u Try.zeroValue25 rfl (fun b153 => ?_)
            refine TL.st0 (cs' := #[.int .i64 x148.fBase, .int .i64 x148.fLeader, .bool x148.fAppend, .bool x148.fTxn, .bool x148.fControl, .int .i64 x148.fLast, .int .i64 x148.fFirst, .int .i64 x148.fMax, .int .i64 x148.fProducer, .int .i64 x148.fEpoch, .int .i64 x148.fSequence, .slice A149 x148.fRecords.length c150]) rfl .u rfl rfl Try.sizeOf25 rfl rfl rfl rfl ?_
            refine TL.nil (X.seq (T.seq ?_))
            obtain ⟨y167, h, hk168⟩ := Option.bind_eq_some_iff.1 h
            refine T.jq (fun e Rs => e = [(0, .slice (some ⟨gz143, oz143, none⟩) a0.length c2), (2, .bool y133), (7, .int .i64 x127), (8, .pointer (some ⟨b132, 0, none⟩)), (47, .slice (some ⟨gz143, oz143, none⟩) a0.length c2), (48, .int .i64 (a0.length : Int)), (49, .int .i64 (k134 : Int)), (75, .bool y167)] ∧ Rs = [BlkR b153 25 #[.int .i64 x148.fBase, .int .i64 x148.fLeader, .bool x148.fAppend, .bool x148.fTxn, .bool x148.fControl, .int .i64 x148.fLast, .int .i64 x148.fFirst, .int .i64 x148.fMax, .int .i64 x148.fProducer, .int .i64 x148.fEpoch, .int .i64 x148.fSequence, .slice A149 x148.fRecords.length c150], RdR (sliceRd 7 Rec_rd) [.slice A149 x148.fRecords.length c150] x148.fRecords, BlkR b147 25 #[.int .i64 x140.fBase, .int .i64 x140.fLeader, .bool x140.fAppend, .bool x140.fTxn, .bool x140.fControl, .int .i64 x140.fLast, .int .i64 x140.fFirst, .int .i64 x140.fMax, .int .i64 x140.fProducer, .int .i64 x140.fEpoch, .int .i64 x140.fSequence, .slice A144 x140.fRecords.length c145], InR b132 st151, EmpR]) ?_ ?_
            · clear hk168
              refine T.draw (.q 0 (.q 1 (.e 2 (.q 3 (.q 4 (.q 5 (.q 6 (.q 7 (.q 8 (.q 10 (.q 11 (.q 12 (.q 13 (.q 14 (.q 15 (.q 16 (.e 9 (.e 17 (.q 18 (.q 19 .nil)))))))))))))))))))) [0, 0, 0, 0, 0] rfl mix_cursitorlaw11 (NoP.seq (NoP.seq (NoP.blk (NoP.seq (NoP.seq (NoP.blk (NoP.seq np_post))))))) (by kernel_rfl) ?_
              refine TD.q rfl .u (Ex.bS (us := [.int .i64 x148.fBase, .int .i64 x148.fLeader, .bool x148.fAppend, .bool x148.fTxn, .bool x148.fControl, .int .i64 x148.fLast, .int .i64 x148.fFirst, .int .i64 x148.fMax, .int .i64 x148.fProducer, .int .i64 x148.fEpoch, .int .i64 x148.fSequence, .slice A149 x148.fRecords.length c150]) 0 rfl Try.isAgg25 Try.sizeOf25 rfl rfl rfl) rfl ?_
              refine TD.q rfl .u (Ex.bS (us := [.int .i64 x140.fBase, .int .i64 x140.fLeader, .bool x140.fAppend, .bool x140.fTxn, .bool x140.fControl, .int .i64 x140.fLast, .int .i64 x140.fFirst, .int .i64 x140.fMax, .int .i64 x140.fProducer, .int .i64 x140.fEpoch, .int .i64 x140.fSequence, .slice A144 x140.fRecords.length c145]) 2 rfl Try.isAgg25 Try.sizeOf25 rfl rfl rfl) rfl ?_
              obtain ⟨x169, hx170, h⟩ := Option.bind_eq_some_iff.1 h
              refine TD.ce rfl .u (.fn Try.call17 rfl) (f_r11_Same_spec x148 _ _ x140 _ _ _ hx170) (fun _ hs => (RX.reads_and (SrcE.res 1 hs rfl (fun w G h => rd_reads w G h)) (SrcE.old hs hX146))) rfl [0, 0, 0, 0, 0] (rfl) ?_
              by_cases c171 : x169 = true
              · replace h := ifT c171 h
                refine TD.run ft_cursitorlaw11_ok [3, 4] rfl rfl ?_
                refine TD.q rfl (.g rfl rfl (bn_f c171)) (Ex.bS (us := [.int .i64 x148.fBase, .int .i64 x148.fLeader, .bool x148.fAppend, .bool x148.fTxn, .bool x148.fControl, .int .i64 x148.fLast, .int .i64 x148.fFirst, .int .i64 x148.fMax, .int .i64 x148.fProducer, .int .i64 x148.fEpoch, .int .i64 x148.fSequence, .slice A149 x148.fRecords.length c150]) 0 rfl Try.isAgg25 Try.sizeOf25 rfl rfl rfl) rfl ?_
                refine TD.q rfl (.g rfl rfl (bn_f c171)) (Ex.ft ft_cursitorlaw11_ok rfl) rfl ?_
                obtain ⟨x172, hx173, h⟩ := Option.bind_eq_some_iff.1 h
                obtain ⟨z174cs, z174cl, z174cc, z174nf, z174r⟩ := RX.elem' (by decide) hX hx173
                obtain ⟨z174S, z174r, z174rr⟩ := z174r
                obtain ⟨A175, c176, rfl, z174s0⟩ := z174r
                have hX177 : (RX.of (sliceRd 7 Rec_rd) [.slice A175 x172.fRecords.length c176] x172.fRecords).reads w F := ⟨z174S, z174s0, z174rr⟩
                refine TD.q rfl (.g rfl rfl (bn_f c171)) (Ex.ixS (k := 0) rfl rfl rfl Try.runUnderlying46 Try.sizeOf25 (List.getElem?_eq_some_iff.1 hx173).1) rfl ?_
                refine TD.q rfl (.g rfl rfl (bn_f c171)) (Ex.oS (us := [.int .i64 x172.fBase, .int .i64 x172.fLeader, .bool x172.fAppend, .bool x172.fTxn, .bool x172.fControl, .int .i64 x172.fLast, .int .i64 x172.fFirst, .int .i64 x172.fMax, .int .i64 x172.fProducer, .int .i64 x172.fEpoch, .int .i64 x172.fSequence, .slice A175 x172.fRecords.length c176]) 0 rfl Try.isAgg25 Try.sizeOf25 z174nf z174cc rfl rfl rfl) rfl ?_
                refine TD.q rfl (.g rfl rfl (bn_f c171)) (Ex.ft ft_cursitorlaw11_ok rfl) rfl ?_
                refine TD.q rfl (.g rfl rfl (bn_f c171)) (Ex.ft ft_cursitorlaw11_ok rfl) rfl ?_
                refine TD.q rfl (.g rfl rfl (bn_f c171)) (Ex.ixS (k := k134) rfl rfl rfl Try.runUnderlying46 Try.sizeOf25 (List.getElem?_eq_some_iff.1 hxx140).1) rfl ?_
                refine TD.q rfl (.g rfl rfl (bn_f c171)) (Ex.oS (us := [.int .i64 x140.fBase, .int .i64 x140.fLeader, .bool x140.fAppend, .bool x140.fTxn, .bool x140.fControl, .int .i64 x140.fLast, .int .i64 x140.fFirst, .int .i64 x140.fMax, .int .i64 x140.fProducer, .int .i64 x140.fEpoch, .int .i64 x140.fSequence, .slice A144 x140.fRecords.length c145]) 0 rfl Try.isAgg25 Try.sizeOf25 z143nf z143cc rfl rfl rfl) rfl ?_
                refine TD.q rfl (.g rfl rfl (bn_f c171)) (Ex.ft ft_cursitorlaw11_ok rfl) rfl ?_
                refine TD.q rfl (.g rfl rfl (bn_f c171)) (Ex.ixS (k := 0) rfl rfl rfl Try.runUnderlying46 Try.sizeOf25 (List.getElem?_eq_some_iff.1 hx173).1) rfl ?_
                refine TD.q rfl (.g rfl rfl (bn_f c171)) (Ex.oS (us := [.int .i64 x172.fBase, .int .i64 x172.fLeader, .bool x172.fAppend, .bool x172.fTxn, .bool x172.fControl, .int .i64 x172.fLast, .int .i64 x172.fFirst, .int .i64 x172.fMax, .int .i64 x172.fProducer, .int .i64 x172.fEpoch, .int .i64 x172.fSequence, .slice A175 x172.fRecords.length c176]) 0 rfl Try.isAgg25 Try.sizeOf25 z174nf z174cc rfl rfl rfl) rfl ?_
                obtain ⟨x178, hx179, h⟩ := Option.bind_eq_some_iff.1 h
                refine TD.ce rfl (.g rfl rfl (bn_f c171)) (.fn Try.call18 rfl) (f_batch_Same_spec x148 _ _ x172 _ _ _ hx179) (fun _ hs => (RX.reads_and (SrcE.res 1 hs rfl (fun w G h => rd_reads w G h)) (SrcE.old hs hX177))) rfl [0, 0, 0, 0, 0] (rfl) ?_
                obtain ⟨x180, hx181, h⟩ := Option.bind_eq_some_iff.1 h
                refine TD.ce rfl (.g rfl rfl (bn_f c171)) (.fn Try.call17 rfl) (f_r11_Same_spec x140 _ _ x172 _ _ _ hx181) (fun _ hs => (RX.reads_and (SrcE.old hs hX146) (SrcE.old hs hX177))) rfl [0, 0, 0, 0, 0] (rfl) ?_
                refine TD.q rfl (.g rfl rfl (bn_f c171)) (Ex.bNe rfl rfl rfl rfl Try.runUnderlying4) rfl ?_
                refine TD.q rfl .u (Ex.pn rfl (bn_f c171) rfl) rfl ?_
                by_cases c182 : (x178 == x180) = true
                · replace h := ifT c182 h
                  cases h
                  exact TD.nil (X.as (d := 75) (v' := .bool false) rfl (congrArg Value.bool (bn_f c182)) (X.jq [0, 0, 0, 0, 0] ⟨rfl, rfl⟩ (by rfl) (by rfl)))
                · replace h := ifF c182 h
                  replace c182 := eq_false_of_ne_true c182
                  cases h
                  exact TD.nil (X.as (d := 75) (v' := .bool true) rfl (congrArg Value.bool (bn_t c182)) (X.jq [0, 0, 0, 0, 0] ⟨rfl, rfl⟩ (by rfl) (by rfl)))
              · replace h := ifF c171 h
                replace c171 := eq_false_of_ne_true c171
                refine TD.run ft_cursitorlaw11_ok [3, 4] rfl rfl ?_
                refine TD.no rfl (.gn rfl rfl (bn_t c171)) rfl ?_
                refine TD.no rfl (.gn rfl rfl (bn_t c171)) rfl ?_
                refine TD.no rfl (.gn rfl rfl (bn_t c171)) rfl ?_
                refine TD.no rfl (.gn rfl rfl (bn_t c171)) rfl ?_
                refine TD.no rfl (.gn rfl rfl (bn_t c171)) rfl ?_
                refine TD.no rfl (.gn rfl rfl (bn_t c171)) rfl ?_
                refine TD.no rfl (.gn rfl rfl (bn_t c171)) rfl ?_
                refine TD.no rfl (.gn rfl rfl (bn_t c171)) rfl ?_
                refine TD.no rfl (.gn rfl rfl (bn_t c171)) rfl ?_
                refine TD.no rfl (.gn rfl rfl (bn_t c171)) rfl ?_
                refine TD.no rfl (.gn rfl rfl (bn_t c171)) rfl ?_
                refine TD.noe rfl (.gn rfl rfl (bn_t c171)) rfl [0, 0, 0, 0, 0] rfl ?_
                refine TD.noe rfl (.gn rfl rfl (bn_t c171)) rfl [0, 0, 0, 0, 0] rfl ?_
                refine TD.no rfl (.gn rfl rfl (bn_t c171)) rfl ?_
                refine TD.q rfl .u (Ex.py rfl (bn_t c171) rfl) rfl ?_
                cases h
                exact TD.nil (X.jq [0, 0, 0, 0, 0] ⟨rfl, rfl⟩ (by rfl) (by rfl))
            · rintro _ _ ⟨rfl, rfl⟩
              clear h
              have h := hk168
              clear hk168
              try dsimp only at h
              by_cases c183 : y167 = true
              · replace h := ifT c183 h
                refine X.seq ?_
                refine T.yes rfl c183 ?_
                exact nomatch h
              · replace h := ifF c183 h
                replace c183 := eq_false_of_ne_true c183
                refine X.seq ?_
                refine T.no rfl c183 ?_
                refine T.skip (X.blk (X.seq (T.region rfl ?_)))
                refine TL.q rfl .u (Ex.add rfl rfl (by omega)) rfl ?_
                refine TL.run ft_cursitorlaw11_ok [1] rfl rfl ?_
                exact TL.nil (X.back (m' := m139) [3, 3] (by omega) ⟨y133, k134 + 1, st151, by omega, rfl, rfl, h⟩ (by rfl) (by rfl))
        · replace h := ifF c129 h
          refine TL.nil (X.seq ?_)
          refine T.yes rfl (bn_t (decide_eq_false c129)) ?_
          refine T.seq ?_
          obtain ⟨y212, h, hk213⟩ := Option.bind_eq_some_iff.1 h
          refine T.jq (fun e Rs => e = [(0, .slice A1 a0.length c2), (2, .bool y212), (6, .string (bsOf x126)), (7, .int .i64 x127)] ∧ Rs = [EmpR]) ?_ ?_
          · clear hk213
            refine T.region rfl ?_
            by_cases c214 : x127 = y8
            · replace h := ifT c214 h
              refine TL.run ft_cursitorlaw11_ok [0, 1, 2, 3] rfl rfl ?_
              refine TL.q rfl (.g rfl rfl (decide_eq_true c214)) (Ex.ft ft_cursitorlaw11_ok rfl) rfl ?_
              refine TL.q rfl (.g rfl rfl (decide_eq_true c214)) (Ex.sEq rfl (m := []) rfl) rfl ?_
              refine TL.q rfl .u (Ex.py rfl (decide_eq_true c214) rfl) rfl ?_
              refine TL.run ft_cursitorlaw11_ok [7] rfl rfl ?_
              by_cases c215 : x126 = []
              · replace h := ifT c215 h
                cases h
                exact TL.nil (X.as (d := 2) (v' := .bool true) rfl (congrArg Value.bool (decide_eq_true c215)) (X.jq [0] ⟨rfl, rfl⟩ (by rfl) (by rfl)))
              · replace h := ifF c215 h
                cases h
                exact TL.nil (X.as (d := 2) (v' := .bool false) rfl (congrArg Value.bool (decide_eq_false c215)) (X.jq [0] ⟨rfl, rfl⟩ (by rfl) (by rfl)))
            · replace h := ifF c214 h
              refine TL.run ft_cursitorlaw11_ok [0, 1, 2, 3] rfl rfl ?_
              refine TL.no rfl (.gn rfl rfl (decide_eq_false c214)) rfl ?_
              refine TL.no rfl (.gn rfl rfl (decide_eq_false c214)) rfl ?_
              refine TL.q rfl .u (Ex.pn rfl (decide_eq_false c214) rfl) rfl ?_
              refine TL.run ft_cursitorlaw11_ok [7] rfl rfl ?_
              cases h
              exact TL.nil (X.jq [0] ⟨rfl, rfl⟩ (by rfl) (by rfl))
          · rintro _ _ ⟨rfl, rfl⟩
            clear h
            have h := hk213
            clear hk213
            try dsimp only at h
            obtain rfl := Option.some.inj h
            exact X.seq (T.ret (X.rs (X.done1 [0] Try.results6 (RV.tm rfl) ⟨rfl, rfl, rfl⟩ (by rfl) (.inl rfl))))
      | succ m13 =>
        have h := hl15
        clear hl15
        obtain ⟨x14, hxx14⟩ : ∃ x, a0[k9]? = some x := ⟨_, List.getElem?_eq_getElem (by omega)⟩
        rw [drop_cons hxx14, f_l11_BatchRows_l1] at h
        have hk16lt : (k9 : Int) < (a0.length : Int) := by omega
        refine T.seq (T.region rfl ?_)
        refine TL.run ft_cursitorlaw11_ok [0] rfl rfl ?_
        refine TL.nil (X.seq (T.seq ?_))
        refine T.yes rfl (decide_eq_true hk16lt) ?_
        obtain ⟨gz17, oz17, rfl, z17cs, z17cl, z17cc, z17nf, z17r⟩ := RX.elem (by decide) hX hxx14
        obtain ⟨z17S, z17r, z17rr⟩ := z17r
        obtain ⟨A18, c19, rfl, z17s0⟩ := z17r
        have hX20 : (RX.of (sliceRd 7 Rec_rd) [.slice A18 x14.fRecords.length c19] x14.fRecords).reads w F := ⟨z17S, z17s0, z17rr⟩
        refine T.skip (X.seq (T.seq (T.block (T.seq (T.region rfl ?_)))))
        refine TL.q rfl .u (Ex.ixS (k := k9) rfl rfl rfl Try.runUnderlying46 Try.sizeOf25 (List.getElem?_eq_some_iff.1 hxx14).1) rfl ?_
        refine TL.q rfl .u (Ex.oS (us := [.int .i64 x14.fBase, .int .i64 x14.fLeader, .bool x14.fAppend, .bool x14.fTxn, .bool x14.fControl, .int .i64 x14.fLast, .int .i64 x14.fFirst, .int .i64 x14.fMax, .int .i64 x14.fProducer, .int .i64 x14.fEpoch, .int .i64 x14.fSequence, .slice A18 x14.fRecords.length c19]) 0 rfl Try.isAgg25 Try.sizeOf25 z17nf z17cc rfl rfl rfl) rfl ?_
        refine TL.alloc rfl .u Try.zeroValue25 rfl (fun b21 => ?_)
        refine TL.st0 (cs' := #[.int .i64 x14.fBase, .int .i64 x14.fLeader, .bool x14.fAppend, .bool x14.fTxn, .bool x14.fControl, .int .i64 x14.fLast, .int .i64 x14.fFirst, .int .i64 x14.fMax, .int .i64 x14.fProducer, .int .i64 x14.fEpoch, .int .i64 x14.fSequence, .slice A18 x14.fRecords.length c19]) rfl .u rfl rfl Try.sizeOf25 rfl rfl rfl rfl ?_
        refine TL.nil (X.seq (T.seq (T.seq (T.region rfl ?_))))
        refine TL.q rfl .u (Ex.bS (us := [.int .i64 x14.fBase, .int .i64 x14.fLeader, .bool x14.fAppend, .bool x14.fTxn, .bool x14.fControl, .int .i64 x14.fLast, .int .i64 x14.fFirst, .int .i64 x14.fMax, .int .i64 x14.fProducer, .int .i64 x14.fEpoch, .int .i64 x14.fSequence, .slice A18 x14.fRecords.length c19]) 0 rfl Try.isAgg25 Try.sizeOf25 rfl rfl rfl) rfl ?_
        obtain ⟨x22, hx23, h⟩ := Option.bind_eq_some_iff.1 h
        refine TL.ce rfl .u (.fn Try.call12 rfl) (f_l11_Small_spec x14 _ _ _ hx23) (fun _ hs => (SrcE.old hs hX20)) rfl ?_
        refine TL.run ft_cursitorlaw11_ok [2] rfl rfl ?_
        by_cases c24 : x22 = 0
        · replace h := ifT c24 h
          refine TL.nil (X.seq ?_)
          refine T.yes rfl (decide_eq_true c24) ?_
          refine T.seq (T.region rfl ?_)
          refine TL.run ft_cursitorlaw11_ok [0] rfl rfl ?_
          obtain rfl := Option.some.inj h
          replace h := hO12
          clear hO12
          try dsimp only at h
          obtain rfl := Option.some.inj h
          exact TL.nil (X.seq (T.ret (X.rs (X.rb (X.rs (X.rs (X.rb (X.rs (X.done1 [1] Try.results6 (RV.tm rfl) ⟨rfl, rfl, rfl⟩ (by rfl) (.inl rfl))))))))))
        · replace h := ifF c24 h
          refine TL.nil (X.seq ?_)
          refine T.no rfl (decide_eq_false c24) ?_
          refine T.skip (X.seq (T.seq (T.region rfl ?_)))
          refine TL.run ft_cursitorlaw11_ok [0, 1] rfl rfl ?_
          refine TL.nil (X.seq ?_)
          obtain ⟨y28, h, hk29⟩ := Option.bind_eq_some_iff.1 h
          refine T.jq (fun e Rs => e = [(0, .slice (some ⟨gz17, oz17, none⟩) a0.length c2), (2, .bool y7), (3, .int .i64 y28), (17, .slice (some ⟨gz17, oz17, none⟩) a0.length c2), (18, .int .i64 (a0.length : Int)), (19, .int .i64 (k9 : Int))] ∧ Rs = [BlkR b21 25 #[.int .i64 x14.fBase, .int .i64 x14.fLeader, .bool x14.fAppend, .bool x14.fTxn, .bool x14.fControl, .int .i64 x14.fLast, .int .i64 x14.fFirst, .int .i64 x14.fMax, .int .i64 x14.fProducer, .int .i64 x14.fEpoch, .int .i64 x14.fSequence, .slice A18 x14.fRecords.length c19], EmpR]) ?_ ?_
          · clear hk29
            by_cases c30 : y8 = 0
            · replace h := ifT c30 h
              refine T.yes rfl (decide_eq_true c30) ?_
              refine T.region rfl ?_
              refine TL.q rfl .u (Ex.bS (us := [.int .i64 x14.fBase, .int .i64 x14.fLeader, .bool x14.fAppend, .bool x14.fTxn, .bool x14.fControl, .int .i64 x14.fLast, .int .i64 x14.fFirst, .int .i64 x14.fMax, .int .i64 x14.fProducer, .int .i64 x14.fEpoch, .int .i64 x14.fSequence, .slice A18 x14.fRecords.length c19]) 0 rfl Try.isAgg25 Try.sizeOf25 rfl rfl rfl) rfl ?_
              obtain ⟨x31, hx32, h⟩ := Option.bind_eq_some_iff.1 h
              refine TL.ce rfl .u (.fn Try.call13 rfl) (f_r11_Check_spec x14 _ _ _ hx32) (fun _ hs => (SrcE.old hs hX20)) rfl ?_
              refine TL.run ft_cursitorlaw11_ok [2] rfl rfl ?_
              cases h
              exact TL.nil (X.jq [0, 0] ⟨rfl, rfl⟩ (by rfl) (by rfl))
            · replace h := ifF c30 h
              refine T.no rfl (decide_eq_false c30) ?_
              cases h
              exact T.skip (X.jq [0, 0] ⟨rfl, rfl⟩ (by rfl) (by rfl))
          · rintro _ _ ⟨rfl, rfl⟩
            clear h
            have h := hk29
            clear hk29
            try dsimp only at h
            refine X.blk (X.seq (T.region rfl ?_))
            refine TL.q rfl .u (Ex.add rfl rfl (by omega)) rfl ?_
            refine TL.run ft_cursitorlaw11_ok [1] rfl rfl ?_
            exact TL.nil (X.back (m' := m13) [1] (by omega) ⟨y7, y28, k9 + 1, by omega, rfl, rfl, h⟩ (by rfl) (by rfl))
  · replace h := ifF c5 h
    replace c5 := eq_false_of_ne_true c5
    refine TL.nil (X.seq ?_)
    refine T.yes rfl (bn_t c5) ?_
    exact nomatch h
end Go.Proofs.Ytcoppaggpbfcmaa.Sl
namespace Go.Proofs.Ytcoppaggpbfcmaa.Sl
open Go.RowKit
set_option linter.unusedVariables false
set_option linter.unusedSimpArgs false
theorem small_l2 (y : Int) : ∀ l : List Hd, (∀ h, h ∈ l → wf_Hd h) → (f_l11_Small_l2 l y = some (.ret 0)) ∨ (f_l11_Small_l2 l y = some (.go y) ∧ ∀ h, h ∈ l → h.fKey.length + h.fValue.data.length ≤ 100)
  | [], h => .inr ⟨rfl, fun x h => nomatch h⟩
  | x :: l, h => by
    have hx := h x (.head _)
    have h1 : x.fKey.length ≤ 140737488351232 := hx.1
    have h2 : x.fValue.data.length ≤ 140737488351232 := hx.2.2
    rw [f_l11_Small_l2, if_pos (by omega)]
    by_cases hc : (x.fKey.length : Int) + (x.fValue.data.length : Int) > 100
    · rw [if_pos hc]
      exact .inl rfl
    · rw [if_neg hc]
      rcases small_l2 y l (fun z hz => h z (.tail _ hz)) with g | ⟨g, g2⟩
      · exact .inl g
      · refine .inr ⟨g, fun z hz => ?_⟩
        rcases List.mem_cons.1 hz with rfl | hz
        · omega
        · exact g2 z hz
theorem small_l1 (y : Int) : ∀ l : List Rec, (∀ r, r ∈ l → wf_Rec r) → (f_l11_Small_l1 l y = some (.ret 0)) ∨ (f_l11_Small_l1 l y = some (.go y) ∧ ∀ r, r ∈ l → r.fKey.data.length + r.fValue.data.length ≤ 100 ∧ r.fHeaders.length ≤ 6 ∧ ∀ h, h ∈ r.fHeaders → h.fKey.length + h.fValue.data.length ≤ 100)
  | [], h => .inr ⟨rfl, fun x h => nomatch h⟩
  | x :: l, h => by
    obtain ⟨h1, h2, h3, h4, h5⟩ := h x (.head _)
    have h6 : x.fKey.data.length ≤ 140737488351232 := h3.2
    have h7 : x.fValue.data.length ≤ 140737488351232 := h4.2
    rw [f_l11_Small_l1, if_pos (by omega)]
    by_cases hc : (x.fKey.data.length : Int) + (x.fValue.data.length : Int) > 100
    · rw [if_pos hc]
      exact .inl rfl
    rw [if_neg hc]
    by_cases hd : (x.fHeaders.length : Int) > 6
    · rw [if_pos hd]
      exact .inl rfl
    rw [if_neg hd]
    rcases small_l2 y x.fHeaders h5.2 with g | ⟨g, g2⟩
    · rw [g]
      exact .inl rfl
    · rw [g, Option.bind_some]
      simp only
      rcases small_l1 y l (fun z hz => h z (.tail _ hz)) with k | ⟨k, k2⟩
      · exact .inl k
      · refine .inr ⟨k, fun z hz => ?_⟩
        rcases List.mem_cons.1 hz with rfl | hz
        · exact ⟨by omega, by omega, g2⟩
        · exact k2 z hz
theorem small11 (a : Bat) (hw : wf_Bat a) : f_l11_Small a = some 0 ∨ (f_l11_Small a = some 1 ∧ a.fRecords.length ≤ 12 ∧ ∀ r, r ∈ a.fRecords → r.fKey.data.length + r.fValue.data.length ≤ 100 ∧ r.fHeaders.length ≤ 6 ∧ ∀ h, h ∈ r.fHeaders → h.fKey.length + h.fValue.data.length ≤ 100) := by
  unfold f_l11_Small
  by_cases hc : (a.fRecords.length : Int) > 12
  · rw [if_pos hc]
    exact .inl rfl
  rw [if_neg hc]
  rcases small_l1 0 a.fRecords hw.2.2.2.2.2.2.2.2.2.2.2.2 with g | ⟨g, g2⟩
  · rw [g]
    exact .inl rfl
  · rw [g]
    exact .inr ⟨rfl, by omega, g2⟩
end Go.Proofs.Ytcoppaggpbfcmaa.Sl
namespace Go.Proofs.Ytcoppaggpbfcmaa.Sl
open Go.RowKit
set_option linter.unusedVariables false
set_option linter.unusedSimpArgs false
theorem speaks11 : f_l11_speaks = some true := by kernel_rfl
theorem bnB_small {a : Bat} (hw : wf_Bat a) (h1 : a.fRecords.length ≤ 12) (h2 : ∀ r, r ∈ a.fRecords → r.fKey.data.length + r.fValue.data.length ≤ 100 ∧ r.fHeaders.length ≤ 6 ∧ ∀ h, h ∈ r.fHeaders → h.fKey.length + h.fValue.data.length ≤ 100) : bnB a :=
  ⟨hw, by omega, fun r hr => by have := h2 r hr; exact ⟨by omega, by omega, by omega⟩⟩
theorem hwts_le : ∀ (l : List Hd), (∀ h, h ∈ l → h.fKey.length + h.fValue.data.length ≤ 100) → hwts l ≤ 120 * l.length
  | [], _ => Nat.zero_le _
  | x :: l, h => by
    have h1 := h x (.head _)
    have h2 := hwts_le l (fun y hy => h y (.tail _ hy))
    rw [hwts, hwt, List.length_cons]
    omega
theorem encs_le {α : Type} (enc : α → List UInt8) (n : Nat) : ∀ (l : List α), (∀ x, x ∈ l → (enc x).length ≤ n) → (encs enc l).length ≤ n * l.length
  | [], _ => Nat.zero_le _
  | x :: l, h => by
    have h1 := h x (.head _)
    have h2 := encs_le enc n l (fun y hy => h y (.tail _ hy))
    rw [encs, List.length_append, List.length_cons, Nat.mul_succ]
    omega
theorem smB_small {a : Bat} (hw : wf_Bat a) (h1 : a.fRecords.length ≤ 12) (h2 : ∀ r, r ∈ a.fRecords → r.fKey.data.length + r.fValue.data.length ≤ 100 ∧ r.fHeaders.length ≤ 6 ∧ ∀ h, h ∈ r.fHeaders → h.fKey.length + h.fValue.data.length ≤ 100) : smB a ∧ (body a).length ≤ 12000 := by
  have hr : ∀ r, r ∈ a.fRecords → rwt r ≤ 900 := fun r hr => by
    obtain ⟨k1, k2, k3⟩ := h2 r hr
    have := hwts_le r.fHeaders k3
    unfold rwt
    omega
  have hl : (body a).length ≤ 12000 := by
    have h3 := encs_le encRec 1000 a.fRecords (fun x hx => by
      have h4 := hw.2.2.2.2.2.2.2.2.2.2.2.2 x hx
      have h5 := hr x hx
      have := encRec_len x h4.1 h4.2.1 (by omega)
      omega)
    unfold body
    omega
  exact ⟨⟨bnB_small hw h1 h2, fun r hr2 => by have := hr r hr2; omega, by omega⟩, hl⟩
end Go.Proofs.Ytcoppaggpbfcmaa.Sl
namespace Go.Proofs.Ytcoppaggpbfcmaa.Sl
open Go.RowKit
set_option linter.unusedVariables false
set_option linter.unusedSimpArgs false
def firstB : Int → List Bat → Int
  | w, [] => w
  | w, x :: l => firstB (if w = 0 then chk x else w) l
theorem firstB_ne {w : Int} (h : w ≠ 0) : ∀ l : List Bat, firstB w l = w
  | [] => rfl
  | x :: l => by rw [firstB, if_neg h, firstB_ne h l]
theorem firstB_zero : ∀ {l : List Bat}, firstB 0 l = 0 → ∀ x, x ∈ l → chk x = 0
  | y :: l, h, x, hx => by
    rw [firstB, if_pos rfl] at h
    by_cases hc : chk y = 0
    · rw [hc] at h
      rcases List.mem_cons.1 hx with rfl | hx
      · exact hc
      · exact firstB_zero h x hx
    · rw [firstB_ne hc] at h
      exact absurd h hc
theorem all_l1 (y4 : List UInt8) (y5 : Int) : ∀ (l : List Bat) (t : List UInt8), (∀ x, x ∈ l → smB x) → t.length + 1000000 * l.length ≤ 1000000000 →
    f_batch_All_l1 l y4 y5 t = some (if firstB 0 l = 0 then .go (y4, y5, t ++ encs encB l) else .ret ([], firstB 0 l))
  | [], t, _, _ => by rw [encs, List.append_nil]; rfl
  | x :: l, t, h, hl => by
    have hx := h x (.head _)
    rw [List.length_cons] at hl
    rw [f_batch_All_l1, benc hx, Option.bind_some, firstB, if_pos rfl]
    by_cases hc : chk x = 0
    · have he := encB_len (okB_of hx hc)
      have hx2 := hx.2.2
      rw [if_pos hc]
      dsimp only
      rw [if_pos rfl, gBWrite_eq _ _ (by omega), Option.bind_some, all_l1 y4 y5 l _ (fun y hy => h y (.tail _ hy)) (by rw [List.length_append]; omega), hc, encs, List.append_assoc]
    · rw [if_neg hc, firstB_ne hc]
      dsimp only
      rw [if_neg hc, if_neg hc]
theorem all_eq {l : List Bat} (h : ∀ x, x ∈ l → smB x) (hl : l.length ≤ 1000) : f_batch_All l = some (if firstB 0 l = 0 then (encs encB l, 0) else ([], firstB 0 l)) := by
  unfold f_batch_All
  rw [all_l1 [] 0 l [] h (by rw [List.length_nil]; omega), Option.bind_some]
  by_cases hc : firstB 0 l = 0
  · rw [if_pos hc, if_pos hc]
    dsimp only
    rw [gBStr_eq, Option.bind_some, List.nil_append]
  · rw [if_neg hc, if_neg hc]
theorem rows_l1 (y : Bool) : ∀ (l : List Bat) (w : Int), (∀ x, x ∈ l → wf_Bat x) → f_l11_BatchRows_l1 l y w = some (.ret true) ∨ (f_l11_BatchRows_l1 l y w = some (.go (y, firstB w l)) ∧ ∀ x, x ∈ l → smB x ∧ (body x).length ≤ 12000)
  | [], w, _ => .inr ⟨rfl, fun x h => nomatch h⟩
  | x :: l, w, h => by
    rw [f_l11_BatchRows_l1]
    rcases small11 x (h x (.head _)) with g | ⟨g, g1, g2⟩
    · rw [g]
      exact .inl rfl
    obtain ⟨hb, hl⟩ := smB_small (h x (.head _)) g1 g2
    rw [g, Option.bind_some, if_neg (by decide), (chk_eq hb.1).2, Option.bind_some]
    have e : ((if w = 0 then some (chk x) else some w) : Option Int) = some (if w = 0 then chk x else w) := by split <;> rfl
    rw [e, Option.bind_some, firstB]
    rcases rows_l1 y l (if w = 0 then chk x else w) (fun z hz => h z (.tail _ hz)) with k | ⟨k, k2⟩
    · exact .inl k
    · refine .inr ⟨k, fun z hz => ?_⟩
      rcases List.mem_cons.1 hz with rfl | hz
      · exact ⟨hb, hl⟩
      · exact k2 z hz
theorem read_one {s : List UInt8} (hs : s.length ≤ 1000000) {q : Nat} (hq : q ≤ s.length) {x : Bat} (hx : okB x) {t : List UInt8} (hd : s.drop q = encB x ++ t) : f_batch_Read ⟨s.drop q, q, 0⟩ = some (x, ⟨s.drop (q + (encB x).length), q + (encB x).length, 0⟩) ∧ q + (encB x).length ≤ s.length := by
  have hb := Sp_bat.back s t q x hq hx hd
  rcases B_bat.run s q hs hq with ⟨e, st, p1, g1, x1, y1⟩ | ⟨b, r, p1, g1, n1, l1⟩
  · rw [hb] at p1
    exact nomatch p1
  · rw [hb] at p1
    have p2 := Except.ok.inj p1
    have e1 : x = b := congrArg Prod.fst p2
    have e2 : q + (encB x).length = r := congrArg Prod.snd p2
    subst e1 e2
    exact ⟨g1, l1⟩
theorem rows_l2 (a0 : List Bat) (y : Bool) (x0 : Bat) (h0 : a0[0]? = some x0) (s : List UInt8) (hs : s.length ≤ 1000000) : ∀ (l : List Bat) (q : Nat), (∀ x, x ∈ l → okB x ∧ bnB x) → q ≤ s.length → s.drop q = encs encB l →
    f_l11_BatchRows_l2 a0 l y ⟨s.drop q, q, 0⟩ = some (.go (y, ⟨[], s.length, 0⟩))
  | [], q, _, hq, hd => by
    rw [encs] at hd
    have := List.drop_eq_nil_iff.1 hd
    rw [hd, f_l11_BatchRows_l2, show q = s.length by omega]
  | x :: l, q, ho, hq, hd => by
    obtain ⟨hx, hb⟩ := ho x (.head _)
    rw [encs] at hd
    obtain ⟨r1, r2⟩ := read_one hs hq hx hd
    have hw : ∀ z, z ∈ x.fRecords → z.fHeaders.length ≤ 1000000 := fun z hz => (hb.2.2 z hz).1
    rw [f_l11_BatchRows_l2, r1, Option.bind_some]
    dsimp only
    rw [r11_same hb.2.1 hw, Option.bind_some, sameB_refl, if_pos rfl, h0, Option.bind_some, batch_same_eq, Option.bind_some, r11_same hb.2.1 hw, Option.bind_some, if_pos (beq_self_eq_true _), Option.bind_some, if_neg (by decide)]
    exact rows_l2 a0 y x0 h0 s hs l _ (fun z hz => ho z (.tail _ hz)) r2 (drop_step hd)
theorem pure_BatchRows (a0 : List Bat) (w0 : wL wf_Bat a0) : f_l11_BatchRows a0 = some true := by
  unfold f_l11_BatchRows
  rw [speaks11, Option.bind_some, if_pos rfl]
  by_cases h8 : (a0.length : Int) > 8
  · rw [if_pos h8]
  rw [if_neg h8]
  rcases rows_l1 false a0 0 w0.2 with g | ⟨g, g2⟩
  · rw [g]
    rfl
  rw [g, Option.bind_some]
  dsimp only
  rw [all_eq (fun x hx => (g2 x hx).1) (by omega), Option.bind_some]
  by_cases hc : firstB 0 a0 = 0
  rotate_left
  · rw [if_neg hc]
    try dsimp only
    rw [if_neg hc, if_pos rfl, if_pos rfl]
    rfl
  rw [if_pos hc]
  try dsimp only
  have ho : ∀ x, x ∈ a0 → okB x ∧ bnB x := fun x hx => ⟨okB_of (g2 x hx).1 (firstB_zero hc x hx), (g2 x hx).1.1⟩
  have hlen : (encs encB a0).length ≤ 13000 * a0.length := encs_le encB 13000 a0 (fun x hx => by have := encB_len (ho x hx).1; have := (g2 x hx).2; omega)
  have hs : (encs encB a0).length ≤ 1000000 := by omega
  rw [if_pos hc, gNew_eq _ (show (encs encB a0).length ≤ 9223372036854775807 by omega), Option.bind_some]
  cases a0 with
  | nil => rfl
  | cons x0 l0 =>
    have := rows_l2 (x0 :: l0) false x0 rfl (encs encB (x0 :: l0)) hs (x0 :: l0) 0 ho (Nat.zero_le _) (by rw [List.drop_zero])
    rw [List.drop_zero] at this
    rw [this, Option.bind_some]
    dsimp only
    rw [if_pos rfl, gClose_z, Option.bind_some]
    rfl
end Go.Proofs.Ytcoppaggpbfcmaa.Sl
namespace Go.Proofs.Ytcoppaggpbfcmaa.Sl
open Go.RowKit Go.Deep Go.ChangeShapes
set_option linter.unusedVariables false
theorem op_Bl {H : Type} {enc : TypeId × Value → H} : OpensW enc Try.prog 30 (andRd Bl_rd wf_Bl) :=
  opensW_weak (fun x => ⟨x.1, x.2.1⟩) (opensW_struct Try.underlying30 (by kernel_rfl) (opensWFs_cons 1 (by kernel_rfl) (by kernel_rfl) (op_bool Try.underlying4) (opensWFs_cons 1 (by kernel_rfl) (by kernel_rfl) (op_str Try.underlying9) (opensWFs_nil _)))) (by
    rintro w S cs ⟨x0, x1, _⟩ ⟨_, _, rfl, ⟨p0, q0⟩, _, _, rfl, ⟨p1, q1⟩, rfl⟩
    obtain rfl := p0
    obtain rfl := p1
    exact ⟨rfl, q0, q1⟩)
theorem op_Hd {H : Type} {enc : TypeId × Value → H} : OpensW enc Try.prog 81 (andRd Hd_rd wf_Hd) :=
  opensW_weak (fun x => ⟨x.1, x.2.1⟩) (opensW_struct Try.underlying81 (by kernel_rfl) (opensWFs_cons 1 (by kernel_rfl) (by kernel_rfl) (op_str Try.underlying9) (opensWFs_cons 2 (by kernel_rfl) (by kernel_rfl) op_Bl (opensWFs_nil _)))) (by
    rintro w S cs ⟨x0, x1, _⟩ ⟨_, _, rfl, ⟨p0, q0⟩, _, _, rfl, ⟨p1, q1⟩, rfl⟩
    obtain rfl := p0
    obtain rfl := p1
    exact ⟨rfl, q0, q1⟩)
theorem op_Rec {H : Type} {enc : TypeId × Value → H} : OpensW enc Try.prog 33 (andRd Rec_rd wf_Rec) :=
  opensW_weak (fun x => ⟨x.1, x.2.1, x.2.2.1, x.2.2.2.1, x.2.2.2.2.1⟩) (opensW_struct Try.underlying33 (by kernel_rfl) (opensWFs_cons 1 (by kernel_rfl) (by kernel_rfl) (op_i64 Try.underlying3) (opensWFs_cons 1 (by kernel_rfl) (by kernel_rfl) (op_i64 Try.underlying3) (opensWFs_cons 2 (by kernel_rfl) (by kernel_rfl) op_Bl (opensWFs_cons 2 (by kernel_rfl) (by kernel_rfl) op_Bl (opensWFs_cons 1 (by kernel_rfl) (by kernel_rfl) (op_slice 3 40 Try.underlying31 (by kernel_rfl) (by kernel_rfl) (by decide) (by decide) op_Hd) (opensWFs_nil _))))))) (by
    rintro w S cs ⟨x0, x1, x2, x3, x4, _⟩ ⟨_, _, rfl, ⟨p0, q0⟩, _, _, rfl, ⟨p1, q1⟩, _, _, rfl, ⟨p2, q2⟩, _, _, rfl, ⟨p3, q3⟩, _, _, rfl, ⟨p4, q4⟩, rfl⟩
    obtain rfl := p0
    obtain rfl := p1
    obtain rfl := p2
    obtain rfl := p3
    obtain ⟨A4, c4, rfl⟩ := slice_cells p4
    exact ⟨⟨A4, c4, rfl, p4⟩, q0, q1, q2, q3, q4⟩)
theorem op_Bat {H : Type} {enc : TypeId × Value → H} : OpensW enc Try.prog 25 (andRd Bat_rd wf_Bat) :=
  opensW_weak (fun x => ⟨x.1, x.2.1, x.2.2.1, x.2.2.2.1, x.2.2.2.2.1, x.2.2.2.2.2.1, x.2.2.2.2.2.2.1, x.2.2.2.2.2.2.2.1, x.2.2.2.2.2.2.2.2.1, x.2.2.2.2.2.2.2.2.2.1, x.2.2.2.2.2.2.2.2.2.2.1, x.2.2.2.2.2.2.2.2.2.2.2.1⟩) (opensW_struct Try.underlying25 (by kernel_rfl) (opensWFs_cons 1 (by kernel_rfl) (by kernel_rfl) (op_i64 Try.underlying3) (opensWFs_cons 1 (by kernel_rfl) (by kernel_rfl) (op_i64 Try.underlying3) (opensWFs_cons 1 (by kernel_rfl) (by kernel_rfl) (op_bool Try.underlying4) (opensWFs_cons 1 (by kernel_rfl) (by kernel_rfl) (op_bool Try.underlying4) (opensWFs_cons 1 (by kernel_rfl) (by kernel_rfl) (op_bool Try.underlying4) (opensWFs_cons 1 (by kernel_rfl) (by kernel_rfl) (op_i64 Try.underlying3) (opensWFs_cons 1 (by kernel_rfl) (by kernel_rfl) (op_i64 Try.underlying3) (opensWFs_cons 1 (by kernel_rfl) (by kernel_rfl) (op_i64 Try.underlying3) (opensWFs_cons 1 (by kernel_rfl) (by kernel_rfl) (op_i64 Try.underlying3) (opensWFs_cons 1 (by kernel_rfl) (by kernel_rfl) (op_i64 Try.underlying3) (opensWFs_cons 1 (by kernel_rfl) (by kernel_rfl) (op_i64 Try.underlying3) (opensWFs_cons 1 (by kernel_rfl) (by kernel_rfl) (op_slice 7 88 Try.underlying23 (by kernel_rfl) (by kernel_rfl) (by decide) (by decide) op_Rec) (opensWFs_nil _)))))))))))))) (by
    rintro w S cs ⟨x0, x1, x2, x3, x4, x5, x6, x7, x8, x9, x10, x11, _⟩ ⟨_, _, rfl, ⟨p0, q0⟩, _, _, rfl, ⟨p1, q1⟩, _, _, rfl, ⟨p2, q2⟩, _, _, rfl, ⟨p3, q3⟩, _, _, rfl, ⟨p4, q4⟩, _, _, rfl, ⟨p5, q5⟩, _, _, rfl, ⟨p6, q6⟩, _, _, rfl, ⟨p7, q7⟩, _, _, rfl, ⟨p8, q8⟩, _, _, rfl, ⟨p9, q9⟩, _, _, rfl, ⟨p10, q10⟩, _, _, rfl, ⟨p11, q11⟩, rfl⟩
    obtain rfl := p0
    obtain rfl := p1
    obtain rfl := p2
    obtain rfl := p3
    obtain rfl := p4
    obtain rfl := p5
    obtain rfl := p6
    obtain rfl := p7
    obtain rfl := p8
    obtain rfl := p9
    obtain rfl := p10
    obtain ⟨A11, c11, rfl⟩ := slice_cells p11
    exact ⟨⟨A11, c11, rfl, p11⟩, q0, q1, q2, q3, q4, q5, q6, q7, q8, q9, q10, q11⟩)
end Go.Proofs.Ytcoppaggpbfcmaa.Sl
namespace Go.Proofs.Ytcoppaggpbfcmaa.batchRows
open Go.ChangeShapes Go.WideShapes Go.ChangeAt Go.RowKit
open Go.ChangeMaps (open_string shut_string)
set_option linter.unusedVariables false
theorem own : ownKnob Try.prog.godebug = none := by kernel_rfl
theorem laidOut : laidOutB Try.prog = true := by kernel_rfl
set_option maxRecDepth 100000 in
set_option maxHeartbeats 1000000 in
theorem lifted (os : Os) (started : os.Started) (H : Type) (enc : TypeId × Value → H) :
    ReturnsInHanded {} Try.checked os 6 .any (Rows.batchRowsSpec.pre6 enc Try.prog Try.f6 Rows.batchRowsRow.domain false) (Rows.batchRowsSpec.post enc Try.prog Try.f6 false true false false) := by
  refine returnsInHanded_of_change_sized (C := Try.checked) own started (by kernel_rfl) Try.func6
    (ChangeSpec.witness6 (enc := enc) (C := Try.checked) false ⟨#[], #[.slice none 0 0], []⟩ 8 (by kernel_rfl) (by kernel_rfl) (by kernel_rfl) (by kernel_rfl)) ?_
  intro W base args ds gs before hval0 hW hcnd hsz0 _
  have hsz : (DataW.weightsEach Try.prog (Try.f6.params.toList ++ Rows.batchRowsSpec.plain.varTypes Try.prog) (ds ++ gs)).all (· ≤ reachBytes) = true := hsz0
  have hval : ∀ (j : Nat) t v, Try.f6.params[j]? = some t → args[j]? = some v → Value.okWide Try.prog W .any base t v := hval0
  have hW' := hW
  obtain ⟨p, q, hA0, hV, rfl, hfz, hnd⟩ := hW
  have hA : DataW.TrodAll enc Try.prog W 0 (fun _ => true) true Try.f6.params.toList args.toList ds p := hA0
  rw [Try.params6] at hA hval hsz
  obtain ⟨v0, vs0, d0, ds0, p0, q0, hargs, rfl, rfl, h0, r0⟩ := trodAll_cons hA
  obtain ⟨rfl, rfl, rfl⟩ := trodAll_nil r0
  obtain rfl : args = #[v0] := by cases args; simp_all
  obtain ⟨rfl, rfl⟩ := trodVars_none hV
  have k0 := h0
  have lt0 : ∀ x ∈ p0, x.block < W.heap.size := by obtain ⟨m, hm⟩ := k0; exact DataW.trod_lt m _ _ _ hm
  obtain ⟨a0, r_0, w0⟩ := Sl.opens_arg1 Try.underlying46 (hval 0 46 v0 rfl rfl) (Sl.op_slice 12 96 Try.underlying46 (by kernel_rfl) (by kernel_rfl) (by decide) (by decide) Sl.op_Bat) h0 (fun x hx => of_decide_eq_true (List.all_eq_true.1 hsz x (Sl.weights_in 0 rfl rfl hx)))
  obtain ⟨A0, c0, e0⟩ := Sl.slice_cells r_0
  injection e0 with e0
  subst e0
  clear hA0 hval0 hsz0 hsz
  refine (Sl.f_l11_BatchRows_spec a0 A0 c0 true (Sl.pure_BatchRows a0 w0) (fun _ => False) W (fun _ h => h) (Sl.RX.reads_all r_0)).mono fun e W' hP => ?_
  obtain ⟨v, A', Ns, rfl, ⟨rfl, rfl, rfl⟩, hst⟩ := hP
  have bel := Sl.St.below hst
  exact ⟨_, rfl, _, _, _, [], _, [], hW', trodAll_mk1 (shut_bool Try.underlying4 _), (trodAll_cons_mk (Below.trod laidOut (by kernel_rfl) (of_decide_eq_true (by kernel_rfl)) k0 bel lt0) trodAll_mk0), rfl, bel.frame _, fun h => by cases h⟩
theorem over : Rows.batchRowsRow.holds Try.pinned (OpenSpec.ofChange Rows.batchRowsSpec) :=
  OpenClaim.holds_of_wide 6 Try.f6 rfl rfl rfl rfl rfl rfl rfl ⟨rfl, rfl, rfl, rfl, rfl⟩ rfl rfl rfl rfl rfl (by kernel_rfl) Try.func6 (by kernel_rfl)
    (of_decide_eq_true (by kernel_rfl)) (by unfold Func.isWrapper; first | (rw [if_pos (by decide +kernel)]; kernel_rfl) | (rw [if_neg (by decide +kernel)]; exact ⟨rfl, rfl⟩))
    (fun os started H enc _ => lifted os started H enc)
theorem proved : Rows.BatchRowsSaid := over
end Go.Proofs.Ytcoppaggpbfcmaa.batchRows
namespace Go.Proofs.Ytcoppaggpbfcmaa
theorem batchRows_holds : Rows.BatchRowsSaid := batchRows.proved
end Go.Proofs.Ytcoppaggpbfcmaa
