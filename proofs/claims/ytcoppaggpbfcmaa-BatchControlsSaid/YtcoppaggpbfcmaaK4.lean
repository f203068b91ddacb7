/- BatchControls: for every input the law returns true, and its arguments read behind the call as they did before. -/
import Derived.KernelRfl
import Derived.Test.YtcoppaggpbfcmaaRows
import Derived.WalkKit
import Derived.ProofKit
import Derived.OpenShut
import Derived.ShutString
import Derived.ChangeOld
import Derived.Below
import Derived.SizedLaws
import Derived.Test.YtcoppaggpbfcmaaK3
namespace Go.Proofs.Ytcoppaggpbfcmaa.Sl
open Go.RowKit
set_option linter.unusedVariables false
set_option linter.unusedSimpArgs false
def wrI : List Nat → List Int → List UInt8 × Int → Option (List UInt8 × Int)
  | k :: ks, x :: xs, st => (gOInt st x (k : Int)).bind fun st => wrI ks xs st
  | _, _, st => some st
theorem wrI_ok : ∀ (ks : List Nat) (l : List Int) (t : List UInt8), okI ks l → t.length + ks.sum ≤ 1000000 → wrI ks l (t, 0) = some (t ++ encI ks l, 0)
  | [], [], t, _, _ => by unfold wrI encI; rw [List.append_nil]
  | [], _ :: _, _, h, _ => nomatch h
  | _ :: _, [], _, h, _ => nomatch h
  | k :: ks, x :: xs, t, h, hl => by
    rw [List.sum_cons] at hl
    rw [wrI, gOInt_z h.1 (by omega), Option.bind_some, Int.toNat_natCast, wrI_ok ks xs _ h.2 (by rw [List.length_append, be_length]; omega), encI, List.append_assoc]
def w32 (n : Int) : Int := IntKind.i32.wrap (IntKind.u32.wrap n)
theorem w32_rng (n : Int) : -2147483648 ≤ w32 n ∧ w32 n ≤ 2147483647 := by
  unfold w32
  rw [IntKind.wrap_i32]
  omega
theorem w32_s {n : Int} (h : 0 ≤ n ∧ n ≤ 4294967295) : w32 n = s32 n := by
  unfold w32 s32
  rw [IntKind.wrap_i32, IntKind.wrap_u32]
  split <;> omega
def toW (p : Pfx) : List Int := [p.fBase, p.fLength, p.fLeader, 2, w32 p.fSum, p.fAttr, p.fLast, p.fFirst, p.fMax, p.fProducer, p.fEpoch, p.fSequence, p.fCount]
theorem write_eq (st : List UInt8 × Int) (p : Pfx) : f_prefix_Write st p = wrI KS (toW p) (if p.fSum < 0 ∨ p.fSum > 4294967295 then ofail st 11 else st) := by
  have hw := w32_rng p.fSum
  unfold f_prefix_Write
  have e : ((if p.fSum < 0 then some true else (if p.fSum > 4294967295 then some true else some false)).bind fun y4 => (if y4 = true then ((gOFail st 11).bind fun st14 => some st14) else some st)) = some (if p.fSum < 0 ∨ p.fSum > 4294967295 then ofail st 11 else st) := by
    by_cases h1 : p.fSum < 0
    · rw [if_pos h1, Option.bind_some, if_pos rfl, if_pos (.inl h1)]; rfl
    · rw [if_neg h1]
      by_cases h2 : p.fSum > 4294967295
      · rw [if_pos h2, Option.bind_some, if_pos rfl, if_pos (.inr h2)]; rfl
      · rw [if_neg h2, Option.bind_some, if_neg (by decide), if_neg (by omega)]
  have e2 : ∀ (K : List UInt8 × Int → Option (List UInt8 × Int)), ((if p.fSum < 0 then some true else (if p.fSum > 4294967295 then some true else some false)).bind fun y4 => (if y4 = true then ((gOFail st 11).bind fun st14 => some st14) else some st).bind K) = K (if p.fSum < 0 ∨ p.fSum > 4294967295 then ofail st 11 else st) := by
    intro K
    rw [← Option.bind_assoc, e, Option.bind_some]
  rw [e2]
  show (if -9223372036854775808 ≤ w32 p.fSum ∧ w32 p.fSum ≤ 9223372036854775807 then _ else _) = _
  rw [if_pos (by omega)]
  rfl
def okW (p : Pfx) : Prop := okI KS (toL p) ∧ 0 ≤ p.fSum ∧ p.fSum ≤ 4294967295
theorem encP_len {p : Pfx} (h : okI KS (toL p)) : (encP p).length = 61 := by
  unfold encP
  rw [encI_len h]
  rfl
theorem write_ok {p : Pfx} (t : List UInt8) (h : okW p) (ht : t.length ≤ 900000) : f_prefix_Write (t, 0) p = some (t ++ encP p, 0) := by
  have e : toW p = toL p := by
    unfold toW toL
    rw [w32_s h.2]
  have h2 := h.2
  rw [write_eq, if_neg (by omega), e]
  exact wrI_ok KS (toL p) t h.1 (by show t.length + 61 ≤ _; omega)
end Go.Proofs.Ytcoppaggpbfcmaa.Sl
namespace Go.Proofs.Ytcoppaggpbfcmaa.Sl
open Go.RowKit
set_option linter.unusedVariables false
set_option linter.unusedSimpArgs false
theorem gVaried_d {st : I} (h : st.err ≠ 0) : gVaried st = some (⟨false, []⟩, st) := QV.dead st h
theorem gName_d {st : I} (h : st.err ≠ 0) : gName st = some ([], st) := QN.dead st h
theorem Q_vint : CQ gVInt (pVint 32) 0 := (CR_vint 32 (.inl rfl)).cq (Sp_vint 32 (.inl rfl))
theorem gVInt_d {st : I} (h : st.err ≠ 0) : gVInt st = some (0, st) := Q_vint.dead st h
def pCountV (each : Nat) : Pr Int := (pVint 32).bind (pLeft each)
theorem pCountV_ok {each : Nat} {s : List UInt8} {q r : Nat} {n : Int} (hq : q ≤ s.length) (h : pCountV each s q = .ok (n, r)) : 0 ≤ n ∧ (0 < each → n * each ≤ ((s.length - r : Nat) : Int)) ∧ q ≤ r ∧ r = q + (vput (vfold n)).length ∧ r ≤ s.length ∧ s.take r = s.take q ++ vput (vfold n) ∧ vfold n < 2 ^ (32 : Int).toNat := by
  obtain ⟨m, r', h2, h⟩ := Pr.bind_ok h
  obtain ⟨a1, a2, a3, a4, a5⟩ := (Sp_vint 32 (.inl rfl)).spell _ _ _ _ hq h2
  unfold pLeft at h
  split at h
  · exact nomatch h
  · rename_i hn
    split at h
    · exact nomatch h
    · rename_i he
      injection h with h
      obtain ⟨rfl, rfl⟩ := Prod.mk.inj h
      refine ⟨by omega, fun hz => ?_, a1, a3, a2, a4, a5⟩
      have : m ≤ ((s.length - r' : Nat) : Int) / each := by
        rcases Int.lt_or_le (((s.length - r' : Nat) : Int) / each) m with g | g
        · exact absurd ⟨hz, g⟩ he
        · exact g
      exact (Int.le_ediv_iff_mul_le (by omega)).1 this
theorem pCountV_of {each : Nat} {s t : List UInt8} {q : Nat} {n : Int} (hq : q ≤ s.length) (hf : vfold n < 2 ^ (32 : Int).toNat) (hn : 0 ≤ n) (h : s.drop q = vput (vfold n) ++ t) (hl : 0 < each → n * each ≤ t.length) : pCountV each s q = .ok (n, q + (vput (vfold n)).length) := by
  have g := (Sp_vint 32 (.inl rfl)).back s t q n hq hf h
  rw [pCountV, Pr.bind_of g]
  unfold pLeft
  have hlen := congrArg List.length h
  rw [List.length_drop, List.length_append] at hlen
  rw [if_neg (by omega), if_neg]
  rintro ⟨hz, hc⟩
  have := (Int.le_ediv_iff_mul_le (show (0 : Int) < each by omega)).2 (hl hz)
  rw [show s.length - (q + (vput (vfold n)).length) = t.length by omega] at hc
  omega
def pRowV {α : Type} (each : Nat) (p : Pr α) : Pr (List α) := (pCountV each).bind fun n => pRep p n.toNat
theorem Sp_rowV {α : Type} {p : Pr α} {enc : α → List UInt8} {ok : α → Prop} (each : Nat) (hp : Sp p enc ok) (he : ∀ x, ok x → each ≤ (enc x).length) : Sp (pRowV each p) (fun l => vput (vfold (l.length : Int)) ++ encs enc l) (fun l => vfold (l.length : Int) < 2 ^ (32 : Int).toNat ∧ ∀ x, x ∈ l → ok x) := by
  refine ⟨fun s q a r hq h => ?_, fun s t q a hq ha h => ?_⟩
  · obtain ⟨n, q1, g1, h⟩ := Pr.bind_ok h
    obtain ⟨a1, a2, a3, a4, a5, a6, a7⟩ := pCountV_ok hq g1
    obtain ⟨b1, b2, b3, b4, b5, b6⟩ := (Sp_rep hp n.toNat).spell _ _ _ _ a5 h
    have hn : (a.length : Int) = n := by omega
    refine ⟨by omega, b2, by rw [List.length_append, hn]; omega, by rw [b4, a6, hn, List.append_assoc], by rw [hn]; exact a7, b6⟩
  · rw [List.append_assoc] at h
    have hl := congrArg List.length h
    rw [List.length_drop, List.length_append, List.length_append] at hl
    have g1 := pCountV_of (each := each) hq ha.1 (by omega) h (fun _ => by
      have := encs_ge he a ha.2
      rw [List.length_append, Int.natCast_add, ← Int.natCast_mul]
      omega)
    have h2 := drop_step h
    have g2 := (Sp_rep hp a.length).back _ _ _ _ (by omega) ⟨rfl, ha.2⟩ h2
    rw [pRowV, Pr.bind_of g1, Int.toNat_natCast, g2, List.length_append]
    simp only [Nat.add_assoc]
end Go.Proofs.Ytcoppaggpbfcmaa.Sl
namespace Go.Proofs.Ytcoppaggpbfcmaa.Sl
open Go.RowKit
set_option linter.unusedVariables false
set_option linter.unusedSimpArgs false
def pHd : Pr Hd := pName.bind fun k => pVaried.bind fun v => .ret ⟨k, v⟩
def encHd (h : Hd) : List UInt8 := (vput (vfold (h.fKey.length : Int)) ++ h.fKey) ++ (vput (vfold (blen h.fValue)) ++ h.fValue.data)
def okHd (h : Hd) : Prop := vfold (h.fKey.length : Int) < 2 ^ (32 : Int).toNat ∧ vfold (blen h.fValue) < 2 ^ (32 : Int).toNat ∧ bright h.fValue = true
theorem Sp_hd : Sp pHd encHd okHd := by
  refine ⟨fun s q a r hq h => ?_, fun s t q a hq ha h => ?_⟩
  · obtain ⟨k, q1, h1, h⟩ := Pr.bind_ok h
    obtain ⟨v, q2, h2, h⟩ := Pr.bind_ok h
    injection h with h
    obtain ⟨rfl, rfl⟩ := Prod.mk.inj h
    obtain ⟨a1, a2, a3, a4, a5⟩ := Sp_name.spell _ _ _ _ hq h1
    obtain ⟨b1, b2, b3, b4, b5⟩ := Sp_varied.spell _ _ _ _ a2 h2
    exact ⟨by omega, b2, by simp only [encHd, List.length_append] at *; omega, by rw [b4, a4]; simp only [encHd, List.append_assoc], a5.1, b5⟩
  · obtain ⟨a1, a2, a3⟩ := ha
    have hl := congrArg List.length h
    rw [encHd, List.append_assoc] at h
    have g1 := Sp_name.back _ _ _ _ hq ⟨a1, rfl⟩ h
    have h := drop_step h
    have g2 := Sp_varied.back _ _ _ _ (by simp only [encHd, List.length_drop, List.length_append] at *; omega) ⟨a2, a3⟩ h
    rw [pHd, Pr.bind_of g1, Pr.bind_of g2]
    simp only [Pr.ret, encHd, List.length_append, Nat.add_assoc]
theorem encHd_ge (h : Hd) (ho : okHd h) : 2 ≤ (encHd h).length := by
  have h1 := vput_pos (vfold (h.fKey.length : Int))
  have h2 := vput_pos (vfold (blen h.fValue))
  simp only [encHd, List.length_append]
  omega
def pHds : Pr (List Hd) := pRowV 2 pHd
theorem Sp_hds : Sp pHds (fun l => vput (vfold (l.length : Int)) ++ encs encHd l) (fun l => vfold (l.length : Int) < 2 ^ (32 : Int).toNat ∧ ∀ h, h ∈ l → okHd h) := Sp_rowV 2 Sp_hd encHd_ge
theorem hd_loop (n : Int) (s : List UInt8) (hs : s.length ≤ 1000000) (hn : n ≤ 1000000) : ∀ (m fuel k : Nat) (acc : List Hd) (q : Nat), ((k + m : Nat) : Int) = n → m < fuel → q ≤ s.length → acc.length = k →
    (∃ (e : Int) (st : I), pRep pHd m s q = .error e ∧ f_header_Read_l1 n fuel [] acc k ⟨s.drop q, q, 0⟩ = some (.ret ([], st)) ∧ st.err = e ∧ st.err ≠ 0) ∨
    (∃ l r, pRep pHd m s q = .ok (l, r) ∧ f_header_Read_l1 n fuel [] acc k ⟨s.drop q, q, 0⟩ = some (.go ([], acc ++ l, k + m, ⟨s.drop r, r, 0⟩)) ∧ q ≤ r ∧ r ≤ s.length)
  | 0, fuel + 1, k, acc, q, h1, h2, h3, h4 => .inr ⟨[], q, rfl, by rw [f_header_Read_l1, if_neg (by omega), List.append_nil]; rfl, Nat.le_refl _, h3⟩
  | m + 1, fuel + 1, k, acc, q, h1, h2, h3, h4 => by
    rw [f_header_Read_l1, if_pos (by omega)]
    rcases QN.run s q h3 with ⟨e, st, p1, g1, x1, y1⟩ | ⟨nm, q1, p1, g1, n1, l1⟩
    · left
      refine ⟨e, st, by rw [pRep, Pr.bind_err (show pHd s q = .error e from Pr.bind_err p1)], ?_, x1, y1⟩
      rw [g1, Option.bind_some]
      simp only
      rw [gVaried_d y1, Option.bind_some]
      simp only
      rw [if_pos (by omega), gErr_eq, Option.bind_some]
      simp only
      rw [if_neg y1]
    rw [g1, Option.bind_some]
    simp only
    rcases QV.run s q1 l1 with ⟨e, st, p2, g2, x2, y2⟩ | ⟨v, q2, p2, g2, n2, l2⟩
    · left
      have ht : pHd s q = .error e := by rw [pHd, Pr.bind_of p1, Pr.bind_err p2]
      refine ⟨e, st, by rw [pRep, Pr.bind_err ht], ?_, x2, y2⟩
      rw [g2, Option.bind_some]
      simp only
      rw [if_pos (by omega), gErr_eq, Option.bind_some]
      simp only
      rw [if_neg y2]
    rw [g2, Option.bind_some]
    simp only
    rw [if_pos (by omega), gErr_eq, Option.bind_some]
    simp only [if_true]
    rw [if_pos (by omega)]
    have ht : pHd s q = .ok (⟨nm, v⟩, q2) := by rw [pHd, Pr.bind_of p1, Pr.bind_of p2]; rfl
    rw [pRep, Pr.bind_of ht]
    rcases hd_loop n s hs hn m fuel (k + 1) (acc ++ [(⟨nm, v⟩ : Hd)]) q2 (by omega) (by omega) l2 (by rw [List.length_append, h4]; rfl) with ⟨e, st, r1, r2, r3, r4⟩ | ⟨l, r, r1, r2, r3, r4⟩
    · exact .inl ⟨e, st, by rw [Pr.bind_err r1], r2, r3, r4⟩
    · refine .inr ⟨⟨nm, v⟩ :: l, r, by rw [Pr.bind_of r1]; rfl, ?_, by omega, r4⟩
      rw [r2, List.append_assoc, show k + 1 + m = k + (m + 1) by omega]
      rfl
theorem B_hds : CB f_header_Read pHds [] := by
  refine ⟨fun st h => ?_, fun s q hs hq => ?_⟩
  · unfold f_header_Read
    rw [gVInt_d h, Option.bind_some]
    simp only
    rw [gErr_eq, Option.bind_some]
    simp only
    rw [if_neg h]
  · unfold f_header_Read
    rcases Q_vint.run s q hq with ⟨e, st, p1, g1, x1, y1⟩ | ⟨c, q1, p1, g1, n1, l1⟩
    · refine .inl ⟨e, st, Pr.bind_err (Pr.bind_err p1), ?_, x1, y1⟩
      rw [g1, Option.bind_some]
      simp only
      rw [gErr_eq, Option.bind_some]
      simp only
      rw [if_neg y1]
    · rw [g1, Option.bind_some]
      simp only
      rw [gErr_eq, Option.bind_some]
      simp only [if_true]
      have hd : (s.drop q1).length = s.length - q1 := List.length_drop
      have hE : pHds s q = ((pLeft 2 c).bind fun n => pRep pHd n.toNat) s q1 := by
        unfold pHds pRowV pCountV Pr.bind
        rw [p1]
      rw [hE]
      unfold Pr.bind pLeft
      by_cases hn : c < 0
      · rw [if_pos hn, if_pos hn]
        exact .inl ⟨4, _, rfl, rfl, rfl, by simp [ifail]⟩
      rw [if_neg hn, if_neg hn, gLeft_eq, Option.bind_some]
      simp only
      rw [hd, if_pos (show 0 ≤ ((s.length - q1 : Nat) : Int) ∧ ((s.length - q1 : Nat) : Int) ≤ 9223372036854775807 by omega)]
      by_cases hc : 0 < 2 ∧ ((s.length - q1 : Nat) : Int) / ((2 : Nat) : Int) < c
      · have hc2 : c > ((s.length - q1 : Nat) : Int) / 2 := hc.2
        rw [if_pos hc, if_pos hc2]
        exact .inl ⟨1, _, rfl, rfl, rfl, by simp [ifail]⟩
      · have hc2 : ¬ c > ((s.length - q1 : Nat) : Int) / 2 := fun h => hc ⟨by decide, h⟩
        rw [if_neg hc, if_neg hc2]
        simp only
        rcases hd_loop c s hs (by omega) c.toNat (c.toNat + 1) 0 [] q1 (by omega) (by omega) l1 rfl with ⟨e, st, r1, r2, r3, r4⟩ | ⟨l, r, r1, r2, r3, r4⟩
        · exact .inl ⟨e, st, r1, by rw [r2]; rfl, r3, r4⟩
        · refine .inr ⟨l, r, r1, ?_, by omega, r4⟩
          rw [r2, List.nil_append]
          rfl
end Go.Proofs.Ytcoppaggpbfcmaa.Sl
namespace Go.Proofs.Ytcoppaggpbfcmaa.Sl
open Go.RowKit
set_option linter.unusedVariables false
set_option linter.unusedSimpArgs false
theorem Q_vlong : CQ gVLong (pVint 64) 0 := (CR_vint 64 (.inr rfl)).cq (Sp_vint 64 (.inr rfl))
theorem gVLong_d {st : I} (h : st.err ≠ 0) : gVLong st = some (0, st) := Q_vlong.dead st h
theorem c_gClose_d {st : I} (h : st.err ≠ 0) : gClose st = some (st.err, st) := by rw [gClose_eq, iclose_err h]
def pStop : Pr Unit := fun s q => if q = s.length then .ok ((), q) else .error 2
def zRec : Rec := ⟨0, 0, ⟨false, []⟩, ⟨false, []⟩, []⟩
def pBody : Pr Rec := (pInt 1).bind fun z => if z = 0 then (pVint 64).bind fun t => (pVint 32).bind fun o => if o < 0 then .err 11 else pVaried.bind fun k => pVaried.bind fun v => pHds.bind fun h => pStop.bind fun _ => .ret ⟨t, o, k, v, h⟩ else .err 8
def bodyOp (st9 : I) : Option (Rec × Int) := (gInt st9 1).bind fun (x12, st13) => if x12 = 0 then ((gVLong st13).bind fun (x16, st17) => (gVInt st17).bind fun (x19, st20) => if x19 < 0 then ((gIFail st20 11).bind fun st24 => (gVaried st24).bind fun (x26, st27) => (gVaried st27).bind fun (x29, st30) => (f_header_Read st30).bind fun (x32, st35) => (gClose st35).bind fun (x37, st38) => some ((⟨x16, x19, x26, x29, x32⟩ : Rec), x37)) else ((gVaried st20).bind fun (x43, st44) => (gVaried st44).bind fun (x46, st47) => (f_header_Read st47).bind fun (x49, st52) => (gClose st52).bind fun (x54, st55) => some ((⟨x16, x19, x43, x46, x49⟩ : Rec), x54))) else ((gIFail st13 8).bind fun st60 => (gVLong st60).bind fun (x62, st63) => (gVInt st63).bind fun (x65, st66) => if x65 < 0 then ((gIFail st66 11).bind fun st70 => (gVaried st70).bind fun (x72, st73) => (gVaried st73).bind fun (x75, st76) => (f_header_Read st76).bind fun (x78, st81) => (gClose st81).bind fun (x83, st84) => some ((⟨x62, x65, x72, x75, x78⟩ : Rec), x83)) else ((gVaried st66).bind fun (x89, st90) => (gVaried st90).bind fun (x92, st93) => (f_header_Read st93).bind fun (x95, st98) => (gClose st98).bind fun (x100, st101) => some ((⟨x62, x65, x89, x92, x95⟩ : Rec), x100)))
theorem body_run (s : List UInt8) (hs : s.length ≤ 1000000) : (∃ e x, pBody s 0 = .error e ∧ bodyOp ⟨s, 0, 0⟩ = some (x, e) ∧ e ≠ 0) ∨ (∃ x, pBody s 0 = .ok (x, s.length) ∧ bodyOp ⟨s, 0, 0⟩ = some (x, 0)) := by
  unfold bodyOp pBody
  have r0 := Q1.run s 0 (Nat.zero_le _)
  rw [List.drop_zero] at r0
  have hB := B_hds
  rcases r0 with ⟨e, st, p0, g0, x0, y0⟩ | ⟨z, q0, p0, g0, n0, l0⟩
  · refine .inl ⟨e, ⟨0, 0, ⟨false, []⟩, ⟨false, []⟩, []⟩, Pr.bind_err p0, ?_, by rw [← x0]; exact y0⟩
    rw [g0]
    simp only [Option.bind_some, if_true, gVLong_d y0, gVInt_d y0, gVaried_d y0, hB.dead _ y0, c_gClose_d y0, x0, show ¬ (0 : Int) < 0 by decide, if_false]
  rw [g0, Option.bind_some]
  simp only
  by_cases hz : z = 0
  · rw [if_pos hz, Pr.bind_of p0, if_pos hz]
    rcases Q_vlong.run s q0 l0 with ⟨e, st, p1, g1, x1, y1⟩ | ⟨a, q1, p1, g1, n1, l1⟩
    · refine .inl ⟨e, ⟨0, 0, ⟨false, []⟩, ⟨false, []⟩, []⟩, Pr.bind_err p1, ?_, by rw [← x1]; exact y1⟩
      rw [g1]
      simp only [Option.bind_some, if_true, gVInt_d y1, gVaried_d y1, hB.dead _ y1, c_gClose_d y1, x1, show ¬ (0 : Int) < 0 by decide, if_false]
    rw [g1, Option.bind_some, Pr.bind_of p1]
    simp only
    rcases Q_vint.run s q1 l1 with ⟨e, st, p2, g2, x2, y2⟩ | ⟨o, q2, p2, g2, n2, l2⟩
    · refine .inl ⟨e, ⟨a, 0, ⟨false, []⟩, ⟨false, []⟩, []⟩, Pr.bind_err p2, ?_, by rw [← x2]; exact y2⟩
      rw [g2]
      simp only [Option.bind_some, if_true, gVaried_d y2, hB.dead _ y2, c_gClose_d y2, x2, show ¬ (0 : Int) < 0 by decide, if_false]
    rw [g2, Option.bind_some, Pr.bind_of p2]
    simp only
    by_cases ho : o < 0
    · rw [if_pos ho, if_pos ho, gIFail_eq, Option.bind_some, ifail_z]
      have y : (⟨s.drop q2, q2, 11⟩ : I).err ≠ 0 := by simp
      refine .inl ⟨11, ⟨a, o, ⟨false, []⟩, ⟨false, []⟩, []⟩, rfl, ?_, by decide⟩
      simp only [Option.bind_some, gVaried_d y, hB.dead _ y, c_gClose_d y]
    rw [if_neg ho, if_neg ho]
    rcases QV.run s q2 l2 with ⟨e, st, p3, g3, x3, y3⟩ | ⟨k, q3, p3, g3, n3, l3⟩
    · refine .inl ⟨e, ⟨a, o, ⟨false, []⟩, ⟨false, []⟩, []⟩, Pr.bind_err p3, ?_, by rw [← x3]; exact y3⟩
      rw [g3]
      simp only [Option.bind_some, gVaried_d y3, hB.dead _ y3, c_gClose_d y3, x3]
    rw [g3, Option.bind_some, Pr.bind_of p3]
    simp only
    rcases QV.run s q3 l3 with ⟨e, st, p4, g4, x4, y4⟩ | ⟨v, q4, p4, g4, n4, l4⟩
    · refine .inl ⟨e, ⟨a, o, k, ⟨false, []⟩, []⟩, Pr.bind_err p4, ?_, by rw [← x4]; exact y4⟩
      rw [g4]
      simp only [Option.bind_some, hB.dead _ y4, c_gClose_d y4, x4]
    rw [g4, Option.bind_some, Pr.bind_of p4]
    simp only
    rcases hB.run s q4 hs l4 with ⟨e, st, p5, g5, x5, y5⟩ | ⟨h, q5, p5, g5, n5, l5⟩
    · refine .inl ⟨e, ⟨a, o, k, v, []⟩, Pr.bind_err p5, ?_, by rw [← x5]; exact y5⟩
      rw [g5]
      simp only [Option.bind_some, c_gClose_d y5, x5]
    rw [g5, Option.bind_some, Pr.bind_of p5]
    simp only
    rw [gClose_eq, Option.bind_some]
    simp only
    by_cases hq : q5 = s.length
    · have he : pStop s q5 = .ok ((), q5) := by unfold pStop; rw [if_pos hq]
      have hi : (iclose ⟨s.drop q5, q5, 0⟩).err = 0 := by rw [hq, List.drop_length]; rfl
      rw [Pr.bind_of he, hi]
      exact .inr ⟨⟨a, o, k, v, h⟩, by rw [hq]; rfl, rfl⟩
    · have he : pStop s q5 = .error 2 := by unfold pStop; rw [if_neg hq]
      have hi : (iclose ⟨s.drop q5, q5, 0⟩).err = 2 := by
        unfold iclose
        rw [if_neg]
        · rfl
        · intro h0
          have := List.drop_eq_nil_iff.1 h0
          omega
      rw [Pr.bind_err he, hi]
      exact .inl ⟨2, _, rfl, rfl, by decide⟩
  · rw [if_neg hz, Pr.bind_of p0, if_neg hz, gIFail_eq, Option.bind_some, ifail_z]
    have y : (⟨s.drop q0, q0, 8⟩ : I).err ≠ 0 := by simp
    refine .inl ⟨8, ⟨0, 0, ⟨false, []⟩, ⟨false, []⟩, []⟩, rfl, ?_, by decide⟩
    simp only [Option.bind_some, if_true, gVLong_d y, gVInt_d y, gVaried_d y, hB.dead _ y, c_gClose_d y, show ¬ (0 : Int) < 0 by decide, if_false]
def pRec : Pr Rec := fun s q => match pName s q with
  | .error e => .error e
  | .ok (d, r) => match pBody d 0 with
    | .error e => .error e
    | .ok (x, _) => .ok (x, r)
theorem read_body (st9 st6 : I) (x : Rec) (e : Int) (h : bodyOp st9 = some (x, e)) : ((gInt st9 1).bind fun (x12, st13) => if x12 = 0 then ((gVLong st13).bind fun (x16, st17) => (gVInt st17).bind fun (x19, st20) => if x19 < 0 then ((gIFail st20 11).bind fun st24 => (gVaried st24).bind fun (x26, st27) => (gVaried st27).bind fun (x29, st30) => (f_header_Read st30).bind fun (x32, st35) => (gClose st35).bind fun (x37, st38) => if x37 = 0 then (some ((⟨x16, x19, x26, x29, x32⟩ : Rec), st6)) else ((gIFail st6 x37).bind fun st41 => some (zRec, st41))) else ((gVaried st20).bind fun (x43, st44) => (gVaried st44).bind fun (x46, st47) => (f_header_Read st47).bind fun (x49, st52) => (gClose st52).bind fun (x54, st55) => if x54 = 0 then (some ((⟨x16, x19, x43, x46, x49⟩ : Rec), st6)) else ((gIFail st6 x54).bind fun st58 => some (zRec, st58)))) else ((gIFail st13 8).bind fun st60 => (gVLong st60).bind fun (x62, st63) => (gVInt st63).bind fun (x65, st66) => if x65 < 0 then ((gIFail st66 11).bind fun st70 => (gVaried st70).bind fun (x72, st73) => (gVaried st73).bind fun (x75, st76) => (f_header_Read st76).bind fun (x78, st81) => (gClose st81).bind fun (x83, st84) => if x83 = 0 then (some ((⟨x62, x65, x72, x75, x78⟩ : Rec), st6)) else ((gIFail st6 x83).bind fun st87 => some (zRec, st87))) else ((gVaried st66).bind fun (x89, st90) => (gVaried st90).bind fun (x92, st93) => (f_header_Read st93).bind fun (x95, st98) => (gClose st98).bind fun (x100, st101) => if x100 = 0 then (some ((⟨x62, x65, x89, x92, x95⟩ : Rec), st6)) else ((gIFail st6 x100).bind fun st104 => some (zRec, st104))))) = if e = 0 then some (x, st6) else some (zRec, ifail st6 e) := by
  unfold bodyOp at h
  revert h
  have hop : ∀ (o : Option (List Hd × I)) (f : List Hd → Rec), ((o.bind fun (a, s1) => (gClose s1).bind fun (b, s2) => some (f a, b)) = some (x, e)) → (o.bind fun (a, s1) => (gClose s1).bind fun (b, s2) => if b = 0 then some (f a, st6) else (gIFail st6 b).bind fun s3 => some (zRec, s3)) = if e = 0 then some (x, st6) else some (zRec, ifail st6 e) := by
    intro o f h
    cases o with
    | none => exact nomatch h
    | some y =>
      rw [Option.bind_some] at h ⊢
      simp only [gClose_eq, Option.bind_some] at h ⊢
      injection h with h
      obtain ⟨rfl, rfl⟩ := Prod.mk.inj h
      by_cases hz : (iclose y.2).err = 0
      · rw [if_pos hz, if_pos hz]
      · rw [if_neg hz, if_neg hz]
        rfl
  simp only [gInt_eq, gVLong_eq, gVInt_eq, gVaried_eq, gIFail_eq, Option.bind_some]
  intro h
  split at h
  · rename_i h1
    rw [if_pos h1]
    split at h
    · rename_i h2
      rw [if_pos h2]
      exact hop _ (fun a => ⟨_, _, _, _, a⟩) h
    · rename_i h2
      rw [if_neg h2]
      exact hop _ (fun a => ⟨_, _, _, _, a⟩) h
  · rename_i h1
    rw [if_neg h1]
    split at h
    · rename_i h2
      rw [if_pos h2]
      exact hop _ (fun a => ⟨_, _, _, _, a⟩) h
    · rename_i h2
      rw [if_neg h2]
      exact hop _ (fun a => ⟨_, _, _, _, a⟩) h
theorem B_rec : CB f_record_Read pRec zRec := by
  refine ⟨fun st h => ?_, fun s q hs hq => ?_⟩
  · unfold f_record_Read
    rw [gName_d h, Option.bind_some]
    simp only
    rw [gErr_eq, Option.bind_some]
    simp only
    rw [if_neg h]
    rfl
  · unfold f_record_Read pRec
    rcases QN.run s q hq with ⟨e, st, p1, g1, x1, y1⟩ | ⟨d, r, p1, g1, n1, l1⟩
    · refine .inl ⟨e, st, by rw [p1], ?_, x1, y1⟩
      rw [g1, Option.bind_some]
      simp only
      rw [gErr_eq, Option.bind_some]
      simp only
      rw [if_neg y1]
      rfl
    · have hsp := Sp_name.spell _ _ _ _ hq p1
      have hdl : d.length ≤ 1000000 := by
        have := hsp.2.2.1
        rw [List.length_append] at this
        omega
      rw [g1, p1, Option.bind_some]
      simp only
      rw [gErr_eq, Option.bind_some]
      simp only [if_true]
      rw [gNew_eq _ (by omega), Option.bind_some]
      rcases body_run d hdl with ⟨e, x, b1, b2, b3⟩ | ⟨x, b1, b2⟩
      · have hb := read_body ⟨d, 0, 0⟩ ⟨s.drop r, r, 0⟩ x e b2
        rw [if_neg b3] at hb
        rw [b1]
        exact .inl ⟨e, _, rfl, hb, rfl, b3⟩
      · have hb := read_body ⟨d, 0, 0⟩ ⟨s.drop r, r, 0⟩ x 0 b2
        rw [if_pos rfl] at hb
        rw [b1]
        exact .inr ⟨x, r, rfl, hb, n1, l1⟩
end Go.Proofs.Ytcoppaggpbfcmaa.Sl
namespace Go.Proofs.Ytcoppaggpbfcmaa.Sl
open Go.RowKit
set_option linter.unusedVariables false
set_option linter.unusedSimpArgs false
def encBl (b : Bl) : List UInt8 := vput (vfold (blen b)) ++ b.data
def encHs (l : List Hd) : List UInt8 := vput (vfold (l.length : Int)) ++ encs encHd l
def encBody (x : Rec) : List UInt8 := be 0 1 ++ (vput (vfold x.fTime) ++ (vput (vfold x.fOffset) ++ (encBl x.fKey ++ (encBl x.fValue ++ encHs x.fHeaders))))
def okBl (b : Bl) : Prop := vfold (blen b) < 2 ^ (32 : Int).toNat ∧ bright b = true
def okHs (l : List Hd) : Prop := vfold (l.length : Int) < 2 ^ (32 : Int).toNat ∧ ∀ h, h ∈ l → okHd h
def okRec (x : Rec) : Prop := vfold x.fTime < 2 ^ (64 : Int).toNat ∧ (vfold x.fOffset < 2 ^ (32 : Int).toNat ∧ 0 ≤ x.fOffset) ∧ okBl x.fKey ∧ okBl x.fValue ∧ okHs x.fHeaders
theorem body_spell {s : List UInt8} {x : Rec} {r : Nat} (h : pBody s 0 = .ok (x, r)) : s = encBody x ∧ okRec x := by
  obtain ⟨z, q0, h0, h⟩ := Pr.bind_ok h
  split at h
  · rename_i hz
    subst hz
    obtain ⟨t, q1, h1, h⟩ := Pr.bind_ok h
    obtain ⟨o, q2, h2, h⟩ := Pr.bind_ok h
    split at h
    · exact nomatch h
    · rename_i ho
      obtain ⟨k, q3, h3, h⟩ := Pr.bind_ok h
      obtain ⟨v, q4, h4, h⟩ := Pr.bind_ok h
      obtain ⟨hs, q5, h5, h⟩ := Pr.bind_ok h
      obtain ⟨u, q6, h6, h⟩ := Pr.bind_ok h
      injection h with h
      obtain ⟨rfl, rfl⟩ := Prod.mk.inj h
      obtain ⟨-, a2, -, a4, a5⟩ := (Sp_int 1 (by decide) (by decide)).spell _ _ _ _ (Nat.zero_le _) h0
      obtain ⟨-, b2, -, b4, b5⟩ := (Sp_vint 64 (.inr rfl)).spell _ _ _ _ a2 h1
      obtain ⟨-, c2, -, c4, c5⟩ := (Sp_vint 32 (.inl rfl)).spell _ _ _ _ b2 h2
      obtain ⟨-, d2, -, d4, d5⟩ := Sp_varied.spell _ _ _ _ c2 h3
      obtain ⟨-, e2, -, e4, e5⟩ := Sp_varied.spell _ _ _ _ d2 h4
      obtain ⟨-, f2, -, f4, f5⟩ := Sp_hds.spell _ _ _ _ e2 h5
      have hq : q5 = s.length := by
        unfold pStop at h6
        split at h6
        · rename_i hh; exact hh
        · exact nomatch h6
      refine ⟨?_, b5, ⟨c5, by simp only; omega⟩, d5, e5, f5⟩
      have hs2 : s = s.take q5 := by rw [hq, List.take_length]
      rw [hs2, f4, e4, d4, c4, b4, a4]
      simp only [encBody, encBl, encHs, List.append_assoc, List.take_zero, List.nil_append]
  · exact nomatch h
theorem SpV : Sp pVaried encBl okBl := Sp_varied
theorem SpH : Sp pHds encHs okHs := Sp_hds
theorem body_back {x : Rec} (h : okRec x) : pBody (encBody x) 0 = .ok (x, (encBody x).length) := by
  obtain ⟨h1, ⟨h2, h3⟩, h4, h5, h6⟩ := h
  have hd : (encBody x).drop 0 = encBody x := rfl
  have hlen : (encBody x).length = 1 + ((vput (vfold x.fTime)).length + ((vput (vfold x.fOffset)).length + ((encBl x.fKey).length + ((encBl x.fValue).length + (encHs x.fHeaders).length)))) := by
    simp only [encBody, List.length_append, be_length]
  generalize hE : encBody x = E at hd hlen ⊢
  have hh : E.drop 0 = be 0 1 ++ (vput (vfold x.fTime) ++ (vput (vfold x.fOffset) ++ (encBl x.fKey ++ (encBl x.fValue ++ (encHs x.fHeaders ++ []))))) := by
    rw [hd, ← hE]
    simp only [encBody, List.append_nil]
  have g0 := (Sp_int 1 (by decide) (by decide)).back _ _ _ 0 (Nat.zero_le _) (by decide) hh
  have hh := drop_step hh
  rw [be_length] at hh g0
  have g1 := (Sp_vint 64 (.inr rfl)).back _ _ _ _ (by omega) h1 hh
  have hh := drop_step hh
  have g2 := (Sp_vint 32 (.inl rfl)).back _ _ _ _ (by omega) h2 hh
  have hh := drop_step hh
  have g3 := SpV.back _ _ _ _ (by omega) h4 hh
  have hh := drop_step hh
  have g4 := SpV.back _ _ _ _ (by omega) h5 hh
  have hh := drop_step hh
  have g5 := SpH.back _ _ _ _ (by omega) h6 hh
  rw [pBody, Pr.bind_of g0, if_pos rfl, Pr.bind_of g1, Pr.bind_of g2, if_neg (by omega), Pr.bind_of g3, Pr.bind_of g4, Pr.bind_of g5]
  have he : 0 + 1 + (vput (vfold x.fTime)).length + (vput (vfold x.fOffset)).length + (encBl x.fKey).length + (encBl x.fValue).length + (encHs x.fHeaders).length = E.length := by omega
  rw [he, Pr.bind_of (a := ()) (r := E.length) (by unfold pStop; rw [if_pos rfl])]
  rfl
def encRec (x : Rec) : List UInt8 := vput (vfold ((encBody x).length : Int)) ++ encBody x
theorem Sp_rec : Sp pRec encRec (fun x => okRec x ∧ vfold ((encBody x).length : Int) < 2 ^ (32 : Int).toNat) := by
  refine ⟨fun s q a r hq h => ?_, fun s t q a hq ha h => ?_⟩
  · unfold pRec at h
    cases hp : pName s q with
    | error e => rw [hp] at h; exact nomatch h
    | ok y =>
      obtain ⟨d, r'⟩ := y
      rw [hp] at h
      simp only at h
      obtain ⟨a1, a2, a3, a4, a5⟩ := Sp_name.spell _ _ _ _ hq hp
      cases hb : pBody d 0 with
      | error e => rw [hb] at h; exact nomatch h
      | ok z =>
        rw [hb] at h
        injection h with h
        obtain ⟨rfl, rfl⟩ := Prod.mk.inj h
        obtain ⟨b1, b2⟩ := body_spell (x := z.1) (r := z.2) hb
        unfold encRec
        rw [← b1]
        exact ⟨a1, a2, a3, a4, b2, a5.1⟩
  · have g1 := Sp_name.back s t q (encBody a) hq ⟨ha.2, rfl⟩ h
    unfold pRec
    rw [g1]
    simp only
    rw [body_back ha.1]
    rfl
end Go.Proofs.Ytcoppaggpbfcmaa.Sl
namespace Go.Proofs.Ytcoppaggpbfcmaa.Sl
open Go.RowKit
set_option linter.unusedVariables false
set_option linter.unusedSimpArgs false
theorem okRec_right {x : Rec} (h : okRec x) : rightR x = 0 ∧ wI x.fTime ∧ wI x.fOffset := by
  obtain ⟨h1, ⟨h2, h3⟩, h4, h5, h6⟩ := h
  rw [show 2 ^ (64 : Int).toNat = 18446744073709551616 by decide] at h1
  rw [show 2 ^ (32 : Int).toNat = 4294967296 by decide] at h2
  have ho : x.fOffset ≤ 2147483647 := by unfold vfold at h2; split at h2 <;> omega
  refine ⟨?_, ?_, ⟨by omega, by omega⟩⟩
  · unfold rightR
    have hb : brAll x.fHeaders = true := List.all_eq_true.2 fun y hy => (h6.2 y hy).2.2
    rw [if_neg (by omega), h4.2, h5.2, hb]
    rfl
  · unfold vfold at h1
    constructor <;> (split at h1 <;> omega)
end Go.Proofs.Ytcoppaggpbfcmaa.Sl
namespace Go.Proofs.Ytcoppaggpbfcmaa.Sl
set_option linter.unusedVariables false
def crcP : Nat := 2197175160
def crcS (x : Nat) : Nat := x / 2 ^^^ (if x % 2 = 1 then crcP else 0)
def crcI : Nat → Nat → Nat
  | 0, x => x
  | k + 1, x => crcI k (crcS x)
theorem nat_xor_mod2 (x y : Nat) : (x ^^^ y) % 2 = (x % 2 + y % 2) % 2 := by
  have h := Nat.xor_mod_two_pow (a := x) (b := y) (n := 1)
  rw [Nat.pow_one] at h
  rw [h]
  rcases Nat.mod_two_eq_zero_or_one x with hx | hx <;> rcases Nat.mod_two_eq_zero_or_one y with hy | hy <;> rw [hx, hy] <;> rfl
theorem nat_xor_div2 (x y : Nat) : (x ^^^ y) / 2 = (x / 2) ^^^ (y / 2) := Nat.xor_div_two
theorem crcS_xor (x y : Nat) : crcS (x ^^^ y) = crcS x ^^^ crcS y := by
  unfold crcS
  rw [nat_xor_div2, nat_xor_mod2]
  rcases Nat.mod_two_eq_zero_or_one x with hx | hx <;> rcases Nat.mod_two_eq_zero_or_one y with hy | hy <;> simp [hx, hy]
  · rw [Nat.xor_assoc]
  · ac_rfl
  · rw [show x / 2 ^^^ crcP ^^^ (y / 2 ^^^ crcP) = x / 2 ^^^ y / 2 ^^^ (crcP ^^^ crcP) by ac_rfl, Nat.xor_self, Nat.xor_zero]
theorem crcI_xor : ∀ (k x y : Nat), crcI k (x ^^^ y) = crcI k x ^^^ crcI k y
  | 0, _, _ => rfl
  | k + 1, x, y => by show crcI k _ = _; rw [crcS_xor, crcI_xor k]; rfl
theorem crcS_even (x : Nat) : crcS (2 * x) = x := by
  unfold crcS; rw [if_neg (by omega), Nat.xor_zero]; omega
theorem crcI_shift : ∀ (k x : Nat), crcI k (2 ^ k * x) = x
  | 0, x => by rw [Nat.pow_zero, Nat.one_mul]; rfl
  | k + 1, x => by
    show crcI k (crcS _) = x
    rw [show 2 ^ (k + 1) * x = 2 * (2 ^ k * x) by rw [Nat.pow_succ, Nat.mul_comm (2 ^ k) 2, Nat.mul_assoc], crcS_even]
    exact crcI_shift k x
theorem crcS_lt {x : Nat} (h : x < 2 ^ 32) : crcS x < 2 ^ 32 := by
  unfold crcS
  exact Nat.xor_lt_two_pow (by omega) (by split <;> decide)
theorem crcI_lt : ∀ (k : Nat) {x : Nat}, x < 2 ^ 32 → crcI k x < 2 ^ 32
  | 0, _, h => h
  | k + 1, _, h => crcI_lt k (crcS_lt h)
theorem crcI_byte (x b : Nat) (hb : b < 256) : crcI 8 (x ^^^ b) = crcI 8 ((x % 256) ^^^ b) ^^^ (x / 256) := by
  have h : x = (x % 256) ^^^ (2 ^ 8 * (x / 256)) := by
    apply Nat.eq_of_testBit_eq
    intro i
    rw [Nat.testBit_xor, show (256 : Nat) = 2 ^ 8 from rfl, Nat.testBit_mod_two_pow, Nat.testBit_two_pow_mul, Nat.testBit_div_two_pow]
    by_cases hi : i < 8
    · simp [hi, show ¬ 8 ≤ i by omega]
    · simp [hi, show 8 ≤ i by omega]
  conv => lhs; rw [h]
  rw [show x % 256 ^^^ 2 ^ 8 * (x / 256) ^^^ b = (x % 256 ^^^ b) ^^^ (2 ^ 8 * (x / 256)) by ac_rfl, crcI_xor, crcI_shift]
def crcR : Nat → List UInt8 → Nat
  | x, [] => x
  | x, c :: l => crcR (crcI 8 (x ^^^ c.toNat)) l
theorem crcR_append : ∀ (l m : List UInt8) (x : Nat), crcR x (l ++ m) = crcR (crcR x l) m
  | [], _, _ => rfl
  | c :: l, m, x => crcR_append l m _
theorem crcR_lt : ∀ (l : List UInt8) {x : Nat}, x < 2 ^ 32 → crcR x l < 2 ^ 32
  | [], _, h => h
  | c :: l, _, h => crcR_lt l (crcI_lt 8 (Nat.xor_lt_two_pow h (Nat.lt_trans c.toNat_lt (by decide))))
end Go.Proofs.Ytcoppaggpbfcmaa.Sl
namespace Go.Proofs.Ytcoppaggpbfcmaa.Sl
open Go.RowKit
set_option linter.unusedVariables false
set_option linter.unusedSimpArgs false
theorem u32_ofInt (a : Nat) (h : a < 4294967296) : (BitVec.ofInt IntKind.u32.bits (a : Int)).toNat = a := by
  show (BitVec.ofInt 32 (a : Int)).toNat = a
  rw [BitVec.ofInt_natCast, BitVec.toNat_ofNat, Nat.mod_eq_of_lt (by omega)]
theorem u8_ofInt (a : Nat) (h : a < 256) : (BitVec.ofInt IntKind.u8.bits (a : Int)).toNat = a := by
  show (BitVec.ofInt 8 (a : Int)).toNat = a
  rw [BitVec.ofInt_natCast, BitVec.toNat_ofNat, Nat.mod_eq_of_lt (by omega)]
theorem wrap_u32 (a : Nat) : IntKind.u32.wrap (a : Int) = ((a % 4294967296 : Nat) : Int) := by
  rw [IntKind.wrap_u32]; omega
theorem wrap_u8 (a : Nat) : IntKind.u8.wrap (a : Int) = ((a % 256 : Nat) : Int) := by
  rw [IntKind.wrap_u8]; omega
theorem xor_u32 (a b : Nat) (ha : a < 4294967296) (hb : b < 4294967296) : Go.bits .xor .u32 (a : Int) (b : Int) = ((a ^^^ b : Nat) : Int) := by
  show IntKind.u32.wrap (((BitVec.ofInt IntKind.u32.bits (a : Int)) ^^^ (BitVec.ofInt IntKind.u32.bits (b : Int))).toNat : Int) = _
  rw [BitVec.toNat_xor, u32_ofInt a ha, u32_ofInt b hb, wrap_u32, Nat.mod_eq_of_lt (Nat.xor_lt_two_pow (n := 32) ha hb)]
theorem xor_u8 (a b : Nat) (ha : a < 256) (hb : b < 256) : Go.bits .xor .u8 (a : Int) (b : Int) = ((a ^^^ b : Nat) : Int) := by
  show IntKind.u8.wrap (((BitVec.ofInt IntKind.u8.bits (a : Int)) ^^^ (BitVec.ofInt IntKind.u8.bits (b : Int))).toNat : Int) = _
  rw [BitVec.toNat_xor, u8_ofInt a ha, u8_ofInt b hb, wrap_u8, Nat.mod_eq_of_lt (Nat.xor_lt_two_pow (n := 8) ha hb)]
theorem and1_u32 (a : Nat) (ha : a < 4294967296) : Go.bits .and .u32 (a : Int) 1 = ((a % 2 : Nat) : Int) := by
  show IntKind.u32.wrap (((BitVec.ofInt IntKind.u32.bits (a : Int)) &&& (BitVec.ofInt IntKind.u32.bits ((1 : Nat) : Int))).toNat : Int) = _
  rw [BitVec.toNat_and, u32_ofInt a ha, u32_ofInt 1 (by decide), wrap_u32, Nat.and_one_is_mod, Nat.mod_eq_of_lt (by omega)]
theorem shr1_u32 (a : Nat) : shrK .u32 (a : Int) 1 = ((a / 2 : Nat) : Int) := by
  show Int.fdiv (a : Int) 2 = _
  rw [Int.fdiv_eq_ediv_of_nonneg _ (by decide)]
  omega
theorem shr8_u32 (a : Nat) : shrK .u32 (a : Int) 8 = ((a / 256 : Nat) : Int) := by
  show Int.fdiv (a : Int) 256 = _
  rw [Int.fdiv_eq_ediv_of_nonneg _ (by decide)]
  omega
theorem crcS_int (y : Nat) (hy : y < 4294967296) : (if Go.bits .and .u32 (y : Int) 1 = 1 then some (Go.bits .xor .u32 (shrK .u32 (y : Int) 1) 2197175160) else some (shrK .u32 (y : Int) 1)) = some ((crcS y : Nat) : Int) := by
  rw [and1_u32 y hy, shr1_u32, show (2197175160 : Int) = ((2197175160 : Nat) : Int) from rfl, xor_u32 _ _ (by omega) (by decide)]
  unfold crcS
  by_cases h : y % 2 = 1
  · rw [if_pos (by omega), if_pos h]; rfl
  · rw [if_neg (by omega), if_neg h, Nat.xor_zero]
theorem new_l2 : ∀ (m y k : Nat), y < 4294967296 → k ≤ 8 → 8 - k < m → f_crc_New_l2 m (y : Int) k = some (((crcI (8 - k) y : Nat) : Int), 8)
  | 0, _, _, _, _, h => by omega
  | m + 1, y, k, hy, hk, hm => by
    rw [f_crc_New_l2]
    by_cases h : k < 8
    · rw [if_pos (by omega), crcS_int y hy, Option.bind_some, if_pos (by omega), new_l2 m (crcS y) (k + 1) (crcS_lt hy) (by omega) (by omega), show 8 - k = (8 - (k + 1)) + 1 by omega]
      rfl
    · rw [if_neg (by omega), show 8 - k = 0 by omega, show k = 8 by omega]
      rfl
def crcTab : List Int := (List.range 256).map (fun j => ((crcI 8 j : Nat) : Int))
theorem crcTab_get (j : Nat) (hj : j < 256) : crcTab[j]? = some ((crcI 8 j : Nat) : Int) := by
  unfold crcTab
  rw [List.getElem?_map, List.getElem?_range hj]
  rfl
theorem new_l1 : ∀ (m k : Nat) (l : List Int), l.length = 256 → k ≤ 256 → 256 - k < m → (∀ j, j < k → l[j]? = some ((crcI 8 j : Nat) : Int)) → f_crc_New_l1 m k l = some (256, crcTab)
  | 0, _, _, _, _, h, _ => by omega
  | m + 1, k, l, hl, hk, hm, hj => by
    rw [f_crc_New_l1]
    by_cases h : k < 256
    · have e1 : IntKind.u32.wrap (k : Int) = ((k : Nat) : Int) := by rw [wrap_u32, Nat.mod_eq_of_lt (by omega)]
      have e2 : f_crc_New_l2 ((8 : Int).toNat + 1) (IntKind.u32.wrap (k : Int)) 0 = some (((crcI 8 k : Nat) : Int), 8) := by
        rw [e1]
        exact new_l2 9 k 0 (by omega) (by omega) (by omega)
      have e3 : l[k]? = some (l[k]'(by omega)) := List.getElem?_eq_getElem (by omega)
      rw [if_pos (by omega), e2, Option.bind_some]
      dsimp only
      rw [e3, Option.bind_some, Option.bind_some, if_pos (by omega)]
      refine new_l1 m (k + 1) _ (by rw [List.length_set]; exact hl) (by omega) (by omega) (fun j hjk => ?_)
      rw [List.getElem?_set]
      by_cases e : k = j
      · rw [if_pos e, if_pos (by omega), e]
      · rw [if_neg e]
        exact hj j (by omega)
    · rw [if_neg (by omega), show k = 256 by omega]
      congr 2
      apply List.ext_getElem?
      intro j
      by_cases hj2 : j < 256
      · rw [crcTab_get j hj2]
        exact hj j (by omega)
      · rw [List.getElem?_eq_none (by omega), List.getElem?_eq_none (by unfold crcTab; simp; omega)]
theorem crc_new : f_crc_New = some crcTab := by
  unfold f_crc_New
  rw [show (256 : Int).toNat + 1 = 257 from rfl, new_l1 257 0 _ (List.length_replicate ..) (by omega) (by omega) (fun j hj => absurd hj (by omega)), Option.bind_some]
theorem more_l1 (s : List UInt8) (hs : s.length ≤ 9223372036854775806) : ∀ (m y k : Nat), y < 4294967296 → k ≤ s.length → s.length - k < m → f_crc_TableMore_l1 s m (y : Int) k crcTab = some (((crcR y (s.drop k) : Nat) : Int), s.length, crcTab)
  | 0, _, _, _, _, h => by omega
  | m + 1, y, k, hy, hk, hm => by
    rw [f_crc_TableMore_l1]
    by_cases h : k < s.length
    · have e1 : s[k]? = some s[k] := List.getElem?_eq_getElem h
      have hc := s[k].toNat_lt
      have hx : y % 256 ^^^ s[k].toNat < 256 := Nat.xor_lt_two_pow (n := 8) (by omega) hc
      have e2 : Go.bits .xor .u8 (IntKind.u8.wrap (y : Int)) (s[k].toNat : Int) = ((y % 256 ^^^ s[k].toNat : Nat) : Int) := by
        rw [wrap_u8, xor_u8 _ _ (by omega) (by omega)]
      have e3 : crcI 8 (y % 256 ^^^ s[k].toNat) < 2 ^ 32 := crcI_lt 8 (by omega)
      rw [if_pos (by omega), e1, Option.bind_some, e2, if_pos (by omega), Int.toNat_natCast, crcTab_get _ hx, Option.bind_some, if_pos (by omega), shr8_u32, xor_u32 _ _ (by omega) (by omega), ← crcI_byte y _ (by omega),
        more_l1 s hs m _ (k + 1) (crcI_lt 8 (Nat.xor_lt_two_pow (n := 32) hy (by omega))) (by omega) (by omega)]
      rw [drop_cons e1]
      rfl
    · rw [if_neg (by omega), show k = s.length by omega, List.drop_length]
      rfl
def crcM (x : Nat) (s : List UInt8) : Nat := 4294967295 ^^^ crcR (4294967295 ^^^ x) s
theorem crcM_lt {x : Nat} (hx : x < 4294967296) (s : List UInt8) : crcM x s < 4294967296 := Nat.xor_lt_two_pow (n := 32) (by decide) (crcR_lt s (Nat.xor_lt_two_pow (n := 32) (by decide) hx))
theorem ones2 (x : Nat) : 4294967295 ^^^ (4294967295 ^^^ x) = x := by rw [← Nat.xor_assoc, Nat.xor_self, Nat.zero_xor]
theorem crcM_append (x : Nat) (s t : List UInt8) : crcM x (s ++ t) = crcM (crcM x s) t := by
  unfold crcM
  rw [crcR_append, ones2]
theorem crcM_nil (x : Nat) : crcM x [] = x := ones2 x
theorem crc_more (x : Nat) (hx : x < 4294967296) (s : List UInt8) (hs : s.length ≤ 9223372036854775806) : f_crc_TableMore crcTab (x : Int) s = some (((crcM x s : Nat) : Int), crcTab) := by
  unfold f_crc_TableMore
  have h1 : (4294967295 ^^^ x : Nat) < 4294967296 := Nat.xor_lt_two_pow (n := 32) (by decide) hx
  rw [show (4294967295 : Int) = ((4294967295 : Nat) : Int) from rfl, xor_u32 _ _ (by decide) hx, Int.toNat_natCast, more_l1 s hs _ _ 0 h1 (by omega) (by omega), Option.bind_some, List.drop_zero]
  dsimp only
  rw [xor_u32 _ _ (by decide) (crcR_lt s h1)]
  rfl
theorem sum_l1 : ∀ (l : List (List UInt8)) (x : Nat), x < 4294967296 → (∀ s, s ∈ l → s.length ≤ 9223372036854775806) → f_crc_TableSum_l1 l (x : Int) crcTab = some (((crcM x l.flatten : Nat) : Int), crcTab)
  | [], x, _, _ => by rw [f_crc_TableSum_l1, List.flatten_nil, crcM_nil]
  | s :: l, x, hx, hs => by
    rw [f_crc_TableSum_l1, crc_more x hx s (hs s (List.mem_cons_self ..)), Option.bind_some]
    dsimp only
    rw [sum_l1 l _ (crcM_lt hx s) (fun t ht => hs t (List.mem_cons_of_mem _ ht)), List.flatten_cons, crcM_append]
theorem crc_sum (l : List (List UInt8)) (hs : ∀ s, s ∈ l → s.length ≤ 9223372036854775806) : f_crc_TableSum crcTab l = some (((crcM 0 l.flatten : Nat) : Int), crcTab) := by
  unfold f_crc_TableSum
  have h := sum_l1 l 0 (by decide) hs
  rw [show ((0 : Nat) : Int) = 0 from rfl] at h
  rw [h, Option.bind_some]
end Go.Proofs.Ytcoppaggpbfcmaa.Sl
namespace Go.Proofs.Ytcoppaggpbfcmaa.Sl
open Go.RowKit
set_option linter.unusedVariables false
set_option linter.unusedSimpArgs false
def pre21 (p : Pfx) : List UInt8 := be p.fBase 8 ++ (be p.fLength 4 ++ (be p.fLeader 4 ++ (be 2 1 ++ be (s32 p.fSum) 4)))
def post21 (p : Pfx) : List UInt8 := be p.fAttr 2 ++ encI [4, 8, 8, 8, 2, 4, 4] [p.fLast, p.fFirst, p.fMax, p.fProducer, p.fEpoch, p.fSequence, p.fCount]
theorem encP_21 (p : Pfx) : encP p = pre21 p ++ post21 p := by
  unfold encP KS toL pre21 post21
  simp only [encI, List.append_assoc]
theorem pre21_len (p : Pfx) : (pre21 p).length = 21 := by
  unfold pre21
  simp only [List.length_append, be_length]
theorem encP_drop (p : Pfx) : (encP p).drop 21 = post21 p := by
  rw [encP_21, ← pre21_len p, List.drop_left]
def okRc (x : Rec) : Prop := okRec x ∧ vfold ((encBody x).length : Int) < 2 ^ (32 : Int).toNat
def pMore : Pr Unit := fun s q => if q = s.length then .error 10 else .ok ((), q)
def pRecs : Nat → Pr (List Rec)
  | 0 => .ret []
  | n + 1 => pMore.bind fun _ => pRec.bind fun x => (pRecs n).bind fun l => .ret (x :: l)
theorem encRec_pos (x : Rec) : 0 < (encRec x).length := by
  unfold encRec
  rw [List.length_append]
  have := vput_pos (vfold ((encBody x).length : Int))
  omega
theorem recs_spell : ∀ (n : Nat) (s : List UInt8) (q : Nat) (l : List Rec) (r : Nat), q ≤ s.length → pRecs n s q = .ok (l, r) → q ≤ r ∧ r ≤ s.length ∧ s.take r = s.take q ++ encs encRec l ∧ l.length = n ∧ ∀ x, x ∈ l → okRc x
  | 0, s, q, l, r, hq, h => by
    injection h with h
    obtain ⟨rfl, rfl⟩ := Prod.mk.inj h
    exact ⟨Nat.le_refl _, hq, by simp [encs], rfl, fun x h => nomatch h⟩
  | n + 1, s, q, l, r, hq, h => by
    obtain ⟨u, m, h1, h2⟩ := Pr.bind_ok h
    unfold pMore at h1
    split at h1
    · exact nomatch h1
    injection h1 with h1
    obtain ⟨_, rfl⟩ := Prod.mk.inj h1
    obtain ⟨x, m2, h3, h4⟩ := Pr.bind_ok h2
    obtain ⟨xs, m3, h5, h6⟩ := Pr.bind_ok h4
    injection h6 with h6
    obtain ⟨rfl, rfl⟩ := Prod.mk.inj h6
    obtain ⟨a1, a2, a3, a4, a5⟩ := Sp_rec.spell s q x m2 hq h3
    obtain ⟨b1, b2, b3, b4, b5⟩ := recs_spell n s m2 xs m3 a2 h5
    refine ⟨by omega, b2, by rw [b3, a4, encs, List.append_assoc], by rw [List.length_cons, b4], fun y hy => ?_⟩
    rcases List.mem_cons.1 hy with rfl | hy
    · exact a5
    · exact b5 y hy
theorem recs_back : ∀ (l : List Rec) (s t : List UInt8) (q : Nat), q ≤ s.length → (∀ x, x ∈ l → okRc x) → s.drop q = encs encRec l ++ t → pRecs l.length s q = .ok (l, q + (encs encRec l).length)
  | [], s, t, q, hq, _, _ => rfl
  | x :: l, s, t, q, hq, ho, hd => by
    rw [encs, List.append_assoc] at hd
    have hl := congrArg List.length hd
    rw [List.length_drop, List.length_append] at hl
    have hp := encRec_pos x
    have h0 : pMore s q = .ok ((), q) := if_neg (by omega)
    have h1 := Sp_rec.back s _ q x hq (ho x (.head _)) hd
    have h2 := recs_back l s t _ (by omega) (fun y hy => ho y (.tail _ hy)) (drop_step hd)
    rw [List.length_cons, pRecs, Pr.bind_of h0, Pr.bind_of h1, Pr.bind_of h2, encs, List.length_append, ← Nat.add_assoc]
    rfl
def chk (a : Bat) : Int := (f_batch_Check a).getD 0
def body (a : Bat) : List UInt8 := encs encRec a.fRecords
def mkB (p : Pfx) (l : List Rec) : Bat := ⟨p.fBase, p.fLeader, bitAt p.fAttr 3, bitAt p.fAttr 4, bitAt p.fAttr 5, p.fLast, p.fFirst, p.fMax, p.fProducer, p.fEpoch, p.fSequence, l⟩
def pB (a : Bat) (s : Int) : Pfx := ⟨a.fBase, 49 + ((body a).length : Int), a.fLeader, s, ofBits a.fAppend a.fTxn a.fControl, a.fLast, a.fFirst, a.fMax, a.fProducer, a.fEpoch, a.fSequence, (a.fRecords.length : Int)⟩
def sumP (p : Pfx) (s : List UInt8) : Nat := crcM 0 (post21 p ++ s)
def sumB (a : Bat) : Nat := sumP (pB a 0) (body a)
def encB (a : Bat) : List UInt8 := encP (pB a (sumB a)) ++ body a
def okB (a : Bat) : Prop := okP (pB a (sumB a)) ∧ acheck (ofBits a.fAppend a.fTxn a.fControl) = 0 ∧ (∀ x, x ∈ a.fRecords → okRc x) ∧ chk a = 0
def openP (p : Pfx) (s : List UInt8) : Except Int Bat :=
  if acheck p.fAttr = 0 then
    match pRecs p.fCount.toNat s 0 with
    | .error e => .error e
    | .ok (l, r) => if r < s.length then .error 10 else if chk (mkB p l) = 0 then .ok (mkB p l) else .error (chk (mkB p l))
  else .error (acheck p.fAttr)
def pBat : Pr Bat := fun s q =>
  match pPfx s q with
  | .error e => .error e
  | .ok (p, r) => if s.length < r + (p.fLength - 49).toNat then .error 1 else
    if ((sumP p ((s.drop r).take (p.fLength - 49).toNat) : Nat) : Int) = p.fSum then
      match openP p ((s.drop r).take (p.fLength - 49).toNat) with
      | .error e => .error e
      | .ok b => .ok (b, r + (p.fLength - 49).toNat)
    else .error 5
theorem attr_back {n : Int} (h : acheck n = 0) : ofBits (bitAt n 3) (bitAt n 4) (bitAt n 5) = n := by
  have h1 : n % 8 = 0 ∧ 0 ≤ n ∧ n ≤ 63 := by
    unfold acheck at h
    split at h
    · cases h
    · split at h
      · cases h
      · omega
  have h2 : n = 0 ∨ n = 8 ∨ n = 16 ∨ n = 24 ∨ n = 32 ∨ n = 40 ∨ n = 48 ∨ n = 56 := by omega
  rcases h2 with rfl | rfl | rfl | rfl | rfl | rfl | rfl | rfl <;> decide
theorem bits_of : ∀ a b c : Bool, bitAt (ofBits a b c) 3 = a ∧ bitAt (ofBits a b c) 4 = b ∧ bitAt (ofBits a b c) 5 = c := by decide
theorem openP_ok {p : Pfx} {s : List UInt8} {b : Bat} (h : openP p s = .ok b) (h0 : 0 ≤ p.fCount) : acheck p.fAttr = 0 ∧ ∃ l, b = mkB p l ∧ s = encs encRec l ∧ (l.length : Int) = p.fCount ∧ (∀ x, x ∈ l → okRc x) ∧ chk b = 0 := by
  unfold openP at h
  by_cases ha : acheck p.fAttr = 0
  · rw [if_pos ha] at h
    refine ⟨ha, ?_⟩
    cases hr : pRecs p.fCount.toNat s 0 with
    | error e => rw [hr] at h; exact nomatch h
    | ok x =>
      obtain ⟨l, r⟩ := x
      rw [hr] at h
      dsimp only at h
      by_cases hl : r < s.length
      · rw [if_pos hl] at h; exact nomatch h
      rw [if_neg hl] at h
      by_cases hc : chk (mkB p l) = 0
      · rw [if_pos hc] at h
        injection h with h
        subst h
        obtain ⟨b1, b2, b3, b4, b5⟩ := recs_spell _ s 0 l r (Nat.zero_le _) hr
        rw [List.take_of_length_le (by omega), List.take_zero, List.nil_append] at b3
        exact ⟨l, rfl, b3, by omega, b5, hc⟩
      · rw [if_neg hc] at h; exact nomatch h
  · rw [if_neg ha] at h; exact nomatch h
theorem pB_mk {p : Pfx} {l : List Rec} (h1 : (49 : Int) + ((encs encRec l).length : Int) = p.fLength) (h2 : acheck p.fAttr = 0) (h3 : (l.length : Int) = p.fCount) (s : Int) : pB (mkB p l) s = ⟨p.fBase, p.fLength, p.fLeader, s, p.fAttr, p.fLast, p.fFirst, p.fMax, p.fProducer, p.fEpoch, p.fSequence, p.fCount⟩ := by
  unfold pB mkB body
  dsimp only
  rw [h1, h3, attr_back h2]
theorem Sp_bat : Sp pBat encB okB := by
  refine ⟨fun s q b r hq h => ?_, fun s t q a hq ha hd => ?_⟩
  · unfold pBat at h
    cases hp : pPfx s q with
    | error e => rw [hp] at h; exact nomatch h
    | ok x =>
      obtain ⟨p, m⟩ := x
      rw [hp] at h
      dsimp only at h
      obtain ⟨a1, a2, a3, a4, a5, a6, a7, a8⟩ := Sp_pfx.spell s q p m hq hp
      by_cases hl : s.length < m + (p.fLength - 49).toNat
      · rw [if_pos hl] at h; exact nomatch h
      rw [if_neg hl] at h
      by_cases hs : ((sumP p ((s.drop m).take (p.fLength - 49).toNat) : Nat) : Int) = p.fSum
      · rw [if_pos hs] at h
        cases ho : openP p ((s.drop m).take (p.fLength - 49).toNat) with
        | error e => rw [ho] at h; exact nomatch h
        | ok b' =>
          rw [ho] at h
          injection h with h
          obtain ⟨rfl, rfl⟩ := Prod.mk.inj h
          obtain ⟨k1, l, rfl, k3, k4, k5, k6⟩ := openP_ok ho a8
          have hn : ((s.drop m).take (p.fLength - 49).toNat).length = (p.fLength - 49).toNat := by rw [List.length_take, List.length_drop]; omega
          have e1 : (49 : Int) + ((encs encRec l).length : Int) = p.fLength := by rw [← k3, hn]; omega
          have e2 : ((sumB (mkB p l) : Nat) : Int) = p.fSum := by
            rw [← hs, k3]
            unfold sumB
            rw [pB_mk e1 k1 k4]
            rfl
          have e3 : pB (mkB p l) (sumB (mkB p l)) = p := by rw [pB_mk e1 k1 k4, e2]
          have e4 : encB (mkB p l) = encP p ++ (s.drop m).take (p.fLength - 49).toNat := by
            unfold encB
            rw [e3, k3]
            rfl
          have a9 := congrArg List.length a4
          refine ⟨by omega, by omega, ?_, ?_, ?_⟩
          · rw [e4, List.length_append, hn]; omega
          · rw [e4, take_step, a4, List.append_assoc]
          · refine ⟨by rw [e3]; exact ⟨a5, a6, a7, a8⟩, ?_, k5, k6⟩
            show acheck (ofBits (bitAt p.fAttr 3) (bitAt p.fAttr 4) (bitAt p.fAttr 5)) = 0
            rw [attr_back k1]
            exact k1
      · rw [if_neg hs] at h; exact nomatch h
  · obtain ⟨h1, h2, h3, h4⟩ := ha
    unfold encB at hd
    rw [List.append_assoc] at hd
    have hp := Sp_pfx.back s _ q _ hq h1 hd
    have hd2 := drop_step hd
    have hl := congrArg List.length hd
    rw [List.length_drop, List.length_append, List.length_append] at hl
    have hn : ((pB a (sumB a)).fLength - 49).toNat = (body a).length := by
      show ((49 : Int) + ((body a).length : Int) - 49).toNat = _
      omega
    have ht : (s.drop (q + (encP (pB a (sumB a))).length)).take (body a).length = body a := by rw [hd2, List.take_left]
    unfold pBat
    rw [hp]
    dsimp only
    rw [hn, ht, if_neg (by omega), if_pos (show ((sumP (pB a (sumB a)) (body a) : Nat) : Int) = (pB a (sumB a)).fSum from rfl)]
    have hr := recs_back a.fRecords (body a) [] 0 (Nat.zero_le _) h3 (by rw [List.drop_zero, List.append_nil]; rfl)
    have ho : openP (pB a (sumB a)) (body a) = .ok a := by
      unfold openP
      rw [if_pos (show acheck (pB a (sumB a)).fAttr = 0 from h2), show (pB a (sumB a)).fCount.toNat = a.fRecords.length from rfl, hr]
      dsimp only
      obtain ⟨b1, b2, b3⟩ := bits_of a.fAppend a.fTxn a.fControl
      have e : mkB (pB a (sumB a)) a.fRecords = a := by
        unfold mkB pB
        dsimp only
        rw [b1, b2, b3]
      rw [e, if_neg (by show ¬ 0 + (body a).length < _; omega), if_pos h4]
    rw [ho]
    dsimp only
    unfold encB
    rw [List.length_append, Nat.add_assoc]
end Go.Proofs.Ytcoppaggpbfcmaa.Sl
namespace Go.Proofs.Ytcoppaggpbfcmaa.Sl
open Go.RowKit
set_option linter.unusedVariables false
set_option linter.unusedSimpArgs false
def zBat : Bat := ⟨0, 0, false, false, false, 0, 0, 0, 0, 0, 0, []⟩
def bnR (r : Rec) : Prop := r.fHeaders.length ≤ 1000000 ∧ r.fKey.data.length ≤ 1000000 ∧ r.fValue.data.length ≤ 1000000
def bnB (a : Bat) : Prop := wf_Bat a ∧ a.fRecords.length ≤ 1000000 ∧ ∀ r, r ∈ a.fRecords → bnR r
theorem encs_mem {α : Type} (enc : α → List UInt8) : ∀ (l : List α) (x : α), x ∈ l → (enc x).length ≤ (encs enc l).length
  | y :: l, x, h => by
    rw [encs, List.length_append]
    rcases List.mem_cons.1 h with rfl | h
    · omega
    · have := encs_mem enc l x h
      omega
theorem encs_pos {α : Type} (enc : α → List UInt8) : ∀ (l : List α), (∀ x, x ∈ l → 0 < (enc x).length) → l.length ≤ (encs enc l).length
  | [], _ => Nat.zero_le _
  | y :: l, h => by
    rw [encs, List.length_append, List.length_cons]
    have h1 := h y (.head _)
    have := encs_pos enc l (fun x hx => h x (.tail _ hx))
    omega
theorem encHd_pos (h : Hd) : 0 < (encHd h).length := by
  unfold encHd
  simp only [List.length_append]
  have := vput_pos (vfold (h.fKey.length : Int))
  omega
theorem rec_bounds {x : Rec} (h : okRec x) (hl : (encRec x).length ≤ 1000000) : wf_Rec x ∧ bnR x := by
  obtain ⟨_, h2, h3⟩ := okRec_right h
  have e : (encRec x).length = (vput (vfold ((encBody x).length : Int))).length + (encBody x).length := by unfold encRec; rw [List.length_append]
  have e2 : (encBody x).length ≤ 1000000 := by omega
  simp only [encBody, encBl, encHs, List.length_append, be_length] at e2
  have h4 := encs_pos encHd x.fHeaders (fun y _ => encHd_pos y)
  have hS : ∀ d : List UInt8, d.length ≤ 1000000 → wS d := fun d hd => by unfold wS; omega
  refine ⟨⟨h2, h3, ⟨trivial, hS _ (by omega)⟩, ⟨trivial, hS _ (by omega)⟩, by omega, fun y hy => ?_⟩, by omega, by omega, by omega⟩
  have h5 := encs_mem encHd x.fHeaders y hy
  have h6 : (encHd y).length ≤ 1000000 := by omega
  simp only [encHd, List.length_append] at h6
  exact ⟨hS _ (by omega), trivial, hS _ (by omega)⟩
theorem chk_eq {a : Bat} (h : bnB a) : f_batch_Check a = some (chk a) ∧ f_r11_Check a = some (chk a) := by
  obtain ⟨cr, e0, h1, h2, _⟩ := check_same a h.1 h.2.1 h.2.2
  have e : chk a = chkB a cr e0 := by unfold chk; rw [h1]; rfl
  rw [e]
  exact ⟨h1, h2⟩
theorem fits_8 (n : Int) : fits n 8 = decide (-9223372036854775808 ≤ n ∧ n ≤ 9223372036854775807) := by
  rw [Bool.eq_iff_iff]
  unfold fits
  simp only [Bool.and_eq_true, decide_eq_true_eq]
  have : (2 : Int) ^ (8 * (8 : Int).toNat - 1) = 9223372036854775808 := by decide
  omega
theorem wI8 {n : Int} (h : fits n (8 : Nat) = true) : wI n := by
  have h' : fits n 8 = true := h
  rw [fits_8] at h'
  have h2 := of_decide_eq_true h'
  exact h2
theorem wI4 {n : Int} (h : fits n (4 : Nat) = true) : -2147483648 ≤ n ∧ n ≤ 2147483647 := by
  have h' : fits n 4 = true := h
  rw [fits_4] at h'
  exact of_decide_eq_true h'
theorem wI2 {n : Int} (h : fits n (2 : Nat) = true) : -32768 ≤ n ∧ n ≤ 32767 := by
  have h' : fits n 2 = true := h
  rw [b_fits_2] at h'
  exact of_decide_eq_true h'
theorem mkB_bounds {p : Pfx} (hp : okP p) {l : List Rec} (hl : ∀ x, x ∈ l → okRc x) (hb : (encs encRec l).length ≤ 1000000) : bnB (mkB p l) := by
  obtain ⟨⟨k1, k2, k3, _, k5, k6, k7, k8, k9, k10, k11, k12, k13, _⟩, _, _, _⟩ := hp
  have w4 : ∀ {n : Int}, fits n (4 : Nat) = true → wI n := fun h => by have := wI4 h; unfold wI; omega
  have w2 : ∀ {n : Int}, fits n (2 : Nat) = true → wI n := fun h => by have := wI2 h; unfold wI; omega
  have hr : ∀ x, x ∈ l → wf_Rec x ∧ bnR x := fun x hx => rec_bounds (hl x hx).1 (by have := encs_mem encRec l x hx; omega)
  have h4 := encs_pos encRec l (fun y _ => encRec_pos y)
  exact ⟨⟨wI8 k1, w4 k3, trivial, trivial, trivial, w4 k7, wI8 k8, wI8 k9, wI8 k10, w2 k11, w4 k12, by show l.length ≤ _; omega, fun x hx => (hr x hx).1⟩, by show l.length ≤ _; omega, fun x hx => (hr x hx).2⟩
theorem bopen_l1 (p : Pfx) (hc : p.fCount ≤ 2147483647) (s : List UInt8) (hs : s.length ≤ 1000000) (y : Int) : ∀ (n k fuel : Nat) (acc : List Rec) (q : Nat), ((k + n : Nat) : Int) = p.fCount → n < fuel → q ≤ s.length → acc.length ≤ q →
    (∃ e, pRecs n s q = .error e ∧ e ≠ 0 ∧ f_batch_open_l1 p fuel y k acc ⟨s.drop q, q, 0⟩ = some (.ret (zBat, e))) ∨ (∃ l r, pRecs n s q = .ok (l, r) ∧ q ≤ r ∧ r ≤ s.length ∧ f_batch_open_l1 p fuel y k acc ⟨s.drop q, q, 0⟩ = some (.go (y, k + n, acc ++ l, ⟨s.drop r, r, 0⟩)))
  | 0, k, fuel + 1, acc, q, hk, hf, hq, ha => .inr ⟨[], q, rfl, Nat.le_refl _, hq, by rw [f_batch_open_l1, if_neg (by omega), List.append_nil, Nat.add_zero]⟩
  | n + 1, k, fuel + 1, acc, q, hk, hf, hq, ha => by
    rw [f_batch_open_l1, if_pos (by omega), gLeft_eq, Option.bind_some]
    dsimp only
    rw [List.length_drop, pRecs]
    by_cases hz : q = s.length
    · rw [if_pos (by omega)]
      exact .inl ⟨10, Pr.bind_err (if_pos hz), by decide, rfl⟩
    rw [if_neg (by omega), Pr.bind_of (show pMore s q = .ok ((), q) from if_neg hz)]
    rcases B_rec.run s q hs hq with ⟨e, st, p1, g1, x1, y1⟩ | ⟨b, r, p1, g1, n1, l1⟩
    · rw [g1, Option.bind_some]
      dsimp only
      rw [gErr_eq, Option.bind_some]
      dsimp only
      rw [if_neg y1]
      exact .inl ⟨e, Pr.bind_err p1, by rw [← x1]; exact y1, by rw [x1]; rfl⟩
    · have h3 := (Sp_rec.spell s q b r hq p1).2.2.1
      have h4 := encRec_pos b
      rw [g1, Option.bind_some]
      dsimp only
      rw [gErr_eq, Option.bind_some]
      dsimp only
      rw [if_pos rfl, if_pos (by omega), if_pos (by omega), Pr.bind_of p1]
      rcases bopen_l1 p hc s hs y n (k + 1) fuel (acc ++ [b]) r (by omega) (by omega) l1 (by rw [List.length_append, List.length_singleton]; omega) with ⟨e, q1, q2, q3⟩ | ⟨l, m, q1, q2, q3, q4⟩
      · exact .inl ⟨e, Pr.bind_err q1, q2, q3⟩
      · exact .inr ⟨b :: l, m, by rw [Pr.bind_of q1]; rfl, by omega, q3, by rw [q4, List.append_assoc, show k + 1 + n = k + (n + 1) by omega]; rfl⟩
theorem bopen {p : Pfx} (hp : okP p) (s : List UInt8) (hs : s.length ≤ 1000000) : (∃ e x, openP p s = .error e ∧ e ≠ 0 ∧ f_batch_open p s = some (x, e)) ∨ (∃ b, openP p s = .ok b ∧ f_batch_open p s = some (b, 0)) := by
  obtain ⟨k1, k2, k3, k4⟩ := id hp
  have ha := wI2 k1.2.2.2.2.2.1
  have hc := wI4 k1.2.2.2.2.2.2.2.2.2.2.2.2.1
  try dsimp only at ha
  unfold f_batch_open openP
  rw [gACheck_eq _ (by omega), Option.bind_some]
  by_cases h0 : acheck p.fAttr = 0
  rotate_left
  · rw [if_neg h0, if_neg h0]
    exact .inl ⟨_, _, rfl, h0, rfl⟩
  rw [if_pos h0, if_pos h0, gARead_eq, Option.bind_some]
  dsimp only
  rw [gNew_eq _ (by omega), Option.bind_some]
  rcases bopen_l1 p hc.2 s hs 0 p.fCount.toNat 0 (p.fCount.toNat + 1) [] 0 (by omega) (by omega) (Nat.zero_le _) (Nat.zero_le _) with ⟨e, q1, q2, q3⟩ | ⟨l, m, q1, q2, q3, q4⟩
  · rw [List.drop_zero] at q3
    rw [q3, q1]
    exact .inl ⟨e, _, rfl, q2, rfl⟩
  · rw [List.drop_zero] at q4
    obtain ⟨b1, b2, b3, b4, b5⟩ := recs_spell _ s 0 l m (Nat.zero_le _) q1
    rw [q4, q1, Option.bind_some]
    dsimp only
    rw [gLeft_eq, Option.bind_some]
    dsimp only
    rw [List.length_drop]
    by_cases hl : m < s.length
    · rw [if_pos hl, if_pos (show ((s.length - m : Nat) : Int) > 0 by omega)]
      exact .inl ⟨_, _, rfl, by decide, rfl⟩
    · rw [if_neg hl, if_neg (show ¬ ((s.length - m : Nat) : Int) > 0 by omega)]
      rw [List.take_of_length_le (by omega), List.take_zero, List.nil_append] at b3
      have hB := mkB_bounds hp b5 (by rw [← b3]; exact hs)
      have e : f_batch_Check (⟨p.fBase, p.fLeader, bitAt p.fAttr 3, bitAt p.fAttr 4, bitAt p.fAttr 5, p.fLast, p.fFirst, p.fMax, p.fProducer, p.fEpoch, p.fSequence, [] ++ l⟩ : Bat) = some (chk (mkB p l)) := (chk_eq hB).1
      rw [e, Option.bind_some]
      by_cases hk : chk (mkB p l) = 0
      · rw [if_pos hk, hk]
        exact .inr ⟨_, rfl, rfl⟩
      · rw [if_neg hk]
        exact .inl ⟨_, _, rfl, hk, rfl⟩
theorem B_bat : CB f_batch_Read pBat zBat := by
  refine ⟨fun st h => ?_, fun s q hs hq => ?_⟩
  · unfold f_batch_Read
    rw [B_pfx.dead st h, Option.bind_some]
    dsimp only
    rw [if_pos (by decide), gTake_eq _ _ (by decide), Option.bind_some]
    dsimp only
    have e : itake st ((0 : Int) - 49) = ([], st) := if_pos h
    rw [show zP.fLength = (0 : Int) from rfl, e, gErr_eq, Option.bind_some]
    dsimp only
    rw [if_neg h]
    rfl
  · unfold f_batch_Read pBat
    rcases B_pfx.run s q hs hq with ⟨e, st, p1, g1, x1, y1⟩ | ⟨p, r, p1, g1, n1, l1⟩
    · refine .inl ⟨e, st, by rw [p1], ?_, x1, y1⟩
      rw [g1, Option.bind_some]
      dsimp only
      rw [if_pos (by decide), gTake_eq _ _ (by decide), Option.bind_some]
      dsimp only
      have e : itake st ((0 : Int) - 49) = ([], st) := if_pos y1
      rw [show zP.fLength = (0 : Int) from rfl, e, gErr_eq, Option.bind_some]
      dsimp only
      rw [if_neg y1]
      rfl
    · obtain ⟨a1, a2, a3, a4, ap⟩ := Sp_pfx.spell s q p r hq p1
      obtain ⟨k1, k2, k3, k4⟩ := id ap
      have hL := wI4 k1.2.1
      try dsimp only at hL
      have hT : -9223372036854775808 ≤ p.fLength - 49 ∧ p.fLength - 49 ≤ 9223372036854775807 := by omega
      rw [g1, Option.bind_some, p1]
      dsimp only
      rw [if_pos hT, gTake_eq _ _ hT, Option.bind_some]
      dsimp only
      by_cases hl : s.length < r + (p.fLength - 49).toNat
      · have e : itake ⟨s.drop r, r, 0⟩ (p.fLength - 49) = ([], ⟨s.drop r, r, 1⟩) := by
          unfold itake
          rw [if_neg (by simp), if_neg (by omega), if_pos (by rw [List.length_drop]; omega)]
        rw [if_pos hl, e, gErr_eq, Option.bind_some]
        exact .inl ⟨1, ⟨s.drop r, r, 1⟩, rfl, rfl, rfl, by show (1 : Int) ≠ 0; decide⟩
      have e : itake ⟨s.drop r, r, 0⟩ (p.fLength - 49) = ((s.drop r).take (p.fLength - 49).toNat, ⟨s.drop (r + (p.fLength - 49).toNat), r + (p.fLength - 49).toNat, 0⟩) := by
        unfold itake
        rw [if_neg (by simp), if_neg (by omega), if_neg (by rw [List.length_drop]; omega), List.drop_drop]
      rw [if_neg hl, e, gErr_eq, Option.bind_some]
      dsimp only
      have hn : ((s.drop r).take (p.fLength - 49).toNat).length = (p.fLength - 49).toNat := by rw [List.length_take, List.length_drop]; omega
      generalize (s.drop r).take (p.fLength - 49).toNat = b at hn
      have hlen : (encP p).length = 61 := encP_len k1
      rw [if_pos rfl, write_ok [] ⟨k1, k2⟩ (by decide), Option.bind_some, List.nil_append, gOText_eq, Option.bind_some]
      dsimp only
      rw [otx_z, crc_new, Option.bind_some]
      dsimp only
      rw [if_pos (show 21 ≤ (encP p).length by omega)]
      have hp21 : (post21 p).length ≤ 61 := by rw [← encP_drop p, List.length_drop]; omega
      have hs2 : [post21 p, b].flatten = post21 p ++ b := by simp
      rw [encP_drop, crc_sum [post21 p, b] (by intro t ht; rcases List.mem_cons.1 ht with rfl | ht; omega; rw [List.mem_singleton.1 ht]; omega), Option.bind_some, hs2]
      dsimp only
      have hlt : crcM 0 (post21 p ++ b) < 4294967296 := crcM_lt (by decide) _
      rw [if_pos (show -9223372036854775808 ≤ ((crcM 0 (post21 p ++ b) : Nat) : Int) ∧ ((crcM 0 (post21 p ++ b) : Nat) : Int) ≤ 9223372036854775807 by omega)]
      by_cases hsum : ((sumP p b : Nat) : Int) = p.fSum
      rotate_left
      · rw [if_neg hsum, if_neg (show ¬ ((crcM 0 (post21 p ++ b) : Nat) : Int) = p.fSum from hsum), gIFail_eq, Option.bind_some]
        exact .inl ⟨5, _, rfl, rfl, rfl, by show (5 : Int) ≠ 0; decide⟩
      rw [if_pos hsum, if_pos (show ((crcM 0 (post21 p ++ b) : Nat) : Int) = p.fSum from hsum)]
      rcases bopen ap b (by omega) with ⟨e, x, o1, o2, o3⟩ | ⟨x, o1, o3⟩
      · rw [o1, o3, Option.bind_some]
        dsimp only
        rw [if_neg o2, gIFail_eq, Option.bind_some]
        exact .inl ⟨e, _, rfl, rfl, rfl, o2⟩
      · rw [o1, o3, Option.bind_some]
        dsimp only
        rw [if_pos rfl]
        exact .inr ⟨x, _, rfl, rfl, by omega, by omega⟩
end Go.Proofs.Ytcoppaggpbfcmaa.Sl
namespace Go.Proofs.Ytcoppaggpbfcmaa.Sl
open Go.RowKit
set_option linter.unusedVariables false
set_option linter.unusedSimpArgs false
theorem firstR_zero : ∀ {l : List Rec}, firstR l = 0 → ∀ r, r ∈ l → rightR r = 0
  | x :: l, h, r, hr => by
    rw [firstR] at h
    by_cases hx : rightR x = 0
    · rw [if_pos hx] at h
      rcases List.mem_cons.1 hr with rfl | hr
      · exact hx
      · exact firstR_zero h r hr
    · rw [if_neg hx] at h
      exact absurd h hx
theorem chk_facts {a : Bat} (h : bnB a) (h0 : chk a = 0) : numOk a ∧ prodOk a ∧ (a.fControl = true → a.fTxn = true ∧ (a.fRecords.length : Int) = 1) ∧ ∀ r, r ∈ a.fRecords → rightR r = 0 := by
  obtain ⟨cr, e0, h1, h2, h3, h4⟩ := check_same a h.1 h.2.1 h.2.2
  have e : chk a = chkB a cr e0 := by unfold chk; rw [h1]; rfl
  rw [e] at h0
  unfold chkB at h0
  by_cases hn : numOk a
  rotate_left
  · rw [if_neg hn] at h0; exact absurd h0 (by decide)
  rw [if_pos hn] at h0
  by_cases hc : a.fControl = true
  · rw [if_pos hc] at h0
    by_cases ht : a.fTxn = true
    rotate_left
    · rw [if_neg ht] at h0; exact absurd h0 (by decide)
    rw [if_pos ht] at h0
    by_cases hp : prodOk a
    rotate_left
    · rw [if_neg hp] at h0; exact absurd h0 (by decide)
    rw [if_pos hp] at h0
    by_cases hl : (a.fRecords.length : Int) = 1
    rotate_left
    · rw [if_neg hl] at h0; exact absurd h0 (by decide)
    rw [if_pos hl] at h0
    by_cases hf : firstR a.fRecords = 0
    rotate_left
    · rw [if_neg hf] at h0; exact absurd h0 hf
    exact ⟨hn, hp, fun _ => ⟨ht, hl⟩, firstR_zero hf⟩
  · rw [if_neg hc] at h0
    by_cases hp : prodOk a
    rotate_left
    · rw [if_neg hp] at h0; exact absurd h0 (by decide)
    rw [if_pos hp] at h0
    by_cases hf : firstR a.fRecords = 0
    rotate_left
    · rw [if_neg hf] at h0; exact absurd h0 hf
    exact ⟨hn, hp, fun h => absurd h hc, firstR_zero hf⟩
theorem ofBits_le : ∀ a t c : Bool, 0 ≤ ofBits a t c ∧ ofBits a t c ≤ 56 := by decide
theorem encB_len {a : Bat} (h : okB a) : (encB a).length = 61 + (body a).length := by
  unfold encB
  rw [List.length_append, encP_len h.1.1]
end Go.Proofs.Ytcoppaggpbfcmaa.Sl
namespace Go.Proofs.Ytcoppaggpbfcmaa.Sl
open Go.RowKit
set_option linter.unusedVariables false
set_option linter.unusedSimpArgs false
set_option maxRecDepth 100000
def ft_cursitorlaw11 : FTab := [(25, 3, 3), (25, 4, 4), (25, 8, 8), (25, 11, 11), (30, 0, 0), (30, 1, 1), (33, 2, 2), (33, 3, 4), (33, 4, 6), (81, 0, 0), (81, 1, 1)]
theorem ft_cursitorlaw11_ok : (ft_cursitorlaw11).OK Try.prog := ⟨FOK.mk Try.runUnderlying25 rfl Try.sizeOf4 rfl, FOK.mk Try.runUnderlying25 rfl Try.sizeOf4 rfl, FOK.mk Try.runUnderlying25 rfl Try.sizeOf3 rfl, FOK.mk Try.runUnderlying25 rfl Try.sizeOf23 rfl, FOK.mk Try.runUnderlying30 rfl Try.sizeOf4 rfl, FOK.mk Try.runUnderlying30 rfl Try.sizeOf9 rfl, FOK.mk Try.runUnderlying33 rfl Try.sizeOf30 rfl, FOK.mk Try.runUnderlying33 rfl Try.sizeOf30 rfl, FOK.mk Try.runUnderlying33 rfl Try.sizeOf31 rfl, FOK.mk Try.runUnderlying81 rfl Try.sizeOf9 rfl, FOK.mk Try.runUnderlying81 rfl Try.sizeOf30 rfl, trivial⟩
theorem bok_cursitorlaw11_25 : BOK Try.prog 25 #[.int .i64 0, .int .i64 0, .bool false, .bool false, .bool false, .int .i64 0, .int .i64 0, .int .i64 0, .int .i64 0, .int .i64 0, .int .i64 0, .slice none 0 0] [(0, 1), (1, 1), (2, 1), (3, 1), (4, 1), (5, 1), (6, 1), (7, 1), (8, 1), (9, 1), (10, 1), (11, 1)] := BOK.mk Try.zeroValue25 Try.runUnderlying25 (by intro w; simp)
def f_l11_speaks  : Option (Bool) := (f_batch_Encode (⟨0, 0, false, false, false, 0, 0, 0, -1, -1, -1, []⟩ : Bat)).bind fun (x1, x2) => (f_batch_Decode x1).bind fun (x4, x7) => if x1.length + [120].length ≤ 9223372036854775807 then ((f_batch_Decode (x1 ++ [120])).bind fun (x11, x14) => (f_batch_Encode (⟨0, 0, false, false, true, 0, 0, 0, 0, 0, 0, []⟩ : Bat)).bind fun (x17, x18) => (if x2 = 0 then (if (x1.length : Int) = 61 then (if x7 = 0 then (if x4.fProducer = (-1) then (if x14 = 2 then (if x18 = 8 then some true else some false) else some false) else some false) else some false) else some false) else some false).bind fun y25 => some y25) else none
set_option maxRecDepth 100000 in
set_option maxHeartbeats 4000000 in
theorem f_l11_speaks_spec  (r : Bool) (h : f_l11_speaks  = some r) : SpecX Try.prog 10 #[] .triv (EmpR) (fun v A' N => v = .bool r ∧ A' = EmpR ∧ N = []) := by
  refine enterA Try.func10 rfl Try.ntmps10 rfl ?_
  intro F w hX
  unfold f_l11_speaks at h
  refine T.seq (T.region rfl ?_)
  refine TL.run ft_cursitorlaw11_ok [0] rfl rfl ?_
  refine TL.nil (X.seq (T.seq (T.region rfl ?_)))
  refine TL.q rfl .u (Ex.bld (cells := #[.int .i64 0, .int .i64 0, .bool false, .bool false, .bool false, .int .i64 0, .int .i64 0, .int .i64 0, .int .i64 (-1), .int .i64 (-1), .int .i64 (-1), .slice none 0 0]) bok_cursitorlaw11_25 rfl (by kernel_rfl)) rfl ?_
  obtain ⟨⟨x1, x2⟩, hx3, h⟩ := Option.bind_eq_some_iff.1 h
  try dsimp only at h
  refine TL.ce rfl .u (.fn Try.call14 rfl) (f_batch_Encode_spec (⟨0, 0, false, false, false, 0, 0, 0, -1, -1, -1, []⟩ : Bat) _ _ _ hx3) (fun _ hs => slice_nil_reads) rfl ?_
  refine TL.run ft_cursitorlaw11_ok [2, 3, 4, 5, 6] rfl rfl ?_
  refine TL.nil (X.seq (T.seq (T.region rfl ?_)))
  obtain ⟨⟨x4, x7⟩, hx8, h⟩ := Option.bind_eq_some_iff.1 h
  try dsimp only at h
  refine TL.run ft_cursitorlaw11_ok [0] rfl rfl ?_
  refine TL.cge rfl .u (.fn Try.call11 rfl) (f_batch_Decode_spec x1 _ hx8) (fun _ hs => (RX.reads_triv _ _)) rfl ?_
  rintro _ _ _ ⟨A5, c6, rfl, rfl, rfl⟩
  refine TL.sel [0, 0] rfl ?_
  refine TL.run ft_cursitorlaw11_ok [2, 3, 4] rfl rfl ?_
  refine TL.alloc rfl .u Try.zeroValue25 rfl (fun b9 => ?_)
  refine TL.st0 (cs' := #[.int .i64 x4.fBase, .int .i64 x4.fLeader, .bool x4.fAppend, .bool x4.fTxn, .bool x4.fControl, .int .i64 x4.fLast, .int .i64 x4.fFirst, .int .i64 x4.fMax, .int .i64 x4.fProducer, .int .i64 x4.fEpoch, .int .i64 x4.fSequence, .slice A5 x4.fRecords.length c6]) rfl .u rfl rfl Try.sizeOf25 rfl rfl rfl rfl ?_
  refine TL.run ft_cursitorlaw11_ok [7] rfl rfl ?_
  refine TL.nil (X.seq (T.seq (T.region rfl ?_)))
  replace h := guard_some h
  obtain ⟨c10, h⟩ := h
  refine TL.run ft_cursitorlaw11_ok [0] rfl rfl ?_
  refine TL.q rfl .u (Ex.sAdd rfl (m := [120]) rfl c10) rfl ?_
  obtain ⟨⟨x11, x14⟩, hx15, h⟩ := Option.bind_eq_some_iff.1 h
  try dsimp only at h
  refine TL.cge rfl .u (.fn Try.call11 rfl) (f_batch_Decode_spec (x1 ++ [120]) _ hx15) (fun _ hs => (RX.reads_triv _ _)) rfl ?_
  rintro _ _ _ ⟨A12, c13, rfl, rfl, rfl⟩
  refine TL.sel [0, 0, 0, 0] rfl ?_
  refine TL.run ft_cursitorlaw11_ok [3, 4, 5] rfl rfl ?_
  refine TL.alloc rfl .u Try.zeroValue25 rfl (fun b16 => ?_)
  refine TL.st0 (cs' := #[.int .i64 x11.fBase, .int .i64 x11.fLeader, .bool x11.fAppend, .bool x11.fTxn, .bool x11.fControl, .int .i64 x11.fLast, .int .i64 x11.fFirst, .int .i64 x11.fMax, .int .i64 x11.fProducer, .int .i64 x11.fEpoch, .int .i64 x11.fSequence, .slice A12 x11.fRecords.length c13]) rfl .u rfl rfl Try.sizeOf25 rfl rfl rfl rfl ?_
  refine TL.run ft_cursitorlaw11_ok [8] rfl rfl ?_
  refine TL.nil (X.seq (T.seq (T.region rfl ?_)))
  refine TL.q rfl .u (Ex.bld (cells := #[.int .i64 0, .int .i64 0, .bool false, .bool false, .bool true, .int .i64 0, .int .i64 0, .int .i64 0, .int .i64 0, .int .i64 0, .int .i64 0, .slice none 0 0]) bok_cursitorlaw11_25 rfl (by kernel_rfl)) rfl ?_
  obtain ⟨⟨x17, x18⟩, hx19, h⟩ := Option.bind_eq_some_iff.1 h
  try dsimp only at h
  refine TL.ce rfl .u (.fn Try.call14 rfl) (f_batch_Encode_spec (⟨0, 0, false, false, true, 0, 0, 0, 0, 0, 0, []⟩ : Bat) _ _ _ hx19) (fun _ hs => slice_nil_reads) rfl ?_
  refine TL.run ft_cursitorlaw11_ok [2, 3, 4, 5, 6] rfl rfl ?_
  refine TL.nil (X.seq (T.seq ?_))
  obtain ⟨y25, h, hk26⟩ := Option.bind_eq_some_iff.1 h
  refine T.jq (fun e Rs => e = [(0, .bool y25)] ∧ Rs = [BlkR b16 25 #[.int .i64 x11.fBase, .int .i64 x11.fLeader, .bool x11.fAppend, .bool x11.fTxn, .bool x11.fControl, .int .i64 x11.fLast, .int .i64 x11.fFirst, .int .i64 x11.fMax, .int .i64 x11.fProducer, .int .i64 x11.fEpoch, .int .i64 x11.fSequence, .slice A12 x11.fRecords.length c13], RdR (sliceRd 7 Rec_rd) [.slice A12 x11.fRecords.length c13] x11.fRecords, BlkR b9 25 #[.int .i64 x4.fBase, .int .i64 x4.fLeader, .bool x4.fAppend, .bool x4.fTxn, .bool x4.fControl, .int .i64 x4.fLast, .int .i64 x4.fFirst, .int .i64 x4.fMax, .int .i64 x4.fProducer, .int .i64 x4.fEpoch, .int .i64 x4.fSequence, .slice A5 x4.fRecords.length c6], RdR (sliceRd 7 Rec_rd) [.slice A5 x4.fRecords.length c6] x4.fRecords, EmpR]) ?_ ?_
  · clear hk26
    refine T.region rfl ?_
    by_cases c27 : x2 = 0
    · replace h := ifT c27 h
      refine TL.run ft_cursitorlaw11_ok [0, 1, 2] rfl rfl ?_
      refine TL.q rfl (.g rfl rfl (decide_eq_true c27)) (Ex.ft ft_cursitorlaw11_ok rfl) rfl ?_
      refine TL.q rfl (.g rfl rfl (decide_eq_true c27)) (Ex.lenB rfl Try.runUnderlying9) rfl ?_
      refine TL.q rfl (.g rfl rfl (decide_eq_true c27)) (Ex.ft ft_cursitorlaw11_ok rfl) rfl ?_
      refine TL.q rfl .u (Ex.py rfl (decide_eq_true c27) rfl) rfl ?_
      by_cases c28 : (x1.length : Int) = 61
      · replace h := ifT c28 h
        refine TL.run ft_cursitorlaw11_ok [7] rfl rfl ?_
        refine TL.q rfl (.g rfl rfl (decide_eq_true c28)) (Ex.ft ft_cursitorlaw11_ok rfl) rfl ?_
        refine TL.q rfl (.g rfl rfl (decide_eq_true c28)) (Ex.ft ft_cursitorlaw11_ok rfl) rfl ?_
        refine TL.q rfl .u (Ex.py rfl (decide_eq_true c28) rfl) rfl ?_
        by_cases c29 : x7 = 0
        · replace h := ifT c29 h
          refine TL.run ft_cursitorlaw11_ok [11] rfl rfl ?_
          refine TL.q rfl (.g rfl rfl (decide_eq_true c29)) (Ex.ft ft_cursitorlaw11_ok rfl) rfl ?_
          refine TL.q rfl (.g rfl rfl (decide_eq_true c29)) (Ex.b1 2 rfl Try.isAgg3 rfl rfl) rfl ?_
          refine TL.q rfl (.g rfl rfl (decide_eq_true c29)) (Ex.ft ft_cursitorlaw11_ok rfl) rfl ?_
          refine TL.q rfl .u (Ex.py rfl (decide_eq_true c29) rfl) rfl ?_
          by_cases c30 : x4.fProducer = (-1)
          · replace h := ifT c30 h
            refine TL.run ft_cursitorlaw11_ok [16] rfl rfl ?_
            refine TL.q rfl (.g rfl rfl (decide_eq_true c30)) (Ex.ft ft_cursitorlaw11_ok rfl) rfl ?_
            refine TL.q rfl (.g rfl rfl (decide_eq_true c30)) (Ex.ft ft_cursitorlaw11_ok rfl) rfl ?_
            refine TL.q rfl .u (Ex.py rfl (decide_eq_true c30) rfl) rfl ?_
            by_cases c31 : x14 = 2
            · replace h := ifT c31 h
              refine TL.run ft_cursitorlaw11_ok [20] rfl rfl ?_
              refine TL.q rfl (.g rfl rfl (decide_eq_true c31)) (Ex.ft ft_cursitorlaw11_ok rfl) rfl ?_
              refine TL.q rfl (.g rfl rfl (decide_eq_true c31)) (Ex.ft ft_cursitorlaw11_ok rfl) rfl ?_
              refine TL.q rfl .u (Ex.py rfl (decide_eq_true c31) rfl) rfl ?_
              refine TL.run ft_cursitorlaw11_ok [24] rfl rfl ?_
              by_cases c32 : x18 = 8
              · replace h := ifT c32 h
                cases h
                exact TL.nil (X.as (d := 0) (v' := .bool true) rfl (congrArg Value.bool (decide_eq_true c32)) (X.jq [0, 0, 0, 0, 0] ⟨rfl, rfl⟩ (by rfl) (by rfl)))
              · replace h := ifF c32 h
                cases h
                exact TL.nil (X.as (d := 0) (v' := .bool false) rfl (congrArg Value.bool (decide_eq_false c32)) (X.jq [0, 0, 0, 0, 0] ⟨rfl, rfl⟩ (by rfl) (by rfl)))
            · replace h := ifF c31 h
              refine TL.run ft_cursitorlaw11_ok [20] rfl rfl ?_
              refine TL.no rfl (.gn rfl rfl (decide_eq_false c31)) rfl ?_
              refine TL.no rfl (.gn rfl rfl (decide_eq_false c31)) rfl ?_
              refine TL.q rfl .u (Ex.pn rfl (decide_eq_false c31) rfl) rfl ?_
              refine TL.run ft_cursitorlaw11_ok [24] rfl rfl ?_
              cases h
              exact TL.nil (X.jq [0, 0, 0, 0, 0] ⟨rfl, rfl⟩ (by rfl) (by rfl))
          · replace h := ifF c30 h
            refine TL.run ft_cursitorlaw11_ok [16] rfl rfl ?_
            refine TL.no rfl (.gn rfl rfl (decide_eq_false c30)) rfl ?_
            refine TL.no rfl (.gn rfl rfl (decide_eq_false c30)) rfl ?_
            refine TL.q rfl .u (Ex.pn rfl (decide_eq_false c30) rfl) rfl ?_
            refine TL.run ft_cursitorlaw11_ok [20] rfl rfl ?_
            refine TL.no rfl (.gn rfl rfl rfl) rfl ?_
            refine TL.no rfl (.gn rfl rfl rfl) rfl ?_
            refine TL.q rfl .u (Ex.pn rfl rfl rfl) rfl ?_
            refine TL.run ft_cursitorlaw11_ok [24] rfl rfl ?_
            cases h
            exact TL.nil (X.jq [0, 0, 0, 0, 0] ⟨rfl, rfl⟩ (by rfl) (by rfl))
        · replace h := ifF c29 h
          refine TL.run ft_cursitorlaw11_ok [11] rfl rfl ?_
          refine TL.no rfl (.gn rfl rfl (decide_eq_false c29)) rfl ?_
          refine TL.no rfl (.gn rfl rfl (decide_eq_false c29)) rfl ?_
          refine TL.no rfl (.gn rfl rfl (decide_eq_false c29)) rfl ?_
          refine TL.q rfl .u (Ex.pn rfl (decide_eq_false c29) rfl) rfl ?_
          refine TL.run ft_cursitorlaw11_ok [16] rfl rfl ?_
          refine TL.no rfl (.gn rfl rfl rfl) rfl ?_
          refine TL.no rfl (.gn rfl rfl rfl) rfl ?_
          refine TL.q rfl .u (Ex.pn rfl rfl rfl) rfl ?_
          refine TL.run ft_cursitorlaw11_ok [20] rfl rfl ?_
          refine TL.no rfl (.gn rfl rfl rfl) rfl ?_
          refine TL.no rfl (.gn rfl rfl rfl) rfl ?_
          refine TL.q rfl .u (Ex.pn rfl rfl rfl) rfl ?_
          refine TL.run ft_cursitorlaw11_ok [24] rfl rfl ?_
          cases h
          exact TL.nil (X.jq [0, 0, 0, 0, 0] ⟨rfl, rfl⟩ (by rfl) (by rfl))
      · replace h := ifF c28 h
        refine TL.run ft_cursitorlaw11_ok [7] rfl rfl ?_
        refine TL.no rfl (.gn rfl rfl (decide_eq_false c28)) rfl ?_
        refine TL.no rfl (.gn rfl rfl (decide_eq_false c28)) rfl ?_
        refine TL.q rfl .u (Ex.pn rfl (decide_eq_false c28) rfl) rfl ?_
        refine TL.run ft_cursitorlaw11_ok [11] rfl rfl ?_
        refine TL.no rfl (.gn rfl rfl rfl) rfl ?_
        refine TL.no rfl (.gn rfl rfl rfl) rfl ?_
        refine TL.no rfl (.gn rfl rfl rfl) rfl ?_
        refine TL.q rfl .u (Ex.pn rfl rfl rfl) rfl ?_
        refine TL.run ft_cursitorlaw11_ok [16] rfl rfl ?_
        refine TL.no rfl (.gn rfl rfl rfl) rfl ?_
        refine TL.no rfl (.gn rfl rfl rfl) rfl ?_
        refine TL.q rfl .u (Ex.pn rfl rfl rfl) rfl ?_
        refine TL.run ft_cursitorlaw11_ok [20] rfl rfl ?_
        refine TL.no rfl (.gn rfl rfl rfl) rfl ?_
        refine TL.no rfl (.gn rfl rfl rfl) rfl ?_
        refine TL.q rfl .u (Ex.pn rfl rfl rfl) rfl ?_
        refine TL.run ft_cursitorlaw11_ok [24] rfl rfl ?_
        cases h
        exact TL.nil (X.jq [0, 0, 0, 0, 0] ⟨rfl, rfl⟩ (by rfl) (by rfl))
    · replace h := ifF c27 h
      refine TL.run ft_cursitorlaw11_ok [0, 1, 2] rfl rfl ?_
      refine TL.no rfl (.gn rfl rfl (decide_eq_false c27)) rfl ?_
      refine TL.no rfl (.gn rfl rfl (decide_eq_false c27)) rfl ?_
      refine TL.no rfl (.gn rfl rfl (decide_eq_false c27)) rfl ?_
      refine TL.q rfl .u (Ex.pn rfl (decide_eq_false c27) rfl) rfl ?_
      refine TL.run ft_cursitorlaw11_ok [7] rfl rfl ?_
      refine TL.no rfl (.gn rfl rfl rfl) rfl ?_
      refine TL.no rfl (.gn rfl rfl rfl) rfl ?_
      refine TL.q rfl .u (Ex.pn rfl rfl rfl) rfl ?_
      refine TL.run ft_cursitorlaw11_ok [11] rfl rfl ?_
      refine TL.no rfl (.gn rfl rfl rfl) rfl ?_
      refine TL.no rfl (.gn rfl rfl rfl) rfl ?_
      refine TL.no rfl (.gn rfl rfl rfl) rfl ?_
      refine TL.q rfl .u (Ex.pn rfl rfl rfl) rfl ?_
      refine TL.run ft_cursitorlaw11_ok [16] rfl rfl ?_
      refine TL.no rfl (.gn rfl rfl rfl) rfl ?_
      refine TL.no rfl (.gn rfl rfl rfl) rfl ?_
      refine TL.q rfl .u (Ex.pn rfl rfl rfl) rfl ?_
      refine TL.run ft_cursitorlaw11_ok [20] rfl rfl ?_
      refine TL.no rfl (.gn rfl rfl rfl) rfl ?_
      refine TL.no rfl (.gn rfl rfl rfl) rfl ?_
      refine TL.q rfl .u (Ex.pn rfl rfl rfl) rfl ?_
      refine TL.run ft_cursitorlaw11_ok [24] rfl rfl ?_
      cases h
      exact TL.nil (X.jq [0, 0, 0, 0, 0] ⟨rfl, rfl⟩ (by rfl) (by rfl))
  · rintro _ _ ⟨rfl, rfl⟩
    clear h
    have h := hk26
    clear hk26
    try dsimp only at h
    obtain rfl := Option.some.inj h
    exact X.seq (T.ret (X.done1 [4] Try.results10 (RV.tm rfl) ⟨rfl, rfl, rfl⟩ (by rfl) (.inl rfl)))
def f_l11_BatchControls (a0 : List UInt8) : Option (Bool) := (f_l11_speaks).bind fun x1 => if x1 = true then (if (a0.length : Int) > 1500 then some true else ((f_batch_Decode a0).bind fun (x5, x8) => if x8 = 0 then ((a0[22]?).bind fun ch12 => if 0 ≤ (ch12.toNat : Int) ∧ (ch12.toNat : Int) ≤ 255 then (if 0 ≤ ((ch12.toNat : Int) / 32) then (if x5.fControl = true then ((x5.fRecords[0]?).bind fun x17 => (if (((ch12.toNat : Int) / 32) % 2) = 1 then (if x5.fTxn = true then (if (x5.fRecords.length : Int) = 1 then (if x17.fKey.null = true then some false else (if x17.fKey.data = [0, 0, 0, 0] then some true else (if x17.fKey.data = [0, 0, 0, 1] then some true else some false))) else some false) else some false) else some false).bind fun y28 => some y28) else (if (((ch12.toNat : Int) / 32) % 2) = 1 then none else some true)) else none) else none) else some true)) else none
set_option maxRecDepth 100000 in
set_option maxHeartbeats 4000000 in
theorem f_l11_BatchControls_spec (a0 : List UInt8) (r : Bool) (h : f_l11_BatchControls a0 = some r) : SpecX Try.prog 3 #[.string (bsOf a0)] .triv (EmpR) (fun v A' N => v = .bool r ∧ A' = EmpR ∧ N = []) := by
  refine enterA Try.func3 rfl Try.ntmps3 rfl ?_
  intro F w hX
  unfold f_l11_BatchControls at h
  refine T.seq (T.region rfl ?_)
  refine TL.run ft_cursitorlaw11_ok [0] rfl rfl ?_
  obtain ⟨x1, hx2, h⟩ := Option.bind_eq_some_iff.1 h
  refine TL.nil (X.seq (T.seq (T.seq (T.region rfl ?_))))
  refine TL.ce rfl .u (.fn Try.call10 rfl) (f_l11_speaks_spec _ hx2) (fun _ hs => (RX.reads_triv _ _)) rfl ?_
  refine TL.run ft_cursitorlaw11_ok [1] rfl rfl ?_
  by_cases c3 : x1 = true
  · replace h := ifT c3 h
    refine TL.nil (X.seq ?_)
    refine T.no rfl (bn_f c3) ?_
    refine T.skip (X.seq (T.seq (T.seq (T.region rfl ?_))))
    refine TL.run ft_cursitorlaw11_ok [0] rfl rfl ?_
    refine TL.q rfl .u (Ex.lenB rfl Try.runUnderlying9) rfl ?_
    refine TL.run ft_cursitorlaw11_ok [2] rfl rfl ?_
    by_cases c4 : (a0.length : Int) > 1500
    · replace h := ifT c4 h
      refine TL.nil (X.seq ?_)
      refine T.yes rfl (decide_eq_true c4) ?_
      refine T.seq (T.region rfl ?_)
      refine TL.run ft_cursitorlaw11_ok [0] rfl rfl ?_
      obtain rfl := Option.some.inj h
      exact TL.nil (X.seq (T.ret (X.rs (X.done1 [0] Try.results3 (RV.tm rfl) ⟨rfl, rfl, rfl⟩ (by rfl) (.inl rfl)))))
    · replace h := ifF c4 h
      refine TL.nil (X.seq ?_)
      refine T.no rfl (decide_eq_false c4) ?_
      refine T.skip (X.seq (T.seq (T.region rfl ?_)))
      obtain ⟨⟨x5, x8⟩, hx9, h⟩ := Option.bind_eq_some_iff.1 h
      try dsimp only at h
      refine TL.run ft_cursitorlaw11_ok [0] rfl rfl ?_
      refine TL.cge rfl .u (.fn Try.call11 rfl) (f_batch_Decode_spec a0 _ hx9) (fun _ hs => (RX.reads_triv _ _)) rfl ?_
      rintro _ _ _ ⟨A6, c7, rfl, rfl, rfl⟩
      refine TL.sel [0, 0] rfl ?_
      refine TL.run ft_cursitorlaw11_ok [2, 3, 4] rfl rfl ?_
      refine TL.alloc rfl .u Try.zeroValue25 rfl (fun b10 => ?_)
      refine TL.st0 (cs' := #[.int .i64 x5.fBase, .int .i64 x5.fLeader, .bool x5.fAppend, .bool x5.fTxn, .bool x5.fControl, .int .i64 x5.fLast, .int .i64 x5.fFirst, .int .i64 x5.fMax, .int .i64 x5.fProducer, .int .i64 x5.fEpoch, .int .i64 x5.fSequence, .slice A6 x5.fRecords.length c7]) rfl .u rfl rfl Try.sizeOf25 rfl rfl rfl rfl ?_
      refine TL.run ft_cursitorlaw11_ok [7] rfl rfl ?_
      refine TL.nil (X.seq (T.seq (T.seq (T.region rfl ?_))))
      refine TL.run ft_cursitorlaw11_ok [0, 1] rfl rfl ?_
      by_cases c11 : x8 = 0
      · replace h := ifT c11 h
        refine TL.nil (X.seq ?_)
        refine T.no rfl (bn_f (decide_eq_true c11)) ?_
        refine T.skip (X.seq (T.seq (T.region rfl ?_)))
        obtain ⟨ch12, hc13, h⟩ := Option.bind_eq_some_iff.1 h
        refine TL.run ft_cursitorlaw11_ok [0] rfl rfl ?_
        refine TL.q rfl .u (Ex.sIx rfl rfl rfl Try.underlying9 hc13) rfl ?_
        replace h := guard_some h
        obtain ⟨c14, h⟩ := h
        refine TL.q rfl .u (Ex.quoK rfl rfl (by omega) c14.1 (by have hq := c14; simp [IntKind.wrap, IntKind.bits, IntKind.signed]; omega)) rfl ?_
        replace h := guard_some h
        obtain ⟨c15, h⟩ := h
        refine TL.q rfl .u (Ex.remK rfl rfl (by omega) c15) rfl ?_
        refine TL.run ft_cursitorlaw11_ok [4, 5] rfl rfl ?_
        refine TL.nil (X.seq (T.seq (T.seq (T.region rfl ?_))))
        refine TL.run ft_cursitorlaw11_ok [0] rfl rfl ?_
        refine TL.q rfl .u (Ex.b1 0 rfl Try.isAgg4 rfl rfl) rfl ?_
        refine TL.run ft_cursitorlaw11_ok [2] rfl rfl ?_
        by_cases c16 : x5.fControl = true
        · replace h := ifT c16 h
          refine TL.nil (X.seq ?_)
          refine T.no rfl (bn_f c16) ?_
          refine T.skip (X.seq (T.seq (T.region rfl ?_)))
          refine TL.run ft_cursitorlaw11_ok [0] rfl rfl ?_
          refine TL.q rfl .u (Ex.b1 0 rfl Try.isAgg23 rfl rfl) rfl ?_
          obtain ⟨x17, hx18, h⟩ := Option.bind_eq_some_iff.1 h
          refine TL.foc (E := Rec_rd) (k := 0) 1 rfl (fun w G h => rd_reads w G h) (by decide) hx18 ?_
          rintro gz19 oz19 z19cs hA z19cl ⟨_, _, z19r⟩
          cases hA
          obtain ⟨A20, c21, rfl, _⟩ := z19r
          clear z19cl
          refine TL.sel [0, 0, 0] rfl ?_
          refine TL.q rfl .u (Ex.ixS (k := 0) rfl rfl rfl Try.runUnderlying23 Try.sizeOf33 (List.getElem?_eq_some_iff.1 hx18).1) rfl ?_
          refine TL.run ft_cursitorlaw11_ok [3] rfl rfl ?_
          refine TL.q rfl .u (Ex.kS (cs := [.int .i64 x17.fTime, .int .i64 x17.fOffset, .bool x17.fKey.null, .string (bsOf x17.fKey.data), .bool x17.fValue.null, .string (bsOf x17.fValue.data), .slice A20 x17.fHeaders.length c21]) (us := [.bool x17.fKey.null, .string (bsOf x17.fKey.data)]) 1 2 rfl Try.isAgg30 Try.sizeOf30 rfl (fun _ _ h => h.2.2.1) rfl rfl) rfl ?_
          refine TL.alloc rfl .u Try.zeroValue30 rfl (fun b22 => ?_)
          refine TL.st0 (cs' := #[.bool x17.fKey.null, .string (bsOf x17.fKey.data)]) rfl .u rfl rfl Try.sizeOf30 rfl rfl rfl rfl ?_
          refine TL.nil (X.seq (T.seq ?_))
          obtain ⟨y28, h, hk29⟩ := Option.bind_eq_some_iff.1 h
          refine T.jq (fun e Rs => e = [(2, .bool y28)] ∧ Rs = [BlkR b22 30 #[.bool x17.fKey.null, .string (bsOf x17.fKey.data)], BlkR b10 25 #[.int .i64 x5.fBase, .int .i64 x5.fLeader, .bool x5.fAppend, .bool x5.fTxn, .bool x5.fControl, .int .i64 x5.fLast, .int .i64 x5.fFirst, .int .i64 x5.fMax, .int .i64 x5.fProducer, .int .i64 x5.fEpoch, .int .i64 x5.fSequence, .slice (some ⟨gz19, oz19, none⟩) x5.fRecords.length c7], RowK (RdR (sliceRd 7 Rec_rd) [.slice (some ⟨gz19, oz19, none⟩) x5.fRecords.length c7] x5.fRecords) Rec_rd gz19 (oz19 + 0 * 7) [.int .i64 x17.fTime, .int .i64 x17.fOffset, .bool x17.fKey.null, .string (bsOf x17.fKey.data), .bool x17.fValue.null, .string (bsOf x17.fValue.data), .slice A20 x17.fHeaders.length c21] x17, EmpR]) ?_ ?_
          · clear hk29
            refine T.region rfl ?_
            by_cases c30 : (((ch12.toNat : Int) / 32) % 2) = 1
            · replace h := ifT c30 h
              refine TL.run ft_cursitorlaw11_ok [0, 1] rfl rfl ?_
              refine TL.q rfl (.g rfl rfl (decide_eq_true c30)) (Ex.ft ft_cursitorlaw11_ok rfl) rfl ?_
              refine TL.q rfl (.g rfl rfl (decide_eq_true c30)) (Ex.b1 1 rfl Try.isAgg4 rfl rfl) rfl ?_
              refine TL.q rfl .u (Ex.py rfl (decide_eq_true c30) rfl) rfl ?_
              by_cases c31 : x5.fTxn = true
              · replace h := ifT c31 h
                refine TL.run ft_cursitorlaw11_ok [5] rfl rfl ?_
                refine TL.q rfl (.g rfl rfl c31) (Ex.ft ft_cursitorlaw11_ok rfl) rfl ?_
                refine TL.q rfl (.g rfl rfl c31) (Ex.b1 1 rfl Try.isAgg23 rfl rfl) rfl ?_
                refine TL.q rfl (.g rfl rfl c31) (Ex.lenS rfl Try.runUnderlying23) rfl ?_
                refine TL.q rfl (.g rfl rfl c31) (Ex.ft ft_cursitorlaw11_ok rfl) rfl ?_
                refine TL.q rfl .u (Ex.py rfl c31 rfl) rfl ?_
                by_cases c32 : (x5.fRecords.length : Int) = 1
                · replace h := ifT c32 h
                  refine TL.run ft_cursitorlaw11_ok [11] rfl rfl ?_
                  refine TL.q rfl (.g rfl rfl (decide_eq_true c32)) (Ex.ft ft_cursitorlaw11_ok rfl) rfl ?_
                  refine TL.q rfl (.g rfl rfl (decide_eq_true c32)) (Ex.b1 0 rfl Try.isAgg4 rfl rfl) rfl ?_
                  refine TL.q rfl (.g rfl rfl (decide_eq_true c32)) (Ex.ft ft_cursitorlaw11_ok rfl) rfl ?_
                  refine TL.q rfl .u (Ex.py rfl (decide_eq_true c32) rfl) rfl ?_
                  by_cases c33 : x17.fKey.null = true
                  · replace h := ifT c33 h
                    refine TL.run ft_cursitorlaw11_ok [16] rfl rfl ?_
                    refine TL.no rfl (.gn rfl rfl (bn_f c33)) rfl ?_
                    refine TL.no rfl (.gn rfl rfl (bn_f c33)) rfl ?_
                    refine TL.no rfl (.gn rfl rfl (bn_f c33)) rfl ?_
                    refine TL.no rfl (.gn rfl rfl (bn_f c33)) rfl ?_
                    refine TL.no rfl (.gu rfl rfl) rfl ?_
                    refine TL.no rfl (.gu rfl rfl) rfl ?_
                    refine TL.no rfl (.gu rfl rfl) rfl ?_
                    refine TL.no rfl (.gn rfl rfl (bn_f c33)) rfl ?_
                    refine TL.q rfl .u (Ex.pn rfl (bn_f c33) rfl) rfl ?_
                    refine TL.run ft_cursitorlaw11_ok [26] rfl rfl ?_
                    cases h
                    exact TL.nil (X.jq [0, 0, 0, 0] ⟨rfl, rfl⟩ (by rfl) (by rfl))
                  · replace h := ifF c33 h
                    replace c33 := eq_false_of_ne_true c33
                    refine TL.run ft_cursitorlaw11_ok [16] rfl rfl ?_
                    refine TL.q rfl (.g rfl rfl (bn_t c33)) (Ex.ft ft_cursitorlaw11_ok rfl) rfl ?_
                    refine TL.q rfl (.g rfl rfl (bn_t c33)) (Ex.b1 0 rfl Try.isAgg9 rfl rfl) rfl ?_
                    refine TL.q rfl (.g rfl rfl (bn_t c33)) (Ex.sEq rfl (m := [0, 0, 0, 0]) rfl) rfl ?_
                    refine TL.q rfl (.g rfl rfl (bn_t c33)) (Ex.ft ft_cursitorlaw11_ok rfl) rfl ?_
                    by_cases c34 : x17.fKey.data = [0, 0, 0, 0]
                    · replace h := ifT c34 h
                      refine TL.no rfl (.gn rfl rfl (decide_eq_true c34)) rfl ?_
                      refine TL.no rfl (.gn rfl rfl (decide_eq_true c34)) rfl ?_
                      refine TL.no rfl (.gn rfl rfl (decide_eq_true c34)) rfl ?_
                      refine TL.q rfl (.g rfl rfl (bn_t c33)) (Ex.py rfl (decide_eq_true c34) rfl) rfl ?_
                      refine TL.q rfl .u (Ex.py rfl (bn_t c33) rfl) rfl ?_
                      refine TL.run ft_cursitorlaw11_ok [26] rfl rfl ?_
                      cases h
                      exact TL.nil (X.jq [0, 0, 0, 0] ⟨rfl, rfl⟩ (by rfl) (by rfl))
                    · replace h := ifF c34 h
                      refine TL.q rfl (.g rfl rfl (decide_eq_false c34)) (Ex.ft ft_cursitorlaw11_ok rfl) rfl ?_
                      refine TL.q rfl (.g rfl rfl (decide_eq_false c34)) (Ex.b1 0 rfl Try.isAgg9 rfl rfl) rfl ?_
                      refine TL.q rfl (.g rfl rfl (decide_eq_false c34)) (Ex.sEq rfl (m := [0, 0, 0, 1]) rfl) rfl ?_
                      refine TL.q rfl (.g rfl rfl (bn_t c33)) (Ex.pn rfl (decide_eq_false c34) rfl) rfl ?_
                      refine TL.q rfl .u (Ex.py rfl (bn_t c33) rfl) rfl ?_
                      refine TL.run ft_cursitorlaw11_ok [26] rfl rfl ?_
                      by_cases c35 : x17.fKey.data = [0, 0, 0, 1]
                      · replace h := ifT c35 h
                        cases h
                        exact TL.nil (X.as (d := 2) (v' := .bool true) rfl (congrArg Value.bool (decide_eq_true c35)) (X.jq [0, 0, 0, 0] ⟨rfl, rfl⟩ (by rfl) (by rfl)))
                      · replace h := ifF c35 h
                        cases h
                        exact TL.nil (X.as (d := 2) (v' := .bool false) rfl (congrArg Value.bool (decide_eq_false c35)) (X.jq [0, 0, 0, 0] ⟨rfl, rfl⟩ (by rfl) (by rfl)))
                · replace h := ifF c32 h
                  refine TL.run ft_cursitorlaw11_ok [11] rfl rfl ?_
                  refine TL.no rfl (.gn rfl rfl (decide_eq_false c32)) rfl ?_
                  refine TL.no rfl (.gn rfl rfl (decide_eq_false c32)) rfl ?_
                  refine TL.no rfl (.gn rfl rfl (decide_eq_false c32)) rfl ?_
                  refine TL.q rfl .u (Ex.pn rfl (decide_eq_false c32) rfl) rfl ?_
                  refine TL.run ft_cursitorlaw11_ok [16] rfl rfl ?_
                  refine TL.no rfl (.gn rfl rfl rfl) rfl ?_
                  refine TL.no rfl (.gn rfl rfl rfl) rfl ?_
                  refine TL.no rfl (.gn rfl rfl rfl) rfl ?_
                  refine TL.no rfl (.gn rfl rfl rfl) rfl ?_
                  refine TL.no rfl (.gu rfl rfl) rfl ?_
                  refine TL.no rfl (.gu rfl rfl) rfl ?_
                  refine TL.no rfl (.gu rfl rfl) rfl ?_
                  refine TL.no rfl (.gn rfl rfl rfl) rfl ?_
                  refine TL.q rfl .u (Ex.pn rfl rfl rfl) rfl ?_
                  refine TL.run ft_cursitorlaw11_ok [26] rfl rfl ?_
                  cases h
                  exact TL.nil (X.jq [0, 0, 0, 0] ⟨rfl, rfl⟩ (by rfl) (by rfl))
              · replace h := ifF c31 h
                replace c31 := eq_false_of_ne_true c31
                refine TL.run ft_cursitorlaw11_ok [5] rfl rfl ?_
                refine TL.no rfl (.gn rfl rfl c31) rfl ?_
                refine TL.no rfl (.gn rfl rfl c31) rfl ?_
                refine TL.no rfl (.gn rfl rfl c31) rfl ?_
                refine TL.no rfl (.gn rfl rfl c31) rfl ?_
                refine TL.q rfl .u (Ex.pn rfl c31 rfl) rfl ?_
                refine TL.run ft_cursitorlaw11_ok [11] rfl rfl ?_
                refine TL.no rfl (.gn rfl rfl rfl) rfl ?_
                refine TL.no rfl (.gn rfl rfl rfl) rfl ?_
                refine TL.no rfl (.gn rfl rfl rfl) rfl ?_
                refine TL.q rfl .u (Ex.pn rfl rfl rfl) rfl ?_
                refine TL.run ft_cursitorlaw11_ok [16] rfl rfl ?_
                refine TL.no rfl (.gn rfl rfl rfl) rfl ?_
                refine TL.no rfl (.gn rfl rfl rfl) rfl ?_
                refine TL.no rfl (.gn rfl rfl rfl) rfl ?_
                refine TL.no rfl (.gn rfl rfl rfl) rfl ?_
                refine TL.no rfl (.gu rfl rfl) rfl ?_
                refine TL.no rfl (.gu rfl rfl) rfl ?_
                refine TL.no rfl (.gu rfl rfl) rfl ?_
                refine TL.no rfl (.gn rfl rfl rfl) rfl ?_
                refine TL.q rfl .u (Ex.pn rfl rfl rfl) rfl ?_
                refine TL.run ft_cursitorlaw11_ok [26] rfl rfl ?_
                cases h
                exact TL.nil (X.jq [0, 0, 0, 0] ⟨rfl, rfl⟩ (by rfl) (by rfl))
            · replace h := ifF c30 h
              refine TL.run ft_cursitorlaw11_ok [0, 1] rfl rfl ?_
              refine TL.no rfl (.gn rfl rfl (decide_eq_false c30)) rfl ?_
              refine TL.no rfl (.gn rfl rfl (decide_eq_false c30)) rfl ?_
              refine TL.q rfl .u (Ex.pn rfl (decide_eq_false c30) rfl) rfl ?_
              refine TL.run ft_cursitorlaw11_ok [5] rfl rfl ?_
              refine TL.no rfl (.gn rfl rfl rfl) rfl ?_
              refine TL.no rfl (.gn rfl rfl rfl) rfl ?_
              refine TL.no rfl (.gn rfl rfl rfl) rfl ?_
              refine TL.no rfl (.gn rfl rfl rfl) rfl ?_
              refine TL.q rfl .u (Ex.pn rfl rfl rfl) rfl ?_
              refine TL.run ft_cursitorlaw11_ok [11] rfl rfl ?_
              refine TL.no rfl (.gn rfl rfl rfl) rfl ?_
              refine TL.no rfl (.gn rfl rfl rfl) rfl ?_
              refine TL.no rfl (.gn rfl rfl rfl) rfl ?_
              refine TL.q rfl .u (Ex.pn rfl rfl rfl) rfl ?_
              refine TL.run ft_cursitorlaw11_ok [16] rfl rfl ?_
              refine TL.no rfl (.gn rfl rfl rfl) rfl ?_
              refine TL.no rfl (.gn rfl rfl rfl) rfl ?_
              refine TL.no rfl (.gn rfl rfl rfl) rfl ?_
              refine TL.no rfl (.gn rfl rfl rfl) rfl ?_
              refine TL.no rfl (.gu rfl rfl) rfl ?_
              refine TL.no rfl (.gu rfl rfl) rfl ?_
              refine TL.no rfl (.gu rfl rfl) rfl ?_
              refine TL.no rfl (.gn rfl rfl rfl) rfl ?_
              refine TL.q rfl .u (Ex.pn rfl rfl rfl) rfl ?_
              refine TL.run ft_cursitorlaw11_ok [26] rfl rfl ?_
              cases h
              exact TL.nil (X.jq [0, 0, 0, 0] ⟨rfl, rfl⟩ (by rfl) (by rfl))
          · rintro _ _ ⟨rfl, rfl⟩
            clear h
            have h := hk29
            clear hk29
            try dsimp only at h
            obtain rfl := Option.some.inj h
            exact X.seq (T.ret (X.done1 [3] Try.results3 (RV.tm rfl) ⟨rfl, rfl, rfl⟩ (by rfl) (.inl rfl)))
        · replace h := ifF c16 h
          replace c16 := eq_false_of_ne_true c16
          refine TL.nil (X.seq ?_)
          refine T.yes rfl (bn_t c16) ?_
          refine T.seq (T.region rfl ?_)
          refine TL.run ft_cursitorlaw11_ok [0, 1, 2] rfl rfl ?_
          by_cases c36 : (((ch12.toNat : Int) / 32) % 2) = 1
          · replace h := ifT c36 h
            exact nomatch h
          · replace h := ifF c36 h
            obtain rfl := Option.some.inj h
            exact TL.nil (X.seq (T.ret (X.rs (X.done1 [2] Try.results3 (RV.tm (v := .bool true) (congrArg (fun b => some (Value.bool b)) (bn_t (decide_eq_false c36)))) ⟨rfl, rfl, rfl⟩ (by rfl) (.inl rfl)))))
      · replace h := ifF c11 h
        refine TL.nil (X.seq ?_)
        refine T.yes rfl (bn_t (decide_eq_false c11)) ?_
        refine T.seq (T.region rfl ?_)
        refine TL.run ft_cursitorlaw11_ok [0] rfl rfl ?_
        obtain rfl := Option.some.inj h
        exact TL.nil (X.seq (T.ret (X.rs (X.done1 [2] Try.results3 (RV.tm rfl) ⟨rfl, rfl, rfl⟩ (by rfl) (.inl rfl)))))
  · replace h := ifF c3 h
    replace c3 := eq_false_of_ne_true c3
    refine TL.nil (X.seq ?_)
    refine T.yes rfl (bn_t c3) ?_
    exact nomatch h
end Go.Proofs.Ytcoppaggpbfcmaa.Sl
namespace Go.Proofs.Ytcoppaggpbfcmaa.Sl
open Go.RowKit
set_option linter.unusedVariables false
set_option linter.unusedSimpArgs false
theorem speaks11 : f_l11_speaks = some true := by kernel_rfl
end Go.Proofs.Ytcoppaggpbfcmaa.Sl
namespace Go.Proofs.Ytcoppaggpbfcmaa.Sl
open Go.RowKit
set_option linter.unusedVariables false
set_option linter.unusedSimpArgs false
theorem chk_control {a : Bat} {cr e0 : Int} (h : chkB a cr e0 = 0) (hc : a.fControl = true) : numOk a ∧ (a.fRecords.length : Int) = 1 ∧ cr = 0 ∧ e0 = 0 := by
  unfold chkB at h
  split at h
  · rename_i hn
    split at h
    · split at h
      · split at h
        · rename_i hl
          split at h
          · split at h
            · rename_i hcr
              exact ⟨hn, hl, hcr, h⟩
            · rename_i hcr
              exact absurd h hcr
          · rename_i hf
            exact absurd h hf
        · exact absurd h (by decide)
      · exact absurd h (by decide)
    · exact absurd h (by decide)
  · exact absurd h (by decide)
end Go.Proofs.Ytcoppaggpbfcmaa.Sl
namespace Go.Proofs.Ytcoppaggpbfcmaa.Sl
open Go.RowKit
set_option linter.unusedVariables false
set_option linter.unusedSimpArgs false
theorem decode_run (s : List UInt8) (hs : s.length ≤ 1000000) : (∃ e, e ≠ 0 ∧ f_batch_Decode s = some (zBat, e) ∧ (pBat s 0 = .error e ∨ ∃ b r, pBat s 0 = .ok (b, r) ∧ r < s.length ∧ e = 2)) ∨ (∃ b, pBat s 0 = .ok (b, s.length) ∧ f_batch_Decode s = some (b, 0)) := by
  unfold f_batch_Decode
  rw [gNew_eq _ (by omega), Option.bind_some]
  rcases B_bat.run s 0 hs (Nat.zero_le _) with ⟨e, st, p1, g1, x1, y1⟩ | ⟨b, r, p1, g1, n1, l1⟩
  · rw [List.drop_zero] at g1
    rw [g1, Option.bind_some]
    dsimp only
    rw [c_gClose_d y1, Option.bind_some]
    dsimp only
    rw [if_neg y1, x1]
    exact .inl ⟨e, by rw [← x1]; exact y1, rfl, .inl p1⟩
  · rw [List.drop_zero] at g1
    rw [g1, Option.bind_some]
    dsimp only
    by_cases hr : r = s.length
    · subst hr
      rw [List.drop_length, gClose_z, Option.bind_some]
      exact .inr ⟨b, p1, rfl⟩
    · have hne : s.drop r ≠ [] := fun h => by have := List.drop_eq_nil_iff.1 h; omega
      have e2 : iclose ⟨s.drop r, r, 0⟩ = ⟨s.drop r, r, 2⟩ := by unfold iclose; rw [if_neg hne]; rfl
      rw [gClose_eq, e2, Option.bind_some]
      exact .inl ⟨2, by decide, rfl, .inr ⟨b, r, p1, by omega, rfl⟩⟩
theorem decode_ok {s : List UInt8} {b : Bat} (h : pBat s 0 = .ok (b, s.length)) : s = encB b ∧ okB b := by
  obtain ⟨_, _, h3, h4, h5⟩ := Sp_bat.spell s 0 b s.length (Nat.zero_le _) h
  rw [List.take_length, List.take_zero, List.nil_append] at h4
  exact ⟨h4, h5⟩
theorem mkB_self (a : Bat) (s : Int) : mkB (pB a s) a.fRecords = a := by
  obtain ⟨b1, b2, b3⟩ := bits_of a.fAppend a.fTxn a.fControl
  unfold mkB pB
  dsimp only
  rw [b1, b2, b3]
theorem bnB_of_okB {b : Bat} (h : okB b) (hl : (encB b).length ≤ 1000000) : bnB b := by
  have h1 := mkB_bounds h.1 h.2.2.1 (by have := encB_len h; unfold body at this; omega)
  rwa [mkB_self] at h1
theorem rkey_zero {l : List UInt8} {k : Int} (h : f_r08_ReadKey l = some (k, 0)) : (k = 0 ∨ k = 1) ∧ l = [0, 0] ++ be k 2 := by
  unfold f_r08_ReadKey at h
  by_cases h2 : (l.length : Int) < 2
  · rw [if_pos h2] at h
    injection h with h
    exact absurd (Prod.mk.inj h).2 (by decide)
  rw [if_neg h2, if_pos (by omega), gRInt_eq _ (by rw [List.length_take]; omega), Option.bind_some] at h
  by_cases h0 : beInt (l.take 2) = 0
  rotate_left
  · rw [if_neg h0] at h
    injection h with h
    exact absurd (Prod.mk.inj h).2 (by decide)
  rw [if_pos h0] at h
  by_cases h4 : (l.length : Int) < 4
  · rw [if_pos h4] at h
    injection h with h
    exact absurd (Prod.mk.inj h).2 (by decide)
  rw [if_neg h4, if_pos (by omega), gRInt_eq _ (by rw [List.length_take]; omega), Option.bind_some] at h
  have e1 : l.take 2 = [0, 0] := by
    have := c_be_beInt (l.take 2) (fun h => by have := congrArg List.length h; rw [List.length_take, List.length_nil] at this; omega)
    rw [h0, List.length_take, Nat.min_eq_left (by omega)] at this
    rw [← this]
    decide
  have e2 := c_be_beInt ((l.drop 2).take 2) (fun h => by have := congrArg List.length h; rw [List.length_take, List.length_drop, List.length_nil] at this; omega)
  rw [List.length_take, List.length_drop, Nat.min_eq_left (by omega)] at e2
  have key : (l.length : Int) > 4 ∨ l = [0, 0] ++ be (beInt ((l.drop 2).take 2)) 2 := by
    by_cases h5 : (l.length : Int) > 4
    · exact .inl h5
    · right
      rw [e2, ← e1, List.take_of_length_le (l := l.drop 2) (by rw [List.length_drop]; omega), List.take_append_drop]
  generalize beInt ((l.drop 2).take 2) = x at h key
  by_cases x0 : x = 0
  · rw [if_pos x0] at h
    rcases key with h5 | h5
    · rw [if_pos h5] at h
      injection h with h
      exact absurd (Prod.mk.inj h).2 (by decide)
    · by_cases h6 : (l.length : Int) > 4
      · rw [if_pos h6] at h
        injection h with h
        exact absurd (Prod.mk.inj h).2 (by decide)
      · rw [if_neg h6] at h
        injection h with h
        obtain ⟨rfl, _⟩ := Prod.mk.inj h
        exact ⟨.inl x0, h5⟩
  · rw [if_neg x0] at h
    by_cases x1 : x = 1
    · rw [if_pos x1] at h
      rcases key with h5 | h5
      · rw [if_pos h5] at h
        injection h with h
        exact absurd (Prod.mk.inj h).2 (by decide)
      · by_cases h6 : (l.length : Int) > 4
        · rw [if_pos h6] at h
          injection h with h
          exact absurd (Prod.mk.inj h).2 (by decide)
        · rw [if_neg h6] at h
          injection h with h
          obtain ⟨rfl, _⟩ := Prod.mk.inj h
          exact ⟨.inr x1, h5⟩
    · rw [if_neg x1] at h
      injection h with h
      exact absurd (Prod.mk.inj h).2 (by decide)
theorem control_key {r : Rec} {x1 x2 : Int} (h : f_r08_Read r = some (x1, x2, 0)) : r.fKey.null = false ∧ (x1 = 0 ∨ x1 = 1) ∧ r.fKey.data = [0, 0] ++ be x1 2 := by
  unfold f_r08_Read at h
  have bad : ∀ {a b c : Int}, c ≠ 0 → some (a, b, c) = some (x1, x2, 0) → False := fun hc h => by
    injection h with h
    exact hc (Prod.mk.inj (Prod.mk.inj h).2).2
  by_cases c1 : r.fKey.null = true
  · rw [if_pos c1] at h; exact (bad (by decide) h).elim
  rw [if_neg c1] at h
  by_cases c2 : r.fValue.null = true
  · rw [if_pos c2] at h; exact (bad (by decide) h).elim
  rw [if_neg c2] at h
  by_cases c3 : (r.fHeaders.length : Int) > 0
  · rw [if_pos c3] at h; exact (bad (by decide) h).elim
  rw [if_neg c3] at h
  by_cases c4 : r.fOffset = 0
  rotate_left
  · rw [if_neg c4] at h; exact (bad (by decide) h).elim
  rw [if_pos c4] at h
  obtain ⟨⟨k, e⟩, hk, h⟩ := Option.bind_eq_some_iff.1 h
  dsimp only at h
  by_cases c5 : e = 0
  rotate_left
  · rw [if_neg c5] at h; exact (bad c5 h).elim
  rw [if_pos c5] at h
  subst c5
  obtain ⟨⟨v, f⟩, hv, h⟩ := Option.bind_eq_some_iff.1 h
  dsimp only at h
  by_cases c6 : f = 0
  rotate_left
  · rw [if_neg c6] at h; exact (bad c6 h).elim
  rw [if_pos c6] at h
  injection h with h
  obtain ⟨rfl, _⟩ := Prod.mk.inj h
  obtain ⟨k1, k2⟩ := rkey_zero hk
  exact ⟨by simpa using c1, k1, k2⟩
theorem chk_ctl {a : Bat} (h : bnB a) (h0 : chk a = 0) (hc : a.fControl = true) : ∃ r x1 x2, a.fRecords = [r] ∧ f_control_Read r = some (x1, x2, 0) ∧ f_r08_Read r = some (x1, x2, 0) ∧ f_batch_records a = some 0 := by
  obtain ⟨cr, e0, h1, h2, h3, h4⟩ := check_same a h.1 h.2.1 h.2.2
  have e : chk a = chkB a cr e0 := by unfold chk; rw [h1]; rfl
  rw [e] at h0
  obtain ⟨k1, k2, rfl, rfl⟩ := chk_control h0 hc
  obtain ⟨r, x1, x2, r1, r2, r3⟩ := h4 k2
  obtain ⟨r', hr'⟩ := List.length_eq_one_iff.1 (show a.fRecords.length = 1 by omega)
  rw [hr'] at r1
  obtain rfl : r' = r := by simpa using r1
  exact ⟨r', x1, x2, hr', r2, r3, h3 k1⟩
theorem be2_low (n : Int) (h : 0 ≤ n ∧ n ≤ 56) : be n 2 = [0, UInt8.ofNat n.toNat] := by
  have h2 : n = 0 ∨ ∃ k : Nat, n = (k : Int) := .inr ⟨n.toNat, by omega⟩
  have e : be n 2 = [UInt8.ofNat (n / (2 ^ 8) % 256).toNat, UInt8.ofNat (n / (2 ^ 0) % 256).toNat] := rfl
  rw [e, show (2 : Int) ^ 8 = 256 by decide, Int.pow_zero, Int.ediv_one, show (n / 256 % 256).toNat = 0 by omega, show (n % 256).toNat = n.toNat by omega]
  rfl
theorem encB_22 {b : Bat} (t : List UInt8) : (encB b ++ t)[22]? = some (UInt8.ofNat (ofBits b.fAppend b.fTxn b.fControl).toNat) := by
  have hl := pre21_len (pB b (sumB b))
  unfold encB
  rw [encP_21, List.append_assoc, List.append_assoc, List.getElem?_append_right (by omega), hl]
  unfold post21
  rw [show (pB b (sumB b)).fAttr = ofBits b.fAppend b.fTxn b.fControl from rfl, be2_low _ (ofBits_le _ _ _)]
  rfl
theorem bit_ctl : ∀ a t c : Bool, (((UInt8.ofNat (ofBits a t c).toNat).toNat : Int) / 32) % 2 = if c = true then 1 else 0 := by decide
theorem pure_BatchControls (a0 : List UInt8) (w0 : a0.length ≤ 140737488351232) : f_l11_BatchControls a0 = some true := by
  unfold f_l11_BatchControls
  rw [speaks11, Option.bind_some, if_pos rfl]
  by_cases hl : (a0.length : Int) > 1500
  · rw [if_pos hl]
  rw [if_neg hl]
  rcases decode_run a0 (by omega) with ⟨e, e0, d1, _⟩ | ⟨b, p1, d1⟩
  · rw [d1, Option.bind_some]
    dsimp only
    rw [if_neg e0]
  · obtain ⟨rfl, ho⟩ := decode_ok p1
    have hb := bnB_of_okB ho (by omega)
    have h22 := encB_22 (b := b) []
    rw [List.append_nil] at h22
    have hbit := bit_ctl b.fAppend b.fTxn b.fControl
    rw [d1, Option.bind_some]
    dsimp only
    rw [if_pos rfl, h22, Option.bind_some]
    have hlt := (UInt8.ofNat (ofBits b.fAppend b.fTxn b.fControl).toNat).toNat_lt
    rw [if_pos (by omega), if_pos (by omega)]
    by_cases hc : b.fControl = true
    · obtain ⟨r, x1, x2, r1, r2, r3, _⟩ := chk_ctl hb ho.2.2.2 hc
      obtain ⟨k1, k2, k3⟩ := control_key r3
      obtain ⟨f1, f2⟩ := (chk_facts hb ho.2.2.2).2.2.1 hc
      rw [if_pos hc] at hbit
      rw [if_pos hc, r1]
      show ((some r).bind _) = _
      rw [Option.bind_some, if_pos hbit, if_pos f1, if_pos (by rfl), if_neg (by rw [k1]; decide), k3]
      rcases k2 with rfl | rfl
      · rw [if_pos (by decide)]
        rfl
      · rw [if_neg (by decide), if_pos (by decide)]
        rfl
    · rw [if_neg hc] at hbit
      rw [if_neg hc, if_neg (by omega)]
end Go.Proofs.Ytcoppaggpbfcmaa.Sl
namespace Go.Proofs.Ytcoppaggpbfcmaa.batchControls
open Go.ChangeShapes Go.WideShapes Go.ChangeAt Go.RowKit
open Go.ChangeMaps (open_string shut_string)
set_option linter.unusedVariables false
theorem own : ownKnob Try.prog.godebug = none := by kernel_rfl
set_option maxRecDepth 100000 in
set_option maxHeartbeats 1000000 in
theorem lifted (os : Os) (started : os.Started) (H : Type) (enc : TypeId × Value → H) :
    ReturnsInHanded {} Try.checked os 3 .any (Rows.batchControlsSpec.pre6 enc Try.prog Try.f3 Rows.batchControlsRow.domain false) (Rows.batchControlsSpec.post enc Try.prog Try.f3 false true false false) := by
  refine returnsInHanded_of_change_sized (C := Try.checked) own started (by kernel_rfl) Try.func3
    (ChangeSpec.witness6 (enc := enc) (C := Try.checked) false ⟨#[], #[.string ByteArray.empty], []⟩ 8 (by kernel_rfl) (by kernel_rfl) (by kernel_rfl) (by kernel_rfl)) ?_
  intro W base args ds gs before hval0 hW hcnd hsz0 _
  have hsz : (DataW.weightsEach Try.prog (Try.f3.params.toList ++ Rows.batchControlsSpec.plain.varTypes Try.prog) (ds ++ gs)).all (· ≤ reachBytes) = true := hsz0
  have hval : ∀ (j : Nat) t v, Try.f3.params[j]? = some t → args[j]? = some v → Value.okWide Try.prog W .any base t v := hval0
  have hW' := hW
  obtain ⟨p, q, hA0, hV, rfl, hfz, hnd⟩ := hW
  have hA : DataW.TrodAll enc Try.prog W 0 (fun _ => true) true Try.f3.params.toList args.toList ds p := hA0
  rw [Try.params3] at hA hval hsz
  obtain ⟨v0, vs0, d0, ds0, p0, q0, hargs, rfl, rfl, h0, r0⟩ := trodAll_cons hA
  obtain ⟨rfl, rfl, rfl⟩ := trodAll_nil r0
  obtain rfl : args = #[v0] := by cases args; simp_all
  obtain ⟨rfl, rfl⟩ := trodVars_none hV
  obtain ⟨s0, rfl, rfl, rfl, y0⟩ := open_string Try.underlying9 (hval 0 9 v0 rfl rfl) h0
  have z0 : s0.size ≤ 140737488351232 := by
    have z := sized_string hsz (j := 0) (t := 9) rfl rfl
    rw [Array.length_toList] at z
    exact z
  obtain ⟨a0, rfl⟩ := Sl.bsOf_of s0
  have w0 : a0.length ≤ 140737488351232 := by rwa [Sl.bsOf_size] at z0
  clear hA0 hval0 hsz0 hsz
  refine (Sl.f_l11_BatchControls_spec a0 true (Sl.pure_BatchControls a0 w0) (fun _ => False) W (fun _ h => h) (Sl.RX.reads_triv _ _)).mono fun e W' hP => ?_
  obtain ⟨v, A', Ns, rfl, ⟨rfl, rfl, rfl⟩, hst⟩ := hP
  have bel := Sl.St.below hst
  exact ⟨_, rfl, _, _, _, [], _, [], hW', trodAll_mk1 (shut_bool Try.underlying4 _), (trodAll_cons_mk (shut_string Try.underlying9 y0) trodAll_mk0), rfl, bel.frame _, fun h => by cases h⟩
theorem over : Rows.batchControlsRow.holds Try.pinned (OpenSpec.ofChange Rows.batchControlsSpec) :=
  OpenClaim.holds_of_wide 3 Try.f3 rfl rfl rfl rfl rfl rfl rfl ⟨rfl, rfl, rfl, rfl, rfl⟩ rfl rfl rfl rfl rfl (by kernel_rfl) Try.func3 (by kernel_rfl)
    (of_decide_eq_true (by kernel_rfl)) (by unfold Func.isWrapper; first | (rw [if_pos (by decide +kernel)]; kernel_rfl) | (rw [if_neg (by decide +kernel)]; exact ⟨rfl, rfl⟩))
    (fun os started H enc _ => lifted os started H enc)
theorem proved : Rows.BatchControlsSaid := over
end Go.Proofs.Ytcoppaggpbfcmaa.batchControls
namespace Go.Proofs.Ytcoppaggpbfcmaa
theorem batchControls_holds : Rows.BatchControlsSaid := batchControls.proved
end Go.Proofs.Ytcoppaggpbfcmaa
