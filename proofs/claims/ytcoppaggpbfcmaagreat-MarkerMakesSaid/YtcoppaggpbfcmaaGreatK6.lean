/- markerMakes_holds: part 6. -/
import Derived.KernelRfl
import Derived.Test.YtcoppaggpbfcmaaGreatK5
namespace Go.Proofs.YtcoppaggpbfcmaaGreat.Sl
open Go.RowKit
set_option linter.unusedVariables false
set_option linter.unusedSimpArgs false
def r64 (n : Int) : Prop := -9223372036854775808 ≤ n ∧ n ≤ 9223372036854775807
def wrI : List Nat → List Int → List UInt8 × Int → Option (List UInt8 × Int)
  | k :: ks, x :: xs, st => (gOInt st x (k : Int)).bind fun st => wrI ks xs st
  | _, _, st => some st
theorem wrI_ok : ∀ (ks : List Nat) (l : List Int) (t : List UInt8), okI ks l → t.length + ks.sum ≤ 1000000 → wrI ks l (t, 0) = some (t ++ encI ks l, 0)
  | [], [], t, _, _ => by unfold wrI encI; rw [List.append_nil]
  | [], _ :: _, _, h, _ => nomatch h
  | _ :: _, [], _, h, _ => nomatch h
  | k :: ks, x :: xs, t, h, hl => by
    rw [List.sum_cons] at hl
    rw [wrI, gOInt_z h.1 (by omega), Option.bind_some, Int.toNat_natCast, wrI_ok ks xs _ h.2 (by rw [List.length_append, be_length]; omega), encI, List.append_assoc]
def w32 (n : Int) : Int := IntKind.i32.wrap (IntKind.u32.wrap n)
theorem w32_rng (n : Int) : -2147483648 ≤ w32 n ∧ w32 n ≤ 2147483647 := by
  unfold w32
  rw [IntKind.wrap_i32]
  omega
theorem w32_s {n : Int} (h : 0 ≤ n ∧ n ≤ 4294967295) : w32 n = s32 n := by
  unfold w32 s32
  rw [IntKind.wrap_i32, IntKind.wrap_u32]
  split <;> omega
def toW (p : Pfx) : List Int := [p.fBase, p.fLength, p.fLeader, 2, w32 p.fSum, p.fAttr, p.fLast, p.fFirst, p.fMax, p.fProducer, p.fEpoch, p.fSequence, p.fCount]
def wP (p : Pfx) : Prop := r64 p.fBase ∧ r64 p.fLength ∧ r64 p.fLeader ∧ r64 p.fSum ∧ r64 p.fAttr ∧ r64 p.fLast ∧ r64 p.fFirst ∧ r64 p.fMax ∧ r64 p.fProducer ∧ r64 p.fEpoch ∧ r64 p.fSequence ∧ r64 p.fCount
theorem write_eq (st : List UInt8 × Int) (p : Pfx) : f_prefix_Write st p = wrI KS (toW p) (if p.fSum < 0 ∨ p.fSum > 4294967295 then ofail st 11 else st) := by
  have hw := w32_rng p.fSum
  unfold f_prefix_Write
  have e : ((if p.fSum < 0 then some true else (if p.fSum > 4294967295 then some true else some false)).bind fun y4 => (if y4 = true then ((gOFail st 11).bind fun st14 => some st14) else some st)) = some (if p.fSum < 0 ∨ p.fSum > 4294967295 then ofail st 11 else st) := by
    by_cases h1 : p.fSum < 0
    · rw [if_pos h1, Option.bind_some, if_pos rfl, if_pos (.inl h1)]; rfl
    · rw [if_neg h1]
      by_cases h2 : p.fSum > 4294967295
      · rw [if_pos h2, Option.bind_some, if_pos rfl, if_pos (.inr h2)]; rfl
      · rw [if_neg h2, Option.bind_some, if_neg (by decide), if_neg (by omega)]
  have e2 : ∀ (K : List UInt8 × Int → Option (List UInt8 × Int)), ((if p.fSum < 0 then some true else (if p.fSum > 4294967295 then some true else some false)).bind fun y4 => (if y4 = true then ((gOFail st 11).bind fun st14 => some st14) else some st).bind K) = K (if p.fSum < 0 ∨ p.fSum > 4294967295 then ofail st 11 else st) := by
    intro K
    rw [← Option.bind_assoc, e, Option.bind_some]
  rw [e2]
  show (if -9223372036854775808 ≤ w32 p.fSum ∧ w32 p.fSum ≤ 9223372036854775807 then _ else _) = _
  rw [if_pos (by omega)]
  rfl
def okW (p : Pfx) : Prop := okI KS (toL p) ∧ 0 ≤ p.fSum ∧ p.fSum ≤ 4294967295
theorem encP_len {p : Pfx} (h : okI KS (toL p)) : (encP p).length = 61 := by
  unfold encP
  rw [encI_len h]
  rfl
theorem write_ok {p : Pfx} (t : List UInt8) (h : okW p) (ht : t.length ≤ 900000) : f_prefix_Write (t, 0) p = some (t ++ encP p, 0) := by
  have e : toW p = toL p := by
    unfold toW toL
    rw [w32_s h.2]
  have h2 := h.2
  rw [write_eq, if_neg (by omega), e]
  exact wrI_ok KS (toL p) t h.1 (by show t.length + 61 ≤ _; omega)
def listP (p : Pfx) : List Int := [p.fBase, p.fLength, p.fLeader, p.fSum, p.fAttr, p.fLast, p.fFirst, p.fMax, p.fProducer, p.fEpoch, p.fSequence, p.fCount]
theorem rb_step (l : List Int) (m : Nat) (y4 acc : List UInt8) (y5 : Bool) (k : Nat) (x : Int) (z : Nat) (hk : k < 12) (h3 : k ≠ 3) (hx : l[k]? = some x) (hz : [(8 : Int), 4, 4, 4, 2, 4, 8, 8, 8, 2, 4, 4][k]? = some (z : Int)) (h8 : z ≤ 8) (hr : r64 x) (ha : acc.length ≤ 1000) :
    f_r10_Bytes_l1 l (m + 1) y4 y5 acc k = if fits x z = true then f_r10_Bytes_l1 l m y4 y5 (acc ++ be x z) (k + 1) else some (.ret ([], false)) := by
  rw [f_r10_Bytes_l1, if_pos (by omega), hx, Option.bind_some, if_neg (by omega), hz, Option.bind_some, gRFits_eq _ _ hr, Option.bind_some]
  by_cases h : fits x z = true
  · rw [if_pos h, if_pos h, gRBytes_eq _ _ ⟨hr, by omega, by omega⟩, Option.bind_some, Int.toNat_natCast, if_pos (by rw [be_length]; omega), if_pos (by omega)]
  · rw [if_neg h, if_neg h]
theorem rb_step3 (l : List Int) (m : Nat) (y4 acc : List UInt8) (y5 : Bool) (x : Int) (hx : l[3]? = some x) (hr : r64 x) (ha : acc.length ≤ 1000) :
    f_r10_Bytes_l1 l (m + 1) y4 y5 acc 3 = if (0 ≤ x ∧ x ≤ 4294967295) then (if fits (s32 x) 4 = true then f_r10_Bytes_l1 l m y4 y5 (acc ++ be 2 1 ++ be (s32 x) 4) 4 else some (.ret ([], false))) else some (.ret ([], false)) := by
  obtain ⟨r1, r2⟩ := hr
  rw [f_r10_Bytes_l1, if_pos (by decide), hx, Option.bind_some, if_pos (by decide)]
  by_cases h : 0 ≤ x ∧ x ≤ 4294967295
  · have e1 : (if x < 0 then some true else (if x > 4294967295 then some true else some false)) = some false := by rw [if_neg (by omega), if_neg (by omega)]
    have e2 : (if x > 2147483647 then (if -9223372036854775808 ≤ (x - 4294967296) ∧ (x - 4294967296) ≤ 9223372036854775807 then some (x - 4294967296) else none) else some x) = some (s32 x) := by
      unfold s32
      by_cases q : x > 2147483647
      · rw [if_pos q, if_pos q, if_pos (by omega)]
      · rw [if_neg q, if_neg q]
    have e3 : r64 (s32 x) := by unfold s32 r64; split <;> omega
    rw [e1, Option.bind_some, if_neg (by decide), e2, Option.bind_some, gRBytes_eq _ _ ⟨by decide, by decide, by decide⟩, Option.bind_some, if_pos (by rw [be_length]; show _ + 1 ≤ _; omega), if_pos h]
    show ((some (4 : Int)).bind _) = _
    rw [Option.bind_some, gRFits_eq _ _ e3, Option.bind_some]
    by_cases hf : fits (s32 x) 4 = true
    · rw [if_pos hf, if_pos hf, gRBytes_eq _ _ ⟨e3, by decide, by decide⟩, Option.bind_some, if_pos (by rw [List.length_append, be_length, be_length]; show _ + 1 + 4 ≤ _; omega), if_pos (by decide)]
      rfl
    · rw [if_neg hf, if_neg hf]
  · have e1 : (if x < 0 then some true else (if x > 4294967295 then some true else some false)) = some true := by
      by_cases q : x < 0
      · rw [if_pos q]
      · rw [if_neg q, if_pos (by omega)]
    rw [e1, Option.bind_some, if_pos rfl, if_neg h]
theorem rb_end (l : List Int) (m : Nat) (y4 acc : List UInt8) (y5 : Bool) : f_r10_Bytes_l1 l (m + 1) y4 y5 acc 12 = some (.go (y4, y5, acc, 12)) := by
  rw [f_r10_Bytes_l1, if_neg (by decide)]
open Classical in
theorem r10_bytes (p : Pfx) (hw : wP p) : f_r10_Bytes (listP p) = some (if okW p then (encP p, true) else ([], false)) := by
  obtain ⟨h1, h2, h3, h4, h5, h6, h7, h8, h9, h10, h11, h12⟩ := hw
  unfold f_r10_Bytes
  rw [show (12 : Int).toNat + 1 = 12 + 1 from rfl]
  have no : ¬ okW p → ∀ (o : Option (Lp (List UInt8 × Bool) (List UInt8 × Bool × List UInt8 × Nat))), o = some (.ret ([], false)) → (o.bind fun e => match e with | .ret r => some r | .go (y55, y56, y57, k58) => some (y57, true)) = some (if okW p then (encP p, true) else ([], false)) := by
    intro h o ho
    rw [ho, if_neg h]
    rfl
  by_cases f1 : fits p.fBase (8 : Nat) = true
  rotate_left
  · exact no (fun h => f1 h.1.1) _ (by rw [rb_step (listP p) 12 [] [] false 0 p.fBase 8 (by decide) (by decide) rfl rfl (by decide) h1 (by decide), if_neg f1])
  by_cases f2 : fits p.fLength (4 : Nat) = true
  rotate_left
  · exact no (fun h => f2 h.1.2.1) _ (by rw [rb_step (listP p) 12 [] [] false 0 p.fBase 8 (by decide) (by decide) rfl rfl (by decide) h1 (by decide), if_pos f1, rb_step (listP p) 11 [] _ false 1 p.fLength 4 (by decide) (by decide) rfl rfl (by decide) h2 (by simp [be_length]), if_neg f2])
  by_cases f3 : fits p.fLeader (4 : Nat) = true
  rotate_left
  · exact no (fun h => f3 h.1.2.2.1) _ (by rw [rb_step (listP p) 12 [] [] false 0 p.fBase 8 (by decide) (by decide) rfl rfl (by decide) h1 (by decide), if_pos f1, rb_step (listP p) 11 [] _ false 1 p.fLength 4 (by decide) (by decide) rfl rfl (by decide) h2 (by simp [be_length]), if_pos f2,
      rb_step (listP p) 10 [] _ false 2 p.fLeader 4 (by decide) (by decide) rfl rfl (by decide) h3 (by simp [be_length]), if_neg f3])
  rw [rb_step (listP p) 12 [] [] false 0 p.fBase 8 (by decide) (by decide) rfl rfl (by decide) h1 (by decide), if_pos f1, rb_step (listP p) 11 [] _ false 1 p.fLength 4 (by decide) (by decide) rfl rfl (by decide) h2 (by simp [be_length]), if_pos f2,
    rb_step (listP p) 10 [] _ false 2 p.fLeader 4 (by decide) (by decide) rfl rfl (by decide) h3 (by simp [be_length]), if_pos f3, rb_step3 (listP p) 9 [] _ false p.fSum rfl h4 (by simp [be_length])]
  by_cases g4 : 0 ≤ p.fSum ∧ p.fSum ≤ 4294967295
  rotate_left
  · exact no (fun h => g4 h.2) _ (by rw [if_neg g4])
  rw [if_pos g4]
  by_cases f4 : fits (s32 p.fSum) 4 = true
  rotate_left
  · exact no (fun h => f4 h.1.2.2.2.2.1) _ (by rw [if_neg f4])
  rw [if_pos f4, rb_step (listP p) 8 [] _ false 4 p.fAttr 2 (by decide) (by decide) rfl rfl (by decide) h5 (by simp [be_length])]
  by_cases f5 : fits p.fAttr (2 : Nat) = true
  rotate_left
  · exact no (fun h => f5 h.1.2.2.2.2.2.1) _ (by rw [if_neg f5])
  rw [if_pos f5, rb_step (listP p) 7 [] _ false 5 p.fLast 4 (by decide) (by decide) rfl rfl (by decide) h6 (by simp [be_length])]
  by_cases f6 : fits p.fLast (4 : Nat) = true
  rotate_left
  · exact no (fun h => f6 h.1.2.2.2.2.2.2.1) _ (by rw [if_neg f6])
  rw [if_pos f6, rb_step (listP p) 6 [] _ false 6 p.fFirst 8 (by decide) (by decide) rfl rfl (by decide) h7 (by simp [be_length])]
  by_cases f7 : fits p.fFirst (8 : Nat) = true
  rotate_left
  · exact no (fun h => f7 h.1.2.2.2.2.2.2.2.1) _ (by rw [if_neg f7])
  rw [if_pos f7, rb_step (listP p) 5 [] _ false 7 p.fMax 8 (by decide) (by decide) rfl rfl (by decide) h8 (by simp [be_length])]
  by_cases f8 : fits p.fMax (8 : Nat) = true
  rotate_left
  · exact no (fun h => f8 h.1.2.2.2.2.2.2.2.2.1) _ (by rw [if_neg f8])
  rw [if_pos f8, rb_step (listP p) 4 [] _ false 8 p.fProducer 8 (by decide) (by decide) rfl rfl (by decide) h9 (by simp [be_length])]
  by_cases f9 : fits p.fProducer (8 : Nat) = true
  rotate_left
  · exact no (fun h => f9 h.1.2.2.2.2.2.2.2.2.2.1) _ (by rw [if_neg f9])
  rw [if_pos f9, rb_step (listP p) 3 [] _ false 9 p.fEpoch 2 (by decide) (by decide) rfl rfl (by decide) h10 (by simp [be_length])]
  by_cases f10 : fits p.fEpoch (2 : Nat) = true
  rotate_left
  · exact no (fun h => f10 h.1.2.2.2.2.2.2.2.2.2.2.1) _ (by rw [if_neg f10])
  rw [if_pos f10, rb_step (listP p) 2 [] _ false 10 p.fSequence 4 (by decide) (by decide) rfl rfl (by decide) h11 (by simp [be_length])]
  by_cases f11 : fits p.fSequence (4 : Nat) = true
  rotate_left
  · exact no (fun h => f11 h.1.2.2.2.2.2.2.2.2.2.2.2.1) _ (by rw [if_neg f11])
  rw [if_pos f11, rb_step (listP p) 1 [] _ false 11 p.fCount 4 (by decide) (by decide) rfl rfl (by decide) h12 (by simp [be_length])]
  by_cases f12 : fits p.fCount (4 : Nat) = true
  rotate_left
  · exact no (fun h => f12 h.1.2.2.2.2.2.2.2.2.2.2.2.2.1) _ (by rw [if_neg f12])
  have hok : okW p := ⟨⟨f1, f2, f3, rfl, f4, f5, f6, f7, f8, f9, f10, f11, f12, trivial⟩, g4⟩
  rw [if_pos f12, rb_end, Option.bind_some, if_pos hok]
  dsimp only
  unfold encP KS toL
  simp only [encI, List.append_assoc, List.nil_append, List.append_nil]
end Go.Proofs.YtcoppaggpbfcmaaGreat.Sl
namespace Go.Proofs.YtcoppaggpbfcmaaGreat.Sl
open Go.RowKit
set_option linter.unusedVariables false
set_option linter.unusedSimpArgs false
theorem gVaried_d {st : I} (h : st.err ≠ 0) : gVaried st = some (⟨false, []⟩, st) := QV.dead st h
theorem gName_d {st : I} (h : st.err ≠ 0) : gName st = some ([], st) := QN.dead st h
theorem Q_vint : CQ gVInt (pVint 32) 0 := (CR_vint 32 (.inl rfl)).cq (Sp_vint 32 (.inl rfl))
theorem gVInt_d {st : I} (h : st.err ≠ 0) : gVInt st = some (0, st) := Q_vint.dead st h
def pCountV (each : Nat) : Pr Int := (pVint 32).bind (pLeft each)
theorem pCountV_ok {each : Nat} {s : List UInt8} {q r : Nat} {n : Int} (hq : q ≤ s.length) (h : pCountV each s q = .ok (n, r)) : 0 ≤ n ∧ (0 < each → n * each ≤ ((s.length - r : Nat) : Int)) ∧ q ≤ r ∧ r = q + (vput (vfold n)).length ∧ r ≤ s.length ∧ s.take r = s.take q ++ vput (vfold n) ∧ vfold n < 2 ^ (32 : Int).toNat := by
  obtain ⟨m, r', h2, h⟩ := Pr.bind_ok h
  obtain ⟨a1, a2, a3, a4, a5⟩ := (Sp_vint 32 (.inl rfl)).spell _ _ _ _ hq h2
  unfold pLeft at h
  split at h
  · exact nomatch h
  · rename_i hn
    split at h
    · exact nomatch h
    · rename_i he
      injection h with h
      obtain ⟨rfl, rfl⟩ := Prod.mk.inj h
      refine ⟨by omega, fun hz => ?_, a1, a3, a2, a4, a5⟩
      have : m ≤ ((s.length - r' : Nat) : Int) / each := by
        rcases Int.lt_or_le (((s.length - r' : Nat) : Int) / each) m with g | g
        · exact absurd ⟨hz, g⟩ he
        · exact g
      exact (Int.le_ediv_iff_mul_le (by omega)).1 this
theorem pCountV_of {each : Nat} {s t : List UInt8} {q : Nat} {n : Int} (hq : q ≤ s.length) (hf : vfold n < 2 ^ (32 : Int).toNat) (hn : 0 ≤ n) (h : s.drop q = vput (vfold n) ++ t) (hl : 0 < each → n * each ≤ t.length) : pCountV each s q = .ok (n, q + (vput (vfold n)).length) := by
  have g := (Sp_vint 32 (.inl rfl)).back s t q n hq hf h
  rw [pCountV, Pr.bind_of g]
  unfold pLeft
  have hlen := congrArg List.length h
  rw [List.length_drop, List.length_append] at hlen
  rw [if_neg (by omega), if_neg]
  rintro ⟨hz, hc⟩
  have := (Int.le_ediv_iff_mul_le (show (0 : Int) < each by omega)).2 (hl hz)
  rw [show s.length - (q + (vput (vfold n)).length) = t.length by omega] at hc
  omega
def pRowV {α : Type} (each : Nat) (p : Pr α) : Pr (List α) := (pCountV each).bind fun n => pRep p n.toNat
theorem Sp_rowV {α : Type} {p : Pr α} {enc : α → List UInt8} {ok : α → Prop} (each : Nat) (hp : Sp p enc ok) (he : ∀ x, ok x → each ≤ (enc x).length) : Sp (pRowV each p) (fun l => vput (vfold (l.length : Int)) ++ encs enc l) (fun l => vfold (l.length : Int) < 2 ^ (32 : Int).toNat ∧ ∀ x, x ∈ l → ok x) := by
  refine ⟨fun s q a r hq h => ?_, fun s t q a hq ha h => ?_⟩
  · obtain ⟨n, q1, g1, h⟩ := Pr.bind_ok h
    obtain ⟨a1, a2, a3, a4, a5, a6, a7⟩ := pCountV_ok hq g1
    obtain ⟨b1, b2, b3, b4, b5, b6⟩ := (Sp_rep hp n.toNat).spell _ _ _ _ a5 h
    have hn : (a.length : Int) = n := by omega
    refine ⟨by omega, b2, by rw [List.length_append, hn]; omega, by rw [b4, a6, hn, List.append_assoc], by rw [hn]; exact a7, b6⟩
  · rw [List.append_assoc] at h
    have hl := congrArg List.length h
    rw [List.length_drop, List.length_append, List.length_append] at hl
    have g1 := pCountV_of (each := each) hq ha.1 (by omega) h (fun _ => by
      have := encs_ge he a ha.2
      rw [List.length_append, Int.natCast_add, ← Int.natCast_mul]
      omega)
    have h2 := drop_step h
    have g2 := (Sp_rep hp a.length).back _ _ _ _ (by omega) ⟨rfl, ha.2⟩ h2
    rw [pRowV, Pr.bind_of g1, Int.toNat_natCast, g2, List.length_append]
    simp only [Nat.add_assoc]
end Go.Proofs.YtcoppaggpbfcmaaGreat.Sl
namespace Go.Proofs.YtcoppaggpbfcmaaGreat.Sl
open Go.RowKit
set_option linter.unusedVariables false
set_option linter.unusedSimpArgs false
def pHd : Pr Hd := pName.bind fun k => pVaried.bind fun v => .ret ⟨k, v⟩
def encHd (h : Hd) : List UInt8 := (vput (vfold (h.fKey.length : Int)) ++ h.fKey) ++ (vput (vfold (blen h.fValue)) ++ h.fValue.data)
def okHd (h : Hd) : Prop := vfold (h.fKey.length : Int) < 2 ^ (32 : Int).toNat ∧ vfold (blen h.fValue) < 2 ^ (32 : Int).toNat ∧ bright h.fValue = true
theorem Sp_hd : Sp pHd encHd okHd := by
  refine ⟨fun s q a r hq h => ?_, fun s t q a hq ha h => ?_⟩
  · obtain ⟨k, q1, h1, h⟩ := Pr.bind_ok h
    obtain ⟨v, q2, h2, h⟩ := Pr.bind_ok h
    injection h with h
    obtain ⟨rfl, rfl⟩ := Prod.mk.inj h
    obtain ⟨a1, a2, a3, a4, a5⟩ := Sp_name.spell _ _ _ _ hq h1
    obtain ⟨b1, b2, b3, b4, b5⟩ := Sp_varied.spell _ _ _ _ a2 h2
    exact ⟨by omega, b2, by simp only [encHd, List.length_append] at *; omega, by rw [b4, a4]; simp only [encHd, List.append_assoc], a5.1, b5⟩
  · obtain ⟨a1, a2, a3⟩ := ha
    have hl := congrArg List.length h
    rw [encHd, List.append_assoc] at h
    have g1 := Sp_name.back _ _ _ _ hq ⟨a1, rfl⟩ h
    have h := drop_step h
    have g2 := Sp_varied.back _ _ _ _ (by simp only [encHd, List.length_drop, List.length_append] at *; omega) ⟨a2, a3⟩ h
    rw [pHd, Pr.bind_of g1, Pr.bind_of g2]
    simp only [Pr.ret, encHd, List.length_append, Nat.add_assoc]
theorem encHd_ge (h : Hd) (ho : okHd h) : 2 ≤ (encHd h).length := by
  have h1 := vput_pos (vfold (h.fKey.length : Int))
  have h2 := vput_pos (vfold (blen h.fValue))
  simp only [encHd, List.length_append]
  omega
def pHds : Pr (List Hd) := pRowV 2 pHd
theorem Sp_hds : Sp pHds (fun l => vput (vfold (l.length : Int)) ++ encs encHd l) (fun l => vfold (l.length : Int) < 2 ^ (32 : Int).toNat ∧ ∀ h, h ∈ l → okHd h) := Sp_rowV 2 Sp_hd encHd_ge
theorem hd_loop (n : Int) (s : List UInt8) (hs : s.length ≤ 1000000) (hn : n ≤ 1000000) : ∀ (m fuel k : Nat) (acc : List Hd) (q : Nat), ((k + m : Nat) : Int) = n → m < fuel → q ≤ s.length → acc.length = k →
    (∃ (e : Int) (st : I), pRep pHd m s q = .error e ∧ f_header_Read_l1 n fuel [] acc k ⟨s.drop q, q, 0⟩ = some (.ret ([], st)) ∧ st.err = e ∧ st.err ≠ 0) ∨
    (∃ l r, pRep pHd m s q = .ok (l, r) ∧ f_header_Read_l1 n fuel [] acc k ⟨s.drop q, q, 0⟩ = some (.go ([], acc ++ l, k + m, ⟨s.drop r, r, 0⟩)) ∧ q ≤ r ∧ r ≤ s.length)
  | 0, fuel + 1, k, acc, q, h1, h2, h3, h4 => .inr ⟨[], q, rfl, by rw [f_header_Read_l1, if_neg (by omega), List.append_nil]; rfl, Nat.le_refl _, h3⟩
  | m + 1, fuel + 1, k, acc, q, h1, h2, h3, h4 => by
    rw [f_header_Read_l1, if_pos (by omega)]
    rcases QN.run s q h3 with ⟨e, st, p1, g1, x1, y1⟩ | ⟨nm, q1, p1, g1, n1, l1⟩
    · left
      refine ⟨e, st, by rw [pRep, Pr.bind_err (show pHd s q = .error e from Pr.bind_err p1)], ?_, x1, y1⟩
      rw [g1, Option.bind_some]
      simp only
      rw [gVaried_d y1, Option.bind_some]
      simp only
      rw [if_pos (by omega), gErr_eq, Option.bind_some]
      simp only
      rw [if_neg y1]
    rw [g1, Option.bind_some]
    simp only
    rcases QV.run s q1 l1 with ⟨e, st, p2, g2, x2, y2⟩ | ⟨v, q2, p2, g2, n2, l2⟩
    · left
      have ht : pHd s q = .error e := by rw [pHd, Pr.bind_of p1, Pr.bind_err p2]
      refine ⟨e, st, by rw [pRep, Pr.bind_err ht], ?_, x2, y2⟩
      rw [g2, Option.bind_some]
      simp only
      rw [if_pos (by omega), gErr_eq, Option.bind_some]
      simp only
      rw [if_neg y2]
    rw [g2, Option.bind_some]
    simp only
    rw [if_pos (by omega), gErr_eq, Option.bind_some]
    simp only [if_true]
    rw [if_pos (by omega)]
    have ht : pHd s q = .ok (⟨nm, v⟩, q2) := by rw [pHd, Pr.bind_of p1, Pr.bind_of p2]; rfl
    rw [pRep, Pr.bind_of ht]
    rcases hd_loop n s hs hn m fuel (k + 1) (acc ++ [(⟨nm, v⟩ : Hd)]) q2 (by omega) (by omega) l2 (by rw [List.length_append, h4]; rfl) with ⟨e, st, r1, r2, r3, r4⟩ | ⟨l, r, r1, r2, r3, r4⟩
    · exact .inl ⟨e, st, by rw [Pr.bind_err r1], r2, r3, r4⟩
    · refine .inr ⟨⟨nm, v⟩ :: l, r, by rw [Pr.bind_of r1]; rfl, ?_, by omega, r4⟩
      rw [r2, List.append_assoc, show k + 1 + m = k + (m + 1) by omega]
      rfl
theorem B_hds : CB f_header_Read pHds [] := by
  refine ⟨fun st h => ?_, fun s q hs hq => ?_⟩
  · unfold f_header_Read
    rw [gVInt_d h, Option.bind_some]
    simp only
    rw [gErr_eq, Option.bind_some]
    simp only
    rw [if_neg h]
  · unfold f_header_Read
    rcases Q_vint.run s q hq with ⟨e, st, p1, g1, x1, y1⟩ | ⟨c, q1, p1, g1, n1, l1⟩
    · refine .inl ⟨e, st, Pr.bind_err (Pr.bind_err p1), ?_, x1, y1⟩
      rw [g1, Option.bind_some]
      simp only
      rw [gErr_eq, Option.bind_some]
      simp only
      rw [if_neg y1]
    · rw [g1, Option.bind_some]
      simp only
      rw [gErr_eq, Option.bind_some]
      simp only [if_true]
      have hd : (s.drop q1).length = s.length - q1 := List.length_drop
      have hE : pHds s q = ((pLeft 2 c).bind fun n => pRep pHd n.toNat) s q1 := by
        unfold pHds pRowV pCountV Pr.bind
        rw [p1]
      rw [hE]
      unfold Pr.bind pLeft
      by_cases hn : c < 0
      · rw [if_pos hn, if_pos hn]
        exact .inl ⟨4, _, rfl, rfl, rfl, by simp [ifail]⟩
      rw [if_neg hn, if_neg hn, gLeft_eq, Option.bind_some]
      simp only
      rw [hd, if_pos (show 0 ≤ ((s.length - q1 : Nat) : Int) ∧ ((s.length - q1 : Nat) : Int) ≤ 9223372036854775807 by omega)]
      by_cases hc : 0 < 2 ∧ ((s.length - q1 : Nat) : Int) / ((2 : Nat) : Int) < c
      · have hc2 : c > ((s.length - q1 : Nat) : Int) / 2 := hc.2
        rw [if_pos hc, if_pos hc2]
        exact .inl ⟨1, _, rfl, rfl, rfl, by simp [ifail]⟩
      · have hc2 : ¬ c > ((s.length - q1 : Nat) : Int) / 2 := fun h => hc ⟨by decide, h⟩
        rw [if_neg hc, if_neg hc2]
        simp only
        rcases hd_loop c s hs (by omega) c.toNat (c.toNat + 1) 0 [] q1 (by omega) (by omega) l1 rfl with ⟨e, st, r1, r2, r3, r4⟩ | ⟨l, r, r1, r2, r3, r4⟩
        · exact .inl ⟨e, st, r1, by rw [r2]; rfl, r3, r4⟩
        · refine .inr ⟨l, r, r1, ?_, by omega, r4⟩
          rw [r2, List.nil_append]
          rfl
end Go.Proofs.YtcoppaggpbfcmaaGreat.Sl
namespace Go.Proofs.YtcoppaggpbfcmaaGreat.Sl
open Go.RowKit
set_option linter.unusedVariables false
set_option linter.unusedSimpArgs false
def hwt (h : Hd) : Nat := 20 + h.fKey.length + h.fValue.data.length
def hwts : List Hd → Nat
  | [] => 0
  | h :: l => hwt h + hwts l
theorem vput_small32 (n : Int) (h : -1 ≤ n) (h2 : n ≤ 2147483647) : (vput (vfold n)).length ≤ 10 := vput_ten _ (vfold_lt n (by omega) (by omega))
theorem vfold_ok (n : Int) (h : -1 ≤ n) (h2 : n ≤ 2147483647) : vfold n < 2 ^ (32 : Int).toNat := by
  rw [show 2 ^ (32 : Int).toNat = 4294967296 by decide]
  exact vfold_lt32 n ⟨by omega, h2⟩
theorem blen_small (b : Bl) (h : b.data.length ≤ 2147483647) : -1 ≤ blen b ∧ blen b ≤ 2147483647 := by unfold blen; split <;> omega
theorem encHd_len (h : Hd) (hk : h.fKey.length ≤ 1000000) (hv : h.fValue.data.length ≤ 1000000) : (encHd h).length ≤ hwt h := by
  have h1 := vput_small32 (h.fKey.length : Int) (by omega) (by omega)
  have hb := blen_small h.fValue (by omega)
  have h2 := vput_small32 (blen h.fValue) hb.1 hb.2
  simp only [encHd, List.length_append, hwt]
  omega
theorem encHds_len : ∀ l : List Hd, hwts l ≤ 1000000 → (encs encHd l).length ≤ hwts l
  | [], h => Nat.le_refl _
  | x :: l, h => by
    have h1 : hwt x ≤ hwts (x :: l) := by rw [hwts]; omega
    have h2 := encHds_len l (by rw [hwts] at h; omega)
    have h3 := encHd_len x (by unfold hwt at h1; omega) (by unfold hwt at h1; omega)
    rw [encs, List.length_append, hwts]
    omega
theorem gPutName_z {t d : List UInt8} (hf : d.length ≤ 1000000) (ht : t.length ≤ 1000000000) : gPutName (t, 0) d = some (t ++ (vput (vfold (d.length : Int)) ++ d), 0) := by
  have := gPutVaried_z (t := t) (b := ⟨false, d⟩) rfl (by simp only; omega) (by simp only; omega)
  rw [gPutName_eq _ _ (by simp only; omega)]
  rw [gPutVaried_eq _ _ (by simp only; omega)] at this
  exact this
theorem hw_l1 : ∀ (l : List Hd) (t : List UInt8), (∀ h, h ∈ l → bright h.fValue = true) → t.length + hwts l ≤ 1000000 → f_header_Write_l1 l (t, 0) = some (t ++ encs encHd l, 0)
  | [], t, h, hl => by rw [f_header_Write_l1, encs, List.append_nil]
  | x :: l, t, h, hl => by
    have hx : t.length + (hwt x + hwts l) ≤ 1000000 := hl
    have h1 := encHd_len x (by unfold hwt at hx; omega) (by unfold hwt at hx; omega)
    have h2 : (vput (vfold (x.fKey.length : Int)) ++ x.fKey).length ≤ (encHd x).length := by simp only [encHd, List.length_append]; omega
    have e : t ++ (vput (vfold (x.fKey.length : Int)) ++ x.fKey) ++ (vput (vfold (blen x.fValue)) ++ x.fValue.data) = t ++ encHd x := by simp only [encHd, List.append_assoc]
    have h3 : (t ++ (vput (vfold (x.fKey.length : Int)) ++ x.fKey)).length = t.length + (vput (vfold (x.fKey.length : Int)) ++ x.fKey).length := List.length_append
    rw [f_header_Write_l1, gPutName_z (by unfold hwt at hx; omega) (by omega), Option.bind_some, gPutVaried_z (h x (.head _)) (by unfold hwt at hx; omega) (by rw [h3]; unfold hwt at hx h1; omega), Option.bind_some, e, hw_l1 l _ (fun y hy => h y (.tail _ hy)) (by rw [List.length_append]; omega), encs, List.append_assoc]
theorem hwts_len : ∀ l : List Hd, l.length * 20 ≤ hwts l
  | [] => by simp [hwts]
  | h :: l => by have := hwts_len l; simp only [hwts, hwt, List.length_cons]; omega
theorem hwts_mem : ∀ (l : List Hd) (h : Hd), h ∈ l → hwt h ≤ hwts l
  | x :: l, h, hm => by
    rcases List.mem_cons.1 hm with rfl | hm
    · simp only [hwts]; omega
    · have := hwts_mem l h hm; simp only [hwts]; omega
theorem hwrite_z (l : List Hd) (t : List UInt8) (h : ∀ x, x ∈ l → bright x.fValue = true) (ht : t.length + 10 + hwts l ≤ 1000000) : f_header_Write (t, 0) l = some (t ++ (vput (vfold (l.length : Int)) ++ encs encHd l), 0) := by
  have hn := hwts_len l
  have h1 := vput_small32 (l.length : Int) (by omega) (by omega)
  unfold f_header_Write
  rw [gPutInt_eq _ _ ⟨by omega, by simp only; omega⟩]
  unfold vputInt
  rw [if_pos (by omega), oput_z, Option.bind_some, hw_l1 l _ h (by rw [List.length_append]; omega), List.append_assoc]
  rfl
theorem r06_int (n : Int) (h : -9223372036854775808 ≤ n ∧ n ≤ 9223372036854775807) : f_r06_Int n = some (vput (vfold n)) := by
  have := vfold_lt n h.1 h.2
  unfold f_r06_Int
  rw [gRFold_eq _ h, Option.bind_some, gRPut_eq _ (by omega), Option.bind_some, Int.toNat_natCast]
theorem r06w_loop (a0 : List Hd) (hb : hwts a0 ≤ 1000000) : ∀ (l : List Hd) (t : List UInt8) (k fuel : Nat), a0.drop k = l → l.length < fuel → t.length + hwts l ≤ 2000000 → hwts l ≤ 1000000 → ∃ z, f_r06_Write_l1 a0 fuel t k = some (t ++ encs encHd l, z)
  | [], t, k, fuel + 1, h, hf, hl, hl2 => by
    have : a0.length ≤ k := List.drop_eq_nil_iff.1 h
    exact ⟨k, by rw [f_r06_Write_l1, if_neg (by omega), encs, List.append_nil]⟩
  | x :: l, t, k, fuel + 1, h, hf, hl, hl2 => by
    have hlen := congrArg List.length h
    rw [List.length_drop, List.length_cons] at hlen
    have g1 : a0[k]? = some x := by have := congrArg (fun z => z[0]?) h; simpa using this
    have g2 : a0.drop (k + 1) = l := by rw [← List.drop_drop, h]; rfl
    have hn := hwts_len a0
    rw [List.length_cons] at hf
    have hx : t.length + (hwt x + hwts l) ≤ 2000000 := hl
    have hx2 : hwt x + hwts l ≤ 1000000 := hl2
    have h1 := encHd_len x (by unfold hwt at hx2; omega) (by unfold hwt at hx2; omega)
    have e : t ++ (vput (vfold (blen ⟨false, x.fKey⟩)) ++ x.fKey) ++ (vput (vfold (blen x.fValue)) ++ x.fValue.data) = t ++ encHd x := by
      simp only [encHd, List.append_assoc]
      rfl
    have e1 : (vput (vfold (blen ⟨false, x.fKey⟩)) ++ x.fKey).length ≤ (encHd x).length ∧ (vput (vfold (blen x.fValue)) ++ x.fValue.data).length ≤ (encHd x).length := by
      simp only [encHd, List.length_append]
      have : blen ⟨false, x.fKey⟩ = (x.fKey.length : Int) := rfl
      rw [this]
      omega
    obtain ⟨z, hz⟩ := r06w_loop a0 hb l (t ++ encHd x) (k + 1) fuel g2 (by omega) (by rw [List.length_append]; omega) (by omega)
    rw [f_r06_Write_l1, if_pos (by omega), g1, Option.bind_some, gRBVaried_eq _ (by unfold hwt at hx2; simp only; omega), Option.bind_some, if_pos (by simp only; omega), gRBVaried_eq _ (by unfold hwt at hx2; omega), Option.bind_some, if_pos (by rw [List.length_append]; simp only; omega), if_pos (by omega)]
    refine ⟨z, ?_⟩
    simp only
    rw [e, hz, encs, List.append_assoc]
theorem r06_write (l : List Hd) (hb : hwts l ≤ 1000000) : f_r06_Write l = some (vput (vfold (l.length : Int)) ++ encs encHd l) := by
  have hn := hwts_len l
  have h1 := vput_small32 (l.length : Int) (by omega) (by omega)
  unfold f_r06_Write
  rw [r06_int _ (by omega), Option.bind_some]
  obtain ⟨z, hz⟩ := r06w_loop l hb l (vput (vfold (l.length : Int))) 0 (((l.length : Int)).toNat + 1) rfl (by omega) (by omega) hb
  rw [hz]
  rfl
end Go.Proofs.YtcoppaggpbfcmaaGreat.Sl
namespace Go.Proofs.YtcoppaggpbfcmaaGreat.Sl
open Go.RowKit
set_option linter.unusedVariables false
set_option linter.unusedSimpArgs false
theorem Q_vlong : CQ gVLong (pVint 64) 0 := (CR_vint 64 (.inr rfl)).cq (Sp_vint 64 (.inr rfl))
theorem gVLong_d {st : I} (h : st.err ≠ 0) : gVLong st = some (0, st) := Q_vlong.dead st h
theorem c_gClose_d {st : I} (h : st.err ≠ 0) : gClose st = some (st.err, st) := by rw [gClose_eq, iclose_err h]
def pStop : Pr Unit := fun s q => if q = s.length then .ok ((), q) else .error 2
def zRec : Rec := ⟨0, 0, ⟨false, []⟩, ⟨false, []⟩, []⟩
def pBody : Pr Rec := (pInt 1).bind fun z => if z = 0 then (pVint 64).bind fun t => (pVint 32).bind fun o => if o < 0 then .err 11 else pVaried.bind fun k => pVaried.bind fun v => pHds.bind fun h => pStop.bind fun _ => .ret ⟨t, o, k, v, h⟩ else .err 8
def bodyOp (st9 : I) : Option (Rec × Int) := (gInt st9 1).bind fun (x12, st13) => if x12 = 0 then ((gVLong st13).bind fun (x16, st17) => (gVInt st17).bind fun (x19, st20) => if x19 < 0 then ((gIFail st20 11).bind fun st24 => (gVaried st24).bind fun (x26, st27) => (gVaried st27).bind fun (x29, st30) => (f_header_Read st30).bind fun (x32, st35) => (gClose st35).bind fun (x37, st38) => some ((⟨x16, x19, x26, x29, x32⟩ : Rec), x37)) else ((gVaried st20).bind fun (x43, st44) => (gVaried st44).bind fun (x46, st47) => (f_header_Read st47).bind fun (x49, st52) => (gClose st52).bind fun (x54, st55) => some ((⟨x16, x19, x43, x46, x49⟩ : Rec), x54))) else ((gIFail st13 8).bind fun st60 => (gVLong st60).bind fun (x62, st63) => (gVInt st63).bind fun (x65, st66) => if x65 < 0 then ((gIFail st66 11).bind fun st70 => (gVaried st70).bind fun (x72, st73) => (gVaried st73).bind fun (x75, st76) => (f_header_Read st76).bind fun (x78, st81) => (gClose st81).bind fun (x83, st84) => some ((⟨x62, x65, x72, x75, x78⟩ : Rec), x83)) else ((gVaried st66).bind fun (x89, st90) => (gVaried st90).bind fun (x92, st93) => (f_header_Read st93).bind fun (x95, st98) => (gClose st98).bind fun (x100, st101) => some ((⟨x62, x65, x89, x92, x95⟩ : Rec), x100)))
theorem body_run (s : List UInt8) (hs : s.length ≤ 1000000) : (∃ e x, pBody s 0 = .error e ∧ bodyOp ⟨s, 0, 0⟩ = some (x, e) ∧ e ≠ 0) ∨ (∃ x, pBody s 0 = .ok (x, s.length) ∧ bodyOp ⟨s, 0, 0⟩ = some (x, 0)) := by
  unfold bodyOp pBody
  have r0 := Q1.run s 0 (Nat.zero_le _)
  rw [List.drop_zero] at r0
  have hB := B_hds
  rcases r0 with ⟨e, st, p0, g0, x0, y0⟩ | ⟨z, q0, p0, g0, n0, l0⟩
  · refine .inl ⟨e, ⟨0, 0, ⟨false, []⟩, ⟨false, []⟩, []⟩, Pr.bind_err p0, ?_, by rw [← x0]; exact y0⟩
    rw [g0]
    simp only [Option.bind_some, if_true, gVLong_d y0, gVInt_d y0, gVaried_d y0, hB.dead _ y0, c_gClose_d y0, x0, show ¬ (0 : Int) < 0 by decide, if_false]
  rw [g0, Option.bind_some]
  simp only
  by_cases hz : z = 0
  · rw [if_pos hz, Pr.bind_of p0, if_pos hz]
    rcases Q_vlong.run s q0 l0 with ⟨e, st, p1, g1, x1, y1⟩ | ⟨a, q1, p1, g1, n1, l1⟩
    · refine .inl ⟨e, ⟨0, 0, ⟨false, []⟩, ⟨false, []⟩, []⟩, Pr.bind_err p1, ?_, by rw [← x1]; exact y1⟩
      rw [g1]
      simp only [Option.bind_some, if_true, gVInt_d y1, gVaried_d y1, hB.dead _ y1, c_gClose_d y1, x1, show ¬ (0 : Int) < 0 by decide, if_false]
    rw [g1, Option.bind_some, Pr.bind_of p1]
    simp only
    rcases Q_vint.run s q1 l1 with ⟨e, st, p2, g2, x2, y2⟩ | ⟨o, q2, p2, g2, n2, l2⟩
    · refine .inl ⟨e, ⟨a, 0, ⟨false, []⟩, ⟨false, []⟩, []⟩, Pr.bind_err p2, ?_, by rw [← x2]; exact y2⟩
      rw [g2]
      simp only [Option.bind_some, if_true, gVaried_d y2, hB.dead _ y2, c_gClose_d y2, x2, show ¬ (0 : Int) < 0 by decide, if_false]
    rw [g2, Option.bind_some, Pr.bind_of p2]
    simp only
    by_cases ho : o < 0
    · rw [if_pos ho, if_pos ho, gIFail_eq, Option.bind_some, ifail_z]
      have y : (⟨s.drop q2, q2, 11⟩ : I).err ≠ 0 := by simp
      refine .inl ⟨11, ⟨a, o, ⟨false, []⟩, ⟨false, []⟩, []⟩, rfl, ?_, by decide⟩
      simp only [Option.bind_some, gVaried_d y, hB.dead _ y, c_gClose_d y]
    rw [if_neg ho, if_neg ho]
    rcases QV.run s q2 l2 with ⟨e, st, p3, g3, x3, y3⟩ | ⟨k, q3, p3, g3, n3, l3⟩
    · refine .inl ⟨e, ⟨a, o, ⟨false, []⟩, ⟨false, []⟩, []⟩, Pr.bind_err p3, ?_, by rw [← x3]; exact y3⟩
      rw [g3]
      simp only [Option.bind_some, gVaried_d y3, hB.dead _ y3, c_gClose_d y3, x3]
    rw [g3, Option.bind_some, Pr.bind_of p3]
    simp only
    rcases QV.run s q3 l3 with ⟨e, st, p4, g4, x4, y4⟩ | ⟨v, q4, p4, g4, n4, l4⟩
    · refine .inl ⟨e, ⟨a, o, k, ⟨false, []⟩, []⟩, Pr.bind_err p4, ?_, by rw [← x4]; exact y4⟩
      rw [g4]
      simp only [Option.bind_some, hB.dead _ y4, c_gClose_d y4, x4]
    rw [g4, Option.bind_some, Pr.bind_of p4]
    simp only
    rcases hB.run s q4 hs l4 with ⟨e, st, p5, g5, x5, y5⟩ | ⟨h, q5, p5, g5, n5, l5⟩
    · refine .inl ⟨e, ⟨a, o, k, v, []⟩, Pr.bind_err p5, ?_, by rw [← x5]; exact y5⟩
      rw [g5]
      simp only [Option.bind_some, c_gClose_d y5, x5]
    rw [g5, Option.bind_some, Pr.bind_of p5]
    simp only
    rw [gClose_eq, Option.bind_some]
    simp only
    by_cases hq : q5 = s.length
    · have he : pStop s q5 = .ok ((), q5) := by unfold pStop; rw [if_pos hq]
      have hi : (iclose ⟨s.drop q5, q5, 0⟩).err = 0 := by rw [hq, List.drop_length]; rfl
      rw [Pr.bind_of he, hi]
      exact .inr ⟨⟨a, o, k, v, h⟩, by rw [hq]; rfl, rfl⟩
    · have he : pStop s q5 = .error 2 := by unfold pStop; rw [if_neg hq]
      have hi : (iclose ⟨s.drop q5, q5, 0⟩).err = 2 := by
        unfold iclose
        rw [if_neg]
        · rfl
        · intro h0
          have := List.drop_eq_nil_iff.1 h0
          omega
      rw [Pr.bind_err he, hi]
      exact .inl ⟨2, _, rfl, rfl, by decide⟩
  · rw [if_neg hz, Pr.bind_of p0, if_neg hz, gIFail_eq, Option.bind_some, ifail_z]
    have y : (⟨s.drop q0, q0, 8⟩ : I).err ≠ 0 := by simp
    refine .inl ⟨8, ⟨0, 0, ⟨false, []⟩, ⟨false, []⟩, []⟩, rfl, ?_, by decide⟩
    simp only [Option.bind_some, if_true, gVLong_d y, gVInt_d y, gVaried_d y, hB.dead _ y, c_gClose_d y, show ¬ (0 : Int) < 0 by decide, if_false]
def pRec : Pr Rec := fun s q => match pName s q with
  | .error e => .error e
  | .ok (d, r) => match pBody d 0 with
    | .error e => .error e
    | .ok (x, _) => .ok (x, r)
theorem read_body (st9 st6 : I) (x : Rec) (e : Int) (h : bodyOp st9 = some (x, e)) : ((gInt st9 1).bind fun (x12, st13) => if x12 = 0 then ((gVLong st13).bind fun (x16, st17) => (gVInt st17).bind fun (x19, st20) => if x19 < 0 then ((gIFail st20 11).bind fun st24 => (gVaried st24).bind fun (x26, st27) => (gVaried st27).bind fun (x29, st30) => (f_header_Read st30).bind fun (x32, st35) => (gClose st35).bind fun (x37, st38) => if x37 = 0 then (some ((⟨x16, x19, x26, x29, x32⟩ : Rec), st6)) else ((gIFail st6 x37).bind fun st41 => some (zRec, st41))) else ((gVaried st20).bind fun (x43, st44) => (gVaried st44).bind fun (x46, st47) => (f_header_Read st47).bind fun (x49, st52) => (gClose st52).bind fun (x54, st55) => if x54 = 0 then (some ((⟨x16, x19, x43, x46, x49⟩ : Rec), st6)) else ((gIFail st6 x54).bind fun st58 => some (zRec, st58)))) else ((gIFail st13 8).bind fun st60 => (gVLong st60).bind fun (x62, st63) => (gVInt st63).bind fun (x65, st66) => if x65 < 0 then ((gIFail st66 11).bind fun st70 => (gVaried st70).bind fun (x72, st73) => (gVaried st73).bind fun (x75, st76) => (f_header_Read st76).bind fun (x78, st81) => (gClose st81).bind fun (x83, st84) => if x83 = 0 then (some ((⟨x62, x65, x72, x75, x78⟩ : Rec), st6)) else ((gIFail st6 x83).bind fun st87 => some (zRec, st87))) else ((gVaried st66).bind fun (x89, st90) => (gVaried st90).bind fun (x92, st93) => (f_header_Read st93).bind fun (x95, st98) => (gClose st98).bind fun (x100, st101) => if x100 = 0 then (some ((⟨x62, x65, x89, x92, x95⟩ : Rec), st6)) else ((gIFail st6 x100).bind fun st104 => some (zRec, st104))))) = if e = 0 then some (x, st6) else some (zRec, ifail st6 e) := by
  unfold bodyOp at h
  revert h
  have hop : ∀ (o : Option (List Hd × I)) (f : List Hd → Rec), ((o.bind fun (a, s1) => (gClose s1).bind fun (b, s2) => some (f a, b)) = some (x, e)) → (o.bind fun (a, s1) => (gClose s1).bind fun (b, s2) => if b = 0 then some (f a, st6) else (gIFail st6 b).bind fun s3 => some (zRec, s3)) = if e = 0 then some (x, st6) else some (zRec, ifail st6 e) := by
    intro o f h
    cases o with
    | none => exact nomatch h
    | some y =>
      rw [Option.bind_some] at h ⊢
      simp only [gClose_eq, Option.bind_some] at h ⊢
      injection h with h
      obtain ⟨rfl, rfl⟩ := Prod.mk.inj h
      by_cases hz : (iclose y.2).err = 0
      · rw [if_pos hz, if_pos hz]
      · rw [if_neg hz, if_neg hz]
        rfl
  simp only [gInt_eq, gVLong_eq, gVInt_eq, gVaried_eq, gIFail_eq, Option.bind_some]
  intro h
  split at h
  · rename_i h1
    rw [if_pos h1]
    split at h
    · rename_i h2
      rw [if_pos h2]
      exact hop _ (fun a => ⟨_, _, _, _, a⟩) h
    · rename_i h2
      rw [if_neg h2]
      exact hop _ (fun a => ⟨_, _, _, _, a⟩) h
  · rename_i h1
    rw [if_neg h1]
    split at h
    · rename_i h2
      rw [if_pos h2]
      exact hop _ (fun a => ⟨_, _, _, _, a⟩) h
    · rename_i h2
      rw [if_neg h2]
      exact hop _ (fun a => ⟨_, _, _, _, a⟩) h
theorem B_rec : CB f_record_Read pRec zRec := by
  refine ⟨fun st h => ?_, fun s q hs hq => ?_⟩
  · unfold f_record_Read
    rw [gName_d h, Option.bind_some]
    simp only
    rw [gErr_eq, Option.bind_some]
    simp only
    rw [if_neg h]
    rfl
  · unfold f_record_Read pRec
    rcases QN.run s q hq with ⟨e, st, p1, g1, x1, y1⟩ | ⟨d, r, p1, g1, n1, l1⟩
    · refine .inl ⟨e, st, by rw [p1], ?_, x1, y1⟩
      rw [g1, Option.bind_some]
      simp only
      rw [gErr_eq, Option.bind_some]
      simp only
      rw [if_neg y1]
      rfl
    · have hsp := Sp_name.spell _ _ _ _ hq p1
      have hdl : d.length ≤ 1000000 := by
        have := hsp.2.2.1
        rw [List.length_append] at this
        omega
      rw [g1, p1, Option.bind_some]
      simp only
      rw [gErr_eq, Option.bind_some]
      simp only [if_true]
      rw [gNew_eq _ (by omega), Option.bind_some]
      rcases body_run d hdl with ⟨e, x, b1, b2, b3⟩ | ⟨x, b1, b2⟩
      · have hb := read_body ⟨d, 0, 0⟩ ⟨s.drop r, r, 0⟩ x e b2
        rw [if_neg b3] at hb
        rw [b1]
        exact .inl ⟨e, _, rfl, hb, rfl, b3⟩
      · have hb := read_body ⟨d, 0, 0⟩ ⟨s.drop r, r, 0⟩ x 0 b2
        rw [if_pos rfl] at hb
        rw [b1]
        exact .inr ⟨x, r, rfl, hb, n1, l1⟩
end Go.Proofs.YtcoppaggpbfcmaaGreat.Sl
namespace Go.Proofs.YtcoppaggpbfcmaaGreat.Sl
open Go.RowKit
set_option linter.unusedVariables false
set_option linter.unusedSimpArgs false
def encBl (b : Bl) : List UInt8 := vput (vfold (blen b)) ++ b.data
def encHs (l : List Hd) : List UInt8 := vput (vfold (l.length : Int)) ++ encs encHd l
def encBody (x : Rec) : List UInt8 := be 0 1 ++ (vput (vfold x.fTime) ++ (vput (vfold x.fOffset) ++ (encBl x.fKey ++ (encBl x.fValue ++ encHs x.fHeaders))))
def okBl (b : Bl) : Prop := vfold (blen b) < 2 ^ (32 : Int).toNat ∧ bright b = true
def okHs (l : List Hd) : Prop := vfold (l.length : Int) < 2 ^ (32 : Int).toNat ∧ ∀ h, h ∈ l → okHd h
def okRec (x : Rec) : Prop := vfold x.fTime < 2 ^ (64 : Int).toNat ∧ (vfold x.fOffset < 2 ^ (32 : Int).toNat ∧ 0 ≤ x.fOffset) ∧ okBl x.fKey ∧ okBl x.fValue ∧ okHs x.fHeaders
theorem body_spell {s : List UInt8} {x : Rec} {r : Nat} (h : pBody s 0 = .ok (x, r)) : s = encBody x ∧ okRec x := by
  obtain ⟨z, q0, h0, h⟩ := Pr.bind_ok h
  split at h
  · rename_i hz
    subst hz
    obtain ⟨t, q1, h1, h⟩ := Pr.bind_ok h
    obtain ⟨o, q2, h2, h⟩ := Pr.bind_ok h
    split at h
    · exact nomatch h
    · rename_i ho
      obtain ⟨k, q3, h3, h⟩ := Pr.bind_ok h
      obtain ⟨v, q4, h4, h⟩ := Pr.bind_ok h
      obtain ⟨hs, q5, h5, h⟩ := Pr.bind_ok h
      obtain ⟨u, q6, h6, h⟩ := Pr.bind_ok h
      injection h with h
      obtain ⟨rfl, rfl⟩ := Prod.mk.inj h
      obtain ⟨-, a2, -, a4, a5⟩ := (Sp_int 1 (by decide) (by decide)).spell _ _ _ _ (Nat.zero_le _) h0
      obtain ⟨-, b2, -, b4, b5⟩ := (Sp_vint 64 (.inr rfl)).spell _ _ _ _ a2 h1
      obtain ⟨-, c2, -, c4, c5⟩ := (Sp_vint 32 (.inl rfl)).spell _ _ _ _ b2 h2
      obtain ⟨-, d2, -, d4, d5⟩ := Sp_varied.spell _ _ _ _ c2 h3
      obtain ⟨-, e2, -, e4, e5⟩ := Sp_varied.spell _ _ _ _ d2 h4
      obtain ⟨-, f2, -, f4, f5⟩ := Sp_hds.spell _ _ _ _ e2 h5
      have hq : q5 = s.length := by
        unfold pStop at h6
        split at h6
        · rename_i hh; exact hh
        · exact nomatch h6
      refine ⟨?_, b5, ⟨c5, by simp only; omega⟩, d5, e5, f5⟩
      have hs2 : s = s.take q5 := by rw [hq, List.take_length]
      rw [hs2, f4, e4, d4, c4, b4, a4]
      simp only [encBody, encBl, encHs, List.append_assoc, List.take_zero, List.nil_append]
  · exact nomatch h
theorem SpV : Sp pVaried encBl okBl := Sp_varied
theorem SpH : Sp pHds encHs okHs := Sp_hds
theorem body_back {x : Rec} (h : okRec x) : pBody (encBody x) 0 = .ok (x, (encBody x).length) := by
  obtain ⟨h1, ⟨h2, h3⟩, h4, h5, h6⟩ := h
  have hd : (encBody x).drop 0 = encBody x := rfl
  have hlen : (encBody x).length = 1 + ((vput (vfold x.fTime)).length + ((vput (vfold x.fOffset)).length + ((encBl x.fKey).length + ((encBl x.fValue).length + (encHs x.fHeaders).length)))) := by
    simp only [encBody, List.length_append, be_length]
  generalize hE : encBody x = E at hd hlen ⊢
  have hh : E.drop 0 = be 0 1 ++ (vput (vfold x.fTime) ++ (vput (vfold x.fOffset) ++ (encBl x.fKey ++ (encBl x.fValue ++ (encHs x.fHeaders ++ []))))) := by
    rw [hd, ← hE]
    simp only [encBody, List.append_nil]
  have g0 := (Sp_int 1 (by decide) (by decide)).back _ _ _ 0 (Nat.zero_le _) (by decide) hh
  have hh := drop_step hh
  rw [be_length] at hh g0
  have g1 := (Sp_vint 64 (.inr rfl)).back _ _ _ _ (by omega) h1 hh
  have hh := drop_step hh
  have g2 := (Sp_vint 32 (.inl rfl)).back _ _ _ _ (by omega) h2 hh
  have hh := drop_step hh
  have g3 := SpV.back _ _ _ _ (by omega) h4 hh
  have hh := drop_step hh
  have g4 := SpV.back _ _ _ _ (by omega) h5 hh
  have hh := drop_step hh
  have g5 := SpH.back _ _ _ _ (by omega) h6 hh
  rw [pBody, Pr.bind_of g0, if_pos rfl, Pr.bind_of g1, Pr.bind_of g2, if_neg (by omega), Pr.bind_of g3, Pr.bind_of g4, Pr.bind_of g5]
  have he : 0 + 1 + (vput (vfold x.fTime)).length + (vput (vfold x.fOffset)).length + (encBl x.fKey).length + (encBl x.fValue).length + (encHs x.fHeaders).length = E.length := by omega
  rw [he, Pr.bind_of (a := ()) (r := E.length) (by unfold pStop; rw [if_pos rfl])]
  rfl
def encRec (x : Rec) : List UInt8 := vput (vfold ((encBody x).length : Int)) ++ encBody x
theorem Sp_rec : Sp pRec encRec (fun x => okRec x ∧ vfold ((encBody x).length : Int) < 2 ^ (32 : Int).toNat) := by
  refine ⟨fun s q a r hq h => ?_, fun s t q a hq ha h => ?_⟩
  · unfold pRec at h
    cases hp : pName s q with
    | error e => rw [hp] at h; exact nomatch h
    | ok y =>
      obtain ⟨d, r'⟩ := y
      rw [hp] at h
      simp only at h
      obtain ⟨a1, a2, a3, a4, a5⟩ := Sp_name.spell _ _ _ _ hq hp
      cases hb : pBody d 0 with
      | error e => rw [hb] at h; exact nomatch h
      | ok z =>
        rw [hb] at h
        injection h with h
        obtain ⟨rfl, rfl⟩ := Prod.mk.inj h
        obtain ⟨b1, b2⟩ := body_spell (x := z.1) (r := z.2) hb
        unfold encRec
        rw [← b1]
        exact ⟨a1, a2, a3, a4, b2, a5.1⟩
  · have g1 := Sp_name.back s t q (encBody a) hq ⟨ha.2, rfl⟩ h
    unfold pRec
    rw [g1]
    simp only
    rw [body_back ha.1]
    rfl
end Go.Proofs.YtcoppaggpbfcmaaGreat.Sl
namespace Go.Proofs.YtcoppaggpbfcmaaGreat.Sl
open Go.RowKit
set_option linter.unusedVariables false
set_option linter.unusedSimpArgs false
def rwt (x : Rec) : Nat := x.fKey.data.length + x.fValue.data.length + hwts x.fHeaders
theorem encBl_len (b : Bl) (h : b.data.length ≤ 1000000) : (encBl b).length ≤ 10 + b.data.length := by
  have hb := blen_small b (by omega)
  have := vput_small32 (blen b) hb.1 hb.2
  rw [encBl, List.length_append]
  omega
theorem encHs_len (l : List Hd) (h : hwts l ≤ 1000000) : (encHs l).length ≤ 10 + hwts l := by
  have hn := hwts_len l
  have h1 := vput_small32 (l.length : Int) (by omega) (by omega)
  have h2 := encHds_len l h
  rw [encHs, List.length_append]
  omega
theorem encBody_len (x : Rec) (ht : wI x.fTime) (ho : wI x.fOffset) (hw : rwt x ≤ 900000) : (encBody x).length ≤ 51 + rwt x := by
  unfold rwt at hw ⊢
  have h1 := vput_ten _ (vfold_lt x.fTime ht.1 ht.2)
  have h2 := vput_ten _ (vfold_lt x.fOffset ho.1 ho.2)
  have h3 := encBl_len x.fKey (by omega)
  have h4 := encBl_len x.fValue (by omega)
  have h5 := encHs_len x.fHeaders (by omega)
  simp only [encBody, List.length_append, be_length]
  omega
theorem body_write (x : Rec) (ht : wI x.fTime) (ho : 0 ≤ x.fOffset ∧ x.fOffset ≤ 2147483647) (hk : bright x.fKey = true) (hv : bright x.fValue = true) (hh : ∀ h, h ∈ x.fHeaders → bright h.fValue = true) (hw : rwt x ≤ 900000) : f_record_body x = some (encBody x, 0) := by
  unfold rwt at hw
  have h1 := vput_ten _ (vfold_lt x.fTime ht.1 ht.2)
  have h2 := vput_ten _ (vfold_lt x.fOffset (by omega) (by omega))
  have h3 := encBl_len x.fKey (by omega)
  have h4 := encBl_len x.fValue (by omega)
  unfold encBl at h3 h4
  unfold f_record_body
  rw [gOByte_eq _ _ (by simp), Option.bind_some, show oput ([], 0) [UInt8.ofNat (0 : Int).toNat] = (be 0 1, 0) from by decide]
  have l1 : (be 0 1).length = 1 := be_length 0 1
  generalize hb0 : be 0 1 = b0 at l1
  rw [gPutLong_eq _ _ ⟨ht, by simp only; omega⟩, Option.bind_some, oput_z]
  have l2 : (b0 ++ vput (vfold x.fTime)).length ≤ 11 := by rw [List.length_append]; omega
  generalize hB1 : b0 ++ vput (vfold x.fTime) = B1 at l2
  rw [gPutInt_eq _ _ ⟨by omega, by simp only; omega⟩, Option.bind_some]
  unfold vputInt
  rw [if_pos (by omega), oput_z]
  have l3 : (B1 ++ vput (vfold x.fOffset)).length ≤ 21 := by rw [List.length_append]; omega
  generalize hB2 : B1 ++ vput (vfold x.fOffset) = B2 at l3
  rw [gPutVaried_z hk (by omega) (by omega), Option.bind_some]
  have l4 : (B2 ++ (vput (vfold (blen x.fKey)) ++ x.fKey.data)).length ≤ 31 + x.fKey.data.length := by rw [List.length_append]; omega
  generalize hB3 : B2 ++ (vput (vfold (blen x.fKey)) ++ x.fKey.data) = B3 at l4
  rw [gPutVaried_z hv (by omega) (by omega), Option.bind_some]
  have l5 : (B3 ++ (vput (vfold (blen x.fValue)) ++ x.fValue.data)).length ≤ 41 + x.fKey.data.length + x.fValue.data.length := by rw [List.length_append]; omega
  generalize hB4 : B3 ++ (vput (vfold (blen x.fValue)) ++ x.fValue.data) = B4 at l5
  rw [hwrite_z _ _ hh (by omega), Option.bind_some, gOText_eq, Option.bind_some, otx_z]
  rw [← hB4, ← hB3, ← hB2, ← hB1, ← hb0]
  simp only [encBody, encBl, encHs, List.append_assoc]
end Go.Proofs.YtcoppaggpbfcmaaGreat.Sl
namespace Go.Proofs.YtcoppaggpbfcmaaGreat.Sl
open Go.RowKit
set_option linter.unusedVariables false
set_option linter.unusedSimpArgs false
theorem right_zero {x : Rec} (h : rightR x = 0) : (0 ≤ x.fOffset ∧ x.fOffset ≤ 2147483647) ∧ bright x.fKey = true ∧ bright x.fValue = true ∧ ∀ h, h ∈ x.fHeaders → bright h.fValue = true := by
  unfold rightR at h
  split at h
  · exact absurd h (by decide)
  · rename_i h1
    split at h
    · rename_i h2
      simp only [Bool.and_eq_true] at h2
      exact ⟨by omega, h2.1.1, h2.1.2, fun y hy => List.all_eq_true.1 h2.2 y hy⟩
    · exact absurd h (by decide)
theorem rec_write (x : Rec) (t : List UInt8) (ht : wI x.fTime) (ho : wI x.fOffset) (hw : rwt x ≤ 900000) (hl : t.length ≤ 100000000) : f_record_Write (t, 0) x = some (if rightR x = 0 then (t ++ encRec x, 0) else (t, rightR x)) := by
  unfold f_record_Write
  rw [record_right x ho, Option.bind_some]
  by_cases hr : rightR x = 0
  · obtain ⟨h1, h2, h3, h4⟩ := right_zero hr
    have hb := encBody_len x ht ho hw
    rw [if_pos hr, if_pos hr, body_write x ht h1 h2 h3 h4 hw, Option.bind_some]
    simp only [if_true]
    rw [gPutName_z (by omega) (by omega), Option.bind_some]
    rfl
  · rw [if_neg hr, if_neg hr, gOFail_eq, Option.bind_some, ofail_z]
end Go.Proofs.YtcoppaggpbfcmaaGreat.Sl
namespace Go.Proofs.YtcoppaggpbfcmaaGreat.Sl
open Go.RowKit
set_option linter.unusedVariables false
set_option linter.unusedSimpArgs false
theorem r07_write (x : Rec) (ht : wI x.fTime) (ho : wI x.fOffset) (hw : rwt x ≤ 900000) : f_r07_Write x = some (encRec x) := by
  have hb := encBody_len x ht ho hw
  unfold rwt at hw hb
  have h1 := vput_ten _ (vfold_lt x.fTime ht.1 ht.2)
  have h2 := vput_ten _ (vfold_lt x.fOffset ho.1 ho.2)
  have h3 := encBl_len x.fKey (by omega)
  have h4 := encBl_len x.fValue (by omega)
  have h5 := encHs_len x.fHeaders (by omega)
  have hz : toBs [0] = be 0 1 := by decide
  have e : (((((be 0 1 ++ vput (vfold x.fTime)) ++ vput (vfold x.fOffset)) ++ encBl x.fKey) ++ encBl x.fValue) ++ encHs x.fHeaders) = encBody x := by simp only [encBody, List.append_assoc]
  unfold f_r07_Write
  rw [hz, r06_int _ ht, Option.bind_some, if_pos (by simp only [be_length]; omega), r06_int _ ho, Option.bind_some, if_pos (by simp only [List.length_append, be_length]; omega), gRBVaried_eq _ (by omega), Option.bind_some]
  rw [show vput (vfold (blen x.fKey)) ++ x.fKey.data = encBl x.fKey from rfl, if_pos (by simp only [List.length_append, be_length]; omega), gRBVaried_eq _ (by omega), Option.bind_some, show vput (vfold (blen x.fValue)) ++ x.fValue.data = encBl x.fValue from rfl, if_pos (by simp only [List.length_append, be_length]; omega), r06_write _ (by omega), Option.bind_some]
  rw [show vput (vfold (x.fHeaders.length : Int)) ++ encs encHd x.fHeaders = encHs x.fHeaders from rfl, e, if_pos (by simp only [List.length_append, be_length]; omega), r06_int _ (by omega), Option.bind_some]
  have h6 := vput_ten _ (vfold_lt ((encBody x).length : Int) (by omega) (by omega))
  rw [if_pos (by omega)]
  rfl
def sameH (a b : Hd) : Bool := decide (a.fKey = b.fKey) && decide (a.fValue.null = b.fValue.null) && decide (a.fValue.data = b.fValue.data)
def sameHs : List Hd → List Hd → Bool
  | [], [] => true
  | a :: l, b :: m => sameH a b && sameHs l m
  | _, _ => false
theorem sameHs_refl : ∀ l : List Hd, sameHs l l = true
  | [] => rfl
  | a :: l => by rw [sameHs, sameHs_refl l]; simp [sameH]
theorem sameHs_len : ∀ (l m : List Hd), sameHs l m = true → l.length = m.length
  | [], [], h => rfl
  | [], b :: m, h => nomatch h
  | a :: l, [], h => nomatch h
  | a :: l, b :: m, h => by
    rw [sameHs, Bool.and_eq_true] at h
    rw [List.length_cons, List.length_cons, sameHs_len l m h.2]
theorem r06s_loop (a b : List Hd) (ha : a.length ≤ 1000000) (y : Bool) : ∀ (t u : List Hd) (k fuel : Nat), a.drop k = t → b.drop k = u → t.length = u.length → t.length < fuel → ∃ z, f_r06_Same_l1 a b fuel y k = some (if sameHs t u = true then .go (y, z) else .ret false)
  | [], [], k, fuel + 1, ht, hu, hl, hf => by
    have := b_nil_drop ht
    exact ⟨k, by rw [f_r06_Same_l1, if_neg (by omega)]; rfl⟩
  | [], d :: u, k, fuel, ht, hu, hl, hf => by simp at hl
  | c :: t, [], k, fuel, ht, hu, hl, hf => by simp at hl
  | c :: t, d :: u, k, fuel + 1, ht, hu, hl, hf => by
    obtain ⟨t1, t2, t3⟩ := b_at_drop ht
    obtain ⟨u1, u2, u3⟩ := b_at_drop hu
    simp only [List.length_cons] at hl hf
    obtain ⟨z, hz⟩ := r06s_loop a b ha y t u (k + 1) fuel t2 u2 (by omega) (by omega)
    rw [f_r06_Same_l1, if_pos (by omega), t1, Option.bind_some, u1, Option.bind_some, sameHs, sameH]
    by_cases h1 : c.fKey = d.fKey
    · rw [if_pos h1, decide_eq_true h1]
      by_cases h2 : c.fValue.null = d.fValue.null
      · rw [if_pos h2, decide_eq_true h2]
        by_cases h3 : c.fValue.data = d.fValue.data
        · rw [if_pos h3, decide_eq_true h3, if_pos (by omega)]
          exact ⟨z, hz⟩
        · rw [if_neg h3, decide_eq_false h3]
          exact ⟨0, rfl⟩
      · rw [if_neg h2, decide_eq_false h2]
        exact ⟨0, rfl⟩
    · rw [if_neg h1, decide_eq_false h1]
      exact ⟨0, rfl⟩
theorem r06_same (a b : List Hd) (ha : a.length ≤ 1000000) : f_r06_Same a b = some (sameHs a b) := by
  unfold f_r06_Same
  by_cases hl : (a.length : Int) = (b.length : Int)
  · obtain ⟨z, hz⟩ := r06s_loop a b ha false a b 0 (((a.length : Int)).toNat + 1) rfl rfl (by omega) (by omega)
    rw [if_pos hl, hz]
    cases sameHs a b <;> rfl
  · rw [if_neg hl]
    have : sameHs a b = false := by
      cases h : sameHs a b with
      | false => rfl
      | true => exact absurd (congrArg Int.ofNat (sameHs_len a b h)) hl
    rw [this]
end Go.Proofs.YtcoppaggpbfcmaaGreat.Sl
namespace Go.Proofs.YtcoppaggpbfcmaaGreat.Sl
open Go.RowKit
set_option linter.unusedVariables false
set_option linter.unusedSimpArgs false
def sameR (a b : Rec) : Bool := decide (a.fTime = b.fTime) && decide (a.fOffset = b.fOffset) && decide (a.fKey.null = b.fKey.null) && decide (a.fKey.data = b.fKey.data) && decide (a.fValue.null = b.fValue.null) && decide (a.fValue.data = b.fValue.data) && sameHs a.fHeaders b.fHeaders
theorem sameR_refl (a : Rec) : sameR a a = true := by simp [sameR, sameHs_refl]
theorem r07_same (a b : Rec) (ha : a.fHeaders.length ≤ 1000000) : f_r07_Same a b = some (sameR a b) := by
  unfold f_r07_Same sameR
  rw [r06_same _ _ ha]
  by_cases h1 : a.fTime = b.fTime <;> by_cases h2 : a.fOffset = b.fOffset <;> by_cases h3 : a.fKey.null = b.fKey.null <;> by_cases h4 : a.fKey.data = b.fKey.data <;> by_cases h5 : a.fValue.null = b.fValue.null <;> by_cases h6 : a.fValue.data = b.fValue.data <;> simp [h1, h2, h3, h4, h5, h6]
end Go.Proofs.YtcoppaggpbfcmaaGreat.Sl
namespace Go.Proofs.YtcoppaggpbfcmaaGreat.Sl
open Go.RowKit
set_option linter.unusedVariables false
set_option linter.unusedSimpArgs false
theorem okRec_of {x : Rec} (ht : wI x.fTime) (hr : rightR x = 0) (hw : rwt x ≤ 900000) : okRec x ∧ vfold ((encBody x).length : Int) < 2 ^ (32 : Int).toNat := by
  obtain ⟨h1, h2, h3, h4⟩ := right_zero hr
  have hb := encBody_len x ht ⟨by omega, by omega⟩ hw
  unfold rwt at hw hb
  have hn := hwts_len x.fHeaders
  have bk := blen_small x.fKey (by omega)
  have bv := blen_small x.fValue (by omega)
  refine ⟨⟨?_, ⟨vfold_ok _ (by omega) h1.2, h1.1⟩, ⟨vfold_ok _ bk.1 bk.2, h2⟩, ⟨vfold_ok _ bv.1 bv.2, h3⟩, vfold_ok _ (by omega) (by omega), fun h hh => ?_⟩, vfold_ok _ (by omega) (by omega)⟩
  · rw [show 2 ^ (64 : Int).toNat = 18446744073709551616 by decide]
    exact vfold_lt _ ht.1 ht.2
  · have hm := hwts_mem _ _ hh
    unfold hwt at hm
    have b := blen_small h.fValue (by omega)
    exact ⟨vfold_ok _ (by omega) (by omega), vfold_ok _ b.1 b.2, h4 h hh⟩
theorem encRec_len (x : Rec) (ht : wI x.fTime) (ho : wI x.fOffset) (hw : rwt x ≤ 900000) : (encRec x).length ≤ 61 + rwt x := by
  have hb := encBody_len x ht ho hw
  have h6 := vput_ten _ (vfold_lt ((encBody x).length : Int) (by omega) (by omega))
  rw [encRec, List.length_append]
  omega
end Go.Proofs.YtcoppaggpbfcmaaGreat.Sl
namespace Go.Proofs.YtcoppaggpbfcmaaGreat.Sl
open Go.RowKit
set_option linter.unusedVariables false
set_option linter.unusedSimpArgs false
theorem okRec_right {x : Rec} (h : okRec x) : rightR x = 0 ∧ wI x.fTime ∧ wI x.fOffset := by
  obtain ⟨h1, ⟨h2, h3⟩, h4, h5, h6⟩ := h
  rw [show 2 ^ (64 : Int).toNat = 18446744073709551616 by decide] at h1
  rw [show 2 ^ (32 : Int).toNat = 4294967296 by decide] at h2
  have ho : x.fOffset ≤ 2147483647 := by unfold vfold at h2; split at h2 <;> omega
  refine ⟨?_, ?_, ⟨by omega, by omega⟩⟩
  · unfold rightR
    have hb : brAll x.fHeaders = true := List.all_eq_true.2 fun y hy => (h6.2 y hy).2.2
    rw [if_neg (by omega), h4.2, h5.2, hb]
    rfl
  · unfold vfold at h1
    constructor <;> (split at h1 <;> omega)
end Go.Proofs.YtcoppaggpbfcmaaGreat.Sl
namespace Go.Proofs.YtcoppaggpbfcmaaGreat.Sl
set_option linter.unusedVariables false
def crcP : Nat := 2197175160
def crcS (x : Nat) : Nat := x / 2 ^^^ (if x % 2 = 1 then crcP else 0)
def crcI : Nat → Nat → Nat
  | 0, x => x
  | k + 1, x => crcI k (crcS x)
theorem nat_xor_mod2 (x y : Nat) : (x ^^^ y) % 2 = (x % 2 + y % 2) % 2 := by
  have h := Nat.xor_mod_two_pow (a := x) (b := y) (n := 1)
  rw [Nat.pow_one] at h
  rw [h]
  rcases Nat.mod_two_eq_zero_or_one x with hx | hx <;> rcases Nat.mod_two_eq_zero_or_one y with hy | hy <;> rw [hx, hy] <;> rfl
theorem nat_xor_div2 (x y : Nat) : (x ^^^ y) / 2 = (x / 2) ^^^ (y / 2) := Nat.xor_div_two
theorem crcS_xor (x y : Nat) : crcS (x ^^^ y) = crcS x ^^^ crcS y := by
  unfold crcS
  rw [nat_xor_div2, nat_xor_mod2]
  rcases Nat.mod_two_eq_zero_or_one x with hx | hx <;> rcases Nat.mod_two_eq_zero_or_one y with hy | hy <;> simp [hx, hy]
  · rw [Nat.xor_assoc]
  · ac_rfl
  · rw [show x / 2 ^^^ crcP ^^^ (y / 2 ^^^ crcP) = x / 2 ^^^ y / 2 ^^^ (crcP ^^^ crcP) by ac_rfl, Nat.xor_self, Nat.xor_zero]
theorem crcI_xor : ∀ (k x y : Nat), crcI k (x ^^^ y) = crcI k x ^^^ crcI k y
  | 0, _, _ => rfl
  | k + 1, x, y => by show crcI k _ = _; rw [crcS_xor, crcI_xor k]; rfl
theorem crcI_add : ∀ (j k x : Nat), crcI (j + k) x = crcI k (crcI j x)
  | 0, k, x => by rw [Nat.zero_add]; rfl
  | j + 1, k, x => by rw [show j + 1 + k = (j + k) + 1 by omega]; exact crcI_add j k (crcS x)
theorem crcS_even (x : Nat) : crcS (2 * x) = x := by
  unfold crcS; rw [if_neg (by omega), Nat.xor_zero]; omega
theorem crcI_shift : ∀ (k x : Nat), crcI k (2 ^ k * x) = x
  | 0, x => by rw [Nat.pow_zero, Nat.one_mul]; rfl
  | k + 1, x => by
    show crcI k (crcS _) = x
    rw [show 2 ^ (k + 1) * x = 2 * (2 ^ k * x) by rw [Nat.pow_succ, Nat.mul_comm (2 ^ k) 2, Nat.mul_assoc], crcS_even]
    exact crcI_shift k x
theorem crcS_lt {x : Nat} (h : x < 2 ^ 32) : crcS x < 2 ^ 32 := by
  unfold crcS
  exact Nat.xor_lt_two_pow (by omega) (by split <;> decide)
theorem crcI_lt : ∀ (k : Nat) {x : Nat}, x < 2 ^ 32 → crcI k x < 2 ^ 32
  | 0, _, h => h
  | k + 1, _, h => crcI_lt k (crcS_lt h)
theorem crcI_byte (x b : Nat) (hb : b < 256) : crcI 8 (x ^^^ b) = crcI 8 ((x % 256) ^^^ b) ^^^ (x / 256) := by
  have h : x = (x % 256) ^^^ (2 ^ 8 * (x / 256)) := by
    apply Nat.eq_of_testBit_eq
    intro i
    rw [Nat.testBit_xor, show (256 : Nat) = 2 ^ 8 from rfl, Nat.testBit_mod_two_pow, Nat.testBit_two_pow_mul, Nat.testBit_div_two_pow]
    by_cases hi : i < 8
    · simp [hi, show ¬ 8 ≤ i by omega]
    · simp [hi, show 8 ≤ i by omega]
  conv => lhs; rw [h]
  rw [show x % 256 ^^^ 2 ^ 8 * (x / 256) ^^^ b = (x % 256 ^^^ b) ^^^ (2 ^ 8 * (x / 256)) by ac_rfl, crcI_xor, crcI_shift]
def leN : List UInt8 → Nat
  | [] => 0
  | c :: l => c.toNat + 256 * leN l
def crcR : Nat → List UInt8 → Nat
  | x, [] => x
  | x, c :: l => crcR (crcI 8 (x ^^^ c.toNat)) l
theorem leN_lt : ∀ l, leN l < 2 ^ (8 * l.length)
  | [] => by decide
  | c :: l => by
    have := leN_lt l
    have hc := c.toNat_lt
    show c.toNat + 256 * leN l < 2 ^ (8 * (l.length + 1))
    rw [show 8 * (l.length + 1) = 8 + 8 * l.length by omega, Nat.pow_add]
    omega
theorem nat_add_xor {b : Nat} (hb : b < 256) (y : Nat) : b + 256 * y = b ^^^ (2 ^ 8 * y) := by
  apply Nat.eq_of_testBit_eq
  intro i
  rw [show b + 256 * y = 2 ^ 8 * y + b by omega, Nat.testBit_two_pow_mul_add _ (show b < 2 ^ 8 by omega), Nat.testBit_xor, Nat.testBit_two_pow_mul]
  by_cases hi : i < 8
  · simp [hi, show ¬ 8 ≤ i by omega]
  · have : b.testBit i = false := Nat.testBit_lt_two_pow (Nat.lt_of_lt_of_le hb (show 2 ^ 8 ≤ 2 ^ i from Nat.pow_le_pow_right (by decide) (by omega)))
    simp [hi, show 8 ≤ i by omega, this]
theorem crcR_eq : ∀ (l : List UInt8) (x : Nat), crcR x l = crcI (8 * l.length) (x ^^^ leN l)
  | [], x => by show x = crcI 0 (x ^^^ 0); rw [Nat.xor_zero]; rfl
  | c :: l, x => by
    show crcR _ l = _
    rw [crcR_eq l, show 8 * (c :: l).length = 8 + 8 * l.length by simp [Nat.mul_add]; omega, crcI_add]
    show _ = crcI _ (crcI 8 (x ^^^ (c.toNat + 256 * leN l)))
    rw [nat_add_xor c.toNat_lt, show x ^^^ (c.toNat ^^^ 2 ^ 8 * leN l) = (x ^^^ c.toNat) ^^^ (2 ^ 8 * leN l) by ac_rfl, crcI_xor 8 (x ^^^ c.toNat), crcI_shift]
theorem crcR_append : ∀ (l m : List UInt8) (x : Nat), crcR x (l ++ m) = crcR (crcR x l) m
  | [], _, _ => rfl
  | c :: l, m, x => crcR_append l m _
theorem crcR_lt : ∀ (l : List UInt8) {x : Nat}, x < 2 ^ 32 → crcR x l < 2 ^ 32
  | [], _, h => h
  | c :: l, _, h => crcR_lt l (crcI_lt 8 (Nat.xor_lt_two_pow h (Nat.lt_trans c.toNat_lt (by decide))))
end Go.Proofs.YtcoppaggpbfcmaaGreat.Sl
namespace Go.Proofs.YtcoppaggpbfcmaaGreat.Sl
open Go.RowKit
set_option linter.unusedVariables false
set_option linter.unusedSimpArgs false
theorem u32_ofInt (a : Nat) (h : a < 4294967296) : (BitVec.ofInt IntKind.u32.bits (a : Int)).toNat = a := by
  show (BitVec.ofInt 32 (a : Int)).toNat = a
  rw [BitVec.ofInt_natCast, BitVec.toNat_ofNat, Nat.mod_eq_of_lt (by omega)]
theorem u8_ofInt (a : Nat) (h : a < 256) : (BitVec.ofInt IntKind.u8.bits (a : Int)).toNat = a := by
  show (BitVec.ofInt 8 (a : Int)).toNat = a
  rw [BitVec.ofInt_natCast, BitVec.toNat_ofNat, Nat.mod_eq_of_lt (by omega)]
theorem wrap_u32 (a : Nat) : IntKind.u32.wrap (a : Int) = ((a % 4294967296 : Nat) : Int) := by
  rw [IntKind.wrap_u32]; omega
theorem wrap_u8 (a : Nat) : IntKind.u8.wrap (a : Int) = ((a % 256 : Nat) : Int) := by
  rw [IntKind.wrap_u8]; omega
theorem xor_u32 (a b : Nat) (ha : a < 4294967296) (hb : b < 4294967296) : Go.bits .xor .u32 (a : Int) (b : Int) = ((a ^^^ b : Nat) : Int) := by
  show IntKind.u32.wrap (((BitVec.ofInt IntKind.u32.bits (a : Int)) ^^^ (BitVec.ofInt IntKind.u32.bits (b : Int))).toNat : Int) = _
  rw [BitVec.toNat_xor, u32_ofInt a ha, u32_ofInt b hb, wrap_u32, Nat.mod_eq_of_lt (Nat.xor_lt_two_pow (n := 32) ha hb)]
theorem xor_u8 (a b : Nat) (ha : a < 256) (hb : b < 256) : Go.bits .xor .u8 (a : Int) (b : Int) = ((a ^^^ b : Nat) : Int) := by
  show IntKind.u8.wrap (((BitVec.ofInt IntKind.u8.bits (a : Int)) ^^^ (BitVec.ofInt IntKind.u8.bits (b : Int))).toNat : Int) = _
  rw [BitVec.toNat_xor, u8_ofInt a ha, u8_ofInt b hb, wrap_u8, Nat.mod_eq_of_lt (Nat.xor_lt_two_pow (n := 8) ha hb)]
theorem and1_u32 (a : Nat) (ha : a < 4294967296) : Go.bits .and .u32 (a : Int) 1 = ((a % 2 : Nat) : Int) := by
  show IntKind.u32.wrap (((BitVec.ofInt IntKind.u32.bits (a : Int)) &&& (BitVec.ofInt IntKind.u32.bits ((1 : Nat) : Int))).toNat : Int) = _
  rw [BitVec.toNat_and, u32_ofInt a ha, u32_ofInt 1 (by decide), wrap_u32, Nat.and_one_is_mod, Nat.mod_eq_of_lt (by omega)]
theorem shr1_u32 (a : Nat) : shrK .u32 (a : Int) 1 = ((a / 2 : Nat) : Int) := by
  show Int.fdiv (a : Int) 2 = _
  rw [Int.fdiv_eq_ediv_of_nonneg _ (by decide)]
  omega
theorem shr8_u32 (a : Nat) : shrK .u32 (a : Int) 8 = ((a / 256 : Nat) : Int) := by
  show Int.fdiv (a : Int) 256 = _
  rw [Int.fdiv_eq_ediv_of_nonneg _ (by decide)]
  omega
theorem crcS_int (y : Nat) (hy : y < 4294967296) : (if Go.bits .and .u32 (y : Int) 1 = 1 then some (Go.bits .xor .u32 (shrK .u32 (y : Int) 1) 2197175160) else some (shrK .u32 (y : Int) 1)) = some ((crcS y : Nat) : Int) := by
  rw [and1_u32 y hy, shr1_u32, show (2197175160 : Int) = ((2197175160 : Nat) : Int) from rfl, xor_u32 _ _ (by omega) (by decide)]
  unfold crcS
  by_cases h : y % 2 = 1
  · rw [if_pos (by omega), if_pos h]; rfl
  · rw [if_neg (by omega), if_neg h, Nat.xor_zero]
theorem new_l2 : ∀ (m y k : Nat), y < 4294967296 → k ≤ 8 → 8 - k < m → f_crc_New_l2 m (y : Int) k = some (((crcI (8 - k) y : Nat) : Int), 8)
  | 0, _, _, _, _, h => by omega
  | m + 1, y, k, hy, hk, hm => by
    rw [f_crc_New_l2]
    by_cases h : k < 8
    · rw [if_pos (by omega), crcS_int y hy, Option.bind_some, if_pos (by omega), new_l2 m (crcS y) (k + 1) (crcS_lt hy) (by omega) (by omega), show 8 - k = (8 - (k + 1)) + 1 by omega]
      rfl
    · rw [if_neg (by omega), show 8 - k = 0 by omega, show k = 8 by omega]
      rfl
def crcTab : List Int := (List.range 256).map (fun j => ((crcI 8 j : Nat) : Int))
theorem crcTab_get (j : Nat) (hj : j < 256) : crcTab[j]? = some ((crcI 8 j : Nat) : Int) := by
  unfold crcTab
  rw [List.getElem?_map, List.getElem?_range hj]
  rfl
theorem new_l1 : ∀ (m k : Nat) (l : List Int), l.length = 256 → k ≤ 256 → 256 - k < m → (∀ j, j < k → l[j]? = some ((crcI 8 j : Nat) : Int)) → f_crc_New_l1 m k l = some (256, crcTab)
  | 0, _, _, _, _, h, _ => by omega
  | m + 1, k, l, hl, hk, hm, hj => by
    rw [f_crc_New_l1]
    by_cases h : k < 256
    · have e1 : IntKind.u32.wrap (k : Int) = ((k : Nat) : Int) := by rw [wrap_u32, Nat.mod_eq_of_lt (by omega)]
      have e2 : f_crc_New_l2 ((8 : Int).toNat + 1) (IntKind.u32.wrap (k : Int)) 0 = some (((crcI 8 k : Nat) : Int), 8) := by
        rw [e1]
        exact new_l2 9 k 0 (by omega) (by omega) (by omega)
      have e3 : l[k]? = some (l[k]'(by omega)) := List.getElem?_eq_getElem (by omega)
      rw [if_pos (by omega), e2, Option.bind_some]
      dsimp only
      rw [e3, Option.bind_some, Option.bind_some, if_pos (by omega)]
      refine new_l1 m (k + 1) _ (by rw [List.length_set]; exact hl) (by omega) (by omega) (fun j hjk => ?_)
      rw [List.getElem?_set]
      by_cases e : k = j
      · rw [if_pos e, if_pos (by omega), e]
      · rw [if_neg e]
        exact hj j (by omega)
    · rw [if_neg (by omega), show k = 256 by omega]
      congr 2
      apply List.ext_getElem?
      intro j
      by_cases hj2 : j < 256
      · rw [crcTab_get j hj2]
        exact hj j (by omega)
      · rw [List.getElem?_eq_none (by omega), List.getElem?_eq_none (by unfold crcTab; simp; omega)]
theorem crc_new : f_crc_New = some crcTab := by
  unfold f_crc_New
  rw [show (256 : Int).toNat + 1 = 257 from rfl, new_l1 257 0 _ (List.length_replicate ..) (by omega) (by omega) (fun j hj => absurd hj (by omega)), Option.bind_some]
theorem more_l1 (s : List UInt8) (hs : s.length ≤ 9223372036854775806) : ∀ (m y k : Nat), y < 4294967296 → k ≤ s.length → s.length - k < m → f_crc_TableMore_l1 s m (y : Int) k crcTab = some (((crcR y (s.drop k) : Nat) : Int), s.length, crcTab)
  | 0, _, _, _, _, h => by omega
  | m + 1, y, k, hy, hk, hm => by
    rw [f_crc_TableMore_l1]
    by_cases h : k < s.length
    · have e1 : s[k]? = some s[k] := List.getElem?_eq_getElem h
      have hc := s[k].toNat_lt
      have hx : y % 256 ^^^ s[k].toNat < 256 := Nat.xor_lt_two_pow (n := 8) (by omega) hc
      have e2 : Go.bits .xor .u8 (IntKind.u8.wrap (y : Int)) (s[k].toNat : Int) = ((y % 256 ^^^ s[k].toNat : Nat) : Int) := by
        rw [wrap_u8, xor_u8 _ _ (by omega) (by omega)]
      have e3 : crcI 8 (y % 256 ^^^ s[k].toNat) < 2 ^ 32 := crcI_lt 8 (by omega)
      rw [if_pos (by omega), e1, Option.bind_some, e2, if_pos (by omega), Int.toNat_natCast, crcTab_get _ hx, Option.bind_some, if_pos (by omega), shr8_u32, xor_u32 _ _ (by omega) (by omega), ← crcI_byte y _ (by omega),
        more_l1 s hs m _ (k + 1) (crcI_lt 8 (Nat.xor_lt_two_pow (n := 32) hy (by omega))) (by omega) (by omega)]
      rw [drop_cons e1]
      rfl
    · rw [if_neg (by omega), show k = s.length by omega, List.drop_length]
      rfl
def crcM (x : Nat) (s : List UInt8) : Nat := 4294967295 ^^^ crcR (4294967295 ^^^ x) s
theorem crcM_lt {x : Nat} (hx : x < 4294967296) (s : List UInt8) : crcM x s < 4294967296 := Nat.xor_lt_two_pow (n := 32) (by decide) (crcR_lt s (Nat.xor_lt_two_pow (n := 32) (by decide) hx))
theorem ones2 (x : Nat) : 4294967295 ^^^ (4294967295 ^^^ x) = x := by rw [← Nat.xor_assoc, Nat.xor_self, Nat.zero_xor]
theorem crcM_append (x : Nat) (s t : List UInt8) : crcM x (s ++ t) = crcM (crcM x s) t := by
  unfold crcM
  rw [crcR_append, ones2]
theorem crcM_nil (x : Nat) : crcM x [] = x := ones2 x
theorem crc_more (x : Nat) (hx : x < 4294967296) (s : List UInt8) (hs : s.length ≤ 9223372036854775806) : f_crc_TableMore crcTab (x : Int) s = some (((crcM x s : Nat) : Int), crcTab) := by
  unfold f_crc_TableMore
  have h1 : (4294967295 ^^^ x : Nat) < 4294967296 := Nat.xor_lt_two_pow (n := 32) (by decide) hx
  rw [show (4294967295 : Int) = ((4294967295 : Nat) : Int) from rfl, xor_u32 _ _ (by decide) hx, Int.toNat_natCast, more_l1 s hs _ _ 0 h1 (by omega) (by omega), Option.bind_some, List.drop_zero]
  dsimp only
  rw [xor_u32 _ _ (by decide) (crcR_lt s h1)]
  rfl
theorem sum_l1 : ∀ (l : List (List UInt8)) (x : Nat), x < 4294967296 → (∀ s, s ∈ l → s.length ≤ 9223372036854775806) → f_crc_TableSum_l1 l (x : Int) crcTab = some (((crcM x l.flatten : Nat) : Int), crcTab)
  | [], x, _, _ => by rw [f_crc_TableSum_l1, List.flatten_nil, crcM_nil]
  | s :: l, x, hx, hs => by
    rw [f_crc_TableSum_l1, crc_more x hx s (hs s (List.mem_cons_self ..)), Option.bind_some]
    dsimp only
    rw [sum_l1 l _ (crcM_lt hx s) (fun t ht => hs t (List.mem_cons_of_mem _ ht)), List.flatten_cons, crcM_append]
theorem crc_sum (l : List (List UInt8)) (hs : ∀ s, s ∈ l → s.length ≤ 9223372036854775806) : f_crc_TableSum crcTab l = some (((crcM 0 l.flatten : Nat) : Int), crcTab) := by
  unfold f_crc_TableSum
  have h := sum_l1 l 0 (by decide) hs
  rw [show ((0 : Nat) : Int) = 0 from rfl] at h
  rw [h, Option.bind_some]
end Go.Proofs.YtcoppaggpbfcmaaGreat.Sl
namespace Go.Proofs.YtcoppaggpbfcmaaGreat.Sl
open Go.RowKit
set_option linter.unusedVariables false
set_option linter.unusedSimpArgs false
def bI (x j : Nat) : Int := if x.testBit j then 1 else 0
theorem bI_mod (x j : Nat) : bI x j = ((x / 2 ^ j % 2 : Nat) : Int) := by
  unfold bI
  rw [Nat.testBit_eq_decide_div_mod_eq]
  rcases Nat.mod_two_eq_zero_or_one (x / 2 ^ j) with h | h <;> rw [h] <;> rfl
theorem bI_01 (x j : Nat) : bI x j = 0 ∨ bI x j = 1 := by
  unfold bI
  by_cases h : x.testBit j = true
  · rw [if_pos h]; exact .inr rfl
  · rw [if_neg h]; exact .inl rfl
theorem bI_xor (x y j : Nat) : bI (x ^^^ y) j = (bI x j + bI y j) % 2 := by
  unfold bI
  rw [Nat.testBit_xor]
  cases x.testBit j <;> cases y.testBit j <;> rfl
theorem bI_half (x j : Nat) : bI (x / 2) j = bI x (j + 1) := by
  unfold bI
  rw [Nat.testBit_succ]
theorem leN_byte : ∀ (s : List UInt8) (k : Nat) (c : UInt8), s[k]? = some c → ∀ j, j < 8 → (leN s).testBit (8 * k + j) = c.toNat.testBit j
  | [], k, c, h, j, hj => by simp at h
  | a :: s, 0, c, h, j, hj => by
    obtain rfl : a = c := by simpa using h
    show (a.toNat + 256 * leN s).testBit (8 * 0 + j) = _
    rw [show a.toNat + 256 * leN s = 2 ^ 8 * leN s + a.toNat by omega, Nat.testBit_two_pow_mul_add _ (show a.toNat < 2 ^ 8 from a.toNat_lt), if_pos (by omega), Nat.mul_zero, Nat.zero_add]
  | a :: s, k + 1, c, h, j, hj => by
    show (a.toNat + 256 * leN s).testBit _ = _
    rw [show a.toNat + 256 * leN s = 2 ^ 8 * leN s + a.toNat by omega, Nat.testBit_two_pow_mul_add _ (show a.toNat < 2 ^ 8 from a.toNat_lt), if_neg (by omega), show 8 * (k + 1) + j - 8 = 8 * k + j by omega]
    exact leN_byte s k c (by simpa using h) j hj
theorem bit_l1 (a : Int) (ha : 0 ≤ a) (hb : a ≤ 9223372036854775807) : ∀ (m y k : Nat), y < 256 → k ≤ (a % 8).toNat → (a % 8).toNat - k < m → f_r05_bit_l1 a m (y : Int) k = some (((y / 2 ^ ((a % 8).toNat - k) : Nat) : Int), (a % 8).toNat)
  | 0, _, _, _, _, h => by omega
  | m + 1, y, k, hy, hk, hm => by
    rw [f_r05_bit_l1, if_pos ⟨ha, hb⟩]
    by_cases h : k < (a % 8).toNat
    · rw [if_pos (by omega), if_pos (by omega), if_pos (by omega), show ((y : Int) / 2) = ((y / 2 : Nat) : Int) by omega, bit_l1 a ha hb m (y / 2) (k + 1) (by omega) (by omega) (by omega), Nat.div_div_eq_div_mul,
        show (a % 8).toNat - k = ((a % 8).toNat - (k + 1)) + 1 by omega, Nat.pow_succ, Nat.mul_comm 2]
    · rw [if_neg (by omega), show (a % 8).toNat - k = 0 by omega, Nat.pow_zero, Nat.div_one, show k = (a % 8).toNat by omega]
theorem r05_bit (s : List UInt8) (i : Nat) (hi : i < 8 * s.length) (hb : i ≤ 9223372036854775807) : f_r05_bit s (i : Int) = some (bI (leN s) i) := by
  unfold f_r05_bit
  have hk : i / 8 < s.length := by omega
  have e1 : s[i / 8]? = some s[i / 8] := List.getElem?_eq_getElem hk
  have hc := s[i / 8].toNat_lt
  have e2 := bit_l1 (i : Int) (by omega) (by omega) (((i : Int) % 8).toNat + 1) s[i / 8].toNat 0 (by omega) (by omega) (by omega)
  have e3 : ((i : Int) % 8).toNat = i % 8 := by omega
  rw [if_pos (by omega), if_pos (by omega), show ((i : Int) / 8).toNat = i / 8 by omega, e1, Option.bind_some, if_pos (by omega), e2, Option.bind_some, e3, Nat.sub_zero]
  dsimp only
  have h4 : s[i / 8].toNat / 2 ^ (i % 8) ≤ s[i / 8].toNat := Nat.div_le_self _ _
  suffices h6 : bI (leN s) i = ((s[i / 8].toNat / 2 ^ (i % 8) % 2 : Nat) : Int) by
    rw [h6]
    generalize s[i / 8].toNat / 2 ^ (i % 8) = q at h4 ⊢
    rw [if_pos (by omega)]
    congr 1
  have h5 := leN_byte s (i / 8) _ e1 (i % 8) (by omega)
  rw [show 8 * (i / 8) + i % 8 = i by omega] at h5
  unfold bI
  rw [h5]
  exact bI_mod _ _
theorem r05_power : ∀ i : Nat, i < 32 → f_r05_power (31 - (i : Int)) = some (bI crcP i) := by decide +kernel
def Bts (L k : Nat) (l : List Int) (x : Nat) : Prop := l.length = L ∧ ∀ j, k + j < L → l[k + j]? = some (bI x j)
theorem r05_l1 (s : List UInt8) (hs : s.length ≤ 1000000) : ∀ (m k : Nat) (l : List Int), l.length = 8 * s.length + 32 → k ≤ 8 * s.length → 8 * s.length - k < m → (∀ j, j < k → l[j]? = some (bI (leN s) j)) → (∀ j, k ≤ j → j < 8 * s.length + 32 → l[j]? = some 0) →
    ∃ l', f_r05_Sum_l1 s m l k = some (l', 8 * s.length) ∧ Bts (8 * s.length + 32) 0 l' (leN s)
  | 0, _, _, _, _, h, _, _ => by omega
  | m + 1, k, l, hl, hk, hm, h1, h2 => by
    rw [f_r05_Sum_l1]
    by_cases h : k < 8 * s.length
    · rw [if_pos (by omega), r05_bit s k h (by omega), Option.bind_some, h2 k (Nat.le_refl _) (by omega), Option.bind_some, if_pos (by omega)]
      refine r05_l1 s hs m (k + 1) _ (by rw [List.length_set]; exact hl) (by omega) (by omega) (fun j hj => ?_) (fun j hj hj2 => ?_)
      · rw [List.getElem?_set]
        by_cases e : k = j
        · rw [if_pos e, if_pos (by omega), e]
        · rw [if_neg e]; exact h1 j (by omega)
      · rw [List.getElem?_set, if_neg (by omega)]
        exact h2 j (by omega) hj2
    · have hk2 : k = 8 * s.length := by omega
      rw [if_neg (by omega), hk2]
      refine ⟨l, rfl, hl, fun j hj => ?_⟩
      rw [Nat.zero_add] at hj ⊢
      by_cases e : j < k
      · exact h1 j e
      · rw [h2 j (by omega) hj]
        unfold bI
        rw [Nat.testBit_lt_two_pow (Nat.lt_of_lt_of_le (leN_lt s) (Nat.pow_le_pow_right (by decide) (by omega)))]
        rfl
theorem bI_ones (k j : Nat) : bI (2 ^ k - 1) j = if j < k then 1 else 0 := by
  unfold bI
  rw [Nat.testBit_two_pow_sub_one]
  by_cases h : j < k <;> simp [h]
theorem r05_l2 (x L : Nat) (hL : 32 ≤ L) : ∀ (m k : Nat) (l : List Int), k ≤ 32 → 32 - k < m → Bts L 0 l (x ^^^ (2 ^ k - 1)) → ∃ l', f_r05_Sum_l2 m l k = some (l', 32) ∧ Bts L 0 l' (x ^^^ 4294967295)
  | 0, _, _, _, h, _ => by omega
  | m + 1, k, l, hk, hm, hB => by
    rw [f_r05_Sum_l2]
    by_cases h : k < 32
    · have e := hB.2 k (by omega)
      rw [Nat.zero_add] at e
      rw [if_pos (by omega), e, Option.bind_some]
      have h01 := bI_01 (x ^^^ (2 ^ k - 1)) k
      rw [if_pos (by omega), if_pos (by omega)]
      refine r05_l2 x L hL m (k + 1) _ (by omega) (by omega) ⟨by rw [List.length_set]; exact hB.1, fun j hj => ?_⟩
      rw [Nat.zero_add] at hj ⊢
      have e2 := hB.2 j (by omega)
      rw [Nat.zero_add] at e2
      have R : bI (x ^^^ (2 ^ (k + 1) - 1)) j = (bI x j + if j < k + 1 then 1 else 0) % 2 := by rw [bI_xor, bI_ones]
      have R0 : bI (x ^^^ (2 ^ k - 1)) j = (bI x j + if j < k then 1 else 0) % 2 := by rw [bI_xor, bI_ones]
      rw [List.getElem?_set, R]
      by_cases e3 : k = j
      · subst e3
        rw [if_pos rfl, if_pos (by rw [hB.1]; exact hj), if_pos (by omega), R0, if_neg (by omega)]
        rcases bI_01 x k with q | q <;> rw [q] <;> rfl
      · rw [if_neg e3, e2, R0]
        by_cases e4 : j < k
        · rw [if_pos e4, if_pos (by omega)]
        · rw [if_neg e4, if_neg (by omega)]
    · have : k = 32 := by omega
      subst this
      rw [if_neg (by omega)]
      exact ⟨l, rfl, hB⟩
theorem r05_l4 (L k : Nat) (l0 : List Int) (y : Nat) (hL : k + 33 ≤ L) (hb : L ≤ 9000000) (h0 : Bts L k l0 y) : ∀ (m i : Nat) (l : List Int), 1 ≤ i → i ≤ 33 → 33 - i < m → l.length = L → (∀ j, k + i ≤ j → j < L → l[j]? = l0[j]?) → (∀ j, j + 1 < i → l[k + 1 + j]? = some (bI (y / 2 ^^^ crcP) j)) →
    ∃ l', f_r05_Sum_l4 k m l (i : Int) = some (l', 33) ∧ l'.length = L ∧ (∀ j, k + 33 ≤ j → j < L → l'[j]? = l0[j]?) ∧ ∀ j, j < 32 → l'[k + 1 + j]? = some (bI (y / 2 ^^^ crcP) j)
  | 0, _, _, _, _, h, _, _, _ => by omega
  | m + 1, i, l, h1, hi, hm, hl, hr, hd => by
    rw [f_r05_Sum_l4]
    by_cases h : i ≤ 32
    · have e1 : l[k + i]? = some (bI y i) := by rw [hr (k + i) (Nat.le_refl _) (by omega)]; exact h0.2 i (by omega)
      have e2 : f_r05_power (32 - (i : Int)) = some (bI crcP (i - 1)) := by
        rw [show (32 : Int) - (i : Int) = 31 - ((i - 1 : Nat) : Int) by omega]
        exact r05_power (i - 1) (by omega)
      have q1 := bI_01 y i
      have q2 := bI_01 crcP (i - 1)
      rw [if_pos (by omega), if_pos (by omega), show ((k : Int) + (i : Int)).toNat = k + i by omega, e1, Option.bind_some, if_pos (by omega), if_pos (by omega), if_pos (by omega), e2, Option.bind_some, if_pos (by omega), if_pos (by omega), if_pos (by omega),
        show (i : Int) + 1 = ((i + 1 : Nat) : Int) by omega]
      refine r05_l4 L k l0 y hL hb h0 m (i + 1) _ (by omega) (by omega) (by omega) (by rw [List.length_set]; exact hl) (fun j hj hj2 => ?_) (fun j hj => ?_)
      · rw [List.getElem?_set, if_neg (by omega)]
        exact hr j (by omega) hj2
      · rw [List.getElem?_set]
        by_cases e3 : k + i = k + 1 + j
        · rw [if_pos e3, if_pos (by omega), bI_xor, bI_half, show j + 1 = i by omega, show i - 1 = j by omega]
        · rw [if_neg e3]; exact hd j (by omega)
    · have : i = 33 := by omega
      subst this
      rw [if_neg (by omega)]
      exact ⟨l, rfl, hl, fun j hj hj2 => hr j hj hj2, fun j hj => hd j (by omega)⟩
theorem crcP_high (j : Nat) (hj : 32 ≤ j) : bI crcP j = 0 := by
  unfold bI
  rw [Nat.testBit_lt_two_pow (Nat.lt_of_lt_of_le (show crcP < 2 ^ 32 by decide) (Nat.pow_le_pow_right (by decide) hj))]
  rfl
theorem bI_zero (x : Nat) : bI x 0 = 1 ↔ x % 2 = 1 := by
  rw [bI_mod, Nat.pow_zero, Nat.div_one]; omega
theorem r05_l3 (s : List UInt8) (hs : s.length ≤ 1000000) : ∀ (m k : Nat) (l : List Int) (y : Nat), k ≤ 8 * s.length → 8 * s.length - k < m → Bts (8 * s.length + 32) k l y → ∃ l', f_r05_Sum_l3 s m l k = some (l', 8 * s.length) ∧ Bts (8 * s.length + 32) (8 * s.length) l' (crcI (8 * s.length - k) y)
  | 0, _, _, _, _, h, _ => by omega
  | m + 1, k, l, y, hk, hm, hB => by
    rw [f_r05_Sum_l3]
    by_cases h : k < 8 * s.length
    · have e1 := hB.2 0 (by omega)
      rw [Nat.add_zero] at e1
      rw [if_pos (by omega), e1, Option.bind_some, show 8 * s.length - k = (8 * s.length - (k + 1)) + 1 by omega]
      by_cases ho : bI y 0 = 1
      · have hy := (bI_zero y).1 ho
        obtain ⟨l', r1, r2, r3, r4⟩ := r05_l4 (8 * s.length + 32) k l y (by omega) (by omega) hB 33 1 l (by omega) (by omega) (by omega) hB.1 (fun j _ _ => rfl) (fun j hj => absurd hj (by omega))
        rw [if_pos ho, show ((33 : Int) - 1).toNat + 1 = 33 from rfl, show (1 : Int) = ((1 : Nat) : Int) from rfl, r1, Option.bind_some]
        dsimp only
        rw [if_pos (by omega)]
        refine r05_l3 s hs m (k + 1) l' (crcS y) (by omega) (by omega) ⟨r2, fun j hj => ?_⟩
        unfold crcS
        rw [if_pos hy]
        by_cases e : j < 32
        · exact r4 j e
        · rw [r3 _ (by omega) (by omega), show k + 1 + j = k + (j + 1) by omega, hB.2 (j + 1) (by omega), bI_xor, bI_half, crcP_high j (by omega)]
          rcases bI_01 y (j + 1) with q | q <;> rw [q] <;> rfl
      · have hy : ¬ y % 2 = 1 := fun e => ho ((bI_zero y).2 e)
        rw [if_neg ho, if_pos (by omega)]
        refine r05_l3 s hs m (k + 1) l (crcS y) (by omega) (by omega) ⟨hB.1, fun j hj => ?_⟩
        unfold crcS
        rw [if_neg hy, Nat.xor_zero, bI_half, show k + 1 + j = k + (j + 1) by omega]
        exact hB.2 (j + 1) (by omega)
    · have : k = 8 * s.length := by omega
      subst this
      rw [if_neg (by omega), Nat.sub_self]
      exact ⟨l, rfl, hB⟩
theorem ones_sub {z : Nat} (hz : z < 4294967296) : 4294967295 ^^^ z = 4294967295 - z := by
  apply Nat.eq_of_testBit_eq
  intro i
  rw [show 4294967295 - z = 2 ^ 32 - (z + 1) by omega, Nat.testBit_two_pow_sub_succ (show z < 2 ^ 32 from hz), Nat.testBit_xor, show (4294967295 : Nat) = 2 ^ 32 - 1 from rfl, Nat.testBit_two_pow_sub_one]
  by_cases h : i < 32
  · simp [h]
  · have : z.testBit i = false := Nat.testBit_lt_two_pow (Nat.lt_of_lt_of_le hz (show 2 ^ 32 ≤ 2 ^ i from Nat.pow_le_pow_right (by decide) (by omega)))
    simp [h, this]
theorem r05_l5 (s : List UInt8) (hs : s.length ≤ 1000000) (l : List Int) (z : Nat) (hz : z < 4294967296) (hB : Bts (8 * s.length + 32) (8 * s.length) l z) : ∀ (i m : Nat), i ≤ 32 → i < m → f_r05_Sum_l5 s l m (((4294967295 - z) / 2 ^ i : Nat) : Int) ((i : Int) - 1) = some (((4294967295 - z : Nat) : Int), -1)
  | i, 0, _, h => by omega
  | 0, m + 1, _, _ => by
    rw [f_r05_Sum_l5, if_neg (by omega), Nat.pow_zero, Nat.div_one]
    rfl
  | i + 1, m + 1, hi, hm => by
    have e1 := hB.2 i (by omega)
    have q := bI_01 z i
    rw [f_r05_Sum_l5, if_pos (by omega), if_pos (by omega), if_pos (by omega), show (8 * (s.length : Int) + (((i + 1 : Nat) : Int) - 1)).toNat = 8 * s.length + i by omega, e1, Option.bind_some, if_pos (by omega), if_pos (by omega),
      show ((i + 1 : Nat) : Int) - 1 - 1 = (i : Int) - 1 by omega]
    have h1 : (4294967295 - z) / 2 ^ i / 2 = (4294967295 - z) / 2 ^ (i + 1) := by rw [Nat.div_div_eq_div_mul, ← Nat.pow_succ]
    have h2 : (((4294967295 - z) / 2 ^ i % 2 : Nat) : Int) = 1 - bI z i := by
      rw [← bI_mod, ← ones_sub hz, bI_xor, show (4294967295 : Nat) = 2 ^ 32 - 1 from rfl, bI_ones, if_pos (by omega)]
      rcases q with q | q <;> rw [q] <;> rfl
    have h3 : (4294967295 - z) / 2 ^ i ≤ 4294967295 := Nat.le_trans (Nat.div_le_self _ _) (by omega)
    have h4 : IntKind.u32.wrap ((IntKind.u32.wrap ((((4294967295 - z) / 2 ^ (i + 1) : Nat) : Int) * 2)) + (IntKind.u32.wrap (1 - bI z i))) = (((4294967295 - z) / 2 ^ i : Nat) : Int) := by
      rw [IntKind.wrap_u32, IntKind.wrap_u32, IntKind.wrap_u32, ← h1, ← h2]
      generalize (4294967295 - z) / 2 ^ i = q at h3
      omega
    rw [h4]
    exact r05_l5 s hs l z hz hB i m (by omega) (by omega)
theorem r05_sum (s : List UInt8) (hs : s.length ≤ 1000000) : f_r05_Sum s = some ((crcM 0 s : Nat) : Int) := by
  unfold f_r05_Sum
  obtain ⟨l1, r1, B1⟩ := r05_l1 s hs (8 * s.length + 1) 0 (List.replicate (8 * s.length + 32) 0) (List.length_replicate ..) (by omega) (by omega) (fun j hj => absurd hj (by omega)) (fun j _ hj => by rw [List.getElem?_replicate, if_pos hj])
  obtain ⟨l2, r2, B2⟩ := r05_l2 (leN s) (8 * s.length + 32) (by omega) 33 0 l1 (by omega) (by omega) (by rw [Nat.pow_zero, Nat.sub_self, Nat.xor_zero]; exact B1)
  obtain ⟨l3, r3, B3⟩ := r05_l3 s hs (8 * s.length + 1) 0 l2 _ (by omega) (by omega) B2
  have hz : crcI (8 * s.length - 0) (leN s ^^^ 4294967295) = crcR 4294967295 s := by rw [Nat.sub_zero, crcR_eq, Nat.xor_comm]
  rw [hz] at B3
  have hlt : crcR 4294967295 s < 4294967296 := crcR_lt s (by decide)
  have r4 := r05_l5 s hs l3 _ hlt B3 32 33 (by omega) (by omega)
  rw [show (4294967295 - crcR 4294967295 s) / 2 ^ 32 = 0 from Nat.div_eq_of_lt (by omega)] at r4
  rw [if_pos (by omega), if_pos (by omega), if_pos (by omega), show (8 * (s.length : Int)).toNat = 8 * s.length by omega, show (8 * (s.length : Int) + 32).toNat = 8 * s.length + 32 by omega, r1, Option.bind_some]
  dsimp only
  rw [show (32 : Int).toNat + 1 = 33 from rfl, r2, Option.bind_some]
  dsimp only
  rw [r3, Option.bind_some]
  dsimp only
  rw [show ((31 : Int) - -1).toNat + 1 = 33 from rfl]
  have r5 : f_r05_Sum_l5 s l3 33 0 31 = some (((4294967295 - crcR 4294967295 s : Nat) : Int), -1) := r4
  rw [r5, Option.bind_some]
  dsimp only
  rw [← ones_sub hlt]
  unfold crcM
  rw [Nat.xor_zero]
end Go.Proofs.YtcoppaggpbfcmaaGreat.Sl
namespace Go.Proofs.YtcoppaggpbfcmaaGreat.Sl
open Go.RowKit
set_option linter.unusedVariables false
set_option linter.unusedSimpArgs false
def pre21 (p : Pfx) : List UInt8 := be p.fBase 8 ++ (be p.fLength 4 ++ (be p.fLeader 4 ++ (be 2 1 ++ be (s32 p.fSum) 4)))
def post21 (p : Pfx) : List UInt8 := be p.fAttr 2 ++ encI [4, 8, 8, 8, 2, 4, 4] [p.fLast, p.fFirst, p.fMax, p.fProducer, p.fEpoch, p.fSequence, p.fCount]
theorem encP_21 (p : Pfx) : encP p = pre21 p ++ post21 p := by
  unfold encP KS toL pre21 post21
  simp only [encI, List.append_assoc]
theorem pre21_len (p : Pfx) : (pre21 p).length = 21 := by
  unfold pre21
  simp only [List.length_append, be_length]
theorem encP_drop (p : Pfx) : (encP p).drop 21 = post21 p := by
  rw [encP_21, ← pre21_len p, List.drop_left]
def okRc (x : Rec) : Prop := okRec x ∧ vfold ((encBody x).length : Int) < 2 ^ (32 : Int).toNat
def pMore : Pr Unit := fun s q => if q = s.length then .error 10 else .ok ((), q)
def pRecs : Nat → Pr (List Rec)
  | 0 => .ret []
  | n + 1 => pMore.bind fun _ => pRec.bind fun x => (pRecs n).bind fun l => .ret (x :: l)
theorem encRec_pos (x : Rec) : 0 < (encRec x).length := by
  unfold encRec
  rw [List.length_append]
  have := vput_pos (vfold ((encBody x).length : Int))
  omega
theorem recs_spell : ∀ (n : Nat) (s : List UInt8) (q : Nat) (l : List Rec) (r : Nat), q ≤ s.length → pRecs n s q = .ok (l, r) → q ≤ r ∧ r ≤ s.length ∧ s.take r = s.take q ++ encs encRec l ∧ l.length = n ∧ ∀ x, x ∈ l → okRc x
  | 0, s, q, l, r, hq, h => by
    injection h with h
    obtain ⟨rfl, rfl⟩ := Prod.mk.inj h
    exact ⟨Nat.le_refl _, hq, by simp [encs], rfl, fun x h => nomatch h⟩
  | n + 1, s, q, l, r, hq, h => by
    obtain ⟨u, m, h1, h2⟩ := Pr.bind_ok h
    unfold pMore at h1
    split at h1
    · exact nomatch h1
    injection h1 with h1
    obtain ⟨_, rfl⟩ := Prod.mk.inj h1
    obtain ⟨x, m2, h3, h4⟩ := Pr.bind_ok h2
    obtain ⟨xs, m3, h5, h6⟩ := Pr.bind_ok h4
    injection h6 with h6
    obtain ⟨rfl, rfl⟩ := Prod.mk.inj h6
    obtain ⟨a1, a2, a3, a4, a5⟩ := Sp_rec.spell s q x m2 hq h3
    obtain ⟨b1, b2, b3, b4, b5⟩ := recs_spell n s m2 xs m3 a2 h5
    refine ⟨by omega, b2, by rw [b3, a4, encs, List.append_assoc], by rw [List.length_cons, b4], fun y hy => ?_⟩
    rcases List.mem_cons.1 hy with rfl | hy
    · exact a5
    · exact b5 y hy
theorem recs_back : ∀ (l : List Rec) (s t : List UInt8) (q : Nat), q ≤ s.length → (∀ x, x ∈ l → okRc x) → s.drop q = encs encRec l ++ t → pRecs l.length s q = .ok (l, q + (encs encRec l).length)
  | [], s, t, q, hq, _, _ => rfl
  | x :: l, s, t, q, hq, ho, hd => by
    rw [encs, List.append_assoc] at hd
    have hl := congrArg List.length hd
    rw [List.length_drop, List.length_append] at hl
    have hp := encRec_pos x
    have h0 : pMore s q = .ok ((), q) := if_neg (by omega)
    have h1 := Sp_rec.back s _ q x hq (ho x (.head _)) hd
    have h2 := recs_back l s t _ (by omega) (fun y hy => ho y (.tail _ hy)) (drop_step hd)
    rw [List.length_cons, pRecs, Pr.bind_of h0, Pr.bind_of h1, Pr.bind_of h2, encs, List.length_append, ← Nat.add_assoc]
    rfl
def chk (a : Bat) : Int := (f_batch_Check a).getD 0
def body (a : Bat) : List UInt8 := encs encRec a.fRecords
def mkB (p : Pfx) (l : List Rec) : Bat := ⟨p.fBase, p.fLeader, bitAt p.fAttr 3, bitAt p.fAttr 4, bitAt p.fAttr 5, p.fLast, p.fFirst, p.fMax, p.fProducer, p.fEpoch, p.fSequence, l⟩
def pB (a : Bat) (s : Int) : Pfx := ⟨a.fBase, 49 + ((body a).length : Int), a.fLeader, s, ofBits a.fAppend a.fTxn a.fControl, a.fLast, a.fFirst, a.fMax, a.fProducer, a.fEpoch, a.fSequence, (a.fRecords.length : Int)⟩
def sumP (p : Pfx) (s : List UInt8) : Nat := crcM 0 (post21 p ++ s)
def sumB (a : Bat) : Nat := sumP (pB a 0) (body a)
def encB (a : Bat) : List UInt8 := encP (pB a (sumB a)) ++ body a
def okB (a : Bat) : Prop := okP (pB a (sumB a)) ∧ acheck (ofBits a.fAppend a.fTxn a.fControl) = 0 ∧ (∀ x, x ∈ a.fRecords → okRc x) ∧ chk a = 0
def openP (p : Pfx) (s : List UInt8) : Except Int Bat :=
  if acheck p.fAttr = 0 then
    match pRecs p.fCount.toNat s 0 with
    | .error e => .error e
    | .ok (l, r) => if r < s.length then .error 10 else if chk (mkB p l) = 0 then .ok (mkB p l) else .error (chk (mkB p l))
  else .error (acheck p.fAttr)
def pBat : Pr Bat := fun s q =>
  match pPfx s q with
  | .error e => .error e
  | .ok (p, r) => if s.length < r + (p.fLength - 49).toNat then .error 1 else
    if ((sumP p ((s.drop r).take (p.fLength - 49).toNat) : Nat) : Int) = p.fSum then
      match openP p ((s.drop r).take (p.fLength - 49).toNat) with
      | .error e => .error e
      | .ok b => .ok (b, r + (p.fLength - 49).toNat)
    else .error 5
theorem attr_back {n : Int} (h : acheck n = 0) : ofBits (bitAt n 3) (bitAt n 4) (bitAt n 5) = n := by
  have h1 : n % 8 = 0 ∧ 0 ≤ n ∧ n ≤ 63 := by
    unfold acheck at h
    split at h
    · cases h
    · split at h
      · cases h
      · omega
  have h2 : n = 0 ∨ n = 8 ∨ n = 16 ∨ n = 24 ∨ n = 32 ∨ n = 40 ∨ n = 48 ∨ n = 56 := by omega
  rcases h2 with rfl | rfl | rfl | rfl | rfl | rfl | rfl | rfl <;> decide
theorem bits_of : ∀ a b c : Bool, bitAt (ofBits a b c) 3 = a ∧ bitAt (ofBits a b c) 4 = b ∧ bitAt (ofBits a b c) 5 = c := by decide
theorem openP_ok {p : Pfx} {s : List UInt8} {b : Bat} (h : openP p s = .ok b) (h0 : 0 ≤ p.fCount) : acheck p.fAttr = 0 ∧ ∃ l, b = mkB p l ∧ s = encs encRec l ∧ (l.length : Int) = p.fCount ∧ (∀ x, x ∈ l → okRc x) ∧ chk b = 0 := by
  unfold openP at h
  by_cases ha : acheck p.fAttr = 0
  · rw [if_pos ha] at h
    refine ⟨ha, ?_⟩
    cases hr : pRecs p.fCount.toNat s 0 with
    | error e => rw [hr] at h; exact nomatch h
    | ok x =>
      obtain ⟨l, r⟩ := x
      rw [hr] at h
      dsimp only at h
      by_cases hl : r < s.length
      · rw [if_pos hl] at h; exact nomatch h
      rw [if_neg hl] at h
      by_cases hc : chk (mkB p l) = 0
      · rw [if_pos hc] at h
        injection h with h
        subst h
        obtain ⟨b1, b2, b3, b4, b5⟩ := recs_spell _ s 0 l r (Nat.zero_le _) hr
        rw [List.take_of_length_le (by omega), List.take_zero, List.nil_append] at b3
        exact ⟨l, rfl, b3, by omega, b5, hc⟩
      · rw [if_neg hc] at h; exact nomatch h
  · rw [if_neg ha] at h; exact nomatch h
theorem pB_mk {p : Pfx} {l : List Rec} (h1 : (49 : Int) + ((encs encRec l).length : Int) = p.fLength) (h2 : acheck p.fAttr = 0) (h3 : (l.length : Int) = p.fCount) (s : Int) : pB (mkB p l) s = ⟨p.fBase, p.fLength, p.fLeader, s, p.fAttr, p.fLast, p.fFirst, p.fMax, p.fProducer, p.fEpoch, p.fSequence, p.fCount⟩ := by
  unfold pB mkB body
  dsimp only
  rw [h1, h3, attr_back h2]
theorem Sp_bat : Sp pBat encB okB := by
  refine ⟨fun s q b r hq h => ?_, fun s t q a hq ha hd => ?_⟩
  · unfold pBat at h
    cases hp : pPfx s q with
    | error e => rw [hp] at h; exact nomatch h
    | ok x =>
      obtain ⟨p, m⟩ := x
      rw [hp] at h
      dsimp only at h
      obtain ⟨a1, a2, a3, a4, a5, a6, a7, a8⟩ := Sp_pfx.spell s q p m hq hp
      by_cases hl : s.length < m + (p.fLength - 49).toNat
      · rw [if_pos hl] at h; exact nomatch h
      rw [if_neg hl] at h
      by_cases hs : ((sumP p ((s.drop m).take (p.fLength - 49).toNat) : Nat) : Int) = p.fSum
      · rw [if_pos hs] at h
        cases ho : openP p ((s.drop m).take (p.fLength - 49).toNat) with
        | error e => rw [ho] at h; exact nomatch h
        | ok b' =>
          rw [ho] at h
          injection h with h
          obtain ⟨rfl, rfl⟩ := Prod.mk.inj h
          obtain ⟨k1, l, rfl, k3, k4, k5, k6⟩ := openP_ok ho a8
          have hn : ((s.drop m).take (p.fLength - 49).toNat).length = (p.fLength - 49).toNat := by rw [List.length_take, List.length_drop]; omega
          have e1 : (49 : Int) + ((encs encRec l).length : Int) = p.fLength := by rw [← k3, hn]; omega
          have e2 : ((sumB (mkB p l) : Nat) : Int) = p.fSum := by
            rw [← hs, k3]
            unfold sumB
            rw [pB_mk e1 k1 k4]
            rfl
          have e3 : pB (mkB p l) (sumB (mkB p l)) = p := by rw [pB_mk e1 k1 k4, e2]
          have e4 : encB (mkB p l) = encP p ++ (s.drop m).take (p.fLength - 49).toNat := by
            unfold encB
            rw [e3, k3]
            rfl
          have a9 := congrArg List.length a4
          refine ⟨by omega, by omega, ?_, ?_, ?_⟩
          · rw [e4, List.length_append, hn]; omega
          · rw [e4, take_step, a4, List.append_assoc]
          · refine ⟨by rw [e3]; exact ⟨a5, a6, a7, a8⟩, ?_, k5, k6⟩
            show acheck (ofBits (bitAt p.fAttr 3) (bitAt p.fAttr 4) (bitAt p.fAttr 5)) = 0
            rw [attr_back k1]
            exact k1
      · rw [if_neg hs] at h; exact nomatch h
  · obtain ⟨h1, h2, h3, h4⟩ := ha
    unfold encB at hd
    rw [List.append_assoc] at hd
    have hp := Sp_pfx.back s _ q _ hq h1 hd
    have hd2 := drop_step hd
    have hl := congrArg List.length hd
    rw [List.length_drop, List.length_append, List.length_append] at hl
    have hn : ((pB a (sumB a)).fLength - 49).toNat = (body a).length := by
      show ((49 : Int) + ((body a).length : Int) - 49).toNat = _
      omega
    have ht : (s.drop (q + (encP (pB a (sumB a))).length)).take (body a).length = body a := by rw [hd2, List.take_left]
    unfold pBat
    rw [hp]
    dsimp only
    rw [hn, ht, if_neg (by omega), if_pos (show ((sumP (pB a (sumB a)) (body a) : Nat) : Int) = (pB a (sumB a)).fSum from rfl)]
    have hr := recs_back a.fRecords (body a) [] 0 (Nat.zero_le _) h3 (by rw [List.drop_zero, List.append_nil]; rfl)
    have ho : openP (pB a (sumB a)) (body a) = .ok a := by
      unfold openP
      rw [if_pos (show acheck (pB a (sumB a)).fAttr = 0 from h2), show (pB a (sumB a)).fCount.toNat = a.fRecords.length from rfl, hr]
      dsimp only
      obtain ⟨b1, b2, b3⟩ := bits_of a.fAppend a.fTxn a.fControl
      have e : mkB (pB a (sumB a)) a.fRecords = a := by
        unfold mkB pB
        dsimp only
        rw [b1, b2, b3]
      rw [e, if_neg (by show ¬ 0 + (body a).length < _; omega), if_pos h4]
    rw [ho]
    dsimp only
    unfold encB
    rw [List.length_append, Nat.add_assoc]
end Go.Proofs.YtcoppaggpbfcmaaGreat.Sl
namespace Go.Proofs.YtcoppaggpbfcmaaGreat.Sl
open Go.RowKit
set_option linter.unusedVariables false
set_option linter.unusedSimpArgs false
def zBat : Bat := ⟨0, 0, false, false, false, 0, 0, 0, 0, 0, 0, []⟩
def bnR (r : Rec) : Prop := r.fHeaders.length ≤ 1000000 ∧ r.fKey.data.length ≤ 1000000 ∧ r.fValue.data.length ≤ 1000000
def bnB (a : Bat) : Prop := wf_Bat a ∧ a.fRecords.length ≤ 1000000 ∧ ∀ r, r ∈ a.fRecords → bnR r
theorem encs_mem {α : Type} (enc : α → List UInt8) : ∀ (l : List α) (x : α), x ∈ l → (enc x).length ≤ (encs enc l).length
  | y :: l, x, h => by
    rw [encs, List.length_append]
    rcases List.mem_cons.1 h with rfl | h
    · omega
    · have := encs_mem enc l x h
      omega
theorem encs_pos {α : Type} (enc : α → List UInt8) : ∀ (l : List α), (∀ x, x ∈ l → 0 < (enc x).length) → l.length ≤ (encs enc l).length
  | [], _ => Nat.zero_le _
  | y :: l, h => by
    rw [encs, List.length_append, List.length_cons]
    have h1 := h y (.head _)
    have := encs_pos enc l (fun x hx => h x (.tail _ hx))
    omega
theorem encHd_pos (h : Hd) : 0 < (encHd h).length := by
  unfold encHd
  simp only [List.length_append]
  have := vput_pos (vfold (h.fKey.length : Int))
  omega
theorem rec_bounds {x : Rec} (h : okRec x) (hl : (encRec x).length ≤ 1000000) : wf_Rec x ∧ bnR x := by
  obtain ⟨_, h2, h3⟩ := okRec_right h
  have e : (encRec x).length = (vput (vfold ((encBody x).length : Int))).length + (encBody x).length := by unfold encRec; rw [List.length_append]
  have e2 : (encBody x).length ≤ 1000000 := by omega
  simp only [encBody, encBl, encHs, List.length_append, be_length] at e2
  have h4 := encs_pos encHd x.fHeaders (fun y _ => encHd_pos y)
  have hS : ∀ d : List UInt8, d.length ≤ 1000000 → wS d := fun d hd => by unfold wS; omega
  refine ⟨⟨h2, h3, ⟨trivial, hS _ (by omega)⟩, ⟨trivial, hS _ (by omega)⟩, by omega, fun y hy => ?_⟩, by omega, by omega, by omega⟩
  have h5 := encs_mem encHd x.fHeaders y hy
  have h6 : (encHd y).length ≤ 1000000 := by omega
  simp only [encHd, List.length_append] at h6
  exact ⟨hS _ (by omega), trivial, hS _ (by omega)⟩
theorem chk_eq {a : Bat} (h : bnB a) : f_batch_Check a = some (chk a) ∧ f_r11_Check a = some (chk a) := by
  obtain ⟨cr, e0, h1, h2, _⟩ := check_same a h.1 h.2.1 h.2.2
  have e : chk a = chkB a cr e0 := by unfold chk; rw [h1]; rfl
  rw [e]
  exact ⟨h1, h2⟩
theorem fits_8 (n : Int) : fits n 8 = decide (-9223372036854775808 ≤ n ∧ n ≤ 9223372036854775807) := by
  rw [Bool.eq_iff_iff]
  unfold fits
  simp only [Bool.and_eq_true, decide_eq_true_eq]
  have : (2 : Int) ^ (8 * (8 : Int).toNat - 1) = 9223372036854775808 := by decide
  omega
theorem wI8 {n : Int} (h : fits n (8 : Nat) = true) : wI n := by
  have h' : fits n 8 = true := h
  rw [fits_8] at h'
  have h2 := of_decide_eq_true h'
  exact h2
theorem wI4 {n : Int} (h : fits n (4 : Nat) = true) : -2147483648 ≤ n ∧ n ≤ 2147483647 := by
  have h' : fits n 4 = true := h
  rw [fits_4] at h'
  exact of_decide_eq_true h'
theorem wI2 {n : Int} (h : fits n (2 : Nat) = true) : -32768 ≤ n ∧ n ≤ 32767 := by
  have h' : fits n 2 = true := h
  rw [b_fits_2] at h'
  exact of_decide_eq_true h'
theorem mkB_bounds {p : Pfx} (hp : okP p) {l : List Rec} (hl : ∀ x, x ∈ l → okRc x) (hb : (encs encRec l).length ≤ 1000000) : bnB (mkB p l) := by
  obtain ⟨⟨k1, k2, k3, _, k5, k6, k7, k8, k9, k10, k11, k12, k13, _⟩, _, _, _⟩ := hp
  have w4 : ∀ {n : Int}, fits n (4 : Nat) = true → wI n := fun h => by have := wI4 h; unfold wI; omega
  have w2 : ∀ {n : Int}, fits n (2 : Nat) = true → wI n := fun h => by have := wI2 h; unfold wI; omega
  have hr : ∀ x, x ∈ l → wf_Rec x ∧ bnR x := fun x hx => rec_bounds (hl x hx).1 (by have := encs_mem encRec l x hx; omega)
  have h4 := encs_pos encRec l (fun y _ => encRec_pos y)
  exact ⟨⟨wI8 k1, w4 k3, trivial, trivial, trivial, w4 k7, wI8 k8, wI8 k9, wI8 k10, w2 k11, w4 k12, by show l.length ≤ _; omega, fun x hx => (hr x hx).1⟩, by show l.length ≤ _; omega, fun x hx => (hr x hx).2⟩
theorem bopen_l1 (p : Pfx) (hc : p.fCount ≤ 2147483647) (s : List UInt8) (hs : s.length ≤ 1000000) (y : Int) : ∀ (n k fuel : Nat) (acc : List Rec) (q : Nat), ((k + n : Nat) : Int) = p.fCount → n < fuel → q ≤ s.length → acc.length ≤ q →
    (∃ e, pRecs n s q = .error e ∧ e ≠ 0 ∧ f_batch_open_l1 p fuel y k acc ⟨s.drop q, q, 0⟩ = some (.ret (zBat, e))) ∨ (∃ l r, pRecs n s q = .ok (l, r) ∧ q ≤ r ∧ r ≤ s.length ∧ f_batch_open_l1 p fuel y k acc ⟨s.drop q, q, 0⟩ = some (.go (y, k + n, acc ++ l, ⟨s.drop r, r, 0⟩)))
  | 0, k, fuel + 1, acc, q, hk, hf, hq, ha => .inr ⟨[], q, rfl, Nat.le_refl _, hq, by rw [f_batch_open_l1, if_neg (by omega), List.append_nil, Nat.add_zero]⟩
  | n + 1, k, fuel + 1, acc, q, hk, hf, hq, ha => by
    rw [f_batch_open_l1, if_pos (by omega), gLeft_eq, Option.bind_some]
    dsimp only
    rw [List.length_drop, pRecs]
    by_cases hz : q = s.length
    · rw [if_pos (by omega)]
      exact .inl ⟨10, Pr.bind_err (if_pos hz), by decide, rfl⟩
    rw [if_neg (by omega), Pr.bind_of (show pMore s q = .ok ((), q) from if_neg hz)]
    rcases B_rec.run s q hs hq with ⟨e, st, p1, g1, x1, y1⟩ | ⟨b, r, p1, g1, n1, l1⟩
    · rw [g1, Option.bind_some]
      dsimp only
      rw [gErr_eq, Option.bind_some]
      dsimp only
      rw [if_neg y1]
      exact .inl ⟨e, Pr.bind_err p1, by rw [← x1]; exact y1, by rw [x1]; rfl⟩
    · have h3 := (Sp_rec.spell s q b r hq p1).2.2.1
      have h4 := encRec_pos b
      rw [g1, Option.bind_some]
      dsimp only
      rw [gErr_eq, Option.bind_some]
      dsimp only
      rw [if_pos rfl, if_pos (by omega), if_pos (by omega), Pr.bind_of p1]
      rcases bopen_l1 p hc s hs y n (k + 1) fuel (acc ++ [b]) r (by omega) (by omega) l1 (by rw [List.length_append, List.length_singleton]; omega) with ⟨e, q1, q2, q3⟩ | ⟨l, m, q1, q2, q3, q4⟩
      · exact .inl ⟨e, Pr.bind_err q1, q2, q3⟩
      · exact .inr ⟨b :: l, m, by rw [Pr.bind_of q1]; rfl, by omega, q3, by rw [q4, List.append_assoc, show k + 1 + n = k + (n + 1) by omega]; rfl⟩
theorem bopen {p : Pfx} (hp : okP p) (s : List UInt8) (hs : s.length ≤ 1000000) : (∃ e x, openP p s = .error e ∧ e ≠ 0 ∧ f_batch_open p s = some (x, e)) ∨ (∃ b, openP p s = .ok b ∧ f_batch_open p s = some (b, 0)) := by
  obtain ⟨k1, k2, k3, k4⟩ := id hp
  have ha := wI2 k1.2.2.2.2.2.1
  have hc := wI4 k1.2.2.2.2.2.2.2.2.2.2.2.2.1
  try dsimp only at ha
  unfold f_batch_open openP
  rw [gACheck_eq _ (by omega), Option.bind_some]
  by_cases h0 : acheck p.fAttr = 0
  rotate_left
  · rw [if_neg h0, if_neg h0]
    exact .inl ⟨_, _, rfl, h0, rfl⟩
  rw [if_pos h0, if_pos h0, gARead_eq, Option.bind_some]
  dsimp only
  rw [gNew_eq _ (by omega), Option.bind_some]
  rcases bopen_l1 p hc.2 s hs 0 p.fCount.toNat 0 (p.fCount.toNat + 1) [] 0 (by omega) (by omega) (Nat.zero_le _) (Nat.zero_le _) with ⟨e, q1, q2, q3⟩ | ⟨l, m, q1, q2, q3, q4⟩
  · rw [List.drop_zero] at q3
    rw [q3, q1]
    exact .inl ⟨e, _, rfl, q2, rfl⟩
  · rw [List.drop_zero] at q4
    obtain ⟨b1, b2, b3, b4, b5⟩ := recs_spell _ s 0 l m (Nat.zero_le _) q1
    rw [q4, q1, Option.bind_some]
    dsimp only
    rw [gLeft_eq, Option.bind_some]
    dsimp only
    rw [List.length_drop]
    by_cases hl : m < s.length
    · rw [if_pos hl, if_pos (show ((s.length - m : Nat) : Int) > 0 by omega)]
      exact .inl ⟨_, _, rfl, by decide, rfl⟩
    · rw [if_neg hl, if_neg (show ¬ ((s.length - m : Nat) : Int) > 0 by omega)]
      rw [List.take_of_length_le (by omega), List.take_zero, List.nil_append] at b3
      have hB := mkB_bounds hp b5 (by rw [← b3]; exact hs)
      have e : f_batch_Check (⟨p.fBase, p.fLeader, bitAt p.fAttr 3, bitAt p.fAttr 4, bitAt p.fAttr 5, p.fLast, p.fFirst, p.fMax, p.fProducer, p.fEpoch, p.fSequence, [] ++ l⟩ : Bat) = some (chk (mkB p l)) := (chk_eq hB).1
      rw [e, Option.bind_some]
      by_cases hk : chk (mkB p l) = 0
      · rw [if_pos hk, hk]
        exact .inr ⟨_, rfl, rfl⟩
      · rw [if_neg hk]
        exact .inl ⟨_, _, rfl, hk, rfl⟩
theorem B_bat : CB f_batch_Read pBat zBat := by
  refine ⟨fun st h => ?_, fun s q hs hq => ?_⟩
  · unfold f_batch_Read
    rw [B_pfx.dead st h, Option.bind_some]
    dsimp only
    rw [if_pos (by decide), gTake_eq _ _ (by decide), Option.bind_some]
    dsimp only
    have e : itake st ((0 : Int) - 49) = ([], st) := if_pos h
    rw [show zP.fLength = (0 : Int) from rfl, e, gErr_eq, Option.bind_some]
    dsimp only
    rw [if_neg h]
    rfl
  · unfold f_batch_Read pBat
    rcases B_pfx.run s q hs hq with ⟨e, st, p1, g1, x1, y1⟩ | ⟨p, r, p1, g1, n1, l1⟩
    · refine .inl ⟨e, st, by rw [p1], ?_, x1, y1⟩
      rw [g1, Option.bind_some]
      dsimp only
      rw [if_pos (by decide), gTake_eq _ _ (by decide), Option.bind_some]
      dsimp only
      have e : itake st ((0 : Int) - 49) = ([], st) := if_pos y1
      rw [show zP.fLength = (0 : Int) from rfl, e, gErr_eq, Option.bind_some]
      dsimp only
      rw [if_neg y1]
      rfl
    · obtain ⟨a1, a2, a3, a4, ap⟩ := Sp_pfx.spell s q p r hq p1
      obtain ⟨k1, k2, k3, k4⟩ := id ap
      have hL := wI4 k1.2.1
      try dsimp only at hL
      have hT : -9223372036854775808 ≤ p.fLength - 49 ∧ p.fLength - 49 ≤ 9223372036854775807 := by omega
      rw [g1, Option.bind_some, p1]
      dsimp only
      rw [if_pos hT, gTake_eq _ _ hT, Option.bind_some]
      dsimp only
      by_cases hl : s.length < r + (p.fLength - 49).toNat
      · have e : itake ⟨s.drop r, r, 0⟩ (p.fLength - 49) = ([], ⟨s.drop r, r, 1⟩) := by
          unfold itake
          rw [if_neg (by simp), if_neg (by omega), if_pos (by rw [List.length_drop]; omega)]
        rw [if_pos hl, e, gErr_eq, Option.bind_some]
        exact .inl ⟨1, ⟨s.drop r, r, 1⟩, rfl, rfl, rfl, by show (1 : Int) ≠ 0; decide⟩
      have e : itake ⟨s.drop r, r, 0⟩ (p.fLength - 49) = ((s.drop r).take (p.fLength - 49).toNat, ⟨s.drop (r + (p.fLength - 49).toNat), r + (p.fLength - 49).toNat, 0⟩) := by
        unfold itake
        rw [if_neg (by simp), if_neg (by omega), if_neg (by rw [List.length_drop]; omega), List.drop_drop]
      rw [if_neg hl, e, gErr_eq, Option.bind_some]
      dsimp only
      have hn : ((s.drop r).take (p.fLength - 49).toNat).length = (p.fLength - 49).toNat := by rw [List.length_take, List.length_drop]; omega
      generalize (s.drop r).take (p.fLength - 49).toNat = b at hn
      have hlen : (encP p).length = 61 := encP_len k1
      rw [if_pos rfl, write_ok [] ⟨k1, k2⟩ (by decide), Option.bind_some, List.nil_append, gOText_eq, Option.bind_some]
      dsimp only
      rw [otx_z, crc_new, Option.bind_some]
      dsimp only
      rw [if_pos (show 21 ≤ (encP p).length by omega)]
      have hp21 : (post21 p).length ≤ 61 := by rw [← encP_drop p, List.length_drop]; omega
      have hs2 : [post21 p, b].flatten = post21 p ++ b := by simp
      rw [encP_drop, crc_sum [post21 p, b] (by intro t ht; rcases List.mem_cons.1 ht with rfl | ht; omega; rw [List.mem_singleton.1 ht]; omega), Option.bind_some, hs2]
      dsimp only
      have hlt : crcM 0 (post21 p ++ b) < 4294967296 := crcM_lt (by decide) _
      rw [if_pos (show -9223372036854775808 ≤ ((crcM 0 (post21 p ++ b) : Nat) : Int) ∧ ((crcM 0 (post21 p ++ b) : Nat) : Int) ≤ 9223372036854775807 by omega)]
      by_cases hsum : ((sumP p b : Nat) : Int) = p.fSum
      rotate_left
      · rw [if_neg hsum, if_neg (show ¬ ((crcM 0 (post21 p ++ b) : Nat) : Int) = p.fSum from hsum), gIFail_eq, Option.bind_some]
        exact .inl ⟨5, _, rfl, rfl, rfl, by show (5 : Int) ≠ 0; decide⟩
      rw [if_pos hsum, if_pos (show ((crcM 0 (post21 p ++ b) : Nat) : Int) = p.fSum from hsum)]
      rcases bopen ap b (by omega) with ⟨e, x, o1, o2, o3⟩ | ⟨x, o1, o3⟩
      · rw [o1, o3, Option.bind_some]
        dsimp only
        rw [if_neg o2, gIFail_eq, Option.bind_some]
        exact .inl ⟨e, _, rfl, rfl, rfl, o2⟩
      · rw [o1, o3, Option.bind_some]
        dsimp only
        rw [if_pos rfl]
        exact .inr ⟨x, _, rfl, rfl, by omega, by omega⟩
end Go.Proofs.YtcoppaggpbfcmaaGreat.Sl
namespace Go.Proofs.YtcoppaggpbfcmaaGreat.Sl
open Go.RowKit
set_option linter.unusedVariables false
set_option linter.unusedSimpArgs false
theorem firstR_zero : ∀ {l : List Rec}, firstR l = 0 → ∀ r, r ∈ l → rightR r = 0
  | x :: l, h, r, hr => by
    rw [firstR] at h
    by_cases hx : rightR x = 0
    · rw [if_pos hx] at h
      rcases List.mem_cons.1 hr with rfl | hr
      · exact hx
      · exact firstR_zero h r hr
    · rw [if_neg hx] at h
      exact absurd h hx
theorem chk_facts {a : Bat} (h : bnB a) (h0 : chk a = 0) : numOk a ∧ prodOk a ∧ (a.fControl = true → a.fTxn = true ∧ (a.fRecords.length : Int) = 1) ∧ ∀ r, r ∈ a.fRecords → rightR r = 0 := by
  obtain ⟨cr, e0, h1, h2, h3, h4⟩ := check_same a h.1 h.2.1 h.2.2
  have e : chk a = chkB a cr e0 := by unfold chk; rw [h1]; rfl
  rw [e] at h0
  unfold chkB at h0
  by_cases hn : numOk a
  rotate_left
  · rw [if_neg hn] at h0; exact absurd h0 (by decide)
  rw [if_pos hn] at h0
  by_cases hc : a.fControl = true
  · rw [if_pos hc] at h0
    by_cases ht : a.fTxn = true
    rotate_left
    · rw [if_neg ht] at h0; exact absurd h0 (by decide)
    rw [if_pos ht] at h0
    by_cases hp : prodOk a
    rotate_left
    · rw [if_neg hp] at h0; exact absurd h0 (by decide)
    rw [if_pos hp] at h0
    by_cases hl : (a.fRecords.length : Int) = 1
    rotate_left
    · rw [if_neg hl] at h0; exact absurd h0 (by decide)
    rw [if_pos hl] at h0
    by_cases hf : firstR a.fRecords = 0
    rotate_left
    · rw [if_neg hf] at h0; exact absurd h0 hf
    exact ⟨hn, hp, fun _ => ⟨ht, hl⟩, firstR_zero hf⟩
  · rw [if_neg hc] at h0
    by_cases hp : prodOk a
    rotate_left
    · rw [if_neg hp] at h0; exact absurd h0 (by decide)
    rw [if_pos hp] at h0
    by_cases hf : firstR a.fRecords = 0
    rotate_left
    · rw [if_neg hf] at h0; exact absurd h0 hf
    exact ⟨hn, hp, fun h => absurd h hc, firstR_zero hf⟩
theorem attr_ok : ∀ a t c : Bool, (c = true → t = true) → acheck (ofBits a t c) = 0 := by decide
theorem ofBits_le : ∀ a t c : Bool, 0 ≤ ofBits a t c ∧ ofBits a t c ≤ 56 := by decide
theorem fits8 {n : Int} (h : wI n) : fits n (8 : Nat) = true := by
  show fits n 8 = true
  rw [fits_8]
  exact decide_eq_true h
theorem fits4 {n : Int} (h : -2147483648 ≤ n ∧ n ≤ 2147483647) : fits n (4 : Nat) = true := by
  show fits n 4 = true
  rw [fits_4]
  exact decide_eq_true h
theorem fits2 {n : Int} (h : -32768 ≤ n ∧ n ≤ 32767) : fits n (2 : Nat) = true := by
  show fits n 2 = true
  rw [b_fits_2]
  exact decide_eq_true h
def smB (a : Bat) : Prop := bnB a ∧ (∀ r, r ∈ a.fRecords → rwt r ≤ 900000) ∧ (body a).length ≤ 900000
theorem prod_rng {a : Bat} (h : prodOk a) : (-32768 ≤ a.fEpoch ∧ a.fEpoch ≤ 32767) ∧ (-2147483648 ≤ a.fSequence ∧ a.fSequence ≤ 2147483647) := by
  unfold prodOk at h
  split at h
  · omega
  · split at h <;> omega
theorem okP_pB {a : Bat} (hb : smB a) (h0 : chk a = 0) (s : Nat) (hs : s < 4294967296) : okP (pB a s) := by
  obtain ⟨hn, hp, hc, hr⟩ := chk_facts hb.1 h0
  obtain ⟨n1, n2, n3, n4, n5, n6⟩ := hn
  obtain ⟨w1, w2, _, _, _, w6, w7, w8, w9, w10, w11, w12⟩ := hb.1.1
  obtain ⟨p1, p2⟩ := prod_rng hp
  have hl := hb.2.2
  have hcount := hb.1.2.1
  have ha := ofBits_le a.fAppend a.fTxn a.fControl
  have hs2 : -2147483648 ≤ s32 (s : Int) ∧ s32 (s : Int) ≤ 2147483647 := by unfold s32; split <;> omega
  refine ⟨⟨fits8 w1, fits4 ⟨?_, ?_⟩, fits4 ⟨?_, ?_⟩, rfl, fits4 hs2, fits2 ⟨?_, ?_⟩, fits4 ⟨?_, ?_⟩, fits8 w7, fits8 w8, fits8 w9, fits2 p1, fits4 p2, fits4 ⟨?_, ?_⟩, trivial⟩, ⟨?_, ?_⟩, ?_, ?_⟩
  all_goals (try unfold pB) <;> (try dsimp only) <;> omega
theorem sumB_lt (a : Bat) : sumB a < 4294967296 := crcM_lt (by decide) _
theorem okB_of {a : Bat} (hb : smB a) (h0 : chk a = 0) : okB a := by
  obtain ⟨hn, hp, hc, hr⟩ := chk_facts hb.1 h0
  refine ⟨okP_pB hb h0 _ (sumB_lt a), attr_ok _ _ _ (fun h => (hc h).1), fun x hx => ?_, h0⟩
  exact okRec_of (hb.1.1.2.2.2.2.2.2.2.2.2.2.2.2 x hx).1 (hr x hx) (hb.2.1 x hx)
theorem encB_len {a : Bat} (h : okB a) : (encB a).length = 61 + (body a).length := by
  unfold encB
  rw [List.length_append, encP_len h.1.1]
theorem benc_l1 : ∀ (l : List Rec) (t : List UInt8), (∀ x, x ∈ l → wI x.fTime ∧ wI x.fOffset ∧ rwt x ≤ 900000 ∧ rightR x = 0) → t.length + (encs encRec l).length ≤ 1000000 → f_batch_Encode_l1 l (t, 0) = some (t ++ encs encRec l, 0)
  | [], t, _, _ => by rw [encs, List.append_nil]; rfl
  | x :: l, t, h, hl => by
    obtain ⟨h1, h2, h3, h4⟩ := h x (.head _)
    rw [encs, List.length_append] at hl
    rw [f_batch_Encode_l1, rec_write x t h1 h2 h3 (by omega), if_pos h4, Option.bind_some, benc_l1 l _ (fun y hy => h y (.tail _ hy)) (by rw [List.length_append]; omega), encs, List.append_assoc]
theorem benc {a : Bat} (hb : smB a) : f_batch_Encode a = some (if chk a = 0 then (encB a, 0) else ([], chk a)) := by
  unfold f_batch_Encode
  rw [(chk_eq hb.1).1, Option.bind_some]
  by_cases h0 : chk a = 0
  rotate_left
  · rw [if_neg h0, if_neg h0]
  obtain ⟨hn, hp, hc, hr⟩ := chk_facts hb.1 h0
  have hl := hb.2.2
  have hw : ∀ x, x ∈ a.fRecords → wI x.fTime ∧ wI x.fOffset ∧ rwt x ≤ 900000 ∧ rightR x = 0 := fun x hx => ⟨(hb.1.1.2.2.2.2.2.2.2.2.2.2.2.2 x hx).1, (hb.1.1.2.2.2.2.2.2.2.2.2.2.2.2 x hx).2.1, hb.2.1 x hx, hr x hx⟩
  have hlb : (encs encRec a.fRecords).length ≤ 900000 := hl
  rw [if_pos h0, if_pos h0, benc_l1 a.fRecords [] hw (by rw [List.length_nil]; omega), Option.bind_some, List.nil_append, gOText_eq, Option.bind_some]
  dsimp only
  rw [otx_z]
  dsimp only
  rw [if_pos (show -9223372036854775808 ≤ (49 + ((encs encRec a.fRecords).length : Int)) ∧ (49 + ((encs encRec a.fRecords).length : Int)) ≤ 9223372036854775807 by omega), gAOf_eq, Option.bind_some]
  have hP0 : okP (pB a 0) := okP_pB hb h0 0 (by decide)
  have e0 : f_prefix_Write ([], 0) (pB a 0) = some (encP (pB a 0), 0) := by
    have := write_ok [] (p := pB a 0) ⟨hP0.1, hP0.2.1⟩ (by decide)
    rwa [List.nil_append] at this
  have e0' : f_prefix_Write ([], 0) (⟨a.fBase, (49 + ((encs encRec a.fRecords).length : Int)), a.fLeader, 0, ofBits a.fAppend a.fTxn a.fControl, a.fLast, a.fFirst, a.fMax, a.fProducer, a.fEpoch, a.fSequence, (a.fRecords.length : Int)⟩ : Pfx) = some (encP (pB a 0), 0) := e0
  rw [e0', Option.bind_some, gOText_eq, Option.bind_some]
  dsimp only
  rw [otx_z]
  dsimp only
  rw [if_pos rfl, if_pos rfl, Option.bind_some, if_neg (by decide), crc_new, Option.bind_some]
  have hp61 := encP_len hP0.1
  have hp21 : (post21 (pB a 0)).length ≤ 61 := by rw [← encP_drop, List.length_drop]; omega
  have hs2 : [post21 (pB a 0), encs encRec a.fRecords].flatten = post21 (pB a 0) ++ encs encRec a.fRecords := by simp
  rw [if_pos (show 21 ≤ (encP (pB a 0)).length by omega), encP_drop, crc_sum [post21 (pB a 0), encs encRec a.fRecords] (by intro t ht; rcases List.mem_cons.1 ht with rfl | ht; omega; rw [List.mem_singleton.1 ht]; omega), Option.bind_some, hs2]
  dsimp only
  have hlt := sumB_lt a
  have hsum : crcM 0 (post21 (pB a 0) ++ encs encRec a.fRecords) = sumB a := rfl
  rw [hsum, if_pos (show -9223372036854775808 ≤ ((sumB a : Nat) : Int) ∧ ((sumB a : Nat) : Int) ≤ 9223372036854775807 by omega)]
  have hP := okP_pB hb h0 _ hlt
  have e1 : f_prefix_Write ([], 0) (⟨a.fBase, (49 + ((encs encRec a.fRecords).length : Int)), a.fLeader, ((sumB a : Nat) : Int), ofBits a.fAppend a.fTxn a.fControl, a.fLast, a.fFirst, a.fMax, a.fProducer, a.fEpoch, a.fSequence, (a.fRecords.length : Int)⟩ : Pfx) = some (encP (pB a (sumB a)), 0) := by
    have := write_ok [] (p := pB a (sumB a)) ⟨hP.1, hP.2.1⟩ (by decide)
    rwa [List.nil_append] at this
  have hp61' := encP_len hP.1
  rw [e1, Option.bind_some, gOPut_eq _ _ (by dsimp only; omega), oput_z, Option.bind_some, gOText_eq, Option.bind_some]
  dsimp only
  rw [otx_z]
  rfl
theorem r11a_eq (a : Bat) : f_r11_attributes a = some (ofBits a.fAppend a.fTxn a.fControl) := by
  unfold f_r11_attributes
  generalize a.fAppend = x
  generalize a.fTxn = y
  generalize a.fControl = z
  cases x <;> cases y <;> cases z <;> decide
theorem r11e_l1 (a : Bat) (hb : a.fRecords.length ≤ 1000000) : ∀ (l : List Rec) (t : List UInt8) (k fuel : Nat), a.fRecords.drop k = l → l.length < fuel → (∀ x, x ∈ l → wI x.fTime ∧ wI x.fOffset ∧ rwt x ≤ 900000) → t.length + (encs encRec l).length ≤ 1000000 → ∃ z, f_r11_Encode_l1 a fuel t k = some (t ++ encs encRec l, z)
  | [], t, k, fuel + 1, h, hf, _, _ => by
    have := b_nil_drop h
    exact ⟨k, by rw [f_r11_Encode_l1, if_neg (by omega), encs, List.append_nil]⟩
  | x :: l, t, k, fuel + 1, h, hf, hw, hl => by
    obtain ⟨g1, g2, g3⟩ := b_at_drop h
    obtain ⟨h1, h2, h3⟩ := hw x (.head _)
    rw [encs, List.length_append] at hl
    rw [List.length_cons] at hf
    obtain ⟨z, hz⟩ := r11e_l1 a hb l (t ++ encRec x) (k + 1) fuel g2 (by omega) (fun y hy => hw y (.tail _ hy)) (by rw [List.length_append]; omega)
    exact ⟨z, by rw [f_r11_Encode_l1, if_pos (by omega), g1, Option.bind_some, r07_write x h1 h2 h3, Option.bind_some, if_pos (by omega), if_pos (by omega), hz, encs, List.append_assoc]⟩
theorem r11enc {a : Bat} (hb : smB a) (h0 : chk a = 0) : f_r11_Encode a = some (encB a) := by
  obtain ⟨hn, hp, hc, hr⟩ := chk_facts hb.1 h0
  have hl := hb.2.2
  have hlb : (encs encRec a.fRecords).length ≤ 900000 := hl
  have hw : ∀ x, x ∈ a.fRecords → wI x.fTime ∧ wI x.fOffset ∧ rwt x ≤ 900000 := fun x hx => ⟨(hb.1.1.2.2.2.2.2.2.2.2.2.2.2.2 x hx).1, (hb.1.1.2.2.2.2.2.2.2.2.2.2.2.2 x hx).2.1, hb.2.1 x hx⟩
  obtain ⟨z, hz⟩ := r11e_l1 a hb.1.2.1 a.fRecords [] 0 (((a.fRecords.length : Int)).toNat + 1) rfl (by omega) hw (by rw [List.length_nil]; omega)
  rw [List.nil_append] at hz
  have hN : -9223372036854775808 ≤ (49 + ((encs encRec a.fRecords).length : Int)) ∧ (49 + ((encs encRec a.fRecords).length : Int)) ≤ 9223372036854775807 := by omega
  have wP_of : ∀ s : Nat, s < 4294967296 → wP (pB a s) := fun s hs => by
    obtain ⟨w1, w2, _, _, _, w6, w7, w8, w9, w10, w11, w12⟩ := hb.1.1
    have ha := ofBits_le a.fAppend a.fTxn a.fControl
    have hcount := hb.1.2.1
    refine ⟨w1, ⟨?_, ?_⟩, w2, ⟨?_, ?_⟩, ⟨?_, ?_⟩, w6, w7, w8, w9, w10, w11, ⟨?_, ?_⟩⟩
    all_goals (try unfold pB) <;> (try dsimp only) <;> (try unfold body) <;> omega
  have hP0 : okP (pB a 0) := okP_pB hb h0 0 (by decide)
  have hlt := sumB_lt a
  have hP := okP_pB hb h0 _ hlt
  have b0 := r10_bytes (pB a 0) (wP_of 0 (by decide))
  rw [if_pos ⟨hP0.1, hP0.2.1⟩] at b0
  have b1 := r10_bytes (pB a (sumB a)) (wP_of _ hlt)
  rw [if_pos ⟨hP.1, hP.2.1⟩] at b1
  have b0' : f_r10_Bytes [a.fBase, (49 + ((encs encRec a.fRecords).length : Int)), a.fLeader, 0, ofBits a.fAppend a.fTxn a.fControl, a.fLast, a.fFirst, a.fMax, a.fProducer, a.fEpoch, a.fSequence, (a.fRecords.length : Int)] = some (encP (pB a 0), true) := b0
  have b1' : f_r10_Bytes [a.fBase, (49 + ((encs encRec a.fRecords).length : Int)), a.fLeader, ((sumB a : Nat) : Int), ofBits a.fAppend a.fTxn a.fControl, a.fLast, a.fFirst, a.fMax, a.fProducer, a.fEpoch, a.fSequence, (a.fRecords.length : Int)] = some (encP (pB a (sumB a)), true) := b1
  have hp61 := encP_len hP0.1
  have hp61' := encP_len hP.1
  have hp21 : (post21 (pB a 0)).length ≤ 61 := by rw [← encP_drop, List.length_drop]; omega
  have hsum : crcM 0 (post21 (pB a 0) ++ encs encRec a.fRecords) = sumB a := rfl
  unfold f_r11_Encode
  rw [hz, Option.bind_some]
  dsimp only
  rw [if_pos hN, r11a_eq, Option.bind_some, b0', Option.bind_some]
  dsimp only
  rw [if_pos (show 21 ≤ (encP (pB a 0)).length by omega), encP_drop, if_pos (by omega), r05_sum _ (by rw [List.length_append]; omega), Option.bind_some, hsum, if_pos (show -9223372036854775808 ≤ ((sumB a : Nat) : Int) ∧ ((sumB a : Nat) : Int) ≤ 9223372036854775807 by omega), if_pos hN, Option.bind_some, b1', Option.bind_some]
  dsimp only
  rw [if_pos (by omega)]
  rfl
def sameRs : List Rec → List Rec → Bool
  | x :: l, y :: m => sameR x y && sameRs l m
  | _, _ => true
def sameB (a b : Bat) : Bool := decide (a.fBase = b.fBase ∧ a.fLeader = b.fLeader ∧ a.fAppend = b.fAppend ∧ a.fTxn = b.fTxn ∧ a.fControl = b.fControl ∧ a.fLast = b.fLast ∧ a.fFirst = b.fFirst ∧ a.fMax = b.fMax ∧ a.fProducer = b.fProducer ∧ a.fEpoch = b.fEpoch ∧ a.fSequence = b.fSequence ∧ a.fRecords.length = b.fRecords.length) && sameRs a.fRecords b.fRecords
theorem sameRs_refl : ∀ l : List Rec, sameRs l l = true
  | [] => rfl
  | x :: l => by rw [sameRs, sameR_refl, sameRs_refl l]; rfl
theorem sameB_refl (a : Bat) : sameB a a = true := by
  unfold sameB
  rw [sameRs_refl]
  simp
theorem r11s_l1 (a b : Bat) (hn : a.fRecords.length ≤ 1000000) (y : Bool) : ∀ (l m : List Rec) (k fuel : Nat), a.fRecords.drop k = l → b.fRecords.drop k = m → l.length = m.length → l.length < fuel → (∀ x, x ∈ l → x.fHeaders.length ≤ 1000000) → ∃ z, f_r11_Same_l1 a b fuel y k = some (if sameRs l m = true then .go (y, z) else .ret false)
  | [], m, k, fuel + 1, h1, h2, hl, hf, _ => by
    have := b_nil_drop h1
    exact ⟨k, by rw [f_r11_Same_l1, if_neg (by omega)]; rfl⟩
  | x :: l, v :: m, k, fuel + 1, h1, h2, hl, hf, hw => by
    obtain ⟨g1, g2, g3⟩ := b_at_drop h1
    obtain ⟨k1, k2, k3⟩ := b_at_drop h2
    rw [List.length_cons] at hf
    rw [List.length_cons, List.length_cons] at hl
    obtain ⟨z, hz⟩ := r11s_l1 a b hn y l m (k + 1) fuel g2 k2 (by omega) (by omega) (fun u hu => hw u (.tail _ hu))
    refine ⟨z, ?_⟩
    rw [f_r11_Same_l1, if_pos (by omega), g1, Option.bind_some, k1, Option.bind_some, r07_same x v (hw x (.head _)), Option.bind_some, sameRs, if_pos (show -9223372036854775808 ≤ (k : Int) + 1 ∧ (k : Int) + 1 ≤ 9223372036854775807 by omega), hz]
    cases sameR x v <;> rfl
theorem r11_same {a b : Bat} (hn : a.fRecords.length ≤ 1000000) (hw : ∀ x, x ∈ a.fRecords → x.fHeaders.length ≤ 1000000) : f_r11_Same a b = some (sameB a b) := by
  have hL : ∀ o : Option Bool, o = some (sameB a b) ∨ True := fun _ => .inr trivial
  unfold f_r11_Same sameB
  by_cases c1 : a.fBase = b.fBase
  rotate_left
  · rw [if_neg c1, Option.bind_some, if_pos rfl, decide_eq_false (fun h => c1 h.1)]; rfl
  by_cases c2 : a.fLeader = b.fLeader
  rotate_left
  · rw [if_pos c1, if_neg c2, Option.bind_some, if_pos rfl, decide_eq_false (fun h => c2 h.2.1)]; rfl
  by_cases c3 : a.fAppend = b.fAppend
  rotate_left
  · rw [if_pos c1, if_pos c2, if_neg (by simpa using c3), Option.bind_some, if_pos rfl, decide_eq_false (fun h => c3 h.2.2.1)]; rfl
  by_cases c4 : a.fTxn = b.fTxn
  rotate_left
  · rw [if_pos c1, if_pos c2, if_pos (by simpa using c3), if_neg (by simpa using c4), Option.bind_some, if_pos rfl, decide_eq_false (fun h => c4 h.2.2.2.1)]; rfl
  by_cases c5 : a.fControl = b.fControl
  rotate_left
  · rw [if_pos c1, if_pos c2, if_pos (by simpa using c3), if_pos (by simpa using c4), if_neg (by simpa using c5), Option.bind_some, if_pos rfl, decide_eq_false (fun h => c5 h.2.2.2.2.1)]; rfl
  rw [if_pos c1, if_pos c2, if_pos (by simpa using c3), if_pos (by simpa using c4), if_pos (by simpa using c5)]
  by_cases c6 : a.fLast = b.fLast
  rotate_left
  · rw [if_neg c6, Option.bind_some, if_pos rfl, decide_eq_false (fun h => c6 h.2.2.2.2.2.1)]; rfl
  by_cases c7 : a.fFirst = b.fFirst
  rotate_left
  · rw [if_pos c6, if_neg c7, Option.bind_some, if_pos rfl, decide_eq_false (fun h => c7 h.2.2.2.2.2.2.1)]; rfl
  by_cases c8 : a.fMax = b.fMax
  rotate_left
  · rw [if_pos c6, if_pos c7, if_neg c8, Option.bind_some, if_pos rfl, decide_eq_false (fun h => c8 h.2.2.2.2.2.2.2.1)]; rfl
  by_cases c9 : a.fProducer = b.fProducer
  rotate_left
  · rw [if_pos c6, if_pos c7, if_pos c8, if_neg c9, Option.bind_some, if_pos rfl, decide_eq_false (fun h => c9 h.2.2.2.2.2.2.2.2.1)]; rfl
  by_cases c10 : a.fEpoch = b.fEpoch
  rotate_left
  · rw [if_pos c6, if_pos c7, if_pos c8, if_pos c9, if_neg c10, Option.bind_some, if_pos rfl, decide_eq_false (fun h => c10 h.2.2.2.2.2.2.2.2.2.1)]; rfl
  by_cases c11 : a.fSequence = b.fSequence
  rotate_left
  · rw [if_pos c6, if_pos c7, if_pos c8, if_pos c9, if_pos c10, if_neg c11, Option.bind_some, if_pos rfl, decide_eq_false (fun h => c11 h.2.2.2.2.2.2.2.2.2.2.1)]; rfl
  by_cases c12 : a.fRecords.length = b.fRecords.length
  rotate_left
  · rw [if_pos c6, if_pos c7, if_pos c8, if_pos c9, if_pos c10, if_pos c11, if_neg (by omega), Option.bind_some, if_pos rfl, decide_eq_false (fun h => c12 h.2.2.2.2.2.2.2.2.2.2.2)]; rfl
  obtain ⟨z, hz⟩ := r11s_l1 a b hn false a.fRecords b.fRecords 0 (((a.fRecords.length : Int)).toNat + 1) rfl rfl c12 (by omega) hw
  rw [if_pos c6, if_pos c7, if_pos c8, if_pos c9, if_pos c10, if_pos c11, if_pos (by omega), Option.bind_some, if_neg (by decide), hz, decide_eq_true ⟨c1, c2, c3, c4, c5, c6, c7, c8, c9, c10, c11, c12⟩, Bool.true_and]
  cases sameRs a.fRecords b.fRecords <;> rfl
end Go.Proofs.YtcoppaggpbfcmaaGreat.Sl
namespace Go.Proofs.YtcoppaggpbfcmaaGreat.Sl
open Go.RowKit
set_option linter.unusedVariables false
set_option linter.unusedSimpArgs false
theorem bnB_small {a : Bat} (hw : wf_Bat a) (h1 : a.fRecords.length ≤ 12) (h2 : ∀ r, r ∈ a.fRecords → r.fKey.data.length + r.fValue.data.length ≤ 100 ∧ r.fHeaders.length ≤ 6 ∧ ∀ h, h ∈ r.fHeaders → h.fKey.length + h.fValue.data.length ≤ 100) : bnB a :=
  ⟨hw, by omega, fun r hr => by have := h2 r hr; exact ⟨by omega, by omega, by omega⟩⟩
theorem hwts_le : ∀ (l : List Hd), (∀ h, h ∈ l → h.fKey.length + h.fValue.data.length ≤ 100) → hwts l ≤ 120 * l.length
  | [], _ => Nat.zero_le _
  | x :: l, h => by
    have h1 := h x (.head _)
    have h2 := hwts_le l (fun y hy => h y (.tail _ hy))
    rw [hwts, hwt, List.length_cons]
    omega
theorem encs_le {α : Type} (enc : α → List UInt8) (n : Nat) : ∀ (l : List α), (∀ x, x ∈ l → (enc x).length ≤ n) → (encs enc l).length ≤ n * l.length
  | [], _ => Nat.zero_le _
  | x :: l, h => by
    have h1 := h x (.head _)
    have h2 := encs_le enc n l (fun y hy => h y (.tail _ hy))
    rw [encs, List.length_append, List.length_cons, Nat.mul_succ]
    omega
theorem smB_small {a : Bat} (hw : wf_Bat a) (h1 : a.fRecords.length ≤ 12) (h2 : ∀ r, r ∈ a.fRecords → r.fKey.data.length + r.fValue.data.length ≤ 100 ∧ r.fHeaders.length ≤ 6 ∧ ∀ h, h ∈ r.fHeaders → h.fKey.length + h.fValue.data.length ≤ 100) : smB a ∧ (body a).length ≤ 12000 := by
  have hr : ∀ r, r ∈ a.fRecords → rwt r ≤ 900 := fun r hr => by
    obtain ⟨k1, k2, k3⟩ := h2 r hr
    have := hwts_le r.fHeaders k3
    unfold rwt
    omega
  have hl : (body a).length ≤ 12000 := by
    have h3 := encs_le encRec 1000 a.fRecords (fun x hx => by
      have h4 := hw.2.2.2.2.2.2.2.2.2.2.2.2 x hx
      have h5 := hr x hx
      have := encRec_len x h4.1 h4.2.1 (by omega)
      omega)
    unfold body
    omega
  exact ⟨⟨bnB_small hw h1 h2, fun r hr2 => by have := hr r hr2; omega, by omega⟩, hl⟩
theorem decode_enc {a : Bat} (ha : okB a) (hl : (encB a).length ≤ 1000000) : f_batch_Decode (encB a) = some (a, 0) := by
  unfold f_batch_Decode
  rw [gNew_eq _ (by omega), Option.bind_some, B_bat.whole Sp_bat hl ha, Option.bind_some]
  dsimp only
  rw [gClose_z, Option.bind_some]
  rfl
end Go.Proofs.YtcoppaggpbfcmaaGreat.Sl
namespace Go.Proofs.YtcoppaggpbfcmaaGreat.Sl
open Go.RowKit
set_option linter.unusedVariables false
set_option linter.unusedSimpArgs false
set_option maxRecDepth 100000
def ft_marker : FTab := [(23, 0, 0), (23, 1, 1), (23, 2, 2), (23, 3, 3), (23, 4, 4), (27, 4, 4), (27, 6, 6), (27, 8, 8), (27, 9, 9), (27, 11, 11), (38, 0, 0)]
theorem ft_marker_ok : (ft_marker).OK Tryz.prog := ⟨FOK.mk Tryz.runUnderlying23 rfl Tryz.sizeOf3 rfl, FOK.mk Tryz.runUnderlying23 rfl Tryz.sizeOf3 rfl, FOK.mk Tryz.runUnderlying23 rfl Tryz.sizeOf3 rfl, FOK.mk Tryz.runUnderlying23 rfl Tryz.sizeOf3 rfl, FOK.mk Tryz.runUnderlying23 rfl Tryz.sizeOf3 rfl, FOK.mk Tryz.runUnderlying27 rfl Tryz.sizeOf4 rfl, FOK.mk Tryz.runUnderlying27 rfl Tryz.sizeOf3 rfl, FOK.mk Tryz.runUnderlying27 rfl Tryz.sizeOf3 rfl, FOK.mk Tryz.runUnderlying27 rfl Tryz.sizeOf3 rfl, FOK.mk Tryz.runUnderlying27 rfl Tryz.sizeOf25 rfl, FOK.mk Tryz.runUnderlying38 rfl Tryz.sizeOf3 rfl, trivial⟩
theorem mix_marker : Tryz.prog.follows .mixedOrders = true := by kernel_rfl
theorem bok_marker_23 : BOK Tryz.prog 23 #[.int .i64 0, .int .i64 0, .int .i64 0, .int .i64 0, .int .i64 0] [(0, 1), (1, 1), (2, 1), (3, 1), (4, 1)] := BOK.mk Tryz.zeroValue23 Tryz.runUnderlying23 (by intro w; simp)
theorem bok_marker_27 : BOK Tryz.prog 27 #[.int .i64 0, .int .i64 0, .bool false, .bool false, .bool false, .int .i64 0, .int .i64 0, .int .i64 0, .int .i64 0, .int .i64 0, .int .i64 0, .slice none 0 0] [(0, 1), (1, 1), (2, 1), (3, 1), (4, 1), (5, 1), (6, 1), (7, 1), (8, 1), (9, 1), (10, 1), (11, 1)] := BOK.mk Tryz.zeroValue27 Tryz.runUnderlying27 (by intro w; simp)
theorem sok_marker_25_1 : SOK Tryz.prog 25 38 1 7 #[.int .i64 0, .int .i64 0, .bool false, .string ⟨#[]⟩, .bool false, .string ⟨#[]⟩, .slice none 0 0] := SOK.mk Tryz.runUnderlying25 Tryz.sizeOf38 Tryz.zeroValue38 (by decide) (by kernel_rfl)
def f_marker_Batch (a0 : Int) (a1 : Int) (a2 : MarkerEnd) : Option (Bat × Int) := (f_control_Record a2.fKind a2.fCoordinator).bind fun (x3, x6) => if x6 = 0 then ((f_batch_Check (⟨a0, a1, false, true, true, 0, a2.fTime, a2.fTime, a2.fProducer, a2.fEpoch, -1, [x3]⟩ : Bat)).bind fun x12 => if x12 = 0 then (some ((⟨a0, a1, false, true, true, 0, a2.fTime, a2.fTime, a2.fProducer, a2.fEpoch, -1, [x3]⟩ : Bat), 0)) else (some ((⟨0, 0, false, false, false, 0, 0, 0, 0, 0, 0, []⟩ : Bat), x12))) else (some ((⟨0, 0, false, false, false, 0, 0, 0, 0, 0, 0, []⟩ : Bat), x6))
set_option maxRecDepth 100000 in
set_option maxHeartbeats 4000000 in
theorem f_marker_Batch_spec (a0 : Int) (a1 : Int) (a2 : MarkerEnd) (r : Bat × Int) (h : f_marker_Batch a0 a1 a2 = some r) : SpecX Tryz.prog 8 #[.int .i64 a0, .int .i64 a1, .agg #[.int .i64 a2.fProducer, .int .i64 a2.fEpoch, .int .i64 a2.fKind, .int .i64 a2.fTime, .int .i64 a2.fCoordinator]] .triv (EmpR) (fun v A' N => ∃ (A15 : Option Addr) (c16 : Nat), v = .tuple #[.agg #[.int .i64 r.1.fBase, .int .i64 r.1.fLeader, .bool r.1.fAppend, .bool r.1.fTxn, .bool r.1.fControl, .int .i64 r.1.fLast, .int .i64 r.1.fFirst, .int .i64 r.1.fMax, .int .i64 r.1.fProducer, .int .i64 r.1.fEpoch, .int .i64 r.1.fSequence, .slice A15 r.1.fRecords.length c16], .int .i64 r.2] ∧ A' = EmpR ∧ N = [RdR (sliceRd 7 Rec_rd) [.slice A15 r.1.fRecords.length c16] r.1.fRecords]) := by
  refine enterA Tryz.func8 rfl Tryz.ntmps8 rfl ?_
  intro F w hX
  unfold f_marker_Batch at h
  refine T.seq (T.region rfl ?_)
  refine TL.box rfl .u rfl rfl (fun b1 => ?_)
  refine TL.alloc rfl .u Tryz.zeroValue27 rfl (fun b2 => ?_)
  refine TL.run ft_marker_ok [2] rfl rfl ?_
  refine TL.nil (X.seq (T.seq (T.region rfl ?_)))
  refine TL.run ft_marker_ok [0] rfl rfl ?_
  refine TL.q rfl .u (Ex.b1 1 rfl Tryz.isAgg3 rfl rfl) rfl ?_
  refine TL.run ft_marker_ok [2] rfl rfl ?_
  refine TL.q rfl .u (Ex.b1 1 rfl Tryz.isAgg3 rfl rfl) rfl ?_
  obtain ⟨⟨x3, x6⟩, hx7, h⟩ := Option.bind_eq_some_iff.1 h
  try dsimp only at h
  refine TL.cge rfl .u (.fn Tryz.call39 rfl) (f_control_Record_spec a2.fKind a2.fCoordinator _ hx7) (fun _ hs => (RX.reads_triv _ _)) rfl ?_
  rintro _ _ _ ⟨A4, c5, rfl, rfl, rfl⟩
  refine TL.sel [0, 0, 0, 0] rfl ?_
  refine TL.run ft_marker_ok [5, 6, 7] rfl rfl ?_
  refine TL.alloc rfl .u Tryz.zeroValue38 rfl (fun b8 => ?_)
  refine TL.st0 (cs' := #[.int .i64 x3.fTime, .int .i64 x3.fOffset, .bool x3.fKey.null, .string (bsOf x3.fKey.data), .bool x3.fValue.null, .string (bsOf x3.fValue.data), .slice A4 x3.fHeaders.length c5]) rfl .u rfl rfl Tryz.sizeOf38 rfl rfl rfl rfl ?_
  refine TL.run ft_marker_ok [10] rfl rfl ?_
  refine TL.nil (X.seq (T.seq (T.seq (T.region rfl ?_))))
  refine TL.run ft_marker_ok [0, 1] rfl rfl ?_
  by_cases c9 : x6 = 0
  · replace h := ifT c9 h
    refine TL.nil (X.seq ?_)
    refine T.no rfl (bn_f (decide_eq_true c9)) ?_
    refine T.skip (X.seq (T.seq (T.region rfl ?_)))
    refine TL.run ft_marker_ok [0, 1, 2] rfl rfl ?_
    refine TL.q rfl .u (Ex.b1 3 rfl Tryz.isAgg3 rfl rfl) rfl ?_
    refine TL.run ft_marker_ok [4] rfl rfl ?_
    refine TL.q rfl .u (Ex.b1 3 rfl Tryz.isAgg3 rfl rfl) rfl ?_
    refine TL.run ft_marker_ok [6] rfl rfl ?_
    refine TL.q rfl .u (Ex.b1 3 rfl Tryz.isAgg3 rfl rfl) rfl ?_
    refine TL.run ft_marker_ok [8] rfl rfl ?_
    refine TL.q rfl .u (Ex.b1 3 rfl Tryz.isAgg3 rfl rfl) rfl ?_
    refine TL.q rfl .u (Ex.bS (us := [.int .i64 x3.fTime, .int .i64 x3.fOffset, .bool x3.fKey.null, .string (bsOf x3.fKey.data), .bool x3.fValue.null, .string (bsOf x3.fValue.data), .slice A4 x3.fHeaders.length c5]) 0 rfl Tryz.isAgg38 Tryz.sizeOf38 rfl rfl rfl) rfl ?_
    refine TL.lit (cells := #[.int .i64 x3.fTime, .int .i64 x3.fOffset, .bool x3.fKey.null, .string (bsOf x3.fKey.data), .bool x3.fValue.null, .string (bsOf x3.fValue.data), .slice A4 x3.fHeaders.length c5]) rfl .u sok_marker_25_1 rfl (by kernel_rfl) rfl (fun b10 => ?_)
    refine TL.rowOf2 (us := [.int .i64 x3.fTime, .int .i64 x3.fOffset, .bool x3.fKey.null, .string (bsOf x3.fKey.data), .bool x3.fValue.null, .string (bsOf x3.fValue.data), .slice A4 x3.fHeaders.length c5]) (xs := [x3]) (E := Rec_rd) (z := 7) 1 rfl rfl (Nat.le_of_ble_eq_true rfl) (fun w G hG => ⟨rfl, ⟨_, _, rfl, hG.1⟩, rfl⟩) ?_
    refine TL.sel [0, 0, 0, 0, 0] rfl ?_
    refine TL.q rfl .u (Ex.bld (cells := #[.int .i64 a0, .int .i64 a1, .bool false, .bool true, .bool true, .int .i64 0, .int .i64 a2.fTime, .int .i64 a2.fTime, .int .i64 a2.fProducer, .int .i64 a2.fEpoch, .int .i64 (-1), .slice (some ⟨b10, 0, none⟩) 1 1]) bok_marker_27 rfl (by kernel_rfl)) rfl ?_
    refine TL.alloc rfl .u Tryz.zeroValue27 rfl (fun b11 => ?_)
    refine TL.st0 (cs' := #[.int .i64 a0, .int .i64 a1, .bool false, .bool true, .bool true, .int .i64 0, .int .i64 a2.fTime, .int .i64 a2.fTime, .int .i64 a2.fProducer, .int .i64 a2.fEpoch, .int .i64 (-1), .slice (some ⟨b10, 0, none⟩) 1 1]) rfl .u rfl rfl Tryz.sizeOf27 rfl rfl rfl rfl ?_
    refine TL.nil (X.seq (T.seq (T.seq (T.region rfl ?_))))
    refine TL.q rfl .u (Ex.bS (us := [.int .i64 a0, .int .i64 a1, .bool false, .bool true, .bool true, .int .i64 0, .int .i64 a2.fTime, .int .i64 a2.fTime, .int .i64 a2.fProducer, .int .i64 a2.fEpoch, .int .i64 (-1), .slice (some ⟨b10, 0, none⟩) 1 1]) 0 rfl Tryz.isAgg27 Tryz.sizeOf27 rfl rfl rfl) rfl ?_
    obtain ⟨x12, hx13, h⟩ := Option.bind_eq_some_iff.1 h
    refine TL.ce rfl .u (.fn Tryz.call40 rfl) (f_batch_Check_spec (⟨a0, a1, false, true, true, 0, a2.fTime, a2.fTime, a2.fProducer, a2.fEpoch, -1, [x3]⟩ : Bat) _ _ _ hx13) (fun _ hs => (SrcE.res 1 hs rfl (fun w G h => own_reads (by decide) w G h))) rfl ?_
    refine TL.run ft_marker_ok [2] rfl rfl ?_
    refine TL.nil (X.seq (T.seq (T.region rfl ?_)))
    refine TL.run ft_marker_ok [0, 1] rfl rfl ?_
    by_cases c14 : x12 = 0
    · replace h := ifT c14 h
      refine TL.nil (X.seq ?_)
      refine T.no rfl (bn_f (decide_eq_true c14)) ?_
      refine T.skip (X.seq (T.seq (T.region rfl ?_)))
      refine TL.q rfl .u (Ex.bS (us := [.int .i64 a0, .int .i64 a1, .bool false, .bool true, .bool true, .int .i64 0, .int .i64 a2.fTime, .int .i64 a2.fTime, .int .i64 a2.fProducer, .int .i64 a2.fEpoch, .int .i64 (-1), .slice (some ⟨b10, 0, none⟩) 1 1]) 0 rfl Tryz.isAgg27 Tryz.sizeOf27 rfl rfl rfl) rfl ?_
      refine TL.st3 (cs' := #[.int .i64 a0, .int .i64 a1, .bool false, .bool true, .bool true, .int .i64 0, .int .i64 a2.fTime, .int .i64 a2.fTime, .int .i64 a2.fProducer, .int .i64 a2.fEpoch, .int .i64 (-1), .slice (some ⟨b10, 0, none⟩) 1 1]) rfl .u rfl rfl Tryz.sizeOf27 rfl rfl rfl rfl ?_
      refine TL.run ft_marker_ok [2] rfl rfl ?_
      obtain rfl := Option.some.inj h
      refine TL.nil (X.seq (T.ret ?_))
      refine X.shut (by decide) 1 rfl ?_
      refine X.sel [0, 0, 0, 0, 0, 0] rfl ?_
      exact X.done2 [5, 1] Tryz.results8 (RV.cS (us := #[.int .i64 a0, .int .i64 a1, .bool false, .bool true, .bool true, .int .i64 0, .int .i64 a2.fTime, .int .i64 a2.fTime, .int .i64 a2.fProducer, .int .i64 a2.fEpoch, .int .i64 (-1), .slice (some ⟨b10, 0, none⟩) 1 1]) 3 rfl Tryz.isAgg27 Tryz.sizeOf27 rfl rfl) (RV.tm rfl) ⟨_, _, rfl, rfl, rfl⟩ (by rfl) (.inl rfl)
    · replace h := ifF c14 h
      refine TL.nil (X.seq ?_)
      refine T.yes rfl (bn_t (decide_eq_false c14)) ?_
      refine T.seq (T.region rfl ?_)
      refine TL.q rfl .u (Ex.bld (cells := #[.int .i64 0, .int .i64 0, .bool false, .bool false, .bool false, .int .i64 0, .int .i64 0, .int .i64 0, .int .i64 0, .int .i64 0, .int .i64 0, .slice none 0 0]) bok_marker_27 rfl (by kernel_rfl)) rfl ?_
      refine TL.run ft_marker_ok [1] rfl rfl ?_
      refine TL.st3 (cs' := #[.int .i64 0, .int .i64 0, .bool false, .bool false, .bool false, .int .i64 0, .int .i64 0, .int .i64 0, .int .i64 0, .int .i64 0, .int .i64 0, .slice none 0 0]) rfl .u rfl rfl Tryz.sizeOf27 rfl rfl rfl rfl ?_
      refine TL.run ft_marker_ok [3] rfl rfl ?_
      obtain rfl := Option.some.inj h
      refine TL.nil (X.seq (T.ret (X.rs ?_)))
      refine X.nilrd 7 Rec_rd ?_
      exact X.done2 [6, 0] Tryz.results8 (RV.cS (us := #[.int .i64 0, .int .i64 0, .bool false, .bool false, .bool false, .int .i64 0, .int .i64 0, .int .i64 0, .int .i64 0, .int .i64 0, .int .i64 0, .slice none 0 0]) 4 rfl Tryz.isAgg27 Tryz.sizeOf27 rfl rfl) (RV.tm rfl) ⟨_, _, rfl, rfl, rfl⟩ (by rfl) (.inl rfl)
  · replace h := ifF c9 h
    refine TL.nil (X.seq ?_)
    refine T.yes rfl (bn_t (decide_eq_false c9)) ?_
    refine T.seq (T.region rfl ?_)
    refine TL.q rfl .u (Ex.bld (cells := #[.int .i64 0, .int .i64 0, .bool false, .bool false, .bool false, .int .i64 0, .int .i64 0, .int .i64 0, .int .i64 0, .int .i64 0, .int .i64 0, .slice none 0 0]) bok_marker_27 rfl (by kernel_rfl)) rfl ?_
    refine TL.run ft_marker_ok [1] rfl rfl ?_
    refine TL.st2 (cs' := #[.int .i64 0, .int .i64 0, .bool false, .bool false, .bool false, .int .i64 0, .int .i64 0, .int .i64 0, .int .i64 0, .int .i64 0, .int .i64 0, .slice none 0 0]) rfl .u rfl rfl Tryz.sizeOf27 rfl rfl rfl rfl ?_
    refine TL.run ft_marker_ok [3] rfl rfl ?_
    obtain rfl := Option.some.inj h
    refine TL.nil (X.seq (T.ret (X.rs ?_)))
    refine X.nilrd 7 Rec_rd ?_
    exact X.done2 [5, 0] Tryz.results8 (RV.cS (us := #[.int .i64 0, .int .i64 0, .bool false, .bool false, .bool false, .int .i64 0, .int .i64 0, .int .i64 0, .int .i64 0, .int .i64 0, .int .i64 0, .slice none 0 0]) 3 rfl Tryz.isAgg27 Tryz.sizeOf27 rfl rfl) (RV.tm rfl) ⟨_, _, rfl, rfl, rfl⟩ (by rfl) (.inl rfl)
def f_marker_Read (a0 : Bat) : Option (MarkerEnd × Bool) := (f_batch_Check a0).bind fun x5 => if x5 = 0 then (if a0.fControl = true then ((a0.fRecords[0]?).bind fun x9 => (f_control_Read x9).bind fun (x15, x16, x17) => if -9223372036854775808 ≤ (a0.fFirst + x9.fTime) ∧ (a0.fFirst + x9.fTime) ≤ 9223372036854775807 then (some ((⟨a0.fProducer, a0.fEpoch, x15, (a0.fFirst + x9.fTime), x16⟩ : MarkerEnd), true)) else none) else (some ((⟨0, 0, 0, 0, 0⟩ : MarkerEnd), false))) else (some ((⟨0, 0, 0, 0, 0⟩ : MarkerEnd), false))
set_option maxRecDepth 100000 in
set_option maxHeartbeats 4000000 in
theorem f_marker_Read_spec (a0 : Bat) (A1 : Option Addr) (c2 : Nat) (r : MarkerEnd × Bool) (h : f_marker_Read a0 = some r) : SpecX Tryz.prog 15 #[.agg #[.int .i64 a0.fBase, .int .i64 a0.fLeader, .bool a0.fAppend, .bool a0.fTxn, .bool a0.fControl, .int .i64 a0.fLast, .int .i64 a0.fFirst, .int .i64 a0.fMax, .int .i64 a0.fProducer, .int .i64 a0.fEpoch, .int .i64 a0.fSequence, .slice A1 a0.fRecords.length c2]] (RX.of (sliceRd 7 Rec_rd) [.slice A1 a0.fRecords.length c2] a0.fRecords) (EmpR) (fun v A' N => v = .tuple #[.agg #[.int .i64 r.1.fProducer, .int .i64 r.1.fEpoch, .int .i64 r.1.fKind, .int .i64 r.1.fTime, .int .i64 r.1.fCoordinator], .bool r.2] ∧ A' = EmpR ∧ N = []) := by
  refine enterA Tryz.func15 rfl Tryz.ntmps15 rfl ?_
  intro F w hX
  unfold f_marker_Read at h
  refine T.seq (T.region rfl ?_)
  refine TL.box rfl .u rfl rfl (fun b3 => ?_)
  refine TL.alloc rfl .u Tryz.zeroValue23 rfl (fun b4 => ?_)
  refine TL.run ft_marker_ok [2] rfl rfl ?_
  refine TL.nil (X.seq (T.seq (T.seq (T.region rfl ?_))))
  refine TL.q rfl .u (Ex.bS (us := [.int .i64 a0.fBase, .int .i64 a0.fLeader, .bool a0.fAppend, .bool a0.fTxn, .bool a0.fControl, .int .i64 a0.fLast, .int .i64 a0.fFirst, .int .i64 a0.fMax, .int .i64 a0.fProducer, .int .i64 a0.fEpoch, .int .i64 a0.fSequence, .slice A1 a0.fRecords.length c2]) 1 rfl Tryz.isAgg27 Tryz.sizeOf27 rfl rfl rfl) rfl ?_
  obtain ⟨x5, hx6, h⟩ := Option.bind_eq_some_iff.1 h
  refine TL.ce rfl .u (.fn Tryz.call40 rfl) (f_batch_Check_spec a0 _ _ _ hx6) (fun _ hs => (SrcE.old hs hX)) rfl ?_
  by_cases c7 : x5 = 0
  · replace h := ifT c7 h
    refine TL.run ft_marker_ok [2, 3] rfl rfl ?_
    refine TL.q rfl (.g rfl rfl (bn_f (decide_eq_true c7))) (Ex.ft ft_marker_ok rfl) rfl ?_
    refine TL.q rfl (.g rfl rfl (bn_f (decide_eq_true c7))) (Ex.b1 1 rfl Tryz.isAgg4 rfl rfl) rfl ?_
    refine TL.q rfl (.g rfl rfl (bn_f (decide_eq_true c7))) (Ex.ft ft_marker_ok rfl) rfl ?_
    refine TL.q rfl .u (Ex.pn rfl (bn_f (decide_eq_true c7)) rfl) rfl ?_
    by_cases c8 : a0.fControl = true
    · replace h := ifT c8 h
      refine TL.nil (X.seq ?_)
      refine T.no rfl (bn_f c8) ?_
      refine T.skip (X.seq (T.seq (T.region rfl ?_)))
      refine TL.run ft_marker_ok [0] rfl rfl ?_
      refine TL.q rfl .u (Ex.b1 1 rfl Tryz.isAgg25 rfl rfl) rfl ?_
      obtain ⟨x9, hx10, h⟩ := Option.bind_eq_some_iff.1 h
      obtain ⟨gz11, oz11, rfl, z11cs, z11cl, z11cc, z11nf, z11r⟩ := RX.elem (by decide) hX hx10
      obtain ⟨z11S, z11r, z11rr⟩ := z11r
      obtain ⟨A12, c13, rfl, z11s0⟩ := z11r
      have hX14 : (RX.of (sliceRd 3 Hd_rd) [.slice A12 x9.fHeaders.length c13] x9.fHeaders).reads w F := ⟨z11S, z11s0, z11rr⟩
      refine TL.q rfl .u (Ex.ixS (k := 0) rfl rfl rfl Tryz.runUnderlying25 Tryz.sizeOf38 (List.getElem?_eq_some_iff.1 hx10).1) rfl ?_
      refine TL.q rfl .u (Ex.oS (us := [.int .i64 x9.fTime, .int .i64 x9.fOffset, .bool x9.fKey.null, .string (bsOf x9.fKey.data), .bool x9.fValue.null, .string (bsOf x9.fValue.data), .slice A12 x9.fHeaders.length c13]) 0 rfl Tryz.isAgg38 Tryz.sizeOf38 z11nf z11cc rfl rfl rfl) rfl ?_
      obtain ⟨⟨x15, x16, x17⟩, hx18, h⟩ := Option.bind_eq_some_iff.1 h
      try dsimp only at h
      refine TL.ce rfl .u (.fn Tryz.call50 rfl) (f_control_Read_spec x9 _ _ _ hx18) (fun _ hs => (SrcE.old hs hX14)) rfl ?_
      refine TL.run ft_marker_ok [5, 6, 7, 8, 9, 10, 11] rfl rfl ?_
      refine TL.nil (X.seq (T.seq (T.draw (.q 0 (.q 1 (.q 2 (.q 3 (.q 4 (.q 5 (.q 6 (.q 7 (.q 8 (.q 9 (.q 10 (.q 11 (.q 12 (.q 13 (.q 14 (.e 15 (.q 16 .nil))))))))))))))))) [1, 1] rfl mix_marker (NoP.seq np_post) (by kernel_rfl) ?_)))
      refine TD.run ft_marker_ok [0] rfl rfl ?_
      refine TD.q rfl .u (Ex.b1 0 rfl Tryz.isAgg3 rfl rfl) rfl ?_
      refine TD.run ft_marker_ok [2] rfl rfl ?_
      refine TD.q rfl .u (Ex.b1 0 rfl Tryz.isAgg3 rfl rfl) rfl ?_
      refine TD.run ft_marker_ok [4, 5] rfl rfl ?_
      refine TD.q rfl .u (Ex.b1 0 rfl Tryz.isAgg3 rfl rfl) rfl ?_
      refine TD.run ft_marker_ok [7] rfl rfl ?_
      refine TD.q rfl .u (Ex.b1 0 rfl Tryz.isAgg25 rfl rfl) rfl ?_
      refine TD.q rfl .u (Ex.ixS (k := 0) rfl rfl rfl Tryz.runUnderlying25 Tryz.sizeOf38 (List.getElem?_eq_some_iff.1 hx10).1) rfl ?_
      refine TD.run ft_marker_ok [10] rfl rfl ?_
      refine TD.q rfl .u (Ex.o1 0 rfl Tryz.isAgg3 z11nf z11cc rfl rfl) rfl ?_
      replace h := guard_some h
      obtain ⟨c19, h⟩ := h
      refine TD.q rfl .u (Ex.add rfl rfl c19) rfl ?_
      refine TD.run ft_marker_ok [13] rfl rfl ?_
      refine TD.q rfl .u (Ex.bld (cells := #[.int .i64 a0.fProducer, .int .i64 a0.fEpoch, .int .i64 x15, .int .i64 (a0.fFirst + x9.fTime), .int .i64 x16]) bok_marker_23 rfl (by kernel_rfl)) rfl ?_
      refine TD.st0 (cs' := #[.int .i64 a0.fProducer, .int .i64 a0.fEpoch, .int .i64 x15, .int .i64 (a0.fFirst + x9.fTime), .int .i64 x16]) rfl .u rfl rfl Tryz.sizeOf23 rfl rfl rfl rfl [1, 1] (rfl) ?_
      refine TD.run ft_marker_ok [16] rfl rfl ?_
      obtain rfl := Option.some.inj h
      exact TD.nil (X.seq (T.ret (X.done2 [2] Tryz.results15 (RV.cS (us := #[.int .i64 a0.fProducer, .int .i64 a0.fEpoch, .int .i64 x15, .int .i64 (a0.fFirst + x9.fTime), .int .i64 x16]) 0 rfl Tryz.isAgg23 Tryz.sizeOf23 rfl rfl) (RV.tm rfl) ⟨rfl, rfl, rfl⟩ (by rfl) (.inl rfl))))
    · replace h := ifF c8 h
      replace c8 := eq_false_of_ne_true c8
      refine TL.nil (X.seq ?_)
      refine T.yes rfl (bn_t c8) ?_
      refine T.seq (T.region rfl ?_)
      refine TL.q rfl .u (Ex.bld (cells := #[.int .i64 0, .int .i64 0, .int .i64 0, .int .i64 0, .int .i64 0]) bok_marker_23 rfl (by kernel_rfl)) rfl ?_
      refine TL.st0 (cs' := #[.int .i64 0, .int .i64 0, .int .i64 0, .int .i64 0, .int .i64 0]) rfl .u rfl rfl Tryz.sizeOf23 rfl rfl rfl rfl ?_
      refine TL.run ft_marker_ok [2] rfl rfl ?_
      obtain rfl := Option.some.inj h
      exact TL.nil (X.seq (T.ret (X.rs (X.done2 [2] Tryz.results15 (RV.cS (us := #[.int .i64 0, .int .i64 0, .int .i64 0, .int .i64 0, .int .i64 0]) 0 rfl Tryz.isAgg23 Tryz.sizeOf23 rfl rfl) (RV.tm rfl) ⟨rfl, rfl, rfl⟩ (by rfl) (.inl rfl)))))
  · replace h := ifF c7 h
    refine TL.run ft_marker_ok [2, 3] rfl rfl ?_
    refine TL.no rfl (.gn rfl rfl (bn_t (decide_eq_false c7))) rfl ?_
    refine TL.no rfl (.gn rfl rfl (bn_t (decide_eq_false c7))) rfl ?_
    refine TL.no rfl (.gn rfl rfl (bn_t (decide_eq_false c7))) rfl ?_
    refine TL.q rfl .u (Ex.py rfl (bn_t (decide_eq_false c7)) rfl) rfl ?_
    refine TL.nil (X.seq ?_)
    refine T.yes rfl rfl ?_
    refine T.seq (T.region rfl ?_)
    refine TL.q rfl .u (Ex.bld (cells := #[.int .i64 0, .int .i64 0, .int .i64 0, .int .i64 0, .int .i64 0]) bok_marker_23 rfl (by kernel_rfl)) rfl ?_
    refine TL.st0 (cs' := #[.int .i64 0, .int .i64 0, .int .i64 0, .int .i64 0, .int .i64 0]) rfl .u rfl rfl Tryz.sizeOf23 rfl rfl rfl rfl ?_
    refine TL.run ft_marker_ok [2] rfl rfl ?_
    obtain rfl := Option.some.inj h
    exact TL.nil (X.seq (T.ret (X.rs (X.done2 [2] Tryz.results15 (RV.cS (us := #[.int .i64 0, .int .i64 0, .int .i64 0, .int .i64 0, .int .i64 0]) 0 rfl Tryz.isAgg23 Tryz.sizeOf23 rfl rfl) (RV.tm rfl) ⟨rfl, rfl, rfl⟩ (by rfl) (.inl rfl)))))
def f_marker_Encode (a0 : Int) (a1 : Int) (a2 : MarkerEnd) : Option (List UInt8 × Int) := (f_marker_Batch a0 a1 a2).bind fun (x2, x5) => if x5 = 0 then ((f_batch_Encode x2).bind fun (x9, x10) => some (x9, x10)) else some ([], x5)
set_option maxRecDepth 100000 in
set_option maxHeartbeats 4000000 in
theorem f_marker_Encode_spec (a0 : Int) (a1 : Int) (a2 : MarkerEnd) (r : List UInt8 × Int) (h : f_marker_Encode a0 a1 a2 = some r) : SpecX Tryz.prog 9 #[.int .i64 a0, .int .i64 a1, .agg #[.int .i64 a2.fProducer, .int .i64 a2.fEpoch, .int .i64 a2.fKind, .int .i64 a2.fTime, .int .i64 a2.fCoordinator]] .triv (EmpR) (fun v A' N => v = .tuple #[.string (bsOf r.1), .int .i64 r.2] ∧ A' = EmpR ∧ N = []) := by
  refine enterA Tryz.func9 rfl Tryz.ntmps9 rfl ?_
  intro F w hX
  unfold f_marker_Encode at h
  refine T.seq (T.region rfl ?_)
  refine TL.box rfl .u rfl rfl (fun b1 => ?_)
  refine TL.run ft_marker_ok [1, 2] rfl rfl ?_
  refine TL.nil (X.seq (T.seq (T.region rfl ?_)))
  refine TL.run ft_marker_ok [0, 1] rfl rfl ?_
  refine TL.q rfl .u (Ex.bS (us := [.int .i64 a2.fProducer, .int .i64 a2.fEpoch, .int .i64 a2.fKind, .int .i64 a2.fTime, .int .i64 a2.fCoordinator]) 0 rfl Tryz.isAgg23 Tryz.sizeOf23 rfl rfl rfl) rfl ?_
  obtain ⟨⟨x2, x5⟩, hx6, h⟩ := Option.bind_eq_some_iff.1 h
  try dsimp only at h
  refine TL.cge rfl .u (.fn Tryz.call8 rfl) (f_marker_Batch_spec a0 a1 a2 _ hx6) (fun _ hs => (RX.reads_triv _ _)) rfl ?_
  rintro _ _ _ ⟨A3, c4, rfl, rfl, rfl⟩
  refine TL.sel [0, 0, 0] rfl ?_
  refine TL.run ft_marker_ok [4, 5, 6] rfl rfl ?_
  refine TL.alloc rfl .u Tryz.zeroValue27 rfl (fun b7 => ?_)
  refine TL.st0 (cs' := #[.int .i64 x2.fBase, .int .i64 x2.fLeader, .bool x2.fAppend, .bool x2.fTxn, .bool x2.fControl, .int .i64 x2.fLast, .int .i64 x2.fFirst, .int .i64 x2.fMax, .int .i64 x2.fProducer, .int .i64 x2.fEpoch, .int .i64 x2.fSequence, .slice A3 x2.fRecords.length c4]) rfl .u rfl rfl Tryz.sizeOf27 rfl rfl rfl rfl ?_
  refine TL.run ft_marker_ok [9] rfl rfl ?_
  refine TL.nil (X.seq (T.seq (T.seq (T.region rfl ?_))))
  refine TL.run ft_marker_ok [0, 1] rfl rfl ?_
  by_cases c8 : x5 = 0
  · replace h := ifT c8 h
    refine TL.nil (X.seq ?_)
    refine T.no rfl (bn_f (decide_eq_true c8)) ?_
    refine T.skip (X.seq (T.seq (T.region rfl ?_)))
    refine TL.q rfl .u (Ex.bS (us := [.int .i64 x2.fBase, .int .i64 x2.fLeader, .bool x2.fAppend, .bool x2.fTxn, .bool x2.fControl, .int .i64 x2.fLast, .int .i64 x2.fFirst, .int .i64 x2.fMax, .int .i64 x2.fProducer, .int .i64 x2.fEpoch, .int .i64 x2.fSequence, .slice A3 x2.fRecords.length c4]) 0 rfl Tryz.isAgg27 Tryz.sizeOf27 rfl rfl rfl) rfl ?_
    obtain ⟨⟨x9, x10⟩, hx11, h⟩ := Option.bind_eq_some_iff.1 h
    try dsimp only at h
    refine TL.ce rfl .u (.fn Tryz.call41 rfl) (f_batch_Encode_spec x2 _ _ _ hx11) (fun _ hs => (SrcE.res 1 hs rfl (fun w G h => rd_reads w G h))) rfl ?_
    refine TL.run ft_marker_ok [2, 3, 4, 5] rfl rfl ?_
    obtain rfl := Option.some.inj h
    exact TL.nil (X.seq (T.ret (X.done2 [3] Tryz.results9 (RV.tm rfl) (RV.tm rfl) ⟨rfl, rfl, rfl⟩ (by rfl) (.inl rfl))))
  · replace h := ifF c8 h
    refine TL.nil (X.seq ?_)
    refine T.yes rfl (bn_t (decide_eq_false c8)) ?_
    refine T.seq (T.region rfl ?_)
    refine TL.run ft_marker_ok [0, 1, 2] rfl rfl ?_
    obtain rfl := Option.some.inj h
    exact TL.nil (X.seq (T.ret (X.rs (X.done2 [3] Tryz.results9 (RV.tm rfl) (RV.tm rfl) ⟨rfl, rfl, rfl⟩ (by rfl) (.inl rfl)))))
end Go.Proofs.YtcoppaggpbfcmaaGreat.Sl
namespace Go.Proofs.YtcoppaggpbfcmaaGreat.Sl
open Go.RowKit
set_option linter.unusedVariables false
set_option linter.unusedSimpArgs false
set_option maxRecDepth 100000
def ft_cursitorlaw12 : FTab := [(23, 0, 0), (23, 1, 1), (23, 2, 2), (23, 3, 3), (23, 4, 4), (27, 4, 4), (27, 11, 11)]
theorem ft_cursitorlaw12_ok : (ft_cursitorlaw12).OK Tryz.prog := ⟨FOK.mk Tryz.runUnderlying23 rfl Tryz.sizeOf3 rfl, FOK.mk Tryz.runUnderlying23 rfl Tryz.sizeOf3 rfl, FOK.mk Tryz.runUnderlying23 rfl Tryz.sizeOf3 rfl, FOK.mk Tryz.runUnderlying23 rfl Tryz.sizeOf3 rfl, FOK.mk Tryz.runUnderlying23 rfl Tryz.sizeOf3 rfl, FOK.mk Tryz.runUnderlying27 rfl Tryz.sizeOf4 rfl, FOK.mk Tryz.runUnderlying27 rfl Tryz.sizeOf25 rfl, trivial⟩
theorem mix_cursitorlaw12 : Tryz.prog.follows .mixedOrders = true := by kernel_rfl
theorem flat_cursitorlaw12_23 : Flat Tryz.prog 2 23 [.int .i64, .int .i64, .int .i64, .int .i64, .int .i64] true := (Flat.struct Tryz.isAgg23 Tryz.sizeOf23 rfl Tryz.underlying23 Tryz.stoodInHeld23 ⟨by decide, rfl, [.int .i64], [.int .i64, .int .i64, .int .i64, .int .i64], false, rfl, (Flat.one_ Tryz.isAgg3 Tryz.sizeOf3 Tryz.underlying3), ⟨by decide, rfl, [.int .i64], [.int .i64, .int .i64, .int .i64], false, rfl, (Flat.one_ Tryz.isAgg3 Tryz.sizeOf3 Tryz.underlying3), ⟨by decide, rfl, [.int .i64], [.int .i64, .int .i64], false, rfl, (Flat.one_ Tryz.isAgg3 Tryz.sizeOf3 Tryz.underlying3), ⟨by decide, rfl, [.int .i64], [.int .i64], false, rfl, (Flat.one_ Tryz.isAgg3 Tryz.sizeOf3 Tryz.underlying3), ⟨by decide, rfl, [.int .i64], [], false, rfl, (Flat.one_ Tryz.isAgg3 Tryz.sizeOf3 Tryz.underlying3), rfl⟩⟩⟩⟩⟩)
theorem bok_cursitorlaw12_23 : BOK Tryz.prog 23 #[.int .i64 0, .int .i64 0, .int .i64 0, .int .i64 0, .int .i64 0] [(0, 1), (1, 1), (2, 1), (3, 1), (4, 1)] := BOK.mk Tryz.zeroValue23 Tryz.runUnderlying23 (by intro w; simp)
theorem bok_cursitorlaw12_27 : BOK Tryz.prog 27 #[.int .i64 0, .int .i64 0, .bool false, .bool false, .bool false, .int .i64 0, .int .i64 0, .int .i64 0, .int .i64 0, .int .i64 0, .int .i64 0, .slice none 0 0] [(0, 1), (1, 1), (2, 1), (3, 1), (4, 1), (5, 1), (6, 1), (7, 1), (8, 1), (9, 1), (10, 1), (11, 1)] := BOK.mk Tryz.zeroValue27 Tryz.runUnderlying27 (by intro w; simp)
theorem bok_cursitorlaw12_35 : BOK Tryz.prog 35 #[.bool false, .string ⟨#[]⟩] [(0, 1), (1, 1)] := BOK.mk Tryz.zeroValue35 Tryz.runUnderlying35 (by intro w; simp)
theorem bok_cursitorlaw12_38 : BOK Tryz.prog 38 #[.int .i64 0, .int .i64 0, .bool false, .string ⟨#[]⟩, .bool false, .string ⟨#[]⟩, .slice none 0 0] [(0, 1), (1, 1), (2, 2), (4, 2), (6, 1)] := BOK.mk Tryz.zeroValue38 Tryz.runUnderlying38 (by intro w; simp)
theorem sok_cursitorlaw12_25_1 : SOK Tryz.prog 25 38 1 7 #[.int .i64 0, .int .i64 0, .bool false, .string ⟨#[]⟩, .bool false, .string ⟨#[]⟩, .slice none 0 0] := SOK.mk Tryz.runUnderlying25 Tryz.sizeOf38 Tryz.zeroValue38 (by decide) (by kernel_rfl)
def f_l12_speaks  : Option (Bool) := (f_marker_Batch 3 (-1) (⟨7, 0, 1, 5, 0⟩ : MarkerEnd)).bind fun (x1, x4) => (f_marker_Read x1).bind fun (x7, x8) => (f_marker_Batch 3 (-1) (⟨0, 0, 2, 0, 0⟩ : MarkerEnd)).bind fun (x11, x14) => if x4 = 0 then (if (x1.fRecords.length : Int) = 1 then (if x1.fControl = true then (if x8 = true then (if x7.fProducer = 7 then (if x7.fEpoch = 0 then (if x7.fKind = 1 then (if x7.fTime = 5 then (if x7.fCoordinator = 0 then (if x14 = 12 then some true else some false) else some false) else some false) else some false) else some false) else some false) else some false) else some false) else some false) else some false
set_option maxRecDepth 100000 in
set_option maxHeartbeats 4000000 in
theorem f_l12_speaks_spec  (r : Bool) (h : f_l12_speaks  = some r) : SpecX Tryz.prog 7 #[] .triv (EmpR) (fun v A' N => v = .bool r ∧ A' = EmpR ∧ N = []) := by
  refine enterA Tryz.func7 rfl Tryz.ntmps7 rfl ?_
  intro F w hX
  unfold f_l12_speaks at h
  refine T.seq (T.region rfl ?_)
  refine TL.run ft_cursitorlaw12_ok [0] rfl rfl ?_
  refine TL.nil (X.seq (T.seq (T.region rfl ?_)))
  refine TL.q rfl .u (Ex.bld (cells := #[.int .i64 7, .int .i64 0, .int .i64 1, .int .i64 5, .int .i64 0]) bok_cursitorlaw12_23 rfl (by kernel_rfl)) rfl ?_
  obtain ⟨⟨x1, x4⟩, hx5, h⟩ := Option.bind_eq_some_iff.1 h
  try dsimp only at h
  refine TL.cge rfl .u (.fn Tryz.call8 rfl) (f_marker_Batch_spec 3 (-1) (⟨7, 0, 1, 5, 0⟩ : MarkerEnd) _ hx5) (fun _ hs => (RX.reads_triv _ _)) rfl ?_
  rintro _ _ _ ⟨A2, c3, rfl, rfl, rfl⟩
  refine TL.sel [0, 0] rfl ?_
  refine TL.run ft_cursitorlaw12_ok [2, 3, 4] rfl rfl ?_
  refine TL.alloc rfl .u Tryz.zeroValue27 rfl (fun b6 => ?_)
  refine TL.st0 (cs' := #[.int .i64 x1.fBase, .int .i64 x1.fLeader, .bool x1.fAppend, .bool x1.fTxn, .bool x1.fControl, .int .i64 x1.fLast, .int .i64 x1.fFirst, .int .i64 x1.fMax, .int .i64 x1.fProducer, .int .i64 x1.fEpoch, .int .i64 x1.fSequence, .slice A2 x1.fRecords.length c3]) rfl .u rfl rfl Tryz.sizeOf27 rfl rfl rfl rfl ?_
  refine TL.run ft_cursitorlaw12_ok [7] rfl rfl ?_
  refine TL.nil (X.seq (T.seq (T.region rfl ?_)))
  refine TL.q rfl .u (Ex.bS (us := [.int .i64 x1.fBase, .int .i64 x1.fLeader, .bool x1.fAppend, .bool x1.fTxn, .bool x1.fControl, .int .i64 x1.fLast, .int .i64 x1.fFirst, .int .i64 x1.fMax, .int .i64 x1.fProducer, .int .i64 x1.fEpoch, .int .i64 x1.fSequence, .slice A2 x1.fRecords.length c3]) 0 rfl Tryz.isAgg27 Tryz.sizeOf27 rfl rfl rfl) rfl ?_
  obtain ⟨⟨x7, x8⟩, hx9, h⟩ := Option.bind_eq_some_iff.1 h
  try dsimp only at h
  refine TL.ce rfl .u (.fn Tryz.call15 rfl) (f_marker_Read_spec x1 _ _ _ hx9) (fun _ hs => (SrcE.res 1 hs rfl (fun w G h => rd_reads w G h))) rfl ?_
  refine TL.run ft_cursitorlaw12_ok [2, 3, 4] rfl rfl ?_
  refine TL.alloc rfl .u Tryz.zeroValue23 rfl (fun b10 => ?_)
  refine TL.st0 (cs' := #[.int .i64 x7.fProducer, .int .i64 x7.fEpoch, .int .i64 x7.fKind, .int .i64 x7.fTime, .int .i64 x7.fCoordinator]) rfl .u rfl rfl Tryz.sizeOf23 rfl rfl rfl rfl ?_
  refine TL.run ft_cursitorlaw12_ok [7] rfl rfl ?_
  refine TL.nil (X.seq (T.seq (T.region rfl ?_)))
  refine TL.q rfl .u (Ex.bld (cells := #[.int .i64 0, .int .i64 0, .int .i64 2, .int .i64 0, .int .i64 0]) bok_cursitorlaw12_23 rfl (by kernel_rfl)) rfl ?_
  obtain ⟨⟨x11, x14⟩, hx15, h⟩ := Option.bind_eq_some_iff.1 h
  try dsimp only at h
  refine TL.cge rfl .u (.fn Tryz.call8 rfl) (f_marker_Batch_spec 3 (-1) (⟨0, 0, 2, 0, 0⟩ : MarkerEnd) _ hx15) (fun _ hs => (RX.reads_triv _ _)) rfl ?_
  rintro _ _ _ ⟨A12, c13, rfl, rfl, rfl⟩
  refine TL.sel [0, 0, 0, 0, 0] rfl ?_
  refine TL.run ft_cursitorlaw12_ok [2, 3, 4] rfl rfl ?_
  refine TL.alloc rfl .u Tryz.zeroValue27 rfl (fun b16 => ?_)
  refine TL.st0 (cs' := #[.int .i64 x11.fBase, .int .i64 x11.fLeader, .bool x11.fAppend, .bool x11.fTxn, .bool x11.fControl, .int .i64 x11.fLast, .int .i64 x11.fFirst, .int .i64 x11.fMax, .int .i64 x11.fProducer, .int .i64 x11.fEpoch, .int .i64 x11.fSequence, .slice A12 x11.fRecords.length c13]) rfl .u rfl rfl Tryz.sizeOf27 rfl rfl rfl rfl ?_
  refine TL.run ft_cursitorlaw12_ok [7] rfl rfl ?_
  refine TL.nil (X.seq (T.seq (T.region rfl ?_)))
  by_cases c17 : x4 = 0
  · replace h := ifT c17 h
    refine TL.run ft_cursitorlaw12_ok [0, 1, 2] rfl rfl ?_
    refine TL.q rfl (.g rfl rfl (decide_eq_true c17)) (Ex.ft ft_cursitorlaw12_ok rfl) rfl ?_
    refine TL.q rfl (.g rfl rfl (decide_eq_true c17)) (Ex.b1 3 rfl Tryz.isAgg25 rfl rfl) rfl ?_
    refine TL.q rfl (.g rfl rfl (decide_eq_true c17)) (Ex.lenS rfl Tryz.runUnderlying25) rfl ?_
    refine TL.q rfl (.g rfl rfl (decide_eq_true c17)) (Ex.ft ft_cursitorlaw12_ok rfl) rfl ?_
    refine TL.q rfl .u (Ex.py rfl (decide_eq_true c17) rfl) rfl ?_
    by_cases c18 : (x1.fRecords.length : Int) = 1
    · replace h := ifT c18 h
      refine TL.run ft_cursitorlaw12_ok [8] rfl rfl ?_
      refine TL.q rfl (.g rfl rfl (decide_eq_true c18)) (Ex.ft ft_cursitorlaw12_ok rfl) rfl ?_
      refine TL.q rfl (.g rfl rfl (decide_eq_true c18)) (Ex.b1 3 rfl Tryz.isAgg4 rfl rfl) rfl ?_
      refine TL.q rfl .u (Ex.py rfl (decide_eq_true c18) rfl) rfl ?_
      by_cases c19 : x1.fControl = true
      · replace h := ifT c19 h
        refine TL.run ft_cursitorlaw12_ok [12] rfl rfl ?_
        refine TL.q rfl (.g rfl rfl c19) (Ex.ft ft_cursitorlaw12_ok rfl) rfl ?_
        refine TL.q rfl .u (Ex.py rfl c19 rfl) rfl ?_
        by_cases c20 : x8 = true
        · replace h := ifT c20 h
          refine TL.run ft_cursitorlaw12_ok [15] rfl rfl ?_
          refine TL.q rfl (.g rfl rfl c20) (Ex.bS (us := [.int .i64 x7.fProducer, .int .i64 x7.fEpoch, .int .i64 x7.fKind, .int .i64 x7.fTime, .int .i64 x7.fCoordinator]) 2 rfl Tryz.isAgg23 Tryz.sizeOf23 rfl rfl rfl) rfl ?_
          refine TL.q rfl (.g rfl rfl c20) (Ex.bld (cells := #[.int .i64 7, .int .i64 0, .int .i64 1, .int .i64 5, .int .i64 0]) bok_cursitorlaw12_23 rfl (by kernel_rfl)) rfl ?_
          by_cases c21 : x7.fProducer = 7
          · replace h := ifT c21 h
            by_cases c22 : x7.fEpoch = 0
            · replace h := ifT c22 h
              by_cases c23 : x7.fKind = 1
              · replace h := ifT c23 h
                by_cases c24 : x7.fTime = 5
                · replace h := ifT c24 h
                  by_cases c25 : x7.fCoordinator = 0
                  · replace h := ifT c25 h
                    refine TL.q rfl (.g rfl rfl c20) (Ex.aEq (us := [.int .i64 x7.fProducer, .int .i64 x7.fEpoch, .int .i64 x7.fKind, .int .i64 x7.fTime, .int .i64 x7.fCoordinator]) (vs := [.int .i64 7, .int .i64 0, .int .i64 1, .int .i64 5, .int .i64 0]) flat_cursitorlaw12_23 rfl Tryz.eqGuardType23 rfl rfl rfl rfl (eqL_t (eqV_i c21) (eqL_t (eqV_i c22) (eqL_t (eqV_i c23) (eqL_t (eqV_i c24) (eqL_t (eqV_i c25) rfl)))))) rfl ?_
                    refine TL.q rfl .u (Ex.py rfl c20 rfl) rfl ?_
                    refine TL.run ft_cursitorlaw12_ok [20] rfl rfl ?_
                    refine TL.q rfl (.g rfl rfl rfl) (Ex.ft ft_cursitorlaw12_ok rfl) rfl ?_
                    refine TL.q rfl (.g rfl rfl rfl) (Ex.ft ft_cursitorlaw12_ok rfl) rfl ?_
                    refine TL.q rfl .u (Ex.py rfl rfl rfl) rfl ?_
                    refine TL.run ft_cursitorlaw12_ok [24] rfl rfl ?_
                    by_cases c26 : x14 = 12
                    · replace h := ifT c26 h
                      obtain rfl := Option.some.inj h
                      exact TL.nil (X.seq (T.ret (X.done1 [5] Tryz.results7 (RV.tm (v := .bool true) (congrArg (fun b => some (Value.bool b)) (decide_eq_true c26))) ⟨rfl, rfl, rfl⟩ (by rfl) (.inl rfl))))
                    · replace h := ifF c26 h
                      obtain rfl := Option.some.inj h
                      exact TL.nil (X.seq (T.ret (X.done1 [5] Tryz.results7 (RV.tm (v := .bool false) (congrArg (fun b => some (Value.bool b)) (decide_eq_false c26))) ⟨rfl, rfl, rfl⟩ (by rfl) (.inl rfl))))
                  · replace h := ifF c25 h
                    refine TL.q rfl (.g rfl rfl c20) (Ex.aEq (us := [.int .i64 x7.fProducer, .int .i64 x7.fEpoch, .int .i64 x7.fKind, .int .i64 x7.fTime, .int .i64 x7.fCoordinator]) (vs := [.int .i64 7, .int .i64 0, .int .i64 1, .int .i64 5, .int .i64 0]) flat_cursitorlaw12_23 rfl Tryz.eqGuardType23 rfl rfl rfl rfl (eqL_t (eqV_i c21) (eqL_t (eqV_i c22) (eqL_t (eqV_i c23) (eqL_t (eqV_i c24) (eqL_f (eqV_in c25))))))) rfl ?_
                    refine TL.q rfl .u (Ex.py rfl c20 rfl) rfl ?_
                    refine TL.run ft_cursitorlaw12_ok [20] rfl rfl ?_
                    refine TL.no rfl (.gn rfl rfl rfl) rfl ?_
                    refine TL.no rfl (.gn rfl rfl rfl) rfl ?_
                    refine TL.q rfl .u (Ex.pn rfl rfl rfl) rfl ?_
                    refine TL.run ft_cursitorlaw12_ok [24] rfl rfl ?_
                    obtain rfl := Option.some.inj h
                    exact TL.nil (X.seq (T.ret (X.done1 [5] Tryz.results7 (RV.tm rfl) ⟨rfl, rfl, rfl⟩ (by rfl) (.inl rfl))))
                · replace h := ifF c24 h
                  refine TL.q rfl (.g rfl rfl c20) (Ex.aEq (us := [.int .i64 x7.fProducer, .int .i64 x7.fEpoch, .int .i64 x7.fKind, .int .i64 x7.fTime, .int .i64 x7.fCoordinator]) (vs := [.int .i64 7, .int .i64 0, .int .i64 1, .int .i64 5, .int .i64 0]) flat_cursitorlaw12_23 rfl Tryz.eqGuardType23 rfl rfl rfl rfl (eqL_t (eqV_i c21) (eqL_t (eqV_i c22) (eqL_t (eqV_i c23) (eqL_f (eqV_in c24)))))) rfl ?_
                  refine TL.q rfl .u (Ex.py rfl c20 rfl) rfl ?_
                  refine TL.run ft_cursitorlaw12_ok [20] rfl rfl ?_
                  refine TL.no rfl (.gn rfl rfl rfl) rfl ?_
                  refine TL.no rfl (.gn rfl rfl rfl) rfl ?_
                  refine TL.q rfl .u (Ex.pn rfl rfl rfl) rfl ?_
                  refine TL.run ft_cursitorlaw12_ok [24] rfl rfl ?_
                  obtain rfl := Option.some.inj h
                  exact TL.nil (X.seq (T.ret (X.done1 [5] Tryz.results7 (RV.tm rfl) ⟨rfl, rfl, rfl⟩ (by rfl) (.inl rfl))))
              · replace h := ifF c23 h
                refine TL.q rfl (.g rfl rfl c20) (Ex.aEq (us := [.int .i64 x7.fProducer, .int .i64 x7.fEpoch, .int .i64 x7.fKind, .int .i64 x7.fTime, .int .i64 x7.fCoordinator]) (vs := [.int .i64 7, .int .i64 0, .int .i64 1, .int .i64 5, .int .i64 0]) flat_cursitorlaw12_23 rfl Tryz.eqGuardType23 rfl rfl rfl rfl (eqL_t (eqV_i c21) (eqL_t (eqV_i c22) (eqL_f (eqV_in c23))))) rfl ?_
                refine TL.q rfl .u (Ex.py rfl c20 rfl) rfl ?_
                refine TL.run ft_cursitorlaw12_ok [20] rfl rfl ?_
                refine TL.no rfl (.gn rfl rfl rfl) rfl ?_
                refine TL.no rfl (.gn rfl rfl rfl) rfl ?_
                refine TL.q rfl .u (Ex.pn rfl rfl rfl) rfl ?_
                refine TL.run ft_cursitorlaw12_ok [24] rfl rfl ?_
                obtain rfl := Option.some.inj h
                exact TL.nil (X.seq (T.ret (X.done1 [5] Tryz.results7 (RV.tm rfl) ⟨rfl, rfl, rfl⟩ (by rfl) (.inl rfl))))
            · replace h := ifF c22 h
              refine TL.q rfl (.g rfl rfl c20) (Ex.aEq (us := [.int .i64 x7.fProducer, .int .i64 x7.fEpoch, .int .i64 x7.fKind, .int .i64 x7.fTime, .int .i64 x7.fCoordinator]) (vs := [.int .i64 7, .int .i64 0, .int .i64 1, .int .i64 5, .int .i64 0]) flat_cursitorlaw12_23 rfl Tryz.eqGuardType23 rfl rfl rfl rfl (eqL_t (eqV_i c21) (eqL_f (eqV_in c22)))) rfl ?_
              refine TL.q rfl .u (Ex.py rfl c20 rfl) rfl ?_
              refine TL.run ft_cursitorlaw12_ok [20] rfl rfl ?_
              refine TL.no rfl (.gn rfl rfl rfl) rfl ?_
              refine TL.no rfl (.gn rfl rfl rfl) rfl ?_
              refine TL.q rfl .u (Ex.pn rfl rfl rfl) rfl ?_
              refine TL.run ft_cursitorlaw12_ok [24] rfl rfl ?_
              obtain rfl := Option.some.inj h
              exact TL.nil (X.seq (T.ret (X.done1 [5] Tryz.results7 (RV.tm rfl) ⟨rfl, rfl, rfl⟩ (by rfl) (.inl rfl))))
          · replace h := ifF c21 h
            refine TL.q rfl (.g rfl rfl c20) (Ex.aEq (us := [.int .i64 x7.fProducer, .int .i64 x7.fEpoch, .int .i64 x7.fKind, .int .i64 x7.fTime, .int .i64 x7.fCoordinator]) (vs := [.int .i64 7, .int .i64 0, .int .i64 1, .int .i64 5, .int .i64 0]) flat_cursitorlaw12_23 rfl Tryz.eqGuardType23 rfl rfl rfl rfl (eqL_f (eqV_in c21))) rfl ?_
            refine TL.q rfl .u (Ex.py rfl c20 rfl) rfl ?_
            refine TL.run ft_cursitorlaw12_ok [20] rfl rfl ?_
            refine TL.no rfl (.gn rfl rfl rfl) rfl ?_
            refine TL.no rfl (.gn rfl rfl rfl) rfl ?_
            refine TL.q rfl .u (Ex.pn rfl rfl rfl) rfl ?_
            refine TL.run ft_cursitorlaw12_ok [24] rfl rfl ?_
            obtain rfl := Option.some.inj h
            exact TL.nil (X.seq (T.ret (X.done1 [5] Tryz.results7 (RV.tm rfl) ⟨rfl, rfl, rfl⟩ (by rfl) (.inl rfl))))
        · replace h := ifF c20 h
          replace c20 := eq_false_of_ne_true c20
          refine TL.run ft_cursitorlaw12_ok [15] rfl rfl ?_
          refine TL.no rfl (.gn rfl rfl c20) rfl ?_
          refine TL.no rfl (.gn rfl rfl c20) rfl ?_
          refine TL.no rfl (.gn rfl rfl c20) rfl ?_
          refine TL.q rfl .u (Ex.pn rfl c20 rfl) rfl ?_
          refine TL.run ft_cursitorlaw12_ok [20] rfl rfl ?_
          refine TL.no rfl (.gn rfl rfl rfl) rfl ?_
          refine TL.no rfl (.gn rfl rfl rfl) rfl ?_
          refine TL.q rfl .u (Ex.pn rfl rfl rfl) rfl ?_
          refine TL.run ft_cursitorlaw12_ok [24] rfl rfl ?_
          obtain rfl := Option.some.inj h
          exact TL.nil (X.seq (T.ret (X.done1 [5] Tryz.results7 (RV.tm rfl) ⟨rfl, rfl, rfl⟩ (by rfl) (.inl rfl))))
      · replace h := ifF c19 h
        replace c19 := eq_false_of_ne_true c19
        refine TL.run ft_cursitorlaw12_ok [12] rfl rfl ?_
        refine TL.no rfl (.gn rfl rfl c19) rfl ?_
        refine TL.q rfl .u (Ex.pn rfl c19 rfl) rfl ?_
        refine TL.run ft_cursitorlaw12_ok [15] rfl rfl ?_
        refine TL.no rfl (.gn rfl rfl rfl) rfl ?_
        refine TL.no rfl (.gn rfl rfl rfl) rfl ?_
        refine TL.no rfl (.gn rfl rfl rfl) rfl ?_
        refine TL.q rfl .u (Ex.pn rfl rfl rfl) rfl ?_
        refine TL.run ft_cursitorlaw12_ok [20] rfl rfl ?_
        refine TL.no rfl (.gn rfl rfl rfl) rfl ?_
        refine TL.no rfl (.gn rfl rfl rfl) rfl ?_
        refine TL.q rfl .u (Ex.pn rfl rfl rfl) rfl ?_
        refine TL.run ft_cursitorlaw12_ok [24] rfl rfl ?_
        obtain rfl := Option.some.inj h
        exact TL.nil (X.seq (T.ret (X.done1 [5] Tryz.results7 (RV.tm rfl) ⟨rfl, rfl, rfl⟩ (by rfl) (.inl rfl))))
    · replace h := ifF c18 h
      refine TL.run ft_cursitorlaw12_ok [8] rfl rfl ?_
      refine TL.no rfl (.gn rfl rfl (decide_eq_false c18)) rfl ?_
      refine TL.no rfl (.gn rfl rfl (decide_eq_false c18)) rfl ?_
      refine TL.q rfl .u (Ex.pn rfl (decide_eq_false c18) rfl) rfl ?_
      refine TL.run ft_cursitorlaw12_ok [12] rfl rfl ?_
      refine TL.no rfl (.gn rfl rfl rfl) rfl ?_
      refine TL.q rfl .u (Ex.pn rfl rfl rfl) rfl ?_
      refine TL.run ft_cursitorlaw12_ok [15] rfl rfl ?_
      refine TL.no rfl (.gn rfl rfl rfl) rfl ?_
      refine TL.no rfl (.gn rfl rfl rfl) rfl ?_
      refine TL.no rfl (.gn rfl rfl rfl) rfl ?_
      refine TL.q rfl .u (Ex.pn rfl rfl rfl) rfl ?_
      refine TL.run ft_cursitorlaw12_ok [20] rfl rfl ?_
      refine TL.no rfl (.gn rfl rfl rfl) rfl ?_
      refine TL.no rfl (.gn rfl rfl rfl) rfl ?_
      refine TL.q rfl .u (Ex.pn rfl rfl rfl) rfl ?_
      refine TL.run ft_cursitorlaw12_ok [24] rfl rfl ?_
      obtain rfl := Option.some.inj h
      exact TL.nil (X.seq (T.ret (X.done1 [5] Tryz.results7 (RV.tm rfl) ⟨rfl, rfl, rfl⟩ (by rfl) (.inl rfl))))
  · replace h := ifF c17 h
    refine TL.run ft_cursitorlaw12_ok [0, 1, 2] rfl rfl ?_
    refine TL.no rfl (.gn rfl rfl (decide_eq_false c17)) rfl ?_
    refine TL.no rfl (.gn rfl rfl (decide_eq_false c17)) rfl ?_
    refine TL.no rfl (.gn rfl rfl (decide_eq_false c17)) rfl ?_
    refine TL.no rfl (.gn rfl rfl (decide_eq_false c17)) rfl ?_
    refine TL.q rfl .u (Ex.pn rfl (decide_eq_false c17) rfl) rfl ?_
    refine TL.run ft_cursitorlaw12_ok [8] rfl rfl ?_
    refine TL.no rfl (.gn rfl rfl rfl) rfl ?_
    refine TL.no rfl (.gn rfl rfl rfl) rfl ?_
    refine TL.q rfl .u (Ex.pn rfl rfl rfl) rfl ?_
    refine TL.run ft_cursitorlaw12_ok [12] rfl rfl ?_
    refine TL.no rfl (.gn rfl rfl rfl) rfl ?_
    refine TL.q rfl .u (Ex.pn rfl rfl rfl) rfl ?_
    refine TL.run ft_cursitorlaw12_ok [15] rfl rfl ?_
    refine TL.no rfl (.gn rfl rfl rfl) rfl ?_
    refine TL.no rfl (.gn rfl rfl rfl) rfl ?_
    refine TL.no rfl (.gn rfl rfl rfl) rfl ?_
    refine TL.q rfl .u (Ex.pn rfl rfl rfl) rfl ?_
    refine TL.run ft_cursitorlaw12_ok [20] rfl rfl ?_
    refine TL.no rfl (.gn rfl rfl rfl) rfl ?_
    refine TL.no rfl (.gn rfl rfl rfl) rfl ?_
    refine TL.q rfl .u (Ex.pn rfl rfl rfl) rfl ?_
    refine TL.run ft_cursitorlaw12_ok [24] rfl rfl ?_
    obtain rfl := Option.some.inj h
    exact TL.nil (X.seq (T.ret (X.done1 [5] Tryz.results7 (RV.tm rfl) ⟨rfl, rfl, rfl⟩ (by rfl) (.inl rfl))))
def f_l12_MarkerMakes (a0 : Int) (a1 : Int) (a2 : MarkerEnd) : Option (Bool) := (f_l12_speaks).bind fun x2 => if x2 = true then ((f_marker_Batch a0 a1 a2).bind fun (x5, x8) => (f_marker_Encode a0 a1 a2).bind fun (x11, x12) => (if a2.fKind = 0 then some false else (if a2.fKind = 1 then some false else some true)).bind fun y15 => (if y15 = true then ((some 12 : Option (Int))) else ((if a2.fCoordinator < 0 then some true else (if a2.fCoordinator > 2147483647 then some true else some false)).bind fun y33 => (if y33 = true then ((some 11 : Option (Int))) else ((some 0 : Option (Int)))).bind fun y38 => some y38)).bind fun y29 => if y29 = 0 then ((f_r08_Key a2.fKind).bind fun x43 => (f_r08_Value a2.fCoordinator).bind fun x45 => (f_r11_Check (⟨a0, a1, false, true, true, 0, a2.fTime, a2.fTime, a2.fProducer, a2.fEpoch, -1, [(⟨0, 0, (⟨false, x43⟩ : Bl), (⟨false, x45⟩ : Bl), []⟩ : Rec)]⟩ : Bat)).bind fun x49 => if x49 = 0 then ((f_batch_Decode x11).bind fun (x52, x55) => (f_marker_Read x52).bind fun (x58, x59) => (if x8 = 0 then (if x12 = 0 then ((f_r11_Same x5 (⟨a0, a1, false, true, true, 0, a2.fTime, a2.fTime, a2.fProducer, a2.fEpoch, -1, [(⟨0, 0, (⟨false, x43⟩ : Bl), (⟨false, x45⟩ : Bl), []⟩ : Rec)]⟩ : Bat)).bind fun x81 => if x81 = true then ((f_r11_Encode (⟨a0, a1, false, true, true, 0, a2.fTime, a2.fTime, a2.fProducer, a2.fEpoch, -1, [(⟨0, 0, (⟨false, x43⟩ : Bl), (⟨false, x45⟩ : Bl), []⟩ : Rec)]⟩ : Bat)).bind fun x84 => if x11 = x84 then (if x55 = 0 then (if x59 = true then (if x58.fProducer = a2.fProducer then (if x58.fEpoch = a2.fEpoch then (if x58.fKind = a2.fKind then (if x58.fTime = a2.fTime then (if x58.fCoordinator = a2.fCoordinator then some true else some false) else some false) else some false) else some false) else some false) else some false) else some false) else some false) else some false) else some false) else some false).bind fun y77 => some y77) else ((if x8 = x49 then (if x12 = x49 then (if x11 = [] then ((f_r11_Same x5 (⟨0, 0, false, false, false, 0, 0, 0, 0, 0, 0, []⟩ : Bat)).bind fun x104 => some x104) else some false) else some false) else some false).bind fun y99 => some y99)) else ((if x8 = y29 then (if x12 = y29 then (if x11 = [] then ((f_r11_Same x5 (⟨0, 0, false, false, false, 0, 0, 0, 0, 0, 0, []⟩ : Bat)).bind fun x116 => some x116) else some false) else some false) else some false).bind fun y111 => some y111)) else none
set_option maxRecDepth 100000 in
set_option maxHeartbeats 4000000 in
theorem f_l12_MarkerMakes_spec (a0 : Int) (a1 : Int) (a2 : MarkerEnd) (r : Bool) (h : f_l12_MarkerMakes a0 a1 a2 = some r) : SpecX Tryz.prog 3 #[.int .i64 a0, .int .i64 a1, .agg #[.int .i64 a2.fProducer, .int .i64 a2.fEpoch, .int .i64 a2.fKind, .int .i64 a2.fTime, .int .i64 a2.fCoordinator]] .triv (EmpR) (fun v A' N => v = .bool r ∧ A' = EmpR ∧ N = []) := by
  refine enterA Tryz.func3 rfl Tryz.ntmps3 rfl ?_
  intro F w hX
  unfold f_l12_MarkerMakes at h
  refine T.seq (T.region rfl ?_)
  refine TL.box rfl .u rfl rfl (fun b1 => ?_)
  refine TL.run ft_cursitorlaw12_ok [1] rfl rfl ?_
  obtain ⟨x2, hx3, h⟩ := Option.bind_eq_some_iff.1 h
  refine TL.nil (X.seq (T.seq (T.seq (T.region rfl ?_))))
  refine TL.ce rfl .u (.fn Tryz.call7 rfl) (f_l12_speaks_spec _ hx3) (fun _ hs => (RX.reads_triv _ _)) rfl ?_
  refine TL.run ft_cursitorlaw12_ok [1] rfl rfl ?_
  by_cases c4 : x2 = true
  · replace h := ifT c4 h
    refine TL.nil (X.seq ?_)
    refine T.no rfl (bn_f c4) ?_
    refine T.skip (X.seq (T.seq (T.region rfl ?_)))
    refine TL.run ft_cursitorlaw12_ok [0, 1] rfl rfl ?_
    refine TL.q rfl .u (Ex.bS (us := [.int .i64 a2.fProducer, .int .i64 a2.fEpoch, .int .i64 a2.fKind, .int .i64 a2.fTime, .int .i64 a2.fCoordinator]) 0 rfl Tryz.isAgg23 Tryz.sizeOf23 rfl rfl rfl) rfl ?_
    obtain ⟨⟨x5, x8⟩, hx9, h⟩ := Option.bind_eq_some_iff.1 h
    try dsimp only at h
    refine TL.cge rfl .u (.fn Tryz.call8 rfl) (f_marker_Batch_spec a0 a1 a2 _ hx9) (fun _ hs => (RX.reads_triv _ _)) rfl ?_
    rintro _ _ _ ⟨A6, c7, rfl, rfl, rfl⟩
    refine TL.sel [0, 0, 0] rfl ?_
    refine TL.run ft_cursitorlaw12_ok [4, 5, 6] rfl rfl ?_
    refine TL.alloc rfl .u Tryz.zeroValue27 rfl (fun b10 => ?_)
    refine TL.st0 (cs' := #[.int .i64 x5.fBase, .int .i64 x5.fLeader, .bool x5.fAppend, .bool x5.fTxn, .bool x5.fControl, .int .i64 x5.fLast, .int .i64 x5.fFirst, .int .i64 x5.fMax, .int .i64 x5.fProducer, .int .i64 x5.fEpoch, .int .i64 x5.fSequence, .slice A6 x5.fRecords.length c7]) rfl .u rfl rfl Tryz.sizeOf27 rfl rfl rfl rfl ?_
    refine TL.run ft_cursitorlaw12_ok [9] rfl rfl ?_
    refine TL.nil (X.seq (T.seq (T.region rfl ?_)))
    refine TL.run ft_cursitorlaw12_ok [0, 1] rfl rfl ?_
    refine TL.q rfl .u (Ex.bS (us := [.int .i64 a2.fProducer, .int .i64 a2.fEpoch, .int .i64 a2.fKind, .int .i64 a2.fTime, .int .i64 a2.fCoordinator]) 2 rfl Tryz.isAgg23 Tryz.sizeOf23 rfl rfl rfl) rfl ?_
    obtain ⟨⟨x11, x12⟩, hx13, h⟩ := Option.bind_eq_some_iff.1 h
    try dsimp only at h
    refine TL.ce rfl .u (.fn Tryz.call9 rfl) (f_marker_Encode_spec a0 a1 a2 _ hx13) (fun _ hs => (RX.reads_triv _ _)) rfl ?_
    refine TL.run ft_cursitorlaw12_ok [4, 5, 6, 7, 8] rfl rfl ?_
    refine TL.nil (X.seq (T.seq (T.region rfl ?_)))
    refine TL.run ft_cursitorlaw12_ok [0] rfl rfl ?_
    refine TL.nil (X.seq (T.seq (T.block (T.seq ?_))))
    obtain ⟨y15, h, hk16⟩ := Option.bind_eq_some_iff.1 h
    refine T.jq (fun e Rs => e = [(0, .int .i64 a0), (1, .int .i64 a1), (5, .pointer (some ⟨b1, 0, none⟩)), (6, .bool false), (7, .pointer (some ⟨b10, 0, none⟩)), (8, .int .i64 x8), (9, .string (bsOf x11)), (10, .int .i64 x12), (11, .int .i64 0), (34, .bool y15)] ∧ Rs = [BlkR b10 27 #[.int .i64 x5.fBase, .int .i64 x5.fLeader, .bool x5.fAppend, .bool x5.fTxn, .bool x5.fControl, .int .i64 x5.fLast, .int .i64 x5.fFirst, .int .i64 x5.fMax, .int .i64 x5.fProducer, .int .i64 x5.fEpoch, .int .i64 x5.fSequence, .slice A6 x5.fRecords.length c7], RdR (sliceRd 7 Rec_rd) [.slice A6 x5.fRecords.length c7] x5.fRecords, BlkR b1 23 #[.int .i64 a2.fProducer, .int .i64 a2.fEpoch, .int .i64 a2.fKind, .int .i64 a2.fTime, .int .i64 a2.fCoordinator], EmpR]) ?_ ?_
    · clear hk16
      refine T.region rfl ?_
      refine TL.run ft_cursitorlaw12_ok [0] rfl rfl ?_
      refine TL.q rfl .u (Ex.b1 2 rfl Tryz.isAgg3 rfl rfl) rfl ?_
      by_cases c17 : a2.fKind = 0
      · replace h := ifT c17 h
        refine TL.run ft_cursitorlaw12_ok [2, 3] rfl rfl ?_
        refine TL.no rfl (.gn rfl rfl (bn_f (decide_eq_true c17))) rfl ?_
        refine TL.no rfl (.gn rfl rfl (bn_f (decide_eq_true c17))) rfl ?_
        refine TL.no rfl (.gn rfl rfl (bn_f (decide_eq_true c17))) rfl ?_
        refine TL.q rfl .u (Ex.pn rfl (bn_f (decide_eq_true c17)) rfl) rfl ?_
        refine TL.run ft_cursitorlaw12_ok [8] rfl rfl ?_
        cases h
        exact TL.nil (X.jq [0, 0, 0, 0] ⟨rfl, rfl⟩ (by rfl) (by rfl))
      · replace h := ifF c17 h
        refine TL.run ft_cursitorlaw12_ok [2, 3] rfl rfl ?_
        refine TL.q rfl (.g rfl rfl (bn_t (decide_eq_false c17))) (Ex.ft ft_cursitorlaw12_ok rfl) rfl ?_
        refine TL.q rfl (.g rfl rfl (bn_t (decide_eq_false c17))) (Ex.b1 2 rfl Tryz.isAgg3 rfl rfl) rfl ?_
        refine TL.q rfl (.g rfl rfl (bn_t (decide_eq_false c17))) (Ex.ft ft_cursitorlaw12_ok rfl) rfl ?_
        refine TL.q rfl .u (Ex.py rfl (bn_t (decide_eq_false c17)) rfl) rfl ?_
        refine TL.run ft_cursitorlaw12_ok [8] rfl rfl ?_
        by_cases c18 : a2.fKind = 1
        · replace h := ifT c18 h
          cases h
          exact TL.nil (X.as (d := 34) (v' := .bool false) rfl (congrArg Value.bool (bn_f (decide_eq_true c18))) (X.jq [0, 0, 0, 0] ⟨rfl, rfl⟩ (by rfl) (by rfl)))
        · replace h := ifF c18 h
          cases h
          exact TL.nil (X.as (d := 34) (v' := .bool true) rfl (congrArg Value.bool (bn_t (decide_eq_false c18))) (X.jq [0, 0, 0, 0] ⟨rfl, rfl⟩ (by rfl) (by rfl)))
    · rintro _ _ ⟨rfl, rfl⟩
      clear h
      have h := hk16
      clear hk16
      try dsimp only at h
      refine X.seq ?_
      obtain ⟨y29, h, hk30⟩ := Option.bind_eq_some_iff.1 h
      refine T.jq (fun e Rs => e = [(0, .int .i64 a0), (1, .int .i64 a1), (5, .pointer (some ⟨b1, 0, none⟩)), (6, .bool false), (7, .pointer (some ⟨b10, 0, none⟩)), (8, .int .i64 x8), (9, .string (bsOf x11)), (10, .int .i64 x12), (11, .int .i64 y29)] ∧ Rs = [BlkR b10 27 #[.int .i64 x5.fBase, .int .i64 x5.fLeader, .bool x5.fAppend, .bool x5.fTxn, .bool x5.fControl, .int .i64 x5.fLast, .int .i64 x5.fFirst, .int .i64 x5.fMax, .int .i64 x5.fProducer, .int .i64 x5.fEpoch, .int .i64 x5.fSequence, .slice A6 x5.fRecords.length c7], RdR (sliceRd 7 Rec_rd) [.slice A6 x5.fRecords.length c7] x5.fRecords, BlkR b1 23 #[.int .i64 a2.fProducer, .int .i64 a2.fEpoch, .int .i64 a2.fKind, .int .i64 a2.fTime, .int .i64 a2.fCoordinator], EmpR]) ?_ ?_
      · clear hk30
        by_cases c31 : y15 = true
        · replace h := ifT c31 h
          refine T.yes rfl c31 ?_
          refine T.region rfl ?_
          refine TL.run ft_cursitorlaw12_ok [0] rfl rfl ?_
          cases h
          exact TL.nil (X.jq [0, 0, 0, 0] ⟨rfl, rfl⟩ (by rfl) (by rfl))
        · replace h := ifF c31 h
          replace c31 := eq_false_of_ne_true c31
          refine T.no rfl c31 ?_
          refine T.seq ?_
          obtain ⟨y33, h, hk34⟩ := Option.bind_eq_some_iff.1 h
          refine T.jq (fun e Rs => e = [(0, .int .i64 a0), (1, .int .i64 a1), (5, .pointer (some ⟨b1, 0, none⟩)), (6, .bool false), (7, .pointer (some ⟨b10, 0, none⟩)), (8, .int .i64 x8), (9, .string (bsOf x11)), (10, .int .i64 x12), (11, .int .i64 0), (43, .bool y33)] ∧ Rs = [BlkR b10 27 #[.int .i64 x5.fBase, .int .i64 x5.fLeader, .bool x5.fAppend, .bool x5.fTxn, .bool x5.fControl, .int .i64 x5.fLast, .int .i64 x5.fFirst, .int .i64 x5.fMax, .int .i64 x5.fProducer, .int .i64 x5.fEpoch, .int .i64 x5.fSequence, .slice A6 x5.fRecords.length c7], RdR (sliceRd 7 Rec_rd) [.slice A6 x5.fRecords.length c7] x5.fRecords, BlkR b1 23 #[.int .i64 a2.fProducer, .int .i64 a2.fEpoch, .int .i64 a2.fKind, .int .i64 a2.fTime, .int .i64 a2.fCoordinator], EmpR]) ?_ ?_
          · clear hk34
            refine T.region rfl ?_
            refine TL.run ft_cursitorlaw12_ok [0] rfl rfl ?_
            refine TL.q rfl .u (Ex.b1 2 rfl Tryz.isAgg3 rfl rfl) rfl ?_
            by_cases c35 : a2.fCoordinator < 0
            · replace h := ifT c35 h
              refine TL.run ft_cursitorlaw12_ok [2, 3] rfl rfl ?_
              refine TL.no rfl (.gn rfl rfl (decide_eq_true c35)) rfl ?_
              refine TL.no rfl (.gn rfl rfl (decide_eq_true c35)) rfl ?_
              refine TL.no rfl (.gn rfl rfl (decide_eq_true c35)) rfl ?_
              refine TL.q rfl .u (Ex.py rfl (decide_eq_true c35) rfl) rfl ?_
              refine TL.run ft_cursitorlaw12_ok [8] rfl rfl ?_
              cases h
              exact TL.nil (X.jq [0, 0, 0, 0] ⟨rfl, rfl⟩ (by rfl) (by rfl))
            · replace h := ifF c35 h
              refine TL.run ft_cursitorlaw12_ok [2, 3] rfl rfl ?_
              refine TL.q rfl (.g rfl rfl (decide_eq_false c35)) (Ex.ft ft_cursitorlaw12_ok rfl) rfl ?_
              refine TL.q rfl (.g rfl rfl (decide_eq_false c35)) (Ex.b1 2 rfl Tryz.isAgg3 rfl rfl) rfl ?_
              refine TL.q rfl (.g rfl rfl (decide_eq_false c35)) (Ex.ft ft_cursitorlaw12_ok rfl) rfl ?_
              refine TL.q rfl .u (Ex.pn rfl (decide_eq_false c35) rfl) rfl ?_
              refine TL.run ft_cursitorlaw12_ok [8] rfl rfl ?_
              by_cases c36 : a2.fCoordinator > 2147483647
              · replace h := ifT c36 h
                cases h
                exact TL.nil (X.as (d := 43) (v' := .bool true) rfl (congrArg Value.bool (decide_eq_true c36)) (X.jq [0, 0, 0, 0] ⟨rfl, rfl⟩ (by rfl) (by rfl)))
              · replace h := ifF c36 h
                cases h
                exact TL.nil (X.as (d := 43) (v' := .bool false) rfl (congrArg Value.bool (decide_eq_false c36)) (X.jq [0, 0, 0, 0] ⟨rfl, rfl⟩ (by rfl) (by rfl)))
          · rintro _ _ ⟨rfl, rfl⟩
            clear h
            have h := hk34
            clear hk34
            try dsimp only at h
            refine X.seq ?_
            obtain ⟨y38, h, hk39⟩ := Option.bind_eq_some_iff.1 h
            refine T.jq (fun e Rs => e = [(0, .int .i64 a0), (1, .int .i64 a1), (5, .pointer (some ⟨b1, 0, none⟩)), (6, .bool false), (7, .pointer (some ⟨b10, 0, none⟩)), (8, .int .i64 x8), (9, .string (bsOf x11)), (10, .int .i64 x12), (11, .int .i64 y38)] ∧ Rs = [BlkR b10 27 #[.int .i64 x5.fBase, .int .i64 x5.fLeader, .bool x5.fAppend, .bool x5.fTxn, .bool x5.fControl, .int .i64 x5.fLast, .int .i64 x5.fFirst, .int .i64 x5.fMax, .int .i64 x5.fProducer, .int .i64 x5.fEpoch, .int .i64 x5.fSequence, .slice A6 x5.fRecords.length c7], RdR (sliceRd 7 Rec_rd) [.slice A6 x5.fRecords.length c7] x5.fRecords, BlkR b1 23 #[.int .i64 a2.fProducer, .int .i64 a2.fEpoch, .int .i64 a2.fKind, .int .i64 a2.fTime, .int .i64 a2.fCoordinator], EmpR]) ?_ ?_
            · clear hk39
              by_cases c40 : y33 = true
              · replace h := ifT c40 h
                refine T.yes rfl c40 ?_
                refine T.region rfl ?_
                refine TL.run ft_cursitorlaw12_ok [0] rfl rfl ?_
                cases h
                exact TL.nil (X.jq [0, 0, 0, 0] ⟨rfl, rfl⟩ (by rfl) (by rfl))
              · replace h := ifF c40 h
                replace c40 := eq_false_of_ne_true c40
                refine T.no rfl c40 ?_
                cases h
                exact T.skip (X.jq [0, 0, 0, 0] ⟨rfl, rfl⟩ (by rfl) (by rfl))
            · rintro _ _ ⟨rfl, rfl⟩
              clear h
              have h := hk39
              clear hk39
              try dsimp only at h
              cases h
              exact X.jq [0, 0, 0, 0] ⟨rfl, rfl⟩ (by rfl) (by rfl)
      · rintro _ _ ⟨rfl, rfl⟩
        clear h
        have h := hk30
        clear hk30
        try dsimp only at h
        refine X.blk (X.seq (T.seq (T.region rfl ?_)))
        refine TL.alloc rfl .u Tryz.zeroValue27 rfl (fun b41 => ?_)
        refine TL.nil (X.seq (T.seq (T.seq (T.region rfl ?_))))
        refine TL.run ft_cursitorlaw12_ok [0, 1] rfl rfl ?_
        by_cases c42 : y29 = 0
        · replace h := ifT c42 h
          refine TL.nil (X.seq ?_)
          refine T.yes rfl (decide_eq_true c42) ?_
          obtain ⟨x43, hx44, h⟩ := Option.bind_eq_some_iff.1 h
          obtain ⟨x45, hx46, h⟩ := Option.bind_eq_some_iff.1 h
          refine T.seq ?_
          refine T.join (fun e Rs => ∃ (b47 : Nat), e = [(0, .int .i64 a0), (1, .int .i64 a1), (5, .pointer (some ⟨b1, 0, none⟩)), (6, .bool false), (7, .pointer (some ⟨b10, 0, none⟩)), (8, .int .i64 x8), (9, .string (bsOf x11)), (10, .int .i64 x12), (11, .int .i64 y29), (12, .pointer (some ⟨b41, 0, none⟩)), (13, .pointer (some ⟨b47, 0, none⟩)), (52, .int .i64 y29)] ∧ Rs = [BlkR b47 38 #[.int .i64 0, .int .i64 0, .bool false, .string (bsOf x43), .bool false, .string (bsOf x45), .slice none 0 0], BlkR b41 27 #[.int .i64 0, .int .i64 0, .bool false, .bool false, .bool false, .int .i64 0, .int .i64 0, .int .i64 0, .int .i64 0, .int .i64 0, .int .i64 0, .slice none 0 0], BlkR b10 27 #[.int .i64 x5.fBase, .int .i64 x5.fLeader, .bool x5.fAppend, .bool x5.fTxn, .bool x5.fControl, .int .i64 x5.fLast, .int .i64 x5.fFirst, .int .i64 x5.fMax, .int .i64 x5.fProducer, .int .i64 x5.fEpoch, .int .i64 x5.fSequence, .slice A6 x5.fRecords.length c7], RdR (sliceRd 7 Rec_rd) [.slice A6 x5.fRecords.length c7] x5.fRecords, BlkR b1 23 #[.int .i64 a2.fProducer, .int .i64 a2.fEpoch, .int .i64 a2.fKind, .int .i64 a2.fTime, .int .i64 a2.fCoordinator], EmpR]) ?_ ?_
          · refine T.draw (.q 0 (.q 1 (.q 4 (.q 5 (.br 2 (.q 3 (.br 6 (.q 7 (.q 8 (.e 9 (.e 10 .nil)))) (.e 9 (.e 6 (.q 7 (.q 8 (.e 10 .nil))))))) (.e 9 (.e 2 (.q 3 (.e 6 (.q 7 (.q 8 (.e 10 .nil)))))))))))) [0, 0, 0, 0, 0] rfl mix_cursitorlaw12 np_jq (by kernel_rfl) ?_
            refine TD.run ft_cursitorlaw12_ok [0] rfl rfl ?_
            refine TD.q rfl .u (Ex.b1 3 rfl Tryz.isAgg3 rfl rfl) rfl ?_
            refine TD.run ft_cursitorlaw12_ok [4] rfl rfl ?_
            refine TD.q rfl .u (Ex.b1 3 rfl Tryz.isAgg3 rfl rfl) rfl ?_
            refine TD.br ?_ ?_
            · refine TD.ce rfl .u (.fn Tryz.call10 rfl) (f_r08_Key_spec a2.fKind _ hx44) (fun _ hs => (RX.reads_triv _ _)) rfl [0, 0, 0, 0, 0] (rfl) ?_
              refine TD.q rfl .u (Ex.bld (cells := #[.bool false, .string (bsOf x43)]) bok_cursitorlaw12_35 rfl (by kernel_rfl)) rfl ?_
              refine TD.br ?_ ?_
              · refine TD.ce rfl .u (.fn Tryz.call11 rfl) (f_r08_Value_spec a2.fCoordinator _ hx46) (fun _ hs => (RX.reads_triv _ _)) rfl [0, 0, 0, 0, 0] (rfl) ?_
                refine TD.q rfl .u (Ex.bld (cells := #[.bool false, .string (bsOf x45)]) bok_cursitorlaw12_35 rfl (by kernel_rfl)) rfl ?_
                refine TD.q rfl .u (Ex.bld (cells := #[.int .i64 0, .int .i64 0, .bool false, .string (bsOf x43), .bool false, .string (bsOf x45), .slice none 0 0]) bok_cursitorlaw12_38 rfl (by kernel_rfl)) rfl ?_
                refine TD.alloc rfl .u Tryz.zeroValue38 rfl [1, 1, 1, 1, 1] (fun _ => rfl) (fun b47 => ?_)
                refine TD.st0 (cs' := #[.int .i64 0, .int .i64 0, .bool false, .string (bsOf x43), .bool false, .string (bsOf x45), .slice none 0 0]) rfl .u rfl rfl Tryz.sizeOf38 rfl rfl rfl rfl [1, 1, 1, 1, 1] (rfl) ?_
                exact TD.nil (X.jn [0, 0, 0, 0, 0, 0] ⟨b47, rfl, rfl⟩ (by rfl) (by rfl))
              · refine TD.alloc rfl .u Tryz.zeroValue38 rfl [1, 1, 1, 1, 1] (fun _ => rfl) (fun b47 => ?_)
                refine TD.ce rfl .u (.fn Tryz.call11 rfl) (f_r08_Value_spec a2.fCoordinator _ hx46) (fun _ hs => (RX.reads_triv _ _)) rfl [1, 1, 1, 1, 1] (rfl) ?_
                refine TD.q rfl .u (Ex.bld (cells := #[.bool false, .string (bsOf x45)]) bok_cursitorlaw12_35 rfl (by kernel_rfl)) rfl ?_
                refine TD.q rfl .u (Ex.bld (cells := #[.int .i64 0, .int .i64 0, .bool false, .string (bsOf x43), .bool false, .string (bsOf x45), .slice none 0 0]) bok_cursitorlaw12_38 rfl (by kernel_rfl)) rfl ?_
                refine TD.st0 (cs' := #[.int .i64 0, .int .i64 0, .bool false, .string (bsOf x43), .bool false, .string (bsOf x45), .slice none 0 0]) rfl .u rfl rfl Tryz.sizeOf38 rfl rfl rfl rfl [1, 1, 1, 1, 1] (rfl) ?_
                exact TD.nil (X.jn [0, 0, 0, 0, 0, 0] ⟨b47, rfl, rfl⟩ (by rfl) (by rfl))
            · refine TD.alloc rfl .u Tryz.zeroValue38 rfl [1, 1, 1, 1, 1] (fun _ => rfl) (fun b47 => ?_)
              refine TD.ce rfl .u (.fn Tryz.call10 rfl) (f_r08_Key_spec a2.fKind _ hx44) (fun _ hs => (RX.reads_triv _ _)) rfl [1, 1, 1, 1, 1] (rfl) ?_
              refine TD.q rfl .u (Ex.bld (cells := #[.bool false, .string (bsOf x43)]) bok_cursitorlaw12_35 rfl (by kernel_rfl)) rfl ?_
              refine TD.ce rfl .u (.fn Tryz.call11 rfl) (f_r08_Value_spec a2.fCoordinator _ hx46) (fun _ hs => (RX.reads_triv _ _)) rfl [1, 1, 1, 1, 1] (rfl) ?_
              refine TD.q rfl .u (Ex.bld (cells := #[.bool false, .string (bsOf x45)]) bok_cursitorlaw12_35 rfl (by kernel_rfl)) rfl ?_
              refine TD.q rfl .u (Ex.bld (cells := #[.int .i64 0, .int .i64 0, .bool false, .string (bsOf x43), .bool false, .string (bsOf x45), .slice none 0 0]) bok_cursitorlaw12_38 rfl (by kernel_rfl)) rfl ?_
              refine TD.st0 (cs' := #[.int .i64 0, .int .i64 0, .bool false, .string (bsOf x43), .bool false, .string (bsOf x45), .slice none 0 0]) rfl .u rfl rfl Tryz.sizeOf38 rfl rfl rfl rfl [1, 1, 1, 1, 1] (rfl) ?_
              exact TD.nil (X.jn [0, 0, 0, 0, 0, 0] ⟨b47, rfl, rfl⟩ (by rfl) (by rfl))
          · rintro _ _ ⟨b47, rfl, rfl⟩
            refine X.seq (T.seq (T.region rfl ?_))
            refine TL.run ft_cursitorlaw12_ok [0, 1, 2] rfl rfl ?_
            refine TL.q rfl .u (Ex.b1 4 rfl Tryz.isAgg3 rfl rfl) rfl ?_
            refine TL.run ft_cursitorlaw12_ok [4] rfl rfl ?_
            refine TL.q rfl .u (Ex.b1 4 rfl Tryz.isAgg3 rfl rfl) rfl ?_
            refine TL.run ft_cursitorlaw12_ok [6] rfl rfl ?_
            refine TL.q rfl .u (Ex.b1 4 rfl Tryz.isAgg3 rfl rfl) rfl ?_
            refine TL.run ft_cursitorlaw12_ok [8] rfl rfl ?_
            refine TL.q rfl .u (Ex.b1 4 rfl Tryz.isAgg3 rfl rfl) rfl ?_
            refine TL.q rfl .u (Ex.bS (us := [.int .i64 0, .int .i64 0, .bool false, .string (bsOf x43), .bool false, .string (bsOf x45), .slice none 0 0]) 0 rfl Tryz.isAgg38 Tryz.sizeOf38 rfl rfl rfl) rfl ?_
            refine TL.lit (cells := #[.int .i64 0, .int .i64 0, .bool false, .string (bsOf x43), .bool false, .string (bsOf x45), .slice none 0 0]) rfl .u sok_cursitorlaw12_25_1 rfl (by kernel_rfl) rfl (fun b48 => ?_)
            refine TL.rowOf (us := [.int .i64 0, .int .i64 0, .bool false, .string (bsOf x43), .bool false, .string (bsOf x45), .slice none 0 0]) (xs := [(⟨0, 0, (⟨false, x43⟩ : Bl), (⟨false, x45⟩ : Bl), []⟩ : Rec)]) (E := Rec_rd) (z := 7) rfl (Nat.le_of_ble_eq_true rfl) (fun _ => ⟨rfl, ⟨none, 0, rfl, (.inl ⟨rfl, rfl⟩)⟩, rfl⟩) ?_
            refine TL.q rfl .u (Ex.bld (cells := #[.int .i64 a0, .int .i64 a1, .bool false, .bool true, .bool true, .int .i64 0, .int .i64 a2.fTime, .int .i64 a2.fTime, .int .i64 a2.fProducer, .int .i64 a2.fEpoch, .int .i64 (-1), .slice (some ⟨b48, 0, none⟩) 1 1]) bok_cursitorlaw12_27 rfl (by kernel_rfl)) rfl ?_
            refine TL.st2 (cs' := #[.int .i64 a0, .int .i64 a1, .bool false, .bool true, .bool true, .int .i64 0, .int .i64 a2.fTime, .int .i64 a2.fTime, .int .i64 a2.fProducer, .int .i64 a2.fEpoch, .int .i64 (-1), .slice (some ⟨b48, 0, none⟩) 1 1]) rfl .u rfl rfl Tryz.sizeOf27 rfl rfl rfl rfl ?_
            refine TL.nil (X.seq (T.region rfl ?_))
            refine TL.q rfl .u (Ex.bS (us := [.int .i64 a0, .int .i64 a1, .bool false, .bool true, .bool true, .int .i64 0, .int .i64 a2.fTime, .int .i64 a2.fTime, .int .i64 a2.fProducer, .int .i64 a2.fEpoch, .int .i64 (-1), .slice (some ⟨b48, 0, none⟩) 1 1]) 2 rfl Tryz.isAgg27 Tryz.sizeOf27 rfl rfl rfl) rfl ?_
            obtain ⟨x49, hx50, h⟩ := Option.bind_eq_some_iff.1 h
            refine TL.ce rfl .u (.fn Tryz.call12 rfl) (f_r11_Check_spec (⟨a0, a1, false, true, true, 0, a2.fTime, a2.fTime, a2.fProducer, a2.fEpoch, -1, [(⟨0, 0, (⟨false, x43⟩ : Bl), (⟨false, x45⟩ : Bl), []⟩ : Rec)]⟩ : Bat) _ _ _ hx50) (fun _ hs => (SrcE.res 0 hs rfl (fun w G h => own_reads (by decide) w G h))) rfl ?_
            refine TL.run ft_cursitorlaw12_ok [2] rfl rfl ?_
            refine TL.nil (X.seq (T.seq (T.seq (T.region rfl ?_))))
            refine TL.run ft_cursitorlaw12_ok [0, 1] rfl rfl ?_
            by_cases c51 : x49 = 0
            · replace h := ifT c51 h
              refine TL.nil (X.seq ?_)
              refine T.no rfl (bn_f (decide_eq_true c51)) ?_
              refine T.skip (X.seq (T.seq (T.region rfl ?_)))
              obtain ⟨⟨x52, x55⟩, hx56, h⟩ := Option.bind_eq_some_iff.1 h
              try dsimp only at h
              refine TL.run ft_cursitorlaw12_ok [0] rfl rfl ?_
              refine TL.cge rfl .u (.fn Tryz.call14 rfl) (f_batch_Decode_spec x11 _ hx56) (fun _ hs => (RX.reads_triv _ _)) rfl ?_
              rintro _ _ _ ⟨A53, c54, rfl, rfl, rfl⟩
              refine TL.sel [0, 0, 0, 0, 0, 0, 0, 0] rfl ?_
              refine TL.run ft_cursitorlaw12_ok [2, 3, 4] rfl rfl ?_
              refine TL.alloc rfl .u Tryz.zeroValue27 rfl (fun b57 => ?_)
              refine TL.st0 (cs' := #[.int .i64 x52.fBase, .int .i64 x52.fLeader, .bool x52.fAppend, .bool x52.fTxn, .bool x52.fControl, .int .i64 x52.fLast, .int .i64 x52.fFirst, .int .i64 x52.fMax, .int .i64 x52.fProducer, .int .i64 x52.fEpoch, .int .i64 x52.fSequence, .slice A53 x52.fRecords.length c54]) rfl .u rfl rfl Tryz.sizeOf27 rfl rfl rfl rfl ?_
              refine TL.run ft_cursitorlaw12_ok [7] rfl rfl ?_
              refine TL.nil (X.seq (T.seq (T.region rfl ?_)))
              refine TL.q rfl .u (Ex.bS (us := [.int .i64 x52.fBase, .int .i64 x52.fLeader, .bool x52.fAppend, .bool x52.fTxn, .bool x52.fControl, .int .i64 x52.fLast, .int .i64 x52.fFirst, .int .i64 x52.fMax, .int .i64 x52.fProducer, .int .i64 x52.fEpoch, .int .i64 x52.fSequence, .slice A53 x52.fRecords.length c54]) 0 rfl Tryz.isAgg27 Tryz.sizeOf27 rfl rfl rfl) rfl ?_
              obtain ⟨⟨x58, x59⟩, hx60, h⟩ := Option.bind_eq_some_iff.1 h
              try dsimp only at h
              refine TL.ce rfl .u (.fn Tryz.call15 rfl) (f_marker_Read_spec x52 _ _ _ hx60) (fun _ hs => (SrcE.res 1 hs rfl (fun w G h => rd_reads w G h))) rfl ?_
              refine TL.run ft_cursitorlaw12_ok [2, 3, 4] rfl rfl ?_
              refine TL.alloc rfl .u Tryz.zeroValue23 rfl (fun b61 => ?_)
              refine TL.st0 (cs' := #[.int .i64 x58.fProducer, .int .i64 x58.fEpoch, .int .i64 x58.fKind, .int .i64 x58.fTime, .int .i64 x58.fCoordinator]) rfl .u rfl rfl Tryz.sizeOf23 rfl rfl rfl rfl ?_
              refine TL.run ft_cursitorlaw12_ok [7] rfl rfl ?_
              refine TL.nil (X.seq (T.seq ?_))
              obtain ⟨y77, h, hk78⟩ := Option.bind_eq_some_iff.1 h
              refine T.jq (fun e Rs => e = [(6, .bool y77)] ∧ Rs = [BlkR b61 23 #[.int .i64 x58.fProducer, .int .i64 x58.fEpoch, .int .i64 x58.fKind, .int .i64 x58.fTime, .int .i64 x58.fCoordinator], BlkR b57 27 #[.int .i64 x52.fBase, .int .i64 x52.fLeader, .bool x52.fAppend, .bool x52.fTxn, .bool x52.fControl, .int .i64 x52.fLast, .int .i64 x52.fFirst, .int .i64 x52.fMax, .int .i64 x52.fProducer, .int .i64 x52.fEpoch, .int .i64 x52.fSequence, .slice A53 x52.fRecords.length c54], RdR (sliceRd 7 Rec_rd) [.slice A53 x52.fRecords.length c54] x52.fRecords, OwnR 38 7 Rec_rd (.slice (some ⟨b48, 0, none⟩) 1 1) [(⟨0, 0, (⟨false, x43⟩ : Bl), (⟨false, x45⟩ : Bl), []⟩ : Rec)], BlkR b47 38 #[.int .i64 0, .int .i64 0, .bool false, .string (bsOf x43), .bool false, .string (bsOf x45), .slice none 0 0], BlkR b41 27 #[.int .i64 a0, .int .i64 a1, .bool false, .bool true, .bool true, .int .i64 0, .int .i64 a2.fTime, .int .i64 a2.fTime, .int .i64 a2.fProducer, .int .i64 a2.fEpoch, .int .i64 (-1), .slice (some ⟨b48, 0, none⟩) 1 1], BlkR b10 27 #[.int .i64 x5.fBase, .int .i64 x5.fLeader, .bool x5.fAppend, .bool x5.fTxn, .bool x5.fControl, .int .i64 x5.fLast, .int .i64 x5.fFirst, .int .i64 x5.fMax, .int .i64 x5.fProducer, .int .i64 x5.fEpoch, .int .i64 x5.fSequence, .slice A6 x5.fRecords.length c7], RdR (sliceRd 7 Rec_rd) [.slice A6 x5.fRecords.length c7] x5.fRecords, BlkR b1 23 #[.int .i64 a2.fProducer, .int .i64 a2.fEpoch, .int .i64 a2.fKind, .int .i64 a2.fTime, .int .i64 a2.fCoordinator], EmpR]) ?_ ?_
              · clear hk78
                refine T.region rfl ?_
                by_cases c79 : x8 = 0
                · replace h := ifT c79 h
                  refine TL.run ft_cursitorlaw12_ok [0, 1, 2] rfl rfl ?_
                  refine TL.q rfl (.g rfl rfl (decide_eq_true c79)) (Ex.ft ft_cursitorlaw12_ok rfl) rfl ?_
                  refine TL.q rfl (.g rfl rfl (decide_eq_true c79)) (Ex.ft ft_cursitorlaw12_ok rfl) rfl ?_
                  refine TL.q rfl .u (Ex.py rfl (decide_eq_true c79) rfl) rfl ?_
                  by_cases c80 : x12 = 0
                  · replace h := ifT c80 h
                    refine TL.run ft_cursitorlaw12_ok [6] rfl rfl ?_
                    refine TL.q rfl (.g rfl rfl (decide_eq_true c80)) (Ex.bS (us := [.int .i64 x5.fBase, .int .i64 x5.fLeader, .bool x5.fAppend, .bool x5.fTxn, .bool x5.fControl, .int .i64 x5.fLast, .int .i64 x5.fFirst, .int .i64 x5.fMax, .int .i64 x5.fProducer, .int .i64 x5.fEpoch, .int .i64 x5.fSequence, .slice A6 x5.fRecords.length c7]) 6 rfl Tryz.isAgg27 Tryz.sizeOf27 rfl rfl rfl) rfl ?_
                    refine TL.q rfl (.g rfl rfl (decide_eq_true c80)) (Ex.bS (us := [.int .i64 a0, .int .i64 a1, .bool false, .bool true, .bool true, .int .i64 0, .int .i64 a2.fTime, .int .i64 a2.fTime, .int .i64 a2.fProducer, .int .i64 a2.fEpoch, .int .i64 (-1), .slice (some ⟨b48, 0, none⟩) 1 1]) 5 rfl Tryz.isAgg27 Tryz.sizeOf27 rfl rfl rfl) rfl ?_
                    obtain ⟨x81, hx82, h⟩ := Option.bind_eq_some_iff.1 h
                    refine TL.ce rfl (.g rfl rfl (decide_eq_true c80)) (.fn Tryz.call13 rfl) (f_r11_Same_spec x5 _ _ (⟨a0, a1, false, true, true, 0, a2.fTime, a2.fTime, a2.fProducer, a2.fEpoch, -1, [(⟨0, 0, (⟨false, x43⟩ : Bl), (⟨false, x45⟩ : Bl), []⟩ : Rec)]⟩ : Bat) _ _ _ hx82) (fun _ hs => (RX.reads_and (SrcE.res 7 hs rfl (fun w G h => rd_reads w G h)) (SrcE.res 3 hs rfl (fun w G h => own_reads (by decide) w G h)))) rfl ?_
                    refine TL.q rfl .u (Ex.py rfl (decide_eq_true c80) rfl) rfl ?_
                    by_cases c83 : x81 = true
                    · replace h := ifT c83 h
                      refine TL.run ft_cursitorlaw12_ok [11] rfl rfl ?_
                      refine TL.q rfl (.g rfl rfl c83) (Ex.ft ft_cursitorlaw12_ok rfl) rfl ?_
                      refine TL.q rfl (.g rfl rfl c83) (Ex.bS (us := [.int .i64 a0, .int .i64 a1, .bool false, .bool true, .bool true, .int .i64 0, .int .i64 a2.fTime, .int .i64 a2.fTime, .int .i64 a2.fProducer, .int .i64 a2.fEpoch, .int .i64 (-1), .slice (some ⟨b48, 0, none⟩) 1 1]) 5 rfl Tryz.isAgg27 Tryz.sizeOf27 rfl rfl rfl) rfl ?_
                      obtain ⟨x84, hx85, h⟩ := Option.bind_eq_some_iff.1 h
                      refine TL.ce rfl (.g rfl rfl c83) (.fn Tryz.call16 rfl) (f_r11_Encode_spec (⟨a0, a1, false, true, true, 0, a2.fTime, a2.fTime, a2.fProducer, a2.fEpoch, -1, [(⟨0, 0, (⟨false, x43⟩ : Bl), (⟨false, x45⟩ : Bl), []⟩ : Rec)]⟩ : Bat) _ _ _ hx85) (fun _ hs => (SrcE.res 3 hs rfl (fun w G h => own_reads (by decide) w G h))) rfl ?_
                      refine TL.q rfl (.g rfl rfl c83) (Ex.sEq rfl rfl) rfl ?_
                      refine TL.q rfl .u (Ex.py rfl c83 rfl) rfl ?_
                      by_cases c86 : x11 = x84
                      · replace h := ifT c86 h
                        refine TL.run ft_cursitorlaw12_ok [17] rfl rfl ?_
                        refine TL.q rfl (.g rfl rfl (decide_eq_true c86)) (Ex.ft ft_cursitorlaw12_ok rfl) rfl ?_
                        refine TL.q rfl (.g rfl rfl (decide_eq_true c86)) (Ex.ft ft_cursitorlaw12_ok rfl) rfl ?_
                        refine TL.q rfl .u (Ex.py rfl (decide_eq_true c86) rfl) rfl ?_
                        by_cases c87 : x55 = 0
                        · replace h := ifT c87 h
                          refine TL.run ft_cursitorlaw12_ok [21] rfl rfl ?_
                          refine TL.q rfl (.g rfl rfl (decide_eq_true c87)) (Ex.ft ft_cursitorlaw12_ok rfl) rfl ?_
                          refine TL.q rfl .u (Ex.py rfl (decide_eq_true c87) rfl) rfl ?_
                          by_cases c88 : x59 = true
                          · replace h := ifT c88 h
                            refine TL.run ft_cursitorlaw12_ok [24] rfl rfl ?_
                            refine TL.q rfl (.g rfl rfl c88) (Ex.bS (us := [.int .i64 x58.fProducer, .int .i64 x58.fEpoch, .int .i64 x58.fKind, .int .i64 x58.fTime, .int .i64 x58.fCoordinator]) 0 rfl Tryz.isAgg23 Tryz.sizeOf23 rfl rfl rfl) rfl ?_
                            refine TL.q rfl (.g rfl rfl c88) (Ex.bS (us := [.int .i64 a2.fProducer, .int .i64 a2.fEpoch, .int .i64 a2.fKind, .int .i64 a2.fTime, .int .i64 a2.fCoordinator]) 8 rfl Tryz.isAgg23 Tryz.sizeOf23 rfl rfl rfl) rfl ?_
                            by_cases c89 : x58.fProducer = a2.fProducer
                            · replace h := ifT c89 h
                              by_cases c90 : x58.fEpoch = a2.fEpoch
                              · replace h := ifT c90 h
                                by_cases c91 : x58.fKind = a2.fKind
                                · replace h := ifT c91 h
                                  by_cases c92 : x58.fTime = a2.fTime
                                  · replace h := ifT c92 h
                                    by_cases c93 : x58.fCoordinator = a2.fCoordinator
                                    · replace h := ifT c93 h
                                      refine TL.q rfl (.g rfl rfl c88) (Ex.aEq (us := [.int .i64 x58.fProducer, .int .i64 x58.fEpoch, .int .i64 x58.fKind, .int .i64 x58.fTime, .int .i64 x58.fCoordinator]) (vs := [.int .i64 a2.fProducer, .int .i64 a2.fEpoch, .int .i64 a2.fKind, .int .i64 a2.fTime, .int .i64 a2.fCoordinator]) flat_cursitorlaw12_23 rfl Tryz.eqGuardType23 rfl rfl rfl rfl (eqL_t (eqV_i c89) (eqL_t (eqV_i c90) (eqL_t (eqV_i c91) (eqL_t (eqV_i c92) (eqL_t (eqV_i c93) rfl)))))) rfl ?_
                                      refine TL.q rfl .u (Ex.py rfl c88 rfl) rfl ?_
                                      refine TL.run ft_cursitorlaw12_ok [29] rfl rfl ?_
                                      cases h
                                      exact TL.nil (X.jq [0, 0, 0, 0, 0, 0, 0, 0, 0, 0] ⟨rfl, rfl⟩ (by rfl) (by rfl))
                                    · replace h := ifF c93 h
                                      refine TL.q rfl (.g rfl rfl c88) (Ex.aEq (us := [.int .i64 x58.fProducer, .int .i64 x58.fEpoch, .int .i64 x58.fKind, .int .i64 x58.fTime, .int .i64 x58.fCoordinator]) (vs := [.int .i64 a2.fProducer, .int .i64 a2.fEpoch, .int .i64 a2.fKind, .int .i64 a2.fTime, .int .i64 a2.fCoordinator]) flat_cursitorlaw12_23 rfl Tryz.eqGuardType23 rfl rfl rfl rfl (eqL_t (eqV_i c89) (eqL_t (eqV_i c90) (eqL_t (eqV_i c91) (eqL_t (eqV_i c92) (eqL_f (eqV_in c93))))))) rfl ?_
                                      refine TL.q rfl .u (Ex.py rfl c88 rfl) rfl ?_
                                      refine TL.run ft_cursitorlaw12_ok [29] rfl rfl ?_
                                      cases h
                                      exact TL.nil (X.jq [0, 0, 0, 0, 0, 0, 0, 0, 0, 0] ⟨rfl, rfl⟩ (by rfl) (by rfl))
                                  · replace h := ifF c92 h
                                    refine TL.q rfl (.g rfl rfl c88) (Ex.aEq (us := [.int .i64 x58.fProducer, .int .i64 x58.fEpoch, .int .i64 x58.fKind, .int .i64 x58.fTime, .int .i64 x58.fCoordinator]) (vs := [.int .i64 a2.fProducer, .int .i64 a2.fEpoch, .int .i64 a2.fKind, .int .i64 a2.fTime, .int .i64 a2.fCoordinator]) flat_cursitorlaw12_23 rfl Tryz.eqGuardType23 rfl rfl rfl rfl (eqL_t (eqV_i c89) (eqL_t (eqV_i c90) (eqL_t (eqV_i c91) (eqL_f (eqV_in c92)))))) rfl ?_
                                    refine TL.q rfl .u (Ex.py rfl c88 rfl) rfl ?_
                                    refine TL.run ft_cursitorlaw12_ok [29] rfl rfl ?_
                                    cases h
                                    exact TL.nil (X.jq [0, 0, 0, 0, 0, 0, 0, 0, 0, 0] ⟨rfl, rfl⟩ (by rfl) (by rfl))
                                · replace h := ifF c91 h
                                  refine TL.q rfl (.g rfl rfl c88) (Ex.aEq (us := [.int .i64 x58.fProducer, .int .i64 x58.fEpoch, .int .i64 x58.fKind, .int .i64 x58.fTime, .int .i64 x58.fCoordinator]) (vs := [.int .i64 a2.fProducer, .int .i64 a2.fEpoch, .int .i64 a2.fKind, .int .i64 a2.fTime, .int .i64 a2.fCoordinator]) flat_cursitorlaw12_23 rfl Tryz.eqGuardType23 rfl rfl rfl rfl (eqL_t (eqV_i c89) (eqL_t (eqV_i c90) (eqL_f (eqV_in c91))))) rfl ?_
                                  refine TL.q rfl .u (Ex.py rfl c88 rfl) rfl ?_
                                  refine TL.run ft_cursitorlaw12_ok [29] rfl rfl ?_
                                  cases h
                                  exact TL.nil (X.jq [0, 0, 0, 0, 0, 0, 0, 0, 0, 0] ⟨rfl, rfl⟩ (by rfl) (by rfl))
                              · replace h := ifF c90 h
                                refine TL.q rfl (.g rfl rfl c88) (Ex.aEq (us := [.int .i64 x58.fProducer, .int .i64 x58.fEpoch, .int .i64 x58.fKind, .int .i64 x58.fTime, .int .i64 x58.fCoordinator]) (vs := [.int .i64 a2.fProducer, .int .i64 a2.fEpoch, .int .i64 a2.fKind, .int .i64 a2.fTime, .int .i64 a2.fCoordinator]) flat_cursitorlaw12_23 rfl Tryz.eqGuardType23 rfl rfl rfl rfl (eqL_t (eqV_i c89) (eqL_f (eqV_in c90)))) rfl ?_
                                refine TL.q rfl .u (Ex.py rfl c88 rfl) rfl ?_
                                refine TL.run ft_cursitorlaw12_ok [29] rfl rfl ?_
                                cases h
                                exact TL.nil (X.jq [0, 0, 0, 0, 0, 0, 0, 0, 0, 0] ⟨rfl, rfl⟩ (by rfl) (by rfl))
                            · replace h := ifF c89 h
                              refine TL.q rfl (.g rfl rfl c88) (Ex.aEq (us := [.int .i64 x58.fProducer, .int .i64 x58.fEpoch, .int .i64 x58.fKind, .int .i64 x58.fTime, .int .i64 x58.fCoordinator]) (vs := [.int .i64 a2.fProducer, .int .i64 a2.fEpoch, .int .i64 a2.fKind, .int .i64 a2.fTime, .int .i64 a2.fCoordinator]) flat_cursitorlaw12_23 rfl Tryz.eqGuardType23 rfl rfl rfl rfl (eqL_f (eqV_in c89))) rfl ?_
                              refine TL.q rfl .u (Ex.py rfl c88 rfl) rfl ?_
                              refine TL.run ft_cursitorlaw12_ok [29] rfl rfl ?_
                              cases h
                              exact TL.nil (X.jq [0, 0, 0, 0, 0, 0, 0, 0, 0, 0] ⟨rfl, rfl⟩ (by rfl) (by rfl))
                          · replace h := ifF c88 h
                            replace c88 := eq_false_of_ne_true c88
                            refine TL.run ft_cursitorlaw12_ok [24] rfl rfl ?_
                            refine TL.no rfl (.gn rfl rfl c88) rfl ?_
                            refine TL.no rfl (.gn rfl rfl c88) rfl ?_
                            refine TL.no rfl (.gn rfl rfl c88) rfl ?_
                            refine TL.q rfl .u (Ex.pn rfl c88 rfl) rfl ?_
                            refine TL.run ft_cursitorlaw12_ok [29] rfl rfl ?_
                            cases h
                            exact TL.nil (X.jq [0, 0, 0, 0, 0, 0, 0, 0, 0, 0] ⟨rfl, rfl⟩ (by rfl) (by rfl))
                        · replace h := ifF c87 h
                          refine TL.run ft_cursitorlaw12_ok [21] rfl rfl ?_
                          refine TL.no rfl (.gn rfl rfl (decide_eq_false c87)) rfl ?_
                          refine TL.q rfl .u (Ex.pn rfl (decide_eq_false c87) rfl) rfl ?_
                          refine TL.run ft_cursitorlaw12_ok [24] rfl rfl ?_
                          refine TL.no rfl (.gn rfl rfl rfl) rfl ?_
                          refine TL.no rfl (.gn rfl rfl rfl) rfl ?_
                          refine TL.no rfl (.gn rfl rfl rfl) rfl ?_
                          refine TL.q rfl .u (Ex.pn rfl rfl rfl) rfl ?_
                          refine TL.run ft_cursitorlaw12_ok [29] rfl rfl ?_
                          cases h
                          exact TL.nil (X.jq [0, 0, 0, 0, 0, 0, 0, 0, 0, 0] ⟨rfl, rfl⟩ (by rfl) (by rfl))
                      · replace h := ifF c86 h
                        refine TL.run ft_cursitorlaw12_ok [17] rfl rfl ?_
                        refine TL.no rfl (.gn rfl rfl (decide_eq_false c86)) rfl ?_
                        refine TL.no rfl (.gn rfl rfl (decide_eq_false c86)) rfl ?_
                        refine TL.q rfl .u (Ex.pn rfl (decide_eq_false c86) rfl) rfl ?_
                        refine TL.run ft_cursitorlaw12_ok [21] rfl rfl ?_
                        refine TL.no rfl (.gn rfl rfl rfl) rfl ?_
                        refine TL.q rfl .u (Ex.pn rfl rfl rfl) rfl ?_
                        refine TL.run ft_cursitorlaw12_ok [24] rfl rfl ?_
                        refine TL.no rfl (.gn rfl rfl rfl) rfl ?_
                        refine TL.no rfl (.gn rfl rfl rfl) rfl ?_
                        refine TL.no rfl (.gn rfl rfl rfl) rfl ?_
                        refine TL.q rfl .u (Ex.pn rfl rfl rfl) rfl ?_
                        refine TL.run ft_cursitorlaw12_ok [29] rfl rfl ?_
                        cases h
                        exact TL.nil (X.jq [0, 0, 0, 0, 0, 0, 0, 0, 0, 0] ⟨rfl, rfl⟩ (by rfl) (by rfl))
                    · replace h := ifF c83 h
                      replace c83 := eq_false_of_ne_true c83
                      refine TL.run ft_cursitorlaw12_ok [11] rfl rfl ?_
                      refine TL.no rfl (.gn rfl rfl c83) rfl ?_
                      refine TL.no rfl (.gn rfl rfl c83) rfl ?_
                      refine TL.no rfl (.gn rfl rfl c83) rfl ?_
                      refine TL.no rfl (.gn rfl rfl c83) rfl ?_
                      refine TL.q rfl .u (Ex.pn rfl c83 rfl) rfl ?_
                      refine TL.run ft_cursitorlaw12_ok [17] rfl rfl ?_
                      refine TL.no rfl (.gn rfl rfl rfl) rfl ?_
                      refine TL.no rfl (.gn rfl rfl rfl) rfl ?_
                      refine TL.q rfl .u (Ex.pn rfl rfl rfl) rfl ?_
                      refine TL.run ft_cursitorlaw12_ok [21] rfl rfl ?_
                      refine TL.no rfl (.gn rfl rfl rfl) rfl ?_
                      refine TL.q rfl .u (Ex.pn rfl rfl rfl) rfl ?_
                      refine TL.run ft_cursitorlaw12_ok [24] rfl rfl ?_
                      refine TL.no rfl (.gn rfl rfl rfl) rfl ?_
                      refine TL.no rfl (.gn rfl rfl rfl) rfl ?_
                      refine TL.no rfl (.gn rfl rfl rfl) rfl ?_
                      refine TL.q rfl .u (Ex.pn rfl rfl rfl) rfl ?_
                      refine TL.run ft_cursitorlaw12_ok [29] rfl rfl ?_
                      cases h
                      exact TL.nil (X.jq [0, 0, 0, 0, 0, 0, 0, 0, 0, 0] ⟨rfl, rfl⟩ (by rfl) (by rfl))
                  · replace h := ifF c80 h
                    refine TL.run ft_cursitorlaw12_ok [6] rfl rfl ?_
                    refine TL.no rfl (.gn rfl rfl (decide_eq_false c80)) rfl ?_
                    refine TL.no rfl (.gn rfl rfl (decide_eq_false c80)) rfl ?_
                    refine TL.no rfl (.gn rfl rfl (decide_eq_false c80)) rfl ?_
                    refine TL.q rfl .u (Ex.pn rfl (decide_eq_false c80) rfl) rfl ?_
                    refine TL.run ft_cursitorlaw12_ok [11] rfl rfl ?_
                    refine TL.no rfl (.gn rfl rfl rfl) rfl ?_
                    refine TL.no rfl (.gn rfl rfl rfl) rfl ?_
                    refine TL.no rfl (.gn rfl rfl rfl) rfl ?_
                    refine TL.no rfl (.gn rfl rfl rfl) rfl ?_
                    refine TL.q rfl .u (Ex.pn rfl rfl rfl) rfl ?_
                    refine TL.run ft_cursitorlaw12_ok [17] rfl rfl ?_
                    refine TL.no rfl (.gn rfl rfl rfl) rfl ?_
                    refine TL.no rfl (.gn rfl rfl rfl) rfl ?_
                    refine TL.q rfl .u (Ex.pn rfl rfl rfl) rfl ?_
                    refine TL.run ft_cursitorlaw12_ok [21] rfl rfl ?_
                    refine TL.no rfl (.gn rfl rfl rfl) rfl ?_
                    refine TL.q rfl .u (Ex.pn rfl rfl rfl) rfl ?_
                    refine TL.run ft_cursitorlaw12_ok [24] rfl rfl ?_
                    refine TL.no rfl (.gn rfl rfl rfl) rfl ?_
                    refine TL.no rfl (.gn rfl rfl rfl) rfl ?_
                    refine TL.no rfl (.gn rfl rfl rfl) rfl ?_
                    refine TL.q rfl .u (Ex.pn rfl rfl rfl) rfl ?_
                    refine TL.run ft_cursitorlaw12_ok [29] rfl rfl ?_
                    cases h
                    exact TL.nil (X.jq [0, 0, 0, 0, 0, 0, 0, 0, 0, 0] ⟨rfl, rfl⟩ (by rfl) (by rfl))
                · replace h := ifF c79 h
                  refine TL.run ft_cursitorlaw12_ok [0, 1, 2] rfl rfl ?_
                  refine TL.no rfl (.gn rfl rfl (decide_eq_false c79)) rfl ?_
                  refine TL.no rfl (.gn rfl rfl (decide_eq_false c79)) rfl ?_
                  refine TL.q rfl .u (Ex.pn rfl (decide_eq_false c79) rfl) rfl ?_
                  refine TL.run ft_cursitorlaw12_ok [6] rfl rfl ?_
                  refine TL.no rfl (.gn rfl rfl rfl) rfl ?_
                  refine TL.no rfl (.gn rfl rfl rfl) rfl ?_
                  refine TL.no rfl (.gn rfl rfl rfl) rfl ?_
                  refine TL.q rfl .u (Ex.pn rfl rfl rfl) rfl ?_
                  refine TL.run ft_cursitorlaw12_ok [11] rfl rfl ?_
                  refine TL.no rfl (.gn rfl rfl rfl) rfl ?_
                  refine TL.no rfl (.gn rfl rfl rfl) rfl ?_
                  refine TL.no rfl (.gn rfl rfl rfl) rfl ?_
                  refine TL.no rfl (.gn rfl rfl rfl) rfl ?_
                  refine TL.q rfl .u (Ex.pn rfl rfl rfl) rfl ?_
                  refine TL.run ft_cursitorlaw12_ok [17] rfl rfl ?_
                  refine TL.no rfl (.gn rfl rfl rfl) rfl ?_
                  refine TL.no rfl (.gn rfl rfl rfl) rfl ?_
                  refine TL.q rfl .u (Ex.pn rfl rfl rfl) rfl ?_
                  refine TL.run ft_cursitorlaw12_ok [21] rfl rfl ?_
                  refine TL.no rfl (.gn rfl rfl rfl) rfl ?_
                  refine TL.q rfl .u (Ex.pn rfl rfl rfl) rfl ?_
                  refine TL.run ft_cursitorlaw12_ok [24] rfl rfl ?_
                  refine TL.no rfl (.gn rfl rfl rfl) rfl ?_
                  refine TL.no rfl (.gn rfl rfl rfl) rfl ?_
                  refine TL.no rfl (.gn rfl rfl rfl) rfl ?_
                  refine TL.q rfl .u (Ex.pn rfl rfl rfl) rfl ?_
                  refine TL.run ft_cursitorlaw12_ok [29] rfl rfl ?_
                  cases h
                  exact TL.nil (X.jq [0, 0, 0, 0, 0, 0, 0, 0, 0, 0] ⟨rfl, rfl⟩ (by rfl) (by rfl))
              · rintro _ _ ⟨rfl, rfl⟩
                clear h
                have h := hk78
                clear hk78
                try dsimp only at h
                obtain rfl := Option.some.inj h
                exact X.seq (T.ret (X.done1 [9] Tryz.results3 (RV.tm rfl) ⟨rfl, rfl, rfl⟩ (by rfl) (.inl rfl)))
            · replace h := ifF c51 h
              refine TL.nil (X.seq ?_)
              refine T.yes rfl (bn_t (decide_eq_false c51)) ?_
              refine T.seq ?_
              obtain ⟨y99, h, hk100⟩ := Option.bind_eq_some_iff.1 h
              refine T.jq (fun e Rs => e = [(5, .pointer (some ⟨b1, 0, none⟩)), (6, .bool y99), (7, .pointer (some ⟨b10, 0, none⟩)), (8, .int .i64 x8), (9, .string (bsOf x11)), (10, .int .i64 x12), (12, .pointer (some ⟨b41, 0, none⟩))] ∧ Rs = [OwnR 38 7 Rec_rd (.slice (some ⟨b48, 0, none⟩) 1 1) [(⟨0, 0, (⟨false, x43⟩ : Bl), (⟨false, x45⟩ : Bl), []⟩ : Rec)], BlkR b47 38 #[.int .i64 0, .int .i64 0, .bool false, .string (bsOf x43), .bool false, .string (bsOf x45), .slice none 0 0], BlkR b41 27 #[.int .i64 a0, .int .i64 a1, .bool false, .bool true, .bool true, .int .i64 0, .int .i64 a2.fTime, .int .i64 a2.fTime, .int .i64 a2.fProducer, .int .i64 a2.fEpoch, .int .i64 (-1), .slice (some ⟨b48, 0, none⟩) 1 1], BlkR b10 27 #[.int .i64 x5.fBase, .int .i64 x5.fLeader, .bool x5.fAppend, .bool x5.fTxn, .bool x5.fControl, .int .i64 x5.fLast, .int .i64 x5.fFirst, .int .i64 x5.fMax, .int .i64 x5.fProducer, .int .i64 x5.fEpoch, .int .i64 x5.fSequence, .slice A6 x5.fRecords.length c7], RdR (sliceRd 7 Rec_rd) [.slice A6 x5.fRecords.length c7] x5.fRecords, BlkR b1 23 #[.int .i64 a2.fProducer, .int .i64 a2.fEpoch, .int .i64 a2.fKind, .int .i64 a2.fTime, .int .i64 a2.fCoordinator], EmpR]) ?_ ?_
              · clear hk100
                refine T.region rfl ?_
                by_cases c101 : x8 = x49
                · replace h := ifT c101 h
                  refine TL.run ft_cursitorlaw12_ok [0, 1, 2, 3] rfl rfl ?_
                  refine TL.q rfl (.g rfl rfl (decide_eq_true c101)) (Ex.ft ft_cursitorlaw12_ok rfl) rfl ?_
                  refine TL.q rfl (.g rfl rfl (decide_eq_true c101)) (Ex.ft ft_cursitorlaw12_ok rfl) rfl ?_
                  refine TL.q rfl (.g rfl rfl (decide_eq_true c101)) (Ex.ft ft_cursitorlaw12_ok rfl) rfl ?_
                  refine TL.q rfl .u (Ex.py rfl (decide_eq_true c101) rfl) rfl ?_
                  by_cases c102 : x12 = x49
                  · replace h := ifT c102 h
                    refine TL.run ft_cursitorlaw12_ok [8] rfl rfl ?_
                    refine TL.q rfl (.g rfl rfl (decide_eq_true c102)) (Ex.ft ft_cursitorlaw12_ok rfl) rfl ?_
                    refine TL.q rfl (.g rfl rfl (decide_eq_true c102)) (Ex.sEq rfl (m := []) rfl) rfl ?_
                    refine TL.q rfl .u (Ex.py rfl (decide_eq_true c102) rfl) rfl ?_
                    by_cases c103 : x11 = []
                    · replace h := ifT c103 h
                      refine TL.run ft_cursitorlaw12_ok [12] rfl rfl ?_
                      refine TL.q rfl (.g rfl rfl (decide_eq_true c103)) (Ex.bS (us := [.int .i64 x5.fBase, .int .i64 x5.fLeader, .bool x5.fAppend, .bool x5.fTxn, .bool x5.fControl, .int .i64 x5.fLast, .int .i64 x5.fFirst, .int .i64 x5.fMax, .int .i64 x5.fProducer, .int .i64 x5.fEpoch, .int .i64 x5.fSequence, .slice A6 x5.fRecords.length c7]) 3 rfl Tryz.isAgg27 Tryz.sizeOf27 rfl rfl rfl) rfl ?_
                      refine TL.q rfl (.g rfl rfl (decide_eq_true c103)) (Ex.bld (cells := #[.int .i64 0, .int .i64 0, .bool false, .bool false, .bool false, .int .i64 0, .int .i64 0, .int .i64 0, .int .i64 0, .int .i64 0, .int .i64 0, .slice none 0 0]) bok_cursitorlaw12_27 rfl (by kernel_rfl)) rfl ?_
                      obtain ⟨x104, hx105, h⟩ := Option.bind_eq_some_iff.1 h
                      refine TL.ce rfl (.g rfl rfl (decide_eq_true c103)) (.fn Tryz.call13 rfl) (f_r11_Same_spec x5 _ _ (⟨0, 0, false, false, false, 0, 0, 0, 0, 0, 0, []⟩ : Bat) _ _ _ hx105) (fun _ hs => (RX.reads_and (SrcE.res 4 hs rfl (fun w G h => rd_reads w G h)) slice_nil_reads)) rfl ?_
                      refine TL.q rfl .u (Ex.py rfl (decide_eq_true c103) rfl) rfl ?_
                      refine TL.run ft_cursitorlaw12_ok [17] rfl rfl ?_
                      cases h
                      exact TL.nil (X.jq [0, 0, 0, 0, 0, 0, 0] ⟨rfl, rfl⟩ (by rfl) (by rfl))
                    · replace h := ifF c103 h
                      refine TL.run ft_cursitorlaw12_ok [12] rfl rfl ?_
                      refine TL.no rfl (.gn rfl rfl (decide_eq_false c103)) rfl ?_
                      refine TL.no rfl (.gn rfl rfl (decide_eq_false c103)) rfl ?_
                      refine TL.no rfl (.gn rfl rfl (decide_eq_false c103)) rfl ?_
                      refine TL.q rfl .u (Ex.pn rfl (decide_eq_false c103) rfl) rfl ?_
                      refine TL.run ft_cursitorlaw12_ok [17] rfl rfl ?_
                      cases h
                      exact TL.nil (X.jq [0, 0, 0, 0, 0, 0, 0] ⟨rfl, rfl⟩ (by rfl) (by rfl))
                  · replace h := ifF c102 h
                    refine TL.run ft_cursitorlaw12_ok [8] rfl rfl ?_
                    refine TL.no rfl (.gn rfl rfl (decide_eq_false c102)) rfl ?_
                    refine TL.no rfl (.gn rfl rfl (decide_eq_false c102)) rfl ?_
                    refine TL.q rfl .u (Ex.pn rfl (decide_eq_false c102) rfl) rfl ?_
                    refine TL.run ft_cursitorlaw12_ok [12] rfl rfl ?_
                    refine TL.no rfl (.gn rfl rfl rfl) rfl ?_
                    refine TL.no rfl (.gn rfl rfl rfl) rfl ?_
                    refine TL.no rfl (.gn rfl rfl rfl) rfl ?_
                    refine TL.q rfl .u (Ex.pn rfl rfl rfl) rfl ?_
                    refine TL.run ft_cursitorlaw12_ok [17] rfl rfl ?_
                    cases h
                    exact TL.nil (X.jq [0, 0, 0, 0, 0, 0, 0] ⟨rfl, rfl⟩ (by rfl) (by rfl))
                · replace h := ifF c101 h
                  refine TL.run ft_cursitorlaw12_ok [0, 1, 2, 3] rfl rfl ?_
                  refine TL.no rfl (.gn rfl rfl (decide_eq_false c101)) rfl ?_
                  refine TL.no rfl (.gn rfl rfl (decide_eq_false c101)) rfl ?_
                  refine TL.no rfl (.gn rfl rfl (decide_eq_false c101)) rfl ?_
                  refine TL.q rfl .u (Ex.pn rfl (decide_eq_false c101) rfl) rfl ?_
                  refine TL.run ft_cursitorlaw12_ok [8] rfl rfl ?_
                  refine TL.no rfl (.gn rfl rfl rfl) rfl ?_
                  refine TL.no rfl (.gn rfl rfl rfl) rfl ?_
                  refine TL.q rfl .u (Ex.pn rfl rfl rfl) rfl ?_
                  refine TL.run ft_cursitorlaw12_ok [12] rfl rfl ?_
                  refine TL.no rfl (.gn rfl rfl rfl) rfl ?_
                  refine TL.no rfl (.gn rfl rfl rfl) rfl ?_
                  refine TL.no rfl (.gn rfl rfl rfl) rfl ?_
                  refine TL.q rfl .u (Ex.pn rfl rfl rfl) rfl ?_
                  refine TL.run ft_cursitorlaw12_ok [17] rfl rfl ?_
                  cases h
                  exact TL.nil (X.jq [0, 0, 0, 0, 0, 0, 0] ⟨rfl, rfl⟩ (by rfl) (by rfl))
              · rintro _ _ ⟨rfl, rfl⟩
                clear h
                have h := hk100
                clear hk100
                try dsimp only at h
                obtain rfl := Option.some.inj h
                exact X.seq (T.ret (X.rs (X.done1 [6] Tryz.results3 (RV.tm rfl) ⟨rfl, rfl, rfl⟩ (by rfl) (.inl rfl))))
        · replace h := ifF c42 h
          refine TL.nil (X.seq ?_)
          refine T.no rfl (decide_eq_false c42) ?_
          refine T.skip (X.seq (T.seq (T.seq (T.region rfl ?_))))
          refine TL.run ft_cursitorlaw12_ok [0, 1] rfl rfl ?_
          refine TL.nil (X.seq ?_)
          refine T.yes rfl (bn_t (decide_eq_false c42)) ?_
          refine T.seq ?_
          obtain ⟨y111, h, hk112⟩ := Option.bind_eq_some_iff.1 h
          refine T.jq (fun e Rs => e = [(5, .pointer (some ⟨b1, 0, none⟩)), (6, .bool y111), (7, .pointer (some ⟨b10, 0, none⟩)), (8, .int .i64 x8), (9, .string (bsOf x11)), (10, .int .i64 x12), (12, .pointer (some ⟨b41, 0, none⟩))] ∧ Rs = [BlkR b41 27 #[.int .i64 0, .int .i64 0, .bool false, .bool false, .bool false, .int .i64 0, .int .i64 0, .int .i64 0, .int .i64 0, .int .i64 0, .int .i64 0, .slice none 0 0], BlkR b10 27 #[.int .i64 x5.fBase, .int .i64 x5.fLeader, .bool x5.fAppend, .bool x5.fTxn, .bool x5.fControl, .int .i64 x5.fLast, .int .i64 x5.fFirst, .int .i64 x5.fMax, .int .i64 x5.fProducer, .int .i64 x5.fEpoch, .int .i64 x5.fSequence, .slice A6 x5.fRecords.length c7], RdR (sliceRd 7 Rec_rd) [.slice A6 x5.fRecords.length c7] x5.fRecords, BlkR b1 23 #[.int .i64 a2.fProducer, .int .i64 a2.fEpoch, .int .i64 a2.fKind, .int .i64 a2.fTime, .int .i64 a2.fCoordinator], EmpR]) ?_ ?_
          · clear hk112
            refine T.region rfl ?_
            by_cases c113 : x8 = y29
            · replace h := ifT c113 h
              refine TL.run ft_cursitorlaw12_ok [0, 1, 2, 3] rfl rfl ?_
              refine TL.q rfl (.g rfl rfl (decide_eq_true c113)) (Ex.ft ft_cursitorlaw12_ok rfl) rfl ?_
              refine TL.q rfl (.g rfl rfl (decide_eq_true c113)) (Ex.ft ft_cursitorlaw12_ok rfl) rfl ?_
              refine TL.q rfl (.g rfl rfl (decide_eq_true c113)) (Ex.ft ft_cursitorlaw12_ok rfl) rfl ?_
              refine TL.q rfl .u (Ex.py rfl (decide_eq_true c113) rfl) rfl ?_
              by_cases c114 : x12 = y29
              · replace h := ifT c114 h
                refine TL.run ft_cursitorlaw12_ok [8] rfl rfl ?_
                refine TL.q rfl (.g rfl rfl (decide_eq_true c114)) (Ex.ft ft_cursitorlaw12_ok rfl) rfl ?_
                refine TL.q rfl (.g rfl rfl (decide_eq_true c114)) (Ex.sEq rfl (m := []) rfl) rfl ?_
                refine TL.q rfl .u (Ex.py rfl (decide_eq_true c114) rfl) rfl ?_
                by_cases c115 : x11 = []
                · replace h := ifT c115 h
                  refine TL.run ft_cursitorlaw12_ok [12] rfl rfl ?_
                  refine TL.q rfl (.g rfl rfl (decide_eq_true c115)) (Ex.bS (us := [.int .i64 x5.fBase, .int .i64 x5.fLeader, .bool x5.fAppend, .bool x5.fTxn, .bool x5.fControl, .int .i64 x5.fLast, .int .i64 x5.fFirst, .int .i64 x5.fMax, .int .i64 x5.fProducer, .int .i64 x5.fEpoch, .int .i64 x5.fSequence, .slice A6 x5.fRecords.length c7]) 1 rfl Tryz.isAgg27 Tryz.sizeOf27 rfl rfl rfl) rfl ?_
                  refine TL.q rfl (.g rfl rfl (decide_eq_true c115)) (Ex.bld (cells := #[.int .i64 0, .int .i64 0, .bool false, .bool false, .bool false, .int .i64 0, .int .i64 0, .int .i64 0, .int .i64 0, .int .i64 0, .int .i64 0, .slice none 0 0]) bok_cursitorlaw12_27 rfl (by kernel_rfl)) rfl ?_
                  obtain ⟨x116, hx117, h⟩ := Option.bind_eq_some_iff.1 h
                  refine TL.ce rfl (.g rfl rfl (decide_eq_true c115)) (.fn Tryz.call13 rfl) (f_r11_Same_spec x5 _ _ (⟨0, 0, false, false, false, 0, 0, 0, 0, 0, 0, []⟩ : Bat) _ _ _ hx117) (fun _ hs => (RX.reads_and (SrcE.res 2 hs rfl (fun w G h => rd_reads w G h)) slice_nil_reads)) rfl ?_
                  refine TL.q rfl .u (Ex.py rfl (decide_eq_true c115) rfl) rfl ?_
                  refine TL.run ft_cursitorlaw12_ok [17] rfl rfl ?_
                  cases h
                  exact TL.nil (X.jq [0, 0, 0, 0, 0] ⟨rfl, rfl⟩ (by rfl) (by rfl))
                · replace h := ifF c115 h
                  refine TL.run ft_cursitorlaw12_ok [12] rfl rfl ?_
                  refine TL.no rfl (.gn rfl rfl (decide_eq_false c115)) rfl ?_
                  refine TL.no rfl (.gn rfl rfl (decide_eq_false c115)) rfl ?_
                  refine TL.no rfl (.gn rfl rfl (decide_eq_false c115)) rfl ?_
                  refine TL.q rfl .u (Ex.pn rfl (decide_eq_false c115) rfl) rfl ?_
                  refine TL.run ft_cursitorlaw12_ok [17] rfl rfl ?_
                  cases h
                  exact TL.nil (X.jq [0, 0, 0, 0, 0] ⟨rfl, rfl⟩ (by rfl) (by rfl))
              · replace h := ifF c114 h
                refine TL.run ft_cursitorlaw12_ok [8] rfl rfl ?_
                refine TL.no rfl (.gn rfl rfl (decide_eq_false c114)) rfl ?_
                refine TL.no rfl (.gn rfl rfl (decide_eq_false c114)) rfl ?_
                refine TL.q rfl .u (Ex.pn rfl (decide_eq_false c114) rfl) rfl ?_
                refine TL.run ft_cursitorlaw12_ok [12] rfl rfl ?_
                refine TL.no rfl (.gn rfl rfl rfl) rfl ?_
                refine TL.no rfl (.gn rfl rfl rfl) rfl ?_
                refine TL.no rfl (.gn rfl rfl rfl) rfl ?_
                refine TL.q rfl .u (Ex.pn rfl rfl rfl) rfl ?_
                refine TL.run ft_cursitorlaw12_ok [17] rfl rfl ?_
                cases h
                exact TL.nil (X.jq [0, 0, 0, 0, 0] ⟨rfl, rfl⟩ (by rfl) (by rfl))
            · replace h := ifF c113 h
              refine TL.run ft_cursitorlaw12_ok [0, 1, 2, 3] rfl rfl ?_
              refine TL.no rfl (.gn rfl rfl (decide_eq_false c113)) rfl ?_
              refine TL.no rfl (.gn rfl rfl (decide_eq_false c113)) rfl ?_
              refine TL.no rfl (.gn rfl rfl (decide_eq_false c113)) rfl ?_
              refine TL.q rfl .u (Ex.pn rfl (decide_eq_false c113) rfl) rfl ?_
              refine TL.run ft_cursitorlaw12_ok [8] rfl rfl ?_
              refine TL.no rfl (.gn rfl rfl rfl) rfl ?_
              refine TL.no rfl (.gn rfl rfl rfl) rfl ?_
              refine TL.q rfl .u (Ex.pn rfl rfl rfl) rfl ?_
              refine TL.run ft_cursitorlaw12_ok [12] rfl rfl ?_
              refine TL.no rfl (.gn rfl rfl rfl) rfl ?_
              refine TL.no rfl (.gn rfl rfl rfl) rfl ?_
              refine TL.no rfl (.gn rfl rfl rfl) rfl ?_
              refine TL.q rfl .u (Ex.pn rfl rfl rfl) rfl ?_
              refine TL.run ft_cursitorlaw12_ok [17] rfl rfl ?_
              cases h
              exact TL.nil (X.jq [0, 0, 0, 0, 0] ⟨rfl, rfl⟩ (by rfl) (by rfl))
          · rintro _ _ ⟨rfl, rfl⟩
            clear h
            have h := hk112
            clear hk112
            try dsimp only at h
            obtain rfl := Option.some.inj h
            exact X.seq (T.ret (X.rs (X.done1 [4] Tryz.results3 (RV.tm rfl) ⟨rfl, rfl, rfl⟩ (by rfl) (.inl rfl))))
  · replace h := ifF c4 h
    replace c4 := eq_false_of_ne_true c4
    refine TL.nil (X.seq ?_)
    refine T.yes rfl (bn_t c4) ?_
    exact nomatch h
end Go.Proofs.YtcoppaggpbfcmaaGreat.Sl
namespace Go.Proofs.YtcoppaggpbfcmaaGreat.Sl
open Go.RowKit
set_option linter.unusedVariables false
set_option linter.unusedSimpArgs false
theorem speaks12_eq : f_l12_speaks = some true := by kernel_rfl
end Go.Proofs.YtcoppaggpbfcmaaGreat.Sl
namespace Go.Proofs.YtcoppaggpbfcmaaGreat.Sl
open Go.RowKit
set_option linter.unusedVariables false
set_option linter.unusedSimpArgs false
theorem ckey_one (k : Int) (h : k = 0 ∨ k = 1) : f_control_Key k = some ([0, 0] ++ be k 2, 0) := by
  rcases h with rfl | rfl <;> kernel_rfl
theorem rkey_one (k : Int) (h : k = 0 ∨ k = 1) : f_r08_Key k = some ([0, 0] ++ be k 2) := by
  rcases h with rfl | rfl <;> kernel_rfl
theorem ckey_none (k : Int) (h0 : k ≠ 0) (h1 : k ≠ 1) : f_control_Key k = some ([], 12) := by
  unfold f_control_Key
  rw [if_neg h0, if_neg h1]
theorem cval_ok (n : Int) (h0 : 0 ≤ n) (h1 : n ≤ 9223372036854775807) (hf : fits n 4 = true) : f_control_Value n = some ([0, 0] ++ be n 4, 0) := by
  unfold f_control_Value
  rw [if_neg (by omega), gOInt_eq _ _ _ (by simp)]
  simp only [Option.bind_some]
  rw [show oint ([], 0) 0 2 = ([0, 0], 0) by decide, gOInt_eq _ _ _ (by simp; omega)]
  simp only [Option.bind_some, gOText_eq]
  rw [show oint ([0, 0], 0) n 4 = ([0, 0] ++ be n 4, 0) by unfold oint; rw [if_pos hf]; rfl]
  rfl
theorem cval_none (n : Int) (hi : n ≤ 9223372036854775807) (h : n < 0 ∨ fits n 4 = false) : f_control_Value n = some ([], 11) := by
  unfold f_control_Value
  by_cases h0 : n < 0
  · rw [if_pos h0]
  rw [if_neg h0, gOInt_eq _ _ _ (by simp)]
  simp only [Option.bind_some]
  rw [show oint ([], 0) 0 2 = ([0, 0], 0) by decide, gOInt_eq _ _ _ (by simp; omega)]
  simp only [Option.bind_some, gOText_eq]
  have hf : fits n 4 = false := h.resolve_left h0
  rw [show oint ([0, 0], 0) n 4 = ([0, 0], 11) by unfold oint; rw [if_neg (by simp [hf])]; rfl]
  rfl
theorem rval_one (n : Int) (h0 : -9223372036854775808 ≤ n) (h1 : n ≤ 9223372036854775807) : f_r08_Value n = some ([0, 0] ++ be n 4) := by
  unfold f_r08_Value
  rw [gRBytes_eq _ _ (by omega), gRBytes_eq _ _ (by omega)]
  simp only [Option.bind_some]
  rw [if_pos (by simp [be_length]), show be 0 (2 : Int).toNat = [0, 0] by decide]
  rfl
theorem rd_key (k : Int) (h : k = 0 ∨ k = 1) : f_control_ReadKey ([0, 0] ++ be k 2) = some (k, 0) := by
  rcases h with rfl | rfl <;> kernel_rfl
theorem rd_val (n : Int) (h0 : 0 ≤ n) (h1 : n ≤ 9223372036854775807) (hf : fits n 4 = true) : f_control_ReadValue ([0, 0] ++ be n 4) = some (n, 0) := by
  have hl := be_length n 4
  rw [read_value _ (by simp [hl])]
  unfold f_r08_ReadValue
  have hb := beInt_be n 4 (by omega) (by omega) hf
  generalize be n 4 = b at *
  rw [if_neg (by simp [hl]; try omega), if_pos (by simp [hl]; try omega), gRInt_eq _ (by simp)]
  simp only [Option.bind_some]
  rw [if_pos (by simp; decide), if_neg (by simp [hl]), if_pos (by simp [hl]), gRInt_eq _ (by simp; omega)]
  simp only [Option.bind_some]
  have hq : List.take 4 (List.drop 2 ([0, 0] ++ b)) = b := by simp [List.take_of_length_le, hl]
  rw [hq, hb, if_neg (by omega), if_neg (by simp [hl])]
end Go.Proofs.YtcoppaggpbfcmaaGreat.Sl
namespace Go.Proofs.YtcoppaggpbfcmaaGreat.Sl
open Go.RowKit
set_option linter.unusedVariables false
set_option linter.unusedSimpArgs false
def mRec (e : MarkerEnd) : Rec := ⟨0, 0, ⟨false, [0, 0] ++ be e.fKind 2⟩, ⟨false, [0, 0] ++ be e.fCoordinator 4⟩, []⟩
def mkM (base leader : Int) (e : MarkerEnd) : Bat := ⟨base, leader, false, true, true, 0, e.fTime, e.fTime, e.fProducer, e.fEpoch, -1, [mRec e]⟩
def mErr (e : MarkerEnd) : Int := if e.fKind = 0 ∨ e.fKind = 1 then (if 0 ≤ e.fCoordinator ∧ fits e.fCoordinator 4 = true then 0 else 11) else 12
theorem crec_ok (e : MarkerEnd) (hw : wf_MarkerEnd e) (h : mErr e = 0) : f_control_Record e.fKind e.fCoordinator = some (mRec e, 0) := by
  unfold mErr at h
  by_cases hk : e.fKind = 0 ∨ e.fKind = 1
  · rw [if_pos hk] at h
    by_cases hc : 0 ≤ e.fCoordinator ∧ fits e.fCoordinator 4 = true
    · unfold f_control_Record
      rw [ckey_one _ hk, Option.bind_some]
      dsimp only
      rw [if_pos rfl, cval_ok _ hc.1 hw.2.2.2.2.2 hc.2, Option.bind_some]
      dsimp only
      rw [if_pos rfl, gOf_eq, Option.bind_some, gOf_eq, Option.bind_some]
      rfl
    · rw [if_neg hc] at h; exact absurd h (by decide)
  · rw [if_neg hk] at h; exact absurd h (by decide)
theorem crec_no (e : MarkerEnd) (hw : wf_MarkerEnd e) (h : mErr e ≠ 0) : ∃ x, f_control_Record e.fKind e.fCoordinator = some (x, mErr e) := by
  unfold mErr at h ⊢
  by_cases hk : e.fKind = 0 ∨ e.fKind = 1
  · rw [if_pos hk] at h ⊢
    by_cases hc : 0 ≤ e.fCoordinator ∧ fits e.fCoordinator 4 = true
    · rw [if_pos hc] at h; exact absurd rfl h
    · have hc' : e.fCoordinator < 0 ∨ fits e.fCoordinator 4 = false := by
        by_cases h0 : e.fCoordinator < 0
        · exact .inl h0
        · right
          cases hf : fits e.fCoordinator 4
          · rfl
          · exact absurd ⟨by omega, hf⟩ hc
      rw [if_neg hc]
      unfold f_control_Record
      rw [ckey_one _ hk, Option.bind_some]
      dsimp only
      rw [if_pos rfl, cval_none _ hw.2.2.2.2.2 hc', Option.bind_some]
      dsimp only
      rw [if_neg (by decide)]
      exact ⟨_, rfl⟩
  · rw [if_neg hk]
    unfold f_control_Record
    rw [ckey_none _ (fun h => hk (.inl h)) (fun h => hk (.inr h)), Option.bind_some]
    dsimp only
    rw [if_neg (by decide)]
    exact ⟨_, rfl⟩
theorem smM {base leader : Int} {e : MarkerEnd} (hb : wI base) (hl : wI leader) (hw : wf_MarkerEnd e) : smB (mkM base leader e) ∧ (body (mkM base leader e)).length ≤ 12000 := by
  obtain ⟨w1, w2, w3, w4, w5⟩ := hw
  have hwf : wf_Bat (mkM base leader e) := by
    have h0 : wI 0 := by unfold wI; decide
    have h1 : wI (-1) := by unfold wI; decide
    refine ⟨hb, hl, trivial, trivial, trivial, h0, w4, w4, w1, w2, h1, by show (1 : Nat) ≤ _; decide, fun x hx => ?_⟩
    obtain rfl : x = mRec e := List.mem_singleton.1 hx
    refine ⟨h0, h0, ⟨trivial, ?_⟩, ⟨trivial, ?_⟩, by show (0 : Nat) ≤ _; decide, fun x hx => nomatch hx⟩
    · show ([0, 0] ++ be e.fKind 2).length ≤ _
      rw [List.length_append, be_length]; decide
    · show ([0, 0] ++ be e.fCoordinator 4).length ≤ _
      rw [List.length_append, be_length]; decide
  refine smB_small hwf (by show (1 : Nat) ≤ 12; decide) (fun r hr => ?_)
  obtain rfl : r = mRec e := List.mem_singleton.1 hr
  refine ⟨?_, by show (0 : Nat) ≤ 6; decide, fun x hx => nomatch hx⟩
  show ([0, 0] ++ be e.fKind 2).length + ([0, 0] ++ be e.fCoordinator 4).length ≤ 100
  rw [List.length_append, List.length_append, be_length, be_length]; decide
def mE (base leader : Int) (e : MarkerEnd) : Int := if mErr e = 0 then chk (mkM base leader e) else mErr e
theorem mbatch {base leader : Int} {e : MarkerEnd} (hb : wI base) (hl : wI leader) (hw : wf_MarkerEnd e) : f_marker_Batch base leader e = some (if mE base leader e = 0 then (mkM base leader e, 0) else (zBat, mE base leader e)) := by
  have hs := (smM hb hl hw).1
  unfold f_marker_Batch mE
  by_cases h : mErr e = 0
  · rw [crec_ok e hw h, Option.bind_some, if_pos h]
    dsimp only
    have e1 : f_batch_Check (⟨base, leader, false, true, true, 0, e.fTime, e.fTime, e.fProducer, e.fEpoch, -1, [mRec e]⟩ : Bat) = some (chk (mkM base leader e)) := (chk_eq hs.1).1
    rw [if_pos rfl, e1, Option.bind_some]
    by_cases hc : chk (mkM base leader e) = 0
    · rw [if_pos hc, if_pos hc]; rfl
    · rw [if_neg hc, if_neg hc]; rfl
  · obtain ⟨x, hx⟩ := crec_no e hw h
    rw [hx, Option.bind_some, if_neg h, if_neg h]
    dsimp only
    rw [if_neg h]
    rfl
theorem mencode {base leader : Int} {e : MarkerEnd} (hb : wI base) (hl : wI leader) (hw : wf_MarkerEnd e) : f_marker_Encode base leader e = some (if mE base leader e = 0 then (encB (mkM base leader e), 0) else ([], mE base leader e)) := by
  have hs := (smM hb hl hw).1
  unfold f_marker_Encode
  rw [mbatch hb hl hw, Option.bind_some]
  by_cases h : mE base leader e = 0
  · have hc : chk (mkM base leader e) = 0 := by
      unfold mE at h
      by_cases h2 : mErr e = 0
      · rwa [if_pos h2] at h
      · rw [if_neg h2] at h; exact absurd h h2
    rw [if_pos h, if_pos h]
    dsimp only
    rw [if_pos rfl, benc hs, if_pos hc]
    rfl
  · rw [if_neg h, if_neg h]
    dsimp only
    rw [if_neg h]
theorem mE_zero {base leader : Int} {e : MarkerEnd} (h : mE base leader e = 0) : mErr e = 0 ∧ chk (mkM base leader e) = 0 := by
  unfold mE at h
  by_cases h2 : mErr e = 0
  · rw [if_pos h2] at h
    exact ⟨h2, h⟩
  · rw [if_neg h2] at h; exact absurd h h2
theorem mread_mk {base leader : Int} {e : MarkerEnd} (hb : wI base) (hl : wI leader) (hw : wf_MarkerEnd e) (h : mE base leader e = 0) : f_marker_Read (mkM base leader e) = some (e, true) := by
  obtain ⟨h1, h2⟩ := mE_zero h
  have hs := (smM hb hl hw).1
  have hkc : (e.fKind = 0 ∨ e.fKind = 1) ∧ 0 ≤ e.fCoordinator ∧ fits e.fCoordinator 4 = true := by
    unfold mErr at h1
    by_cases hk : e.fKind = 0 ∨ e.fKind = 1
    · rw [if_pos hk] at h1
      by_cases hc : 0 ≤ e.fCoordinator ∧ fits e.fCoordinator 4 = true
      · exact ⟨hk, hc⟩
      · rw [if_neg hc] at h1; exact absurd h1 (by decide)
    · rw [if_neg hk] at h1; exact absurd h1 (by decide)
  have hread : f_control_Read (mRec e) = some (e.fKind, e.fCoordinator, 0) := by
    unfold f_control_Read mRec
    dsimp only
    rw [if_neg (by decide), if_neg (by decide), if_neg (by decide), if_pos rfl, rd_key _ hkc.1, Option.bind_some]
    dsimp only
    rw [if_pos rfl, rd_val _ hkc.2.1 hw.2.2.2.2.2 hkc.2.2, Option.bind_some]
    rfl
  have ht := hw.2.2.2.1
  unfold f_marker_Read
  rw [(chk_eq hs.1).1, Option.bind_some, if_pos h2, if_pos (show (mkM base leader e).fControl = true from rfl)]
  show ((some (mRec e)).bind _) = _
  rw [Option.bind_some, hread, Option.bind_some]
  dsimp only
  have e0 : (mkM base leader e).fFirst + (mRec e).fTime = e.fTime := by show e.fTime + 0 = _; omega
  rw [e0, if_pos (show -9223372036854775808 ≤ e.fTime ∧ e.fTime ≤ 9223372036854775807 from ht)]
  rfl
end Go.Proofs.YtcoppaggpbfcmaaGreat.Sl
