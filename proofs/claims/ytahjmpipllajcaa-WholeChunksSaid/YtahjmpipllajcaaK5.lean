/- WholeChunks: for every input the law returns true, and its arguments read behind the call as they did before. -/
import Derived.Test.YtahjmpipllajcaaRows
import Derived.WalkKit
import Derived.ProofKit
import Derived.OpenShut
import Derived.ShutString
import Derived.ChangeOld
import Derived.Below
import Derived.SizedLaws
import Derived.Test.YtahjmpipllajcaaK4
namespace Go.Proofs.Ytahjmpipllajcaa.Sl
open Go.RowKit
set_option linter.unusedVariables false
set_option linter.unusedSimpArgs false
set_option maxRecDepth 100000
def ft_cursitortop : FTab := [(26, 0, 0), (26, 1, 1), (26, 2, 2)]
theorem ft_cursitortop_ok : (ft_cursitortop).OK Try.prog := ⟨FOK.mk Try.runUnderlying26 rfl Try.sizeOf3 rfl, FOK.mk Try.runUnderlying26 rfl Try.sizeOf3 rfl, FOK.mk Try.runUnderlying26 rfl Try.sizeOf24 rfl, trivial⟩
theorem flat_cursitortop_26 : Flat Try.prog 2 26 [.int .i64, .int .i64, .int .i64] true := (Flat.struct Try.isAgg26 Try.sizeOf26 rfl Try.underlying26 Try.stoodInHeld26 ⟨by decide, rfl, [.int .i64], [.int .i64, .int .i64], false, rfl, (Flat.one_ Try.isAgg3 Try.sizeOf3 Try.underlying3), ⟨by decide, rfl, [.int .i64], [.int .i64], false, rfl, (Flat.one_ Try.isAgg3 Try.sizeOf3 Try.underlying3), ⟨by decide, rfl, [.int .i64], [], false, rfl, (Flat.one_ Try.isAgg24 Try.sizeOf24 Try.underlying24), rfl⟩⟩⟩)
theorem bok_cursitortop_26 : BOK Try.prog 26 #[.int .i64 0, .int .i64 0, .int .i64 0] [(0, 1), (1, 1), (2, 1)] := BOK.mk Try.zeroValue26 Try.runUnderlying26 (by intro w; simp)
theorem bok_cursitortop_36 : BOK Try.prog 36 #[.int .i64 0, .int .i64 0, .bool false, .bool false, .bool false, .int .i64 0, .int .i64 0, .int .i64 0, .int .i64 0, .int .i64 0, .int .i64 0, .slice none 0 0] [(0, 1), (1, 1), (2, 1), (3, 1), (4, 1), (5, 1), (6, 1), (7, 1), (8, 1), (9, 1), (10, 1), (11, 1)] := BOK.mk Try.zeroValue36 Try.runUnderlying36 (by intro w; simp)
theorem sok_cursitortop_39_1 : SOK Try.prog 39 9 1 1 #[.string ⟨#[]⟩] := SOK.mk Try.runUnderlying39 Try.sizeOf9 Try.zeroValue9 (by decide) (by kernel_rfl)
theorem sok_cursitortop_39_2 : SOK Try.prog 39 9 2 1 #[.string ⟨#[]⟩, .string ⟨#[]⟩] := SOK.mk Try.runUnderlying39 Try.sizeOf9 Try.zeroValue9 (by decide) (by kernel_rfl)
def f_top_none  : Option (Bat × List UInt8 × Bool) := (f_batch_Encode (⟨0, 0, false, false, false, 0, 0, 0, -1, -1, -1, []⟩ : Bat)).bind fun (x3, x4) => (if x4 = 0 then (if (x3.length : Int) = 61 then some true else some false) else some false).bind fun y7 => some ((⟨0, 0, false, false, false, 0, 0, 0, -1, -1, -1, []⟩ : Bat), x3, y7)
set_option maxRecDepth 100000 in
set_option maxHeartbeats 4000000 in
theorem f_top_none_spec  (r : Bat × List UInt8 × Bool) (h : f_top_none  = some r) : SpecX Try.prog 12 #[] .triv (EmpR) (fun v A' N => ∃ (A11 : Option Addr) (c12 : Nat), v = .tuple #[.agg #[.int .i64 r.1.fBase, .int .i64 r.1.fLeader, .bool r.1.fAppend, .bool r.1.fTxn, .bool r.1.fControl, .int .i64 r.1.fLast, .int .i64 r.1.fFirst, .int .i64 r.1.fMax, .int .i64 r.1.fProducer, .int .i64 r.1.fEpoch, .int .i64 r.1.fSequence, .slice A11 r.1.fRecords.length c12], .string (bsOf r.2.1), .bool r.2.2] ∧ A' = EmpR ∧ N = [RdR (sliceRd 7 Rec_rd) [.slice A11 r.1.fRecords.length c12] r.1.fRecords]) := by
  refine enterA Try.func12 rfl Try.ntmps12 rfl ?_
  intro F w hX
  unfold f_top_none at h
  refine T.seq (T.region rfl ?_)
  refine TL.alloc rfl .u Try.zeroValue36 rfl (fun b1 => ?_)
  refine TL.run ft_cursitortop_ok [1, 2] rfl rfl ?_
  refine TL.nil (X.seq (T.seq (T.region rfl ?_)))
  refine TL.q rfl .u (Ex.bld (cells := #[.int .i64 0, .int .i64 0, .bool false, .bool false, .bool false, .int .i64 0, .int .i64 0, .int .i64 0, .int .i64 (-1), .int .i64 (-1), .int .i64 (-1), .slice none 0 0]) bok_cursitortop_36 rfl (by kernel_rfl)) rfl ?_
  refine TL.alloc rfl .u Try.zeroValue36 rfl (fun b2 => ?_)
  refine TL.st0 (cs' := #[.int .i64 0, .int .i64 0, .bool false, .bool false, .bool false, .int .i64 0, .int .i64 0, .int .i64 0, .int .i64 (-1), .int .i64 (-1), .int .i64 (-1), .slice none 0 0]) rfl .u rfl rfl Try.sizeOf36 rfl rfl rfl rfl ?_
  refine TL.nil (X.seq (T.seq (T.region rfl ?_)))
  refine TL.q rfl .u (Ex.bS (us := [.int .i64 0, .int .i64 0, .bool false, .bool false, .bool false, .int .i64 0, .int .i64 0, .int .i64 0, .int .i64 (-1), .int .i64 (-1), .int .i64 (-1), .slice none 0 0]) 0 rfl Try.isAgg36 Try.sizeOf36 rfl rfl rfl) rfl ?_
  obtain ⟨⟨x3, x4⟩, hx5, h⟩ := Option.bind_eq_some_iff.1 h
  try dsimp only at h
  refine TL.ce rfl .u (.fn Try.call27 rfl) (f_batch_Encode_spec (⟨0, 0, false, false, false, 0, 0, 0, -1, -1, -1, []⟩ : Bat) _ _ _ hx5) (fun _ hs => slice_nil_reads) rfl ?_
  refine TL.run ft_cursitortop_ok [2, 3, 4, 5, 6] rfl rfl ?_
  refine TL.nil (X.seq (T.seq ?_))
  obtain ⟨y7, h, hk8⟩ := Option.bind_eq_some_iff.1 h
  refine T.jq (fun e Rs => e = [(0, .pointer (some ⟨b1, 0, none⟩)), (1, .string (bsOf x3)), (2, .bool y7)] ∧ Rs = [BlkR b2 36 #[.int .i64 0, .int .i64 0, .bool false, .bool false, .bool false, .int .i64 0, .int .i64 0, .int .i64 0, .int .i64 (-1), .int .i64 (-1), .int .i64 (-1), .slice none 0 0], BlkR b1 36 #[.int .i64 0, .int .i64 0, .bool false, .bool false, .bool false, .int .i64 0, .int .i64 0, .int .i64 0, .int .i64 (-1), .int .i64 (-1), .int .i64 (-1), .slice none 0 0], EmpR]) ?_ ?_
  · clear hk8
    refine T.region rfl ?_
    refine TL.q rfl .u (Ex.bS (us := [.int .i64 0, .int .i64 0, .bool false, .bool false, .bool false, .int .i64 0, .int .i64 0, .int .i64 0, .int .i64 (-1), .int .i64 (-1), .int .i64 (-1), .slice none 0 0]) 0 rfl Try.isAgg36 Try.sizeOf36 rfl rfl rfl) rfl ?_
    by_cases c9 : x4 = 0
    · replace h := ifT c9 h
      refine TL.run ft_cursitortop_ok [1, 2, 3, 4] rfl rfl ?_
      refine TL.q rfl (.g rfl rfl (decide_eq_true c9)) (Ex.ft ft_cursitortop_ok rfl) rfl ?_
      refine TL.q rfl (.g rfl rfl (decide_eq_true c9)) (Ex.lenB rfl Try.runUnderlying9) rfl ?_
      refine TL.q rfl (.g rfl rfl (decide_eq_true c9)) (Ex.ft ft_cursitortop_ok rfl) rfl ?_
      refine TL.q rfl .u (Ex.py rfl (decide_eq_true c9) rfl) rfl ?_
      refine TL.st1 (cs' := #[.int .i64 0, .int .i64 0, .bool false, .bool false, .bool false, .int .i64 0, .int .i64 0, .int .i64 0, .int .i64 (-1), .int .i64 (-1), .int .i64 (-1), .slice none 0 0]) rfl .u rfl rfl Try.sizeOf36 rfl rfl rfl rfl ?_
      refine TL.run ft_cursitortop_ok [10, 11] rfl rfl ?_
      by_cases c10 : (x3.length : Int) = 61
      · replace h := ifT c10 h
        cases h
        exact TL.nil (X.as (d := 2) (v' := .bool true) rfl (congrArg Value.bool (decide_eq_true c10)) (X.jq [0, 0, 0] ⟨rfl, rfl⟩ (by rfl) (by rfl)))
      · replace h := ifF c10 h
        cases h
        exact TL.nil (X.as (d := 2) (v' := .bool false) rfl (congrArg Value.bool (decide_eq_false c10)) (X.jq [0, 0, 0] ⟨rfl, rfl⟩ (by rfl) (by rfl)))
    · replace h := ifF c9 h
      refine TL.run ft_cursitortop_ok [1, 2, 3, 4] rfl rfl ?_
      refine TL.no rfl (.gn rfl rfl (decide_eq_false c9)) rfl ?_
      refine TL.no rfl (.gn rfl rfl (decide_eq_false c9)) rfl ?_
      refine TL.no rfl (.gn rfl rfl (decide_eq_false c9)) rfl ?_
      refine TL.q rfl .u (Ex.pn rfl (decide_eq_false c9) rfl) rfl ?_
      refine TL.st1 (cs' := #[.int .i64 0, .int .i64 0, .bool false, .bool false, .bool false, .int .i64 0, .int .i64 0, .int .i64 0, .int .i64 (-1), .int .i64 (-1), .int .i64 (-1), .slice none 0 0]) rfl .u rfl rfl Try.sizeOf36 rfl rfl rfl rfl ?_
      refine TL.run ft_cursitortop_ok [10, 11] rfl rfl ?_
      cases h
      exact TL.nil (X.jq [0, 0, 0] ⟨rfl, rfl⟩ (by rfl) (by rfl))
  · rintro _ _ ⟨rfl, rfl⟩
    clear h
    have h := hk8
    clear hk8
    try dsimp only at h
    obtain rfl := Option.some.inj h
    refine X.seq (T.ret ?_)
    refine X.nilrd 7 Rec_rd ?_
    exact X.done3 [3, 0] Try.results12 (RV.cS (us := #[.int .i64 0, .int .i64 0, .bool false, .bool false, .bool false, .int .i64 0, .int .i64 0, .int .i64 0, .int .i64 (-1), .int .i64 (-1), .int .i64 (-1), .slice none 0 0]) 2 rfl Try.isAgg36 Try.sizeOf36 rfl rfl) (RV.tm rfl) (RV.tm rfl) ⟨_, _, rfl, rfl, rfl⟩ (by rfl) (.inl rfl)
def f_top_WholeChunks (a0 : List UInt8) (a1 : List UInt8) (a2 : List Int) : Option (Bool) := (f_top_none).bind fun (x3, x6, x7) => if x7 = true then ((if (a0.length : Int) > 1500 then some true else (if (a1.length : Int) > 1500 then some true else (if (a2.length : Int) > 200 then some true else some false))).bind fun y13 => if y13 = true then some true else ((f_scan_Scan [a0]).bind fun (x20, x23) => (f_l22_Cut a0 a2).bind fun x26 => (f_scan_Scan x26).bind fun (x30, x33) => (if x23.fValid = x33.fValid then (if x23.fStop = x33.fStop then (if x23.fErr = x33.fErr then ((f_r11_Rows x20 x30).bind fun x46 => if x46 = true then some false else some true) else some true) else some true) else some true).bind fun y41 => if y41 = true then none else ((f_scan_Scan [a0, a1]).bind fun (x51, x54) => if x23.fStop = 2 then (((f_r11_Rows x20 x51).bind fun x66 => if x66 = true then (if x54.fValid = x23.fValid then (if x54.fStop = x23.fStop then (if x54.fErr = x23.fErr then some true else some false) else some false) else some false) else some false).bind fun y64 => some y64) else (if x23.fStop = 0 then ((f_scan_Scan [a1]).bind fun (x74, x77) => (if -9223372036854775808 ≤ ((x20.length : Int) + (x74.length : Int)) ∧ ((x20.length : Int) + (x74.length : Int)) ≤ 9223372036854775807 then (if (x51.length : Int) = ((x20.length : Int) + (x74.length : Int)) then (if x20.length ≤ x51.length then ((f_r11_Rows (x51.take x20.length) x20).bind fun x99 => if x99 = true then (if x20.length ≤ x51.length then ((f_r11_Rows (x51.drop x20.length) x74).bind fun x103 => if x103 = true then (if -9223372036854775808 ≤ (x23.fValid + x77.fValid) ∧ (x23.fValid + x77.fValid) ≤ 9223372036854775807 then (if x54.fValid = (x23.fValid + x77.fValid) then (if x54.fStop = x77.fStop then (if x54.fErr = x77.fErr then some true else some false) else some false) else some false) else none) else some false) else none) else some false) else none) else some false) else none).bind fun y94 => some y94) else ((if (x51.length : Int) ≥ (x20.length : Int) then (if x20.length ≤ x51.length then ((f_r11_Rows (x51.take x20.length) x20).bind fun x119 => if x119 = true then (if x54.fValid ≥ x23.fValid then some true else some false) else some false) else none) else some false).bind fun y115 => some y115))))) else none
set_option maxRecDepth 100000 in
set_option maxHeartbeats 4000000 in
theorem f_top_WholeChunks_spec (a0 : List UInt8) (a1 : List UInt8) (a2 : List Int) (A1 : Option Addr) (c2 : Nat) (r : Bool) (h : f_top_WholeChunks a0 a1 a2 = some r) : SpecX Try.prog 4 #[.string (bsOf a0), .string (bsOf a1), .slice A1 a2.length c2] (RX.of (sliceRd 1 u8E) [.slice A1 a2.length c2] a2) (EmpR) (fun v A' N => v = .bool r ∧ A' = EmpR ∧ N = []) := by
  refine enterA Try.func4 rfl Try.ntmps4 rfl ?_
  intro F w hX
  unfold f_top_WholeChunks at h
  refine T.seq (T.region rfl ?_)
  refine TL.run ft_cursitortop_ok [0] rfl rfl ?_
  obtain ⟨⟨x3, x6, x7⟩, hx8, h⟩ := Option.bind_eq_some_iff.1 h
  try dsimp only at h
  refine TL.nil (X.seq (T.seq (T.seq (T.region rfl ?_))))
  refine TL.cge rfl .u (.fn Try.call12 rfl) (f_top_none_spec _ hx8) (fun _ hs => (RX.reads_triv _ _)) rfl ?_
  rintro _ _ _ ⟨A4, c5, rfl, rfl, rfl⟩
  refine TL.sel [0, 0] rfl ?_
  refine TL.run ft_cursitortop_ok [1, 2, 3, 4] rfl rfl ?_
  refine TL.alloc rfl .u Try.zeroValue36 rfl (fun b9 => ?_)
  refine TL.st0 (cs' := #[.int .i64 x3.fBase, .int .i64 x3.fLeader, .bool x3.fAppend, .bool x3.fTxn, .bool x3.fControl, .int .i64 x3.fLast, .int .i64 x3.fFirst, .int .i64 x3.fMax, .int .i64 x3.fProducer, .int .i64 x3.fEpoch, .int .i64 x3.fSequence, .slice A4 x3.fRecords.length c5]) rfl .u rfl rfl Try.sizeOf36 rfl rfl rfl rfl ?_
  refine TL.run ft_cursitortop_ok [7, 8] rfl rfl ?_
  refine TL.nil (X.seq (T.seq (T.region rfl ?_)))
  refine TL.run ft_cursitortop_ok [0, 1] rfl rfl ?_
  by_cases c10 : x7 = true
  · replace h := ifT c10 h
    refine TL.nil (X.seq ?_)
    refine T.no rfl (bn_f c10) ?_
    refine T.skip (X.seq (T.seq (T.seq ?_)))
    obtain ⟨y13, h, hk14⟩ := Option.bind_eq_some_iff.1 h
    refine T.jq (fun e Rs => e = [(0, .string (bsOf a0)), (1, .string (bsOf a1)), (2, .slice A1 a2.length c2), (6, .bool false), (37, .bool y13)] ∧ Rs = [BlkR b9 36 #[.int .i64 x3.fBase, .int .i64 x3.fLeader, .bool x3.fAppend, .bool x3.fTxn, .bool x3.fControl, .int .i64 x3.fLast, .int .i64 x3.fFirst, .int .i64 x3.fMax, .int .i64 x3.fProducer, .int .i64 x3.fEpoch, .int .i64 x3.fSequence, .slice A4 x3.fRecords.length c5], RdR (sliceRd 7 Rec_rd) [.slice A4 x3.fRecords.length c5] x3.fRecords, EmpR]) ?_ ?_
    · clear hk14
      refine T.region rfl ?_
      refine TL.run ft_cursitortop_ok [0] rfl rfl ?_
      refine TL.q rfl .u (Ex.lenB rfl Try.runUnderlying9) rfl ?_
      by_cases c15 : (a0.length : Int) > 1500
      · replace h := ifT c15 h
        refine TL.run ft_cursitortop_ok [2, 3] rfl rfl ?_
        refine TL.no rfl (.gn rfl rfl (decide_eq_true c15)) rfl ?_
        refine TL.no rfl (.gn rfl rfl (decide_eq_true c15)) rfl ?_
        refine TL.no rfl (.gn rfl rfl (decide_eq_true c15)) rfl ?_
        refine TL.q rfl .u (Ex.py rfl (decide_eq_true c15) rfl) rfl ?_
        refine TL.run ft_cursitortop_ok [8] rfl rfl ?_
        refine TL.no rfl (.gn rfl rfl rfl) rfl ?_
        refine TL.no rfl (.gn rfl rfl rfl) rfl ?_
        refine TL.no rfl (.gn rfl rfl rfl) rfl ?_
        refine TL.q rfl .u (Ex.py rfl rfl rfl) rfl ?_
        cases h
        exact TL.nil (X.jq [0, 0, 0] ⟨rfl, rfl⟩ (by rfl) (by rfl))
      · replace h := ifF c15 h
        refine TL.run ft_cursitortop_ok [2, 3] rfl rfl ?_
        refine TL.q rfl (.g rfl rfl (decide_eq_false c15)) (Ex.ft ft_cursitortop_ok rfl) rfl ?_
        refine TL.q rfl (.g rfl rfl (decide_eq_false c15)) (Ex.lenB rfl Try.runUnderlying9) rfl ?_
        refine TL.q rfl (.g rfl rfl (decide_eq_false c15)) (Ex.ft ft_cursitortop_ok rfl) rfl ?_
        refine TL.q rfl .u (Ex.pn rfl (decide_eq_false c15) rfl) rfl ?_
        by_cases c16 : (a1.length : Int) > 1500
        · replace h := ifT c16 h
          refine TL.run ft_cursitortop_ok [8] rfl rfl ?_
          refine TL.no rfl (.gn rfl rfl (decide_eq_true c16)) rfl ?_
          refine TL.no rfl (.gn rfl rfl (decide_eq_true c16)) rfl ?_
          refine TL.no rfl (.gn rfl rfl (decide_eq_true c16)) rfl ?_
          refine TL.q rfl .u (Ex.py rfl (decide_eq_true c16) rfl) rfl ?_
          cases h
          exact TL.nil (X.jq [0, 0, 0] ⟨rfl, rfl⟩ (by rfl) (by rfl))
        · replace h := ifF c16 h
          refine TL.run ft_cursitortop_ok [8] rfl rfl ?_
          refine TL.q rfl (.g rfl rfl (decide_eq_false c16)) (Ex.ft ft_cursitortop_ok rfl) rfl ?_
          refine TL.q rfl (.g rfl rfl (decide_eq_false c16)) (Ex.lenS rfl Try.runUnderlying33) rfl ?_
          refine TL.q rfl (.g rfl rfl (decide_eq_false c16)) (Ex.ft ft_cursitortop_ok rfl) rfl ?_
          refine TL.q rfl .u (Ex.pn rfl (decide_eq_false c16) rfl) rfl ?_
          by_cases c17 : (a2.length : Int) > 200
          · replace h := ifT c17 h
            cases h
            exact TL.nil (X.as (d := 37) (v' := .bool true) rfl (congrArg Value.bool (decide_eq_true c17)) (X.jq [0, 0, 0] ⟨rfl, rfl⟩ (by rfl) (by rfl)))
          · replace h := ifF c17 h
            cases h
            exact TL.nil (X.as (d := 37) (v' := .bool false) rfl (congrArg Value.bool (decide_eq_false c17)) (X.jq [0, 0, 0] ⟨rfl, rfl⟩ (by rfl) (by rfl)))
    · rintro _ _ ⟨rfl, rfl⟩
      clear h
      have h := hk14
      clear hk14
      try dsimp only at h
      by_cases c18 : y13 = true
      · replace h := ifT c18 h
        refine X.seq ?_
        refine T.yes rfl c18 ?_
        refine T.seq (T.region rfl ?_)
        refine TL.run ft_cursitortop_ok [0] rfl rfl ?_
        obtain rfl := Option.some.inj h
        exact TL.nil (X.seq (T.ret (X.rs (X.done1 [2] Try.results4 (RV.tm rfl) ⟨rfl, rfl, rfl⟩ (by rfl) (.inl rfl)))))
      · replace h := ifF c18 h
        replace c18 := eq_false_of_ne_true c18
        refine X.seq ?_
        refine T.no rfl c18 ?_
        refine T.skip (X.seq (T.seq (T.region rfl ?_)))
        refine TL.run ft_cursitortop_ok [0] rfl rfl ?_
        refine TL.lit (cells := #[.string (bsOf a0)]) rfl .u sok_cursitortop_39_1 rfl (by rfl) rfl (fun b19 => ?_)
        refine TL.rowOf (us := [.string (bsOf a0)]) (xs := [a0]) (E := strE) (z := 1) rfl (Nat.le_of_ble_eq_true rfl) (fun _ => ⟨rfl, rfl, rfl⟩) ?_
        obtain ⟨⟨x20, x23⟩, hx24, h⟩ := Option.bind_eq_some_iff.1 h
        try dsimp only at h
        refine TL.cge rfl .u (.fn Try.call9 rfl) (f_scan_Scan_spec [a0] _ _ _ hx24) (fun _ hs => (SrcE.res 0 hs rfl (fun w G h => own_reads (by decide) w G h))) rfl ?_
        rintro _ _ _ ⟨A21, c22, rfl, rfl, rfl⟩
        refine TL.sel [0, 0, 0, 0, 0] rfl ?_
        refine TL.run ft_cursitortop_ok [3, 4, 5] rfl rfl ?_
        refine TL.alloc rfl .u Try.zeroValue26 rfl (fun b25 => ?_)
        refine TL.run ft_cursitortop_ok [7] rfl rfl ?_
        refine TL.st0 (cs' := #[.int .i64 x23.fValid, .int .i64 x23.fStop, .int .i64 x23.fErr]) rfl .u rfl rfl Try.sizeOf26 rfl rfl rfl rfl ?_
        refine TL.nil (X.seq (T.seq (T.region rfl ?_)))
        obtain ⟨x26, hx29, h⟩ := Option.bind_eq_some_iff.1 h
        refine TL.run ft_cursitortop_ok [0, 1] rfl rfl ?_
        refine TL.cge rfl .u (.fn Try.call13 rfl) (f_l22_Cut_spec a0 a2 _ _ _ hx29) (fun _ hs => (SrcE.old hs hX)) rfl ?_
        rintro _ _ _ ⟨A27, c28, rfl, rfl, rfl⟩
        refine TL.sel [0, 0, 0, 0, 0, 0, 0] rfl ?_
        obtain ⟨⟨x30, x33⟩, hx34, h⟩ := Option.bind_eq_some_iff.1 h
        try dsimp only at h
        refine TL.cge rfl .u (.fn Try.call9 rfl) (f_scan_Scan_spec x26 _ _ _ hx34) (fun _ hs => (SrcE.res 0 hs rfl (fun w G h => rd_reads w G h))) rfl ?_
        rintro _ _ _ ⟨A31, c32, rfl, rfl, rfl⟩
        refine TL.sel [0, 0, 0, 0, 0, 0, 0, 0] rfl ?_
        refine TL.run ft_cursitortop_ok [4, 5, 6] rfl rfl ?_
        refine TL.alloc rfl .u Try.zeroValue26 rfl (fun b35 => ?_)
        refine TL.run ft_cursitortop_ok [8] rfl rfl ?_
        refine TL.st0 (cs' := #[.int .i64 x33.fValid, .int .i64 x33.fStop, .int .i64 x33.fErr]) rfl .u rfl rfl Try.sizeOf26 rfl rfl rfl rfl ?_
        refine TL.nil (X.seq (T.seq (T.seq ?_)))
        obtain ⟨y41, h, hk42⟩ := Option.bind_eq_some_iff.1 h
        refine T.jq (fun e Rs => e = [(0, .string (bsOf a0)), (1, .string (bsOf a1)), (6, .bool false), (10, .slice A21 x20.length c22), (11, .pointer (some ⟨b25, 0, none⟩)), (59, .bool y41)] ∧ Rs = [BlkR b35 26 #[.int .i64 x33.fValid, .int .i64 x33.fStop, .int .i64 x33.fErr], RdR (sliceRd 12 Bat_rd) [.slice A31 x30.length c32] x30, RdR (sliceRd 1 strE) [.slice A27 x26.length c28] x26, BlkR b25 26 #[.int .i64 x23.fValid, .int .i64 x23.fStop, .int .i64 x23.fErr], RdR (sliceRd 12 Bat_rd) [.slice A21 x20.length c22] x20, OwnR 9 1 strE (.slice (some ⟨b19, 0, none⟩) 1 1) [a0], BlkR b9 36 #[.int .i64 x3.fBase, .int .i64 x3.fLeader, .bool x3.fAppend, .bool x3.fTxn, .bool x3.fControl, .int .i64 x3.fLast, .int .i64 x3.fFirst, .int .i64 x3.fMax, .int .i64 x3.fProducer, .int .i64 x3.fEpoch, .int .i64 x3.fSequence, .slice A4 x3.fRecords.length c5], RdR (sliceRd 7 Rec_rd) [.slice A4 x3.fRecords.length c5] x3.fRecords, EmpR]) ?_ ?_
        · clear hk42
          refine T.region rfl ?_
          refine TL.q rfl .u (Ex.bS (us := [.int .i64 x23.fValid, .int .i64 x23.fStop, .int .i64 x23.fErr]) 3 rfl Try.isAgg26 Try.sizeOf26 rfl rfl rfl) rfl ?_
          refine TL.q rfl .u (Ex.bS (us := [.int .i64 x33.fValid, .int .i64 x33.fStop, .int .i64 x33.fErr]) 0 rfl Try.isAgg26 Try.sizeOf26 rfl rfl rfl) rfl ?_
          by_cases c43 : x23.fValid = x33.fValid
          · replace h := ifT c43 h
            by_cases c44 : x23.fStop = x33.fStop
            · replace h := ifT c44 h
              by_cases c45 : x23.fErr = x33.fErr
              · replace h := ifT c45 h
                refine TL.q rfl .u (Ex.aNe (us := [.int .i64 x23.fValid, .int .i64 x23.fStop, .int .i64 x23.fErr]) (vs := [.int .i64 x33.fValid, .int .i64 x33.fStop, .int .i64 x33.fErr]) flat_cursitortop_26 rfl Try.eqGuardType26 rfl rfl rfl rfl (eqL_t (eqV_i c43) (eqL_t (eqV_i c44) (eqL_t (eqV_i c45) rfl)))) rfl ?_
                refine TL.run ft_cursitortop_ok [3] rfl rfl ?_
                refine TL.q rfl (.g rfl rfl rfl) (Ex.ft ft_cursitortop_ok rfl) rfl ?_
                refine TL.q rfl (.g rfl rfl rfl) (Ex.ft ft_cursitortop_ok rfl) rfl ?_
                obtain ⟨x46, hx47, h⟩ := Option.bind_eq_some_iff.1 h
                refine TL.ce rfl (.g rfl rfl rfl) (.fn Try.call11 rfl) (f_r11_Rows_spec x20 _ _ x30 _ _ _ hx47) (fun _ hs => (RX.reads_and (SrcE.res 4 hs rfl (fun w G h => rd_reads w G h)) (SrcE.res 1 hs rfl (fun w G h => rd_reads w G h)))) rfl ?_
                refine TL.q rfl (.g rfl rfl rfl) (Ex.ft ft_cursitortop_ok rfl) rfl ?_
                refine TL.q rfl .u (Ex.pn rfl rfl rfl) rfl ?_
                by_cases c48 : x46 = true
                · replace h := ifT c48 h
                  cases h
                  exact TL.nil (X.as (d := 59) (v' := .bool false) rfl (congrArg Value.bool (bn_f c48)) (X.jq [0, 0, 0, 0, 0, 0, 0, 0, 0] ⟨rfl, rfl⟩ (by rfl) (by rfl)))
                · replace h := ifF c48 h
                  replace c48 := eq_false_of_ne_true c48
                  cases h
                  exact TL.nil (X.as (d := 59) (v' := .bool true) rfl (congrArg Value.bool (bn_t c48)) (X.jq [0, 0, 0, 0, 0, 0, 0, 0, 0] ⟨rfl, rfl⟩ (by rfl) (by rfl)))
              · replace h := ifF c45 h
                refine TL.q rfl .u (Ex.aNe (us := [.int .i64 x23.fValid, .int .i64 x23.fStop, .int .i64 x23.fErr]) (vs := [.int .i64 x33.fValid, .int .i64 x33.fStop, .int .i64 x33.fErr]) flat_cursitortop_26 rfl Try.eqGuardType26 rfl rfl rfl rfl (eqL_t (eqV_i c43) (eqL_t (eqV_i c44) (eqL_f (eqV_in c45))))) rfl ?_
                refine TL.run ft_cursitortop_ok [3] rfl rfl ?_
                refine TL.no rfl (.gn rfl rfl rfl) rfl ?_
                refine TL.no rfl (.gn rfl rfl rfl) rfl ?_
                refine TL.no rfl (.gn rfl rfl rfl) rfl ?_
                refine TL.no rfl (.gn rfl rfl rfl) rfl ?_
                refine TL.q rfl .u (Ex.py rfl rfl rfl) rfl ?_
                cases h
                exact TL.nil (X.jq [0, 0, 0, 0, 0, 0, 0, 0, 0] ⟨rfl, rfl⟩ (by rfl) (by rfl))
            · replace h := ifF c44 h
              refine TL.q rfl .u (Ex.aNe (us := [.int .i64 x23.fValid, .int .i64 x23.fStop, .int .i64 x23.fErr]) (vs := [.int .i64 x33.fValid, .int .i64 x33.fStop, .int .i64 x33.fErr]) flat_cursitortop_26 rfl Try.eqGuardType26 rfl rfl rfl rfl (eqL_t (eqV_i c43) (eqL_f (eqV_in c44)))) rfl ?_
              refine TL.run ft_cursitortop_ok [3] rfl rfl ?_
              refine TL.no rfl (.gn rfl rfl rfl) rfl ?_
              refine TL.no rfl (.gn rfl rfl rfl) rfl ?_
              refine TL.no rfl (.gn rfl rfl rfl) rfl ?_
              refine TL.no rfl (.gn rfl rfl rfl) rfl ?_
              refine TL.q rfl .u (Ex.py rfl rfl rfl) rfl ?_
              cases h
              exact TL.nil (X.jq [0, 0, 0, 0, 0, 0, 0, 0, 0] ⟨rfl, rfl⟩ (by rfl) (by rfl))
          · replace h := ifF c43 h
            refine TL.q rfl .u (Ex.aNe (us := [.int .i64 x23.fValid, .int .i64 x23.fStop, .int .i64 x23.fErr]) (vs := [.int .i64 x33.fValid, .int .i64 x33.fStop, .int .i64 x33.fErr]) flat_cursitortop_26 rfl Try.eqGuardType26 rfl rfl rfl rfl (eqL_f (eqV_in c43))) rfl ?_
            refine TL.run ft_cursitortop_ok [3] rfl rfl ?_
            refine TL.no rfl (.gn rfl rfl rfl) rfl ?_
            refine TL.no rfl (.gn rfl rfl rfl) rfl ?_
            refine TL.no rfl (.gn rfl rfl rfl) rfl ?_
            refine TL.no rfl (.gn rfl rfl rfl) rfl ?_
            refine TL.q rfl .u (Ex.py rfl rfl rfl) rfl ?_
            cases h
            exact TL.nil (X.jq [0, 0, 0, 0, 0, 0, 0, 0, 0] ⟨rfl, rfl⟩ (by rfl) (by rfl))
        · rintro _ _ ⟨rfl, rfl⟩
          clear h
          have h := hk42
          clear hk42
          try dsimp only at h
          by_cases c49 : y41 = true
          · replace h := ifT c49 h
            refine X.seq ?_
            refine T.yes rfl c49 ?_
            exact nomatch h
          · replace h := ifF c49 h
            replace c49 := eq_false_of_ne_true c49
            refine X.seq ?_
            refine T.no rfl c49 ?_
            refine T.skip (X.seq (T.seq (T.region rfl ?_)))
            refine TL.run ft_cursitortop_ok [0, 1] rfl rfl ?_
            refine TL.lit (cells := #[.string (bsOf a0), .string (bsOf a1)]) rfl .u sok_cursitortop_39_2 rfl (by rfl) rfl (fun b50 => ?_)
            refine TL.rowOf (us := [.string (bsOf a0), .string (bsOf a1)]) (xs := [a0, a1]) (E := strE) (z := 1) rfl (Nat.le_of_ble_eq_true rfl) (fun _ => ⟨rfl, rfl, ⟨rfl, rfl, rfl⟩⟩) ?_
            obtain ⟨⟨x51, x54⟩, hx55, h⟩ := Option.bind_eq_some_iff.1 h
            try dsimp only at h
            refine TL.cge rfl .u (.fn Try.call9 rfl) (f_scan_Scan_spec [a0, a1] _ _ _ hx55) (fun _ hs => (SrcE.res 0 hs rfl (fun w G h => own_reads (by decide) w G h))) rfl ?_
            rintro _ _ _ ⟨A52, c53, rfl, rfl, rfl⟩
            refine TL.sel [0, 0, 0, 0, 0, 0, 0, 0, 0, 0, 0] rfl ?_
            refine TL.run ft_cursitortop_ok [4, 5, 6] rfl rfl ?_
            refine TL.alloc rfl .u Try.zeroValue26 rfl (fun b56 => ?_)
            refine TL.run ft_cursitortop_ok [8] rfl rfl ?_
            refine TL.st0 (cs' := #[.int .i64 x54.fValid, .int .i64 x54.fStop, .int .i64 x54.fErr]) rfl .u rfl rfl Try.sizeOf26 rfl rfl rfl rfl ?_
            refine TL.nil (X.seq (T.seq (T.seq (T.region rfl ?_))))
            refine TL.run ft_cursitortop_ok [0] rfl rfl ?_
            refine TL.q rfl .u (Ex.b1 6 rfl Try.isAgg3 rfl rfl) rfl ?_
            refine TL.run ft_cursitortop_ok [2] rfl rfl ?_
            by_cases c57 : x23.fStop = 2
            · replace h := ifT c57 h
              refine TL.nil (X.seq ?_)
              refine T.yes rfl (decide_eq_true c57) ?_
              refine T.seq ?_
              obtain ⟨y64, h, hk65⟩ := Option.bind_eq_some_iff.1 h
              refine T.jq (fun e Rs => e = [(1, .string (bsOf a1)), (6, .bool y64), (10, .slice A21 x20.length c22), (11, .pointer (some ⟨b25, 0, none⟩)), (14, .slice A52 x51.length c53), (15, .pointer (some ⟨b56, 0, none⟩))] ∧ Rs = [BlkR b56 26 #[.int .i64 x54.fValid, .int .i64 x54.fStop, .int .i64 x54.fErr], RdR (sliceRd 12 Bat_rd) [.slice A52 x51.length c53] x51, OwnR 9 1 strE (.slice (some ⟨b50, 0, none⟩) 2 2) [a0, a1], BlkR b35 26 #[.int .i64 x33.fValid, .int .i64 x33.fStop, .int .i64 x33.fErr], RdR (sliceRd 12 Bat_rd) [.slice A31 x30.length c32] x30, RdR (sliceRd 1 strE) [.slice A27 x26.length c28] x26, BlkR b25 26 #[.int .i64 x23.fValid, .int .i64 x23.fStop, .int .i64 x23.fErr], RdR (sliceRd 12 Bat_rd) [.slice A21 x20.length c22] x20, OwnR 9 1 strE (.slice (some ⟨b19, 0, none⟩) 1 1) [a0], BlkR b9 36 #[.int .i64 x3.fBase, .int .i64 x3.fLeader, .bool x3.fAppend, .bool x3.fTxn, .bool x3.fControl, .int .i64 x3.fLast, .int .i64 x3.fFirst, .int .i64 x3.fMax, .int .i64 x3.fProducer, .int .i64 x3.fEpoch, .int .i64 x3.fSequence, .slice A4 x3.fRecords.length c5], RdR (sliceRd 7 Rec_rd) [.slice A4 x3.fRecords.length c5] x3.fRecords, EmpR]) ?_ ?_
              · clear hk65
                refine T.region rfl ?_
                obtain ⟨x66, hx67, h⟩ := Option.bind_eq_some_iff.1 h
                refine TL.run ft_cursitortop_ok [0, 1] rfl rfl ?_
                refine TL.ce rfl .u (.fn Try.call11 rfl) (f_r11_Rows_spec x20 _ _ x51 _ _ _ hx67) (fun _ hs => (RX.reads_and (SrcE.res 7 hs rfl (fun w G h => rd_reads w G h)) (SrcE.res 1 hs rfl (fun w G h => rd_reads w G h)))) rfl ?_
                by_cases c68 : x66 = true
                · replace h := ifT c68 h
                  refine TL.run ft_cursitortop_ok [3] rfl rfl ?_
                  refine TL.q rfl (.g rfl rfl c68) (Ex.bS (us := [.int .i64 x54.fValid, .int .i64 x54.fStop, .int .i64 x54.fErr]) 0 rfl Try.isAgg26 Try.sizeOf26 rfl rfl rfl) rfl ?_
                  refine TL.q rfl (.g rfl rfl c68) (Ex.bS (us := [.int .i64 x23.fValid, .int .i64 x23.fStop, .int .i64 x23.fErr]) 6 rfl Try.isAgg26 Try.sizeOf26 rfl rfl rfl) rfl ?_
                  by_cases c69 : x54.fValid = x23.fValid
                  · replace h := ifT c69 h
                    by_cases c70 : x54.fStop = x23.fStop
                    · replace h := ifT c70 h
                      by_cases c71 : x54.fErr = x23.fErr
                      · replace h := ifT c71 h
                        refine TL.q rfl (.g rfl rfl c68) (Ex.aEq (us := [.int .i64 x54.fValid, .int .i64 x54.fStop, .int .i64 x54.fErr]) (vs := [.int .i64 x23.fValid, .int .i64 x23.fStop, .int .i64 x23.fErr]) flat_cursitortop_26 rfl Try.eqGuardType26 rfl rfl rfl rfl (eqL_t (eqV_i c69) (eqL_t (eqV_i c70) (eqL_t (eqV_i c71) rfl)))) rfl ?_
                        refine TL.q rfl .u (Ex.py rfl c68 rfl) rfl ?_
                        refine TL.run ft_cursitortop_ok [8] rfl rfl ?_
                        cases h
                        exact TL.nil (X.jq [0, 0, 0, 0, 0, 0, 0, 0, 0, 0, 0, 0] ⟨rfl, rfl⟩ (by rfl) (by rfl))
                      · replace h := ifF c71 h
                        refine TL.q rfl (.g rfl rfl c68) (Ex.aEq (us := [.int .i64 x54.fValid, .int .i64 x54.fStop, .int .i64 x54.fErr]) (vs := [.int .i64 x23.fValid, .int .i64 x23.fStop, .int .i64 x23.fErr]) flat_cursitortop_26 rfl Try.eqGuardType26 rfl rfl rfl rfl (eqL_t (eqV_i c69) (eqL_t (eqV_i c70) (eqL_f (eqV_in c71))))) rfl ?_
                        refine TL.q rfl .u (Ex.py rfl c68 rfl) rfl ?_
                        refine TL.run ft_cursitortop_ok [8] rfl rfl ?_
                        cases h
                        exact TL.nil (X.jq [0, 0, 0, 0, 0, 0, 0, 0, 0, 0, 0, 0] ⟨rfl, rfl⟩ (by rfl) (by rfl))
                    · replace h := ifF c70 h
                      refine TL.q rfl (.g rfl rfl c68) (Ex.aEq (us := [.int .i64 x54.fValid, .int .i64 x54.fStop, .int .i64 x54.fErr]) (vs := [.int .i64 x23.fValid, .int .i64 x23.fStop, .int .i64 x23.fErr]) flat_cursitortop_26 rfl Try.eqGuardType26 rfl rfl rfl rfl (eqL_t (eqV_i c69) (eqL_f (eqV_in c70)))) rfl ?_
                      refine TL.q rfl .u (Ex.py rfl c68 rfl) rfl ?_
                      refine TL.run ft_cursitortop_ok [8] rfl rfl ?_
                      cases h
                      exact TL.nil (X.jq [0, 0, 0, 0, 0, 0, 0, 0, 0, 0, 0, 0] ⟨rfl, rfl⟩ (by rfl) (by rfl))
                  · replace h := ifF c69 h
                    refine TL.q rfl (.g rfl rfl c68) (Ex.aEq (us := [.int .i64 x54.fValid, .int .i64 x54.fStop, .int .i64 x54.fErr]) (vs := [.int .i64 x23.fValid, .int .i64 x23.fStop, .int .i64 x23.fErr]) flat_cursitortop_26 rfl Try.eqGuardType26 rfl rfl rfl rfl (eqL_f (eqV_in c69))) rfl ?_
                    refine TL.q rfl .u (Ex.py rfl c68 rfl) rfl ?_
                    refine TL.run ft_cursitortop_ok [8] rfl rfl ?_
                    cases h
                    exact TL.nil (X.jq [0, 0, 0, 0, 0, 0, 0, 0, 0, 0, 0, 0] ⟨rfl, rfl⟩ (by rfl) (by rfl))
                · replace h := ifF c68 h
                  replace c68 := eq_false_of_ne_true c68
                  refine TL.run ft_cursitortop_ok [3] rfl rfl ?_
                  refine TL.no rfl (.gn rfl rfl c68) rfl ?_
                  refine TL.no rfl (.gn rfl rfl c68) rfl ?_
                  refine TL.no rfl (.gn rfl rfl c68) rfl ?_
                  refine TL.q rfl .u (Ex.pn rfl c68 rfl) rfl ?_
                  refine TL.run ft_cursitortop_ok [8] rfl rfl ?_
                  cases h
                  exact TL.nil (X.jq [0, 0, 0, 0, 0, 0, 0, 0, 0, 0, 0, 0] ⟨rfl, rfl⟩ (by rfl) (by rfl))
              · rintro _ _ ⟨rfl, rfl⟩
                clear h
                have h := hk65
                clear hk65
                try dsimp only at h
                obtain rfl := Option.some.inj h
                exact X.seq (T.ret (X.rs (X.done1 [11] Try.results4 (RV.tm rfl) ⟨rfl, rfl, rfl⟩ (by rfl) (.inl rfl))))
            · replace h := ifF c57 h
              refine TL.nil (X.seq ?_)
              refine T.no rfl (decide_eq_false c57) ?_
              refine T.skip (X.seq (T.seq (T.seq (T.region rfl ?_))))
              refine TL.run ft_cursitortop_ok [0] rfl rfl ?_
              refine TL.q rfl .u (Ex.b1 6 rfl Try.isAgg3 rfl rfl) rfl ?_
              refine TL.run ft_cursitortop_ok [2] rfl rfl ?_
              by_cases c72 : x23.fStop = 0
              · replace h := ifT c72 h
                refine TL.nil (X.seq ?_)
                refine T.no rfl (bn_f (decide_eq_true c72)) ?_
                refine T.skip (X.seq (T.seq (T.region rfl ?_)))
                refine TL.run ft_cursitortop_ok [0] rfl rfl ?_
                refine TL.lit (cells := #[.string (bsOf a1)]) rfl .u sok_cursitortop_39_1 rfl (by rfl) rfl (fun b73 => ?_)
                refine TL.rowOf (us := [.string (bsOf a1)]) (xs := [a1]) (E := strE) (z := 1) rfl (Nat.le_of_ble_eq_true rfl) (fun _ => ⟨rfl, rfl, rfl⟩) ?_
                obtain ⟨⟨x74, x77⟩, hx78, h⟩ := Option.bind_eq_some_iff.1 h
                try dsimp only at h
                refine TL.cge rfl .u (.fn Try.call9 rfl) (f_scan_Scan_spec [a1] _ _ _ hx78) (fun _ hs => (SrcE.res 0 hs rfl (fun w G h => own_reads (by decide) w G h))) rfl ?_
                rintro _ _ _ ⟨A75, c76, rfl, rfl, rfl⟩
                refine TL.sel [0, 0, 0, 0, 0, 0, 0, 0, 0, 0, 0, 0, 0, 0] rfl ?_
                refine TL.run ft_cursitortop_ok [3, 4, 5] rfl rfl ?_
                refine TL.alloc rfl .u Try.zeroValue26 rfl (fun b79 => ?_)
                refine TL.run ft_cursitortop_ok [7] rfl rfl ?_
                refine TL.st0 (cs' := #[.int .i64 x77.fValid, .int .i64 x77.fStop, .int .i64 x77.fErr]) rfl .u rfl rfl Try.sizeOf26 rfl rfl rfl rfl ?_
                refine TL.nil (X.seq (T.seq ?_))
                obtain ⟨y94, h, hk95⟩ := Option.bind_eq_some_iff.1 h
                refine T.jq (fun e Rs => e = [(6, .bool y94)] ∧ Rs = [BlkR b79 26 #[.int .i64 x77.fValid, .int .i64 x77.fStop, .int .i64 x77.fErr], RdR (sliceRd 12 Bat_rd) [.slice A75 x74.length c76] x74, OwnR 9 1 strE (.slice (some ⟨b73, 0, none⟩) 1 1) [a1], BlkR b56 26 #[.int .i64 x54.fValid, .int .i64 x54.fStop, .int .i64 x54.fErr], RdR (sliceRd 12 Bat_rd) [.slice A52 x51.length c53] x51, OwnR 9 1 strE (.slice (some ⟨b50, 0, none⟩) 2 2) [a0, a1], BlkR b35 26 #[.int .i64 x33.fValid, .int .i64 x33.fStop, .int .i64 x33.fErr], RdR (sliceRd 12 Bat_rd) [.slice A31 x30.length c32] x30, RdR (sliceRd 1 strE) [.slice A27 x26.length c28] x26, BlkR b25 26 #[.int .i64 x23.fValid, .int .i64 x23.fStop, .int .i64 x23.fErr], RdR (sliceRd 12 Bat_rd) [.slice A21 x20.length c22] x20, OwnR 9 1 strE (.slice (some ⟨b19, 0, none⟩) 1 1) [a0], BlkR b9 36 #[.int .i64 x3.fBase, .int .i64 x3.fLeader, .bool x3.fAppend, .bool x3.fTxn, .bool x3.fControl, .int .i64 x3.fLast, .int .i64 x3.fFirst, .int .i64 x3.fMax, .int .i64 x3.fProducer, .int .i64 x3.fEpoch, .int .i64 x3.fSequence, .slice A4 x3.fRecords.length c5], RdR (sliceRd 7 Rec_rd) [.slice A4 x3.fRecords.length c5] x3.fRecords, EmpR]) ?_ ?_
                · clear hk95
                  refine T.region rfl ?_
                  refine TL.run ft_cursitortop_ok [0] rfl rfl ?_
                  refine TL.q rfl .u (Ex.lenS rfl Try.runUnderlying23) rfl ?_
                  refine TL.run ft_cursitortop_ok [2] rfl rfl ?_
                  refine TL.q rfl .u (Ex.lenS rfl Try.runUnderlying23) rfl ?_
                  refine TL.run ft_cursitortop_ok [4] rfl rfl ?_
                  refine TL.q rfl .u (Ex.lenS rfl Try.runUnderlying23) rfl ?_
                  replace h := guard_some h
                  obtain ⟨c96, h⟩ := h
                  refine TL.q rfl .u (Ex.add rfl rfl c96) rfl ?_
                  by_cases c97 : (x51.length : Int) = ((x20.length : Int) + (x74.length : Int))
                  · replace h := ifT c97 h
                    refine TL.run ft_cursitortop_ok [7, 8] rfl rfl ?_
                    refine TL.q rfl (.g rfl rfl (decide_eq_true c97)) (Ex.ft ft_cursitortop_ok rfl) rfl ?_
                    refine TL.q rfl (.g rfl rfl (decide_eq_true c97)) (Ex.ft ft_cursitortop_ok rfl) rfl ?_
                    refine TL.q rfl (.g rfl rfl (decide_eq_true c97)) (Ex.lenS rfl Try.runUnderlying23) rfl ?_
                    replace h := guard_some h
                    obtain ⟨c98, h⟩ := h
                    refine TL.q rfl (.g rfl rfl (decide_eq_true c97)) (Ex.subS (p := 0) (q := x20.length) (mm := (x51.take x20.length).length) (cap_of 4 rfl (fun w G h => rd_reads w G h)) rfl Try.runUnderlying23 Try.sizeOf36 .none (.some rfl rfl) (Nat.zero_le _) c98 (by rw [List.length_take, Nat.min_eq_left c98]; exact (Nat.sub_zero _).symm)) rfl ?_
                    refine TL.q rfl (.g rfl rfl (decide_eq_true c97)) (Ex.ft ft_cursitortop_ok rfl) rfl ?_
                    obtain ⟨x99, hx100, h⟩ := Option.bind_eq_some_iff.1 h
                    refine TL.ce rfl (.g rfl rfl (decide_eq_true c97)) (.fn Try.call11 rfl) (f_r11_Rows_spec (x51.take x20.length) _ _ x20 _ _ _ hx100) (fun _ hs => (RX.reads_and (SrcE.res 4 hs rfl (fun w G h => RX.sub ((fun w G h => rd_reads w G h) w G h) (Nat.zero_le _) c98 (by rw [List.drop_zero, Nat.sub_zero]))) (SrcE.res 10 hs rfl (fun w G h => rd_reads w G h)))) rfl ?_
                    refine TL.q rfl .u (Ex.py rfl (decide_eq_true c97) rfl) rfl ?_
                    by_cases c101 : x99 = true
                    · replace h := ifT c101 h
                      refine TL.run ft_cursitortop_ok [16] rfl rfl ?_
                      refine TL.q rfl (.g rfl rfl c101) (Ex.ft ft_cursitortop_ok rfl) rfl ?_
                      refine TL.q rfl (.g rfl rfl c101) (Ex.ft ft_cursitortop_ok rfl) rfl ?_
                      refine TL.q rfl (.g rfl rfl c101) (Ex.lenS rfl Try.runUnderlying23) rfl ?_
                      replace h := guard_some h
                      obtain ⟨c102, h⟩ := h
                      refine TL.q rfl (.g rfl rfl c101) (Ex.subS (p := x20.length) (q := x51.length) (mm := (x51.drop x20.length).length) (cap_of 4 rfl (fun w G h => rd_reads w G h)) rfl Try.runUnderlying23 Try.sizeOf36 (.some rfl rfl) .none c102 (Nat.le_refl _) (List.length_drop)) rfl ?_
                      refine TL.q rfl (.g rfl rfl c101) (Ex.ft ft_cursitortop_ok rfl) rfl ?_
                      obtain ⟨x103, hx104, h⟩ := Option.bind_eq_some_iff.1 h
                      refine TL.ce rfl (.g rfl rfl c101) (.fn Try.call11 rfl) (f_r11_Rows_spec (x51.drop x20.length) _ _ x74 _ _ _ hx104) (fun _ hs => (RX.reads_and (SrcE.res 4 hs rfl (fun w G h => RX.sub ((fun w G h => rd_reads w G h) w G h) c102 (Nat.le_refl _) (List.take_of_length_le (by rw [List.length_drop]; exact Nat.le_refl _)))) (SrcE.res 1 hs rfl (fun w G h => rd_reads w G h)))) rfl ?_
                      refine TL.q rfl .u (Ex.py rfl c101 rfl) rfl ?_
                      by_cases c105 : x103 = true
                      · replace h := ifT c105 h
                        refine TL.run ft_cursitortop_ok [24] rfl rfl ?_
                        refine TL.q rfl (.g rfl rfl c105) (Ex.bS (us := [.int .i64 x54.fValid, .int .i64 x54.fStop, .int .i64 x54.fErr]) 3 rfl Try.isAgg26 Try.sizeOf26 rfl rfl rfl) rfl ?_
                        refine TL.q rfl (.g rfl rfl c105) (Ex.ft ft_cursitortop_ok rfl) rfl ?_
                        refine TL.q rfl (.g rfl rfl c105) (Ex.b1 9 rfl Try.isAgg3 rfl rfl) rfl ?_
                        refine TL.q rfl (.g rfl rfl c105) (Ex.ft ft_cursitortop_ok rfl) rfl ?_
                        refine TL.q rfl (.g rfl rfl c105) (Ex.b1 0 rfl Try.isAgg3 rfl rfl) rfl ?_
                        replace h := guard_some h
                        obtain ⟨c106, h⟩ := h
                        refine TL.q rfl (.g rfl rfl c105) (Ex.add rfl rfl c106) rfl ?_
                        refine TL.q rfl (.g rfl rfl c105) (Ex.ft ft_cursitortop_ok rfl) rfl ?_
                        refine TL.q rfl (.g rfl rfl c105) (Ex.b1 0 rfl Try.isAgg3 rfl rfl) rfl ?_
                        refine TL.q rfl (.g rfl rfl c105) (Ex.ft ft_cursitortop_ok rfl) rfl ?_
                        refine TL.q rfl (.g rfl rfl c105) (Ex.b1 0 rfl Try.isAgg24 rfl rfl) rfl ?_
                        refine TL.q rfl (.g rfl rfl c105) (Ex.bld (cells := #[.int .i64 (x23.fValid + x77.fValid), .int .i64 x77.fStop, .int .i64 x77.fErr]) bok_cursitortop_26 rfl (by kernel_rfl)) rfl ?_
                        by_cases c107 : x54.fValid = (x23.fValid + x77.fValid)
                        · replace h := ifT c107 h
                          by_cases c108 : x54.fStop = x77.fStop
                          · replace h := ifT c108 h
                            by_cases c109 : x54.fErr = x77.fErr
                            · replace h := ifT c109 h
                              refine TL.q rfl (.g rfl rfl c105) (Ex.aEq (us := [.int .i64 x54.fValid, .int .i64 x54.fStop, .int .i64 x54.fErr]) (vs := [.int .i64 (x23.fValid + x77.fValid), .int .i64 x77.fStop, .int .i64 x77.fErr]) flat_cursitortop_26 rfl Try.eqGuardType26 rfl rfl rfl rfl (eqL_t (eqV_i c107) (eqL_t (eqV_i c108) (eqL_t (eqV_i c109) rfl)))) rfl ?_
                              refine TL.q rfl .u (Ex.py rfl c105 rfl) rfl ?_
                              refine TL.run ft_cursitortop_ok [38] rfl rfl ?_
                              cases h
                              exact TL.nil (X.jq [0, 0, 0, 0, 0, 0, 0, 0, 0, 0, 0, 0, 0, 0, 0] ⟨rfl, rfl⟩ (by rfl) (by rfl))
                            · replace h := ifF c109 h
                              refine TL.q rfl (.g rfl rfl c105) (Ex.aEq (us := [.int .i64 x54.fValid, .int .i64 x54.fStop, .int .i64 x54.fErr]) (vs := [.int .i64 (x23.fValid + x77.fValid), .int .i64 x77.fStop, .int .i64 x77.fErr]) flat_cursitortop_26 rfl Try.eqGuardType26 rfl rfl rfl rfl (eqL_t (eqV_i c107) (eqL_t (eqV_i c108) (eqL_f (eqV_in c109))))) rfl ?_
                              refine TL.q rfl .u (Ex.py rfl c105 rfl) rfl ?_
                              refine TL.run ft_cursitortop_ok [38] rfl rfl ?_
                              cases h
                              exact TL.nil (X.jq [0, 0, 0, 0, 0, 0, 0, 0, 0, 0, 0, 0, 0, 0, 0] ⟨rfl, rfl⟩ (by rfl) (by rfl))
                          · replace h := ifF c108 h
                            refine TL.q rfl (.g rfl rfl c105) (Ex.aEq (us := [.int .i64 x54.fValid, .int .i64 x54.fStop, .int .i64 x54.fErr]) (vs := [.int .i64 (x23.fValid + x77.fValid), .int .i64 x77.fStop, .int .i64 x77.fErr]) flat_cursitortop_26 rfl Try.eqGuardType26 rfl rfl rfl rfl (eqL_t (eqV_i c107) (eqL_f (eqV_in c108)))) rfl ?_
                            refine TL.q rfl .u (Ex.py rfl c105 rfl) rfl ?_
                            refine TL.run ft_cursitortop_ok [38] rfl rfl ?_
                            cases h
                            exact TL.nil (X.jq [0, 0, 0, 0, 0, 0, 0, 0, 0, 0, 0, 0, 0, 0, 0] ⟨rfl, rfl⟩ (by rfl) (by rfl))
                        · replace h := ifF c107 h
                          refine TL.q rfl (.g rfl rfl c105) (Ex.aEq (us := [.int .i64 x54.fValid, .int .i64 x54.fStop, .int .i64 x54.fErr]) (vs := [.int .i64 (x23.fValid + x77.fValid), .int .i64 x77.fStop, .int .i64 x77.fErr]) flat_cursitortop_26 rfl Try.eqGuardType26 rfl rfl rfl rfl (eqL_f (eqV_in c107))) rfl ?_
                          refine TL.q rfl .u (Ex.py rfl c105 rfl) rfl ?_
                          refine TL.run ft_cursitortop_ok [38] rfl rfl ?_
                          cases h
                          exact TL.nil (X.jq [0, 0, 0, 0, 0, 0, 0, 0, 0, 0, 0, 0, 0, 0, 0] ⟨rfl, rfl⟩ (by rfl) (by rfl))
                      · replace h := ifF c105 h
                        replace c105 := eq_false_of_ne_true c105
                        refine TL.run ft_cursitortop_ok [24] rfl rfl ?_
                        refine TL.no rfl (.gn rfl rfl c105) rfl ?_
                        refine TL.no rfl (.gn rfl rfl c105) rfl ?_
                        refine TL.no rfl (.gn rfl rfl c105) rfl ?_
                        refine TL.no rfl (.gn rfl rfl c105) rfl ?_
                        refine TL.no rfl (.gn rfl rfl c105) rfl ?_
                        refine TL.no rfl (.gn rfl rfl c105) rfl ?_
                        refine TL.no rfl (.gn rfl rfl c105) rfl ?_
                        refine TL.no rfl (.gn rfl rfl c105) rfl ?_
                        refine TL.no rfl (.gn rfl rfl c105) rfl ?_
                        refine TL.no rfl (.gn rfl rfl c105) rfl ?_
                        refine TL.no rfl (.gn rfl rfl c105) rfl ?_
                        refine TL.no rfl (.gn rfl rfl c105) rfl ?_
                        refine TL.q rfl .u (Ex.pn rfl c105 rfl) rfl ?_
                        refine TL.run ft_cursitortop_ok [38] rfl rfl ?_
                        cases h
                        exact TL.nil (X.jq [0, 0, 0, 0, 0, 0, 0, 0, 0, 0, 0, 0, 0, 0, 0] ⟨rfl, rfl⟩ (by rfl) (by rfl))
                    · replace h := ifF c101 h
                      replace c101 := eq_false_of_ne_true c101
                      refine TL.run ft_cursitortop_ok [16] rfl rfl ?_
                      refine TL.no rfl (.gn rfl rfl c101) rfl ?_
                      refine TL.no rfl (.gn rfl rfl c101) rfl ?_
                      refine TL.no rfl (.gn rfl rfl c101) rfl ?_
                      refine TL.no rfl (.gn rfl rfl c101) rfl ?_
                      refine TL.no rfl (.gn rfl rfl c101) rfl ?_
                      refine TL.no rfl (.gn rfl rfl c101) rfl ?_
                      refine TL.q rfl .u (Ex.pn rfl c101 rfl) rfl ?_
                      refine TL.run ft_cursitortop_ok [24] rfl rfl ?_
                      refine TL.no rfl (.gn rfl rfl rfl) rfl ?_
                      refine TL.no rfl (.gn rfl rfl rfl) rfl ?_
                      refine TL.no rfl (.gn rfl rfl rfl) rfl ?_
                      refine TL.no rfl (.gn rfl rfl rfl) rfl ?_
                      refine TL.no rfl (.gn rfl rfl rfl) rfl ?_
                      refine TL.no rfl (.gn rfl rfl rfl) rfl ?_
                      refine TL.no rfl (.gn rfl rfl rfl) rfl ?_
                      refine TL.no rfl (.gn rfl rfl rfl) rfl ?_
                      refine TL.no rfl (.gn rfl rfl rfl) rfl ?_
                      refine TL.no rfl (.gn rfl rfl rfl) rfl ?_
                      refine TL.no rfl (.gn rfl rfl rfl) rfl ?_
                      refine TL.no rfl (.gn rfl rfl rfl) rfl ?_
                      refine TL.q rfl .u (Ex.pn rfl rfl rfl) rfl ?_
                      refine TL.run ft_cursitortop_ok [38] rfl rfl ?_
                      cases h
                      exact TL.nil (X.jq [0, 0, 0, 0, 0, 0, 0, 0, 0, 0, 0, 0, 0, 0, 0] ⟨rfl, rfl⟩ (by rfl) (by rfl))
                  · replace h := ifF c97 h
                    refine TL.run ft_cursitortop_ok [7, 8] rfl rfl ?_
                    refine TL.no rfl (.gn rfl rfl (decide_eq_false c97)) rfl ?_
                    refine TL.no rfl (.gn rfl rfl (decide_eq_false c97)) rfl ?_
                    refine TL.no rfl (.gn rfl rfl (decide_eq_false c97)) rfl ?_
                    refine TL.no rfl (.gn rfl rfl (decide_eq_false c97)) rfl ?_
                    refine TL.no rfl (.gn rfl rfl (decide_eq_false c97)) rfl ?_
                    refine TL.no rfl (.gn rfl rfl (decide_eq_false c97)) rfl ?_
                    refine TL.q rfl .u (Ex.pn rfl (decide_eq_false c97) rfl) rfl ?_
                    refine TL.run ft_cursitortop_ok [16] rfl rfl ?_
                    refine TL.no rfl (.gn rfl rfl rfl) rfl ?_
                    refine TL.no rfl (.gn rfl rfl rfl) rfl ?_
                    refine TL.no rfl (.gn rfl rfl rfl) rfl ?_
                    refine TL.no rfl (.gn rfl rfl rfl) rfl ?_
                    refine TL.no rfl (.gn rfl rfl rfl) rfl ?_
                    refine TL.no rfl (.gn rfl rfl rfl) rfl ?_
                    refine TL.q rfl .u (Ex.pn rfl rfl rfl) rfl ?_
                    refine TL.run ft_cursitortop_ok [24] rfl rfl ?_
                    refine TL.no rfl (.gn rfl rfl rfl) rfl ?_
                    refine TL.no rfl (.gn rfl rfl rfl) rfl ?_
                    refine TL.no rfl (.gn rfl rfl rfl) rfl ?_
                    refine TL.no rfl (.gn rfl rfl rfl) rfl ?_
                    refine TL.no rfl (.gn rfl rfl rfl) rfl ?_
                    refine TL.no rfl (.gn rfl rfl rfl) rfl ?_
                    refine TL.no rfl (.gn rfl rfl rfl) rfl ?_
                    refine TL.no rfl (.gn rfl rfl rfl) rfl ?_
                    refine TL.no rfl (.gn rfl rfl rfl) rfl ?_
                    refine TL.no rfl (.gn rfl rfl rfl) rfl ?_
                    refine TL.no rfl (.gn rfl rfl rfl) rfl ?_
                    refine TL.no rfl (.gn rfl rfl rfl) rfl ?_
                    refine TL.q rfl .u (Ex.pn rfl rfl rfl) rfl ?_
                    refine TL.run ft_cursitortop_ok [38] rfl rfl ?_
                    cases h
                    exact TL.nil (X.jq [0, 0, 0, 0, 0, 0, 0, 0, 0, 0, 0, 0, 0, 0, 0] ⟨rfl, rfl⟩ (by rfl) (by rfl))
                · rintro _ _ ⟨rfl, rfl⟩
                  clear h
                  have h := hk95
                  clear hk95
                  try dsimp only at h
                  obtain rfl := Option.some.inj h
                  exact X.seq (T.ret (X.done1 [14] Try.results4 (RV.tm rfl) ⟨rfl, rfl, rfl⟩ (by rfl) (.inl rfl)))
              · replace h := ifF c72 h
                refine TL.nil (X.seq ?_)
                refine T.yes rfl (bn_t (decide_eq_false c72)) ?_
                refine T.seq ?_
                obtain ⟨y115, h, hk116⟩ := Option.bind_eq_some_iff.1 h
                refine T.jq (fun e Rs => e = [(1, .string (bsOf a1)), (6, .bool y115), (10, .slice A21 x20.length c22), (11, .pointer (some ⟨b25, 0, none⟩)), (14, .slice A52 x51.length c53), (15, .pointer (some ⟨b56, 0, none⟩))] ∧ Rs = [BlkR b56 26 #[.int .i64 x54.fValid, .int .i64 x54.fStop, .int .i64 x54.fErr], RdR (sliceRd 12 Bat_rd) [.slice A52 x51.length c53] x51, OwnR 9 1 strE (.slice (some ⟨b50, 0, none⟩) 2 2) [a0, a1], BlkR b35 26 #[.int .i64 x33.fValid, .int .i64 x33.fStop, .int .i64 x33.fErr], RdR (sliceRd 12 Bat_rd) [.slice A31 x30.length c32] x30, RdR (sliceRd 1 strE) [.slice A27 x26.length c28] x26, BlkR b25 26 #[.int .i64 x23.fValid, .int .i64 x23.fStop, .int .i64 x23.fErr], RdR (sliceRd 12 Bat_rd) [.slice A21 x20.length c22] x20, OwnR 9 1 strE (.slice (some ⟨b19, 0, none⟩) 1 1) [a0], BlkR b9 36 #[.int .i64 x3.fBase, .int .i64 x3.fLeader, .bool x3.fAppend, .bool x3.fTxn, .bool x3.fControl, .int .i64 x3.fLast, .int .i64 x3.fFirst, .int .i64 x3.fMax, .int .i64 x3.fProducer, .int .i64 x3.fEpoch, .int .i64 x3.fSequence, .slice A4 x3.fRecords.length c5], RdR (sliceRd 7 Rec_rd) [.slice A4 x3.fRecords.length c5] x3.fRecords, EmpR]) ?_ ?_
                · clear hk116
                  refine T.region rfl ?_
                  refine TL.run ft_cursitortop_ok [0] rfl rfl ?_
                  refine TL.q rfl .u (Ex.lenS rfl Try.runUnderlying23) rfl ?_
                  refine TL.run ft_cursitortop_ok [2] rfl rfl ?_
                  refine TL.q rfl .u (Ex.lenS rfl Try.runUnderlying23) rfl ?_
                  by_cases c117 : (x51.length : Int) ≥ (x20.length : Int)
                  · replace h := ifT c117 h
                    refine TL.run ft_cursitortop_ok [4, 5] rfl rfl ?_
                    refine TL.q rfl (.g rfl rfl (decide_eq_true c117)) (Ex.ft ft_cursitortop_ok rfl) rfl ?_
                    refine TL.q rfl (.g rfl rfl (decide_eq_true c117)) (Ex.ft ft_cursitortop_ok rfl) rfl ?_
                    refine TL.q rfl (.g rfl rfl (decide_eq_true c117)) (Ex.lenS rfl Try.runUnderlying23) rfl ?_
                    replace h := guard_some h
                    obtain ⟨c118, h⟩ := h
                    refine TL.q rfl (.g rfl rfl (decide_eq_true c117)) (Ex.subS (p := 0) (q := x20.length) (mm := (x51.take x20.length).length) (cap_of 1 rfl (fun w G h => rd_reads w G h)) rfl Try.runUnderlying23 Try.sizeOf36 .none (.some rfl rfl) (Nat.zero_le _) c118 (by rw [List.length_take, Nat.min_eq_left c118]; exact (Nat.sub_zero _).symm)) rfl ?_
                    refine TL.q rfl (.g rfl rfl (decide_eq_true c117)) (Ex.ft ft_cursitortop_ok rfl) rfl ?_
                    obtain ⟨x119, hx120, h⟩ := Option.bind_eq_some_iff.1 h
                    refine TL.ce rfl (.g rfl rfl (decide_eq_true c117)) (.fn Try.call11 rfl) (f_r11_Rows_spec (x51.take x20.length) _ _ x20 _ _ _ hx120) (fun _ hs => (RX.reads_and (SrcE.res 1 hs rfl (fun w G h => RX.sub ((fun w G h => rd_reads w G h) w G h) (Nat.zero_le _) c118 (by rw [List.drop_zero, Nat.sub_zero]))) (SrcE.res 7 hs rfl (fun w G h => rd_reads w G h)))) rfl ?_
                    refine TL.q rfl .u (Ex.py rfl (decide_eq_true c117) rfl) rfl ?_
                    by_cases c121 : x119 = true
                    · replace h := ifT c121 h
                      refine TL.run ft_cursitortop_ok [13] rfl rfl ?_
                      refine TL.q rfl (.g rfl rfl c121) (Ex.ft ft_cursitortop_ok rfl) rfl ?_
                      refine TL.q rfl (.g rfl rfl c121) (Ex.b1 0 rfl Try.isAgg3 rfl rfl) rfl ?_
                      refine TL.q rfl (.g rfl rfl c121) (Ex.ft ft_cursitortop_ok rfl) rfl ?_
                      refine TL.q rfl (.g rfl rfl c121) (Ex.b1 6 rfl Try.isAgg3 rfl rfl) rfl ?_
                      refine TL.q rfl (.g rfl rfl c121) (Ex.ft ft_cursitortop_ok rfl) rfl ?_
                      refine TL.q rfl .u (Ex.py rfl c121 rfl) rfl ?_
                      refine TL.run ft_cursitortop_ok [20] rfl rfl ?_
                      by_cases c122 : x54.fValid ≥ x23.fValid
                      · replace h := ifT c122 h
                        cases h
                        exact TL.nil (X.as (d := 6) (v' := .bool true) rfl (congrArg Value.bool (decide_eq_true c122)) (X.jq [0, 0, 0, 0, 0, 0, 0, 0, 0, 0, 0, 0] ⟨rfl, rfl⟩ (by rfl) (by rfl)))
                      · replace h := ifF c122 h
                        cases h
                        exact TL.nil (X.as (d := 6) (v' := .bool false) rfl (congrArg Value.bool (decide_eq_false c122)) (X.jq [0, 0, 0, 0, 0, 0, 0, 0, 0, 0, 0, 0] ⟨rfl, rfl⟩ (by rfl) (by rfl)))
                    · replace h := ifF c121 h
                      replace c121 := eq_false_of_ne_true c121
                      refine TL.run ft_cursitortop_ok [13] rfl rfl ?_
                      refine TL.no rfl (.gn rfl rfl c121) rfl ?_
                      refine TL.no rfl (.gn rfl rfl c121) rfl ?_
                      refine TL.no rfl (.gn rfl rfl c121) rfl ?_
                      refine TL.no rfl (.gn rfl rfl c121) rfl ?_
                      refine TL.no rfl (.gn rfl rfl c121) rfl ?_
                      refine TL.q rfl .u (Ex.pn rfl c121 rfl) rfl ?_
                      refine TL.run ft_cursitortop_ok [20] rfl rfl ?_
                      cases h
                      exact TL.nil (X.jq [0, 0, 0, 0, 0, 0, 0, 0, 0, 0, 0, 0] ⟨rfl, rfl⟩ (by rfl) (by rfl))
                  · replace h := ifF c117 h
                    refine TL.run ft_cursitortop_ok [4, 5] rfl rfl ?_
                    refine TL.no rfl (.gn rfl rfl (decide_eq_false c117)) rfl ?_
                    refine TL.no rfl (.gn rfl rfl (decide_eq_false c117)) rfl ?_
                    refine TL.no rfl (.gn rfl rfl (decide_eq_false c117)) rfl ?_
                    refine TL.no rfl (.gn rfl rfl (decide_eq_false c117)) rfl ?_
                    refine TL.no rfl (.gn rfl rfl (decide_eq_false c117)) rfl ?_
                    refine TL.no rfl (.gn rfl rfl (decide_eq_false c117)) rfl ?_
                    refine TL.q rfl .u (Ex.pn rfl (decide_eq_false c117) rfl) rfl ?_
                    refine TL.run ft_cursitortop_ok [13] rfl rfl ?_
                    refine TL.no rfl (.gn rfl rfl rfl) rfl ?_
                    refine TL.no rfl (.gn rfl rfl rfl) rfl ?_
                    refine TL.no rfl (.gn rfl rfl rfl) rfl ?_
                    refine TL.no rfl (.gn rfl rfl rfl) rfl ?_
                    refine TL.no rfl (.gn rfl rfl rfl) rfl ?_
                    refine TL.q rfl .u (Ex.pn rfl rfl rfl) rfl ?_
                    refine TL.run ft_cursitortop_ok [20] rfl rfl ?_
                    cases h
                    exact TL.nil (X.jq [0, 0, 0, 0, 0, 0, 0, 0, 0, 0, 0, 0] ⟨rfl, rfl⟩ (by rfl) (by rfl))
                · rintro _ _ ⟨rfl, rfl⟩
                  clear h
                  have h := hk116
                  clear hk116
                  try dsimp only at h
                  obtain rfl := Option.some.inj h
                  exact X.seq (T.ret (X.rs (X.done1 [11] Try.results4 (RV.tm rfl) ⟨rfl, rfl, rfl⟩ (by rfl) (.inl rfl))))
  · replace h := ifF c10 h
    replace c10 := eq_false_of_ne_true c10
    refine TL.nil (X.seq ?_)
    refine T.yes rfl (bn_t c10) ?_
    exact nomatch h
end Go.Proofs.Ytahjmpipllajcaa.Sl
namespace Go.Proofs.Ytahjmpipllajcaa.Sl
open Go.RowKit
set_option linter.unusedVariables false
set_option linter.unusedSimpArgs false
theorem z_none : ∃ x y, f_top_none = some (x, y, true) := ⟨_, _, (by kernel_rfl : f_top_none = some (⟨0, 0, false, false, false, 0, 0, 0, -1, -1, -1, []⟩, (f_batch_Encode ⟨0, 0, false, false, false, 0, 0, 0, -1, -1, -1, []⟩).get!.1, true))⟩
theorem pure_WholeChunks (a0 : List UInt8) (a1 : List UInt8) (a2 : List Int) (w0 : a0.length ≤ 140737488351232) (w1 : a1.length ≤ 140737488351232) (w2 : wL wU8 a2) : f_top_WholeChunks a0 a1 a2 = some true := by
  unfold f_top_WholeChunks
  obtain ⟨x, y, hn⟩ := z_none
  rw [hn, Option.bind_some]
  dsimp only
  rw [if_pos rfl]
  by_cases l1 : (a0.length : Int) > 1500
  · rw [if_pos l1, Option.bind_some, if_pos rfl]
  by_cases l2 : (a1.length : Int) > 1500
  · rw [if_neg l1, if_pos l2, Option.bind_some, if_pos rfl]
  by_cases l3 : (a2.length : Int) > 200
  · rw [if_neg l1, if_neg l2, if_pos l3, Option.bind_some, if_pos rfl]
  rw [if_neg l1, if_neg l2, if_neg l3, Option.bind_some, if_neg (by decide)]
  obtain ⟨cs, q1, q2, q3⟩ := cut_eq (s := a0) (ns := a2) (fun n hn => w2.2 n hn) (by omega) (by omega)
  obtain ⟨h1, h2⟩ := Scn_bytes a0.length a0 (Nat.le_refl _)
  have hbn := z_bn (s := a0) (by omega)
  have hm := z_many _ h2
  have h4 := congrArg List.length h1
  rw [List.length_append] at h4
  have hself : f_r11_Rows (Scn a0).1 (Scn a0).1 = some true := z_rows_self (by omega) (fun x hx => (hbn x hx).2.1)
  have es : (resOf a0).fStop = if (Scn a0).2.2 ≠ 0 then 2 else if (Scn a0).2.1 = [] then 0 else 1 := rfl
  rw [scan_one (by omega), Option.bind_some]
  dsimp only
  rw [q1, Option.bind_some, scan_eq (by rw [q2]; omega), q2, Option.bind_some]
  dsimp only
  rw [if_pos rfl, if_pos rfl, if_pos rfl, hself, Option.bind_some, if_pos rfl, Option.bind_some, if_neg (by decide), scan_two (by omega), Option.bind_some]
  dsimp only
  by_cases g : (Scn a0).2.2 = 0
  rotate_left
  · have hw := Scn_wrong a0.length a0 a1 (Nat.le_refl _) g
    have er : resOf (a0 ++ a1) = resOf a0 := by
      unfold resOf
      rw [hw]
      dsimp only
      rw [if_pos g, if_pos g]
    have e2 : (resOf a0).fStop = 2 := by rw [es, if_pos g]
    have e3 : (Scn (a0 ++ a1)).1 = (Scn a0).1 := by rw [hw]
    rw [if_pos e2, e3, er, hself, Option.bind_some, if_pos rfl, if_pos rfl, if_pos rfl, if_pos rfl, Option.bind_some]
  have hmo := Scn_more a0.length a0 a1 (Nat.le_refl _) (by omega) g
  have hle := Scn_le a0
  have hbt := z_bn (s := (Scn a0).2.1 ++ a1) (by rw [List.length_append]; omega)
  have hft := scn_few _ ((Scn a0).2.1 ++ a1) (Nat.le_refl _)
  rw [List.length_append] at hft
  have e3 : (Scn (a0 ++ a1)).1 = (Scn a0).1 ++ (Scn ((Scn a0).2.1 ++ a1)).1 := by rw [hmo]
  have e4 : (Scn (a0 ++ a1)).2 = (Scn ((Scn a0).2.1 ++ a1)).2 := by rw [hmo]
  have ev : (resOf (a0 ++ a1)).fValid = (resOf a0).fValid + ((encs encBt (Scn ((Scn a0).2.1 ++ a1)).1).length : Int) := by
    show ((encs encBt (Scn (a0 ++ a1)).1).length : Int) = ((encs encBt (Scn a0).1).length : Int) + _
    rw [e3, encs_app, List.length_append]
    omega
  have ev0 : (resOf a0).fValid = ((encs encBt (Scn a0).1).length : Int) := rfl
  have ex : -9223372036854775808 ≤ ((Scn a0).1.length : Int) + ((Scn ((Scn a0).2.1 ++ a1)).1.length : Int) ∧ ((Scn a0).1.length : Int) + ((Scn ((Scn a0).2.1 ++ a1)).1.length : Int) ≤ 9223372036854775807 := by omega
  have el : (Scn (a0 ++ a1)).1.length = (Scn a0).1.length + (Scn ((Scn a0).2.1 ++ a1)).1.length := by rw [e3, List.length_append]
  have et : (Scn (a0 ++ a1)).1.take (Scn a0).1.length = (Scn a0).1 := by rw [e3, List.take_left]
  have ed : (Scn (a0 ++ a1)).1.drop (Scn a0).1.length = (Scn ((Scn a0).2.1 ++ a1)).1 := by rw [e3, List.drop_left]
  have hmt := scn_len ((Scn a0).2.1 ++ a1)
  have hlt := Scn_le ((Scn a0).2.1 ++ a1)
  rw [List.length_append] at hmt hlt
  by_cases r : (Scn a0).2.1 = []
  · have e2 : (resOf a0).fStop = 0 := by rw [es, if_neg (fun h => h g), if_pos r]
    rw [r, List.nil_append] at e3 e4 ev ex el ed hbt hft hmt hlt
    simp only [List.length_nil] at hft hmt hlt
    have es2 : (resOf (a0 ++ a1)).fStop = (resOf a1).fStop := by unfold resOf; rw [e4]
    have ee2 : (resOf (a0 ++ a1)).fErr = (resOf a1).fErr := by unfold resOf; rw [e4]
    have ev1 : (resOf a1).fValid = ((encs encBt (Scn a1).1).length : Int) := rfl
    have hself1 : f_r11_Rows (Scn a1).1 (Scn a1).1 = some true := z_rows_self (by omega) (fun x hx => (hbt x hx).2.1)
    rw [if_neg (by rw [e2]; decide), if_pos e2, scan_one (by omega), Option.bind_some]
    dsimp only
    rw [if_pos ex, if_pos (by omega), if_pos (by omega), et, hself, Option.bind_some, if_pos rfl, if_pos (by omega), ed, hself1, Option.bind_some, if_pos rfl, if_pos (by rw [ev0, ev1]; omega), if_pos (by rw [ev, ev1]), if_pos es2, if_pos ee2, Option.bind_some]
  · have e2 : (resOf a0).fStop = 1 := by rw [es, if_neg (fun h => h g), if_neg r]
    rw [if_neg (by rw [e2]; decide), if_neg (by rw [e2]; decide), if_pos (by omega), if_pos (by omega), et, hself, Option.bind_some, if_pos rfl, if_pos (by rw [ev]; omega), Option.bind_some]
end Go.Proofs.Ytahjmpipllajcaa.Sl
namespace Go.Proofs.Ytahjmpipllajcaa.wholeChunks
open Go.ChangeShapes Go.WideShapes Go.ChangeAt Go.RowKit
open Go.ChangeMaps (open_string shut_string)
set_option linter.unusedVariables false
theorem own : ownKnob Try.prog.godebug = none := by kernel_rfl
theorem laidOut : laidOutB Try.prog = true := by kernel_rfl
set_option maxRecDepth 100000 in
set_option maxHeartbeats 1000000 in
theorem lifted (os : Os) (started : os.Started) (H : Type) (enc : TypeId × Value → H) :
    ReturnsInHanded {} Try.checked os 4 .any (Rows.wholeChunksSpec.pre6 enc Try.prog Try.f4 Rows.wholeChunksRow.domain false) (Rows.wholeChunksSpec.post enc Try.prog Try.f4 false true false false) := by
  refine returnsInHanded_of_change_sized (C := Try.checked) own started (by kernel_rfl) Try.func4
    (ChangeSpec.witness6 (enc := enc) (C := Try.checked) false ⟨#[], #[.string ByteArray.empty, .string ByteArray.empty, .slice none 0 0], []⟩ 8 (by kernel_rfl) (by kernel_rfl) (by kernel_rfl) (by kernel_rfl)) ?_
  intro W base args ds gs before hval0 hW hcnd hsz0 _
  have hsz : (DataW.weightsEach Try.prog (Try.f4.params.toList ++ Rows.wholeChunksSpec.plain.varTypes Try.prog) (ds ++ gs)).all (· ≤ reachBytes) = true := hsz0
  have hval : ∀ (j : Nat) t v, Try.f4.params[j]? = some t → args[j]? = some v → Value.okWide Try.prog W .any base t v := hval0
  have hW' := hW
  obtain ⟨p, q, hA0, hV, rfl, hfz, hnd⟩ := hW
  have hA : DataW.TrodAll enc Try.prog W 0 (fun _ => true) true Try.f4.params.toList args.toList ds p := hA0
  rw [Try.params4] at hA hval hsz
  obtain ⟨v0, vs0, d0, ds0, p0, q0, hargs, rfl, rfl, h0, r0⟩ := trodAll_cons hA
  obtain ⟨v1, vs1, d1, ds1, p1, q1, rfl, rfl, rfl, h1, r1⟩ := trodAll_cons r0
  obtain ⟨v2, vs2, d2, ds2, p2, q2, rfl, rfl, rfl, h2, r2⟩ := trodAll_cons r1
  obtain ⟨rfl, rfl, rfl⟩ := trodAll_nil r2
  obtain rfl : args = #[v0, v1, v2] := by cases args; simp_all
  obtain ⟨rfl, rfl⟩ := trodVars_none hV
  obtain ⟨s0, rfl, rfl, rfl, y0⟩ := open_string Try.underlying9 (hval 0 9 v0 rfl rfl) h0
  have z0 : s0.size ≤ 140737488351232 := by
    have z := sized_string hsz (j := 0) (t := 9) rfl rfl
    rw [Array.length_toList] at z
    exact z
  obtain ⟨a0, rfl⟩ := Sl.bsOf_of s0
  have w0 : a0.length ≤ 140737488351232 := by rwa [Sl.bsOf_size] at z0
  obtain ⟨s1, rfl, rfl, rfl, y1⟩ := open_string Try.underlying9 (hval 1 9 v1 rfl rfl) h1
  have z1 : s1.size ≤ 140737488351232 := by
    have z := sized_string hsz (j := 1) (t := 9) rfl rfl
    rw [Array.length_toList] at z
    exact z
  obtain ⟨a1, rfl⟩ := Sl.bsOf_of s1
  have w1 : a1.length ≤ 140737488351232 := by rwa [Sl.bsOf_size] at z1
  have k2 := h2
  have lt2 : ∀ x ∈ p2, x.block < W.heap.size := by obtain ⟨m, hm⟩ := k2; exact DataW.trod_lt m _ _ _ hm
  obtain ⟨a2, r_2, w2⟩ := Sl.opens_arg1 Try.underlying33 (hval 2 33 v2 rfl rfl) (Sl.op_slice 1 1 Try.underlying33 (by kernel_rfl) (by kernel_rfl) (by decide) (by decide) (Sl.op_u8 Try.underlying5)) h2 (fun x hx => of_decide_eq_true (List.all_eq_true.1 hsz x (Sl.weights_in 2 rfl rfl hx)))
  obtain ⟨A2, c2, e2⟩ := Sl.slice_cells r_2
  injection e2 with e2
  subst e2
  clear hA0 hval0 hsz0 hsz
  refine (Sl.f_top_WholeChunks_spec a0 a1 a2 A2 c2 true (Sl.pure_WholeChunks a0 a1 a2 w0 w1 w2) (fun _ => False) W (fun _ h => h) (Sl.RX.reads_all r_2)).mono fun e W' hP => ?_
  obtain ⟨v, A', Ns, rfl, ⟨rfl, rfl, rfl⟩, hst⟩ := hP
  have bel := Sl.St.below hst
  exact ⟨_, rfl, _, _, _, [], _, [], hW', trodAll_mk1 (shut_bool Try.underlying4 _), (trodAll_cons_mk (shut_string Try.underlying9 y0) (trodAll_cons_mk (shut_string Try.underlying9 y1) (trodAll_cons_mk (Below.trod laidOut (by kernel_rfl) (of_decide_eq_true (by kernel_rfl)) k2 bel lt2) trodAll_mk0))), rfl, bel.frame _, fun h => by cases h⟩
theorem over : Rows.wholeChunksRow.holds Try.pinned (OpenSpec.ofChange Rows.wholeChunksSpec) :=
  OpenClaim.holds_of_wide 4 Try.f4 rfl rfl rfl rfl rfl rfl rfl ⟨rfl, rfl, rfl, rfl, rfl⟩ rfl rfl rfl rfl rfl (by kernel_rfl) Try.func4 (by kernel_rfl)
    (of_decide_eq_true (by kernel_rfl)) (by unfold Func.isWrapper; first | (rw [if_pos (by decide +kernel)]; kernel_rfl) | (rw [if_neg (by decide +kernel)]; exact ⟨rfl, rfl⟩))
    (fun os started H enc _ => lifted os started H enc)
theorem proved : Rows.WholeChunksSaid := over
end Go.Proofs.Ytahjmpipllajcaa.wholeChunks
namespace Go.Proofs.Ytahjmpipllajcaa
theorem wholeChunks_holds : Rows.WholeChunksSaid := wholeChunks.proved
end Go.Proofs.Ytahjmpipllajcaa
