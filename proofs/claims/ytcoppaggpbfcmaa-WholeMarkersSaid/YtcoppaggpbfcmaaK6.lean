/- WholeMarkers: for every input the law returns true, and its arguments read behind the call as they did before. -/
import Derived.KernelRfl
import Derived.Test.YtcoppaggpbfcmaaRows
import Derived.WalkKit
import Derived.ProofKit
import Derived.OpenShut
import Derived.ShutString
import Derived.ChangeOld
import Derived.Below
import Derived.SizedLaws
import Derived.Test.YtcoppaggpbfcmaaK5
namespace Go.Proofs.Ytcoppaggpbfcmaa.Sl
open Go.RowKit
set_option linter.unusedVariables false
set_option linter.unusedSimpArgs false
set_option maxRecDepth 100000
def ft_marker : FTab := [(25, 4, 4), (25, 6, 6), (25, 8, 8), (25, 9, 9), (25, 11, 11), (33, 0, 0), (58, 0, 0), (58, 1, 1), (58, 2, 2), (58, 3, 3), (58, 4, 4)]
theorem ft_marker_ok : (ft_marker).OK Try.prog := ⟨FOK.mk Try.runUnderlying25 rfl Try.sizeOf4 rfl, FOK.mk Try.runUnderlying25 rfl Try.sizeOf3 rfl, FOK.mk Try.runUnderlying25 rfl Try.sizeOf3 rfl, FOK.mk Try.runUnderlying25 rfl Try.sizeOf3 rfl, FOK.mk Try.runUnderlying25 rfl Try.sizeOf23 rfl, FOK.mk Try.runUnderlying33 rfl Try.sizeOf3 rfl, FOK.mk Try.runUnderlying58 rfl Try.sizeOf3 rfl, FOK.mk Try.runUnderlying58 rfl Try.sizeOf3 rfl, FOK.mk Try.runUnderlying58 rfl Try.sizeOf3 rfl, FOK.mk Try.runUnderlying58 rfl Try.sizeOf3 rfl, FOK.mk Try.runUnderlying58 rfl Try.sizeOf3 rfl, trivial⟩
theorem mix_marker : Try.prog.follows .mixedOrders = true := by kernel_rfl
theorem bok_marker_25 : BOK Try.prog 25 #[.int .i64 0, .int .i64 0, .bool false, .bool false, .bool false, .int .i64 0, .int .i64 0, .int .i64 0, .int .i64 0, .int .i64 0, .int .i64 0, .slice none 0 0] [(0, 1), (1, 1), (2, 1), (3, 1), (4, 1), (5, 1), (6, 1), (7, 1), (8, 1), (9, 1), (10, 1), (11, 1)] := BOK.mk Try.zeroValue25 Try.runUnderlying25 (by intro w; simp)
theorem bok_marker_58 : BOK Try.prog 58 #[.int .i64 0, .int .i64 0, .int .i64 0, .int .i64 0, .int .i64 0] [(0, 1), (1, 1), (2, 1), (3, 1), (4, 1)] := BOK.mk Try.zeroValue58 Try.runUnderlying58 (by intro w; simp)
theorem sok_marker_23_1 : SOK Try.prog 23 33 1 7 #[.int .i64 0, .int .i64 0, .bool false, .string ⟨#[]⟩, .bool false, .string ⟨#[]⟩, .slice none 0 0] := SOK.mk Try.runUnderlying23 Try.sizeOf33 Try.zeroValue33 (by decide) (by kernel_rfl)
def f_marker_Batch (a0 : Int) (a1 : Int) (a2 : MarkerEnd) : Option (Bat × Int) := (f_control_Record a2.fKind a2.fCoordinator).bind fun (x3, x6) => if x6 = 0 then ((f_batch_Check (⟨a0, a1, false, true, true, 0, a2.fTime, a2.fTime, a2.fProducer, a2.fEpoch, -1, [x3]⟩ : Bat)).bind fun x12 => if x12 = 0 then (some ((⟨a0, a1, false, true, true, 0, a2.fTime, a2.fTime, a2.fProducer, a2.fEpoch, -1, [x3]⟩ : Bat), 0)) else (some ((⟨0, 0, false, false, false, 0, 0, 0, 0, 0, 0, []⟩ : Bat), x12))) else (some ((⟨0, 0, false, false, false, 0, 0, 0, 0, 0, 0, []⟩ : Bat), x6))
set_option maxRecDepth 100000 in
set_option maxHeartbeats 4000000 in
theorem f_marker_Batch_spec (a0 : Int) (a1 : Int) (a2 : MarkerEnd) (r : Bat × Int) (h : f_marker_Batch a0 a1 a2 = some r) : SpecX Try.prog 24 #[.int .i64 a0, .int .i64 a1, .agg #[.int .i64 a2.fProducer, .int .i64 a2.fEpoch, .int .i64 a2.fKind, .int .i64 a2.fTime, .int .i64 a2.fCoordinator]] .triv (EmpR) (fun v A' N => ∃ (A15 : Option Addr) (c16 : Nat), v = .tuple #[.agg #[.int .i64 r.1.fBase, .int .i64 r.1.fLeader, .bool r.1.fAppend, .bool r.1.fTxn, .bool r.1.fControl, .int .i64 r.1.fLast, .int .i64 r.1.fFirst, .int .i64 r.1.fMax, .int .i64 r.1.fProducer, .int .i64 r.1.fEpoch, .int .i64 r.1.fSequence, .slice A15 r.1.fRecords.length c16], .int .i64 r.2] ∧ A' = EmpR ∧ N = [RdR (sliceRd 7 Rec_rd) [.slice A15 r.1.fRecords.length c16] r.1.fRecords]) := by
  refine enterA Try.func24 rfl Try.ntmps24 rfl ?_
  intro F w hX
  unfold f_marker_Batch at h
  refine T.seq (T.region rfl ?_)
  refine TL.box rfl .u rfl rfl (fun b1 => ?_)
  refine TL.alloc rfl .u Try.zeroValue25 rfl (fun b2 => ?_)
  refine TL.run ft_marker_ok [2] rfl rfl ?_
  refine TL.nil (X.seq (T.seq (T.region rfl ?_)))
  refine TL.run ft_marker_ok [0] rfl rfl ?_
  refine TL.q rfl .u (Ex.b1 1 rfl Try.isAgg3 rfl rfl) rfl ?_
  refine TL.run ft_marker_ok [2] rfl rfl ?_
  refine TL.q rfl .u (Ex.b1 1 rfl Try.isAgg3 rfl rfl) rfl ?_
  obtain ⟨⟨x3, x6⟩, hx7, h⟩ := Option.bind_eq_some_iff.1 h
  try dsimp only at h
  refine TL.cge rfl .u (.fn Try.call65 rfl) (f_control_Record_spec a2.fKind a2.fCoordinator _ hx7) (fun _ hs => (RX.reads_triv _ _)) rfl ?_
  rintro _ _ _ ⟨A4, c5, rfl, rfl, rfl⟩
  refine TL.sel [0, 0, 0, 0] rfl ?_
  refine TL.run ft_marker_ok [5, 6, 7] rfl rfl ?_
  refine TL.alloc rfl .u Try.zeroValue33 rfl (fun b8 => ?_)
  refine TL.st0 (cs' := #[.int .i64 x3.fTime, .int .i64 x3.fOffset, .bool x3.fKey.null, .string (bsOf x3.fKey.data), .bool x3.fValue.null, .string (bsOf x3.fValue.data), .slice A4 x3.fHeaders.length c5]) rfl .u rfl rfl Try.sizeOf33 rfl rfl rfl rfl ?_
  refine TL.run ft_marker_ok [10] rfl rfl ?_
  refine TL.nil (X.seq (T.seq (T.seq (T.region rfl ?_))))
  refine TL.run ft_marker_ok [0, 1] rfl rfl ?_
  by_cases c9 : x6 = 0
  · replace h := ifT c9 h
    refine TL.nil (X.seq ?_)
    refine T.no rfl (bn_f (decide_eq_true c9)) ?_
    refine T.skip (X.seq (T.seq (T.region rfl ?_)))
    refine TL.run ft_marker_ok [0, 1, 2] rfl rfl ?_
    refine TL.q rfl .u (Ex.b1 3 rfl Try.isAgg3 rfl rfl) rfl ?_
    refine TL.run ft_marker_ok [4] rfl rfl ?_
    refine TL.q rfl .u (Ex.b1 3 rfl Try.isAgg3 rfl rfl) rfl ?_
    refine TL.run ft_marker_ok [6] rfl rfl ?_
    refine TL.q rfl .u (Ex.b1 3 rfl Try.isAgg3 rfl rfl) rfl ?_
    refine TL.run ft_marker_ok [8] rfl rfl ?_
    refine TL.q rfl .u (Ex.b1 3 rfl Try.isAgg3 rfl rfl) rfl ?_
    refine TL.q rfl .u (Ex.bS (us := [.int .i64 x3.fTime, .int .i64 x3.fOffset, .bool x3.fKey.null, .string (bsOf x3.fKey.data), .bool x3.fValue.null, .string (bsOf x3.fValue.data), .slice A4 x3.fHeaders.length c5]) 0 rfl Try.isAgg33 Try.sizeOf33 rfl rfl rfl) rfl ?_
    refine TL.lit (cells := #[.int .i64 x3.fTime, .int .i64 x3.fOffset, .bool x3.fKey.null, .string (bsOf x3.fKey.data), .bool x3.fValue.null, .string (bsOf x3.fValue.data), .slice A4 x3.fHeaders.length c5]) rfl .u sok_marker_23_1 rfl (by kernel_rfl) rfl (fun b10 => ?_)
    refine TL.rowOf2 (us := [.int .i64 x3.fTime, .int .i64 x3.fOffset, .bool x3.fKey.null, .string (bsOf x3.fKey.data), .bool x3.fValue.null, .string (bsOf x3.fValue.data), .slice A4 x3.fHeaders.length c5]) (xs := [x3]) (E := Rec_rd) (z := 7) 1 rfl rfl (Nat.le_of_ble_eq_true rfl) (fun w G hG => ⟨rfl, ⟨_, _, rfl, hG.1⟩, rfl⟩) ?_
    refine TL.sel [0, 0, 0, 0, 0] rfl ?_
    refine TL.q rfl .u (Ex.bld (cells := #[.int .i64 a0, .int .i64 a1, .bool false, .bool true, .bool true, .int .i64 0, .int .i64 a2.fTime, .int .i64 a2.fTime, .int .i64 a2.fProducer, .int .i64 a2.fEpoch, .int .i64 (-1), .slice (some ⟨b10, 0, none⟩) 1 1]) bok_marker_25 rfl (by kernel_rfl)) rfl ?_
    refine TL.alloc rfl .u Try.zeroValue25 rfl (fun b11 => ?_)
    refine TL.st0 (cs' := #[.int .i64 a0, .int .i64 a1, .bool false, .bool true, .bool true, .int .i64 0, .int .i64 a2.fTime, .int .i64 a2.fTime, .int .i64 a2.fProducer, .int .i64 a2.fEpoch, .int .i64 (-1), .slice (some ⟨b10, 0, none⟩) 1 1]) rfl .u rfl rfl Try.sizeOf25 rfl rfl rfl rfl ?_
    refine TL.nil (X.seq (T.seq (T.seq (T.region rfl ?_))))
    refine TL.q rfl .u (Ex.bS (us := [.int .i64 a0, .int .i64 a1, .bool false, .bool true, .bool true, .int .i64 0, .int .i64 a2.fTime, .int .i64 a2.fTime, .int .i64 a2.fProducer, .int .i64 a2.fEpoch, .int .i64 (-1), .slice (some ⟨b10, 0, none⟩) 1 1]) 0 rfl Try.isAgg25 Try.sizeOf25 rfl rfl rfl) rfl ?_
    obtain ⟨x12, hx13, h⟩ := Option.bind_eq_some_iff.1 h
    refine TL.ce rfl .u (.fn Try.call15 rfl) (f_batch_Check_spec (⟨a0, a1, false, true, true, 0, a2.fTime, a2.fTime, a2.fProducer, a2.fEpoch, -1, [x3]⟩ : Bat) _ _ _ hx13) (fun _ hs => (SrcE.res 1 hs rfl (fun w G h => own_reads (by decide) w G h))) rfl ?_
    refine TL.run ft_marker_ok [2] rfl rfl ?_
    refine TL.nil (X.seq (T.seq (T.region rfl ?_)))
    refine TL.run ft_marker_ok [0, 1] rfl rfl ?_
    by_cases c14 : x12 = 0
    · replace h := ifT c14 h
      refine TL.nil (X.seq ?_)
      refine T.no rfl (bn_f (decide_eq_true c14)) ?_
      refine T.skip (X.seq (T.seq (T.region rfl ?_)))
      refine TL.q rfl .u (Ex.bS (us := [.int .i64 a0, .int .i64 a1, .bool false, .bool true, .bool true, .int .i64 0, .int .i64 a2.fTime, .int .i64 a2.fTime, .int .i64 a2.fProducer, .int .i64 a2.fEpoch, .int .i64 (-1), .slice (some ⟨b10, 0, none⟩) 1 1]) 0 rfl Try.isAgg25 Try.sizeOf25 rfl rfl rfl) rfl ?_
      refine TL.st3 (cs' := #[.int .i64 a0, .int .i64 a1, .bool false, .bool true, .bool true, .int .i64 0, .int .i64 a2.fTime, .int .i64 a2.fTime, .int .i64 a2.fProducer, .int .i64 a2.fEpoch, .int .i64 (-1), .slice (some ⟨b10, 0, none⟩) 1 1]) rfl .u rfl rfl Try.sizeOf25 rfl rfl rfl rfl ?_
      refine TL.run ft_marker_ok [2] rfl rfl ?_
      obtain rfl := Option.some.inj h
      refine TL.nil (X.seq (T.ret ?_))
      refine X.shut (by decide) 1 rfl ?_
      refine X.sel [0, 0, 0, 0, 0, 0] rfl ?_
      exact X.done2 [5, 1] Try.results24 (RV.cS (us := #[.int .i64 a0, .int .i64 a1, .bool false, .bool true, .bool true, .int .i64 0, .int .i64 a2.fTime, .int .i64 a2.fTime, .int .i64 a2.fProducer, .int .i64 a2.fEpoch, .int .i64 (-1), .slice (some ⟨b10, 0, none⟩) 1 1]) 3 rfl Try.isAgg25 Try.sizeOf25 rfl rfl) (RV.tm rfl) ⟨_, _, rfl, rfl, rfl⟩ (by rfl) (.inl rfl)
    · replace h := ifF c14 h
      refine TL.nil (X.seq ?_)
      refine T.yes rfl (bn_t (decide_eq_false c14)) ?_
      refine T.seq (T.region rfl ?_)
      refine TL.q rfl .u (Ex.bld (cells := #[.int .i64 0, .int .i64 0, .bool false, .bool false, .bool false, .int .i64 0, .int .i64 0, .int .i64 0, .int .i64 0, .int .i64 0, .int .i64 0, .slice none 0 0]) bok_marker_25 rfl (by kernel_rfl)) rfl ?_
      refine TL.run ft_marker_ok [1] rfl rfl ?_
      refine TL.st3 (cs' := #[.int .i64 0, .int .i64 0, .bool false, .bool false, .bool false, .int .i64 0, .int .i64 0, .int .i64 0, .int .i64 0, .int .i64 0, .int .i64 0, .slice none 0 0]) rfl .u rfl rfl Try.sizeOf25 rfl rfl rfl rfl ?_
      refine TL.run ft_marker_ok [3] rfl rfl ?_
      obtain rfl := Option.some.inj h
      refine TL.nil (X.seq (T.ret (X.rs ?_)))
      refine X.nilrd 7 Rec_rd ?_
      exact X.done2 [6, 0] Try.results24 (RV.cS (us := #[.int .i64 0, .int .i64 0, .bool false, .bool false, .bool false, .int .i64 0, .int .i64 0, .int .i64 0, .int .i64 0, .int .i64 0, .int .i64 0, .slice none 0 0]) 4 rfl Try.isAgg25 Try.sizeOf25 rfl rfl) (RV.tm rfl) ⟨_, _, rfl, rfl, rfl⟩ (by rfl) (.inl rfl)
  · replace h := ifF c9 h
    refine TL.nil (X.seq ?_)
    refine T.yes rfl (bn_t (decide_eq_false c9)) ?_
    refine T.seq (T.region rfl ?_)
    refine TL.q rfl .u (Ex.bld (cells := #[.int .i64 0, .int .i64 0, .bool false, .bool false, .bool false, .int .i64 0, .int .i64 0, .int .i64 0, .int .i64 0, .int .i64 0, .int .i64 0, .slice none 0 0]) bok_marker_25 rfl (by kernel_rfl)) rfl ?_
    refine TL.run ft_marker_ok [1] rfl rfl ?_
    refine TL.st2 (cs' := #[.int .i64 0, .int .i64 0, .bool false, .bool false, .bool false, .int .i64 0, .int .i64 0, .int .i64 0, .int .i64 0, .int .i64 0, .int .i64 0, .slice none 0 0]) rfl .u rfl rfl Try.sizeOf25 rfl rfl rfl rfl ?_
    refine TL.run ft_marker_ok [3] rfl rfl ?_
    obtain rfl := Option.some.inj h
    refine TL.nil (X.seq (T.ret (X.rs ?_)))
    refine X.nilrd 7 Rec_rd ?_
    exact X.done2 [5, 0] Try.results24 (RV.cS (us := #[.int .i64 0, .int .i64 0, .bool false, .bool false, .bool false, .int .i64 0, .int .i64 0, .int .i64 0, .int .i64 0, .int .i64 0, .int .i64 0, .slice none 0 0]) 3 rfl Try.isAgg25 Try.sizeOf25 rfl rfl) (RV.tm rfl) ⟨_, _, rfl, rfl, rfl⟩ (by rfl) (.inl rfl)
def f_marker_Encode (a0 : Int) (a1 : Int) (a2 : MarkerEnd) : Option (List UInt8 × Int) := (f_marker_Batch a0 a1 a2).bind fun (x2, x5) => if x5 = 0 then ((f_batch_Encode x2).bind fun (x9, x10) => some (x9, x10)) else some ([], x5)
set_option maxRecDepth 100000 in
set_option maxHeartbeats 4000000 in
theorem f_marker_Encode_spec (a0 : Int) (a1 : Int) (a2 : MarkerEnd) (r : List UInt8 × Int) (h : f_marker_Encode a0 a1 a2 = some r) : SpecX Try.prog 25 #[.int .i64 a0, .int .i64 a1, .agg #[.int .i64 a2.fProducer, .int .i64 a2.fEpoch, .int .i64 a2.fKind, .int .i64 a2.fTime, .int .i64 a2.fCoordinator]] .triv (EmpR) (fun v A' N => v = .tuple #[.string (bsOf r.1), .int .i64 r.2] ∧ A' = EmpR ∧ N = []) := by
  refine enterA Try.func25 rfl Try.ntmps25 rfl ?_
  intro F w hX
  unfold f_marker_Encode at h
  refine T.seq (T.region rfl ?_)
  refine TL.box rfl .u rfl rfl (fun b1 => ?_)
  refine TL.run ft_marker_ok [1, 2] rfl rfl ?_
  refine TL.nil (X.seq (T.seq (T.region rfl ?_)))
  refine TL.run ft_marker_ok [0, 1] rfl rfl ?_
  refine TL.q rfl .u (Ex.bS (us := [.int .i64 a2.fProducer, .int .i64 a2.fEpoch, .int .i64 a2.fKind, .int .i64 a2.fTime, .int .i64 a2.fCoordinator]) 0 rfl Try.isAgg58 Try.sizeOf58 rfl rfl rfl) rfl ?_
  obtain ⟨⟨x2, x5⟩, hx6, h⟩ := Option.bind_eq_some_iff.1 h
  try dsimp only at h
  refine TL.cge rfl .u (.fn Try.call24 rfl) (f_marker_Batch_spec a0 a1 a2 _ hx6) (fun _ hs => (RX.reads_triv _ _)) rfl ?_
  rintro _ _ _ ⟨A3, c4, rfl, rfl, rfl⟩
  refine TL.sel [0, 0, 0] rfl ?_
  refine TL.run ft_marker_ok [4, 5, 6] rfl rfl ?_
  refine TL.alloc rfl .u Try.zeroValue25 rfl (fun b7 => ?_)
  refine TL.st0 (cs' := #[.int .i64 x2.fBase, .int .i64 x2.fLeader, .bool x2.fAppend, .bool x2.fTxn, .bool x2.fControl, .int .i64 x2.fLast, .int .i64 x2.fFirst, .int .i64 x2.fMax, .int .i64 x2.fProducer, .int .i64 x2.fEpoch, .int .i64 x2.fSequence, .slice A3 x2.fRecords.length c4]) rfl .u rfl rfl Try.sizeOf25 rfl rfl rfl rfl ?_
  refine TL.run ft_marker_ok [9] rfl rfl ?_
  refine TL.nil (X.seq (T.seq (T.seq (T.region rfl ?_))))
  refine TL.run ft_marker_ok [0, 1] rfl rfl ?_
  by_cases c8 : x5 = 0
  · replace h := ifT c8 h
    refine TL.nil (X.seq ?_)
    refine T.no rfl (bn_f (decide_eq_true c8)) ?_
    refine T.skip (X.seq (T.seq (T.region rfl ?_)))
    refine TL.q rfl .u (Ex.bS (us := [.int .i64 x2.fBase, .int .i64 x2.fLeader, .bool x2.fAppend, .bool x2.fTxn, .bool x2.fControl, .int .i64 x2.fLast, .int .i64 x2.fFirst, .int .i64 x2.fMax, .int .i64 x2.fProducer, .int .i64 x2.fEpoch, .int .i64 x2.fSequence, .slice A3 x2.fRecords.length c4]) 0 rfl Try.isAgg25 Try.sizeOf25 rfl rfl rfl) rfl ?_
    obtain ⟨⟨x9, x10⟩, hx11, h⟩ := Option.bind_eq_some_iff.1 h
    try dsimp only at h
    refine TL.ce rfl .u (.fn Try.call14 rfl) (f_batch_Encode_spec x2 _ _ _ hx11) (fun _ hs => (SrcE.res 1 hs rfl (fun w G h => rd_reads w G h))) rfl ?_
    refine TL.run ft_marker_ok [2, 3, 4, 5] rfl rfl ?_
    obtain rfl := Option.some.inj h
    exact TL.nil (X.seq (T.ret (X.done2 [3] Try.results25 (RV.tm rfl) (RV.tm rfl) ⟨rfl, rfl, rfl⟩ (by rfl) (.inl rfl))))
  · replace h := ifF c8 h
    refine TL.nil (X.seq ?_)
    refine T.yes rfl (bn_t (decide_eq_false c8)) ?_
    refine T.seq (T.region rfl ?_)
    refine TL.run ft_marker_ok [0, 1, 2] rfl rfl ?_
    obtain rfl := Option.some.inj h
    exact TL.nil (X.seq (T.ret (X.rs (X.done2 [3] Try.results25 (RV.tm rfl) (RV.tm rfl) ⟨rfl, rfl, rfl⟩ (by rfl) (.inl rfl)))))
def f_marker_Read (a0 : Bat) : Option (MarkerEnd × Bool) := (f_batch_Check a0).bind fun x5 => if x5 = 0 then (if a0.fControl = true then ((a0.fRecords[0]?).bind fun x9 => (f_control_Read x9).bind fun (x15, x16, x17) => if -9223372036854775808 ≤ (a0.fFirst + x9.fTime) ∧ (a0.fFirst + x9.fTime) ≤ 9223372036854775807 then (some ((⟨a0.fProducer, a0.fEpoch, x15, (a0.fFirst + x9.fTime), x16⟩ : MarkerEnd), true)) else none) else (some ((⟨0, 0, 0, 0, 0⟩ : MarkerEnd), false))) else (some ((⟨0, 0, 0, 0, 0⟩ : MarkerEnd), false))
set_option maxRecDepth 100000 in
set_option maxHeartbeats 4000000 in
theorem f_marker_Read_spec (a0 : Bat) (A1 : Option Addr) (c2 : Nat) (r : MarkerEnd × Bool) (h : f_marker_Read a0 = some r) : SpecX Try.prog 26 #[.agg #[.int .i64 a0.fBase, .int .i64 a0.fLeader, .bool a0.fAppend, .bool a0.fTxn, .bool a0.fControl, .int .i64 a0.fLast, .int .i64 a0.fFirst, .int .i64 a0.fMax, .int .i64 a0.fProducer, .int .i64 a0.fEpoch, .int .i64 a0.fSequence, .slice A1 a0.fRecords.length c2]] (RX.of (sliceRd 7 Rec_rd) [.slice A1 a0.fRecords.length c2] a0.fRecords) (EmpR) (fun v A' N => v = .tuple #[.agg #[.int .i64 r.1.fProducer, .int .i64 r.1.fEpoch, .int .i64 r.1.fKind, .int .i64 r.1.fTime, .int .i64 r.1.fCoordinator], .bool r.2] ∧ A' = EmpR ∧ N = []) := by
  refine enterA Try.func26 rfl Try.ntmps26 rfl ?_
  intro F w hX
  unfold f_marker_Read at h
  refine T.seq (T.region rfl ?_)
  refine TL.box rfl .u rfl rfl (fun b3 => ?_)
  refine TL.alloc rfl .u Try.zeroValue58 rfl (fun b4 => ?_)
  refine TL.run ft_marker_ok [2] rfl rfl ?_
  refine TL.nil (X.seq (T.seq (T.seq (T.region rfl ?_))))
  refine TL.q rfl .u (Ex.bS (us := [.int .i64 a0.fBase, .int .i64 a0.fLeader, .bool a0.fAppend, .bool a0.fTxn, .bool a0.fControl, .int .i64 a0.fLast, .int .i64 a0.fFirst, .int .i64 a0.fMax, .int .i64 a0.fProducer, .int .i64 a0.fEpoch, .int .i64 a0.fSequence, .slice A1 a0.fRecords.length c2]) 1 rfl Try.isAgg25 Try.sizeOf25 rfl rfl rfl) rfl ?_
  obtain ⟨x5, hx6, h⟩ := Option.bind_eq_some_iff.1 h
  refine TL.ce rfl .u (.fn Try.call15 rfl) (f_batch_Check_spec a0 _ _ _ hx6) (fun _ hs => (SrcE.old hs hX)) rfl ?_
  by_cases c7 : x5 = 0
  · replace h := ifT c7 h
    refine TL.run ft_marker_ok [2, 3] rfl rfl ?_
    refine TL.q rfl (.g rfl rfl (bn_f (decide_eq_true c7))) (Ex.ft ft_marker_ok rfl) rfl ?_
    refine TL.q rfl (.g rfl rfl (bn_f (decide_eq_true c7))) (Ex.b1 1 rfl Try.isAgg4 rfl rfl) rfl ?_
    refine TL.q rfl (.g rfl rfl (bn_f (decide_eq_true c7))) (Ex.ft ft_marker_ok rfl) rfl ?_
    refine TL.q rfl .u (Ex.pn rfl (bn_f (decide_eq_true c7)) rfl) rfl ?_
    by_cases c8 : a0.fControl = true
    · replace h := ifT c8 h
      refine TL.nil (X.seq ?_)
      refine T.no rfl (bn_f c8) ?_
      refine T.skip (X.seq (T.seq (T.region rfl ?_)))
      refine TL.run ft_marker_ok [0] rfl rfl ?_
      refine TL.q rfl .u (Ex.b1 1 rfl Try.isAgg23 rfl rfl) rfl ?_
      obtain ⟨x9, hx10, h⟩ := Option.bind_eq_some_iff.1 h
      obtain ⟨gz11, oz11, rfl, z11cs, z11cl, z11cc, z11nf, z11r⟩ := RX.elem (by decide) hX hx10
      obtain ⟨z11S, z11r, z11rr⟩ := z11r
      obtain ⟨A12, c13, rfl, z11s0⟩ := z11r
      have hX14 : (RX.of (sliceRd 3 Hd_rd) [.slice A12 x9.fHeaders.length c13] x9.fHeaders).reads w F := ⟨z11S, z11s0, z11rr⟩
      refine TL.q rfl .u (Ex.ixS (k := 0) rfl rfl rfl Try.runUnderlying23 Try.sizeOf33 (List.getElem?_eq_some_iff.1 hx10).1) rfl ?_
      refine TL.q rfl .u (Ex.oS (us := [.int .i64 x9.fTime, .int .i64 x9.fOffset, .bool x9.fKey.null, .string (bsOf x9.fKey.data), .bool x9.fValue.null, .string (bsOf x9.fValue.data), .slice A12 x9.fHeaders.length c13]) 0 rfl Try.isAgg33 Try.sizeOf33 z11nf z11cc rfl rfl rfl) rfl ?_
      obtain ⟨⟨x15, x16, x17⟩, hx18, h⟩ := Option.bind_eq_some_iff.1 h
      try dsimp only at h
      refine TL.ce rfl .u (.fn Try.call48 rfl) (f_control_Read_spec x9 _ _ _ hx18) (fun _ hs => (SrcE.old hs hX14)) rfl ?_
      refine TL.run ft_marker_ok [5, 6, 7, 8, 9, 10, 11] rfl rfl ?_
      refine TL.nil (X.seq (T.seq (T.draw (.q 0 (.q 1 (.q 2 (.q 3 (.q 4 (.q 5 (.q 6 (.q 7 (.q 8 (.q 9 (.q 10 (.q 11 (.q 12 (.q 13 (.q 14 (.e 15 (.q 16 .nil))))))))))))))))) [1, 1] rfl mix_marker (NoP.seq np_post) (by kernel_rfl) ?_)))
      refine TD.run ft_marker_ok [0] rfl rfl ?_
      refine TD.q rfl .u (Ex.b1 0 rfl Try.isAgg3 rfl rfl) rfl ?_
      refine TD.run ft_marker_ok [2] rfl rfl ?_
      refine TD.q rfl .u (Ex.b1 0 rfl Try.isAgg3 rfl rfl) rfl ?_
      refine TD.run ft_marker_ok [4, 5] rfl rfl ?_
      refine TD.q rfl .u (Ex.b1 0 rfl Try.isAgg3 rfl rfl) rfl ?_
      refine TD.run ft_marker_ok [7] rfl rfl ?_
      refine TD.q rfl .u (Ex.b1 0 rfl Try.isAgg23 rfl rfl) rfl ?_
      refine TD.q rfl .u (Ex.ixS (k := 0) rfl rfl rfl Try.runUnderlying23 Try.sizeOf33 (List.getElem?_eq_some_iff.1 hx10).1) rfl ?_
      refine TD.run ft_marker_ok [10] rfl rfl ?_
      refine TD.q rfl .u (Ex.o1 0 rfl Try.isAgg3 z11nf z11cc rfl rfl) rfl ?_
      replace h := guard_some h
      obtain ⟨c19, h⟩ := h
      refine TD.q rfl .u (Ex.add rfl rfl c19) rfl ?_
      refine TD.run ft_marker_ok [13] rfl rfl ?_
      refine TD.q rfl .u (Ex.bld (cells := #[.int .i64 a0.fProducer, .int .i64 a0.fEpoch, .int .i64 x15, .int .i64 (a0.fFirst + x9.fTime), .int .i64 x16]) bok_marker_58 rfl (by kernel_rfl)) rfl ?_
      refine TD.st0 (cs' := #[.int .i64 a0.fProducer, .int .i64 a0.fEpoch, .int .i64 x15, .int .i64 (a0.fFirst + x9.fTime), .int .i64 x16]) rfl .u rfl rfl Try.sizeOf58 rfl rfl rfl rfl [1, 1] (rfl) ?_
      refine TD.run ft_marker_ok [16] rfl rfl ?_
      obtain rfl := Option.some.inj h
      exact TD.nil (X.seq (T.ret (X.done2 [2] Try.results26 (RV.cS (us := #[.int .i64 a0.fProducer, .int .i64 a0.fEpoch, .int .i64 x15, .int .i64 (a0.fFirst + x9.fTime), .int .i64 x16]) 0 rfl Try.isAgg58 Try.sizeOf58 rfl rfl) (RV.tm rfl) ⟨rfl, rfl, rfl⟩ (by rfl) (.inl rfl))))
    · replace h := ifF c8 h
      replace c8 := eq_false_of_ne_true c8
      refine TL.nil (X.seq ?_)
      refine T.yes rfl (bn_t c8) ?_
      refine T.seq (T.region rfl ?_)
      refine TL.q rfl .u (Ex.bld (cells := #[.int .i64 0, .int .i64 0, .int .i64 0, .int .i64 0, .int .i64 0]) bok_marker_58 rfl (by kernel_rfl)) rfl ?_
      refine TL.st0 (cs' := #[.int .i64 0, .int .i64 0, .int .i64 0, .int .i64 0, .int .i64 0]) rfl .u rfl rfl Try.sizeOf58 rfl rfl rfl rfl ?_
      refine TL.run ft_marker_ok [2] rfl rfl ?_
      obtain rfl := Option.some.inj h
      exact TL.nil (X.seq (T.ret (X.rs (X.done2 [2] Try.results26 (RV.cS (us := #[.int .i64 0, .int .i64 0, .int .i64 0, .int .i64 0, .int .i64 0]) 0 rfl Try.isAgg58 Try.sizeOf58 rfl rfl) (RV.tm rfl) ⟨rfl, rfl, rfl⟩ (by rfl) (.inl rfl)))))
  · replace h := ifF c7 h
    refine TL.run ft_marker_ok [2, 3] rfl rfl ?_
    refine TL.no rfl (.gn rfl rfl (bn_t (decide_eq_false c7))) rfl ?_
    refine TL.no rfl (.gn rfl rfl (bn_t (decide_eq_false c7))) rfl ?_
    refine TL.no rfl (.gn rfl rfl (bn_t (decide_eq_false c7))) rfl ?_
    refine TL.q rfl .u (Ex.py rfl (bn_t (decide_eq_false c7)) rfl) rfl ?_
    refine TL.nil (X.seq ?_)
    refine T.yes rfl rfl ?_
    refine T.seq (T.region rfl ?_)
    refine TL.q rfl .u (Ex.bld (cells := #[.int .i64 0, .int .i64 0, .int .i64 0, .int .i64 0, .int .i64 0]) bok_marker_58 rfl (by kernel_rfl)) rfl ?_
    refine TL.st0 (cs' := #[.int .i64 0, .int .i64 0, .int .i64 0, .int .i64 0, .int .i64 0]) rfl .u rfl rfl Try.sizeOf58 rfl rfl rfl rfl ?_
    refine TL.run ft_marker_ok [2] rfl rfl ?_
    obtain rfl := Option.some.inj h
    exact TL.nil (X.seq (T.ret (X.rs (X.done2 [2] Try.results26 (RV.cS (us := #[.int .i64 0, .int .i64 0, .int .i64 0, .int .i64 0, .int .i64 0]) 0 rfl Try.isAgg58 Try.sizeOf58 rfl rfl) (RV.tm rfl) ⟨rfl, rfl, rfl⟩ (by rfl) (.inl rfl)))))
end Go.Proofs.Ytcoppaggpbfcmaa.Sl
namespace Go.Proofs.Ytcoppaggpbfcmaa.Sl
open Go.RowKit
set_option linter.unusedVariables false
set_option linter.unusedSimpArgs false
def mRec (e : MarkerEnd) : Rec := ⟨0, 0, ⟨false, [0, 0] ++ be e.fKind 2⟩, ⟨false, [0, 0] ++ be e.fCoordinator 4⟩, []⟩
def mkM (base leader : Int) (e : MarkerEnd) : Bat := ⟨base, leader, false, true, true, 0, e.fTime, e.fTime, e.fProducer, e.fEpoch, -1, [mRec e]⟩
def mErr (e : MarkerEnd) : Int := if e.fKind = 0 ∨ e.fKind = 1 then (if 0 ≤ e.fCoordinator ∧ fits e.fCoordinator 4 = true then 0 else 11) else 12
theorem crec_ok (e : MarkerEnd) (hw : wf_MarkerEnd e) (h : mErr e = 0) : f_control_Record e.fKind e.fCoordinator = some (mRec e, 0) := by
  unfold mErr at h
  by_cases hk : e.fKind = 0 ∨ e.fKind = 1
  · rw [if_pos hk] at h
    by_cases hc : 0 ≤ e.fCoordinator ∧ fits e.fCoordinator 4 = true
    · unfold f_control_Record
      rw [ckey_one _ hk, Option.bind_some]
      dsimp only
      rw [if_pos rfl, cval_ok _ hc.1 hw.2.2.2.2.2 hc.2, Option.bind_some]
      dsimp only
      rw [if_pos rfl, gOf_eq, Option.bind_some, gOf_eq, Option.bind_some]
      rfl
    · rw [if_neg hc] at h; exact absurd h (by decide)
  · rw [if_neg hk] at h; exact absurd h (by decide)
theorem crec_no (e : MarkerEnd) (hw : wf_MarkerEnd e) (h : mErr e ≠ 0) : ∃ x, f_control_Record e.fKind e.fCoordinator = some (x, mErr e) := by
  unfold mErr at h ⊢
  by_cases hk : e.fKind = 0 ∨ e.fKind = 1
  · rw [if_pos hk] at h ⊢
    by_cases hc : 0 ≤ e.fCoordinator ∧ fits e.fCoordinator 4 = true
    · rw [if_pos hc] at h; exact absurd rfl h
    · have hc' : e.fCoordinator < 0 ∨ fits e.fCoordinator 4 = false := by
        by_cases h0 : e.fCoordinator < 0
        · exact .inl h0
        · right
          cases hf : fits e.fCoordinator 4
          · rfl
          · exact absurd ⟨by omega, hf⟩ hc
      rw [if_neg hc]
      unfold f_control_Record
      rw [ckey_one _ hk, Option.bind_some]
      dsimp only
      rw [if_pos rfl, cval_none _ hw.2.2.2.2.2 hc', Option.bind_some]
      dsimp only
      rw [if_neg (by decide)]
      exact ⟨_, rfl⟩
  · rw [if_neg hk]
    unfold f_control_Record
    rw [ckey_none _ (fun h => hk (.inl h)) (fun h => hk (.inr h)), Option.bind_some]
    dsimp only
    rw [if_neg (by decide)]
    exact ⟨_, rfl⟩
theorem smM {base leader : Int} {e : MarkerEnd} (hb : wI base) (hl : wI leader) (hw : wf_MarkerEnd e) : smB (mkM base leader e) ∧ (body (mkM base leader e)).length ≤ 12000 := by
  obtain ⟨w1, w2, w3, w4, w5⟩ := hw
  have hwf : wf_Bat (mkM base leader e) := by
    have h0 : wI 0 := by unfold wI; decide
    have h1 : wI (-1) := by unfold wI; decide
    refine ⟨hb, hl, trivial, trivial, trivial, h0, w4, w4, w1, w2, h1, by show (1 : Nat) ≤ _; decide, fun x hx => ?_⟩
    obtain rfl : x = mRec e := List.mem_singleton.1 hx
    refine ⟨h0, h0, ⟨trivial, ?_⟩, ⟨trivial, ?_⟩, by show (0 : Nat) ≤ _; decide, fun x hx => nomatch hx⟩
    · show ([0, 0] ++ be e.fKind 2).length ≤ _
      rw [List.length_append, be_length]; decide
    · show ([0, 0] ++ be e.fCoordinator 4).length ≤ _
      rw [List.length_append, be_length]; decide
  refine smB_small hwf (by show (1 : Nat) ≤ 12; decide) (fun r hr => ?_)
  obtain rfl : r = mRec e := List.mem_singleton.1 hr
  refine ⟨?_, by show (0 : Nat) ≤ 6; decide, fun x hx => nomatch hx⟩
  show ([0, 0] ++ be e.fKind 2).length + ([0, 0] ++ be e.fCoordinator 4).length ≤ 100
  rw [List.length_append, List.length_append, be_length, be_length]; decide
def mE (base leader : Int) (e : MarkerEnd) : Int := if mErr e = 0 then chk (mkM base leader e) else mErr e
theorem mbatch {base leader : Int} {e : MarkerEnd} (hb : wI base) (hl : wI leader) (hw : wf_MarkerEnd e) : f_marker_Batch base leader e = some (if mE base leader e = 0 then (mkM base leader e, 0) else (zBat, mE base leader e)) := by
  have hs := (smM hb hl hw).1
  unfold f_marker_Batch mE
  by_cases h : mErr e = 0
  · rw [crec_ok e hw h, Option.bind_some, if_pos h]
    dsimp only
    have e1 : f_batch_Check (⟨base, leader, false, true, true, 0, e.fTime, e.fTime, e.fProducer, e.fEpoch, -1, [mRec e]⟩ : Bat) = some (chk (mkM base leader e)) := (chk_eq hs.1).1
    rw [if_pos rfl, e1, Option.bind_some]
    by_cases hc : chk (mkM base leader e) = 0
    · rw [if_pos hc, if_pos hc]; rfl
    · rw [if_neg hc, if_neg hc]; rfl
  · obtain ⟨x, hx⟩ := crec_no e hw h
    rw [hx, Option.bind_some, if_neg h, if_neg h]
    dsimp only
    rw [if_neg h]
    rfl
theorem mencode {base leader : Int} {e : MarkerEnd} (hb : wI base) (hl : wI leader) (hw : wf_MarkerEnd e) : f_marker_Encode base leader e = some (if mE base leader e = 0 then (encB (mkM base leader e), 0) else ([], mE base leader e)) := by
  have hs := (smM hb hl hw).1
  unfold f_marker_Encode
  rw [mbatch hb hl hw, Option.bind_some]
  by_cases h : mE base leader e = 0
  · have hc : chk (mkM base leader e) = 0 := by
      unfold mE at h
      by_cases h2 : mErr e = 0
      · rwa [if_pos h2] at h
      · rw [if_neg h2] at h; exact absurd h h2
    rw [if_pos h, if_pos h]
    dsimp only
    rw [if_pos rfl, benc hs, if_pos hc]
    rfl
  · rw [if_neg h, if_neg h]
    dsimp only
    rw [if_neg h]
theorem mE_zero {base leader : Int} {e : MarkerEnd} (h : mE base leader e = 0) : mErr e = 0 ∧ chk (mkM base leader e) = 0 := by
  unfold mE at h
  by_cases h2 : mErr e = 0
  · rw [if_pos h2] at h
    exact ⟨h2, h⟩
  · rw [if_neg h2] at h; exact absurd h h2
theorem mread_mk {base leader : Int} {e : MarkerEnd} (hb : wI base) (hl : wI leader) (hw : wf_MarkerEnd e) (h : mE base leader e = 0) : f_marker_Read (mkM base leader e) = some (e, true) := by
  obtain ⟨h1, h2⟩ := mE_zero h
  have hs := (smM hb hl hw).1
  have hkc : (e.fKind = 0 ∨ e.fKind = 1) ∧ 0 ≤ e.fCoordinator ∧ fits e.fCoordinator 4 = true := by
    unfold mErr at h1
    by_cases hk : e.fKind = 0 ∨ e.fKind = 1
    · rw [if_pos hk] at h1
      by_cases hc : 0 ≤ e.fCoordinator ∧ fits e.fCoordinator 4 = true
      · exact ⟨hk, hc⟩
      · rw [if_neg hc] at h1; exact absurd h1 (by decide)
    · rw [if_neg hk] at h1; exact absurd h1 (by decide)
  have hread : f_control_Read (mRec e) = some (e.fKind, e.fCoordinator, 0) := by
    unfold f_control_Read mRec
    dsimp only
    rw [if_neg (by decide), if_neg (by decide), if_neg (by decide), if_pos rfl, rd_key _ hkc.1, Option.bind_some]
    dsimp only
    rw [if_pos rfl, rd_val _ hkc.2.1 hw.2.2.2.2.2 hkc.2.2, Option.bind_some]
    rfl
  have ht := hw.2.2.2.1
  unfold f_marker_Read
  rw [(chk_eq hs.1).1, Option.bind_some, if_pos h2, if_pos (show (mkM base leader e).fControl = true from rfl)]
  show ((some (mRec e)).bind _) = _
  rw [Option.bind_some, hread, Option.bind_some]
  dsimp only
  have e0 : (mkM base leader e).fFirst + (mRec e).fTime = e.fTime := by show e.fTime + 0 = _; omega
  rw [e0, if_pos (show -9223372036854775808 ≤ e.fTime ∧ e.fTime ≤ 9223372036854775807 from ht)]
  rfl
theorem mread_no {b : Bat} (hb : bnB b) (h0 : chk b = 0) (hc : b.fControl = false) : f_marker_Read b = some (⟨0, 0, 0, 0, 0⟩, false) := by
  unfold f_marker_Read
  rw [(chk_eq hb).1, Option.bind_some, if_pos h0, hc, if_neg (by decide)]
end Go.Proofs.Ytcoppaggpbfcmaa.Sl
namespace Go.Proofs.Ytcoppaggpbfcmaa.Sl
open Go.RowKit
set_option linter.unusedVariables false
set_option linter.unusedSimpArgs false
set_option maxRecDepth 100000
def ft_cursitortop : FTab := [(25, 4, 4)]
theorem ft_cursitortop_ok : (ft_cursitortop).OK Try.prog := ⟨FOK.mk Try.runUnderlying25 rfl Try.sizeOf4 rfl, trivial⟩
theorem mix_cursitortop : Try.prog.follows .mixedOrders = true := by kernel_rfl
theorem flat_cursitortop_58 : Flat Try.prog 2 58 [.int .i64, .int .i64, .int .i64, .int .i64, .int .i64] true := (Flat.struct Try.isAgg58 Try.sizeOf58 rfl Try.underlying58 Try.stoodInHeld58 ⟨by decide, rfl, [.int .i64], [.int .i64, .int .i64, .int .i64, .int .i64], false, rfl, (Flat.one_ Try.isAgg3 Try.sizeOf3 Try.underlying3), ⟨by decide, rfl, [.int .i64], [.int .i64, .int .i64, .int .i64], false, rfl, (Flat.one_ Try.isAgg3 Try.sizeOf3 Try.underlying3), ⟨by decide, rfl, [.int .i64], [.int .i64, .int .i64], false, rfl, (Flat.one_ Try.isAgg3 Try.sizeOf3 Try.underlying3), ⟨by decide, rfl, [.int .i64], [.int .i64], false, rfl, (Flat.one_ Try.isAgg3 Try.sizeOf3 Try.underlying3), ⟨by decide, rfl, [.int .i64], [], false, rfl, (Flat.one_ Try.isAgg3 Try.sizeOf3 Try.underlying3), rfl⟩⟩⟩⟩⟩)
theorem bok_cursitortop_25 : BOK Try.prog 25 #[.int .i64 0, .int .i64 0, .bool false, .bool false, .bool false, .int .i64 0, .int .i64 0, .int .i64 0, .int .i64 0, .int .i64 0, .int .i64 0, .slice none 0 0] [(0, 1), (1, 1), (2, 1), (3, 1), (4, 1), (5, 1), (6, 1), (7, 1), (8, 1), (9, 1), (10, 1), (11, 1)] := BOK.mk Try.zeroValue25 Try.runUnderlying25 (by intro w; simp)
theorem sok_cursitortop_46_0 : SOK Try.prog 46 25 0 12 #[] := SOK.mk0 Try.runUnderlying46 Try.sizeOf25
theorem sok_cursitortop_46_1 : SOK Try.prog 46 25 1 12 #[.int .i64 0, .int .i64 0, .bool false, .bool false, .bool false, .int .i64 0, .int .i64 0, .int .i64 0, .int .i64 0, .int .i64 0, .int .i64 0, .slice none 0 0] := SOK.mk Try.runUnderlying46 Try.sizeOf25 Try.zeroValue25 (by decide) (by kernel_rfl)
theorem inf_cursitortop_25 : (Try.prog.info? 25).map (fun i => (i.zero, i.size, i.bytes)) = some (some (.agg #[.int .i64 0, .int .i64 0, .bool false, .bool false, .bool false, .int .i64 0, .int .i64 0, .int .i64 0, .int .i64 0, .int .i64 0, .int .i64 0, .slice none 0 0]), 12, 96) := by kernel_rfl
def f_top_none  : Option (Bat × List UInt8 × Bool) := (f_batch_Encode (⟨0, 0, false, false, false, 0, 0, 0, -1, -1, -1, []⟩ : Bat)).bind fun (x3, x4) => (if x4 = 0 then (if (x3.length : Int) = 61 then some true else some false) else some false).bind fun y7 => some ((⟨0, 0, false, false, false, 0, 0, 0, -1, -1, -1, []⟩ : Bat), x3, y7)
set_option maxRecDepth 100000 in
set_option maxHeartbeats 4000000 in
theorem f_top_none_spec  (r : Bat × List UInt8 × Bool) (h : f_top_none  = some r) : SpecX Try.prog 23 #[] .triv (EmpR) (fun v A' N => ∃ (A11 : Option Addr) (c12 : Nat), v = .tuple #[.agg #[.int .i64 r.1.fBase, .int .i64 r.1.fLeader, .bool r.1.fAppend, .bool r.1.fTxn, .bool r.1.fControl, .int .i64 r.1.fLast, .int .i64 r.1.fFirst, .int .i64 r.1.fMax, .int .i64 r.1.fProducer, .int .i64 r.1.fEpoch, .int .i64 r.1.fSequence, .slice A11 r.1.fRecords.length c12], .string (bsOf r.2.1), .bool r.2.2] ∧ A' = EmpR ∧ N = [RdR (sliceRd 7 Rec_rd) [.slice A11 r.1.fRecords.length c12] r.1.fRecords]) := by
  refine enterA Try.func23 rfl Try.ntmps23 rfl ?_
  intro F w hX
  unfold f_top_none at h
  refine T.seq (T.region rfl ?_)
  refine TL.alloc rfl .u Try.zeroValue25 rfl (fun b1 => ?_)
  refine TL.run ft_cursitortop_ok [1, 2] rfl rfl ?_
  refine TL.nil (X.seq (T.seq (T.region rfl ?_)))
  refine TL.q rfl .u (Ex.bld (cells := #[.int .i64 0, .int .i64 0, .bool false, .bool false, .bool false, .int .i64 0, .int .i64 0, .int .i64 0, .int .i64 (-1), .int .i64 (-1), .int .i64 (-1), .slice none 0 0]) bok_cursitortop_25 rfl (by kernel_rfl)) rfl ?_
  refine TL.alloc rfl .u Try.zeroValue25 rfl (fun b2 => ?_)
  refine TL.st0 (cs' := #[.int .i64 0, .int .i64 0, .bool false, .bool false, .bool false, .int .i64 0, .int .i64 0, .int .i64 0, .int .i64 (-1), .int .i64 (-1), .int .i64 (-1), .slice none 0 0]) rfl .u rfl rfl Try.sizeOf25 rfl rfl rfl rfl ?_
  refine TL.nil (X.seq (T.seq (T.region rfl ?_)))
  refine TL.q rfl .u (Ex.bS (us := [.int .i64 0, .int .i64 0, .bool false, .bool false, .bool false, .int .i64 0, .int .i64 0, .int .i64 0, .int .i64 (-1), .int .i64 (-1), .int .i64 (-1), .slice none 0 0]) 0 rfl Try.isAgg25 Try.sizeOf25 rfl rfl rfl) rfl ?_
  obtain ⟨⟨x3, x4⟩, hx5, h⟩ := Option.bind_eq_some_iff.1 h
  try dsimp only at h
  refine TL.ce rfl .u (.fn Try.call14 rfl) (f_batch_Encode_spec (⟨0, 0, false, false, false, 0, 0, 0, -1, -1, -1, []⟩ : Bat) _ _ _ hx5) (fun _ hs => slice_nil_reads) rfl ?_
  refine TL.run ft_cursitortop_ok [2, 3, 4, 5, 6] rfl rfl ?_
  refine TL.nil (X.seq (T.seq ?_))
  obtain ⟨y7, h, hk8⟩ := Option.bind_eq_some_iff.1 h
  refine T.jq (fun e Rs => e = [(0, .pointer (some ⟨b1, 0, none⟩)), (1, .string (bsOf x3)), (2, .bool y7)] ∧ Rs = [BlkR b2 25 #[.int .i64 0, .int .i64 0, .bool false, .bool false, .bool false, .int .i64 0, .int .i64 0, .int .i64 0, .int .i64 (-1), .int .i64 (-1), .int .i64 (-1), .slice none 0 0], BlkR b1 25 #[.int .i64 0, .int .i64 0, .bool false, .bool false, .bool false, .int .i64 0, .int .i64 0, .int .i64 0, .int .i64 (-1), .int .i64 (-1), .int .i64 (-1), .slice none 0 0], EmpR]) ?_ ?_
  · clear hk8
    refine T.region rfl ?_
    refine TL.q rfl .u (Ex.bS (us := [.int .i64 0, .int .i64 0, .bool false, .bool false, .bool false, .int .i64 0, .int .i64 0, .int .i64 0, .int .i64 (-1), .int .i64 (-1), .int .i64 (-1), .slice none 0 0]) 0 rfl Try.isAgg25 Try.sizeOf25 rfl rfl rfl) rfl ?_
    by_cases c9 : x4 = 0
    · replace h := ifT c9 h
      refine TL.run ft_cursitortop_ok [1, 2, 3, 4] rfl rfl ?_
      refine TL.q rfl (.g rfl rfl (decide_eq_true c9)) (Ex.ft ft_cursitortop_ok rfl) rfl ?_
      refine TL.q rfl (.g rfl rfl (decide_eq_true c9)) (Ex.lenB rfl Try.runUnderlying9) rfl ?_
      refine TL.q rfl (.g rfl rfl (decide_eq_true c9)) (Ex.ft ft_cursitortop_ok rfl) rfl ?_
      refine TL.q rfl .u (Ex.py rfl (decide_eq_true c9) rfl) rfl ?_
      refine TL.st1 (cs' := #[.int .i64 0, .int .i64 0, .bool false, .bool false, .bool false, .int .i64 0, .int .i64 0, .int .i64 0, .int .i64 (-1), .int .i64 (-1), .int .i64 (-1), .slice none 0 0]) rfl .u rfl rfl Try.sizeOf25 rfl rfl rfl rfl ?_
      refine TL.run ft_cursitortop_ok [10, 11] rfl rfl ?_
      by_cases c10 : (x3.length : Int) = 61
      · replace h := ifT c10 h
        cases h
        exact TL.nil (X.as (d := 2) (v' := .bool true) rfl (congrArg Value.bool (decide_eq_true c10)) (X.jq [0, 0, 0] ⟨rfl, rfl⟩ (by rfl) (by rfl)))
      · replace h := ifF c10 h
        cases h
        exact TL.nil (X.as (d := 2) (v' := .bool false) rfl (congrArg Value.bool (decide_eq_false c10)) (X.jq [0, 0, 0] ⟨rfl, rfl⟩ (by rfl) (by rfl)))
    · replace h := ifF c9 h
      refine TL.run ft_cursitortop_ok [1, 2, 3, 4] rfl rfl ?_
      refine TL.no rfl (.gn rfl rfl (decide_eq_false c9)) rfl ?_
      refine TL.no rfl (.gn rfl rfl (decide_eq_false c9)) rfl ?_
      refine TL.no rfl (.gn rfl rfl (decide_eq_false c9)) rfl ?_
      refine TL.q rfl .u (Ex.pn rfl (decide_eq_false c9) rfl) rfl ?_
      refine TL.st1 (cs' := #[.int .i64 0, .int .i64 0, .bool false, .bool false, .bool false, .int .i64 0, .int .i64 0, .int .i64 0, .int .i64 (-1), .int .i64 (-1), .int .i64 (-1), .slice none 0 0]) rfl .u rfl rfl Try.sizeOf25 rfl rfl rfl rfl ?_
      refine TL.run ft_cursitortop_ok [10, 11] rfl rfl ?_
      cases h
      exact TL.nil (X.jq [0, 0, 0] ⟨rfl, rfl⟩ (by rfl) (by rfl))
  · rintro _ _ ⟨rfl, rfl⟩
    clear h
    have h := hk8
    clear hk8
    try dsimp only at h
    obtain rfl := Option.some.inj h
    refine X.seq (T.ret ?_)
    refine X.nilrd 7 Rec_rd ?_
    exact X.done3 [3, 0] Try.results23 (RV.cS (us := #[.int .i64 0, .int .i64 0, .bool false, .bool false, .bool false, .int .i64 0, .int .i64 0, .int .i64 0, .int .i64 (-1), .int .i64 (-1), .int .i64 (-1), .slice none 0 0]) 2 rfl Try.isAgg25 Try.sizeOf25 rfl rfl) (RV.tm rfl) (RV.tm rfl) ⟨_, _, rfl, rfl, rfl⟩ (by rfl) (.inl rfl)
def f_top_WholeMarkers_l2 (a1 : List MarkerEnd) : List Bat → Bool → Int → I → Option (Lp Bool (Bool × Int × I))
  | [], y127, y128, st130 => some (Lp.go (y127, y128, st130))
  | x135 :: xs, y127, y128, st130 => (f_batch_Read st130).bind fun (x142, st145) => (f_marker_Read x142).bind fun (x148, x149) => ((f_r11_Same x142 x135).bind fun x157 => if x157 = true then (if (x149 == x135.fControl) = true then some false else some true) else some true).bind fun y155 => if y155 = true then none else (if x149 = true then ((if y128 ≥ (a1.length : Int) then some true else (if 0 ≤ y128 then ((a1[y128.toNat]?).bind fun x177 => if x148.fProducer = x177.fProducer then (if x148.fEpoch = x177.fEpoch then (if x148.fKind = x177.fKind then (if x148.fTime = x177.fTime then (if x148.fCoordinator = x177.fCoordinator then some false else some true) else some true) else some true) else some true) else some true) else none)).bind fun y173 => if y173 = true then none else (if -9223372036854775808 ≤ (y128 + 1) ∧ (y128 + 1) ≤ 9223372036854775807 then (f_top_WholeMarkers_l2 a1 xs y127 (y128 + 1) st145) else none)) else (f_top_WholeMarkers_l2 a1 xs y127 y128 st145))
def f_top_WholeMarkers_l1 (a0 : List Bat) (a1 : List MarkerEnd) : Nat → Bool → List UInt8 → List Bat → Nat → Option (Lp Bool (Bool × List UInt8 × List Bat × Nat))
  | 0, _, _, _, _ => none
  | m29 + 1, y20, y21, y22, k25 => (if (k25 : Int) < (a0.length : Int) then some true else (if (k25 : Int) < (a1.length : Int) then some true else some false)).bind fun y34 => if y34 = true then (if (k25 : Int) < (a0.length : Int) then (((a0[k25]?).bind fun x54 => (f_l11_Small x54).bind fun x60 => if x60 = 0 then some true else ((f_r11_Check x54).bind fun x63 => if x63 = 0 then some x54.fControl else some true)).bind fun y52 => if y52 = true then some (Lp.ret true) else ((a0[k25]?).bind fun x67 => (f_r11_Encode x67).bind fun x73 => if y21.length + x73.length ≤ 9223372036854775807 then (if (y22.length + 1) * 96 ≤ 140737488355328 then (if (k25 : Int) < (a1.length : Int) then ((a1[k25]?).bind fun x81 => (f_marker_Batch (k25 : Int) 0 x81).bind fun (x84, x87) => (f_marker_Encode (k25 : Int) 0 x81).bind fun (x90, x91) => if x87 = x91 then (if x87 = 0 then (if (y21 ++ x73).length + x90.length ≤ 9223372036854775807 then (if ((y22 ++ [x67]).length + 1) * 96 ≤ 140737488355328 then (if -9223372036854775808 ≤ ((k25 : Int) + 1) ∧ ((k25 : Int) + 1) ≤ 9223372036854775807 then (f_top_WholeMarkers_l1 a0 a1 m29 y20 ((y21 ++ x73) ++ x90) ((y22 ++ [x67]) ++ [x84]) (k25 + 1)) else none) else none) else none) else some (Lp.ret true)) else none) else (if -9223372036854775808 ≤ ((k25 : Int) + 1) ∧ ((k25 : Int) + 1) ≤ 9223372036854775807 then (f_top_WholeMarkers_l1 a0 a1 m29 y20 (y21 ++ x73) (y22 ++ [x67]) (k25 + 1)) else none)) else none) else none)) else (if (k25 : Int) < (a1.length : Int) then ((a1[k25]?).bind fun x103 => (f_marker_Batch (k25 : Int) 0 x103).bind fun (x106, x109) => (f_marker_Encode (k25 : Int) 0 x103).bind fun (x112, x113) => if x109 = x113 then (if x109 = 0 then (if y21.length + x112.length ≤ 9223372036854775807 then (if (y22.length + 1) * 96 ≤ 140737488355328 then (if -9223372036854775808 ≤ ((k25 : Int) + 1) ∧ ((k25 : Int) + 1) ≤ 9223372036854775807 then (f_top_WholeMarkers_l1 a0 a1 m29 y20 (y21 ++ x112) (y22 ++ [x106]) (k25 + 1)) else none) else none) else none) else some (Lp.ret true)) else none) else (if -9223372036854775808 ≤ ((k25 : Int) + 1) ∧ ((k25 : Int) + 1) ≤ 9223372036854775807 then (f_top_WholeMarkers_l1 a0 a1 m29 y20 y21 y22 (k25 + 1)) else none))) else (some (Lp.go (y20, y21, y22, k25)))
def f_top_WholeMarkers (a0 : List Bat) (a1 : List MarkerEnd) : Option (Bool) := (f_top_none).bind fun (x5, x8, x9) => if x9 = true then ((if (a0.length : Int) > 6 then some true else (if (a1.length : Int) > 6 then some true else some false)).bind fun y14 => if y14 = true then some true else ((f_top_WholeMarkers_l1 a0 a1 (((a0.length : Int)).toNat + ((a1.length : Int)).toNat + 1) false [] ([] : List Bat) 0).bind fun e => match e with | .ret r => some r | .go (y215, y216, y217, k220) => ((gNew y216).bind fun st221 => (f_top_WholeMarkers_l2 a1 y217 y215 0 st221).bind fun e => match e with | .ret r => some r | .go (y284, y285, st287) => ((if y285 = (a1.length : Int) then ((gClose st287).bind fun (x296, st297) => if x296 = 0 then some (true, st297) else some (false, st297)) else some (false, st287)).bind fun (y292, st293) => some y292)))) else none
set_option maxRecDepth 100000 in
set_option maxHeartbeats 4000000 in
theorem f_top_WholeMarkers_spec (a0 : List Bat) (A1 : Option Addr) (c2 : Nat) (a1 : List MarkerEnd) (A3 : Option Addr) (c4 : Nat) (r : Bool) (h : f_top_WholeMarkers a0 a1 = some r) : SpecX Try.prog 7 #[.slice A1 a0.length c2, .slice A3 a1.length c4] (RX.and (RX.of (sliceRd 12 Bat_rd) [.slice A1 a0.length c2] a0) (RX.of (sliceRd 5 MarkerEnd_rd) [.slice A3 a1.length c4] a1)) (EmpR) (fun v A' N => v = .bool r ∧ A' = EmpR ∧ N = []) := by
  refine enterA Try.func7 rfl Try.ntmps7 rfl ?_
  intro F w hX
  obtain ⟨S, hS, hSF⟩ := hX
  have hX : (RX.and (RX.of (sliceRd 12 Bat_rd) [.slice A1 a0.length c2] a0) (RX.of (sliceRd 5 MarkerEnd_rd) [.slice A3 a1.length c4] a1)).reads w F := ⟨S, hS, hSF⟩
  unfold f_top_WholeMarkers at h
  refine T.seq (T.region rfl ?_)
  refine TL.run ft_cursitortop_ok [0] rfl rfl ?_
  obtain ⟨⟨x5, x8, x9⟩, hx10, h⟩ := Option.bind_eq_some_iff.1 h
  try dsimp only at h
  refine TL.nil (X.seq (T.seq (T.seq (T.region rfl ?_))))
  refine TL.cge rfl .u (.fn Try.call23 rfl) (f_top_none_spec _ hx10) (fun _ hs => (RX.reads_triv _ _)) rfl ?_
  rintro _ _ _ ⟨A6, c7, rfl, rfl, rfl⟩
  refine TL.sel [0, 0] rfl ?_
  refine TL.run ft_cursitortop_ok [1, 2, 3, 4] rfl rfl ?_
  refine TL.alloc rfl .u Try.zeroValue25 rfl (fun b11 => ?_)
  refine TL.st0 (cs' := #[.int .i64 x5.fBase, .int .i64 x5.fLeader, .bool x5.fAppend, .bool x5.fTxn, .bool x5.fControl, .int .i64 x5.fLast, .int .i64 x5.fFirst, .int .i64 x5.fMax, .int .i64 x5.fProducer, .int .i64 x5.fEpoch, .int .i64 x5.fSequence, .slice A6 x5.fRecords.length c7]) rfl .u rfl rfl Try.sizeOf25 rfl rfl rfl rfl ?_
  refine TL.run ft_cursitortop_ok [7, 8] rfl rfl ?_
  refine TL.nil (X.seq (T.seq (T.region rfl ?_)))
  refine TL.run ft_cursitortop_ok [0, 1] rfl rfl ?_
  by_cases c12 : x9 = true
  · replace h := ifT c12 h
    refine TL.nil (X.seq ?_)
    refine T.no rfl (bn_f c12) ?_
    refine T.skip (X.seq (T.seq (T.seq ?_)))
    obtain ⟨y14, h, hk15⟩ := Option.bind_eq_some_iff.1 h
    refine T.jq (fun e Rs => e = [(0, .slice A1 a0.length c2), (1, .slice A3 a1.length c4), (4, .bool false), (36, .bool y14)] ∧ Rs = [BlkR b11 25 #[.int .i64 x5.fBase, .int .i64 x5.fLeader, .bool x5.fAppend, .bool x5.fTxn, .bool x5.fControl, .int .i64 x5.fLast, .int .i64 x5.fFirst, .int .i64 x5.fMax, .int .i64 x5.fProducer, .int .i64 x5.fEpoch, .int .i64 x5.fSequence, .slice A6 x5.fRecords.length c7], RdR (sliceRd 7 Rec_rd) [.slice A6 x5.fRecords.length c7] x5.fRecords, EmpR]) ?_ ?_
    · clear hk15
      refine T.region rfl ?_
      refine TL.run ft_cursitortop_ok [0] rfl rfl ?_
      refine TL.q rfl .u (Ex.lenS rfl Try.runUnderlying46) rfl ?_
      by_cases c16 : (a0.length : Int) > 6
      · replace h := ifT c16 h
        refine TL.run ft_cursitortop_ok [2, 3] rfl rfl ?_
        refine TL.no rfl (.gn rfl rfl (decide_eq_true c16)) rfl ?_
        refine TL.no rfl (.gn rfl rfl (decide_eq_true c16)) rfl ?_
        refine TL.no rfl (.gn rfl rfl (decide_eq_true c16)) rfl ?_
        refine TL.q rfl .u (Ex.py rfl (decide_eq_true c16) rfl) rfl ?_
        cases h
        exact TL.nil (X.jq [0, 0, 0] ⟨rfl, rfl⟩ (by rfl) (by rfl))
      · replace h := ifF c16 h
        refine TL.run ft_cursitortop_ok [2, 3] rfl rfl ?_
        refine TL.q rfl (.g rfl rfl (decide_eq_false c16)) (Ex.ft ft_cursitortop_ok rfl) rfl ?_
        refine TL.q rfl (.g rfl rfl (decide_eq_false c16)) (Ex.lenS rfl Try.runUnderlying53) rfl ?_
        refine TL.q rfl (.g rfl rfl (decide_eq_false c16)) (Ex.ft ft_cursitortop_ok rfl) rfl ?_
        refine TL.q rfl .u (Ex.pn rfl (decide_eq_false c16) rfl) rfl ?_
        by_cases c17 : (a1.length : Int) > 6
        · replace h := ifT c17 h
          cases h
          exact TL.nil (X.as (d := 36) (v' := .bool true) rfl (congrArg Value.bool (decide_eq_true c17)) (X.jq [0, 0, 0] ⟨rfl, rfl⟩ (by rfl) (by rfl)))
        · replace h := ifF c17 h
          cases h
          exact TL.nil (X.as (d := 36) (v' := .bool false) rfl (congrArg Value.bool (decide_eq_false c17)) (X.jq [0, 0, 0] ⟨rfl, rfl⟩ (by rfl) (by rfl)))
    · rintro _ _ ⟨rfl, rfl⟩
      clear h
      have h := hk15
      clear hk15
      try dsimp only at h
      by_cases c18 : y14 = true
      · replace h := ifT c18 h
        refine X.seq ?_
        refine T.yes rfl c18 ?_
        refine T.seq (T.region rfl ?_)
        refine TL.run ft_cursitortop_ok [0] rfl rfl ?_
        obtain rfl := Option.some.inj h
        exact TL.nil (X.seq (T.ret (X.rs (X.done1 [2] Try.results7 (RV.tm rfl) ⟨rfl, rfl, rfl⟩ (by rfl) (.inl rfl)))))
      · replace h := ifF c18 h
        replace c18 := eq_false_of_ne_true c18
        refine X.seq ?_
        refine T.no rfl c18 ?_
        refine T.skip (X.seq (T.seq (T.region rfl ?_)))
        refine TL.lit (cells := #[]) rfl .u sok_cursitortop_46_0 rfl (by rfl) rfl (fun b19 => ?_)
        refine TL.rowOf (us := []) (xs := ([] : List Bat)) (E := (oldRd w S Bat_rd)) (z := 12) rfl (Nat.le_of_ble_eq_true rfl) (fun _ => rfl) ?_
        refine TL.run ft_cursitortop_ok [1, 2] rfl rfl ?_
        refine TL.nil (X.seq (T.seq (T.seq (T.region rfl ?_))))
        refine TL.run ft_cursitortop_ok [0] rfl rfl ?_
        refine TL.nil (X.seq (T.block ?_))
        obtain ⟨E26, hE27, hO28⟩ := Option.bind_eq_some_iff.1 h
        refine T.lp (fun m e Rs => ∃ (y20 : Bool) (y21 : List UInt8) (y22 : List Bat) (A23 : Option Addr) (c24 : Nat) (k25 : Nat), e = [(0, .slice A1 a0.length c2), (1, .slice A3 a1.length c4), (4, .bool y20), (8, .string (bsOf y21)), (9, .slice A23 y22.length c24), (10, .int .i64 (k25 : Int))] ∧ Rs = [OwnR 25 12 (oldRd w S Bat_rd) (.slice A23 y22.length c24) y22, BlkR b11 25 #[.int .i64 x5.fBase, .int .i64 x5.fLeader, .bool x5.fAppend, .bool x5.fTxn, .bool x5.fControl, .int .i64 x5.fLast, .int .i64 x5.fFirst, .int .i64 x5.fMax, .int .i64 x5.fProducer, .int .i64 x5.fEpoch, .int .i64 x5.fSequence, .slice A6 x5.fRecords.length c7], RdR (sliceRd 7 Rec_rd) [.slice A6 x5.fRecords.length c7] x5.fRecords, EmpR] ∧ f_top_WholeMarkers_l1 a0 a1 m y20 y21 y22 k25 = some E26) (((a0.length : Int)).toNat + ((a1.length : Int)).toNat + 1) [0, 0, 0, 0] ⟨false, [], ([] : List Bat), (some ⟨b19, 0, none⟩), 0, 0, rfl, rfl, by exact hE27⟩ (by rfl) (by rfl) ?_
        rintro m29 _ _ ⟨y20, y21, y22, A23, c24, k25, rfl, rfl, hl31⟩
        clear hE27 h
        cases m29 with
        | zero =>
          rw [f_top_WholeMarkers_l1] at hl31
          cases hl31
        | succ m29 =>
          have h := hl31
          clear hl31
          rw [f_top_WholeMarkers_l1] at h
          refine T.seq (T.seq ?_)
          obtain ⟨y34, h, hk35⟩ := Option.bind_eq_some_iff.1 h
          refine T.jq (fun e Rs => e = [(0, .slice A1 a0.length c2), (1, .slice A3 a1.length c4), (4, .bool y20), (8, .string (bsOf y21)), (9, .slice A23 y22.length c24), (10, .int .i64 (k25 : Int)), (47, .bool y34)] ∧ Rs = [OwnR 25 12 (oldRd w S Bat_rd) (.slice A23 y22.length c24) y22, BlkR b11 25 #[.int .i64 x5.fBase, .int .i64 x5.fLeader, .bool x5.fAppend, .bool x5.fTxn, .bool x5.fControl, .int .i64 x5.fLast, .int .i64 x5.fFirst, .int .i64 x5.fMax, .int .i64 x5.fProducer, .int .i64 x5.fEpoch, .int .i64 x5.fSequence, .slice A6 x5.fRecords.length c7], RdR (sliceRd 7 Rec_rd) [.slice A6 x5.fRecords.length c7] x5.fRecords, EmpR]) ?_ ?_
          · clear hk35
            refine T.region rfl ?_
            refine TL.run ft_cursitortop_ok [0, 1] rfl rfl ?_
            refine TL.q rfl .u (Ex.lenS rfl Try.runUnderlying46) rfl ?_
            by_cases c36 : (k25 : Int) < (a0.length : Int)
            · replace h := ifT c36 h
              refine TL.run ft_cursitortop_ok [3, 4] rfl rfl ?_
              refine TL.no rfl (.gn rfl rfl (decide_eq_true c36)) rfl ?_
              refine TL.no rfl (.gn rfl rfl (decide_eq_true c36)) rfl ?_
              refine TL.no rfl (.gn rfl rfl (decide_eq_true c36)) rfl ?_
              refine TL.no rfl (.gn rfl rfl (decide_eq_true c36)) rfl ?_
              refine TL.q rfl .u (Ex.py rfl (decide_eq_true c36) rfl) rfl ?_
              cases h
              exact TL.nil (X.jq [0, 0, 0, 0] ⟨rfl, rfl⟩ (by rfl) (by rfl))
            · replace h := ifF c36 h
              refine TL.run ft_cursitortop_ok [3, 4] rfl rfl ?_
              refine TL.q rfl (.g rfl rfl (decide_eq_false c36)) (Ex.ft ft_cursitortop_ok rfl) rfl ?_
              refine TL.q rfl (.g rfl rfl (decide_eq_false c36)) (Ex.ft ft_cursitortop_ok rfl) rfl ?_
              refine TL.q rfl (.g rfl rfl (decide_eq_false c36)) (Ex.lenS rfl Try.runUnderlying53) rfl ?_
              refine TL.q rfl (.g rfl rfl (decide_eq_false c36)) (Ex.ft ft_cursitortop_ok rfl) rfl ?_
              refine TL.q rfl .u (Ex.pn rfl (decide_eq_false c36) rfl) rfl ?_
              by_cases c37 : (k25 : Int) < (a1.length : Int)
              · replace h := ifT c37 h
                cases h
                exact TL.nil (X.as (d := 47) (v' := .bool true) rfl (congrArg Value.bool (decide_eq_true c37)) (X.jq [0, 0, 0, 0] ⟨rfl, rfl⟩ (by rfl) (by rfl)))
              · replace h := ifF c37 h
                cases h
                exact TL.nil (X.as (d := 47) (v' := .bool false) rfl (congrArg Value.bool (decide_eq_false c37)) (X.jq [0, 0, 0, 0] ⟨rfl, rfl⟩ (by rfl) (by rfl)))
          · rintro _ _ ⟨rfl, rfl⟩
            clear h
            have h := hk35
            clear hk35
            try dsimp only at h
            by_cases c38 : y34 = true
            · replace h := ifT c38 h
              refine X.seq ?_
              refine T.yes rfl c38 ?_
              refine T.skip (X.seq (T.seq (T.block (T.seq (T.seq (T.region rfl ?_))))))
              refine TL.run ft_cursitortop_ok [0, 1] rfl rfl ?_
              refine TL.q rfl .u (Ex.lenS rfl Try.runUnderlying46) rfl ?_
              refine TL.run ft_cursitortop_ok [3] rfl rfl ?_
              by_cases c39 : (k25 : Int) < (a0.length : Int)
              · replace h := ifT c39 h
                refine TL.nil (X.seq ?_)
                refine T.yes rfl (decide_eq_true c39) ?_
                refine T.seq (T.seq ?_)
                obtain ⟨y52, h, hk53⟩ := Option.bind_eq_some_iff.1 h
                refine T.jq (fun e Rs => e = [(0, .slice A1 a0.length c2), (1, .slice A3 a1.length c4), (4, .bool y20), (8, .string (bsOf y21)), (9, .slice A23 y22.length c24), (10, .int .i64 (k25 : Int)), (74, .bool y52)] ∧ Rs = [OwnR 25 12 (oldRd w S Bat_rd) (.slice A23 y22.length c24) y22, BlkR b11 25 #[.int .i64 x5.fBase, .int .i64 x5.fLeader, .bool x5.fAppend, .bool x5.fTxn, .bool x5.fControl, .int .i64 x5.fLast, .int .i64 x5.fFirst, .int .i64 x5.fMax, .int .i64 x5.fProducer, .int .i64 x5.fEpoch, .int .i64 x5.fSequence, .slice A6 x5.fRecords.length c7], RdR (sliceRd 7 Rec_rd) [.slice A6 x5.fRecords.length c7] x5.fRecords, EmpR]) ?_ ?_
                · clear hk53
                  refine T.region rfl ?_
                  obtain ⟨x54, hx55, h⟩ := Option.bind_eq_some_iff.1 h
                  obtain ⟨gz56, oz56, rfl, z56cs, z56cl, z56cc, z56nf, z56r⟩ := RX.elemS (by decide) hS.1 hSF hx55
                  obtain ⟨A57, c58, rfl, z56s0⟩ := z56r
                  have hX59 : (RX.of (sliceRd 7 Rec_rd) [.slice A57 x54.fRecords.length c58] x54.fRecords).reads w F := ⟨S, z56s0, hSF⟩
                  refine TL.run ft_cursitortop_ok [0, 1] rfl rfl ?_
                  refine TL.q rfl .u (Ex.ixS (k := k25) rfl rfl rfl Try.runUnderlying46 Try.sizeOf25 (List.getElem?_eq_some_iff.1 hx55).1) rfl ?_
                  refine TL.q rfl .u (Ex.oS (us := [.int .i64 x54.fBase, .int .i64 x54.fLeader, .bool x54.fAppend, .bool x54.fTxn, .bool x54.fControl, .int .i64 x54.fLast, .int .i64 x54.fFirst, .int .i64 x54.fMax, .int .i64 x54.fProducer, .int .i64 x54.fEpoch, .int .i64 x54.fSequence, .slice A57 x54.fRecords.length c58]) 0 rfl Try.isAgg25 Try.sizeOf25 z56nf z56cc rfl rfl rfl) rfl ?_
                  obtain ⟨x60, hx61, h⟩ := Option.bind_eq_some_iff.1 h
                  refine TL.ce rfl .u (.fn Try.call12 rfl) (f_l11_Small_spec x54 _ _ _ hx61) (fun _ hs => (SrcE.old hs hX59)) rfl ?_
                  by_cases c62 : x60 = 0
                  · replace h := ifT c62 h
                    refine TL.run ft_cursitortop_ok [5, 6] rfl rfl ?_
                    refine TL.no rfl (.gn rfl rfl (decide_eq_true c62)) rfl ?_
                    refine TL.no rfl (.gn rfl rfl (decide_eq_true c62)) rfl ?_
                    refine TL.no rfl (.gn rfl rfl (decide_eq_true c62)) rfl ?_
                    refine TL.no rfl (.gn rfl rfl (decide_eq_true c62)) rfl ?_
                    refine TL.no rfl (.gn rfl rfl (decide_eq_true c62)) rfl ?_
                    refine TL.no rfl (.gn rfl rfl (decide_eq_true c62)) rfl ?_
                    refine TL.q rfl .u (Ex.py rfl (decide_eq_true c62) rfl) rfl ?_
                    refine TL.run ft_cursitortop_ok [14] rfl rfl ?_
                    refine TL.no rfl (.gn rfl rfl rfl) rfl ?_
                    refine TL.no rfl (.gn rfl rfl rfl) rfl ?_
                    refine TL.no rfl (.gn rfl rfl rfl) rfl ?_
                    refine TL.no rfl (.gn rfl rfl rfl) rfl ?_
                    refine TL.no rfl (.gn rfl rfl rfl) rfl ?_
                    refine TL.q rfl .u (Ex.py rfl rfl rfl) rfl ?_
                    cases h
                    exact TL.nil (X.jq [0, 0, 0, 0] ⟨rfl, rfl⟩ (by rfl) (by rfl))
                  · replace h := ifF c62 h
                    refine TL.run ft_cursitortop_ok [5, 6] rfl rfl ?_
                    refine TL.q rfl (.g rfl rfl (decide_eq_false c62)) (Ex.ft ft_cursitortop_ok rfl) rfl ?_
                    refine TL.q rfl (.g rfl rfl (decide_eq_false c62)) (Ex.ft ft_cursitortop_ok rfl) rfl ?_
                    refine TL.q rfl (.g rfl rfl (decide_eq_false c62)) (Ex.ixS (k := k25) rfl rfl rfl Try.runUnderlying46 Try.sizeOf25 (List.getElem?_eq_some_iff.1 hx55).1) rfl ?_
                    refine TL.q rfl (.g rfl rfl (decide_eq_false c62)) (Ex.oS (us := [.int .i64 x54.fBase, .int .i64 x54.fLeader, .bool x54.fAppend, .bool x54.fTxn, .bool x54.fControl, .int .i64 x54.fLast, .int .i64 x54.fFirst, .int .i64 x54.fMax, .int .i64 x54.fProducer, .int .i64 x54.fEpoch, .int .i64 x54.fSequence, .slice A57 x54.fRecords.length c58]) 0 rfl Try.isAgg25 Try.sizeOf25 z56nf z56cc rfl rfl rfl) rfl ?_
                    obtain ⟨x63, hx64, h⟩ := Option.bind_eq_some_iff.1 h
                    refine TL.ce rfl (.g rfl rfl (decide_eq_false c62)) (.fn Try.call13 rfl) (f_r11_Check_spec x54 _ _ _ hx64) (fun _ hs => (SrcE.old hs hX59)) rfl ?_
                    refine TL.q rfl (.g rfl rfl (decide_eq_false c62)) (Ex.ft ft_cursitortop_ok rfl) rfl ?_
                    refine TL.q rfl .u (Ex.pn rfl (decide_eq_false c62) rfl) rfl ?_
                    by_cases c65 : x63 = 0
                    · replace h := ifT c65 h
                      refine TL.run ft_cursitortop_ok [14] rfl rfl ?_
                      refine TL.q rfl (.g rfl rfl (bn_f (decide_eq_true c65))) (Ex.ft ft_cursitortop_ok rfl) rfl ?_
                      refine TL.q rfl (.g rfl rfl (bn_f (decide_eq_true c65))) (Ex.ft ft_cursitortop_ok rfl) rfl ?_
                      refine TL.q rfl (.g rfl rfl (bn_f (decide_eq_true c65))) (Ex.ixS (k := k25) rfl rfl rfl Try.runUnderlying46 Try.sizeOf25 (List.getElem?_eq_some_iff.1 hx55).1) rfl ?_
                      refine TL.q rfl (.g rfl rfl (bn_f (decide_eq_true c65))) (Ex.ft ft_cursitortop_ok rfl) rfl ?_
                      refine TL.q rfl (.g rfl rfl (bn_f (decide_eq_true c65))) (Ex.o1 4 rfl Try.isAgg4 z56nf z56cc rfl rfl) rfl ?_
                      refine TL.q rfl .u (Ex.pn rfl (bn_f (decide_eq_true c65)) rfl) rfl ?_
                      cases h
                      exact TL.nil (X.jq [0, 0, 0, 0] ⟨rfl, rfl⟩ (by rfl) (by rfl))
                    · replace h := ifF c65 h
                      refine TL.run ft_cursitortop_ok [14] rfl rfl ?_
                      refine TL.no rfl (.gn rfl rfl (bn_t (decide_eq_false c65))) rfl ?_
                      refine TL.no rfl (.gn rfl rfl (bn_t (decide_eq_false c65))) rfl ?_
                      refine TL.no rfl (.gn rfl rfl (bn_t (decide_eq_false c65))) rfl ?_
                      refine TL.no rfl (.gn rfl rfl (bn_t (decide_eq_false c65))) rfl ?_
                      refine TL.no rfl (.gn rfl rfl (bn_t (decide_eq_false c65))) rfl ?_
                      refine TL.q rfl .u (Ex.py rfl (bn_t (decide_eq_false c65)) rfl) rfl ?_
                      cases h
                      exact TL.nil (X.jq [0, 0, 0, 0] ⟨rfl, rfl⟩ (by rfl) (by rfl))
                · rintro _ _ ⟨rfl, rfl⟩
                  clear h
                  have h := hk53
                  clear hk53
                  try dsimp only at h
                  by_cases c66 : y52 = true
                  · replace h := ifT c66 h
                    refine X.seq ?_
                    refine T.yes rfl c66 ?_
                    refine T.seq (T.region rfl ?_)
                    refine TL.run ft_cursitortop_ok [0] rfl rfl ?_
                    obtain rfl := Option.some.inj h
                    replace h := hO28
                    clear hO28
                    try dsimp only at h
                    obtain rfl := Option.some.inj h
                    exact TL.nil (X.seq (T.ret (X.rs (X.rs (X.rb (X.rs (X.rs (X.rb (X.rs (X.done1 [3] Try.results7 (RV.tm rfl) ⟨rfl, rfl, rfl⟩ (by rfl) (.inl rfl)))))))))))
                  · replace h := ifF c66 h
                    replace c66 := eq_false_of_ne_true c66
                    refine X.seq ?_
                    refine T.no rfl c66 ?_
                    refine T.skip (X.seq (T.seq (T.region rfl ?_)))
                    obtain ⟨x67, hx68, h⟩ := Option.bind_eq_some_iff.1 h
                    obtain ⟨gz69, oz69, rfl, z69cs, z69cl, z69cc, z69nf, z69r⟩ := RX.elemS (by decide) hS.1 hSF hx68
                    obtain ⟨A70, c71, rfl, z69s0⟩ := z69r
                    have hX72 : (RX.of (sliceRd 7 Rec_rd) [.slice A70 x67.fRecords.length c71] x67.fRecords).reads w F := ⟨S, z69s0, hSF⟩
                    refine TL.run ft_cursitortop_ok [0, 1, 2] rfl rfl ?_
                    refine TL.q rfl .u (Ex.ixS (k := k25) rfl rfl rfl Try.runUnderlying46 Try.sizeOf25 (List.getElem?_eq_some_iff.1 hx68).1) rfl ?_
                    refine TL.q rfl .u (Ex.oS (us := [.int .i64 x67.fBase, .int .i64 x67.fLeader, .bool x67.fAppend, .bool x67.fTxn, .bool x67.fControl, .int .i64 x67.fLast, .int .i64 x67.fFirst, .int .i64 x67.fMax, .int .i64 x67.fProducer, .int .i64 x67.fEpoch, .int .i64 x67.fSequence, .slice A70 x67.fRecords.length c71]) 0 rfl Try.isAgg25 Try.sizeOf25 z69nf z69cc rfl rfl rfl) rfl ?_
                    obtain ⟨x73, hx74, h⟩ := Option.bind_eq_some_iff.1 h
                    refine TL.ce rfl .u (.fn Try.call16 rfl) (f_r11_Encode_spec x67 _ _ _ hx74) (fun _ hs => (SrcE.old hs hX72)) rfl ?_
                    replace h := guard_some h
                    obtain ⟨c75, h⟩ := h
                    refine TL.q rfl .u (Ex.sAdd rfl rfl c75) rfl ?_
                    refine TL.run ft_cursitortop_ok [7] rfl rfl ?_
                    refine TL.nil (X.seq (T.region rfl ?_))
                    refine TL.run ft_cursitortop_ok [0, 1, 2] rfl rfl ?_
                    refine TL.q rfl .u (Ex.ixS (k := k25) rfl rfl rfl Try.runUnderlying46 Try.sizeOf25 (List.getElem?_eq_some_iff.1 hx68).1) rfl ?_
                    refine TL.q rfl .u (Ex.oS (us := [.int .i64 x67.fBase, .int .i64 x67.fLeader, .bool x67.fAppend, .bool x67.fTxn, .bool x67.fControl, .int .i64 x67.fLast, .int .i64 x67.fFirst, .int .i64 x67.fMax, .int .i64 x67.fProducer, .int .i64 x67.fEpoch, .int .i64 x67.fSequence, .slice A70 x67.fRecords.length c71]) 0 rfl Try.isAgg25 Try.sizeOf25 z69nf z69cc rfl rfl rfl) rfl ?_
                    refine TL.lit (cells := #[.int .i64 x67.fBase, .int .i64 x67.fLeader, .bool x67.fAppend, .bool x67.fTxn, .bool x67.fControl, .int .i64 x67.fLast, .int .i64 x67.fFirst, .int .i64 x67.fMax, .int .i64 x67.fProducer, .int .i64 x67.fEpoch, .int .i64 x67.fSequence, .slice A70 x67.fRecords.length c71]) rfl .u sok_cursitortop_46_1 rfl (by kernel_rfl) rfl (fun b76 => ?_)
                    replace h := guard_some h
                    obtain ⟨c77, h⟩ := h
                    refine TL.app1 0 rfl .u (us := [.int .i64 x67.fBase, .int .i64 x67.fLeader, .bool x67.fAppend, .bool x67.fTxn, .bool x67.fControl, .int .i64 x67.fLast, .int .i64 x67.fFirst, .int .i64 x67.fMax, .int .i64 x67.fProducer, .int .i64 x67.fEpoch, .int .i64 x67.fSequence, .slice A70 x67.fRecords.length c71]) (u := x67) (l := y22) (E := (oldRd w S Bat_rd)) Try.underlying46 inf_cursitortop_25 rfl (by decide) rfl rfl rfl rfl rfl rfl (fun _ _ => old_in ⟨_, _, rfl, z69s0⟩) (by have hq := c77; omega) (by have hq := c77; omega) rfl (fun A78 c79 => ?_)
                    refine TL.sel [0, 0, 0, 0] rfl ?_
                    refine TL.run ft_cursitortop_ok [7] rfl rfl ?_
                    refine TL.nil (X.seq (T.seq (T.region rfl ?_)))
                    refine TL.run ft_cursitortop_ok [0, 1] rfl rfl ?_
                    refine TL.q rfl .u (Ex.lenS rfl Try.runUnderlying53) rfl ?_
                    refine TL.run ft_cursitortop_ok [3] rfl rfl ?_
                    by_cases c80 : (k25 : Int) < (a1.length : Int)
                    · replace h := ifT c80 h
                      refine TL.nil (X.seq ?_)
                      refine T.yes rfl (decide_eq_true c80) ?_
                      refine T.seq (T.region rfl ?_)
                      obtain ⟨x81, hx82, h⟩ := Option.bind_eq_some_iff.1 h
                      obtain ⟨gz83, oz83, rfl, z83cs, z83cl, z83cc, z83nf, z83r⟩ := RX.elemS (by decide) hS.2 hSF hx82
                      obtain rfl : z83cs = [.int .i64 x81.fProducer, .int .i64 x81.fEpoch, .int .i64 x81.fKind, .int .i64 x81.fTime, .int .i64 x81.fCoordinator] := z83r
                      refine TL.run ft_cursitortop_ok [0, 1, 2] rfl rfl ?_
                      refine TL.q rfl .u (Ex.ixS (k := k25) rfl rfl rfl Try.runUnderlying53 Try.sizeOf58 (List.getElem?_eq_some_iff.1 hx82).1) rfl ?_
                      refine TL.q rfl .u (Ex.oS (us := [.int .i64 x81.fProducer, .int .i64 x81.fEpoch, .int .i64 x81.fKind, .int .i64 x81.fTime, .int .i64 x81.fCoordinator]) 0 rfl Try.isAgg58 Try.sizeOf58 z83nf z83cc rfl rfl rfl) rfl ?_
                      obtain ⟨⟨x84, x87⟩, hx88, h⟩ := Option.bind_eq_some_iff.1 h
                      try dsimp only at h
                      refine TL.cge rfl .u (.fn Try.call24 rfl) (f_marker_Batch_spec (k25 : Int) 0 x81 _ hx88) (fun _ hs => (RX.reads_triv _ _)) rfl ?_
                      rintro _ _ _ ⟨A85, c86, rfl, rfl, rfl⟩
                      refine TL.sel [0, 0, 0, 0, 0] rfl ?_
                      refine TL.run ft_cursitortop_ok [6, 7, 8] rfl rfl ?_
                      refine TL.alloc rfl .u Try.zeroValue25 rfl (fun b89 => ?_)
                      refine TL.st0 (cs' := #[.int .i64 x84.fBase, .int .i64 x84.fLeader, .bool x84.fAppend, .bool x84.fTxn, .bool x84.fControl, .int .i64 x84.fLast, .int .i64 x84.fFirst, .int .i64 x84.fMax, .int .i64 x84.fProducer, .int .i64 x84.fEpoch, .int .i64 x84.fSequence, .slice A85 x84.fRecords.length c86]) rfl .u rfl rfl Try.sizeOf25 rfl rfl rfl rfl ?_
                      refine TL.run ft_cursitortop_ok [11] rfl rfl ?_
                      refine TL.nil (X.seq (T.seq (T.region rfl ?_)))
                      refine TL.run ft_cursitortop_ok [0, 1, 2] rfl rfl ?_
                      refine TL.q rfl .u (Ex.ixS (k := k25) rfl rfl rfl Try.runUnderlying53 Try.sizeOf58 (List.getElem?_eq_some_iff.1 hx82).1) rfl ?_
                      refine TL.q rfl .u (Ex.oS (us := [.int .i64 x81.fProducer, .int .i64 x81.fEpoch, .int .i64 x81.fKind, .int .i64 x81.fTime, .int .i64 x81.fCoordinator]) 0 rfl Try.isAgg58 Try.sizeOf58 z83nf z83cc rfl rfl rfl) rfl ?_
                      obtain ⟨⟨x90, x91⟩, hx92, h⟩ := Option.bind_eq_some_iff.1 h
                      try dsimp only at h
                      refine TL.ce rfl .u (.fn Try.call25 rfl) (f_marker_Encode_spec (k25 : Int) 0 x81 _ hx92) (fun _ hs => (RX.reads_triv _ _)) rfl ?_
                      refine TL.run ft_cursitortop_ok [6, 7, 8, 9, 10] rfl rfl ?_
                      refine TL.nil (X.seq (T.seq (T.seq (T.region rfl ?_))))
                      refine TL.run ft_cursitortop_ok [0, 1, 2] rfl rfl ?_
                      by_cases c93 : x87 = x91
                      · replace h := ifT c93 h
                        refine TL.nil (X.seq ?_)
                        refine T.no rfl (bn_f (decide_eq_true c93)) ?_
                        refine T.skip (X.seq (T.seq (T.seq (T.region rfl ?_))))
                        refine TL.run ft_cursitortop_ok [0, 1] rfl rfl ?_
                        by_cases c94 : x87 = 0
                        · replace h := ifT c94 h
                          refine TL.nil (X.seq ?_)
                          refine T.no rfl (bn_f (decide_eq_true c94)) ?_
                          refine T.skip (X.seq (T.seq (T.region rfl ?_)))
                          replace h := guard_some h
                          obtain ⟨c95, h⟩ := h
                          refine TL.run ft_cursitortop_ok [0, 1] rfl rfl ?_
                          refine TL.q rfl .u (Ex.sAdd rfl rfl c95) rfl ?_
                          refine TL.run ft_cursitortop_ok [3] rfl rfl ?_
                          refine TL.nil (X.seq (T.region rfl ?_))
                          refine TL.run ft_cursitortop_ok [0] rfl rfl ?_
                          refine TL.q rfl .u (Ex.bS (us := [.int .i64 x84.fBase, .int .i64 x84.fLeader, .bool x84.fAppend, .bool x84.fTxn, .bool x84.fControl, .int .i64 x84.fLast, .int .i64 x84.fFirst, .int .i64 x84.fMax, .int .i64 x84.fProducer, .int .i64 x84.fEpoch, .int .i64 x84.fSequence, .slice A85 x84.fRecords.length c86]) 0 rfl Try.isAgg25 Try.sizeOf25 rfl rfl rfl) rfl ?_
                          refine TL.lit (cells := #[.int .i64 x84.fBase, .int .i64 x84.fLeader, .bool x84.fAppend, .bool x84.fTxn, .bool x84.fControl, .int .i64 x84.fLast, .int .i64 x84.fFirst, .int .i64 x84.fMax, .int .i64 x84.fProducer, .int .i64 x84.fEpoch, .int .i64 x84.fSequence, .slice A85 x84.fRecords.length c86]) rfl .u sok_cursitortop_46_1 rfl (by kernel_rfl) rfl (fun b96 => ?_)
                          replace h := guard_some h
                          obtain ⟨c97, h⟩ := h
                          refine TL.app2 2 1 rfl .u (us := [.int .i64 x84.fBase, .int .i64 x84.fLeader, .bool x84.fAppend, .bool x84.fTxn, .bool x84.fControl, .int .i64 x84.fLast, .int .i64 x84.fFirst, .int .i64 x84.fMax, .int .i64 x84.fProducer, .int .i64 x84.fEpoch, .int .i64 x84.fSequence, .slice A85 x84.fRecords.length c86]) (u := x84) (l := (y22 ++ [x67])) (E := (oldRd w S Bat_rd)) Try.underlying46 inf_cursitortop_25 rfl (by decide) rfl rfl rfl rfl rfl rfl rfl (fun w1 G1 hG W h1 h2 => ⟨_, _, rfl, (xold_new (fun w G h => rd_reads w G h)) w1 G1 hG W h1 h2⟩) (by have hq := c97; omega) (by have hq := c97; omega) rfl (fun A98 c99 => ?_)
                          refine TL.sel [0, 0, 0, 0, 0] rfl ?_
                          refine TL.run ft_cursitortop_ok [4] rfl rfl ?_
                          refine TL.nil (X.blk (X.seq (T.region rfl ?_)))
                          replace h := guard_some h
                          obtain ⟨c100, h⟩ := h
                          refine TL.run ft_cursitortop_ok [0] rfl rfl ?_
                          refine TL.q rfl .u (Ex.add rfl rfl c100) rfl ?_
                          refine TL.run ft_cursitortop_ok [2] rfl rfl ?_
                          exact TL.nil (X.back (m' := m29) [0, 1, 1, 1] (by omega) ⟨y20, ((y21 ++ x73) ++ x90), ((y22 ++ [x67]) ++ [x84]), A98, c99, k25 + 1, rfl, rfl, h⟩ (by rfl) (by rfl))
                        · replace h := ifF c94 h
                          refine TL.nil (X.seq ?_)
                          refine T.yes rfl (bn_t (decide_eq_false c94)) ?_
                          refine T.seq (T.region rfl ?_)
                          refine TL.run ft_cursitortop_ok [0] rfl rfl ?_
                          obtain rfl := Option.some.inj h
                          replace h := hO28
                          clear hO28
                          try dsimp only at h
                          obtain rfl := Option.some.inj h
                          exact TL.nil (X.seq (T.ret (X.rs (X.rb (X.rs (X.rs (X.rb (X.rs (X.done1 [5] Try.results7 (RV.tm rfl) ⟨rfl, rfl, rfl⟩ (by rfl) (.inl rfl))))))))))
                      · replace h := ifF c93 h
                        refine TL.nil (X.seq ?_)
                        refine T.yes rfl (bn_t (decide_eq_false c93)) ?_
                        exact nomatch h
                    · replace h := ifF c80 h
                      refine TL.nil (X.seq ?_)
                      refine T.no rfl (decide_eq_false c80) ?_
                      refine T.skip (X.blk (X.seq (T.region rfl ?_)))
                      replace h := guard_some h
                      obtain ⟨c101, h⟩ := h
                      refine TL.run ft_cursitortop_ok [0] rfl rfl ?_
                      refine TL.q rfl .u (Ex.add rfl rfl c101) rfl ?_
                      refine TL.run ft_cursitortop_ok [2] rfl rfl ?_
                      exact TL.nil (X.back (m' := m29) [0, 0, 0, 0] (by omega) ⟨y20, (y21 ++ x73), (y22 ++ [x67]), A78, c79, k25 + 1, rfl, rfl, h⟩ (by rfl) (by rfl))
              · replace h := ifF c39 h
                refine TL.nil (X.seq ?_)
                refine T.no rfl (decide_eq_false c39) ?_
                refine T.skip (X.seq (T.seq (T.region rfl ?_)))
                refine TL.run ft_cursitortop_ok [0, 1] rfl rfl ?_
                refine TL.q rfl .u (Ex.lenS rfl Try.runUnderlying53) rfl ?_
                refine TL.run ft_cursitortop_ok [3] rfl rfl ?_
                by_cases c102 : (k25 : Int) < (a1.length : Int)
                · replace h := ifT c102 h
                  refine TL.nil (X.seq ?_)
                  refine T.yes rfl (decide_eq_true c102) ?_
                  refine T.seq (T.region rfl ?_)
                  obtain ⟨x103, hx104, h⟩ := Option.bind_eq_some_iff.1 h
                  obtain ⟨gz105, oz105, rfl, z105cs, z105cl, z105cc, z105nf, z105r⟩ := RX.elemS (by decide) hS.2 hSF hx104
                  obtain rfl : z105cs = [.int .i64 x103.fProducer, .int .i64 x103.fEpoch, .int .i64 x103.fKind, .int .i64 x103.fTime, .int .i64 x103.fCoordinator] := z105r
                  refine TL.run ft_cursitortop_ok [0, 1, 2] rfl rfl ?_
                  refine TL.q rfl .u (Ex.ixS (k := k25) rfl rfl rfl Try.runUnderlying53 Try.sizeOf58 (List.getElem?_eq_some_iff.1 hx104).1) rfl ?_
                  refine TL.q rfl .u (Ex.oS (us := [.int .i64 x103.fProducer, .int .i64 x103.fEpoch, .int .i64 x103.fKind, .int .i64 x103.fTime, .int .i64 x103.fCoordinator]) 0 rfl Try.isAgg58 Try.sizeOf58 z105nf z105cc rfl rfl rfl) rfl ?_
                  obtain ⟨⟨x106, x109⟩, hx110, h⟩ := Option.bind_eq_some_iff.1 h
                  try dsimp only at h
                  refine TL.cge rfl .u (.fn Try.call24 rfl) (f_marker_Batch_spec (k25 : Int) 0 x103 _ hx110) (fun _ hs => (RX.reads_triv _ _)) rfl ?_
                  rintro _ _ _ ⟨A107, c108, rfl, rfl, rfl⟩
                  refine TL.sel [0, 0, 0, 0, 0] rfl ?_
                  refine TL.run ft_cursitortop_ok [6, 7, 8] rfl rfl ?_
                  refine TL.alloc rfl .u Try.zeroValue25 rfl (fun b111 => ?_)
                  refine TL.st0 (cs' := #[.int .i64 x106.fBase, .int .i64 x106.fLeader, .bool x106.fAppend, .bool x106.fTxn, .bool x106.fControl, .int .i64 x106.fLast, .int .i64 x106.fFirst, .int .i64 x106.fMax, .int .i64 x106.fProducer, .int .i64 x106.fEpoch, .int .i64 x106.fSequence, .slice A107 x106.fRecords.length c108]) rfl .u rfl rfl Try.sizeOf25 rfl rfl rfl rfl ?_
                  refine TL.run ft_cursitortop_ok [11] rfl rfl ?_
                  refine TL.nil (X.seq (T.seq (T.region rfl ?_)))
                  refine TL.run ft_cursitortop_ok [0, 1, 2] rfl rfl ?_
                  refine TL.q rfl .u (Ex.ixS (k := k25) rfl rfl rfl Try.runUnderlying53 Try.sizeOf58 (List.getElem?_eq_some_iff.1 hx104).1) rfl ?_
                  refine TL.q rfl .u (Ex.oS (us := [.int .i64 x103.fProducer, .int .i64 x103.fEpoch, .int .i64 x103.fKind, .int .i64 x103.fTime, .int .i64 x103.fCoordinator]) 0 rfl Try.isAgg58 Try.sizeOf58 z105nf z105cc rfl rfl rfl) rfl ?_
                  obtain ⟨⟨x112, x113⟩, hx114, h⟩ := Option.bind_eq_some_iff.1 h
                  try dsimp only at h
                  refine TL.ce rfl .u (.fn Try.call25 rfl) (f_marker_Encode_spec (k25 : Int) 0 x103 _ hx114) (fun _ hs => (RX.reads_triv _ _)) rfl ?_
                  refine TL.run ft_cursitortop_ok [6, 7, 8, 9, 10] rfl rfl ?_
                  refine TL.nil (X.seq (T.seq (T.seq (T.region rfl ?_))))
                  refine TL.run ft_cursitortop_ok [0, 1, 2] rfl rfl ?_
                  by_cases c115 : x109 = x113
                  · replace h := ifT c115 h
                    refine TL.nil (X.seq ?_)
                    refine T.no rfl (bn_f (decide_eq_true c115)) ?_
                    refine T.skip (X.seq (T.seq (T.seq (T.region rfl ?_))))
                    refine TL.run ft_cursitortop_ok [0, 1] rfl rfl ?_
                    by_cases c116 : x109 = 0
                    · replace h := ifT c116 h
                      refine TL.nil (X.seq ?_)
                      refine T.no rfl (bn_f (decide_eq_true c116)) ?_
                      refine T.skip (X.seq (T.seq (T.region rfl ?_)))
                      replace h := guard_some h
                      obtain ⟨c117, h⟩ := h
                      refine TL.run ft_cursitortop_ok [0, 1] rfl rfl ?_
                      refine TL.q rfl .u (Ex.sAdd rfl rfl c117) rfl ?_
                      refine TL.run ft_cursitortop_ok [3] rfl rfl ?_
                      refine TL.nil (X.seq (T.region rfl ?_))
                      refine TL.run ft_cursitortop_ok [0] rfl rfl ?_
                      refine TL.q rfl .u (Ex.bS (us := [.int .i64 x106.fBase, .int .i64 x106.fLeader, .bool x106.fAppend, .bool x106.fTxn, .bool x106.fControl, .int .i64 x106.fLast, .int .i64 x106.fFirst, .int .i64 x106.fMax, .int .i64 x106.fProducer, .int .i64 x106.fEpoch, .int .i64 x106.fSequence, .slice A107 x106.fRecords.length c108]) 0 rfl Try.isAgg25 Try.sizeOf25 rfl rfl rfl) rfl ?_
                      refine TL.lit (cells := #[.int .i64 x106.fBase, .int .i64 x106.fLeader, .bool x106.fAppend, .bool x106.fTxn, .bool x106.fControl, .int .i64 x106.fLast, .int .i64 x106.fFirst, .int .i64 x106.fMax, .int .i64 x106.fProducer, .int .i64 x106.fEpoch, .int .i64 x106.fSequence, .slice A107 x106.fRecords.length c108]) rfl .u sok_cursitortop_46_1 rfl (by kernel_rfl) rfl (fun b118 => ?_)
                      replace h := guard_some h
                      obtain ⟨c119, h⟩ := h
                      refine TL.app2 2 1 rfl .u (us := [.int .i64 x106.fBase, .int .i64 x106.fLeader, .bool x106.fAppend, .bool x106.fTxn, .bool x106.fControl, .int .i64 x106.fLast, .int .i64 x106.fFirst, .int .i64 x106.fMax, .int .i64 x106.fProducer, .int .i64 x106.fEpoch, .int .i64 x106.fSequence, .slice A107 x106.fRecords.length c108]) (u := x106) (l := y22) (E := (oldRd w S Bat_rd)) Try.underlying46 inf_cursitortop_25 rfl (by decide) rfl rfl rfl rfl rfl rfl rfl (fun w1 G1 hG W h1 h2 => ⟨_, _, rfl, (xold_new (fun w G h => rd_reads w G h)) w1 G1 hG W h1 h2⟩) (by have hq := c119; omega) (by have hq := c119; omega) rfl (fun A120 c121 => ?_)
                      refine TL.sel [0, 0, 0, 0, 0] rfl ?_
                      refine TL.run ft_cursitortop_ok [4] rfl rfl ?_
                      refine TL.nil (X.blk (X.seq (T.region rfl ?_)))
                      replace h := guard_some h
                      obtain ⟨c122, h⟩ := h
                      refine TL.run ft_cursitortop_ok [0] rfl rfl ?_
                      refine TL.q rfl .u (Ex.add rfl rfl c122) rfl ?_
                      refine TL.run ft_cursitortop_ok [2] rfl rfl ?_
                      exact TL.nil (X.back (m' := m29) [0, 1, 1, 1] (by omega) ⟨y20, (y21 ++ x112), (y22 ++ [x106]), A120, c121, k25 + 1, rfl, rfl, h⟩ (by rfl) (by rfl))
                    · replace h := ifF c116 h
                      refine TL.nil (X.seq ?_)
                      refine T.yes rfl (bn_t (decide_eq_false c116)) ?_
                      refine T.seq (T.region rfl ?_)
                      refine TL.run ft_cursitortop_ok [0] rfl rfl ?_
                      obtain rfl := Option.some.inj h
                      replace h := hO28
                      clear hO28
                      try dsimp only at h
                      obtain rfl := Option.some.inj h
                      exact TL.nil (X.seq (T.ret (X.rs (X.rb (X.rs (X.rs (X.rb (X.rs (X.done1 [5] Try.results7 (RV.tm rfl) ⟨rfl, rfl, rfl⟩ (by rfl) (.inl rfl))))))))))
                  · replace h := ifF c115 h
                    refine TL.nil (X.seq ?_)
                    refine T.yes rfl (bn_t (decide_eq_false c115)) ?_
                    exact nomatch h
                · replace h := ifF c102 h
                  refine TL.nil (X.seq ?_)
                  refine T.no rfl (decide_eq_false c102) ?_
                  refine T.skip (X.blk (X.seq (T.region rfl ?_)))
                  replace h := guard_some h
                  obtain ⟨c123, h⟩ := h
                  refine TL.run ft_cursitortop_ok [0] rfl rfl ?_
                  refine TL.q rfl .u (Ex.add rfl rfl c123) rfl ?_
                  refine TL.run ft_cursitortop_ok [2] rfl rfl ?_
                  exact TL.nil (X.back (m' := m29) [0, 0, 0, 0] (by omega) ⟨y20, y21, y22, A23, c24, k25 + 1, rfl, rfl, h⟩ (by rfl) (by rfl))
            · replace h := ifF c38 h
              replace c38 := eq_false_of_ne_true c38
              refine X.seq ?_
              refine T.no rfl c38 ?_
              obtain rfl := Option.some.inj h
              replace h := hO28
              clear hO28
              try dsimp only at h
              refine T.exit (X.exs (X.exs (X.ex (X.seq (T.seq (T.region rfl ?_))))))
              obtain ⟨st124, hx125, h⟩ := Option.bind_eq_some_iff.1 h
              refine TL.run ft_cursitortop_ok [0] rfl rfl ?_
              refine TL.cge rfl .u (.fn Try.call20 rfl) (gNew_spec y21 _ hx125) (fun _ hs => (RX.reads_triv _ _)) rfl ?_
              rintro _ _ _ ⟨b126, rfl, rfl, rfl⟩
              refine TL.sel [0, 0, 0, 0, 0] rfl ?_
              refine TL.run ft_cursitortop_ok [2, 3] rfl rfl ?_
              refine TL.nil (X.seq (T.seq (T.seq (T.region rfl ?_))))
              refine TL.run ft_cursitortop_ok [0] rfl rfl ?_
              refine TL.q rfl .u (Ex.lenS rfl Try.runUnderlying46) rfl ?_
              refine TL.run ft_cursitortop_ok [2] rfl rfl ?_
              refine TL.nil (X.seq (T.block ?_))
              obtain ⟨E131, hE132, hO133⟩ := Option.bind_eq_some_iff.1 h
              refine T.blen 1 rfl (fun w G h => own_reads (by decide) w G h) (fun hk137len => ?_)
              refine T.lp (fun m e Rs => ∃ (y127 : Bool) (y128 : Int) (k129 : Nat) (st130 : I), k129 + m = y22.length ∧ e = [(1, .slice A3 a1.length c4), (4, .bool y127), (15, .pointer (some ⟨b126, 0, none⟩)), (16, .int .i64 y128), (125, .slice A23 y22.length c24), (126, .int .i64 (y22.length : Int)), (127, .int .i64 (k129 : Int))] ∧ Rs = [InR b126 st130, OwnR 25 12 (oldRd w S Bat_rd) (.slice A23 y22.length c24) y22, BlkR b11 25 #[.int .i64 x5.fBase, .int .i64 x5.fLeader, .bool x5.fAppend, .bool x5.fTxn, .bool x5.fControl, .int .i64 x5.fLast, .int .i64 x5.fFirst, .int .i64 x5.fMax, .int .i64 x5.fProducer, .int .i64 x5.fEpoch, .int .i64 x5.fSequence, .slice A6 x5.fRecords.length c7], RdR (sliceRd 7 Rec_rd) [.slice A6 x5.fRecords.length c7] x5.fRecords, EmpR] ∧ f_top_WholeMarkers_l2 a1 (y22.drop k129) y127 y128 st130 = some E131) (y22.length) [0, 0, 0, 0, 0] ⟨y20, 0, 0, st124, by simp, rfl, rfl, by rw [List.drop_zero]; exact hE132⟩ (by rfl) (by rfl) ?_
              rintro m134 _ _ ⟨y127, y128, k129, st130, hk137, rfl, rfl, hl136⟩
              clear hE132 h
              cases m134 with
              | zero =>
                have h := hl136
                clear hl136
                rw [List.drop_of_length_le (by omega), f_top_WholeMarkers_l2] at h
                have hk137ge : ¬ ((k129 : Int) < (y22.length : Int)) := by omega
                refine T.seq (T.region rfl ?_)
                refine TL.run ft_cursitortop_ok [0] rfl rfl ?_
                refine TL.nil (X.seq (T.seq ?_))
                refine T.no rfl (decide_eq_false hk137ge) ?_
                obtain rfl := Option.some.inj h
                replace h := hO133
                clear hO133
                try dsimp only at h
                refine T.exit (X.exs (X.exs (X.ex (X.seq (T.seq ?_)))))
                obtain ⟨⟨y207, st208⟩, h, hk209⟩ := Option.bind_eq_some_iff.1 h
                refine T.jq (fun e Rs => e = [(4, .bool y207)] ∧ Rs = [InR b126 st208, OwnR 25 12 (oldRd w S Bat_rd) (.slice A23 y22.length c24) y22, BlkR b11 25 #[.int .i64 x5.fBase, .int .i64 x5.fLeader, .bool x5.fAppend, .bool x5.fTxn, .bool x5.fControl, .int .i64 x5.fLast, .int .i64 x5.fFirst, .int .i64 x5.fMax, .int .i64 x5.fProducer, .int .i64 x5.fEpoch, .int .i64 x5.fSequence, .slice A6 x5.fRecords.length c7], RdR (sliceRd 7 Rec_rd) [.slice A6 x5.fRecords.length c7] x5.fRecords, EmpR]) ?_ ?_
                · clear hk209
                  refine T.region rfl ?_
                  refine TL.run ft_cursitortop_ok [0, 1] rfl rfl ?_
                  refine TL.q rfl .u (Ex.lenS rfl Try.runUnderlying53) rfl ?_
                  by_cases c210 : y128 = (a1.length : Int)
                  · replace h := ifT c210 h
                    refine TL.run ft_cursitortop_ok [3, 4] rfl rfl ?_
                    refine TL.q rfl (.g rfl rfl (decide_eq_true c210)) (Ex.ft ft_cursitortop_ok rfl) rfl ?_
                    obtain ⟨⟨x211, st212⟩, hx213, h⟩ := Option.bind_eq_some_iff.1 h
                    try dsimp only at h
                    refine TL.c0 rfl (.g rfl rfl (decide_eq_true c210)) (.fn Try.call22 rfl) (gClose_spec b126 st130 _ hx213) (fun _ hs => (Src.triv _)) rfl ?_
                    refine TL.q rfl (.g rfl rfl (decide_eq_true c210)) (Ex.ft ft_cursitortop_ok rfl) rfl ?_
                    refine TL.q rfl .u (Ex.py rfl (decide_eq_true c210) rfl) rfl ?_
                    refine TL.run ft_cursitortop_ok [9] rfl rfl ?_
                    by_cases c214 : x211 = 0
                    · replace h := ifT c214 h
                      cases h
                      exact TL.nil (X.as (d := 4) (v' := .bool true) rfl (congrArg Value.bool (decide_eq_true c214)) (X.jq [0, 0, 0, 0, 0] ⟨rfl, rfl⟩ (by rfl) (by rfl)))
                    · replace h := ifF c214 h
                      cases h
                      exact TL.nil (X.as (d := 4) (v' := .bool false) rfl (congrArg Value.bool (decide_eq_false c214)) (X.jq [0, 0, 0, 0, 0] ⟨rfl, rfl⟩ (by rfl) (by rfl)))
                  · replace h := ifF c210 h
                    refine TL.run ft_cursitortop_ok [3, 4] rfl rfl ?_
                    refine TL.no rfl (.gn rfl rfl (decide_eq_false c210)) rfl ?_
                    refine TL.no rfl (.gn rfl rfl (decide_eq_false c210)) rfl ?_
                    refine TL.no rfl (.gn rfl rfl (decide_eq_false c210)) rfl ?_
                    refine TL.q rfl .u (Ex.pn rfl (decide_eq_false c210) rfl) rfl ?_
                    refine TL.run ft_cursitortop_ok [9] rfl rfl ?_
                    cases h
                    exact TL.nil (X.jq [0, 0, 0, 0, 0] ⟨rfl, rfl⟩ (by rfl) (by rfl))
                · rintro _ _ ⟨rfl, rfl⟩
                  clear h
                  have h := hk209
                  clear hk209
                  try dsimp only at h
                  obtain rfl := Option.some.inj h
                  exact X.seq (T.ret (X.done1 [4] Try.results7 (RV.tm rfl) ⟨rfl, rfl, rfl⟩ (by rfl) (.inl rfl)))
              | succ m134 =>
                have h := hl136
                clear hl136
                obtain ⟨x135, hxx135⟩ : ∃ x, y22[k129]? = some x := ⟨_, List.getElem?_eq_getElem (by omega)⟩
                rw [drop_cons hxx135, f_top_WholeMarkers_l2] at h
                have hk137lt : (k129 : Int) < (y22.length : Int) := by omega
                refine T.seq (T.region rfl ?_)
                refine TL.run ft_cursitortop_ok [0] rfl rfl ?_
                refine TL.nil (X.seq (T.seq ?_))
                refine T.yes rfl (decide_eq_true hk137lt) ?_
                refine T.skip (X.seq (T.seq (T.block (T.seq (T.region rfl ?_)))))
                refine TL.focO (E := Bat_rd) (k := k129) hSF 1 rfl (fun w G h => own_reads (by decide) w G h) (by decide) hxx135 ?_
                rintro gz138 oz138 z138cs hA z138cl ⟨_, _, z138r⟩
                cases hA
                obtain ⟨A139, c140, rfl, _⟩ := z138r
                clear z138cl
                refine TL.sel [0, 0, 0, 0, 0] rfl ?_
                refine TL.q rfl .u (Ex.ixS (k := k129) rfl rfl rfl Try.runUnderlying46 Try.sizeOf25 (List.getElem?_eq_some_iff.1 hxx135).1) rfl ?_
                refine TL.q rfl .u (Ex.kS (cs := [.int .i64 x135.fBase, .int .i64 x135.fLeader, .bool x135.fAppend, .bool x135.fTxn, .bool x135.fControl, .int .i64 x135.fLast, .int .i64 x135.fFirst, .int .i64 x135.fMax, .int .i64 x135.fProducer, .int .i64 x135.fEpoch, .int .i64 x135.fSequence, .slice A139 x135.fRecords.length c140]) (us := [.int .i64 x135.fBase, .int .i64 x135.fLeader, .bool x135.fAppend, .bool x135.fTxn, .bool x135.fControl, .int .i64 x135.fLast, .int .i64 x135.fFirst, .int .i64 x135.fMax, .int .i64 x135.fProducer, .int .i64 x135.fEpoch, .int .i64 x135.fSequence, .slice A139 x135.fRecords.length c140]) 1 0 rfl Try.isAgg25 Try.sizeOf25 rfl (fun _ _ h => h.2.2.1) rfl rfl) rfl ?_
                refine TL.alloc rfl .u Try.zeroValue25 rfl (fun b141 => ?_)
                refine TL.st0 (cs' := #[.int .i64 x135.fBase, .int .i64 x135.fLeader, .bool x135.fAppend, .bool x135.fTxn, .bool x135.fControl, .int .i64 x135.fLast, .int .i64 x135.fFirst, .int .i64 x135.fMax, .int .i64 x135.fProducer, .int .i64 x135.fEpoch, .int .i64 x135.fSequence, .slice A139 x135.fRecords.length c140]) rfl .u rfl rfl Try.sizeOf25 rfl rfl rfl rfl ?_
                refine TL.nil (X.seq (T.seq (T.region rfl ?_)))
                obtain ⟨⟨x142, st145⟩, hx146, h⟩ := Option.bind_eq_some_iff.1 h
                try dsimp only at h
                refine TL.run ft_cursitortop_ok [0] rfl rfl ?_
                refine TL.cg1 rfl .u (.fn Try.call21 rfl) (f_batch_Read_spec b126 st130 _ hx146) (fun _ hs => (Src.triv _)) rfl ?_
                rintro _ _ _ ⟨A143, c144, rfl, rfl, rfl⟩
                refine TL.sel [0, 0, 0, 0, 0, 0, 0] rfl ?_
                refine TL.alloc rfl .u Try.zeroValue25 rfl (fun b147 => ?_)
                refine TL.st0 (cs' := #[.int .i64 x142.fBase, .int .i64 x142.fLeader, .bool x142.fAppend, .bool x142.fTxn, .bool x142.fControl, .int .i64 x142.fLast, .int .i64 x142.fFirst, .int .i64 x142.fMax, .int .i64 x142.fProducer, .int .i64 x142.fEpoch, .int .i64 x142.fSequence, .slice A143 x142.fRecords.length c144]) rfl .u rfl rfl Try.sizeOf25 rfl rfl rfl rfl ?_
                refine TL.nil (X.seq (T.seq (T.region rfl ?_)))
                refine TL.q rfl .u (Ex.bS (us := [.int .i64 x142.fBase, .int .i64 x142.fLeader, .bool x142.fAppend, .bool x142.fTxn, .bool x142.fControl, .int .i64 x142.fLast, .int .i64 x142.fFirst, .int .i64 x142.fMax, .int .i64 x142.fProducer, .int .i64 x142.fEpoch, .int .i64 x142.fSequence, .slice A143 x142.fRecords.length c144]) 0 rfl Try.isAgg25 Try.sizeOf25 rfl rfl rfl) rfl ?_
                obtain ⟨⟨x148, x149⟩, hx150, h⟩ := Option.bind_eq_some_iff.1 h
                try dsimp only at h
                refine TL.ce rfl .u (.fn Try.call26 rfl) (f_marker_Read_spec x142 _ _ _ hx150) (fun _ hs => (SrcE.res 1 hs rfl (fun w G h => rd_reads w G h))) rfl ?_
                refine TL.run ft_cursitortop_ok [2, 3, 4] rfl rfl ?_
                refine TL.alloc rfl .u Try.zeroValue58 rfl (fun b151 => ?_)
                refine TL.st0 (cs' := #[.int .i64 x148.fProducer, .int .i64 x148.fEpoch, .int .i64 x148.fKind, .int .i64 x148.fTime, .int .i64 x148.fCoordinator]) rfl .u rfl rfl Try.sizeOf58 rfl rfl rfl rfl ?_
                refine TL.run ft_cursitortop_ok [7] rfl rfl ?_
                refine TL.nil (X.seq (T.seq (T.seq ?_)))
                obtain ⟨y155, h, hk156⟩ := Option.bind_eq_some_iff.1 h
                refine T.jq (fun e Rs => e = [(1, .slice A3 a1.length c4), (4, .bool y127), (15, .pointer (some ⟨b126, 0, none⟩)), (16, .int .i64 y128), (20, .pointer (some ⟨b151, 0, none⟩)), (21, .bool x149), (125, .slice (some ⟨gz138, oz138, none⟩) y22.length c24), (126, .int .i64 (y22.length : Int)), (127, .int .i64 (k129 : Int)), (147, .bool y155)] ∧ Rs = [BlkR b151 58 #[.int .i64 x148.fProducer, .int .i64 x148.fEpoch, .int .i64 x148.fKind, .int .i64 x148.fTime, .int .i64 x148.fCoordinator], BlkR b147 25 #[.int .i64 x142.fBase, .int .i64 x142.fLeader, .bool x142.fAppend, .bool x142.fTxn, .bool x142.fControl, .int .i64 x142.fLast, .int .i64 x142.fFirst, .int .i64 x142.fMax, .int .i64 x142.fProducer, .int .i64 x142.fEpoch, .int .i64 x142.fSequence, .slice A143 x142.fRecords.length c144], RdR (sliceRd 7 Rec_rd) [.slice A143 x142.fRecords.length c144] x142.fRecords, BlkR b141 25 #[.int .i64 x135.fBase, .int .i64 x135.fLeader, .bool x135.fAppend, .bool x135.fTxn, .bool x135.fControl, .int .i64 x135.fLast, .int .i64 x135.fFirst, .int .i64 x135.fMax, .int .i64 x135.fProducer, .int .i64 x135.fEpoch, .int .i64 x135.fSequence, .slice A139 x135.fRecords.length c140], InR b126 st145, RowK (OwnR 25 12 (oldRd w S Bat_rd) (.slice (some ⟨gz138, oz138, none⟩) y22.length c24) y22) (oldRd w S Bat_rd) gz138 (oz138 + k129 * 12) [.int .i64 x135.fBase, .int .i64 x135.fLeader, .bool x135.fAppend, .bool x135.fTxn, .bool x135.fControl, .int .i64 x135.fLast, .int .i64 x135.fFirst, .int .i64 x135.fMax, .int .i64 x135.fProducer, .int .i64 x135.fEpoch, .int .i64 x135.fSequence, .slice A139 x135.fRecords.length c140] x135, BlkR b11 25 #[.int .i64 x5.fBase, .int .i64 x5.fLeader, .bool x5.fAppend, .bool x5.fTxn, .bool x5.fControl, .int .i64 x5.fLast, .int .i64 x5.fFirst, .int .i64 x5.fMax, .int .i64 x5.fProducer, .int .i64 x5.fEpoch, .int .i64 x5.fSequence, .slice A6 x5.fRecords.length c7], RdR (sliceRd 7 Rec_rd) [.slice A6 x5.fRecords.length c7] x5.fRecords, EmpR]) ?_ ?_
                · clear hk156
                  refine T.region rfl ?_
                  refine TL.q rfl .u (Ex.bS (us := [.int .i64 x142.fBase, .int .i64 x142.fLeader, .bool x142.fAppend, .bool x142.fTxn, .bool x142.fControl, .int .i64 x142.fLast, .int .i64 x142.fFirst, .int .i64 x142.fMax, .int .i64 x142.fProducer, .int .i64 x142.fEpoch, .int .i64 x142.fSequence, .slice A143 x142.fRecords.length c144]) 1 rfl Try.isAgg25 Try.sizeOf25 rfl rfl rfl) rfl ?_
                  refine TL.q rfl .u (Ex.bS (us := [.int .i64 x135.fBase, .int .i64 x135.fLeader, .bool x135.fAppend, .bool x135.fTxn, .bool x135.fControl, .int .i64 x135.fLast, .int .i64 x135.fFirst, .int .i64 x135.fMax, .int .i64 x135.fProducer, .int .i64 x135.fEpoch, .int .i64 x135.fSequence, .slice A139 x135.fRecords.length c140]) 3 rfl Try.isAgg25 Try.sizeOf25 rfl rfl rfl) rfl ?_
                  obtain ⟨x157, hx158, h⟩ := Option.bind_eq_some_iff.1 h
                  refine TL.ce rfl .u (.fn Try.call17 rfl) (f_r11_Same_spec x142 _ _ x135 _ _ _ hx158) (fun _ hs => (RX.reads_and (SrcE.res 2 hs rfl (fun w G h => rd_reads w G h)) (SrcE.oldres 5 hs rfl (fun _ _ h W h1 h2 => by obtain ⟨_, _, hc, hs⟩ := h.2.2.2 W h1 h2; cases hc; exact hs) hSF))) rfl ?_
                  by_cases c159 : x157 = true
                  · replace h := ifT c159 h
                    refine TL.run ft_cursitortop_ok [3, 4] rfl rfl ?_
                    refine TL.q rfl (.g rfl rfl (bn_f c159)) (Ex.ft ft_cursitortop_ok rfl) rfl ?_
                    refine TL.q rfl (.g rfl rfl (bn_f c159)) (Ex.ft ft_cursitortop_ok rfl) rfl ?_
                    refine TL.q rfl (.g rfl rfl (bn_f c159)) (Ex.b1 3 rfl Try.isAgg4 rfl rfl) rfl ?_
                    refine TL.q rfl (.g rfl rfl (bn_f c159)) (Ex.bNe rfl rfl rfl rfl Try.runUnderlying4) rfl ?_
                    refine TL.q rfl .u (Ex.pn rfl (bn_f c159) rfl) rfl ?_
                    by_cases c160 : (x149 == x135.fControl) = true
                    · replace h := ifT c160 h
                      cases h
                      exact TL.nil (X.as (d := 147) (v' := .bool false) rfl (congrArg Value.bool (bn_f c160)) (X.jq [0, 0, 0, 0, 0, 0, 0, 0, 0] ⟨rfl, rfl⟩ (by rfl) (by rfl)))
                    · replace h := ifF c160 h
                      replace c160 := eq_false_of_ne_true c160
                      cases h
                      exact TL.nil (X.as (d := 147) (v' := .bool true) rfl (congrArg Value.bool (bn_t c160)) (X.jq [0, 0, 0, 0, 0, 0, 0, 0, 0] ⟨rfl, rfl⟩ (by rfl) (by rfl)))
                  · replace h := ifF c159 h
                    replace c159 := eq_false_of_ne_true c159
                    refine TL.run ft_cursitortop_ok [3, 4] rfl rfl ?_
                    refine TL.no rfl (.gn rfl rfl (bn_t c159)) rfl ?_
                    refine TL.no rfl (.gn rfl rfl (bn_t c159)) rfl ?_
                    refine TL.no rfl (.gn rfl rfl (bn_t c159)) rfl ?_
                    refine TL.no rfl (.gn rfl rfl (bn_t c159)) rfl ?_
                    refine TL.q rfl .u (Ex.py rfl (bn_t c159) rfl) rfl ?_
                    cases h
                    exact TL.nil (X.jq [0, 0, 0, 0, 0, 0, 0, 0, 0] ⟨rfl, rfl⟩ (by rfl) (by rfl))
                · rintro _ _ ⟨rfl, rfl⟩
                  clear h
                  have h := hk156
                  clear hk156
                  try dsimp only at h
                  by_cases c161 : y155 = true
                  · replace h := ifT c161 h
                    refine X.seq ?_
                    refine T.yes rfl c161 ?_
                    exact nomatch h
                  · replace h := ifF c161 h
                    replace c161 := eq_false_of_ne_true c161
                    refine X.seq ?_
                    refine T.no rfl c161 ?_
                    refine T.skip (X.seq (T.seq (T.region rfl ?_)))
                    refine TL.run ft_cursitortop_ok [0] rfl rfl ?_
                    by_cases c162 : x149 = true
                    · replace h := ifT c162 h
                      refine TL.nil (X.seq ?_)
                      refine T.yes rfl c162 ?_
                      refine T.seq (T.seq ?_)
                      obtain ⟨y173, h, hk174⟩ := Option.bind_eq_some_iff.1 h
                      refine T.jq (fun e Rs => e = [(1, .slice A3 a1.length c4), (4, .bool y127), (15, .pointer (some ⟨b126, 0, none⟩)), (16, .int .i64 y128), (125, .slice (some ⟨gz138, oz138, none⟩) y22.length c24), (126, .int .i64 (y22.length : Int)), (127, .int .i64 (k129 : Int)), (160, .bool y173)] ∧ Rs = [BlkR b151 58 #[.int .i64 x148.fProducer, .int .i64 x148.fEpoch, .int .i64 x148.fKind, .int .i64 x148.fTime, .int .i64 x148.fCoordinator], BlkR b147 25 #[.int .i64 x142.fBase, .int .i64 x142.fLeader, .bool x142.fAppend, .bool x142.fTxn, .bool x142.fControl, .int .i64 x142.fLast, .int .i64 x142.fFirst, .int .i64 x142.fMax, .int .i64 x142.fProducer, .int .i64 x142.fEpoch, .int .i64 x142.fSequence, .slice A143 x142.fRecords.length c144], RdR (sliceRd 7 Rec_rd) [.slice A143 x142.fRecords.length c144] x142.fRecords, BlkR b141 25 #[.int .i64 x135.fBase, .int .i64 x135.fLeader, .bool x135.fAppend, .bool x135.fTxn, .bool x135.fControl, .int .i64 x135.fLast, .int .i64 x135.fFirst, .int .i64 x135.fMax, .int .i64 x135.fProducer, .int .i64 x135.fEpoch, .int .i64 x135.fSequence, .slice A139 x135.fRecords.length c140], InR b126 st145, RowK (OwnR 25 12 (oldRd w S Bat_rd) (.slice (some ⟨gz138, oz138, none⟩) y22.length c24) y22) (oldRd w S Bat_rd) gz138 (oz138 + k129 * 12) [.int .i64 x135.fBase, .int .i64 x135.fLeader, .bool x135.fAppend, .bool x135.fTxn, .bool x135.fControl, .int .i64 x135.fLast, .int .i64 x135.fFirst, .int .i64 x135.fMax, .int .i64 x135.fProducer, .int .i64 x135.fEpoch, .int .i64 x135.fSequence, .slice A139 x135.fRecords.length c140] x135, BlkR b11 25 #[.int .i64 x5.fBase, .int .i64 x5.fLeader, .bool x5.fAppend, .bool x5.fTxn, .bool x5.fControl, .int .i64 x5.fLast, .int .i64 x5.fFirst, .int .i64 x5.fMax, .int .i64 x5.fProducer, .int .i64 x5.fEpoch, .int .i64 x5.fSequence, .slice A6 x5.fRecords.length c7], RdR (sliceRd 7 Rec_rd) [.slice A6 x5.fRecords.length c7] x5.fRecords, EmpR]) ?_ ?_
                      · clear hk174
                        refine T.draw (.q 0 (.q 1 (.q 2 (.q 3 (.q 4 (.q 5 (.q 6 (.q 7 (.q 8 (.q 9 (.q 10 (.q 11 .nil)))))))))))) [0, 0, 0, 0, 0, 0, 0, 0, 0] rfl mix_cursitortop (NoP.seq (NoP.seq (NoP.seq (NoP.blk (NoP.seq (NoP.seq (NoP.blk (NoP.seq np_post)))))))) (by kernel_rfl) ?_
                        refine TD.run ft_cursitortop_ok [0, 1] rfl rfl ?_
                        refine TD.q rfl .u (Ex.lenS rfl Try.runUnderlying53) rfl ?_
                        by_cases c175 : y128 ≥ (a1.length : Int)
                        · replace h := ifT c175 h
                          refine TD.run ft_cursitortop_ok [3, 4] rfl rfl ?_
                          refine TD.no rfl (.gn rfl rfl (decide_eq_true c175)) rfl ?_
                          refine TD.no rfl (.gn rfl rfl (decide_eq_true c175)) rfl ?_
                          refine TD.no rfl (.gn rfl rfl (decide_eq_true c175)) rfl ?_
                          refine TD.no rfl (.gn rfl rfl (decide_eq_true c175)) rfl ?_
                          refine TD.no rfl (.gn rfl rfl (decide_eq_true c175)) rfl ?_
                          refine TD.no rfl (.gn rfl rfl (decide_eq_true c175)) rfl ?_
                          refine TD.q rfl .u (Ex.py rfl (decide_eq_true c175) rfl) rfl ?_
                          cases h
                          exact TD.nil (X.jq [0, 0, 0, 0, 0, 0, 0, 0, 0] ⟨rfl, rfl⟩ (by rfl) (by rfl))
                        · replace h := ifF c175 h
                          refine TD.run ft_cursitortop_ok [3, 4] rfl rfl ?_
                          refine TD.q rfl (.g rfl rfl (decide_eq_false c175)) (Ex.bS (us := [.int .i64 x148.fProducer, .int .i64 x148.fEpoch, .int .i64 x148.fKind, .int .i64 x148.fTime, .int .i64 x148.fCoordinator]) 0 rfl Try.isAgg58 Try.sizeOf58 rfl rfl rfl) rfl ?_
                          refine TD.q rfl (.g rfl rfl (decide_eq_false c175)) (Ex.ft ft_cursitortop_ok rfl) rfl ?_
                          refine TD.q rfl (.g rfl rfl (decide_eq_false c175)) (Ex.ft ft_cursitortop_ok rfl) rfl ?_
                          replace h := guard_some h
                          obtain ⟨c176, h⟩ := h
                          obtain ⟨x177, hx178, h⟩ := Option.bind_eq_some_iff.1 h
                          obtain ⟨gz179, oz179, rfl, z179cs, z179cl, z179cc, z179nf, z179r⟩ := RX.elemS (by decide) hS.2 hSF hx178
                          obtain rfl : z179cs = [.int .i64 x177.fProducer, .int .i64 x177.fEpoch, .int .i64 x177.fKind, .int .i64 x177.fTime, .int .i64 x177.fCoordinator] := z179r
                          refine TD.q rfl (.g rfl rfl (decide_eq_false c175)) (Ex.ixS (k := y128.toNat) rfl rfl ((Int.toNat_of_nonneg c176).symm) Try.runUnderlying53 Try.sizeOf58 (List.getElem?_eq_some_iff.1 hx178).1) rfl ?_
                          refine TD.q rfl (.g rfl rfl (decide_eq_false c175)) (Ex.oS (us := [.int .i64 x177.fProducer, .int .i64 x177.fEpoch, .int .i64 x177.fKind, .int .i64 x177.fTime, .int .i64 x177.fCoordinator]) 0 rfl Try.isAgg58 Try.sizeOf58 z179nf z179cc rfl rfl rfl) rfl ?_
                          by_cases c180 : x148.fProducer = x177.fProducer
                          · replace h := ifT c180 h
                            by_cases c181 : x148.fEpoch = x177.fEpoch
                            · replace h := ifT c181 h
                              by_cases c182 : x148.fKind = x177.fKind
                              · replace h := ifT c182 h
                                by_cases c183 : x148.fTime = x177.fTime
                                · replace h := ifT c183 h
                                  by_cases c184 : x148.fCoordinator = x177.fCoordinator
                                  · replace h := ifT c184 h
                                    refine TD.q rfl (.g rfl rfl (decide_eq_false c175)) (Ex.aNe (us := [.int .i64 x148.fProducer, .int .i64 x148.fEpoch, .int .i64 x148.fKind, .int .i64 x148.fTime, .int .i64 x148.fCoordinator]) (vs := [.int .i64 x177.fProducer, .int .i64 x177.fEpoch, .int .i64 x177.fKind, .int .i64 x177.fTime, .int .i64 x177.fCoordinator]) flat_cursitortop_58 rfl Try.eqGuardType58 rfl rfl rfl rfl (eqL_t (eqV_i c180) (eqL_t (eqV_i c181) (eqL_t (eqV_i c182) (eqL_t (eqV_i c183) (eqL_t (eqV_i c184) rfl)))))) rfl ?_
                                    refine TD.q rfl .u (Ex.pn rfl (decide_eq_false c175) rfl) rfl ?_
                                    cases h
                                    exact TD.nil (X.jq [0, 0, 0, 0, 0, 0, 0, 0, 0] ⟨rfl, rfl⟩ (by rfl) (by rfl))
                                  · replace h := ifF c184 h
                                    refine TD.q rfl (.g rfl rfl (decide_eq_false c175)) (Ex.aNe (us := [.int .i64 x148.fProducer, .int .i64 x148.fEpoch, .int .i64 x148.fKind, .int .i64 x148.fTime, .int .i64 x148.fCoordinator]) (vs := [.int .i64 x177.fProducer, .int .i64 x177.fEpoch, .int .i64 x177.fKind, .int .i64 x177.fTime, .int .i64 x177.fCoordinator]) flat_cursitortop_58 rfl Try.eqGuardType58 rfl rfl rfl rfl (eqL_t (eqV_i c180) (eqL_t (eqV_i c181) (eqL_t (eqV_i c182) (eqL_t (eqV_i c183) (eqL_f (eqV_in c184))))))) rfl ?_
                                    refine TD.q rfl .u (Ex.pn rfl (decide_eq_false c175) rfl) rfl ?_
                                    cases h
                                    exact TD.nil (X.jq [0, 0, 0, 0, 0, 0, 0, 0, 0] ⟨rfl, rfl⟩ (by rfl) (by rfl))
                                · replace h := ifF c183 h
                                  refine TD.q rfl (.g rfl rfl (decide_eq_false c175)) (Ex.aNe (us := [.int .i64 x148.fProducer, .int .i64 x148.fEpoch, .int .i64 x148.fKind, .int .i64 x148.fTime, .int .i64 x148.fCoordinator]) (vs := [.int .i64 x177.fProducer, .int .i64 x177.fEpoch, .int .i64 x177.fKind, .int .i64 x177.fTime, .int .i64 x177.fCoordinator]) flat_cursitortop_58 rfl Try.eqGuardType58 rfl rfl rfl rfl (eqL_t (eqV_i c180) (eqL_t (eqV_i c181) (eqL_t (eqV_i c182) (eqL_f (eqV_in c183)))))) rfl ?_
                                  refine TD.q rfl .u (Ex.pn rfl (decide_eq_false c175) rfl) rfl ?_
                                  cases h
                                  exact TD.nil (X.jq [0, 0, 0, 0, 0, 0, 0, 0, 0] ⟨rfl, rfl⟩ (by rfl) (by rfl))
                              · replace h := ifF c182 h
                                refine TD.q rfl (.g rfl rfl (decide_eq_false c175)) (Ex.aNe (us := [.int .i64 x148.fProducer, .int .i64 x148.fEpoch, .int .i64 x148.fKind, .int .i64 x148.fTime, .int .i64 x148.fCoordinator]) (vs := [.int .i64 x177.fProducer, .int .i64 x177.fEpoch, .int .i64 x177.fKind, .int .i64 x177.fTime, .int .i64 x177.fCoordinator]) flat_cursitortop_58 rfl Try.eqGuardType58 rfl rfl rfl rfl (eqL_t (eqV_i c180) (eqL_t (eqV_i c181) (eqL_f (eqV_in c182))))) rfl ?_
                                refine TD.q rfl .u (Ex.pn rfl (decide_eq_false c175) rfl) rfl ?_
                                cases h
                                exact TD.nil (X.jq [0, 0, 0, 0, 0, 0, 0, 0, 0] ⟨rfl, rfl⟩ (by rfl) (by rfl))
                            · replace h := ifF c181 h
                              refine TD.q rfl (.g rfl rfl (decide_eq_false c175)) (Ex.aNe (us := [.int .i64 x148.fProducer, .int .i64 x148.fEpoch, .int .i64 x148.fKind, .int .i64 x148.fTime, .int .i64 x148.fCoordinator]) (vs := [.int .i64 x177.fProducer, .int .i64 x177.fEpoch, .int .i64 x177.fKind, .int .i64 x177.fTime, .int .i64 x177.fCoordinator]) flat_cursitortop_58 rfl Try.eqGuardType58 rfl rfl rfl rfl (eqL_t (eqV_i c180) (eqL_f (eqV_in c181)))) rfl ?_
                              refine TD.q rfl .u (Ex.pn rfl (decide_eq_false c175) rfl) rfl ?_
                              cases h
                              exact TD.nil (X.jq [0, 0, 0, 0, 0, 0, 0, 0, 0] ⟨rfl, rfl⟩ (by rfl) (by rfl))
                          · replace h := ifF c180 h
                            refine TD.q rfl (.g rfl rfl (decide_eq_false c175)) (Ex.aNe (us := [.int .i64 x148.fProducer, .int .i64 x148.fEpoch, .int .i64 x148.fKind, .int .i64 x148.fTime, .int .i64 x148.fCoordinator]) (vs := [.int .i64 x177.fProducer, .int .i64 x177.fEpoch, .int .i64 x177.fKind, .int .i64 x177.fTime, .int .i64 x177.fCoordinator]) flat_cursitortop_58 rfl Try.eqGuardType58 rfl rfl rfl rfl (eqL_f (eqV_in c180))) rfl ?_
                            refine TD.q rfl .u (Ex.pn rfl (decide_eq_false c175) rfl) rfl ?_
                            cases h
                            exact TD.nil (X.jq [0, 0, 0, 0, 0, 0, 0, 0, 0] ⟨rfl, rfl⟩ (by rfl) (by rfl))
                      · rintro _ _ ⟨rfl, rfl⟩
                        clear h
                        have h := hk174
                        clear hk174
                        try dsimp only at h
                        by_cases c185 : y173 = true
                        · replace h := ifT c185 h
                          refine X.seq ?_
                          refine T.yes rfl c185 ?_
                          exact nomatch h
                        · replace h := ifF c185 h
                          replace c185 := eq_false_of_ne_true c185
                          refine X.seq ?_
                          refine T.no rfl c185 ?_
                          refine T.skip (X.seq (T.region rfl ?_))
                          replace h := guard_some h
                          obtain ⟨c186, h⟩ := h
                          refine TL.run ft_cursitortop_ok [0] rfl rfl ?_
                          refine TL.q rfl .u (Ex.add rfl rfl c186) rfl ?_
                          refine TL.run ft_cursitortop_ok [2] rfl rfl ?_
                          refine TL.nil (X.blk (X.seq (T.region rfl ?_)))
                          refine TL.q rfl .u (Ex.add rfl rfl (by omega)) rfl ?_
                          refine TL.run ft_cursitortop_ok [1] rfl rfl ?_
                          refine TL.nil ?_
                          refine X.unf 5 rfl ?_
                          refine X.sel [0, 0, 0, 0, 0, 0, 0, 0, 0] rfl ?_
                          exact X.back (m' := m134) [4, 4, 4, 4, 4] (by omega) ⟨y127, (y128 + 1), k129 + 1, st145, by omega, rfl, rfl, h⟩ (by rfl) (by rfl)
                    · replace h := ifF c162 h
                      replace c162 := eq_false_of_ne_true c162
                      refine TL.nil (X.seq ?_)
                      refine T.no rfl c162 ?_
                      refine T.skip (X.blk (X.seq (T.region rfl ?_)))
                      refine TL.q rfl .u (Ex.add rfl rfl (by omega)) rfl ?_
                      refine TL.run ft_cursitortop_ok [1] rfl rfl ?_
                      refine TL.nil ?_
                      refine X.unf 5 rfl ?_
                      refine X.sel [0, 0, 0, 0, 0, 0, 0, 0, 0] rfl ?_
                      exact X.back (m' := m134) [4, 4, 4, 4, 4] (by omega) ⟨y127, y128, k129 + 1, st145, by omega, rfl, rfl, h⟩ (by rfl) (by rfl)
  · replace h := ifF c12 h
    replace c12 := eq_false_of_ne_true c12
    refine TL.nil (X.seq ?_)
    refine T.yes rfl (bn_t c12) ?_
    exact nomatch h
end Go.Proofs.Ytcoppaggpbfcmaa.Sl
namespace Go.Proofs.Ytcoppaggpbfcmaa.Sl
open Go.RowKit
set_option linter.unusedVariables false
set_option linter.unusedSimpArgs false
theorem top_none : f_top_none = some (⟨0, 0, false, false, false, 0, 0, 0, -1, -1, -1, []⟩, (f_batch_Encode ⟨0, 0, false, false, false, 0, 0, 0, -1, -1, -1, []⟩).get!.1, true) := by kernel_rfl
def markOf (b : Bat) : MarkerEnd := ((f_marker_Read b).getD (⟨0, 0, 0, 0, 0⟩, false)).1
def endOf (b : Bat) : Option MarkerEnd := if b.fControl = true then some (markOf b) else none
def goodM (b : Bat) : Prop := okB b ∧ bnB b ∧ (body b).length ≤ 12000 ∧ f_marker_Read b = some (if b.fControl = true then (markOf b, true) else (⟨0, 0, 0, 0, 0⟩, false))
theorem good_data {b : Bat} (hs : smB b) (hl : (body b).length ≤ 12000) (h0 : chk b = 0) (hc : b.fControl = false) : goodM b := by
  refine ⟨okB_of hs h0, hs.1, hl, ?_⟩
  rw [hc, if_neg (by decide)]
  exact mread_no hs.1 h0 hc
theorem good_mark {base leader : Int} {e : MarkerEnd} (hb : wI base) (hl : wI leader) (hw : wf_MarkerEnd e) (h : mE base leader e = 0) : goodM (mkM base leader e) ∧ endOf (mkM base leader e) = some e := by
  obtain ⟨hs, hl2⟩ := smM hb hl hw
  have hr := mread_mk hb hl hw h
  have hm : markOf (mkM base leader e) = e := by unfold markOf; rw [hr]; rfl
  refine ⟨⟨okB_of hs (mE_zero h).2, hs.1, hl2, ?_⟩, ?_⟩
  · rw [hm, hr]; rfl
  · unfold endOf
    rw [hm]; rfl
theorem encs_snoc {α : Type} (enc : α → List UInt8) : ∀ (l : List α) (x : α), encs enc (l ++ [x]) = encs enc l ++ enc x
  | [], x => by simp [encs]
  | y :: l, x => by rw [List.cons_append, encs, encs, encs_snoc enc l x, List.append_assoc]
theorem encs_good {l : List Bat} (h : ∀ x, x ∈ l → goodM x) : (encs encB l).length ≤ 13000 * l.length := encs_le encB 13000 l (fun x hx => by have := encB_len (h x hx).1; have := (h x hx).2.2.1; omega)
theorem take_succ' {α : Type} {l : List α} {k : Nat} {e : α} (h : l[k]? = some e) : l.take (k + 1) = l.take k ++ [e] := by
  rw [List.take_add_one, h]
  rfl
theorem wm_l1 (a0 : List Bat) (a1 : List MarkerEnd) (w0 : ∀ x, x ∈ a0 → wf_Bat x) (w1 : ∀ e, e ∈ a1 → wf_MarkerEnd e) (h0 : a0.length ≤ 6) (h1 : a1.length ≤ 6) (y : Bool) : ∀ (m k : Nat) (l : List Bat), (a0.length - k) + (a1.length - k) < m → (∀ x, x ∈ l → goodM x) → l.length ≤ 2 * k → k ≤ 6 → l.filterMap endOf = a1.take k →
    f_top_WholeMarkers_l1 a0 a1 m y (encs encB l) l k = some (.ret true) ∨ ∃ l' k', f_top_WholeMarkers_l1 a0 a1 m y (encs encB l) l k = some (.go (y, encs encB l', l', k')) ∧ (∀ x, x ∈ l' → goodM x) ∧ l'.length ≤ 12 ∧ l'.filterMap endOf = a1
  | 0, _, _, h, _, _, _, _ => by omega
  | m + 1, k, l, hm, hg, hl, hk, hf => by
    have hlen := encs_good hg
    rw [f_top_WholeMarkers_l1]
    have R5 : -9223372036854775808 ≤ (k : Int) + 1 ∧ (k : Int) + 1 ≤ 9223372036854775807 := by omega
    by_cases ca : k < a0.length
    · rw [if_pos (show (k : Int) < (a0.length : Int) by omega), Option.bind_some, if_pos rfl, if_pos (show (k : Int) < (a0.length : Int) by omega)]
      obtain ⟨x, hx⟩ : ∃ x, a0[k]? = some x := ⟨_, List.getElem?_eq_getElem ca⟩
      have hxm : x ∈ a0 := List.mem_of_getElem? hx
      rw [hx, Option.bind_some, Option.bind_some]
      rcases small11 x (w0 x hxm) with g | ⟨g, g1, g2⟩
      · rw [g, Option.bind_some, if_pos rfl, Option.bind_some, if_pos rfl]
        exact .inl rfl
      obtain ⟨hb, hbl⟩ := smB_small (w0 x hxm) g1 g2
      rw [g, Option.bind_some, if_neg (by decide), (chk_eq hb.1).2, Option.bind_some]
      by_cases hc : chk x = 0
      rotate_left
      · rw [if_neg hc, Option.bind_some, if_pos rfl]
        exact .inl rfl
      rw [if_pos hc, Option.bind_some]
      by_cases hct : x.fControl = true
      · rw [if_pos hct]
        exact .inl rfl
      rw [if_neg hct, r11enc hb hc, Option.bind_some]
      have hgx := good_data hb hbl hc (by simpa using hct)
      have hgl : ∀ z, z ∈ l ++ [x] → goodM z := fun z hz => by
        rcases List.mem_append.1 hz with hz | hz
        · exact hg z hz
        · rw [List.mem_singleton.1 hz]; exact hgx
      have hlen2 := encs_good hgl
      rw [List.length_append, List.length_singleton] at hlen2
      have hfx : (l ++ [x]).filterMap endOf = a1.take k := by
        rw [List.filterMap_append, hf]
        have : endOf x = none := by unfold endOf; rw [if_neg hct]
        simp [List.filterMap, this]
      rw [if_pos (by rw [encs_snoc, List.length_append] at hlen2; omega), if_pos (by omega)]
      by_cases cb : k < a1.length
      · rw [if_pos (show (k : Int) < (a1.length : Int) by omega)]
        obtain ⟨e, he⟩ : ∃ e, a1[k]? = some e := ⟨_, List.getElem?_eq_getElem cb⟩
        have hwe := w1 e (List.mem_of_getElem? he)
        have hbk : wI (k : Int) := by unfold wI; omega
        have hb0 : wI 0 := by unfold wI; decide
        rw [he, Option.bind_some, mbatch hbk hb0 hwe, Option.bind_some, mencode hbk hb0 hwe]
        by_cases hE : mE (k : Int) 0 e = 0
        · rw [if_pos hE, if_pos hE]
          dsimp only
          rw [Option.bind_some]
          dsimp only
          obtain ⟨hgm, hem⟩ := good_mark hbk hb0 hwe hE
          have hgl2 : ∀ z, z ∈ (l ++ [x]) ++ [mkM (k : Int) 0 e] → goodM z := fun z hz => by
            rcases List.mem_append.1 hz with hz | hz
            · exact hgl z hz
            · rw [List.mem_singleton.1 hz]; exact hgm
          have hlen3 := encs_good hgl2
          rw [List.length_append, List.length_append, List.length_singleton, List.length_singleton, encs_snoc, List.length_append] at hlen3
          rw [if_pos rfl, if_pos rfl, ← encs_snoc, if_pos (by omega), if_pos (by rw [List.length_append, List.length_singleton]; omega), if_pos R5, ← encs_snoc]
          refine wm_l1 a0 a1 w0 w1 h0 h1 y m (k + 1) _ (by omega) hgl2 (by simp; omega) (by omega) ?_
          rw [List.filterMap_append, hfx, take_succ' he]
          simp [List.filterMap, hem]
        · rw [if_neg hE, if_neg hE]
          dsimp only
          rw [Option.bind_some]
          dsimp only
          rw [if_pos rfl, if_neg hE]
          exact .inl rfl
      · rw [if_neg (show ¬ (k : Int) < (a1.length : Int) by omega), if_pos R5, ← encs_snoc]
        refine wm_l1 a0 a1 w0 w1 h0 h1 y m (k + 1) _ (by omega) hgl (by simp; omega) (by omega) ?_
        rw [hfx, List.take_of_length_le (by omega), List.take_of_length_le (by omega)]
    · rw [if_neg (show ¬ (k : Int) < (a0.length : Int) by omega)]
      by_cases cb : k < a1.length
      · rw [if_pos (show (k : Int) < (a1.length : Int) by omega), Option.bind_some, if_pos rfl, if_neg (show ¬ (k : Int) < (a0.length : Int) by omega), if_pos (show (k : Int) < (a1.length : Int) by omega)]
        obtain ⟨e, he⟩ : ∃ e, a1[k]? = some e := ⟨_, List.getElem?_eq_getElem cb⟩
        have hwe := w1 e (List.mem_of_getElem? he)
        have hbk : wI (k : Int) := by unfold wI; omega
        have hb0 : wI 0 := by unfold wI; decide
        rw [he, Option.bind_some, mbatch hbk hb0 hwe, Option.bind_some, mencode hbk hb0 hwe]
        by_cases hE : mE (k : Int) 0 e = 0
        · rw [if_pos hE, if_pos hE]
          dsimp only
          rw [Option.bind_some]
          dsimp only
          obtain ⟨hgm, hem⟩ := good_mark hbk hb0 hwe hE
          have hgl2 : ∀ z, z ∈ l ++ [mkM (k : Int) 0 e] → goodM z := fun z hz => by
            rcases List.mem_append.1 hz with hz | hz
            · exact hg z hz
            · rw [List.mem_singleton.1 hz]; exact hgm
          have hlen3 := encs_good hgl2
          rw [List.length_append, List.length_singleton, encs_snoc, List.length_append] at hlen3
          rw [if_pos rfl, if_pos rfl, if_pos (by omega), if_pos (by omega), if_pos R5, ← encs_snoc]
          refine wm_l1 a0 a1 w0 w1 h0 h1 y m (k + 1) _ (by omega) hgl2 (by simp; omega) (by omega) ?_
          rw [List.filterMap_append, hf, take_succ' he]
          simp [List.filterMap, hem]
        · rw [if_neg hE, if_neg hE]
          dsimp only
          rw [Option.bind_some]
          dsimp only
          rw [if_pos rfl, if_neg hE]
          exact .inl rfl
      · rw [if_neg (show ¬ (k : Int) < (a1.length : Int) by omega), Option.bind_some, if_neg (by decide)]
        exact .inr ⟨l, k, rfl, hg, by omega, by rw [hf, List.take_of_length_le (by omega)]⟩
theorem wm_l2 (a1 : List MarkerEnd) (h1 : a1.length ≤ 6) (y : Bool) (s : List UInt8) (hs : s.length ≤ 1000000) : ∀ (l : List Bat) (q k : Nat), (∀ x, x ∈ l → goodM x) → q ≤ s.length → s.drop q = encs encB l → k ≤ a1.length → l.filterMap endOf = a1.drop k →
    f_top_WholeMarkers_l2 a1 l y (k : Int) ⟨s.drop q, q, 0⟩ = some (.go (y, (a1.length : Int), ⟨[], s.length, 0⟩))
  | [], q, k, _, hq, hd, hk, hf => by
    rw [encs] at hd
    have h2 := List.drop_eq_nil_iff.1 hd
    have h3 : a1.length ≤ k := List.drop_eq_nil_iff.1 hf.symm
    rw [hd, f_top_WholeMarkers_l2, show q = s.length by omega, show k = a1.length by omega]
  | x :: l, q, k, ho, hq, hd, hk, hf => by
    obtain ⟨hx, hb, hbl, hr⟩ := ho x (.head _)
    rw [encs] at hd
    obtain ⟨r1, r2⟩ := read_one hs hq hx hd
    have hw : ∀ z, z ∈ x.fRecords → z.fHeaders.length ≤ 1000000 := fun z hz => (hb.2.2 z hz).1
    rw [f_top_WholeMarkers_l2, r1, Option.bind_some]
    dsimp only
    rw [hr, Option.bind_some]
    by_cases hc : x.fControl = true
    · have he : endOf x = some (markOf x) := if_pos hc
      rw [List.filterMap_cons, he] at hf
      dsimp only at hf
      obtain ⟨g1, g2, g3⟩ := b_at_drop hf.symm
      rw [if_pos hc]
      dsimp only
      rw [r11_same hb.2.1 hw, Option.bind_some, sameB_refl, if_pos rfl, hc, if_pos (show (true == true) = true from rfl), Option.bind_some, if_neg (by decide), if_pos rfl, if_neg (show ¬ (k : Int) ≥ (a1.length : Int) by omega), if_pos (show (0 : Int) ≤ (k : Int) by omega), Int.toNat_natCast, g1, Option.bind_some, if_pos rfl, if_pos rfl, if_pos rfl, if_pos rfl, if_pos rfl, Option.bind_some, if_neg (by decide), if_pos (by omega)]
      exact wm_l2 a1 h1 y s hs l _ (k + 1) (fun z hz => ho z (.tail _ hz)) r2 (drop_step hd) (by omega) g2.symm
    · have he : endOf x = none := if_neg hc
      rw [List.filterMap_cons, he] at hf
      dsimp only at hf
      have hcf : x.fControl = false := by simpa using hc
      rw [if_neg hc]
      dsimp only
      rw [r11_same hb.2.1 hw, Option.bind_some, sameB_refl, if_pos rfl, hcf, if_pos (show (false == false) = true from rfl), Option.bind_some, if_neg (by decide), if_neg (by decide)]
      exact wm_l2 a1 h1 y s hs l _ k (fun z hz => ho z (.tail _ hz)) r2 (drop_step hd) hk hf
theorem pure_WholeMarkers (a0 : List Bat) (a1 : List MarkerEnd) (w0 : wL wf_Bat a0) (w1 : wL wf_MarkerEnd a1) : f_top_WholeMarkers a0 a1 = some true := by
  unfold f_top_WholeMarkers
  rw [top_none, Option.bind_some]
  dsimp only
  rw [if_pos rfl]
  by_cases h6 : (a0.length : Int) > 6
  · rw [if_pos h6, Option.bind_some, if_pos rfl]
  rw [if_neg h6]
  by_cases h7 : (a1.length : Int) > 6
  · rw [if_pos h7, Option.bind_some, if_pos rfl]
  rw [if_neg h7, Option.bind_some, if_neg (by decide)]
  rcases wm_l1 a0 a1 w0.2 w1.2 (by omega) (by omega) false (((a0.length : Int)).toNat + ((a1.length : Int)).toNat + 1) 0 [] (by omega) (fun x h => nomatch h) (Nat.le_refl _) (by decide) rfl with h | ⟨l, k, h, hg, hl, hf⟩
  · rw [show encs encB [] = [] from rfl] at h
    rw [h]
    rfl
  · rw [show encs encB [] = [] from rfl] at h
    rw [h, Option.bind_some]
    dsimp only
    have hlen := encs_good hg
    rw [gNew_eq _ (by omega), Option.bind_some]
    have h2 := wm_l2 a1 (by omega) false (encs encB l) (by omega) l 0 0 hg (Nat.zero_le _) (by rw [List.drop_zero]) (Nat.zero_le _) (by rw [hf, List.drop_zero])
    rw [List.drop_zero] at h2
    rw [show ((0 : Nat) : Int) = 0 from rfl] at h2
    rw [h2, Option.bind_some]
    dsimp only
    rw [if_pos rfl, gClose_z, Option.bind_some]
    rfl
end Go.Proofs.Ytcoppaggpbfcmaa.Sl
namespace Go.Proofs.Ytcoppaggpbfcmaa.Sl
open Go.RowKit Go.Deep Go.ChangeShapes
set_option linter.unusedVariables false
theorem op_Bl {H : Type} {enc : TypeId × Value → H} : OpensW enc Try.prog 30 (andRd Bl_rd wf_Bl) :=
  opensW_weak (fun x => ⟨x.1, x.2.1⟩) (opensW_struct Try.underlying30 (by kernel_rfl) (opensWFs_cons 1 (by kernel_rfl) (by kernel_rfl) (op_bool Try.underlying4) (opensWFs_cons 1 (by kernel_rfl) (by kernel_rfl) (op_str Try.underlying9) (opensWFs_nil _)))) (by
    rintro w S cs ⟨x0, x1, _⟩ ⟨_, _, rfl, ⟨p0, q0⟩, _, _, rfl, ⟨p1, q1⟩, rfl⟩
    obtain rfl := p0
    obtain rfl := p1
    exact ⟨rfl, q0, q1⟩)
theorem op_Hd {H : Type} {enc : TypeId × Value → H} : OpensW enc Try.prog 81 (andRd Hd_rd wf_Hd) :=
  opensW_weak (fun x => ⟨x.1, x.2.1⟩) (opensW_struct Try.underlying81 (by kernel_rfl) (opensWFs_cons 1 (by kernel_rfl) (by kernel_rfl) (op_str Try.underlying9) (opensWFs_cons 2 (by kernel_rfl) (by kernel_rfl) op_Bl (opensWFs_nil _)))) (by
    rintro w S cs ⟨x0, x1, _⟩ ⟨_, _, rfl, ⟨p0, q0⟩, _, _, rfl, ⟨p1, q1⟩, rfl⟩
    obtain rfl := p0
    obtain rfl := p1
    exact ⟨rfl, q0, q1⟩)
theorem op_Rec {H : Type} {enc : TypeId × Value → H} : OpensW enc Try.prog 33 (andRd Rec_rd wf_Rec) :=
  opensW_weak (fun x => ⟨x.1, x.2.1, x.2.2.1, x.2.2.2.1, x.2.2.2.2.1⟩) (opensW_struct Try.underlying33 (by kernel_rfl) (opensWFs_cons 1 (by kernel_rfl) (by kernel_rfl) (op_i64 Try.underlying3) (opensWFs_cons 1 (by kernel_rfl) (by kernel_rfl) (op_i64 Try.underlying3) (opensWFs_cons 2 (by kernel_rfl) (by kernel_rfl) op_Bl (opensWFs_cons 2 (by kernel_rfl) (by kernel_rfl) op_Bl (opensWFs_cons 1 (by kernel_rfl) (by kernel_rfl) (op_slice 3 40 Try.underlying31 (by kernel_rfl) (by kernel_rfl) (by decide) (by decide) op_Hd) (opensWFs_nil _))))))) (by
    rintro w S cs ⟨x0, x1, x2, x3, x4, _⟩ ⟨_, _, rfl, ⟨p0, q0⟩, _, _, rfl, ⟨p1, q1⟩, _, _, rfl, ⟨p2, q2⟩, _, _, rfl, ⟨p3, q3⟩, _, _, rfl, ⟨p4, q4⟩, rfl⟩
    obtain rfl := p0
    obtain rfl := p1
    obtain rfl := p2
    obtain rfl := p3
    obtain ⟨A4, c4, rfl⟩ := slice_cells p4
    exact ⟨⟨A4, c4, rfl, p4⟩, q0, q1, q2, q3, q4⟩)
theorem op_Bat {H : Type} {enc : TypeId × Value → H} : OpensW enc Try.prog 25 (andRd Bat_rd wf_Bat) :=
  opensW_weak (fun x => ⟨x.1, x.2.1, x.2.2.1, x.2.2.2.1, x.2.2.2.2.1, x.2.2.2.2.2.1, x.2.2.2.2.2.2.1, x.2.2.2.2.2.2.2.1, x.2.2.2.2.2.2.2.2.1, x.2.2.2.2.2.2.2.2.2.1, x.2.2.2.2.2.2.2.2.2.2.1, x.2.2.2.2.2.2.2.2.2.2.2.1⟩) (opensW_struct Try.underlying25 (by kernel_rfl) (opensWFs_cons 1 (by kernel_rfl) (by kernel_rfl) (op_i64 Try.underlying3) (opensWFs_cons 1 (by kernel_rfl) (by kernel_rfl) (op_i64 Try.underlying3) (opensWFs_cons 1 (by kernel_rfl) (by kernel_rfl) (op_bool Try.underlying4) (opensWFs_cons 1 (by kernel_rfl) (by kernel_rfl) (op_bool Try.underlying4) (opensWFs_cons 1 (by kernel_rfl) (by kernel_rfl) (op_bool Try.underlying4) (opensWFs_cons 1 (by kernel_rfl) (by kernel_rfl) (op_i64 Try.underlying3) (opensWFs_cons 1 (by kernel_rfl) (by kernel_rfl) (op_i64 Try.underlying3) (opensWFs_cons 1 (by kernel_rfl) (by kernel_rfl) (op_i64 Try.underlying3) (opensWFs_cons 1 (by kernel_rfl) (by kernel_rfl) (op_i64 Try.underlying3) (opensWFs_cons 1 (by kernel_rfl) (by kernel_rfl) (op_i64 Try.underlying3) (opensWFs_cons 1 (by kernel_rfl) (by kernel_rfl) (op_i64 Try.underlying3) (opensWFs_cons 1 (by kernel_rfl) (by kernel_rfl) (op_slice 7 88 Try.underlying23 (by kernel_rfl) (by kernel_rfl) (by decide) (by decide) op_Rec) (opensWFs_nil _)))))))))))))) (by
    rintro w S cs ⟨x0, x1, x2, x3, x4, x5, x6, x7, x8, x9, x10, x11, _⟩ ⟨_, _, rfl, ⟨p0, q0⟩, _, _, rfl, ⟨p1, q1⟩, _, _, rfl, ⟨p2, q2⟩, _, _, rfl, ⟨p3, q3⟩, _, _, rfl, ⟨p4, q4⟩, _, _, rfl, ⟨p5, q5⟩, _, _, rfl, ⟨p6, q6⟩, _, _, rfl, ⟨p7, q7⟩, _, _, rfl, ⟨p8, q8⟩, _, _, rfl, ⟨p9, q9⟩, _, _, rfl, ⟨p10, q10⟩, _, _, rfl, ⟨p11, q11⟩, rfl⟩
    obtain rfl := p0
    obtain rfl := p1
    obtain rfl := p2
    obtain rfl := p3
    obtain rfl := p4
    obtain rfl := p5
    obtain rfl := p6
    obtain rfl := p7
    obtain rfl := p8
    obtain rfl := p9
    obtain rfl := p10
    obtain ⟨A11, c11, rfl⟩ := slice_cells p11
    exact ⟨⟨A11, c11, rfl, p11⟩, q0, q1, q2, q3, q4, q5, q6, q7, q8, q9, q10, q11⟩)
theorem op_MarkerEnd {H : Type} {enc : TypeId × Value → H} : OpensW enc Try.prog 58 (andRd MarkerEnd_rd wf_MarkerEnd) :=
  opensW_weak (fun x => ⟨x.1, x.2.1, x.2.2.1, x.2.2.2.1, x.2.2.2.2.1⟩) (opensW_struct Try.underlying58 (by kernel_rfl) (opensWFs_cons 1 (by kernel_rfl) (by kernel_rfl) (op_i64 Try.underlying3) (opensWFs_cons 1 (by kernel_rfl) (by kernel_rfl) (op_i64 Try.underlying3) (opensWFs_cons 1 (by kernel_rfl) (by kernel_rfl) (op_i64 Try.underlying3) (opensWFs_cons 1 (by kernel_rfl) (by kernel_rfl) (op_i64 Try.underlying3) (opensWFs_cons 1 (by kernel_rfl) (by kernel_rfl) (op_i64 Try.underlying3) (opensWFs_nil _))))))) (by
    rintro w S cs ⟨x0, x1, x2, x3, x4, _⟩ ⟨_, _, rfl, ⟨p0, q0⟩, _, _, rfl, ⟨p1, q1⟩, _, _, rfl, ⟨p2, q2⟩, _, _, rfl, ⟨p3, q3⟩, _, _, rfl, ⟨p4, q4⟩, rfl⟩
    obtain rfl := p0
    obtain rfl := p1
    obtain rfl := p2
    obtain rfl := p3
    obtain rfl := p4
    exact ⟨rfl, q0, q1, q2, q3, q4⟩)
end Go.Proofs.Ytcoppaggpbfcmaa.Sl
namespace Go.Proofs.Ytcoppaggpbfcmaa.wholeMarkers
open Go.ChangeShapes Go.WideShapes Go.ChangeAt Go.RowKit
open Go.ChangeMaps (open_string shut_string)
set_option linter.unusedVariables false
theorem own : ownKnob Try.prog.godebug = none := by kernel_rfl
theorem laidOut : laidOutB Try.prog = true := by kernel_rfl
set_option maxRecDepth 100000 in
set_option maxHeartbeats 1000000 in
theorem lifted (os : Os) (started : os.Started) (H : Type) (enc : TypeId × Value → H) :
    ReturnsInHanded {} Try.checked os 7 .any (Rows.wholeMarkersSpec.pre6 enc Try.prog Try.f7 Rows.wholeMarkersRow.domain false) (Rows.wholeMarkersSpec.post enc Try.prog Try.f7 false true false false) := by
  refine returnsInHanded_of_change_sized (C := Try.checked) own started (by kernel_rfl) Try.func7
    (ChangeSpec.witness6 (enc := enc) (C := Try.checked) false ⟨#[], #[.slice none 0 0, .slice none 0 0], []⟩ 8 (by kernel_rfl) (by kernel_rfl) (by kernel_rfl) (by kernel_rfl)) ?_
  intro W base args ds gs before hval0 hW hcnd hsz0 _
  have hsz : (DataW.weightsEach Try.prog (Try.f7.params.toList ++ Rows.wholeMarkersSpec.plain.varTypes Try.prog) (ds ++ gs)).all (· ≤ reachBytes) = true := hsz0
  have hval : ∀ (j : Nat) t v, Try.f7.params[j]? = some t → args[j]? = some v → Value.okWide Try.prog W .any base t v := hval0
  have hW' := hW
  obtain ⟨p, q, hA0, hV, rfl, hfz, hnd⟩ := hW
  have hA : DataW.TrodAll enc Try.prog W 0 (fun _ => true) true Try.f7.params.toList args.toList ds p := hA0
  rw [Try.params7] at hA hval hsz
  obtain ⟨v0, vs0, d0, ds0, p0, q0, hargs, rfl, rfl, h0, r0⟩ := trodAll_cons hA
  obtain ⟨v1, vs1, d1, ds1, p1, q1, rfl, rfl, rfl, h1, r1⟩ := trodAll_cons r0
  obtain ⟨rfl, rfl, rfl⟩ := trodAll_nil r1
  obtain rfl : args = #[v0, v1] := by cases args; simp_all
  obtain ⟨rfl, rfl⟩ := trodVars_none hV
  have k0 := h0
  have lt0 : ∀ x ∈ p0, x.block < W.heap.size := by obtain ⟨m, hm⟩ := k0; exact DataW.trod_lt m _ _ _ hm
  obtain ⟨a0, r_0, w0⟩ := Sl.opens_arg1 Try.underlying46 (hval 0 46 v0 rfl rfl) (Sl.op_slice 12 96 Try.underlying46 (by kernel_rfl) (by kernel_rfl) (by decide) (by decide) Sl.op_Bat) h0 (fun x hx => of_decide_eq_true (List.all_eq_true.1 hsz x (Sl.weights_in 0 rfl rfl hx)))
  obtain ⟨A0, c0, e0⟩ := Sl.slice_cells r_0
  injection e0 with e0
  subst e0
  have k1 := h1
  have lt1 : ∀ x ∈ p1, x.block < W.heap.size := by obtain ⟨m, hm⟩ := k1; exact DataW.trod_lt m _ _ _ hm
  obtain ⟨a1, r_1, w1⟩ := Sl.opens_arg1 Try.underlying53 (hval 1 53 v1 rfl rfl) (Sl.op_slice 5 40 Try.underlying53 (by kernel_rfl) (by kernel_rfl) (by decide) (by decide) Sl.op_MarkerEnd) h1 (fun x hx => of_decide_eq_true (List.all_eq_true.1 hsz x (Sl.weights_in 1 rfl rfl hx)))
  obtain ⟨A1, c1, e1⟩ := Sl.slice_cells r_1
  injection e1 with e1
  subst e1
  clear hA0 hval0 hsz0 hsz
  refine (Sl.f_top_WholeMarkers_spec a0 A0 c0 a1 A1 c1 true (Sl.pure_WholeMarkers a0 a1 w0 w1) (fun _ => False) W (fun _ h => h) (Sl.RX.reads_and (Sl.RX.reads_all r_0) (Sl.RX.reads_all r_1))).mono fun e W' hP => ?_
  obtain ⟨v, A', Ns, rfl, ⟨rfl, rfl, rfl⟩, hst⟩ := hP
  have bel := Sl.St.below hst
  exact ⟨_, rfl, _, _, _, [], _, [], hW', trodAll_mk1 (shut_bool Try.underlying4 _), (trodAll_cons_mk (Below.trod laidOut (by kernel_rfl) (of_decide_eq_true (by kernel_rfl)) k0 bel lt0) (trodAll_cons_mk (Below.trod laidOut (by kernel_rfl) (of_decide_eq_true (by kernel_rfl)) k1 bel lt1) trodAll_mk0)), rfl, bel.frame _, fun h => by cases h⟩
theorem over : Rows.wholeMarkersRow.holds Try.pinned (OpenSpec.ofChange Rows.wholeMarkersSpec) :=
  OpenClaim.holds_of_wide 7 Try.f7 rfl rfl rfl rfl rfl rfl rfl ⟨rfl, rfl, rfl, rfl, rfl⟩ rfl rfl rfl rfl rfl (by kernel_rfl) Try.func7 (by kernel_rfl)
    (of_decide_eq_true (by kernel_rfl)) (by unfold Func.isWrapper; first | (rw [if_pos (by decide +kernel)]; kernel_rfl) | (rw [if_neg (by decide +kernel)]; exact ⟨rfl, rfl⟩))
    (fun os started H enc _ => lifted os started H enc)
theorem proved : Rows.WholeMarkersSaid := over
end Go.Proofs.Ytcoppaggpbfcmaa.wholeMarkers
namespace Go.Proofs.Ytcoppaggpbfcmaa
theorem wholeMarkers_holds : Rows.WholeMarkersSaid := wholeMarkers.proved
end Go.Proofs.Ytcoppaggpbfcmaa
