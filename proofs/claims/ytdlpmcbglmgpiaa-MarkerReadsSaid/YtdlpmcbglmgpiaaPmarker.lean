/- Printed by g2.py: package marker. -/
import Derived.Test.YtdlpmcbglmgpiaaGb
import Derived.Test.YtdlpmcbglmgpiaaNh
import Derived.Test.YtdlpmcbglmgpiaaPbatch
import Derived.Test.YtdlpmcbglmgpiaaPcontrol
namespace Go.Proofs.Ytdlpmcbglmgpiaa.Sl
open Go.RowKit
set_option linter.unusedVariables false
set_option linter.unusedSimpArgs false
set_option maxRecDepth 100000
def ft_marker : FTab := [(87, 4, 4), (87, 6, 6), (87, 8, 8), (87, 9, 9), (87, 11, 11), (90, 0, 0), (90, 1, 1), (90, 2, 2), (90, 3, 3), (90, 4, 4), (96, 0, 0)]
theorem ft_marker_ok : (ft_marker).OK Try.prog := ⟨FOK.mk Try.runUnderlying87 rfl Try.sizeOf4 rfl, FOK.mk Try.runUnderlying87 rfl Try.sizeOf3 rfl, FOK.mk Try.runUnderlying87 rfl Try.sizeOf3 rfl, FOK.mk Try.runUnderlying87 rfl Try.sizeOf3 rfl, FOK.mk Try.runUnderlying87 rfl Try.sizeOf85 rfl, FOK.mk Try.runUnderlying90 rfl Try.sizeOf3 rfl, FOK.mk Try.runUnderlying90 rfl Try.sizeOf3 rfl, FOK.mk Try.runUnderlying90 rfl Try.sizeOf3 rfl, FOK.mk Try.runUnderlying90 rfl Try.sizeOf3 rfl, FOK.mk Try.runUnderlying90 rfl Try.sizeOf3 rfl, FOK.mk Try.runUnderlying96 rfl Try.sizeOf3 rfl, trivial⟩
theorem mix_marker : Try.prog.follows .mixedOrders = true := by kernel_rfl
theorem bok_marker_87 : BOK Try.prog 87 #[.int .i64 0, .int .i64 0, .bool false, .bool false, .bool false, .int .i64 0, .int .i64 0, .int .i64 0, .int .i64 0, .int .i64 0, .int .i64 0, .slice none 0 0] [(0, 1), (1, 1), (2, 1), (3, 1), (4, 1), (5, 1), (6, 1), (7, 1), (8, 1), (9, 1), (10, 1), (11, 1)] := BOK.mk Try.zeroValue87 Try.runUnderlying87 (by intro w; simp)
theorem bok_marker_90 : BOK Try.prog 90 #[.int .i64 0, .int .i64 0, .int .i64 0, .int .i64 0, .int .i64 0] [(0, 1), (1, 1), (2, 1), (3, 1), (4, 1)] := BOK.mk Try.zeroValue90 Try.runUnderlying90 (by intro w; simp)
theorem sok_marker_85_1 : SOK Try.prog 85 96 1 7 #[.int .i64 0, .int .i64 0, .bool false, .string ⟨#[]⟩, .bool false, .string ⟨#[]⟩, .slice none 0 0] := SOK.mk Try.runUnderlying85 Try.sizeOf96 Try.zeroValue96 (by decide) (by kernel_rfl)
def f_marker_Read (a0 : Bat) : Option (MarkerEnd × Bool) := (f_batch_Check a0).bind fun x5 => if x5 = 0 then (if a0.fControl = true then ((a0.fRecords[0]?).bind fun x9 => (f_control_Read x9).bind fun (x15, x16, x17) => if -9223372036854775808 ≤ (a0.fFirst + x9.fTime) ∧ (a0.fFirst + x9.fTime) ≤ 9223372036854775807 then (some ((⟨a0.fProducer, a0.fEpoch, x15, (a0.fFirst + x9.fTime), x16⟩ : MarkerEnd), true)) else none) else (some ((⟨0, 0, 0, 0, 0⟩ : MarkerEnd), false))) else (some ((⟨0, 0, 0, 0, 0⟩ : MarkerEnd), false))
set_option maxRecDepth 100000 in
set_option maxHeartbeats 4000000 in
theorem f_marker_Read_spec (a0 : Bat) (A1 : Option Addr) (c2 : Nat) (r : MarkerEnd × Bool) (h : f_marker_Read a0 = some r) : SpecX Try.prog 53 #[.agg #[.int .i64 a0.fBase, .int .i64 a0.fLeader, .bool a0.fAppend, .bool a0.fTxn, .bool a0.fControl, .int .i64 a0.fLast, .int .i64 a0.fFirst, .int .i64 a0.fMax, .int .i64 a0.fProducer, .int .i64 a0.fEpoch, .int .i64 a0.fSequence, .slice A1 a0.fRecords.length c2]] (RX.of (sliceRd 7 Rec_rd) [.slice A1 a0.fRecords.length c2] a0.fRecords) (EmpR) (fun v A' N => v = .tuple #[.agg #[.int .i64 r.1.fProducer, .int .i64 r.1.fEpoch, .int .i64 r.1.fKind, .int .i64 r.1.fTime, .int .i64 r.1.fCoordinator], .bool r.2] ∧ A' = EmpR ∧ N = []) := by
  refine enterA Try.func53 rfl Try.ntmps53 rfl ?_
  intro F w hX
  unfold f_marker_Read at h
  refine T.seq (T.region rfl ?_)
  refine TL.box rfl .u rfl rfl (fun b3 => ?_)
  refine TL.alloc rfl .u Try.zeroValue90 rfl (fun b4 => ?_)
  refine TL.run ft_marker_ok [2] rfl rfl ?_
  refine TL.nil (X.seq (T.seq (T.seq (T.region rfl ?_))))
  refine TL.q rfl .u (Ex.bS (us := [.int .i64 a0.fBase, .int .i64 a0.fLeader, .bool a0.fAppend, .bool a0.fTxn, .bool a0.fControl, .int .i64 a0.fLast, .int .i64 a0.fFirst, .int .i64 a0.fMax, .int .i64 a0.fProducer, .int .i64 a0.fEpoch, .int .i64 a0.fSequence, .slice A1 a0.fRecords.length c2]) 1 rfl Try.isAgg87 Try.sizeOf87 rfl rfl rfl) rfl ?_
  obtain ⟨x5, hx6, h⟩ := Option.bind_eq_some_iff.1 h
  refine TL.ce rfl .u (.fn Try.call103 rfl) (f_batch_Check_spec a0 _ _ _ hx6) (fun _ hs => (SrcE.old hs hX)) rfl ?_
  by_cases c7 : x5 = 0
  · replace h := ifT c7 h
    refine TL.run ft_marker_ok [2, 3] rfl rfl ?_
    refine TL.q rfl (.g rfl rfl (bn_f (decide_eq_true c7))) (Ex.ft ft_marker_ok rfl) rfl ?_
    refine TL.q rfl (.g rfl rfl (bn_f (decide_eq_true c7))) (Ex.b1 1 rfl Try.isAgg4 rfl rfl) rfl ?_
    refine TL.q rfl (.g rfl rfl (bn_f (decide_eq_true c7))) (Ex.ft ft_marker_ok rfl) rfl ?_
    refine TL.q rfl .u (Ex.pn rfl (bn_f (decide_eq_true c7)) rfl) rfl ?_
    by_cases c8 : a0.fControl = true
    · replace h := ifT c8 h
      refine TL.nil (X.seq ?_)
      refine T.no rfl (bn_f c8) ?_
      refine T.skip (X.seq (T.seq (T.region rfl ?_)))
      refine TL.run ft_marker_ok [0] rfl rfl ?_
      refine TL.q rfl .u (Ex.b1 1 rfl Try.isAgg85 rfl rfl) rfl ?_
      obtain ⟨x9, hx10, h⟩ := Option.bind_eq_some_iff.1 h
      obtain ⟨gz11, oz11, rfl, z11cs, z11cl, z11cc, z11nf, z11r⟩ := RX.elem (by decide) hX hx10
      obtain ⟨z11S, z11r, z11rr⟩ := z11r
      obtain ⟨A12, c13, rfl, z11s0⟩ := z11r
      have hX14 : (RX.of (sliceRd 3 Hd_rd) [.slice A12 x9.fHeaders.length c13] x9.fHeaders).reads w F := ⟨z11S, z11s0, z11rr⟩
      refine TL.q rfl .u (Ex.ixS (k := 0) rfl rfl rfl Try.runUnderlying85 Try.sizeOf96 (List.getElem?_eq_some_iff.1 hx10).1) rfl ?_
      refine TL.q rfl .u (Ex.oS (us := [.int .i64 x9.fTime, .int .i64 x9.fOffset, .bool x9.fKey.null, .string (bsOf x9.fKey.data), .bool x9.fValue.null, .string (bsOf x9.fValue.data), .slice A12 x9.fHeaders.length c13]) 0 rfl Try.isAgg96 Try.sizeOf96 z11nf z11cc rfl rfl rfl) rfl ?_
      obtain ⟨⟨x15, x16, x17⟩, hx18, h⟩ := Option.bind_eq_some_iff.1 h
      try dsimp only at h
      refine TL.ce rfl .u (.fn Try.call104 rfl) (f_control_Read_spec x9 _ _ _ hx18) (fun _ hs => (SrcE.old hs hX14)) rfl ?_
      refine TL.run ft_marker_ok [5, 6, 7, 8, 9, 10, 11] rfl rfl ?_
      refine TL.nil (X.seq (T.seq (T.draw (.q 0 (.q 1 (.q 2 (.q 3 (.q 4 (.q 5 (.q 6 (.q 7 (.q 8 (.q 9 (.q 10 (.q 11 (.q 12 (.q 13 (.q 14 (.e 15 (.q 16 .nil))))))))))))))))) [1, 1] rfl mix_marker (NoP.seq np_post) (by kernel_rfl) ?_)))
      refine TD.run ft_marker_ok [0] rfl rfl ?_
      refine TD.q rfl .u (Ex.b1 0 rfl Try.isAgg3 rfl rfl) rfl ?_
      refine TD.run ft_marker_ok [2] rfl rfl ?_
      refine TD.q rfl .u (Ex.b1 0 rfl Try.isAgg3 rfl rfl) rfl ?_
      refine TD.run ft_marker_ok [4, 5] rfl rfl ?_
      refine TD.q rfl .u (Ex.b1 0 rfl Try.isAgg3 rfl rfl) rfl ?_
      refine TD.run ft_marker_ok [7] rfl rfl ?_
      refine TD.q rfl .u (Ex.b1 0 rfl Try.isAgg85 rfl rfl) rfl ?_
      refine TD.q rfl .u (Ex.ixS (k := 0) rfl rfl rfl Try.runUnderlying85 Try.sizeOf96 (List.getElem?_eq_some_iff.1 hx10).1) rfl ?_
      refine TD.run ft_marker_ok [10] rfl rfl ?_
      refine TD.q rfl .u (Ex.o1 0 rfl Try.isAgg3 z11nf z11cc rfl rfl) rfl ?_
      replace h := guard_some h
      obtain ⟨c19, h⟩ := h
      refine TD.q rfl .u (Ex.add rfl rfl c19) rfl ?_
      refine TD.run ft_marker_ok [13] rfl rfl ?_
      refine TD.q rfl .u (Ex.bld (cells := #[.int .i64 a0.fProducer, .int .i64 a0.fEpoch, .int .i64 x15, .int .i64 (a0.fFirst + x9.fTime), .int .i64 x16]) bok_marker_90 rfl (by kernel_rfl)) rfl ?_
      refine TD.st0 (cs' := #[.int .i64 a0.fProducer, .int .i64 a0.fEpoch, .int .i64 x15, .int .i64 (a0.fFirst + x9.fTime), .int .i64 x16]) rfl .u rfl rfl Try.sizeOf90 rfl rfl rfl rfl [1, 1] (rfl) ?_
      refine TD.run ft_marker_ok [16] rfl rfl ?_
      obtain rfl := Option.some.inj h
      exact TD.nil (X.seq (T.ret (X.done2 [2] Try.results53 (RV.cS (us := #[.int .i64 a0.fProducer, .int .i64 a0.fEpoch, .int .i64 x15, .int .i64 (a0.fFirst + x9.fTime), .int .i64 x16]) 0 rfl Try.isAgg90 Try.sizeOf90 rfl rfl) (RV.tm rfl) ⟨rfl, rfl, rfl⟩ (by rfl) (.inl rfl))))
    · replace h := ifF c8 h
      replace c8 := eq_false_of_ne_true c8
      refine TL.nil (X.seq ?_)
      refine T.yes rfl (bn_t c8) ?_
      refine T.seq (T.region rfl ?_)
      refine TL.q rfl .u (Ex.bld (cells := #[.int .i64 0, .int .i64 0, .int .i64 0, .int .i64 0, .int .i64 0]) bok_marker_90 rfl (by kernel_rfl)) rfl ?_
      refine TL.st0 (cs' := #[.int .i64 0, .int .i64 0, .int .i64 0, .int .i64 0, .int .i64 0]) rfl .u rfl rfl Try.sizeOf90 rfl rfl rfl rfl ?_
      refine TL.run ft_marker_ok [2] rfl rfl ?_
      obtain rfl := Option.some.inj h
      exact TL.nil (X.seq (T.ret (X.rs (X.done2 [2] Try.results53 (RV.cS (us := #[.int .i64 0, .int .i64 0, .int .i64 0, .int .i64 0, .int .i64 0]) 0 rfl Try.isAgg90 Try.sizeOf90 rfl rfl) (RV.tm rfl) ⟨rfl, rfl, rfl⟩ (by rfl) (.inl rfl)))))
  · replace h := ifF c7 h
    refine TL.run ft_marker_ok [2, 3] rfl rfl ?_
    refine TL.no rfl (.gn rfl rfl (bn_t (decide_eq_false c7))) rfl ?_
    refine TL.no rfl (.gn rfl rfl (bn_t (decide_eq_false c7))) rfl ?_
    refine TL.no rfl (.gn rfl rfl (bn_t (decide_eq_false c7))) rfl ?_
    refine TL.q rfl .u (Ex.py rfl (bn_t (decide_eq_false c7)) rfl) rfl ?_
    refine TL.nil (X.seq ?_)
    refine T.yes rfl rfl ?_
    refine T.seq (T.region rfl ?_)
    refine TL.q rfl .u (Ex.bld (cells := #[.int .i64 0, .int .i64 0, .int .i64 0, .int .i64 0, .int .i64 0]) bok_marker_90 rfl (by kernel_rfl)) rfl ?_
    refine TL.st0 (cs' := #[.int .i64 0, .int .i64 0, .int .i64 0, .int .i64 0, .int .i64 0]) rfl .u rfl rfl Try.sizeOf90 rfl rfl rfl rfl ?_
    refine TL.run ft_marker_ok [2] rfl rfl ?_
    obtain rfl := Option.some.inj h
    exact TL.nil (X.seq (T.ret (X.rs (X.done2 [2] Try.results53 (RV.cS (us := #[.int .i64 0, .int .i64 0, .int .i64 0, .int .i64 0, .int .i64 0]) 0 rfl Try.isAgg90 Try.sizeOf90 rfl rfl) (RV.tm rfl) ⟨rfl, rfl, rfl⟩ (by rfl) (.inl rfl)))))
def f_marker_Batch (a0 : Int) (a1 : Int) (a2 : MarkerEnd) : Option (Bat × Int) := (f_control_Record a2.fKind a2.fCoordinator).bind fun (x3, x6) => if x6 = 0 then ((f_batch_Check (⟨a0, a1, false, true, true, 0, a2.fTime, a2.fTime, a2.fProducer, a2.fEpoch, -1, [x3]⟩ : Bat)).bind fun x12 => if x12 = 0 then (some ((⟨a0, a1, false, true, true, 0, a2.fTime, a2.fTime, a2.fProducer, a2.fEpoch, -1, [x3]⟩ : Bat), 0)) else (some ((⟨0, 0, false, false, false, 0, 0, 0, 0, 0, 0, []⟩ : Bat), x12))) else (some ((⟨0, 0, false, false, false, 0, 0, 0, 0, 0, 0, []⟩ : Bat), x6))
set_option maxRecDepth 100000 in
set_option maxHeartbeats 4000000 in
theorem f_marker_Batch_spec (a0 : Int) (a1 : Int) (a2 : MarkerEnd) (r : Bat × Int) (h : f_marker_Batch a0 a1 a2 = some r) : SpecX Try.prog 102 #[.int .i64 a0, .int .i64 a1, .agg #[.int .i64 a2.fProducer, .int .i64 a2.fEpoch, .int .i64 a2.fKind, .int .i64 a2.fTime, .int .i64 a2.fCoordinator]] .triv (EmpR) (fun v A' N => ∃ (A15 : Option Addr) (c16 : Nat), v = .tuple #[.agg #[.int .i64 r.1.fBase, .int .i64 r.1.fLeader, .bool r.1.fAppend, .bool r.1.fTxn, .bool r.1.fControl, .int .i64 r.1.fLast, .int .i64 r.1.fFirst, .int .i64 r.1.fMax, .int .i64 r.1.fProducer, .int .i64 r.1.fEpoch, .int .i64 r.1.fSequence, .slice A15 r.1.fRecords.length c16], .int .i64 r.2] ∧ A' = EmpR ∧ N = [RdR (sliceRd 7 Rec_rd) [.slice A15 r.1.fRecords.length c16] r.1.fRecords]) := by
  refine enterA Try.func102 rfl Try.ntmps102 rfl ?_
  intro F w hX
  unfold f_marker_Batch at h
  refine T.seq (T.region rfl ?_)
  refine TL.box rfl .u rfl rfl (fun b1 => ?_)
  refine TL.alloc rfl .u Try.zeroValue87 rfl (fun b2 => ?_)
  refine TL.run ft_marker_ok [2] rfl rfl ?_
  refine TL.nil (X.seq (T.seq (T.region rfl ?_)))
  refine TL.run ft_marker_ok [0] rfl rfl ?_
  refine TL.q rfl .u (Ex.b1 1 rfl Try.isAgg3 rfl rfl) rfl ?_
  refine TL.run ft_marker_ok [2] rfl rfl ?_
  refine TL.q rfl .u (Ex.b1 1 rfl Try.isAgg3 rfl rfl) rfl ?_
  obtain ⟨⟨x3, x6⟩, hx7, h⟩ := Option.bind_eq_some_iff.1 h
  try dsimp only at h
  refine TL.cge rfl .u (.fn Try.call139 rfl) (f_control_Record_spec a2.fKind a2.fCoordinator _ hx7) (fun _ hs => (RX.reads_triv _ _)) rfl ?_
  rintro _ _ _ ⟨A4, c5, rfl, rfl, rfl⟩
  refine TL.sel [0, 0, 0, 0] rfl ?_
  refine TL.run ft_marker_ok [5, 6, 7] rfl rfl ?_
  refine TL.alloc rfl .u Try.zeroValue96 rfl (fun b8 => ?_)
  refine TL.st0 (cs' := #[.int .i64 x3.fTime, .int .i64 x3.fOffset, .bool x3.fKey.null, .string (bsOf x3.fKey.data), .bool x3.fValue.null, .string (bsOf x3.fValue.data), .slice A4 x3.fHeaders.length c5]) rfl .u rfl rfl Try.sizeOf96 rfl rfl rfl rfl ?_
  refine TL.run ft_marker_ok [10] rfl rfl ?_
  refine TL.nil (X.seq (T.seq (T.seq (T.region rfl ?_))))
  refine TL.run ft_marker_ok [0, 1] rfl rfl ?_
  by_cases c9 : x6 = 0
  · replace h := ifT c9 h
    refine TL.nil (X.seq ?_)
    refine T.no rfl (bn_f (decide_eq_true c9)) ?_
    refine T.skip (X.seq (T.seq (T.region rfl ?_)))
    refine TL.run ft_marker_ok [0, 1, 2] rfl rfl ?_
    refine TL.q rfl .u (Ex.b1 3 rfl Try.isAgg3 rfl rfl) rfl ?_
    refine TL.run ft_marker_ok [4] rfl rfl ?_
    refine TL.q rfl .u (Ex.b1 3 rfl Try.isAgg3 rfl rfl) rfl ?_
    refine TL.run ft_marker_ok [6] rfl rfl ?_
    refine TL.q rfl .u (Ex.b1 3 rfl Try.isAgg3 rfl rfl) rfl ?_
    refine TL.run ft_marker_ok [8] rfl rfl ?_
    refine TL.q rfl .u (Ex.b1 3 rfl Try.isAgg3 rfl rfl) rfl ?_
    refine TL.q rfl .u (Ex.bS (us := [.int .i64 x3.fTime, .int .i64 x3.fOffset, .bool x3.fKey.null, .string (bsOf x3.fKey.data), .bool x3.fValue.null, .string (bsOf x3.fValue.data), .slice A4 x3.fHeaders.length c5]) 0 rfl Try.isAgg96 Try.sizeOf96 rfl rfl rfl) rfl ?_
    refine TL.lit (cells := #[.int .i64 x3.fTime, .int .i64 x3.fOffset, .bool x3.fKey.null, .string (bsOf x3.fKey.data), .bool x3.fValue.null, .string (bsOf x3.fValue.data), .slice A4 x3.fHeaders.length c5]) rfl .u sok_marker_85_1 rfl (by rfl) rfl (fun b10 => ?_)
    refine TL.rowOf2 (us := [.int .i64 x3.fTime, .int .i64 x3.fOffset, .bool x3.fKey.null, .string (bsOf x3.fKey.data), .bool x3.fValue.null, .string (bsOf x3.fValue.data), .slice A4 x3.fHeaders.length c5]) (xs := [x3]) (E := Rec_rd) (z := 7) 1 rfl rfl (Nat.le_of_ble_eq_true rfl) (fun w G hG => ⟨rfl, ⟨_, _, rfl, hG.1⟩, rfl⟩) ?_
    refine TL.sel [0, 0, 0, 0, 0] rfl ?_
    refine TL.q rfl .u (Ex.bld (cells := #[.int .i64 a0, .int .i64 a1, .bool false, .bool true, .bool true, .int .i64 0, .int .i64 a2.fTime, .int .i64 a2.fTime, .int .i64 a2.fProducer, .int .i64 a2.fEpoch, .int .i64 (-1), .slice (some ⟨b10, 0, none⟩) 1 1]) bok_marker_87 rfl (by kernel_rfl)) rfl ?_
    refine TL.alloc rfl .u Try.zeroValue87 rfl (fun b11 => ?_)
    refine TL.st0 (cs' := #[.int .i64 a0, .int .i64 a1, .bool false, .bool true, .bool true, .int .i64 0, .int .i64 a2.fTime, .int .i64 a2.fTime, .int .i64 a2.fProducer, .int .i64 a2.fEpoch, .int .i64 (-1), .slice (some ⟨b10, 0, none⟩) 1 1]) rfl .u rfl rfl Try.sizeOf87 rfl rfl rfl rfl ?_
    refine TL.nil (X.seq (T.seq (T.seq (T.region rfl ?_))))
    refine TL.q rfl .u (Ex.bS (us := [.int .i64 a0, .int .i64 a1, .bool false, .bool true, .bool true, .int .i64 0, .int .i64 a2.fTime, .int .i64 a2.fTime, .int .i64 a2.fProducer, .int .i64 a2.fEpoch, .int .i64 (-1), .slice (some ⟨b10, 0, none⟩) 1 1]) 0 rfl Try.isAgg87 Try.sizeOf87 rfl rfl rfl) rfl ?_
    obtain ⟨x12, hx13, h⟩ := Option.bind_eq_some_iff.1 h
    refine TL.ce rfl .u (.fn Try.call103 rfl) (f_batch_Check_spec (⟨a0, a1, false, true, true, 0, a2.fTime, a2.fTime, a2.fProducer, a2.fEpoch, -1, [x3]⟩ : Bat) _ _ _ hx13) (fun _ hs => (SrcE.res 1 hs rfl (fun w G h => own_reads (by decide) w G h))) rfl ?_
    refine TL.run ft_marker_ok [2] rfl rfl ?_
    refine TL.nil (X.seq (T.seq (T.region rfl ?_)))
    refine TL.run ft_marker_ok [0, 1] rfl rfl ?_
    by_cases c14 : x12 = 0
    · replace h := ifT c14 h
      refine TL.nil (X.seq ?_)
      refine T.no rfl (bn_f (decide_eq_true c14)) ?_
      refine T.skip (X.seq (T.seq (T.region rfl ?_)))
      refine TL.q rfl .u (Ex.bS (us := [.int .i64 a0, .int .i64 a1, .bool false, .bool true, .bool true, .int .i64 0, .int .i64 a2.fTime, .int .i64 a2.fTime, .int .i64 a2.fProducer, .int .i64 a2.fEpoch, .int .i64 (-1), .slice (some ⟨b10, 0, none⟩) 1 1]) 0 rfl Try.isAgg87 Try.sizeOf87 rfl rfl rfl) rfl ?_
      refine TL.st3 (cs' := #[.int .i64 a0, .int .i64 a1, .bool false, .bool true, .bool true, .int .i64 0, .int .i64 a2.fTime, .int .i64 a2.fTime, .int .i64 a2.fProducer, .int .i64 a2.fEpoch, .int .i64 (-1), .slice (some ⟨b10, 0, none⟩) 1 1]) rfl .u rfl rfl Try.sizeOf87 rfl rfl rfl rfl ?_
      refine TL.run ft_marker_ok [2] rfl rfl ?_
      obtain rfl := Option.some.inj h
      refine TL.nil (X.seq (T.ret ?_))
      refine X.shut (by decide) 1 rfl ?_
      refine X.sel [0, 0, 0, 0, 0, 0] rfl ?_
      exact X.done2 [5, 1] Try.results102 (RV.cS (us := #[.int .i64 a0, .int .i64 a1, .bool false, .bool true, .bool true, .int .i64 0, .int .i64 a2.fTime, .int .i64 a2.fTime, .int .i64 a2.fProducer, .int .i64 a2.fEpoch, .int .i64 (-1), .slice (some ⟨b10, 0, none⟩) 1 1]) 3 rfl Try.isAgg87 Try.sizeOf87 rfl rfl) (RV.tm rfl) ⟨_, _, rfl, rfl, rfl⟩ (by rfl) (.inl rfl)
    · replace h := ifF c14 h
      refine TL.nil (X.seq ?_)
      refine T.yes rfl (bn_t (decide_eq_false c14)) ?_
      refine T.seq (T.region rfl ?_)
      refine TL.q rfl .u (Ex.bld (cells := #[.int .i64 0, .int .i64 0, .bool false, .bool false, .bool false, .int .i64 0, .int .i64 0, .int .i64 0, .int .i64 0, .int .i64 0, .int .i64 0, .slice none 0 0]) bok_marker_87 rfl (by kernel_rfl)) rfl ?_
      refine TL.run ft_marker_ok [1] rfl rfl ?_
      refine TL.st3 (cs' := #[.int .i64 0, .int .i64 0, .bool false, .bool false, .bool false, .int .i64 0, .int .i64 0, .int .i64 0, .int .i64 0, .int .i64 0, .int .i64 0, .slice none 0 0]) rfl .u rfl rfl Try.sizeOf87 rfl rfl rfl rfl ?_
      refine TL.run ft_marker_ok [3] rfl rfl ?_
      obtain rfl := Option.some.inj h
      refine TL.nil (X.seq (T.ret (X.rs ?_)))
      refine X.nilrd 7 Rec_rd ?_
      exact X.done2 [6, 0] Try.results102 (RV.cS (us := #[.int .i64 0, .int .i64 0, .bool false, .bool false, .bool false, .int .i64 0, .int .i64 0, .int .i64 0, .int .i64 0, .int .i64 0, .int .i64 0, .slice none 0 0]) 4 rfl Try.isAgg87 Try.sizeOf87 rfl rfl) (RV.tm rfl) ⟨_, _, rfl, rfl, rfl⟩ (by rfl) (.inl rfl)
  · replace h := ifF c9 h
    refine TL.nil (X.seq ?_)
    refine T.yes rfl (bn_t (decide_eq_false c9)) ?_
    refine T.seq (T.region rfl ?_)
    refine TL.q rfl .u (Ex.bld (cells := #[.int .i64 0, .int .i64 0, .bool false, .bool false, .bool false, .int .i64 0, .int .i64 0, .int .i64 0, .int .i64 0, .int .i64 0, .int .i64 0, .slice none 0 0]) bok_marker_87 rfl (by kernel_rfl)) rfl ?_
    refine TL.run ft_marker_ok [1] rfl rfl ?_
    refine TL.st2 (cs' := #[.int .i64 0, .int .i64 0, .bool false, .bool false, .bool false, .int .i64 0, .int .i64 0, .int .i64 0, .int .i64 0, .int .i64 0, .int .i64 0, .slice none 0 0]) rfl .u rfl rfl Try.sizeOf87 rfl rfl rfl rfl ?_
    refine TL.run ft_marker_ok [3] rfl rfl ?_
    obtain rfl := Option.some.inj h
    refine TL.nil (X.seq (T.ret (X.rs ?_)))
    refine X.nilrd 7 Rec_rd ?_
    exact X.done2 [5, 0] Try.results102 (RV.cS (us := #[.int .i64 0, .int .i64 0, .bool false, .bool false, .bool false, .int .i64 0, .int .i64 0, .int .i64 0, .int .i64 0, .int .i64 0, .int .i64 0, .slice none 0 0]) 3 rfl Try.isAgg87 Try.sizeOf87 rfl rfl) (RV.tm rfl) ⟨_, _, rfl, rfl, rfl⟩ (by rfl) (.inl rfl)
end Go.Proofs.Ytdlpmcbglmgpiaa.Sl
