/- Printed by g2.py: package cursitorlaw12. -/
import Derived.Test.YtdlpmcbglmgpiaaGb
import Derived.Test.YtdlpmcbglmgpiaaNh
import Derived.Test.YtdlpmcbglmgpiaaPcursitorlaw11
import Derived.Test.YtdlpmcbglmgpiaaPcursitorref08
import Derived.Test.YtdlpmcbglmgpiaaPcursitorref11
import Derived.Test.YtdlpmcbglmgpiaaPmarker
namespace Go.Proofs.Ytdlpmcbglmgpiaa.Sl
open Go.RowKit
set_option linter.unusedVariables false
set_option linter.unusedSimpArgs false
set_option maxRecDepth 100000
def ft_cursitorlaw12 : FTab := [(87, 4, 4), (87, 6, 6), (87, 8, 8), (87, 9, 9), (87, 11, 11), (96, 0, 0)]
theorem ft_cursitorlaw12_ok : (ft_cursitorlaw12).OK Try.prog := ⟨FOK.mk Try.runUnderlying87 rfl Try.sizeOf4 rfl, FOK.mk Try.runUnderlying87 rfl Try.sizeOf3 rfl, FOK.mk Try.runUnderlying87 rfl Try.sizeOf3 rfl, FOK.mk Try.runUnderlying87 rfl Try.sizeOf3 rfl, FOK.mk Try.runUnderlying87 rfl Try.sizeOf85 rfl, FOK.mk Try.runUnderlying96 rfl Try.sizeOf3 rfl, trivial⟩
theorem mix_cursitorlaw12 : Try.prog.follows .mixedOrders = true := by kernel_rfl
theorem flat_cursitorlaw12_90 : Flat Try.prog 2 90 [.int .i64, .int .i64, .int .i64, .int .i64, .int .i64] true := (Flat.struct Try.isAgg90 Try.sizeOf90 rfl Try.underlying90 Try.stoodInHeld90 ⟨by decide, rfl, [.int .i64], [.int .i64, .int .i64, .int .i64, .int .i64], false, rfl, (Flat.one_ Try.isAgg3 Try.sizeOf3 Try.underlying3), ⟨by decide, rfl, [.int .i64], [.int .i64, .int .i64, .int .i64], false, rfl, (Flat.one_ Try.isAgg3 Try.sizeOf3 Try.underlying3), ⟨by decide, rfl, [.int .i64], [.int .i64, .int .i64], false, rfl, (Flat.one_ Try.isAgg3 Try.sizeOf3 Try.underlying3), ⟨by decide, rfl, [.int .i64], [.int .i64], false, rfl, (Flat.one_ Try.isAgg3 Try.sizeOf3 Try.underlying3), ⟨by decide, rfl, [.int .i64], [], false, rfl, (Flat.one_ Try.isAgg3 Try.sizeOf3 Try.underlying3), rfl⟩⟩⟩⟩⟩)
theorem bok_cursitorlaw12_90 : BOK Try.prog 90 #[.int .i64 0, .int .i64 0, .int .i64 0, .int .i64 0, .int .i64 0] [(0, 1), (1, 1), (2, 1), (3, 1), (4, 1)] := BOK.mk Try.zeroValue90 Try.runUnderlying90 (by intro w; simp)
def f_l12_speaks  : Option (Bool) := (f_marker_Batch 3 (-1) (⟨7, 0, 1, 5, 0⟩ : MarkerEnd)).bind fun (x1, x4) => (f_marker_Read x1).bind fun (x7, x8) => (f_marker_Batch 3 (-1) (⟨0, 0, 2, 0, 0⟩ : MarkerEnd)).bind fun (x11, x14) => if x4 = 0 then (if (x1.fRecords.length : Int) = 1 then (if x1.fControl = true then (if x8 = true then (if x7.fProducer = 7 then (if x7.fEpoch = 0 then (if x7.fKind = 1 then (if x7.fTime = 5 then (if x7.fCoordinator = 0 then (if x14 = 12 then some true else some false) else some false) else some false) else some false) else some false) else some false) else some false) else some false) else some false) else some false
set_option maxRecDepth 100000 in
set_option maxHeartbeats 4000000 in
theorem f_l12_speaks_spec  (r : Bool) (h : f_l12_speaks  = some r) : SpecX Try.prog 51 #[] .triv (EmpR) (fun v A' N => v = .bool r ∧ A' = EmpR ∧ N = []) := by
  refine enterA Try.func51 rfl Try.ntmps51 rfl ?_
  intro F w hX
  unfold f_l12_speaks at h
  refine T.seq (T.region rfl ?_)
  refine TL.run ft_cursitorlaw12_ok [0] rfl rfl ?_
  refine TL.nil (X.seq (T.seq (T.region rfl ?_)))
  refine TL.q rfl .u (Ex.bld (cells := #[.int .i64 7, .int .i64 0, .int .i64 1, .int .i64 5, .int .i64 0]) bok_cursitorlaw12_90 rfl (by kernel_rfl)) rfl ?_
  obtain ⟨⟨x1, x4⟩, hx5, h⟩ := Option.bind_eq_some_iff.1 h
  try dsimp only at h
  refine TL.cge rfl .u (.fn Try.call102 rfl) (f_marker_Batch_spec 3 (-1) (⟨7, 0, 1, 5, 0⟩ : MarkerEnd) _ hx5) (fun _ hs => (RX.reads_triv _ _)) rfl ?_
  rintro _ _ _ ⟨A2, c3, rfl, rfl, rfl⟩
  refine TL.sel [0, 0] rfl ?_
  refine TL.run ft_cursitorlaw12_ok [2, 3, 4] rfl rfl ?_
  refine TL.alloc rfl .u Try.zeroValue87 rfl (fun b6 => ?_)
  refine TL.st0 (cs' := #[.int .i64 x1.fBase, .int .i64 x1.fLeader, .bool x1.fAppend, .bool x1.fTxn, .bool x1.fControl, .int .i64 x1.fLast, .int .i64 x1.fFirst, .int .i64 x1.fMax, .int .i64 x1.fProducer, .int .i64 x1.fEpoch, .int .i64 x1.fSequence, .slice A2 x1.fRecords.length c3]) rfl .u rfl rfl Try.sizeOf87 rfl rfl rfl rfl ?_
  refine TL.run ft_cursitorlaw12_ok [7] rfl rfl ?_
  refine TL.nil (X.seq (T.seq (T.region rfl ?_)))
  refine TL.q rfl .u (Ex.bS (us := [.int .i64 x1.fBase, .int .i64 x1.fLeader, .bool x1.fAppend, .bool x1.fTxn, .bool x1.fControl, .int .i64 x1.fLast, .int .i64 x1.fFirst, .int .i64 x1.fMax, .int .i64 x1.fProducer, .int .i64 x1.fEpoch, .int .i64 x1.fSequence, .slice A2 x1.fRecords.length c3]) 0 rfl Try.isAgg87 Try.sizeOf87 rfl rfl rfl) rfl ?_
  obtain ⟨⟨x7, x8⟩, hx9, h⟩ := Option.bind_eq_some_iff.1 h
  try dsimp only at h
  refine TL.ce rfl .u (.fn Try.call53 rfl) (f_marker_Read_spec x1 _ _ _ hx9) (fun _ hs => (SrcE.res 1 hs rfl (fun w G h => rd_reads w G h))) rfl ?_
  refine TL.run ft_cursitorlaw12_ok [2, 3, 4] rfl rfl ?_
  refine TL.alloc rfl .u Try.zeroValue90 rfl (fun b10 => ?_)
  refine TL.st0 (cs' := #[.int .i64 x7.fProducer, .int .i64 x7.fEpoch, .int .i64 x7.fKind, .int .i64 x7.fTime, .int .i64 x7.fCoordinator]) rfl .u rfl rfl Try.sizeOf90 rfl rfl rfl rfl ?_
  refine TL.run ft_cursitorlaw12_ok [7] rfl rfl ?_
  refine TL.nil (X.seq (T.seq (T.region rfl ?_)))
  refine TL.q rfl .u (Ex.bld (cells := #[.int .i64 0, .int .i64 0, .int .i64 2, .int .i64 0, .int .i64 0]) bok_cursitorlaw12_90 rfl (by kernel_rfl)) rfl ?_
  obtain ⟨⟨x11, x14⟩, hx15, h⟩ := Option.bind_eq_some_iff.1 h
  try dsimp only at h
  refine TL.cge rfl .u (.fn Try.call102 rfl) (f_marker_Batch_spec 3 (-1) (⟨0, 0, 2, 0, 0⟩ : MarkerEnd) _ hx15) (fun _ hs => (RX.reads_triv _ _)) rfl ?_
  rintro _ _ _ ⟨A12, c13, rfl, rfl, rfl⟩
  refine TL.sel [0, 0, 0, 0, 0] rfl ?_
  refine TL.run ft_cursitorlaw12_ok [2, 3, 4] rfl rfl ?_
  refine TL.alloc rfl .u Try.zeroValue87 rfl (fun b16 => ?_)
  refine TL.st0 (cs' := #[.int .i64 x11.fBase, .int .i64 x11.fLeader, .bool x11.fAppend, .bool x11.fTxn, .bool x11.fControl, .int .i64 x11.fLast, .int .i64 x11.fFirst, .int .i64 x11.fMax, .int .i64 x11.fProducer, .int .i64 x11.fEpoch, .int .i64 x11.fSequence, .slice A12 x11.fRecords.length c13]) rfl .u rfl rfl Try.sizeOf87 rfl rfl rfl rfl ?_
  refine TL.run ft_cursitorlaw12_ok [7] rfl rfl ?_
  refine TL.nil (X.seq (T.seq (T.region rfl ?_)))
  by_cases c17 : x4 = 0
  · replace h := ifT c17 h
    refine TL.run ft_cursitorlaw12_ok [0, 1, 2] rfl rfl ?_
    refine TL.q rfl (.g rfl rfl (decide_eq_true c17)) (Ex.ft ft_cursitorlaw12_ok rfl) rfl ?_
    refine TL.q rfl (.g rfl rfl (decide_eq_true c17)) (Ex.b1 3 rfl Try.isAgg85 rfl rfl) rfl ?_
    refine TL.q rfl (.g rfl rfl (decide_eq_true c17)) (Ex.lenS rfl Try.runUnderlying85) rfl ?_
    refine TL.q rfl (.g rfl rfl (decide_eq_true c17)) (Ex.ft ft_cursitorlaw12_ok rfl) rfl ?_
    refine TL.q rfl .u (Ex.py rfl (decide_eq_true c17) rfl) rfl ?_
    by_cases c18 : (x1.fRecords.length : Int) = 1
    · replace h := ifT c18 h
      refine TL.run ft_cursitorlaw12_ok [8] rfl rfl ?_
      refine TL.q rfl (.g rfl rfl (decide_eq_true c18)) (Ex.ft ft_cursitorlaw12_ok rfl) rfl ?_
      refine TL.q rfl (.g rfl rfl (decide_eq_true c18)) (Ex.b1 3 rfl Try.isAgg4 rfl rfl) rfl ?_
      refine TL.q rfl .u (Ex.py rfl (decide_eq_true c18) rfl) rfl ?_
      by_cases c19 : x1.fControl = true
      · replace h := ifT c19 h
        refine TL.run ft_cursitorlaw12_ok [12] rfl rfl ?_
        refine TL.q rfl (.g rfl rfl c19) (Ex.ft ft_cursitorlaw12_ok rfl) rfl ?_
        refine TL.q rfl .u (Ex.py rfl c19 rfl) rfl ?_
        by_cases c20 : x8 = true
        · replace h := ifT c20 h
          refine TL.run ft_cursitorlaw12_ok [15] rfl rfl ?_
          refine TL.q rfl (.g rfl rfl c20) (Ex.bS (us := [.int .i64 x7.fProducer, .int .i64 x7.fEpoch, .int .i64 x7.fKind, .int .i64 x7.fTime, .int .i64 x7.fCoordinator]) 2 rfl Try.isAgg90 Try.sizeOf90 rfl rfl rfl) rfl ?_
          refine TL.q rfl (.g rfl rfl c20) (Ex.bld (cells := #[.int .i64 7, .int .i64 0, .int .i64 1, .int .i64 5, .int .i64 0]) bok_cursitorlaw12_90 rfl (by kernel_rfl)) rfl ?_
          by_cases c21 : x7.fProducer = 7
          · replace h := ifT c21 h
            by_cases c22 : x7.fEpoch = 0
            · replace h := ifT c22 h
              by_cases c23 : x7.fKind = 1
              · replace h := ifT c23 h
                by_cases c24 : x7.fTime = 5
                · replace h := ifT c24 h
                  by_cases c25 : x7.fCoordinator = 0
                  · replace h := ifT c25 h
                    refine TL.q rfl (.g rfl rfl c20) (Ex.aEq (us := [.int .i64 x7.fProducer, .int .i64 x7.fEpoch, .int .i64 x7.fKind, .int .i64 x7.fTime, .int .i64 x7.fCoordinator]) (vs := [.int .i64 7, .int .i64 0, .int .i64 1, .int .i64 5, .int .i64 0]) flat_cursitorlaw12_90 rfl Try.eqGuardType90 rfl rfl rfl rfl (eqL_t (eqV_i c21) (eqL_t (eqV_i c22) (eqL_t (eqV_i c23) (eqL_t (eqV_i c24) (eqL_t (eqV_i c25) rfl)))))) rfl ?_
                    refine TL.q rfl .u (Ex.py rfl c20 rfl) rfl ?_
                    refine TL.run ft_cursitorlaw12_ok [20] rfl rfl ?_
                    refine TL.q rfl (.g rfl rfl rfl) (Ex.ft ft_cursitorlaw12_ok rfl) rfl ?_
                    refine TL.q rfl (.g rfl rfl rfl) (Ex.ft ft_cursitorlaw12_ok rfl) rfl ?_
                    refine TL.q rfl .u (Ex.py rfl rfl rfl) rfl ?_
                    refine TL.run ft_cursitorlaw12_ok [24] rfl rfl ?_
                    by_cases c26 : x14 = 12
                    · replace h := ifT c26 h
                      obtain rfl := Option.some.inj h
                      exact TL.nil (X.seq (T.ret (X.done1 [5] Try.results51 (RV.tm (v := .bool true) (congrArg (fun b => some (Value.bool b)) (decide_eq_true c26))) ⟨rfl, rfl, rfl⟩ (by rfl) (.inl rfl))))
                    · replace h := ifF c26 h
                      obtain rfl := Option.some.inj h
                      exact TL.nil (X.seq (T.ret (X.done1 [5] Try.results51 (RV.tm (v := .bool false) (congrArg (fun b => some (Value.bool b)) (decide_eq_false c26))) ⟨rfl, rfl, rfl⟩ (by rfl) (.inl rfl))))
                  · replace h := ifF c25 h
                    refine TL.q rfl (.g rfl rfl c20) (Ex.aEq (us := [.int .i64 x7.fProducer, .int .i64 x7.fEpoch, .int .i64 x7.fKind, .int .i64 x7.fTime, .int .i64 x7.fCoordinator]) (vs := [.int .i64 7, .int .i64 0, .int .i64 1, .int .i64 5, .int .i64 0]) flat_cursitorlaw12_90 rfl Try.eqGuardType90 rfl rfl rfl rfl (eqL_t (eqV_i c21) (eqL_t (eqV_i c22) (eqL_t (eqV_i c23) (eqL_t (eqV_i c24) (eqL_f (eqV_in c25))))))) rfl ?_
                    refine TL.q rfl .u (Ex.py rfl c20 rfl) rfl ?_
                    refine TL.run ft_cursitorlaw12_ok [20] rfl rfl ?_
                    refine TL.no rfl (.gn rfl rfl rfl) rfl ?_
                    refine TL.no rfl (.gn rfl rfl rfl) rfl ?_
                    refine TL.q rfl .u (Ex.pn rfl rfl rfl) rfl ?_
                    refine TL.run ft_cursitorlaw12_ok [24] rfl rfl ?_
                    obtain rfl := Option.some.inj h
                    exact TL.nil (X.seq (T.ret (X.done1 [5] Try.results51 (RV.tm rfl) ⟨rfl, rfl, rfl⟩ (by rfl) (.inl rfl))))
                · replace h := ifF c24 h
                  refine TL.q rfl (.g rfl rfl c20) (Ex.aEq (us := [.int .i64 x7.fProducer, .int .i64 x7.fEpoch, .int .i64 x7.fKind, .int .i64 x7.fTime, .int .i64 x7.fCoordinator]) (vs := [.int .i64 7, .int .i64 0, .int .i64 1, .int .i64 5, .int .i64 0]) flat_cursitorlaw12_90 rfl Try.eqGuardType90 rfl rfl rfl rfl (eqL_t (eqV_i c21) (eqL_t (eqV_i c22) (eqL_t (eqV_i c23) (eqL_f (eqV_in c24)))))) rfl ?_
                  refine TL.q rfl .u (Ex.py rfl c20 rfl) rfl ?_
                  refine TL.run ft_cursitorlaw12_ok [20] rfl rfl ?_
                  refine TL.no rfl (.gn rfl rfl rfl) rfl ?_
                  refine TL.no rfl (.gn rfl rfl rfl) rfl ?_
                  refine TL.q rfl .u (Ex.pn rfl rfl rfl) rfl ?_
                  refine TL.run ft_cursitorlaw12_ok [24] rfl rfl ?_
                  obtain rfl := Option.some.inj h
                  exact TL.nil (X.seq (T.ret (X.done1 [5] Try.results51 (RV.tm rfl) ⟨rfl, rfl, rfl⟩ (by rfl) (.inl rfl))))
              · replace h := ifF c23 h
                refine TL.q rfl (.g rfl rfl c20) (Ex.aEq (us := [.int .i64 x7.fProducer, .int .i64 x7.fEpoch, .int .i64 x7.fKind, .int .i64 x7.fTime, .int .i64 x7.fCoordinator]) (vs := [.int .i64 7, .int .i64 0, .int .i64 1, .int .i64 5, .int .i64 0]) flat_cursitorlaw12_90 rfl Try.eqGuardType90 rfl rfl rfl rfl (eqL_t (eqV_i c21) (eqL_t (eqV_i c22) (eqL_f (eqV_in c23))))) rfl ?_
                refine TL.q rfl .u (Ex.py rfl c20 rfl) rfl ?_
                refine TL.run ft_cursitorlaw12_ok [20] rfl rfl ?_
                refine TL.no rfl (.gn rfl rfl rfl) rfl ?_
                refine TL.no rfl (.gn rfl rfl rfl) rfl ?_
                refine TL.q rfl .u (Ex.pn rfl rfl rfl) rfl ?_
                refine TL.run ft_cursitorlaw12_ok [24] rfl rfl ?_
                obtain rfl := Option.some.inj h
                exact TL.nil (X.seq (T.ret (X.done1 [5] Try.results51 (RV.tm rfl) ⟨rfl, rfl, rfl⟩ (by rfl) (.inl rfl))))
            · replace h := ifF c22 h
              refine TL.q rfl (.g rfl rfl c20) (Ex.aEq (us := [.int .i64 x7.fProducer, .int .i64 x7.fEpoch, .int .i64 x7.fKind, .int .i64 x7.fTime, .int .i64 x7.fCoordinator]) (vs := [.int .i64 7, .int .i64 0, .int .i64 1, .int .i64 5, .int .i64 0]) flat_cursitorlaw12_90 rfl Try.eqGuardType90 rfl rfl rfl rfl (eqL_t (eqV_i c21) (eqL_f (eqV_in c22)))) rfl ?_
              refine TL.q rfl .u (Ex.py rfl c20 rfl) rfl ?_
              refine TL.run ft_cursitorlaw12_ok [20] rfl rfl ?_
              refine TL.no rfl (.gn rfl rfl rfl) rfl ?_
              refine TL.no rfl (.gn rfl rfl rfl) rfl ?_
              refine TL.q rfl .u (Ex.pn rfl rfl rfl) rfl ?_
              refine TL.run ft_cursitorlaw12_ok [24] rfl rfl ?_
              obtain rfl := Option.some.inj h
              exact TL.nil (X.seq (T.ret (X.done1 [5] Try.results51 (RV.tm rfl) ⟨rfl, rfl, rfl⟩ (by rfl) (.inl rfl))))
          · replace h := ifF c21 h
            refine TL.q rfl (.g rfl rfl c20) (Ex.aEq (us := [.int .i64 x7.fProducer, .int .i64 x7.fEpoch, .int .i64 x7.fKind, .int .i64 x7.fTime, .int .i64 x7.fCoordinator]) (vs := [.int .i64 7, .int .i64 0, .int .i64 1, .int .i64 5, .int .i64 0]) flat_cursitorlaw12_90 rfl Try.eqGuardType90 rfl rfl rfl rfl (eqL_f (eqV_in c21))) rfl ?_
            refine TL.q rfl .u (Ex.py rfl c20 rfl) rfl ?_
            refine TL.run ft_cursitorlaw12_ok [20] rfl rfl ?_
            refine TL.no rfl (.gn rfl rfl rfl) rfl ?_
            refine TL.no rfl (.gn rfl rfl rfl) rfl ?_
            refine TL.q rfl .u (Ex.pn rfl rfl rfl) rfl ?_
            refine TL.run ft_cursitorlaw12_ok [24] rfl rfl ?_
            obtain rfl := Option.some.inj h
            exact TL.nil (X.seq (T.ret (X.done1 [5] Try.results51 (RV.tm rfl) ⟨rfl, rfl, rfl⟩ (by rfl) (.inl rfl))))
        · replace h := ifF c20 h
          replace c20 := eq_false_of_ne_true c20
          refine TL.run ft_cursitorlaw12_ok [15] rfl rfl ?_
          refine TL.no rfl (.gn rfl rfl c20) rfl ?_
          refine TL.no rfl (.gn rfl rfl c20) rfl ?_
          refine TL.no rfl (.gn rfl rfl c20) rfl ?_
          refine TL.q rfl .u (Ex.pn rfl c20 rfl) rfl ?_
          refine TL.run ft_cursitorlaw12_ok [20] rfl rfl ?_
          refine TL.no rfl (.gn rfl rfl rfl) rfl ?_
          refine TL.no rfl (.gn rfl rfl rfl) rfl ?_
          refine TL.q rfl .u (Ex.pn rfl rfl rfl) rfl ?_
          refine TL.run ft_cursitorlaw12_ok [24] rfl rfl ?_
          obtain rfl := Option.some.inj h
          exact TL.nil (X.seq (T.ret (X.done1 [5] Try.results51 (RV.tm rfl) ⟨rfl, rfl, rfl⟩ (by rfl) (.inl rfl))))
      · replace h := ifF c19 h
        replace c19 := eq_false_of_ne_true c19
        refine TL.run ft_cursitorlaw12_ok [12] rfl rfl ?_
        refine TL.no rfl (.gn rfl rfl c19) rfl ?_
        refine TL.q rfl .u (Ex.pn rfl c19 rfl) rfl ?_
        refine TL.run ft_cursitorlaw12_ok [15] rfl rfl ?_
        refine TL.no rfl (.gn rfl rfl rfl) rfl ?_
        refine TL.no rfl (.gn rfl rfl rfl) rfl ?_
        refine TL.no rfl (.gn rfl rfl rfl) rfl ?_
        refine TL.q rfl .u (Ex.pn rfl rfl rfl) rfl ?_
        refine TL.run ft_cursitorlaw12_ok [20] rfl rfl ?_
        refine TL.no rfl (.gn rfl rfl rfl) rfl ?_
        refine TL.no rfl (.gn rfl rfl rfl) rfl ?_
        refine TL.q rfl .u (Ex.pn rfl rfl rfl) rfl ?_
        refine TL.run ft_cursitorlaw12_ok [24] rfl rfl ?_
        obtain rfl := Option.some.inj h
        exact TL.nil (X.seq (T.ret (X.done1 [5] Try.results51 (RV.tm rfl) ⟨rfl, rfl, rfl⟩ (by rfl) (.inl rfl))))
    · replace h := ifF c18 h
      refine TL.run ft_cursitorlaw12_ok [8] rfl rfl ?_
      refine TL.no rfl (.gn rfl rfl (decide_eq_false c18)) rfl ?_
      refine TL.no rfl (.gn rfl rfl (decide_eq_false c18)) rfl ?_
      refine TL.q rfl .u (Ex.pn rfl (decide_eq_false c18) rfl) rfl ?_
      refine TL.run ft_cursitorlaw12_ok [12] rfl rfl ?_
      refine TL.no rfl (.gn rfl rfl rfl) rfl ?_
      refine TL.q rfl .u (Ex.pn rfl rfl rfl) rfl ?_
      refine TL.run ft_cursitorlaw12_ok [15] rfl rfl ?_
      refine TL.no rfl (.gn rfl rfl rfl) rfl ?_
      refine TL.no rfl (.gn rfl rfl rfl) rfl ?_
      refine TL.no rfl (.gn rfl rfl rfl) rfl ?_
      refine TL.q rfl .u (Ex.pn rfl rfl rfl) rfl ?_
      refine TL.run ft_cursitorlaw12_ok [20] rfl rfl ?_
      refine TL.no rfl (.gn rfl rfl rfl) rfl ?_
      refine TL.no rfl (.gn rfl rfl rfl) rfl ?_
      refine TL.q rfl .u (Ex.pn rfl rfl rfl) rfl ?_
      refine TL.run ft_cursitorlaw12_ok [24] rfl rfl ?_
      obtain rfl := Option.some.inj h
      exact TL.nil (X.seq (T.ret (X.done1 [5] Try.results51 (RV.tm rfl) ⟨rfl, rfl, rfl⟩ (by rfl) (.inl rfl))))
  · replace h := ifF c17 h
    refine TL.run ft_cursitorlaw12_ok [0, 1, 2] rfl rfl ?_
    refine TL.no rfl (.gn rfl rfl (decide_eq_false c17)) rfl ?_
    refine TL.no rfl (.gn rfl rfl (decide_eq_false c17)) rfl ?_
    refine TL.no rfl (.gn rfl rfl (decide_eq_false c17)) rfl ?_
    refine TL.no rfl (.gn rfl rfl (decide_eq_false c17)) rfl ?_
    refine TL.q rfl .u (Ex.pn rfl (decide_eq_false c17) rfl) rfl ?_
    refine TL.run ft_cursitorlaw12_ok [8] rfl rfl ?_
    refine TL.no rfl (.gn rfl rfl rfl) rfl ?_
    refine TL.no rfl (.gn rfl rfl rfl) rfl ?_
    refine TL.q rfl .u (Ex.pn rfl rfl rfl) rfl ?_
    refine TL.run ft_cursitorlaw12_ok [12] rfl rfl ?_
    refine TL.no rfl (.gn rfl rfl rfl) rfl ?_
    refine TL.q rfl .u (Ex.pn rfl rfl rfl) rfl ?_
    refine TL.run ft_cursitorlaw12_ok [15] rfl rfl ?_
    refine TL.no rfl (.gn rfl rfl rfl) rfl ?_
    refine TL.no rfl (.gn rfl rfl rfl) rfl ?_
    refine TL.no rfl (.gn rfl rfl rfl) rfl ?_
    refine TL.q rfl .u (Ex.pn rfl rfl rfl) rfl ?_
    refine TL.run ft_cursitorlaw12_ok [20] rfl rfl ?_
    refine TL.no rfl (.gn rfl rfl rfl) rfl ?_
    refine TL.no rfl (.gn rfl rfl rfl) rfl ?_
    refine TL.q rfl .u (Ex.pn rfl rfl rfl) rfl ?_
    refine TL.run ft_cursitorlaw12_ok [24] rfl rfl ?_
    obtain rfl := Option.some.inj h
    exact TL.nil (X.seq (T.ret (X.done1 [5] Try.results51 (RV.tm rfl) ⟨rfl, rfl, rfl⟩ (by rfl) (.inl rfl))))
def f_l12_MarkerReads (a0 : Bat) : Option (Bool) := (f_l12_speaks).bind fun x4 => if x4 = true then ((f_l11_Small a0).bind fun x7 => if x7 = 0 then some true else ((f_marker_Read a0).bind fun (x10, x11) => (f_r11_Check a0).bind fun x14 => if x14 = 0 then (if a0.fControl = true then ((a0.fRecords[0]?).bind fun x18 => (f_r08_Read x18).bind fun (x24, x25, x26) => if x11 = true then (if -9223372036854775808 ≤ (a0.fFirst + x18.fTime) ∧ (a0.fFirst + x18.fTime) ≤ 9223372036854775807 then (if x10.fProducer = a0.fProducer then (if x10.fEpoch = a0.fEpoch then (if x10.fKind = x24 then (if x10.fTime = (a0.fFirst + x18.fTime) then (if x10.fCoordinator = x25 then some true else none) else none) else none) else none) else none) else none) else none) else (if x11 = true then none else (if x10.fProducer = 0 then (if x10.fEpoch = 0 then (if x10.fKind = 0 then (if x10.fTime = 0 then (if x10.fCoordinator = 0 then some true else none) else none) else none) else none) else none))) else (if x11 = true then none else (if x10.fProducer = 0 then (if x10.fEpoch = 0 then (if x10.fKind = 0 then (if x10.fTime = 0 then (if x10.fCoordinator = 0 then some true else none) else none) else none) else none) else none)))) else none
set_option maxRecDepth 100000 in
set_option maxHeartbeats 4000000 in
theorem f_l12_MarkerReads_spec (a0 : Bat) (A1 : Option Addr) (c2 : Nat) (r : Bool) (h : f_l12_MarkerReads a0 = some r) : SpecX Try.prog 11 #[.agg #[.int .i64 a0.fBase, .int .i64 a0.fLeader, .bool a0.fAppend, .bool a0.fTxn, .bool a0.fControl, .int .i64 a0.fLast, .int .i64 a0.fFirst, .int .i64 a0.fMax, .int .i64 a0.fProducer, .int .i64 a0.fEpoch, .int .i64 a0.fSequence, .slice A1 a0.fRecords.length c2]] (RX.of (sliceRd 7 Rec_rd) [.slice A1 a0.fRecords.length c2] a0.fRecords) (EmpR) (fun v A' N => v = .bool r ∧ A' = EmpR ∧ N = []) := by
  refine enterA Try.func11 rfl Try.ntmps11 rfl ?_
  intro F w hX
  unfold f_l12_MarkerReads at h
  refine T.seq (T.region rfl ?_)
  refine TL.box rfl .u rfl rfl (fun b3 => ?_)
  refine TL.run ft_cursitorlaw12_ok [1] rfl rfl ?_
  obtain ⟨x4, hx5, h⟩ := Option.bind_eq_some_iff.1 h
  refine TL.nil (X.seq (T.seq (T.seq (T.region rfl ?_))))
  refine TL.ce rfl .u (.fn Try.call51 rfl) (f_l12_speaks_spec _ hx5) (fun _ hs => (RX.reads_triv _ _)) rfl ?_
  refine TL.run ft_cursitorlaw12_ok [1] rfl rfl ?_
  by_cases c6 : x4 = true
  · replace h := ifT c6 h
    refine TL.nil (X.seq ?_)
    refine T.no rfl (bn_f c6) ?_
    refine T.skip (X.seq (T.seq (T.seq (T.region rfl ?_))))
    refine TL.q rfl .u (Ex.bS (us := [.int .i64 a0.fBase, .int .i64 a0.fLeader, .bool a0.fAppend, .bool a0.fTxn, .bool a0.fControl, .int .i64 a0.fLast, .int .i64 a0.fFirst, .int .i64 a0.fMax, .int .i64 a0.fProducer, .int .i64 a0.fEpoch, .int .i64 a0.fSequence, .slice A1 a0.fRecords.length c2]) 0 rfl Try.isAgg87 Try.sizeOf87 rfl rfl rfl) rfl ?_
    obtain ⟨x7, hx8, h⟩ := Option.bind_eq_some_iff.1 h
    refine TL.ce rfl .u (.fn Try.call52 rfl) (f_l11_Small_spec a0 _ _ _ hx8) (fun _ hs => (SrcE.old hs hX)) rfl ?_
    refine TL.run ft_cursitorlaw12_ok [2] rfl rfl ?_
    by_cases c9 : x7 = 0
    · replace h := ifT c9 h
      refine TL.nil (X.seq ?_)
      refine T.yes rfl (decide_eq_true c9) ?_
      refine T.seq (T.region rfl ?_)
      refine TL.run ft_cursitorlaw12_ok [0] rfl rfl ?_
      obtain rfl := Option.some.inj h
      exact TL.nil (X.seq (T.ret (X.rs (X.done1 [1] Try.results11 (RV.tm rfl) ⟨rfl, rfl, rfl⟩ (by rfl) (.inl rfl)))))
    · replace h := ifF c9 h
      refine TL.nil (X.seq ?_)
      refine T.no rfl (decide_eq_false c9) ?_
      refine T.skip (X.seq (T.seq (T.region rfl ?_)))
      refine TL.q rfl .u (Ex.bS (us := [.int .i64 a0.fBase, .int .i64 a0.fLeader, .bool a0.fAppend, .bool a0.fTxn, .bool a0.fControl, .int .i64 a0.fLast, .int .i64 a0.fFirst, .int .i64 a0.fMax, .int .i64 a0.fProducer, .int .i64 a0.fEpoch, .int .i64 a0.fSequence, .slice A1 a0.fRecords.length c2]) 0 rfl Try.isAgg87 Try.sizeOf87 rfl rfl rfl) rfl ?_
      obtain ⟨⟨x10, x11⟩, hx12, h⟩ := Option.bind_eq_some_iff.1 h
      try dsimp only at h
      refine TL.ce rfl .u (.fn Try.call53 rfl) (f_marker_Read_spec a0 _ _ _ hx12) (fun _ hs => (SrcE.old hs hX)) rfl ?_
      refine TL.run ft_cursitorlaw12_ok [2, 3, 4] rfl rfl ?_
      refine TL.alloc rfl .u Try.zeroValue90 rfl (fun b13 => ?_)
      refine TL.st0 (cs' := #[.int .i64 x10.fProducer, .int .i64 x10.fEpoch, .int .i64 x10.fKind, .int .i64 x10.fTime, .int .i64 x10.fCoordinator]) rfl .u rfl rfl Try.sizeOf90 rfl rfl rfl rfl ?_
      refine TL.run ft_cursitorlaw12_ok [7] rfl rfl ?_
      refine TL.nil (X.seq (T.seq (T.seq (T.region rfl ?_))))
      refine TL.q rfl .u (Ex.bS (us := [.int .i64 a0.fBase, .int .i64 a0.fLeader, .bool a0.fAppend, .bool a0.fTxn, .bool a0.fControl, .int .i64 a0.fLast, .int .i64 a0.fFirst, .int .i64 a0.fMax, .int .i64 a0.fProducer, .int .i64 a0.fEpoch, .int .i64 a0.fSequence, .slice A1 a0.fRecords.length c2]) 1 rfl Try.isAgg87 Try.sizeOf87 rfl rfl rfl) rfl ?_
      obtain ⟨x14, hx15, h⟩ := Option.bind_eq_some_iff.1 h
      refine TL.ce rfl .u (.fn Try.call54 rfl) (f_r11_Check_spec a0 _ _ _ hx15) (fun _ hs => (SrcE.old hs hX)) rfl ?_
      by_cases c16 : x14 = 0
      · replace h := ifT c16 h
        refine TL.run ft_cursitorlaw12_ok [2, 3] rfl rfl ?_
        refine TL.q rfl (.g rfl rfl (bn_f (decide_eq_true c16))) (Ex.ft ft_cursitorlaw12_ok rfl) rfl ?_
        refine TL.q rfl (.g rfl rfl (bn_f (decide_eq_true c16))) (Ex.b1 1 rfl Try.isAgg4 rfl rfl) rfl ?_
        refine TL.q rfl (.g rfl rfl (bn_f (decide_eq_true c16))) (Ex.ft ft_cursitorlaw12_ok rfl) rfl ?_
        refine TL.q rfl .u (Ex.pn rfl (bn_f (decide_eq_true c16)) rfl) rfl ?_
        by_cases c17 : a0.fControl = true
        · replace h := ifT c17 h
          refine TL.nil (X.seq ?_)
          refine T.no rfl (bn_f c17) ?_
          refine T.skip (X.seq (T.seq (T.region rfl ?_)))
          refine TL.run ft_cursitorlaw12_ok [0] rfl rfl ?_
          refine TL.q rfl .u (Ex.b1 1 rfl Try.isAgg85 rfl rfl) rfl ?_
          obtain ⟨x18, hx19, h⟩ := Option.bind_eq_some_iff.1 h
          obtain ⟨gz20, oz20, rfl, z20cs, z20cl, z20cc, z20nf, z20r⟩ := RX.elem (by decide) hX hx19
          obtain ⟨z20S, z20r, z20rr⟩ := z20r
          obtain ⟨A21, c22, rfl, z20s0⟩ := z20r
          have hX23 : (RX.of (sliceRd 3 Hd_rd) [.slice A21 x18.fHeaders.length c22] x18.fHeaders).reads w F := ⟨z20S, z20s0, z20rr⟩
          refine TL.q rfl .u (Ex.ixS (k := 0) rfl rfl rfl Try.runUnderlying85 Try.sizeOf96 (List.getElem?_eq_some_iff.1 hx19).1) rfl ?_
          refine TL.q rfl .u (Ex.oS (us := [.int .i64 x18.fTime, .int .i64 x18.fOffset, .bool x18.fKey.null, .string (bsOf x18.fKey.data), .bool x18.fValue.null, .string (bsOf x18.fValue.data), .slice A21 x18.fHeaders.length c22]) 0 rfl Try.isAgg96 Try.sizeOf96 z20nf z20cc rfl rfl rfl) rfl ?_
          obtain ⟨⟨x24, x25, x26⟩, hx27, h⟩ := Option.bind_eq_some_iff.1 h
          try dsimp only at h
          refine TL.ce rfl .u (.fn Try.call55 rfl) (f_r08_Read_spec x18 _ _ _ hx27) (fun _ hs => (SrcE.old hs hX23)) rfl ?_
          refine TL.run ft_cursitorlaw12_ok [5, 6, 7, 8, 9, 10, 11] rfl rfl ?_
          refine TL.nil (X.seq (T.seq (T.draw (.q 0 (.q 1 (.q 2 (.q 3 (.q 4 (.q 5 (.q 6 (.q 7 (.q 8 (.q 9 (.q 10 (.q 11 (.q 12 (.q 13 (.q 14 (.q 15 (.q 16 (.q 17 (.q 18 (.q 19 (.q 20 .nil))))))))))))))))))))) [0, 0, 0] rfl mix_cursitorlaw12 (NoP.seq np_post) (by kernel_rfl) ?_)))
          by_cases c28 : x11 = true
          · replace h := ifT c28 h
            refine TD.run ft_cursitorlaw12_ok [0, 1] rfl rfl ?_
            refine TD.q rfl (.g rfl rfl c28) (Ex.bS (us := [.int .i64 x10.fProducer, .int .i64 x10.fEpoch, .int .i64 x10.fKind, .int .i64 x10.fTime, .int .i64 x10.fCoordinator]) 0 rfl Try.isAgg90 Try.sizeOf90 rfl rfl rfl) rfl ?_
            refine TD.q rfl (.g rfl rfl c28) (Ex.ft ft_cursitorlaw12_ok rfl) rfl ?_
            refine TD.q rfl (.g rfl rfl c28) (Ex.b1 1 rfl Try.isAgg3 rfl rfl) rfl ?_
            refine TD.q rfl (.g rfl rfl c28) (Ex.ft ft_cursitorlaw12_ok rfl) rfl ?_
            refine TD.q rfl (.g rfl rfl c28) (Ex.b1 1 rfl Try.isAgg3 rfl rfl) rfl ?_
            refine TD.q rfl (.g rfl rfl c28) (Ex.ft ft_cursitorlaw12_ok rfl) rfl ?_
            refine TD.q rfl (.g rfl rfl c28) (Ex.ft ft_cursitorlaw12_ok rfl) rfl ?_
            refine TD.q rfl (.g rfl rfl c28) (Ex.b1 1 rfl Try.isAgg3 rfl rfl) rfl ?_
            refine TD.q rfl (.g rfl rfl c28) (Ex.ft ft_cursitorlaw12_ok rfl) rfl ?_
            refine TD.q rfl (.g rfl rfl c28) (Ex.b1 1 rfl Try.isAgg85 rfl rfl) rfl ?_
            refine TD.q rfl (.g rfl rfl c28) (Ex.ixS (k := 0) rfl rfl rfl Try.runUnderlying85 Try.sizeOf96 (List.getElem?_eq_some_iff.1 hx19).1) rfl ?_
            refine TD.q rfl (.g rfl rfl c28) (Ex.ft ft_cursitorlaw12_ok rfl) rfl ?_
            refine TD.q rfl (.g rfl rfl c28) (Ex.o1 0 rfl Try.isAgg3 z20nf z20cc rfl rfl) rfl ?_
            replace h := guard_some h
            obtain ⟨c29, h⟩ := h
            refine TD.q rfl (.g rfl rfl c28) (Ex.add rfl rfl c29) rfl ?_
            refine TD.q rfl (.g rfl rfl c28) (Ex.ft ft_cursitorlaw12_ok rfl) rfl ?_
            refine TD.q rfl (.g rfl rfl c28) (Ex.bld (cells := #[.int .i64 a0.fProducer, .int .i64 a0.fEpoch, .int .i64 x24, .int .i64 (a0.fFirst + x18.fTime), .int .i64 x25]) bok_cursitorlaw12_90 rfl (by kernel_rfl)) rfl ?_
            by_cases c30 : x10.fProducer = a0.fProducer
            · replace h := ifT c30 h
              by_cases c31 : x10.fEpoch = a0.fEpoch
              · replace h := ifT c31 h
                by_cases c32 : x10.fKind = x24
                · replace h := ifT c32 h
                  by_cases c33 : x10.fTime = (a0.fFirst + x18.fTime)
                  · replace h := ifT c33 h
                    by_cases c34 : x10.fCoordinator = x25
                    · replace h := ifT c34 h
                      refine TD.q rfl (.g rfl rfl c28) (Ex.aEq (us := [.int .i64 x10.fProducer, .int .i64 x10.fEpoch, .int .i64 x10.fKind, .int .i64 x10.fTime, .int .i64 x10.fCoordinator]) (vs := [.int .i64 a0.fProducer, .int .i64 a0.fEpoch, .int .i64 x24, .int .i64 (a0.fFirst + x18.fTime), .int .i64 x25]) flat_cursitorlaw12_90 rfl Try.eqGuardType90 rfl rfl rfl rfl (eqL_t (eqV_i c30) (eqL_t (eqV_i c31) (eqL_t (eqV_i c32) (eqL_t (eqV_i c33) (eqL_t (eqV_i c34) rfl)))))) rfl ?_
                      refine TD.q rfl .u (Ex.py rfl c28 rfl) rfl ?_
                      refine TD.run ft_cursitorlaw12_ok [20] rfl rfl ?_
                      obtain rfl := Option.some.inj h
                      exact TD.nil (X.seq (T.ret (X.done1 [2] Try.results11 (RV.tm rfl) ⟨rfl, rfl, rfl⟩ (by rfl) (.inl rfl))))
                    · replace h := ifF c34 h
                      refine TD.q rfl (.g rfl rfl c28) (Ex.aEq (us := [.int .i64 x10.fProducer, .int .i64 x10.fEpoch, .int .i64 x10.fKind, .int .i64 x10.fTime, .int .i64 x10.fCoordinator]) (vs := [.int .i64 a0.fProducer, .int .i64 a0.fEpoch, .int .i64 x24, .int .i64 (a0.fFirst + x18.fTime), .int .i64 x25]) flat_cursitorlaw12_90 rfl Try.eqGuardType90 rfl rfl rfl rfl (eqL_t (eqV_i c30) (eqL_t (eqV_i c31) (eqL_t (eqV_i c32) (eqL_t (eqV_i c33) (eqL_f (eqV_in c34))))))) rfl ?_
                      exact nomatch h
                  · replace h := ifF c33 h
                    refine TD.q rfl (.g rfl rfl c28) (Ex.aEq (us := [.int .i64 x10.fProducer, .int .i64 x10.fEpoch, .int .i64 x10.fKind, .int .i64 x10.fTime, .int .i64 x10.fCoordinator]) (vs := [.int .i64 a0.fProducer, .int .i64 a0.fEpoch, .int .i64 x24, .int .i64 (a0.fFirst + x18.fTime), .int .i64 x25]) flat_cursitorlaw12_90 rfl Try.eqGuardType90 rfl rfl rfl rfl (eqL_t (eqV_i c30) (eqL_t (eqV_i c31) (eqL_t (eqV_i c32) (eqL_f (eqV_in c33)))))) rfl ?_
                    exact nomatch h
                · replace h := ifF c32 h
                  refine TD.q rfl (.g rfl rfl c28) (Ex.aEq (us := [.int .i64 x10.fProducer, .int .i64 x10.fEpoch, .int .i64 x10.fKind, .int .i64 x10.fTime, .int .i64 x10.fCoordinator]) (vs := [.int .i64 a0.fProducer, .int .i64 a0.fEpoch, .int .i64 x24, .int .i64 (a0.fFirst + x18.fTime), .int .i64 x25]) flat_cursitorlaw12_90 rfl Try.eqGuardType90 rfl rfl rfl rfl (eqL_t (eqV_i c30) (eqL_t (eqV_i c31) (eqL_f (eqV_in c32))))) rfl ?_
                  exact nomatch h
              · replace h := ifF c31 h
                refine TD.q rfl (.g rfl rfl c28) (Ex.aEq (us := [.int .i64 x10.fProducer, .int .i64 x10.fEpoch, .int .i64 x10.fKind, .int .i64 x10.fTime, .int .i64 x10.fCoordinator]) (vs := [.int .i64 a0.fProducer, .int .i64 a0.fEpoch, .int .i64 x24, .int .i64 (a0.fFirst + x18.fTime), .int .i64 x25]) flat_cursitorlaw12_90 rfl Try.eqGuardType90 rfl rfl rfl rfl (eqL_t (eqV_i c30) (eqL_f (eqV_in c31)))) rfl ?_
                exact nomatch h
            · replace h := ifF c30 h
              refine TD.q rfl (.g rfl rfl c28) (Ex.aEq (us := [.int .i64 x10.fProducer, .int .i64 x10.fEpoch, .int .i64 x10.fKind, .int .i64 x10.fTime, .int .i64 x10.fCoordinator]) (vs := [.int .i64 a0.fProducer, .int .i64 a0.fEpoch, .int .i64 x24, .int .i64 (a0.fFirst + x18.fTime), .int .i64 x25]) flat_cursitorlaw12_90 rfl Try.eqGuardType90 rfl rfl rfl rfl (eqL_f (eqV_in c30))) rfl ?_
              exact nomatch h
          · replace h := ifF c28 h
            replace c28 := eq_false_of_ne_true c28
            refine TD.run ft_cursitorlaw12_ok [0, 1] rfl rfl ?_
            refine TD.no rfl (.gn rfl rfl c28) rfl ?_
            refine TD.no rfl (.gn rfl rfl c28) rfl ?_
            refine TD.no rfl (.gn rfl rfl c28) rfl ?_
            refine TD.no rfl (.gn rfl rfl c28) rfl ?_
            refine TD.no rfl (.gn rfl rfl c28) rfl ?_
            refine TD.no rfl (.gn rfl rfl c28) rfl ?_
            refine TD.no rfl (.gn rfl rfl c28) rfl ?_
            refine TD.no rfl (.gn rfl rfl c28) rfl ?_
            refine TD.no rfl (.gn rfl rfl c28) rfl ?_
            refine TD.no rfl (.gn rfl rfl c28) rfl ?_
            refine TD.no rfl (.gn rfl rfl c28) rfl ?_
            refine TD.no rfl (.gn rfl rfl c28) rfl ?_
            refine TD.no rfl (.gn rfl rfl c28) rfl ?_
            refine TD.no rfl (.gn rfl rfl c28) rfl ?_
            refine TD.no rfl (.gn rfl rfl c28) rfl ?_
            refine TD.no rfl (.gn rfl rfl c28) rfl ?_
            refine TD.no rfl (.gn rfl rfl c28) rfl ?_
            exact nomatch h
        · replace h := ifF c17 h
          replace c17 := eq_false_of_ne_true c17
          refine TL.nil (X.seq ?_)
          refine T.yes rfl (bn_t c17) ?_
          refine T.seq (T.region rfl ?_)
          by_cases c35 : x11 = true
          · replace h := ifT c35 h
            refine TL.run ft_cursitorlaw12_ok [0, 1, 2] rfl rfl ?_
            refine TL.no rfl (.gn rfl rfl (bn_f c35)) rfl ?_
            refine TL.no rfl (.gn rfl rfl (bn_f c35)) rfl ?_
            refine TL.no rfl (.gn rfl rfl (bn_f c35)) rfl ?_
            exact nomatch h
          · replace h := ifF c35 h
            replace c35 := eq_false_of_ne_true c35
            refine TL.run ft_cursitorlaw12_ok [0, 1, 2] rfl rfl ?_
            refine TL.q rfl (.g rfl rfl (bn_t c35)) (Ex.bS (us := [.int .i64 x10.fProducer, .int .i64 x10.fEpoch, .int .i64 x10.fKind, .int .i64 x10.fTime, .int .i64 x10.fCoordinator]) 0 rfl Try.isAgg90 Try.sizeOf90 rfl rfl rfl) rfl ?_
            refine TL.q rfl (.g rfl rfl (bn_t c35)) (Ex.bld (cells := #[.int .i64 0, .int .i64 0, .int .i64 0, .int .i64 0, .int .i64 0]) bok_cursitorlaw12_90 rfl (by kernel_rfl)) rfl ?_
            by_cases c36 : x10.fProducer = 0
            · replace h := ifT c36 h
              by_cases c37 : x10.fEpoch = 0
              · replace h := ifT c37 h
                by_cases c38 : x10.fKind = 0
                · replace h := ifT c38 h
                  by_cases c39 : x10.fTime = 0
                  · replace h := ifT c39 h
                    by_cases c40 : x10.fCoordinator = 0
                    · replace h := ifT c40 h
                      refine TL.q rfl (.g rfl rfl (bn_t c35)) (Ex.aEq (us := [.int .i64 x10.fProducer, .int .i64 x10.fEpoch, .int .i64 x10.fKind, .int .i64 x10.fTime, .int .i64 x10.fCoordinator]) (vs := [.int .i64 0, .int .i64 0, .int .i64 0, .int .i64 0, .int .i64 0]) flat_cursitorlaw12_90 rfl Try.eqGuardType90 rfl rfl rfl rfl (eqL_t (eqV_i c36) (eqL_t (eqV_i c37) (eqL_t (eqV_i c38) (eqL_t (eqV_i c39) (eqL_t (eqV_i c40) rfl)))))) rfl ?_
                      refine TL.q rfl .u (Ex.py rfl (bn_t c35) rfl) rfl ?_
                      refine TL.run ft_cursitorlaw12_ok [7] rfl rfl ?_
                      obtain rfl := Option.some.inj h
                      exact TL.nil (X.seq (T.ret (X.rs (X.done1 [2] Try.results11 (RV.tm rfl) ⟨rfl, rfl, rfl⟩ (by rfl) (.inl rfl)))))
                    · replace h := ifF c40 h
                      refine TL.q rfl (.g rfl rfl (bn_t c35)) (Ex.aEq (us := [.int .i64 x10.fProducer, .int .i64 x10.fEpoch, .int .i64 x10.fKind, .int .i64 x10.fTime, .int .i64 x10.fCoordinator]) (vs := [.int .i64 0, .int .i64 0, .int .i64 0, .int .i64 0, .int .i64 0]) flat_cursitorlaw12_90 rfl Try.eqGuardType90 rfl rfl rfl rfl (eqL_t (eqV_i c36) (eqL_t (eqV_i c37) (eqL_t (eqV_i c38) (eqL_t (eqV_i c39) (eqL_f (eqV_in c40))))))) rfl ?_
                      exact nomatch h
                  · replace h := ifF c39 h
                    refine TL.q rfl (.g rfl rfl (bn_t c35)) (Ex.aEq (us := [.int .i64 x10.fProducer, .int .i64 x10.fEpoch, .int .i64 x10.fKind, .int .i64 x10.fTime, .int .i64 x10.fCoordinator]) (vs := [.int .i64 0, .int .i64 0, .int .i64 0, .int .i64 0, .int .i64 0]) flat_cursitorlaw12_90 rfl Try.eqGuardType90 rfl rfl rfl rfl (eqL_t (eqV_i c36) (eqL_t (eqV_i c37) (eqL_t (eqV_i c38) (eqL_f (eqV_in c39)))))) rfl ?_
                    exact nomatch h
                · replace h := ifF c38 h
                  refine TL.q rfl (.g rfl rfl (bn_t c35)) (Ex.aEq (us := [.int .i64 x10.fProducer, .int .i64 x10.fEpoch, .int .i64 x10.fKind, .int .i64 x10.fTime, .int .i64 x10.fCoordinator]) (vs := [.int .i64 0, .int .i64 0, .int .i64 0, .int .i64 0, .int .i64 0]) flat_cursitorlaw12_90 rfl Try.eqGuardType90 rfl rfl rfl rfl (eqL_t (eqV_i c36) (eqL_t (eqV_i c37) (eqL_f (eqV_in c38))))) rfl ?_
                  exact nomatch h
              · replace h := ifF c37 h
                refine TL.q rfl (.g rfl rfl (bn_t c35)) (Ex.aEq (us := [.int .i64 x10.fProducer, .int .i64 x10.fEpoch, .int .i64 x10.fKind, .int .i64 x10.fTime, .int .i64 x10.fCoordinator]) (vs := [.int .i64 0, .int .i64 0, .int .i64 0, .int .i64 0, .int .i64 0]) flat_cursitorlaw12_90 rfl Try.eqGuardType90 rfl rfl rfl rfl (eqL_t (eqV_i c36) (eqL_f (eqV_in c37)))) rfl ?_
                exact nomatch h
            · replace h := ifF c36 h
              refine TL.q rfl (.g rfl rfl (bn_t c35)) (Ex.aEq (us := [.int .i64 x10.fProducer, .int .i64 x10.fEpoch, .int .i64 x10.fKind, .int .i64 x10.fTime, .int .i64 x10.fCoordinator]) (vs := [.int .i64 0, .int .i64 0, .int .i64 0, .int .i64 0, .int .i64 0]) flat_cursitorlaw12_90 rfl Try.eqGuardType90 rfl rfl rfl rfl (eqL_f (eqV_in c36))) rfl ?_
              exact nomatch h
      · replace h := ifF c16 h
        refine TL.run ft_cursitorlaw12_ok [2, 3] rfl rfl ?_
        refine TL.no rfl (.gn rfl rfl (bn_t (decide_eq_false c16))) rfl ?_
        refine TL.no rfl (.gn rfl rfl (bn_t (decide_eq_false c16))) rfl ?_
        refine TL.no rfl (.gn rfl rfl (bn_t (decide_eq_false c16))) rfl ?_
        refine TL.q rfl .u (Ex.py rfl (bn_t (decide_eq_false c16)) rfl) rfl ?_
        refine TL.nil (X.seq ?_)
        refine T.yes rfl rfl ?_
        refine T.seq (T.region rfl ?_)
        by_cases c41 : x11 = true
        · replace h := ifT c41 h
          refine TL.run ft_cursitorlaw12_ok [0, 1, 2] rfl rfl ?_
          refine TL.no rfl (.gn rfl rfl (bn_f c41)) rfl ?_
          refine TL.no rfl (.gn rfl rfl (bn_f c41)) rfl ?_
          refine TL.no rfl (.gn rfl rfl (bn_f c41)) rfl ?_
          exact nomatch h
        · replace h := ifF c41 h
          replace c41 := eq_false_of_ne_true c41
          refine TL.run ft_cursitorlaw12_ok [0, 1, 2] rfl rfl ?_
          refine TL.q rfl (.g rfl rfl (bn_t c41)) (Ex.bS (us := [.int .i64 x10.fProducer, .int .i64 x10.fEpoch, .int .i64 x10.fKind, .int .i64 x10.fTime, .int .i64 x10.fCoordinator]) 0 rfl Try.isAgg90 Try.sizeOf90 rfl rfl rfl) rfl ?_
          refine TL.q rfl (.g rfl rfl (bn_t c41)) (Ex.bld (cells := #[.int .i64 0, .int .i64 0, .int .i64 0, .int .i64 0, .int .i64 0]) bok_cursitorlaw12_90 rfl (by kernel_rfl)) rfl ?_
          by_cases c42 : x10.fProducer = 0
          · replace h := ifT c42 h
            by_cases c43 : x10.fEpoch = 0
            · replace h := ifT c43 h
              by_cases c44 : x10.fKind = 0
              · replace h := ifT c44 h
                by_cases c45 : x10.fTime = 0
                · replace h := ifT c45 h
                  by_cases c46 : x10.fCoordinator = 0
                  · replace h := ifT c46 h
                    refine TL.q rfl (.g rfl rfl (bn_t c41)) (Ex.aEq (us := [.int .i64 x10.fProducer, .int .i64 x10.fEpoch, .int .i64 x10.fKind, .int .i64 x10.fTime, .int .i64 x10.fCoordinator]) (vs := [.int .i64 0, .int .i64 0, .int .i64 0, .int .i64 0, .int .i64 0]) flat_cursitorlaw12_90 rfl Try.eqGuardType90 rfl rfl rfl rfl (eqL_t (eqV_i c42) (eqL_t (eqV_i c43) (eqL_t (eqV_i c44) (eqL_t (eqV_i c45) (eqL_t (eqV_i c46) rfl)))))) rfl ?_
                    refine TL.q rfl .u (Ex.py rfl (bn_t c41) rfl) rfl ?_
                    refine TL.run ft_cursitorlaw12_ok [7] rfl rfl ?_
                    obtain rfl := Option.some.inj h
                    exact TL.nil (X.seq (T.ret (X.rs (X.done1 [2] Try.results11 (RV.tm rfl) ⟨rfl, rfl, rfl⟩ (by rfl) (.inl rfl)))))
                  · replace h := ifF c46 h
                    refine TL.q rfl (.g rfl rfl (bn_t c41)) (Ex.aEq (us := [.int .i64 x10.fProducer, .int .i64 x10.fEpoch, .int .i64 x10.fKind, .int .i64 x10.fTime, .int .i64 x10.fCoordinator]) (vs := [.int .i64 0, .int .i64 0, .int .i64 0, .int .i64 0, .int .i64 0]) flat_cursitorlaw12_90 rfl Try.eqGuardType90 rfl rfl rfl rfl (eqL_t (eqV_i c42) (eqL_t (eqV_i c43) (eqL_t (eqV_i c44) (eqL_t (eqV_i c45) (eqL_f (eqV_in c46))))))) rfl ?_
                    exact nomatch h
                · replace h := ifF c45 h
                  refine TL.q rfl (.g rfl rfl (bn_t c41)) (Ex.aEq (us := [.int .i64 x10.fProducer, .int .i64 x10.fEpoch, .int .i64 x10.fKind, .int .i64 x10.fTime, .int .i64 x10.fCoordinator]) (vs := [.int .i64 0, .int .i64 0, .int .i64 0, .int .i64 0, .int .i64 0]) flat_cursitorlaw12_90 rfl Try.eqGuardType90 rfl rfl rfl rfl (eqL_t (eqV_i c42) (eqL_t (eqV_i c43) (eqL_t (eqV_i c44) (eqL_f (eqV_in c45)))))) rfl ?_
                  exact nomatch h
              · replace h := ifF c44 h
                refine TL.q rfl (.g rfl rfl (bn_t c41)) (Ex.aEq (us := [.int .i64 x10.fProducer, .int .i64 x10.fEpoch, .int .i64 x10.fKind, .int .i64 x10.fTime, .int .i64 x10.fCoordinator]) (vs := [.int .i64 0, .int .i64 0, .int .i64 0, .int .i64 0, .int .i64 0]) flat_cursitorlaw12_90 rfl Try.eqGuardType90 rfl rfl rfl rfl (eqL_t (eqV_i c42) (eqL_t (eqV_i c43) (eqL_f (eqV_in c44))))) rfl ?_
                exact nomatch h
            · replace h := ifF c43 h
              refine TL.q rfl (.g rfl rfl (bn_t c41)) (Ex.aEq (us := [.int .i64 x10.fProducer, .int .i64 x10.fEpoch, .int .i64 x10.fKind, .int .i64 x10.fTime, .int .i64 x10.fCoordinator]) (vs := [.int .i64 0, .int .i64 0, .int .i64 0, .int .i64 0, .int .i64 0]) flat_cursitorlaw12_90 rfl Try.eqGuardType90 rfl rfl rfl rfl (eqL_t (eqV_i c42) (eqL_f (eqV_in c43)))) rfl ?_
              exact nomatch h
          · replace h := ifF c42 h
            refine TL.q rfl (.g rfl rfl (bn_t c41)) (Ex.aEq (us := [.int .i64 x10.fProducer, .int .i64 x10.fEpoch, .int .i64 x10.fKind, .int .i64 x10.fTime, .int .i64 x10.fCoordinator]) (vs := [.int .i64 0, .int .i64 0, .int .i64 0, .int .i64 0, .int .i64 0]) flat_cursitorlaw12_90 rfl Try.eqGuardType90 rfl rfl rfl rfl (eqL_f (eqV_in c42))) rfl ?_
            exact nomatch h
  · replace h := ifF c6 h
    replace c6 := eq_false_of_ne_true c6
    refine TL.nil (X.seq ?_)
    refine T.yes rfl (bn_t c6) ?_
    exact nomatch h
end Go.Proofs.Ytdlpmcbglmgpiaa.Sl
