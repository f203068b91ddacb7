/- Printed by g2.py: package batch. -/
import Derived.Test.YtdlpmcbglmgpiaaGb
import Derived.Test.YtdlpmcbglmgpiaaNh
import Derived.Test.YtdlpmcbglmgpiaaPcontrol
import Derived.Test.YtdlpmcbglmgpiaaPrecord
namespace Go.Proofs.Ytdlpmcbglmgpiaa.Sl
open Go.RowKit
set_option linter.unusedVariables false
set_option linter.unusedSimpArgs false
set_option maxRecDepth 100000
def ft_batch : FTab := [(87, 0, 0), (87, 1, 1), (87, 2, 2), (87, 3, 3), (87, 4, 4), (87, 5, 5), (87, 6, 6), (87, 7, 7), (87, 8, 8), (87, 9, 9), (87, 10, 10), (87, 11, 11), (96, 0, 0), (96, 1, 1)]
theorem ft_batch_ok : (ft_batch).OK Try.prog := ⟨FOK.mk Try.runUnderlying87 rfl Try.sizeOf3 rfl, FOK.mk Try.runUnderlying87 rfl Try.sizeOf3 rfl, FOK.mk Try.runUnderlying87 rfl Try.sizeOf4 rfl, FOK.mk Try.runUnderlying87 rfl Try.sizeOf4 rfl, FOK.mk Try.runUnderlying87 rfl Try.sizeOf4 rfl, FOK.mk Try.runUnderlying87 rfl Try.sizeOf3 rfl, FOK.mk Try.runUnderlying87 rfl Try.sizeOf3 rfl, FOK.mk Try.runUnderlying87 rfl Try.sizeOf3 rfl, FOK.mk Try.runUnderlying87 rfl Try.sizeOf3 rfl, FOK.mk Try.runUnderlying87 rfl Try.sizeOf3 rfl, FOK.mk Try.runUnderlying87 rfl Try.sizeOf3 rfl, FOK.mk Try.runUnderlying87 rfl Try.sizeOf85 rfl, FOK.mk Try.runUnderlying96 rfl Try.sizeOf3 rfl, FOK.mk Try.runUnderlying96 rfl Try.sizeOf3 rfl, trivial⟩
theorem mix_batch : Try.prog.follows .mixedOrders = true := by kernel_rfl
def f_batch_numbers (a0 : Bat) : Option (Bool) := if a0.fBase ≥ 0 then (if a0.fLeader ≥ (-1) then ((gFits a0.fLeader 4).bind fun x6 => if x6 = true then (if a0.fLast ≥ 0 then ((gFits a0.fLast 4).bind fun x10 => if x10 = true then (if (IntKind.i64.wrap (a0.fBase + a0.fLast)) ≥ 0 then (if a0.fFirst ≥ 0 then (if a0.fMax ≥ 0 then some true else some false) else some false) else some false) else some false) else some false) else some false) else some false) else some false
set_option maxRecDepth 100000 in
set_option maxHeartbeats 4000000 in
theorem f_batch_numbers_spec (a0 : Bat) (A1 : Option Addr) (c2 : Nat) (r : Bool) (h : f_batch_numbers a0 = some r) : SpecX Try.prog 140 #[.agg #[.int .i64 a0.fBase, .int .i64 a0.fLeader, .bool a0.fAppend, .bool a0.fTxn, .bool a0.fControl, .int .i64 a0.fLast, .int .i64 a0.fFirst, .int .i64 a0.fMax, .int .i64 a0.fProducer, .int .i64 a0.fEpoch, .int .i64 a0.fSequence, .slice A1 a0.fRecords.length c2]] (RX.of (sliceRd 7 Rec_rd) [.slice A1 a0.fRecords.length c2] a0.fRecords) (EmpR) (fun v A' N => v = .bool r ∧ A' = EmpR ∧ N = []) := by
  refine enterA Try.func140 rfl Try.ntmps140 rfl ?_
  intro F w hX
  unfold f_batch_numbers at h
  refine T.seq (T.region rfl ?_)
  refine TL.box rfl .u rfl rfl (fun b3 => ?_)
  refine TL.run ft_batch_ok [1] rfl rfl ?_
  refine TL.nil (X.seq (T.seq (T.region rfl ?_)))
  refine TL.run ft_batch_ok [0] rfl rfl ?_
  refine TL.q rfl .u (Ex.b1 0 rfl Try.isAgg3 rfl rfl) rfl ?_
  by_cases c4 : a0.fBase ≥ 0
  · replace h := ifT c4 h
    refine TL.run ft_batch_ok [2, 3] rfl rfl ?_
    refine TL.q rfl (.g rfl rfl (decide_eq_true c4)) (Ex.ft ft_batch_ok rfl) rfl ?_
    refine TL.q rfl (.g rfl rfl (decide_eq_true c4)) (Ex.b1 0 rfl Try.isAgg3 rfl rfl) rfl ?_
    refine TL.q rfl (.g rfl rfl (decide_eq_true c4)) (Ex.ft ft_batch_ok rfl) rfl ?_
    refine TL.q rfl .u (Ex.py rfl (decide_eq_true c4) rfl) rfl ?_
    by_cases c5 : a0.fLeader ≥ (-1)
    · replace h := ifT c5 h
      refine TL.run ft_batch_ok [8] rfl rfl ?_
      refine TL.q rfl (.g rfl rfl (decide_eq_true c5)) (Ex.ft ft_batch_ok rfl) rfl ?_
      refine TL.q rfl (.g rfl rfl (decide_eq_true c5)) (Ex.b1 0 rfl Try.isAgg3 rfl rfl) rfl ?_
      obtain ⟨x6, hx7, h⟩ := Option.bind_eq_some_iff.1 h
      refine TL.ce rfl (.g rfl rfl (decide_eq_true c5)) (.fn Try.call84 rfl) (SpecX.pure (fun w => gFits_spec a0.fLeader 4 _ hx7 w)) (fun _ _ => RX.reads_triv _ _) rfl ?_
      refine TL.q rfl .u (Ex.py rfl (decide_eq_true c5) rfl) rfl ?_
      by_cases c8 : x6 = true
      · replace h := ifT c8 h
        refine TL.run ft_batch_ok [13] rfl rfl ?_
        refine TL.q rfl (.g rfl rfl c8) (Ex.ft ft_batch_ok rfl) rfl ?_
        refine TL.q rfl (.g rfl rfl c8) (Ex.b1 0 rfl Try.isAgg3 rfl rfl) rfl ?_
        refine TL.q rfl (.g rfl rfl c8) (Ex.ft ft_batch_ok rfl) rfl ?_
        refine TL.q rfl .u (Ex.py rfl c8 rfl) rfl ?_
        by_cases c9 : a0.fLast ≥ 0
        · replace h := ifT c9 h
          refine TL.run ft_batch_ok [18] rfl rfl ?_
          refine TL.q rfl (.g rfl rfl (decide_eq_true c9)) (Ex.ft ft_batch_ok rfl) rfl ?_
          refine TL.q rfl (.g rfl rfl (decide_eq_true c9)) (Ex.b1 0 rfl Try.isAgg3 rfl rfl) rfl ?_
          obtain ⟨x10, hx11, h⟩ := Option.bind_eq_some_iff.1 h
          refine TL.ce rfl (.g rfl rfl (decide_eq_true c9)) (.fn Try.call84 rfl) (SpecX.pure (fun w => gFits_spec a0.fLast 4 _ hx11 w)) (fun _ _ => RX.reads_triv _ _) rfl ?_
          refine TL.q rfl .u (Ex.py rfl (decide_eq_true c9) rfl) rfl ?_
          by_cases c12 : x10 = true
          · replace h := ifT c12 h
            refine TL.run ft_batch_ok [23] rfl rfl ?_
            refine TL.q rfl (.g rfl rfl c12) (Ex.ft ft_batch_ok rfl) rfl ?_
            refine TL.q rfl (.g rfl rfl c12) (Ex.b1 0 rfl Try.isAgg3 rfl rfl) rfl ?_
            refine TL.q rfl (.g rfl rfl c12) (Ex.ft ft_batch_ok rfl) rfl ?_
            refine TL.q rfl (.g rfl rfl c12) (Ex.b1 0 rfl Try.isAgg3 rfl rfl) rfl ?_
            refine TL.q rfl (.g rfl rfl c12) (Ex.addw rfl rfl) rfl ?_
            refine TL.q rfl (.g rfl rfl c12) (Ex.ft ft_batch_ok rfl) rfl ?_
            refine TL.q rfl .u (Ex.py rfl c12 rfl) rfl ?_
            by_cases c13 : (IntKind.i64.wrap (a0.fBase + a0.fLast)) ≥ 0
            · replace h := ifT c13 h
              refine TL.run ft_batch_ok [31] rfl rfl ?_
              refine TL.q rfl (.g rfl rfl (decide_eq_true c13)) (Ex.ft ft_batch_ok rfl) rfl ?_
              refine TL.q rfl (.g rfl rfl (decide_eq_true c13)) (Ex.b1 0 rfl Try.isAgg3 rfl rfl) rfl ?_
              refine TL.q rfl (.g rfl rfl (decide_eq_true c13)) (Ex.ft ft_batch_ok rfl) rfl ?_
              refine TL.q rfl .u (Ex.py rfl (decide_eq_true c13) rfl) rfl ?_
              by_cases c14 : a0.fFirst ≥ 0
              · replace h := ifT c14 h
                refine TL.run ft_batch_ok [36] rfl rfl ?_
                refine TL.q rfl (.g rfl rfl (decide_eq_true c14)) (Ex.ft ft_batch_ok rfl) rfl ?_
                refine TL.q rfl (.g rfl rfl (decide_eq_true c14)) (Ex.b1 0 rfl Try.isAgg3 rfl rfl) rfl ?_
                refine TL.q rfl (.g rfl rfl (decide_eq_true c14)) (Ex.ft ft_batch_ok rfl) rfl ?_
                refine TL.q rfl .u (Ex.py rfl (decide_eq_true c14) rfl) rfl ?_
                refine TL.run ft_batch_ok [41] rfl rfl ?_
                by_cases c15 : a0.fMax ≥ 0
                · replace h := ifT c15 h
                  obtain rfl := Option.some.inj h
                  exact TL.nil (X.seq (T.ret (X.done1 [1] Try.results140 (RV.tm (v := .bool true) (congrArg (fun b => some (Value.bool b)) (decide_eq_true c15))) ⟨rfl, rfl, rfl⟩ (by rfl) (.inl rfl))))
                · replace h := ifF c15 h
                  obtain rfl := Option.some.inj h
                  exact TL.nil (X.seq (T.ret (X.done1 [1] Try.results140 (RV.tm (v := .bool false) (congrArg (fun b => some (Value.bool b)) (decide_eq_false c15))) ⟨rfl, rfl, rfl⟩ (by rfl) (.inl rfl))))
              · replace h := ifF c14 h
                refine TL.run ft_batch_ok [36] rfl rfl ?_
                refine TL.no rfl (.gn rfl rfl (decide_eq_false c14)) rfl ?_
                refine TL.no rfl (.gn rfl rfl (decide_eq_false c14)) rfl ?_
                refine TL.no rfl (.gn rfl rfl (decide_eq_false c14)) rfl ?_
                refine TL.q rfl .u (Ex.pn rfl (decide_eq_false c14) rfl) rfl ?_
                refine TL.run ft_batch_ok [41] rfl rfl ?_
                obtain rfl := Option.some.inj h
                exact TL.nil (X.seq (T.ret (X.done1 [1] Try.results140 (RV.tm rfl) ⟨rfl, rfl, rfl⟩ (by rfl) (.inl rfl))))
            · replace h := ifF c13 h
              refine TL.run ft_batch_ok [31] rfl rfl ?_
              refine TL.no rfl (.gn rfl rfl (decide_eq_false c13)) rfl ?_
              refine TL.no rfl (.gn rfl rfl (decide_eq_false c13)) rfl ?_
              refine TL.no rfl (.gn rfl rfl (decide_eq_false c13)) rfl ?_
              refine TL.q rfl .u (Ex.pn rfl (decide_eq_false c13) rfl) rfl ?_
              refine TL.run ft_batch_ok [36] rfl rfl ?_
              refine TL.no rfl (.gn rfl rfl rfl) rfl ?_
              refine TL.no rfl (.gn rfl rfl rfl) rfl ?_
              refine TL.no rfl (.gn rfl rfl rfl) rfl ?_
              refine TL.q rfl .u (Ex.pn rfl rfl rfl) rfl ?_
              refine TL.run ft_batch_ok [41] rfl rfl ?_
              obtain rfl := Option.some.inj h
              exact TL.nil (X.seq (T.ret (X.done1 [1] Try.results140 (RV.tm rfl) ⟨rfl, rfl, rfl⟩ (by rfl) (.inl rfl))))
          · replace h := ifF c12 h
            replace c12 := eq_false_of_ne_true c12
            refine TL.run ft_batch_ok [23] rfl rfl ?_
            refine TL.no rfl (.gn rfl rfl c12) rfl ?_
            refine TL.no rfl (.gn rfl rfl c12) rfl ?_
            refine TL.no rfl (.gn rfl rfl c12) rfl ?_
            refine TL.no rfl (.gn rfl rfl c12) rfl ?_
            refine TL.no rfl (.gn rfl rfl c12) rfl ?_
            refine TL.no rfl (.gn rfl rfl c12) rfl ?_
            refine TL.q rfl .u (Ex.pn rfl c12 rfl) rfl ?_
            refine TL.run ft_batch_ok [31] rfl rfl ?_
            refine TL.no rfl (.gn rfl rfl rfl) rfl ?_
            refine TL.no rfl (.gn rfl rfl rfl) rfl ?_
            refine TL.no rfl (.gn rfl rfl rfl) rfl ?_
            refine TL.q rfl .u (Ex.pn rfl rfl rfl) rfl ?_
            refine TL.run ft_batch_ok [36] rfl rfl ?_
            refine TL.no rfl (.gn rfl rfl rfl) rfl ?_
            refine TL.no rfl (.gn rfl rfl rfl) rfl ?_
            refine TL.no rfl (.gn rfl rfl rfl) rfl ?_
            refine TL.q rfl .u (Ex.pn rfl rfl rfl) rfl ?_
            refine TL.run ft_batch_ok [41] rfl rfl ?_
            obtain rfl := Option.some.inj h
            exact TL.nil (X.seq (T.ret (X.done1 [1] Try.results140 (RV.tm rfl) ⟨rfl, rfl, rfl⟩ (by rfl) (.inl rfl))))
        · replace h := ifF c9 h
          refine TL.run ft_batch_ok [18] rfl rfl ?_
          refine TL.no rfl (.gn rfl rfl (decide_eq_false c9)) rfl ?_
          refine TL.no rfl (.gn rfl rfl (decide_eq_false c9)) rfl ?_
          refine TL.no rfl (.gn rfl rfl (decide_eq_false c9)) rfl ?_
          refine TL.q rfl .u (Ex.pn rfl (decide_eq_false c9) rfl) rfl ?_
          refine TL.run ft_batch_ok [23] rfl rfl ?_
          refine TL.no rfl (.gn rfl rfl rfl) rfl ?_
          refine TL.no rfl (.gn rfl rfl rfl) rfl ?_
          refine TL.no rfl (.gn rfl rfl rfl) rfl ?_
          refine TL.no rfl (.gn rfl rfl rfl) rfl ?_
          refine TL.no rfl (.gn rfl rfl rfl) rfl ?_
          refine TL.no rfl (.gn rfl rfl rfl) rfl ?_
          refine TL.q rfl .u (Ex.pn rfl rfl rfl) rfl ?_
          refine TL.run ft_batch_ok [31] rfl rfl ?_
          refine TL.no rfl (.gn rfl rfl rfl) rfl ?_
          refine TL.no rfl (.gn rfl rfl rfl) rfl ?_
          refine TL.no rfl (.gn rfl rfl rfl) rfl ?_
          refine TL.q rfl .u (Ex.pn rfl rfl rfl) rfl ?_
          refine TL.run ft_batch_ok [36] rfl rfl ?_
          refine TL.no rfl (.gn rfl rfl rfl) rfl ?_
          refine TL.no rfl (.gn rfl rfl rfl) rfl ?_
          refine TL.no rfl (.gn rfl rfl rfl) rfl ?_
          refine TL.q rfl .u (Ex.pn rfl rfl rfl) rfl ?_
          refine TL.run ft_batch_ok [41] rfl rfl ?_
          obtain rfl := Option.some.inj h
          exact TL.nil (X.seq (T.ret (X.done1 [1] Try.results140 (RV.tm rfl) ⟨rfl, rfl, rfl⟩ (by rfl) (.inl rfl))))
      · replace h := ifF c8 h
        replace c8 := eq_false_of_ne_true c8
        refine TL.run ft_batch_ok [13] rfl rfl ?_
        refine TL.no rfl (.gn rfl rfl c8) rfl ?_
        refine TL.no rfl (.gn rfl rfl c8) rfl ?_
        refine TL.no rfl (.gn rfl rfl c8) rfl ?_
        refine TL.q rfl .u (Ex.pn rfl c8 rfl) rfl ?_
        refine TL.run ft_batch_ok [18] rfl rfl ?_
        refine TL.no rfl (.gn rfl rfl rfl) rfl ?_
        refine TL.no rfl (.gn rfl rfl rfl) rfl ?_
        refine TL.no rfl (.gn rfl rfl rfl) rfl ?_
        refine TL.q rfl .u (Ex.pn rfl rfl rfl) rfl ?_
        refine TL.run ft_batch_ok [23] rfl rfl ?_
        refine TL.no rfl (.gn rfl rfl rfl) rfl ?_
        refine TL.no rfl (.gn rfl rfl rfl) rfl ?_
        refine TL.no rfl (.gn rfl rfl rfl) rfl ?_
        refine TL.no rfl (.gn rfl rfl rfl) rfl ?_
        refine TL.no rfl (.gn rfl rfl rfl) rfl ?_
        refine TL.no rfl (.gn rfl rfl rfl) rfl ?_
        refine TL.q rfl .u (Ex.pn rfl rfl rfl) rfl ?_
        refine TL.run ft_batch_ok [31] rfl rfl ?_
        refine TL.no rfl (.gn rfl rfl rfl) rfl ?_
        refine TL.no rfl (.gn rfl rfl rfl) rfl ?_
        refine TL.no rfl (.gn rfl rfl rfl) rfl ?_
        refine TL.q rfl .u (Ex.pn rfl rfl rfl) rfl ?_
        refine TL.run ft_batch_ok [36] rfl rfl ?_
        refine TL.no rfl (.gn rfl rfl rfl) rfl ?_
        refine TL.no rfl (.gn rfl rfl rfl) rfl ?_
        refine TL.no rfl (.gn rfl rfl rfl) rfl ?_
        refine TL.q rfl .u (Ex.pn rfl rfl rfl) rfl ?_
        refine TL.run ft_batch_ok [41] rfl rfl ?_
        obtain rfl := Option.some.inj h
        exact TL.nil (X.seq (T.ret (X.done1 [1] Try.results140 (RV.tm rfl) ⟨rfl, rfl, rfl⟩ (by rfl) (.inl rfl))))
    · replace h := ifF c5 h
      refine TL.run ft_batch_ok [8] rfl rfl ?_
      refine TL.no rfl (.gn rfl rfl (decide_eq_false c5)) rfl ?_
      refine TL.no rfl (.gn rfl rfl (decide_eq_false c5)) rfl ?_
      refine TL.no rfl (.gn rfl rfl (decide_eq_false c5)) rfl ?_
      refine TL.q rfl .u (Ex.pn rfl (decide_eq_false c5) rfl) rfl ?_
      refine TL.run ft_batch_ok [13] rfl rfl ?_
      refine TL.no rfl (.gn rfl rfl rfl) rfl ?_
      refine TL.no rfl (.gn rfl rfl rfl) rfl ?_
      refine TL.no rfl (.gn rfl rfl rfl) rfl ?_
      refine TL.q rfl .u (Ex.pn rfl rfl rfl) rfl ?_
      refine TL.run ft_batch_ok [18] rfl rfl ?_
      refine TL.no rfl (.gn rfl rfl rfl) rfl ?_
      refine TL.no rfl (.gn rfl rfl rfl) rfl ?_
      refine TL.no rfl (.gn rfl rfl rfl) rfl ?_
      refine TL.q rfl .u (Ex.pn rfl rfl rfl) rfl ?_
      refine TL.run ft_batch_ok [23] rfl rfl ?_
      refine TL.no rfl (.gn rfl rfl rfl) rfl ?_
      refine TL.no rfl (.gn rfl rfl rfl) rfl ?_
      refine TL.no rfl (.gn rfl rfl rfl) rfl ?_
      refine TL.no rfl (.gn rfl rfl rfl) rfl ?_
      refine TL.no rfl (.gn rfl rfl rfl) rfl ?_
      refine TL.no rfl (.gn rfl rfl rfl) rfl ?_
      refine TL.q rfl .u (Ex.pn rfl rfl rfl) rfl ?_
      refine TL.run ft_batch_ok [31] rfl rfl ?_
      refine TL.no rfl (.gn rfl rfl rfl) rfl ?_
      refine TL.no rfl (.gn rfl rfl rfl) rfl ?_
      refine TL.no rfl (.gn rfl rfl rfl) rfl ?_
      refine TL.q rfl .u (Ex.pn rfl rfl rfl) rfl ?_
      refine TL.run ft_batch_ok [36] rfl rfl ?_
      refine TL.no rfl (.gn rfl rfl rfl) rfl ?_
      refine TL.no rfl (.gn rfl rfl rfl) rfl ?_
      refine TL.no rfl (.gn rfl rfl rfl) rfl ?_
      refine TL.q rfl .u (Ex.pn rfl rfl rfl) rfl ?_
      refine TL.run ft_batch_ok [41] rfl rfl ?_
      obtain rfl := Option.some.inj h
      exact TL.nil (X.seq (T.ret (X.done1 [1] Try.results140 (RV.tm rfl) ⟨rfl, rfl, rfl⟩ (by rfl) (.inl rfl))))
  · replace h := ifF c4 h
    refine TL.run ft_batch_ok [2, 3] rfl rfl ?_
    refine TL.no rfl (.gn rfl rfl (decide_eq_false c4)) rfl ?_
    refine TL.no rfl (.gn rfl rfl (decide_eq_false c4)) rfl ?_
    refine TL.no rfl (.gn rfl rfl (decide_eq_false c4)) rfl ?_
    refine TL.q rfl .u (Ex.pn rfl (decide_eq_false c4) rfl) rfl ?_
    refine TL.run ft_batch_ok [8] rfl rfl ?_
    refine TL.no rfl (.gn rfl rfl rfl) rfl ?_
    refine TL.no rfl (.gn rfl rfl rfl) rfl ?_
    refine TL.no rfl (.gn rfl rfl rfl) rfl ?_
    refine TL.q rfl .u (Ex.pn rfl rfl rfl) rfl ?_
    refine TL.run ft_batch_ok [13] rfl rfl ?_
    refine TL.no rfl (.gn rfl rfl rfl) rfl ?_
    refine TL.no rfl (.gn rfl rfl rfl) rfl ?_
    refine TL.no rfl (.gn rfl rfl rfl) rfl ?_
    refine TL.q rfl .u (Ex.pn rfl rfl rfl) rfl ?_
    refine TL.run ft_batch_ok [18] rfl rfl ?_
    refine TL.no rfl (.gn rfl rfl rfl) rfl ?_
    refine TL.no rfl (.gn rfl rfl rfl) rfl ?_
    refine TL.no rfl (.gn rfl rfl rfl) rfl ?_
    refine TL.q rfl .u (Ex.pn rfl rfl rfl) rfl ?_
    refine TL.run ft_batch_ok [23] rfl rfl ?_
    refine TL.no rfl (.gn rfl rfl rfl) rfl ?_
    refine TL.no rfl (.gn rfl rfl rfl) rfl ?_
    refine TL.no rfl (.gn rfl rfl rfl) rfl ?_
    refine TL.no rfl (.gn rfl rfl rfl) rfl ?_
    refine TL.no rfl (.gn rfl rfl rfl) rfl ?_
    refine TL.no rfl (.gn rfl rfl rfl) rfl ?_
    refine TL.q rfl .u (Ex.pn rfl rfl rfl) rfl ?_
    refine TL.run ft_batch_ok [31] rfl rfl ?_
    refine TL.no rfl (.gn rfl rfl rfl) rfl ?_
    refine TL.no rfl (.gn rfl rfl rfl) rfl ?_
    refine TL.no rfl (.gn rfl rfl rfl) rfl ?_
    refine TL.q rfl .u (Ex.pn rfl rfl rfl) rfl ?_
    refine TL.run ft_batch_ok [36] rfl rfl ?_
    refine TL.no rfl (.gn rfl rfl rfl) rfl ?_
    refine TL.no rfl (.gn rfl rfl rfl) rfl ?_
    refine TL.no rfl (.gn rfl rfl rfl) rfl ?_
    refine TL.q rfl .u (Ex.pn rfl rfl rfl) rfl ?_
    refine TL.run ft_batch_ok [41] rfl rfl ?_
    obtain rfl := Option.some.inj h
    exact TL.nil (X.seq (T.ret (X.done1 [1] Try.results140 (RV.tm rfl) ⟨rfl, rfl, rfl⟩ (by rfl) (.inl rfl))))
def f_batch_producer (a0 : Bat) : Option (Bool) := if a0.fProducer = (-1) then (if a0.fEpoch = (-1) then (if a0.fSequence = (-1) then (if a0.fTxn = true then some false else some true) else some false) else some false) else (if a0.fControl = true then (if a0.fProducer ≥ 0 then (if a0.fEpoch ≥ 0 then ((gFits a0.fEpoch 2).bind fun x11 => if x11 = true then (if a0.fSequence ≥ (-1) then ((gFits a0.fSequence 4).bind fun x15 => if x15 = true then (if a0.fSequence = (-1) then some true else some false) else some false) else some false) else some false) else some false) else some false) else (if a0.fProducer ≥ 0 then (if a0.fEpoch ≥ 0 then ((gFits a0.fEpoch 2).bind fun x21 => if x21 = true then (if a0.fSequence ≥ 0 then ((gFits a0.fSequence 4).bind fun x25 => if x25 = true then some true else some false) else some false) else some false) else some false) else some false))
set_option maxRecDepth 100000 in
set_option maxHeartbeats 4000000 in
theorem f_batch_producer_spec (a0 : Bat) (A1 : Option Addr) (c2 : Nat) (r : Bool) (h : f_batch_producer a0 = some r) : SpecX Try.prog 141 #[.agg #[.int .i64 a0.fBase, .int .i64 a0.fLeader, .bool a0.fAppend, .bool a0.fTxn, .bool a0.fControl, .int .i64 a0.fLast, .int .i64 a0.fFirst, .int .i64 a0.fMax, .int .i64 a0.fProducer, .int .i64 a0.fEpoch, .int .i64 a0.fSequence, .slice A1 a0.fRecords.length c2]] (RX.of (sliceRd 7 Rec_rd) [.slice A1 a0.fRecords.length c2] a0.fRecords) (EmpR) (fun v A' N => v = .bool r ∧ A' = EmpR ∧ N = []) := by
  refine enterA Try.func141 rfl Try.ntmps141 rfl ?_
  intro F w hX
  unfold f_batch_producer at h
  refine T.seq (T.region rfl ?_)
  refine TL.box rfl .u rfl rfl (fun b3 => ?_)
  refine TL.run ft_batch_ok [1] rfl rfl ?_
  refine TL.nil (X.seq (T.seq (T.seq (T.region rfl ?_))))
  refine TL.run ft_batch_ok [0] rfl rfl ?_
  refine TL.q rfl .u (Ex.b1 0 rfl Try.isAgg3 rfl rfl) rfl ?_
  refine TL.run ft_batch_ok [2] rfl rfl ?_
  by_cases c4 : a0.fProducer = (-1)
  · replace h := ifT c4 h
    refine TL.nil (X.seq ?_)
    refine T.yes rfl (decide_eq_true c4) ?_
    refine T.seq (T.region rfl ?_)
    refine TL.run ft_batch_ok [0] rfl rfl ?_
    refine TL.q rfl .u (Ex.b1 0 rfl Try.isAgg3 rfl rfl) rfl ?_
    by_cases c5 : a0.fEpoch = (-1)
    · replace h := ifT c5 h
      refine TL.run ft_batch_ok [2, 3] rfl rfl ?_
      refine TL.q rfl (.g rfl rfl (decide_eq_true c5)) (Ex.ft ft_batch_ok rfl) rfl ?_
      refine TL.q rfl (.g rfl rfl (decide_eq_true c5)) (Ex.b1 0 rfl Try.isAgg3 rfl rfl) rfl ?_
      refine TL.q rfl (.g rfl rfl (decide_eq_true c5)) (Ex.ft ft_batch_ok rfl) rfl ?_
      refine TL.q rfl .u (Ex.py rfl (decide_eq_true c5) rfl) rfl ?_
      by_cases c6 : a0.fSequence = (-1)
      · replace h := ifT c6 h
        refine TL.run ft_batch_ok [8] rfl rfl ?_
        refine TL.q rfl (.g rfl rfl (decide_eq_true c6)) (Ex.ft ft_batch_ok rfl) rfl ?_
        refine TL.q rfl (.g rfl rfl (decide_eq_true c6)) (Ex.b1 0 rfl Try.isAgg4 rfl rfl) rfl ?_
        refine TL.q rfl (.g rfl rfl (decide_eq_true c6)) (Ex.ft ft_batch_ok rfl) rfl ?_
        refine TL.q rfl .u (Ex.py rfl (decide_eq_true c6) rfl) rfl ?_
        refine TL.run ft_batch_ok [13] rfl rfl ?_
        by_cases c7 : a0.fTxn = true
        · replace h := ifT c7 h
          obtain rfl := Option.some.inj h
          exact TL.nil (X.seq (T.ret (X.rs (X.done1 [1] Try.results141 (RV.tm (v := .bool false) (congrArg (fun b => some (Value.bool b)) (bn_f c7))) ⟨rfl, rfl, rfl⟩ (by rfl) (.inl rfl)))))
        · replace h := ifF c7 h
          replace c7 := eq_false_of_ne_true c7
          obtain rfl := Option.some.inj h
          exact TL.nil (X.seq (T.ret (X.rs (X.done1 [1] Try.results141 (RV.tm (v := .bool true) (congrArg (fun b => some (Value.bool b)) (bn_t c7))) ⟨rfl, rfl, rfl⟩ (by rfl) (.inl rfl)))))
      · replace h := ifF c6 h
        refine TL.run ft_batch_ok [8] rfl rfl ?_
        refine TL.no rfl (.gn rfl rfl (decide_eq_false c6)) rfl ?_
        refine TL.no rfl (.gn rfl rfl (decide_eq_false c6)) rfl ?_
        refine TL.no rfl (.gn rfl rfl (decide_eq_false c6)) rfl ?_
        refine TL.q rfl .u (Ex.pn rfl (decide_eq_false c6) rfl) rfl ?_
        refine TL.run ft_batch_ok [13] rfl rfl ?_
        obtain rfl := Option.some.inj h
        exact TL.nil (X.seq (T.ret (X.rs (X.done1 [1] Try.results141 (RV.tm rfl) ⟨rfl, rfl, rfl⟩ (by rfl) (.inl rfl)))))
    · replace h := ifF c5 h
      refine TL.run ft_batch_ok [2, 3] rfl rfl ?_
      refine TL.no rfl (.gn rfl rfl (decide_eq_false c5)) rfl ?_
      refine TL.no rfl (.gn rfl rfl (decide_eq_false c5)) rfl ?_
      refine TL.no rfl (.gn rfl rfl (decide_eq_false c5)) rfl ?_
      refine TL.q rfl .u (Ex.pn rfl (decide_eq_false c5) rfl) rfl ?_
      refine TL.run ft_batch_ok [8] rfl rfl ?_
      refine TL.no rfl (.gn rfl rfl rfl) rfl ?_
      refine TL.no rfl (.gn rfl rfl rfl) rfl ?_
      refine TL.no rfl (.gn rfl rfl rfl) rfl ?_
      refine TL.q rfl .u (Ex.pn rfl rfl rfl) rfl ?_
      refine TL.run ft_batch_ok [13] rfl rfl ?_
      obtain rfl := Option.some.inj h
      exact TL.nil (X.seq (T.ret (X.rs (X.done1 [1] Try.results141 (RV.tm rfl) ⟨rfl, rfl, rfl⟩ (by rfl) (.inl rfl)))))
  · replace h := ifF c4 h
    refine TL.nil (X.seq ?_)
    refine T.no rfl (decide_eq_false c4) ?_
    refine T.skip (X.seq (T.seq (T.region rfl ?_)))
    refine TL.run ft_batch_ok [0] rfl rfl ?_
    refine TL.nil (X.seq (T.seq (T.seq (T.region rfl ?_))))
    refine TL.run ft_batch_ok [0] rfl rfl ?_
    refine TL.q rfl .u (Ex.b1 0 rfl Try.isAgg4 rfl rfl) rfl ?_
    by_cases c8 : a0.fControl = true
    · replace h := ifT c8 h
      refine TL.nil (X.seq ?_)
      refine T.yes rfl c8 ?_
      refine T.region rfl ?_
      refine TL.run ft_batch_ok [0] rfl rfl ?_
      refine TL.nil (X.seq (T.seq (T.region rfl ?_)))
      refine TL.run ft_batch_ok [0] rfl rfl ?_
      refine TL.q rfl .u (Ex.b1 0 rfl Try.isAgg3 rfl rfl) rfl ?_
      by_cases c9 : a0.fProducer ≥ 0
      · replace h := ifT c9 h
        refine TL.run ft_batch_ok [2, 3] rfl rfl ?_
        refine TL.q rfl (.g rfl rfl (decide_eq_true c9)) (Ex.ft ft_batch_ok rfl) rfl ?_
        refine TL.q rfl (.g rfl rfl (decide_eq_true c9)) (Ex.b1 0 rfl Try.isAgg3 rfl rfl) rfl ?_
        refine TL.q rfl (.g rfl rfl (decide_eq_true c9)) (Ex.ft ft_batch_ok rfl) rfl ?_
        refine TL.q rfl .u (Ex.py rfl (decide_eq_true c9) rfl) rfl ?_
        by_cases c10 : a0.fEpoch ≥ 0
        · replace h := ifT c10 h
          refine TL.run ft_batch_ok [8] rfl rfl ?_
          refine TL.q rfl (.g rfl rfl (decide_eq_true c10)) (Ex.ft ft_batch_ok rfl) rfl ?_
          refine TL.q rfl (.g rfl rfl (decide_eq_true c10)) (Ex.b1 0 rfl Try.isAgg3 rfl rfl) rfl ?_
          obtain ⟨x11, hx12, h⟩ := Option.bind_eq_some_iff.1 h
          refine TL.ce rfl (.g rfl rfl (decide_eq_true c10)) (.fn Try.call84 rfl) (SpecX.pure (fun w => gFits_spec a0.fEpoch 2 _ hx12 w)) (fun _ _ => RX.reads_triv _ _) rfl ?_
          refine TL.q rfl .u (Ex.py rfl (decide_eq_true c10) rfl) rfl ?_
          by_cases c13 : x11 = true
          · replace h := ifT c13 h
            refine TL.run ft_batch_ok [13] rfl rfl ?_
            refine TL.q rfl (.g rfl rfl c13) (Ex.ft ft_batch_ok rfl) rfl ?_
            refine TL.q rfl (.g rfl rfl c13) (Ex.b1 0 rfl Try.isAgg3 rfl rfl) rfl ?_
            refine TL.q rfl (.g rfl rfl c13) (Ex.ft ft_batch_ok rfl) rfl ?_
            refine TL.q rfl (.g rfl rfl c13) (Ex.ft ft_batch_ok rfl) rfl ?_
            refine TL.q rfl .u (Ex.py rfl c13 rfl) rfl ?_
            by_cases c14 : a0.fSequence ≥ (-1)
            · replace h := ifT c14 h
              refine TL.run ft_batch_ok [19] rfl rfl ?_
              refine TL.q rfl (.g rfl rfl (decide_eq_true c14)) (Ex.ft ft_batch_ok rfl) rfl ?_
              refine TL.q rfl (.g rfl rfl (decide_eq_true c14)) (Ex.b1 0 rfl Try.isAgg3 rfl rfl) rfl ?_
              obtain ⟨x15, hx16, h⟩ := Option.bind_eq_some_iff.1 h
              refine TL.ce rfl (.g rfl rfl (decide_eq_true c14)) (.fn Try.call84 rfl) (SpecX.pure (fun w => gFits_spec a0.fSequence 4 _ hx16 w)) (fun _ _ => RX.reads_triv _ _) rfl ?_
              refine TL.q rfl .u (Ex.py rfl (decide_eq_true c14) rfl) rfl ?_
              by_cases c17 : x15 = true
              · replace h := ifT c17 h
                refine TL.run ft_batch_ok [24] rfl rfl ?_
                refine TL.q rfl (.g rfl rfl c17) (Ex.ft ft_batch_ok rfl) rfl ?_
                refine TL.q rfl (.g rfl rfl c17) (Ex.b1 0 rfl Try.isAgg4 rfl rfl) rfl ?_
                refine TL.q rfl (.g rfl rfl c17) (Ex.ft ft_batch_ok rfl) rfl ?_
                refine TL.q rfl (.g rfl rfl c17) (Ex.ft ft_batch_ok rfl) rfl ?_
                refine TL.q rfl (.g rfl rfl (bn_f c8)) (Ex.ft ft_batch_ok rfl) rfl ?_
                refine TL.q rfl (.g rfl rfl (bn_f c8)) (Ex.b1 0 rfl Try.isAgg3 rfl rfl) rfl ?_
                refine TL.q rfl (.g rfl rfl (bn_f c8)) (Ex.ft ft_batch_ok rfl) rfl ?_
                refine TL.q rfl (.g rfl rfl c17) (Ex.pn rfl (bn_f c8) rfl) rfl ?_
                refine TL.q rfl .u (Ex.py rfl c17 rfl) rfl ?_
                refine TL.run ft_batch_ok [34] rfl rfl ?_
                by_cases c18 : a0.fSequence = (-1)
                · replace h := ifT c18 h
                  obtain rfl := Option.some.inj h
                  exact TL.nil (X.seq (T.ret (X.done1 [1] Try.results141 (RV.tm (v := .bool true) (congrArg (fun b => some (Value.bool b)) (decide_eq_true c18))) ⟨rfl, rfl, rfl⟩ (by rfl) (.inl rfl))))
                · replace h := ifF c18 h
                  obtain rfl := Option.some.inj h
                  exact TL.nil (X.seq (T.ret (X.done1 [1] Try.results141 (RV.tm (v := .bool false) (congrArg (fun b => some (Value.bool b)) (decide_eq_false c18))) ⟨rfl, rfl, rfl⟩ (by rfl) (.inl rfl))))
              · replace h := ifF c17 h
                replace c17 := eq_false_of_ne_true c17
                refine TL.run ft_batch_ok [24] rfl rfl ?_
                refine TL.no rfl (.gn rfl rfl c17) rfl ?_
                refine TL.no rfl (.gn rfl rfl c17) rfl ?_
                refine TL.no rfl (.gn rfl rfl c17) rfl ?_
                refine TL.no rfl (.gn rfl rfl c17) rfl ?_
                refine TL.no rfl (.gu rfl rfl) rfl ?_
                refine TL.no rfl (.gu rfl rfl) rfl ?_
                refine TL.no rfl (.gu rfl rfl) rfl ?_
                refine TL.no rfl (.gn rfl rfl c17) rfl ?_
                refine TL.q rfl .u (Ex.pn rfl c17 rfl) rfl ?_
                refine TL.run ft_batch_ok [34] rfl rfl ?_
                obtain rfl := Option.some.inj h
                exact TL.nil (X.seq (T.ret (X.done1 [1] Try.results141 (RV.tm rfl) ⟨rfl, rfl, rfl⟩ (by rfl) (.inl rfl))))
            · replace h := ifF c14 h
              refine TL.run ft_batch_ok [19] rfl rfl ?_
              refine TL.no rfl (.gn rfl rfl (decide_eq_false c14)) rfl ?_
              refine TL.no rfl (.gn rfl rfl (decide_eq_false c14)) rfl ?_
              refine TL.no rfl (.gn rfl rfl (decide_eq_false c14)) rfl ?_
              refine TL.q rfl .u (Ex.pn rfl (decide_eq_false c14) rfl) rfl ?_
              refine TL.run ft_batch_ok [24] rfl rfl ?_
              refine TL.no rfl (.gn rfl rfl rfl) rfl ?_
              refine TL.no rfl (.gn rfl rfl rfl) rfl ?_
              refine TL.no rfl (.gn rfl rfl rfl) rfl ?_
              refine TL.no rfl (.gn rfl rfl rfl) rfl ?_
              refine TL.no rfl (.gu rfl rfl) rfl ?_
              refine TL.no rfl (.gu rfl rfl) rfl ?_
              refine TL.no rfl (.gu rfl rfl) rfl ?_
              refine TL.no rfl (.gn rfl rfl rfl) rfl ?_
              refine TL.q rfl .u (Ex.pn rfl rfl rfl) rfl ?_
              refine TL.run ft_batch_ok [34] rfl rfl ?_
              obtain rfl := Option.some.inj h
              exact TL.nil (X.seq (T.ret (X.done1 [1] Try.results141 (RV.tm rfl) ⟨rfl, rfl, rfl⟩ (by rfl) (.inl rfl))))
          · replace h := ifF c13 h
            replace c13 := eq_false_of_ne_true c13
            refine TL.run ft_batch_ok [13] rfl rfl ?_
            refine TL.no rfl (.gn rfl rfl c13) rfl ?_
            refine TL.no rfl (.gn rfl rfl c13) rfl ?_
            refine TL.no rfl (.gn rfl rfl c13) rfl ?_
            refine TL.no rfl (.gn rfl rfl c13) rfl ?_
            refine TL.q rfl .u (Ex.pn rfl c13 rfl) rfl ?_
            refine TL.run ft_batch_ok [19] rfl rfl ?_
            refine TL.no rfl (.gn rfl rfl rfl) rfl ?_
            refine TL.no rfl (.gn rfl rfl rfl) rfl ?_
            refine TL.no rfl (.gn rfl rfl rfl) rfl ?_
            refine TL.q rfl .u (Ex.pn rfl rfl rfl) rfl ?_
            refine TL.run ft_batch_ok [24] rfl rfl ?_
            refine TL.no rfl (.gn rfl rfl rfl) rfl ?_
            refine TL.no rfl (.gn rfl rfl rfl) rfl ?_
            refine TL.no rfl (.gn rfl rfl rfl) rfl ?_
            refine TL.no rfl (.gn rfl rfl rfl) rfl ?_
            refine TL.no rfl (.gu rfl rfl) rfl ?_
            refine TL.no rfl (.gu rfl rfl) rfl ?_
            refine TL.no rfl (.gu rfl rfl) rfl ?_
            refine TL.no rfl (.gn rfl rfl rfl) rfl ?_
            refine TL.q rfl .u (Ex.pn rfl rfl rfl) rfl ?_
            refine TL.run ft_batch_ok [34] rfl rfl ?_
            obtain rfl := Option.some.inj h
            exact TL.nil (X.seq (T.ret (X.done1 [1] Try.results141 (RV.tm rfl) ⟨rfl, rfl, rfl⟩ (by rfl) (.inl rfl))))
        · replace h := ifF c10 h
          refine TL.run ft_batch_ok [8] rfl rfl ?_
          refine TL.no rfl (.gn rfl rfl (decide_eq_false c10)) rfl ?_
          refine TL.no rfl (.gn rfl rfl (decide_eq_false c10)) rfl ?_
          refine TL.no rfl (.gn rfl rfl (decide_eq_false c10)) rfl ?_
          refine TL.q rfl .u (Ex.pn rfl (decide_eq_false c10) rfl) rfl ?_
          refine TL.run ft_batch_ok [13] rfl rfl ?_
          refine TL.no rfl (.gn rfl rfl rfl) rfl ?_
          refine TL.no rfl (.gn rfl rfl rfl) rfl ?_
          refine TL.no rfl (.gn rfl rfl rfl) rfl ?_
          refine TL.no rfl (.gn rfl rfl rfl) rfl ?_
          refine TL.q rfl .u (Ex.pn rfl rfl rfl) rfl ?_
          refine TL.run ft_batch_ok [19] rfl rfl ?_
          refine TL.no rfl (.gn rfl rfl rfl) rfl ?_
          refine TL.no rfl (.gn rfl rfl rfl) rfl ?_
          refine TL.no rfl (.gn rfl rfl rfl) rfl ?_
          refine TL.q rfl .u (Ex.pn rfl rfl rfl) rfl ?_
          refine TL.run ft_batch_ok [24] rfl rfl ?_
          refine TL.no rfl (.gn rfl rfl rfl) rfl ?_
          refine TL.no rfl (.gn rfl rfl rfl) rfl ?_
          refine TL.no rfl (.gn rfl rfl rfl) rfl ?_
          refine TL.no rfl (.gn rfl rfl rfl) rfl ?_
          refine TL.no rfl (.gu rfl rfl) rfl ?_
          refine TL.no rfl (.gu rfl rfl) rfl ?_
          refine TL.no rfl (.gu rfl rfl) rfl ?_
          refine TL.no rfl (.gn rfl rfl rfl) rfl ?_
          refine TL.q rfl .u (Ex.pn rfl rfl rfl) rfl ?_
          refine TL.run ft_batch_ok [34] rfl rfl ?_
          obtain rfl := Option.some.inj h
          exact TL.nil (X.seq (T.ret (X.done1 [1] Try.results141 (RV.tm rfl) ⟨rfl, rfl, rfl⟩ (by rfl) (.inl rfl))))
      · replace h := ifF c9 h
        refine TL.run ft_batch_ok [2, 3] rfl rfl ?_
        refine TL.no rfl (.gn rfl rfl (decide_eq_false c9)) rfl ?_
        refine TL.no rfl (.gn rfl rfl (decide_eq_false c9)) rfl ?_
        refine TL.no rfl (.gn rfl rfl (decide_eq_false c9)) rfl ?_
        refine TL.q rfl .u (Ex.pn rfl (decide_eq_false c9) rfl) rfl ?_
        refine TL.run ft_batch_ok [8] rfl rfl ?_
        refine TL.no rfl (.gn rfl rfl rfl) rfl ?_
        refine TL.no rfl (.gn rfl rfl rfl) rfl ?_
        refine TL.no rfl (.gn rfl rfl rfl) rfl ?_
        refine TL.q rfl .u (Ex.pn rfl rfl rfl) rfl ?_
        refine TL.run ft_batch_ok [13] rfl rfl ?_
        refine TL.no rfl (.gn rfl rfl rfl) rfl ?_
        refine TL.no rfl (.gn rfl rfl rfl) rfl ?_
        refine TL.no rfl (.gn rfl rfl rfl) rfl ?_
        refine TL.no rfl (.gn rfl rfl rfl) rfl ?_
        refine TL.q rfl .u (Ex.pn rfl rfl rfl) rfl ?_
        refine TL.run ft_batch_ok [19] rfl rfl ?_
        refine TL.no rfl (.gn rfl rfl rfl) rfl ?_
        refine TL.no rfl (.gn rfl rfl rfl) rfl ?_
        refine TL.no rfl (.gn rfl rfl rfl) rfl ?_
        refine TL.q rfl .u (Ex.pn rfl rfl rfl) rfl ?_
        refine TL.run ft_batch_ok [24] rfl rfl ?_
        refine TL.no rfl (.gn rfl rfl rfl) rfl ?_
        refine TL.no rfl (.gn rfl rfl rfl) rfl ?_
        refine TL.no rfl (.gn rfl rfl rfl) rfl ?_
        refine TL.no rfl (.gn rfl rfl rfl) rfl ?_
        refine TL.no rfl (.gu rfl rfl) rfl ?_
        refine TL.no rfl (.gu rfl rfl) rfl ?_
        refine TL.no rfl (.gu rfl rfl) rfl ?_
        refine TL.no rfl (.gn rfl rfl rfl) rfl ?_
        refine TL.q rfl .u (Ex.pn rfl rfl rfl) rfl ?_
        refine TL.run ft_batch_ok [34] rfl rfl ?_
        obtain rfl := Option.some.inj h
        exact TL.nil (X.seq (T.ret (X.done1 [1] Try.results141 (RV.tm rfl) ⟨rfl, rfl, rfl⟩ (by rfl) (.inl rfl))))
    · replace h := ifF c8 h
      replace c8 := eq_false_of_ne_true c8
      refine TL.nil (X.seq ?_)
      refine T.no rfl c8 ?_
      refine T.skip (X.seq (T.seq (T.region rfl ?_)))
      refine TL.run ft_batch_ok [0] rfl rfl ?_
      refine TL.q rfl .u (Ex.b1 0 rfl Try.isAgg3 rfl rfl) rfl ?_
      by_cases c19 : a0.fProducer ≥ 0
      · replace h := ifT c19 h
        refine TL.run ft_batch_ok [2, 3] rfl rfl ?_
        refine TL.q rfl (.g rfl rfl (decide_eq_true c19)) (Ex.ft ft_batch_ok rfl) rfl ?_
        refine TL.q rfl (.g rfl rfl (decide_eq_true c19)) (Ex.b1 0 rfl Try.isAgg3 rfl rfl) rfl ?_
        refine TL.q rfl (.g rfl rfl (decide_eq_true c19)) (Ex.ft ft_batch_ok rfl) rfl ?_
        refine TL.q rfl .u (Ex.py rfl (decide_eq_true c19) rfl) rfl ?_
        by_cases c20 : a0.fEpoch ≥ 0
        · replace h := ifT c20 h
          refine TL.run ft_batch_ok [8] rfl rfl ?_
          refine TL.q rfl (.g rfl rfl (decide_eq_true c20)) (Ex.ft ft_batch_ok rfl) rfl ?_
          refine TL.q rfl (.g rfl rfl (decide_eq_true c20)) (Ex.b1 0 rfl Try.isAgg3 rfl rfl) rfl ?_
          obtain ⟨x21, hx22, h⟩ := Option.bind_eq_some_iff.1 h
          refine TL.ce rfl (.g rfl rfl (decide_eq_true c20)) (.fn Try.call84 rfl) (SpecX.pure (fun w => gFits_spec a0.fEpoch 2 _ hx22 w)) (fun _ _ => RX.reads_triv _ _) rfl ?_
          refine TL.q rfl .u (Ex.py rfl (decide_eq_true c20) rfl) rfl ?_
          by_cases c23 : x21 = true
          · replace h := ifT c23 h
            refine TL.run ft_batch_ok [13] rfl rfl ?_
            refine TL.q rfl (.g rfl rfl c23) (Ex.ft ft_batch_ok rfl) rfl ?_
            refine TL.q rfl (.g rfl rfl c23) (Ex.b1 0 rfl Try.isAgg3 rfl rfl) rfl ?_
            refine TL.q rfl (.g rfl rfl c23) (Ex.ft ft_batch_ok rfl) rfl ?_
            refine TL.q rfl (.g rfl rfl c23) (Ex.ft ft_batch_ok rfl) rfl ?_
            refine TL.q rfl .u (Ex.py rfl c23 rfl) rfl ?_
            by_cases c24 : a0.fSequence ≥ 0
            · replace h := ifT c24 h
              refine TL.run ft_batch_ok [19] rfl rfl ?_
              refine TL.q rfl (.g rfl rfl (decide_eq_true c24)) (Ex.ft ft_batch_ok rfl) rfl ?_
              refine TL.q rfl (.g rfl rfl (decide_eq_true c24)) (Ex.b1 0 rfl Try.isAgg3 rfl rfl) rfl ?_
              obtain ⟨x25, hx26, h⟩ := Option.bind_eq_some_iff.1 h
              refine TL.ce rfl (.g rfl rfl (decide_eq_true c24)) (.fn Try.call84 rfl) (SpecX.pure (fun w => gFits_spec a0.fSequence 4 _ hx26 w)) (fun _ _ => RX.reads_triv _ _) rfl ?_
              refine TL.q rfl .u (Ex.py rfl (decide_eq_true c24) rfl) rfl ?_
              by_cases c27 : x25 = true
              · replace h := ifT c27 h
                refine TL.run ft_batch_ok [24] rfl rfl ?_
                refine TL.q rfl (.g rfl rfl c27) (Ex.ft ft_batch_ok rfl) rfl ?_
                refine TL.q rfl (.g rfl rfl c27) (Ex.b1 0 rfl Try.isAgg4 rfl rfl) rfl ?_
                refine TL.q rfl (.g rfl rfl c27) (Ex.ft ft_batch_ok rfl) rfl ?_
                refine TL.q rfl (.g rfl rfl c27) (Ex.ft ft_batch_ok rfl) rfl ?_
                refine TL.no rfl (.gn rfl rfl (bn_t c8)) rfl ?_
                refine TL.no rfl (.gn rfl rfl (bn_t c8)) rfl ?_
                refine TL.no rfl (.gn rfl rfl (bn_t c8)) rfl ?_
                refine TL.q rfl (.g rfl rfl c27) (Ex.py rfl (bn_t c8) rfl) rfl ?_
                refine TL.q rfl .u (Ex.py rfl c27 rfl) rfl ?_
                refine TL.run ft_batch_ok [34] rfl rfl ?_
                obtain rfl := Option.some.inj h
                exact TL.nil (X.seq (T.ret (X.done1 [1] Try.results141 (RV.tm rfl) ⟨rfl, rfl, rfl⟩ (by rfl) (.inl rfl))))
              · replace h := ifF c27 h
                replace c27 := eq_false_of_ne_true c27
                refine TL.run ft_batch_ok [24] rfl rfl ?_
                refine TL.no rfl (.gn rfl rfl c27) rfl ?_
                refine TL.no rfl (.gn rfl rfl c27) rfl ?_
                refine TL.no rfl (.gn rfl rfl c27) rfl ?_
                refine TL.no rfl (.gn rfl rfl c27) rfl ?_
                refine TL.no rfl (.gu rfl rfl) rfl ?_
                refine TL.no rfl (.gu rfl rfl) rfl ?_
                refine TL.no rfl (.gu rfl rfl) rfl ?_
                refine TL.no rfl (.gn rfl rfl c27) rfl ?_
                refine TL.q rfl .u (Ex.pn rfl c27 rfl) rfl ?_
                refine TL.run ft_batch_ok [34] rfl rfl ?_
                obtain rfl := Option.some.inj h
                exact TL.nil (X.seq (T.ret (X.done1 [1] Try.results141 (RV.tm rfl) ⟨rfl, rfl, rfl⟩ (by rfl) (.inl rfl))))
            · replace h := ifF c24 h
              refine TL.run ft_batch_ok [19] rfl rfl ?_
              refine TL.no rfl (.gn rfl rfl (decide_eq_false c24)) rfl ?_
              refine TL.no rfl (.gn rfl rfl (decide_eq_false c24)) rfl ?_
              refine TL.no rfl (.gn rfl rfl (decide_eq_false c24)) rfl ?_
              refine TL.q rfl .u (Ex.pn rfl (decide_eq_false c24) rfl) rfl ?_
              refine TL.run ft_batch_ok [24] rfl rfl ?_
              refine TL.no rfl (.gn rfl rfl rfl) rfl ?_
              refine TL.no rfl (.gn rfl rfl rfl) rfl ?_
              refine TL.no rfl (.gn rfl rfl rfl) rfl ?_
              refine TL.no rfl (.gn rfl rfl rfl) rfl ?_
              refine TL.no rfl (.gu rfl rfl) rfl ?_
              refine TL.no rfl (.gu rfl rfl) rfl ?_
              refine TL.no rfl (.gu rfl rfl) rfl ?_
              refine TL.no rfl (.gn rfl rfl rfl) rfl ?_
              refine TL.q rfl .u (Ex.pn rfl rfl rfl) rfl ?_
              refine TL.run ft_batch_ok [34] rfl rfl ?_
              obtain rfl := Option.some.inj h
              exact TL.nil (X.seq (T.ret (X.done1 [1] Try.results141 (RV.tm rfl) ⟨rfl, rfl, rfl⟩ (by rfl) (.inl rfl))))
          · replace h := ifF c23 h
            replace c23 := eq_false_of_ne_true c23
            refine TL.run ft_batch_ok [13] rfl rfl ?_
            refine TL.no rfl (.gn rfl rfl c23) rfl ?_
            refine TL.no rfl (.gn rfl rfl c23) rfl ?_
            refine TL.no rfl (.gn rfl rfl c23) rfl ?_
            refine TL.no rfl (.gn rfl rfl c23) rfl ?_
            refine TL.q rfl .u (Ex.pn rfl c23 rfl) rfl ?_
            refine TL.run ft_batch_ok [19] rfl rfl ?_
            refine TL.no rfl (.gn rfl rfl rfl) rfl ?_
            refine TL.no rfl (.gn rfl rfl rfl) rfl ?_
            refine TL.no rfl (.gn rfl rfl rfl) rfl ?_
            refine TL.q rfl .u (Ex.pn rfl rfl rfl) rfl ?_
            refine TL.run ft_batch_ok [24] rfl rfl ?_
            refine TL.no rfl (.gn rfl rfl rfl) rfl ?_
            refine TL.no rfl (.gn rfl rfl rfl) rfl ?_
            refine TL.no rfl (.gn rfl rfl rfl) rfl ?_
            refine TL.no rfl (.gn rfl rfl rfl) rfl ?_
            refine TL.no rfl (.gu rfl rfl) rfl ?_
            refine TL.no rfl (.gu rfl rfl) rfl ?_
            refine TL.no rfl (.gu rfl rfl) rfl ?_
            refine TL.no rfl (.gn rfl rfl rfl) rfl ?_
            refine TL.q rfl .u (Ex.pn rfl rfl rfl) rfl ?_
            refine TL.run ft_batch_ok [34] rfl rfl ?_
            obtain rfl := Option.some.inj h
            exact TL.nil (X.seq (T.ret (X.done1 [1] Try.results141 (RV.tm rfl) ⟨rfl, rfl, rfl⟩ (by rfl) (.inl rfl))))
        · replace h := ifF c20 h
          refine TL.run ft_batch_ok [8] rfl rfl ?_
          refine TL.no rfl (.gn rfl rfl (decide_eq_false c20)) rfl ?_
          refine TL.no rfl (.gn rfl rfl (decide_eq_false c20)) rfl ?_
          refine TL.no rfl (.gn rfl rfl (decide_eq_false c20)) rfl ?_
          refine TL.q rfl .u (Ex.pn rfl (decide_eq_false c20) rfl) rfl ?_
          refine TL.run ft_batch_ok [13] rfl rfl ?_
          refine TL.no rfl (.gn rfl rfl rfl) rfl ?_
          refine TL.no rfl (.gn rfl rfl rfl) rfl ?_
          refine TL.no rfl (.gn rfl rfl rfl) rfl ?_
          refine TL.no rfl (.gn rfl rfl rfl) rfl ?_
          refine TL.q rfl .u (Ex.pn rfl rfl rfl) rfl ?_
          refine TL.run ft_batch_ok [19] rfl rfl ?_
          refine TL.no rfl (.gn rfl rfl rfl) rfl ?_
          refine TL.no rfl (.gn rfl rfl rfl) rfl ?_
          refine TL.no rfl (.gn rfl rfl rfl) rfl ?_
          refine TL.q rfl .u (Ex.pn rfl rfl rfl) rfl ?_
          refine TL.run ft_batch_ok [24] rfl rfl ?_
          refine TL.no rfl (.gn rfl rfl rfl) rfl ?_
          refine TL.no rfl (.gn rfl rfl rfl) rfl ?_
          refine TL.no rfl (.gn rfl rfl rfl) rfl ?_
          refine TL.no rfl (.gn rfl rfl rfl) rfl ?_
          refine TL.no rfl (.gu rfl rfl) rfl ?_
          refine TL.no rfl (.gu rfl rfl) rfl ?_
          refine TL.no rfl (.gu rfl rfl) rfl ?_
          refine TL.no rfl (.gn rfl rfl rfl) rfl ?_
          refine TL.q rfl .u (Ex.pn rfl rfl rfl) rfl ?_
          refine TL.run ft_batch_ok [34] rfl rfl ?_
          obtain rfl := Option.some.inj h
          exact TL.nil (X.seq (T.ret (X.done1 [1] Try.results141 (RV.tm rfl) ⟨rfl, rfl, rfl⟩ (by rfl) (.inl rfl))))
      · replace h := ifF c19 h
        refine TL.run ft_batch_ok [2, 3] rfl rfl ?_
        refine TL.no rfl (.gn rfl rfl (decide_eq_false c19)) rfl ?_
        refine TL.no rfl (.gn rfl rfl (decide_eq_false c19)) rfl ?_
        refine TL.no rfl (.gn rfl rfl (decide_eq_false c19)) rfl ?_
        refine TL.q rfl .u (Ex.pn rfl (decide_eq_false c19) rfl) rfl ?_
        refine TL.run ft_batch_ok [8] rfl rfl ?_
        refine TL.no rfl (.gn rfl rfl rfl) rfl ?_
        refine TL.no rfl (.gn rfl rfl rfl) rfl ?_
        refine TL.no rfl (.gn rfl rfl rfl) rfl ?_
        refine TL.q rfl .u (Ex.pn rfl rfl rfl) rfl ?_
        refine TL.run ft_batch_ok [13] rfl rfl ?_
        refine TL.no rfl (.gn rfl rfl rfl) rfl ?_
        refine TL.no rfl (.gn rfl rfl rfl) rfl ?_
        refine TL.no rfl (.gn rfl rfl rfl) rfl ?_
        refine TL.no rfl (.gn rfl rfl rfl) rfl ?_
        refine TL.q rfl .u (Ex.pn rfl rfl rfl) rfl ?_
        refine TL.run ft_batch_ok [19] rfl rfl ?_
        refine TL.no rfl (.gn rfl rfl rfl) rfl ?_
        refine TL.no rfl (.gn rfl rfl rfl) rfl ?_
        refine TL.no rfl (.gn rfl rfl rfl) rfl ?_
        refine TL.q rfl .u (Ex.pn rfl rfl rfl) rfl ?_
        refine TL.run ft_batch_ok [24] rfl rfl ?_
        refine TL.no rfl (.gn rfl rfl rfl) rfl ?_
        refine TL.no rfl (.gn rfl rfl rfl) rfl ?_
        refine TL.no rfl (.gn rfl rfl rfl) rfl ?_
        refine TL.no rfl (.gn rfl rfl rfl) rfl ?_
        refine TL.no rfl (.gu rfl rfl) rfl ?_
        refine TL.no rfl (.gu rfl rfl) rfl ?_
        refine TL.no rfl (.gu rfl rfl) rfl ?_
        refine TL.no rfl (.gn rfl rfl rfl) rfl ?_
        refine TL.q rfl .u (Ex.pn rfl rfl rfl) rfl ?_
        refine TL.run ft_batch_ok [34] rfl rfl ?_
        obtain rfl := Option.some.inj h
        exact TL.nil (X.seq (T.ret (X.done1 [1] Try.results141 (RV.tm rfl) ⟨rfl, rfl, rfl⟩ (by rfl) (.inl rfl))))
def f_batch_records_l1 (a0 : Bat) : List Rec → Int → Int → Int → Option (Lp Int (Int × Int × Int))
  | [], y4, y5, y6 => some (Lp.go (y4, y5, y6))
  | x12 :: xs, y4, y5, y6 => if x12.fOffset ≤ y5 then some (Lp.ret 13) else (if x12.fOffset > a0.fLast then some (Lp.ret 13) else (if (IntKind.i64.wrap (a0.fFirst + x12.fTime)) < 0 then some (Lp.ret 11) else (if x12.fTime > 0 then (if (IntKind.i64.wrap (a0.fFirst + x12.fTime)) < x12.fTime then some (Lp.ret 11) else (if y6 < (IntKind.i64.wrap (a0.fFirst + x12.fTime)) then (f_batch_records_l1 a0 xs y4 x12.fOffset (IntKind.i64.wrap (a0.fFirst + x12.fTime))) else (f_batch_records_l1 a0 xs y4 x12.fOffset y6))) else (if y6 < (IntKind.i64.wrap (a0.fFirst + x12.fTime)) then (f_batch_records_l1 a0 xs y4 x12.fOffset (IntKind.i64.wrap (a0.fFirst + x12.fTime))) else (f_batch_records_l1 a0 xs y4 x12.fOffset y6)))))
def f_batch_records (a0 : Bat) : Option (Int) := (f_batch_records_l1 a0 a0.fRecords 0 (-1) a0.fFirst).bind fun e => match e with | .ret r => some r | .go (y27, y28, y29) => (if a0.fAppend = true then some 0 else (if y29 = a0.fMax then some 0 else some 11))
set_option maxRecDepth 100000 in
set_option maxHeartbeats 4000000 in
theorem f_batch_records_spec (a0 : Bat) (A1 : Option Addr) (c2 : Nat) (r : Int) (h : f_batch_records a0 = some r) : SpecX Try.prog 143 #[.agg #[.int .i64 a0.fBase, .int .i64 a0.fLeader, .bool a0.fAppend, .bool a0.fTxn, .bool a0.fControl, .int .i64 a0.fLast, .int .i64 a0.fFirst, .int .i64 a0.fMax, .int .i64 a0.fProducer, .int .i64 a0.fEpoch, .int .i64 a0.fSequence, .slice A1 a0.fRecords.length c2]] (RX.of (sliceRd 7 Rec_rd) [.slice A1 a0.fRecords.length c2] a0.fRecords) (EmpR) (fun v A' N => v = .int .i64 r ∧ A' = EmpR ∧ N = []) := by
  refine enterA Try.func143 rfl Try.ntmps143 rfl ?_
  intro F w hX
  unfold f_batch_records at h
  refine T.seq (T.region rfl ?_)
  refine TL.box rfl .u rfl rfl (fun b3 => ?_)
  refine TL.run ft_batch_ok [1] rfl rfl ?_
  refine TL.nil (X.seq (T.seq (T.draw (.q 0 (.q 1 (.q 2 (.q 3 .nil)))) [0, 0] rfl mix_batch (NoP.seq np_post) (by kernel_rfl) ?_)))
  refine TD.run ft_batch_ok [0] rfl rfl ?_
  refine TD.q rfl .u (Ex.b1 0 rfl Try.isAgg3 rfl rfl) rfl ?_
  refine TD.run ft_batch_ok [2, 3] rfl rfl ?_
  refine TD.nil (X.seq (T.seq (T.seq (T.region rfl ?_))))
  refine TL.run ft_batch_ok [0] rfl rfl ?_
  refine TL.q rfl .u (Ex.b1 0 rfl Try.isAgg85 rfl rfl) rfl ?_
  refine TL.q rfl .u (Ex.lenS rfl Try.runUnderlying85) rfl ?_
  refine TL.run ft_batch_ok [3] rfl rfl ?_
  refine TL.nil (X.seq (T.block ?_))
  obtain ⟨E8, hE9, hO10⟩ := Option.bind_eq_some_iff.1 h
  have hk14len := RX.len_le hX
  refine T.lp (fun m e Rs => ∃ (y4 : Int) (y5 : Int) (y6 : Int) (k7 : Nat), k7 + m = a0.fRecords.length ∧ e = [(1, .pointer (some ⟨b3, 0, none⟩)), (2, .int .i64 y4), (3, .int .i64 y5), (4, .int .i64 y6), (11, .slice A1 a0.fRecords.length c2), (12, .int .i64 (a0.fRecords.length : Int)), (13, .int .i64 (k7 : Int))] ∧ Rs = [BlkR b3 87 #[.int .i64 a0.fBase, .int .i64 a0.fLeader, .bool a0.fAppend, .bool a0.fTxn, .bool a0.fControl, .int .i64 a0.fLast, .int .i64 a0.fFirst, .int .i64 a0.fMax, .int .i64 a0.fProducer, .int .i64 a0.fEpoch, .int .i64 a0.fSequence, .slice A1 a0.fRecords.length c2], EmpR] ∧ f_batch_records_l1 a0 (a0.fRecords.drop k7) y4 y5 y6 = some E8) (a0.fRecords.length) [0, 0] ⟨0, (-1), a0.fFirst, 0, by simp, rfl, rfl, by rw [List.drop_zero]; exact hE9⟩ (by rfl) (by rfl) ?_
  rintro m11 _ _ ⟨y4, y5, y6, k7, hk14, rfl, rfl, hl13⟩
  clear hE9 h
  cases m11 with
  | zero =>
    have h := hl13
    clear hl13
    rw [List.drop_of_length_le (by omega), f_batch_records_l1] at h
    have hk14ge : ¬ ((k7 : Int) < (a0.fRecords.length : Int)) := by omega
    refine T.seq (T.region rfl ?_)
    refine TL.run ft_batch_ok [0] rfl rfl ?_
    refine TL.nil (X.seq (T.seq ?_))
    refine T.no rfl (decide_eq_false hk14ge) ?_
    obtain rfl := Option.some.inj h
    replace h := hO10
    clear hO10
    try dsimp only at h
    refine T.exit (X.exs (X.exs (X.ex (X.seq (T.seq (T.seq (T.region rfl ?_)))))))
    refine TL.run ft_batch_ok [0] rfl rfl ?_
    refine TL.q rfl .u (Ex.b1 0 rfl Try.isAgg4 rfl rfl) rfl ?_
    by_cases c33 : a0.fAppend = true
    · replace h := ifT c33 h
      refine TL.run ft_batch_ok [2, 3] rfl rfl ?_
      refine TL.no rfl (.gn rfl rfl (bn_f c33)) rfl ?_
      refine TL.no rfl (.gn rfl rfl (bn_f c33)) rfl ?_
      refine TL.no rfl (.gn rfl rfl (bn_f c33)) rfl ?_
      refine TL.no rfl (.gn rfl rfl (bn_f c33)) rfl ?_
      refine TL.q rfl .u (Ex.pn rfl (bn_f c33) rfl) rfl ?_
      refine TL.nil (X.seq ?_)
      refine T.no rfl rfl ?_
      refine T.skip (X.seq (T.seq (T.region rfl ?_)))
      refine TL.run ft_batch_ok [0] rfl rfl ?_
      obtain rfl := Option.some.inj h
      exact TL.nil (X.seq (T.ret (X.done1 [1] Try.results143 (RV.tm rfl) ⟨rfl, rfl, rfl⟩ (by rfl) (.inl rfl))))
    · replace h := ifF c33 h
      replace c33 := eq_false_of_ne_true c33
      refine TL.run ft_batch_ok [2, 3] rfl rfl ?_
      refine TL.q rfl (.g rfl rfl (bn_t c33)) (Ex.ft ft_batch_ok rfl) rfl ?_
      refine TL.q rfl (.g rfl rfl (bn_t c33)) (Ex.ft ft_batch_ok rfl) rfl ?_
      refine TL.q rfl (.g rfl rfl (bn_t c33)) (Ex.b1 0 rfl Try.isAgg3 rfl rfl) rfl ?_
      refine TL.q rfl (.g rfl rfl (bn_t c33)) (Ex.ft ft_batch_ok rfl) rfl ?_
      refine TL.q rfl .u (Ex.py rfl (bn_t c33) rfl) rfl ?_
      by_cases c34 : y6 = a0.fMax
      · replace h := ifT c34 h
        refine TL.nil (X.seq ?_)
        refine T.no rfl (bn_f (decide_eq_true c34)) ?_
        refine T.skip (X.seq (T.seq (T.region rfl ?_)))
        refine TL.run ft_batch_ok [0] rfl rfl ?_
        obtain rfl := Option.some.inj h
        exact TL.nil (X.seq (T.ret (X.done1 [1] Try.results143 (RV.tm rfl) ⟨rfl, rfl, rfl⟩ (by rfl) (.inl rfl))))
      · replace h := ifF c34 h
        refine TL.nil (X.seq ?_)
        refine T.yes rfl (bn_t (decide_eq_false c34)) ?_
        refine T.seq (T.region rfl ?_)
        refine TL.run ft_batch_ok [0] rfl rfl ?_
        obtain rfl := Option.some.inj h
        exact TL.nil (X.seq (T.ret (X.rs (X.done1 [1] Try.results143 (RV.tm rfl) ⟨rfl, rfl, rfl⟩ (by rfl) (.inl rfl)))))
  | succ m11 =>
    have h := hl13
    clear hl13
    obtain ⟨x12, hxx12⟩ : ∃ x, a0.fRecords[k7]? = some x := ⟨_, List.getElem?_eq_getElem (by omega)⟩
    rw [drop_cons hxx12, f_batch_records_l1] at h
    have hk14lt : (k7 : Int) < (a0.fRecords.length : Int) := by omega
    refine T.seq (T.region rfl ?_)
    refine TL.run ft_batch_ok [0] rfl rfl ?_
    refine TL.nil (X.seq (T.seq ?_))
    refine T.yes rfl (decide_eq_true hk14lt) ?_
    obtain ⟨gz15, oz15, rfl, z15cs, z15cl, z15cc, z15nf, z15r⟩ := RX.elem (by decide) hX hxx12
    obtain ⟨z15S, z15r, z15rr⟩ := z15r
    obtain ⟨A16, c17, rfl, z15s0⟩ := z15r
    have hX18 : (RX.of (sliceRd 3 Hd_rd) [.slice A16 x12.fHeaders.length c17] x12.fHeaders).reads w F := ⟨z15S, z15s0, z15rr⟩
    refine T.skip (X.seq (T.seq (T.block (T.seq (T.region rfl ?_)))))
    refine TL.q rfl .u (Ex.ixS (k := k7) rfl rfl rfl Try.runUnderlying85 Try.sizeOf96 (List.getElem?_eq_some_iff.1 hxx12).1) rfl ?_
    refine TL.q rfl .u (Ex.oS (us := [.int .i64 x12.fTime, .int .i64 x12.fOffset, .bool x12.fKey.null, .string (bsOf x12.fKey.data), .bool x12.fValue.null, .string (bsOf x12.fValue.data), .slice A16 x12.fHeaders.length c17]) 0 rfl Try.isAgg96 Try.sizeOf96 z15nf z15cc rfl rfl rfl) rfl ?_
    refine TL.alloc rfl .u Try.zeroValue96 rfl (fun b19 => ?_)
    refine TL.st0 (cs' := #[.int .i64 x12.fTime, .int .i64 x12.fOffset, .bool x12.fKey.null, .string (bsOf x12.fKey.data), .bool x12.fValue.null, .string (bsOf x12.fValue.data), .slice A16 x12.fHeaders.length c17]) rfl .u rfl rfl Try.sizeOf96 rfl rfl rfl rfl ?_
    refine TL.nil (X.seq (T.seq (T.seq (T.region rfl ?_))))
    refine TL.run ft_batch_ok [0] rfl rfl ?_
    refine TL.q rfl .u (Ex.b1 0 rfl Try.isAgg3 rfl rfl) rfl ?_
    by_cases c20 : x12.fOffset ≤ y5
    · replace h := ifT c20 h
      refine TL.run ft_batch_ok [2, 3, 4] rfl rfl ?_
      refine TL.no rfl (.gn rfl rfl (decide_eq_true c20)) rfl ?_
      refine TL.no rfl (.gn rfl rfl (decide_eq_true c20)) rfl ?_
      refine TL.no rfl (.gn rfl rfl (decide_eq_true c20)) rfl ?_
      refine TL.no rfl (.gn rfl rfl (decide_eq_true c20)) rfl ?_
      refine TL.no rfl (.gn rfl rfl (decide_eq_true c20)) rfl ?_
      refine TL.q rfl .u (Ex.py rfl (decide_eq_true c20) rfl) rfl ?_
      refine TL.nil (X.seq ?_)
      refine T.yes rfl rfl ?_
      refine T.seq (T.region rfl ?_)
      refine TL.run ft_batch_ok [0] rfl rfl ?_
      obtain rfl := Option.some.inj h
      replace h := hO10
      clear hO10
      try dsimp only at h
      obtain rfl := Option.some.inj h
      exact TL.nil (X.seq (T.ret (X.rs (X.rb (X.rs (X.rs (X.rb (X.rs (X.done1 [2] Try.results143 (RV.tm rfl) ⟨rfl, rfl, rfl⟩ (by rfl) (.inl rfl))))))))))
    · replace h := ifF c20 h
      refine TL.run ft_batch_ok [2, 3, 4] rfl rfl ?_
      refine TL.q rfl (.g rfl rfl (decide_eq_false c20)) (Ex.ft ft_batch_ok rfl) rfl ?_
      refine TL.q rfl (.g rfl rfl (decide_eq_false c20)) (Ex.b1 0 rfl Try.isAgg3 rfl rfl) rfl ?_
      refine TL.q rfl (.g rfl rfl (decide_eq_false c20)) (Ex.ft ft_batch_ok rfl) rfl ?_
      refine TL.q rfl (.g rfl rfl (decide_eq_false c20)) (Ex.b1 1 rfl Try.isAgg3 rfl rfl) rfl ?_
      refine TL.q rfl (.g rfl rfl (decide_eq_false c20)) (Ex.ft ft_batch_ok rfl) rfl ?_
      refine TL.q rfl .u (Ex.pn rfl (decide_eq_false c20) rfl) rfl ?_
      by_cases c21 : x12.fOffset > a0.fLast
      · replace h := ifT c21 h
        refine TL.nil (X.seq ?_)
        refine T.yes rfl (decide_eq_true c21) ?_
        refine T.seq (T.region rfl ?_)
        refine TL.run ft_batch_ok [0] rfl rfl ?_
        obtain rfl := Option.some.inj h
        replace h := hO10
        clear hO10
        try dsimp only at h
        obtain rfl := Option.some.inj h
        exact TL.nil (X.seq (T.ret (X.rs (X.rb (X.rs (X.rs (X.rb (X.rs (X.done1 [2] Try.results143 (RV.tm rfl) ⟨rfl, rfl, rfl⟩ (by rfl) (.inl rfl))))))))))
      · replace h := ifF c21 h
        refine TL.nil (X.seq ?_)
        refine T.no rfl (decide_eq_false c21) ?_
        refine T.skip (X.seq (T.seq (T.region rfl ?_)))
        refine TL.run ft_batch_ok [0] rfl rfl ?_
        refine TL.q rfl .u (Ex.b1 0 rfl Try.isAgg3 rfl rfl) rfl ?_
        refine TL.run ft_batch_ok [2] rfl rfl ?_
        refine TL.nil (X.seq (T.seq (T.region rfl ?_)))
        refine TL.run ft_batch_ok [0] rfl rfl ?_
        refine TL.q rfl .u (Ex.b1 1 rfl Try.isAgg3 rfl rfl) rfl ?_
        refine TL.run ft_batch_ok [2] rfl rfl ?_
        refine TL.q rfl .u (Ex.b1 0 rfl Try.isAgg3 rfl rfl) rfl ?_
        refine TL.q rfl .u (Ex.addw rfl rfl) rfl ?_
        refine TL.run ft_batch_ok [5] rfl rfl ?_
        refine TL.nil (X.seq (T.seq (T.seq (T.region rfl ?_))))
        by_cases c22 : (IntKind.i64.wrap (a0.fFirst + x12.fTime)) < 0
        · replace h := ifT c22 h
          refine TL.run ft_batch_ok [0, 1, 2] rfl rfl ?_
          refine TL.no rfl (.gn rfl rfl (decide_eq_true c22)) rfl ?_
          refine TL.no rfl (.gn rfl rfl (decide_eq_true c22)) rfl ?_
          refine TL.no rfl (.gn rfl rfl (decide_eq_true c22)) rfl ?_
          refine TL.no rfl (.gn rfl rfl (decide_eq_true c22)) rfl ?_
          refine TL.no rfl (.gu rfl rfl) rfl ?_
          refine TL.no rfl (.gu rfl rfl) rfl ?_
          refine TL.no rfl (.gu rfl rfl) rfl ?_
          refine TL.no rfl (.gu rfl rfl) rfl ?_
          refine TL.no rfl (.gn rfl rfl (decide_eq_true c22)) rfl ?_
          refine TL.q rfl .u (Ex.py rfl (decide_eq_true c22) rfl) rfl ?_
          refine TL.nil (X.seq ?_)
          refine T.yes rfl rfl ?_
          refine T.seq (T.region rfl ?_)
          refine TL.run ft_batch_ok [0] rfl rfl ?_
          obtain rfl := Option.some.inj h
          replace h := hO10
          clear hO10
          try dsimp only at h
          obtain rfl := Option.some.inj h
          exact TL.nil (X.seq (T.ret (X.rs (X.rb (X.rs (X.rs (X.rb (X.rs (X.done1 [2] Try.results143 (RV.tm rfl) ⟨rfl, rfl, rfl⟩ (by rfl) (.inl rfl))))))))))
        · replace h := ifF c22 h
          refine TL.run ft_batch_ok [0, 1, 2] rfl rfl ?_
          refine TL.q rfl (.g rfl rfl (decide_eq_false c22)) (Ex.ft ft_batch_ok rfl) rfl ?_
          refine TL.q rfl (.g rfl rfl (decide_eq_false c22)) (Ex.b1 0 rfl Try.isAgg3 rfl rfl) rfl ?_
          refine TL.q rfl (.g rfl rfl (decide_eq_false c22)) (Ex.ft ft_batch_ok rfl) rfl ?_
          refine TL.q rfl (.g rfl rfl (decide_eq_false c22)) (Ex.ft ft_batch_ok rfl) rfl ?_
          by_cases c23 : x12.fTime > 0
          · replace h := ifT c23 h
            refine TL.q rfl (.g rfl rfl (decide_eq_true c23)) (Ex.ft ft_batch_ok rfl) rfl ?_
            refine TL.q rfl (.g rfl rfl (decide_eq_true c23)) (Ex.ft ft_batch_ok rfl) rfl ?_
            refine TL.q rfl (.g rfl rfl (decide_eq_true c23)) (Ex.b1 0 rfl Try.isAgg3 rfl rfl) rfl ?_
            refine TL.q rfl (.g rfl rfl (decide_eq_true c23)) (Ex.ft ft_batch_ok rfl) rfl ?_
            refine TL.q rfl (.g rfl rfl (decide_eq_false c22)) (Ex.py rfl (decide_eq_true c23) rfl) rfl ?_
            refine TL.q rfl .u (Ex.pn rfl (decide_eq_false c22) rfl) rfl ?_
            by_cases c24 : (IntKind.i64.wrap (a0.fFirst + x12.fTime)) < x12.fTime
            · replace h := ifT c24 h
              refine TL.nil (X.seq ?_)
              refine T.yes rfl (decide_eq_true c24) ?_
              refine T.seq (T.region rfl ?_)
              refine TL.run ft_batch_ok [0] rfl rfl ?_
              obtain rfl := Option.some.inj h
              replace h := hO10
              clear hO10
              try dsimp only at h
              obtain rfl := Option.some.inj h
              exact TL.nil (X.seq (T.ret (X.rs (X.rb (X.rs (X.rs (X.rb (X.rs (X.done1 [2] Try.results143 (RV.tm rfl) ⟨rfl, rfl, rfl⟩ (by rfl) (.inl rfl))))))))))
            · replace h := ifF c24 h
              refine TL.nil (X.seq ?_)
              refine T.no rfl (decide_eq_false c24) ?_
              refine T.skip (X.seq (T.region rfl ?_))
              by_cases c25 : y6 < (IntKind.i64.wrap (a0.fFirst + x12.fTime))
              · replace h := ifT c25 h
                refine TL.run ft_batch_ok [0, 1] rfl rfl ?_
                refine TL.q rfl .u (Ex.maxy rfl rfl c25) rfl ?_
                refine TL.run ft_batch_ok [3] rfl rfl ?_
                refine TL.nil (X.blk (X.seq (T.region rfl ?_)))
                refine TL.q rfl .u (Ex.add rfl rfl (by omega)) rfl ?_
                refine TL.run ft_batch_ok [1] rfl rfl ?_
                exact TL.nil (X.back (m' := m11) [1, 1] (by omega) ⟨y4, x12.fOffset, (IntKind.i64.wrap (a0.fFirst + x12.fTime)), k7 + 1, by omega, rfl, rfl, h⟩ (by rfl) (by rfl))
              · replace h := ifF c25 h
                refine TL.run ft_batch_ok [0, 1] rfl rfl ?_
                refine TL.q rfl .u (Ex.maxx rfl rfl c25) rfl ?_
                refine TL.run ft_batch_ok [3] rfl rfl ?_
                refine TL.nil (X.blk (X.seq (T.region rfl ?_)))
                refine TL.q rfl .u (Ex.add rfl rfl (by omega)) rfl ?_
                refine TL.run ft_batch_ok [1] rfl rfl ?_
                exact TL.nil (X.back (m' := m11) [1, 1] (by omega) ⟨y4, x12.fOffset, y6, k7 + 1, by omega, rfl, rfl, h⟩ (by rfl) (by rfl))
          · replace h := ifF c23 h
            refine TL.no rfl (.gn rfl rfl (decide_eq_false c23)) rfl ?_
            refine TL.no rfl (.gn rfl rfl (decide_eq_false c23)) rfl ?_
            refine TL.no rfl (.gn rfl rfl (decide_eq_false c23)) rfl ?_
            refine TL.no rfl (.gn rfl rfl (decide_eq_false c23)) rfl ?_
            refine TL.q rfl (.g rfl rfl (decide_eq_false c22)) (Ex.pn rfl (decide_eq_false c23) rfl) rfl ?_
            refine TL.q rfl .u (Ex.pn rfl (decide_eq_false c22) rfl) rfl ?_
            refine TL.nil (X.seq ?_)
            refine T.no rfl rfl ?_
            refine T.skip (X.seq (T.region rfl ?_))
            by_cases c26 : y6 < (IntKind.i64.wrap (a0.fFirst + x12.fTime))
            · replace h := ifT c26 h
              refine TL.run ft_batch_ok [0, 1] rfl rfl ?_
              refine TL.q rfl .u (Ex.maxy rfl rfl c26) rfl ?_
              refine TL.run ft_batch_ok [3] rfl rfl ?_
              refine TL.nil (X.blk (X.seq (T.region rfl ?_)))
              refine TL.q rfl .u (Ex.add rfl rfl (by omega)) rfl ?_
              refine TL.run ft_batch_ok [1] rfl rfl ?_
              exact TL.nil (X.back (m' := m11) [1, 1] (by omega) ⟨y4, x12.fOffset, (IntKind.i64.wrap (a0.fFirst + x12.fTime)), k7 + 1, by omega, rfl, rfl, h⟩ (by rfl) (by rfl))
            · replace h := ifF c26 h
              refine TL.run ft_batch_ok [0, 1] rfl rfl ?_
              refine TL.q rfl .u (Ex.maxx rfl rfl c26) rfl ?_
              refine TL.run ft_batch_ok [3] rfl rfl ?_
              refine TL.nil (X.blk (X.seq (T.region rfl ?_)))
              refine TL.q rfl .u (Ex.add rfl rfl (by omega)) rfl ?_
              refine TL.run ft_batch_ok [1] rfl rfl ?_
              exact TL.nil (X.back (m' := m11) [1, 1] (by omega) ⟨y4, x12.fOffset, y6, k7 + 1, by omega, rfl, rfl, h⟩ (by rfl) (by rfl))
def f_batch_Check_l1 : List Rec → Int → Option (Lp Int Int)
  | [], y13 => some (Lp.go y13)
  | x19 :: xs, y13 => (f_record_Right x19).bind fun x27 => if x27 = 0 then (f_batch_Check_l1 xs y13) else some (Lp.ret x27)
def f_batch_Check_l2 : List Rec → Int → Option (Lp Int Int)
  | [], y61 => some (Lp.go y61)
  | x67 :: xs, y61 => (f_record_Right x67).bind fun x75 => if x75 = 0 then (f_batch_Check_l2 xs y61) else some (Lp.ret x75)
def f_batch_Check (a0 : Bat) : Option (Int) := (f_batch_numbers a0).bind fun x4 => if x4 = true then (if a0.fControl = true then (if a0.fTxn = true then ((f_batch_producer a0).bind fun x9 => if x9 = true then (if (a0.fRecords.length : Int) = 1 then ((f_batch_Check_l1 a0.fRecords 0).bind fun e => match e with | .ret r => some r | .go y30 => ((a0.fRecords[0]?).bind fun x32 => (f_control_Read x32).bind fun (x38, x39, x40) => if x40 = 0 then ((f_batch_records a0).bind fun x43 => some x43) else some x40)) else some 10) else some 11) else some 8) else ((f_batch_producer a0).bind fun x58 => if x58 = true then ((f_batch_Check_l2 a0.fRecords 0).bind fun e => match e with | .ret r => some r | .go y78 => ((f_batch_records a0).bind fun x80 => some x80)) else some 11)) else some 11
set_option maxRecDepth 100000 in
set_option maxHeartbeats 4000000 in
theorem f_batch_Check_spec (a0 : Bat) (A1 : Option Addr) (c2 : Nat) (r : Int) (h : f_batch_Check a0 = some r) : SpecX Try.prog 103 #[.agg #[.int .i64 a0.fBase, .int .i64 a0.fLeader, .bool a0.fAppend, .bool a0.fTxn, .bool a0.fControl, .int .i64 a0.fLast, .int .i64 a0.fFirst, .int .i64 a0.fMax, .int .i64 a0.fProducer, .int .i64 a0.fEpoch, .int .i64 a0.fSequence, .slice A1 a0.fRecords.length c2]] (RX.of (sliceRd 7 Rec_rd) [.slice A1 a0.fRecords.length c2] a0.fRecords) (EmpR) (fun v A' N => v = .int .i64 r ∧ A' = EmpR ∧ N = []) := by
  refine enterA Try.func103 rfl Try.ntmps103 rfl ?_
  intro F w hX
  unfold f_batch_Check at h
  refine T.seq (T.region rfl ?_)
  refine TL.box rfl .u rfl rfl (fun b3 => ?_)
  refine TL.run ft_batch_ok [1] rfl rfl ?_
  refine TL.nil (X.seq (T.seq (T.block (T.seq (T.region rfl ?_)))))
  refine TL.q rfl .u (Ex.bS (us := [.int .i64 a0.fBase, .int .i64 a0.fLeader, .bool a0.fAppend, .bool a0.fTxn, .bool a0.fControl, .int .i64 a0.fLast, .int .i64 a0.fFirst, .int .i64 a0.fMax, .int .i64 a0.fProducer, .int .i64 a0.fEpoch, .int .i64 a0.fSequence, .slice A1 a0.fRecords.length c2]) 0 rfl Try.isAgg87 Try.sizeOf87 rfl rfl rfl) rfl ?_
  obtain ⟨x4, hx5, h⟩ := Option.bind_eq_some_iff.1 h
  refine TL.ce rfl .u (.fn Try.call140 rfl) (f_batch_numbers_spec a0 _ _ _ hx5) (fun _ hs => (SrcE.old hs hX)) rfl ?_
  refine TL.run ft_batch_ok [2, 3] rfl rfl ?_
  by_cases c6 : x4 = true
  · replace h := ifT c6 h
    refine TL.nil (X.seq ?_)
    refine T.no rfl (bn_f c6) ?_
    refine T.seq (T.region rfl ?_)
    refine TL.run ft_batch_ok [0] rfl rfl ?_
    refine TL.q rfl .u (Ex.b1 0 rfl Try.isAgg4 rfl rfl) rfl ?_
    by_cases c7 : a0.fControl = true
    · replace h := ifT c7 h
      refine TL.run ft_batch_ok [2] rfl rfl ?_
      refine TL.q rfl (.g rfl rfl c7) (Ex.ft ft_batch_ok rfl) rfl ?_
      refine TL.q rfl (.g rfl rfl c7) (Ex.b1 0 rfl Try.isAgg4 rfl rfl) rfl ?_
      refine TL.q rfl (.g rfl rfl c7) (Ex.ft ft_batch_ok rfl) rfl ?_
      refine TL.q rfl .u (Ex.py rfl c7 rfl) rfl ?_
      refine TL.run ft_batch_ok [7] rfl rfl ?_
      by_cases c8 : a0.fTxn = true
      · replace h := ifT c8 h
        refine TL.nil (X.seq ?_)
        refine T.no rfl (bn_f c8) ?_
        refine T.seq (T.region rfl ?_)
        refine TL.q rfl .u (Ex.bS (us := [.int .i64 a0.fBase, .int .i64 a0.fLeader, .bool a0.fAppend, .bool a0.fTxn, .bool a0.fControl, .int .i64 a0.fLast, .int .i64 a0.fFirst, .int .i64 a0.fMax, .int .i64 a0.fProducer, .int .i64 a0.fEpoch, .int .i64 a0.fSequence, .slice A1 a0.fRecords.length c2]) 0 rfl Try.isAgg87 Try.sizeOf87 rfl rfl rfl) rfl ?_
        obtain ⟨x9, hx10, h⟩ := Option.bind_eq_some_iff.1 h
        refine TL.ce rfl .u (.fn Try.call141 rfl) (f_batch_producer_spec a0 _ _ _ hx10) (fun _ hs => (SrcE.old hs hX)) rfl ?_
        refine TL.run ft_batch_ok [2, 3] rfl rfl ?_
        by_cases c11 : x9 = true
        · replace h := ifT c11 h
          refine TL.nil (X.seq ?_)
          refine T.no rfl (bn_f c11) ?_
          refine T.seq (T.region rfl ?_)
          refine TL.run ft_batch_ok [0] rfl rfl ?_
          refine TL.q rfl .u (Ex.b1 0 rfl Try.isAgg4 rfl rfl) rfl ?_
          refine TL.run ft_batch_ok [2] rfl rfl ?_
          refine TL.q rfl (.g rfl rfl c7) (Ex.ft ft_batch_ok rfl) rfl ?_
          refine TL.q rfl (.g rfl rfl c7) (Ex.b1 0 rfl Try.isAgg85 rfl rfl) rfl ?_
          refine TL.q rfl (.g rfl rfl c7) (Ex.lenS rfl Try.runUnderlying85) rfl ?_
          refine TL.q rfl (.g rfl rfl c7) (Ex.ft ft_batch_ok rfl) rfl ?_
          refine TL.q rfl .u (Ex.py rfl c7 rfl) rfl ?_
          refine TL.run ft_batch_ok [8] rfl rfl ?_
          by_cases c12 : (a0.fRecords.length : Int) = 1
          · replace h := ifT c12 h
            refine TL.nil (X.seq ?_)
            refine T.no rfl (bn_f (decide_eq_true c12)) ?_
            refine T.skip (X.blk (X.seq (T.seq (T.seq (T.region rfl ?_)))))
            refine TL.run ft_batch_ok [0] rfl rfl ?_
            refine TL.q rfl .u (Ex.b1 0 rfl Try.isAgg85 rfl rfl) rfl ?_
            refine TL.q rfl .u (Ex.lenS rfl Try.runUnderlying85) rfl ?_
            refine TL.run ft_batch_ok [3] rfl rfl ?_
            refine TL.nil (X.seq (T.block ?_))
            obtain ⟨E15, hE16, hO17⟩ := Option.bind_eq_some_iff.1 h
            have hk21len := RX.len_le hX
            refine T.lp (fun m e Rs => ∃ (y13 : Int) (k14 : Nat), k14 + m = a0.fRecords.length ∧ e = [(1, .pointer (some ⟨b3, 0, none⟩)), (2, .int .i64 y13), (35, .slice A1 a0.fRecords.length c2), (36, .int .i64 (a0.fRecords.length : Int)), (37, .int .i64 (k14 : Int))] ∧ Rs = [BlkR b3 87 #[.int .i64 a0.fBase, .int .i64 a0.fLeader, .bool a0.fAppend, .bool a0.fTxn, .bool a0.fControl, .int .i64 a0.fLast, .int .i64 a0.fFirst, .int .i64 a0.fMax, .int .i64 a0.fProducer, .int .i64 a0.fEpoch, .int .i64 a0.fSequence, .slice A1 a0.fRecords.length c2], EmpR] ∧ f_batch_Check_l1 (a0.fRecords.drop k14) y13 = some E15) (a0.fRecords.length) [0, 0] ⟨0, 0, by simp, rfl, rfl, by rw [List.drop_zero]; exact hE16⟩ (by rfl) (by rfl) ?_
            rintro m18 _ _ ⟨y13, k14, hk21, rfl, rfl, hl20⟩
            clear hE16 h
            cases m18 with
            | zero =>
              have h := hl20
              clear hl20
              rw [List.drop_of_length_le (by omega), f_batch_Check_l1] at h
              have hk21ge : ¬ ((k14 : Int) < (a0.fRecords.length : Int)) := by omega
              refine T.seq (T.region rfl ?_)
              refine TL.run ft_batch_ok [0] rfl rfl ?_
              refine TL.nil (X.seq (T.seq ?_))
              refine T.no rfl (decide_eq_false hk21ge) ?_
              obtain rfl := Option.some.inj h
              replace h := hO17
              clear hO17
              try dsimp only at h
              refine T.exit (X.exs (X.exs (X.ex (X.seq (T.seq (T.seq (T.region rfl ?_)))))))
              refine TL.run ft_batch_ok [0] rfl rfl ?_
              refine TL.q rfl .u (Ex.b1 0 rfl Try.isAgg4 rfl rfl) rfl ?_
              refine TL.nil (X.seq ?_)
              refine T.yes rfl c7 ?_
              refine T.seq (T.region rfl ?_)
              refine TL.run ft_batch_ok [0] rfl rfl ?_
              refine TL.q rfl .u (Ex.b1 0 rfl Try.isAgg85 rfl rfl) rfl ?_
              obtain ⟨x45, hx46, h⟩ := Option.bind_eq_some_iff.1 h
              obtain ⟨gz47, oz47, rfl, z47cs, z47cl, z47cc, z47nf, z47r⟩ := RX.elem (by decide) hX hx46
              obtain ⟨z47S, z47r, z47rr⟩ := z47r
              obtain ⟨A48, c49, rfl, z47s0⟩ := z47r
              have hX50 : (RX.of (sliceRd 3 Hd_rd) [.slice A48 x45.fHeaders.length c49] x45.fHeaders).reads w F := ⟨z47S, z47s0, z47rr⟩
              refine TL.q rfl .u (Ex.ixS (k := 0) rfl rfl rfl Try.runUnderlying85 Try.sizeOf96 (List.getElem?_eq_some_iff.1 hx46).1) rfl ?_
              refine TL.q rfl .u (Ex.oS (us := [.int .i64 x45.fTime, .int .i64 x45.fOffset, .bool x45.fKey.null, .string (bsOf x45.fKey.data), .bool x45.fValue.null, .string (bsOf x45.fValue.data), .slice A48 x45.fHeaders.length c49]) 0 rfl Try.isAgg96 Try.sizeOf96 z47nf z47cc rfl rfl rfl) rfl ?_
              obtain ⟨⟨x51, x52, x53⟩, hx54, h⟩ := Option.bind_eq_some_iff.1 h
              try dsimp only at h
              refine TL.ce rfl .u (.fn Try.call104 rfl) (f_control_Read_spec x45 _ _ _ hx54) (fun _ hs => (SrcE.old hs hX50)) rfl ?_
              refine TL.run ft_batch_ok [5, 6, 7, 8, 9, 10, 11] rfl rfl ?_
              refine TL.nil (X.seq (T.seq (T.region rfl ?_)))
              refine TL.run ft_batch_ok [0, 1] rfl rfl ?_
              by_cases c55 : x53 = 0
              · replace h := ifT c55 h
                refine TL.nil (X.seq ?_)
                refine T.no rfl (bn_f (decide_eq_true c55)) ?_
                refine T.skip (X.seq (T.seq (T.region rfl ?_)))
                refine TL.q rfl .u (Ex.bS (us := [.int .i64 a0.fBase, .int .i64 a0.fLeader, .bool a0.fAppend, .bool a0.fTxn, .bool a0.fControl, .int .i64 a0.fLast, .int .i64 a0.fFirst, .int .i64 a0.fMax, .int .i64 a0.fProducer, .int .i64 a0.fEpoch, .int .i64 a0.fSequence, .slice (some ⟨gz47, oz47, none⟩) a0.fRecords.length c2]) 0 rfl Try.isAgg87 Try.sizeOf87 rfl rfl rfl) rfl ?_
                obtain ⟨x56, hx57, h⟩ := Option.bind_eq_some_iff.1 h
                refine TL.ce rfl .u (.fn Try.call143 rfl) (f_batch_records_spec a0 _ _ _ hx57) (fun _ hs => (SrcE.old hs hX)) rfl ?_
                refine TL.run ft_batch_ok [2] rfl rfl ?_
                obtain rfl := Option.some.inj h
                exact TL.nil (X.seq (T.ret (X.done1 [1] Try.results103 (RV.tm rfl) ⟨rfl, rfl, rfl⟩ (by rfl) (.inl rfl))))
              · replace h := ifF c55 h
                refine TL.nil (X.seq ?_)
                refine T.yes rfl (bn_t (decide_eq_false c55)) ?_
                refine T.seq (T.region rfl ?_)
                refine TL.run ft_batch_ok [0, 1] rfl rfl ?_
                obtain rfl := Option.some.inj h
                exact TL.nil (X.seq (T.ret (X.rs (X.done1 [1] Try.results103 (RV.tm rfl) ⟨rfl, rfl, rfl⟩ (by rfl) (.inl rfl)))))
            | succ m18 =>
              have h := hl20
              clear hl20
              obtain ⟨x19, hxx19⟩ : ∃ x, a0.fRecords[k14]? = some x := ⟨_, List.getElem?_eq_getElem (by omega)⟩
              rw [drop_cons hxx19, f_batch_Check_l1] at h
              have hk21lt : (k14 : Int) < (a0.fRecords.length : Int) := by omega
              refine T.seq (T.region rfl ?_)
              refine TL.run ft_batch_ok [0] rfl rfl ?_
              refine TL.nil (X.seq (T.seq ?_))
              refine T.yes rfl (decide_eq_true hk21lt) ?_
              obtain ⟨gz22, oz22, rfl, z22cs, z22cl, z22cc, z22nf, z22r⟩ := RX.elem (by decide) hX hxx19
              obtain ⟨z22S, z22r, z22rr⟩ := z22r
              obtain ⟨A23, c24, rfl, z22s0⟩ := z22r
              have hX25 : (RX.of (sliceRd 3 Hd_rd) [.slice A23 x19.fHeaders.length c24] x19.fHeaders).reads w F := ⟨z22S, z22s0, z22rr⟩
              refine T.skip (X.seq (T.seq (T.block (T.seq (T.region rfl ?_)))))
              refine TL.q rfl .u (Ex.ixS (k := k14) rfl rfl rfl Try.runUnderlying85 Try.sizeOf96 (List.getElem?_eq_some_iff.1 hxx19).1) rfl ?_
              refine TL.q rfl .u (Ex.oS (us := [.int .i64 x19.fTime, .int .i64 x19.fOffset, .bool x19.fKey.null, .string (bsOf x19.fKey.data), .bool x19.fValue.null, .string (bsOf x19.fValue.data), .slice A23 x19.fHeaders.length c24]) 0 rfl Try.isAgg96 Try.sizeOf96 z22nf z22cc rfl rfl rfl) rfl ?_
              refine TL.alloc rfl .u Try.zeroValue96 rfl (fun b26 => ?_)
              refine TL.st0 (cs' := #[.int .i64 x19.fTime, .int .i64 x19.fOffset, .bool x19.fKey.null, .string (bsOf x19.fKey.data), .bool x19.fValue.null, .string (bsOf x19.fValue.data), .slice A23 x19.fHeaders.length c24]) rfl .u rfl rfl Try.sizeOf96 rfl rfl rfl rfl ?_
              refine TL.nil (X.seq (T.seq (T.region rfl ?_)))
              refine TL.q rfl .u (Ex.bS (us := [.int .i64 x19.fTime, .int .i64 x19.fOffset, .bool x19.fKey.null, .string (bsOf x19.fKey.data), .bool x19.fValue.null, .string (bsOf x19.fValue.data), .slice A23 x19.fHeaders.length c24]) 0 rfl Try.isAgg96 Try.sizeOf96 rfl rfl rfl) rfl ?_
              obtain ⟨x27, hx28, h⟩ := Option.bind_eq_some_iff.1 h
              refine TL.ce rfl .u (.fn Try.call142 rfl) (f_record_Right_spec x19 _ _ _ hx28) (fun _ hs => (SrcE.old hs hX25)) rfl ?_
              refine TL.run ft_batch_ok [2] rfl rfl ?_
              refine TL.nil (X.seq (T.seq (T.region rfl ?_)))
              refine TL.run ft_batch_ok [0, 1] rfl rfl ?_
              by_cases c29 : x27 = 0
              · replace h := ifT c29 h
                refine TL.nil (X.seq ?_)
                refine T.no rfl (bn_f (decide_eq_true c29)) ?_
                refine T.skip (X.blk (X.seq (T.region rfl ?_)))
                refine TL.q rfl .u (Ex.add rfl rfl (by omega)) rfl ?_
                refine TL.run ft_batch_ok [1] rfl rfl ?_
                exact TL.nil (X.back (m' := m18) [1, 1] (by omega) ⟨y13, k14 + 1, by omega, rfl, rfl, h⟩ (by rfl) (by rfl))
              · replace h := ifF c29 h
                refine TL.nil (X.seq ?_)
                refine T.yes rfl (bn_t (decide_eq_false c29)) ?_
                refine T.seq (T.region rfl ?_)
                refine TL.run ft_batch_ok [0, 1] rfl rfl ?_
                obtain rfl := Option.some.inj h
                replace h := hO17
                clear hO17
                try dsimp only at h
                obtain rfl := Option.some.inj h
                exact TL.nil (X.seq (T.ret (X.rb (X.rs (X.rs (X.rb (X.rs (X.done1 [2] Try.results103 (RV.tm rfl) ⟨rfl, rfl, rfl⟩ (by rfl) (.inl rfl)))))))))
          · replace h := ifF c12 h
            refine TL.nil (X.seq ?_)
            refine T.yes rfl (bn_t (decide_eq_false c12)) ?_
            refine T.seq (T.region rfl ?_)
            refine TL.run ft_batch_ok [0] rfl rfl ?_
            obtain rfl := Option.some.inj h
            exact TL.nil (X.seq (T.ret (X.rb (X.rs (X.done1 [1] Try.results103 (RV.tm rfl) ⟨rfl, rfl, rfl⟩ (by rfl) (.inl rfl))))))
        · replace h := ifF c11 h
          replace c11 := eq_false_of_ne_true c11
          refine TL.nil (X.seq ?_)
          refine T.yes rfl (bn_t c11) ?_
          refine T.seq (T.region rfl ?_)
          refine TL.run ft_batch_ok [0] rfl rfl ?_
          obtain rfl := Option.some.inj h
          exact TL.nil (X.seq (T.ret (X.rb (X.rs (X.done1 [1] Try.results103 (RV.tm rfl) ⟨rfl, rfl, rfl⟩ (by rfl) (.inl rfl))))))
      · replace h := ifF c8 h
        replace c8 := eq_false_of_ne_true c8
        refine TL.nil (X.seq ?_)
        refine T.yes rfl (bn_t c8) ?_
        refine T.seq (T.region rfl ?_)
        refine TL.run ft_batch_ok [0] rfl rfl ?_
        obtain rfl := Option.some.inj h
        exact TL.nil (X.seq (T.ret (X.rb (X.rs (X.done1 [1] Try.results103 (RV.tm rfl) ⟨rfl, rfl, rfl⟩ (by rfl) (.inl rfl))))))
    · replace h := ifF c7 h
      replace c7 := eq_false_of_ne_true c7
      refine TL.run ft_batch_ok [2] rfl rfl ?_
      refine TL.no rfl (.gn rfl rfl c7) rfl ?_
      refine TL.no rfl (.gn rfl rfl c7) rfl ?_
      refine TL.no rfl (.gn rfl rfl c7) rfl ?_
      refine TL.q rfl .u (Ex.pn rfl c7 rfl) rfl ?_
      refine TL.run ft_batch_ok [7] rfl rfl ?_
      refine TL.nil (X.seq ?_)
      refine T.no rfl rfl ?_
      refine T.seq (T.region rfl ?_)
      refine TL.q rfl .u (Ex.bS (us := [.int .i64 a0.fBase, .int .i64 a0.fLeader, .bool a0.fAppend, .bool a0.fTxn, .bool a0.fControl, .int .i64 a0.fLast, .int .i64 a0.fFirst, .int .i64 a0.fMax, .int .i64 a0.fProducer, .int .i64 a0.fEpoch, .int .i64 a0.fSequence, .slice A1 a0.fRecords.length c2]) 0 rfl Try.isAgg87 Try.sizeOf87 rfl rfl rfl) rfl ?_
      obtain ⟨x58, hx59, h⟩ := Option.bind_eq_some_iff.1 h
      refine TL.ce rfl .u (.fn Try.call141 rfl) (f_batch_producer_spec a0 _ _ _ hx59) (fun _ hs => (SrcE.old hs hX)) rfl ?_
      refine TL.run ft_batch_ok [2, 3] rfl rfl ?_
      by_cases c60 : x58 = true
      · replace h := ifT c60 h
        refine TL.nil (X.seq ?_)
        refine T.no rfl (bn_f c60) ?_
        refine T.seq (T.region rfl ?_)
        refine TL.run ft_batch_ok [0] rfl rfl ?_
        refine TL.q rfl .u (Ex.b1 0 rfl Try.isAgg4 rfl rfl) rfl ?_
        refine TL.run ft_batch_ok [2] rfl rfl ?_
        refine TL.no rfl (.gn rfl rfl c7) rfl ?_
        refine TL.no rfl (.gn rfl rfl c7) rfl ?_
        refine TL.no rfl (.gn rfl rfl c7) rfl ?_
        refine TL.no rfl (.gn rfl rfl c7) rfl ?_
        refine TL.q rfl .u (Ex.pn rfl c7 rfl) rfl ?_
        refine TL.run ft_batch_ok [8] rfl rfl ?_
        refine TL.nil (X.seq ?_)
        refine T.no rfl rfl ?_
        refine T.skip (X.blk (X.seq (T.seq (T.seq (T.region rfl ?_)))))
        refine TL.run ft_batch_ok [0] rfl rfl ?_
        refine TL.q rfl .u (Ex.b1 0 rfl Try.isAgg85 rfl rfl) rfl ?_
        refine TL.q rfl .u (Ex.lenS rfl Try.runUnderlying85) rfl ?_
        refine TL.run ft_batch_ok [3] rfl rfl ?_
        refine TL.nil (X.seq (T.block ?_))
        obtain ⟨E63, hE64, hO65⟩ := Option.bind_eq_some_iff.1 h
        have hk69len := RX.len_le hX
        refine T.lp (fun m e Rs => ∃ (y61 : Int) (k62 : Nat), k62 + m = a0.fRecords.length ∧ e = [(1, .pointer (some ⟨b3, 0, none⟩)), (2, .int .i64 y61), (35, .slice A1 a0.fRecords.length c2), (36, .int .i64 (a0.fRecords.length : Int)), (37, .int .i64 (k62 : Int))] ∧ Rs = [BlkR b3 87 #[.int .i64 a0.fBase, .int .i64 a0.fLeader, .bool a0.fAppend, .bool a0.fTxn, .bool a0.fControl, .int .i64 a0.fLast, .int .i64 a0.fFirst, .int .i64 a0.fMax, .int .i64 a0.fProducer, .int .i64 a0.fEpoch, .int .i64 a0.fSequence, .slice A1 a0.fRecords.length c2], EmpR] ∧ f_batch_Check_l2 (a0.fRecords.drop k62) y61 = some E63) (a0.fRecords.length) [0, 0] ⟨0, 0, by simp, rfl, rfl, by rw [List.drop_zero]; exact hE64⟩ (by rfl) (by rfl) ?_
        rintro m66 _ _ ⟨y61, k62, hk69, rfl, rfl, hl68⟩
        clear hE64 h
        cases m66 with
        | zero =>
          have h := hl68
          clear hl68
          rw [List.drop_of_length_le (by omega), f_batch_Check_l2] at h
          have hk69ge : ¬ ((k62 : Int) < (a0.fRecords.length : Int)) := by omega
          refine T.seq (T.region rfl ?_)
          refine TL.run ft_batch_ok [0] rfl rfl ?_
          refine TL.nil (X.seq (T.seq ?_))
          refine T.no rfl (decide_eq_false hk69ge) ?_
          obtain rfl := Option.some.inj h
          replace h := hO65
          clear hO65
          try dsimp only at h
          refine T.exit (X.exs (X.exs (X.ex (X.seq (T.seq (T.seq (T.region rfl ?_)))))))
          refine TL.run ft_batch_ok [0] rfl rfl ?_
          refine TL.q rfl .u (Ex.b1 0 rfl Try.isAgg4 rfl rfl) rfl ?_
          refine TL.nil (X.seq ?_)
          refine T.no rfl c7 ?_
          refine T.skip (X.seq (T.seq (T.region rfl ?_)))
          refine TL.q rfl .u (Ex.bS (us := [.int .i64 a0.fBase, .int .i64 a0.fLeader, .bool a0.fAppend, .bool a0.fTxn, .bool a0.fControl, .int .i64 a0.fLast, .int .i64 a0.fFirst, .int .i64 a0.fMax, .int .i64 a0.fProducer, .int .i64 a0.fEpoch, .int .i64 a0.fSequence, .slice A1 a0.fRecords.length c2]) 0 rfl Try.isAgg87 Try.sizeOf87 rfl rfl rfl) rfl ?_
          obtain ⟨x82, hx83, h⟩ := Option.bind_eq_some_iff.1 h
          refine TL.ce rfl .u (.fn Try.call143 rfl) (f_batch_records_spec a0 _ _ _ hx83) (fun _ hs => (SrcE.old hs hX)) rfl ?_
          refine TL.run ft_batch_ok [2] rfl rfl ?_
          obtain rfl := Option.some.inj h
          exact TL.nil (X.seq (T.ret (X.done1 [1] Try.results103 (RV.tm rfl) ⟨rfl, rfl, rfl⟩ (by rfl) (.inl rfl))))
        | succ m66 =>
          have h := hl68
          clear hl68
          obtain ⟨x67, hxx67⟩ : ∃ x, a0.fRecords[k62]? = some x := ⟨_, List.getElem?_eq_getElem (by omega)⟩
          rw [drop_cons hxx67, f_batch_Check_l2] at h
          have hk69lt : (k62 : Int) < (a0.fRecords.length : Int) := by omega
          refine T.seq (T.region rfl ?_)
          refine TL.run ft_batch_ok [0] rfl rfl ?_
          refine TL.nil (X.seq (T.seq ?_))
          refine T.yes rfl (decide_eq_true hk69lt) ?_
          obtain ⟨gz70, oz70, rfl, z70cs, z70cl, z70cc, z70nf, z70r⟩ := RX.elem (by decide) hX hxx67
          obtain ⟨z70S, z70r, z70rr⟩ := z70r
          obtain ⟨A71, c72, rfl, z70s0⟩ := z70r
          have hX73 : (RX.of (sliceRd 3 Hd_rd) [.slice A71 x67.fHeaders.length c72] x67.fHeaders).reads w F := ⟨z70S, z70s0, z70rr⟩
          refine T.skip (X.seq (T.seq (T.block (T.seq (T.region rfl ?_)))))
          refine TL.q rfl .u (Ex.ixS (k := k62) rfl rfl rfl Try.runUnderlying85 Try.sizeOf96 (List.getElem?_eq_some_iff.1 hxx67).1) rfl ?_
          refine TL.q rfl .u (Ex.oS (us := [.int .i64 x67.fTime, .int .i64 x67.fOffset, .bool x67.fKey.null, .string (bsOf x67.fKey.data), .bool x67.fValue.null, .string (bsOf x67.fValue.data), .slice A71 x67.fHeaders.length c72]) 0 rfl Try.isAgg96 Try.sizeOf96 z70nf z70cc rfl rfl rfl) rfl ?_
          refine TL.alloc rfl .u Try.zeroValue96 rfl (fun b74 => ?_)
          refine TL.st0 (cs' := #[.int .i64 x67.fTime, .int .i64 x67.fOffset, .bool x67.fKey.null, .string (bsOf x67.fKey.data), .bool x67.fValue.null, .string (bsOf x67.fValue.data), .slice A71 x67.fHeaders.length c72]) rfl .u rfl rfl Try.sizeOf96 rfl rfl rfl rfl ?_
          refine TL.nil (X.seq (T.seq (T.region rfl ?_)))
          refine TL.q rfl .u (Ex.bS (us := [.int .i64 x67.fTime, .int .i64 x67.fOffset, .bool x67.fKey.null, .string (bsOf x67.fKey.data), .bool x67.fValue.null, .string (bsOf x67.fValue.data), .slice A71 x67.fHeaders.length c72]) 0 rfl Try.isAgg96 Try.sizeOf96 rfl rfl rfl) rfl ?_
          obtain ⟨x75, hx76, h⟩ := Option.bind_eq_some_iff.1 h
          refine TL.ce rfl .u (.fn Try.call142 rfl) (f_record_Right_spec x67 _ _ _ hx76) (fun _ hs => (SrcE.old hs hX73)) rfl ?_
          refine TL.run ft_batch_ok [2] rfl rfl ?_
          refine TL.nil (X.seq (T.seq (T.region rfl ?_)))
          refine TL.run ft_batch_ok [0, 1] rfl rfl ?_
          by_cases c77 : x75 = 0
          · replace h := ifT c77 h
            refine TL.nil (X.seq ?_)
            refine T.no rfl (bn_f (decide_eq_true c77)) ?_
            refine T.skip (X.blk (X.seq (T.region rfl ?_)))
            refine TL.q rfl .u (Ex.add rfl rfl (by omega)) rfl ?_
            refine TL.run ft_batch_ok [1] rfl rfl ?_
            exact TL.nil (X.back (m' := m66) [1, 1] (by omega) ⟨y61, k62 + 1, by omega, rfl, rfl, h⟩ (by rfl) (by rfl))
          · replace h := ifF c77 h
            refine TL.nil (X.seq ?_)
            refine T.yes rfl (bn_t (decide_eq_false c77)) ?_
            refine T.seq (T.region rfl ?_)
            refine TL.run ft_batch_ok [0, 1] rfl rfl ?_
            obtain rfl := Option.some.inj h
            replace h := hO65
            clear hO65
            try dsimp only at h
            obtain rfl := Option.some.inj h
            exact TL.nil (X.seq (T.ret (X.rb (X.rs (X.rs (X.rb (X.rs (X.done1 [2] Try.results103 (RV.tm rfl) ⟨rfl, rfl, rfl⟩ (by rfl) (.inl rfl)))))))))
      · replace h := ifF c60 h
        replace c60 := eq_false_of_ne_true c60
        refine TL.nil (X.seq ?_)
        refine T.yes rfl (bn_t c60) ?_
        refine T.seq (T.region rfl ?_)
        refine TL.run ft_batch_ok [0] rfl rfl ?_
        obtain rfl := Option.some.inj h
        exact TL.nil (X.seq (T.ret (X.rb (X.rs (X.done1 [1] Try.results103 (RV.tm rfl) ⟨rfl, rfl, rfl⟩ (by rfl) (.inl rfl))))))
  · replace h := ifF c6 h
    replace c6 := eq_false_of_ne_true c6
    refine TL.nil (X.seq ?_)
    refine T.yes rfl (bn_t c6) ?_
    refine T.seq (T.region rfl ?_)
    refine TL.run ft_batch_ok [0] rfl rfl ?_
    obtain rfl := Option.some.inj h
    exact TL.nil (X.seq (T.ret (X.rb (X.rs (X.done1 [1] Try.results103 (RV.tm rfl) ⟨rfl, rfl, rfl⟩ (by rfl) (.inl rfl))))))
end Go.Proofs.Ytdlpmcbglmgpiaa.Sl
