/- tallyPoints_holds: part 2. -/
import Derived.Test.YtahjmpipllajcaaK1
namespace Go.Proofs.Ytahjmpipllajcaa.Sl
open Go.RowKit
set_option linter.unusedVariables false
set_option linter.unusedSimpArgs false
set_option maxRecDepth 100000
def ft_batch : FTab := [(36, 0, 0), (36, 1, 1), (36, 2, 2), (36, 3, 3), (36, 4, 4), (36, 5, 5), (36, 6, 6), (36, 7, 7), (36, 8, 8), (36, 9, 9), (36, 10, 10), (36, 11, 11), (83, 0, 0), (83, 1, 1), (105, 0, 0), (105, 1, 1), (105, 2, 2), (105, 3, 3), (105, 4, 4), (105, 5, 5), (105, 6, 6), (105, 7, 7), (105, 8, 8), (105, 9, 9), (105, 10, 10), (105, 11, 11)]
theorem ft_batch_ok : (ft_batch).OK Try.prog := ⟨FOK.mk Try.runUnderlying36 rfl Try.sizeOf3 rfl, FOK.mk Try.runUnderlying36 rfl Try.sizeOf3 rfl, FOK.mk Try.runUnderlying36 rfl Try.sizeOf4 rfl, FOK.mk Try.runUnderlying36 rfl Try.sizeOf4 rfl, FOK.mk Try.runUnderlying36 rfl Try.sizeOf4 rfl, FOK.mk Try.runUnderlying36 rfl Try.sizeOf3 rfl, FOK.mk Try.runUnderlying36 rfl Try.sizeOf3 rfl, FOK.mk Try.runUnderlying36 rfl Try.sizeOf3 rfl, FOK.mk Try.runUnderlying36 rfl Try.sizeOf3 rfl, FOK.mk Try.runUnderlying36 rfl Try.sizeOf3 rfl, FOK.mk Try.runUnderlying36 rfl Try.sizeOf3 rfl, FOK.mk Try.runUnderlying36 rfl Try.sizeOf34 rfl, FOK.mk Try.runUnderlying83 rfl Try.sizeOf3 rfl, FOK.mk Try.runUnderlying83 rfl Try.sizeOf3 rfl, FOK.mk Try.runUnderlying105 rfl Try.sizeOf3 rfl, FOK.mk Try.runUnderlying105 rfl Try.sizeOf3 rfl, FOK.mk Try.runUnderlying105 rfl Try.sizeOf3 rfl, FOK.mk Try.runUnderlying105 rfl Try.sizeOf3 rfl, FOK.mk Try.runUnderlying105 rfl Try.sizeOf3 rfl, FOK.mk Try.runUnderlying105 rfl Try.sizeOf3 rfl, FOK.mk Try.runUnderlying105 rfl Try.sizeOf3 rfl, FOK.mk Try.runUnderlying105 rfl Try.sizeOf3 rfl, FOK.mk Try.runUnderlying105 rfl Try.sizeOf3 rfl, FOK.mk Try.runUnderlying105 rfl Try.sizeOf3 rfl, FOK.mk Try.runUnderlying105 rfl Try.sizeOf3 rfl, FOK.mk Try.runUnderlying105 rfl Try.sizeOf3 rfl, trivial⟩
theorem mix_batch : Try.prog.follows .mixedOrders = true := by kernel_rfl
theorem bok_batch_100 : BOK Try.prog 100 #[.slice none 0 0, .int .i64 0] [(0, 1), (1, 1)] := BOK.mk Try.zeroValue100 Try.runUnderlying100 (by intro w; simp)
theorem bok_batch_105 : BOK Try.prog 105 #[.int .i64 0, .int .i64 0, .int .i64 0, .int .i64 0, .int .i64 0, .int .i64 0, .int .i64 0, .int .i64 0, .int .i64 0, .int .i64 0, .int .i64 0, .int .i64 0] [(0, 1), (1, 1), (2, 1), (3, 1), (4, 1), (5, 1), (6, 1), (7, 1), (8, 1), (9, 1), (10, 1), (11, 1)] := BOK.mk Try.zeroValue105 Try.runUnderlying105 (by intro w; simp)
theorem sok_batch_39_2 : SOK Try.prog 39 9 2 1 #[.string ⟨#[]⟩, .string ⟨#[]⟩] := SOK.mk Try.runUnderlying39 Try.sizeOf9 Try.zeroValue9 (by decide) (by kernel_rfl)
def f_batch_numbers (a0 : Bat) : Option (Bool) := if a0.fBase ≥ 0 then (if a0.fLeader ≥ (-1) then ((gFits a0.fLeader 4).bind fun x6 => if x6 = true then (if a0.fLast ≥ 0 then ((gFits a0.fLast 4).bind fun x10 => if x10 = true then (if (IntKind.i64.wrap (a0.fBase + a0.fLast)) ≥ 0 then (if a0.fFirst ≥ 0 then (if a0.fMax ≥ 0 then some true else some false) else some false) else some false) else some false) else some false) else some false) else some false) else some false
set_option maxRecDepth 100000 in
set_option maxHeartbeats 4000000 in
theorem f_batch_numbers_spec (a0 : Bat) (A1 : Option Addr) (c2 : Nat) (r : Bool) (h : f_batch_numbers a0 = some r) : SpecX Try.prog 43 #[.agg #[.int .i64 a0.fBase, .int .i64 a0.fLeader, .bool a0.fAppend, .bool a0.fTxn, .bool a0.fControl, .int .i64 a0.fLast, .int .i64 a0.fFirst, .int .i64 a0.fMax, .int .i64 a0.fProducer, .int .i64 a0.fEpoch, .int .i64 a0.fSequence, .slice A1 a0.fRecords.length c2]] (RX.of (sliceRd 7 Rec_rd) [.slice A1 a0.fRecords.length c2] a0.fRecords) (EmpR) (fun v A' N => v = .bool r ∧ A' = EmpR ∧ N = []) := by
  refine enterA Try.func43 rfl Try.ntmps43 rfl ?_
  intro F w hX
  unfold f_batch_numbers at h
  refine T.seq (T.region rfl ?_)
  refine TL.box rfl .u rfl rfl (fun b3 => ?_)
  refine TL.run ft_batch_ok [1] rfl rfl ?_
  refine TL.nil (X.seq (T.seq (T.region rfl ?_)))
  refine TL.run ft_batch_ok [0] rfl rfl ?_
  refine TL.q rfl .u (Ex.b1 0 rfl Try.isAgg3 rfl rfl) rfl ?_
  by_cases c4 : a0.fBase ≥ 0
  · replace h := ifT c4 h
    refine TL.run ft_batch_ok [2, 3] rfl rfl ?_
    refine TL.q rfl (.g rfl rfl (decide_eq_true c4)) (Ex.ft ft_batch_ok rfl) rfl ?_
    refine TL.q rfl (.g rfl rfl (decide_eq_true c4)) (Ex.b1 0 rfl Try.isAgg3 rfl rfl) rfl ?_
    refine TL.q rfl (.g rfl rfl (decide_eq_true c4)) (Ex.ft ft_batch_ok rfl) rfl ?_
    refine TL.q rfl .u (Ex.py rfl (decide_eq_true c4) rfl) rfl ?_
    by_cases c5 : a0.fLeader ≥ (-1)
    · replace h := ifT c5 h
      refine TL.run ft_batch_ok [8] rfl rfl ?_
      refine TL.q rfl (.g rfl rfl (decide_eq_true c5)) (Ex.ft ft_batch_ok rfl) rfl ?_
      refine TL.q rfl (.g rfl rfl (decide_eq_true c5)) (Ex.b1 0 rfl Try.isAgg3 rfl rfl) rfl ?_
      obtain ⟨x6, hx7, h⟩ := Option.bind_eq_some_iff.1 h
      refine TL.ce rfl (.g rfl rfl (decide_eq_true c5)) (.fn Try.call73 rfl) (SpecX.pure (fun w => gFits_spec a0.fLeader 4 _ hx7 w)) (fun _ _ => RX.reads_triv _ _) rfl ?_
      refine TL.q rfl .u (Ex.py rfl (decide_eq_true c5) rfl) rfl ?_
      by_cases c8 : x6 = true
      · replace h := ifT c8 h
        refine TL.run ft_batch_ok [13] rfl rfl ?_
        refine TL.q rfl (.g rfl rfl c8) (Ex.ft ft_batch_ok rfl) rfl ?_
        refine TL.q rfl (.g rfl rfl c8) (Ex.b1 0 rfl Try.isAgg3 rfl rfl) rfl ?_
        refine TL.q rfl (.g rfl rfl c8) (Ex.ft ft_batch_ok rfl) rfl ?_
        refine TL.q rfl .u (Ex.py rfl c8 rfl) rfl ?_
        by_cases c9 : a0.fLast ≥ 0
        · replace h := ifT c9 h
          refine TL.run ft_batch_ok [18] rfl rfl ?_
          refine TL.q rfl (.g rfl rfl (decide_eq_true c9)) (Ex.ft ft_batch_ok rfl) rfl ?_
          refine TL.q rfl (.g rfl rfl (decide_eq_true c9)) (Ex.b1 0 rfl Try.isAgg3 rfl rfl) rfl ?_
          obtain ⟨x10, hx11, h⟩ := Option.bind_eq_some_iff.1 h
          refine TL.ce rfl (.g rfl rfl (decide_eq_true c9)) (.fn Try.call73 rfl) (SpecX.pure (fun w => gFits_spec a0.fLast 4 _ hx11 w)) (fun _ _ => RX.reads_triv _ _) rfl ?_
          refine TL.q rfl .u (Ex.py rfl (decide_eq_true c9) rfl) rfl ?_
          by_cases c12 : x10 = true
          · replace h := ifT c12 h
            refine TL.run ft_batch_ok [23] rfl rfl ?_
            refine TL.q rfl (.g rfl rfl c12) (Ex.ft ft_batch_ok rfl) rfl ?_
            refine TL.q rfl (.g rfl rfl c12) (Ex.b1 0 rfl Try.isAgg3 rfl rfl) rfl ?_
            refine TL.q rfl (.g rfl rfl c12) (Ex.ft ft_batch_ok rfl) rfl ?_
            refine TL.q rfl (.g rfl rfl c12) (Ex.b1 0 rfl Try.isAgg3 rfl rfl) rfl ?_
            refine TL.q rfl (.g rfl rfl c12) (Ex.addw rfl rfl) rfl ?_
            refine TL.q rfl (.g rfl rfl c12) (Ex.ft ft_batch_ok rfl) rfl ?_
            refine TL.q rfl .u (Ex.py rfl c12 rfl) rfl ?_
            by_cases c13 : (IntKind.i64.wrap (a0.fBase + a0.fLast)) ≥ 0
            · replace h := ifT c13 h
              refine TL.run ft_batch_ok [31] rfl rfl ?_
              refine TL.q rfl (.g rfl rfl (decide_eq_true c13)) (Ex.ft ft_batch_ok rfl) rfl ?_
              refine TL.q rfl (.g rfl rfl (decide_eq_true c13)) (Ex.b1 0 rfl Try.isAgg3 rfl rfl) rfl ?_
              refine TL.q rfl (.g rfl rfl (decide_eq_true c13)) (Ex.ft ft_batch_ok rfl) rfl ?_
              refine TL.q rfl .u (Ex.py rfl (decide_eq_true c13) rfl) rfl ?_
              by_cases c14 : a0.fFirst ≥ 0
              · replace h := ifT c14 h
                refine TL.run ft_batch_ok [36] rfl rfl ?_
                refine TL.q rfl (.g rfl rfl (decide_eq_true c14)) (Ex.ft ft_batch_ok rfl) rfl ?_
                refine TL.q rfl (.g rfl rfl (decide_eq_true c14)) (Ex.b1 0 rfl Try.isAgg3 rfl rfl) rfl ?_
                refine TL.q rfl (.g rfl rfl (decide_eq_true c14)) (Ex.ft ft_batch_ok rfl) rfl ?_
                refine TL.q rfl .u (Ex.py rfl (decide_eq_true c14) rfl) rfl ?_
                refine TL.run ft_batch_ok [41] rfl rfl ?_
                by_cases c15 : a0.fMax ≥ 0
                · replace h := ifT c15 h
                  obtain rfl := Option.some.inj h
                  exact TL.nil (X.seq (T.ret (X.done1 [1] Try.results43 (RV.tm (v := .bool true) (congrArg (fun b => some (Value.bool b)) (decide_eq_true c15))) ⟨rfl, rfl, rfl⟩ (by rfl) (.inl rfl))))
                · replace h := ifF c15 h
                  obtain rfl := Option.some.inj h
                  exact TL.nil (X.seq (T.ret (X.done1 [1] Try.results43 (RV.tm (v := .bool false) (congrArg (fun b => some (Value.bool b)) (decide_eq_false c15))) ⟨rfl, rfl, rfl⟩ (by rfl) (.inl rfl))))
              · replace h := ifF c14 h
                refine TL.run ft_batch_ok [36] rfl rfl ?_
                refine TL.no rfl (.gn rfl rfl (decide_eq_false c14)) rfl ?_
                refine TL.no rfl (.gn rfl rfl (decide_eq_false c14)) rfl ?_
                refine TL.no rfl (.gn rfl rfl (decide_eq_false c14)) rfl ?_
                refine TL.q rfl .u (Ex.pn rfl (decide_eq_false c14) rfl) rfl ?_
                refine TL.run ft_batch_ok [41] rfl rfl ?_
                obtain rfl := Option.some.inj h
                exact TL.nil (X.seq (T.ret (X.done1 [1] Try.results43 (RV.tm rfl) ⟨rfl, rfl, rfl⟩ (by rfl) (.inl rfl))))
            · replace h := ifF c13 h
              refine TL.run ft_batch_ok [31] rfl rfl ?_
              refine TL.no rfl (.gn rfl rfl (decide_eq_false c13)) rfl ?_
              refine TL.no rfl (.gn rfl rfl (decide_eq_false c13)) rfl ?_
              refine TL.no rfl (.gn rfl rfl (decide_eq_false c13)) rfl ?_
              refine TL.q rfl .u (Ex.pn rfl (decide_eq_false c13) rfl) rfl ?_
              refine TL.run ft_batch_ok [36] rfl rfl ?_
              refine TL.no rfl (.gn rfl rfl rfl) rfl ?_
              refine TL.no rfl (.gn rfl rfl rfl) rfl ?_
              refine TL.no rfl (.gn rfl rfl rfl) rfl ?_
              refine TL.q rfl .u (Ex.pn rfl rfl rfl) rfl ?_
              refine TL.run ft_batch_ok [41] rfl rfl ?_
              obtain rfl := Option.some.inj h
              exact TL.nil (X.seq (T.ret (X.done1 [1] Try.results43 (RV.tm rfl) ⟨rfl, rfl, rfl⟩ (by rfl) (.inl rfl))))
          · replace h := ifF c12 h
            replace c12 := eq_false_of_ne_true c12
            refine TL.run ft_batch_ok [23] rfl rfl ?_
            refine TL.no rfl (.gn rfl rfl c12) rfl ?_
            refine TL.no rfl (.gn rfl rfl c12) rfl ?_
            refine TL.no rfl (.gn rfl rfl c12) rfl ?_
            refine TL.no rfl (.gn rfl rfl c12) rfl ?_
            refine TL.no rfl (.gn rfl rfl c12) rfl ?_
            refine TL.no rfl (.gn rfl rfl c12) rfl ?_
            refine TL.q rfl .u (Ex.pn rfl c12 rfl) rfl ?_
            refine TL.run ft_batch_ok [31] rfl rfl ?_
            refine TL.no rfl (.gn rfl rfl rfl) rfl ?_
            refine TL.no rfl (.gn rfl rfl rfl) rfl ?_
            refine TL.no rfl (.gn rfl rfl rfl) rfl ?_
            refine TL.q rfl .u (Ex.pn rfl rfl rfl) rfl ?_
            refine TL.run ft_batch_ok [36] rfl rfl ?_
            refine TL.no rfl (.gn rfl rfl rfl) rfl ?_
            refine TL.no rfl (.gn rfl rfl rfl) rfl ?_
            refine TL.no rfl (.gn rfl rfl rfl) rfl ?_
            refine TL.q rfl .u (Ex.pn rfl rfl rfl) rfl ?_
            refine TL.run ft_batch_ok [41] rfl rfl ?_
            obtain rfl := Option.some.inj h
            exact TL.nil (X.seq (T.ret (X.done1 [1] Try.results43 (RV.tm rfl) ⟨rfl, rfl, rfl⟩ (by rfl) (.inl rfl))))
        · replace h := ifF c9 h
          refine TL.run ft_batch_ok [18] rfl rfl ?_
          refine TL.no rfl (.gn rfl rfl (decide_eq_false c9)) rfl ?_
          refine TL.no rfl (.gn rfl rfl (decide_eq_false c9)) rfl ?_
          refine TL.no rfl (.gn rfl rfl (decide_eq_false c9)) rfl ?_
          refine TL.q rfl .u (Ex.pn rfl (decide_eq_false c9) rfl) rfl ?_
          refine TL.run ft_batch_ok [23] rfl rfl ?_
          refine TL.no rfl (.gn rfl rfl rfl) rfl ?_
          refine TL.no rfl (.gn rfl rfl rfl) rfl ?_
          refine TL.no rfl (.gn rfl rfl rfl) rfl ?_
          refine TL.no rfl (.gn rfl rfl rfl) rfl ?_
          refine TL.no rfl (.gn rfl rfl rfl) rfl ?_
          refine TL.no rfl (.gn rfl rfl rfl) rfl ?_
          refine TL.q rfl .u (Ex.pn rfl rfl rfl) rfl ?_
          refine TL.run ft_batch_ok [31] rfl rfl ?_
          refine TL.no rfl (.gn rfl rfl rfl) rfl ?_
          refine TL.no rfl (.gn rfl rfl rfl) rfl ?_
          refine TL.no rfl (.gn rfl rfl rfl) rfl ?_
          refine TL.q rfl .u (Ex.pn rfl rfl rfl) rfl ?_
          refine TL.run ft_batch_ok [36] rfl rfl ?_
          refine TL.no rfl (.gn rfl rfl rfl) rfl ?_
          refine TL.no rfl (.gn rfl rfl rfl) rfl ?_
          refine TL.no rfl (.gn rfl rfl rfl) rfl ?_
          refine TL.q rfl .u (Ex.pn rfl rfl rfl) rfl ?_
          refine TL.run ft_batch_ok [41] rfl rfl ?_
          obtain rfl := Option.some.inj h
          exact TL.nil (X.seq (T.ret (X.done1 [1] Try.results43 (RV.tm rfl) ⟨rfl, rfl, rfl⟩ (by rfl) (.inl rfl))))
      · replace h := ifF c8 h
        replace c8 := eq_false_of_ne_true c8
        refine TL.run ft_batch_ok [13] rfl rfl ?_
        refine TL.no rfl (.gn rfl rfl c8) rfl ?_
        refine TL.no rfl (.gn rfl rfl c8) rfl ?_
        refine TL.no rfl (.gn rfl rfl c8) rfl ?_
        refine TL.q rfl .u (Ex.pn rfl c8 rfl) rfl ?_
        refine TL.run ft_batch_ok [18] rfl rfl ?_
        refine TL.no rfl (.gn rfl rfl rfl) rfl ?_
        refine TL.no rfl (.gn rfl rfl rfl) rfl ?_
        refine TL.no rfl (.gn rfl rfl rfl) rfl ?_
        refine TL.q rfl .u (Ex.pn rfl rfl rfl) rfl ?_
        refine TL.run ft_batch_ok [23] rfl rfl ?_
        refine TL.no rfl (.gn rfl rfl rfl) rfl ?_
        refine TL.no rfl (.gn rfl rfl rfl) rfl ?_
        refine TL.no rfl (.gn rfl rfl rfl) rfl ?_
        refine TL.no rfl (.gn rfl rfl rfl) rfl ?_
        refine TL.no rfl (.gn rfl rfl rfl) rfl ?_
        refine TL.no rfl (.gn rfl rfl rfl) rfl ?_
        refine TL.q rfl .u (Ex.pn rfl rfl rfl) rfl ?_
        refine TL.run ft_batch_ok [31] rfl rfl ?_
        refine TL.no rfl (.gn rfl rfl rfl) rfl ?_
        refine TL.no rfl (.gn rfl rfl rfl) rfl ?_
        refine TL.no rfl (.gn rfl rfl rfl) rfl ?_
        refine TL.q rfl .u (Ex.pn rfl rfl rfl) rfl ?_
        refine TL.run ft_batch_ok [36] rfl rfl ?_
        refine TL.no rfl (.gn rfl rfl rfl) rfl ?_
        refine TL.no rfl (.gn rfl rfl rfl) rfl ?_
        refine TL.no rfl (.gn rfl rfl rfl) rfl ?_
        refine TL.q rfl .u (Ex.pn rfl rfl rfl) rfl ?_
        refine TL.run ft_batch_ok [41] rfl rfl ?_
        obtain rfl := Option.some.inj h
        exact TL.nil (X.seq (T.ret (X.done1 [1] Try.results43 (RV.tm rfl) ⟨rfl, rfl, rfl⟩ (by rfl) (.inl rfl))))
    · replace h := ifF c5 h
      refine TL.run ft_batch_ok [8] rfl rfl ?_
      refine TL.no rfl (.gn rfl rfl (decide_eq_false c5)) rfl ?_
      refine TL.no rfl (.gn rfl rfl (decide_eq_false c5)) rfl ?_
      refine TL.no rfl (.gn rfl rfl (decide_eq_false c5)) rfl ?_
      refine TL.q rfl .u (Ex.pn rfl (decide_eq_false c5) rfl) rfl ?_
      refine TL.run ft_batch_ok [13] rfl rfl ?_
      refine TL.no rfl (.gn rfl rfl rfl) rfl ?_
      refine TL.no rfl (.gn rfl rfl rfl) rfl ?_
      refine TL.no rfl (.gn rfl rfl rfl) rfl ?_
      refine TL.q rfl .u (Ex.pn rfl rfl rfl) rfl ?_
      refine TL.run ft_batch_ok [18] rfl rfl ?_
      refine TL.no rfl (.gn rfl rfl rfl) rfl ?_
      refine TL.no rfl (.gn rfl rfl rfl) rfl ?_
      refine TL.no rfl (.gn rfl rfl rfl) rfl ?_
      refine TL.q rfl .u (Ex.pn rfl rfl rfl) rfl ?_
      refine TL.run ft_batch_ok [23] rfl rfl ?_
      refine TL.no rfl (.gn rfl rfl rfl) rfl ?_
      refine TL.no rfl (.gn rfl rfl rfl) rfl ?_
      refine TL.no rfl (.gn rfl rfl rfl) rfl ?_
      refine TL.no rfl (.gn rfl rfl rfl) rfl ?_
      refine TL.no rfl (.gn rfl rfl rfl) rfl ?_
      refine TL.no rfl (.gn rfl rfl rfl) rfl ?_
      refine TL.q rfl .u (Ex.pn rfl rfl rfl) rfl ?_
      refine TL.run ft_batch_ok [31] rfl rfl ?_
      refine TL.no rfl (.gn rfl rfl rfl) rfl ?_
      refine TL.no rfl (.gn rfl rfl rfl) rfl ?_
      refine TL.no rfl (.gn rfl rfl rfl) rfl ?_
      refine TL.q rfl .u (Ex.pn rfl rfl rfl) rfl ?_
      refine TL.run ft_batch_ok [36] rfl rfl ?_
      refine TL.no rfl (.gn rfl rfl rfl) rfl ?_
      refine TL.no rfl (.gn rfl rfl rfl) rfl ?_
      refine TL.no rfl (.gn rfl rfl rfl) rfl ?_
      refine TL.q rfl .u (Ex.pn rfl rfl rfl) rfl ?_
      refine TL.run ft_batch_ok [41] rfl rfl ?_
      obtain rfl := Option.some.inj h
      exact TL.nil (X.seq (T.ret (X.done1 [1] Try.results43 (RV.tm rfl) ⟨rfl, rfl, rfl⟩ (by rfl) (.inl rfl))))
  · replace h := ifF c4 h
    refine TL.run ft_batch_ok [2, 3] rfl rfl ?_
    refine TL.no rfl (.gn rfl rfl (decide_eq_false c4)) rfl ?_
    refine TL.no rfl (.gn rfl rfl (decide_eq_false c4)) rfl ?_
    refine TL.no rfl (.gn rfl rfl (decide_eq_false c4)) rfl ?_
    refine TL.q rfl .u (Ex.pn rfl (decide_eq_false c4) rfl) rfl ?_
    refine TL.run ft_batch_ok [8] rfl rfl ?_
    refine TL.no rfl (.gn rfl rfl rfl) rfl ?_
    refine TL.no rfl (.gn rfl rfl rfl) rfl ?_
    refine TL.no rfl (.gn rfl rfl rfl) rfl ?_
    refine TL.q rfl .u (Ex.pn rfl rfl rfl) rfl ?_
    refine TL.run ft_batch_ok [13] rfl rfl ?_
    refine TL.no rfl (.gn rfl rfl rfl) rfl ?_
    refine TL.no rfl (.gn rfl rfl rfl) rfl ?_
    refine TL.no rfl (.gn rfl rfl rfl) rfl ?_
    refine TL.q rfl .u (Ex.pn rfl rfl rfl) rfl ?_
    refine TL.run ft_batch_ok [18] rfl rfl ?_
    refine TL.no rfl (.gn rfl rfl rfl) rfl ?_
    refine TL.no rfl (.gn rfl rfl rfl) rfl ?_
    refine TL.no rfl (.gn rfl rfl rfl) rfl ?_
    refine TL.q rfl .u (Ex.pn rfl rfl rfl) rfl ?_
    refine TL.run ft_batch_ok [23] rfl rfl ?_
    refine TL.no rfl (.gn rfl rfl rfl) rfl ?_
    refine TL.no rfl (.gn rfl rfl rfl) rfl ?_
    refine TL.no rfl (.gn rfl rfl rfl) rfl ?_
    refine TL.no rfl (.gn rfl rfl rfl) rfl ?_
    refine TL.no rfl (.gn rfl rfl rfl) rfl ?_
    refine TL.no rfl (.gn rfl rfl rfl) rfl ?_
    refine TL.q rfl .u (Ex.pn rfl rfl rfl) rfl ?_
    refine TL.run ft_batch_ok [31] rfl rfl ?_
    refine TL.no rfl (.gn rfl rfl rfl) rfl ?_
    refine TL.no rfl (.gn rfl rfl rfl) rfl ?_
    refine TL.no rfl (.gn rfl rfl rfl) rfl ?_
    refine TL.q rfl .u (Ex.pn rfl rfl rfl) rfl ?_
    refine TL.run ft_batch_ok [36] rfl rfl ?_
    refine TL.no rfl (.gn rfl rfl rfl) rfl ?_
    refine TL.no rfl (.gn rfl rfl rfl) rfl ?_
    refine TL.no rfl (.gn rfl rfl rfl) rfl ?_
    refine TL.q rfl .u (Ex.pn rfl rfl rfl) rfl ?_
    refine TL.run ft_batch_ok [41] rfl rfl ?_
    obtain rfl := Option.some.inj h
    exact TL.nil (X.seq (T.ret (X.done1 [1] Try.results43 (RV.tm rfl) ⟨rfl, rfl, rfl⟩ (by rfl) (.inl rfl))))
def f_batch_producer (a0 : Bat) : Option (Bool) := if a0.fProducer = (-1) then (if a0.fEpoch = (-1) then (if a0.fSequence = (-1) then (if a0.fTxn = true then some false else some true) else some false) else some false) else (if a0.fControl = true then (if a0.fProducer ≥ 0 then (if a0.fEpoch ≥ 0 then ((gFits a0.fEpoch 2).bind fun x11 => if x11 = true then (if a0.fSequence ≥ (-1) then ((gFits a0.fSequence 4).bind fun x15 => if x15 = true then (if a0.fSequence = (-1) then some true else some false) else some false) else some false) else some false) else some false) else some false) else (if a0.fProducer ≥ 0 then (if a0.fEpoch ≥ 0 then ((gFits a0.fEpoch 2).bind fun x21 => if x21 = true then (if a0.fSequence ≥ 0 then ((gFits a0.fSequence 4).bind fun x25 => if x25 = true then some true else some false) else some false) else some false) else some false) else some false))
set_option maxRecDepth 100000 in
set_option maxHeartbeats 4000000 in
theorem f_batch_producer_spec (a0 : Bat) (A1 : Option Addr) (c2 : Nat) (r : Bool) (h : f_batch_producer a0 = some r) : SpecX Try.prog 44 #[.agg #[.int .i64 a0.fBase, .int .i64 a0.fLeader, .bool a0.fAppend, .bool a0.fTxn, .bool a0.fControl, .int .i64 a0.fLast, .int .i64 a0.fFirst, .int .i64 a0.fMax, .int .i64 a0.fProducer, .int .i64 a0.fEpoch, .int .i64 a0.fSequence, .slice A1 a0.fRecords.length c2]] (RX.of (sliceRd 7 Rec_rd) [.slice A1 a0.fRecords.length c2] a0.fRecords) (EmpR) (fun v A' N => v = .bool r ∧ A' = EmpR ∧ N = []) := by
  refine enterA Try.func44 rfl Try.ntmps44 rfl ?_
  intro F w hX
  unfold f_batch_producer at h
  refine T.seq (T.region rfl ?_)
  refine TL.box rfl .u rfl rfl (fun b3 => ?_)
  refine TL.run ft_batch_ok [1] rfl rfl ?_
  refine TL.nil (X.seq (T.seq (T.seq (T.region rfl ?_))))
  refine TL.run ft_batch_ok [0] rfl rfl ?_
  refine TL.q rfl .u (Ex.b1 0 rfl Try.isAgg3 rfl rfl) rfl ?_
  refine TL.run ft_batch_ok [2] rfl rfl ?_
  by_cases c4 : a0.fProducer = (-1)
  · replace h := ifT c4 h
    refine TL.nil (X.seq ?_)
    refine T.yes rfl (decide_eq_true c4) ?_
    refine T.seq (T.region rfl ?_)
    refine TL.run ft_batch_ok [0] rfl rfl ?_
    refine TL.q rfl .u (Ex.b1 0 rfl Try.isAgg3 rfl rfl) rfl ?_
    by_cases c5 : a0.fEpoch = (-1)
    · replace h := ifT c5 h
      refine TL.run ft_batch_ok [2, 3] rfl rfl ?_
      refine TL.q rfl (.g rfl rfl (decide_eq_true c5)) (Ex.ft ft_batch_ok rfl) rfl ?_
      refine TL.q rfl (.g rfl rfl (decide_eq_true c5)) (Ex.b1 0 rfl Try.isAgg3 rfl rfl) rfl ?_
      refine TL.q rfl (.g rfl rfl (decide_eq_true c5)) (Ex.ft ft_batch_ok rfl) rfl ?_
      refine TL.q rfl .u (Ex.py rfl (decide_eq_true c5) rfl) rfl ?_
      by_cases c6 : a0.fSequence = (-1)
      · replace h := ifT c6 h
        refine TL.run ft_batch_ok [8] rfl rfl ?_
        refine TL.q rfl (.g rfl rfl (decide_eq_true c6)) (Ex.ft ft_batch_ok rfl) rfl ?_
        refine TL.q rfl (.g rfl rfl (decide_eq_true c6)) (Ex.b1 0 rfl Try.isAgg4 rfl rfl) rfl ?_
        refine TL.q rfl (.g rfl rfl (decide_eq_true c6)) (Ex.ft ft_batch_ok rfl) rfl ?_
        refine TL.q rfl .u (Ex.py rfl (decide_eq_true c6) rfl) rfl ?_
        refine TL.run ft_batch_ok [13] rfl rfl ?_
        by_cases c7 : a0.fTxn = true
        · replace h := ifT c7 h
          obtain rfl := Option.some.inj h
          exact TL.nil (X.seq (T.ret (X.rs (X.done1 [1] Try.results44 (RV.tm (v := .bool false) (congrArg (fun b => some (Value.bool b)) (bn_f c7))) ⟨rfl, rfl, rfl⟩ (by rfl) (.inl rfl)))))
        · replace h := ifF c7 h
          replace c7 := eq_false_of_ne_true c7
          obtain rfl := Option.some.inj h
          exact TL.nil (X.seq (T.ret (X.rs (X.done1 [1] Try.results44 (RV.tm (v := .bool true) (congrArg (fun b => some (Value.bool b)) (bn_t c7))) ⟨rfl, rfl, rfl⟩ (by rfl) (.inl rfl)))))
      · replace h := ifF c6 h
        refine TL.run ft_batch_ok [8] rfl rfl ?_
        refine TL.no rfl (.gn rfl rfl (decide_eq_false c6)) rfl ?_
        refine TL.no rfl (.gn rfl rfl (decide_eq_false c6)) rfl ?_
        refine TL.no rfl (.gn rfl rfl (decide_eq_false c6)) rfl ?_
        refine TL.q rfl .u (Ex.pn rfl (decide_eq_false c6) rfl) rfl ?_
        refine TL.run ft_batch_ok [13] rfl rfl ?_
        obtain rfl := Option.some.inj h
        exact TL.nil (X.seq (T.ret (X.rs (X.done1 [1] Try.results44 (RV.tm rfl) ⟨rfl, rfl, rfl⟩ (by rfl) (.inl rfl)))))
    · replace h := ifF c5 h
      refine TL.run ft_batch_ok [2, 3] rfl rfl ?_
      refine TL.no rfl (.gn rfl rfl (decide_eq_false c5)) rfl ?_
      refine TL.no rfl (.gn rfl rfl (decide_eq_false c5)) rfl ?_
      refine TL.no rfl (.gn rfl rfl (decide_eq_false c5)) rfl ?_
      refine TL.q rfl .u (Ex.pn rfl (decide_eq_false c5) rfl) rfl ?_
      refine TL.run ft_batch_ok [8] rfl rfl ?_
      refine TL.no rfl (.gn rfl rfl rfl) rfl ?_
      refine TL.no rfl (.gn rfl rfl rfl) rfl ?_
      refine TL.no rfl (.gn rfl rfl rfl) rfl ?_
      refine TL.q rfl .u (Ex.pn rfl rfl rfl) rfl ?_
      refine TL.run ft_batch_ok [13] rfl rfl ?_
      obtain rfl := Option.some.inj h
      exact TL.nil (X.seq (T.ret (X.rs (X.done1 [1] Try.results44 (RV.tm rfl) ⟨rfl, rfl, rfl⟩ (by rfl) (.inl rfl)))))
  · replace h := ifF c4 h
    refine TL.nil (X.seq ?_)
    refine T.no rfl (decide_eq_false c4) ?_
    refine T.skip (X.seq (T.seq (T.region rfl ?_)))
    refine TL.run ft_batch_ok [0] rfl rfl ?_
    refine TL.nil (X.seq (T.seq (T.seq (T.region rfl ?_))))
    refine TL.run ft_batch_ok [0] rfl rfl ?_
    refine TL.q rfl .u (Ex.b1 0 rfl Try.isAgg4 rfl rfl) rfl ?_
    by_cases c8 : a0.fControl = true
    · replace h := ifT c8 h
      refine TL.nil (X.seq ?_)
      refine T.yes rfl c8 ?_
      refine T.region rfl ?_
      refine TL.run ft_batch_ok [0] rfl rfl ?_
      refine TL.nil (X.seq (T.seq (T.region rfl ?_)))
      refine TL.run ft_batch_ok [0] rfl rfl ?_
      refine TL.q rfl .u (Ex.b1 0 rfl Try.isAgg3 rfl rfl) rfl ?_
      by_cases c9 : a0.fProducer ≥ 0
      · replace h := ifT c9 h
        refine TL.run ft_batch_ok [2, 3] rfl rfl ?_
        refine TL.q rfl (.g rfl rfl (decide_eq_true c9)) (Ex.ft ft_batch_ok rfl) rfl ?_
        refine TL.q rfl (.g rfl rfl (decide_eq_true c9)) (Ex.b1 0 rfl Try.isAgg3 rfl rfl) rfl ?_
        refine TL.q rfl (.g rfl rfl (decide_eq_true c9)) (Ex.ft ft_batch_ok rfl) rfl ?_
        refine TL.q rfl .u (Ex.py rfl (decide_eq_true c9) rfl) rfl ?_
        by_cases c10 : a0.fEpoch ≥ 0
        · replace h := ifT c10 h
          refine TL.run ft_batch_ok [8] rfl rfl ?_
          refine TL.q rfl (.g rfl rfl (decide_eq_true c10)) (Ex.ft ft_batch_ok rfl) rfl ?_
          refine TL.q rfl (.g rfl rfl (decide_eq_true c10)) (Ex.b1 0 rfl Try.isAgg3 rfl rfl) rfl ?_
          obtain ⟨x11, hx12, h⟩ := Option.bind_eq_some_iff.1 h
          refine TL.ce rfl (.g rfl rfl (decide_eq_true c10)) (.fn Try.call73 rfl) (SpecX.pure (fun w => gFits_spec a0.fEpoch 2 _ hx12 w)) (fun _ _ => RX.reads_triv _ _) rfl ?_
          refine TL.q rfl .u (Ex.py rfl (decide_eq_true c10) rfl) rfl ?_
          by_cases c13 : x11 = true
          · replace h := ifT c13 h
            refine TL.run ft_batch_ok [13] rfl rfl ?_
            refine TL.q rfl (.g rfl rfl c13) (Ex.ft ft_batch_ok rfl) rfl ?_
            refine TL.q rfl (.g rfl rfl c13) (Ex.b1 0 rfl Try.isAgg3 rfl rfl) rfl ?_
            refine TL.q rfl (.g rfl rfl c13) (Ex.ft ft_batch_ok rfl) rfl ?_
            refine TL.q rfl (.g rfl rfl c13) (Ex.ft ft_batch_ok rfl) rfl ?_
            refine TL.q rfl .u (Ex.py rfl c13 rfl) rfl ?_
            by_cases c14 : a0.fSequence ≥ (-1)
            · replace h := ifT c14 h
              refine TL.run ft_batch_ok [19] rfl rfl ?_
              refine TL.q rfl (.g rfl rfl (decide_eq_true c14)) (Ex.ft ft_batch_ok rfl) rfl ?_
              refine TL.q rfl (.g rfl rfl (decide_eq_true c14)) (Ex.b1 0 rfl Try.isAgg3 rfl rfl) rfl ?_
              obtain ⟨x15, hx16, h⟩ := Option.bind_eq_some_iff.1 h
              refine TL.ce rfl (.g rfl rfl (decide_eq_true c14)) (.fn Try.call73 rfl) (SpecX.pure (fun w => gFits_spec a0.fSequence 4 _ hx16 w)) (fun _ _ => RX.reads_triv _ _) rfl ?_
              refine TL.q rfl .u (Ex.py rfl (decide_eq_true c14) rfl) rfl ?_
              by_cases c17 : x15 = true
              · replace h := ifT c17 h
                refine TL.run ft_batch_ok [24] rfl rfl ?_
                refine TL.q rfl (.g rfl rfl c17) (Ex.ft ft_batch_ok rfl) rfl ?_
                refine TL.q rfl (.g rfl rfl c17) (Ex.b1 0 rfl Try.isAgg4 rfl rfl) rfl ?_
                refine TL.q rfl (.g rfl rfl c17) (Ex.ft ft_batch_ok rfl) rfl ?_
                refine TL.q rfl (.g rfl rfl c17) (Ex.ft ft_batch_ok rfl) rfl ?_
                refine TL.q rfl (.g rfl rfl (bn_f c8)) (Ex.ft ft_batch_ok rfl) rfl ?_
                refine TL.q rfl (.g rfl rfl (bn_f c8)) (Ex.b1 0 rfl Try.isAgg3 rfl rfl) rfl ?_
                refine TL.q rfl (.g rfl rfl (bn_f c8)) (Ex.ft ft_batch_ok rfl) rfl ?_
                refine TL.q rfl (.g rfl rfl c17) (Ex.pn rfl (bn_f c8) rfl) rfl ?_
                refine TL.q rfl .u (Ex.py rfl c17 rfl) rfl ?_
                refine TL.run ft_batch_ok [34] rfl rfl ?_
                by_cases c18 : a0.fSequence = (-1)
                · replace h := ifT c18 h
                  obtain rfl := Option.some.inj h
                  exact TL.nil (X.seq (T.ret (X.done1 [1] Try.results44 (RV.tm (v := .bool true) (congrArg (fun b => some (Value.bool b)) (decide_eq_true c18))) ⟨rfl, rfl, rfl⟩ (by rfl) (.inl rfl))))
                · replace h := ifF c18 h
                  obtain rfl := Option.some.inj h
                  exact TL.nil (X.seq (T.ret (X.done1 [1] Try.results44 (RV.tm (v := .bool false) (congrArg (fun b => some (Value.bool b)) (decide_eq_false c18))) ⟨rfl, rfl, rfl⟩ (by rfl) (.inl rfl))))
              · replace h := ifF c17 h
                replace c17 := eq_false_of_ne_true c17
                refine TL.run ft_batch_ok [24] rfl rfl ?_
                refine TL.no rfl (.gn rfl rfl c17) rfl ?_
                refine TL.no rfl (.gn rfl rfl c17) rfl ?_
                refine TL.no rfl (.gn rfl rfl c17) rfl ?_
                refine TL.no rfl (.gn rfl rfl c17) rfl ?_
                refine TL.no rfl (.gu rfl rfl) rfl ?_
                refine TL.no rfl (.gu rfl rfl) rfl ?_
                refine TL.no rfl (.gu rfl rfl) rfl ?_
                refine TL.no rfl (.gn rfl rfl c17) rfl ?_
                refine TL.q rfl .u (Ex.pn rfl c17 rfl) rfl ?_
                refine TL.run ft_batch_ok [34] rfl rfl ?_
                obtain rfl := Option.some.inj h
                exact TL.nil (X.seq (T.ret (X.done1 [1] Try.results44 (RV.tm rfl) ⟨rfl, rfl, rfl⟩ (by rfl) (.inl rfl))))
            · replace h := ifF c14 h
              refine TL.run ft_batch_ok [19] rfl rfl ?_
              refine TL.no rfl (.gn rfl rfl (decide_eq_false c14)) rfl ?_
              refine TL.no rfl (.gn rfl rfl (decide_eq_false c14)) rfl ?_
              refine TL.no rfl (.gn rfl rfl (decide_eq_false c14)) rfl ?_
              refine TL.q rfl .u (Ex.pn rfl (decide_eq_false c14) rfl) rfl ?_
              refine TL.run ft_batch_ok [24] rfl rfl ?_
              refine TL.no rfl (.gn rfl rfl rfl) rfl ?_
              refine TL.no rfl (.gn rfl rfl rfl) rfl ?_
              refine TL.no rfl (.gn rfl rfl rfl) rfl ?_
              refine TL.no rfl (.gn rfl rfl rfl) rfl ?_
              refine TL.no rfl (.gu rfl rfl) rfl ?_
              refine TL.no rfl (.gu rfl rfl) rfl ?_
              refine TL.no rfl (.gu rfl rfl) rfl ?_
              refine TL.no rfl (.gn rfl rfl rfl) rfl ?_
              refine TL.q rfl .u (Ex.pn rfl rfl rfl) rfl ?_
              refine TL.run ft_batch_ok [34] rfl rfl ?_
              obtain rfl := Option.some.inj h
              exact TL.nil (X.seq (T.ret (X.done1 [1] Try.results44 (RV.tm rfl) ⟨rfl, rfl, rfl⟩ (by rfl) (.inl rfl))))
          · replace h := ifF c13 h
            replace c13 := eq_false_of_ne_true c13
            refine TL.run ft_batch_ok [13] rfl rfl ?_
            refine TL.no rfl (.gn rfl rfl c13) rfl ?_
            refine TL.no rfl (.gn rfl rfl c13) rfl ?_
            refine TL.no rfl (.gn rfl rfl c13) rfl ?_
            refine TL.no rfl (.gn rfl rfl c13) rfl ?_
            refine TL.q rfl .u (Ex.pn rfl c13 rfl) rfl ?_
            refine TL.run ft_batch_ok [19] rfl rfl ?_
            refine TL.no rfl (.gn rfl rfl rfl) rfl ?_
            refine TL.no rfl (.gn rfl rfl rfl) rfl ?_
            refine TL.no rfl (.gn rfl rfl rfl) rfl ?_
            refine TL.q rfl .u (Ex.pn rfl rfl rfl) rfl ?_
            refine TL.run ft_batch_ok [24] rfl rfl ?_
            refine TL.no rfl (.gn rfl rfl rfl) rfl ?_
            refine TL.no rfl (.gn rfl rfl rfl) rfl ?_
            refine TL.no rfl (.gn rfl rfl rfl) rfl ?_
            refine TL.no rfl (.gn rfl rfl rfl) rfl ?_
            refine TL.no rfl (.gu rfl rfl) rfl ?_
            refine TL.no rfl (.gu rfl rfl) rfl ?_
            refine TL.no rfl (.gu rfl rfl) rfl ?_
            refine TL.no rfl (.gn rfl rfl rfl) rfl ?_
            refine TL.q rfl .u (Ex.pn rfl rfl rfl) rfl ?_
            refine TL.run ft_batch_ok [34] rfl rfl ?_
            obtain rfl := Option.some.inj h
            exact TL.nil (X.seq (T.ret (X.done1 [1] Try.results44 (RV.tm rfl) ⟨rfl, rfl, rfl⟩ (by rfl) (.inl rfl))))
        · replace h := ifF c10 h
          refine TL.run ft_batch_ok [8] rfl rfl ?_
          refine TL.no rfl (.gn rfl rfl (decide_eq_false c10)) rfl ?_
          refine TL.no rfl (.gn rfl rfl (decide_eq_false c10)) rfl ?_
          refine TL.no rfl (.gn rfl rfl (decide_eq_false c10)) rfl ?_
          refine TL.q rfl .u (Ex.pn rfl (decide_eq_false c10) rfl) rfl ?_
          refine TL.run ft_batch_ok [13] rfl rfl ?_
          refine TL.no rfl (.gn rfl rfl rfl) rfl ?_
          refine TL.no rfl (.gn rfl rfl rfl) rfl ?_
          refine TL.no rfl (.gn rfl rfl rfl) rfl ?_
          refine TL.no rfl (.gn rfl rfl rfl) rfl ?_
          refine TL.q rfl .u (Ex.pn rfl rfl rfl) rfl ?_
          refine TL.run ft_batch_ok [19] rfl rfl ?_
          refine TL.no rfl (.gn rfl rfl rfl) rfl ?_
          refine TL.no rfl (.gn rfl rfl rfl) rfl ?_
          refine TL.no rfl (.gn rfl rfl rfl) rfl ?_
          refine TL.q rfl .u (Ex.pn rfl rfl rfl) rfl ?_
          refine TL.run ft_batch_ok [24] rfl rfl ?_
          refine TL.no rfl (.gn rfl rfl rfl) rfl ?_
          refine TL.no rfl (.gn rfl rfl rfl) rfl ?_
          refine TL.no rfl (.gn rfl rfl rfl) rfl ?_
          refine TL.no rfl (.gn rfl rfl rfl) rfl ?_
          refine TL.no rfl (.gu rfl rfl) rfl ?_
          refine TL.no rfl (.gu rfl rfl) rfl ?_
          refine TL.no rfl (.gu rfl rfl) rfl ?_
          refine TL.no rfl (.gn rfl rfl rfl) rfl ?_
          refine TL.q rfl .u (Ex.pn rfl rfl rfl) rfl ?_
          refine TL.run ft_batch_ok [34] rfl rfl ?_
          obtain rfl := Option.some.inj h
          exact TL.nil (X.seq (T.ret (X.done1 [1] Try.results44 (RV.tm rfl) ⟨rfl, rfl, rfl⟩ (by rfl) (.inl rfl))))
      · replace h := ifF c9 h
        refine TL.run ft_batch_ok [2, 3] rfl rfl ?_
        refine TL.no rfl (.gn rfl rfl (decide_eq_false c9)) rfl ?_
        refine TL.no rfl (.gn rfl rfl (decide_eq_false c9)) rfl ?_
        refine TL.no rfl (.gn rfl rfl (decide_eq_false c9)) rfl ?_
        refine TL.q rfl .u (Ex.pn rfl (decide_eq_false c9) rfl) rfl ?_
        refine TL.run ft_batch_ok [8] rfl rfl ?_
        refine TL.no rfl (.gn rfl rfl rfl) rfl ?_
        refine TL.no rfl (.gn rfl rfl rfl) rfl ?_
        refine TL.no rfl (.gn rfl rfl rfl) rfl ?_
        refine TL.q rfl .u (Ex.pn rfl rfl rfl) rfl ?_
        refine TL.run ft_batch_ok [13] rfl rfl ?_
        refine TL.no rfl (.gn rfl rfl rfl) rfl ?_
        refine TL.no rfl (.gn rfl rfl rfl) rfl ?_
        refine TL.no rfl (.gn rfl rfl rfl) rfl ?_
        refine TL.no rfl (.gn rfl rfl rfl) rfl ?_
        refine TL.q rfl .u (Ex.pn rfl rfl rfl) rfl ?_
        refine TL.run ft_batch_ok [19] rfl rfl ?_
        refine TL.no rfl (.gn rfl rfl rfl) rfl ?_
        refine TL.no rfl (.gn rfl rfl rfl) rfl ?_
        refine TL.no rfl (.gn rfl rfl rfl) rfl ?_
        refine TL.q rfl .u (Ex.pn rfl rfl rfl) rfl ?_
        refine TL.run ft_batch_ok [24] rfl rfl ?_
        refine TL.no rfl (.gn rfl rfl rfl) rfl ?_
        refine TL.no rfl (.gn rfl rfl rfl) rfl ?_
        refine TL.no rfl (.gn rfl rfl rfl) rfl ?_
        refine TL.no rfl (.gn rfl rfl rfl) rfl ?_
        refine TL.no rfl (.gu rfl rfl) rfl ?_
        refine TL.no rfl (.gu rfl rfl) rfl ?_
        refine TL.no rfl (.gu rfl rfl) rfl ?_
        refine TL.no rfl (.gn rfl rfl rfl) rfl ?_
        refine TL.q rfl .u (Ex.pn rfl rfl rfl) rfl ?_
        refine TL.run ft_batch_ok [34] rfl rfl ?_
        obtain rfl := Option.some.inj h
        exact TL.nil (X.seq (T.ret (X.done1 [1] Try.results44 (RV.tm rfl) ⟨rfl, rfl, rfl⟩ (by rfl) (.inl rfl))))
    · replace h := ifF c8 h
      replace c8 := eq_false_of_ne_true c8
      refine TL.nil (X.seq ?_)
      refine T.no rfl c8 ?_
      refine T.skip (X.seq (T.seq (T.region rfl ?_)))
      refine TL.run ft_batch_ok [0] rfl rfl ?_
      refine TL.q rfl .u (Ex.b1 0 rfl Try.isAgg3 rfl rfl) rfl ?_
      by_cases c19 : a0.fProducer ≥ 0
      · replace h := ifT c19 h
        refine TL.run ft_batch_ok [2, 3] rfl rfl ?_
        refine TL.q rfl (.g rfl rfl (decide_eq_true c19)) (Ex.ft ft_batch_ok rfl) rfl ?_
        refine TL.q rfl (.g rfl rfl (decide_eq_true c19)) (Ex.b1 0 rfl Try.isAgg3 rfl rfl) rfl ?_
        refine TL.q rfl (.g rfl rfl (decide_eq_true c19)) (Ex.ft ft_batch_ok rfl) rfl ?_
        refine TL.q rfl .u (Ex.py rfl (decide_eq_true c19) rfl) rfl ?_
        by_cases c20 : a0.fEpoch ≥ 0
        · replace h := ifT c20 h
          refine TL.run ft_batch_ok [8] rfl rfl ?_
          refine TL.q rfl (.g rfl rfl (decide_eq_true c20)) (Ex.ft ft_batch_ok rfl) rfl ?_
          refine TL.q rfl (.g rfl rfl (decide_eq_true c20)) (Ex.b1 0 rfl Try.isAgg3 rfl rfl) rfl ?_
          obtain ⟨x21, hx22, h⟩ := Option.bind_eq_some_iff.1 h
          refine TL.ce rfl (.g rfl rfl (decide_eq_true c20)) (.fn Try.call73 rfl) (SpecX.pure (fun w => gFits_spec a0.fEpoch 2 _ hx22 w)) (fun _ _ => RX.reads_triv _ _) rfl ?_
          refine TL.q rfl .u (Ex.py rfl (decide_eq_true c20) rfl) rfl ?_
          by_cases c23 : x21 = true
          · replace h := ifT c23 h
            refine TL.run ft_batch_ok [13] rfl rfl ?_
            refine TL.q rfl (.g rfl rfl c23) (Ex.ft ft_batch_ok rfl) rfl ?_
            refine TL.q rfl (.g rfl rfl c23) (Ex.b1 0 rfl Try.isAgg3 rfl rfl) rfl ?_
            refine TL.q rfl (.g rfl rfl c23) (Ex.ft ft_batch_ok rfl) rfl ?_
            refine TL.q rfl (.g rfl rfl c23) (Ex.ft ft_batch_ok rfl) rfl ?_
            refine TL.q rfl .u (Ex.py rfl c23 rfl) rfl ?_
            by_cases c24 : a0.fSequence ≥ 0
            · replace h := ifT c24 h
              refine TL.run ft_batch_ok [19] rfl rfl ?_
              refine TL.q rfl (.g rfl rfl (decide_eq_true c24)) (Ex.ft ft_batch_ok rfl) rfl ?_
              refine TL.q rfl (.g rfl rfl (decide_eq_true c24)) (Ex.b1 0 rfl Try.isAgg3 rfl rfl) rfl ?_
              obtain ⟨x25, hx26, h⟩ := Option.bind_eq_some_iff.1 h
              refine TL.ce rfl (.g rfl rfl (decide_eq_true c24)) (.fn Try.call73 rfl) (SpecX.pure (fun w => gFits_spec a0.fSequence 4 _ hx26 w)) (fun _ _ => RX.reads_triv _ _) rfl ?_
              refine TL.q rfl .u (Ex.py rfl (decide_eq_true c24) rfl) rfl ?_
              by_cases c27 : x25 = true
              · replace h := ifT c27 h
                refine TL.run ft_batch_ok [24] rfl rfl ?_
                refine TL.q rfl (.g rfl rfl c27) (Ex.ft ft_batch_ok rfl) rfl ?_
                refine TL.q rfl (.g rfl rfl c27) (Ex.b1 0 rfl Try.isAgg4 rfl rfl) rfl ?_
                refine TL.q rfl (.g rfl rfl c27) (Ex.ft ft_batch_ok rfl) rfl ?_
                refine TL.q rfl (.g rfl rfl c27) (Ex.ft ft_batch_ok rfl) rfl ?_
                refine TL.no rfl (.gn rfl rfl (bn_t c8)) rfl ?_
                refine TL.no rfl (.gn rfl rfl (bn_t c8)) rfl ?_
                refine TL.no rfl (.gn rfl rfl (bn_t c8)) rfl ?_
                refine TL.q rfl (.g rfl rfl c27) (Ex.py rfl (bn_t c8) rfl) rfl ?_
                refine TL.q rfl .u (Ex.py rfl c27 rfl) rfl ?_
                refine TL.run ft_batch_ok [34] rfl rfl ?_
                obtain rfl := Option.some.inj h
                exact TL.nil (X.seq (T.ret (X.done1 [1] Try.results44 (RV.tm rfl) ⟨rfl, rfl, rfl⟩ (by rfl) (.inl rfl))))
              · replace h := ifF c27 h
                replace c27 := eq_false_of_ne_true c27
                refine TL.run ft_batch_ok [24] rfl rfl ?_
                refine TL.no rfl (.gn rfl rfl c27) rfl ?_
                refine TL.no rfl (.gn rfl rfl c27) rfl ?_
                refine TL.no rfl (.gn rfl rfl c27) rfl ?_
                refine TL.no rfl (.gn rfl rfl c27) rfl ?_
                refine TL.no rfl (.gu rfl rfl) rfl ?_
                refine TL.no rfl (.gu rfl rfl) rfl ?_
                refine TL.no rfl (.gu rfl rfl) rfl ?_
                refine TL.no rfl (.gn rfl rfl c27) rfl ?_
                refine TL.q rfl .u (Ex.pn rfl c27 rfl) rfl ?_
                refine TL.run ft_batch_ok [34] rfl rfl ?_
                obtain rfl := Option.some.inj h
                exact TL.nil (X.seq (T.ret (X.done1 [1] Try.results44 (RV.tm rfl) ⟨rfl, rfl, rfl⟩ (by rfl) (.inl rfl))))
            · replace h := ifF c24 h
              refine TL.run ft_batch_ok [19] rfl rfl ?_
              refine TL.no rfl (.gn rfl rfl (decide_eq_false c24)) rfl ?_
              refine TL.no rfl (.gn rfl rfl (decide_eq_false c24)) rfl ?_
              refine TL.no rfl (.gn rfl rfl (decide_eq_false c24)) rfl ?_
              refine TL.q rfl .u (Ex.pn rfl (decide_eq_false c24) rfl) rfl ?_
              refine TL.run ft_batch_ok [24] rfl rfl ?_
              refine TL.no rfl (.gn rfl rfl rfl) rfl ?_
              refine TL.no rfl (.gn rfl rfl rfl) rfl ?_
              refine TL.no rfl (.gn rfl rfl rfl) rfl ?_
              refine TL.no rfl (.gn rfl rfl rfl) rfl ?_
              refine TL.no rfl (.gu rfl rfl) rfl ?_
              refine TL.no rfl (.gu rfl rfl) rfl ?_
              refine TL.no rfl (.gu rfl rfl) rfl ?_
              refine TL.no rfl (.gn rfl rfl rfl) rfl ?_
              refine TL.q rfl .u (Ex.pn rfl rfl rfl) rfl ?_
              refine TL.run ft_batch_ok [34] rfl rfl ?_
              obtain rfl := Option.some.inj h
              exact TL.nil (X.seq (T.ret (X.done1 [1] Try.results44 (RV.tm rfl) ⟨rfl, rfl, rfl⟩ (by rfl) (.inl rfl))))
          · replace h := ifF c23 h
            replace c23 := eq_false_of_ne_true c23
            refine TL.run ft_batch_ok [13] rfl rfl ?_
            refine TL.no rfl (.gn rfl rfl c23) rfl ?_
            refine TL.no rfl (.gn rfl rfl c23) rfl ?_
            refine TL.no rfl (.gn rfl rfl c23) rfl ?_
            refine TL.no rfl (.gn rfl rfl c23) rfl ?_
            refine TL.q rfl .u (Ex.pn rfl c23 rfl) rfl ?_
            refine TL.run ft_batch_ok [19] rfl rfl ?_
            refine TL.no rfl (.gn rfl rfl rfl) rfl ?_
            refine TL.no rfl (.gn rfl rfl rfl) rfl ?_
            refine TL.no rfl (.gn rfl rfl rfl) rfl ?_
            refine TL.q rfl .u (Ex.pn rfl rfl rfl) rfl ?_
            refine TL.run ft_batch_ok [24] rfl rfl ?_
            refine TL.no rfl (.gn rfl rfl rfl) rfl ?_
            refine TL.no rfl (.gn rfl rfl rfl) rfl ?_
            refine TL.no rfl (.gn rfl rfl rfl) rfl ?_
            refine TL.no rfl (.gn rfl rfl rfl) rfl ?_
            refine TL.no rfl (.gu rfl rfl) rfl ?_
            refine TL.no rfl (.gu rfl rfl) rfl ?_
            refine TL.no rfl (.gu rfl rfl) rfl ?_
            refine TL.no rfl (.gn rfl rfl rfl) rfl ?_
            refine TL.q rfl .u (Ex.pn rfl rfl rfl) rfl ?_
            refine TL.run ft_batch_ok [34] rfl rfl ?_
            obtain rfl := Option.some.inj h
            exact TL.nil (X.seq (T.ret (X.done1 [1] Try.results44 (RV.tm rfl) ⟨rfl, rfl, rfl⟩ (by rfl) (.inl rfl))))
        · replace h := ifF c20 h
          refine TL.run ft_batch_ok [8] rfl rfl ?_
          refine TL.no rfl (.gn rfl rfl (decide_eq_false c20)) rfl ?_
          refine TL.no rfl (.gn rfl rfl (decide_eq_false c20)) rfl ?_
          refine TL.no rfl (.gn rfl rfl (decide_eq_false c20)) rfl ?_
          refine TL.q rfl .u (Ex.pn rfl (decide_eq_false c20) rfl) rfl ?_
          refine TL.run ft_batch_ok [13] rfl rfl ?_
          refine TL.no rfl (.gn rfl rfl rfl) rfl ?_
          refine TL.no rfl (.gn rfl rfl rfl) rfl ?_
          refine TL.no rfl (.gn rfl rfl rfl) rfl ?_
          refine TL.no rfl (.gn rfl rfl rfl) rfl ?_
          refine TL.q rfl .u (Ex.pn rfl rfl rfl) rfl ?_
          refine TL.run ft_batch_ok [19] rfl rfl ?_
          refine TL.no rfl (.gn rfl rfl rfl) rfl ?_
          refine TL.no rfl (.gn rfl rfl rfl) rfl ?_
          refine TL.no rfl (.gn rfl rfl rfl) rfl ?_
          refine TL.q rfl .u (Ex.pn rfl rfl rfl) rfl ?_
          refine TL.run ft_batch_ok [24] rfl rfl ?_
          refine TL.no rfl (.gn rfl rfl rfl) rfl ?_
          refine TL.no rfl (.gn rfl rfl rfl) rfl ?_
          refine TL.no rfl (.gn rfl rfl rfl) rfl ?_
          refine TL.no rfl (.gn rfl rfl rfl) rfl ?_
          refine TL.no rfl (.gu rfl rfl) rfl ?_
          refine TL.no rfl (.gu rfl rfl) rfl ?_
          refine TL.no rfl (.gu rfl rfl) rfl ?_
          refine TL.no rfl (.gn rfl rfl rfl) rfl ?_
          refine TL.q rfl .u (Ex.pn rfl rfl rfl) rfl ?_
          refine TL.run ft_batch_ok [34] rfl rfl ?_
          obtain rfl := Option.some.inj h
          exact TL.nil (X.seq (T.ret (X.done1 [1] Try.results44 (RV.tm rfl) ⟨rfl, rfl, rfl⟩ (by rfl) (.inl rfl))))
      · replace h := ifF c19 h
        refine TL.run ft_batch_ok [2, 3] rfl rfl ?_
        refine TL.no rfl (.gn rfl rfl (decide_eq_false c19)) rfl ?_
        refine TL.no rfl (.gn rfl rfl (decide_eq_false c19)) rfl ?_
        refine TL.no rfl (.gn rfl rfl (decide_eq_false c19)) rfl ?_
        refine TL.q rfl .u (Ex.pn rfl (decide_eq_false c19) rfl) rfl ?_
        refine TL.run ft_batch_ok [8] rfl rfl ?_
        refine TL.no rfl (.gn rfl rfl rfl) rfl ?_
        refine TL.no rfl (.gn rfl rfl rfl) rfl ?_
        refine TL.no rfl (.gn rfl rfl rfl) rfl ?_
        refine TL.q rfl .u (Ex.pn rfl rfl rfl) rfl ?_
        refine TL.run ft_batch_ok [13] rfl rfl ?_
        refine TL.no rfl (.gn rfl rfl rfl) rfl ?_
        refine TL.no rfl (.gn rfl rfl rfl) rfl ?_
        refine TL.no rfl (.gn rfl rfl rfl) rfl ?_
        refine TL.no rfl (.gn rfl rfl rfl) rfl ?_
        refine TL.q rfl .u (Ex.pn rfl rfl rfl) rfl ?_
        refine TL.run ft_batch_ok [19] rfl rfl ?_
        refine TL.no rfl (.gn rfl rfl rfl) rfl ?_
        refine TL.no rfl (.gn rfl rfl rfl) rfl ?_
        refine TL.no rfl (.gn rfl rfl rfl) rfl ?_
        refine TL.q rfl .u (Ex.pn rfl rfl rfl) rfl ?_
        refine TL.run ft_batch_ok [24] rfl rfl ?_
        refine TL.no rfl (.gn rfl rfl rfl) rfl ?_
        refine TL.no rfl (.gn rfl rfl rfl) rfl ?_
        refine TL.no rfl (.gn rfl rfl rfl) rfl ?_
        refine TL.no rfl (.gn rfl rfl rfl) rfl ?_
        refine TL.no rfl (.gu rfl rfl) rfl ?_
        refine TL.no rfl (.gu rfl rfl) rfl ?_
        refine TL.no rfl (.gu rfl rfl) rfl ?_
        refine TL.no rfl (.gn rfl rfl rfl) rfl ?_
        refine TL.q rfl .u (Ex.pn rfl rfl rfl) rfl ?_
        refine TL.run ft_batch_ok [34] rfl rfl ?_
        obtain rfl := Option.some.inj h
        exact TL.nil (X.seq (T.ret (X.done1 [1] Try.results44 (RV.tm rfl) ⟨rfl, rfl, rfl⟩ (by rfl) (.inl rfl))))
def f_batch_records_l1 (a0 : Bat) : List Rec → Int → Int → Int → Option (Lp Int (Int × Int × Int))
  | [], y4, y5, y6 => some (Lp.go (y4, y5, y6))
  | x12 :: xs, y4, y5, y6 => if x12.fOffset ≤ y5 then some (Lp.ret 13) else (if x12.fOffset > a0.fLast then some (Lp.ret 13) else (if (IntKind.i64.wrap (a0.fFirst + x12.fTime)) < 0 then some (Lp.ret 11) else (if x12.fTime > 0 then (if (IntKind.i64.wrap (a0.fFirst + x12.fTime)) < x12.fTime then some (Lp.ret 11) else (if y6 < (IntKind.i64.wrap (a0.fFirst + x12.fTime)) then (f_batch_records_l1 a0 xs y4 x12.fOffset (IntKind.i64.wrap (a0.fFirst + x12.fTime))) else (f_batch_records_l1 a0 xs y4 x12.fOffset y6))) else (if y6 < (IntKind.i64.wrap (a0.fFirst + x12.fTime)) then (f_batch_records_l1 a0 xs y4 x12.fOffset (IntKind.i64.wrap (a0.fFirst + x12.fTime))) else (f_batch_records_l1 a0 xs y4 x12.fOffset y6)))))
def f_batch_records (a0 : Bat) : Option (Int) := (f_batch_records_l1 a0 a0.fRecords 0 (-1) a0.fFirst).bind fun e => match e with | .ret r => some r | .go (y27, y28, y29) => (if a0.fAppend = true then some 0 else (if y29 = a0.fMax then some 0 else some 11))
set_option maxRecDepth 100000 in
set_option maxHeartbeats 4000000 in
theorem f_batch_records_spec (a0 : Bat) (A1 : Option Addr) (c2 : Nat) (r : Int) (h : f_batch_records a0 = some r) : SpecX Try.prog 47 #[.agg #[.int .i64 a0.fBase, .int .i64 a0.fLeader, .bool a0.fAppend, .bool a0.fTxn, .bool a0.fControl, .int .i64 a0.fLast, .int .i64 a0.fFirst, .int .i64 a0.fMax, .int .i64 a0.fProducer, .int .i64 a0.fEpoch, .int .i64 a0.fSequence, .slice A1 a0.fRecords.length c2]] (RX.of (sliceRd 7 Rec_rd) [.slice A1 a0.fRecords.length c2] a0.fRecords) (EmpR) (fun v A' N => v = .int .i64 r ∧ A' = EmpR ∧ N = []) := by
  refine enterA Try.func47 rfl Try.ntmps47 rfl ?_
  intro F w hX
  unfold f_batch_records at h
  refine T.seq (T.region rfl ?_)
  refine TL.box rfl .u rfl rfl (fun b3 => ?_)
  refine TL.run ft_batch_ok [1] rfl rfl ?_
  refine TL.nil (X.seq (T.seq (T.draw (.q 0 (.q 1 (.q 2 (.q 3 .nil)))) [0, 0] rfl mix_batch (NoP.seq np_post) (by kernel_rfl) ?_)))
  refine TD.run ft_batch_ok [0] rfl rfl ?_
  refine TD.q rfl .u (Ex.b1 0 rfl Try.isAgg3 rfl rfl) rfl ?_
  refine TD.run ft_batch_ok [2, 3] rfl rfl ?_
  refine TD.nil (X.seq (T.seq (T.seq (T.region rfl ?_))))
  refine TL.run ft_batch_ok [0] rfl rfl ?_
  refine TL.q rfl .u (Ex.b1 0 rfl Try.isAgg34 rfl rfl) rfl ?_
  refine TL.q rfl .u (Ex.lenS rfl Try.runUnderlying34) rfl ?_
  refine TL.run ft_batch_ok [3] rfl rfl ?_
  refine TL.nil (X.seq (T.block ?_))
  obtain ⟨E8, hE9, hO10⟩ := Option.bind_eq_some_iff.1 h
  have hk14len := RX.len_le hX
  refine T.lp (fun m e Rs => ∃ (y4 : Int) (y5 : Int) (y6 : Int) (k7 : Nat), k7 + m = a0.fRecords.length ∧ e = [(1, .pointer (some ⟨b3, 0, none⟩)), (2, .int .i64 y4), (3, .int .i64 y5), (4, .int .i64 y6), (11, .slice A1 a0.fRecords.length c2), (12, .int .i64 (a0.fRecords.length : Int)), (13, .int .i64 (k7 : Int))] ∧ Rs = [BlkR b3 36 #[.int .i64 a0.fBase, .int .i64 a0.fLeader, .bool a0.fAppend, .bool a0.fTxn, .bool a0.fControl, .int .i64 a0.fLast, .int .i64 a0.fFirst, .int .i64 a0.fMax, .int .i64 a0.fProducer, .int .i64 a0.fEpoch, .int .i64 a0.fSequence, .slice A1 a0.fRecords.length c2], EmpR] ∧ f_batch_records_l1 a0 (a0.fRecords.drop k7) y4 y5 y6 = some E8) (a0.fRecords.length) [0, 0] ⟨0, (-1), a0.fFirst, 0, by simp, rfl, rfl, by rw [List.drop_zero]; exact hE9⟩ (by rfl) (by rfl) ?_
  rintro m11 _ _ ⟨y4, y5, y6, k7, hk14, rfl, rfl, hl13⟩
  clear hE9 h
  cases m11 with
  | zero =>
    have h := hl13
    clear hl13
    rw [List.drop_of_length_le (by omega), f_batch_records_l1] at h
    have hk14ge : ¬ ((k7 : Int) < (a0.fRecords.length : Int)) := by omega
    refine T.seq (T.region rfl ?_)
    refine TL.run ft_batch_ok [0] rfl rfl ?_
    refine TL.nil (X.seq (T.seq ?_))
    refine T.no rfl (decide_eq_false hk14ge) ?_
    obtain rfl := Option.some.inj h
    replace h := hO10
    clear hO10
    try dsimp only at h
    refine T.exit (X.exs (X.exs (X.ex (X.seq (T.seq (T.seq (T.region rfl ?_)))))))
    refine TL.run ft_batch_ok [0] rfl rfl ?_
    refine TL.q rfl .u (Ex.b1 0 rfl Try.isAgg4 rfl rfl) rfl ?_
    by_cases c33 : a0.fAppend = true
    · replace h := ifT c33 h
      refine TL.run ft_batch_ok [2, 3] rfl rfl ?_
      refine TL.no rfl (.gn rfl rfl (bn_f c33)) rfl ?_
      refine TL.no rfl (.gn rfl rfl (bn_f c33)) rfl ?_
      refine TL.no rfl (.gn rfl rfl (bn_f c33)) rfl ?_
      refine TL.no rfl (.gn rfl rfl (bn_f c33)) rfl ?_
      refine TL.q rfl .u (Ex.pn rfl (bn_f c33) rfl) rfl ?_
      refine TL.nil (X.seq ?_)
      refine T.no rfl rfl ?_
      refine T.skip (X.seq (T.seq (T.region rfl ?_)))
      refine TL.run ft_batch_ok [0] rfl rfl ?_
      obtain rfl := Option.some.inj h
      exact TL.nil (X.seq (T.ret (X.done1 [1] Try.results47 (RV.tm rfl) ⟨rfl, rfl, rfl⟩ (by rfl) (.inl rfl))))
    · replace h := ifF c33 h
      replace c33 := eq_false_of_ne_true c33
      refine TL.run ft_batch_ok [2, 3] rfl rfl ?_
      refine TL.q rfl (.g rfl rfl (bn_t c33)) (Ex.ft ft_batch_ok rfl) rfl ?_
      refine TL.q rfl (.g rfl rfl (bn_t c33)) (Ex.ft ft_batch_ok rfl) rfl ?_
      refine TL.q rfl (.g rfl rfl (bn_t c33)) (Ex.b1 0 rfl Try.isAgg3 rfl rfl) rfl ?_
      refine TL.q rfl (.g rfl rfl (bn_t c33)) (Ex.ft ft_batch_ok rfl) rfl ?_
      refine TL.q rfl .u (Ex.py rfl (bn_t c33) rfl) rfl ?_
      by_cases c34 : y6 = a0.fMax
      · replace h := ifT c34 h
        refine TL.nil (X.seq ?_)
        refine T.no rfl (bn_f (decide_eq_true c34)) ?_
        refine T.skip (X.seq (T.seq (T.region rfl ?_)))
        refine TL.run ft_batch_ok [0] rfl rfl ?_
        obtain rfl := Option.some.inj h
        exact TL.nil (X.seq (T.ret (X.done1 [1] Try.results47 (RV.tm rfl) ⟨rfl, rfl, rfl⟩ (by rfl) (.inl rfl))))
      · replace h := ifF c34 h
        refine TL.nil (X.seq ?_)
        refine T.yes rfl (bn_t (decide_eq_false c34)) ?_
        refine T.seq (T.region rfl ?_)
        refine TL.run ft_batch_ok [0] rfl rfl ?_
        obtain rfl := Option.some.inj h
        exact TL.nil (X.seq (T.ret (X.rs (X.done1 [1] Try.results47 (RV.tm rfl) ⟨rfl, rfl, rfl⟩ (by rfl) (.inl rfl)))))
  | succ m11 =>
    have h := hl13
    clear hl13
    obtain ⟨x12, hxx12⟩ : ∃ x, a0.fRecords[k7]? = some x := ⟨_, List.getElem?_eq_getElem (by omega)⟩
    rw [drop_cons hxx12, f_batch_records_l1] at h
    have hk14lt : (k7 : Int) < (a0.fRecords.length : Int) := by omega
    refine T.seq (T.region rfl ?_)
    refine TL.run ft_batch_ok [0] rfl rfl ?_
    refine TL.nil (X.seq (T.seq ?_))
    refine T.yes rfl (decide_eq_true hk14lt) ?_
    obtain ⟨gz15, oz15, rfl, z15cs, z15cl, z15cc, z15nf, z15r⟩ := RX.elem (by decide) hX hxx12
    obtain ⟨z15S, z15r, z15rr⟩ := z15r
    obtain ⟨A16, c17, rfl, z15s0⟩ := z15r
    have hX18 : (RX.of (sliceRd 3 Hd_rd) [.slice A16 x12.fHeaders.length c17] x12.fHeaders).reads w F := ⟨z15S, z15s0, z15rr⟩
    refine T.skip (X.seq (T.seq (T.block (T.seq (T.region rfl ?_)))))
    refine TL.q rfl .u (Ex.ixS (k := k7) rfl rfl rfl Try.runUnderlying34 Try.sizeOf83 (List.getElem?_eq_some_iff.1 hxx12).1) rfl ?_
    refine TL.q rfl .u (Ex.oS (us := [.int .i64 x12.fTime, .int .i64 x12.fOffset, .bool x12.fKey.null, .string (bsOf x12.fKey.data), .bool x12.fValue.null, .string (bsOf x12.fValue.data), .slice A16 x12.fHeaders.length c17]) 0 rfl Try.isAgg83 Try.sizeOf83 z15nf z15cc rfl rfl rfl) rfl ?_
    refine TL.alloc rfl .u Try.zeroValue83 rfl (fun b19 => ?_)
    refine TL.st0 (cs' := #[.int .i64 x12.fTime, .int .i64 x12.fOffset, .bool x12.fKey.null, .string (bsOf x12.fKey.data), .bool x12.fValue.null, .string (bsOf x12.fValue.data), .slice A16 x12.fHeaders.length c17]) rfl .u rfl rfl Try.sizeOf83 rfl rfl rfl rfl ?_
    refine TL.nil (X.seq (T.seq (T.seq (T.region rfl ?_))))
    refine TL.run ft_batch_ok [0] rfl rfl ?_
    refine TL.q rfl .u (Ex.b1 0 rfl Try.isAgg3 rfl rfl) rfl ?_
    by_cases c20 : x12.fOffset ≤ y5
    · replace h := ifT c20 h
      refine TL.run ft_batch_ok [2, 3, 4] rfl rfl ?_
      refine TL.no rfl (.gn rfl rfl (decide_eq_true c20)) rfl ?_
      refine TL.no rfl (.gn rfl rfl (decide_eq_true c20)) rfl ?_
      refine TL.no rfl (.gn rfl rfl (decide_eq_true c20)) rfl ?_
      refine TL.no rfl (.gn rfl rfl (decide_eq_true c20)) rfl ?_
      refine TL.no rfl (.gn rfl rfl (decide_eq_true c20)) rfl ?_
      refine TL.q rfl .u (Ex.py rfl (decide_eq_true c20) rfl) rfl ?_
      refine TL.nil (X.seq ?_)
      refine T.yes rfl rfl ?_
      refine T.seq (T.region rfl ?_)
      refine TL.run ft_batch_ok [0] rfl rfl ?_
      obtain rfl := Option.some.inj h
      replace h := hO10
      clear hO10
      try dsimp only at h
      obtain rfl := Option.some.inj h
      exact TL.nil (X.seq (T.ret (X.rs (X.rb (X.rs (X.rs (X.rb (X.rs (X.done1 [2] Try.results47 (RV.tm rfl) ⟨rfl, rfl, rfl⟩ (by rfl) (.inl rfl))))))))))
    · replace h := ifF c20 h
      refine TL.run ft_batch_ok [2, 3, 4] rfl rfl ?_
      refine TL.q rfl (.g rfl rfl (decide_eq_false c20)) (Ex.ft ft_batch_ok rfl) rfl ?_
      refine TL.q rfl (.g rfl rfl (decide_eq_false c20)) (Ex.b1 0 rfl Try.isAgg3 rfl rfl) rfl ?_
      refine TL.q rfl (.g rfl rfl (decide_eq_false c20)) (Ex.ft ft_batch_ok rfl) rfl ?_
      refine TL.q rfl (.g rfl rfl (decide_eq_false c20)) (Ex.b1 1 rfl Try.isAgg3 rfl rfl) rfl ?_
      refine TL.q rfl (.g rfl rfl (decide_eq_false c20)) (Ex.ft ft_batch_ok rfl) rfl ?_
      refine TL.q rfl .u (Ex.pn rfl (decide_eq_false c20) rfl) rfl ?_
      by_cases c21 : x12.fOffset > a0.fLast
      · replace h := ifT c21 h
        refine TL.nil (X.seq ?_)
        refine T.yes rfl (decide_eq_true c21) ?_
        refine T.seq (T.region rfl ?_)
        refine TL.run ft_batch_ok [0] rfl rfl ?_
        obtain rfl := Option.some.inj h
        replace h := hO10
        clear hO10
        try dsimp only at h
        obtain rfl := Option.some.inj h
        exact TL.nil (X.seq (T.ret (X.rs (X.rb (X.rs (X.rs (X.rb (X.rs (X.done1 [2] Try.results47 (RV.tm rfl) ⟨rfl, rfl, rfl⟩ (by rfl) (.inl rfl))))))))))
      · replace h := ifF c21 h
        refine TL.nil (X.seq ?_)
        refine T.no rfl (decide_eq_false c21) ?_
        refine T.skip (X.seq (T.seq (T.region rfl ?_)))
        refine TL.run ft_batch_ok [0] rfl rfl ?_
        refine TL.q rfl .u (Ex.b1 0 rfl Try.isAgg3 rfl rfl) rfl ?_
        refine TL.run ft_batch_ok [2] rfl rfl ?_
        refine TL.nil (X.seq (T.seq (T.region rfl ?_)))
        refine TL.run ft_batch_ok [0] rfl rfl ?_
        refine TL.q rfl .u (Ex.b1 1 rfl Try.isAgg3 rfl rfl) rfl ?_
        refine TL.run ft_batch_ok [2] rfl rfl ?_
        refine TL.q rfl .u (Ex.b1 0 rfl Try.isAgg3 rfl rfl) rfl ?_
        refine TL.q rfl .u (Ex.addw rfl rfl) rfl ?_
        refine TL.run ft_batch_ok [5] rfl rfl ?_
        refine TL.nil (X.seq (T.seq (T.seq (T.region rfl ?_))))
        by_cases c22 : (IntKind.i64.wrap (a0.fFirst + x12.fTime)) < 0
        · replace h := ifT c22 h
          refine TL.run ft_batch_ok [0, 1, 2] rfl rfl ?_
          refine TL.no rfl (.gn rfl rfl (decide_eq_true c22)) rfl ?_
          refine TL.no rfl (.gn rfl rfl (decide_eq_true c22)) rfl ?_
          refine TL.no rfl (.gn rfl rfl (decide_eq_true c22)) rfl ?_
          refine TL.no rfl (.gn rfl rfl (decide_eq_true c22)) rfl ?_
          refine TL.no rfl (.gu rfl rfl) rfl ?_
          refine TL.no rfl (.gu rfl rfl) rfl ?_
          refine TL.no rfl (.gu rfl rfl) rfl ?_
          refine TL.no rfl (.gu rfl rfl) rfl ?_
          refine TL.no rfl (.gn rfl rfl (decide_eq_true c22)) rfl ?_
          refine TL.q rfl .u (Ex.py rfl (decide_eq_true c22) rfl) rfl ?_
          refine TL.nil (X.seq ?_)
          refine T.yes rfl rfl ?_
          refine T.seq (T.region rfl ?_)
          refine TL.run ft_batch_ok [0] rfl rfl ?_
          obtain rfl := Option.some.inj h
          replace h := hO10
          clear hO10
          try dsimp only at h
          obtain rfl := Option.some.inj h
          exact TL.nil (X.seq (T.ret (X.rs (X.rb (X.rs (X.rs (X.rb (X.rs (X.done1 [2] Try.results47 (RV.tm rfl) ⟨rfl, rfl, rfl⟩ (by rfl) (.inl rfl))))))))))
        · replace h := ifF c22 h
          refine TL.run ft_batch_ok [0, 1, 2] rfl rfl ?_
          refine TL.q rfl (.g rfl rfl (decide_eq_false c22)) (Ex.ft ft_batch_ok rfl) rfl ?_
          refine TL.q rfl (.g rfl rfl (decide_eq_false c22)) (Ex.b1 0 rfl Try.isAgg3 rfl rfl) rfl ?_
          refine TL.q rfl (.g rfl rfl (decide_eq_false c22)) (Ex.ft ft_batch_ok rfl) rfl ?_
          refine TL.q rfl (.g rfl rfl (decide_eq_false c22)) (Ex.ft ft_batch_ok rfl) rfl ?_
          by_cases c23 : x12.fTime > 0
          · replace h := ifT c23 h
            refine TL.q rfl (.g rfl rfl (decide_eq_true c23)) (Ex.ft ft_batch_ok rfl) rfl ?_
            refine TL.q rfl (.g rfl rfl (decide_eq_true c23)) (Ex.ft ft_batch_ok rfl) rfl ?_
            refine TL.q rfl (.g rfl rfl (decide_eq_true c23)) (Ex.b1 0 rfl Try.isAgg3 rfl rfl) rfl ?_
            refine TL.q rfl (.g rfl rfl (decide_eq_true c23)) (Ex.ft ft_batch_ok rfl) rfl ?_
            refine TL.q rfl (.g rfl rfl (decide_eq_false c22)) (Ex.py rfl (decide_eq_true c23) rfl) rfl ?_
            refine TL.q rfl .u (Ex.pn rfl (decide_eq_false c22) rfl) rfl ?_
            by_cases c24 : (IntKind.i64.wrap (a0.fFirst + x12.fTime)) < x12.fTime
            · replace h := ifT c24 h
              refine TL.nil (X.seq ?_)
              refine T.yes rfl (decide_eq_true c24) ?_
              refine T.seq (T.region rfl ?_)
              refine TL.run ft_batch_ok [0] rfl rfl ?_
              obtain rfl := Option.some.inj h
              replace h := hO10
              clear hO10
              try dsimp only at h
              obtain rfl := Option.some.inj h
              exact TL.nil (X.seq (T.ret (X.rs (X.rb (X.rs (X.rs (X.rb (X.rs (X.done1 [2] Try.results47 (RV.tm rfl) ⟨rfl, rfl, rfl⟩ (by rfl) (.inl rfl))))))))))
            · replace h := ifF c24 h
              refine TL.nil (X.seq ?_)
              refine T.no rfl (decide_eq_false c24) ?_
              refine T.skip (X.seq (T.region rfl ?_))
              by_cases c25 : y6 < (IntKind.i64.wrap (a0.fFirst + x12.fTime))
              · replace h := ifT c25 h
                refine TL.run ft_batch_ok [0, 1] rfl rfl ?_
                refine TL.q rfl .u (Ex.maxy rfl rfl c25) rfl ?_
                refine TL.run ft_batch_ok [3] rfl rfl ?_
                refine TL.nil (X.blk (X.seq (T.region rfl ?_)))
                refine TL.q rfl .u (Ex.add rfl rfl (by omega)) rfl ?_
                refine TL.run ft_batch_ok [1] rfl rfl ?_
                exact TL.nil (X.back (m' := m11) [1, 1] (by omega) ⟨y4, x12.fOffset, (IntKind.i64.wrap (a0.fFirst + x12.fTime)), k7 + 1, by omega, rfl, rfl, h⟩ (by rfl) (by rfl))
              · replace h := ifF c25 h
                refine TL.run ft_batch_ok [0, 1] rfl rfl ?_
                refine TL.q rfl .u (Ex.maxx rfl rfl c25) rfl ?_
                refine TL.run ft_batch_ok [3] rfl rfl ?_
                refine TL.nil (X.blk (X.seq (T.region rfl ?_)))
                refine TL.q rfl .u (Ex.add rfl rfl (by omega)) rfl ?_
                refine TL.run ft_batch_ok [1] rfl rfl ?_
                exact TL.nil (X.back (m' := m11) [1, 1] (by omega) ⟨y4, x12.fOffset, y6, k7 + 1, by omega, rfl, rfl, h⟩ (by rfl) (by rfl))
          · replace h := ifF c23 h
            refine TL.no rfl (.gn rfl rfl (decide_eq_false c23)) rfl ?_
            refine TL.no rfl (.gn rfl rfl (decide_eq_false c23)) rfl ?_
            refine TL.no rfl (.gn rfl rfl (decide_eq_false c23)) rfl ?_
            refine TL.no rfl (.gn rfl rfl (decide_eq_false c23)) rfl ?_
            refine TL.q rfl (.g rfl rfl (decide_eq_false c22)) (Ex.pn rfl (decide_eq_false c23) rfl) rfl ?_
            refine TL.q rfl .u (Ex.pn rfl (decide_eq_false c22) rfl) rfl ?_
            refine TL.nil (X.seq ?_)
            refine T.no rfl rfl ?_
            refine T.skip (X.seq (T.region rfl ?_))
            by_cases c26 : y6 < (IntKind.i64.wrap (a0.fFirst + x12.fTime))
            · replace h := ifT c26 h
              refine TL.run ft_batch_ok [0, 1] rfl rfl ?_
              refine TL.q rfl .u (Ex.maxy rfl rfl c26) rfl ?_
              refine TL.run ft_batch_ok [3] rfl rfl ?_
              refine TL.nil (X.blk (X.seq (T.region rfl ?_)))
              refine TL.q rfl .u (Ex.add rfl rfl (by omega)) rfl ?_
              refine TL.run ft_batch_ok [1] rfl rfl ?_
              exact TL.nil (X.back (m' := m11) [1, 1] (by omega) ⟨y4, x12.fOffset, (IntKind.i64.wrap (a0.fFirst + x12.fTime)), k7 + 1, by omega, rfl, rfl, h⟩ (by rfl) (by rfl))
            · replace h := ifF c26 h
              refine TL.run ft_batch_ok [0, 1] rfl rfl ?_
              refine TL.q rfl .u (Ex.maxx rfl rfl c26) rfl ?_
              refine TL.run ft_batch_ok [3] rfl rfl ?_
              refine TL.nil (X.blk (X.seq (T.region rfl ?_)))
              refine TL.q rfl .u (Ex.add rfl rfl (by omega)) rfl ?_
              refine TL.run ft_batch_ok [1] rfl rfl ?_
              exact TL.nil (X.back (m' := m11) [1, 1] (by omega) ⟨y4, x12.fOffset, y6, k7 + 1, by omega, rfl, rfl, h⟩ (by rfl) (by rfl))
def f_batch_Check_l1 : List Rec → Int → Option (Lp Int Int)
  | [], y13 => some (Lp.go y13)
  | x19 :: xs, y13 => (f_record_Right x19).bind fun x27 => if x27 = 0 then (f_batch_Check_l1 xs y13) else some (Lp.ret x27)
def f_batch_Check_l2 : List Rec → Int → Option (Lp Int Int)
  | [], y61 => some (Lp.go y61)
  | x67 :: xs, y61 => (f_record_Right x67).bind fun x75 => if x75 = 0 then (f_batch_Check_l2 xs y61) else some (Lp.ret x75)
def f_batch_Check (a0 : Bat) : Option (Int) := (f_batch_numbers a0).bind fun x4 => if x4 = true then (if a0.fControl = true then (if a0.fTxn = true then ((f_batch_producer a0).bind fun x9 => if x9 = true then (if (a0.fRecords.length : Int) = 1 then ((f_batch_Check_l1 a0.fRecords 0).bind fun e => match e with | .ret r => some r | .go y30 => ((a0.fRecords[0]?).bind fun x32 => (f_control_Read x32).bind fun (x38, x39, x40) => if x40 = 0 then ((f_batch_records a0).bind fun x43 => some x43) else some x40)) else some 10) else some 11) else some 8) else ((f_batch_producer a0).bind fun x58 => if x58 = true then ((f_batch_Check_l2 a0.fRecords 0).bind fun e => match e with | .ret r => some r | .go y78 => ((f_batch_records a0).bind fun x80 => some x80)) else some 11)) else some 11
set_option maxRecDepth 100000 in
set_option maxHeartbeats 4000000 in
theorem f_batch_Check_spec (a0 : Bat) (A1 : Option Addr) (c2 : Nat) (r : Int) (h : f_batch_Check a0 = some r) : SpecX Try.prog 26 #[.agg #[.int .i64 a0.fBase, .int .i64 a0.fLeader, .bool a0.fAppend, .bool a0.fTxn, .bool a0.fControl, .int .i64 a0.fLast, .int .i64 a0.fFirst, .int .i64 a0.fMax, .int .i64 a0.fProducer, .int .i64 a0.fEpoch, .int .i64 a0.fSequence, .slice A1 a0.fRecords.length c2]] (RX.of (sliceRd 7 Rec_rd) [.slice A1 a0.fRecords.length c2] a0.fRecords) (EmpR) (fun v A' N => v = .int .i64 r ∧ A' = EmpR ∧ N = []) := by
  refine enterA Try.func26 rfl Try.ntmps26 rfl ?_
  intro F w hX
  unfold f_batch_Check at h
  refine T.seq (T.region rfl ?_)
  refine TL.box rfl .u rfl rfl (fun b3 => ?_)
  refine TL.run ft_batch_ok [1] rfl rfl ?_
  refine TL.nil (X.seq (T.seq (T.block (T.seq (T.region rfl ?_)))))
  refine TL.q rfl .u (Ex.bS (us := [.int .i64 a0.fBase, .int .i64 a0.fLeader, .bool a0.fAppend, .bool a0.fTxn, .bool a0.fControl, .int .i64 a0.fLast, .int .i64 a0.fFirst, .int .i64 a0.fMax, .int .i64 a0.fProducer, .int .i64 a0.fEpoch, .int .i64 a0.fSequence, .slice A1 a0.fRecords.length c2]) 0 rfl Try.isAgg36 Try.sizeOf36 rfl rfl rfl) rfl ?_
  obtain ⟨x4, hx5, h⟩ := Option.bind_eq_some_iff.1 h
  refine TL.ce rfl .u (.fn Try.call43 rfl) (f_batch_numbers_spec a0 _ _ _ hx5) (fun _ hs => (SrcE.old hs hX)) rfl ?_
  refine TL.run ft_batch_ok [2, 3] rfl rfl ?_
  by_cases c6 : x4 = true
  · replace h := ifT c6 h
    refine TL.nil (X.seq ?_)
    refine T.no rfl (bn_f c6) ?_
    refine T.seq (T.region rfl ?_)
    refine TL.run ft_batch_ok [0] rfl rfl ?_
    refine TL.q rfl .u (Ex.b1 0 rfl Try.isAgg4 rfl rfl) rfl ?_
    by_cases c7 : a0.fControl = true
    · replace h := ifT c7 h
      refine TL.run ft_batch_ok [2] rfl rfl ?_
      refine TL.q rfl (.g rfl rfl c7) (Ex.ft ft_batch_ok rfl) rfl ?_
      refine TL.q rfl (.g rfl rfl c7) (Ex.b1 0 rfl Try.isAgg4 rfl rfl) rfl ?_
      refine TL.q rfl (.g rfl rfl c7) (Ex.ft ft_batch_ok rfl) rfl ?_
      refine TL.q rfl .u (Ex.py rfl c7 rfl) rfl ?_
      refine TL.run ft_batch_ok [7] rfl rfl ?_
      by_cases c8 : a0.fTxn = true
      · replace h := ifT c8 h
        refine TL.nil (X.seq ?_)
        refine T.no rfl (bn_f c8) ?_
        refine T.seq (T.region rfl ?_)
        refine TL.q rfl .u (Ex.bS (us := [.int .i64 a0.fBase, .int .i64 a0.fLeader, .bool a0.fAppend, .bool a0.fTxn, .bool a0.fControl, .int .i64 a0.fLast, .int .i64 a0.fFirst, .int .i64 a0.fMax, .int .i64 a0.fProducer, .int .i64 a0.fEpoch, .int .i64 a0.fSequence, .slice A1 a0.fRecords.length c2]) 0 rfl Try.isAgg36 Try.sizeOf36 rfl rfl rfl) rfl ?_
        obtain ⟨x9, hx10, h⟩ := Option.bind_eq_some_iff.1 h
        refine TL.ce rfl .u (.fn Try.call44 rfl) (f_batch_producer_spec a0 _ _ _ hx10) (fun _ hs => (SrcE.old hs hX)) rfl ?_
        refine TL.run ft_batch_ok [2, 3] rfl rfl ?_
        by_cases c11 : x9 = true
        · replace h := ifT c11 h
          refine TL.nil (X.seq ?_)
          refine T.no rfl (bn_f c11) ?_
          refine T.seq (T.region rfl ?_)
          refine TL.run ft_batch_ok [0] rfl rfl ?_
          refine TL.q rfl .u (Ex.b1 0 rfl Try.isAgg4 rfl rfl) rfl ?_
          refine TL.run ft_batch_ok [2] rfl rfl ?_
          refine TL.q rfl (.g rfl rfl c7) (Ex.ft ft_batch_ok rfl) rfl ?_
          refine TL.q rfl (.g rfl rfl c7) (Ex.b1 0 rfl Try.isAgg34 rfl rfl) rfl ?_
          refine TL.q rfl (.g rfl rfl c7) (Ex.lenS rfl Try.runUnderlying34) rfl ?_
          refine TL.q rfl (.g rfl rfl c7) (Ex.ft ft_batch_ok rfl) rfl ?_
          refine TL.q rfl .u (Ex.py rfl c7 rfl) rfl ?_
          refine TL.run ft_batch_ok [8] rfl rfl ?_
          by_cases c12 : (a0.fRecords.length : Int) = 1
          · replace h := ifT c12 h
            refine TL.nil (X.seq ?_)
            refine T.no rfl (bn_f (decide_eq_true c12)) ?_
            refine T.skip (X.blk (X.seq (T.seq (T.seq (T.region rfl ?_)))))
            refine TL.run ft_batch_ok [0] rfl rfl ?_
            refine TL.q rfl .u (Ex.b1 0 rfl Try.isAgg34 rfl rfl) rfl ?_
            refine TL.q rfl .u (Ex.lenS rfl Try.runUnderlying34) rfl ?_
            refine TL.run ft_batch_ok [3] rfl rfl ?_
            refine TL.nil (X.seq (T.block ?_))
            obtain ⟨E15, hE16, hO17⟩ := Option.bind_eq_some_iff.1 h
            have hk21len := RX.len_le hX
            refine T.lp (fun m e Rs => ∃ (y13 : Int) (k14 : Nat), k14 + m = a0.fRecords.length ∧ e = [(1, .pointer (some ⟨b3, 0, none⟩)), (2, .int .i64 y13), (35, .slice A1 a0.fRecords.length c2), (36, .int .i64 (a0.fRecords.length : Int)), (37, .int .i64 (k14 : Int))] ∧ Rs = [BlkR b3 36 #[.int .i64 a0.fBase, .int .i64 a0.fLeader, .bool a0.fAppend, .bool a0.fTxn, .bool a0.fControl, .int .i64 a0.fLast, .int .i64 a0.fFirst, .int .i64 a0.fMax, .int .i64 a0.fProducer, .int .i64 a0.fEpoch, .int .i64 a0.fSequence, .slice A1 a0.fRecords.length c2], EmpR] ∧ f_batch_Check_l1 (a0.fRecords.drop k14) y13 = some E15) (a0.fRecords.length) [0, 0] ⟨0, 0, by simp, rfl, rfl, by rw [List.drop_zero]; exact hE16⟩ (by rfl) (by rfl) ?_
            rintro m18 _ _ ⟨y13, k14, hk21, rfl, rfl, hl20⟩
            clear hE16 h
            cases m18 with
            | zero =>
              have h := hl20
              clear hl20
              rw [List.drop_of_length_le (by omega), f_batch_Check_l1] at h
              have hk21ge : ¬ ((k14 : Int) < (a0.fRecords.length : Int)) := by omega
              refine T.seq (T.region rfl ?_)
              refine TL.run ft_batch_ok [0] rfl rfl ?_
              refine TL.nil (X.seq (T.seq ?_))
              refine T.no rfl (decide_eq_false hk21ge) ?_
              obtain rfl := Option.some.inj h
              replace h := hO17
              clear hO17
              try dsimp only at h
              refine T.exit (X.exs (X.exs (X.ex (X.seq (T.seq (T.seq (T.region rfl ?_)))))))
              refine TL.run ft_batch_ok [0] rfl rfl ?_
              refine TL.q rfl .u (Ex.b1 0 rfl Try.isAgg4 rfl rfl) rfl ?_
              refine TL.nil (X.seq ?_)
              refine T.yes rfl c7 ?_
              refine T.seq (T.region rfl ?_)
              refine TL.run ft_batch_ok [0] rfl rfl ?_
              refine TL.q rfl .u (Ex.b1 0 rfl Try.isAgg34 rfl rfl) rfl ?_
              obtain ⟨x45, hx46, h⟩ := Option.bind_eq_some_iff.1 h
              obtain ⟨gz47, oz47, rfl, z47cs, z47cl, z47cc, z47nf, z47r⟩ := RX.elem (by decide) hX hx46
              obtain ⟨z47S, z47r, z47rr⟩ := z47r
              obtain ⟨A48, c49, rfl, z47s0⟩ := z47r
              have hX50 : (RX.of (sliceRd 3 Hd_rd) [.slice A48 x45.fHeaders.length c49] x45.fHeaders).reads w F := ⟨z47S, z47s0, z47rr⟩
              refine TL.q rfl .u (Ex.ixS (k := 0) rfl rfl rfl Try.runUnderlying34 Try.sizeOf83 (List.getElem?_eq_some_iff.1 hx46).1) rfl ?_
              refine TL.q rfl .u (Ex.oS (us := [.int .i64 x45.fTime, .int .i64 x45.fOffset, .bool x45.fKey.null, .string (bsOf x45.fKey.data), .bool x45.fValue.null, .string (bsOf x45.fValue.data), .slice A48 x45.fHeaders.length c49]) 0 rfl Try.isAgg83 Try.sizeOf83 z47nf z47cc rfl rfl rfl) rfl ?_
              obtain ⟨⟨x51, x52, x53⟩, hx54, h⟩ := Option.bind_eq_some_iff.1 h
              try dsimp only at h
              refine TL.ce rfl .u (.fn Try.call46 rfl) (f_control_Read_spec x45 _ _ _ hx54) (fun _ hs => (SrcE.old hs hX50)) rfl ?_
              refine TL.run ft_batch_ok [5, 6, 7, 8, 9, 10, 11] rfl rfl ?_
              refine TL.nil (X.seq (T.seq (T.region rfl ?_)))
              refine TL.run ft_batch_ok [0, 1] rfl rfl ?_
              by_cases c55 : x53 = 0
              · replace h := ifT c55 h
                refine TL.nil (X.seq ?_)
                refine T.no rfl (bn_f (decide_eq_true c55)) ?_
                refine T.skip (X.seq (T.seq (T.region rfl ?_)))
                refine TL.q rfl .u (Ex.bS (us := [.int .i64 a0.fBase, .int .i64 a0.fLeader, .bool a0.fAppend, .bool a0.fTxn, .bool a0.fControl, .int .i64 a0.fLast, .int .i64 a0.fFirst, .int .i64 a0.fMax, .int .i64 a0.fProducer, .int .i64 a0.fEpoch, .int .i64 a0.fSequence, .slice (some ⟨gz47, oz47, none⟩) a0.fRecords.length c2]) 0 rfl Try.isAgg36 Try.sizeOf36 rfl rfl rfl) rfl ?_
                obtain ⟨x56, hx57, h⟩ := Option.bind_eq_some_iff.1 h
                refine TL.ce rfl .u (.fn Try.call47 rfl) (f_batch_records_spec a0 _ _ _ hx57) (fun _ hs => (SrcE.old hs hX)) rfl ?_
                refine TL.run ft_batch_ok [2] rfl rfl ?_
                obtain rfl := Option.some.inj h
                exact TL.nil (X.seq (T.ret (X.done1 [1] Try.results26 (RV.tm rfl) ⟨rfl, rfl, rfl⟩ (by rfl) (.inl rfl))))
              · replace h := ifF c55 h
                refine TL.nil (X.seq ?_)
                refine T.yes rfl (bn_t (decide_eq_false c55)) ?_
                refine T.seq (T.region rfl ?_)
                refine TL.run ft_batch_ok [0, 1] rfl rfl ?_
                obtain rfl := Option.some.inj h
                exact TL.nil (X.seq (T.ret (X.rs (X.done1 [1] Try.results26 (RV.tm rfl) ⟨rfl, rfl, rfl⟩ (by rfl) (.inl rfl)))))
            | succ m18 =>
              have h := hl20
              clear hl20
              obtain ⟨x19, hxx19⟩ : ∃ x, a0.fRecords[k14]? = some x := ⟨_, List.getElem?_eq_getElem (by omega)⟩
              rw [drop_cons hxx19, f_batch_Check_l1] at h
              have hk21lt : (k14 : Int) < (a0.fRecords.length : Int) := by omega
              refine T.seq (T.region rfl ?_)
              refine TL.run ft_batch_ok [0] rfl rfl ?_
              refine TL.nil (X.seq (T.seq ?_))
              refine T.yes rfl (decide_eq_true hk21lt) ?_
              obtain ⟨gz22, oz22, rfl, z22cs, z22cl, z22cc, z22nf, z22r⟩ := RX.elem (by decide) hX hxx19
              obtain ⟨z22S, z22r, z22rr⟩ := z22r
              obtain ⟨A23, c24, rfl, z22s0⟩ := z22r
              have hX25 : (RX.of (sliceRd 3 Hd_rd) [.slice A23 x19.fHeaders.length c24] x19.fHeaders).reads w F := ⟨z22S, z22s0, z22rr⟩
              refine T.skip (X.seq (T.seq (T.block (T.seq (T.region rfl ?_)))))
              refine TL.q rfl .u (Ex.ixS (k := k14) rfl rfl rfl Try.runUnderlying34 Try.sizeOf83 (List.getElem?_eq_some_iff.1 hxx19).1) rfl ?_
              refine TL.q rfl .u (Ex.oS (us := [.int .i64 x19.fTime, .int .i64 x19.fOffset, .bool x19.fKey.null, .string (bsOf x19.fKey.data), .bool x19.fValue.null, .string (bsOf x19.fValue.data), .slice A23 x19.fHeaders.length c24]) 0 rfl Try.isAgg83 Try.sizeOf83 z22nf z22cc rfl rfl rfl) rfl ?_
              refine TL.alloc rfl .u Try.zeroValue83 rfl (fun b26 => ?_)
              refine TL.st0 (cs' := #[.int .i64 x19.fTime, .int .i64 x19.fOffset, .bool x19.fKey.null, .string (bsOf x19.fKey.data), .bool x19.fValue.null, .string (bsOf x19.fValue.data), .slice A23 x19.fHeaders.length c24]) rfl .u rfl rfl Try.sizeOf83 rfl rfl rfl rfl ?_
              refine TL.nil (X.seq (T.seq (T.region rfl ?_)))
              refine TL.q rfl .u (Ex.bS (us := [.int .i64 x19.fTime, .int .i64 x19.fOffset, .bool x19.fKey.null, .string (bsOf x19.fKey.data), .bool x19.fValue.null, .string (bsOf x19.fValue.data), .slice A23 x19.fHeaders.length c24]) 0 rfl Try.isAgg83 Try.sizeOf83 rfl rfl rfl) rfl ?_
              obtain ⟨x27, hx28, h⟩ := Option.bind_eq_some_iff.1 h
              refine TL.ce rfl .u (.fn Try.call45 rfl) (f_record_Right_spec x19 _ _ _ hx28) (fun _ hs => (SrcE.old hs hX25)) rfl ?_
              refine TL.run ft_batch_ok [2] rfl rfl ?_
              refine TL.nil (X.seq (T.seq (T.region rfl ?_)))
              refine TL.run ft_batch_ok [0, 1] rfl rfl ?_
              by_cases c29 : x27 = 0
              · replace h := ifT c29 h
                refine TL.nil (X.seq ?_)
                refine T.no rfl (bn_f (decide_eq_true c29)) ?_
                refine T.skip (X.blk (X.seq (T.region rfl ?_)))
                refine TL.q rfl .u (Ex.add rfl rfl (by omega)) rfl ?_
                refine TL.run ft_batch_ok [1] rfl rfl ?_
                exact TL.nil (X.back (m' := m18) [1, 1] (by omega) ⟨y13, k14 + 1, by omega, rfl, rfl, h⟩ (by rfl) (by rfl))
              · replace h := ifF c29 h
                refine TL.nil (X.seq ?_)
                refine T.yes rfl (bn_t (decide_eq_false c29)) ?_
                refine T.seq (T.region rfl ?_)
                refine TL.run ft_batch_ok [0, 1] rfl rfl ?_
                obtain rfl := Option.some.inj h
                replace h := hO17
                clear hO17
                try dsimp only at h
                obtain rfl := Option.some.inj h
                exact TL.nil (X.seq (T.ret (X.rb (X.rs (X.rs (X.rb (X.rs (X.done1 [2] Try.results26 (RV.tm rfl) ⟨rfl, rfl, rfl⟩ (by rfl) (.inl rfl)))))))))
          · replace h := ifF c12 h
            refine TL.nil (X.seq ?_)
            refine T.yes rfl (bn_t (decide_eq_false c12)) ?_
            refine T.seq (T.region rfl ?_)
            refine TL.run ft_batch_ok [0] rfl rfl ?_
            obtain rfl := Option.some.inj h
            exact TL.nil (X.seq (T.ret (X.rb (X.rs (X.done1 [1] Try.results26 (RV.tm rfl) ⟨rfl, rfl, rfl⟩ (by rfl) (.inl rfl))))))
        · replace h := ifF c11 h
          replace c11 := eq_false_of_ne_true c11
          refine TL.nil (X.seq ?_)
          refine T.yes rfl (bn_t c11) ?_
          refine T.seq (T.region rfl ?_)
          refine TL.run ft_batch_ok [0] rfl rfl ?_
          obtain rfl := Option.some.inj h
          exact TL.nil (X.seq (T.ret (X.rb (X.rs (X.done1 [1] Try.results26 (RV.tm rfl) ⟨rfl, rfl, rfl⟩ (by rfl) (.inl rfl))))))
      · replace h := ifF c8 h
        replace c8 := eq_false_of_ne_true c8
        refine TL.nil (X.seq ?_)
        refine T.yes rfl (bn_t c8) ?_
        refine T.seq (T.region rfl ?_)
        refine TL.run ft_batch_ok [0] rfl rfl ?_
        obtain rfl := Option.some.inj h
        exact TL.nil (X.seq (T.ret (X.rb (X.rs (X.done1 [1] Try.results26 (RV.tm rfl) ⟨rfl, rfl, rfl⟩ (by rfl) (.inl rfl))))))
    · replace h := ifF c7 h
      replace c7 := eq_false_of_ne_true c7
      refine TL.run ft_batch_ok [2] rfl rfl ?_
      refine TL.no rfl (.gn rfl rfl c7) rfl ?_
      refine TL.no rfl (.gn rfl rfl c7) rfl ?_
      refine TL.no rfl (.gn rfl rfl c7) rfl ?_
      refine TL.q rfl .u (Ex.pn rfl c7 rfl) rfl ?_
      refine TL.run ft_batch_ok [7] rfl rfl ?_
      refine TL.nil (X.seq ?_)
      refine T.no rfl rfl ?_
      refine T.seq (T.region rfl ?_)
      refine TL.q rfl .u (Ex.bS (us := [.int .i64 a0.fBase, .int .i64 a0.fLeader, .bool a0.fAppend, .bool a0.fTxn, .bool a0.fControl, .int .i64 a0.fLast, .int .i64 a0.fFirst, .int .i64 a0.fMax, .int .i64 a0.fProducer, .int .i64 a0.fEpoch, .int .i64 a0.fSequence, .slice A1 a0.fRecords.length c2]) 0 rfl Try.isAgg36 Try.sizeOf36 rfl rfl rfl) rfl ?_
      obtain ⟨x58, hx59, h⟩ := Option.bind_eq_some_iff.1 h
      refine TL.ce rfl .u (.fn Try.call44 rfl) (f_batch_producer_spec a0 _ _ _ hx59) (fun _ hs => (SrcE.old hs hX)) rfl ?_
      refine TL.run ft_batch_ok [2, 3] rfl rfl ?_
      by_cases c60 : x58 = true
      · replace h := ifT c60 h
        refine TL.nil (X.seq ?_)
        refine T.no rfl (bn_f c60) ?_
        refine T.seq (T.region rfl ?_)
        refine TL.run ft_batch_ok [0] rfl rfl ?_
        refine TL.q rfl .u (Ex.b1 0 rfl Try.isAgg4 rfl rfl) rfl ?_
        refine TL.run ft_batch_ok [2] rfl rfl ?_
        refine TL.no rfl (.gn rfl rfl c7) rfl ?_
        refine TL.no rfl (.gn rfl rfl c7) rfl ?_
        refine TL.no rfl (.gn rfl rfl c7) rfl ?_
        refine TL.no rfl (.gn rfl rfl c7) rfl ?_
        refine TL.q rfl .u (Ex.pn rfl c7 rfl) rfl ?_
        refine TL.run ft_batch_ok [8] rfl rfl ?_
        refine TL.nil (X.seq ?_)
        refine T.no rfl rfl ?_
        refine T.skip (X.blk (X.seq (T.seq (T.seq (T.region rfl ?_)))))
        refine TL.run ft_batch_ok [0] rfl rfl ?_
        refine TL.q rfl .u (Ex.b1 0 rfl Try.isAgg34 rfl rfl) rfl ?_
        refine TL.q rfl .u (Ex.lenS rfl Try.runUnderlying34) rfl ?_
        refine TL.run ft_batch_ok [3] rfl rfl ?_
        refine TL.nil (X.seq (T.block ?_))
        obtain ⟨E63, hE64, hO65⟩ := Option.bind_eq_some_iff.1 h
        have hk69len := RX.len_le hX
        refine T.lp (fun m e Rs => ∃ (y61 : Int) (k62 : Nat), k62 + m = a0.fRecords.length ∧ e = [(1, .pointer (some ⟨b3, 0, none⟩)), (2, .int .i64 y61), (35, .slice A1 a0.fRecords.length c2), (36, .int .i64 (a0.fRecords.length : Int)), (37, .int .i64 (k62 : Int))] ∧ Rs = [BlkR b3 36 #[.int .i64 a0.fBase, .int .i64 a0.fLeader, .bool a0.fAppend, .bool a0.fTxn, .bool a0.fControl, .int .i64 a0.fLast, .int .i64 a0.fFirst, .int .i64 a0.fMax, .int .i64 a0.fProducer, .int .i64 a0.fEpoch, .int .i64 a0.fSequence, .slice A1 a0.fRecords.length c2], EmpR] ∧ f_batch_Check_l2 (a0.fRecords.drop k62) y61 = some E63) (a0.fRecords.length) [0, 0] ⟨0, 0, by simp, rfl, rfl, by rw [List.drop_zero]; exact hE64⟩ (by rfl) (by rfl) ?_
        rintro m66 _ _ ⟨y61, k62, hk69, rfl, rfl, hl68⟩
        clear hE64 h
        cases m66 with
        | zero =>
          have h := hl68
          clear hl68
          rw [List.drop_of_length_le (by omega), f_batch_Check_l2] at h
          have hk69ge : ¬ ((k62 : Int) < (a0.fRecords.length : Int)) := by omega
          refine T.seq (T.region rfl ?_)
          refine TL.run ft_batch_ok [0] rfl rfl ?_
          refine TL.nil (X.seq (T.seq ?_))
          refine T.no rfl (decide_eq_false hk69ge) ?_
          obtain rfl := Option.some.inj h
          replace h := hO65
          clear hO65
          try dsimp only at h
          refine T.exit (X.exs (X.exs (X.ex (X.seq (T.seq (T.seq (T.region rfl ?_)))))))
          refine TL.run ft_batch_ok [0] rfl rfl ?_
          refine TL.q rfl .u (Ex.b1 0 rfl Try.isAgg4 rfl rfl) rfl ?_
          refine TL.nil (X.seq ?_)
          refine T.no rfl c7 ?_
          refine T.skip (X.seq (T.seq (T.region rfl ?_)))
          refine TL.q rfl .u (Ex.bS (us := [.int .i64 a0.fBase, .int .i64 a0.fLeader, .bool a0.fAppend, .bool a0.fTxn, .bool a0.fControl, .int .i64 a0.fLast, .int .i64 a0.fFirst, .int .i64 a0.fMax, .int .i64 a0.fProducer, .int .i64 a0.fEpoch, .int .i64 a0.fSequence, .slice A1 a0.fRecords.length c2]) 0 rfl Try.isAgg36 Try.sizeOf36 rfl rfl rfl) rfl ?_
          obtain ⟨x82, hx83, h⟩ := Option.bind_eq_some_iff.1 h
          refine TL.ce rfl .u (.fn Try.call47 rfl) (f_batch_records_spec a0 _ _ _ hx83) (fun _ hs => (SrcE.old hs hX)) rfl ?_
          refine TL.run ft_batch_ok [2] rfl rfl ?_
          obtain rfl := Option.some.inj h
          exact TL.nil (X.seq (T.ret (X.done1 [1] Try.results26 (RV.tm rfl) ⟨rfl, rfl, rfl⟩ (by rfl) (.inl rfl))))
        | succ m66 =>
          have h := hl68
          clear hl68
          obtain ⟨x67, hxx67⟩ : ∃ x, a0.fRecords[k62]? = some x := ⟨_, List.getElem?_eq_getElem (by omega)⟩
          rw [drop_cons hxx67, f_batch_Check_l2] at h
          have hk69lt : (k62 : Int) < (a0.fRecords.length : Int) := by omega
          refine T.seq (T.region rfl ?_)
          refine TL.run ft_batch_ok [0] rfl rfl ?_
          refine TL.nil (X.seq (T.seq ?_))
          refine T.yes rfl (decide_eq_true hk69lt) ?_
          obtain ⟨gz70, oz70, rfl, z70cs, z70cl, z70cc, z70nf, z70r⟩ := RX.elem (by decide) hX hxx67
          obtain ⟨z70S, z70r, z70rr⟩ := z70r
          obtain ⟨A71, c72, rfl, z70s0⟩ := z70r
          have hX73 : (RX.of (sliceRd 3 Hd_rd) [.slice A71 x67.fHeaders.length c72] x67.fHeaders).reads w F := ⟨z70S, z70s0, z70rr⟩
          refine T.skip (X.seq (T.seq (T.block (T.seq (T.region rfl ?_)))))
          refine TL.q rfl .u (Ex.ixS (k := k62) rfl rfl rfl Try.runUnderlying34 Try.sizeOf83 (List.getElem?_eq_some_iff.1 hxx67).1) rfl ?_
          refine TL.q rfl .u (Ex.oS (us := [.int .i64 x67.fTime, .int .i64 x67.fOffset, .bool x67.fKey.null, .string (bsOf x67.fKey.data), .bool x67.fValue.null, .string (bsOf x67.fValue.data), .slice A71 x67.fHeaders.length c72]) 0 rfl Try.isAgg83 Try.sizeOf83 z70nf z70cc rfl rfl rfl) rfl ?_
          refine TL.alloc rfl .u Try.zeroValue83 rfl (fun b74 => ?_)
          refine TL.st0 (cs' := #[.int .i64 x67.fTime, .int .i64 x67.fOffset, .bool x67.fKey.null, .string (bsOf x67.fKey.data), .bool x67.fValue.null, .string (bsOf x67.fValue.data), .slice A71 x67.fHeaders.length c72]) rfl .u rfl rfl Try.sizeOf83 rfl rfl rfl rfl ?_
          refine TL.nil (X.seq (T.seq (T.region rfl ?_)))
          refine TL.q rfl .u (Ex.bS (us := [.int .i64 x67.fTime, .int .i64 x67.fOffset, .bool x67.fKey.null, .string (bsOf x67.fKey.data), .bool x67.fValue.null, .string (bsOf x67.fValue.data), .slice A71 x67.fHeaders.length c72]) 0 rfl Try.isAgg83 Try.sizeOf83 rfl rfl rfl) rfl ?_
          obtain ⟨x75, hx76, h⟩ := Option.bind_eq_some_iff.1 h
          refine TL.ce rfl .u (.fn Try.call45 rfl) (f_record_Right_spec x67 _ _ _ hx76) (fun _ hs => (SrcE.old hs hX73)) rfl ?_
          refine TL.run ft_batch_ok [2] rfl rfl ?_
          refine TL.nil (X.seq (T.seq (T.region rfl ?_)))
          refine TL.run ft_batch_ok [0, 1] rfl rfl ?_
          by_cases c77 : x75 = 0
          · replace h := ifT c77 h
            refine TL.nil (X.seq ?_)
            refine T.no rfl (bn_f (decide_eq_true c77)) ?_
            refine T.skip (X.blk (X.seq (T.region rfl ?_)))
            refine TL.q rfl .u (Ex.add rfl rfl (by omega)) rfl ?_
            refine TL.run ft_batch_ok [1] rfl rfl ?_
            exact TL.nil (X.back (m' := m66) [1, 1] (by omega) ⟨y61, k62 + 1, by omega, rfl, rfl, h⟩ (by rfl) (by rfl))
          · replace h := ifF c77 h
            refine TL.nil (X.seq ?_)
            refine T.yes rfl (bn_t (decide_eq_false c77)) ?_
            refine T.seq (T.region rfl ?_)
            refine TL.run ft_batch_ok [0, 1] rfl rfl ?_
            obtain rfl := Option.some.inj h
            replace h := hO65
            clear hO65
            try dsimp only at h
            obtain rfl := Option.some.inj h
            exact TL.nil (X.seq (T.ret (X.rb (X.rs (X.rs (X.rb (X.rs (X.done1 [2] Try.results26 (RV.tm rfl) ⟨rfl, rfl, rfl⟩ (by rfl) (.inl rfl)))))))))
      · replace h := ifF c60 h
        replace c60 := eq_false_of_ne_true c60
        refine TL.nil (X.seq ?_)
        refine T.yes rfl (bn_t c60) ?_
        refine T.seq (T.region rfl ?_)
        refine TL.run ft_batch_ok [0] rfl rfl ?_
        obtain rfl := Option.some.inj h
        exact TL.nil (X.seq (T.ret (X.rb (X.rs (X.done1 [1] Try.results26 (RV.tm rfl) ⟨rfl, rfl, rfl⟩ (by rfl) (.inl rfl))))))
  · replace h := ifF c6 h
    replace c6 := eq_false_of_ne_true c6
    refine TL.nil (X.seq ?_)
    refine T.yes rfl (bn_t c6) ?_
    refine T.seq (T.region rfl ?_)
    refine TL.run ft_batch_ok [0] rfl rfl ?_
    obtain rfl := Option.some.inj h
    exact TL.nil (X.seq (T.ret (X.rb (X.rs (X.done1 [1] Try.results26 (RV.tm rfl) ⟨rfl, rfl, rfl⟩ (by rfl) (.inl rfl))))))
def f_batch_Encode_l1 : List Rec → (List UInt8 × Int) → Option (List UInt8 × Int)
  | [], st9 => some st9
  | x14 :: xs, st9 => (f_record_Write st9 x14).bind fun st22 => f_batch_Encode_l1 xs st22
def f_batch_Encode (a0 : Bat) : Option (List UInt8 × Int) := (f_batch_Check a0).bind fun x4 => if x4 = 0 then ((f_batch_Encode_l1 a0.fRecords ([], 0)).bind fun st25 => (gOText st25).bind fun (x26, x27, st28) => if -9223372036854775808 ≤ (49 + (x26.length : Int)) ∧ (49 + (x26.length : Int)) ≤ 9223372036854775807 then ((gAOf a0).bind fun x31 => (f_prefix_Write ([], 0) (⟨a0.fBase, (49 + (x26.length : Int)), a0.fLeader, 0, x31, a0.fLast, a0.fFirst, a0.fMax, a0.fProducer, a0.fEpoch, a0.fSequence, (a0.fRecords.length : Int)⟩ : Pfx)).bind fun st35 => (gOText st35).bind fun (x37, x38, st39) => (if x27 = 0 then (if x38 = 0 then some false else some true) else some true).bind fun y42 => if y42 = true then some ([], 11) else ((f_crc_New).bind fun st47 => if 21 ≤ x37.length then ((f_crc_TableSum st47 [(x37.drop 21), x26]).bind fun (x52, st53) => if -9223372036854775808 ≤ x52 ∧ x52 ≤ 9223372036854775807 then ((f_prefix_Write ([], 0) (⟨a0.fBase, (49 + (x26.length : Int)), a0.fLeader, x52, x31, a0.fLast, a0.fFirst, a0.fMax, a0.fProducer, a0.fEpoch, a0.fSequence, (a0.fRecords.length : Int)⟩ : Pfx)).bind fun st56 => (gOPut st56 x26).bind fun st58 => (gOText st58).bind fun (x60, x61, st62) => some (x60, x61)) else none) else none)) else none) else some ([], x4)
set_option maxRecDepth 100000 in
set_option maxHeartbeats 4000000 in
theorem f_batch_Encode_spec (a0 : Bat) (A1 : Option Addr) (c2 : Nat) (r : List UInt8 × Int) (h : f_batch_Encode a0 = some r) : SpecX Try.prog 27 #[.agg #[.int .i64 a0.fBase, .int .i64 a0.fLeader, .bool a0.fAppend, .bool a0.fTxn, .bool a0.fControl, .int .i64 a0.fLast, .int .i64 a0.fFirst, .int .i64 a0.fMax, .int .i64 a0.fProducer, .int .i64 a0.fEpoch, .int .i64 a0.fSequence, .slice A1 a0.fRecords.length c2]] (RX.of (sliceRd 7 Rec_rd) [.slice A1 a0.fRecords.length c2] a0.fRecords) (EmpR) (fun v A' N => v = .tuple #[.string (bsOf r.1), .int .i64 r.2] ∧ A' = EmpR ∧ N = []) := by
  refine enterA Try.func27 rfl Try.ntmps27 rfl ?_
  intro F w hX
  unfold f_batch_Encode at h
  refine T.seq (T.region rfl ?_)
  refine TL.box rfl .u rfl rfl (fun b3 => ?_)
  refine TL.run ft_batch_ok [1, 2] rfl rfl ?_
  refine TL.nil (X.seq (T.seq (T.seq (T.region rfl ?_))))
  refine TL.q rfl .u (Ex.bS (us := [.int .i64 a0.fBase, .int .i64 a0.fLeader, .bool a0.fAppend, .bool a0.fTxn, .bool a0.fControl, .int .i64 a0.fLast, .int .i64 a0.fFirst, .int .i64 a0.fMax, .int .i64 a0.fProducer, .int .i64 a0.fEpoch, .int .i64 a0.fSequence, .slice A1 a0.fRecords.length c2]) 0 rfl Try.isAgg36 Try.sizeOf36 rfl rfl rfl) rfl ?_
  obtain ⟨x4, hx5, h⟩ := Option.bind_eq_some_iff.1 h
  refine TL.ce rfl .u (.fn Try.call26 rfl) (f_batch_Check_spec a0 _ _ _ hx5) (fun _ hs => (SrcE.old hs hX)) rfl ?_
  refine TL.run ft_batch_ok [2] rfl rfl ?_
  refine TL.nil (X.seq (T.seq (T.region rfl ?_)))
  refine TL.run ft_batch_ok [0, 1] rfl rfl ?_
  by_cases c6 : x4 = 0
  · replace h := ifT c6 h
    refine TL.nil (X.seq ?_)
    refine T.no rfl (bn_f (decide_eq_true c6)) ?_
    refine T.skip (X.seq (T.seq (T.region rfl ?_)))
    refine TL.newout rfl .u Try.zeroValue100 rfl (fun b7 => ?_)
    refine TL.nil (X.seq (T.seq (T.seq (T.region rfl ?_))))
    refine TL.run ft_batch_ok [0] rfl rfl ?_
    refine TL.q rfl .u (Ex.b1 1 rfl Try.isAgg34 rfl rfl) rfl ?_
    refine TL.q rfl .u (Ex.lenS rfl Try.runUnderlying34) rfl ?_
    refine TL.run ft_batch_ok [3] rfl rfl ?_
    refine TL.nil (X.seq (T.block ?_))
    obtain ⟨E10, hE11, hO12⟩ := Option.bind_eq_some_iff.1 h
    have hk16len := RX.len_le hX
    refine T.lp (fun m e Rs => ∃ (k8 : Nat) (st9 : List UInt8 × Int), k8 + m = a0.fRecords.length ∧ e = [(1, .pointer (some ⟨b3, 0, none⟩)), (2, .string ⟨#[]⟩), (3, .int .i64 0), (5, .pointer (some ⟨b7, 0, none⟩)), (20, .slice A1 a0.fRecords.length c2), (21, .int .i64 (a0.fRecords.length : Int)), (22, .int .i64 (k8 : Int))] ∧ Rs = [OutR b7 st9, BlkR b3 36 #[.int .i64 a0.fBase, .int .i64 a0.fLeader, .bool a0.fAppend, .bool a0.fTxn, .bool a0.fControl, .int .i64 a0.fLast, .int .i64 a0.fFirst, .int .i64 a0.fMax, .int .i64 a0.fProducer, .int .i64 a0.fEpoch, .int .i64 a0.fSequence, .slice A1 a0.fRecords.length c2], EmpR] ∧ f_batch_Encode_l1 (a0.fRecords.drop k8) st9 = some E10) (a0.fRecords.length) [0, 0, 0] ⟨0, ([], 0), by simp, rfl, rfl, by rw [List.drop_zero]; exact hE11⟩ (by rfl) (by rfl) ?_
    rintro m13 _ _ ⟨k8, st9, hk16, rfl, rfl, hl15⟩
    clear hE11 h
    cases m13 with
    | zero =>
      have h := hl15
      clear hl15
      rw [List.drop_of_length_le (by omega), f_batch_Encode_l1] at h
      have hk16ge : ¬ ((k8 : Int) < (a0.fRecords.length : Int)) := by omega
      refine T.seq (T.region rfl ?_)
      refine TL.run ft_batch_ok [0] rfl rfl ?_
      refine TL.nil (X.seq (T.seq ?_))
      refine T.no rfl (decide_eq_false hk16ge) ?_
      obtain rfl := Option.some.inj h
      replace h := hO12
      clear hO12
      try dsimp only at h
      obtain ⟨⟨x64, x65, st66⟩, hx67, h⟩ := Option.bind_eq_some_iff.1 h
      try dsimp only at h
      refine T.exit (X.exs (X.exs (X.ex (X.seq (T.seq (T.region rfl ?_))))))
      refine TL.c0 rfl .u (.fn Try.call49 rfl) (gOText_spec b7 st9 _ hx67) (fun _ hs => (Src.triv _)) rfl ?_
      refine TL.run ft_batch_ok [1, 2, 3, 4, 5] rfl rfl ?_
      replace h := guard_some h
      obtain ⟨c68, h⟩ := h
      obtain ⟨x69, hx70, h⟩ := Option.bind_eq_some_iff.1 h
      refine TL.nil (X.seq (T.seq ?_))
      refine T.join (fun e Rs => ∃ (b71 : Nat), e = [(1, .pointer (some ⟨b3, 0, none⟩)), (2, .string ⟨#[]⟩), (3, .int .i64 0), (5, .pointer (some ⟨b7, 0, none⟩)), (8, .string (bsOf x64)), (9, .int .i64 x65), (10, .pointer (some ⟨b71, 0, none⟩)), (20, .slice A1 a0.fRecords.length c2), (21, .int .i64 (a0.fRecords.length : Int)), (22, .int .i64 (k8 : Int)), (23, .bool (decide ((k8 : Int) < (a0.fRecords.length : Int)))), (29, .tuple #[.string (bsOf x64), .int .i64 x65]), (30, .tuple #[.string (bsOf x64), .int .i64 x65]), (31, .string (bsOf x64)), (32, .int .i64 x65)] ∧ Rs = [BlkR b71 105 #[.int .i64 a0.fBase, .int .i64 (49 + (x64.length : Int)), .int .i64 a0.fLeader, .int .i64 0, .int .i64 x69, .int .i64 a0.fLast, .int .i64 a0.fFirst, .int .i64 a0.fMax, .int .i64 a0.fProducer, .int .i64 a0.fEpoch, .int .i64 a0.fSequence, .int .i64 (a0.fRecords.length : Int)], OutR b7 st66, BlkR b3 36 #[.int .i64 a0.fBase, .int .i64 a0.fLeader, .bool a0.fAppend, .bool a0.fTxn, .bool a0.fControl, .int .i64 a0.fLast, .int .i64 a0.fFirst, .int .i64 a0.fMax, .int .i64 a0.fProducer, .int .i64 a0.fEpoch, .int .i64 a0.fSequence, .slice A1 a0.fRecords.length c2], EmpR]) ?_ ?_
      · refine T.draw (.q 0 (.q 1 (.q 2 (.q 3 (.q 4 (.q 5 (.q 6 (.q 7 (.q 9 (.q 10 (.q 11 (.q 12 (.q 13 (.q 14 (.q 15 (.q 16 (.q 17 (.q 18 (.q 19 (.q 20 (.q 21 (.q 22 (.q 23 (.br 8 (.q 24 (.e 25 (.e 26 .nil))) (.e 25 (.e 8 (.q 24 (.e 26 .nil)))))))))))))))))))))))))))) [0, 0, 0] rfl mix_batch np_jq (by kernel_rfl) ?_
        refine TD.run ft_batch_ok [0] rfl rfl ?_
        refine TD.q rfl .u (Ex.b1 1 rfl Try.isAgg3 rfl rfl) rfl ?_
        refine TD.run ft_batch_ok [2] rfl rfl ?_
        refine TD.q rfl .u (Ex.lenB rfl Try.runUnderlying9) rfl ?_
        refine TD.q rfl .u (Ex.add rfl rfl c68) rfl ?_
        refine TD.run ft_batch_ok [5] rfl rfl ?_
        refine TD.q rfl .u (Ex.b1 1 rfl Try.isAgg3 rfl rfl) rfl ?_
        refine TD.q rfl .u (Ex.bS (us := [.int .i64 a0.fBase, .int .i64 a0.fLeader, .bool a0.fAppend, .bool a0.fTxn, .bool a0.fControl, .int .i64 a0.fLast, .int .i64 a0.fFirst, .int .i64 a0.fMax, .int .i64 a0.fProducer, .int .i64 a0.fEpoch, .int .i64 a0.fSequence, .slice A1 a0.fRecords.length c2]) 1 rfl Try.isAgg36 Try.sizeOf36 rfl rfl rfl) rfl ?_
        refine TD.run ft_batch_ok [9] rfl rfl ?_
        refine TD.q rfl .u (Ex.b1 1 rfl Try.isAgg3 rfl rfl) rfl ?_
        refine TD.run ft_batch_ok [11] rfl rfl ?_
        refine TD.q rfl .u (Ex.b1 1 rfl Try.isAgg3 rfl rfl) rfl ?_
        refine TD.run ft_batch_ok [13] rfl rfl ?_
        refine TD.q rfl .u (Ex.b1 1 rfl Try.isAgg3 rfl rfl) rfl ?_
        refine TD.run ft_batch_ok [15] rfl rfl ?_
        refine TD.q rfl .u (Ex.b1 1 rfl Try.isAgg3 rfl rfl) rfl ?_
        refine TD.run ft_batch_ok [17] rfl rfl ?_
        refine TD.q rfl .u (Ex.b1 1 rfl Try.isAgg3 rfl rfl) rfl ?_
        refine TD.run ft_batch_ok [19] rfl rfl ?_
        refine TD.q rfl .u (Ex.b1 1 rfl Try.isAgg3 rfl rfl) rfl ?_
        refine TD.run ft_batch_ok [21] rfl rfl ?_
        refine TD.q rfl .u (Ex.b1 1 rfl Try.isAgg34 rfl rfl) rfl ?_
        refine TD.q rfl .u (Ex.lenS rfl Try.runUnderlying34) rfl ?_
        refine TD.br ?_ ?_
        · refine TD.ce rfl .u (.fn Try.call50 rfl) (gAOf_spec a0 _ _ _ hx70) (fun _ hs => (SrcE.old hs hX)) rfl [0, 0, 0] (rfl) ?_
          refine TD.q rfl .u (Ex.bld (cells := #[.int .i64 a0.fBase, .int .i64 (49 + (x64.length : Int)), .int .i64 a0.fLeader, .int .i64 0, .int .i64 x69, .int .i64 a0.fLast, .int .i64 a0.fFirst, .int .i64 a0.fMax, .int .i64 a0.fProducer, .int .i64 a0.fEpoch, .int .i64 a0.fSequence, .int .i64 (a0.fRecords.length : Int)]) bok_batch_105 rfl (by kernel_rfl)) rfl ?_
          refine TD.alloc rfl .u Try.zeroValue105 rfl [1, 1, 1] (fun _ => rfl) (fun b71 => ?_)
          refine TD.st0 (cs' := #[.int .i64 a0.fBase, .int .i64 (49 + (x64.length : Int)), .int .i64 a0.fLeader, .int .i64 0, .int .i64 x69, .int .i64 a0.fLast, .int .i64 a0.fFirst, .int .i64 a0.fMax, .int .i64 a0.fProducer, .int .i64 a0.fEpoch, .int .i64 a0.fSequence, .int .i64 (a0.fRecords.length : Int)]) rfl .u rfl rfl Try.sizeOf105 rfl rfl rfl rfl [1, 1, 1] (rfl) ?_
          exact TD.nil (X.jn [0, 0, 0, 0] ⟨b71, rfl, rfl⟩ (by rfl) (by rfl))
        · refine TD.alloc rfl .u Try.zeroValue105 rfl [1, 1, 1] (fun _ => rfl) (fun b71 => ?_)
          refine TD.ce rfl .u (.fn Try.call50 rfl) (gAOf_spec a0 _ _ _ hx70) (fun _ hs => (SrcE.old hs hX)) rfl [1, 1, 1] (rfl) ?_
          refine TD.q rfl .u (Ex.bld (cells := #[.int .i64 a0.fBase, .int .i64 (49 + (x64.length : Int)), .int .i64 a0.fLeader, .int .i64 0, .int .i64 x69, .int .i64 a0.fLast, .int .i64 a0.fFirst, .int .i64 a0.fMax, .int .i64 a0.fProducer, .int .i64 a0.fEpoch, .int .i64 a0.fSequence, .int .i64 (a0.fRecords.length : Int)]) bok_batch_105 rfl (by kernel_rfl)) rfl ?_
          refine TD.st0 (cs' := #[.int .i64 a0.fBase, .int .i64 (49 + (x64.length : Int)), .int .i64 a0.fLeader, .int .i64 0, .int .i64 x69, .int .i64 a0.fLast, .int .i64 a0.fFirst, .int .i64 a0.fMax, .int .i64 a0.fProducer, .int .i64 a0.fEpoch, .int .i64 a0.fSequence, .int .i64 (a0.fRecords.length : Int)]) rfl .u rfl rfl Try.sizeOf105 rfl rfl rfl rfl [1, 1, 1] (rfl) ?_
          exact TD.nil (X.jn [0, 0, 0, 0] ⟨b71, rfl, rfl⟩ (by rfl) (by rfl))
      · rintro _ _ ⟨b71, rfl, rfl⟩
        refine X.seq (T.seq (T.region rfl ?_))
        refine TL.newout rfl .u Try.zeroValue100 rfl (fun b72 => ?_)
        refine TL.nil (X.seq (T.seq (T.region rfl ?_)))
        refine TL.q rfl .u (Ex.bS (us := [.int .i64 a0.fBase, .int .i64 (49 + (x64.length : Int)), .int .i64 a0.fLeader, .int .i64 0, .int .i64 x69, .int .i64 a0.fLast, .int .i64 a0.fFirst, .int .i64 a0.fMax, .int .i64 a0.fProducer, .int .i64 a0.fEpoch, .int .i64 a0.fSequence, .int .i64 (a0.fRecords.length : Int)]) 1 rfl Try.isAgg105 Try.sizeOf105 rfl rfl rfl) rfl ?_
        obtain ⟨st73, hx74, h⟩ := Option.bind_eq_some_iff.1 h
        refine TL.c0 rfl .u (.fn Try.call51 rfl) (f_prefix_Write_spec b72 ([], 0) (⟨a0.fBase, (49 + (x64.length : Int)), a0.fLeader, 0, x69, a0.fLast, a0.fFirst, a0.fMax, a0.fProducer, a0.fEpoch, a0.fSequence, (a0.fRecords.length : Int)⟩ : Pfx) _ hx74) (fun _ hs => (Src.triv _)) rfl ?_
        obtain ⟨⟨x75, x76, st77⟩, hx78, h⟩ := Option.bind_eq_some_iff.1 h
        try dsimp only at h
        refine TL.nil (X.seq (T.seq (T.region rfl ?_)))
        refine TL.c0 rfl .u (.fn Try.call49 rfl) (gOText_spec b72 st73 _ hx78) (fun _ hs => (Src.triv _)) rfl ?_
        refine TL.run ft_batch_ok [1, 2, 3, 4, 5] rfl rfl ?_
        refine TL.nil (X.seq (T.seq (T.seq ?_)))
        obtain ⟨y80, h, hk81⟩ := Option.bind_eq_some_iff.1 h
        refine T.jq (fun e Rs => e = [(2, .string ⟨#[]⟩), (3, .int .i64 0), (8, .string (bsOf x64)), (10, .pointer (some ⟨b71, 0, none⟩)), (11, .pointer (some ⟨b72, 0, none⟩)), (12, .string (bsOf x75)), (69, .bool y80)] ∧ Rs = [OutR b72 st77, BlkR b71 105 #[.int .i64 a0.fBase, .int .i64 (49 + (x64.length : Int)), .int .i64 a0.fLeader, .int .i64 0, .int .i64 x69, .int .i64 a0.fLast, .int .i64 a0.fFirst, .int .i64 a0.fMax, .int .i64 a0.fProducer, .int .i64 a0.fEpoch, .int .i64 a0.fSequence, .int .i64 (a0.fRecords.length : Int)], OutR b7 st66, BlkR b3 36 #[.int .i64 a0.fBase, .int .i64 a0.fLeader, .bool a0.fAppend, .bool a0.fTxn, .bool a0.fControl, .int .i64 a0.fLast, .int .i64 a0.fFirst, .int .i64 a0.fMax, .int .i64 a0.fProducer, .int .i64 a0.fEpoch, .int .i64 a0.fSequence, .slice A1 a0.fRecords.length c2], EmpR]) ?_ ?_
        · clear hk81
          refine T.region rfl ?_
          by_cases c82 : x65 = 0
          · replace h := ifT c82 h
            refine TL.run ft_batch_ok [0, 1, 2] rfl rfl ?_
            refine TL.q rfl (.g rfl rfl (bn_f (decide_eq_true c82))) (Ex.ft ft_batch_ok rfl) rfl ?_
            refine TL.q rfl (.g rfl rfl (bn_f (decide_eq_true c82))) (Ex.ft ft_batch_ok rfl) rfl ?_
            refine TL.q rfl .u (Ex.pn rfl (bn_f (decide_eq_true c82)) rfl) rfl ?_
            by_cases c83 : x76 = 0
            · replace h := ifT c83 h
              cases h
              exact TL.nil (X.as (d := 69) (v' := .bool false) rfl (congrArg Value.bool (bn_f (decide_eq_true c83))) (X.jq [0, 0, 0, 0, 0] ⟨rfl, rfl⟩ (by rfl) (by rfl)))
            · replace h := ifF c83 h
              cases h
              exact TL.nil (X.as (d := 69) (v' := .bool true) rfl (congrArg Value.bool (bn_t (decide_eq_false c83))) (X.jq [0, 0, 0, 0, 0] ⟨rfl, rfl⟩ (by rfl) (by rfl)))
          · replace h := ifF c82 h
            refine TL.run ft_batch_ok [0, 1, 2] rfl rfl ?_
            refine TL.no rfl (.gn rfl rfl (bn_t (decide_eq_false c82))) rfl ?_
            refine TL.no rfl (.gn rfl rfl (bn_t (decide_eq_false c82))) rfl ?_
            refine TL.q rfl .u (Ex.py rfl (bn_t (decide_eq_false c82)) rfl) rfl ?_
            cases h
            exact TL.nil (X.jq [0, 0, 0, 0, 0] ⟨rfl, rfl⟩ (by rfl) (by rfl))
        · rintro _ _ ⟨rfl, rfl⟩
          clear h
          have h := hk81
          clear hk81
          try dsimp only at h
          by_cases c84 : y80 = true
          · replace h := ifT c84 h
            refine X.seq ?_
            refine T.yes rfl c84 ?_
            refine T.seq (T.region rfl ?_)
            refine TL.run ft_batch_ok [0, 1] rfl rfl ?_
            obtain rfl := Option.some.inj h
            exact TL.nil (X.seq (T.ret (X.rs (X.done2 [4] Try.results27 (RV.tm rfl) (RV.tm rfl) ⟨rfl, rfl, rfl⟩ (by rfl) (.inl rfl)))))
          · replace h := ifF c84 h
            replace c84 := eq_false_of_ne_true c84
            refine X.seq ?_
            refine T.no rfl c84 ?_
            obtain ⟨st85, hx86, h⟩ := Option.bind_eq_some_iff.1 h
            replace h := guard_some h
            obtain ⟨c88, h⟩ := h
            obtain ⟨⟨x90, st91⟩, hx92, h⟩ := Option.bind_eq_some_iff.1 h
            try dsimp only at h
            replace h := guard_some h
            obtain ⟨c93, h⟩ := h
            refine T.skip (X.seq (T.seq ?_))
            refine T.join (fun e Rs => ∃ (b87 : Nat) (b89 : Nat), e = [(2, .string ⟨#[]⟩), (3, .int .i64 0), (8, .string (bsOf x64)), (10, .pointer (some ⟨b71, 0, none⟩)), (11, .pointer (some ⟨b72, 0, none⟩)), (69, .bool y80)] ∧ Rs = [OwnR 9 1 strE (.slice (some ⟨b89, 0, none⟩) 2 2) [(x75.drop 21), x64], TabR 143 b87 st91, OutR b72 st77, BlkR b71 105 #[.int .i64 a0.fBase, .int .i64 (49 + (x64.length : Int)), .int .i64 a0.fLeader, .int .i64 x90, .int .i64 x69, .int .i64 a0.fLast, .int .i64 a0.fFirst, .int .i64 a0.fMax, .int .i64 a0.fProducer, .int .i64 a0.fEpoch, .int .i64 a0.fSequence, .int .i64 (a0.fRecords.length : Int)], OutR b7 st66, BlkR b3 36 #[.int .i64 a0.fBase, .int .i64 a0.fLeader, .bool a0.fAppend, .bool a0.fTxn, .bool a0.fControl, .int .i64 a0.fLast, .int .i64 a0.fFirst, .int .i64 a0.fMax, .int .i64 a0.fProducer, .int .i64 a0.fEpoch, .int .i64 a0.fSequence, .slice A1 a0.fRecords.length c2], EmpR]) ?_ ?_
            · refine T.draw (.q 1 (.q 2 (.q 3 (.br 0 (.e 4 (.e 5 (.q 6 (.q 7 (.e 8 .nil))))) (.e 4 (.e 0 (.e 5 (.q 6 (.q 7 (.e 8 .nil)))))))))) [0, 1, 1, 1] rfl mix_batch np_jq (by kernel_rfl) ?_
              refine TD.run ft_batch_ok [1] rfl rfl ?_
              refine TD.q rfl .u (Ex.sSl (p := 21) (q := x75.length) (m := (x75.drop 21)) rfl Try.runUnderlying9 (.some rfl rfl) .none (by first | omega | (dsimp only; omega)) (sl_drop _ _)) rfl ?_
              refine TD.run ft_batch_ok [3] rfl rfl ?_
              refine TD.br ?_ ?_
              · refine TD.cge rfl .u (.fn Try.call52 rfl) (f_crc_New_spec _ hx86) (fun _ hs => (RX.reads_triv _ _)) rfl [1, 2, 2, 2] ?_ ?_
                · rintro _ _ _ ⟨b87, rfl, rfl, rfl⟩
                  rfl
                rintro _ _ _ ⟨b87, rfl, rfl, rfl⟩
                refine TD.sel [0, 0, 0, 0, 0, 0] rfl ?_
                refine TD.lit (cells := #[.string (bsOf (x75.drop 21)), .string (bsOf x64)]) rfl .u sok_batch_39_2 rfl (by rfl) rfl [2, 3, 3, 3] (fun _ => rfl) (fun b89 => ?_)
                refine TD.rowOf (us := [.string (bsOf (x75.drop 21)), .string (bsOf x64)]) (xs := [(x75.drop 21), x64]) (E := strE) (z := 1) rfl (Nat.le_of_ble_eq_true rfl) (fun _ => ⟨rfl, rfl, ⟨rfl, rfl, rfl⟩⟩) ?_
                refine TD.c1 rfl .u (.fn Try.call53 rfl) (f_crc_TableSum_spec b87 st85 [(x75.drop 21), x64] _ _ _ hx92) (fun _ hs => (Src.res 0 rfl (fun w G h => own_reads (by decide) w G h))) rfl [2, 3, 3, 3] (rfl) ?_
                refine TD.q rfl .u (Ex.conv64 rfl Try.runUnderlying94 Try.runUnderlying3 c93) rfl ?_
                refine TD.run ft_batch_ok [7] rfl rfl ?_
                refine TD.st3 (cs' := #[.int .i64 a0.fBase, .int .i64 (49 + (x64.length : Int)), .int .i64 a0.fLeader, .int .i64 x90, .int .i64 x69, .int .i64 a0.fLast, .int .i64 a0.fFirst, .int .i64 a0.fMax, .int .i64 a0.fProducer, .int .i64 a0.fEpoch, .int .i64 a0.fSequence, .int .i64 (a0.fRecords.length : Int)]) rfl .u rfl rfl Try.sizeOf3 rfl rfl rfl rfl [2, 3, 3, 3] (rfl) ?_
                exact TD.nil (X.jn [0, 0, 0, 0, 0, 0, 0] ⟨b87, b89, rfl, rfl⟩ (by rfl) (by rfl))
              · refine TD.lit (cells := #[.string (bsOf (x75.drop 21)), .string (bsOf x64)]) rfl .u sok_batch_39_2 rfl (by rfl) rfl [1, 2, 2, 2] (fun _ => rfl) (fun b89 => ?_)
                refine TD.rowOf (us := [.string (bsOf (x75.drop 21)), .string (bsOf x64)]) (xs := [(x75.drop 21), x64]) (E := strE) (z := 1) rfl (Nat.le_of_ble_eq_true rfl) (fun _ => ⟨rfl, rfl, ⟨rfl, rfl, rfl⟩⟩) ?_
                refine TD.cge rfl .u (.fn Try.call52 rfl) (f_crc_New_spec _ hx86) (fun _ hs => (RX.reads_triv _ _)) rfl [2, 3, 3, 3] ?_ ?_
                · rintro _ _ _ ⟨b87, rfl, rfl, rfl⟩
                  rfl
                rintro _ _ _ ⟨b87, rfl, rfl, rfl⟩
                refine TD.sel [0, 0, 0, 0, 0, 0, 0] rfl ?_
                refine TD.c0 rfl .u (.fn Try.call53 rfl) (f_crc_TableSum_spec b87 st85 [(x75.drop 21), x64] _ _ _ hx92) (fun _ hs => (Src.res 0 rfl (fun w G h => own_reads (by decide) w G h))) rfl [2, 3, 3, 3] (rfl) ?_
                refine TD.q rfl .u (Ex.conv64 rfl Try.runUnderlying94 Try.runUnderlying3 c93) rfl ?_
                refine TD.run ft_batch_ok [7] rfl rfl ?_
                refine TD.st3 (cs' := #[.int .i64 a0.fBase, .int .i64 (49 + (x64.length : Int)), .int .i64 a0.fLeader, .int .i64 x90, .int .i64 x69, .int .i64 a0.fLast, .int .i64 a0.fFirst, .int .i64 a0.fMax, .int .i64 a0.fProducer, .int .i64 a0.fEpoch, .int .i64 a0.fSequence, .int .i64 (a0.fRecords.length : Int)]) rfl .u rfl rfl Try.sizeOf3 rfl rfl rfl rfl [2, 3, 3, 3] (rfl) ?_
                exact TD.nil (X.jn [1, 0, 0, 0, 0, 0, 0] ⟨b87, b89, rfl, rfl⟩ (by rfl) (by rfl))
            · rintro _ _ ⟨b87, b89, rfl, rfl⟩
              refine X.seq (T.seq (T.region rfl ?_))
              refine TL.q rfl .u (Ex.bld (cells := #[.slice none 0 0, .int .i64 0]) bok_batch_100 rfl (by kernel_rfl)) rfl ?_
              refine TL.outZ 2 rfl .u rfl rfl Try.sizeOf100 rfl ?_
              refine TL.sel [0, 0, 0, 0, 0, 0, 0] rfl ?_
              refine TL.nil (X.seq (T.seq (T.region rfl ?_)))
              refine TL.q rfl .u (Ex.bS (us := [.int .i64 a0.fBase, .int .i64 (49 + (x64.length : Int)), .int .i64 a0.fLeader, .int .i64 x90, .int .i64 x69, .int .i64 a0.fLast, .int .i64 a0.fFirst, .int .i64 a0.fMax, .int .i64 a0.fProducer, .int .i64 a0.fEpoch, .int .i64 a0.fSequence, .int .i64 (a0.fRecords.length : Int)]) 3 rfl Try.isAgg105 Try.sizeOf105 rfl rfl rfl) rfl ?_
              obtain ⟨st94, hx95, h⟩ := Option.bind_eq_some_iff.1 h
              refine TL.c2 rfl .u (.fn Try.call51 rfl) (f_prefix_Write_spec b72 ([], 0) (⟨a0.fBase, (49 + (x64.length : Int)), a0.fLeader, x90, x69, a0.fLast, a0.fFirst, a0.fMax, a0.fProducer, a0.fEpoch, a0.fSequence, (a0.fRecords.length : Int)⟩ : Pfx) _ hx95) (fun _ hs => (Src.triv _)) rfl ?_
              refine TL.nil (X.seq (T.seq (T.region rfl ?_)))
              obtain ⟨st96, hx97, h⟩ := Option.bind_eq_some_iff.1 h
              refine TL.run ft_batch_ok [0] rfl rfl ?_
              refine TL.c2 rfl .u (.fn Try.call54 rfl) (gOPut_spec b72 st94 x64 _ hx97) (fun _ hs => (Src.triv _)) rfl ?_
              obtain ⟨⟨x98, x99, st100⟩, hx101, h⟩ := Option.bind_eq_some_iff.1 h
              try dsimp only at h
              refine TL.nil (X.seq (T.seq (T.region rfl ?_)))
              refine TL.c2 rfl .u (.fn Try.call49 rfl) (gOText_spec b72 st96 _ hx101) (fun _ hs => (Src.triv _)) rfl ?_
              refine TL.run ft_batch_ok [1, 2, 3, 4] rfl rfl ?_
              obtain rfl := Option.some.inj h
              exact TL.nil (X.seq (T.ret (X.done2 [6] Try.results27 (RV.tm rfl) (RV.tm rfl) ⟨rfl, rfl, rfl⟩ (by rfl) (.inl rfl))))
    | succ m13 =>
      have h := hl15
      clear hl15
      obtain ⟨x14, hxx14⟩ : ∃ x, a0.fRecords[k8]? = some x := ⟨_, List.getElem?_eq_getElem (by omega)⟩
      rw [drop_cons hxx14, f_batch_Encode_l1] at h
      have hk16lt : (k8 : Int) < (a0.fRecords.length : Int) := by omega
      refine T.seq (T.region rfl ?_)
      refine TL.run ft_batch_ok [0] rfl rfl ?_
      refine TL.nil (X.seq (T.seq ?_))
      refine T.yes rfl (decide_eq_true hk16lt) ?_
      obtain ⟨gz17, oz17, rfl, z17cs, z17cl, z17cc, z17nf, z17r⟩ := RX.elem (by decide) hX hxx14
      obtain ⟨z17S, z17r, z17rr⟩ := z17r
      obtain ⟨A18, c19, rfl, z17s0⟩ := z17r
      have hX20 : (RX.of (sliceRd 3 Hd_rd) [.slice A18 x14.fHeaders.length c19] x14.fHeaders).reads w F := ⟨z17S, z17s0, z17rr⟩
      refine T.skip (X.seq (T.seq (T.block (T.seq (T.region rfl ?_)))))
      refine TL.q rfl .u (Ex.ixS (k := k8) rfl rfl rfl Try.runUnderlying34 Try.sizeOf83 (List.getElem?_eq_some_iff.1 hxx14).1) rfl ?_
      refine TL.q rfl .u (Ex.oS (us := [.int .i64 x14.fTime, .int .i64 x14.fOffset, .bool x14.fKey.null, .string (bsOf x14.fKey.data), .bool x14.fValue.null, .string (bsOf x14.fValue.data), .slice A18 x14.fHeaders.length c19]) 0 rfl Try.isAgg83 Try.sizeOf83 z17nf z17cc rfl rfl rfl) rfl ?_
      refine TL.alloc rfl .u Try.zeroValue83 rfl (fun b21 => ?_)
      refine TL.st0 (cs' := #[.int .i64 x14.fTime, .int .i64 x14.fOffset, .bool x14.fKey.null, .string (bsOf x14.fKey.data), .bool x14.fValue.null, .string (bsOf x14.fValue.data), .slice A18 x14.fHeaders.length c19]) rfl .u rfl rfl Try.sizeOf83 rfl rfl rfl rfl ?_
      refine TL.nil (X.seq (T.region rfl ?_))
      refine TL.q rfl .u (Ex.bS (us := [.int .i64 x14.fTime, .int .i64 x14.fOffset, .bool x14.fKey.null, .string (bsOf x14.fKey.data), .bool x14.fValue.null, .string (bsOf x14.fValue.data), .slice A18 x14.fHeaders.length c19]) 0 rfl Try.isAgg83 Try.sizeOf83 rfl rfl rfl) rfl ?_
      obtain ⟨st22, hx23, h⟩ := Option.bind_eq_some_iff.1 h
      refine TL.c1 rfl .u (.fn Try.call48 rfl) (f_record_Write_spec b7 st9 x14 _ _ _ hx23) (fun _ hs => (Src.old hs hX20)) rfl ?_
      refine TL.nil (X.blk (X.seq (T.region rfl ?_)))
      refine TL.q rfl .u (Ex.add rfl rfl (by omega)) rfl ?_
      refine TL.run ft_batch_ok [1] rfl rfl ?_
      exact TL.nil (X.back (m' := m13) [1, 1, 1] (by omega) ⟨k8 + 1, st22, by omega, rfl, rfl, h⟩ (by rfl) (by rfl))
  · replace h := ifF c6 h
    refine TL.nil (X.seq ?_)
    refine T.yes rfl (bn_t (decide_eq_false c6)) ?_
    refine T.seq (T.region rfl ?_)
    refine TL.run ft_batch_ok [0, 1, 2] rfl rfl ?_
    obtain rfl := Option.some.inj h
    exact TL.nil (X.seq (T.ret (X.rs (X.done2 [1] Try.results27 (RV.tm rfl) (RV.tm rfl) ⟨rfl, rfl, rfl⟩ (by rfl) (.inl rfl)))))
end Go.Proofs.Ytahjmpipllajcaa.Sl
namespace Go.Proofs.Ytahjmpipllajcaa.Sl
open Go.RowKit
set_option linter.unusedVariables false
set_option linter.unusedSimpArgs false
set_option maxRecDepth 100000
def ft_tally : FTab := [(36, 11, 11)]
theorem ft_tally_ok : (ft_tally).OK Try.prog := ⟨FOK.mk Try.runUnderlying36 rfl Try.sizeOf34 rfl, trivial⟩
def f_tally_Turn (a0 : Nat × Nat) (a1 : Int) : Option (Nat × Nat) := if (Go.bits .and .i64 a1 3) = 1 then (some ((fNeg a0.2), a0.1)) else (if (Go.bits .and .i64 a1 3) = 2 then (some ((fNeg a0.1), (fNeg a0.2))) else (if (Go.bits .and .i64 a1 3) = 3 then (some (a0.2, (fNeg a0.1))) else some a0))
set_option maxRecDepth 100000 in
set_option maxHeartbeats 4000000 in
theorem f_tally_Turn_spec (a0 : Nat × Nat) (a1 : Int) (r : Nat × Nat) (h : f_tally_Turn a0 a1 = some r) : SpecX Try.prog 20 #[.complex .f64 a0.1 a0.2, .int .i64 a1] .triv (EmpR) (fun v A' N => v = .complex .f64 r.1 r.2 ∧ A' = EmpR ∧ N = []) := by
  refine enterA Try.func20 rfl Try.ntmps20 rfl ?_
  intro F w hX
  unfold f_tally_Turn at h
  refine T.seq (T.region rfl ?_)
  refine TL.run ft_tally_ok [0] rfl rfl ?_
  refine TL.nil (X.seq (T.seq (T.seq (T.region rfl ?_))))
  refine TL.run ft_tally_ok [0] rfl rfl ?_
  refine TL.q rfl .u (Ex.bitw rfl rfl rfl) rfl ?_
  refine TL.nil (X.seq (T.block (T.seq (T.region rfl ?_))))
  refine TL.run ft_tally_ok [0, 1] rfl rfl ?_
  by_cases c1 : (Go.bits .and .i64 a1 3) = 1
  · replace h := ifT c1 h
    refine TL.nil (X.seq ?_)
    refine T.yes rfl (decide_eq_true c1) ?_
    refine T.seq (T.region rfl ?_)
    refine TL.run ft_tally_ok [0] rfl rfl ?_
    refine TL.q rfl .u (Ex.im rfl) rfl ?_
    refine TL.q rfl .u (Ex.fneg rfl) rfl ?_
    refine TL.run ft_tally_ok [3] rfl rfl ?_
    refine TL.q rfl .u (Ex.re rfl) rfl ?_
    refine TL.q rfl .u (Ex.cx rfl rfl) rfl ?_
    refine TL.run ft_tally_ok [6] rfl rfl ?_
    obtain rfl := Option.some.inj h
    exact TL.nil (X.seq (T.ret (X.rb (X.rs (X.done1 [0] Try.results20 (RV.tm rfl) ⟨rfl, rfl, rfl⟩ (by rfl) (.inl rfl))))))
  · replace h := ifF c1 h
    refine TL.nil (X.seq ?_)
    refine T.no rfl (decide_eq_false c1) ?_
    refine T.seq (T.region rfl ?_)
    refine TL.run ft_tally_ok [0, 1] rfl rfl ?_
    by_cases c2 : (Go.bits .and .i64 a1 3) = 2
    · replace h := ifT c2 h
      refine TL.nil (X.seq ?_)
      refine T.yes rfl (decide_eq_true c2) ?_
      refine T.seq (T.region rfl ?_)
      refine TL.run ft_tally_ok [0] rfl rfl ?_
      refine TL.q rfl .u (Ex.cneg rfl) rfl ?_
      refine TL.run ft_tally_ok [2] rfl rfl ?_
      obtain rfl := Option.some.inj h
      exact TL.nil (X.seq (T.ret (X.rb (X.rs (X.done1 [0] Try.results20 (RV.tm rfl) ⟨rfl, rfl, rfl⟩ (by rfl) (.inl rfl))))))
    · replace h := ifF c2 h
      refine TL.nil (X.seq ?_)
      refine T.no rfl (decide_eq_false c2) ?_
      refine T.seq (T.region rfl ?_)
      refine TL.run ft_tally_ok [0, 1] rfl rfl ?_
      by_cases c3 : (Go.bits .and .i64 a1 3) = 3
      · replace h := ifT c3 h
        refine TL.nil (X.seq ?_)
        refine T.yes rfl (decide_eq_true c3) ?_
        refine T.seq (T.region rfl ?_)
        refine TL.run ft_tally_ok [0] rfl rfl ?_
        refine TL.q rfl .u (Ex.im rfl) rfl ?_
        refine TL.run ft_tally_ok [2] rfl rfl ?_
        refine TL.q rfl .u (Ex.re rfl) rfl ?_
        refine TL.q rfl .u (Ex.fneg rfl) rfl ?_
        refine TL.q rfl .u (Ex.cx rfl rfl) rfl ?_
        refine TL.run ft_tally_ok [6] rfl rfl ?_
        obtain rfl := Option.some.inj h
        exact TL.nil (X.seq (T.ret (X.rb (X.rs (X.done1 [0] Try.results20 (RV.tm rfl) ⟨rfl, rfl, rfl⟩ (by rfl) (.inl rfl))))))
      · replace h := ifF c3 h
        refine TL.nil (X.seq ?_)
        refine T.no rfl (decide_eq_false c3) ?_
        refine T.skip (X.blk (X.seq (T.seq (T.region rfl ?_))))
        refine TL.run ft_tally_ok [0, 1] rfl rfl ?_
        obtain rfl := Option.some.inj h
        exact TL.nil (X.seq (T.ret (X.done1 [0] Try.results20 (RV.tm rfl) ⟨rfl, rfl, rfl⟩ (by rfl) (.inl rfl))))
def f_tally_Quarter_l1 (a0 : Int) : List Int → (Nat × Nat) → Nat → Option (Nat × Nat)
  | [], y3, k4 => some y3
  | x9 :: xs, y3, k4 => if -9223372036854775808 ≤ ((Go.bits .and .i64 a0 3) * (Go.bits .and .i64 (k4 : Int) 3)) ∧ ((Go.bits .and .i64 a0 3) * (Go.bits .and .i64 (k4 : Int) 3)) ≤ 9223372036854775807 then ((f_tally_Turn ((FloatKind.f64.nearest x9), 0) ((Go.bits .and .i64 a0 3) * (Go.bits .and .i64 (k4 : Int) 3))).bind fun x19 => (cSumBits .add .f64 y3.1 y3.2 x19.1 x19.2).bind fun x21 => f_tally_Quarter_l1 a0 xs x21 (k4 + 1)) else none
def f_tally_Quarter (a0 : Int) (a1 : List Int) : Option (Nat × Nat) := (f_tally_Quarter_l1 a0 a1 (0, 0) 0).bind fun y22 => some y22
set_option maxRecDepth 100000 in
set_option maxHeartbeats 4000000 in
theorem f_tally_Quarter_spec (a0 : Int) (a1 : List Int) (A1 : Option Addr) (c2 : Nat) (r : Nat × Nat) (h : f_tally_Quarter a0 a1 = some r) : SpecX Try.prog 18 #[.int .i64 a0, .slice A1 a1.length c2] (RX.of (sliceRd 1 intE) [.slice A1 a1.length c2] a1) (EmpR) (fun v A' N => v = .complex .f64 r.1 r.2 ∧ A' = EmpR ∧ N = []) := by
  refine enterA Try.func18 rfl Try.ntmps18 rfl ?_
  intro F w hX
  unfold f_tally_Quarter at h
  refine T.seq (T.region rfl ?_)
  refine TL.run ft_tally_ok [0] rfl rfl ?_
  refine TL.nil (X.seq (T.seq (T.region rfl ?_)))
  refine TL.run ft_tally_ok [0] rfl rfl ?_
  refine TL.nil (X.seq (T.seq (T.seq (T.region rfl ?_))))
  refine TL.run ft_tally_ok [0] rfl rfl ?_
  refine TL.q rfl .u (Ex.lenS rfl Try.runUnderlying44) rfl ?_
  refine TL.run ft_tally_ok [2] rfl rfl ?_
  refine TL.nil (X.seq (T.block ?_))
  obtain ⟨E5, hE6, hO7⟩ := Option.bind_eq_some_iff.1 h
  have hk11len := RX.len_le hX
  refine T.lp (fun m e Rs => ∃ (y3 : Nat × Nat) (k4 : Nat), k4 + m = a1.length ∧ e = [(0, .int .i64 a0), (4, .complex .f64 0 0), (5, .complex .f64 y3.1 y3.2), (8, .slice A1 a1.length c2), (9, .int .i64 (a1.length : Int)), (10, .int .i64 (k4 : Int))] ∧ Rs = [EmpR] ∧ f_tally_Quarter_l1 a0 (a1.drop k4) y3 k4 = some E5) (a1.length) [0] ⟨(0, 0), 0, by simp, rfl, rfl, by rw [List.drop_zero]; exact hE6⟩ (by rfl) (by rfl) ?_
  rintro m8 _ _ ⟨y3, k4, hk11, rfl, rfl, hl10⟩
  clear hE6 h
  cases m8 with
  | zero =>
    have h := hl10
    clear hl10
    rw [List.drop_of_length_le (by omega), f_tally_Quarter_l1] at h
    have hk11ge : ¬ ((k4 : Int) < (a1.length : Int)) := by omega
    refine T.seq (T.region rfl ?_)
    refine TL.run ft_tally_ok [0] rfl rfl ?_
    refine TL.nil (X.seq (T.seq ?_))
    refine T.no rfl (decide_eq_false hk11ge) ?_
    obtain rfl := Option.some.inj h
    replace h := hO7
    clear hO7
    try dsimp only at h
    refine T.exit (X.exs (X.exs (X.ex (X.seq (T.seq (T.region rfl ?_))))))
    refine TL.run ft_tally_ok [0, 1] rfl rfl ?_
    obtain rfl := Option.some.inj h
    exact TL.nil (X.seq (T.ret (X.done1 [0] Try.results18 (RV.tm rfl) ⟨rfl, rfl, rfl⟩ (by rfl) (.inl rfl))))
  | succ m8 =>
    have h := hl10
    clear hl10
    obtain ⟨x9, hxx9⟩ : ∃ x, a1[k4]? = some x := ⟨_, List.getElem?_eq_getElem (by omega)⟩
    rw [drop_cons hxx9, f_tally_Quarter_l1] at h
    have hk11lt : (k4 : Int) < (a1.length : Int) := by omega
    refine T.seq (T.region rfl ?_)
    refine TL.run ft_tally_ok [0] rfl rfl ?_
    refine TL.nil (X.seq (T.seq ?_))
    refine T.yes rfl (decide_eq_true hk11lt) ?_
    refine T.skip (X.seq (T.seq (T.block (T.seq (T.region rfl ?_)))))
    obtain ⟨gz17, oz17, rfl, z17cs, z17cl, z17cc, z17nf, z17r⟩ := RX.elem (by decide) hX hxx9
    obtain ⟨z17S, z17r, z17rr⟩ := z17r
    obtain rfl : z17cs = [.int .i64 x9] := z17r
    refine TL.run ft_tally_ok [0] rfl rfl ?_
    refine TL.q rfl .u (Ex.ixS (k := k4) rfl rfl rfl Try.runUnderlying44 Try.sizeOf3 (List.getElem?_eq_some_iff.1 hxx9).1) rfl ?_
    refine TL.q rfl .u (Ex.o1 0 rfl Try.isAgg3 z17nf z17cc rfl rfl) rfl ?_
    refine TL.run ft_tally_ok [3, 4] rfl rfl ?_
    refine TL.nil (X.seq (T.region rfl ?_))
    refine TL.run ft_tally_ok [0, 1] rfl rfl ?_
    refine TL.q rfl .u (Ex.i2f rfl Try.underlying3 Try.underlying63) rfl ?_
    refine TL.q rfl .u (Ex.cx rfl rfl) rfl ?_
    refine TL.run ft_tally_ok [4] rfl rfl ?_
    refine TL.q rfl .u (Ex.bitw rfl rfl rfl) rfl ?_
    refine TL.run ft_tally_ok [6] rfl rfl ?_
    refine TL.q rfl .u (Ex.bitw rfl rfl rfl) rfl ?_
    replace h := guard_some h
    obtain ⟨c18, h⟩ := h
    refine TL.q rfl .u (Ex.mul rfl rfl c18) rfl ?_
    obtain ⟨x19, hx20, h⟩ := Option.bind_eq_some_iff.1 h
    refine TL.ce rfl .u (.fn Try.call20 rfl) (f_tally_Turn_spec ((FloatKind.f64.nearest x9), 0) ((Go.bits .and .i64 a0 3) * (Go.bits .and .i64 (k4 : Int) 3)) _ hx20) (fun _ hs => (RX.reads_triv _ _)) rfl ?_
    obtain ⟨x21, hx21, h⟩ := Option.bind_eq_some_iff.1 h
    refine TL.q rfl .u (Ex.cadd rfl rfl hx21) rfl ?_
    refine TL.run ft_tally_ok [11] rfl rfl ?_
    refine TL.nil (X.blk (X.seq (T.region rfl ?_)))
    refine TL.q rfl .u (Ex.add rfl rfl (by omega)) rfl ?_
    refine TL.run ft_tally_ok [1] rfl rfl ?_
    exact TL.nil (X.back (m' := m8) [0] (by omega) ⟨x21, k4 + 1, by omega, rfl, rfl, h⟩ (by rfl) (by rfl))
def f_tally_Quarters (a0 : List Int) : Option ((Nat × Nat) × (Nat × Nat) × (Nat × Nat) × (Nat × Nat)) := (f_tally_Quarter 0 a0).bind fun x5 => (f_tally_Quarter 1 a0).bind fun x7 => (f_tally_Quarter 2 a0).bind fun x9 => (f_tally_Quarter 3 a0).bind fun x11 => some (x5, x7, x9, x11)
set_option maxRecDepth 100000 in
set_option maxHeartbeats 4000000 in
theorem f_tally_Quarters_spec (a0 : List Int) (A1 : Option Addr) (c2 : Nat) (r : (Nat × Nat) × (Nat × Nat) × (Nat × Nat) × (Nat × Nat)) (h : f_tally_Quarters a0 = some r) : SpecX Try.prog 15 #[.slice A1 a0.length c2] (RX.of (sliceRd 1 intE) [.slice A1 a0.length c2] a0) (EmpR) (fun v A' N => v = .agg #[.complex .f64 r.1.1 r.1.2, .complex .f64 r.2.1.1 r.2.1.2, .complex .f64 r.2.2.1.1 r.2.2.1.2, .complex .f64 r.2.2.2.1 r.2.2.2.2] ∧ A' = EmpR ∧ N = []) := by
  refine enterA Try.func15 rfl Try.ntmps15 rfl ?_
  intro F w hX
  unfold f_tally_Quarters at h
  refine T.seq (T.region rfl ?_)
  refine TL.alloc rfl .u Try.zeroValue47 rfl (fun b3 => ?_)
  refine TL.nil (X.seq (T.seq (T.region rfl ?_)))
  refine TL.alloc rfl .u Try.zeroValue47 rfl (fun b4 => ?_)
  refine TL.nil (X.seq (T.seq (T.seq (T.region rfl ?_))))
  refine TL.run ft_tally_ok [0] rfl rfl ?_
  refine TL.nil (X.seq (T.block ?_))
  refine T.unroll0 (TW.step (T.seq (T.region rfl ?_)))
  refine TL.run ft_tally_ok [0] rfl rfl ?_
  refine TL.nil (X.seq (T.seq ?_))
  refine T.yes rfl (decide_eq_true (show 0 < 4 by omega)) ?_
  refine T.skip (X.seq (T.seq (T.block (T.seq (T.region rfl ?_)))))
  refine TL.run ft_tally_ok [0, 1] rfl rfl ?_
  refine TL.nil (X.seq (T.region rfl ?_))
  obtain ⟨x5, hx6, h⟩ := Option.bind_eq_some_iff.1 h
  refine TL.run ft_tally_ok [0, 1, 2] rfl rfl ?_
  refine TL.ce rfl .u (.fn Try.call18 rfl) (f_tally_Quarter_spec 0 a0 _ _ _ hx6) (fun _ hs => (SrcE.old hs hX)) rfl ?_
  refine TL.q rfl .u (Ex.ixP (k := 0) rfl rfl rfl Try.runUnderlying47 Try.sizeOf46 (by decide)) rfl ?_
  refine TL.st0 (cs' := #[.complex .f64 x5.1 x5.2, .complex .f64 0 0, .complex .f64 0 0, .complex .f64 0 0]) rfl .u rfl rfl Try.sizeOf46 rfl rfl rfl rfl ?_
  refine TL.nil (X.blk (X.seq (T.region rfl ?_)))
  refine TL.q rfl .u (Ex.add rfl rfl (by omega)) rfl ?_
  refine TL.run ft_tally_ok [1] rfl rfl ?_
  refine TL.nil (X.un (TW.step (T.seq (T.region rfl ?_))))
  refine TL.run ft_tally_ok [0] rfl rfl ?_
  refine TL.nil (X.seq (T.seq ?_))
  refine T.yes rfl (decide_eq_true (show 1 < 4 by omega)) ?_
  refine T.skip (X.seq (T.seq (T.block (T.seq (T.region rfl ?_)))))
  refine TL.run ft_tally_ok [0, 1] rfl rfl ?_
  refine TL.nil (X.seq (T.region rfl ?_))
  obtain ⟨x7, hx8, h⟩ := Option.bind_eq_some_iff.1 h
  refine TL.run ft_tally_ok [0, 1, 2] rfl rfl ?_
  refine TL.ce rfl .u (.fn Try.call18 rfl) (f_tally_Quarter_spec 1 a0 _ _ _ hx8) (fun _ hs => (SrcE.old hs hX)) rfl ?_
  refine TL.q rfl .u (Ex.ixP (k := 1) rfl rfl rfl Try.runUnderlying47 Try.sizeOf46 (by decide)) rfl ?_
  refine TL.st0 (cs' := #[.complex .f64 x5.1 x5.2, .complex .f64 x7.1 x7.2, .complex .f64 0 0, .complex .f64 0 0]) rfl .u rfl rfl Try.sizeOf46 rfl rfl rfl rfl ?_
  refine TL.nil (X.blk (X.seq (T.region rfl ?_)))
  refine TL.q rfl .u (Ex.add rfl rfl (by omega)) rfl ?_
  refine TL.run ft_tally_ok [1] rfl rfl ?_
  refine TL.nil (X.un (TW.step (T.seq (T.region rfl ?_))))
  refine TL.run ft_tally_ok [0] rfl rfl ?_
  refine TL.nil (X.seq (T.seq ?_))
  refine T.yes rfl (decide_eq_true (show 2 < 4 by omega)) ?_
  refine T.skip (X.seq (T.seq (T.block (T.seq (T.region rfl ?_)))))
  refine TL.run ft_tally_ok [0, 1] rfl rfl ?_
  refine TL.nil (X.seq (T.region rfl ?_))
  obtain ⟨x9, hx10, h⟩ := Option.bind_eq_some_iff.1 h
  refine TL.run ft_tally_ok [0, 1, 2] rfl rfl ?_
  refine TL.ce rfl .u (.fn Try.call18 rfl) (f_tally_Quarter_spec 2 a0 _ _ _ hx10) (fun _ hs => (SrcE.old hs hX)) rfl ?_
  refine TL.q rfl .u (Ex.ixP (k := 2) rfl rfl rfl Try.runUnderlying47 Try.sizeOf46 (by decide)) rfl ?_
  refine TL.st0 (cs' := #[.complex .f64 x5.1 x5.2, .complex .f64 x7.1 x7.2, .complex .f64 x9.1 x9.2, .complex .f64 0 0]) rfl .u rfl rfl Try.sizeOf46 rfl rfl rfl rfl ?_
  refine TL.nil (X.blk (X.seq (T.region rfl ?_)))
  refine TL.q rfl .u (Ex.add rfl rfl (by omega)) rfl ?_
  refine TL.run ft_tally_ok [1] rfl rfl ?_
  refine TL.nil (X.un (TW.step (T.seq (T.region rfl ?_))))
  refine TL.run ft_tally_ok [0] rfl rfl ?_
  refine TL.nil (X.seq (T.seq ?_))
  refine T.yes rfl (decide_eq_true (show 3 < 4 by omega)) ?_
  refine T.skip (X.seq (T.seq (T.block (T.seq (T.region rfl ?_)))))
  refine TL.run ft_tally_ok [0, 1] rfl rfl ?_
  refine TL.nil (X.seq (T.region rfl ?_))
  obtain ⟨x11, hx12, h⟩ := Option.bind_eq_some_iff.1 h
  refine TL.run ft_tally_ok [0, 1, 2] rfl rfl ?_
  refine TL.ce rfl .u (.fn Try.call18 rfl) (f_tally_Quarter_spec 3 a0 _ _ _ hx12) (fun _ hs => (SrcE.old hs hX)) rfl ?_
  refine TL.q rfl .u (Ex.ixP (k := 3) rfl rfl rfl Try.runUnderlying47 Try.sizeOf46 (by decide)) rfl ?_
  refine TL.st0 (cs' := #[.complex .f64 x5.1 x5.2, .complex .f64 x7.1 x7.2, .complex .f64 x9.1 x9.2, .complex .f64 x11.1 x11.2]) rfl .u rfl rfl Try.sizeOf46 rfl rfl rfl rfl ?_
  refine TL.nil (X.blk (X.seq (T.region rfl ?_)))
  refine TL.q rfl .u (Ex.add rfl rfl (by omega)) rfl ?_
  refine TL.run ft_tally_ok [1] rfl rfl ?_
  refine TL.nil (X.un (TW.step (T.seq (T.region rfl ?_))))
  refine TL.run ft_tally_ok [0] rfl rfl ?_
  refine TL.nil (X.seq (T.seq ?_))
  refine T.no rfl (decide_eq_false (show ¬ (4 < 4) by omega)) ?_
  refine T.exit (X.exs (X.exs (X.ex (X.seq (T.seq (T.region rfl ?_))))))
  refine TL.q rfl .u (Ex.bS (us := [.complex .f64 x5.1 x5.2, .complex .f64 x7.1 x7.2, .complex .f64 x9.1 x9.2, .complex .f64 x11.1 x11.2]) 0 rfl Try.isAgg47 Try.sizeOf47 rfl rfl rfl) rfl ?_
  refine TL.st1 (cs' := #[.complex .f64 x5.1 x5.2, .complex .f64 x7.1 x7.2, .complex .f64 x9.1 x9.2, .complex .f64 x11.1 x11.2]) rfl .u rfl rfl Try.sizeOf47 rfl rfl rfl rfl ?_
  obtain rfl := Option.some.inj h
  exact TL.nil (X.seq (T.ret (X.done1 [2] Try.results15 (RV.cS (us := #[.complex .f64 x5.1 x5.2, .complex .f64 x7.1 x7.2, .complex .f64 x9.1 x9.2, .complex .f64 x11.1 x11.2]) 1 rfl Try.isAgg47 Try.sizeOf47 rfl rfl) ⟨rfl, rfl, rfl⟩ (by rfl) (.inl rfl))))
def f_tally_Back_l1 (a0 : (Nat × Nat) × (Nat × Nat) × (Nat × Nat) × (Nat × Nat)) : Nat → Nat → Int → Int → Int → Int → Option (Nat × Int × Int × Int × Int)
  | 0, _, _, _, _, _ => none
  | m12 + 1, k4, y5, y6, y7, y8 => if (k4 : Int) < 4 then ((if -9223372036854775808 ≤ (0 * (k4 : Int)) ∧ (0 * (k4 : Int)) ≤ 9223372036854775807 then ((f_tally_Turn a0.1 (0 * (k4 : Int))).bind fun x45 => (cSumBits .add .f64 0 0 x45.1 x45.2).bind fun x47 => if -9223372036854775808 ≤ ((-1) * (k4 : Int)) ∧ ((-1) * (k4 : Int)) ≤ 9223372036854775807 then ((f_tally_Turn a0.2.1 ((-1) * (k4 : Int))).bind fun x49 => (cSumBits .add .f64 x47.1 x47.2 x49.1 x49.2).bind fun x51 => if -9223372036854775808 ≤ ((-2) * (k4 : Int)) ∧ ((-2) * (k4 : Int)) ≤ 9223372036854775807 then ((f_tally_Turn a0.2.2.1 ((-2) * (k4 : Int))).bind fun x53 => (cSumBits .add .f64 x51.1 x51.2 x53.1 x53.2).bind fun x55 => if -9223372036854775808 ≤ ((-3) * (k4 : Int)) ∧ ((-3) * (k4 : Int)) ≤ 9223372036854775807 then ((f_tally_Turn a0.2.2.2 ((-3) * (k4 : Int))).bind fun x57 => (cSumBits .add .f64 x55.1 x55.2 x57.1 x57.2).bind fun x59 => (floatToIntVal .f64 x59.1 .i64).bind fun x60 => if -9223372036854775808 ≤ x60 ∧ x60 ≤ 9223372036854775807 then (if (k4 : Int) = 0 then (some ((Int.tdiv x60 4), y6, y7, y8)) else (if (k4 : Int) = 1 then (some (y5, (Int.tdiv x60 4), y7, y8)) else (if (k4 : Int) = 2 then (some (y5, y6, (Int.tdiv x60 4), y8)) else (if (k4 : Int) = 3 then (some (y5, y6, y7, (Int.tdiv x60 4))) else none)))) else none) else none) else none) else none) else none).bind fun (y39, y40, y41, y42) => if -9223372036854775808 ≤ ((k4 : Int) + 1) ∧ ((k4 : Int) + 1) ≤ 9223372036854775807 then (f_tally_Back_l1 a0 m12 (k4 + 1) y39 y40 y41 y42) else none) else some (k4, y5, y6, y7, y8)
def f_tally_Back (a0 : (Nat × Nat) × (Nat × Nat) × (Nat × Nat) × (Nat × Nat)) : Option (Int × Int × Int × Int) := (f_tally_Back_l1 a0 ((4 : Int).toNat + 1) 0 0 0 0 0).bind fun (k67, y68, y69, y70, y71) => some (y68, y69, y70, y71)
set_option maxRecDepth 100000 in
set_option maxHeartbeats 4000000 in
theorem f_tally_Back_spec (a0 : (Nat × Nat) × (Nat × Nat) × (Nat × Nat) × (Nat × Nat)) (r : Int × Int × Int × Int) (h : f_tally_Back a0 = some r) : SpecX Try.prog 19 #[.agg #[.complex .f64 a0.1.1 a0.1.2, .complex .f64 a0.2.1.1 a0.2.1.2, .complex .f64 a0.2.2.1.1 a0.2.2.1.2, .complex .f64 a0.2.2.2.1 a0.2.2.2.2]] .triv (EmpR) (fun v A' N => v = .agg #[.int .i64 r.1, .int .i64 r.2.1, .int .i64 r.2.2.1, .int .i64 r.2.2.2] ∧ A' = EmpR ∧ N = []) := by
  refine enterA Try.func19 rfl Try.ntmps19 rfl ?_
  intro F w hX
  unfold f_tally_Back at h
  refine T.seq (T.region rfl ?_)
  refine TL.box rfl .u rfl rfl (fun b1 => ?_)
  refine TL.alloc rfl .u Try.zeroValue45 rfl (fun b2 => ?_)
  refine TL.nil (X.seq (T.seq (T.region rfl ?_)))
  refine TL.alloc rfl .u Try.zeroValue45 rfl (fun b3 => ?_)
  refine TL.nil (X.seq (T.seq (T.seq (T.region rfl ?_))))
  refine TL.run ft_tally_ok [0] rfl rfl ?_
  refine TL.nil (X.seq (T.block ?_))
  obtain ⟨E9, hE10, hO11⟩ := Option.bind_eq_some_iff.1 h
  refine T.lp (fun m e Rs => ∃ (k4 : Nat) (y5 : Int) (y6 : Int) (y7 : Int) (y8 : Int), e = [(1, .pointer (some ⟨b1, 0, none⟩)), (2, .pointer (some ⟨b2, 0, none⟩)), (3, .pointer (some ⟨b3, 0, none⟩)), (8, .int .i64 (k4 : Int))] ∧ Rs = [BlkR b3 45 #[.int .i64 y5, .int .i64 y6, .int .i64 y7, .int .i64 y8], BlkR b2 45 #[.int .i64 0, .int .i64 0, .int .i64 0, .int .i64 0], BlkR b1 47 #[.complex .f64 a0.1.1 a0.1.2, .complex .f64 a0.2.1.1 a0.2.1.2, .complex .f64 a0.2.2.1.1 a0.2.2.1.2, .complex .f64 a0.2.2.2.1 a0.2.2.2.2], EmpR] ∧ f_tally_Back_l1 a0 m k4 y5 y6 y7 y8 = some E9) ((4 : Int).toNat + 1) [0, 0, 0, 0] ⟨0, 0, 0, 0, 0, rfl, rfl, by exact hE10⟩ (by rfl) (by rfl) ?_
  rintro m12 _ _ ⟨k4, y5, y6, y7, y8, rfl, rfl, hl14⟩
  clear hE10 h
  cases m12 with
  | zero =>
    rw [f_tally_Back_l1] at hl14
    cases hl14
  | succ m12 =>
    have h := hl14
    clear hl14
    rw [f_tally_Back_l1] at h
    refine T.seq (T.region rfl ?_)
    refine TL.run ft_tally_ok [0] rfl rfl ?_
    by_cases c16 : (k4 : Int) < 4
    · replace h := ifT c16 h
      refine TL.nil (X.seq (T.seq ?_))
      refine T.yes rfl (decide_eq_true c16) ?_
      refine T.skip (X.seq (T.seq ?_))
      obtain ⟨⟨y39, y40, y41, y42⟩, h, hk43⟩ := Option.bind_eq_some_iff.1 h
      refine T.jq (fun e Rs => e = [(1, .pointer (some ⟨b1, 0, none⟩)), (2, .pointer (some ⟨b2, 0, none⟩)), (3, .pointer (some ⟨b3, 0, none⟩)), (8, .int .i64 (k4 : Int))] ∧ Rs = [BlkR b3 45 #[.int .i64 y39, .int .i64 y40, .int .i64 y41, .int .i64 y42], BlkR b2 45 #[.int .i64 0, .int .i64 0, .int .i64 0, .int .i64 0], BlkR b1 47 #[.complex .f64 a0.1.1 a0.1.2, .complex .f64 a0.2.1.1 a0.2.1.2, .complex .f64 a0.2.2.1.1 a0.2.2.1.2, .complex .f64 a0.2.2.2.1 a0.2.2.2.2], EmpR]) ?_ ?_
      · clear hk43
        refine T.block (T.seq (T.region rfl ?_))
        refine TL.run ft_tally_ok [0, 1] rfl rfl ?_
        refine TL.nil (X.seq (T.seq (T.region rfl ?_)))
        refine TL.run ft_tally_ok [0] rfl rfl ?_
        refine TL.nil (X.seq (T.seq (T.seq (T.region rfl ?_))))
        refine TL.q rfl .u (Ex.bS (us := [.complex .f64 a0.1.1 a0.1.2, .complex .f64 a0.2.1.1 a0.2.1.2, .complex .f64 a0.2.2.1.1 a0.2.2.1.2, .complex .f64 a0.2.2.2.1 a0.2.2.2.2]) 2 rfl Try.isAgg47 Try.sizeOf47 rfl rfl rfl) rfl ?_
        refine TL.run ft_tally_ok [1] rfl rfl ?_
        refine TL.nil (X.seq (T.block ?_))
        refine T.unroll0 (TW.step (T.seq (T.region rfl ?_)))
        refine TL.run ft_tally_ok [0] rfl rfl ?_
        refine TL.nil (X.seq (T.seq ?_))
        refine T.yes rfl (decide_eq_true (show 0 < 4 by omega)) ?_
        refine T.skip (X.seq (T.seq (T.block (T.seq (T.region rfl ?_)))))
        refine TL.run ft_tally_ok [0] rfl rfl ?_
        refine TL.q rfl .u (Ex.ixA1 (cs := [.complex .f64 a0.1.1 a0.1.2, .complex .f64 a0.2.1.1 a0.2.1.2, .complex .f64 a0.2.2.1.1 a0.2.2.1.2, .complex .f64 a0.2.2.2.1 a0.2.2.2.2]) (k := 0) rfl rfl rfl Try.runUnderlying47 Try.sizeOf46 Try.isAgg46 (by decide) rfl) rfl ?_
        refine TL.run ft_tally_ok [2, 3] rfl rfl ?_
        refine TL.nil (X.seq (T.region rfl ?_))
        refine TL.run ft_tally_ok [0, 1, 2] rfl rfl ?_
        refine TL.q rfl .u (Ex.neg rfl (by omega)) rfl ?_
        replace h := guard_some h
        obtain ⟨c44, h⟩ := h
        refine TL.run ft_tally_ok [4] rfl rfl ?_
        refine TL.q rfl .u (Ex.mul rfl rfl c44) rfl ?_
        obtain ⟨x45, hx46, h⟩ := Option.bind_eq_some_iff.1 h
        refine TL.ce rfl .u (.fn Try.call20 rfl) (f_tally_Turn_spec a0.1 (0 * (k4 : Int)) _ hx46) (fun _ hs => (RX.reads_triv _ _)) rfl ?_
        obtain ⟨x47, hx47, h⟩ := Option.bind_eq_some_iff.1 h
        refine TL.q rfl .u (Ex.cadd rfl rfl hx47) rfl ?_
        refine TL.run ft_tally_ok [8] rfl rfl ?_
        refine TL.nil (X.blk (X.seq (T.region rfl ?_)))
        refine TL.q rfl .u (Ex.add rfl rfl (by omega)) rfl ?_
        refine TL.run ft_tally_ok [1] rfl rfl ?_
        refine TL.nil (X.un (TW.step (T.seq (T.region rfl ?_))))
        refine TL.run ft_tally_ok [0] rfl rfl ?_
        refine TL.nil (X.seq (T.seq ?_))
        refine T.yes rfl (decide_eq_true (show 1 < 4 by omega)) ?_
        refine T.skip (X.seq (T.seq (T.block (T.seq (T.region rfl ?_)))))
        refine TL.run ft_tally_ok [0] rfl rfl ?_
        refine TL.q rfl .u (Ex.ixA1 (cs := [.complex .f64 a0.1.1 a0.1.2, .complex .f64 a0.2.1.1 a0.2.1.2, .complex .f64 a0.2.2.1.1 a0.2.2.1.2, .complex .f64 a0.2.2.2.1 a0.2.2.2.2]) (k := 1) rfl rfl rfl Try.runUnderlying47 Try.sizeOf46 Try.isAgg46 (by decide) rfl) rfl ?_
        refine TL.run ft_tally_ok [2, 3] rfl rfl ?_
        refine TL.nil (X.seq (T.region rfl ?_))
        refine TL.run ft_tally_ok [0, 1, 2] rfl rfl ?_
        refine TL.q rfl .u (Ex.neg rfl (by omega)) rfl ?_
        replace h := guard_some h
        obtain ⟨c48, h⟩ := h
        refine TL.run ft_tally_ok [4] rfl rfl ?_
        refine TL.q rfl .u (Ex.mul rfl rfl c48) rfl ?_
        obtain ⟨x49, hx50, h⟩ := Option.bind_eq_some_iff.1 h
        refine TL.ce rfl .u (.fn Try.call20 rfl) (f_tally_Turn_spec a0.2.1 ((-1) * (k4 : Int)) _ hx50) (fun _ hs => (RX.reads_triv _ _)) rfl ?_
        obtain ⟨x51, hx51, h⟩ := Option.bind_eq_some_iff.1 h
        refine TL.q rfl .u (Ex.cadd rfl rfl hx51) rfl ?_
        refine TL.run ft_tally_ok [8] rfl rfl ?_
        refine TL.nil (X.blk (X.seq (T.region rfl ?_)))
        refine TL.q rfl .u (Ex.add rfl rfl (by omega)) rfl ?_
        refine TL.run ft_tally_ok [1] rfl rfl ?_
        refine TL.nil (X.un (TW.step (T.seq (T.region rfl ?_))))
        refine TL.run ft_tally_ok [0] rfl rfl ?_
        refine TL.nil (X.seq (T.seq ?_))
        refine T.yes rfl (decide_eq_true (show 2 < 4 by omega)) ?_
        refine T.skip (X.seq (T.seq (T.block (T.seq (T.region rfl ?_)))))
        refine TL.run ft_tally_ok [0] rfl rfl ?_
        refine TL.q rfl .u (Ex.ixA1 (cs := [.complex .f64 a0.1.1 a0.1.2, .complex .f64 a0.2.1.1 a0.2.1.2, .complex .f64 a0.2.2.1.1 a0.2.2.1.2, .complex .f64 a0.2.2.2.1 a0.2.2.2.2]) (k := 2) rfl rfl rfl Try.runUnderlying47 Try.sizeOf46 Try.isAgg46 (by decide) rfl) rfl ?_
        refine TL.run ft_tally_ok [2, 3] rfl rfl ?_
        refine TL.nil (X.seq (T.region rfl ?_))
        refine TL.run ft_tally_ok [0, 1, 2] rfl rfl ?_
        refine TL.q rfl .u (Ex.neg rfl (by omega)) rfl ?_
        replace h := guard_some h
        obtain ⟨c52, h⟩ := h
        refine TL.run ft_tally_ok [4] rfl rfl ?_
        refine TL.q rfl .u (Ex.mul rfl rfl c52) rfl ?_
        obtain ⟨x53, hx54, h⟩ := Option.bind_eq_some_iff.1 h
        refine TL.ce rfl .u (.fn Try.call20 rfl) (f_tally_Turn_spec a0.2.2.1 ((-2) * (k4 : Int)) _ hx54) (fun _ hs => (RX.reads_triv _ _)) rfl ?_
        obtain ⟨x55, hx55, h⟩ := Option.bind_eq_some_iff.1 h
        refine TL.q rfl .u (Ex.cadd rfl rfl hx55) rfl ?_
        refine TL.run ft_tally_ok [8] rfl rfl ?_
        refine TL.nil (X.blk (X.seq (T.region rfl ?_)))
        refine TL.q rfl .u (Ex.add rfl rfl (by omega)) rfl ?_
        refine TL.run ft_tally_ok [1] rfl rfl ?_
        refine TL.nil (X.un (TW.step (T.seq (T.region rfl ?_))))
        refine TL.run ft_tally_ok [0] rfl rfl ?_
        refine TL.nil (X.seq (T.seq ?_))
        refine T.yes rfl (decide_eq_true (show 3 < 4 by omega)) ?_
        refine T.skip (X.seq (T.seq (T.block (T.seq (T.region rfl ?_)))))
        refine TL.run ft_tally_ok [0] rfl rfl ?_
        refine TL.q rfl .u (Ex.ixA1 (cs := [.complex .f64 a0.1.1 a0.1.2, .complex .f64 a0.2.1.1 a0.2.1.2, .complex .f64 a0.2.2.1.1 a0.2.2.1.2, .complex .f64 a0.2.2.2.1 a0.2.2.2.2]) (k := 3) rfl rfl rfl Try.runUnderlying47 Try.sizeOf46 Try.isAgg46 (by decide) rfl) rfl ?_
        refine TL.run ft_tally_ok [2, 3] rfl rfl ?_
        refine TL.nil (X.seq (T.region rfl ?_))
        refine TL.run ft_tally_ok [0, 1, 2] rfl rfl ?_
        refine TL.q rfl .u (Ex.neg rfl (by omega)) rfl ?_
        replace h := guard_some h
        obtain ⟨c56, h⟩ := h
        refine TL.run ft_tally_ok [4] rfl rfl ?_
        refine TL.q rfl .u (Ex.mul rfl rfl c56) rfl ?_
        obtain ⟨x57, hx58, h⟩ := Option.bind_eq_some_iff.1 h
        refine TL.ce rfl .u (.fn Try.call20 rfl) (f_tally_Turn_spec a0.2.2.2 ((-3) * (k4 : Int)) _ hx58) (fun _ hs => (RX.reads_triv _ _)) rfl ?_
        obtain ⟨x59, hx59, h⟩ := Option.bind_eq_some_iff.1 h
        refine TL.q rfl .u (Ex.cadd rfl rfl hx59) rfl ?_
        refine TL.run ft_tally_ok [8] rfl rfl ?_
        refine TL.nil (X.blk (X.seq (T.region rfl ?_)))
        refine TL.q rfl .u (Ex.add rfl rfl (by omega)) rfl ?_
        refine TL.run ft_tally_ok [1] rfl rfl ?_
        refine TL.nil (X.un (TW.step (T.seq (T.region rfl ?_))))
        refine TL.run ft_tally_ok [0] rfl rfl ?_
        refine TL.nil (X.seq (T.seq ?_))
        refine T.no rfl (decide_eq_false (show ¬ (4 < 4) by omega)) ?_
        refine T.exit (X.exs (X.exs (X.ex (X.seq (T.region rfl ?_)))))
        refine TL.run ft_tally_ok [0, 1] rfl rfl ?_
        refine TL.q rfl .u (Ex.re rfl) rfl ?_
        obtain ⟨x60, hx60, h⟩ := Option.bind_eq_some_iff.1 h
        refine TL.q rfl .u (Ex.f2i rfl Try.underlying63 Try.underlying3 hx60) rfl ?_
        replace h := guard_some h
        obtain ⟨c61, h⟩ := h
        refine TL.q rfl .u (Ex.quoT rfl rfl (by omega) c61) rfl ?_
        by_cases c62 : (k4 : Int) = 0
        · replace h := ifT c62 h
          refine TL.q rfl .u (Ex.ixP (k := 0) rfl rfl c62 Try.runUnderlying45 Try.sizeOf3 (by decide)) rfl ?_
          refine TL.st0 (cs' := #[.int .i64 (Int.tdiv x60 4), .int .i64 y6, .int .i64 y7, .int .i64 y8]) rfl .u rfl rfl Try.sizeOf3 rfl rfl rfl rfl ?_
          cases h
          exact TL.nil (X.blk (X.jq [0, 0, 0, 0] ⟨rfl, rfl⟩ (by rfl) (by rfl)))
        · replace h := ifF c62 h
          by_cases c63 : (k4 : Int) = 1
          · replace h := ifT c63 h
            refine TL.q rfl .u (Ex.ixP (k := 1) rfl rfl c63 Try.runUnderlying45 Try.sizeOf3 (by decide)) rfl ?_
            refine TL.st0 (cs' := #[.int .i64 y5, .int .i64 (Int.tdiv x60 4), .int .i64 y7, .int .i64 y8]) rfl .u rfl rfl Try.sizeOf3 rfl rfl rfl rfl ?_
            cases h
            exact TL.nil (X.blk (X.jq [0, 0, 0, 0] ⟨rfl, rfl⟩ (by rfl) (by rfl)))
          · replace h := ifF c63 h
            by_cases c64 : (k4 : Int) = 2
            · replace h := ifT c64 h
              refine TL.q rfl .u (Ex.ixP (k := 2) rfl rfl c64 Try.runUnderlying45 Try.sizeOf3 (by decide)) rfl ?_
              refine TL.st0 (cs' := #[.int .i64 y5, .int .i64 y6, .int .i64 (Int.tdiv x60 4), .int .i64 y8]) rfl .u rfl rfl Try.sizeOf3 rfl rfl rfl rfl ?_
              cases h
              exact TL.nil (X.blk (X.jq [0, 0, 0, 0] ⟨rfl, rfl⟩ (by rfl) (by rfl)))
            · replace h := ifF c64 h
              replace h := guard_some h
              obtain ⟨c65, h⟩ := h
              refine TL.q rfl .u (Ex.ixP (k := 3) rfl rfl c65 Try.runUnderlying45 Try.sizeOf3 (by decide)) rfl ?_
              refine TL.st0 (cs' := #[.int .i64 y5, .int .i64 y6, .int .i64 y7, .int .i64 (Int.tdiv x60 4)]) rfl .u rfl rfl Try.sizeOf3 rfl rfl rfl rfl ?_
              cases h
              exact TL.nil (X.blk (X.jq [0, 0, 0, 0] ⟨rfl, rfl⟩ (by rfl) (by rfl)))
      · rintro _ _ ⟨rfl, rfl⟩
        clear h
        have h := hk43
        clear hk43
        try dsimp only at h
        replace h := guard_some h
        obtain ⟨c66, h⟩ := h
        refine X.seq (T.region rfl ?_)
        refine TL.q rfl .u (Ex.add rfl rfl c66) rfl ?_
        refine TL.run ft_tally_ok [1] rfl rfl ?_
        exact TL.nil (X.back (m' := m12) [0, 0, 0, 0] (by omega) ⟨k4 + 1, y39, y40, y41, y42, rfl, rfl, h⟩ (by rfl) (by rfl))
    · replace h := ifF c16 h
      refine TL.nil (X.seq (T.seq ?_))
      refine T.no rfl (decide_eq_false c16) ?_
      obtain rfl := Option.some.inj h
      replace h := hO11
      clear hO11
      try dsimp only at h
      refine T.exit (X.exs (X.exs (X.ex (X.seq (T.seq (T.region rfl ?_))))))
      refine TL.q rfl .u (Ex.bS (us := [.int .i64 y5, .int .i64 y6, .int .i64 y7, .int .i64 y8]) 0 rfl Try.isAgg45 Try.sizeOf45 rfl rfl rfl) rfl ?_
      refine TL.st1 (cs' := #[.int .i64 y5, .int .i64 y6, .int .i64 y7, .int .i64 y8]) rfl .u rfl rfl Try.sizeOf45 rfl rfl rfl rfl ?_
      obtain rfl := Option.some.inj h
      exact TL.nil (X.seq (T.ret (X.done1 [3] Try.results19 (RV.cS (us := #[.int .i64 y5, .int .i64 y6, .int .i64 y7, .int .i64 y8]) 1 rfl Try.isAgg45 Try.sizeOf45 rfl rfl) ⟨rfl, rfl, rfl⟩ (by rfl) (.inl rfl))))
def f_tally_Point (a0 : Bat) : Option (Nat × Nat) := (f_batch_Encode a0).bind fun (x4, x5) => if x5 = 0 then (some ((FloatKind.f64.nearest (x4.length : Int)), (FloatKind.f64.nearest (a0.fRecords.length : Int)))) else some (0, 0)
set_option maxRecDepth 100000 in
set_option maxHeartbeats 4000000 in
theorem f_tally_Point_spec (a0 : Bat) (A1 : Option Addr) (c2 : Nat) (r : Nat × Nat) (h : f_tally_Point a0 = some r) : SpecX Try.prog 24 #[.agg #[.int .i64 a0.fBase, .int .i64 a0.fLeader, .bool a0.fAppend, .bool a0.fTxn, .bool a0.fControl, .int .i64 a0.fLast, .int .i64 a0.fFirst, .int .i64 a0.fMax, .int .i64 a0.fProducer, .int .i64 a0.fEpoch, .int .i64 a0.fSequence, .slice A1 a0.fRecords.length c2]] (RX.of (sliceRd 7 Rec_rd) [.slice A1 a0.fRecords.length c2] a0.fRecords) (EmpR) (fun v A' N => v = .complex .f64 r.1 r.2 ∧ A' = EmpR ∧ N = []) := by
  refine enterA Try.func24 rfl Try.ntmps24 rfl ?_
  intro F w hX
  unfold f_tally_Point at h
  refine T.seq (T.region rfl ?_)
  refine TL.box rfl .u rfl rfl (fun b3 => ?_)
  refine TL.run ft_tally_ok [1] rfl rfl ?_
  refine TL.nil (X.seq (T.seq (T.region rfl ?_)))
  refine TL.q rfl .u (Ex.bS (us := [.int .i64 a0.fBase, .int .i64 a0.fLeader, .bool a0.fAppend, .bool a0.fTxn, .bool a0.fControl, .int .i64 a0.fLast, .int .i64 a0.fFirst, .int .i64 a0.fMax, .int .i64 a0.fProducer, .int .i64 a0.fEpoch, .int .i64 a0.fSequence, .slice A1 a0.fRecords.length c2]) 0 rfl Try.isAgg36 Try.sizeOf36 rfl rfl rfl) rfl ?_
  obtain ⟨⟨x4, x5⟩, hx6, h⟩ := Option.bind_eq_some_iff.1 h
  try dsimp only at h
  refine TL.ce rfl .u (.fn Try.call27 rfl) (f_batch_Encode_spec a0 _ _ _ hx6) (fun _ hs => (SrcE.old hs hX)) rfl ?_
  refine TL.run ft_tally_ok [2, 3, 4, 5, 6] rfl rfl ?_
  refine TL.nil (X.seq (T.seq (T.seq (T.region rfl ?_))))
  refine TL.run ft_tally_ok [0, 1] rfl rfl ?_
  by_cases c7 : x5 = 0
  · replace h := ifT c7 h
    refine TL.nil (X.seq ?_)
    refine T.no rfl (bn_f (decide_eq_true c7)) ?_
    refine T.skip (X.seq (T.seq (T.region rfl ?_)))
    refine TL.run ft_tally_ok [0] rfl rfl ?_
    refine TL.q rfl .u (Ex.lenB rfl Try.runUnderlying9) rfl ?_
    refine TL.q rfl .u (Ex.i2f rfl Try.underlying3 Try.underlying63) rfl ?_
    refine TL.run ft_tally_ok [3] rfl rfl ?_
    refine TL.q rfl .u (Ex.b1 0 rfl Try.isAgg34 rfl rfl) rfl ?_
    refine TL.q rfl .u (Ex.lenS rfl Try.runUnderlying34) rfl ?_
    refine TL.q rfl .u (Ex.i2f rfl Try.underlying3 Try.underlying63) rfl ?_
    refine TL.q rfl .u (Ex.cx rfl rfl) rfl ?_
    refine TL.run ft_tally_ok [8] rfl rfl ?_
    obtain rfl := Option.some.inj h
    exact TL.nil (X.seq (T.ret (X.done1 [1] Try.results24 (RV.tm rfl) ⟨rfl, rfl, rfl⟩ (by rfl) (.inl rfl))))
  · replace h := ifF c7 h
    refine TL.nil (X.seq ?_)
    refine T.yes rfl (bn_t (decide_eq_false c7)) ?_
    refine T.seq (T.region rfl ?_)
    refine TL.run ft_tally_ok [0] rfl rfl ?_
    obtain rfl := Option.some.inj h
    exact TL.nil (X.seq (T.ret (X.rs (X.done1 [1] Try.results24 (RV.tm rfl) ⟨rfl, rfl, rfl⟩ (by rfl) (.inl rfl)))))
def f_tally_Total_l1 : List Bat → (Nat × Nat) → Option (Nat × Nat)
  | [], y3 => some y3
  | x9 :: xs, y3 => (f_tally_Point x9).bind fun x17 => (cSumBits .add .f64 y3.1 y3.2 x17.1 x17.2).bind fun x19 => f_tally_Total_l1 xs x19
def f_tally_Total (a0 : List Bat) : Option (Nat × Nat) := (f_tally_Total_l1 a0 (0, 0)).bind fun y20 => some y20
set_option maxRecDepth 100000 in
set_option maxHeartbeats 4000000 in
theorem f_tally_Total_spec (a0 : List Bat) (A1 : Option Addr) (c2 : Nat) (r : Nat × Nat) (h : f_tally_Total a0 = some r) : SpecX Try.prog 25 #[.slice A1 a0.length c2] (RX.of (sliceRd 12 Bat_rd) [.slice A1 a0.length c2] a0) (EmpR) (fun v A' N => v = .complex .f64 r.1 r.2 ∧ A' = EmpR ∧ N = []) := by
  refine enterA Try.func25 rfl Try.ntmps25 rfl ?_
  intro F w hX
  unfold f_tally_Total at h
  refine T.seq (T.region rfl ?_)
  refine TL.run ft_tally_ok [0] rfl rfl ?_
  refine TL.nil (X.seq (T.seq (T.region rfl ?_)))
  refine TL.run ft_tally_ok [0] rfl rfl ?_
  refine TL.nil (X.seq (T.seq (T.seq (T.region rfl ?_))))
  refine TL.run ft_tally_ok [0] rfl rfl ?_
  refine TL.q rfl .u (Ex.lenS rfl Try.runUnderlying23) rfl ?_
  refine TL.run ft_tally_ok [2] rfl rfl ?_
  refine TL.nil (X.seq (T.block ?_))
  obtain ⟨E5, hE6, hO7⟩ := Option.bind_eq_some_iff.1 h
  have hk11len := RX.len_le hX
  refine T.lp (fun m e Rs => ∃ (y3 : Nat × Nat) (k4 : Nat), k4 + m = a0.length ∧ e = [(2, .complex .f64 0 0), (3, .complex .f64 y3.1 y3.2), (6, .slice A1 a0.length c2), (7, .int .i64 (a0.length : Int)), (8, .int .i64 (k4 : Int))] ∧ Rs = [EmpR] ∧ f_tally_Total_l1 (a0.drop k4) y3 = some E5) (a0.length) [0] ⟨(0, 0), 0, by simp, rfl, rfl, by rw [List.drop_zero]; exact hE6⟩ (by rfl) (by rfl) ?_
  rintro m8 _ _ ⟨y3, k4, hk11, rfl, rfl, hl10⟩
  clear hE6 h
  cases m8 with
  | zero =>
    have h := hl10
    clear hl10
    rw [List.drop_of_length_le (by omega), f_tally_Total_l1] at h
    have hk11ge : ¬ ((k4 : Int) < (a0.length : Int)) := by omega
    refine T.seq (T.region rfl ?_)
    refine TL.run ft_tally_ok [0] rfl rfl ?_
    refine TL.nil (X.seq (T.seq ?_))
    refine T.no rfl (decide_eq_false hk11ge) ?_
    obtain rfl := Option.some.inj h
    replace h := hO7
    clear hO7
    try dsimp only at h
    refine T.exit (X.exs (X.exs (X.ex (X.seq (T.seq (T.region rfl ?_))))))
    refine TL.run ft_tally_ok [0, 1] rfl rfl ?_
    obtain rfl := Option.some.inj h
    exact TL.nil (X.seq (T.ret (X.done1 [0] Try.results25 (RV.tm rfl) ⟨rfl, rfl, rfl⟩ (by rfl) (.inl rfl))))
  | succ m8 =>
    have h := hl10
    clear hl10
    obtain ⟨x9, hxx9⟩ : ∃ x, a0[k4]? = some x := ⟨_, List.getElem?_eq_getElem (by omega)⟩
    rw [drop_cons hxx9, f_tally_Total_l1] at h
    have hk11lt : (k4 : Int) < (a0.length : Int) := by omega
    refine T.seq (T.region rfl ?_)
    refine TL.run ft_tally_ok [0] rfl rfl ?_
    refine TL.nil (X.seq (T.seq ?_))
    refine T.yes rfl (decide_eq_true hk11lt) ?_
    obtain ⟨gz12, oz12, rfl, z12cs, z12cl, z12cc, z12nf, z12r⟩ := RX.elem (by decide) hX hxx9
    obtain ⟨z12S, z12r, z12rr⟩ := z12r
    obtain ⟨A13, c14, rfl, z12s0⟩ := z12r
    have hX15 : (RX.of (sliceRd 7 Rec_rd) [.slice A13 x9.fRecords.length c14] x9.fRecords).reads w F := ⟨z12S, z12s0, z12rr⟩
    refine T.skip (X.seq (T.seq (T.block (T.seq (T.region rfl ?_)))))
    refine TL.q rfl .u (Ex.ixS (k := k4) rfl rfl rfl Try.runUnderlying23 Try.sizeOf36 (List.getElem?_eq_some_iff.1 hxx9).1) rfl ?_
    refine TL.q rfl .u (Ex.oS (us := [.int .i64 x9.fBase, .int .i64 x9.fLeader, .bool x9.fAppend, .bool x9.fTxn, .bool x9.fControl, .int .i64 x9.fLast, .int .i64 x9.fFirst, .int .i64 x9.fMax, .int .i64 x9.fProducer, .int .i64 x9.fEpoch, .int .i64 x9.fSequence, .slice A13 x9.fRecords.length c14]) 0 rfl Try.isAgg36 Try.sizeOf36 z12nf z12cc rfl rfl rfl) rfl ?_
    refine TL.alloc rfl .u Try.zeroValue36 rfl (fun b16 => ?_)
    refine TL.st0 (cs' := #[.int .i64 x9.fBase, .int .i64 x9.fLeader, .bool x9.fAppend, .bool x9.fTxn, .bool x9.fControl, .int .i64 x9.fLast, .int .i64 x9.fFirst, .int .i64 x9.fMax, .int .i64 x9.fProducer, .int .i64 x9.fEpoch, .int .i64 x9.fSequence, .slice A13 x9.fRecords.length c14]) rfl .u rfl rfl Try.sizeOf36 rfl rfl rfl rfl ?_
    refine TL.nil (X.seq (T.region rfl ?_))
    refine TL.run ft_tally_ok [0] rfl rfl ?_
    refine TL.q rfl .u (Ex.bS (us := [.int .i64 x9.fBase, .int .i64 x9.fLeader, .bool x9.fAppend, .bool x9.fTxn, .bool x9.fControl, .int .i64 x9.fLast, .int .i64 x9.fFirst, .int .i64 x9.fMax, .int .i64 x9.fProducer, .int .i64 x9.fEpoch, .int .i64 x9.fSequence, .slice A13 x9.fRecords.length c14]) 0 rfl Try.isAgg36 Try.sizeOf36 rfl rfl rfl) rfl ?_
    obtain ⟨x17, hx18, h⟩ := Option.bind_eq_some_iff.1 h
    refine TL.ce rfl .u (.fn Try.call24 rfl) (f_tally_Point_spec x9 _ _ _ hx18) (fun _ hs => (SrcE.old hs hX15)) rfl ?_
    obtain ⟨x19, hx19, h⟩ := Option.bind_eq_some_iff.1 h
    refine TL.q rfl .u (Ex.cadd rfl rfl hx19) rfl ?_
    refine TL.run ft_tally_ok [4] rfl rfl ?_
    refine TL.nil (X.blk (X.seq (T.region rfl ?_)))
    refine TL.q rfl .u (Ex.add rfl rfl (by omega)) rfl ?_
    refine TL.run ft_tally_ok [1] rfl rfl ?_
    exact TL.nil (X.back (m' := m8) [1] (by omega) ⟨x19, k4 + 1, by omega, rfl, rfl, h⟩ (by rfl) (by rfl))
end Go.Proofs.Ytahjmpipllajcaa.Sl
namespace Go.Proofs.Ytahjmpipllajcaa.Sl
open Go.RowKit
set_option linter.unusedVariables false
set_option linter.unusedSimpArgs false
theorem sm_of {p : Int × Int} (h1 : -4503599627370496 ≤ p.1 ∧ p.1 ≤ 4503599627370496) (h2 : -4503599627370496 ≤ p.2 ∧ p.2 ≤ 4503599627370496) : sm p := ⟨by omega, by omega⟩
end Go.Proofs.Ytahjmpipllajcaa.Sl
namespace Go.Proofs.Ytahjmpipllajcaa.Sl
open Go.RowKit
set_option linter.unusedVariables false
set_option linter.unusedSimpArgs false
set_option maxRecDepth 100000
def ft_cursitorlaw11 : FTab := [(36, 11, 11), (80, 1, 1), (83, 2, 2), (83, 3, 4), (83, 4, 6), (85, 0, 0), (85, 1, 1)]
theorem ft_cursitorlaw11_ok : (ft_cursitorlaw11).OK Try.prog := ⟨FOK.mk Try.runUnderlying36 rfl Try.sizeOf34 rfl, FOK.mk Try.runUnderlying80 rfl Try.sizeOf9 rfl, FOK.mk Try.runUnderlying83 rfl Try.sizeOf80 rfl, FOK.mk Try.runUnderlying83 rfl Try.sizeOf80 rfl, FOK.mk Try.runUnderlying83 rfl Try.sizeOf81 rfl, FOK.mk Try.runUnderlying85 rfl Try.sizeOf9 rfl, FOK.mk Try.runUnderlying85 rfl Try.sizeOf80 rfl, trivial⟩
def f_l11_Small_l2 : List Hd → Int → Option (Lp Int Int)
  | [], y22 => some (Lp.go y22)
  | x28 :: xs, y22 => if -9223372036854775808 ≤ ((x28.fKey.length : Int) + (x28.fValue.data.length : Int)) ∧ ((x28.fKey.length : Int) + (x28.fValue.data.length : Int)) ≤ 9223372036854775807 then (if ((x28.fKey.length : Int) + (x28.fValue.data.length : Int)) > 100 then some (Lp.ret 0) else (f_l11_Small_l2 xs y22)) else none
def f_l11_Small_l1 : List Rec → Int → Option (Lp Int Int)
  | [], y5 => some (Lp.go y5)
  | x11 :: xs, y5 => if -9223372036854775808 ≤ ((x11.fKey.data.length : Int) + (x11.fValue.data.length : Int)) ∧ ((x11.fKey.data.length : Int) + (x11.fValue.data.length : Int)) ≤ 9223372036854775807 then (if ((x11.fKey.data.length : Int) + (x11.fValue.data.length : Int)) > 100 then some (Lp.ret 0) else (if (x11.fHeaders.length : Int) > 6 then some (Lp.ret 0) else ((f_l11_Small_l2 x11.fHeaders y5).bind fun e => match e with | .ret r => some (Lp.ret r) | .go y35 => (f_l11_Small_l1 xs y35)))) else none
theorem f_l11_Small_l1_z (y5 : Int) : f_l11_Small_l1 [] y5 = (some (Lp.go y5)) := rfl
theorem f_l11_Small_l1_s (x11 : Rec) (xs : List Rec) (y5 : Int) : f_l11_Small_l1 (x11 :: xs) y5 = (if -9223372036854775808 ≤ ((x11.fKey.data.length : Int) + (x11.fValue.data.length : Int)) ∧ ((x11.fKey.data.length : Int) + (x11.fValue.data.length : Int)) ≤ 9223372036854775807 then (if ((x11.fKey.data.length : Int) + (x11.fValue.data.length : Int)) > 100 then some (Lp.ret 0) else (if (x11.fHeaders.length : Int) > 6 then some (Lp.ret 0) else ((f_l11_Small_l2 x11.fHeaders y5).bind fun e => match e with | .ret r => some (Lp.ret r) | .go y35 => (f_l11_Small_l1 xs y35)))) else none) := rfl
def f_l11_Small (a0 : Bat) : Option (Int) := if (a0.fRecords.length : Int) > 12 then some 0 else ((f_l11_Small_l1 a0.fRecords 0).bind fun e => match e with | .ret r => some r | .go y37 => some 1)
set_option maxRecDepth 100000 in
set_option maxHeartbeats 4000000 in
theorem f_l11_Small_spec (a0 : Bat) (A1 : Option Addr) (c2 : Nat) (r : Int) (h : f_l11_Small a0 = some r) : SpecX Try.prog 21 #[.agg #[.int .i64 a0.fBase, .int .i64 a0.fLeader, .bool a0.fAppend, .bool a0.fTxn, .bool a0.fControl, .int .i64 a0.fLast, .int .i64 a0.fFirst, .int .i64 a0.fMax, .int .i64 a0.fProducer, .int .i64 a0.fEpoch, .int .i64 a0.fSequence, .slice A1 a0.fRecords.length c2]] (RX.of (sliceRd 7 Rec_rd) [.slice A1 a0.fRecords.length c2] a0.fRecords) (EmpR) (fun v A' N => v = .int .i64 r ∧ A' = EmpR ∧ N = []) := by
  refine enterA Try.func21 rfl Try.ntmps21 rfl ?_
  intro F w hX
  unfold f_l11_Small at h
  refine T.seq (T.region rfl ?_)
  refine TL.box rfl .u rfl rfl (fun b3 => ?_)
  refine TL.run ft_cursitorlaw11_ok [1] rfl rfl ?_
  refine TL.nil (X.seq (T.seq (T.seq (T.region rfl ?_))))
  refine TL.run ft_cursitorlaw11_ok [0] rfl rfl ?_
  refine TL.q rfl .u (Ex.b1 0 rfl Try.isAgg34 rfl rfl) rfl ?_
  refine TL.q rfl .u (Ex.lenS rfl Try.runUnderlying34) rfl ?_
  refine TL.run ft_cursitorlaw11_ok [3] rfl rfl ?_
  by_cases c4 : (a0.fRecords.length : Int) > 12
  · replace h := ifT c4 h
    refine TL.nil (X.seq ?_)
    refine T.yes rfl (decide_eq_true c4) ?_
    refine T.seq (T.region rfl ?_)
    refine TL.run ft_cursitorlaw11_ok [0] rfl rfl ?_
    obtain rfl := Option.some.inj h
    exact TL.nil (X.seq (T.ret (X.rs (X.done1 [1] Try.results21 (RV.tm rfl) ⟨rfl, rfl, rfl⟩ (by rfl) (.inl rfl)))))
  · replace h := ifF c4 h
    refine TL.nil (X.seq ?_)
    refine T.no rfl (decide_eq_false c4) ?_
    refine T.skip (X.seq (T.seq (T.seq (T.region rfl ?_))))
    refine TL.run ft_cursitorlaw11_ok [0] rfl rfl ?_
    refine TL.q rfl .u (Ex.b1 0 rfl Try.isAgg34 rfl rfl) rfl ?_
    refine TL.q rfl .u (Ex.lenS rfl Try.runUnderlying34) rfl ?_
    refine TL.run ft_cursitorlaw11_ok [3] rfl rfl ?_
    refine TL.nil (X.seq (T.block ?_))
    obtain ⟨E7, hE8, hO9⟩ := Option.bind_eq_some_iff.1 h
    have hk13len := RX.len_le hX
    refine T.lp (fun m e Rs => ∃ (y5 : Int) (k6 : Nat), k6 + m = a0.fRecords.length ∧ e = [(2, .int .i64 y5), (12, .slice A1 a0.fRecords.length c2), (13, .int .i64 (a0.fRecords.length : Int)), (14, .int .i64 (k6 : Int))] ∧ Rs = [BlkR b3 36 #[.int .i64 a0.fBase, .int .i64 a0.fLeader, .bool a0.fAppend, .bool a0.fTxn, .bool a0.fControl, .int .i64 a0.fLast, .int .i64 a0.fFirst, .int .i64 a0.fMax, .int .i64 a0.fProducer, .int .i64 a0.fEpoch, .int .i64 a0.fSequence, .slice A1 a0.fRecords.length c2], EmpR] ∧ f_l11_Small_l1 (a0.fRecords.drop k6) y5 = some E7) (a0.fRecords.length) [0, 0] ⟨0, 0, by simp, rfl, rfl, by rw [List.drop_zero]; exact hE8⟩ (by rfl) (by rfl) ?_
    rintro m10 _ _ ⟨y5, k6, hk13, rfl, rfl, hl12⟩
    clear hE8 h
    cases m10 with
    | zero =>
      have h := hl12
      clear hl12
      rw [List.drop_of_length_le (by omega), f_l11_Small_l1_z] at h
      have hk13ge : ¬ ((k6 : Int) < (a0.fRecords.length : Int)) := by omega
      refine T.seq (T.region rfl ?_)
      refine TL.run ft_cursitorlaw11_ok [0] rfl rfl ?_
      refine TL.nil (X.seq (T.seq ?_))
      refine T.no rfl (decide_eq_false hk13ge) ?_
      obtain rfl := Option.some.inj h
      replace h := hO9
      clear hO9
      try dsimp only at h
      refine T.exit (X.exs (X.exs (X.ex (X.seq (T.seq (T.region rfl ?_))))))
      refine TL.run ft_cursitorlaw11_ok [0] rfl rfl ?_
      obtain rfl := Option.some.inj h
      exact TL.nil (X.seq (T.ret (X.done1 [1] Try.results21 (RV.tm rfl) ⟨rfl, rfl, rfl⟩ (by rfl) (.inl rfl))))
    | succ m10 =>
      have h := hl12
      clear hl12
      obtain ⟨x11, hxx11⟩ : ∃ x, a0.fRecords[k6]? = some x := ⟨_, List.getElem?_eq_getElem (by omega)⟩
      rw [drop_cons hxx11, f_l11_Small_l1_s] at h
      have hk13lt : (k6 : Int) < (a0.fRecords.length : Int) := by omega
      refine T.seq (T.region rfl ?_)
      refine TL.run ft_cursitorlaw11_ok [0] rfl rfl ?_
      refine TL.nil (X.seq (T.seq ?_))
      refine T.yes rfl (decide_eq_true hk13lt) ?_
      obtain ⟨gz14, oz14, rfl, z14cs, z14cl, z14cc, z14nf, z14r⟩ := RX.elem (by decide) hX hxx11
      obtain ⟨z14S, z14r, z14rr⟩ := z14r
      obtain ⟨A15, c16, rfl, z14s0⟩ := z14r
      have hX17 : (RX.of (sliceRd 3 Hd_rd) [.slice A15 x11.fHeaders.length c16] x11.fHeaders).reads w F := ⟨z14S, z14s0, z14rr⟩
      refine T.skip (X.seq (T.seq (T.block (T.seq (T.region rfl ?_)))))
      refine TL.q rfl .u (Ex.ixS (k := k6) rfl rfl rfl Try.runUnderlying34 Try.sizeOf83 (List.getElem?_eq_some_iff.1 hxx11).1) rfl ?_
      refine TL.q rfl .u (Ex.oS (us := [.int .i64 x11.fTime, .int .i64 x11.fOffset, .bool x11.fKey.null, .string (bsOf x11.fKey.data), .bool x11.fValue.null, .string (bsOf x11.fValue.data), .slice A15 x11.fHeaders.length c16]) 0 rfl Try.isAgg83 Try.sizeOf83 z14nf z14cc rfl rfl rfl) rfl ?_
      refine TL.alloc rfl .u Try.zeroValue83 rfl (fun b18 => ?_)
      refine TL.st0 (cs' := #[.int .i64 x11.fTime, .int .i64 x11.fOffset, .bool x11.fKey.null, .string (bsOf x11.fKey.data), .bool x11.fValue.null, .string (bsOf x11.fValue.data), .slice A15 x11.fHeaders.length c16]) rfl .u rfl rfl Try.sizeOf83 rfl rfl rfl rfl ?_
      refine TL.nil (X.seq (T.seq (T.seq (T.region rfl ?_))))
      refine TL.run ft_cursitorlaw11_ok [0, 1] rfl rfl ?_
      refine TL.q rfl .u (Ex.b1 0 rfl Try.isAgg9 rfl rfl) rfl ?_
      refine TL.q rfl .u (Ex.lenB rfl Try.runUnderlying9) rfl ?_
      refine TL.run ft_cursitorlaw11_ok [4, 5] rfl rfl ?_
      refine TL.q rfl .u (Ex.b1 0 rfl Try.isAgg9 rfl rfl) rfl ?_
      refine TL.q rfl .u (Ex.lenB rfl Try.runUnderlying9) rfl ?_
      replace h := guard_some h
      obtain ⟨c19, h⟩ := h
      refine TL.q rfl .u (Ex.add rfl rfl c19) rfl ?_
      by_cases c20 : ((x11.fKey.data.length : Int) + (x11.fValue.data.length : Int)) > 100
      · replace h := ifT c20 h
        refine TL.run ft_cursitorlaw11_ok [9, 10] rfl rfl ?_
        refine TL.no rfl (.gn rfl rfl (decide_eq_true c20)) rfl ?_
        refine TL.no rfl (.gn rfl rfl (decide_eq_true c20)) rfl ?_
        refine TL.no rfl (.gn rfl rfl (decide_eq_true c20)) rfl ?_
        refine TL.no rfl (.gn rfl rfl (decide_eq_true c20)) rfl ?_
        refine TL.q rfl .u (Ex.py rfl (decide_eq_true c20) rfl) rfl ?_
        refine TL.nil (X.seq ?_)
        refine T.yes rfl rfl ?_
        refine T.seq (T.region rfl ?_)
        refine TL.run ft_cursitorlaw11_ok [0] rfl rfl ?_
        obtain rfl := Option.some.inj h
        replace h := hO9
        clear hO9
        try dsimp only at h
        obtain rfl := Option.some.inj h
        exact TL.nil (X.seq (T.ret (X.rs (X.rb (X.rs (X.rs (X.rb (X.rs (X.done1 [2] Try.results21 (RV.tm rfl) ⟨rfl, rfl, rfl⟩ (by rfl) (.inl rfl))))))))))
      · replace h := ifF c20 h
        refine TL.run ft_cursitorlaw11_ok [9, 10] rfl rfl ?_
        refine TL.q rfl (.g rfl rfl (decide_eq_false c20)) (Ex.ft ft_cursitorlaw11_ok rfl) rfl ?_
        refine TL.q rfl (.g rfl rfl (decide_eq_false c20)) (Ex.b1 0 rfl Try.isAgg81 rfl rfl) rfl ?_
        refine TL.q rfl (.g rfl rfl (decide_eq_false c20)) (Ex.lenS rfl Try.runUnderlying81) rfl ?_
        refine TL.q rfl (.g rfl rfl (decide_eq_false c20)) (Ex.ft ft_cursitorlaw11_ok rfl) rfl ?_
        refine TL.q rfl .u (Ex.pn rfl (decide_eq_false c20) rfl) rfl ?_
        by_cases c21 : (x11.fHeaders.length : Int) > 6
        · replace h := ifT c21 h
          refine TL.nil (X.seq ?_)
          refine T.yes rfl (decide_eq_true c21) ?_
          refine T.seq (T.region rfl ?_)
          refine TL.run ft_cursitorlaw11_ok [0] rfl rfl ?_
          obtain rfl := Option.some.inj h
          replace h := hO9
          clear hO9
          try dsimp only at h
          obtain rfl := Option.some.inj h
          exact TL.nil (X.seq (T.ret (X.rs (X.rb (X.rs (X.rs (X.rb (X.rs (X.done1 [2] Try.results21 (RV.tm rfl) ⟨rfl, rfl, rfl⟩ (by rfl) (.inl rfl))))))))))
        · replace h := ifF c21 h
          refine TL.nil (X.seq ?_)
          refine T.no rfl (decide_eq_false c21) ?_
          refine T.skip (X.seq (T.seq (T.region rfl ?_)))
          refine TL.run ft_cursitorlaw11_ok [0] rfl rfl ?_
          refine TL.q rfl .u (Ex.b1 0 rfl Try.isAgg81 rfl rfl) rfl ?_
          refine TL.q rfl .u (Ex.lenS rfl Try.runUnderlying81) rfl ?_
          refine TL.run ft_cursitorlaw11_ok [3] rfl rfl ?_
          refine TL.nil (X.seq (T.block ?_))
          obtain ⟨E24, hE25, hO26⟩ := Option.bind_eq_some_iff.1 h
          have hk30len := RX.len_le hX17
          refine T.lp (fun m e Rs => ∃ (y22 : Int) (k23 : Nat), k23 + m = x11.fHeaders.length ∧ e = [(2, .int .i64 y22), (12, .slice (some ⟨gz14, oz14, none⟩) a0.fRecords.length c2), (13, .int .i64 (a0.fRecords.length : Int)), (14, .int .i64 (k6 : Int)), (35, .slice A15 x11.fHeaders.length c16), (36, .int .i64 (x11.fHeaders.length : Int)), (37, .int .i64 (k23 : Int))] ∧ Rs = [BlkR b18 83 #[.int .i64 x11.fTime, .int .i64 x11.fOffset, .bool x11.fKey.null, .string (bsOf x11.fKey.data), .bool x11.fValue.null, .string (bsOf x11.fValue.data), .slice A15 x11.fHeaders.length c16], BlkR b3 36 #[.int .i64 a0.fBase, .int .i64 a0.fLeader, .bool a0.fAppend, .bool a0.fTxn, .bool a0.fControl, .int .i64 a0.fLast, .int .i64 a0.fFirst, .int .i64 a0.fMax, .int .i64 a0.fProducer, .int .i64 a0.fEpoch, .int .i64 a0.fSequence, .slice (some ⟨gz14, oz14, none⟩) a0.fRecords.length c2], EmpR] ∧ f_l11_Small_l2 (x11.fHeaders.drop k23) y22 = some E24) (x11.fHeaders.length) [0, 0, 0] ⟨y5, 0, by simp, rfl, rfl, by rw [List.drop_zero]; exact hE25⟩ (by rfl) (by rfl) ?_
          rintro m27 _ _ ⟨y22, k23, hk30, rfl, rfl, hl29⟩
          clear hE25 h
          cases m27 with
          | zero =>
            have h := hl29
            clear hl29
            rw [List.drop_of_length_le (by omega), f_l11_Small_l2] at h
            have hk30ge : ¬ ((k23 : Int) < (x11.fHeaders.length : Int)) := by omega
            refine T.seq (T.region rfl ?_)
            refine TL.run ft_cursitorlaw11_ok [0] rfl rfl ?_
            refine TL.nil (X.seq (T.seq ?_))
            refine T.no rfl (decide_eq_false hk30ge) ?_
            obtain rfl := Option.some.inj h
            replace h := hO26
            clear hO26
            try dsimp only at h
            refine T.exit (X.exs (X.exs (X.ex (X.blk (X.seq (T.region rfl ?_))))))
            refine TL.q rfl .u (Ex.add rfl rfl (by omega)) rfl ?_
            refine TL.run ft_cursitorlaw11_ok [1] rfl rfl ?_
            exact TL.nil (X.back (m' := m10) [1, 1] (by omega) ⟨y22, k6 + 1, by omega, rfl, rfl, h⟩ (by rfl) (by rfl))
          | succ m27 =>
            have h := hl29
            clear hl29
            obtain ⟨x28, hxx28⟩ : ∃ x, x11.fHeaders[k23]? = some x := ⟨_, List.getElem?_eq_getElem (by omega)⟩
            rw [drop_cons hxx28, f_l11_Small_l2] at h
            have hk30lt : (k23 : Int) < (x11.fHeaders.length : Int) := by omega
            refine T.seq (T.region rfl ?_)
            refine TL.run ft_cursitorlaw11_ok [0] rfl rfl ?_
            refine TL.nil (X.seq (T.seq ?_))
            refine T.yes rfl (decide_eq_true hk30lt) ?_
            obtain ⟨gz31, oz31, rfl, z31cs, z31cl, z31cc, z31nf, z31r⟩ := RX.elem (by decide) hX17 hxx28
            obtain ⟨z31S, z31r, z31rr⟩ := z31r
            obtain rfl : z31cs = [.string (bsOf x28.fKey), .bool x28.fValue.null, .string (bsOf x28.fValue.data)] := z31r
            refine T.skip (X.seq (T.seq (T.block (T.seq (T.region rfl ?_)))))
            refine TL.q rfl .u (Ex.ixS (k := k23) rfl rfl rfl Try.runUnderlying81 Try.sizeOf85 (List.getElem?_eq_some_iff.1 hxx28).1) rfl ?_
            refine TL.q rfl .u (Ex.oS (us := [.string (bsOf x28.fKey), .bool x28.fValue.null, .string (bsOf x28.fValue.data)]) 0 rfl Try.isAgg85 Try.sizeOf85 z31nf z31cc rfl rfl rfl) rfl ?_
            refine TL.alloc rfl .u Try.zeroValue85 rfl (fun b32 => ?_)
            refine TL.st0 (cs' := #[.string (bsOf x28.fKey), .bool x28.fValue.null, .string (bsOf x28.fValue.data)]) rfl .u rfl rfl Try.sizeOf85 rfl rfl rfl rfl ?_
            refine TL.nil (X.seq (T.seq (T.region rfl ?_)))
            refine TL.run ft_cursitorlaw11_ok [0] rfl rfl ?_
            refine TL.q rfl .u (Ex.b1 0 rfl Try.isAgg9 rfl rfl) rfl ?_
            refine TL.q rfl .u (Ex.lenB rfl Try.runUnderlying9) rfl ?_
            refine TL.run ft_cursitorlaw11_ok [3, 4] rfl rfl ?_
            refine TL.q rfl .u (Ex.b1 0 rfl Try.isAgg9 rfl rfl) rfl ?_
            refine TL.q rfl .u (Ex.lenB rfl Try.runUnderlying9) rfl ?_
            replace h := guard_some h
            obtain ⟨c33, h⟩ := h
            refine TL.q rfl .u (Ex.add rfl rfl c33) rfl ?_
            refine TL.run ft_cursitorlaw11_ok [8] rfl rfl ?_
            by_cases c34 : ((x28.fKey.length : Int) + (x28.fValue.data.length : Int)) > 100
            · replace h := ifT c34 h
              refine TL.nil (X.seq ?_)
              refine T.yes rfl (decide_eq_true c34) ?_
              refine T.seq (T.region rfl ?_)
              refine TL.run ft_cursitorlaw11_ok [0] rfl rfl ?_
              obtain rfl := Option.some.inj h
              replace h := hO26
              clear hO26
              try dsimp only at h
              obtain rfl := Option.some.inj h
              replace h := hO9
              clear hO9
              try dsimp only at h
              obtain rfl := Option.some.inj h
              exact TL.nil (X.seq (T.ret (X.rb (X.rs (X.rs (X.rb (X.rb (X.rs (X.rs (X.rb (X.rs (X.done1 [3] Try.results21 (RV.tm rfl) ⟨rfl, rfl, rfl⟩ (by rfl) (.inl rfl)))))))))))))
            · replace h := ifF c34 h
              refine TL.nil (X.seq ?_)
              refine T.no rfl (decide_eq_false c34) ?_
              refine T.skip (X.blk (X.seq (T.region rfl ?_)))
              refine TL.q rfl .u (Ex.add rfl rfl (by omega)) rfl ?_
              refine TL.run ft_cursitorlaw11_ok [1] rfl rfl ?_
              exact TL.nil (X.back (m' := m27) [1, 1, 1] (by omega) ⟨y22, k23 + 1, by omega, rfl, rfl, h⟩ (by rfl) (by rfl))
end Go.Proofs.Ytahjmpipllajcaa.Sl
namespace Go.Proofs.Ytahjmpipllajcaa.Sl
open Go.RowKit
set_option linter.unusedVariables false
set_option linter.unusedSimpArgs false
set_option maxRecDepth 100000
def ft_cursitorref05 : FTab := []
theorem ft_cursitorref05_ok : (ft_cursitorref05).OK Try.prog := trivial
theorem mix_cursitorref05 : Try.prog.follows .mixedOrders = true := by kernel_rfl
theorem sok_cursitorref05_44_17 : SOK Try.prog 44 3 17 1 #[.int .i64 0, .int .i64 0, .int .i64 0, .int .i64 0, .int .i64 0, .int .i64 0, .int .i64 0, .int .i64 0, .int .i64 0, .int .i64 0, .int .i64 0, .int .i64 0, .int .i64 0, .int .i64 0, .int .i64 0, .int .i64 0, .int .i64 0] := SOK.mk Try.runUnderlying44 Try.sizeOf3 Try.zeroValue3 (by decide) (by kernel_rfl)
theorem inf_cursitorref05_3 : (Try.prog.info? 3).map (fun i => (i.zero, i.size, i.bytes)) = some (some (.int .i64 0), 1, 8) := by kernel_rfl
def f_r05_bit_l1 (a1 : Int) : Nat → Int → Nat → Option (Int × Nat)
  | 0, _, _ => none
  | m11 + 1, y6, k7 => if 0 ≤ a1 ∧ a1 ≤ 9223372036854775807 then (if (k7 : Int) < (a1 % 8) then (if 0 ≤ y6 ∧ y6 ≤ 9223372036854775807 then (if -9223372036854775808 ≤ ((k7 : Int) + 1) ∧ ((k7 : Int) + 1) ≤ 9223372036854775807 then (f_r05_bit_l1 a1 m11 (y6 / 2) (k7 + 1)) else none) else none) else some (y6, k7)) else none
def f_r05_bit (a0 : List UInt8) (a1 : Int) : Option (Int) := if 0 ≤ a1 ∧ a1 ≤ 9223372036854775807 then (if 0 ≤ (a1 / 8) then ((a0[(a1 / 8).toNat]?).bind fun ch3 => if -9223372036854775808 ≤ (ch3.toNat : Int) ∧ (ch3.toNat : Int) ≤ 9223372036854775807 then ((f_r05_bit_l1 a1 (((a1 % 8)).toNat + 1) (ch3.toNat : Int) 0).bind fun (y20, k21) => if 0 ≤ y20 ∧ y20 ≤ 9223372036854775807 then some (y20 % 2) else none) else none) else none) else none
set_option maxRecDepth 100000 in
set_option maxHeartbeats 4000000 in
theorem f_r05_bit_spec (a0 : List UInt8) (a1 : Int) (r : Int) (h : f_r05_bit a0 a1 = some r) : SpecX Try.prog 71 #[.string (bsOf a0), .int .i64 a1] .triv (EmpR) (fun v A' N => v = .int .i64 r ∧ A' = EmpR ∧ N = []) := by
  refine enterA Try.func71 rfl Try.ntmps71 rfl ?_
  intro F w hX
  unfold f_r05_bit at h
  refine T.seq (T.region rfl ?_)
  refine TL.run ft_cursitorref05_ok [0] rfl rfl ?_
  refine TL.nil (X.seq (T.seq (T.region rfl ?_)))
  replace h := guard_some h
  obtain ⟨c1, h⟩ := h
  refine TL.run ft_cursitorref05_ok [0, 1] rfl rfl ?_
  refine TL.q rfl .u (Ex.quo rfl rfl (by omega) c1) rfl ?_
  replace h := guard_some h
  obtain ⟨c2, h⟩ := h
  obtain ⟨ch3, hc4, h⟩ := Option.bind_eq_some_iff.1 h
  refine TL.q rfl .u (Ex.sIx rfl rfl ((Int.toNat_of_nonneg c2).symm) Try.underlying9 hc4) rfl ?_
  replace h := guard_some h
  obtain ⟨c5, h⟩ := h
  refine TL.q rfl .u (Ex.conv64 rfl Try.runUnderlying5 Try.runUnderlying3 c5) rfl ?_
  refine TL.run ft_cursitorref05_ok [5] rfl rfl ?_
  refine TL.nil (X.seq (T.seq (T.seq (T.region rfl ?_))))
  refine TL.run ft_cursitorref05_ok [0] rfl rfl ?_
  refine TL.nil (X.seq (T.block ?_))
  obtain ⟨E8, hE9, hO10⟩ := Option.bind_eq_some_iff.1 h
  refine T.lp (fun m e Rs => ∃ (y6 : Int) (k7 : Nat), e = [(1, .int .i64 a1), (4, .int .i64 0), (5, .int .i64 y6), (6, .int .i64 (k7 : Int))] ∧ Rs = [EmpR] ∧ f_r05_bit_l1 a1 m y6 k7 = some E8) (((a1 % 8)).toNat + 1) [0] ⟨(ch3.toNat : Int), 0, rfl, rfl, by exact hE9⟩ (by rfl) (by rfl) ?_
  rintro m11 _ _ ⟨y6, k7, rfl, rfl, hl13⟩
  clear hE9 h
  cases m11 with
  | zero =>
    rw [f_r05_bit_l1] at hl13
    cases hl13
  | succ m11 =>
    have h := hl13
    clear hl13
    rw [f_r05_bit_l1] at h
    refine T.seq (T.seq (T.region rfl ?_))
    replace h := guard_some h
    obtain ⟨c15, h⟩ := h
    refine TL.run ft_cursitorref05_ok [0, 1] rfl rfl ?_
    refine TL.q rfl .u (Ex.rem rfl rfl (by omega) c15) rfl ?_
    refine TL.run ft_cursitorref05_ok [3] rfl rfl ?_
    by_cases c16 : (k7 : Int) < (a1 % 8)
    · replace h := ifT c16 h
      refine TL.nil (X.seq ?_)
      refine T.yes rfl (decide_eq_true c16) ?_
      refine T.skip (X.seq (T.seq (T.block (T.region rfl ?_))))
      replace h := guard_some h
      obtain ⟨c17, h⟩ := h
      refine TL.run ft_cursitorref05_ok [0] rfl rfl ?_
      refine TL.q rfl .u (Ex.quo rfl rfl (by omega) c17) rfl ?_
      refine TL.run ft_cursitorref05_ok [2] rfl rfl ?_
      refine TL.nil (X.blk (X.seq (T.region rfl ?_)))
      replace h := guard_some h
      obtain ⟨c18, h⟩ := h
      refine TL.run ft_cursitorref05_ok [0] rfl rfl ?_
      refine TL.q rfl .u (Ex.add rfl rfl c18) rfl ?_
      refine TL.run ft_cursitorref05_ok [2] rfl rfl ?_
      exact TL.nil (X.back (m' := m11) [0] (by omega) ⟨(y6 / 2), k7 + 1, rfl, rfl, h⟩ (by rfl) (by rfl))
    · replace h := ifF c16 h
      refine TL.nil (X.seq ?_)
      refine T.no rfl (decide_eq_false c16) ?_
      obtain rfl := Option.some.inj h
      replace h := hO10
      clear hO10
      try dsimp only at h
      refine T.exit (X.exs (X.exs (X.ex (X.seq (T.seq (T.region rfl ?_))))))
      replace h := guard_some h
      obtain ⟨c19, h⟩ := h
      refine TL.run ft_cursitorref05_ok [0] rfl rfl ?_
      refine TL.q rfl .u (Ex.rem rfl rfl (by omega) c19) rfl ?_
      refine TL.run ft_cursitorref05_ok [2] rfl rfl ?_
      obtain rfl := Option.some.inj h
      exact TL.nil (X.seq (T.ret (X.done1 [0] Try.results71 (RV.tm rfl) ⟨rfl, rfl, rfl⟩ (by rfl) (.inl rfl))))
def f_r05_power_l1 (a0 : Int) : Nat → Int → Nat → Option (Lp Int (Int × Nat))
  | 0, _, _ => none
  | m7 + 1, y2, k3 => if (k3 : Int) < ([28, 27, 26, 25, 23, 22, 20, 19, 18, 14, 13, 11, 10, 9, 8, 6, 0].length : Int) then (([28, 27, 26, 25, 23, 22, 20, 19, 18, 14, 13, 11, 10, 9, 8, 6, 0][k3]?).bind fun x12 => if x12 = a0 then some (Lp.ret 1) else (if -9223372036854775808 ≤ ((k3 : Int) + 1) ∧ ((k3 : Int) + 1) ≤ 9223372036854775807 then (f_r05_power_l1 a0 m7 y2 (k3 + 1)) else none)) else (some (Lp.go (y2, k3)))
def f_r05_power (a0 : Int) : Option (Int) := (f_r05_power_l1 a0 ((([28, 27, 26, 25, 23, 22, 20, 19, 18, 14, 13, 11, 10, 9, 8, 6, 0].length : Int)).toNat + 1) 0 0).bind fun e => match e with | .ret r => some r | .go (y17, k18) => some 0
set_option maxRecDepth 100000 in
set_option maxHeartbeats 4000000 in
theorem f_r05_power_spec (a0 : Int) (r : Int) (h : f_r05_power a0 = some r) : SpecX Try.prog 72 #[.int .i64 a0] .triv (EmpR) (fun v A' N => v = .int .i64 r ∧ A' = EmpR ∧ N = []) := by
  refine enterA Try.func72 rfl Try.ntmps72 rfl ?_
  intro F w hX
  unfold f_r05_power at h
  refine T.seq (T.region rfl ?_)
  refine TL.run ft_cursitorref05_ok [0] rfl rfl ?_
  refine TL.nil (X.seq (T.seq (T.region rfl ?_)))
  refine TL.lit (cells := #[.int .i64 28, .int .i64 27, .int .i64 26, .int .i64 25, .int .i64 23, .int .i64 22, .int .i64 20, .int .i64 19, .int .i64 18, .int .i64 14, .int .i64 13, .int .i64 11, .int .i64 10, .int .i64 9, .int .i64 8, .int .i64 6, .int .i64 0]) rfl .u sok_cursitorref05_44_17 rfl (by kernel_rfl) rfl (fun b1 => ?_)
  refine TL.rowOf (us := [.int .i64 28, .int .i64 27, .int .i64 26, .int .i64 25, .int .i64 23, .int .i64 22, .int .i64 20, .int .i64 19, .int .i64 18, .int .i64 14, .int .i64 13, .int .i64 11, .int .i64 10, .int .i64 9, .int .i64 8, .int .i64 6, .int .i64 0]) (xs := [28, 27, 26, 25, 23, 22, 20, 19, 18, 14, 13, 11, 10, 9, 8, 6, 0]) (E := intE) (z := 1) rfl (Nat.le_of_ble_eq_true rfl) (fun _ => ⟨rfl, rfl, ⟨rfl, rfl, ⟨rfl, rfl, ⟨rfl, rfl, ⟨rfl, rfl, ⟨rfl, rfl, ⟨rfl, rfl, ⟨rfl, rfl, ⟨rfl, rfl, ⟨rfl, rfl, ⟨rfl, rfl, ⟨rfl, rfl, ⟨rfl, rfl, ⟨rfl, rfl, ⟨rfl, rfl, ⟨rfl, rfl, ⟨rfl, rfl, rfl⟩⟩⟩⟩⟩⟩⟩⟩⟩⟩⟩⟩⟩⟩⟩⟩⟩) ?_
  refine TL.run ft_cursitorref05_ok [1] rfl rfl ?_
  refine TL.nil (X.seq (T.seq (T.seq (T.region rfl ?_))))
  refine TL.run ft_cursitorref05_ok [0] rfl rfl ?_
  refine TL.nil (X.seq (T.block ?_))
  obtain ⟨E4, hE5, hO6⟩ := Option.bind_eq_some_iff.1 h
  refine T.lp (fun m e Rs => ∃ (y2 : Int) (k3 : Nat), e = [(0, .int .i64 a0), (2, .int .i64 y2), (3, .slice (some ⟨b1, 0, none⟩) 17 17), (4, .int .i64 (k3 : Int))] ∧ Rs = [OwnR 3 1 intE (.slice (some ⟨b1, 0, none⟩) 17 17) [28, 27, 26, 25, 23, 22, 20, 19, 18, 14, 13, 11, 10, 9, 8, 6, 0], EmpR] ∧ f_r05_power_l1 a0 m y2 k3 = some E4) ((([28, 27, 26, 25, 23, 22, 20, 19, 18, 14, 13, 11, 10, 9, 8, 6, 0].length : Int)).toNat + 1) [0, 0] ⟨0, 0, rfl, rfl, by exact hE5⟩ (by rfl) (by rfl) ?_
  rintro m7 _ _ ⟨y2, k3, rfl, rfl, hl9⟩
  clear hE5 h
  cases m7 with
  | zero =>
    rw [f_r05_power_l1] at hl9
    cases hl9
  | succ m7 =>
    have h := hl9
    clear hl9
    rw [f_r05_power_l1] at h
    refine T.seq (T.seq (T.region rfl ?_))
    refine TL.run ft_cursitorref05_ok [0, 1] rfl rfl ?_
    refine TL.q rfl .u (Ex.lenS rfl Try.runUnderlying44) rfl ?_
    refine TL.run ft_cursitorref05_ok [3] rfl rfl ?_
    by_cases c11 : (k3 : Int) < ([28, 27, 26, 25, 23, 22, 20, 19, 18, 14, 13, 11, 10, 9, 8, 6, 0].length : Int)
    · replace h := ifT c11 h
      refine TL.nil (X.seq ?_)
      refine T.yes rfl (decide_eq_true c11) ?_
      refine T.skip (X.seq (T.seq (T.block (T.seq (T.region rfl ?_)))))
      obtain ⟨x12, hx13, h⟩ := Option.bind_eq_some_iff.1 h
      refine TL.run ft_cursitorref05_ok [0, 1] rfl rfl ?_
      refine TL.foc (E := intE) (k := k3) 0 rfl (fun w G h => own_reads (by decide) w G h) (by decide) hx13 ?_
      rintro gg oo z14cs hA z14cl ⟨_, _, z14r⟩
      cases hA
      obtain rfl : z14cs = [.int .i64 x12] := z14r
      clear z14cl
      refine TL.sel [0, 0] rfl ?_
      refine TL.q rfl .u (Ex.ixS (k := k3) rfl rfl rfl Try.runUnderlying44 Try.sizeOf3 (List.getElem?_eq_some_iff.1 hx13).1) rfl ?_
      refine TL.q rfl .u (Ex.k1 (cs := [.int .i64 x12]) 0 0 rfl Try.isAgg3 rfl (fun _ _ h => h.2.2.1) rfl) rfl ?_
      refine TL.run ft_cursitorref05_ok [4, 5] rfl rfl ?_
      by_cases c15 : x12 = a0
      · replace h := ifT c15 h
        refine TL.nil (X.seq ?_)
        refine T.yes rfl (decide_eq_true c15) ?_
        refine T.seq (T.region rfl ?_)
        refine TL.run ft_cursitorref05_ok [0] rfl rfl ?_
        obtain rfl := Option.some.inj h
        replace h := hO6
        clear hO6
        try dsimp only at h
        obtain rfl := Option.some.inj h
        exact TL.nil (X.seq (T.ret (X.rb (X.rs (X.rs (X.rb (X.rs (X.done1 [1] Try.results72 (RV.tm rfl) ⟨rfl, rfl, rfl⟩ (by rfl) (.inl rfl)))))))))
      · replace h := ifF c15 h
        refine TL.nil (X.seq ?_)
        refine T.no rfl (decide_eq_false c15) ?_
        refine T.skip (X.blk (X.seq (T.region rfl ?_)))
        replace h := guard_some h
        obtain ⟨c16, h⟩ := h
        refine TL.run ft_cursitorref05_ok [0] rfl rfl ?_
        refine TL.q rfl .u (Ex.add rfl rfl c16) rfl ?_
        refine TL.run ft_cursitorref05_ok [2] rfl rfl ?_
        refine TL.nil ?_
        refine X.unf 0 rfl ?_
        refine X.sel [0, 0] rfl ?_
        exact X.back (m' := m7) [0, 0] (by omega) ⟨y2, k3 + 1, rfl, rfl, h⟩ (by rfl) (by rfl)
    · replace h := ifF c11 h
      refine TL.nil (X.seq ?_)
      refine T.no rfl (decide_eq_false c11) ?_
      obtain rfl := Option.some.inj h
      replace h := hO6
      clear hO6
      try dsimp only at h
      refine T.exit (X.exs (X.exs (X.ex (X.seq (T.seq (T.region rfl ?_))))))
      refine TL.run ft_cursitorref05_ok [0] rfl rfl ?_
      obtain rfl := Option.some.inj h
      exact TL.nil (X.seq (T.ret (X.done1 [1] Try.results72 (RV.tm rfl) ⟨rfl, rfl, rfl⟩ (by rfl) (.inl rfl))))
def f_r05_Sum_l4 (k43 : Nat) : Nat → List Int → Int → Option (List Int × Int)
  | 0, _, _ => none
  | m63 + 1, y56, y59 => if y59 ≤ 32 then (if 0 ≤ ((k43 : Int) + y59) then ((y56[((k43 : Int) + y59).toNat]?).bind fun x69 => if -9223372036854775808 ≤ ((k43 : Int) + y59) ∧ ((k43 : Int) + y59) ≤ 9223372036854775807 then (if -9223372036854775808 ≤ ((k43 : Int) + y59) ∧ ((k43 : Int) + y59) ≤ 9223372036854775807 then (if -9223372036854775808 ≤ (32 - y59) ∧ (32 - y59) ≤ 9223372036854775807 then ((f_r05_power (32 - y59)).bind fun x75 => if -9223372036854775808 ≤ (x69 + x75) ∧ (x69 + x75) ≤ 9223372036854775807 then (if 0 ≤ (x69 + x75) ∧ (x69 + x75) ≤ 9223372036854775807 then (if -9223372036854775808 ≤ (y59 + 1) ∧ (y59 + 1) ≤ 9223372036854775807 then (f_r05_Sum_l4 k43 m63 (y56.set (((k43 : Int) + y59).toNat) ((x69 + x75) % 2)) (y59 + 1)) else none) else none) else none) else none) else none) else none) else none) else some (y56, y59)
def f_r05_Sum_l5 (a0 : List UInt8) (y40 : List Int) : Nat → Int → Int → Option (Int × Int)
  | 0, _, _ => none
  | m92 + 1, y87, y88 => if y88 ≥ 0 then (if -9223372036854775808 ≤ ((8 * (a0.length : Int)) + y88) ∧ ((8 * (a0.length : Int)) + y88) ≤ 9223372036854775807 then (if 0 ≤ ((8 * (a0.length : Int)) + y88) then ((y40[((8 * (a0.length : Int)) + y88).toNat]?).bind fun x99 => if -9223372036854775808 ≤ (1 - x99) ∧ (1 - x99) ≤ 9223372036854775807 then (if -9223372036854775808 ≤ (y88 - 1) ∧ (y88 - 1) ≤ 9223372036854775807 then (f_r05_Sum_l5 a0 y40 m92 (IntKind.u32.wrap ((IntKind.u32.wrap (y87 * 2)) + (IntKind.u32.wrap (1 - x99)))) (y88 - 1)) else none) else none) else none) else none) else some (y87, y88)
def f_r05_Sum_l3 (a0 : List UInt8) : Nat → List Int → Nat → Option (List Int × Nat)
  | 0, _, _ => none
  | m47 + 1, y40, k43 => if (k43 : Int) < (8 * (a0.length : Int)) then ((y40[k43]?).bind fun x52 => if x52 = 1 then ((f_r05_Sum_l4 k43 (((33 : Int) - (1)).toNat + 1) y40 1).bind fun (y81, y84) => if -9223372036854775808 ≤ ((k43 : Int) + 1) ∧ ((k43 : Int) + 1) ≤ 9223372036854775807 then (f_r05_Sum_l3 a0 m47 y81 (k43 + 1)) else none) else (if -9223372036854775808 ≤ ((k43 : Int) + 1) ∧ ((k43 : Int) + 1) ≤ 9223372036854775807 then (f_r05_Sum_l3 a0 m47 y40 (k43 + 1)) else none)) else some (y40, k43)
def f_r05_Sum_l2 : Nat → List Int → Nat → Option (List Int × Nat)
  | 0, _, _ => none
  | m30 + 1, y23, k26 => if (k26 : Int) < 32 then ((y23[k26]?).bind fun x35 => if -9223372036854775808 ≤ (1 - x35) ∧ (1 - x35) ≤ 9223372036854775807 then (if -9223372036854775808 ≤ ((k26 : Int) + 1) ∧ ((k26 : Int) + 1) ≤ 9223372036854775807 then (f_r05_Sum_l2 m30 (y23.set k26 (1 - x35)) (k26 + 1)) else none) else none) else some (y23, k26)
def f_r05_Sum_l1 (a0 : List UInt8) : Nat → List Int → Nat → Option (List Int × Nat)
  | 0, _, _ => none
  | m12 + 1, y5, k8 => if (k8 : Int) < (8 * (a0.length : Int)) then ((f_r05_bit a0 (k8 : Int)).bind fun x17 => (y5[k8]?).bind fun x19 => if -9223372036854775808 ≤ ((k8 : Int) + 1) ∧ ((k8 : Int) + 1) ≤ 9223372036854775807 then (f_r05_Sum_l1 a0 m12 (y5.set k8 x17) (k8 + 1)) else none) else some (y5, k8)
def f_r05_Sum (a0 : List UInt8) : Option (Int) := if -9223372036854775808 ≤ (8 * (a0.length : Int)) ∧ (8 * (a0.length : Int)) ≤ 9223372036854775807 then (if -9223372036854775808 ≤ ((8 * (a0.length : Int)) + 32) ∧ ((8 * (a0.length : Int)) + 32) ≤ 9223372036854775807 then (if 0 ≤ ((8 * (a0.length : Int)) + 32) ∧ 8 * (((8 * (a0.length : Int)) + 32).toNat) ≤ 281474976710656 then ((f_r05_Sum_l1 a0 (((8 * (a0.length : Int))).toNat + 1) (List.replicate (((8 * (a0.length : Int)) + 32).toNat) (0 : Int)) 0).bind fun (y222, k225) => (f_r05_Sum_l2 ((32 : Int).toNat + 1) y222 0).bind fun (y332, k335) => (f_r05_Sum_l3 a0 (((8 * (a0.length : Int))).toNat + 1) y332 0).bind fun (y402, k405) => (f_r05_Sum_l5 a0 y402 (((31 : Int) - (-1)).toNat + 1) 0 31).bind fun (y423, y424) => some y423) else none) else none) else none
set_option maxRecDepth 100000 in
set_option maxHeartbeats 4000000 in
theorem f_r05_Sum_spec (a0 : List UInt8) (r : Int) (h : f_r05_Sum a0 = some r) : SpecX Try.prog 42 #[.string (bsOf a0)] .triv (EmpR) (fun v A' N => v = .int .u32 r ∧ A' = EmpR ∧ N = []) := by
  refine enterA Try.func42 rfl Try.ntmps42 rfl ?_
  intro F w hX
  unfold f_r05_Sum at h
  refine T.seq (T.region rfl ?_)
  refine TL.run ft_cursitorref05_ok [0] rfl rfl ?_
  refine TL.nil (X.seq (T.seq (T.region rfl ?_)))
  refine TL.run ft_cursitorref05_ok [0] rfl rfl ?_
  refine TL.q rfl .u (Ex.lenB rfl Try.runUnderlying9) rfl ?_
  replace h := guard_some h
  obtain ⟨c1, h⟩ := h
  refine TL.q rfl .u (Ex.mul rfl rfl c1) rfl ?_
  refine TL.run ft_cursitorref05_ok [3] rfl rfl ?_
  refine TL.nil (X.seq (T.seq (T.region rfl ?_)))
  replace h := guard_some h
  obtain ⟨c2, h⟩ := h
  refine TL.run ft_cursitorref05_ok [0] rfl rfl ?_
  refine TL.q rfl .u (Ex.add rfl rfl c2) rfl ?_
  replace h := guard_some h
  obtain ⟨c3, h⟩ := h
  refine TL.mk1 (k := ((8 * (a0.length : Int)) + 32).toNat) (v := .int .i64 0) intE (0 : Int) rfl .u Try.underlying44 inf_cursitorref05_3 rfl rfl (Int.toNat_of_nonneg c3.1).symm c3.2 (by have hq := c3.2; omega) (fun _ _ => rfl) rfl (fun b4 => ?_)
  refine TL.run ft_cursitorref05_ok [3] rfl rfl ?_
  refine TL.nil (X.seq (T.seq (T.seq (T.region rfl ?_))))
  refine TL.run ft_cursitorref05_ok [0] rfl rfl ?_
  refine TL.nil (X.seq (T.block ?_))
  obtain ⟨E9, hE10, hO11⟩ := Option.bind_eq_some_iff.1 h
  refine T.lp (fun m e Rs => ∃ (y5 : List Int) (A6 : Option Addr) (c7 : Nat) (k8 : Nat), e = [(0, .string (bsOf a0)), (2, .int .u32 0), (3, .int .i64 (8 * (a0.length : Int))), (4, .slice A6 y5.length c7), (5, .int .i64 (k8 : Int))] ∧ Rs = [OwnR 3 1 intE (.slice A6 y5.length c7) y5, EmpR] ∧ f_r05_Sum_l1 a0 m y5 k8 = some E9) (((8 * (a0.length : Int))).toNat + 1) [0, 0] ⟨(List.replicate (((8 * (a0.length : Int)) + 32).toNat) (0 : Int)), (some ⟨b4, 0, none⟩), (List.replicate (((8 * (a0.length : Int)) + 32).toNat) (0 : Int)).length, 0, rfl, rfl, by exact hE10⟩ (by rfl) (by rfl) ?_
  rintro m12 _ _ ⟨y5, A6, c7, k8, rfl, rfl, hl14⟩
  clear hE10 h
  cases m12 with
  | zero =>
    rw [f_r05_Sum_l1] at hl14
    cases hl14
  | succ m12 =>
    have h := hl14
    clear hl14
    rw [f_r05_Sum_l1] at h
    refine T.seq (T.seq (T.region rfl ?_))
    refine TL.run ft_cursitorref05_ok [0, 1, 2] rfl rfl ?_
    by_cases c16 : (k8 : Int) < (8 * (a0.length : Int))
    · replace h := ifT c16 h
      refine TL.nil (X.seq ?_)
      refine T.yes rfl (decide_eq_true c16) ?_
      refine T.skip (X.seq (T.seq (T.block (T.region rfl ?_))))
      obtain ⟨x17, hx18, h⟩ := Option.bind_eq_some_iff.1 h
      refine TL.run ft_cursitorref05_ok [0, 1, 2, 3] rfl rfl ?_
      refine TL.ce rfl .u (.fn Try.call71 rfl) (f_r05_bit_spec a0 (k8 : Int) _ hx18) (fun _ hs => (RX.reads_triv _ _)) rfl ?_
      obtain ⟨x19, hx20, h⟩ := Option.bind_eq_some_iff.1 h
      refine TL.foc (E := intE) (k := k8) 0 rfl (fun w G h => own_reads (by decide) w G h) (by decide) hx20 ?_
      rintro gz21 oz21 z21cs hA z21cl ⟨_, _, z21r⟩
      cases hA
      obtain rfl : z21cs = [.int .i64 x19] := z21r
      clear z21cl
      refine TL.sel [0, 0] rfl ?_
      refine TL.q rfl .u (Ex.ixS (k := k8) rfl rfl rfl Try.runUnderlying44 Try.sizeOf3 (List.getElem?_eq_some_iff.1 hx20).1) rfl ?_
      refine TL.unf 0 rfl ?_
      refine TL.sel [0, 0] rfl ?_
      refine TL.stE (k := k8) (u := x19) (u' := x17) 0 0 rfl .u rfl rfl Try.sizeOf3 rfl hx20 rfl rfl rfl rfl (fun _ _ _ _ h => by subst h; rfl) ?_
      refine TL.sel [0, 0] rfl ?_
      rw [show y5.length = (y5.set k8 x17).length from (List.length_set ..).symm]
      refine TL.nil (X.blk (X.seq (T.region rfl ?_)))
      replace h := guard_some h
      obtain ⟨c22, h⟩ := h
      refine TL.run ft_cursitorref05_ok [0] rfl rfl ?_
      refine TL.q rfl .u (Ex.add rfl rfl c22) rfl ?_
      refine TL.run ft_cursitorref05_ok [2] rfl rfl ?_
      exact TL.nil (X.back (m' := m12) [0, 0] (by omega) ⟨(y5.set k8 x17), (some ⟨gz21, oz21, none⟩), c7, k8 + 1, rfl, rfl, h⟩ (by rfl) (by rfl))
    · replace h := ifF c16 h
      refine TL.nil (X.seq ?_)
      refine T.no rfl (decide_eq_false c16) ?_
      obtain rfl := Option.some.inj h
      replace h := hO11
      clear hO11
      try dsimp only at h
      refine T.exit (X.exs (X.exs (X.ex (X.seq (T.seq (T.seq (T.region rfl ?_)))))))
      refine TL.run ft_cursitorref05_ok [0] rfl rfl ?_
      refine TL.nil (X.seq (T.block ?_))
      obtain ⟨E27, hE28, hO29⟩ := Option.bind_eq_some_iff.1 h
      refine T.lp (fun m e Rs => ∃ (y23 : List Int) (A24 : Option Addr) (c25 : Nat) (k26 : Nat), e = [(2, .int .u32 0), (3, .int .i64 (8 * (a0.length : Int))), (4, .slice A24 y23.length c25), (6, .int .i64 (k26 : Int))] ∧ Rs = [OwnR 3 1 intE (.slice A24 y23.length c25) y23, EmpR] ∧ f_r05_Sum_l2 m y23 k26 = some E27) ((32 : Int).toNat + 1) [0, 0] ⟨y5, A6, c7, 0, rfl, rfl, by exact hE28⟩ (by rfl) (by rfl) ?_
      rintro m30 _ _ ⟨y23, A24, c25, k26, rfl, rfl, hl32⟩
      clear hE28 h
      cases m30 with
      | zero =>
        rw [f_r05_Sum_l2] at hl32
        cases hl32
      | succ m30 =>
        have h := hl32
        clear hl32
        rw [f_r05_Sum_l2] at h
        refine T.seq (T.seq (T.region rfl ?_))
        refine TL.run ft_cursitorref05_ok [0, 1] rfl rfl ?_
        by_cases c34 : (k26 : Int) < 32
        · replace h := ifT c34 h
          refine TL.nil (X.seq ?_)
          refine T.yes rfl (decide_eq_true c34) ?_
          refine T.skip (X.seq (T.seq (T.block (T.region rfl ?_))))
          obtain ⟨x35, hx36, h⟩ := Option.bind_eq_some_iff.1 h
          refine TL.run ft_cursitorref05_ok [0, 1, 2, 3] rfl rfl ?_
          refine TL.foc (E := intE) (k := k26) 0 rfl (fun w G h => own_reads (by decide) w G h) (by decide) hx36 ?_
          rintro gz37 oz37 z37cs hA z37cl ⟨_, _, z37r⟩
          cases hA
          obtain rfl : z37cs = [.int .i64 x35] := z37r
          clear z37cl
          refine TL.sel [0, 0] rfl ?_
          refine TL.q rfl .u (Ex.ixS (k := k26) rfl rfl rfl Try.runUnderlying44 Try.sizeOf3 (List.getElem?_eq_some_iff.1 hx36).1) rfl ?_
          refine TL.q rfl .u (Ex.k1 (cs := [.int .i64 x35]) 0 0 rfl Try.isAgg3 rfl (fun _ _ h => h.2.2.1) rfl) rfl ?_
          replace h := guard_some h
          obtain ⟨c38, h⟩ := h
          refine TL.q rfl .u (Ex.sub rfl rfl c38) rfl ?_
          refine TL.q rfl .u (Ex.ixS (k := k26) rfl rfl rfl Try.runUnderlying44 Try.sizeOf3 (List.getElem?_eq_some_iff.1 hx36).1) rfl ?_
          refine TL.unf 0 rfl ?_
          refine TL.sel [0, 0] rfl ?_
          refine TL.stE (k := k26) (u := x35) (u' := (1 - x35)) 0 0 rfl .u rfl rfl Try.sizeOf3 rfl hx36 rfl rfl rfl rfl (fun _ _ _ _ h => by subst h; rfl) ?_
          refine TL.sel [0, 0] rfl ?_
          rw [show y23.length = (y23.set k26 (1 - x35)).length from (List.length_set ..).symm]
          refine TL.nil (X.blk (X.seq (T.region rfl ?_)))
          replace h := guard_some h
          obtain ⟨c39, h⟩ := h
          refine TL.run ft_cursitorref05_ok [0] rfl rfl ?_
          refine TL.q rfl .u (Ex.add rfl rfl c39) rfl ?_
          refine TL.run ft_cursitorref05_ok [2] rfl rfl ?_
          exact TL.nil (X.back (m' := m30) [0, 0] (by omega) ⟨(y23.set k26 (1 - x35)), (some ⟨gz37, oz37, none⟩), c25, k26 + 1, rfl, rfl, h⟩ (by rfl) (by rfl))
        · replace h := ifF c34 h
          refine TL.nil (X.seq ?_)
          refine T.no rfl (decide_eq_false c34) ?_
          obtain rfl := Option.some.inj h
          replace h := hO29
          clear hO29
          try dsimp only at h
          refine T.exit (X.exs (X.exs (X.ex (X.seq (T.seq (T.seq (T.region rfl ?_)))))))
          refine TL.run ft_cursitorref05_ok [0] rfl rfl ?_
          refine TL.nil (X.seq (T.block ?_))
          obtain ⟨E44, hE45, hO46⟩ := Option.bind_eq_some_iff.1 h
          refine T.lp (fun m e Rs => ∃ (y40 : List Int) (A41 : Option Addr) (c42 : Nat) (k43 : Nat), e = [(2, .int .u32 0), (3, .int .i64 (8 * (a0.length : Int))), (4, .slice A41 y40.length c42), (7, .int .i64 (k43 : Int))] ∧ Rs = [OwnR 3 1 intE (.slice A41 y40.length c42) y40, EmpR] ∧ f_r05_Sum_l3 a0 m y40 k43 = some E44) (((8 * (a0.length : Int))).toNat + 1) [0, 0] ⟨y23, A24, c25, 0, rfl, rfl, by exact hE45⟩ (by rfl) (by rfl) ?_
          rintro m47 _ _ ⟨y40, A41, c42, k43, rfl, rfl, hl49⟩
          clear hE45 h
          cases m47 with
          | zero =>
            rw [f_r05_Sum_l3] at hl49
            cases hl49
          | succ m47 =>
            have h := hl49
            clear hl49
            rw [f_r05_Sum_l3] at h
            refine T.seq (T.seq (T.region rfl ?_))
            refine TL.run ft_cursitorref05_ok [0, 1, 2] rfl rfl ?_
            by_cases c51 : (k43 : Int) < (8 * (a0.length : Int))
            · replace h := ifT c51 h
              refine TL.nil (X.seq ?_)
              refine T.yes rfl (decide_eq_true c51) ?_
              refine T.skip (X.seq (T.seq (T.block (T.seq (T.region rfl ?_)))))
              obtain ⟨x52, hx53, h⟩ := Option.bind_eq_some_iff.1 h
              refine TL.run ft_cursitorref05_ok [0, 1] rfl rfl ?_
              refine TL.foc (E := intE) (k := k43) 0 rfl (fun w G h => own_reads (by decide) w G h) (by decide) hx53 ?_
              rintro gz54 oz54 z54cs hA z54cl ⟨_, _, z54r⟩
              cases hA
              obtain rfl : z54cs = [.int .i64 x52] := z54r
              clear z54cl
              refine TL.sel [0, 0] rfl ?_
              refine TL.q rfl .u (Ex.ixS (k := k43) rfl rfl rfl Try.runUnderlying44 Try.sizeOf3 (List.getElem?_eq_some_iff.1 hx53).1) rfl ?_
              refine TL.q rfl .u (Ex.k1 (cs := [.int .i64 x52]) 0 0 rfl Try.isAgg3 rfl (fun _ _ h => h.2.2.1) rfl) rfl ?_
              refine TL.run ft_cursitorref05_ok [4] rfl rfl ?_
              by_cases c55 : x52 = 1
              · replace h := ifT c55 h
                refine TL.nil (X.seq ?_)
                refine T.yes rfl (decide_eq_true c55) ?_
                refine T.seq (T.region rfl ?_)
                refine TL.run ft_cursitorref05_ok [0] rfl rfl ?_
                refine TL.nil (X.seq (T.block ?_))
                refine T.unf 0 rfl ?_
                refine T.sel [0, 0] rfl ?_
                obtain ⟨E60, hE61, hO62⟩ := Option.bind_eq_some_iff.1 h
                refine T.lp (fun m e Rs => ∃ (y56 : List Int) (A57 : Option Addr) (c58 : Nat) (y59 : Int), e = [(2, .int .u32 0), (3, .int .i64 (8 * (a0.length : Int))), (4, .slice A57 y56.length c58), (7, .int .i64 (k43 : Int)), (8, .int .i64 y59)] ∧ Rs = [OwnR 3 1 intE (.slice A57 y56.length c58) y56, EmpR] ∧ f_r05_Sum_l4 k43 m y56 y59 = some E60) (((33 : Int) - (1)).toNat + 1) [0, 0] ⟨y40, (some ⟨gz54, oz54, none⟩), c42, 1, rfl, rfl, by exact hE61⟩ (by rfl) (by rfl) ?_
                rintro m63 _ _ ⟨y56, A57, c58, y59, rfl, rfl, hl65⟩
                clear hE61 h
                cases m63 with
                | zero =>
                  rw [f_r05_Sum_l4] at hl65
                  cases hl65
                | succ m63 =>
                  have h := hl65
                  clear hl65
                  rw [f_r05_Sum_l4] at h
                  refine T.seq (T.seq (T.region rfl ?_))
                  refine TL.run ft_cursitorref05_ok [0, 1] rfl rfl ?_
                  by_cases c67 : y59 ≤ 32
                  · replace h := ifT c67 h
                    refine TL.nil (X.seq ?_)
                    refine T.yes rfl (decide_eq_true c67) ?_
                    replace h := guard_some h
                    obtain ⟨c68, h⟩ := h
                    obtain ⟨x69, hx70, h⟩ := Option.bind_eq_some_iff.1 h
                    refine T.skip (X.seq (T.seq (T.block ?_)))
                    refine T.foc (E := intE) (k := ((k43 : Int) + y59).toNat) 0 rfl (fun w G h => own_reads (by decide) w G h) (by decide) hx70 ?_
                    rintro gz71 oz71 z71cs hA z71cl ⟨_, _, z71r⟩
                    cases hA
                    obtain rfl : z71cs = [.int .i64 x69] := z71r
                    clear z71cl
                    refine T.sel [0, 0] rfl ?_
                    replace h := guard_some h
                    obtain ⟨c72, h⟩ := h
                    replace h := guard_some h
                    obtain ⟨c73, h⟩ := h
                    replace h := guard_some h
                    obtain ⟨c74, h⟩ := h
                    obtain ⟨x75, hx76, h⟩ := Option.bind_eq_some_iff.1 h
                    replace h := guard_some h
                    obtain ⟨c77, h⟩ := h
                    replace h := guard_some h
                    obtain ⟨c78, h⟩ := h
                    refine T.join (fun e Rs => e = [(2, .int .u32 0), (3, .int .i64 (8 * (a0.length : Int))), (4, .slice (some ⟨gz71, oz71, none⟩) (y56.set (((k43 : Int) + y59).toNat) ((x69 + x75) % 2)).length c58), (7, .int .i64 (k43 : Int)), (8, .int .i64 y59), (50, .int .i64 y59)] ∧ Rs = [OwnR 3 1 intE (.slice (some ⟨gz71, oz71, none⟩) (y56.set (((k43 : Int) + y59).toNat) ((x69 + x75) % 2)).length c58) (y56.set (((k43 : Int) + y59).toNat) ((x69 + x75) % 2)), EmpR]) ?_ ?_
                    · refine T.draw (.q 0 (.q 1 (.q 2 (.q 3 (.q 4 (.q 5 (.q 6 (.q 7 (.q 8 (.q 10 (.q 11 (.br 9 (.e 12 (.q 13 (.q 14 (.q 15 (.e 16 .nil))))) (.e 12 (.e 9 (.q 13 (.q 14 (.q 15 (.e 16 .nil)))))))))))))))))) [1] rfl mix_cursitorref05 np_jq (by kernel_rfl) ?_
                      refine TD.run ft_cursitorref05_ok [0, 1, 2] rfl rfl ?_
                      refine TD.q rfl .u (Ex.add rfl rfl c72) rfl ?_
                      refine TD.run ft_cursitorref05_ok [4, 5, 6] rfl rfl ?_
                      refine TD.q rfl .u (Ex.add rfl rfl c73) rfl ?_
                      refine TD.q rfl .u (Ex.ixS (k := ((k43 : Int) + y59).toNat) rfl rfl ((Int.toNat_of_nonneg c68).symm) Try.runUnderlying44 Try.sizeOf3 (List.getElem?_eq_some_iff.1 hx70).1) rfl ?_
                      refine TD.run ft_cursitorref05_ok [10] rfl rfl ?_
                      refine TD.q rfl .u (Ex.sub rfl rfl c74) rfl ?_
                      refine TD.br ?_ ?_
                      · refine TD.ny rfl .u (Ex.k1 (cs := [.int .i64 x69]) 0 0 rfl Try.isAgg3 rfl (fun _ _ h => h.2.2.1) rfl) rfl [1] rfl ?_
                        refine TD.ce rfl .u (.fn Try.call72 rfl) (f_r05_power_spec (32 - y59) _ hx76) (fun _ hs => (RX.reads_triv _ _)) rfl [1] (rfl) ?_
                        refine TD.q rfl .u (Ex.add rfl rfl c77) rfl ?_
                        refine TD.q rfl .u (Ex.rem rfl rfl (by omega) c78) rfl ?_
                        refine TD.q rfl .u (Ex.ixS (k := ((k43 : Int) + y59).toNat) rfl rfl ((Int.toNat_of_nonneg c68).symm) Try.runUnderlying44 Try.sizeOf3 (List.getElem?_eq_some_iff.1 hx70).1) rfl ?_
                        refine TD.unf 0 rfl ?_
                        refine TD.sel [0, 0] rfl ?_
                        refine TD.stE (k := ((k43 : Int) + y59).toNat) (u := x69) (u' := ((x69 + x75) % 2)) 0 0 rfl .u rfl rfl Try.sizeOf3 rfl hx70 rfl rfl rfl rfl (fun _ _ _ _ h => by subst h; rfl) [1] (rfl) ?_
                        refine TD.sel [0, 0] rfl ?_
                        rw [show y56.length = (y56.set (((k43 : Int) + y59).toNat) ((x69 + x75) % 2)).length from (List.length_set ..).symm]
                        exact TD.nil (X.jn [0, 0] ⟨rfl, rfl⟩ (by rfl) (by rfl))
                      · refine TD.ce rfl .u (.fn Try.call72 rfl) (f_r05_power_spec (32 - y59) _ hx76) (fun _ hs => (RX.reads_triv _ _)) rfl [1] (rfl) ?_
                        refine TD.ny rfl .u (Ex.k1 (cs := [.int .i64 x69]) 0 0 rfl Try.isAgg3 rfl (fun _ _ h => h.2.2.1) rfl) rfl [1] rfl ?_
                        refine TD.q rfl .u (Ex.add rfl rfl c77) rfl ?_
                        refine TD.q rfl .u (Ex.rem rfl rfl (by omega) c78) rfl ?_
                        refine TD.q rfl .u (Ex.ixS (k := ((k43 : Int) + y59).toNat) rfl rfl ((Int.toNat_of_nonneg c68).symm) Try.runUnderlying44 Try.sizeOf3 (List.getElem?_eq_some_iff.1 hx70).1) rfl ?_
                        refine TD.unf 0 rfl ?_
                        refine TD.sel [0, 0] rfl ?_
                        refine TD.stE (k := ((k43 : Int) + y59).toNat) (u := x69) (u' := ((x69 + x75) % 2)) 0 0 rfl .u rfl rfl Try.sizeOf3 rfl hx70 rfl rfl rfl rfl (fun _ _ _ _ h => by subst h; rfl) [1] (rfl) ?_
                        refine TD.sel [0, 0] rfl ?_
                        rw [show y56.length = (y56.set (((k43 : Int) + y59).toNat) ((x69 + x75) % 2)).length from (List.length_set ..).symm]
                        exact TD.nil (X.jn [0, 0] ⟨rfl, rfl⟩ (by rfl) (by rfl))
                    · rintro _ _ ⟨rfl, rfl⟩
                      refine X.blk (X.seq (T.region rfl ?_))
                      replace h := guard_some h
                      obtain ⟨c79, h⟩ := h
                      refine TL.run ft_cursitorref05_ok [0] rfl rfl ?_
                      refine TL.q rfl .u (Ex.add rfl rfl c79) rfl ?_
                      refine TL.run ft_cursitorref05_ok [2] rfl rfl ?_
                      exact TL.nil (X.back (m' := m63) [0, 0] (by omega) ⟨(y56.set (((k43 : Int) + y59).toNat) ((x69 + x75) % 2)), (some ⟨gz71, oz71, none⟩), c58, (y59 + 1), rfl, rfl, h⟩ (by rfl) (by rfl))
                  · replace h := ifF c67 h
                    refine TL.nil (X.seq ?_)
                    refine T.no rfl (decide_eq_false c67) ?_
                    obtain rfl := Option.some.inj h
                    replace h := hO62
                    clear hO62
                    try dsimp only at h
                    refine T.exit (X.exs (X.exs (X.ex (X.blk (X.seq (T.region rfl ?_))))))
                    replace h := guard_some h
                    obtain ⟨c80, h⟩ := h
                    refine TL.run ft_cursitorref05_ok [0] rfl rfl ?_
                    refine TL.q rfl .u (Ex.add rfl rfl c80) rfl ?_
                    refine TL.run ft_cursitorref05_ok [2] rfl rfl ?_
                    exact TL.nil (X.back (m' := m47) [0, 0] (by omega) ⟨y56, A57, c58, k43 + 1, rfl, rfl, h⟩ (by rfl) (by rfl))
              · replace h := ifF c55 h
                refine TL.nil (X.seq ?_)
                refine T.no rfl (decide_eq_false c55) ?_
                refine T.skip (X.blk (X.seq (T.region rfl ?_)))
                replace h := guard_some h
                obtain ⟨c86, h⟩ := h
                refine TL.run ft_cursitorref05_ok [0] rfl rfl ?_
                refine TL.q rfl .u (Ex.add rfl rfl c86) rfl ?_
                refine TL.run ft_cursitorref05_ok [2] rfl rfl ?_
                refine TL.nil ?_
                refine X.unf 0 rfl ?_
                refine X.sel [0, 0] rfl ?_
                exact X.back (m' := m47) [0, 0] (by omega) ⟨y40, (some ⟨gz54, oz54, none⟩), c42, k43 + 1, rfl, rfl, h⟩ (by rfl) (by rfl)
            · replace h := ifF c51 h
              refine TL.nil (X.seq ?_)
              refine T.no rfl (decide_eq_false c51) ?_
              obtain rfl := Option.some.inj h
              replace h := hO46
              clear hO46
              try dsimp only at h
              refine T.exit (X.exs (X.exs (X.ex (X.seq (T.seq (T.region rfl ?_))))))
              refine TL.run ft_cursitorref05_ok [0] rfl rfl ?_
              refine TL.nil (X.seq (T.seq (T.seq (T.region rfl ?_))))
              refine TL.run ft_cursitorref05_ok [0] rfl rfl ?_
              refine TL.nil (X.seq (T.block ?_))
              obtain ⟨E89, hE90, hO91⟩ := Option.bind_eq_some_iff.1 h
              refine T.lp (fun m e Rs => ∃ (y87 : Int) (y88 : Int), e = [(2, .int .u32 0), (3, .int .i64 (8 * (a0.length : Int))), (4, .slice A41 y40.length c42), (9, .int .u32 y87), (10, .int .i64 y88)] ∧ Rs = [OwnR 3 1 intE (.slice A41 y40.length c42) y40, EmpR] ∧ f_r05_Sum_l5 a0 y40 m y87 y88 = some E89) (((31 : Int) - (-1)).toNat + 1) [0, 0] ⟨0, 31, rfl, rfl, by exact hE90⟩ (by rfl) (by rfl) ?_
              rintro m92 _ _ ⟨y87, y88, rfl, rfl, hl94⟩
              clear hE90 h
              cases m92 with
              | zero =>
                rw [f_r05_Sum_l5] at hl94
                cases hl94
              | succ m92 =>
                have h := hl94
                clear hl94
                rw [f_r05_Sum_l5] at h
                refine T.seq (T.seq (T.region rfl ?_))
                refine TL.run ft_cursitorref05_ok [0, 1] rfl rfl ?_
                by_cases c96 : y88 ≥ 0
                · replace h := ifT c96 h
                  refine TL.nil (X.seq ?_)
                  refine T.yes rfl (decide_eq_true c96) ?_
                  refine T.skip (X.seq (T.seq (T.block (T.region rfl ?_))))
                  refine TL.run ft_cursitorref05_ok [0] rfl rfl ?_
                  refine TL.q rfl .u (Ex.mulw rfl rfl) rfl ?_
                  replace h := guard_some h
                  obtain ⟨c97, h⟩ := h
                  refine TL.run ft_cursitorref05_ok [2, 3, 4] rfl rfl ?_
                  refine TL.q rfl .u (Ex.add rfl rfl c97) rfl ?_
                  replace h := guard_some h
                  obtain ⟨c98, h⟩ := h
                  obtain ⟨x99, hx100, h⟩ := Option.bind_eq_some_iff.1 h
                  refine TL.foc (E := intE) (k := ((8 * (a0.length : Int)) + y88).toNat) 0 rfl (fun w G h => own_reads (by decide) w G h) (by decide) hx100 ?_
                  rintro gz101 oz101 z101cs hA z101cl ⟨_, _, z101r⟩
                  cases hA
                  obtain rfl : z101cs = [.int .i64 x99] := z101r
                  clear z101cl
                  refine TL.sel [0, 0] rfl ?_
                  refine TL.q rfl .u (Ex.ixS (k := ((8 * (a0.length : Int)) + y88).toNat) rfl rfl ((Int.toNat_of_nonneg c98).symm) Try.runUnderlying44 Try.sizeOf3 (List.getElem?_eq_some_iff.1 hx100).1) rfl ?_
                  refine TL.q rfl .u (Ex.k1 (cs := [.int .i64 x99]) 0 0 rfl Try.isAgg3 rfl (fun _ _ h => h.2.2.1) rfl) rfl ?_
                  replace h := guard_some h
                  obtain ⟨c102, h⟩ := h
                  refine TL.q rfl .u (Ex.sub rfl rfl c102) rfl ?_
                  refine TL.q rfl .u (Ex.conv rfl Try.runUnderlying3 Try.runUnderlying94) rfl ?_
                  refine TL.q rfl .u (Ex.addw rfl rfl) rfl ?_
                  refine TL.run ft_cursitorref05_ok [11] rfl rfl ?_
                  refine TL.nil (X.blk (X.seq (T.region rfl ?_)))
                  replace h := guard_some h
                  obtain ⟨c103, h⟩ := h
                  refine TL.run ft_cursitorref05_ok [0] rfl rfl ?_
                  refine TL.q rfl .u (Ex.sub rfl rfl c103) rfl ?_
                  refine TL.run ft_cursitorref05_ok [2] rfl rfl ?_
                  refine TL.nil ?_
                  refine X.unf 0 rfl ?_
                  refine X.sel [0, 0] rfl ?_
                  exact X.back (m' := m92) [0, 0] (by omega) ⟨(IntKind.u32.wrap ((IntKind.u32.wrap (y87 * 2)) + (IntKind.u32.wrap (1 - x99)))), (y88 - 1), rfl, rfl, h⟩ (by rfl) (by rfl)
                · replace h := ifF c96 h
                  refine TL.nil (X.seq ?_)
                  refine T.no rfl (decide_eq_false c96) ?_
                  obtain rfl := Option.some.inj h
                  replace h := hO91
                  clear hO91
                  try dsimp only at h
                  refine T.exit (X.exs (X.exs (X.ex (X.seq (T.seq (T.region rfl ?_))))))
                  refine TL.run ft_cursitorref05_ok [0, 1] rfl rfl ?_
                  obtain rfl := Option.some.inj h
                  exact TL.nil (X.seq (T.ret (X.done1 [1] Try.results42 (RV.tm rfl) ⟨rfl, rfl, rfl⟩ (by rfl) (.inl rfl))))
end Go.Proofs.Ytahjmpipllajcaa.Sl
namespace Go.Proofs.Ytahjmpipllajcaa.Sl
open Go.RowKit
set_option linter.unusedVariables false
set_option linter.unusedSimpArgs false
set_option maxRecDepth 100000
def ft_cursitorref06 : FTab := [(80, 0, 0), (80, 1, 1), (85, 0, 0), (85, 1, 1)]
theorem ft_cursitorref06_ok : (ft_cursitorref06).OK Try.prog := ⟨FOK.mk Try.runUnderlying80 rfl Try.sizeOf4 rfl, FOK.mk Try.runUnderlying80 rfl Try.sizeOf9 rfl, FOK.mk Try.runUnderlying85 rfl Try.sizeOf9 rfl, FOK.mk Try.runUnderlying85 rfl Try.sizeOf80 rfl, trivial⟩
theorem mix_cursitorref06 : Try.prog.follows .mixedOrders = true := by kernel_rfl
theorem bok_cursitorref06_80 : BOK Try.prog 80 #[.bool false, .string ⟨#[]⟩] [(0, 1), (1, 1)] := BOK.mk Try.zeroValue80 Try.runUnderlying80 (by intro w; simp)
def f_r06_Right_l1 (a0 : List Hd) : Nat → Bool → Nat → Option (Lp Bool (Bool × Nat))
  | 0, _, _ => none
  | m8 + 1, y3, k4 => if (k4 : Int) < (a0.length : Int) then ((a0[k4]?).bind fun x13 => if x13.fValue.null = true then (if x13.fValue.data = [] then (if -9223372036854775808 ≤ ((k4 : Int) + 1) ∧ ((k4 : Int) + 1) ≤ 9223372036854775807 then (f_r06_Right_l1 a0 m8 y3 (k4 + 1)) else none) else some (Lp.ret false)) else (if -9223372036854775808 ≤ ((k4 : Int) + 1) ∧ ((k4 : Int) + 1) ≤ 9223372036854775807 then (f_r06_Right_l1 a0 m8 y3 (k4 + 1)) else none)) else (some (Lp.go (y3, k4)))
def f_r06_Right (a0 : List Hd) : Option (Bool) := (f_r06_Right_l1 a0 (((a0.length : Int)).toNat + 1) false 0).bind fun e => match e with | .ret r => some r | .go (y20, k21) => some true
set_option maxRecDepth 100000 in
set_option maxHeartbeats 4000000 in
theorem f_r06_Right_spec (a0 : List Hd) (A1 : Option Addr) (c2 : Nat) (r : Bool) (h : f_r06_Right a0 = some r) : SpecX Try.prog 62 #[.slice A1 a0.length c2] (RX.of (sliceRd 3 Hd_rd) [.slice A1 a0.length c2] a0) (EmpR) (fun v A' N => v = .bool r ∧ A' = EmpR ∧ N = []) := by
  refine enterA Try.func62 rfl Try.ntmps62 rfl ?_
  intro F w hX
  unfold f_r06_Right at h
  refine T.seq (T.region rfl ?_)
  refine TL.run ft_cursitorref06_ok [0] rfl rfl ?_
  refine TL.nil (X.seq (T.seq (T.seq (T.region rfl ?_))))
  refine TL.run ft_cursitorref06_ok [0] rfl rfl ?_
  refine TL.nil (X.seq (T.block ?_))
  obtain ⟨E5, hE6, hO7⟩ := Option.bind_eq_some_iff.1 h
  refine T.lp (fun m e Rs => ∃ (y3 : Bool) (k4 : Nat), e = [(0, .slice A1 a0.length c2), (2, .bool y3), (3, .int .i64 (k4 : Int))] ∧ Rs = [EmpR] ∧ f_r06_Right_l1 a0 m y3 k4 = some E5) (((a0.length : Int)).toNat + 1) [0] ⟨false, 0, rfl, rfl, by exact hE6⟩ (by rfl) (by rfl) ?_
  rintro m8 _ _ ⟨y3, k4, rfl, rfl, hl10⟩
  clear hE6 h
  cases m8 with
  | zero =>
    rw [f_r06_Right_l1] at hl10
    cases hl10
  | succ m8 =>
    have h := hl10
    clear hl10
    rw [f_r06_Right_l1] at h
    refine T.seq (T.seq (T.region rfl ?_))
    refine TL.run ft_cursitorref06_ok [0, 1] rfl rfl ?_
    refine TL.q rfl .u (Ex.lenS rfl Try.runUnderlying81) rfl ?_
    refine TL.run ft_cursitorref06_ok [3] rfl rfl ?_
    by_cases c12 : (k4 : Int) < (a0.length : Int)
    · replace h := ifT c12 h
      refine TL.nil (X.seq ?_)
      refine T.yes rfl (decide_eq_true c12) ?_
      refine T.skip (X.seq (T.seq (T.block (T.seq (T.region rfl ?_)))))
      obtain ⟨x13, hx14, h⟩ := Option.bind_eq_some_iff.1 h
      obtain ⟨gz15, oz15, rfl, z15cs, z15cl, z15cc, z15nf, z15r⟩ := RX.elem (by decide) hX hx14
      obtain ⟨z15S, z15r, z15rr⟩ := z15r
      obtain rfl : z15cs = [.string (bsOf x13.fKey), .bool x13.fValue.null, .string (bsOf x13.fValue.data)] := z15r
      refine TL.run ft_cursitorref06_ok [0, 1] rfl rfl ?_
      refine TL.q rfl .u (Ex.ixS (k := k4) rfl rfl rfl Try.runUnderlying81 Try.sizeOf85 (List.getElem?_eq_some_iff.1 hx14).1) rfl ?_
      refine TL.run ft_cursitorref06_ok [3, 4] rfl rfl ?_
      refine TL.q rfl .u (Ex.o1 1 rfl Try.isAgg4 z15nf z15cc rfl rfl) rfl ?_
      by_cases c16 : x13.fValue.null = true
      · replace h := ifT c16 h
        refine TL.run ft_cursitorref06_ok [6] rfl rfl ?_
        refine TL.q rfl (.g rfl rfl c16) (Ex.ft ft_cursitorref06_ok rfl) rfl ?_
        refine TL.q rfl (.g rfl rfl c16) (Ex.ft ft_cursitorref06_ok rfl) rfl ?_
        refine TL.q rfl (.g rfl rfl c16) (Ex.ixS (k := k4) rfl rfl rfl Try.runUnderlying81 Try.sizeOf85 (List.getElem?_eq_some_iff.1 hx14).1) rfl ?_
        refine TL.q rfl (.g rfl rfl c16) (Ex.ft ft_cursitorref06_ok rfl) rfl ?_
        refine TL.q rfl (.g rfl rfl c16) (Ex.ft ft_cursitorref06_ok rfl) rfl ?_
        refine TL.q rfl (.g rfl rfl c16) (Ex.o1 2 rfl Try.isAgg9 z15nf z15cc rfl rfl) rfl ?_
        refine TL.q rfl (.g rfl rfl c16) (Ex.sNe rfl (m := []) rfl) rfl ?_
        refine TL.q rfl .u (Ex.py rfl c16 rfl) rfl ?_
        by_cases c17 : x13.fValue.data = []
        · replace h := ifT c17 h
          refine TL.nil (X.seq ?_)
          refine T.no rfl (bn_f (decide_eq_true c17)) ?_
          refine T.skip (X.blk (X.seq (T.region rfl ?_)))
          replace h := guard_some h
          obtain ⟨c18, h⟩ := h
          refine TL.run ft_cursitorref06_ok [0] rfl rfl ?_
          refine TL.q rfl .u (Ex.add rfl rfl c18) rfl ?_
          refine TL.run ft_cursitorref06_ok [2] rfl rfl ?_
          exact TL.nil (X.back (m' := m8) [0] (by omega) ⟨y3, k4 + 1, rfl, rfl, h⟩ (by rfl) (by rfl))
        · replace h := ifF c17 h
          refine TL.nil (X.seq ?_)
          refine T.yes rfl (bn_t (decide_eq_false c17)) ?_
          refine T.seq (T.region rfl ?_)
          refine TL.run ft_cursitorref06_ok [0] rfl rfl ?_
          obtain rfl := Option.some.inj h
          replace h := hO7
          clear hO7
          try dsimp only at h
          obtain rfl := Option.some.inj h
          exact TL.nil (X.seq (T.ret (X.rb (X.rs (X.rs (X.rb (X.rs (X.done1 [0] Try.results62 (RV.tm rfl) ⟨rfl, rfl, rfl⟩ (by rfl) (.inl rfl)))))))))
      · replace h := ifF c16 h
        replace c16 := eq_false_of_ne_true c16
        refine TL.run ft_cursitorref06_ok [6] rfl rfl ?_
        refine TL.no rfl (.gn rfl rfl c16) rfl ?_
        refine TL.no rfl (.gn rfl rfl c16) rfl ?_
        refine TL.no rfl (.gn rfl rfl c16) rfl ?_
        refine TL.no rfl (.gn rfl rfl c16) rfl ?_
        refine TL.no rfl (.gn rfl rfl c16) rfl ?_
        refine TL.no rfl (.gn rfl rfl c16) rfl ?_
        refine TL.no rfl (.gn rfl rfl c16) rfl ?_
        refine TL.q rfl .u (Ex.pn rfl c16 rfl) rfl ?_
        refine TL.nil (X.seq ?_)
        refine T.no rfl rfl ?_
        refine T.skip (X.blk (X.seq (T.region rfl ?_)))
        replace h := guard_some h
        obtain ⟨c19, h⟩ := h
        refine TL.run ft_cursitorref06_ok [0] rfl rfl ?_
        refine TL.q rfl .u (Ex.add rfl rfl c19) rfl ?_
        refine TL.run ft_cursitorref06_ok [2] rfl rfl ?_
        exact TL.nil (X.back (m' := m8) [0] (by omega) ⟨y3, k4 + 1, rfl, rfl, h⟩ (by rfl) (by rfl))
    · replace h := ifF c12 h
      refine TL.nil (X.seq ?_)
      refine T.no rfl (decide_eq_false c12) ?_
      obtain rfl := Option.some.inj h
      replace h := hO7
      clear hO7
      try dsimp only at h
      refine T.exit (X.exs (X.exs (X.ex (X.seq (T.seq (T.region rfl ?_))))))
      refine TL.run ft_cursitorref06_ok [0] rfl rfl ?_
      obtain rfl := Option.some.inj h
      exact TL.nil (X.seq (T.ret (X.done1 [0] Try.results62 (RV.tm rfl) ⟨rfl, rfl, rfl⟩ (by rfl) (.inl rfl))))
def f_r06_Int (a0 : Int) : Option (List UInt8) := (gRFold a0).bind fun x1 => (gRPut x1).bind fun x3 => some x3
set_option maxRecDepth 100000 in
set_option maxHeartbeats 4000000 in
theorem f_r06_Int_spec (a0 : Int) (r : List UInt8) (h : f_r06_Int a0 = some r) : SpecX Try.prog 66 #[.int .i64 a0] .triv (EmpR) (fun v A' N => v = .string (bsOf r) ∧ A' = EmpR ∧ N = []) := by
  refine enterA Try.func66 rfl Try.ntmps66 rfl ?_
  intro F w hX
  unfold f_r06_Int at h
  refine T.seq (T.region rfl ?_)
  refine TL.run ft_cursitorref06_ok [0] rfl rfl ?_
  refine TL.nil (X.seq (T.seq (T.region rfl ?_)))
  obtain ⟨x1, hx2, h⟩ := Option.bind_eq_some_iff.1 h
  refine TL.run ft_cursitorref06_ok [0] rfl rfl ?_
  refine TL.ce rfl .u (.fn Try.call91 rfl) (SpecX.pure (fun w => gRFold_spec a0 _ hx2 w)) (fun _ _ => RX.reads_triv _ _) rfl ?_
  obtain ⟨x3, hx4, h⟩ := Option.bind_eq_some_iff.1 h
  refine TL.ce rfl .u (.fn Try.call90 rfl) (gRPut_spec x1 _ hx4) (fun _ hs => (RX.reads_triv _ _)) rfl ?_
  refine TL.run ft_cursitorref06_ok [3] rfl rfl ?_
  obtain rfl := Option.some.inj h
  exact TL.nil (X.seq (T.ret (X.done1 [0] Try.results66 (RV.tm rfl) ⟨rfl, rfl, rfl⟩ (by rfl) (.inl rfl))))
def f_r06_Write_l1 (a0 : List Hd) : Nat → List UInt8 → Nat → Option (List UInt8 × Nat)
  | 0, _, _ => none
  | m10 + 1, y5, k6 => if (k6 : Int) < (a0.length : Int) then ((a0[k6]?).bind fun x15 => (gRBVaried (⟨false, x15.fKey⟩ : Bl)).bind fun x18 => if y5.length + x18.length ≤ 9223372036854775807 then ((gRBVaried x15.fValue).bind fun x21 => if (y5 ++ x18).length + x21.length ≤ 9223372036854775807 then (if -9223372036854775808 ≤ ((k6 : Int) + 1) ∧ ((k6 : Int) + 1) ≤ 9223372036854775807 then (f_r06_Write_l1 a0 m10 ((y5 ++ x18) ++ x21) (k6 + 1)) else none) else none) else none) else some (y5, k6)
def f_r06_Write (a0 : List Hd) : Option (List UInt8) := (f_r06_Int (a0.length : Int)).bind fun x3 => (f_r06_Write_l1 a0 (((a0.length : Int)).toNat + 1) x3 0).bind fun (y25, k26) => some y25
set_option maxRecDepth 100000 in
set_option maxHeartbeats 4000000 in
theorem f_r06_Write_spec (a0 : List Hd) (A1 : Option Addr) (c2 : Nat) (r : List UInt8) (h : f_r06_Write a0 = some r) : SpecX Try.prog 68 #[.slice A1 a0.length c2] (RX.of (sliceRd 3 Hd_rd) [.slice A1 a0.length c2] a0) (EmpR) (fun v A' N => v = .string (bsOf r) ∧ A' = EmpR ∧ N = []) := by
  refine enterA Try.func68 rfl Try.ntmps68 rfl ?_
  intro F w hX
  unfold f_r06_Write at h
  refine T.seq (T.region rfl ?_)
  refine TL.run ft_cursitorref06_ok [0] rfl rfl ?_
  refine TL.nil (X.seq (T.seq (T.region rfl ?_)))
  refine TL.run ft_cursitorref06_ok [0] rfl rfl ?_
  refine TL.q rfl .u (Ex.lenS rfl Try.runUnderlying81) rfl ?_
  obtain ⟨x3, hx4, h⟩ := Option.bind_eq_some_iff.1 h
  refine TL.ce rfl .u (.fn Try.call66 rfl) (f_r06_Int_spec (a0.length : Int) _ hx4) (fun _ hs => (RX.reads_triv _ _)) rfl ?_
  refine TL.run ft_cursitorref06_ok [3] rfl rfl ?_
  refine TL.nil (X.seq (T.seq (T.seq (T.region rfl ?_))))
  refine TL.run ft_cursitorref06_ok [0] rfl rfl ?_
  refine TL.nil (X.seq (T.block ?_))
  obtain ⟨E7, hE8, hO9⟩ := Option.bind_eq_some_iff.1 h
  refine T.lp (fun m e Rs => ∃ (y5 : List UInt8) (k6 : Nat), e = [(0, .slice A1 a0.length c2), (2, .string ⟨#[]⟩), (3, .string (bsOf y5)), (4, .int .i64 (k6 : Int))] ∧ Rs = [EmpR] ∧ f_r06_Write_l1 a0 m y5 k6 = some E7) (((a0.length : Int)).toNat + 1) [0] ⟨x3, 0, rfl, rfl, by exact hE8⟩ (by rfl) (by rfl) ?_
  rintro m10 _ _ ⟨y5, k6, rfl, rfl, hl12⟩
  clear hE8 h
  cases m10 with
  | zero =>
    rw [f_r06_Write_l1] at hl12
    cases hl12
  | succ m10 =>
    have h := hl12
    clear hl12
    rw [f_r06_Write_l1] at h
    refine T.seq (T.seq (T.region rfl ?_))
    refine TL.run ft_cursitorref06_ok [0, 1] rfl rfl ?_
    refine TL.q rfl .u (Ex.lenS rfl Try.runUnderlying81) rfl ?_
    refine TL.run ft_cursitorref06_ok [3] rfl rfl ?_
    by_cases c14 : (k6 : Int) < (a0.length : Int)
    · replace h := ifT c14 h
      refine TL.nil (X.seq ?_)
      refine T.yes rfl (decide_eq_true c14) ?_
      refine T.skip (X.seq (T.seq (T.block (T.draw (.q 0 (.q 1 (.q 2 (.q 3 (.q 4 (.q 5 (.q 6 (.q 9 (.q 10 (.q 11 (.q 12 (.q 13 (.e 7 (.q 8 (.e 14 (.q 15 (.q 16 .nil))))))))))))))))) [0] rfl mix_cursitorref06 (NoP.blk (NoP.seq (NoP.seq (NoP.blk (NoP.seq np_post))))) (by kernel_rfl) ?_))))
      obtain ⟨x15, hx16, h⟩ := Option.bind_eq_some_iff.1 h
      obtain ⟨gz17, oz17, rfl, z17cs, z17cl, z17cc, z17nf, z17r⟩ := RX.elem (by decide) hX hx16
      obtain ⟨z17S, z17r, z17rr⟩ := z17r
      obtain rfl : z17cs = [.string (bsOf x15.fKey), .bool x15.fValue.null, .string (bsOf x15.fValue.data)] := z17r
      refine TD.run ft_cursitorref06_ok [0, 1, 2] rfl rfl ?_
      refine TD.q rfl .u (Ex.ixS (k := k6) rfl rfl rfl Try.runUnderlying81 Try.sizeOf85 (List.getElem?_eq_some_iff.1 hx16).1) rfl ?_
      refine TD.run ft_cursitorref06_ok [4] rfl rfl ?_
      refine TD.q rfl .u (Ex.o1 0 rfl Try.isAgg9 z17nf z17cc rfl rfl) rfl ?_
      refine TD.q rfl .u (Ex.bld (cells := #[.bool false, .string (bsOf x15.fKey)]) bok_cursitorref06_80 rfl (by kernel_rfl)) rfl ?_
      refine TD.run ft_cursitorref06_ok [9, 10] rfl rfl ?_
      refine TD.q rfl .u (Ex.ixS (k := k6) rfl rfl rfl Try.runUnderlying81 Try.sizeOf85 (List.getElem?_eq_some_iff.1 hx16).1) rfl ?_
      refine TD.run ft_cursitorref06_ok [12] rfl rfl ?_
      refine TD.q rfl .u (Ex.oS (us := [.bool x15.fValue.null, .string (bsOf x15.fValue.data)]) 1 rfl Try.isAgg80 Try.sizeOf80 z17nf z17cc rfl rfl rfl) rfl ?_
      obtain ⟨x18, hx19, h⟩ := Option.bind_eq_some_iff.1 h
      refine TD.ce rfl .u (.fn Try.call67 rfl) (gRBVaried_spec (⟨false, x15.fKey⟩ : Bl) _ hx19) (fun _ hs => (RX.reads_triv _ _)) rfl [0] (rfl) ?_
      replace h := guard_some h
      obtain ⟨c20, h⟩ := h
      refine TD.q rfl .u (Ex.sAdd rfl rfl c20) rfl ?_
      obtain ⟨x21, hx22, h⟩ := Option.bind_eq_some_iff.1 h
      refine TD.ce rfl .u (.fn Try.call67 rfl) (gRBVaried_spec x15.fValue _ hx22) (fun _ hs => (RX.reads_triv _ _)) rfl [0] (rfl) ?_
      replace h := guard_some h
      obtain ⟨c23, h⟩ := h
      refine TD.q rfl .u (Ex.sAdd rfl rfl c23) rfl ?_
      refine TD.run ft_cursitorref06_ok [16] rfl rfl ?_
      refine TD.nil (X.blk (X.seq (T.region rfl ?_)))
      replace h := guard_some h
      obtain ⟨c24, h⟩ := h
      refine TL.run ft_cursitorref06_ok [0] rfl rfl ?_
      refine TL.q rfl .u (Ex.add rfl rfl c24) rfl ?_
      refine TL.run ft_cursitorref06_ok [2] rfl rfl ?_
      exact TL.nil (X.back (m' := m10) [0] (by omega) ⟨((y5 ++ x18) ++ x21), k6 + 1, rfl, rfl, h⟩ (by rfl) (by rfl))
    · replace h := ifF c14 h
      refine TL.nil (X.seq ?_)
      refine T.no rfl (decide_eq_false c14) ?_
      obtain rfl := Option.some.inj h
      replace h := hO9
      clear hO9
      try dsimp only at h
      refine T.exit (X.exs (X.exs (X.ex (X.seq (T.seq (T.region rfl ?_))))))
      refine TL.run ft_cursitorref06_ok [0, 1] rfl rfl ?_
      obtain rfl := Option.some.inj h
      exact TL.nil (X.seq (T.ret (X.done1 [0] Try.results68 (RV.tm rfl) ⟨rfl, rfl, rfl⟩ (by rfl) (.inl rfl))))
end Go.Proofs.Ytahjmpipllajcaa.Sl
