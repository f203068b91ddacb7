/- wholeTorn_holds: part 3. -/
import Derived.Test.YtahjmpipllajcaaK2
namespace Go.Proofs.Ytahjmpipllajcaa.Sl
open Go.RowKit
set_option linter.unusedVariables false
set_option linter.unusedSimpArgs false
set_option maxRecDepth 100000
def ft_batch : FTab := [(36, 0, 0), (36, 1, 1), (36, 2, 2), (36, 3, 3), (36, 4, 4), (36, 5, 5), (36, 6, 6), (36, 7, 7), (36, 8, 8), (36, 9, 9), (36, 10, 10), (36, 11, 11), (83, 0, 0), (83, 1, 1), (105, 0, 0), (105, 1, 1), (105, 2, 2), (105, 3, 3), (105, 4, 4), (105, 5, 5), (105, 6, 6), (105, 7, 7), (105, 8, 8), (105, 9, 9), (105, 10, 10), (105, 11, 11)]
theorem ft_batch_ok : (ft_batch).OK Try.prog := ⟨FOK.mk Try.runUnderlying36 rfl Try.sizeOf3 rfl, FOK.mk Try.runUnderlying36 rfl Try.sizeOf3 rfl, FOK.mk Try.runUnderlying36 rfl Try.sizeOf4 rfl, FOK.mk Try.runUnderlying36 rfl Try.sizeOf4 rfl, FOK.mk Try.runUnderlying36 rfl Try.sizeOf4 rfl, FOK.mk Try.runUnderlying36 rfl Try.sizeOf3 rfl, FOK.mk Try.runUnderlying36 rfl Try.sizeOf3 rfl, FOK.mk Try.runUnderlying36 rfl Try.sizeOf3 rfl, FOK.mk Try.runUnderlying36 rfl Try.sizeOf3 rfl, FOK.mk Try.runUnderlying36 rfl Try.sizeOf3 rfl, FOK.mk Try.runUnderlying36 rfl Try.sizeOf3 rfl, FOK.mk Try.runUnderlying36 rfl Try.sizeOf34 rfl, FOK.mk Try.runUnderlying83 rfl Try.sizeOf3 rfl, FOK.mk Try.runUnderlying83 rfl Try.sizeOf3 rfl, FOK.mk Try.runUnderlying105 rfl Try.sizeOf3 rfl, FOK.mk Try.runUnderlying105 rfl Try.sizeOf3 rfl, FOK.mk Try.runUnderlying105 rfl Try.sizeOf3 rfl, FOK.mk Try.runUnderlying105 rfl Try.sizeOf3 rfl, FOK.mk Try.runUnderlying105 rfl Try.sizeOf3 rfl, FOK.mk Try.runUnderlying105 rfl Try.sizeOf3 rfl, FOK.mk Try.runUnderlying105 rfl Try.sizeOf3 rfl, FOK.mk Try.runUnderlying105 rfl Try.sizeOf3 rfl, FOK.mk Try.runUnderlying105 rfl Try.sizeOf3 rfl, FOK.mk Try.runUnderlying105 rfl Try.sizeOf3 rfl, FOK.mk Try.runUnderlying105 rfl Try.sizeOf3 rfl, FOK.mk Try.runUnderlying105 rfl Try.sizeOf3 rfl, trivial⟩
theorem mix_batch : Try.prog.follows .mixedOrders = true := by kernel_rfl
theorem bok_batch_36 : BOK Try.prog 36 #[.int .i64 0, .int .i64 0, .bool false, .bool false, .bool false, .int .i64 0, .int .i64 0, .int .i64 0, .int .i64 0, .int .i64 0, .int .i64 0, .slice none 0 0] [(0, 1), (1, 1), (2, 1), (3, 1), (4, 1), (5, 1), (6, 1), (7, 1), (8, 1), (9, 1), (10, 1), (11, 1)] := BOK.mk Try.zeroValue36 Try.runUnderlying36 (by intro w; simp)
theorem bok_batch_100 : BOK Try.prog 100 #[.slice none 0 0, .int .i64 0] [(0, 1), (1, 1)] := BOK.mk Try.zeroValue100 Try.runUnderlying100 (by intro w; simp)
theorem bok_batch_105 : BOK Try.prog 105 #[.int .i64 0, .int .i64 0, .int .i64 0, .int .i64 0, .int .i64 0, .int .i64 0, .int .i64 0, .int .i64 0, .int .i64 0, .int .i64 0, .int .i64 0, .int .i64 0] [(0, 1), (1, 1), (2, 1), (3, 1), (4, 1), (5, 1), (6, 1), (7, 1), (8, 1), (9, 1), (10, 1), (11, 1)] := BOK.mk Try.zeroValue105 Try.runUnderlying105 (by intro w; simp)
theorem sok_batch_34_1 : SOK Try.prog 34 83 1 7 #[.int .i64 0, .int .i64 0, .bool false, .string ⟨#[]⟩, .bool false, .string ⟨#[]⟩, .slice none 0 0] := SOK.mk Try.runUnderlying34 Try.sizeOf83 Try.zeroValue83 (by decide) (by kernel_rfl)
theorem sok_batch_39_2 : SOK Try.prog 39 9 2 1 #[.string ⟨#[]⟩, .string ⟨#[]⟩] := SOK.mk Try.runUnderlying39 Try.sizeOf9 Try.zeroValue9 (by decide) (by kernel_rfl)
theorem inf_batch_83 : (Try.prog.info? 83).map (fun i => (i.zero, i.size, i.bytes)) = some (some (.agg #[.int .i64 0, .int .i64 0, .bool false, .string ⟨#[]⟩, .bool false, .string ⟨#[]⟩, .slice none 0 0]), 7, 88) := by kernel_rfl
def f_batch_numbers (a0 : Bat) : Option (Bool) := if a0.fBase ≥ 0 then (if a0.fLeader ≥ (-1) then ((gFits a0.fLeader 4).bind fun x6 => if x6 = true then (if a0.fLast ≥ 0 then ((gFits a0.fLast 4).bind fun x10 => if x10 = true then (if (IntKind.i64.wrap (a0.fBase + a0.fLast)) ≥ 0 then (if a0.fFirst ≥ 0 then (if a0.fMax ≥ 0 then some true else some false) else some false) else some false) else some false) else some false) else some false) else some false) else some false
set_option maxRecDepth 100000 in
set_option maxHeartbeats 4000000 in
theorem f_batch_numbers_spec (a0 : Bat) (A1 : Option Addr) (c2 : Nat) (r : Bool) (h : f_batch_numbers a0 = some r) : SpecX Try.prog 43 #[.agg #[.int .i64 a0.fBase, .int .i64 a0.fLeader, .bool a0.fAppend, .bool a0.fTxn, .bool a0.fControl, .int .i64 a0.fLast, .int .i64 a0.fFirst, .int .i64 a0.fMax, .int .i64 a0.fProducer, .int .i64 a0.fEpoch, .int .i64 a0.fSequence, .slice A1 a0.fRecords.length c2]] (RX.of (sliceRd 7 Rec_rd) [.slice A1 a0.fRecords.length c2] a0.fRecords) (EmpR) (fun v A' N => v = .bool r ∧ A' = EmpR ∧ N = []) := by
  refine enterA Try.func43 rfl Try.ntmps43 rfl ?_
  intro F w hX
  unfold f_batch_numbers at h
  refine T.seq (T.region rfl ?_)
  refine TL.box rfl .u rfl rfl (fun b3 => ?_)
  refine TL.run ft_batch_ok [1] rfl rfl ?_
  refine TL.nil (X.seq (T.seq (T.region rfl ?_)))
  refine TL.run ft_batch_ok [0] rfl rfl ?_
  refine TL.q rfl .u (Ex.b1 0 rfl Try.isAgg3 rfl rfl) rfl ?_
  by_cases c4 : a0.fBase ≥ 0
  · replace h := ifT c4 h
    refine TL.run ft_batch_ok [2, 3] rfl rfl ?_
    refine TL.q rfl (.g rfl rfl (decide_eq_true c4)) (Ex.ft ft_batch_ok rfl) rfl ?_
    refine TL.q rfl (.g rfl rfl (decide_eq_true c4)) (Ex.b1 0 rfl Try.isAgg3 rfl rfl) rfl ?_
    refine TL.q rfl (.g rfl rfl (decide_eq_true c4)) (Ex.ft ft_batch_ok rfl) rfl ?_
    refine TL.q rfl .u (Ex.py rfl (decide_eq_true c4) rfl) rfl ?_
    by_cases c5 : a0.fLeader ≥ (-1)
    · replace h := ifT c5 h
      refine TL.run ft_batch_ok [8] rfl rfl ?_
      refine TL.q rfl (.g rfl rfl (decide_eq_true c5)) (Ex.ft ft_batch_ok rfl) rfl ?_
      refine TL.q rfl (.g rfl rfl (decide_eq_true c5)) (Ex.b1 0 rfl Try.isAgg3 rfl rfl) rfl ?_
      obtain ⟨x6, hx7, h⟩ := Option.bind_eq_some_iff.1 h
      refine TL.ce rfl (.g rfl rfl (decide_eq_true c5)) (.fn Try.call73 rfl) (SpecX.pure (fun w => gFits_spec a0.fLeader 4 _ hx7 w)) (fun _ _ => RX.reads_triv _ _) rfl ?_
      refine TL.q rfl .u (Ex.py rfl (decide_eq_true c5) rfl) rfl ?_
      by_cases c8 : x6 = true
      · replace h := ifT c8 h
        refine TL.run ft_batch_ok [13] rfl rfl ?_
        refine TL.q rfl (.g rfl rfl c8) (Ex.ft ft_batch_ok rfl) rfl ?_
        refine TL.q rfl (.g rfl rfl c8) (Ex.b1 0 rfl Try.isAgg3 rfl rfl) rfl ?_
        refine TL.q rfl (.g rfl rfl c8) (Ex.ft ft_batch_ok rfl) rfl ?_
        refine TL.q rfl .u (Ex.py rfl c8 rfl) rfl ?_
        by_cases c9 : a0.fLast ≥ 0
        · replace h := ifT c9 h
          refine TL.run ft_batch_ok [18] rfl rfl ?_
          refine TL.q rfl (.g rfl rfl (decide_eq_true c9)) (Ex.ft ft_batch_ok rfl) rfl ?_
          refine TL.q rfl (.g rfl rfl (decide_eq_true c9)) (Ex.b1 0 rfl Try.isAgg3 rfl rfl) rfl ?_
          obtain ⟨x10, hx11, h⟩ := Option.bind_eq_some_iff.1 h
          refine TL.ce rfl (.g rfl rfl (decide_eq_true c9)) (.fn Try.call73 rfl) (SpecX.pure (fun w => gFits_spec a0.fLast 4 _ hx11 w)) (fun _ _ => RX.reads_triv _ _) rfl ?_
          refine TL.q rfl .u (Ex.py rfl (decide_eq_true c9) rfl) rfl ?_
          by_cases c12 : x10 = true
          · replace h := ifT c12 h
            refine TL.run ft_batch_ok [23] rfl rfl ?_
            refine TL.q rfl (.g rfl rfl c12) (Ex.ft ft_batch_ok rfl) rfl ?_
            refine TL.q rfl (.g rfl rfl c12) (Ex.b1 0 rfl Try.isAgg3 rfl rfl) rfl ?_
            refine TL.q rfl (.g rfl rfl c12) (Ex.ft ft_batch_ok rfl) rfl ?_
            refine TL.q rfl (.g rfl rfl c12) (Ex.b1 0 rfl Try.isAgg3 rfl rfl) rfl ?_
            refine TL.q rfl (.g rfl rfl c12) (Ex.addw rfl rfl) rfl ?_
            refine TL.q rfl (.g rfl rfl c12) (Ex.ft ft_batch_ok rfl) rfl ?_
            refine TL.q rfl .u (Ex.py rfl c12 rfl) rfl ?_
            by_cases c13 : (IntKind.i64.wrap (a0.fBase + a0.fLast)) ≥ 0
            · replace h := ifT c13 h
              refine TL.run ft_batch_ok [31] rfl rfl ?_
              refine TL.q rfl (.g rfl rfl (decide_eq_true c13)) (Ex.ft ft_batch_ok rfl) rfl ?_
              refine TL.q rfl (.g rfl rfl (decide_eq_true c13)) (Ex.b1 0 rfl Try.isAgg3 rfl rfl) rfl ?_
              refine TL.q rfl (.g rfl rfl (decide_eq_true c13)) (Ex.ft ft_batch_ok rfl) rfl ?_
              refine TL.q rfl .u (Ex.py rfl (decide_eq_true c13) rfl) rfl ?_
              by_cases c14 : a0.fFirst ≥ 0
              · replace h := ifT c14 h
                refine TL.run ft_batch_ok [36] rfl rfl ?_
                refine TL.q rfl (.g rfl rfl (decide_eq_true c14)) (Ex.ft ft_batch_ok rfl) rfl ?_
                refine TL.q rfl (.g rfl rfl (decide_eq_true c14)) (Ex.b1 0 rfl Try.isAgg3 rfl rfl) rfl ?_
                refine TL.q rfl (.g rfl rfl (decide_eq_true c14)) (Ex.ft ft_batch_ok rfl) rfl ?_
                refine TL.q rfl .u (Ex.py rfl (decide_eq_true c14) rfl) rfl ?_
                refine TL.run ft_batch_ok [41] rfl rfl ?_
                by_cases c15 : a0.fMax ≥ 0
                · replace h := ifT c15 h
                  obtain rfl := Option.some.inj h
                  exact TL.nil (X.seq (T.ret (X.done1 [1] Try.results43 (RV.tm (v := .bool true) (congrArg (fun b => some (Value.bool b)) (decide_eq_true c15))) ⟨rfl, rfl, rfl⟩ (by rfl) (.inl rfl))))
                · replace h := ifF c15 h
                  obtain rfl := Option.some.inj h
                  exact TL.nil (X.seq (T.ret (X.done1 [1] Try.results43 (RV.tm (v := .bool false) (congrArg (fun b => some (Value.bool b)) (decide_eq_false c15))) ⟨rfl, rfl, rfl⟩ (by rfl) (.inl rfl))))
              · replace h := ifF c14 h
                refine TL.run ft_batch_ok [36] rfl rfl ?_
                refine TL.no rfl (.gn rfl rfl (decide_eq_false c14)) rfl ?_
                refine TL.no rfl (.gn rfl rfl (decide_eq_false c14)) rfl ?_
                refine TL.no rfl (.gn rfl rfl (decide_eq_false c14)) rfl ?_
                refine TL.q rfl .u (Ex.pn rfl (decide_eq_false c14) rfl) rfl ?_
                refine TL.run ft_batch_ok [41] rfl rfl ?_
                obtain rfl := Option.some.inj h
                exact TL.nil (X.seq (T.ret (X.done1 [1] Try.results43 (RV.tm rfl) ⟨rfl, rfl, rfl⟩ (by rfl) (.inl rfl))))
            · replace h := ifF c13 h
              refine TL.run ft_batch_ok [31] rfl rfl ?_
              refine TL.no rfl (.gn rfl rfl (decide_eq_false c13)) rfl ?_
              refine TL.no rfl (.gn rfl rfl (decide_eq_false c13)) rfl ?_
              refine TL.no rfl (.gn rfl rfl (decide_eq_false c13)) rfl ?_
              refine TL.q rfl .u (Ex.pn rfl (decide_eq_false c13) rfl) rfl ?_
              refine TL.run ft_batch_ok [36] rfl rfl ?_
              refine TL.no rfl (.gn rfl rfl rfl) rfl ?_
              refine TL.no rfl (.gn rfl rfl rfl) rfl ?_
              refine TL.no rfl (.gn rfl rfl rfl) rfl ?_
              refine TL.q rfl .u (Ex.pn rfl rfl rfl) rfl ?_
              refine TL.run ft_batch_ok [41] rfl rfl ?_
              obtain rfl := Option.some.inj h
              exact TL.nil (X.seq (T.ret (X.done1 [1] Try.results43 (RV.tm rfl) ⟨rfl, rfl, rfl⟩ (by rfl) (.inl rfl))))
          · replace h := ifF c12 h
            replace c12 := eq_false_of_ne_true c12
            refine TL.run ft_batch_ok [23] rfl rfl ?_
            refine TL.no rfl (.gn rfl rfl c12) rfl ?_
            refine TL.no rfl (.gn rfl rfl c12) rfl ?_
            refine TL.no rfl (.gn rfl rfl c12) rfl ?_
            refine TL.no rfl (.gn rfl rfl c12) rfl ?_
            refine TL.no rfl (.gn rfl rfl c12) rfl ?_
            refine TL.no rfl (.gn rfl rfl c12) rfl ?_
            refine TL.q rfl .u (Ex.pn rfl c12 rfl) rfl ?_
            refine TL.run ft_batch_ok [31] rfl rfl ?_
            refine TL.no rfl (.gn rfl rfl rfl) rfl ?_
            refine TL.no rfl (.gn rfl rfl rfl) rfl ?_
            refine TL.no rfl (.gn rfl rfl rfl) rfl ?_
            refine TL.q rfl .u (Ex.pn rfl rfl rfl) rfl ?_
            refine TL.run ft_batch_ok [36] rfl rfl ?_
            refine TL.no rfl (.gn rfl rfl rfl) rfl ?_
            refine TL.no rfl (.gn rfl rfl rfl) rfl ?_
            refine TL.no rfl (.gn rfl rfl rfl) rfl ?_
            refine TL.q rfl .u (Ex.pn rfl rfl rfl) rfl ?_
            refine TL.run ft_batch_ok [41] rfl rfl ?_
            obtain rfl := Option.some.inj h
            exact TL.nil (X.seq (T.ret (X.done1 [1] Try.results43 (RV.tm rfl) ⟨rfl, rfl, rfl⟩ (by rfl) (.inl rfl))))
        · replace h := ifF c9 h
          refine TL.run ft_batch_ok [18] rfl rfl ?_
          refine TL.no rfl (.gn rfl rfl (decide_eq_false c9)) rfl ?_
          refine TL.no rfl (.gn rfl rfl (decide_eq_false c9)) rfl ?_
          refine TL.no rfl (.gn rfl rfl (decide_eq_false c9)) rfl ?_
          refine TL.q rfl .u (Ex.pn rfl (decide_eq_false c9) rfl) rfl ?_
          refine TL.run ft_batch_ok [23] rfl rfl ?_
          refine TL.no rfl (.gn rfl rfl rfl) rfl ?_
          refine TL.no rfl (.gn rfl rfl rfl) rfl ?_
          refine TL.no rfl (.gn rfl rfl rfl) rfl ?_
          refine TL.no rfl (.gn rfl rfl rfl) rfl ?_
          refine TL.no rfl (.gn rfl rfl rfl) rfl ?_
          refine TL.no rfl (.gn rfl rfl rfl) rfl ?_
          refine TL.q rfl .u (Ex.pn rfl rfl rfl) rfl ?_
          refine TL.run ft_batch_ok [31] rfl rfl ?_
          refine TL.no rfl (.gn rfl rfl rfl) rfl ?_
          refine TL.no rfl (.gn rfl rfl rfl) rfl ?_
          refine TL.no rfl (.gn rfl rfl rfl) rfl ?_
          refine TL.q rfl .u (Ex.pn rfl rfl rfl) rfl ?_
          refine TL.run ft_batch_ok [36] rfl rfl ?_
          refine TL.no rfl (.gn rfl rfl rfl) rfl ?_
          refine TL.no rfl (.gn rfl rfl rfl) rfl ?_
          refine TL.no rfl (.gn rfl rfl rfl) rfl ?_
          refine TL.q rfl .u (Ex.pn rfl rfl rfl) rfl ?_
          refine TL.run ft_batch_ok [41] rfl rfl ?_
          obtain rfl := Option.some.inj h
          exact TL.nil (X.seq (T.ret (X.done1 [1] Try.results43 (RV.tm rfl) ⟨rfl, rfl, rfl⟩ (by rfl) (.inl rfl))))
      · replace h := ifF c8 h
        replace c8 := eq_false_of_ne_true c8
        refine TL.run ft_batch_ok [13] rfl rfl ?_
        refine TL.no rfl (.gn rfl rfl c8) rfl ?_
        refine TL.no rfl (.gn rfl rfl c8) rfl ?_
        refine TL.no rfl (.gn rfl rfl c8) rfl ?_
        refine TL.q rfl .u (Ex.pn rfl c8 rfl) rfl ?_
        refine TL.run ft_batch_ok [18] rfl rfl ?_
        refine TL.no rfl (.gn rfl rfl rfl) rfl ?_
        refine TL.no rfl (.gn rfl rfl rfl) rfl ?_
        refine TL.no rfl (.gn rfl rfl rfl) rfl ?_
        refine TL.q rfl .u (Ex.pn rfl rfl rfl) rfl ?_
        refine TL.run ft_batch_ok [23] rfl rfl ?_
        refine TL.no rfl (.gn rfl rfl rfl) rfl ?_
        refine TL.no rfl (.gn rfl rfl rfl) rfl ?_
        refine TL.no rfl (.gn rfl rfl rfl) rfl ?_
        refine TL.no rfl (.gn rfl rfl rfl) rfl ?_
        refine TL.no rfl (.gn rfl rfl rfl) rfl ?_
        refine TL.no rfl (.gn rfl rfl rfl) rfl ?_
        refine TL.q rfl .u (Ex.pn rfl rfl rfl) rfl ?_
        refine TL.run ft_batch_ok [31] rfl rfl ?_
        refine TL.no rfl (.gn rfl rfl rfl) rfl ?_
        refine TL.no rfl (.gn rfl rfl rfl) rfl ?_
        refine TL.no rfl (.gn rfl rfl rfl) rfl ?_
        refine TL.q rfl .u (Ex.pn rfl rfl rfl) rfl ?_
        refine TL.run ft_batch_ok [36] rfl rfl ?_
        refine TL.no rfl (.gn rfl rfl rfl) rfl ?_
        refine TL.no rfl (.gn rfl rfl rfl) rfl ?_
        refine TL.no rfl (.gn rfl rfl rfl) rfl ?_
        refine TL.q rfl .u (Ex.pn rfl rfl rfl) rfl ?_
        refine TL.run ft_batch_ok [41] rfl rfl ?_
        obtain rfl := Option.some.inj h
        exact TL.nil (X.seq (T.ret (X.done1 [1] Try.results43 (RV.tm rfl) ⟨rfl, rfl, rfl⟩ (by rfl) (.inl rfl))))
    · replace h := ifF c5 h
      refine TL.run ft_batch_ok [8] rfl rfl ?_
      refine TL.no rfl (.gn rfl rfl (decide_eq_false c5)) rfl ?_
      refine TL.no rfl (.gn rfl rfl (decide_eq_false c5)) rfl ?_
      refine TL.no rfl (.gn rfl rfl (decide_eq_false c5)) rfl ?_
      refine TL.q rfl .u (Ex.pn rfl (decide_eq_false c5) rfl) rfl ?_
      refine TL.run ft_batch_ok [13] rfl rfl ?_
      refine TL.no rfl (.gn rfl rfl rfl) rfl ?_
      refine TL.no rfl (.gn rfl rfl rfl) rfl ?_
      refine TL.no rfl (.gn rfl rfl rfl) rfl ?_
      refine TL.q rfl .u (Ex.pn rfl rfl rfl) rfl ?_
      refine TL.run ft_batch_ok [18] rfl rfl ?_
      refine TL.no rfl (.gn rfl rfl rfl) rfl ?_
      refine TL.no rfl (.gn rfl rfl rfl) rfl ?_
      refine TL.no rfl (.gn rfl rfl rfl) rfl ?_
      refine TL.q rfl .u (Ex.pn rfl rfl rfl) rfl ?_
      refine TL.run ft_batch_ok [23] rfl rfl ?_
      refine TL.no rfl (.gn rfl rfl rfl) rfl ?_
      refine TL.no rfl (.gn rfl rfl rfl) rfl ?_
      refine TL.no rfl (.gn rfl rfl rfl) rfl ?_
      refine TL.no rfl (.gn rfl rfl rfl) rfl ?_
      refine TL.no rfl (.gn rfl rfl rfl) rfl ?_
      refine TL.no rfl (.gn rfl rfl rfl) rfl ?_
      refine TL.q rfl .u (Ex.pn rfl rfl rfl) rfl ?_
      refine TL.run ft_batch_ok [31] rfl rfl ?_
      refine TL.no rfl (.gn rfl rfl rfl) rfl ?_
      refine TL.no rfl (.gn rfl rfl rfl) rfl ?_
      refine TL.no rfl (.gn rfl rfl rfl) rfl ?_
      refine TL.q rfl .u (Ex.pn rfl rfl rfl) rfl ?_
      refine TL.run ft_batch_ok [36] rfl rfl ?_
      refine TL.no rfl (.gn rfl rfl rfl) rfl ?_
      refine TL.no rfl (.gn rfl rfl rfl) rfl ?_
      refine TL.no rfl (.gn rfl rfl rfl) rfl ?_
      refine TL.q rfl .u (Ex.pn rfl rfl rfl) rfl ?_
      refine TL.run ft_batch_ok [41] rfl rfl ?_
      obtain rfl := Option.some.inj h
      exact TL.nil (X.seq (T.ret (X.done1 [1] Try.results43 (RV.tm rfl) ⟨rfl, rfl, rfl⟩ (by rfl) (.inl rfl))))
  · replace h := ifF c4 h
    refine TL.run ft_batch_ok [2, 3] rfl rfl ?_
    refine TL.no rfl (.gn rfl rfl (decide_eq_false c4)) rfl ?_
    refine TL.no rfl (.gn rfl rfl (decide_eq_false c4)) rfl ?_
    refine TL.no rfl (.gn rfl rfl (decide_eq_false c4)) rfl ?_
    refine TL.q rfl .u (Ex.pn rfl (decide_eq_false c4) rfl) rfl ?_
    refine TL.run ft_batch_ok [8] rfl rfl ?_
    refine TL.no rfl (.gn rfl rfl rfl) rfl ?_
    refine TL.no rfl (.gn rfl rfl rfl) rfl ?_
    refine TL.no rfl (.gn rfl rfl rfl) rfl ?_
    refine TL.q rfl .u (Ex.pn rfl rfl rfl) rfl ?_
    refine TL.run ft_batch_ok [13] rfl rfl ?_
    refine TL.no rfl (.gn rfl rfl rfl) rfl ?_
    refine TL.no rfl (.gn rfl rfl rfl) rfl ?_
    refine TL.no rfl (.gn rfl rfl rfl) rfl ?_
    refine TL.q rfl .u (Ex.pn rfl rfl rfl) rfl ?_
    refine TL.run ft_batch_ok [18] rfl rfl ?_
    refine TL.no rfl (.gn rfl rfl rfl) rfl ?_
    refine TL.no rfl (.gn rfl rfl rfl) rfl ?_
    refine TL.no rfl (.gn rfl rfl rfl) rfl ?_
    refine TL.q rfl .u (Ex.pn rfl rfl rfl) rfl ?_
    refine TL.run ft_batch_ok [23] rfl rfl ?_
    refine TL.no rfl (.gn rfl rfl rfl) rfl ?_
    refine TL.no rfl (.gn rfl rfl rfl) rfl ?_
    refine TL.no rfl (.gn rfl rfl rfl) rfl ?_
    refine TL.no rfl (.gn rfl rfl rfl) rfl ?_
    refine TL.no rfl (.gn rfl rfl rfl) rfl ?_
    refine TL.no rfl (.gn rfl rfl rfl) rfl ?_
    refine TL.q rfl .u (Ex.pn rfl rfl rfl) rfl ?_
    refine TL.run ft_batch_ok [31] rfl rfl ?_
    refine TL.no rfl (.gn rfl rfl rfl) rfl ?_
    refine TL.no rfl (.gn rfl rfl rfl) rfl ?_
    refine TL.no rfl (.gn rfl rfl rfl) rfl ?_
    refine TL.q rfl .u (Ex.pn rfl rfl rfl) rfl ?_
    refine TL.run ft_batch_ok [36] rfl rfl ?_
    refine TL.no rfl (.gn rfl rfl rfl) rfl ?_
    refine TL.no rfl (.gn rfl rfl rfl) rfl ?_
    refine TL.no rfl (.gn rfl rfl rfl) rfl ?_
    refine TL.q rfl .u (Ex.pn rfl rfl rfl) rfl ?_
    refine TL.run ft_batch_ok [41] rfl rfl ?_
    obtain rfl := Option.some.inj h
    exact TL.nil (X.seq (T.ret (X.done1 [1] Try.results43 (RV.tm rfl) ⟨rfl, rfl, rfl⟩ (by rfl) (.inl rfl))))
def f_batch_producer (a0 : Bat) : Option (Bool) := if a0.fProducer = (-1) then (if a0.fEpoch = (-1) then (if a0.fSequence = (-1) then (if a0.fTxn = true then some false else some true) else some false) else some false) else (if a0.fControl = true then (if a0.fProducer ≥ 0 then (if a0.fEpoch ≥ 0 then ((gFits a0.fEpoch 2).bind fun x11 => if x11 = true then (if a0.fSequence ≥ (-1) then ((gFits a0.fSequence 4).bind fun x15 => if x15 = true then (if a0.fSequence = (-1) then some true else some false) else some false) else some false) else some false) else some false) else some false) else (if a0.fProducer ≥ 0 then (if a0.fEpoch ≥ 0 then ((gFits a0.fEpoch 2).bind fun x21 => if x21 = true then (if a0.fSequence ≥ 0 then ((gFits a0.fSequence 4).bind fun x25 => if x25 = true then some true else some false) else some false) else some false) else some false) else some false))
set_option maxRecDepth 100000 in
set_option maxHeartbeats 4000000 in
theorem f_batch_producer_spec (a0 : Bat) (A1 : Option Addr) (c2 : Nat) (r : Bool) (h : f_batch_producer a0 = some r) : SpecX Try.prog 44 #[.agg #[.int .i64 a0.fBase, .int .i64 a0.fLeader, .bool a0.fAppend, .bool a0.fTxn, .bool a0.fControl, .int .i64 a0.fLast, .int .i64 a0.fFirst, .int .i64 a0.fMax, .int .i64 a0.fProducer, .int .i64 a0.fEpoch, .int .i64 a0.fSequence, .slice A1 a0.fRecords.length c2]] (RX.of (sliceRd 7 Rec_rd) [.slice A1 a0.fRecords.length c2] a0.fRecords) (EmpR) (fun v A' N => v = .bool r ∧ A' = EmpR ∧ N = []) := by
  refine enterA Try.func44 rfl Try.ntmps44 rfl ?_
  intro F w hX
  unfold f_batch_producer at h
  refine T.seq (T.region rfl ?_)
  refine TL.box rfl .u rfl rfl (fun b3 => ?_)
  refine TL.run ft_batch_ok [1] rfl rfl ?_
  refine TL.nil (X.seq (T.seq (T.seq (T.region rfl ?_))))
  refine TL.run ft_batch_ok [0] rfl rfl ?_
  refine TL.q rfl .u (Ex.b1 0 rfl Try.isAgg3 rfl rfl) rfl ?_
  refine TL.run ft_batch_ok [2] rfl rfl ?_
  by_cases c4 : a0.fProducer = (-1)
  · replace h := ifT c4 h
    refine TL.nil (X.seq ?_)
    refine T.yes rfl (decide_eq_true c4) ?_
    refine T.seq (T.region rfl ?_)
    refine TL.run ft_batch_ok [0] rfl rfl ?_
    refine TL.q rfl .u (Ex.b1 0 rfl Try.isAgg3 rfl rfl) rfl ?_
    by_cases c5 : a0.fEpoch = (-1)
    · replace h := ifT c5 h
      refine TL.run ft_batch_ok [2, 3] rfl rfl ?_
      refine TL.q rfl (.g rfl rfl (decide_eq_true c5)) (Ex.ft ft_batch_ok rfl) rfl ?_
      refine TL.q rfl (.g rfl rfl (decide_eq_true c5)) (Ex.b1 0 rfl Try.isAgg3 rfl rfl) rfl ?_
      refine TL.q rfl (.g rfl rfl (decide_eq_true c5)) (Ex.ft ft_batch_ok rfl) rfl ?_
      refine TL.q rfl .u (Ex.py rfl (decide_eq_true c5) rfl) rfl ?_
      by_cases c6 : a0.fSequence = (-1)
      · replace h := ifT c6 h
        refine TL.run ft_batch_ok [8] rfl rfl ?_
        refine TL.q rfl (.g rfl rfl (decide_eq_true c6)) (Ex.ft ft_batch_ok rfl) rfl ?_
        refine TL.q rfl (.g rfl rfl (decide_eq_true c6)) (Ex.b1 0 rfl Try.isAgg4 rfl rfl) rfl ?_
        refine TL.q rfl (.g rfl rfl (decide_eq_true c6)) (Ex.ft ft_batch_ok rfl) rfl ?_
        refine TL.q rfl .u (Ex.py rfl (decide_eq_true c6) rfl) rfl ?_
        refine TL.run ft_batch_ok [13] rfl rfl ?_
        by_cases c7 : a0.fTxn = true
        · replace h := ifT c7 h
          obtain rfl := Option.some.inj h
          exact TL.nil (X.seq (T.ret (X.rs (X.done1 [1] Try.results44 (RV.tm (v := .bool false) (congrArg (fun b => some (Value.bool b)) (bn_f c7))) ⟨rfl, rfl, rfl⟩ (by rfl) (.inl rfl)))))
        · replace h := ifF c7 h
          replace c7 := eq_false_of_ne_true c7
          obtain rfl := Option.some.inj h
          exact TL.nil (X.seq (T.ret (X.rs (X.done1 [1] Try.results44 (RV.tm (v := .bool true) (congrArg (fun b => some (Value.bool b)) (bn_t c7))) ⟨rfl, rfl, rfl⟩ (by rfl) (.inl rfl)))))
      · replace h := ifF c6 h
        refine TL.run ft_batch_ok [8] rfl rfl ?_
        refine TL.no rfl (.gn rfl rfl (decide_eq_false c6)) rfl ?_
        refine TL.no rfl (.gn rfl rfl (decide_eq_false c6)) rfl ?_
        refine TL.no rfl (.gn rfl rfl (decide_eq_false c6)) rfl ?_
        refine TL.q rfl .u (Ex.pn rfl (decide_eq_false c6) rfl) rfl ?_
        refine TL.run ft_batch_ok [13] rfl rfl ?_
        obtain rfl := Option.some.inj h
        exact TL.nil (X.seq (T.ret (X.rs (X.done1 [1] Try.results44 (RV.tm rfl) ⟨rfl, rfl, rfl⟩ (by rfl) (.inl rfl)))))
    · replace h := ifF c5 h
      refine TL.run ft_batch_ok [2, 3] rfl rfl ?_
      refine TL.no rfl (.gn rfl rfl (decide_eq_false c5)) rfl ?_
      refine TL.no rfl (.gn rfl rfl (decide_eq_false c5)) rfl ?_
      refine TL.no rfl (.gn rfl rfl (decide_eq_false c5)) rfl ?_
      refine TL.q rfl .u (Ex.pn rfl (decide_eq_false c5) rfl) rfl ?_
      refine TL.run ft_batch_ok [8] rfl rfl ?_
      refine TL.no rfl (.gn rfl rfl rfl) rfl ?_
      refine TL.no rfl (.gn rfl rfl rfl) rfl ?_
      refine TL.no rfl (.gn rfl rfl rfl) rfl ?_
      refine TL.q rfl .u (Ex.pn rfl rfl rfl) rfl ?_
      refine TL.run ft_batch_ok [13] rfl rfl ?_
      obtain rfl := Option.some.inj h
      exact TL.nil (X.seq (T.ret (X.rs (X.done1 [1] Try.results44 (RV.tm rfl) ⟨rfl, rfl, rfl⟩ (by rfl) (.inl rfl)))))
  · replace h := ifF c4 h
    refine TL.nil (X.seq ?_)
    refine T.no rfl (decide_eq_false c4) ?_
    refine T.skip (X.seq (T.seq (T.region rfl ?_)))
    refine TL.run ft_batch_ok [0] rfl rfl ?_
    refine TL.nil (X.seq (T.seq (T.seq (T.region rfl ?_))))
    refine TL.run ft_batch_ok [0] rfl rfl ?_
    refine TL.q rfl .u (Ex.b1 0 rfl Try.isAgg4 rfl rfl) rfl ?_
    by_cases c8 : a0.fControl = true
    · replace h := ifT c8 h
      refine TL.nil (X.seq ?_)
      refine T.yes rfl c8 ?_
      refine T.region rfl ?_
      refine TL.run ft_batch_ok [0] rfl rfl ?_
      refine TL.nil (X.seq (T.seq (T.region rfl ?_)))
      refine TL.run ft_batch_ok [0] rfl rfl ?_
      refine TL.q rfl .u (Ex.b1 0 rfl Try.isAgg3 rfl rfl) rfl ?_
      by_cases c9 : a0.fProducer ≥ 0
      · replace h := ifT c9 h
        refine TL.run ft_batch_ok [2, 3] rfl rfl ?_
        refine TL.q rfl (.g rfl rfl (decide_eq_true c9)) (Ex.ft ft_batch_ok rfl) rfl ?_
        refine TL.q rfl (.g rfl rfl (decide_eq_true c9)) (Ex.b1 0 rfl Try.isAgg3 rfl rfl) rfl ?_
        refine TL.q rfl (.g rfl rfl (decide_eq_true c9)) (Ex.ft ft_batch_ok rfl) rfl ?_
        refine TL.q rfl .u (Ex.py rfl (decide_eq_true c9) rfl) rfl ?_
        by_cases c10 : a0.fEpoch ≥ 0
        · replace h := ifT c10 h
          refine TL.run ft_batch_ok [8] rfl rfl ?_
          refine TL.q rfl (.g rfl rfl (decide_eq_true c10)) (Ex.ft ft_batch_ok rfl) rfl ?_
          refine TL.q rfl (.g rfl rfl (decide_eq_true c10)) (Ex.b1 0 rfl Try.isAgg3 rfl rfl) rfl ?_
          obtain ⟨x11, hx12, h⟩ := Option.bind_eq_some_iff.1 h
          refine TL.ce rfl (.g rfl rfl (decide_eq_true c10)) (.fn Try.call73 rfl) (SpecX.pure (fun w => gFits_spec a0.fEpoch 2 _ hx12 w)) (fun _ _ => RX.reads_triv _ _) rfl ?_
          refine TL.q rfl .u (Ex.py rfl (decide_eq_true c10) rfl) rfl ?_
          by_cases c13 : x11 = true
          · replace h := ifT c13 h
            refine TL.run ft_batch_ok [13] rfl rfl ?_
            refine TL.q rfl (.g rfl rfl c13) (Ex.ft ft_batch_ok rfl) rfl ?_
            refine TL.q rfl (.g rfl rfl c13) (Ex.b1 0 rfl Try.isAgg3 rfl rfl) rfl ?_
            refine TL.q rfl (.g rfl rfl c13) (Ex.ft ft_batch_ok rfl) rfl ?_
            refine TL.q rfl (.g rfl rfl c13) (Ex.ft ft_batch_ok rfl) rfl ?_
            refine TL.q rfl .u (Ex.py rfl c13 rfl) rfl ?_
            by_cases c14 : a0.fSequence ≥ (-1)
            · replace h := ifT c14 h
              refine TL.run ft_batch_ok [19] rfl rfl ?_
              refine TL.q rfl (.g rfl rfl (decide_eq_true c14)) (Ex.ft ft_batch_ok rfl) rfl ?_
              refine TL.q rfl (.g rfl rfl (decide_eq_true c14)) (Ex.b1 0 rfl Try.isAgg3 rfl rfl) rfl ?_
              obtain ⟨x15, hx16, h⟩ := Option.bind_eq_some_iff.1 h
              refine TL.ce rfl (.g rfl rfl (decide_eq_true c14)) (.fn Try.call73 rfl) (SpecX.pure (fun w => gFits_spec a0.fSequence 4 _ hx16 w)) (fun _ _ => RX.reads_triv _ _) rfl ?_
              refine TL.q rfl .u (Ex.py rfl (decide_eq_true c14) rfl) rfl ?_
              by_cases c17 : x15 = true
              · replace h := ifT c17 h
                refine TL.run ft_batch_ok [24] rfl rfl ?_
                refine TL.q rfl (.g rfl rfl c17) (Ex.ft ft_batch_ok rfl) rfl ?_
                refine TL.q rfl (.g rfl rfl c17) (Ex.b1 0 rfl Try.isAgg4 rfl rfl) rfl ?_
                refine TL.q rfl (.g rfl rfl c17) (Ex.ft ft_batch_ok rfl) rfl ?_
                refine TL.q rfl (.g rfl rfl c17) (Ex.ft ft_batch_ok rfl) rfl ?_
                refine TL.q rfl (.g rfl rfl (bn_f c8)) (Ex.ft ft_batch_ok rfl) rfl ?_
                refine TL.q rfl (.g rfl rfl (bn_f c8)) (Ex.b1 0 rfl Try.isAgg3 rfl rfl) rfl ?_
                refine TL.q rfl (.g rfl rfl (bn_f c8)) (Ex.ft ft_batch_ok rfl) rfl ?_
                refine TL.q rfl (.g rfl rfl c17) (Ex.pn rfl (bn_f c8) rfl) rfl ?_
                refine TL.q rfl .u (Ex.py rfl c17 rfl) rfl ?_
                refine TL.run ft_batch_ok [34] rfl rfl ?_
                by_cases c18 : a0.fSequence = (-1)
                · replace h := ifT c18 h
                  obtain rfl := Option.some.inj h
                  exact TL.nil (X.seq (T.ret (X.done1 [1] Try.results44 (RV.tm (v := .bool true) (congrArg (fun b => some (Value.bool b)) (decide_eq_true c18))) ⟨rfl, rfl, rfl⟩ (by rfl) (.inl rfl))))
                · replace h := ifF c18 h
                  obtain rfl := Option.some.inj h
                  exact TL.nil (X.seq (T.ret (X.done1 [1] Try.results44 (RV.tm (v := .bool false) (congrArg (fun b => some (Value.bool b)) (decide_eq_false c18))) ⟨rfl, rfl, rfl⟩ (by rfl) (.inl rfl))))
              · replace h := ifF c17 h
                replace c17 := eq_false_of_ne_true c17
                refine TL.run ft_batch_ok [24] rfl rfl ?_
                refine TL.no rfl (.gn rfl rfl c17) rfl ?_
                refine TL.no rfl (.gn rfl rfl c17) rfl ?_
                refine TL.no rfl (.gn rfl rfl c17) rfl ?_
                refine TL.no rfl (.gn rfl rfl c17) rfl ?_
                refine TL.no rfl (.gu rfl rfl) rfl ?_
                refine TL.no rfl (.gu rfl rfl) rfl ?_
                refine TL.no rfl (.gu rfl rfl) rfl ?_
                refine TL.no rfl (.gn rfl rfl c17) rfl ?_
                refine TL.q rfl .u (Ex.pn rfl c17 rfl) rfl ?_
                refine TL.run ft_batch_ok [34] rfl rfl ?_
                obtain rfl := Option.some.inj h
                exact TL.nil (X.seq (T.ret (X.done1 [1] Try.results44 (RV.tm rfl) ⟨rfl, rfl, rfl⟩ (by rfl) (.inl rfl))))
            · replace h := ifF c14 h
              refine TL.run ft_batch_ok [19] rfl rfl ?_
              refine TL.no rfl (.gn rfl rfl (decide_eq_false c14)) rfl ?_
              refine TL.no rfl (.gn rfl rfl (decide_eq_false c14)) rfl ?_
              refine TL.no rfl (.gn rfl rfl (decide_eq_false c14)) rfl ?_
              refine TL.q rfl .u (Ex.pn rfl (decide_eq_false c14) rfl) rfl ?_
              refine TL.run ft_batch_ok [24] rfl rfl ?_
              refine TL.no rfl (.gn rfl rfl rfl) rfl ?_
              refine TL.no rfl (.gn rfl rfl rfl) rfl ?_
              refine TL.no rfl (.gn rfl rfl rfl) rfl ?_
              refine TL.no rfl (.gn rfl rfl rfl) rfl ?_
              refine TL.no rfl (.gu rfl rfl) rfl ?_
              refine TL.no rfl (.gu rfl rfl) rfl ?_
              refine TL.no rfl (.gu rfl rfl) rfl ?_
              refine TL.no rfl (.gn rfl rfl rfl) rfl ?_
              refine TL.q rfl .u (Ex.pn rfl rfl rfl) rfl ?_
              refine TL.run ft_batch_ok [34] rfl rfl ?_
              obtain rfl := Option.some.inj h
              exact TL.nil (X.seq (T.ret (X.done1 [1] Try.results44 (RV.tm rfl) ⟨rfl, rfl, rfl⟩ (by rfl) (.inl rfl))))
          · replace h := ifF c13 h
            replace c13 := eq_false_of_ne_true c13
            refine TL.run ft_batch_ok [13] rfl rfl ?_
            refine TL.no rfl (.gn rfl rfl c13) rfl ?_
            refine TL.no rfl (.gn rfl rfl c13) rfl ?_
            refine TL.no rfl (.gn rfl rfl c13) rfl ?_
            refine TL.no rfl (.gn rfl rfl c13) rfl ?_
            refine TL.q rfl .u (Ex.pn rfl c13 rfl) rfl ?_
            refine TL.run ft_batch_ok [19] rfl rfl ?_
            refine TL.no rfl (.gn rfl rfl rfl) rfl ?_
            refine TL.no rfl (.gn rfl rfl rfl) rfl ?_
            refine TL.no rfl (.gn rfl rfl rfl) rfl ?_
            refine TL.q rfl .u (Ex.pn rfl rfl rfl) rfl ?_
            refine TL.run ft_batch_ok [24] rfl rfl ?_
            refine TL.no rfl (.gn rfl rfl rfl) rfl ?_
            refine TL.no rfl (.gn rfl rfl rfl) rfl ?_
            refine TL.no rfl (.gn rfl rfl rfl) rfl ?_
            refine TL.no rfl (.gn rfl rfl rfl) rfl ?_
            refine TL.no rfl (.gu rfl rfl) rfl ?_
            refine TL.no rfl (.gu rfl rfl) rfl ?_
            refine TL.no rfl (.gu rfl rfl) rfl ?_
            refine TL.no rfl (.gn rfl rfl rfl) rfl ?_
            refine TL.q rfl .u (Ex.pn rfl rfl rfl) rfl ?_
            refine TL.run ft_batch_ok [34] rfl rfl ?_
            obtain rfl := Option.some.inj h
            exact TL.nil (X.seq (T.ret (X.done1 [1] Try.results44 (RV.tm rfl) ⟨rfl, rfl, rfl⟩ (by rfl) (.inl rfl))))
        · replace h := ifF c10 h
          refine TL.run ft_batch_ok [8] rfl rfl ?_
          refine TL.no rfl (.gn rfl rfl (decide_eq_false c10)) rfl ?_
          refine TL.no rfl (.gn rfl rfl (decide_eq_false c10)) rfl ?_
          refine TL.no rfl (.gn rfl rfl (decide_eq_false c10)) rfl ?_
          refine TL.q rfl .u (Ex.pn rfl (decide_eq_false c10) rfl) rfl ?_
          refine TL.run ft_batch_ok [13] rfl rfl ?_
          refine TL.no rfl (.gn rfl rfl rfl) rfl ?_
          refine TL.no rfl (.gn rfl rfl rfl) rfl ?_
          refine TL.no rfl (.gn rfl rfl rfl) rfl ?_
          refine TL.no rfl (.gn rfl rfl rfl) rfl ?_
          refine TL.q rfl .u (Ex.pn rfl rfl rfl) rfl ?_
          refine TL.run ft_batch_ok [19] rfl rfl ?_
          refine TL.no rfl (.gn rfl rfl rfl) rfl ?_
          refine TL.no rfl (.gn rfl rfl rfl) rfl ?_
          refine TL.no rfl (.gn rfl rfl rfl) rfl ?_
          refine TL.q rfl .u (Ex.pn rfl rfl rfl) rfl ?_
          refine TL.run ft_batch_ok [24] rfl rfl ?_
          refine TL.no rfl (.gn rfl rfl rfl) rfl ?_
          refine TL.no rfl (.gn rfl rfl rfl) rfl ?_
          refine TL.no rfl (.gn rfl rfl rfl) rfl ?_
          refine TL.no rfl (.gn rfl rfl rfl) rfl ?_
          refine TL.no rfl (.gu rfl rfl) rfl ?_
          refine TL.no rfl (.gu rfl rfl) rfl ?_
          refine TL.no rfl (.gu rfl rfl) rfl ?_
          refine TL.no rfl (.gn rfl rfl rfl) rfl ?_
          refine TL.q rfl .u (Ex.pn rfl rfl rfl) rfl ?_
          refine TL.run ft_batch_ok [34] rfl rfl ?_
          obtain rfl := Option.some.inj h
          exact TL.nil (X.seq (T.ret (X.done1 [1] Try.results44 (RV.tm rfl) ⟨rfl, rfl, rfl⟩ (by rfl) (.inl rfl))))
      · replace h := ifF c9 h
        refine TL.run ft_batch_ok [2, 3] rfl rfl ?_
        refine TL.no rfl (.gn rfl rfl (decide_eq_false c9)) rfl ?_
        refine TL.no rfl (.gn rfl rfl (decide_eq_false c9)) rfl ?_
        refine TL.no rfl (.gn rfl rfl (decide_eq_false c9)) rfl ?_
        refine TL.q rfl .u (Ex.pn rfl (decide_eq_false c9) rfl) rfl ?_
        refine TL.run ft_batch_ok [8] rfl rfl ?_
        refine TL.no rfl (.gn rfl rfl rfl) rfl ?_
        refine TL.no rfl (.gn rfl rfl rfl) rfl ?_
        refine TL.no rfl (.gn rfl rfl rfl) rfl ?_
        refine TL.q rfl .u (Ex.pn rfl rfl rfl) rfl ?_
        refine TL.run ft_batch_ok [13] rfl rfl ?_
        refine TL.no rfl (.gn rfl rfl rfl) rfl ?_
        refine TL.no rfl (.gn rfl rfl rfl) rfl ?_
        refine TL.no rfl (.gn rfl rfl rfl) rfl ?_
        refine TL.no rfl (.gn rfl rfl rfl) rfl ?_
        refine TL.q rfl .u (Ex.pn rfl rfl rfl) rfl ?_
        refine TL.run ft_batch_ok [19] rfl rfl ?_
        refine TL.no rfl (.gn rfl rfl rfl) rfl ?_
        refine TL.no rfl (.gn rfl rfl rfl) rfl ?_
        refine TL.no rfl (.gn rfl rfl rfl) rfl ?_
        refine TL.q rfl .u (Ex.pn rfl rfl rfl) rfl ?_
        refine TL.run ft_batch_ok [24] rfl rfl ?_
        refine TL.no rfl (.gn rfl rfl rfl) rfl ?_
        refine TL.no rfl (.gn rfl rfl rfl) rfl ?_
        refine TL.no rfl (.gn rfl rfl rfl) rfl ?_
        refine TL.no rfl (.gn rfl rfl rfl) rfl ?_
        refine TL.no rfl (.gu rfl rfl) rfl ?_
        refine TL.no rfl (.gu rfl rfl) rfl ?_
        refine TL.no rfl (.gu rfl rfl) rfl ?_
        refine TL.no rfl (.gn rfl rfl rfl) rfl ?_
        refine TL.q rfl .u (Ex.pn rfl rfl rfl) rfl ?_
        refine TL.run ft_batch_ok [34] rfl rfl ?_
        obtain rfl := Option.some.inj h
        exact TL.nil (X.seq (T.ret (X.done1 [1] Try.results44 (RV.tm rfl) ⟨rfl, rfl, rfl⟩ (by rfl) (.inl rfl))))
    · replace h := ifF c8 h
      replace c8 := eq_false_of_ne_true c8
      refine TL.nil (X.seq ?_)
      refine T.no rfl c8 ?_
      refine T.skip (X.seq (T.seq (T.region rfl ?_)))
      refine TL.run ft_batch_ok [0] rfl rfl ?_
      refine TL.q rfl .u (Ex.b1 0 rfl Try.isAgg3 rfl rfl) rfl ?_
      by_cases c19 : a0.fProducer ≥ 0
      · replace h := ifT c19 h
        refine TL.run ft_batch_ok [2, 3] rfl rfl ?_
        refine TL.q rfl (.g rfl rfl (decide_eq_true c19)) (Ex.ft ft_batch_ok rfl) rfl ?_
        refine TL.q rfl (.g rfl rfl (decide_eq_true c19)) (Ex.b1 0 rfl Try.isAgg3 rfl rfl) rfl ?_
        refine TL.q rfl (.g rfl rfl (decide_eq_true c19)) (Ex.ft ft_batch_ok rfl) rfl ?_
        refine TL.q rfl .u (Ex.py rfl (decide_eq_true c19) rfl) rfl ?_
        by_cases c20 : a0.fEpoch ≥ 0
        · replace h := ifT c20 h
          refine TL.run ft_batch_ok [8] rfl rfl ?_
          refine TL.q rfl (.g rfl rfl (decide_eq_true c20)) (Ex.ft ft_batch_ok rfl) rfl ?_
          refine TL.q rfl (.g rfl rfl (decide_eq_true c20)) (Ex.b1 0 rfl Try.isAgg3 rfl rfl) rfl ?_
          obtain ⟨x21, hx22, h⟩ := Option.bind_eq_some_iff.1 h
          refine TL.ce rfl (.g rfl rfl (decide_eq_true c20)) (.fn Try.call73 rfl) (SpecX.pure (fun w => gFits_spec a0.fEpoch 2 _ hx22 w)) (fun _ _ => RX.reads_triv _ _) rfl ?_
          refine TL.q rfl .u (Ex.py rfl (decide_eq_true c20) rfl) rfl ?_
          by_cases c23 : x21 = true
          · replace h := ifT c23 h
            refine TL.run ft_batch_ok [13] rfl rfl ?_
            refine TL.q rfl (.g rfl rfl c23) (Ex.ft ft_batch_ok rfl) rfl ?_
            refine TL.q rfl (.g rfl rfl c23) (Ex.b1 0 rfl Try.isAgg3 rfl rfl) rfl ?_
            refine TL.q rfl (.g rfl rfl c23) (Ex.ft ft_batch_ok rfl) rfl ?_
            refine TL.q rfl (.g rfl rfl c23) (Ex.ft ft_batch_ok rfl) rfl ?_
            refine TL.q rfl .u (Ex.py rfl c23 rfl) rfl ?_
            by_cases c24 : a0.fSequence ≥ 0
            · replace h := ifT c24 h
              refine TL.run ft_batch_ok [19] rfl rfl ?_
              refine TL.q rfl (.g rfl rfl (decide_eq_true c24)) (Ex.ft ft_batch_ok rfl) rfl ?_
              refine TL.q rfl (.g rfl rfl (decide_eq_true c24)) (Ex.b1 0 rfl Try.isAgg3 rfl rfl) rfl ?_
              obtain ⟨x25, hx26, h⟩ := Option.bind_eq_some_iff.1 h
              refine TL.ce rfl (.g rfl rfl (decide_eq_true c24)) (.fn Try.call73 rfl) (SpecX.pure (fun w => gFits_spec a0.fSequence 4 _ hx26 w)) (fun _ _ => RX.reads_triv _ _) rfl ?_
              refine TL.q rfl .u (Ex.py rfl (decide_eq_true c24) rfl) rfl ?_
              by_cases c27 : x25 = true
              · replace h := ifT c27 h
                refine TL.run ft_batch_ok [24] rfl rfl ?_
                refine TL.q rfl (.g rfl rfl c27) (Ex.ft ft_batch_ok rfl) rfl ?_
                refine TL.q rfl (.g rfl rfl c27) (Ex.b1 0 rfl Try.isAgg4 rfl rfl) rfl ?_
                refine TL.q rfl (.g rfl rfl c27) (Ex.ft ft_batch_ok rfl) rfl ?_
                refine TL.q rfl (.g rfl rfl c27) (Ex.ft ft_batch_ok rfl) rfl ?_
                refine TL.no rfl (.gn rfl rfl (bn_t c8)) rfl ?_
                refine TL.no rfl (.gn rfl rfl (bn_t c8)) rfl ?_
                refine TL.no rfl (.gn rfl rfl (bn_t c8)) rfl ?_
                refine TL.q rfl (.g rfl rfl c27) (Ex.py rfl (bn_t c8) rfl) rfl ?_
                refine TL.q rfl .u (Ex.py rfl c27 rfl) rfl ?_
                refine TL.run ft_batch_ok [34] rfl rfl ?_
                obtain rfl := Option.some.inj h
                exact TL.nil (X.seq (T.ret (X.done1 [1] Try.results44 (RV.tm rfl) ⟨rfl, rfl, rfl⟩ (by rfl) (.inl rfl))))
              · replace h := ifF c27 h
                replace c27 := eq_false_of_ne_true c27
                refine TL.run ft_batch_ok [24] rfl rfl ?_
                refine TL.no rfl (.gn rfl rfl c27) rfl ?_
                refine TL.no rfl (.gn rfl rfl c27) rfl ?_
                refine TL.no rfl (.gn rfl rfl c27) rfl ?_
                refine TL.no rfl (.gn rfl rfl c27) rfl ?_
                refine TL.no rfl (.gu rfl rfl) rfl ?_
                refine TL.no rfl (.gu rfl rfl) rfl ?_
                refine TL.no rfl (.gu rfl rfl) rfl ?_
                refine TL.no rfl (.gn rfl rfl c27) rfl ?_
                refine TL.q rfl .u (Ex.pn rfl c27 rfl) rfl ?_
                refine TL.run ft_batch_ok [34] rfl rfl ?_
                obtain rfl := Option.some.inj h
                exact TL.nil (X.seq (T.ret (X.done1 [1] Try.results44 (RV.tm rfl) ⟨rfl, rfl, rfl⟩ (by rfl) (.inl rfl))))
            · replace h := ifF c24 h
              refine TL.run ft_batch_ok [19] rfl rfl ?_
              refine TL.no rfl (.gn rfl rfl (decide_eq_false c24)) rfl ?_
              refine TL.no rfl (.gn rfl rfl (decide_eq_false c24)) rfl ?_
              refine TL.no rfl (.gn rfl rfl (decide_eq_false c24)) rfl ?_
              refine TL.q rfl .u (Ex.pn rfl (decide_eq_false c24) rfl) rfl ?_
              refine TL.run ft_batch_ok [24] rfl rfl ?_
              refine TL.no rfl (.gn rfl rfl rfl) rfl ?_
              refine TL.no rfl (.gn rfl rfl rfl) rfl ?_
              refine TL.no rfl (.gn rfl rfl rfl) rfl ?_
              refine TL.no rfl (.gn rfl rfl rfl) rfl ?_
              refine TL.no rfl (.gu rfl rfl) rfl ?_
              refine TL.no rfl (.gu rfl rfl) rfl ?_
              refine TL.no rfl (.gu rfl rfl) rfl ?_
              refine TL.no rfl (.gn rfl rfl rfl) rfl ?_
              refine TL.q rfl .u (Ex.pn rfl rfl rfl) rfl ?_
              refine TL.run ft_batch_ok [34] rfl rfl ?_
              obtain rfl := Option.some.inj h
              exact TL.nil (X.seq (T.ret (X.done1 [1] Try.results44 (RV.tm rfl) ⟨rfl, rfl, rfl⟩ (by rfl) (.inl rfl))))
          · replace h := ifF c23 h
            replace c23 := eq_false_of_ne_true c23
            refine TL.run ft_batch_ok [13] rfl rfl ?_
            refine TL.no rfl (.gn rfl rfl c23) rfl ?_
            refine TL.no rfl (.gn rfl rfl c23) rfl ?_
            refine TL.no rfl (.gn rfl rfl c23) rfl ?_
            refine TL.no rfl (.gn rfl rfl c23) rfl ?_
            refine TL.q rfl .u (Ex.pn rfl c23 rfl) rfl ?_
            refine TL.run ft_batch_ok [19] rfl rfl ?_
            refine TL.no rfl (.gn rfl rfl rfl) rfl ?_
            refine TL.no rfl (.gn rfl rfl rfl) rfl ?_
            refine TL.no rfl (.gn rfl rfl rfl) rfl ?_
            refine TL.q rfl .u (Ex.pn rfl rfl rfl) rfl ?_
            refine TL.run ft_batch_ok [24] rfl rfl ?_
            refine TL.no rfl (.gn rfl rfl rfl) rfl ?_
            refine TL.no rfl (.gn rfl rfl rfl) rfl ?_
            refine TL.no rfl (.gn rfl rfl rfl) rfl ?_
            refine TL.no rfl (.gn rfl rfl rfl) rfl ?_
            refine TL.no rfl (.gu rfl rfl) rfl ?_
            refine TL.no rfl (.gu rfl rfl) rfl ?_
            refine TL.no rfl (.gu rfl rfl) rfl ?_
            refine TL.no rfl (.gn rfl rfl rfl) rfl ?_
            refine TL.q rfl .u (Ex.pn rfl rfl rfl) rfl ?_
            refine TL.run ft_batch_ok [34] rfl rfl ?_
            obtain rfl := Option.some.inj h
            exact TL.nil (X.seq (T.ret (X.done1 [1] Try.results44 (RV.tm rfl) ⟨rfl, rfl, rfl⟩ (by rfl) (.inl rfl))))
        · replace h := ifF c20 h
          refine TL.run ft_batch_ok [8] rfl rfl ?_
          refine TL.no rfl (.gn rfl rfl (decide_eq_false c20)) rfl ?_
          refine TL.no rfl (.gn rfl rfl (decide_eq_false c20)) rfl ?_
          refine TL.no rfl (.gn rfl rfl (decide_eq_false c20)) rfl ?_
          refine TL.q rfl .u (Ex.pn rfl (decide_eq_false c20) rfl) rfl ?_
          refine TL.run ft_batch_ok [13] rfl rfl ?_
          refine TL.no rfl (.gn rfl rfl rfl) rfl ?_
          refine TL.no rfl (.gn rfl rfl rfl) rfl ?_
          refine TL.no rfl (.gn rfl rfl rfl) rfl ?_
          refine TL.no rfl (.gn rfl rfl rfl) rfl ?_
          refine TL.q rfl .u (Ex.pn rfl rfl rfl) rfl ?_
          refine TL.run ft_batch_ok [19] rfl rfl ?_
          refine TL.no rfl (.gn rfl rfl rfl) rfl ?_
          refine TL.no rfl (.gn rfl rfl rfl) rfl ?_
          refine TL.no rfl (.gn rfl rfl rfl) rfl ?_
          refine TL.q rfl .u (Ex.pn rfl rfl rfl) rfl ?_
          refine TL.run ft_batch_ok [24] rfl rfl ?_
          refine TL.no rfl (.gn rfl rfl rfl) rfl ?_
          refine TL.no rfl (.gn rfl rfl rfl) rfl ?_
          refine TL.no rfl (.gn rfl rfl rfl) rfl ?_
          refine TL.no rfl (.gn rfl rfl rfl) rfl ?_
          refine TL.no rfl (.gu rfl rfl) rfl ?_
          refine TL.no rfl (.gu rfl rfl) rfl ?_
          refine TL.no rfl (.gu rfl rfl) rfl ?_
          refine TL.no rfl (.gn rfl rfl rfl) rfl ?_
          refine TL.q rfl .u (Ex.pn rfl rfl rfl) rfl ?_
          refine TL.run ft_batch_ok [34] rfl rfl ?_
          obtain rfl := Option.some.inj h
          exact TL.nil (X.seq (T.ret (X.done1 [1] Try.results44 (RV.tm rfl) ⟨rfl, rfl, rfl⟩ (by rfl) (.inl rfl))))
      · replace h := ifF c19 h
        refine TL.run ft_batch_ok [2, 3] rfl rfl ?_
        refine TL.no rfl (.gn rfl rfl (decide_eq_false c19)) rfl ?_
        refine TL.no rfl (.gn rfl rfl (decide_eq_false c19)) rfl ?_
        refine TL.no rfl (.gn rfl rfl (decide_eq_false c19)) rfl ?_
        refine TL.q rfl .u (Ex.pn rfl (decide_eq_false c19) rfl) rfl ?_
        refine TL.run ft_batch_ok [8] rfl rfl ?_
        refine TL.no rfl (.gn rfl rfl rfl) rfl ?_
        refine TL.no rfl (.gn rfl rfl rfl) rfl ?_
        refine TL.no rfl (.gn rfl rfl rfl) rfl ?_
        refine TL.q rfl .u (Ex.pn rfl rfl rfl) rfl ?_
        refine TL.run ft_batch_ok [13] rfl rfl ?_
        refine TL.no rfl (.gn rfl rfl rfl) rfl ?_
        refine TL.no rfl (.gn rfl rfl rfl) rfl ?_
        refine TL.no rfl (.gn rfl rfl rfl) rfl ?_
        refine TL.no rfl (.gn rfl rfl rfl) rfl ?_
        refine TL.q rfl .u (Ex.pn rfl rfl rfl) rfl ?_
        refine TL.run ft_batch_ok [19] rfl rfl ?_
        refine TL.no rfl (.gn rfl rfl rfl) rfl ?_
        refine TL.no rfl (.gn rfl rfl rfl) rfl ?_
        refine TL.no rfl (.gn rfl rfl rfl) rfl ?_
        refine TL.q rfl .u (Ex.pn rfl rfl rfl) rfl ?_
        refine TL.run ft_batch_ok [24] rfl rfl ?_
        refine TL.no rfl (.gn rfl rfl rfl) rfl ?_
        refine TL.no rfl (.gn rfl rfl rfl) rfl ?_
        refine TL.no rfl (.gn rfl rfl rfl) rfl ?_
        refine TL.no rfl (.gn rfl rfl rfl) rfl ?_
        refine TL.no rfl (.gu rfl rfl) rfl ?_
        refine TL.no rfl (.gu rfl rfl) rfl ?_
        refine TL.no rfl (.gu rfl rfl) rfl ?_
        refine TL.no rfl (.gn rfl rfl rfl) rfl ?_
        refine TL.q rfl .u (Ex.pn rfl rfl rfl) rfl ?_
        refine TL.run ft_batch_ok [34] rfl rfl ?_
        obtain rfl := Option.some.inj h
        exact TL.nil (X.seq (T.ret (X.done1 [1] Try.results44 (RV.tm rfl) ⟨rfl, rfl, rfl⟩ (by rfl) (.inl rfl))))
def f_batch_records_l1 (a0 : Bat) : List Rec → Int → Int → Int → Option (Lp Int (Int × Int × Int))
  | [], y4, y5, y6 => some (Lp.go (y4, y5, y6))
  | x12 :: xs, y4, y5, y6 => if x12.fOffset ≤ y5 then some (Lp.ret 13) else (if x12.fOffset > a0.fLast then some (Lp.ret 13) else (if (IntKind.i64.wrap (a0.fFirst + x12.fTime)) < 0 then some (Lp.ret 11) else (if x12.fTime > 0 then (if (IntKind.i64.wrap (a0.fFirst + x12.fTime)) < x12.fTime then some (Lp.ret 11) else (if y6 < (IntKind.i64.wrap (a0.fFirst + x12.fTime)) then (f_batch_records_l1 a0 xs y4 x12.fOffset (IntKind.i64.wrap (a0.fFirst + x12.fTime))) else (f_batch_records_l1 a0 xs y4 x12.fOffset y6))) else (if y6 < (IntKind.i64.wrap (a0.fFirst + x12.fTime)) then (f_batch_records_l1 a0 xs y4 x12.fOffset (IntKind.i64.wrap (a0.fFirst + x12.fTime))) else (f_batch_records_l1 a0 xs y4 x12.fOffset y6)))))
def f_batch_records (a0 : Bat) : Option (Int) := (f_batch_records_l1 a0 a0.fRecords 0 (-1) a0.fFirst).bind fun e => match e with | .ret r => some r | .go (y27, y28, y29) => (if a0.fAppend = true then some 0 else (if y29 = a0.fMax then some 0 else some 11))
set_option maxRecDepth 100000 in
set_option maxHeartbeats 4000000 in
theorem f_batch_records_spec (a0 : Bat) (A1 : Option Addr) (c2 : Nat) (r : Int) (h : f_batch_records a0 = some r) : SpecX Try.prog 47 #[.agg #[.int .i64 a0.fBase, .int .i64 a0.fLeader, .bool a0.fAppend, .bool a0.fTxn, .bool a0.fControl, .int .i64 a0.fLast, .int .i64 a0.fFirst, .int .i64 a0.fMax, .int .i64 a0.fProducer, .int .i64 a0.fEpoch, .int .i64 a0.fSequence, .slice A1 a0.fRecords.length c2]] (RX.of (sliceRd 7 Rec_rd) [.slice A1 a0.fRecords.length c2] a0.fRecords) (EmpR) (fun v A' N => v = .int .i64 r ∧ A' = EmpR ∧ N = []) := by
  refine enterA Try.func47 rfl Try.ntmps47 rfl ?_
  intro F w hX
  unfold f_batch_records at h
  refine T.seq (T.region rfl ?_)
  refine TL.box rfl .u rfl rfl (fun b3 => ?_)
  refine TL.run ft_batch_ok [1] rfl rfl ?_
  refine TL.nil (X.seq (T.seq (T.draw (.q 0 (.q 1 (.q 2 (.q 3 .nil)))) [0, 0] rfl mix_batch (NoP.seq np_post) (by kernel_rfl) ?_)))
  refine TD.run ft_batch_ok [0] rfl rfl ?_
  refine TD.q rfl .u (Ex.b1 0 rfl Try.isAgg3 rfl rfl) rfl ?_
  refine TD.run ft_batch_ok [2, 3] rfl rfl ?_
  refine TD.nil (X.seq (T.seq (T.seq (T.region rfl ?_))))
  refine TL.run ft_batch_ok [0] rfl rfl ?_
  refine TL.q rfl .u (Ex.b1 0 rfl Try.isAgg34 rfl rfl) rfl ?_
  refine TL.q rfl .u (Ex.lenS rfl Try.runUnderlying34) rfl ?_
  refine TL.run ft_batch_ok [3] rfl rfl ?_
  refine TL.nil (X.seq (T.block ?_))
  obtain ⟨E8, hE9, hO10⟩ := Option.bind_eq_some_iff.1 h
  have hk14len := RX.len_le hX
  refine T.lp (fun m e Rs => ∃ (y4 : Int) (y5 : Int) (y6 : Int) (k7 : Nat), k7 + m = a0.fRecords.length ∧ e = [(1, .pointer (some ⟨b3, 0, none⟩)), (2, .int .i64 y4), (3, .int .i64 y5), (4, .int .i64 y6), (11, .slice A1 a0.fRecords.length c2), (12, .int .i64 (a0.fRecords.length : Int)), (13, .int .i64 (k7 : Int))] ∧ Rs = [BlkR b3 36 #[.int .i64 a0.fBase, .int .i64 a0.fLeader, .bool a0.fAppend, .bool a0.fTxn, .bool a0.fControl, .int .i64 a0.fLast, .int .i64 a0.fFirst, .int .i64 a0.fMax, .int .i64 a0.fProducer, .int .i64 a0.fEpoch, .int .i64 a0.fSequence, .slice A1 a0.fRecords.length c2], EmpR] ∧ f_batch_records_l1 a0 (a0.fRecords.drop k7) y4 y5 y6 = some E8) (a0.fRecords.length) [0, 0] ⟨0, (-1), a0.fFirst, 0, by simp, rfl, rfl, by rw [List.drop_zero]; exact hE9⟩ (by rfl) (by rfl) ?_
  rintro m11 _ _ ⟨y4, y5, y6, k7, hk14, rfl, rfl, hl13⟩
  clear hE9 h
  cases m11 with
  | zero =>
    have h := hl13
    clear hl13
    rw [List.drop_of_length_le (by omega), f_batch_records_l1] at h
    have hk14ge : ¬ ((k7 : Int) < (a0.fRecords.length : Int)) := by omega
    refine T.seq (T.region rfl ?_)
    refine TL.run ft_batch_ok [0] rfl rfl ?_
    refine TL.nil (X.seq (T.seq ?_))
    refine T.no rfl (decide_eq_false hk14ge) ?_
    obtain rfl := Option.some.inj h
    replace h := hO10
    clear hO10
    try dsimp only at h
    refine T.exit (X.exs (X.exs (X.ex (X.seq (T.seq (T.seq (T.region rfl ?_)))))))
    refine TL.run ft_batch_ok [0] rfl rfl ?_
    refine TL.q rfl .u (Ex.b1 0 rfl Try.isAgg4 rfl rfl) rfl ?_
    by_cases c33 : a0.fAppend = true
    · replace h := ifT c33 h
      refine TL.run ft_batch_ok [2, 3] rfl rfl ?_
      refine TL.no rfl (.gn rfl rfl (bn_f c33)) rfl ?_
      refine TL.no rfl (.gn rfl rfl (bn_f c33)) rfl ?_
      refine TL.no rfl (.gn rfl rfl (bn_f c33)) rfl ?_
      refine TL.no rfl (.gn rfl rfl (bn_f c33)) rfl ?_
      refine TL.q rfl .u (Ex.pn rfl (bn_f c33) rfl) rfl ?_
      refine TL.nil (X.seq ?_)
      refine T.no rfl rfl ?_
      refine T.skip (X.seq (T.seq (T.region rfl ?_)))
      refine TL.run ft_batch_ok [0] rfl rfl ?_
      obtain rfl := Option.some.inj h
      exact TL.nil (X.seq (T.ret (X.done1 [1] Try.results47 (RV.tm rfl) ⟨rfl, rfl, rfl⟩ (by rfl) (.inl rfl))))
    · replace h := ifF c33 h
      replace c33 := eq_false_of_ne_true c33
      refine TL.run ft_batch_ok [2, 3] rfl rfl ?_
      refine TL.q rfl (.g rfl rfl (bn_t c33)) (Ex.ft ft_batch_ok rfl) rfl ?_
      refine TL.q rfl (.g rfl rfl (bn_t c33)) (Ex.ft ft_batch_ok rfl) rfl ?_
      refine TL.q rfl (.g rfl rfl (bn_t c33)) (Ex.b1 0 rfl Try.isAgg3 rfl rfl) rfl ?_
      refine TL.q rfl (.g rfl rfl (bn_t c33)) (Ex.ft ft_batch_ok rfl) rfl ?_
      refine TL.q rfl .u (Ex.py rfl (bn_t c33) rfl) rfl ?_
      by_cases c34 : y6 = a0.fMax
      · replace h := ifT c34 h
        refine TL.nil (X.seq ?_)
        refine T.no rfl (bn_f (decide_eq_true c34)) ?_
        refine T.skip (X.seq (T.seq (T.region rfl ?_)))
        refine TL.run ft_batch_ok [0] rfl rfl ?_
        obtain rfl := Option.some.inj h
        exact TL.nil (X.seq (T.ret (X.done1 [1] Try.results47 (RV.tm rfl) ⟨rfl, rfl, rfl⟩ (by rfl) (.inl rfl))))
      · replace h := ifF c34 h
        refine TL.nil (X.seq ?_)
        refine T.yes rfl (bn_t (decide_eq_false c34)) ?_
        refine T.seq (T.region rfl ?_)
        refine TL.run ft_batch_ok [0] rfl rfl ?_
        obtain rfl := Option.some.inj h
        exact TL.nil (X.seq (T.ret (X.rs (X.done1 [1] Try.results47 (RV.tm rfl) ⟨rfl, rfl, rfl⟩ (by rfl) (.inl rfl)))))
  | succ m11 =>
    have h := hl13
    clear hl13
    obtain ⟨x12, hxx12⟩ : ∃ x, a0.fRecords[k7]? = some x := ⟨_, List.getElem?_eq_getElem (by omega)⟩
    rw [drop_cons hxx12, f_batch_records_l1] at h
    have hk14lt : (k7 : Int) < (a0.fRecords.length : Int) := by omega
    refine T.seq (T.region rfl ?_)
    refine TL.run ft_batch_ok [0] rfl rfl ?_
    refine TL.nil (X.seq (T.seq ?_))
    refine T.yes rfl (decide_eq_true hk14lt) ?_
    obtain ⟨gz15, oz15, rfl, z15cs, z15cl, z15cc, z15nf, z15r⟩ := RX.elem (by decide) hX hxx12
    obtain ⟨z15S, z15r, z15rr⟩ := z15r
    obtain ⟨A16, c17, rfl, z15s0⟩ := z15r
    have hX18 : (RX.of (sliceRd 3 Hd_rd) [.slice A16 x12.fHeaders.length c17] x12.fHeaders).reads w F := ⟨z15S, z15s0, z15rr⟩
    refine T.skip (X.seq (T.seq (T.block (T.seq (T.region rfl ?_)))))
    refine TL.q rfl .u (Ex.ixS (k := k7) rfl rfl rfl Try.runUnderlying34 Try.sizeOf83 (List.getElem?_eq_some_iff.1 hxx12).1) rfl ?_
    refine TL.q rfl .u (Ex.oS (us := [.int .i64 x12.fTime, .int .i64 x12.fOffset, .bool x12.fKey.null, .string (bsOf x12.fKey.data), .bool x12.fValue.null, .string (bsOf x12.fValue.data), .slice A16 x12.fHeaders.length c17]) 0 rfl Try.isAgg83 Try.sizeOf83 z15nf z15cc rfl rfl rfl) rfl ?_
    refine TL.alloc rfl .u Try.zeroValue83 rfl (fun b19 => ?_)
    refine TL.st0 (cs' := #[.int .i64 x12.fTime, .int .i64 x12.fOffset, .bool x12.fKey.null, .string (bsOf x12.fKey.data), .bool x12.fValue.null, .string (bsOf x12.fValue.data), .slice A16 x12.fHeaders.length c17]) rfl .u rfl rfl Try.sizeOf83 rfl rfl rfl rfl ?_
    refine TL.nil (X.seq (T.seq (T.seq (T.region rfl ?_))))
    refine TL.run ft_batch_ok [0] rfl rfl ?_
    refine TL.q rfl .u (Ex.b1 0 rfl Try.isAgg3 rfl rfl) rfl ?_
    by_cases c20 : x12.fOffset ≤ y5
    · replace h := ifT c20 h
      refine TL.run ft_batch_ok [2, 3, 4] rfl rfl ?_
      refine TL.no rfl (.gn rfl rfl (decide_eq_true c20)) rfl ?_
      refine TL.no rfl (.gn rfl rfl (decide_eq_true c20)) rfl ?_
      refine TL.no rfl (.gn rfl rfl (decide_eq_true c20)) rfl ?_
      refine TL.no rfl (.gn rfl rfl (decide_eq_true c20)) rfl ?_
      refine TL.no rfl (.gn rfl rfl (decide_eq_true c20)) rfl ?_
      refine TL.q rfl .u (Ex.py rfl (decide_eq_true c20) rfl) rfl ?_
      refine TL.nil (X.seq ?_)
      refine T.yes rfl rfl ?_
      refine T.seq (T.region rfl ?_)
      refine TL.run ft_batch_ok [0] rfl rfl ?_
      obtain rfl := Option.some.inj h
      replace h := hO10
      clear hO10
      try dsimp only at h
      obtain rfl := Option.some.inj h
      exact TL.nil (X.seq (T.ret (X.rs (X.rb (X.rs (X.rs (X.rb (X.rs (X.done1 [2] Try.results47 (RV.tm rfl) ⟨rfl, rfl, rfl⟩ (by rfl) (.inl rfl))))))))))
    · replace h := ifF c20 h
      refine TL.run ft_batch_ok [2, 3, 4] rfl rfl ?_
      refine TL.q rfl (.g rfl rfl (decide_eq_false c20)) (Ex.ft ft_batch_ok rfl) rfl ?_
      refine TL.q rfl (.g rfl rfl (decide_eq_false c20)) (Ex.b1 0 rfl Try.isAgg3 rfl rfl) rfl ?_
      refine TL.q rfl (.g rfl rfl (decide_eq_false c20)) (Ex.ft ft_batch_ok rfl) rfl ?_
      refine TL.q rfl (.g rfl rfl (decide_eq_false c20)) (Ex.b1 1 rfl Try.isAgg3 rfl rfl) rfl ?_
      refine TL.q rfl (.g rfl rfl (decide_eq_false c20)) (Ex.ft ft_batch_ok rfl) rfl ?_
      refine TL.q rfl .u (Ex.pn rfl (decide_eq_false c20) rfl) rfl ?_
      by_cases c21 : x12.fOffset > a0.fLast
      · replace h := ifT c21 h
        refine TL.nil (X.seq ?_)
        refine T.yes rfl (decide_eq_true c21) ?_
        refine T.seq (T.region rfl ?_)
        refine TL.run ft_batch_ok [0] rfl rfl ?_
        obtain rfl := Option.some.inj h
        replace h := hO10
        clear hO10
        try dsimp only at h
        obtain rfl := Option.some.inj h
        exact TL.nil (X.seq (T.ret (X.rs (X.rb (X.rs (X.rs (X.rb (X.rs (X.done1 [2] Try.results47 (RV.tm rfl) ⟨rfl, rfl, rfl⟩ (by rfl) (.inl rfl))))))))))
      · replace h := ifF c21 h
        refine TL.nil (X.seq ?_)
        refine T.no rfl (decide_eq_false c21) ?_
        refine T.skip (X.seq (T.seq (T.region rfl ?_)))
        refine TL.run ft_batch_ok [0] rfl rfl ?_
        refine TL.q rfl .u (Ex.b1 0 rfl Try.isAgg3 rfl rfl) rfl ?_
        refine TL.run ft_batch_ok [2] rfl rfl ?_
        refine TL.nil (X.seq (T.seq (T.region rfl ?_)))
        refine TL.run ft_batch_ok [0] rfl rfl ?_
        refine TL.q rfl .u (Ex.b1 1 rfl Try.isAgg3 rfl rfl) rfl ?_
        refine TL.run ft_batch_ok [2] rfl rfl ?_
        refine TL.q rfl .u (Ex.b1 0 rfl Try.isAgg3 rfl rfl) rfl ?_
        refine TL.q rfl .u (Ex.addw rfl rfl) rfl ?_
        refine TL.run ft_batch_ok [5] rfl rfl ?_
        refine TL.nil (X.seq (T.seq (T.seq (T.region rfl ?_))))
        by_cases c22 : (IntKind.i64.wrap (a0.fFirst + x12.fTime)) < 0
        · replace h := ifT c22 h
          refine TL.run ft_batch_ok [0, 1, 2] rfl rfl ?_
          refine TL.no rfl (.gn rfl rfl (decide_eq_true c22)) rfl ?_
          refine TL.no rfl (.gn rfl rfl (decide_eq_true c22)) rfl ?_
          refine TL.no rfl (.gn rfl rfl (decide_eq_true c22)) rfl ?_
          refine TL.no rfl (.gn rfl rfl (decide_eq_true c22)) rfl ?_
          refine TL.no rfl (.gu rfl rfl) rfl ?_
          refine TL.no rfl (.gu rfl rfl) rfl ?_
          refine TL.no rfl (.gu rfl rfl) rfl ?_
          refine TL.no rfl (.gu rfl rfl) rfl ?_
          refine TL.no rfl (.gn rfl rfl (decide_eq_true c22)) rfl ?_
          refine TL.q rfl .u (Ex.py rfl (decide_eq_true c22) rfl) rfl ?_
          refine TL.nil (X.seq ?_)
          refine T.yes rfl rfl ?_
          refine T.seq (T.region rfl ?_)
          refine TL.run ft_batch_ok [0] rfl rfl ?_
          obtain rfl := Option.some.inj h
          replace h := hO10
          clear hO10
          try dsimp only at h
          obtain rfl := Option.some.inj h
          exact TL.nil (X.seq (T.ret (X.rs (X.rb (X.rs (X.rs (X.rb (X.rs (X.done1 [2] Try.results47 (RV.tm rfl) ⟨rfl, rfl, rfl⟩ (by rfl) (.inl rfl))))))))))
        · replace h := ifF c22 h
          refine TL.run ft_batch_ok [0, 1, 2] rfl rfl ?_
          refine TL.q rfl (.g rfl rfl (decide_eq_false c22)) (Ex.ft ft_batch_ok rfl) rfl ?_
          refine TL.q rfl (.g rfl rfl (decide_eq_false c22)) (Ex.b1 0 rfl Try.isAgg3 rfl rfl) rfl ?_
          refine TL.q rfl (.g rfl rfl (decide_eq_false c22)) (Ex.ft ft_batch_ok rfl) rfl ?_
          refine TL.q rfl (.g rfl rfl (decide_eq_false c22)) (Ex.ft ft_batch_ok rfl) rfl ?_
          by_cases c23 : x12.fTime > 0
          · replace h := ifT c23 h
            refine TL.q rfl (.g rfl rfl (decide_eq_true c23)) (Ex.ft ft_batch_ok rfl) rfl ?_
            refine TL.q rfl (.g rfl rfl (decide_eq_true c23)) (Ex.ft ft_batch_ok rfl) rfl ?_
            refine TL.q rfl (.g rfl rfl (decide_eq_true c23)) (Ex.b1 0 rfl Try.isAgg3 rfl rfl) rfl ?_
            refine TL.q rfl (.g rfl rfl (decide_eq_true c23)) (Ex.ft ft_batch_ok rfl) rfl ?_
            refine TL.q rfl (.g rfl rfl (decide_eq_false c22)) (Ex.py rfl (decide_eq_true c23) rfl) rfl ?_
            refine TL.q rfl .u (Ex.pn rfl (decide_eq_false c22) rfl) rfl ?_
            by_cases c24 : (IntKind.i64.wrap (a0.fFirst + x12.fTime)) < x12.fTime
            · replace h := ifT c24 h
              refine TL.nil (X.seq ?_)
              refine T.yes rfl (decide_eq_true c24) ?_
              refine T.seq (T.region rfl ?_)
              refine TL.run ft_batch_ok [0] rfl rfl ?_
              obtain rfl := Option.some.inj h
              replace h := hO10
              clear hO10
              try dsimp only at h
              obtain rfl := Option.some.inj h
              exact TL.nil (X.seq (T.ret (X.rs (X.rb (X.rs (X.rs (X.rb (X.rs (X.done1 [2] Try.results47 (RV.tm rfl) ⟨rfl, rfl, rfl⟩ (by rfl) (.inl rfl))))))))))
            · replace h := ifF c24 h
              refine TL.nil (X.seq ?_)
              refine T.no rfl (decide_eq_false c24) ?_
              refine T.skip (X.seq (T.region rfl ?_))
              by_cases c25 : y6 < (IntKind.i64.wrap (a0.fFirst + x12.fTime))
              · replace h := ifT c25 h
                refine TL.run ft_batch_ok [0, 1] rfl rfl ?_
                refine TL.q rfl .u (Ex.maxy rfl rfl c25) rfl ?_
                refine TL.run ft_batch_ok [3] rfl rfl ?_
                refine TL.nil (X.blk (X.seq (T.region rfl ?_)))
                refine TL.q rfl .u (Ex.add rfl rfl (by omega)) rfl ?_
                refine TL.run ft_batch_ok [1] rfl rfl ?_
                exact TL.nil (X.back (m' := m11) [1, 1] (by omega) ⟨y4, x12.fOffset, (IntKind.i64.wrap (a0.fFirst + x12.fTime)), k7 + 1, by omega, rfl, rfl, h⟩ (by rfl) (by rfl))
              · replace h := ifF c25 h
                refine TL.run ft_batch_ok [0, 1] rfl rfl ?_
                refine TL.q rfl .u (Ex.maxx rfl rfl c25) rfl ?_
                refine TL.run ft_batch_ok [3] rfl rfl ?_
                refine TL.nil (X.blk (X.seq (T.region rfl ?_)))
                refine TL.q rfl .u (Ex.add rfl rfl (by omega)) rfl ?_
                refine TL.run ft_batch_ok [1] rfl rfl ?_
                exact TL.nil (X.back (m' := m11) [1, 1] (by omega) ⟨y4, x12.fOffset, y6, k7 + 1, by omega, rfl, rfl, h⟩ (by rfl) (by rfl))
          · replace h := ifF c23 h
            refine TL.no rfl (.gn rfl rfl (decide_eq_false c23)) rfl ?_
            refine TL.no rfl (.gn rfl rfl (decide_eq_false c23)) rfl ?_
            refine TL.no rfl (.gn rfl rfl (decide_eq_false c23)) rfl ?_
            refine TL.no rfl (.gn rfl rfl (decide_eq_false c23)) rfl ?_
            refine TL.q rfl (.g rfl rfl (decide_eq_false c22)) (Ex.pn rfl (decide_eq_false c23) rfl) rfl ?_
            refine TL.q rfl .u (Ex.pn rfl (decide_eq_false c22) rfl) rfl ?_
            refine TL.nil (X.seq ?_)
            refine T.no rfl rfl ?_
            refine T.skip (X.seq (T.region rfl ?_))
            by_cases c26 : y6 < (IntKind.i64.wrap (a0.fFirst + x12.fTime))
            · replace h := ifT c26 h
              refine TL.run ft_batch_ok [0, 1] rfl rfl ?_
              refine TL.q rfl .u (Ex.maxy rfl rfl c26) rfl ?_
              refine TL.run ft_batch_ok [3] rfl rfl ?_
              refine TL.nil (X.blk (X.seq (T.region rfl ?_)))
              refine TL.q rfl .u (Ex.add rfl rfl (by omega)) rfl ?_
              refine TL.run ft_batch_ok [1] rfl rfl ?_
              exact TL.nil (X.back (m' := m11) [1, 1] (by omega) ⟨y4, x12.fOffset, (IntKind.i64.wrap (a0.fFirst + x12.fTime)), k7 + 1, by omega, rfl, rfl, h⟩ (by rfl) (by rfl))
            · replace h := ifF c26 h
              refine TL.run ft_batch_ok [0, 1] rfl rfl ?_
              refine TL.q rfl .u (Ex.maxx rfl rfl c26) rfl ?_
              refine TL.run ft_batch_ok [3] rfl rfl ?_
              refine TL.nil (X.blk (X.seq (T.region rfl ?_)))
              refine TL.q rfl .u (Ex.add rfl rfl (by omega)) rfl ?_
              refine TL.run ft_batch_ok [1] rfl rfl ?_
              exact TL.nil (X.back (m' := m11) [1, 1] (by omega) ⟨y4, x12.fOffset, y6, k7 + 1, by omega, rfl, rfl, h⟩ (by rfl) (by rfl))
def f_batch_Check_l1 : List Rec → Int → Option (Lp Int Int)
  | [], y13 => some (Lp.go y13)
  | x19 :: xs, y13 => (f_record_Right x19).bind fun x27 => if x27 = 0 then (f_batch_Check_l1 xs y13) else some (Lp.ret x27)
def f_batch_Check_l2 : List Rec → Int → Option (Lp Int Int)
  | [], y61 => some (Lp.go y61)
  | x67 :: xs, y61 => (f_record_Right x67).bind fun x75 => if x75 = 0 then (f_batch_Check_l2 xs y61) else some (Lp.ret x75)
def f_batch_Check (a0 : Bat) : Option (Int) := (f_batch_numbers a0).bind fun x4 => if x4 = true then (if a0.fControl = true then (if a0.fTxn = true then ((f_batch_producer a0).bind fun x9 => if x9 = true then (if (a0.fRecords.length : Int) = 1 then ((f_batch_Check_l1 a0.fRecords 0).bind fun e => match e with | .ret r => some r | .go y30 => ((a0.fRecords[0]?).bind fun x32 => (f_control_Read x32).bind fun (x38, x39, x40) => if x40 = 0 then ((f_batch_records a0).bind fun x43 => some x43) else some x40)) else some 10) else some 11) else some 8) else ((f_batch_producer a0).bind fun x58 => if x58 = true then ((f_batch_Check_l2 a0.fRecords 0).bind fun e => match e with | .ret r => some r | .go y78 => ((f_batch_records a0).bind fun x80 => some x80)) else some 11)) else some 11
set_option maxRecDepth 100000 in
set_option maxHeartbeats 4000000 in
theorem f_batch_Check_spec (a0 : Bat) (A1 : Option Addr) (c2 : Nat) (r : Int) (h : f_batch_Check a0 = some r) : SpecX Try.prog 26 #[.agg #[.int .i64 a0.fBase, .int .i64 a0.fLeader, .bool a0.fAppend, .bool a0.fTxn, .bool a0.fControl, .int .i64 a0.fLast, .int .i64 a0.fFirst, .int .i64 a0.fMax, .int .i64 a0.fProducer, .int .i64 a0.fEpoch, .int .i64 a0.fSequence, .slice A1 a0.fRecords.length c2]] (RX.of (sliceRd 7 Rec_rd) [.slice A1 a0.fRecords.length c2] a0.fRecords) (EmpR) (fun v A' N => v = .int .i64 r ∧ A' = EmpR ∧ N = []) := by
  refine enterA Try.func26 rfl Try.ntmps26 rfl ?_
  intro F w hX
  unfold f_batch_Check at h
  refine T.seq (T.region rfl ?_)
  refine TL.box rfl .u rfl rfl (fun b3 => ?_)
  refine TL.run ft_batch_ok [1] rfl rfl ?_
  refine TL.nil (X.seq (T.seq (T.block (T.seq (T.region rfl ?_)))))
  refine TL.q rfl .u (Ex.bS (us := [.int .i64 a0.fBase, .int .i64 a0.fLeader, .bool a0.fAppend, .bool a0.fTxn, .bool a0.fControl, .int .i64 a0.fLast, .int .i64 a0.fFirst, .int .i64 a0.fMax, .int .i64 a0.fProducer, .int .i64 a0.fEpoch, .int .i64 a0.fSequence, .slice A1 a0.fRecords.length c2]) 0 rfl Try.isAgg36 Try.sizeOf36 rfl rfl rfl) rfl ?_
  obtain ⟨x4, hx5, h⟩ := Option.bind_eq_some_iff.1 h
  refine TL.ce rfl .u (.fn Try.call43 rfl) (f_batch_numbers_spec a0 _ _ _ hx5) (fun _ hs => (SrcE.old hs hX)) rfl ?_
  refine TL.run ft_batch_ok [2, 3] rfl rfl ?_
  by_cases c6 : x4 = true
  · replace h := ifT c6 h
    refine TL.nil (X.seq ?_)
    refine T.no rfl (bn_f c6) ?_
    refine T.seq (T.region rfl ?_)
    refine TL.run ft_batch_ok [0] rfl rfl ?_
    refine TL.q rfl .u (Ex.b1 0 rfl Try.isAgg4 rfl rfl) rfl ?_
    by_cases c7 : a0.fControl = true
    · replace h := ifT c7 h
      refine TL.run ft_batch_ok [2] rfl rfl ?_
      refine TL.q rfl (.g rfl rfl c7) (Ex.ft ft_batch_ok rfl) rfl ?_
      refine TL.q rfl (.g rfl rfl c7) (Ex.b1 0 rfl Try.isAgg4 rfl rfl) rfl ?_
      refine TL.q rfl (.g rfl rfl c7) (Ex.ft ft_batch_ok rfl) rfl ?_
      refine TL.q rfl .u (Ex.py rfl c7 rfl) rfl ?_
      refine TL.run ft_batch_ok [7] rfl rfl ?_
      by_cases c8 : a0.fTxn = true
      · replace h := ifT c8 h
        refine TL.nil (X.seq ?_)
        refine T.no rfl (bn_f c8) ?_
        refine T.seq (T.region rfl ?_)
        refine TL.q rfl .u (Ex.bS (us := [.int .i64 a0.fBase, .int .i64 a0.fLeader, .bool a0.fAppend, .bool a0.fTxn, .bool a0.fControl, .int .i64 a0.fLast, .int .i64 a0.fFirst, .int .i64 a0.fMax, .int .i64 a0.fProducer, .int .i64 a0.fEpoch, .int .i64 a0.fSequence, .slice A1 a0.fRecords.length c2]) 0 rfl Try.isAgg36 Try.sizeOf36 rfl rfl rfl) rfl ?_
        obtain ⟨x9, hx10, h⟩ := Option.bind_eq_some_iff.1 h
        refine TL.ce rfl .u (.fn Try.call44 rfl) (f_batch_producer_spec a0 _ _ _ hx10) (fun _ hs => (SrcE.old hs hX)) rfl ?_
        refine TL.run ft_batch_ok [2, 3] rfl rfl ?_
        by_cases c11 : x9 = true
        · replace h := ifT c11 h
          refine TL.nil (X.seq ?_)
          refine T.no rfl (bn_f c11) ?_
          refine T.seq (T.region rfl ?_)
          refine TL.run ft_batch_ok [0] rfl rfl ?_
          refine TL.q rfl .u (Ex.b1 0 rfl Try.isAgg4 rfl rfl) rfl ?_
          refine TL.run ft_batch_ok [2] rfl rfl ?_
          refine TL.q rfl (.g rfl rfl c7) (Ex.ft ft_batch_ok rfl) rfl ?_
          refine TL.q rfl (.g rfl rfl c7) (Ex.b1 0 rfl Try.isAgg34 rfl rfl) rfl ?_
          refine TL.q rfl (.g rfl rfl c7) (Ex.lenS rfl Try.runUnderlying34) rfl ?_
          refine TL.q rfl (.g rfl rfl c7) (Ex.ft ft_batch_ok rfl) rfl ?_
          refine TL.q rfl .u (Ex.py rfl c7 rfl) rfl ?_
          refine TL.run ft_batch_ok [8] rfl rfl ?_
          by_cases c12 : (a0.fRecords.length : Int) = 1
          · replace h := ifT c12 h
            refine TL.nil (X.seq ?_)
            refine T.no rfl (bn_f (decide_eq_true c12)) ?_
            refine T.skip (X.blk (X.seq (T.seq (T.seq (T.region rfl ?_)))))
            refine TL.run ft_batch_ok [0] rfl rfl ?_
            refine TL.q rfl .u (Ex.b1 0 rfl Try.isAgg34 rfl rfl) rfl ?_
            refine TL.q rfl .u (Ex.lenS rfl Try.runUnderlying34) rfl ?_
            refine TL.run ft_batch_ok [3] rfl rfl ?_
            refine TL.nil (X.seq (T.block ?_))
            obtain ⟨E15, hE16, hO17⟩ := Option.bind_eq_some_iff.1 h
            have hk21len := RX.len_le hX
            refine T.lp (fun m e Rs => ∃ (y13 : Int) (k14 : Nat), k14 + m = a0.fRecords.length ∧ e = [(1, .pointer (some ⟨b3, 0, none⟩)), (2, .int .i64 y13), (35, .slice A1 a0.fRecords.length c2), (36, .int .i64 (a0.fRecords.length : Int)), (37, .int .i64 (k14 : Int))] ∧ Rs = [BlkR b3 36 #[.int .i64 a0.fBase, .int .i64 a0.fLeader, .bool a0.fAppend, .bool a0.fTxn, .bool a0.fControl, .int .i64 a0.fLast, .int .i64 a0.fFirst, .int .i64 a0.fMax, .int .i64 a0.fProducer, .int .i64 a0.fEpoch, .int .i64 a0.fSequence, .slice A1 a0.fRecords.length c2], EmpR] ∧ f_batch_Check_l1 (a0.fRecords.drop k14) y13 = some E15) (a0.fRecords.length) [0, 0] ⟨0, 0, by simp, rfl, rfl, by rw [List.drop_zero]; exact hE16⟩ (by rfl) (by rfl) ?_
            rintro m18 _ _ ⟨y13, k14, hk21, rfl, rfl, hl20⟩
            clear hE16 h
            cases m18 with
            | zero =>
              have h := hl20
              clear hl20
              rw [List.drop_of_length_le (by omega), f_batch_Check_l1] at h
              have hk21ge : ¬ ((k14 : Int) < (a0.fRecords.length : Int)) := by omega
              refine T.seq (T.region rfl ?_)
              refine TL.run ft_batch_ok [0] rfl rfl ?_
              refine TL.nil (X.seq (T.seq ?_))
              refine T.no rfl (decide_eq_false hk21ge) ?_
              obtain rfl := Option.some.inj h
              replace h := hO17
              clear hO17
              try dsimp only at h
              refine T.exit (X.exs (X.exs (X.ex (X.seq (T.seq (T.seq (T.region rfl ?_)))))))
              refine TL.run ft_batch_ok [0] rfl rfl ?_
              refine TL.q rfl .u (Ex.b1 0 rfl Try.isAgg4 rfl rfl) rfl ?_
              refine TL.nil (X.seq ?_)
              refine T.yes rfl c7 ?_
              refine T.seq (T.region rfl ?_)
              refine TL.run ft_batch_ok [0] rfl rfl ?_
              refine TL.q rfl .u (Ex.b1 0 rfl Try.isAgg34 rfl rfl) rfl ?_
              obtain ⟨x45, hx46, h⟩ := Option.bind_eq_some_iff.1 h
              obtain ⟨gz47, oz47, rfl, z47cs, z47cl, z47cc, z47nf, z47r⟩ := RX.elem (by decide) hX hx46
              obtain ⟨z47S, z47r, z47rr⟩ := z47r
              obtain ⟨A48, c49, rfl, z47s0⟩ := z47r
              have hX50 : (RX.of (sliceRd 3 Hd_rd) [.slice A48 x45.fHeaders.length c49] x45.fHeaders).reads w F := ⟨z47S, z47s0, z47rr⟩
              refine TL.q rfl .u (Ex.ixS (k := 0) rfl rfl rfl Try.runUnderlying34 Try.sizeOf83 (List.getElem?_eq_some_iff.1 hx46).1) rfl ?_
              refine TL.q rfl .u (Ex.oS (us := [.int .i64 x45.fTime, .int .i64 x45.fOffset, .bool x45.fKey.null, .string (bsOf x45.fKey.data), .bool x45.fValue.null, .string (bsOf x45.fValue.data), .slice A48 x45.fHeaders.length c49]) 0 rfl Try.isAgg83 Try.sizeOf83 z47nf z47cc rfl rfl rfl) rfl ?_
              obtain ⟨⟨x51, x52, x53⟩, hx54, h⟩ := Option.bind_eq_some_iff.1 h
              try dsimp only at h
              refine TL.ce rfl .u (.fn Try.call46 rfl) (f_control_Read_spec x45 _ _ _ hx54) (fun _ hs => (SrcE.old hs hX50)) rfl ?_
              refine TL.run ft_batch_ok [5, 6, 7, 8, 9, 10, 11] rfl rfl ?_
              refine TL.nil (X.seq (T.seq (T.region rfl ?_)))
              refine TL.run ft_batch_ok [0, 1] rfl rfl ?_
              by_cases c55 : x53 = 0
              · replace h := ifT c55 h
                refine TL.nil (X.seq ?_)
                refine T.no rfl (bn_f (decide_eq_true c55)) ?_
                refine T.skip (X.seq (T.seq (T.region rfl ?_)))
                refine TL.q rfl .u (Ex.bS (us := [.int .i64 a0.fBase, .int .i64 a0.fLeader, .bool a0.fAppend, .bool a0.fTxn, .bool a0.fControl, .int .i64 a0.fLast, .int .i64 a0.fFirst, .int .i64 a0.fMax, .int .i64 a0.fProducer, .int .i64 a0.fEpoch, .int .i64 a0.fSequence, .slice (some ⟨gz47, oz47, none⟩) a0.fRecords.length c2]) 0 rfl Try.isAgg36 Try.sizeOf36 rfl rfl rfl) rfl ?_
                obtain ⟨x56, hx57, h⟩ := Option.bind_eq_some_iff.1 h
                refine TL.ce rfl .u (.fn Try.call47 rfl) (f_batch_records_spec a0 _ _ _ hx57) (fun _ hs => (SrcE.old hs hX)) rfl ?_
                refine TL.run ft_batch_ok [2] rfl rfl ?_
                obtain rfl := Option.some.inj h
                exact TL.nil (X.seq (T.ret (X.done1 [1] Try.results26 (RV.tm rfl) ⟨rfl, rfl, rfl⟩ (by rfl) (.inl rfl))))
              · replace h := ifF c55 h
                refine TL.nil (X.seq ?_)
                refine T.yes rfl (bn_t (decide_eq_false c55)) ?_
                refine T.seq (T.region rfl ?_)
                refine TL.run ft_batch_ok [0, 1] rfl rfl ?_
                obtain rfl := Option.some.inj h
                exact TL.nil (X.seq (T.ret (X.rs (X.done1 [1] Try.results26 (RV.tm rfl) ⟨rfl, rfl, rfl⟩ (by rfl) (.inl rfl)))))
            | succ m18 =>
              have h := hl20
              clear hl20
              obtain ⟨x19, hxx19⟩ : ∃ x, a0.fRecords[k14]? = some x := ⟨_, List.getElem?_eq_getElem (by omega)⟩
              rw [drop_cons hxx19, f_batch_Check_l1] at h
              have hk21lt : (k14 : Int) < (a0.fRecords.length : Int) := by omega
              refine T.seq (T.region rfl ?_)
              refine TL.run ft_batch_ok [0] rfl rfl ?_
              refine TL.nil (X.seq (T.seq ?_))
              refine T.yes rfl (decide_eq_true hk21lt) ?_
              obtain ⟨gz22, oz22, rfl, z22cs, z22cl, z22cc, z22nf, z22r⟩ := RX.elem (by decide) hX hxx19
              obtain ⟨z22S, z22r, z22rr⟩ := z22r
              obtain ⟨A23, c24, rfl, z22s0⟩ := z22r
              have hX25 : (RX.of (sliceRd 3 Hd_rd) [.slice A23 x19.fHeaders.length c24] x19.fHeaders).reads w F := ⟨z22S, z22s0, z22rr⟩
              refine T.skip (X.seq (T.seq (T.block (T.seq (T.region rfl ?_)))))
              refine TL.q rfl .u (Ex.ixS (k := k14) rfl rfl rfl Try.runUnderlying34 Try.sizeOf83 (List.getElem?_eq_some_iff.1 hxx19).1) rfl ?_
              refine TL.q rfl .u (Ex.oS (us := [.int .i64 x19.fTime, .int .i64 x19.fOffset, .bool x19.fKey.null, .string (bsOf x19.fKey.data), .bool x19.fValue.null, .string (bsOf x19.fValue.data), .slice A23 x19.fHeaders.length c24]) 0 rfl Try.isAgg83 Try.sizeOf83 z22nf z22cc rfl rfl rfl) rfl ?_
              refine TL.alloc rfl .u Try.zeroValue83 rfl (fun b26 => ?_)
              refine TL.st0 (cs' := #[.int .i64 x19.fTime, .int .i64 x19.fOffset, .bool x19.fKey.null, .string (bsOf x19.fKey.data), .bool x19.fValue.null, .string (bsOf x19.fValue.data), .slice A23 x19.fHeaders.length c24]) rfl .u rfl rfl Try.sizeOf83 rfl rfl rfl rfl ?_
              refine TL.nil (X.seq (T.seq (T.region rfl ?_)))
              refine TL.q rfl .u (Ex.bS (us := [.int .i64 x19.fTime, .int .i64 x19.fOffset, .bool x19.fKey.null, .string (bsOf x19.fKey.data), .bool x19.fValue.null, .string (bsOf x19.fValue.data), .slice A23 x19.fHeaders.length c24]) 0 rfl Try.isAgg83 Try.sizeOf83 rfl rfl rfl) rfl ?_
              obtain ⟨x27, hx28, h⟩ := Option.bind_eq_some_iff.1 h
              refine TL.ce rfl .u (.fn Try.call45 rfl) (f_record_Right_spec x19 _ _ _ hx28) (fun _ hs => (SrcE.old hs hX25)) rfl ?_
              refine TL.run ft_batch_ok [2] rfl rfl ?_
              refine TL.nil (X.seq (T.seq (T.region rfl ?_)))
              refine TL.run ft_batch_ok [0, 1] rfl rfl ?_
              by_cases c29 : x27 = 0
              · replace h := ifT c29 h
                refine TL.nil (X.seq ?_)
                refine T.no rfl (bn_f (decide_eq_true c29)) ?_
                refine T.skip (X.blk (X.seq (T.region rfl ?_)))
                refine TL.q rfl .u (Ex.add rfl rfl (by omega)) rfl ?_
                refine TL.run ft_batch_ok [1] rfl rfl ?_
                exact TL.nil (X.back (m' := m18) [1, 1] (by omega) ⟨y13, k14 + 1, by omega, rfl, rfl, h⟩ (by rfl) (by rfl))
              · replace h := ifF c29 h
                refine TL.nil (X.seq ?_)
                refine T.yes rfl (bn_t (decide_eq_false c29)) ?_
                refine T.seq (T.region rfl ?_)
                refine TL.run ft_batch_ok [0, 1] rfl rfl ?_
                obtain rfl := Option.some.inj h
                replace h := hO17
                clear hO17
                try dsimp only at h
                obtain rfl := Option.some.inj h
                exact TL.nil (X.seq (T.ret (X.rb (X.rs (X.rs (X.rb (X.rs (X.done1 [2] Try.results26 (RV.tm rfl) ⟨rfl, rfl, rfl⟩ (by rfl) (.inl rfl)))))))))
          · replace h := ifF c12 h
            refine TL.nil (X.seq ?_)
            refine T.yes rfl (bn_t (decide_eq_false c12)) ?_
            refine T.seq (T.region rfl ?_)
            refine TL.run ft_batch_ok [0] rfl rfl ?_
            obtain rfl := Option.some.inj h
            exact TL.nil (X.seq (T.ret (X.rb (X.rs (X.done1 [1] Try.results26 (RV.tm rfl) ⟨rfl, rfl, rfl⟩ (by rfl) (.inl rfl))))))
        · replace h := ifF c11 h
          replace c11 := eq_false_of_ne_true c11
          refine TL.nil (X.seq ?_)
          refine T.yes rfl (bn_t c11) ?_
          refine T.seq (T.region rfl ?_)
          refine TL.run ft_batch_ok [0] rfl rfl ?_
          obtain rfl := Option.some.inj h
          exact TL.nil (X.seq (T.ret (X.rb (X.rs (X.done1 [1] Try.results26 (RV.tm rfl) ⟨rfl, rfl, rfl⟩ (by rfl) (.inl rfl))))))
      · replace h := ifF c8 h
        replace c8 := eq_false_of_ne_true c8
        refine TL.nil (X.seq ?_)
        refine T.yes rfl (bn_t c8) ?_
        refine T.seq (T.region rfl ?_)
        refine TL.run ft_batch_ok [0] rfl rfl ?_
        obtain rfl := Option.some.inj h
        exact TL.nil (X.seq (T.ret (X.rb (X.rs (X.done1 [1] Try.results26 (RV.tm rfl) ⟨rfl, rfl, rfl⟩ (by rfl) (.inl rfl))))))
    · replace h := ifF c7 h
      replace c7 := eq_false_of_ne_true c7
      refine TL.run ft_batch_ok [2] rfl rfl ?_
      refine TL.no rfl (.gn rfl rfl c7) rfl ?_
      refine TL.no rfl (.gn rfl rfl c7) rfl ?_
      refine TL.no rfl (.gn rfl rfl c7) rfl ?_
      refine TL.q rfl .u (Ex.pn rfl c7 rfl) rfl ?_
      refine TL.run ft_batch_ok [7] rfl rfl ?_
      refine TL.nil (X.seq ?_)
      refine T.no rfl rfl ?_
      refine T.seq (T.region rfl ?_)
      refine TL.q rfl .u (Ex.bS (us := [.int .i64 a0.fBase, .int .i64 a0.fLeader, .bool a0.fAppend, .bool a0.fTxn, .bool a0.fControl, .int .i64 a0.fLast, .int .i64 a0.fFirst, .int .i64 a0.fMax, .int .i64 a0.fProducer, .int .i64 a0.fEpoch, .int .i64 a0.fSequence, .slice A1 a0.fRecords.length c2]) 0 rfl Try.isAgg36 Try.sizeOf36 rfl rfl rfl) rfl ?_
      obtain ⟨x58, hx59, h⟩ := Option.bind_eq_some_iff.1 h
      refine TL.ce rfl .u (.fn Try.call44 rfl) (f_batch_producer_spec a0 _ _ _ hx59) (fun _ hs => (SrcE.old hs hX)) rfl ?_
      refine TL.run ft_batch_ok [2, 3] rfl rfl ?_
      by_cases c60 : x58 = true
      · replace h := ifT c60 h
        refine TL.nil (X.seq ?_)
        refine T.no rfl (bn_f c60) ?_
        refine T.seq (T.region rfl ?_)
        refine TL.run ft_batch_ok [0] rfl rfl ?_
        refine TL.q rfl .u (Ex.b1 0 rfl Try.isAgg4 rfl rfl) rfl ?_
        refine TL.run ft_batch_ok [2] rfl rfl ?_
        refine TL.no rfl (.gn rfl rfl c7) rfl ?_
        refine TL.no rfl (.gn rfl rfl c7) rfl ?_
        refine TL.no rfl (.gn rfl rfl c7) rfl ?_
        refine TL.no rfl (.gn rfl rfl c7) rfl ?_
        refine TL.q rfl .u (Ex.pn rfl c7 rfl) rfl ?_
        refine TL.run ft_batch_ok [8] rfl rfl ?_
        refine TL.nil (X.seq ?_)
        refine T.no rfl rfl ?_
        refine T.skip (X.blk (X.seq (T.seq (T.seq (T.region rfl ?_)))))
        refine TL.run ft_batch_ok [0] rfl rfl ?_
        refine TL.q rfl .u (Ex.b1 0 rfl Try.isAgg34 rfl rfl) rfl ?_
        refine TL.q rfl .u (Ex.lenS rfl Try.runUnderlying34) rfl ?_
        refine TL.run ft_batch_ok [3] rfl rfl ?_
        refine TL.nil (X.seq (T.block ?_))
        obtain ⟨E63, hE64, hO65⟩ := Option.bind_eq_some_iff.1 h
        have hk69len := RX.len_le hX
        refine T.lp (fun m e Rs => ∃ (y61 : Int) (k62 : Nat), k62 + m = a0.fRecords.length ∧ e = [(1, .pointer (some ⟨b3, 0, none⟩)), (2, .int .i64 y61), (35, .slice A1 a0.fRecords.length c2), (36, .int .i64 (a0.fRecords.length : Int)), (37, .int .i64 (k62 : Int))] ∧ Rs = [BlkR b3 36 #[.int .i64 a0.fBase, .int .i64 a0.fLeader, .bool a0.fAppend, .bool a0.fTxn, .bool a0.fControl, .int .i64 a0.fLast, .int .i64 a0.fFirst, .int .i64 a0.fMax, .int .i64 a0.fProducer, .int .i64 a0.fEpoch, .int .i64 a0.fSequence, .slice A1 a0.fRecords.length c2], EmpR] ∧ f_batch_Check_l2 (a0.fRecords.drop k62) y61 = some E63) (a0.fRecords.length) [0, 0] ⟨0, 0, by simp, rfl, rfl, by rw [List.drop_zero]; exact hE64⟩ (by rfl) (by rfl) ?_
        rintro m66 _ _ ⟨y61, k62, hk69, rfl, rfl, hl68⟩
        clear hE64 h
        cases m66 with
        | zero =>
          have h := hl68
          clear hl68
          rw [List.drop_of_length_le (by omega), f_batch_Check_l2] at h
          have hk69ge : ¬ ((k62 : Int) < (a0.fRecords.length : Int)) := by omega
          refine T.seq (T.region rfl ?_)
          refine TL.run ft_batch_ok [0] rfl rfl ?_
          refine TL.nil (X.seq (T.seq ?_))
          refine T.no rfl (decide_eq_false hk69ge) ?_
          obtain rfl := Option.some.inj h
          replace h := hO65
          clear hO65
          try dsimp only at h
          refine T.exit (X.exs (X.exs (X.ex (X.seq (T.seq (T.seq (T.region rfl ?_)))))))
          refine TL.run ft_batch_ok [0] rfl rfl ?_
          refine TL.q rfl .u (Ex.b1 0 rfl Try.isAgg4 rfl rfl) rfl ?_
          refine TL.nil (X.seq ?_)
          refine T.no rfl c7 ?_
          refine T.skip (X.seq (T.seq (T.region rfl ?_)))
          refine TL.q rfl .u (Ex.bS (us := [.int .i64 a0.fBase, .int .i64 a0.fLeader, .bool a0.fAppend, .bool a0.fTxn, .bool a0.fControl, .int .i64 a0.fLast, .int .i64 a0.fFirst, .int .i64 a0.fMax, .int .i64 a0.fProducer, .int .i64 a0.fEpoch, .int .i64 a0.fSequence, .slice A1 a0.fRecords.length c2]) 0 rfl Try.isAgg36 Try.sizeOf36 rfl rfl rfl) rfl ?_
          obtain ⟨x82, hx83, h⟩ := Option.bind_eq_some_iff.1 h
          refine TL.ce rfl .u (.fn Try.call47 rfl) (f_batch_records_spec a0 _ _ _ hx83) (fun _ hs => (SrcE.old hs hX)) rfl ?_
          refine TL.run ft_batch_ok [2] rfl rfl ?_
          obtain rfl := Option.some.inj h
          exact TL.nil (X.seq (T.ret (X.done1 [1] Try.results26 (RV.tm rfl) ⟨rfl, rfl, rfl⟩ (by rfl) (.inl rfl))))
        | succ m66 =>
          have h := hl68
          clear hl68
          obtain ⟨x67, hxx67⟩ : ∃ x, a0.fRecords[k62]? = some x := ⟨_, List.getElem?_eq_getElem (by omega)⟩
          rw [drop_cons hxx67, f_batch_Check_l2] at h
          have hk69lt : (k62 : Int) < (a0.fRecords.length : Int) := by omega
          refine T.seq (T.region rfl ?_)
          refine TL.run ft_batch_ok [0] rfl rfl ?_
          refine TL.nil (X.seq (T.seq ?_))
          refine T.yes rfl (decide_eq_true hk69lt) ?_
          obtain ⟨gz70, oz70, rfl, z70cs, z70cl, z70cc, z70nf, z70r⟩ := RX.elem (by decide) hX hxx67
          obtain ⟨z70S, z70r, z70rr⟩ := z70r
          obtain ⟨A71, c72, rfl, z70s0⟩ := z70r
          have hX73 : (RX.of (sliceRd 3 Hd_rd) [.slice A71 x67.fHeaders.length c72] x67.fHeaders).reads w F := ⟨z70S, z70s0, z70rr⟩
          refine T.skip (X.seq (T.seq (T.block (T.seq (T.region rfl ?_)))))
          refine TL.q rfl .u (Ex.ixS (k := k62) rfl rfl rfl Try.runUnderlying34 Try.sizeOf83 (List.getElem?_eq_some_iff.1 hxx67).1) rfl ?_
          refine TL.q rfl .u (Ex.oS (us := [.int .i64 x67.fTime, .int .i64 x67.fOffset, .bool x67.fKey.null, .string (bsOf x67.fKey.data), .bool x67.fValue.null, .string (bsOf x67.fValue.data), .slice A71 x67.fHeaders.length c72]) 0 rfl Try.isAgg83 Try.sizeOf83 z70nf z70cc rfl rfl rfl) rfl ?_
          refine TL.alloc rfl .u Try.zeroValue83 rfl (fun b74 => ?_)
          refine TL.st0 (cs' := #[.int .i64 x67.fTime, .int .i64 x67.fOffset, .bool x67.fKey.null, .string (bsOf x67.fKey.data), .bool x67.fValue.null, .string (bsOf x67.fValue.data), .slice A71 x67.fHeaders.length c72]) rfl .u rfl rfl Try.sizeOf83 rfl rfl rfl rfl ?_
          refine TL.nil (X.seq (T.seq (T.region rfl ?_)))
          refine TL.q rfl .u (Ex.bS (us := [.int .i64 x67.fTime, .int .i64 x67.fOffset, .bool x67.fKey.null, .string (bsOf x67.fKey.data), .bool x67.fValue.null, .string (bsOf x67.fValue.data), .slice A71 x67.fHeaders.length c72]) 0 rfl Try.isAgg83 Try.sizeOf83 rfl rfl rfl) rfl ?_
          obtain ⟨x75, hx76, h⟩ := Option.bind_eq_some_iff.1 h
          refine TL.ce rfl .u (.fn Try.call45 rfl) (f_record_Right_spec x67 _ _ _ hx76) (fun _ hs => (SrcE.old hs hX73)) rfl ?_
          refine TL.run ft_batch_ok [2] rfl rfl ?_
          refine TL.nil (X.seq (T.seq (T.region rfl ?_)))
          refine TL.run ft_batch_ok [0, 1] rfl rfl ?_
          by_cases c77 : x75 = 0
          · replace h := ifT c77 h
            refine TL.nil (X.seq ?_)
            refine T.no rfl (bn_f (decide_eq_true c77)) ?_
            refine T.skip (X.blk (X.seq (T.region rfl ?_)))
            refine TL.q rfl .u (Ex.add rfl rfl (by omega)) rfl ?_
            refine TL.run ft_batch_ok [1] rfl rfl ?_
            exact TL.nil (X.back (m' := m66) [1, 1] (by omega) ⟨y61, k62 + 1, by omega, rfl, rfl, h⟩ (by rfl) (by rfl))
          · replace h := ifF c77 h
            refine TL.nil (X.seq ?_)
            refine T.yes rfl (bn_t (decide_eq_false c77)) ?_
            refine T.seq (T.region rfl ?_)
            refine TL.run ft_batch_ok [0, 1] rfl rfl ?_
            obtain rfl := Option.some.inj h
            replace h := hO65
            clear hO65
            try dsimp only at h
            obtain rfl := Option.some.inj h
            exact TL.nil (X.seq (T.ret (X.rb (X.rs (X.rs (X.rb (X.rs (X.done1 [2] Try.results26 (RV.tm rfl) ⟨rfl, rfl, rfl⟩ (by rfl) (.inl rfl)))))))))
      · replace h := ifF c60 h
        replace c60 := eq_false_of_ne_true c60
        refine TL.nil (X.seq ?_)
        refine T.yes rfl (bn_t c60) ?_
        refine T.seq (T.region rfl ?_)
        refine TL.run ft_batch_ok [0] rfl rfl ?_
        obtain rfl := Option.some.inj h
        exact TL.nil (X.seq (T.ret (X.rb (X.rs (X.done1 [1] Try.results26 (RV.tm rfl) ⟨rfl, rfl, rfl⟩ (by rfl) (.inl rfl))))))
  · replace h := ifF c6 h
    replace c6 := eq_false_of_ne_true c6
    refine TL.nil (X.seq ?_)
    refine T.yes rfl (bn_t c6) ?_
    refine T.seq (T.region rfl ?_)
    refine TL.run ft_batch_ok [0] rfl rfl ?_
    obtain rfl := Option.some.inj h
    exact TL.nil (X.seq (T.ret (X.rb (X.rs (X.done1 [1] Try.results26 (RV.tm rfl) ⟨rfl, rfl, rfl⟩ (by rfl) (.inl rfl))))))
def f_batch_open_l1 (a0 : Pfx) : Nat → Int → Nat → List Rec → I → Option (Lp (Bat × Int) (Int × Nat × List Rec × I))
  | 0, _, _, _, _ => none
  | m23 + 1, y14, k15, y16, st19 => if (k15 : Int) < a0.fCount then ((gLeft st19).bind fun (x28, st29) => if x28 = 0 then (some (Lp.ret ((⟨0, 0, false, false, false, 0, 0, 0, 0, 0, 0, []⟩ : Bat), 10))) else ((f_record_Read st29).bind fun (x32, st35) => (gErr st35).bind fun (x38, st39) => if x38 = 0 then (if (y16.length + 1) * 88 ≤ 140737488355328 then (if -9223372036854775808 ≤ ((k15 : Int) + 1) ∧ ((k15 : Int) + 1) ≤ 9223372036854775807 then (f_batch_open_l1 a0 m23 y14 (k15 + 1) (y16 ++ [x32]) st39) else none) else none) else (some (Lp.ret ((⟨0, 0, false, false, false, 0, 0, 0, 0, 0, 0, []⟩ : Bat), x38))))) else (some (Lp.go (y14, k15, y16, st19)))
def f_batch_open (a0 : Pfx) (a1 : List UInt8) : Option (Bat × Int) := (gACheck a0.fAttr).bind fun x3 => if x3 = 0 then ((gARead a0.fAttr).bind fun (x7, x8, x9) => (gNew a1).bind fun st11 => (f_batch_open_l1 a0 ((a0.fCount).toNat + 1) 0 0 [] st11).bind fun e => match e with | .ret r => some r | .go (y53, k54, y55, st58) => ((gLeft st58).bind fun (x59, st60) => if x59 > 0 then (some ((⟨0, 0, false, false, false, 0, 0, 0, 0, 0, 0, []⟩ : Bat), 10)) else ((f_batch_Check (⟨a0.fBase, a0.fLeader, x7, x8, x9, a0.fLast, a0.fFirst, a0.fMax, a0.fProducer, a0.fEpoch, a0.fSequence, y55⟩ : Bat)).bind fun x63 => some ((⟨a0.fBase, a0.fLeader, x7, x8, x9, a0.fLast, a0.fFirst, a0.fMax, a0.fProducer, a0.fEpoch, a0.fSequence, y55⟩ : Bat), x63)))) else (some ((⟨0, 0, false, false, false, 0, 0, 0, 0, 0, 0, []⟩ : Bat), x3))
set_option maxRecDepth 100000 in
set_option maxHeartbeats 4000000 in
theorem f_batch_open_spec (a0 : Pfx) (a1 : List UInt8) (r : Bat × Int) (h : f_batch_open a0 a1 = some r) : SpecX Try.prog 86 #[.agg #[.int .i64 a0.fBase, .int .i64 a0.fLength, .int .i64 a0.fLeader, .int .i64 a0.fSum, .int .i64 a0.fAttr, .int .i64 a0.fLast, .int .i64 a0.fFirst, .int .i64 a0.fMax, .int .i64 a0.fProducer, .int .i64 a0.fEpoch, .int .i64 a0.fSequence, .int .i64 a0.fCount], .string (bsOf a1)] .triv (EmpR) (fun v A' N => ∃ (A65 : Option Addr) (c66 : Nat), v = .tuple #[.agg #[.int .i64 r.1.fBase, .int .i64 r.1.fLeader, .bool r.1.fAppend, .bool r.1.fTxn, .bool r.1.fControl, .int .i64 r.1.fLast, .int .i64 r.1.fFirst, .int .i64 r.1.fMax, .int .i64 r.1.fProducer, .int .i64 r.1.fEpoch, .int .i64 r.1.fSequence, .slice A65 r.1.fRecords.length c66], .int .i64 r.2] ∧ A' = EmpR ∧ N = [RdR (sliceRd 7 Rec_rd) [.slice A65 r.1.fRecords.length c66] r.1.fRecords]) := by
  refine enterA Try.func86 rfl Try.ntmps86 rfl ?_
  intro F w hX
  unfold f_batch_open at h
  refine T.seq (T.region rfl ?_)
  refine TL.box rfl .u rfl rfl (fun b1 => ?_)
  refine TL.alloc rfl .u Try.zeroValue36 rfl (fun b2 => ?_)
  refine TL.run ft_batch_ok [2] rfl rfl ?_
  refine TL.nil (X.seq (T.seq (T.seq (T.region rfl ?_))))
  refine TL.run ft_batch_ok [0] rfl rfl ?_
  refine TL.q rfl .u (Ex.b1 1 rfl Try.isAgg3 rfl rfl) rfl ?_
  obtain ⟨x3, hx4, h⟩ := Option.bind_eq_some_iff.1 h
  refine TL.ce rfl .u (.fn Try.call103 rfl) (SpecX.pure (fun w => gACheck_spec a0.fAttr _ hx4 w)) (fun _ _ => RX.reads_triv _ _) rfl ?_
  refine TL.run ft_batch_ok [3] rfl rfl ?_
  refine TL.nil (X.seq (T.seq (T.region rfl ?_)))
  refine TL.run ft_batch_ok [0, 1] rfl rfl ?_
  by_cases c5 : x3 = 0
  · replace h := ifT c5 h
    refine TL.nil (X.seq ?_)
    refine T.no rfl (bn_f (decide_eq_true c5)) ?_
    refine T.skip (X.seq (T.seq (T.region rfl ?_)))
    refine TL.run ft_batch_ok [0] rfl rfl ?_
    refine TL.q rfl .u (Ex.b1 1 rfl Try.isAgg3 rfl rfl) rfl ?_
    refine TL.run ft_batch_ok [2] rfl rfl ?_
    refine TL.q rfl .u (Ex.b1 1 rfl Try.isAgg3 rfl rfl) rfl ?_
    refine TL.run ft_batch_ok [4] rfl rfl ?_
    refine TL.q rfl .u (Ex.b1 1 rfl Try.isAgg3 rfl rfl) rfl ?_
    refine TL.run ft_batch_ok [6] rfl rfl ?_
    refine TL.q rfl .u (Ex.b1 1 rfl Try.isAgg3 rfl rfl) rfl ?_
    refine TL.run ft_batch_ok [8] rfl rfl ?_
    refine TL.q rfl .u (Ex.b1 1 rfl Try.isAgg3 rfl rfl) rfl ?_
    refine TL.run ft_batch_ok [10] rfl rfl ?_
    refine TL.q rfl .u (Ex.b1 1 rfl Try.isAgg3 rfl rfl) rfl ?_
    refine TL.run ft_batch_ok [12] rfl rfl ?_
    refine TL.q rfl .u (Ex.b1 1 rfl Try.isAgg3 rfl rfl) rfl ?_
    refine TL.run ft_batch_ok [14] rfl rfl ?_
    refine TL.q rfl .u (Ex.b1 1 rfl Try.isAgg3 rfl rfl) rfl ?_
    refine TL.q rfl .u (Ex.bld (cells := #[.int .i64 a0.fBase, .int .i64 a0.fLeader, .bool false, .bool false, .bool false, .int .i64 a0.fLast, .int .i64 a0.fFirst, .int .i64 a0.fMax, .int .i64 a0.fProducer, .int .i64 a0.fEpoch, .int .i64 a0.fSequence, .slice none 0 0]) bok_batch_36 rfl (by kernel_rfl)) rfl ?_
    refine TL.alloc rfl .u Try.zeroValue36 rfl (fun b6 => ?_)
    refine TL.st0 (cs' := #[.int .i64 a0.fBase, .int .i64 a0.fLeader, .bool false, .bool false, .bool false, .int .i64 a0.fLast, .int .i64 a0.fFirst, .int .i64 a0.fMax, .int .i64 a0.fProducer, .int .i64 a0.fEpoch, .int .i64 a0.fSequence, .slice none 0 0]) rfl .u rfl rfl Try.sizeOf36 rfl rfl rfl rfl ?_
    refine TL.nil (X.seq (T.seq (T.region rfl ?_)))
    refine TL.run ft_batch_ok [0] rfl rfl ?_
    refine TL.q rfl .u (Ex.b1 2 rfl Try.isAgg3 rfl rfl) rfl ?_
    obtain ⟨⟨x7, x8, x9⟩, hx10, h⟩ := Option.bind_eq_some_iff.1 h
    try dsimp only at h
    refine TL.ce rfl .u (.fn Try.call104 rfl) (SpecX.pure (fun w => gARead_spec a0.fAttr _ hx10 w)) (fun _ _ => RX.reads_triv _ _) rfl ?_
    refine TL.run ft_batch_ok [3, 4, 5, 6, 7] rfl rfl ?_
    refine TL.st0 (cs' := #[.int .i64 a0.fBase, .int .i64 a0.fLeader, .bool x7, .bool false, .bool false, .int .i64 a0.fLast, .int .i64 a0.fFirst, .int .i64 a0.fMax, .int .i64 a0.fProducer, .int .i64 a0.fEpoch, .int .i64 a0.fSequence, .slice none 0 0]) rfl .u rfl rfl Try.sizeOf4 rfl rfl rfl rfl ?_
    refine TL.run ft_batch_ok [9] rfl rfl ?_
    refine TL.st0 (cs' := #[.int .i64 a0.fBase, .int .i64 a0.fLeader, .bool x7, .bool x8, .bool false, .int .i64 a0.fLast, .int .i64 a0.fFirst, .int .i64 a0.fMax, .int .i64 a0.fProducer, .int .i64 a0.fEpoch, .int .i64 a0.fSequence, .slice none 0 0]) rfl .u rfl rfl Try.sizeOf4 rfl rfl rfl rfl ?_
    refine TL.run ft_batch_ok [11] rfl rfl ?_
    refine TL.st0 (cs' := #[.int .i64 a0.fBase, .int .i64 a0.fLeader, .bool x7, .bool x8, .bool x9, .int .i64 a0.fLast, .int .i64 a0.fFirst, .int .i64 a0.fMax, .int .i64 a0.fProducer, .int .i64 a0.fEpoch, .int .i64 a0.fSequence, .slice none 0 0]) rfl .u rfl rfl Try.sizeOf4 rfl rfl rfl rfl ?_
    refine TL.nil (X.seq (T.seq (T.region rfl ?_)))
    obtain ⟨st11, hx12, h⟩ := Option.bind_eq_some_iff.1 h
    refine TL.run ft_batch_ok [0] rfl rfl ?_
    refine TL.cge rfl .u (.fn Try.call56 rfl) (gNew_spec a1 _ hx12) (fun _ hs => (RX.reads_triv _ _)) rfl ?_
    rintro _ _ _ ⟨b13, rfl, rfl, rfl⟩
    refine TL.sel [0, 0, 0, 0, 0] rfl ?_
    refine TL.run ft_batch_ok [2] rfl rfl ?_
    refine TL.nil (X.seq (T.seq (T.seq (T.region rfl ?_))))
    refine TL.run ft_batch_ok [0] rfl rfl ?_
    refine TL.q rfl .u (Ex.b1 3 rfl Try.isAgg3 rfl rfl) rfl ?_
    refine TL.run ft_batch_ok [2] rfl rfl ?_
    refine TL.nil (X.seq (T.block ?_))
    refine T.nilrow 83 7 Rec_rd ?_
    obtain ⟨E20, hE21, hO22⟩ := Option.bind_eq_some_iff.1 h
    refine T.lp (fun m e Rs => ∃ (y14 : Int) (k15 : Nat) (y16 : List Rec) (A17 : Option Addr) (c18 : Nat) (st19 : I), e = [(4, .pointer (some ⟨b2, 0, none⟩)), (5, .int .i64 y14), (7, .pointer (some ⟨b6, 0, none⟩)), (8, .pointer (some ⟨b13, 0, none⟩)), (48, .int .i64 a0.fCount), (49, .int .i64 (k15 : Int))] ∧ Rs = [OwnR 83 7 Rec_rd (.slice A17 y16.length c18) y16, InR b13 st19, BlkR b6 36 #[.int .i64 a0.fBase, .int .i64 a0.fLeader, .bool x7, .bool x8, .bool x9, .int .i64 a0.fLast, .int .i64 a0.fFirst, .int .i64 a0.fMax, .int .i64 a0.fProducer, .int .i64 a0.fEpoch, .int .i64 a0.fSequence, .slice A17 y16.length c18], BlkR b2 36 #[.int .i64 0, .int .i64 0, .bool false, .bool false, .bool false, .int .i64 0, .int .i64 0, .int .i64 0, .int .i64 0, .int .i64 0, .int .i64 0, .slice none 0 0], BlkR b1 105 #[.int .i64 a0.fBase, .int .i64 a0.fLength, .int .i64 a0.fLeader, .int .i64 a0.fSum, .int .i64 a0.fAttr, .int .i64 a0.fLast, .int .i64 a0.fFirst, .int .i64 a0.fMax, .int .i64 a0.fProducer, .int .i64 a0.fEpoch, .int .i64 a0.fSequence, .int .i64 a0.fCount], EmpR] ∧ f_batch_open_l1 a0 m y14 k15 y16 st19 = some E20) ((a0.fCount).toNat + 1) [0, 0, 0, 0, 0, 0] ⟨0, 0, [], none, 0, st11, rfl, rfl, by exact hE21⟩ (by rfl) (by rfl) ?_
    rintro m23 _ _ ⟨y14, k15, y16, A17, c18, st19, rfl, rfl, hl25⟩
    clear hE21 h
    cases m23 with
    | zero =>
      rw [f_batch_open_l1] at hl25
      cases hl25
    | succ m23 =>
      have h := hl25
      clear hl25
      rw [f_batch_open_l1] at h
      refine T.seq (T.region rfl ?_)
      refine TL.run ft_batch_ok [0] rfl rfl ?_
      by_cases c27 : (k15 : Int) < a0.fCount
      · replace h := ifT c27 h
        refine TL.nil (X.seq (T.seq ?_))
        refine T.yes rfl (decide_eq_true c27) ?_
        refine T.skip (X.seq (T.seq (T.block (T.seq (T.seq (T.region rfl ?_))))))
        obtain ⟨⟨x28, st29⟩, hx30, h⟩ := Option.bind_eq_some_iff.1 h
        try dsimp only at h
        refine TL.run ft_batch_ok [0] rfl rfl ?_
        refine TL.c1 rfl .u (.fn Try.call105 rfl) (gLeft_spec b13 st19 _ hx30) (fun _ hs => (Src.triv _)) rfl ?_
        refine TL.run ft_batch_ok [2] rfl rfl ?_
        by_cases c31 : x28 = 0
        · replace h := ifT c31 h
          refine TL.nil (X.seq ?_)
          refine T.yes rfl (decide_eq_true c31) ?_
          refine T.seq (T.region rfl ?_)
          refine TL.q rfl .u (Ex.bld (cells := #[.int .i64 0, .int .i64 0, .bool false, .bool false, .bool false, .int .i64 0, .int .i64 0, .int .i64 0, .int .i64 0, .int .i64 0, .int .i64 0, .slice none 0 0]) bok_batch_36 rfl (by kernel_rfl)) rfl ?_
          refine TL.st3 (cs' := #[.int .i64 0, .int .i64 0, .bool false, .bool false, .bool false, .int .i64 0, .int .i64 0, .int .i64 0, .int .i64 0, .int .i64 0, .int .i64 0, .slice none 0 0]) rfl .u rfl rfl Try.sizeOf36 rfl rfl rfl rfl ?_
          refine TL.run ft_batch_ok [2] rfl rfl ?_
          obtain rfl := Option.some.inj h
          replace h := hO22
          clear hO22
          try dsimp only at h
          obtain rfl := Option.some.inj h
          refine TL.nil (X.seq (T.ret (X.rs (X.rb (X.rs (X.rs (X.rb (X.rs ?_))))))))
          refine X.nilrd 7 Rec_rd ?_
          exact X.done2 [6, 0] Try.results86 (RV.cS (us := #[.int .i64 0, .int .i64 0, .bool false, .bool false, .bool false, .int .i64 0, .int .i64 0, .int .i64 0, .int .i64 0, .int .i64 0, .int .i64 0, .slice none 0 0]) 4 rfl Try.isAgg36 Try.sizeOf36 rfl rfl) (RV.tm rfl) ⟨_, _, rfl, rfl, rfl⟩ (by rfl) (.inl rfl)
        · replace h := ifF c31 h
          refine TL.nil (X.seq ?_)
          refine T.no rfl (decide_eq_false c31) ?_
          refine T.skip (X.seq (T.seq (T.region rfl ?_)))
          obtain ⟨⟨x32, st35⟩, hx36, h⟩ := Option.bind_eq_some_iff.1 h
          try dsimp only at h
          refine TL.run ft_batch_ok [0] rfl rfl ?_
          refine TL.cg1 rfl .u (.fn Try.call106 rfl) (f_record_Read_spec b13 st29 _ hx36) (fun _ hs => (Src.triv _)) rfl ?_
          rintro _ _ _ ⟨A33, c34, rfl, rfl, rfl⟩
          refine TL.sel [0, 0, 0, 0, 0, 0, 0] rfl ?_
          refine TL.alloc rfl .u Try.zeroValue83 rfl (fun b37 => ?_)
          refine TL.st0 (cs' := #[.int .i64 x32.fTime, .int .i64 x32.fOffset, .bool x32.fKey.null, .string (bsOf x32.fKey.data), .bool x32.fValue.null, .string (bsOf x32.fValue.data), .slice A33 x32.fHeaders.length c34]) rfl .u rfl rfl Try.sizeOf83 rfl rfl rfl rfl ?_
          refine TL.nil (X.seq (T.seq (T.seq (T.region rfl ?_))))
          obtain ⟨⟨x38, st39⟩, hx40, h⟩ := Option.bind_eq_some_iff.1 h
          try dsimp only at h
          refine TL.run ft_batch_ok [0] rfl rfl ?_
          refine TL.c3 rfl .u (.fn Try.call58 rfl) (gErr_spec b13 st35 _ hx40) (fun _ hs => (Src.triv _)) rfl ?_
          refine TL.run ft_batch_ok [2] rfl rfl ?_
          refine TL.nil (X.seq (T.seq (T.region rfl ?_)))
          refine TL.run ft_batch_ok [0, 1] rfl rfl ?_
          by_cases c41 : x38 = 0
          · replace h := ifT c41 h
            refine TL.nil (X.seq ?_)
            refine T.no rfl (bn_f (decide_eq_true c41)) ?_
            refine T.skip (X.seq (T.region rfl ?_))
            refine TL.run ft_batch_ok [0] rfl rfl ?_
            refine TL.q rfl .u (Ex.b1 4 rfl Try.isAgg34 rfl rfl) rfl ?_
            refine TL.q rfl .u (Ex.bS (us := [.int .i64 x32.fTime, .int .i64 x32.fOffset, .bool x32.fKey.null, .string (bsOf x32.fKey.data), .bool x32.fValue.null, .string (bsOf x32.fValue.data), .slice A33 x32.fHeaders.length c34]) 0 rfl Try.isAgg83 Try.sizeOf83 rfl rfl rfl) rfl ?_
            refine TL.lit (cells := #[.int .i64 x32.fTime, .int .i64 x32.fOffset, .bool x32.fKey.null, .string (bsOf x32.fKey.data), .bool x32.fValue.null, .string (bsOf x32.fValue.data), .slice A33 x32.fHeaders.length c34]) rfl .u sok_batch_34_1 rfl (by kernel_rfl) rfl (fun b42 => ?_)
            replace h := guard_some h
            obtain ⟨c43, h⟩ := h
            refine TL.app2 2 1 rfl .u (us := [.int .i64 x32.fTime, .int .i64 x32.fOffset, .bool x32.fKey.null, .string (bsOf x32.fKey.data), .bool x32.fValue.null, .string (bsOf x32.fValue.data), .slice A33 x32.fHeaders.length c34]) (u := x32) (l := y16) (E := Rec_rd) Try.underlying34 inf_batch_83 rfl (by decide) rfl rfl rfl rfl rfl rfl rfl (fun w G hG => ⟨_, _, rfl, hG.1⟩) (by have hq := c43; omega) (by have hq := c43; omega) rfl (fun A44 c45 => ?_)
            refine TL.sel [0, 0, 0, 0, 0, 0, 0] rfl ?_
            refine TL.run ft_batch_ok [5] rfl rfl ?_
            refine TL.st3 (cs' := #[.int .i64 a0.fBase, .int .i64 a0.fLeader, .bool x7, .bool x8, .bool x9, .int .i64 a0.fLast, .int .i64 a0.fFirst, .int .i64 a0.fMax, .int .i64 a0.fProducer, .int .i64 a0.fEpoch, .int .i64 a0.fSequence, .slice A44 (y16 ++ [x32]).length c45]) rfl .u rfl rfl Try.sizeOf34 rfl rfl rfl rfl ?_
            replace h := guard_some h
            obtain ⟨c46, h⟩ := h
            refine TL.nil (X.blk (X.seq (T.region rfl ?_)))
            refine TL.q rfl .u (Ex.add rfl rfl c46) rfl ?_
            refine TL.run ft_batch_ok [1] rfl rfl ?_
            exact TL.nil (X.back (m' := m23) [0, 1, 1, 1, 1, 1] (by omega) ⟨y14, k15 + 1, (y16 ++ [x32]), A44, c45, st39, rfl, rfl, h⟩ (by rfl) (by rfl))
          · replace h := ifF c41 h
            refine TL.nil (X.seq ?_)
            refine T.yes rfl (bn_t (decide_eq_false c41)) ?_
            refine T.seq (T.region rfl ?_)
            refine TL.q rfl .u (Ex.bld (cells := #[.int .i64 0, .int .i64 0, .bool false, .bool false, .bool false, .int .i64 0, .int .i64 0, .int .i64 0, .int .i64 0, .int .i64 0, .int .i64 0, .slice none 0 0]) bok_batch_36 rfl (by kernel_rfl)) rfl ?_
            refine TL.run ft_batch_ok [1] rfl rfl ?_
            refine TL.st5 (cs' := #[.int .i64 0, .int .i64 0, .bool false, .bool false, .bool false, .int .i64 0, .int .i64 0, .int .i64 0, .int .i64 0, .int .i64 0, .int .i64 0, .slice none 0 0]) rfl .u rfl rfl Try.sizeOf36 rfl rfl rfl rfl ?_
            refine TL.run ft_batch_ok [3] rfl rfl ?_
            obtain rfl := Option.some.inj h
            replace h := hO22
            clear hO22
            try dsimp only at h
            obtain rfl := Option.some.inj h
            refine TL.nil (X.seq (T.ret (X.rs (X.rb (X.rs (X.rs (X.rb (X.rs ?_))))))))
            refine X.nilrd 7 Rec_rd ?_
            exact X.done2 [8, 0] Try.results86 (RV.cS (us := #[.int .i64 0, .int .i64 0, .bool false, .bool false, .bool false, .int .i64 0, .int .i64 0, .int .i64 0, .int .i64 0, .int .i64 0, .int .i64 0, .slice none 0 0]) 6 rfl Try.isAgg36 Try.sizeOf36 rfl rfl) (RV.tm rfl) ⟨_, _, rfl, rfl, rfl⟩ (by rfl) (.inl rfl)
      · replace h := ifF c27 h
        refine TL.nil (X.seq (T.seq ?_))
        refine T.no rfl (decide_eq_false c27) ?_
        obtain rfl := Option.some.inj h
        replace h := hO22
        clear hO22
        try dsimp only at h
        refine T.exit (X.exs (X.exs (X.ex (X.seq (T.seq (T.seq (T.region rfl ?_)))))))
        obtain ⟨⟨x47, st48⟩, hx49, h⟩ := Option.bind_eq_some_iff.1 h
        try dsimp only at h
        refine TL.run ft_batch_ok [0] rfl rfl ?_
        refine TL.c1 rfl .u (.fn Try.call105 rfl) (gLeft_spec b13 st19 _ hx49) (fun _ hs => (Src.triv _)) rfl ?_
        refine TL.run ft_batch_ok [2] rfl rfl ?_
        by_cases c50 : x47 > 0
        · replace h := ifT c50 h
          refine TL.nil (X.seq ?_)
          refine T.yes rfl (decide_eq_true c50) ?_
          refine T.seq (T.region rfl ?_)
          refine TL.q rfl .u (Ex.bld (cells := #[.int .i64 0, .int .i64 0, .bool false, .bool false, .bool false, .int .i64 0, .int .i64 0, .int .i64 0, .int .i64 0, .int .i64 0, .int .i64 0, .slice none 0 0]) bok_batch_36 rfl (by kernel_rfl)) rfl ?_
          refine TL.st3 (cs' := #[.int .i64 0, .int .i64 0, .bool false, .bool false, .bool false, .int .i64 0, .int .i64 0, .int .i64 0, .int .i64 0, .int .i64 0, .int .i64 0, .slice none 0 0]) rfl .u rfl rfl Try.sizeOf36 rfl rfl rfl rfl ?_
          refine TL.run ft_batch_ok [2] rfl rfl ?_
          obtain rfl := Option.some.inj h
          refine TL.nil (X.seq (T.ret (X.rs ?_)))
          refine X.nilrd 7 Rec_rd ?_
          exact X.done2 [6, 0] Try.results86 (RV.cS (us := #[.int .i64 0, .int .i64 0, .bool false, .bool false, .bool false, .int .i64 0, .int .i64 0, .int .i64 0, .int .i64 0, .int .i64 0, .int .i64 0, .slice none 0 0]) 4 rfl Try.isAgg36 Try.sizeOf36 rfl rfl) (RV.tm rfl) ⟨_, _, rfl, rfl, rfl⟩ (by rfl) (.inl rfl)
        · replace h := ifF c50 h
          refine TL.nil (X.seq ?_)
          refine T.no rfl (decide_eq_false c50) ?_
          refine T.skip (X.seq (T.seq (T.draw (.q 0 (.q 1 (.e 2 (.e 3 (.q 4 .nil))))) [0, 0, 0, 1, 1] rfl mix_batch (NoP.seq np_post) (by kernel_rfl) ?_)))
          refine TD.q rfl .u (Ex.bS (us := [.int .i64 a0.fBase, .int .i64 a0.fLeader, .bool x7, .bool x8, .bool x9, .int .i64 a0.fLast, .int .i64 a0.fFirst, .int .i64 a0.fMax, .int .i64 a0.fProducer, .int .i64 a0.fEpoch, .int .i64 a0.fSequence, .slice A17 y16.length c18]) 2 rfl Try.isAgg36 Try.sizeOf36 rfl rfl rfl) rfl ?_
          refine TD.q rfl .u (Ex.bS (us := [.int .i64 a0.fBase, .int .i64 a0.fLeader, .bool x7, .bool x8, .bool x9, .int .i64 a0.fLast, .int .i64 a0.fFirst, .int .i64 a0.fMax, .int .i64 a0.fProducer, .int .i64 a0.fEpoch, .int .i64 a0.fSequence, .slice A17 y16.length c18]) 2 rfl Try.isAgg36 Try.sizeOf36 rfl rfl rfl) rfl ?_
          obtain ⟨x51, hx52, h⟩ := Option.bind_eq_some_iff.1 h
          refine TD.ce rfl .u (.fn Try.call26 rfl) (f_batch_Check_spec (⟨a0.fBase, a0.fLeader, x7, x8, x9, a0.fLast, a0.fFirst, a0.fMax, a0.fProducer, a0.fEpoch, a0.fSequence, y16⟩ : Bat) _ _ _ hx52) (fun _ hs => (SrcE.res 0 hs rfl (fun w G h => own_reads (by decide) w G h))) rfl [0, 0, 0, 1, 1] (rfl) ?_
          refine TD.st3 (cs' := #[.int .i64 a0.fBase, .int .i64 a0.fLeader, .bool x7, .bool x8, .bool x9, .int .i64 a0.fLast, .int .i64 a0.fFirst, .int .i64 a0.fMax, .int .i64 a0.fProducer, .int .i64 a0.fEpoch, .int .i64 a0.fSequence, .slice A17 y16.length c18]) rfl .u rfl rfl Try.sizeOf36 rfl rfl rfl rfl [0, 0, 0, 1, 1] (rfl) ?_
          refine TD.run ft_batch_ok [4] rfl rfl ?_
          obtain rfl := Option.some.inj h
          refine TD.nil (X.seq (T.ret ?_))
          refine X.shut (by decide) 0 rfl ?_
          refine X.sel [0, 0, 0, 0, 0, 0] rfl ?_
          exact X.done2 [5, 0] Try.results86 (RV.cS (us := #[.int .i64 a0.fBase, .int .i64 a0.fLeader, .bool x7, .bool x8, .bool x9, .int .i64 a0.fLast, .int .i64 a0.fFirst, .int .i64 a0.fMax, .int .i64 a0.fProducer, .int .i64 a0.fEpoch, .int .i64 a0.fSequence, .slice A17 y16.length c18]) 3 rfl Try.isAgg36 Try.sizeOf36 rfl rfl) (RV.tm rfl) ⟨_, _, rfl, rfl, rfl⟩ (by rfl) (.inl rfl)
  · replace h := ifF c5 h
    refine TL.nil (X.seq ?_)
    refine T.yes rfl (bn_t (decide_eq_false c5)) ?_
    refine T.seq (T.region rfl ?_)
    refine TL.q rfl .u (Ex.bld (cells := #[.int .i64 0, .int .i64 0, .bool false, .bool false, .bool false, .int .i64 0, .int .i64 0, .int .i64 0, .int .i64 0, .int .i64 0, .int .i64 0, .slice none 0 0]) bok_batch_36 rfl (by kernel_rfl)) rfl ?_
    refine TL.run ft_batch_ok [1] rfl rfl ?_
    refine TL.st0 (cs' := #[.int .i64 0, .int .i64 0, .bool false, .bool false, .bool false, .int .i64 0, .int .i64 0, .int .i64 0, .int .i64 0, .int .i64 0, .int .i64 0, .slice none 0 0]) rfl .u rfl rfl Try.sizeOf36 rfl rfl rfl rfl ?_
    refine TL.run ft_batch_ok [3] rfl rfl ?_
    obtain rfl := Option.some.inj h
    refine TL.nil (X.seq (T.ret (X.rs ?_)))
    refine X.nilrd 7 Rec_rd ?_
    exact X.done2 [3, 0] Try.results86 (RV.cS (us := #[.int .i64 0, .int .i64 0, .bool false, .bool false, .bool false, .int .i64 0, .int .i64 0, .int .i64 0, .int .i64 0, .int .i64 0, .int .i64 0, .slice none 0 0]) 1 rfl Try.isAgg36 Try.sizeOf36 rfl rfl) (RV.tm rfl) ⟨_, _, rfl, rfl, rfl⟩ (by rfl) (.inl rfl)
def f_batch_Read (st : I)  : Option (Bat × I) := (f_prefix_Read st).bind fun (x3, st4) => if -9223372036854775808 ≤ (x3.fLength - 49) ∧ (x3.fLength - 49) ≤ 9223372036854775807 then ((gTake st4 (x3.fLength - 49)).bind fun (x8, st9) => (gErr st9).bind fun (x11, st12) => if x11 = 0 then ((f_prefix_Write ([], 0) x3).bind fun st15 => (gOText st15).bind fun (x17, x18, st19) => (f_crc_New).bind fun st21 => if 21 ≤ x17.length then ((f_crc_TableSum st21 [(x17.drop 21), x8]).bind fun (x26, st27) => if -9223372036854775808 ≤ x26 ∧ x26 ≤ 9223372036854775807 then (if x26 = x3.fSum then ((f_batch_open x3 x8).bind fun (x31, x34) => if x34 = 0 then some (x31, st12) else ((gIFail st12 x34).bind fun st38 => some ((⟨0, 0, false, false, false, 0, 0, 0, 0, 0, 0, []⟩ : Bat), st38))) else ((gIFail st12 5).bind fun st40 => some ((⟨0, 0, false, false, false, 0, 0, 0, 0, 0, 0, []⟩ : Bat), st40))) else none) else none) else (some ((⟨0, 0, false, false, false, 0, 0, 0, 0, 0, 0, []⟩ : Bat), st12))) else none
set_option maxRecDepth 100000 in
set_option maxHeartbeats 4000000 in
theorem f_batch_Read_spec (g : Nat) (st : I)  (r : Bat × I) (h : f_batch_Read st  = some r) : SpecX Try.prog 57 #[.pointer (some ⟨g, 0, none⟩)] .triv (InR g st) (fun v A' N => ∃ (A42 : Option Addr) (c43 : Nat), v = .agg #[.int .i64 r.1.fBase, .int .i64 r.1.fLeader, .bool r.1.fAppend, .bool r.1.fTxn, .bool r.1.fControl, .int .i64 r.1.fLast, .int .i64 r.1.fFirst, .int .i64 r.1.fMax, .int .i64 r.1.fProducer, .int .i64 r.1.fEpoch, .int .i64 r.1.fSequence, .slice A42 r.1.fRecords.length c43] ∧ A' = InR g r.2 ∧ N = [RdR (sliceRd 7 Rec_rd) [.slice A42 r.1.fRecords.length c43] r.1.fRecords]) := by
  refine enterA Try.func57 rfl Try.ntmps57 rfl ?_
  intro F w hX
  unfold f_batch_Read at h
  refine T.seq (T.region rfl ?_)
  refine TL.alloc rfl .u Try.zeroValue36 rfl (fun b1 => ?_)
  refine TL.nil (X.seq (T.seq (T.region rfl ?_)))
  refine TL.newout rfl .u Try.zeroValue100 rfl (fun b2 => ?_)
  refine TL.nil (X.seq (T.seq (T.region rfl ?_)))
  obtain ⟨⟨x3, st4⟩, hx5, h⟩ := Option.bind_eq_some_iff.1 h
  try dsimp only at h
  refine TL.run ft_batch_ok [0] rfl rfl ?_
  refine TL.c2 rfl .u (.fn Try.call83 rfl) (f_prefix_Read_spec g st _ hx5) (fun _ hs => (Src.triv _)) rfl ?_
  refine TL.alloc rfl .u Try.zeroValue105 rfl (fun b6 => ?_)
  refine TL.st0 (cs' := #[.int .i64 x3.fBase, .int .i64 x3.fLength, .int .i64 x3.fLeader, .int .i64 x3.fSum, .int .i64 x3.fAttr, .int .i64 x3.fLast, .int .i64 x3.fFirst, .int .i64 x3.fMax, .int .i64 x3.fProducer, .int .i64 x3.fEpoch, .int .i64 x3.fSequence, .int .i64 x3.fCount]) rfl .u rfl rfl Try.sizeOf105 rfl rfl rfl rfl ?_
  refine TL.nil (X.seq (T.seq (T.region rfl ?_)))
  refine TL.run ft_batch_ok [0, 1] rfl rfl ?_
  refine TL.q rfl .u (Ex.b1 0 rfl Try.isAgg3 rfl rfl) rfl ?_
  replace h := guard_some h
  obtain ⟨c7, h⟩ := h
  refine TL.q rfl .u (Ex.sub rfl rfl c7) rfl ?_
  obtain ⟨⟨x8, st9⟩, hx10, h⟩ := Option.bind_eq_some_iff.1 h
  try dsimp only at h
  refine TL.c3 rfl .u (.fn Try.call84 rfl) (gTake_spec g st4 (x3.fLength - 49) _ hx10) (fun _ hs => (Src.triv _)) rfl ?_
  refine TL.run ft_batch_ok [5] rfl rfl ?_
  refine TL.nil (X.seq (T.seq (T.seq (T.region rfl ?_))))
  obtain ⟨⟨x11, st12⟩, hx13, h⟩ := Option.bind_eq_some_iff.1 h
  try dsimp only at h
  refine TL.run ft_batch_ok [0] rfl rfl ?_
  refine TL.c3 rfl .u (.fn Try.call58 rfl) (gErr_spec g st9 _ hx13) (fun _ hs => (Src.triv _)) rfl ?_
  refine TL.run ft_batch_ok [2] rfl rfl ?_
  by_cases c14 : x11 = 0
  · replace h := ifT c14 h
    refine TL.nil (X.seq ?_)
    refine T.no rfl (bn_f (decide_eq_true c14)) ?_
    refine T.skip (X.seq (T.seq (T.region rfl ?_)))
    refine TL.q rfl .u (Ex.bS (us := [.int .i64 x3.fBase, .int .i64 x3.fLength, .int .i64 x3.fLeader, .int .i64 x3.fSum, .int .i64 x3.fAttr, .int .i64 x3.fLast, .int .i64 x3.fFirst, .int .i64 x3.fMax, .int .i64 x3.fProducer, .int .i64 x3.fEpoch, .int .i64 x3.fSequence, .int .i64 x3.fCount]) 0 rfl Try.isAgg105 Try.sizeOf105 rfl rfl rfl) rfl ?_
    obtain ⟨st15, hx16, h⟩ := Option.bind_eq_some_iff.1 h
    refine TL.c1 rfl .u (.fn Try.call51 rfl) (f_prefix_Write_spec b2 ([], 0) x3 _ hx16) (fun _ hs => (Src.triv _)) rfl ?_
    obtain ⟨⟨x17, x18, st19⟩, hx20, h⟩ := Option.bind_eq_some_iff.1 h
    try dsimp only at h
    refine TL.nil (X.seq (T.seq (T.region rfl ?_)))
    refine TL.c1 rfl .u (.fn Try.call49 rfl) (gOText_spec b2 st15 _ hx20) (fun _ hs => (Src.triv _)) rfl ?_
    refine TL.run ft_batch_ok [1, 2, 3, 4, 5] rfl rfl ?_
    obtain ⟨st21, hx22, h⟩ := Option.bind_eq_some_iff.1 h
    replace h := guard_some h
    obtain ⟨c24, h⟩ := h
    obtain ⟨⟨x26, st27⟩, hx28, h⟩ := Option.bind_eq_some_iff.1 h
    try dsimp only at h
    replace h := guard_some h
    obtain ⟨c29, h⟩ := h
    refine TL.nil (X.seq (T.seq (T.seq ?_)))
    refine T.join (fun e Rs => ∃ (b23 : Nat) (b25 : Nat), e = [(0, .pointer (some ⟨g, 0, none⟩)), (2, .pointer (some ⟨b1, 0, none⟩)), (3, .pointer (some ⟨b2, 0, none⟩)), (4, .pointer (some ⟨b6, 0, none⟩)), (5, .string (bsOf x8)), (10, .pointer (some ⟨g, 0, none⟩)), (11, .agg #[.int .i64 x3.fBase, .int .i64 x3.fLength, .int .i64 x3.fLeader, .int .i64 x3.fSum, .int .i64 x3.fAttr, .int .i64 x3.fLast, .int .i64 x3.fFirst, .int .i64 x3.fMax, .int .i64 x3.fProducer, .int .i64 x3.fEpoch, .int .i64 x3.fSequence, .int .i64 x3.fCount]), (12, .pointer (some ⟨g, 0, none⟩)), (13, .pointer (some ⟨b6, 1, none⟩)), (14, .int .i64 x3.fLength), (15, .int .i64 (x3.fLength - 49)), (16, .string (bsOf x8)), (17, .pointer (some ⟨g, 0, none⟩)), (18, .int .i64 x11), (19, .bool (!(decide (x11 = 0)))), (21, .agg #[.int .i64 x3.fBase, .int .i64 x3.fLength, .int .i64 x3.fLeader, .int .i64 x3.fSum, .int .i64 x3.fAttr, .int .i64 x3.fLast, .int .i64 x3.fFirst, .int .i64 x3.fMax, .int .i64 x3.fProducer, .int .i64 x3.fEpoch, .int .i64 x3.fSequence, .int .i64 x3.fCount]), (23, .tuple #[.string (bsOf x17), .int .i64 x18]), (24, .tuple #[.string (bsOf x17), .int .i64 x18]), (25, .string (bsOf x17)), (26, .int .i64 x18), (36, .bool (!(decide (x26 = x3.fSum))))] ∧ Rs = [OwnR 9 1 strE (.slice (some ⟨b25, 0, none⟩) 2 2) [(x17.drop 21), x8], TabR 143 b23 st27, BlkR b6 105 #[.int .i64 x3.fBase, .int .i64 x3.fLength, .int .i64 x3.fLeader, .int .i64 x3.fSum, .int .i64 x3.fAttr, .int .i64 x3.fLast, .int .i64 x3.fFirst, .int .i64 x3.fMax, .int .i64 x3.fProducer, .int .i64 x3.fEpoch, .int .i64 x3.fSequence, .int .i64 x3.fCount], OutR b2 st19, BlkR b1 36 #[.int .i64 0, .int .i64 0, .bool false, .bool false, .bool false, .int .i64 0, .int .i64 0, .int .i64 0, .int .i64 0, .int .i64 0, .int .i64 0, .slice none 0 0], InR g st12]) ?_ ?_
    · refine T.draw (.q 1 (.q 2 (.q 3 (.q 7 (.q 8 (.br 0 (.e 4 (.e 5 (.q 6 (.q 9 .nil)))) (.e 4 (.e 0 (.e 5 (.q 6 (.q 9 .nil))))))))))) [0, 0, 0, 0] rfl mix_batch np_jq (by kernel_rfl) ?_
      refine TD.run ft_batch_ok [1] rfl rfl ?_
      refine TD.q rfl .u (Ex.sSl (p := 21) (q := x17.length) (m := (x17.drop 21)) rfl Try.runUnderlying9 (.some rfl rfl) .none (by first | omega | (dsimp only; omega)) (sl_drop _ _)) rfl ?_
      refine TD.run ft_batch_ok [3, 7] rfl rfl ?_
      refine TD.q rfl .u (Ex.b1 0 rfl Try.isAgg3 rfl rfl) rfl ?_
      refine TD.br ?_ ?_
      · refine TD.cge rfl .u (.fn Try.call52 rfl) (f_crc_New_spec _ hx22) (fun _ hs => (RX.reads_triv _ _)) rfl [1, 1, 1, 1] ?_ ?_
        · rintro _ _ _ ⟨b23, rfl, rfl, rfl⟩
          rfl
        rintro _ _ _ ⟨b23, rfl, rfl, rfl⟩
        refine TD.sel [0, 0, 0, 0, 0] rfl ?_
        refine TD.lit (cells := #[.string (bsOf (x17.drop 21)), .string (bsOf x8)]) rfl .u sok_batch_39_2 rfl (by rfl) rfl [2, 2, 2, 2] (fun _ => rfl) (fun b25 => ?_)
        refine TD.rowOf (us := [.string (bsOf (x17.drop 21)), .string (bsOf x8)]) (xs := [(x17.drop 21), x8]) (E := strE) (z := 1) rfl (Nat.le_of_ble_eq_true rfl) (fun _ => ⟨rfl, rfl, ⟨rfl, rfl, rfl⟩⟩) ?_
        refine TD.c1 rfl .u (.fn Try.call53 rfl) (f_crc_TableSum_spec b23 st21 [(x17.drop 21), x8] _ _ _ hx28) (fun _ hs => (Src.res 0 rfl (fun w G h => own_reads (by decide) w G h))) rfl [2, 2, 2, 2] (rfl) ?_
        refine TD.q rfl .u (Ex.conv64 rfl Try.runUnderlying94 Try.runUnderlying3 c29) rfl ?_
        refine TD.run ft_batch_ok [9] rfl rfl ?_
        exact TD.nil (X.jn [0, 0, 0, 0, 0, 0] ⟨b23, b25, rfl, rfl⟩ (by rfl) (by rfl))
      · refine TD.lit (cells := #[.string (bsOf (x17.drop 21)), .string (bsOf x8)]) rfl .u sok_batch_39_2 rfl (by rfl) rfl [1, 1, 1, 1] (fun _ => rfl) (fun b25 => ?_)
        refine TD.rowOf (us := [.string (bsOf (x17.drop 21)), .string (bsOf x8)]) (xs := [(x17.drop 21), x8]) (E := strE) (z := 1) rfl (Nat.le_of_ble_eq_true rfl) (fun _ => ⟨rfl, rfl, ⟨rfl, rfl, rfl⟩⟩) ?_
        refine TD.cge rfl .u (.fn Try.call52 rfl) (f_crc_New_spec _ hx22) (fun _ hs => (RX.reads_triv _ _)) rfl [2, 2, 2, 2] ?_ ?_
        · rintro _ _ _ ⟨b23, rfl, rfl, rfl⟩
          rfl
        rintro _ _ _ ⟨b23, rfl, rfl, rfl⟩
        refine TD.sel [0, 0, 0, 0, 0, 0] rfl ?_
        refine TD.c0 rfl .u (.fn Try.call53 rfl) (f_crc_TableSum_spec b23 st21 [(x17.drop 21), x8] _ _ _ hx28) (fun _ hs => (Src.res 0 rfl (fun w G h => own_reads (by decide) w G h))) rfl [2, 2, 2, 2] (rfl) ?_
        refine TD.q rfl .u (Ex.conv64 rfl Try.runUnderlying94 Try.runUnderlying3 c29) rfl ?_
        refine TD.run ft_batch_ok [9] rfl rfl ?_
        exact TD.nil (X.jn [1, 0, 0, 0, 0, 0] ⟨b23, b25, rfl, rfl⟩ (by rfl) (by rfl))
    · rintro _ _ ⟨b23, b25, rfl, rfl⟩
      by_cases c30 : x26 = x3.fSum
      · replace h := ifT c30 h
        refine X.seq ?_
        refine T.no rfl (bn_f (decide_eq_true c30)) ?_
        refine T.skip (X.seq (T.seq (T.region rfl ?_)))
        refine TL.q rfl .u (Ex.bS (us := [.int .i64 x3.fBase, .int .i64 x3.fLength, .int .i64 x3.fLeader, .int .i64 x3.fSum, .int .i64 x3.fAttr, .int .i64 x3.fLast, .int .i64 x3.fFirst, .int .i64 x3.fMax, .int .i64 x3.fProducer, .int .i64 x3.fEpoch, .int .i64 x3.fSequence, .int .i64 x3.fCount]) 2 rfl Try.isAgg105 Try.sizeOf105 rfl rfl rfl) rfl ?_
        obtain ⟨⟨x31, x34⟩, hx35, h⟩ := Option.bind_eq_some_iff.1 h
        try dsimp only at h
        refine TL.run ft_batch_ok [1] rfl rfl ?_
        refine TL.cge rfl .u (.fn Try.call86 rfl) (f_batch_open_spec x3 x8 _ hx35) (fun _ hs => (RX.reads_triv _ _)) rfl ?_
        rintro _ _ _ ⟨A32, c33, rfl, rfl, rfl⟩
        refine TL.sel [0, 0, 0, 0, 0, 0, 0] rfl ?_
        refine TL.run ft_batch_ok [3, 4, 5] rfl rfl ?_
        refine TL.alloc rfl .u Try.zeroValue36 rfl (fun b36 => ?_)
        refine TL.st0 (cs' := #[.int .i64 x31.fBase, .int .i64 x31.fLeader, .bool x31.fAppend, .bool x31.fTxn, .bool x31.fControl, .int .i64 x31.fLast, .int .i64 x31.fFirst, .int .i64 x31.fMax, .int .i64 x31.fProducer, .int .i64 x31.fEpoch, .int .i64 x31.fSequence, .slice A32 x31.fRecords.length c33]) rfl .u rfl rfl Try.sizeOf36 rfl rfl rfl rfl ?_
        refine TL.run ft_batch_ok [8] rfl rfl ?_
        refine TL.nil (X.seq (T.seq (T.seq (T.region rfl ?_))))
        refine TL.run ft_batch_ok [0, 1] rfl rfl ?_
        by_cases c37 : x34 = 0
        · replace h := ifT c37 h
          refine TL.nil (X.seq ?_)
          refine T.no rfl (bn_f (decide_eq_true c37)) ?_
          refine T.skip (X.seq (T.seq (T.region rfl ?_)))
          refine TL.q rfl .u (Ex.bS (us := [.int .i64 x31.fBase, .int .i64 x31.fLeader, .bool x31.fAppend, .bool x31.fTxn, .bool x31.fControl, .int .i64 x31.fLast, .int .i64 x31.fFirst, .int .i64 x31.fMax, .int .i64 x31.fProducer, .int .i64 x31.fEpoch, .int .i64 x31.fSequence, .slice A32 x31.fRecords.length c33]) 0 rfl Try.isAgg36 Try.sizeOf36 rfl rfl rfl) rfl ?_
          refine TL.st6 (cs' := #[.int .i64 x31.fBase, .int .i64 x31.fLeader, .bool x31.fAppend, .bool x31.fTxn, .bool x31.fControl, .int .i64 x31.fLast, .int .i64 x31.fFirst, .int .i64 x31.fMax, .int .i64 x31.fProducer, .int .i64 x31.fEpoch, .int .i64 x31.fSequence, .slice A32 x31.fRecords.length c33]) rfl .u rfl rfl Try.sizeOf36 rfl rfl rfl rfl ?_
          obtain rfl := Option.some.inj h
          exact TL.nil (X.seq (T.ret (X.done1 [7, 1] Try.results57 (RV.cS (us := #[.int .i64 x31.fBase, .int .i64 x31.fLeader, .bool x31.fAppend, .bool x31.fTxn, .bool x31.fControl, .int .i64 x31.fLast, .int .i64 x31.fFirst, .int .i64 x31.fMax, .int .i64 x31.fProducer, .int .i64 x31.fEpoch, .int .i64 x31.fSequence, .slice A32 x31.fRecords.length c33]) 6 rfl Try.isAgg36 Try.sizeOf36 rfl rfl) ⟨_, _, rfl, rfl, rfl⟩ (by rfl) (.inl rfl))))
        · replace h := ifF c37 h
          refine TL.nil (X.seq ?_)
          refine T.yes rfl (bn_t (decide_eq_false c37)) ?_
          refine T.seq (T.region rfl ?_)
          obtain ⟨st38, hx39, h⟩ := Option.bind_eq_some_iff.1 h
          refine TL.run ft_batch_ok [0, 1] rfl rfl ?_
          refine TL.c7 rfl .u (.fn Try.call85 rfl) (gIFail_spec g st12 x34 _ hx39) (fun _ hs => (Src.triv _)) rfl ?_
          refine TL.nil (X.seq (T.seq (T.region rfl ?_)))
          refine TL.q rfl .u (Ex.bld (cells := #[.int .i64 0, .int .i64 0, .bool false, .bool false, .bool false, .int .i64 0, .int .i64 0, .int .i64 0, .int .i64 0, .int .i64 0, .int .i64 0, .slice none 0 0]) bok_batch_36 rfl (by kernel_rfl)) rfl ?_
          refine TL.st6 (cs' := #[.int .i64 0, .int .i64 0, .bool false, .bool false, .bool false, .int .i64 0, .int .i64 0, .int .i64 0, .int .i64 0, .int .i64 0, .int .i64 0, .slice none 0 0]) rfl .u rfl rfl Try.sizeOf36 rfl rfl rfl rfl ?_
          obtain rfl := Option.some.inj h
          refine TL.nil (X.seq (T.ret (X.rs ?_)))
          refine X.nilrd 7 Rec_rd ?_
          exact X.done1 [8, 0] Try.results57 (RV.cS (us := #[.int .i64 0, .int .i64 0, .bool false, .bool false, .bool false, .int .i64 0, .int .i64 0, .int .i64 0, .int .i64 0, .int .i64 0, .int .i64 0, .slice none 0 0]) 7 rfl Try.isAgg36 Try.sizeOf36 rfl rfl) ⟨_, _, rfl, rfl, rfl⟩ (by rfl) (.inl rfl)
      · replace h := ifF c30 h
        refine X.seq ?_
        refine T.yes rfl (bn_t (decide_eq_false c30)) ?_
        refine T.seq (T.region rfl ?_)
        obtain ⟨st40, hx41, h⟩ := Option.bind_eq_some_iff.1 h
        refine TL.run ft_batch_ok [0] rfl rfl ?_
        refine TL.c5 rfl .u (.fn Try.call85 rfl) (gIFail_spec g st12 5 _ hx41) (fun _ hs => (Src.triv _)) rfl ?_
        refine TL.nil (X.seq (T.seq (T.region rfl ?_)))
        refine TL.q rfl .u (Ex.bld (cells := #[.int .i64 0, .int .i64 0, .bool false, .bool false, .bool false, .int .i64 0, .int .i64 0, .int .i64 0, .int .i64 0, .int .i64 0, .int .i64 0, .slice none 0 0]) bok_batch_36 rfl (by kernel_rfl)) rfl ?_
        refine TL.st4 (cs' := #[.int .i64 0, .int .i64 0, .bool false, .bool false, .bool false, .int .i64 0, .int .i64 0, .int .i64 0, .int .i64 0, .int .i64 0, .int .i64 0, .slice none 0 0]) rfl .u rfl rfl Try.sizeOf36 rfl rfl rfl rfl ?_
        obtain rfl := Option.some.inj h
        refine TL.nil (X.seq (T.ret (X.rs ?_)))
        refine X.nilrd 7 Rec_rd ?_
        exact X.done1 [6, 0] Try.results57 (RV.cS (us := #[.int .i64 0, .int .i64 0, .bool false, .bool false, .bool false, .int .i64 0, .int .i64 0, .int .i64 0, .int .i64 0, .int .i64 0, .int .i64 0, .slice none 0 0]) 5 rfl Try.isAgg36 Try.sizeOf36 rfl rfl) ⟨_, _, rfl, rfl, rfl⟩ (by rfl) (.inl rfl)
  · replace h := ifF c14 h
    refine TL.nil (X.seq ?_)
    refine T.yes rfl (bn_t (decide_eq_false c14)) ?_
    refine T.seq (T.region rfl ?_)
    refine TL.q rfl .u (Ex.bld (cells := #[.int .i64 0, .int .i64 0, .bool false, .bool false, .bool false, .int .i64 0, .int .i64 0, .int .i64 0, .int .i64 0, .int .i64 0, .int .i64 0, .slice none 0 0]) bok_batch_36 rfl (by kernel_rfl)) rfl ?_
    refine TL.st2 (cs' := #[.int .i64 0, .int .i64 0, .bool false, .bool false, .bool false, .int .i64 0, .int .i64 0, .int .i64 0, .int .i64 0, .int .i64 0, .int .i64 0, .slice none 0 0]) rfl .u rfl rfl Try.sizeOf36 rfl rfl rfl rfl ?_
    obtain rfl := Option.some.inj h
    refine TL.nil (X.seq (T.ret (X.rs ?_)))
    refine X.nilrd 7 Rec_rd ?_
    exact X.done1 [4, 0] Try.results57 (RV.cS (us := #[.int .i64 0, .int .i64 0, .bool false, .bool false, .bool false, .int .i64 0, .int .i64 0, .int .i64 0, .int .i64 0, .int .i64 0, .int .i64 0, .slice none 0 0]) 3 rfl Try.isAgg36 Try.sizeOf36 rfl rfl) ⟨_, _, rfl, rfl, rfl⟩ (by rfl) (.inl rfl)
def f_batch_Encode_l1 : List Rec → (List UInt8 × Int) → Option (List UInt8 × Int)
  | [], st9 => some st9
  | x14 :: xs, st9 => (f_record_Write st9 x14).bind fun st22 => f_batch_Encode_l1 xs st22
def f_batch_Encode (a0 : Bat) : Option (List UInt8 × Int) := (f_batch_Check a0).bind fun x4 => if x4 = 0 then ((f_batch_Encode_l1 a0.fRecords ([], 0)).bind fun st25 => (gOText st25).bind fun (x26, x27, st28) => if -9223372036854775808 ≤ (49 + (x26.length : Int)) ∧ (49 + (x26.length : Int)) ≤ 9223372036854775807 then ((gAOf a0).bind fun x31 => (f_prefix_Write ([], 0) (⟨a0.fBase, (49 + (x26.length : Int)), a0.fLeader, 0, x31, a0.fLast, a0.fFirst, a0.fMax, a0.fProducer, a0.fEpoch, a0.fSequence, (a0.fRecords.length : Int)⟩ : Pfx)).bind fun st35 => (gOText st35).bind fun (x37, x38, st39) => (if x27 = 0 then (if x38 = 0 then some false else some true) else some true).bind fun y42 => if y42 = true then some ([], 11) else ((f_crc_New).bind fun st47 => if 21 ≤ x37.length then ((f_crc_TableSum st47 [(x37.drop 21), x26]).bind fun (x52, st53) => if -9223372036854775808 ≤ x52 ∧ x52 ≤ 9223372036854775807 then ((f_prefix_Write ([], 0) (⟨a0.fBase, (49 + (x26.length : Int)), a0.fLeader, x52, x31, a0.fLast, a0.fFirst, a0.fMax, a0.fProducer, a0.fEpoch, a0.fSequence, (a0.fRecords.length : Int)⟩ : Pfx)).bind fun st56 => (gOPut st56 x26).bind fun st58 => (gOText st58).bind fun (x60, x61, st62) => some (x60, x61)) else none) else none)) else none) else some ([], x4)
set_option maxRecDepth 100000 in
set_option maxHeartbeats 4000000 in
theorem f_batch_Encode_spec (a0 : Bat) (A1 : Option Addr) (c2 : Nat) (r : List UInt8 × Int) (h : f_batch_Encode a0 = some r) : SpecX Try.prog 27 #[.agg #[.int .i64 a0.fBase, .int .i64 a0.fLeader, .bool a0.fAppend, .bool a0.fTxn, .bool a0.fControl, .int .i64 a0.fLast, .int .i64 a0.fFirst, .int .i64 a0.fMax, .int .i64 a0.fProducer, .int .i64 a0.fEpoch, .int .i64 a0.fSequence, .slice A1 a0.fRecords.length c2]] (RX.of (sliceRd 7 Rec_rd) [.slice A1 a0.fRecords.length c2] a0.fRecords) (EmpR) (fun v A' N => v = .tuple #[.string (bsOf r.1), .int .i64 r.2] ∧ A' = EmpR ∧ N = []) := by
  refine enterA Try.func27 rfl Try.ntmps27 rfl ?_
  intro F w hX
  unfold f_batch_Encode at h
  refine T.seq (T.region rfl ?_)
  refine TL.box rfl .u rfl rfl (fun b3 => ?_)
  refine TL.run ft_batch_ok [1, 2] rfl rfl ?_
  refine TL.nil (X.seq (T.seq (T.seq (T.region rfl ?_))))
  refine TL.q rfl .u (Ex.bS (us := [.int .i64 a0.fBase, .int .i64 a0.fLeader, .bool a0.fAppend, .bool a0.fTxn, .bool a0.fControl, .int .i64 a0.fLast, .int .i64 a0.fFirst, .int .i64 a0.fMax, .int .i64 a0.fProducer, .int .i64 a0.fEpoch, .int .i64 a0.fSequence, .slice A1 a0.fRecords.length c2]) 0 rfl Try.isAgg36 Try.sizeOf36 rfl rfl rfl) rfl ?_
  obtain ⟨x4, hx5, h⟩ := Option.bind_eq_some_iff.1 h
  refine TL.ce rfl .u (.fn Try.call26 rfl) (f_batch_Check_spec a0 _ _ _ hx5) (fun _ hs => (SrcE.old hs hX)) rfl ?_
  refine TL.run ft_batch_ok [2] rfl rfl ?_
  refine TL.nil (X.seq (T.seq (T.region rfl ?_)))
  refine TL.run ft_batch_ok [0, 1] rfl rfl ?_
  by_cases c6 : x4 = 0
  · replace h := ifT c6 h
    refine TL.nil (X.seq ?_)
    refine T.no rfl (bn_f (decide_eq_true c6)) ?_
    refine T.skip (X.seq (T.seq (T.region rfl ?_)))
    refine TL.newout rfl .u Try.zeroValue100 rfl (fun b7 => ?_)
    refine TL.nil (X.seq (T.seq (T.seq (T.region rfl ?_))))
    refine TL.run ft_batch_ok [0] rfl rfl ?_
    refine TL.q rfl .u (Ex.b1 1 rfl Try.isAgg34 rfl rfl) rfl ?_
    refine TL.q rfl .u (Ex.lenS rfl Try.runUnderlying34) rfl ?_
    refine TL.run ft_batch_ok [3] rfl rfl ?_
    refine TL.nil (X.seq (T.block ?_))
    obtain ⟨E10, hE11, hO12⟩ := Option.bind_eq_some_iff.1 h
    have hk16len := RX.len_le hX
    refine T.lp (fun m e Rs => ∃ (k8 : Nat) (st9 : List UInt8 × Int), k8 + m = a0.fRecords.length ∧ e = [(1, .pointer (some ⟨b3, 0, none⟩)), (2, .string ⟨#[]⟩), (3, .int .i64 0), (5, .pointer (some ⟨b7, 0, none⟩)), (20, .slice A1 a0.fRecords.length c2), (21, .int .i64 (a0.fRecords.length : Int)), (22, .int .i64 (k8 : Int))] ∧ Rs = [OutR b7 st9, BlkR b3 36 #[.int .i64 a0.fBase, .int .i64 a0.fLeader, .bool a0.fAppend, .bool a0.fTxn, .bool a0.fControl, .int .i64 a0.fLast, .int .i64 a0.fFirst, .int .i64 a0.fMax, .int .i64 a0.fProducer, .int .i64 a0.fEpoch, .int .i64 a0.fSequence, .slice A1 a0.fRecords.length c2], EmpR] ∧ f_batch_Encode_l1 (a0.fRecords.drop k8) st9 = some E10) (a0.fRecords.length) [0, 0, 0] ⟨0, ([], 0), by simp, rfl, rfl, by rw [List.drop_zero]; exact hE11⟩ (by rfl) (by rfl) ?_
    rintro m13 _ _ ⟨k8, st9, hk16, rfl, rfl, hl15⟩
    clear hE11 h
    cases m13 with
    | zero =>
      have h := hl15
      clear hl15
      rw [List.drop_of_length_le (by omega), f_batch_Encode_l1] at h
      have hk16ge : ¬ ((k8 : Int) < (a0.fRecords.length : Int)) := by omega
      refine T.seq (T.region rfl ?_)
      refine TL.run ft_batch_ok [0] rfl rfl ?_
      refine TL.nil (X.seq (T.seq ?_))
      refine T.no rfl (decide_eq_false hk16ge) ?_
      obtain rfl := Option.some.inj h
      replace h := hO12
      clear hO12
      try dsimp only at h
      obtain ⟨⟨x64, x65, st66⟩, hx67, h⟩ := Option.bind_eq_some_iff.1 h
      try dsimp only at h
      refine T.exit (X.exs (X.exs (X.ex (X.seq (T.seq (T.region rfl ?_))))))
      refine TL.c0 rfl .u (.fn Try.call49 rfl) (gOText_spec b7 st9 _ hx67) (fun _ hs => (Src.triv _)) rfl ?_
      refine TL.run ft_batch_ok [1, 2, 3, 4, 5] rfl rfl ?_
      replace h := guard_some h
      obtain ⟨c68, h⟩ := h
      obtain ⟨x69, hx70, h⟩ := Option.bind_eq_some_iff.1 h
      refine TL.nil (X.seq (T.seq ?_))
      refine T.join (fun e Rs => ∃ (b71 : Nat), e = [(1, .pointer (some ⟨b3, 0, none⟩)), (2, .string ⟨#[]⟩), (3, .int .i64 0), (5, .pointer (some ⟨b7, 0, none⟩)), (8, .string (bsOf x64)), (9, .int .i64 x65), (10, .pointer (some ⟨b71, 0, none⟩)), (20, .slice A1 a0.fRecords.length c2), (21, .int .i64 (a0.fRecords.length : Int)), (22, .int .i64 (k8 : Int)), (23, .bool (decide ((k8 : Int) < (a0.fRecords.length : Int)))), (29, .tuple #[.string (bsOf x64), .int .i64 x65]), (30, .tuple #[.string (bsOf x64), .int .i64 x65]), (31, .string (bsOf x64)), (32, .int .i64 x65)] ∧ Rs = [BlkR b71 105 #[.int .i64 a0.fBase, .int .i64 (49 + (x64.length : Int)), .int .i64 a0.fLeader, .int .i64 0, .int .i64 x69, .int .i64 a0.fLast, .int .i64 a0.fFirst, .int .i64 a0.fMax, .int .i64 a0.fProducer, .int .i64 a0.fEpoch, .int .i64 a0.fSequence, .int .i64 (a0.fRecords.length : Int)], OutR b7 st66, BlkR b3 36 #[.int .i64 a0.fBase, .int .i64 a0.fLeader, .bool a0.fAppend, .bool a0.fTxn, .bool a0.fControl, .int .i64 a0.fLast, .int .i64 a0.fFirst, .int .i64 a0.fMax, .int .i64 a0.fProducer, .int .i64 a0.fEpoch, .int .i64 a0.fSequence, .slice A1 a0.fRecords.length c2], EmpR]) ?_ ?_
      · refine T.draw (.q 0 (.q 1 (.q 2 (.q 3 (.q 4 (.q 5 (.q 6 (.q 7 (.q 9 (.q 10 (.q 11 (.q 12 (.q 13 (.q 14 (.q 15 (.q 16 (.q 17 (.q 18 (.q 19 (.q 20 (.q 21 (.q 22 (.q 23 (.br 8 (.q 24 (.e 25 (.e 26 .nil))) (.e 25 (.e 8 (.q 24 (.e 26 .nil)))))))))))))))))))))))))))) [0, 0, 0] rfl mix_batch np_jq (by kernel_rfl) ?_
        refine TD.run ft_batch_ok [0] rfl rfl ?_
        refine TD.q rfl .u (Ex.b1 1 rfl Try.isAgg3 rfl rfl) rfl ?_
        refine TD.run ft_batch_ok [2] rfl rfl ?_
        refine TD.q rfl .u (Ex.lenB rfl Try.runUnderlying9) rfl ?_
        refine TD.q rfl .u (Ex.add rfl rfl c68) rfl ?_
        refine TD.run ft_batch_ok [5] rfl rfl ?_
        refine TD.q rfl .u (Ex.b1 1 rfl Try.isAgg3 rfl rfl) rfl ?_
        refine TD.q rfl .u (Ex.bS (us := [.int .i64 a0.fBase, .int .i64 a0.fLeader, .bool a0.fAppend, .bool a0.fTxn, .bool a0.fControl, .int .i64 a0.fLast, .int .i64 a0.fFirst, .int .i64 a0.fMax, .int .i64 a0.fProducer, .int .i64 a0.fEpoch, .int .i64 a0.fSequence, .slice A1 a0.fRecords.length c2]) 1 rfl Try.isAgg36 Try.sizeOf36 rfl rfl rfl) rfl ?_
        refine TD.run ft_batch_ok [9] rfl rfl ?_
        refine TD.q rfl .u (Ex.b1 1 rfl Try.isAgg3 rfl rfl) rfl ?_
        refine TD.run ft_batch_ok [11] rfl rfl ?_
        refine TD.q rfl .u (Ex.b1 1 rfl Try.isAgg3 rfl rfl) rfl ?_
        refine TD.run ft_batch_ok [13] rfl rfl ?_
        refine TD.q rfl .u (Ex.b1 1 rfl Try.isAgg3 rfl rfl) rfl ?_
        refine TD.run ft_batch_ok [15] rfl rfl ?_
        refine TD.q rfl .u (Ex.b1 1 rfl Try.isAgg3 rfl rfl) rfl ?_
        refine TD.run ft_batch_ok [17] rfl rfl ?_
        refine TD.q rfl .u (Ex.b1 1 rfl Try.isAgg3 rfl rfl) rfl ?_
        refine TD.run ft_batch_ok [19] rfl rfl ?_
        refine TD.q rfl .u (Ex.b1 1 rfl Try.isAgg3 rfl rfl) rfl ?_
        refine TD.run ft_batch_ok [21] rfl rfl ?_
        refine TD.q rfl .u (Ex.b1 1 rfl Try.isAgg34 rfl rfl) rfl ?_
        refine TD.q rfl .u (Ex.lenS rfl Try.runUnderlying34) rfl ?_
        refine TD.br ?_ ?_
        · refine TD.ce rfl .u (.fn Try.call50 rfl) (gAOf_spec a0 _ _ _ hx70) (fun _ hs => (SrcE.old hs hX)) rfl [0, 0, 0] (rfl) ?_
          refine TD.q rfl .u (Ex.bld (cells := #[.int .i64 a0.fBase, .int .i64 (49 + (x64.length : Int)), .int .i64 a0.fLeader, .int .i64 0, .int .i64 x69, .int .i64 a0.fLast, .int .i64 a0.fFirst, .int .i64 a0.fMax, .int .i64 a0.fProducer, .int .i64 a0.fEpoch, .int .i64 a0.fSequence, .int .i64 (a0.fRecords.length : Int)]) bok_batch_105 rfl (by kernel_rfl)) rfl ?_
          refine TD.alloc rfl .u Try.zeroValue105 rfl [1, 1, 1] (fun _ => rfl) (fun b71 => ?_)
          refine TD.st0 (cs' := #[.int .i64 a0.fBase, .int .i64 (49 + (x64.length : Int)), .int .i64 a0.fLeader, .int .i64 0, .int .i64 x69, .int .i64 a0.fLast, .int .i64 a0.fFirst, .int .i64 a0.fMax, .int .i64 a0.fProducer, .int .i64 a0.fEpoch, .int .i64 a0.fSequence, .int .i64 (a0.fRecords.length : Int)]) rfl .u rfl rfl Try.sizeOf105 rfl rfl rfl rfl [1, 1, 1] (rfl) ?_
          exact TD.nil (X.jn [0, 0, 0, 0] ⟨b71, rfl, rfl⟩ (by rfl) (by rfl))
        · refine TD.alloc rfl .u Try.zeroValue105 rfl [1, 1, 1] (fun _ => rfl) (fun b71 => ?_)
          refine TD.ce rfl .u (.fn Try.call50 rfl) (gAOf_spec a0 _ _ _ hx70) (fun _ hs => (SrcE.old hs hX)) rfl [1, 1, 1] (rfl) ?_
          refine TD.q rfl .u (Ex.bld (cells := #[.int .i64 a0.fBase, .int .i64 (49 + (x64.length : Int)), .int .i64 a0.fLeader, .int .i64 0, .int .i64 x69, .int .i64 a0.fLast, .int .i64 a0.fFirst, .int .i64 a0.fMax, .int .i64 a0.fProducer, .int .i64 a0.fEpoch, .int .i64 a0.fSequence, .int .i64 (a0.fRecords.length : Int)]) bok_batch_105 rfl (by kernel_rfl)) rfl ?_
          refine TD.st0 (cs' := #[.int .i64 a0.fBase, .int .i64 (49 + (x64.length : Int)), .int .i64 a0.fLeader, .int .i64 0, .int .i64 x69, .int .i64 a0.fLast, .int .i64 a0.fFirst, .int .i64 a0.fMax, .int .i64 a0.fProducer, .int .i64 a0.fEpoch, .int .i64 a0.fSequence, .int .i64 (a0.fRecords.length : Int)]) rfl .u rfl rfl Try.sizeOf105 rfl rfl rfl rfl [1, 1, 1] (rfl) ?_
          exact TD.nil (X.jn [0, 0, 0, 0] ⟨b71, rfl, rfl⟩ (by rfl) (by rfl))
      · rintro _ _ ⟨b71, rfl, rfl⟩
        refine X.seq (T.seq (T.region rfl ?_))
        refine TL.newout rfl .u Try.zeroValue100 rfl (fun b72 => ?_)
        refine TL.nil (X.seq (T.seq (T.region rfl ?_)))
        refine TL.q rfl .u (Ex.bS (us := [.int .i64 a0.fBase, .int .i64 (49 + (x64.length : Int)), .int .i64 a0.fLeader, .int .i64 0, .int .i64 x69, .int .i64 a0.fLast, .int .i64 a0.fFirst, .int .i64 a0.fMax, .int .i64 a0.fProducer, .int .i64 a0.fEpoch, .int .i64 a0.fSequence, .int .i64 (a0.fRecords.length : Int)]) 1 rfl Try.isAgg105 Try.sizeOf105 rfl rfl rfl) rfl ?_
        obtain ⟨st73, hx74, h⟩ := Option.bind_eq_some_iff.1 h
        refine TL.c0 rfl .u (.fn Try.call51 rfl) (f_prefix_Write_spec b72 ([], 0) (⟨a0.fBase, (49 + (x64.length : Int)), a0.fLeader, 0, x69, a0.fLast, a0.fFirst, a0.fMax, a0.fProducer, a0.fEpoch, a0.fSequence, (a0.fRecords.length : Int)⟩ : Pfx) _ hx74) (fun _ hs => (Src.triv _)) rfl ?_
        obtain ⟨⟨x75, x76, st77⟩, hx78, h⟩ := Option.bind_eq_some_iff.1 h
        try dsimp only at h
        refine TL.nil (X.seq (T.seq (T.region rfl ?_)))
        refine TL.c0 rfl .u (.fn Try.call49 rfl) (gOText_spec b72 st73 _ hx78) (fun _ hs => (Src.triv _)) rfl ?_
        refine TL.run ft_batch_ok [1, 2, 3, 4, 5] rfl rfl ?_
        refine TL.nil (X.seq (T.seq (T.seq ?_)))
        obtain ⟨y80, h, hk81⟩ := Option.bind_eq_some_iff.1 h
        refine T.jq (fun e Rs => e = [(2, .string ⟨#[]⟩), (3, .int .i64 0), (8, .string (bsOf x64)), (10, .pointer (some ⟨b71, 0, none⟩)), (11, .pointer (some ⟨b72, 0, none⟩)), (12, .string (bsOf x75)), (69, .bool y80)] ∧ Rs = [OutR b72 st77, BlkR b71 105 #[.int .i64 a0.fBase, .int .i64 (49 + (x64.length : Int)), .int .i64 a0.fLeader, .int .i64 0, .int .i64 x69, .int .i64 a0.fLast, .int .i64 a0.fFirst, .int .i64 a0.fMax, .int .i64 a0.fProducer, .int .i64 a0.fEpoch, .int .i64 a0.fSequence, .int .i64 (a0.fRecords.length : Int)], OutR b7 st66, BlkR b3 36 #[.int .i64 a0.fBase, .int .i64 a0.fLeader, .bool a0.fAppend, .bool a0.fTxn, .bool a0.fControl, .int .i64 a0.fLast, .int .i64 a0.fFirst, .int .i64 a0.fMax, .int .i64 a0.fProducer, .int .i64 a0.fEpoch, .int .i64 a0.fSequence, .slice A1 a0.fRecords.length c2], EmpR]) ?_ ?_
        · clear hk81
          refine T.region rfl ?_
          by_cases c82 : x65 = 0
          · replace h := ifT c82 h
            refine TL.run ft_batch_ok [0, 1, 2] rfl rfl ?_
            refine TL.q rfl (.g rfl rfl (bn_f (decide_eq_true c82))) (Ex.ft ft_batch_ok rfl) rfl ?_
            refine TL.q rfl (.g rfl rfl (bn_f (decide_eq_true c82))) (Ex.ft ft_batch_ok rfl) rfl ?_
            refine TL.q rfl .u (Ex.pn rfl (bn_f (decide_eq_true c82)) rfl) rfl ?_
            by_cases c83 : x76 = 0
            · replace h := ifT c83 h
              cases h
              exact TL.nil (X.as (d := 69) (v' := .bool false) rfl (congrArg Value.bool (bn_f (decide_eq_true c83))) (X.jq [0, 0, 0, 0, 0] ⟨rfl, rfl⟩ (by rfl) (by rfl)))
            · replace h := ifF c83 h
              cases h
              exact TL.nil (X.as (d := 69) (v' := .bool true) rfl (congrArg Value.bool (bn_t (decide_eq_false c83))) (X.jq [0, 0, 0, 0, 0] ⟨rfl, rfl⟩ (by rfl) (by rfl)))
          · replace h := ifF c82 h
            refine TL.run ft_batch_ok [0, 1, 2] rfl rfl ?_
            refine TL.no rfl (.gn rfl rfl (bn_t (decide_eq_false c82))) rfl ?_
            refine TL.no rfl (.gn rfl rfl (bn_t (decide_eq_false c82))) rfl ?_
            refine TL.q rfl .u (Ex.py rfl (bn_t (decide_eq_false c82)) rfl) rfl ?_
            cases h
            exact TL.nil (X.jq [0, 0, 0, 0, 0] ⟨rfl, rfl⟩ (by rfl) (by rfl))
        · rintro _ _ ⟨rfl, rfl⟩
          clear h
          have h := hk81
          clear hk81
          try dsimp only at h
          by_cases c84 : y80 = true
          · replace h := ifT c84 h
            refine X.seq ?_
            refine T.yes rfl c84 ?_
            refine T.seq (T.region rfl ?_)
            refine TL.run ft_batch_ok [0, 1] rfl rfl ?_
            obtain rfl := Option.some.inj h
            exact TL.nil (X.seq (T.ret (X.rs (X.done2 [4] Try.results27 (RV.tm rfl) (RV.tm rfl) ⟨rfl, rfl, rfl⟩ (by rfl) (.inl rfl)))))
          · replace h := ifF c84 h
            replace c84 := eq_false_of_ne_true c84
            refine X.seq ?_
            refine T.no rfl c84 ?_
            obtain ⟨st85, hx86, h⟩ := Option.bind_eq_some_iff.1 h
            replace h := guard_some h
            obtain ⟨c88, h⟩ := h
            obtain ⟨⟨x90, st91⟩, hx92, h⟩ := Option.bind_eq_some_iff.1 h
            try dsimp only at h
            replace h := guard_some h
            obtain ⟨c93, h⟩ := h
            refine T.skip (X.seq (T.seq ?_))
            refine T.join (fun e Rs => ∃ (b87 : Nat) (b89 : Nat), e = [(2, .string ⟨#[]⟩), (3, .int .i64 0), (8, .string (bsOf x64)), (10, .pointer (some ⟨b71, 0, none⟩)), (11, .pointer (some ⟨b72, 0, none⟩)), (69, .bool y80)] ∧ Rs = [OwnR 9 1 strE (.slice (some ⟨b89, 0, none⟩) 2 2) [(x75.drop 21), x64], TabR 143 b87 st91, OutR b72 st77, BlkR b71 105 #[.int .i64 a0.fBase, .int .i64 (49 + (x64.length : Int)), .int .i64 a0.fLeader, .int .i64 x90, .int .i64 x69, .int .i64 a0.fLast, .int .i64 a0.fFirst, .int .i64 a0.fMax, .int .i64 a0.fProducer, .int .i64 a0.fEpoch, .int .i64 a0.fSequence, .int .i64 (a0.fRecords.length : Int)], OutR b7 st66, BlkR b3 36 #[.int .i64 a0.fBase, .int .i64 a0.fLeader, .bool a0.fAppend, .bool a0.fTxn, .bool a0.fControl, .int .i64 a0.fLast, .int .i64 a0.fFirst, .int .i64 a0.fMax, .int .i64 a0.fProducer, .int .i64 a0.fEpoch, .int .i64 a0.fSequence, .slice A1 a0.fRecords.length c2], EmpR]) ?_ ?_
            · refine T.draw (.q 1 (.q 2 (.q 3 (.br 0 (.e 4 (.e 5 (.q 6 (.q 7 (.e 8 .nil))))) (.e 4 (.e 0 (.e 5 (.q 6 (.q 7 (.e 8 .nil)))))))))) [0, 1, 1, 1] rfl mix_batch np_jq (by kernel_rfl) ?_
              refine TD.run ft_batch_ok [1] rfl rfl ?_
              refine TD.q rfl .u (Ex.sSl (p := 21) (q := x75.length) (m := (x75.drop 21)) rfl Try.runUnderlying9 (.some rfl rfl) .none (by first | omega | (dsimp only; omega)) (sl_drop _ _)) rfl ?_
              refine TD.run ft_batch_ok [3] rfl rfl ?_
              refine TD.br ?_ ?_
              · refine TD.cge rfl .u (.fn Try.call52 rfl) (f_crc_New_spec _ hx86) (fun _ hs => (RX.reads_triv _ _)) rfl [1, 2, 2, 2] ?_ ?_
                · rintro _ _ _ ⟨b87, rfl, rfl, rfl⟩
                  rfl
                rintro _ _ _ ⟨b87, rfl, rfl, rfl⟩
                refine TD.sel [0, 0, 0, 0, 0, 0] rfl ?_
                refine TD.lit (cells := #[.string (bsOf (x75.drop 21)), .string (bsOf x64)]) rfl .u sok_batch_39_2 rfl (by rfl) rfl [2, 3, 3, 3] (fun _ => rfl) (fun b89 => ?_)
                refine TD.rowOf (us := [.string (bsOf (x75.drop 21)), .string (bsOf x64)]) (xs := [(x75.drop 21), x64]) (E := strE) (z := 1) rfl (Nat.le_of_ble_eq_true rfl) (fun _ => ⟨rfl, rfl, ⟨rfl, rfl, rfl⟩⟩) ?_
                refine TD.c1 rfl .u (.fn Try.call53 rfl) (f_crc_TableSum_spec b87 st85 [(x75.drop 21), x64] _ _ _ hx92) (fun _ hs => (Src.res 0 rfl (fun w G h => own_reads (by decide) w G h))) rfl [2, 3, 3, 3] (rfl) ?_
                refine TD.q rfl .u (Ex.conv64 rfl Try.runUnderlying94 Try.runUnderlying3 c93) rfl ?_
                refine TD.run ft_batch_ok [7] rfl rfl ?_
                refine TD.st3 (cs' := #[.int .i64 a0.fBase, .int .i64 (49 + (x64.length : Int)), .int .i64 a0.fLeader, .int .i64 x90, .int .i64 x69, .int .i64 a0.fLast, .int .i64 a0.fFirst, .int .i64 a0.fMax, .int .i64 a0.fProducer, .int .i64 a0.fEpoch, .int .i64 a0.fSequence, .int .i64 (a0.fRecords.length : Int)]) rfl .u rfl rfl Try.sizeOf3 rfl rfl rfl rfl [2, 3, 3, 3] (rfl) ?_
                exact TD.nil (X.jn [0, 0, 0, 0, 0, 0, 0] ⟨b87, b89, rfl, rfl⟩ (by rfl) (by rfl))
              · refine TD.lit (cells := #[.string (bsOf (x75.drop 21)), .string (bsOf x64)]) rfl .u sok_batch_39_2 rfl (by rfl) rfl [1, 2, 2, 2] (fun _ => rfl) (fun b89 => ?_)
                refine TD.rowOf (us := [.string (bsOf (x75.drop 21)), .string (bsOf x64)]) (xs := [(x75.drop 21), x64]) (E := strE) (z := 1) rfl (Nat.le_of_ble_eq_true rfl) (fun _ => ⟨rfl, rfl, ⟨rfl, rfl, rfl⟩⟩) ?_
                refine TD.cge rfl .u (.fn Try.call52 rfl) (f_crc_New_spec _ hx86) (fun _ hs => (RX.reads_triv _ _)) rfl [2, 3, 3, 3] ?_ ?_
                · rintro _ _ _ ⟨b87, rfl, rfl, rfl⟩
                  rfl
                rintro _ _ _ ⟨b87, rfl, rfl, rfl⟩
                refine TD.sel [0, 0, 0, 0, 0, 0, 0] rfl ?_
                refine TD.c0 rfl .u (.fn Try.call53 rfl) (f_crc_TableSum_spec b87 st85 [(x75.drop 21), x64] _ _ _ hx92) (fun _ hs => (Src.res 0 rfl (fun w G h => own_reads (by decide) w G h))) rfl [2, 3, 3, 3] (rfl) ?_
                refine TD.q rfl .u (Ex.conv64 rfl Try.runUnderlying94 Try.runUnderlying3 c93) rfl ?_
                refine TD.run ft_batch_ok [7] rfl rfl ?_
                refine TD.st3 (cs' := #[.int .i64 a0.fBase, .int .i64 (49 + (x64.length : Int)), .int .i64 a0.fLeader, .int .i64 x90, .int .i64 x69, .int .i64 a0.fLast, .int .i64 a0.fFirst, .int .i64 a0.fMax, .int .i64 a0.fProducer, .int .i64 a0.fEpoch, .int .i64 a0.fSequence, .int .i64 (a0.fRecords.length : Int)]) rfl .u rfl rfl Try.sizeOf3 rfl rfl rfl rfl [2, 3, 3, 3] (rfl) ?_
                exact TD.nil (X.jn [1, 0, 0, 0, 0, 0, 0] ⟨b87, b89, rfl, rfl⟩ (by rfl) (by rfl))
            · rintro _ _ ⟨b87, b89, rfl, rfl⟩
              refine X.seq (T.seq (T.region rfl ?_))
              refine TL.q rfl .u (Ex.bld (cells := #[.slice none 0 0, .int .i64 0]) bok_batch_100 rfl (by kernel_rfl)) rfl ?_
              refine TL.outZ 2 rfl .u rfl rfl Try.sizeOf100 rfl ?_
              refine TL.sel [0, 0, 0, 0, 0, 0, 0] rfl ?_
              refine TL.nil (X.seq (T.seq (T.region rfl ?_)))
              refine TL.q rfl .u (Ex.bS (us := [.int .i64 a0.fBase, .int .i64 (49 + (x64.length : Int)), .int .i64 a0.fLeader, .int .i64 x90, .int .i64 x69, .int .i64 a0.fLast, .int .i64 a0.fFirst, .int .i64 a0.fMax, .int .i64 a0.fProducer, .int .i64 a0.fEpoch, .int .i64 a0.fSequence, .int .i64 (a0.fRecords.length : Int)]) 3 rfl Try.isAgg105 Try.sizeOf105 rfl rfl rfl) rfl ?_
              obtain ⟨st94, hx95, h⟩ := Option.bind_eq_some_iff.1 h
              refine TL.c2 rfl .u (.fn Try.call51 rfl) (f_prefix_Write_spec b72 ([], 0) (⟨a0.fBase, (49 + (x64.length : Int)), a0.fLeader, x90, x69, a0.fLast, a0.fFirst, a0.fMax, a0.fProducer, a0.fEpoch, a0.fSequence, (a0.fRecords.length : Int)⟩ : Pfx) _ hx95) (fun _ hs => (Src.triv _)) rfl ?_
              refine TL.nil (X.seq (T.seq (T.region rfl ?_)))
              obtain ⟨st96, hx97, h⟩ := Option.bind_eq_some_iff.1 h
              refine TL.run ft_batch_ok [0] rfl rfl ?_
              refine TL.c2 rfl .u (.fn Try.call54 rfl) (gOPut_spec b72 st94 x64 _ hx97) (fun _ hs => (Src.triv _)) rfl ?_
              obtain ⟨⟨x98, x99, st100⟩, hx101, h⟩ := Option.bind_eq_some_iff.1 h
              try dsimp only at h
              refine TL.nil (X.seq (T.seq (T.region rfl ?_)))
              refine TL.c2 rfl .u (.fn Try.call49 rfl) (gOText_spec b72 st96 _ hx101) (fun _ hs => (Src.triv _)) rfl ?_
              refine TL.run ft_batch_ok [1, 2, 3, 4] rfl rfl ?_
              obtain rfl := Option.some.inj h
              exact TL.nil (X.seq (T.ret (X.done2 [6] Try.results27 (RV.tm rfl) (RV.tm rfl) ⟨rfl, rfl, rfl⟩ (by rfl) (.inl rfl))))
    | succ m13 =>
      have h := hl15
      clear hl15
      obtain ⟨x14, hxx14⟩ : ∃ x, a0.fRecords[k8]? = some x := ⟨_, List.getElem?_eq_getElem (by omega)⟩
      rw [drop_cons hxx14, f_batch_Encode_l1] at h
      have hk16lt : (k8 : Int) < (a0.fRecords.length : Int) := by omega
      refine T.seq (T.region rfl ?_)
      refine TL.run ft_batch_ok [0] rfl rfl ?_
      refine TL.nil (X.seq (T.seq ?_))
      refine T.yes rfl (decide_eq_true hk16lt) ?_
      obtain ⟨gz17, oz17, rfl, z17cs, z17cl, z17cc, z17nf, z17r⟩ := RX.elem (by decide) hX hxx14
      obtain ⟨z17S, z17r, z17rr⟩ := z17r
      obtain ⟨A18, c19, rfl, z17s0⟩ := z17r
      have hX20 : (RX.of (sliceRd 3 Hd_rd) [.slice A18 x14.fHeaders.length c19] x14.fHeaders).reads w F := ⟨z17S, z17s0, z17rr⟩
      refine T.skip (X.seq (T.seq (T.block (T.seq (T.region rfl ?_)))))
      refine TL.q rfl .u (Ex.ixS (k := k8) rfl rfl rfl Try.runUnderlying34 Try.sizeOf83 (List.getElem?_eq_some_iff.1 hxx14).1) rfl ?_
      refine TL.q rfl .u (Ex.oS (us := [.int .i64 x14.fTime, .int .i64 x14.fOffset, .bool x14.fKey.null, .string (bsOf x14.fKey.data), .bool x14.fValue.null, .string (bsOf x14.fValue.data), .slice A18 x14.fHeaders.length c19]) 0 rfl Try.isAgg83 Try.sizeOf83 z17nf z17cc rfl rfl rfl) rfl ?_
      refine TL.alloc rfl .u Try.zeroValue83 rfl (fun b21 => ?_)
      refine TL.st0 (cs' := #[.int .i64 x14.fTime, .int .i64 x14.fOffset, .bool x14.fKey.null, .string (bsOf x14.fKey.data), .bool x14.fValue.null, .string (bsOf x14.fValue.data), .slice A18 x14.fHeaders.length c19]) rfl .u rfl rfl Try.sizeOf83 rfl rfl rfl rfl ?_
      refine TL.nil (X.seq (T.region rfl ?_))
      refine TL.q rfl .u (Ex.bS (us := [.int .i64 x14.fTime, .int .i64 x14.fOffset, .bool x14.fKey.null, .string (bsOf x14.fKey.data), .bool x14.fValue.null, .string (bsOf x14.fValue.data), .slice A18 x14.fHeaders.length c19]) 0 rfl Try.isAgg83 Try.sizeOf83 rfl rfl rfl) rfl ?_
      obtain ⟨st22, hx23, h⟩ := Option.bind_eq_some_iff.1 h
      refine TL.c1 rfl .u (.fn Try.call48 rfl) (f_record_Write_spec b7 st9 x14 _ _ _ hx23) (fun _ hs => (Src.old hs hX20)) rfl ?_
      refine TL.nil (X.blk (X.seq (T.region rfl ?_)))
      refine TL.q rfl .u (Ex.add rfl rfl (by omega)) rfl ?_
      refine TL.run ft_batch_ok [1] rfl rfl ?_
      exact TL.nil (X.back (m' := m13) [1, 1, 1] (by omega) ⟨k8 + 1, st22, by omega, rfl, rfl, h⟩ (by rfl) (by rfl))
  · replace h := ifF c6 h
    refine TL.nil (X.seq ?_)
    refine T.yes rfl (bn_t (decide_eq_false c6)) ?_
    refine T.seq (T.region rfl ?_)
    refine TL.run ft_batch_ok [0, 1, 2] rfl rfl ?_
    obtain rfl := Option.some.inj h
    exact TL.nil (X.seq (T.ret (X.rs (X.done2 [1] Try.results27 (RV.tm rfl) (RV.tm rfl) ⟨rfl, rfl, rfl⟩ (by rfl) (.inl rfl)))))
def f_batch_All_l1 : List Bat → List UInt8 → Int → List UInt8 → Option (Lp (List UInt8 × Int) (List UInt8 × Int × List UInt8))
  | [], y4, y5, st7 => some (Lp.go (y4, y5, st7))
  | x12 :: xs, y4, y5, st7 => (f_batch_Encode x12).bind fun (x20, x21) => if x21 = 0 then ((gBWrite st7 x20).bind fun st24 => f_batch_All_l1 xs y4 y5 st24) else (some (Lp.ret ([], x21)))
def f_batch_All (a0 : List Bat) : Option (List UInt8 × Int) := (f_batch_All_l1 a0 [] 0 []).bind fun e => match e with | .ret r => some r | .go (y26, y27, st29) => ((gBStr st29).bind fun x30 => some (x30, 0))
set_option maxRecDepth 100000 in
set_option maxHeartbeats 4000000 in
theorem f_batch_All_spec (a0 : List Bat) (A1 : Option Addr) (c2 : Nat) (r : List UInt8 × Int) (h : f_batch_All a0 = some r) : SpecX Try.prog 10 #[.slice A1 a0.length c2] (RX.of (sliceRd 12 Bat_rd) [.slice A1 a0.length c2] a0) (EmpR) (fun v A' N => v = .tuple #[.string (bsOf r.1), .int .i64 r.2] ∧ A' = EmpR ∧ N = []) := by
  refine enterA Try.func10 rfl Try.ntmps10 rfl ?_
  intro F w hX
  unfold f_batch_All at h
  refine T.seq (T.region rfl ?_)
  refine TL.run ft_batch_ok [0, 1] rfl rfl ?_
  refine TL.nil (X.seq (T.seq (T.region rfl ?_)))
  refine TL.newbld rfl .u Try.zeroValue72 rfl (fun b3 => ?_)
  refine TL.nil (X.seq (T.seq (T.seq (T.region rfl ?_))))
  refine TL.run ft_batch_ok [0] rfl rfl ?_
  refine TL.q rfl .u (Ex.lenS rfl Try.runUnderlying23) rfl ?_
  refine TL.run ft_batch_ok [2] rfl rfl ?_
  refine TL.nil (X.seq (T.block ?_))
  obtain ⟨E8, hE9, hO10⟩ := Option.bind_eq_some_iff.1 h
  have hk14len := RX.len_le hX
  refine T.lp (fun m e Rs => ∃ (y4 : List UInt8) (y5 : Int) (k6 : Nat) (st7 : List UInt8), k6 + m = a0.length ∧ e = [(2, .string (bsOf y4)), (3, .int .i64 y5), (4, .pointer (some ⟨b3, 0, none⟩)), (9, .slice A1 a0.length c2), (10, .int .i64 (a0.length : Int)), (11, .int .i64 (k6 : Int))] ∧ Rs = [BldR b3 st7, EmpR] ∧ f_batch_All_l1 (a0.drop k6) y4 y5 st7 = some E8) (a0.length) [0, 0] ⟨[], 0, 0, [], by simp, rfl, rfl, by rw [List.drop_zero]; exact hE9⟩ (by rfl) (by rfl) ?_
  rintro m11 _ _ ⟨y4, y5, k6, st7, hk14, rfl, rfl, hl13⟩
  clear hE9 h
  cases m11 with
  | zero =>
    have h := hl13
    clear hl13
    rw [List.drop_of_length_le (by omega), f_batch_All_l1] at h
    have hk14ge : ¬ ((k6 : Int) < (a0.length : Int)) := by omega
    refine T.seq (T.region rfl ?_)
    refine TL.run ft_batch_ok [0] rfl rfl ?_
    refine TL.nil (X.seq (T.seq ?_))
    refine T.no rfl (decide_eq_false hk14ge) ?_
    obtain rfl := Option.some.inj h
    replace h := hO10
    clear hO10
    try dsimp only at h
    obtain ⟨x32, hx33, h⟩ := Option.bind_eq_some_iff.1 h
    refine T.exit (X.exs (X.exs (X.ex (X.seq (T.seq (T.region rfl ?_))))))
    refine TL.c0 rfl .u (.fn Try.call32 rfl) (gBStr_spec b3 st7 _ hx33) (fun _ hs => (Src.triv _)) rfl ?_
    refine TL.sel [1] rfl ?_
    refine TL.run ft_batch_ok [1, 2] rfl rfl ?_
    obtain rfl := Option.some.inj h
    exact TL.nil (X.seq (T.ret (X.done2 [0] Try.results10 (RV.tm rfl) (RV.tm rfl) ⟨rfl, rfl, rfl⟩ (by rfl) (.inl rfl))))
  | succ m11 =>
    have h := hl13
    clear hl13
    obtain ⟨x12, hxx12⟩ : ∃ x, a0[k6]? = some x := ⟨_, List.getElem?_eq_getElem (by omega)⟩
    rw [drop_cons hxx12, f_batch_All_l1] at h
    have hk14lt : (k6 : Int) < (a0.length : Int) := by omega
    refine T.seq (T.region rfl ?_)
    refine TL.run ft_batch_ok [0] rfl rfl ?_
    refine TL.nil (X.seq (T.seq ?_))
    refine T.yes rfl (decide_eq_true hk14lt) ?_
    obtain ⟨gz15, oz15, rfl, z15cs, z15cl, z15cc, z15nf, z15r⟩ := RX.elem (by decide) hX hxx12
    obtain ⟨z15S, z15r, z15rr⟩ := z15r
    obtain ⟨A16, c17, rfl, z15s0⟩ := z15r
    have hX18 : (RX.of (sliceRd 7 Rec_rd) [.slice A16 x12.fRecords.length c17] x12.fRecords).reads w F := ⟨z15S, z15s0, z15rr⟩
    refine T.skip (X.seq (T.seq (T.block (T.seq (T.region rfl ?_)))))
    refine TL.q rfl .u (Ex.ixS (k := k6) rfl rfl rfl Try.runUnderlying23 Try.sizeOf36 (List.getElem?_eq_some_iff.1 hxx12).1) rfl ?_
    refine TL.q rfl .u (Ex.oS (us := [.int .i64 x12.fBase, .int .i64 x12.fLeader, .bool x12.fAppend, .bool x12.fTxn, .bool x12.fControl, .int .i64 x12.fLast, .int .i64 x12.fFirst, .int .i64 x12.fMax, .int .i64 x12.fProducer, .int .i64 x12.fEpoch, .int .i64 x12.fSequence, .slice A16 x12.fRecords.length c17]) 0 rfl Try.isAgg36 Try.sizeOf36 z15nf z15cc rfl rfl rfl) rfl ?_
    refine TL.alloc rfl .u Try.zeroValue36 rfl (fun b19 => ?_)
    refine TL.st0 (cs' := #[.int .i64 x12.fBase, .int .i64 x12.fLeader, .bool x12.fAppend, .bool x12.fTxn, .bool x12.fControl, .int .i64 x12.fLast, .int .i64 x12.fFirst, .int .i64 x12.fMax, .int .i64 x12.fProducer, .int .i64 x12.fEpoch, .int .i64 x12.fSequence, .slice A16 x12.fRecords.length c17]) rfl .u rfl rfl Try.sizeOf36 rfl rfl rfl rfl ?_
    refine TL.nil (X.seq (T.seq (T.region rfl ?_)))
    refine TL.q rfl .u (Ex.bS (us := [.int .i64 x12.fBase, .int .i64 x12.fLeader, .bool x12.fAppend, .bool x12.fTxn, .bool x12.fControl, .int .i64 x12.fLast, .int .i64 x12.fFirst, .int .i64 x12.fMax, .int .i64 x12.fProducer, .int .i64 x12.fEpoch, .int .i64 x12.fSequence, .slice A16 x12.fRecords.length c17]) 0 rfl Try.isAgg36 Try.sizeOf36 rfl rfl rfl) rfl ?_
    obtain ⟨⟨x20, x21⟩, hx22, h⟩ := Option.bind_eq_some_iff.1 h
    try dsimp only at h
    refine TL.ce rfl .u (.fn Try.call27 rfl) (f_batch_Encode_spec x12 _ _ _ hx22) (fun _ hs => (SrcE.old hs hX18)) rfl ?_
    refine TL.run ft_batch_ok [2, 3, 4, 5, 6] rfl rfl ?_
    refine TL.nil (X.seq (T.seq (T.seq (T.region rfl ?_))))
    refine TL.run ft_batch_ok [0, 1] rfl rfl ?_
    by_cases c23 : x21 = 0
    · replace h := ifT c23 h
      refine TL.nil (X.seq ?_)
      refine T.no rfl (bn_f (decide_eq_true c23)) ?_
      refine T.skip (X.seq (T.region rfl ?_))
      obtain ⟨st24, hx25, h⟩ := Option.bind_eq_some_iff.1 h
      refine TL.run ft_batch_ok [0] rfl rfl ?_
      refine TL.c1 rfl .u (.fn Try.call31 rfl) (gBWrite_spec b3 st7 x20 _ hx25) (fun _ hs => (Src.triv _)) rfl ?_
      refine TL.nil (X.blk (X.seq (T.region rfl ?_)))
      refine TL.q rfl .u (Ex.add rfl rfl (by omega)) rfl ?_
      refine TL.run ft_batch_ok [1] rfl rfl ?_
      exact TL.nil (X.back (m' := m11) [1, 1] (by omega) ⟨y4, y5, k6 + 1, st24, by omega, rfl, rfl, h⟩ (by rfl) (by rfl))
    · replace h := ifF c23 h
      refine TL.nil (X.seq ?_)
      refine T.yes rfl (bn_t (decide_eq_false c23)) ?_
      refine T.seq (T.region rfl ?_)
      refine TL.run ft_batch_ok [0, 1, 2] rfl rfl ?_
      obtain rfl := Option.some.inj h
      replace h := hO10
      clear hO10
      try dsimp only at h
      obtain rfl := Option.some.inj h
      exact TL.nil (X.seq (T.ret (X.rs (X.rb (X.rs (X.rs (X.rb (X.rs (X.done2 [2] Try.results10 (RV.tm rfl) (RV.tm rfl) ⟨rfl, rfl, rfl⟩ (by rfl) (.inl rfl))))))))))
end Go.Proofs.Ytahjmpipllajcaa.Sl
namespace Go.Proofs.Ytahjmpipllajcaa.Sl
open Go.RowKit
set_option linter.unusedVariables false
set_option linter.unusedSimpArgs false
set_option maxRecDepth 100000
def ft_tally : FTab := [(36, 11, 11)]
theorem ft_tally_ok : (ft_tally).OK Try.prog := ⟨FOK.mk Try.runUnderlying36 rfl Try.sizeOf34 rfl, trivial⟩
def f_tally_Point (a0 : Bat) : Option (Nat × Nat) := (f_batch_Encode a0).bind fun (x4, x5) => if x5 = 0 then (some ((FloatKind.f64.nearest (x4.length : Int)), (FloatKind.f64.nearest (a0.fRecords.length : Int)))) else some (0, 0)
set_option maxRecDepth 100000 in
set_option maxHeartbeats 4000000 in
theorem f_tally_Point_spec (a0 : Bat) (A1 : Option Addr) (c2 : Nat) (r : Nat × Nat) (h : f_tally_Point a0 = some r) : SpecX Try.prog 24 #[.agg #[.int .i64 a0.fBase, .int .i64 a0.fLeader, .bool a0.fAppend, .bool a0.fTxn, .bool a0.fControl, .int .i64 a0.fLast, .int .i64 a0.fFirst, .int .i64 a0.fMax, .int .i64 a0.fProducer, .int .i64 a0.fEpoch, .int .i64 a0.fSequence, .slice A1 a0.fRecords.length c2]] (RX.of (sliceRd 7 Rec_rd) [.slice A1 a0.fRecords.length c2] a0.fRecords) (EmpR) (fun v A' N => v = .complex .f64 r.1 r.2 ∧ A' = EmpR ∧ N = []) := by
  refine enterA Try.func24 rfl Try.ntmps24 rfl ?_
  intro F w hX
  unfold f_tally_Point at h
  refine T.seq (T.region rfl ?_)
  refine TL.box rfl .u rfl rfl (fun b3 => ?_)
  refine TL.run ft_tally_ok [1] rfl rfl ?_
  refine TL.nil (X.seq (T.seq (T.region rfl ?_)))
  refine TL.q rfl .u (Ex.bS (us := [.int .i64 a0.fBase, .int .i64 a0.fLeader, .bool a0.fAppend, .bool a0.fTxn, .bool a0.fControl, .int .i64 a0.fLast, .int .i64 a0.fFirst, .int .i64 a0.fMax, .int .i64 a0.fProducer, .int .i64 a0.fEpoch, .int .i64 a0.fSequence, .slice A1 a0.fRecords.length c2]) 0 rfl Try.isAgg36 Try.sizeOf36 rfl rfl rfl) rfl ?_
  obtain ⟨⟨x4, x5⟩, hx6, h⟩ := Option.bind_eq_some_iff.1 h
  try dsimp only at h
  refine TL.ce rfl .u (.fn Try.call27 rfl) (f_batch_Encode_spec a0 _ _ _ hx6) (fun _ hs => (SrcE.old hs hX)) rfl ?_
  refine TL.run ft_tally_ok [2, 3, 4, 5, 6] rfl rfl ?_
  refine TL.nil (X.seq (T.seq (T.seq (T.region rfl ?_))))
  refine TL.run ft_tally_ok [0, 1] rfl rfl ?_
  by_cases c7 : x5 = 0
  · replace h := ifT c7 h
    refine TL.nil (X.seq ?_)
    refine T.no rfl (bn_f (decide_eq_true c7)) ?_
    refine T.skip (X.seq (T.seq (T.region rfl ?_)))
    refine TL.run ft_tally_ok [0] rfl rfl ?_
    refine TL.q rfl .u (Ex.lenB rfl Try.runUnderlying9) rfl ?_
    refine TL.q rfl .u (Ex.i2f rfl Try.underlying3 Try.underlying63) rfl ?_
    refine TL.run ft_tally_ok [3] rfl rfl ?_
    refine TL.q rfl .u (Ex.b1 0 rfl Try.isAgg34 rfl rfl) rfl ?_
    refine TL.q rfl .u (Ex.lenS rfl Try.runUnderlying34) rfl ?_
    refine TL.q rfl .u (Ex.i2f rfl Try.underlying3 Try.underlying63) rfl ?_
    refine TL.q rfl .u (Ex.cx rfl rfl) rfl ?_
    refine TL.run ft_tally_ok [8] rfl rfl ?_
    obtain rfl := Option.some.inj h
    exact TL.nil (X.seq (T.ret (X.done1 [1] Try.results24 (RV.tm rfl) ⟨rfl, rfl, rfl⟩ (by rfl) (.inl rfl))))
  · replace h := ifF c7 h
    refine TL.nil (X.seq ?_)
    refine T.yes rfl (bn_t (decide_eq_false c7)) ?_
    refine T.seq (T.region rfl ?_)
    refine TL.run ft_tally_ok [0] rfl rfl ?_
    obtain rfl := Option.some.inj h
    exact TL.nil (X.seq (T.ret (X.rs (X.done1 [1] Try.results24 (RV.tm rfl) ⟨rfl, rfl, rfl⟩ (by rfl) (.inl rfl)))))
def f_tally_Total_l1 : List Bat → (Nat × Nat) → Option (Nat × Nat)
  | [], y3 => some y3
  | x9 :: xs, y3 => (f_tally_Point x9).bind fun x17 => (cSumBits .add .f64 y3.1 y3.2 x17.1 x17.2).bind fun x19 => f_tally_Total_l1 xs x19
def f_tally_Total (a0 : List Bat) : Option (Nat × Nat) := (f_tally_Total_l1 a0 (0, 0)).bind fun y20 => some y20
set_option maxRecDepth 100000 in
set_option maxHeartbeats 4000000 in
theorem f_tally_Total_spec (a0 : List Bat) (A1 : Option Addr) (c2 : Nat) (r : Nat × Nat) (h : f_tally_Total a0 = some r) : SpecX Try.prog 25 #[.slice A1 a0.length c2] (RX.of (sliceRd 12 Bat_rd) [.slice A1 a0.length c2] a0) (EmpR) (fun v A' N => v = .complex .f64 r.1 r.2 ∧ A' = EmpR ∧ N = []) := by
  refine enterA Try.func25 rfl Try.ntmps25 rfl ?_
  intro F w hX
  unfold f_tally_Total at h
  refine T.seq (T.region rfl ?_)
  refine TL.run ft_tally_ok [0] rfl rfl ?_
  refine TL.nil (X.seq (T.seq (T.region rfl ?_)))
  refine TL.run ft_tally_ok [0] rfl rfl ?_
  refine TL.nil (X.seq (T.seq (T.seq (T.region rfl ?_))))
  refine TL.run ft_tally_ok [0] rfl rfl ?_
  refine TL.q rfl .u (Ex.lenS rfl Try.runUnderlying23) rfl ?_
  refine TL.run ft_tally_ok [2] rfl rfl ?_
  refine TL.nil (X.seq (T.block ?_))
  obtain ⟨E5, hE6, hO7⟩ := Option.bind_eq_some_iff.1 h
  have hk11len := RX.len_le hX
  refine T.lp (fun m e Rs => ∃ (y3 : Nat × Nat) (k4 : Nat), k4 + m = a0.length ∧ e = [(2, .complex .f64 0 0), (3, .complex .f64 y3.1 y3.2), (6, .slice A1 a0.length c2), (7, .int .i64 (a0.length : Int)), (8, .int .i64 (k4 : Int))] ∧ Rs = [EmpR] ∧ f_tally_Total_l1 (a0.drop k4) y3 = some E5) (a0.length) [0] ⟨(0, 0), 0, by simp, rfl, rfl, by rw [List.drop_zero]; exact hE6⟩ (by rfl) (by rfl) ?_
  rintro m8 _ _ ⟨y3, k4, hk11, rfl, rfl, hl10⟩
  clear hE6 h
  cases m8 with
  | zero =>
    have h := hl10
    clear hl10
    rw [List.drop_of_length_le (by omega), f_tally_Total_l1] at h
    have hk11ge : ¬ ((k4 : Int) < (a0.length : Int)) := by omega
    refine T.seq (T.region rfl ?_)
    refine TL.run ft_tally_ok [0] rfl rfl ?_
    refine TL.nil (X.seq (T.seq ?_))
    refine T.no rfl (decide_eq_false hk11ge) ?_
    obtain rfl := Option.some.inj h
    replace h := hO7
    clear hO7
    try dsimp only at h
    refine T.exit (X.exs (X.exs (X.ex (X.seq (T.seq (T.region rfl ?_))))))
    refine TL.run ft_tally_ok [0, 1] rfl rfl ?_
    obtain rfl := Option.some.inj h
    exact TL.nil (X.seq (T.ret (X.done1 [0] Try.results25 (RV.tm rfl) ⟨rfl, rfl, rfl⟩ (by rfl) (.inl rfl))))
  | succ m8 =>
    have h := hl10
    clear hl10
    obtain ⟨x9, hxx9⟩ : ∃ x, a0[k4]? = some x := ⟨_, List.getElem?_eq_getElem (by omega)⟩
    rw [drop_cons hxx9, f_tally_Total_l1] at h
    have hk11lt : (k4 : Int) < (a0.length : Int) := by omega
    refine T.seq (T.region rfl ?_)
    refine TL.run ft_tally_ok [0] rfl rfl ?_
    refine TL.nil (X.seq (T.seq ?_))
    refine T.yes rfl (decide_eq_true hk11lt) ?_
    obtain ⟨gz12, oz12, rfl, z12cs, z12cl, z12cc, z12nf, z12r⟩ := RX.elem (by decide) hX hxx9
    obtain ⟨z12S, z12r, z12rr⟩ := z12r
    obtain ⟨A13, c14, rfl, z12s0⟩ := z12r
    have hX15 : (RX.of (sliceRd 7 Rec_rd) [.slice A13 x9.fRecords.length c14] x9.fRecords).reads w F := ⟨z12S, z12s0, z12rr⟩
    refine T.skip (X.seq (T.seq (T.block (T.seq (T.region rfl ?_)))))
    refine TL.q rfl .u (Ex.ixS (k := k4) rfl rfl rfl Try.runUnderlying23 Try.sizeOf36 (List.getElem?_eq_some_iff.1 hxx9).1) rfl ?_
    refine TL.q rfl .u (Ex.oS (us := [.int .i64 x9.fBase, .int .i64 x9.fLeader, .bool x9.fAppend, .bool x9.fTxn, .bool x9.fControl, .int .i64 x9.fLast, .int .i64 x9.fFirst, .int .i64 x9.fMax, .int .i64 x9.fProducer, .int .i64 x9.fEpoch, .int .i64 x9.fSequence, .slice A13 x9.fRecords.length c14]) 0 rfl Try.isAgg36 Try.sizeOf36 z12nf z12cc rfl rfl rfl) rfl ?_
    refine TL.alloc rfl .u Try.zeroValue36 rfl (fun b16 => ?_)
    refine TL.st0 (cs' := #[.int .i64 x9.fBase, .int .i64 x9.fLeader, .bool x9.fAppend, .bool x9.fTxn, .bool x9.fControl, .int .i64 x9.fLast, .int .i64 x9.fFirst, .int .i64 x9.fMax, .int .i64 x9.fProducer, .int .i64 x9.fEpoch, .int .i64 x9.fSequence, .slice A13 x9.fRecords.length c14]) rfl .u rfl rfl Try.sizeOf36 rfl rfl rfl rfl ?_
    refine TL.nil (X.seq (T.region rfl ?_))
    refine TL.run ft_tally_ok [0] rfl rfl ?_
    refine TL.q rfl .u (Ex.bS (us := [.int .i64 x9.fBase, .int .i64 x9.fLeader, .bool x9.fAppend, .bool x9.fTxn, .bool x9.fControl, .int .i64 x9.fLast, .int .i64 x9.fFirst, .int .i64 x9.fMax, .int .i64 x9.fProducer, .int .i64 x9.fEpoch, .int .i64 x9.fSequence, .slice A13 x9.fRecords.length c14]) 0 rfl Try.isAgg36 Try.sizeOf36 rfl rfl rfl) rfl ?_
    obtain ⟨x17, hx18, h⟩ := Option.bind_eq_some_iff.1 h
    refine TL.ce rfl .u (.fn Try.call24 rfl) (f_tally_Point_spec x9 _ _ _ hx18) (fun _ hs => (SrcE.old hs hX15)) rfl ?_
    obtain ⟨x19, hx19, h⟩ := Option.bind_eq_some_iff.1 h
    refine TL.q rfl .u (Ex.cadd rfl rfl hx19) rfl ?_
    refine TL.run ft_tally_ok [4] rfl rfl ?_
    refine TL.nil (X.blk (X.seq (T.region rfl ?_)))
    refine TL.q rfl .u (Ex.add rfl rfl (by omega)) rfl ?_
    refine TL.run ft_tally_ok [1] rfl rfl ?_
    exact TL.nil (X.back (m' := m8) [1] (by omega) ⟨x19, k4 + 1, by omega, rfl, rfl, h⟩ (by rfl) (by rfl))
end Go.Proofs.Ytahjmpipllajcaa.Sl
namespace Go.Proofs.Ytahjmpipllajcaa.Sl
open Go.RowKit
set_option linter.unusedVariables false
set_option linter.unusedSimpArgs false
theorem sm_of {p : Int × Int} (h1 : -4503599627370496 ≤ p.1 ∧ p.1 ≤ 4503599627370496) (h2 : -4503599627370496 ≤ p.2 ∧ p.2 ≤ 4503599627370496) : sm p := ⟨by omega, by omega⟩
end Go.Proofs.Ytahjmpipllajcaa.Sl
namespace Go.Proofs.Ytahjmpipllajcaa.Sl
open Go.RowKit
set_option linter.unusedVariables false
set_option linter.unusedSimpArgs false
set_option maxRecDepth 100000
def ft_cursitorlaw11 : FTab := [(36, 11, 11), (80, 1, 1), (83, 2, 2), (83, 3, 4), (83, 4, 6), (85, 0, 0), (85, 1, 1)]
theorem ft_cursitorlaw11_ok : (ft_cursitorlaw11).OK Try.prog := ⟨FOK.mk Try.runUnderlying36 rfl Try.sizeOf34 rfl, FOK.mk Try.runUnderlying80 rfl Try.sizeOf9 rfl, FOK.mk Try.runUnderlying83 rfl Try.sizeOf80 rfl, FOK.mk Try.runUnderlying83 rfl Try.sizeOf80 rfl, FOK.mk Try.runUnderlying83 rfl Try.sizeOf81 rfl, FOK.mk Try.runUnderlying85 rfl Try.sizeOf9 rfl, FOK.mk Try.runUnderlying85 rfl Try.sizeOf80 rfl, trivial⟩
def f_l11_Small_l2 : List Hd → Int → Option (Lp Int Int)
  | [], y22 => some (Lp.go y22)
  | x28 :: xs, y22 => if -9223372036854775808 ≤ ((x28.fKey.length : Int) + (x28.fValue.data.length : Int)) ∧ ((x28.fKey.length : Int) + (x28.fValue.data.length : Int)) ≤ 9223372036854775807 then (if ((x28.fKey.length : Int) + (x28.fValue.data.length : Int)) > 100 then some (Lp.ret 0) else (f_l11_Small_l2 xs y22)) else none
def f_l11_Small_l1 : List Rec → Int → Option (Lp Int Int)
  | [], y5 => some (Lp.go y5)
  | x11 :: xs, y5 => if -9223372036854775808 ≤ ((x11.fKey.data.length : Int) + (x11.fValue.data.length : Int)) ∧ ((x11.fKey.data.length : Int) + (x11.fValue.data.length : Int)) ≤ 9223372036854775807 then (if ((x11.fKey.data.length : Int) + (x11.fValue.data.length : Int)) > 100 then some (Lp.ret 0) else (if (x11.fHeaders.length : Int) > 6 then some (Lp.ret 0) else ((f_l11_Small_l2 x11.fHeaders y5).bind fun e => match e with | .ret r => some (Lp.ret r) | .go y35 => (f_l11_Small_l1 xs y35)))) else none
theorem f_l11_Small_l1_z (y5 : Int) : f_l11_Small_l1 [] y5 = (some (Lp.go y5)) := rfl
theorem f_l11_Small_l1_s (x11 : Rec) (xs : List Rec) (y5 : Int) : f_l11_Small_l1 (x11 :: xs) y5 = (if -9223372036854775808 ≤ ((x11.fKey.data.length : Int) + (x11.fValue.data.length : Int)) ∧ ((x11.fKey.data.length : Int) + (x11.fValue.data.length : Int)) ≤ 9223372036854775807 then (if ((x11.fKey.data.length : Int) + (x11.fValue.data.length : Int)) > 100 then some (Lp.ret 0) else (if (x11.fHeaders.length : Int) > 6 then some (Lp.ret 0) else ((f_l11_Small_l2 x11.fHeaders y5).bind fun e => match e with | .ret r => some (Lp.ret r) | .go y35 => (f_l11_Small_l1 xs y35)))) else none) := rfl
def f_l11_Small (a0 : Bat) : Option (Int) := if (a0.fRecords.length : Int) > 12 then some 0 else ((f_l11_Small_l1 a0.fRecords 0).bind fun e => match e with | .ret r => some r | .go y37 => some 1)
set_option maxRecDepth 100000 in
set_option maxHeartbeats 4000000 in
theorem f_l11_Small_spec (a0 : Bat) (A1 : Option Addr) (c2 : Nat) (r : Int) (h : f_l11_Small a0 = some r) : SpecX Try.prog 21 #[.agg #[.int .i64 a0.fBase, .int .i64 a0.fLeader, .bool a0.fAppend, .bool a0.fTxn, .bool a0.fControl, .int .i64 a0.fLast, .int .i64 a0.fFirst, .int .i64 a0.fMax, .int .i64 a0.fProducer, .int .i64 a0.fEpoch, .int .i64 a0.fSequence, .slice A1 a0.fRecords.length c2]] (RX.of (sliceRd 7 Rec_rd) [.slice A1 a0.fRecords.length c2] a0.fRecords) (EmpR) (fun v A' N => v = .int .i64 r ∧ A' = EmpR ∧ N = []) := by
  refine enterA Try.func21 rfl Try.ntmps21 rfl ?_
  intro F w hX
  unfold f_l11_Small at h
  refine T.seq (T.region rfl ?_)
  refine TL.box rfl .u rfl rfl (fun b3 => ?_)
  refine TL.run ft_cursitorlaw11_ok [1] rfl rfl ?_
  refine TL.nil (X.seq (T.seq (T.seq (T.region rfl ?_))))
  refine TL.run ft_cursitorlaw11_ok [0] rfl rfl ?_
  refine TL.q rfl .u (Ex.b1 0 rfl Try.isAgg34 rfl rfl) rfl ?_
  refine TL.q rfl .u (Ex.lenS rfl Try.runUnderlying34) rfl ?_
  refine TL.run ft_cursitorlaw11_ok [3] rfl rfl ?_
  by_cases c4 : (a0.fRecords.length : Int) > 12
  · replace h := ifT c4 h
    refine TL.nil (X.seq ?_)
    refine T.yes rfl (decide_eq_true c4) ?_
    refine T.seq (T.region rfl ?_)
    refine TL.run ft_cursitorlaw11_ok [0] rfl rfl ?_
    obtain rfl := Option.some.inj h
    exact TL.nil (X.seq (T.ret (X.rs (X.done1 [1] Try.results21 (RV.tm rfl) ⟨rfl, rfl, rfl⟩ (by rfl) (.inl rfl)))))
  · replace h := ifF c4 h
    refine TL.nil (X.seq ?_)
    refine T.no rfl (decide_eq_false c4) ?_
    refine T.skip (X.seq (T.seq (T.seq (T.region rfl ?_))))
    refine TL.run ft_cursitorlaw11_ok [0] rfl rfl ?_
    refine TL.q rfl .u (Ex.b1 0 rfl Try.isAgg34 rfl rfl) rfl ?_
    refine TL.q rfl .u (Ex.lenS rfl Try.runUnderlying34) rfl ?_
    refine TL.run ft_cursitorlaw11_ok [3] rfl rfl ?_
    refine TL.nil (X.seq (T.block ?_))
    obtain ⟨E7, hE8, hO9⟩ := Option.bind_eq_some_iff.1 h
    have hk13len := RX.len_le hX
    refine T.lp (fun m e Rs => ∃ (y5 : Int) (k6 : Nat), k6 + m = a0.fRecords.length ∧ e = [(2, .int .i64 y5), (12, .slice A1 a0.fRecords.length c2), (13, .int .i64 (a0.fRecords.length : Int)), (14, .int .i64 (k6 : Int))] ∧ Rs = [BlkR b3 36 #[.int .i64 a0.fBase, .int .i64 a0.fLeader, .bool a0.fAppend, .bool a0.fTxn, .bool a0.fControl, .int .i64 a0.fLast, .int .i64 a0.fFirst, .int .i64 a0.fMax, .int .i64 a0.fProducer, .int .i64 a0.fEpoch, .int .i64 a0.fSequence, .slice A1 a0.fRecords.length c2], EmpR] ∧ f_l11_Small_l1 (a0.fRecords.drop k6) y5 = some E7) (a0.fRecords.length) [0, 0] ⟨0, 0, by simp, rfl, rfl, by rw [List.drop_zero]; exact hE8⟩ (by rfl) (by rfl) ?_
    rintro m10 _ _ ⟨y5, k6, hk13, rfl, rfl, hl12⟩
    clear hE8 h
    cases m10 with
    | zero =>
      have h := hl12
      clear hl12
      rw [List.drop_of_length_le (by omega), f_l11_Small_l1_z] at h
      have hk13ge : ¬ ((k6 : Int) < (a0.fRecords.length : Int)) := by omega
      refine T.seq (T.region rfl ?_)
      refine TL.run ft_cursitorlaw11_ok [0] rfl rfl ?_
      refine TL.nil (X.seq (T.seq ?_))
      refine T.no rfl (decide_eq_false hk13ge) ?_
      obtain rfl := Option.some.inj h
      replace h := hO9
      clear hO9
      try dsimp only at h
      refine T.exit (X.exs (X.exs (X.ex (X.seq (T.seq (T.region rfl ?_))))))
      refine TL.run ft_cursitorlaw11_ok [0] rfl rfl ?_
      obtain rfl := Option.some.inj h
      exact TL.nil (X.seq (T.ret (X.done1 [1] Try.results21 (RV.tm rfl) ⟨rfl, rfl, rfl⟩ (by rfl) (.inl rfl))))
    | succ m10 =>
      have h := hl12
      clear hl12
      obtain ⟨x11, hxx11⟩ : ∃ x, a0.fRecords[k6]? = some x := ⟨_, List.getElem?_eq_getElem (by omega)⟩
      rw [drop_cons hxx11, f_l11_Small_l1_s] at h
      have hk13lt : (k6 : Int) < (a0.fRecords.length : Int) := by omega
      refine T.seq (T.region rfl ?_)
      refine TL.run ft_cursitorlaw11_ok [0] rfl rfl ?_
      refine TL.nil (X.seq (T.seq ?_))
      refine T.yes rfl (decide_eq_true hk13lt) ?_
      obtain ⟨gz14, oz14, rfl, z14cs, z14cl, z14cc, z14nf, z14r⟩ := RX.elem (by decide) hX hxx11
      obtain ⟨z14S, z14r, z14rr⟩ := z14r
      obtain ⟨A15, c16, rfl, z14s0⟩ := z14r
      have hX17 : (RX.of (sliceRd 3 Hd_rd) [.slice A15 x11.fHeaders.length c16] x11.fHeaders).reads w F := ⟨z14S, z14s0, z14rr⟩
      refine T.skip (X.seq (T.seq (T.block (T.seq (T.region rfl ?_)))))
      refine TL.q rfl .u (Ex.ixS (k := k6) rfl rfl rfl Try.runUnderlying34 Try.sizeOf83 (List.getElem?_eq_some_iff.1 hxx11).1) rfl ?_
      refine TL.q rfl .u (Ex.oS (us := [.int .i64 x11.fTime, .int .i64 x11.fOffset, .bool x11.fKey.null, .string (bsOf x11.fKey.data), .bool x11.fValue.null, .string (bsOf x11.fValue.data), .slice A15 x11.fHeaders.length c16]) 0 rfl Try.isAgg83 Try.sizeOf83 z14nf z14cc rfl rfl rfl) rfl ?_
      refine TL.alloc rfl .u Try.zeroValue83 rfl (fun b18 => ?_)
      refine TL.st0 (cs' := #[.int .i64 x11.fTime, .int .i64 x11.fOffset, .bool x11.fKey.null, .string (bsOf x11.fKey.data), .bool x11.fValue.null, .string (bsOf x11.fValue.data), .slice A15 x11.fHeaders.length c16]) rfl .u rfl rfl Try.sizeOf83 rfl rfl rfl rfl ?_
      refine TL.nil (X.seq (T.seq (T.seq (T.region rfl ?_))))
      refine TL.run ft_cursitorlaw11_ok [0, 1] rfl rfl ?_
      refine TL.q rfl .u (Ex.b1 0 rfl Try.isAgg9 rfl rfl) rfl ?_
      refine TL.q rfl .u (Ex.lenB rfl Try.runUnderlying9) rfl ?_
      refine TL.run ft_cursitorlaw11_ok [4, 5] rfl rfl ?_
      refine TL.q rfl .u (Ex.b1 0 rfl Try.isAgg9 rfl rfl) rfl ?_
      refine TL.q rfl .u (Ex.lenB rfl Try.runUnderlying9) rfl ?_
      replace h := guard_some h
      obtain ⟨c19, h⟩ := h
      refine TL.q rfl .u (Ex.add rfl rfl c19) rfl ?_
      by_cases c20 : ((x11.fKey.data.length : Int) + (x11.fValue.data.length : Int)) > 100
      · replace h := ifT c20 h
        refine TL.run ft_cursitorlaw11_ok [9, 10] rfl rfl ?_
        refine TL.no rfl (.gn rfl rfl (decide_eq_true c20)) rfl ?_
        refine TL.no rfl (.gn rfl rfl (decide_eq_true c20)) rfl ?_
        refine TL.no rfl (.gn rfl rfl (decide_eq_true c20)) rfl ?_
        refine TL.no rfl (.gn rfl rfl (decide_eq_true c20)) rfl ?_
        refine TL.q rfl .u (Ex.py rfl (decide_eq_true c20) rfl) rfl ?_
        refine TL.nil (X.seq ?_)
        refine T.yes rfl rfl ?_
        refine T.seq (T.region rfl ?_)
        refine TL.run ft_cursitorlaw11_ok [0] rfl rfl ?_
        obtain rfl := Option.some.inj h
        replace h := hO9
        clear hO9
        try dsimp only at h
        obtain rfl := Option.some.inj h
        exact TL.nil (X.seq (T.ret (X.rs (X.rb (X.rs (X.rs (X.rb (X.rs (X.done1 [2] Try.results21 (RV.tm rfl) ⟨rfl, rfl, rfl⟩ (by rfl) (.inl rfl))))))))))
      · replace h := ifF c20 h
        refine TL.run ft_cursitorlaw11_ok [9, 10] rfl rfl ?_
        refine TL.q rfl (.g rfl rfl (decide_eq_false c20)) (Ex.ft ft_cursitorlaw11_ok rfl) rfl ?_
        refine TL.q rfl (.g rfl rfl (decide_eq_false c20)) (Ex.b1 0 rfl Try.isAgg81 rfl rfl) rfl ?_
        refine TL.q rfl (.g rfl rfl (decide_eq_false c20)) (Ex.lenS rfl Try.runUnderlying81) rfl ?_
        refine TL.q rfl (.g rfl rfl (decide_eq_false c20)) (Ex.ft ft_cursitorlaw11_ok rfl) rfl ?_
        refine TL.q rfl .u (Ex.pn rfl (decide_eq_false c20) rfl) rfl ?_
        by_cases c21 : (x11.fHeaders.length : Int) > 6
        · replace h := ifT c21 h
          refine TL.nil (X.seq ?_)
          refine T.yes rfl (decide_eq_true c21) ?_
          refine T.seq (T.region rfl ?_)
          refine TL.run ft_cursitorlaw11_ok [0] rfl rfl ?_
          obtain rfl := Option.some.inj h
          replace h := hO9
          clear hO9
          try dsimp only at h
          obtain rfl := Option.some.inj h
          exact TL.nil (X.seq (T.ret (X.rs (X.rb (X.rs (X.rs (X.rb (X.rs (X.done1 [2] Try.results21 (RV.tm rfl) ⟨rfl, rfl, rfl⟩ (by rfl) (.inl rfl))))))))))
        · replace h := ifF c21 h
          refine TL.nil (X.seq ?_)
          refine T.no rfl (decide_eq_false c21) ?_
          refine T.skip (X.seq (T.seq (T.region rfl ?_)))
          refine TL.run ft_cursitorlaw11_ok [0] rfl rfl ?_
          refine TL.q rfl .u (Ex.b1 0 rfl Try.isAgg81 rfl rfl) rfl ?_
          refine TL.q rfl .u (Ex.lenS rfl Try.runUnderlying81) rfl ?_
          refine TL.run ft_cursitorlaw11_ok [3] rfl rfl ?_
          refine TL.nil (X.seq (T.block ?_))
          obtain ⟨E24, hE25, hO26⟩ := Option.bind_eq_some_iff.1 h
          have hk30len := RX.len_le hX17
          refine T.lp (fun m e Rs => ∃ (y22 : Int) (k23 : Nat), k23 + m = x11.fHeaders.length ∧ e = [(2, .int .i64 y22), (12, .slice (some ⟨gz14, oz14, none⟩) a0.fRecords.length c2), (13, .int .i64 (a0.fRecords.length : Int)), (14, .int .i64 (k6 : Int)), (35, .slice A15 x11.fHeaders.length c16), (36, .int .i64 (x11.fHeaders.length : Int)), (37, .int .i64 (k23 : Int))] ∧ Rs = [BlkR b18 83 #[.int .i64 x11.fTime, .int .i64 x11.fOffset, .bool x11.fKey.null, .string (bsOf x11.fKey.data), .bool x11.fValue.null, .string (bsOf x11.fValue.data), .slice A15 x11.fHeaders.length c16], BlkR b3 36 #[.int .i64 a0.fBase, .int .i64 a0.fLeader, .bool a0.fAppend, .bool a0.fTxn, .bool a0.fControl, .int .i64 a0.fLast, .int .i64 a0.fFirst, .int .i64 a0.fMax, .int .i64 a0.fProducer, .int .i64 a0.fEpoch, .int .i64 a0.fSequence, .slice (some ⟨gz14, oz14, none⟩) a0.fRecords.length c2], EmpR] ∧ f_l11_Small_l2 (x11.fHeaders.drop k23) y22 = some E24) (x11.fHeaders.length) [0, 0, 0] ⟨y5, 0, by simp, rfl, rfl, by rw [List.drop_zero]; exact hE25⟩ (by rfl) (by rfl) ?_
          rintro m27 _ _ ⟨y22, k23, hk30, rfl, rfl, hl29⟩
          clear hE25 h
          cases m27 with
          | zero =>
            have h := hl29
            clear hl29
            rw [List.drop_of_length_le (by omega), f_l11_Small_l2] at h
            have hk30ge : ¬ ((k23 : Int) < (x11.fHeaders.length : Int)) := by omega
            refine T.seq (T.region rfl ?_)
            refine TL.run ft_cursitorlaw11_ok [0] rfl rfl ?_
            refine TL.nil (X.seq (T.seq ?_))
            refine T.no rfl (decide_eq_false hk30ge) ?_
            obtain rfl := Option.some.inj h
            replace h := hO26
            clear hO26
            try dsimp only at h
            refine T.exit (X.exs (X.exs (X.ex (X.blk (X.seq (T.region rfl ?_))))))
            refine TL.q rfl .u (Ex.add rfl rfl (by omega)) rfl ?_
            refine TL.run ft_cursitorlaw11_ok [1] rfl rfl ?_
            exact TL.nil (X.back (m' := m10) [1, 1] (by omega) ⟨y22, k6 + 1, by omega, rfl, rfl, h⟩ (by rfl) (by rfl))
          | succ m27 =>
            have h := hl29
            clear hl29
            obtain ⟨x28, hxx28⟩ : ∃ x, x11.fHeaders[k23]? = some x := ⟨_, List.getElem?_eq_getElem (by omega)⟩
            rw [drop_cons hxx28, f_l11_Small_l2] at h
            have hk30lt : (k23 : Int) < (x11.fHeaders.length : Int) := by omega
            refine T.seq (T.region rfl ?_)
            refine TL.run ft_cursitorlaw11_ok [0] rfl rfl ?_
            refine TL.nil (X.seq (T.seq ?_))
            refine T.yes rfl (decide_eq_true hk30lt) ?_
            obtain ⟨gz31, oz31, rfl, z31cs, z31cl, z31cc, z31nf, z31r⟩ := RX.elem (by decide) hX17 hxx28
            obtain ⟨z31S, z31r, z31rr⟩ := z31r
            obtain rfl : z31cs = [.string (bsOf x28.fKey), .bool x28.fValue.null, .string (bsOf x28.fValue.data)] := z31r
            refine T.skip (X.seq (T.seq (T.block (T.seq (T.region rfl ?_)))))
            refine TL.q rfl .u (Ex.ixS (k := k23) rfl rfl rfl Try.runUnderlying81 Try.sizeOf85 (List.getElem?_eq_some_iff.1 hxx28).1) rfl ?_
            refine TL.q rfl .u (Ex.oS (us := [.string (bsOf x28.fKey), .bool x28.fValue.null, .string (bsOf x28.fValue.data)]) 0 rfl Try.isAgg85 Try.sizeOf85 z31nf z31cc rfl rfl rfl) rfl ?_
            refine TL.alloc rfl .u Try.zeroValue85 rfl (fun b32 => ?_)
            refine TL.st0 (cs' := #[.string (bsOf x28.fKey), .bool x28.fValue.null, .string (bsOf x28.fValue.data)]) rfl .u rfl rfl Try.sizeOf85 rfl rfl rfl rfl ?_
            refine TL.nil (X.seq (T.seq (T.region rfl ?_)))
            refine TL.run ft_cursitorlaw11_ok [0] rfl rfl ?_
            refine TL.q rfl .u (Ex.b1 0 rfl Try.isAgg9 rfl rfl) rfl ?_
            refine TL.q rfl .u (Ex.lenB rfl Try.runUnderlying9) rfl ?_
            refine TL.run ft_cursitorlaw11_ok [3, 4] rfl rfl ?_
            refine TL.q rfl .u (Ex.b1 0 rfl Try.isAgg9 rfl rfl) rfl ?_
            refine TL.q rfl .u (Ex.lenB rfl Try.runUnderlying9) rfl ?_
            replace h := guard_some h
            obtain ⟨c33, h⟩ := h
            refine TL.q rfl .u (Ex.add rfl rfl c33) rfl ?_
            refine TL.run ft_cursitorlaw11_ok [8] rfl rfl ?_
            by_cases c34 : ((x28.fKey.length : Int) + (x28.fValue.data.length : Int)) > 100
            · replace h := ifT c34 h
              refine TL.nil (X.seq ?_)
              refine T.yes rfl (decide_eq_true c34) ?_
              refine T.seq (T.region rfl ?_)
              refine TL.run ft_cursitorlaw11_ok [0] rfl rfl ?_
              obtain rfl := Option.some.inj h
              replace h := hO26
              clear hO26
              try dsimp only at h
              obtain rfl := Option.some.inj h
              replace h := hO9
              clear hO9
              try dsimp only at h
              obtain rfl := Option.some.inj h
              exact TL.nil (X.seq (T.ret (X.rb (X.rs (X.rs (X.rb (X.rb (X.rs (X.rs (X.rb (X.rs (X.done1 [3] Try.results21 (RV.tm rfl) ⟨rfl, rfl, rfl⟩ (by rfl) (.inl rfl)))))))))))))
            · replace h := ifF c34 h
              refine TL.nil (X.seq ?_)
              refine T.no rfl (decide_eq_false c34) ?_
              refine T.skip (X.blk (X.seq (T.region rfl ?_)))
              refine TL.q rfl .u (Ex.add rfl rfl (by omega)) rfl ?_
              refine TL.run ft_cursitorlaw11_ok [1] rfl rfl ?_
              exact TL.nil (X.back (m' := m27) [1, 1, 1] (by omega) ⟨y22, k23 + 1, by omega, rfl, rfl, h⟩ (by rfl) (by rfl))
end Go.Proofs.Ytahjmpipllajcaa.Sl
namespace Go.Proofs.Ytahjmpipllajcaa.Sl
open Go.RowKit
set_option linter.unusedVariables false
set_option linter.unusedSimpArgs false
set_option maxRecDepth 100000
def ft_cursitorref06 : FTab := [(80, 0, 0), (80, 1, 1), (85, 0, 0), (85, 1, 1)]
theorem ft_cursitorref06_ok : (ft_cursitorref06).OK Try.prog := ⟨FOK.mk Try.runUnderlying80 rfl Try.sizeOf4 rfl, FOK.mk Try.runUnderlying80 rfl Try.sizeOf9 rfl, FOK.mk Try.runUnderlying85 rfl Try.sizeOf9 rfl, FOK.mk Try.runUnderlying85 rfl Try.sizeOf80 rfl, trivial⟩
theorem mix_cursitorref06 : Try.prog.follows .mixedOrders = true := by kernel_rfl
theorem flat_cursitorref06_85 : Flat Try.prog 3 85 [.string, .bool, .string] true := (Flat.struct Try.isAgg85 Try.sizeOf85 rfl Try.underlying85 Try.stoodInHeld85 ⟨by decide, rfl, [.string], [.bool, .string], false, rfl, ((Flat.one_ Try.isAgg9 Try.sizeOf9 Try.underlying9).mono (by decide)), ⟨by decide, rfl, [.bool, .string], [], true, rfl, (Flat.struct Try.isAgg80 Try.sizeOf80 rfl Try.underlying80 Try.stoodInHeld80 ⟨by decide, rfl, [.bool], [.string], false, rfl, (Flat.one_ Try.isAgg4 Try.sizeOf4 Try.underlying4), ⟨by decide, rfl, [.string], [], false, rfl, (Flat.one_ Try.isAgg9 Try.sizeOf9 Try.underlying9), rfl⟩⟩), rfl⟩⟩)
def f_r06_Same_l1 (a0 : List Hd) (a1 : List Hd) : Nat → Bool → Nat → Option (Lp Bool (Bool × Nat))
  | 0, _, _ => none
  | m11 + 1, y6, k7 => if (k7 : Int) < (a0.length : Int) then ((a0[k7]?).bind fun x16 => (a1[k7]?).bind fun x19 => if x16.fKey = x19.fKey then (if x16.fValue.null = x19.fValue.null then (if x16.fValue.data = x19.fValue.data then (if -9223372036854775808 ≤ ((k7 : Int) + 1) ∧ ((k7 : Int) + 1) ≤ 9223372036854775807 then (f_r06_Same_l1 a0 a1 m11 y6 (k7 + 1)) else none) else some (Lp.ret false)) else some (Lp.ret false)) else some (Lp.ret false)) else (some (Lp.go (y6, k7)))
def f_r06_Same (a0 : List Hd) (a1 : List Hd) : Option (Bool) := if (a0.length : Int) = (a1.length : Int) then ((f_r06_Same_l1 a0 a1 (((a0.length : Int)).toNat + 1) false 0).bind fun e => match e with | .ret r => some r | .go (y26, k27) => some true) else some false
set_option maxRecDepth 100000 in
set_option maxHeartbeats 4000000 in
theorem f_r06_Same_spec (a0 : List Hd) (A1 : Option Addr) (c2 : Nat) (a1 : List Hd) (A3 : Option Addr) (c4 : Nat) (r : Bool) (h : f_r06_Same a0 a1 = some r) : SpecX Try.prog 88 #[.slice A1 a0.length c2, .slice A3 a1.length c4] (RX.and (RX.of (sliceRd 3 Hd_rd) [.slice A1 a0.length c2] a0) (RX.of (sliceRd 3 Hd_rd) [.slice A3 a1.length c4] a1)) (EmpR) (fun v A' N => v = .bool r ∧ A' = EmpR ∧ N = []) := by
  refine enterA Try.func88 rfl Try.ntmps88 rfl ?_
  intro F w hX
  unfold f_r06_Same at h
  refine T.seq (T.region rfl ?_)
  refine TL.run ft_cursitorref06_ok [0] rfl rfl ?_
  refine TL.nil (X.seq (T.seq (T.seq (T.region rfl ?_))))
  refine TL.run ft_cursitorref06_ok [0] rfl rfl ?_
  refine TL.q rfl .u (Ex.lenS rfl Try.runUnderlying81) rfl ?_
  refine TL.run ft_cursitorref06_ok [2] rfl rfl ?_
  refine TL.q rfl .u (Ex.lenS rfl Try.runUnderlying81) rfl ?_
  refine TL.run ft_cursitorref06_ok [4] rfl rfl ?_
  by_cases c5 : (a0.length : Int) = (a1.length : Int)
  · replace h := ifT c5 h
    refine TL.nil (X.seq ?_)
    refine T.no rfl (bn_f (decide_eq_true c5)) ?_
    refine T.skip (X.seq (T.seq (T.seq (T.region rfl ?_))))
    refine TL.run ft_cursitorref06_ok [0] rfl rfl ?_
    refine TL.nil (X.seq (T.block ?_))
    obtain ⟨E8, hE9, hO10⟩ := Option.bind_eq_some_iff.1 h
    refine T.lp (fun m e Rs => ∃ (y6 : Bool) (k7 : Nat), e = [(0, .slice A1 a0.length c2), (1, .slice A3 a1.length c4), (4, .bool y6), (5, .int .i64 (k7 : Int))] ∧ Rs = [EmpR] ∧ f_r06_Same_l1 a0 a1 m y6 k7 = some E8) (((a0.length : Int)).toNat + 1) [0] ⟨false, 0, rfl, rfl, by exact hE9⟩ (by rfl) (by rfl) ?_
    rintro m11 _ _ ⟨y6, k7, rfl, rfl, hl13⟩
    clear hE9 h
    cases m11 with
    | zero =>
      rw [f_r06_Same_l1] at hl13
      cases hl13
    | succ m11 =>
      have h := hl13
      clear hl13
      rw [f_r06_Same_l1] at h
      refine T.seq (T.seq (T.region rfl ?_))
      refine TL.run ft_cursitorref06_ok [0, 1] rfl rfl ?_
      refine TL.q rfl .u (Ex.lenS rfl Try.runUnderlying81) rfl ?_
      refine TL.run ft_cursitorref06_ok [3] rfl rfl ?_
      by_cases c15 : (k7 : Int) < (a0.length : Int)
      · replace h := ifT c15 h
        refine TL.nil (X.seq ?_)
        refine T.yes rfl (decide_eq_true c15) ?_
        refine T.skip (X.seq (T.seq (T.block (T.seq (T.draw (.q 0 (.q 1 (.q 2 (.q 3 (.q 4 (.q 5 (.q 6 (.q 7 (.q 8 .nil))))))))) [0] rfl mix_cursitorref06 (NoP.seq (NoP.blk (NoP.seq (NoP.seq (NoP.blk (NoP.seq np_post)))))) (by kernel_rfl) ?_)))))
        obtain ⟨x16, hx17, h⟩ := Option.bind_eq_some_iff.1 h
        obtain ⟨gz18, oz18, rfl, z18cs, z18cl, z18cc, z18nf, z18r⟩ := RX.elem (by decide) (RX.reads_left hX) hx17
        obtain ⟨z18S, z18r, z18rr⟩ := z18r
        obtain rfl : z18cs = [.string (bsOf x16.fKey), .bool x16.fValue.null, .string (bsOf x16.fValue.data)] := z18r
        refine TD.run ft_cursitorref06_ok [0, 1] rfl rfl ?_
        refine TD.q rfl .u (Ex.ixS (k := k7) rfl rfl rfl Try.runUnderlying81 Try.sizeOf85 (List.getElem?_eq_some_iff.1 hx17).1) rfl ?_
        refine TD.q rfl .u (Ex.oS (us := [.string (bsOf x16.fKey), .bool x16.fValue.null, .string (bsOf x16.fValue.data)]) 0 rfl Try.isAgg85 Try.sizeOf85 z18nf z18cc rfl rfl rfl) rfl ?_
        obtain ⟨x19, hx20, h⟩ := Option.bind_eq_some_iff.1 h
        obtain ⟨gz21, oz21, rfl, z21cs, z21cl, z21cc, z21nf, z21r⟩ := RX.elem (by decide) (RX.reads_right hX) hx20
        obtain ⟨z21S, z21r, z21rr⟩ := z21r
        obtain rfl : z21cs = [.string (bsOf x19.fKey), .bool x19.fValue.null, .string (bsOf x19.fValue.data)] := z21r
        refine TD.run ft_cursitorref06_ok [4, 5] rfl rfl ?_
        refine TD.q rfl .u (Ex.ixS (k := k7) rfl rfl rfl Try.runUnderlying81 Try.sizeOf85 (List.getElem?_eq_some_iff.1 hx20).1) rfl ?_
        refine TD.q rfl .u (Ex.oS (us := [.string (bsOf x19.fKey), .bool x19.fValue.null, .string (bsOf x19.fValue.data)]) 0 rfl Try.isAgg85 Try.sizeOf85 z21nf z21cc rfl rfl rfl) rfl ?_
        by_cases c22 : x16.fKey = x19.fKey
        · replace h := ifT c22 h
          by_cases c23 : x16.fValue.null = x19.fValue.null
          · replace h := ifT c23 h
            by_cases c24 : x16.fValue.data = x19.fValue.data
            · replace h := ifT c24 h
              refine TD.q rfl .u (Ex.aNe (us := [.string (bsOf x16.fKey), .bool x16.fValue.null, .string (bsOf x16.fValue.data)]) (vs := [.string (bsOf x19.fKey), .bool x19.fValue.null, .string (bsOf x19.fValue.data)]) flat_cursitorref06_85 rfl Try.eqGuardType85 rfl rfl rfl rfl (eqL_t (eqV_s (l := x16.fKey) (m := x19.fKey) c22) (eqL_t (eqV_b c23) (eqL_t (eqV_s (l := x16.fValue.data) (m := x19.fValue.data) c24) rfl)))) rfl ?_
              refine TD.nil (X.seq ?_)
              refine T.no rfl rfl ?_
              refine T.skip (X.blk (X.seq (T.region rfl ?_)))
              replace h := guard_some h
              obtain ⟨c25, h⟩ := h
              refine TL.run ft_cursitorref06_ok [0] rfl rfl ?_
              refine TL.q rfl .u (Ex.add rfl rfl c25) rfl ?_
              refine TL.run ft_cursitorref06_ok [2] rfl rfl ?_
              exact TL.nil (X.back (m' := m11) [0] (by omega) ⟨y6, k7 + 1, rfl, rfl, h⟩ (by rfl) (by rfl))
            · replace h := ifF c24 h
              refine TD.q rfl .u (Ex.aNe (us := [.string (bsOf x16.fKey), .bool x16.fValue.null, .string (bsOf x16.fValue.data)]) (vs := [.string (bsOf x19.fKey), .bool x19.fValue.null, .string (bsOf x19.fValue.data)]) flat_cursitorref06_85 rfl Try.eqGuardType85 rfl rfl rfl rfl (eqL_t (eqV_s (l := x16.fKey) (m := x19.fKey) c22) (eqL_t (eqV_b c23) (eqL_f (eqV_sn (l := x16.fValue.data) (m := x19.fValue.data) c24))))) rfl ?_
              refine TD.nil (X.seq ?_)
              refine T.yes rfl rfl ?_
              refine T.seq (T.region rfl ?_)
              refine TL.run ft_cursitorref06_ok [0] rfl rfl ?_
              obtain rfl := Option.some.inj h
              replace h := hO10
              clear hO10
              try dsimp only at h
              obtain rfl := Option.some.inj h
              exact TL.nil (X.seq (T.ret (X.rb (X.rs (X.rs (X.rb (X.rs (X.done1 [0] Try.results88 (RV.tm rfl) ⟨rfl, rfl, rfl⟩ (by rfl) (.inl rfl)))))))))
          · replace h := ifF c23 h
            refine TD.q rfl .u (Ex.aNe (us := [.string (bsOf x16.fKey), .bool x16.fValue.null, .string (bsOf x16.fValue.data)]) (vs := [.string (bsOf x19.fKey), .bool x19.fValue.null, .string (bsOf x19.fValue.data)]) flat_cursitorref06_85 rfl Try.eqGuardType85 rfl rfl rfl rfl (eqL_t (eqV_s (l := x16.fKey) (m := x19.fKey) c22) (eqL_f (eqV_bn c23)))) rfl ?_
            refine TD.nil (X.seq ?_)
            refine T.yes rfl rfl ?_
            refine T.seq (T.region rfl ?_)
            refine TL.run ft_cursitorref06_ok [0] rfl rfl ?_
            obtain rfl := Option.some.inj h
            replace h := hO10
            clear hO10
            try dsimp only at h
            obtain rfl := Option.some.inj h
            exact TL.nil (X.seq (T.ret (X.rb (X.rs (X.rs (X.rb (X.rs (X.done1 [0] Try.results88 (RV.tm rfl) ⟨rfl, rfl, rfl⟩ (by rfl) (.inl rfl)))))))))
        · replace h := ifF c22 h
          refine TD.q rfl .u (Ex.aNe (us := [.string (bsOf x16.fKey), .bool x16.fValue.null, .string (bsOf x16.fValue.data)]) (vs := [.string (bsOf x19.fKey), .bool x19.fValue.null, .string (bsOf x19.fValue.data)]) flat_cursitorref06_85 rfl Try.eqGuardType85 rfl rfl rfl rfl (eqL_f (eqV_sn (l := x16.fKey) (m := x19.fKey) c22))) rfl ?_
          refine TD.nil (X.seq ?_)
          refine T.yes rfl rfl ?_
          refine T.seq (T.region rfl ?_)
          refine TL.run ft_cursitorref06_ok [0] rfl rfl ?_
          obtain rfl := Option.some.inj h
          replace h := hO10
          clear hO10
          try dsimp only at h
          obtain rfl := Option.some.inj h
          exact TL.nil (X.seq (T.ret (X.rb (X.rs (X.rs (X.rb (X.rs (X.done1 [0] Try.results88 (RV.tm rfl) ⟨rfl, rfl, rfl⟩ (by rfl) (.inl rfl)))))))))
      · replace h := ifF c15 h
        refine TL.nil (X.seq ?_)
        refine T.no rfl (decide_eq_false c15) ?_
        obtain rfl := Option.some.inj h
        replace h := hO10
        clear hO10
        try dsimp only at h
        refine T.exit (X.exs (X.exs (X.ex (X.seq (T.seq (T.region rfl ?_))))))
        refine TL.run ft_cursitorref06_ok [0] rfl rfl ?_
        obtain rfl := Option.some.inj h
        exact TL.nil (X.seq (T.ret (X.done1 [0] Try.results88 (RV.tm rfl) ⟨rfl, rfl, rfl⟩ (by rfl) (.inl rfl))))
  · replace h := ifF c5 h
    refine TL.nil (X.seq ?_)
    refine T.yes rfl (bn_t (decide_eq_false c5)) ?_
    refine T.seq (T.region rfl ?_)
    refine TL.run ft_cursitorref06_ok [0] rfl rfl ?_
    obtain rfl := Option.some.inj h
    exact TL.nil (X.seq (T.ret (X.rs (X.done1 [0] Try.results88 (RV.tm rfl) ⟨rfl, rfl, rfl⟩ (by rfl) (.inl rfl)))))
def f_r06_Right_l1 (a0 : List Hd) : Nat → Bool → Nat → Option (Lp Bool (Bool × Nat))
  | 0, _, _ => none
  | m8 + 1, y3, k4 => if (k4 : Int) < (a0.length : Int) then ((a0[k4]?).bind fun x13 => if x13.fValue.null = true then (if x13.fValue.data = [] then (if -9223372036854775808 ≤ ((k4 : Int) + 1) ∧ ((k4 : Int) + 1) ≤ 9223372036854775807 then (f_r06_Right_l1 a0 m8 y3 (k4 + 1)) else none) else some (Lp.ret false)) else (if -9223372036854775808 ≤ ((k4 : Int) + 1) ∧ ((k4 : Int) + 1) ≤ 9223372036854775807 then (f_r06_Right_l1 a0 m8 y3 (k4 + 1)) else none)) else (some (Lp.go (y3, k4)))
def f_r06_Right (a0 : List Hd) : Option (Bool) := (f_r06_Right_l1 a0 (((a0.length : Int)).toNat + 1) false 0).bind fun e => match e with | .ret r => some r | .go (y20, k21) => some true
end Go.Proofs.Ytahjmpipllajcaa.Sl
namespace Go.Proofs.Ytahjmpipllajcaa.Sl
open Go.RowKit
set_option linter.unusedVariables false
set_option linter.unusedSimpArgs false
set_option maxRecDepth 100000
def ft_cursitorref07 : FTab := [(80, 0, 0), (80, 1, 1), (83, 0, 0), (83, 1, 1), (83, 2, 2), (83, 3, 4), (83, 4, 6)]
theorem ft_cursitorref07_ok : (ft_cursitorref07).OK Try.prog := ⟨FOK.mk Try.runUnderlying80 rfl Try.sizeOf4 rfl, FOK.mk Try.runUnderlying80 rfl Try.sizeOf9 rfl, FOK.mk Try.runUnderlying83 rfl Try.sizeOf3 rfl, FOK.mk Try.runUnderlying83 rfl Try.sizeOf3 rfl, FOK.mk Try.runUnderlying83 rfl Try.sizeOf80 rfl, FOK.mk Try.runUnderlying83 rfl Try.sizeOf80 rfl, FOK.mk Try.runUnderlying83 rfl Try.sizeOf81 rfl, trivial⟩
theorem flat_cursitorref07_80 : Flat Try.prog 2 80 [.bool, .string] true := (Flat.struct Try.isAgg80 Try.sizeOf80 rfl Try.underlying80 Try.stoodInHeld80 ⟨by decide, rfl, [.bool], [.string], false, rfl, (Flat.one_ Try.isAgg4 Try.sizeOf4 Try.underlying4), ⟨by decide, rfl, [.string], [], false, rfl, (Flat.one_ Try.isAgg9 Try.sizeOf9 Try.underlying9), rfl⟩⟩)
def f_r07_Same (a0 : Rec) (a1 : Rec) : Option (Bool) := if a0.fTime = a1.fTime then (if a0.fOffset = a1.fOffset then (if a0.fKey.null = a1.fKey.null then (if a0.fKey.data = a1.fKey.data then (if a0.fValue.null = a1.fValue.null then (if a0.fValue.data = a1.fValue.data then ((f_r06_Same a0.fHeaders a1.fHeaders).bind fun x13 => some x13) else some false) else some false) else some false) else some false) else some false) else some false
set_option maxRecDepth 100000 in
set_option maxHeartbeats 4000000 in
theorem f_r07_Same_spec (a0 : Rec) (A1 : Option Addr) (c2 : Nat) (a1 : Rec) (A3 : Option Addr) (c4 : Nat) (r : Bool) (h : f_r07_Same a0 a1 = some r) : SpecX Try.prog 60 #[.agg #[.int .i64 a0.fTime, .int .i64 a0.fOffset, .bool a0.fKey.null, .string (bsOf a0.fKey.data), .bool a0.fValue.null, .string (bsOf a0.fValue.data), .slice A1 a0.fHeaders.length c2], .agg #[.int .i64 a1.fTime, .int .i64 a1.fOffset, .bool a1.fKey.null, .string (bsOf a1.fKey.data), .bool a1.fValue.null, .string (bsOf a1.fValue.data), .slice A3 a1.fHeaders.length c4]] (RX.and (RX.of (sliceRd 3 Hd_rd) [.slice A1 a0.fHeaders.length c2] a0.fHeaders) (RX.of (sliceRd 3 Hd_rd) [.slice A3 a1.fHeaders.length c4] a1.fHeaders)) (EmpR) (fun v A' N => v = .bool r ∧ A' = EmpR ∧ N = []) := by
  refine enterA Try.func60 rfl Try.ntmps60 rfl ?_
  intro F w hX
  unfold f_r07_Same at h
  refine T.seq (T.region rfl ?_)
  refine TL.box rfl .u rfl rfl (fun b5 => ?_)
  refine TL.box rfl .u rfl rfl (fun b6 => ?_)
  refine TL.run ft_cursitorref07_ok [2] rfl rfl ?_
  refine TL.nil (X.seq (T.seq (T.region rfl ?_)))
  refine TL.run ft_cursitorref07_ok [0] rfl rfl ?_
  refine TL.q rfl .u (Ex.b1 1 rfl Try.isAgg3 rfl rfl) rfl ?_
  refine TL.run ft_cursitorref07_ok [2] rfl rfl ?_
  refine TL.q rfl .u (Ex.b1 0 rfl Try.isAgg3 rfl rfl) rfl ?_
  by_cases c7 : a0.fTime = a1.fTime
  · replace h := ifT c7 h
    refine TL.run ft_cursitorref07_ok [4, 5] rfl rfl ?_
    refine TL.q rfl (.g rfl rfl (decide_eq_true c7)) (Ex.ft ft_cursitorref07_ok rfl) rfl ?_
    refine TL.q rfl (.g rfl rfl (decide_eq_true c7)) (Ex.b1 1 rfl Try.isAgg3 rfl rfl) rfl ?_
    refine TL.q rfl (.g rfl rfl (decide_eq_true c7)) (Ex.ft ft_cursitorref07_ok rfl) rfl ?_
    refine TL.q rfl (.g rfl rfl (decide_eq_true c7)) (Ex.b1 0 rfl Try.isAgg3 rfl rfl) rfl ?_
    refine TL.q rfl (.g rfl rfl (decide_eq_true c7)) (Ex.ft ft_cursitorref07_ok rfl) rfl ?_
    refine TL.q rfl .u (Ex.py rfl (decide_eq_true c7) rfl) rfl ?_
    by_cases c8 : a0.fOffset = a1.fOffset
    · replace h := ifT c8 h
      refine TL.run ft_cursitorref07_ok [12] rfl rfl ?_
      refine TL.q rfl (.g rfl rfl (decide_eq_true c8)) (Ex.ft ft_cursitorref07_ok rfl) rfl ?_
      refine TL.q rfl (.g rfl rfl (decide_eq_true c8)) (Ex.bS (us := [.bool a0.fKey.null, .string (bsOf a0.fKey.data)]) 1 rfl Try.isAgg80 Try.sizeOf80 rfl rfl rfl) rfl ?_
      refine TL.q rfl (.g rfl rfl (decide_eq_true c8)) (Ex.ft ft_cursitorref07_ok rfl) rfl ?_
      refine TL.q rfl (.g rfl rfl (decide_eq_true c8)) (Ex.bS (us := [.bool a1.fKey.null, .string (bsOf a1.fKey.data)]) 0 rfl Try.isAgg80 Try.sizeOf80 rfl rfl rfl) rfl ?_
      by_cases c9 : a0.fKey.null = a1.fKey.null
      · replace h := ifT c9 h
        by_cases c10 : a0.fKey.data = a1.fKey.data
        · replace h := ifT c10 h
          refine TL.q rfl (.g rfl rfl (decide_eq_true c8)) (Ex.aEq (us := [.bool a0.fKey.null, .string (bsOf a0.fKey.data)]) (vs := [.bool a1.fKey.null, .string (bsOf a1.fKey.data)]) flat_cursitorref07_80 rfl Try.eqGuardType80 rfl rfl rfl rfl (eqL_t (eqV_b c9) (eqL_t (eqV_s (l := a0.fKey.data) (m := a1.fKey.data) c10) rfl))) rfl ?_
          refine TL.q rfl .u (Ex.py rfl (decide_eq_true c8) rfl) rfl ?_
          refine TL.run ft_cursitorref07_ok [19] rfl rfl ?_
          refine TL.q rfl (.g rfl rfl rfl) (Ex.ft ft_cursitorref07_ok rfl) rfl ?_
          refine TL.q rfl (.g rfl rfl rfl) (Ex.bS (us := [.bool a0.fValue.null, .string (bsOf a0.fValue.data)]) 1 rfl Try.isAgg80 Try.sizeOf80 rfl rfl rfl) rfl ?_
          refine TL.q rfl (.g rfl rfl rfl) (Ex.ft ft_cursitorref07_ok rfl) rfl ?_
          refine TL.q rfl (.g rfl rfl rfl) (Ex.bS (us := [.bool a1.fValue.null, .string (bsOf a1.fValue.data)]) 0 rfl Try.isAgg80 Try.sizeOf80 rfl rfl rfl) rfl ?_
          by_cases c11 : a0.fValue.null = a1.fValue.null
          · replace h := ifT c11 h
            by_cases c12 : a0.fValue.data = a1.fValue.data
            · replace h := ifT c12 h
              refine TL.q rfl (.g rfl rfl rfl) (Ex.aEq (us := [.bool a0.fValue.null, .string (bsOf a0.fValue.data)]) (vs := [.bool a1.fValue.null, .string (bsOf a1.fValue.data)]) flat_cursitorref07_80 rfl Try.eqGuardType80 rfl rfl rfl rfl (eqL_t (eqV_b c11) (eqL_t (eqV_s (l := a0.fValue.data) (m := a1.fValue.data) c12) rfl))) rfl ?_
              refine TL.q rfl .u (Ex.py rfl rfl rfl) rfl ?_
              refine TL.run ft_cursitorref07_ok [26] rfl rfl ?_
              refine TL.q rfl (.g rfl rfl rfl) (Ex.ft ft_cursitorref07_ok rfl) rfl ?_
              refine TL.q rfl (.g rfl rfl rfl) (Ex.b1 1 rfl Try.isAgg81 rfl rfl) rfl ?_
              refine TL.q rfl (.g rfl rfl rfl) (Ex.ft ft_cursitorref07_ok rfl) rfl ?_
              refine TL.q rfl (.g rfl rfl rfl) (Ex.b1 0 rfl Try.isAgg81 rfl rfl) rfl ?_
              obtain ⟨x13, hx14, h⟩ := Option.bind_eq_some_iff.1 h
              refine TL.ce rfl (.g rfl rfl rfl) (.fn Try.call88 rfl) (f_r06_Same_spec a0.fHeaders _ _ a1.fHeaders _ _ _ hx14) (fun _ hs => (RX.reads_and (SrcE.old hs (RX.reads_left hX)) (SrcE.old hs (RX.reads_right hX)))) rfl ?_
              refine TL.q rfl .u (Ex.py rfl rfl rfl) rfl ?_
              refine TL.run ft_cursitorref07_ok [33] rfl rfl ?_
              obtain rfl := Option.some.inj h
              exact TL.nil (X.seq (T.ret (X.done1 [2] Try.results60 (RV.tm rfl) ⟨rfl, rfl, rfl⟩ (by rfl) (.inl rfl))))
            · replace h := ifF c12 h
              refine TL.q rfl (.g rfl rfl rfl) (Ex.aEq (us := [.bool a0.fValue.null, .string (bsOf a0.fValue.data)]) (vs := [.bool a1.fValue.null, .string (bsOf a1.fValue.data)]) flat_cursitorref07_80 rfl Try.eqGuardType80 rfl rfl rfl rfl (eqL_t (eqV_b c11) (eqL_f (eqV_sn (l := a0.fValue.data) (m := a1.fValue.data) c12)))) rfl ?_
              refine TL.q rfl .u (Ex.py rfl rfl rfl) rfl ?_
              refine TL.run ft_cursitorref07_ok [26] rfl rfl ?_
              refine TL.no rfl (.gn rfl rfl rfl) rfl ?_
              refine TL.no rfl (.gn rfl rfl rfl) rfl ?_
              refine TL.no rfl (.gn rfl rfl rfl) rfl ?_
              refine TL.no rfl (.gn rfl rfl rfl) rfl ?_
              refine TL.no rfl (.gn rfl rfl rfl) rfl ?_
              refine TL.q rfl .u (Ex.pn rfl rfl rfl) rfl ?_
              refine TL.run ft_cursitorref07_ok [33] rfl rfl ?_
              obtain rfl := Option.some.inj h
              exact TL.nil (X.seq (T.ret (X.done1 [2] Try.results60 (RV.tm rfl) ⟨rfl, rfl, rfl⟩ (by rfl) (.inl rfl))))
          · replace h := ifF c11 h
            refine TL.q rfl (.g rfl rfl rfl) (Ex.aEq (us := [.bool a0.fValue.null, .string (bsOf a0.fValue.data)]) (vs := [.bool a1.fValue.null, .string (bsOf a1.fValue.data)]) flat_cursitorref07_80 rfl Try.eqGuardType80 rfl rfl rfl rfl (eqL_f (eqV_bn c11))) rfl ?_
            refine TL.q rfl .u (Ex.py rfl rfl rfl) rfl ?_
            refine TL.run ft_cursitorref07_ok [26] rfl rfl ?_
            refine TL.no rfl (.gn rfl rfl rfl) rfl ?_
            refine TL.no rfl (.gn rfl rfl rfl) rfl ?_
            refine TL.no rfl (.gn rfl rfl rfl) rfl ?_
            refine TL.no rfl (.gn rfl rfl rfl) rfl ?_
            refine TL.no rfl (.gn rfl rfl rfl) rfl ?_
            refine TL.q rfl .u (Ex.pn rfl rfl rfl) rfl ?_
            refine TL.run ft_cursitorref07_ok [33] rfl rfl ?_
            obtain rfl := Option.some.inj h
            exact TL.nil (X.seq (T.ret (X.done1 [2] Try.results60 (RV.tm rfl) ⟨rfl, rfl, rfl⟩ (by rfl) (.inl rfl))))
        · replace h := ifF c10 h
          refine TL.q rfl (.g rfl rfl (decide_eq_true c8)) (Ex.aEq (us := [.bool a0.fKey.null, .string (bsOf a0.fKey.data)]) (vs := [.bool a1.fKey.null, .string (bsOf a1.fKey.data)]) flat_cursitorref07_80 rfl Try.eqGuardType80 rfl rfl rfl rfl (eqL_t (eqV_b c9) (eqL_f (eqV_sn (l := a0.fKey.data) (m := a1.fKey.data) c10)))) rfl ?_
          refine TL.q rfl .u (Ex.py rfl (decide_eq_true c8) rfl) rfl ?_
          refine TL.run ft_cursitorref07_ok [19] rfl rfl ?_
          refine TL.no rfl (.gn rfl rfl rfl) rfl ?_
          refine TL.no rfl (.gn rfl rfl rfl) rfl ?_
          refine TL.no rfl (.gn rfl rfl rfl) rfl ?_
          refine TL.no rfl (.gn rfl rfl rfl) rfl ?_
          refine TL.no rfl (.gn rfl rfl rfl) rfl ?_
          refine TL.q rfl .u (Ex.pn rfl rfl rfl) rfl ?_
          refine TL.run ft_cursitorref07_ok [26] rfl rfl ?_
          refine TL.no rfl (.gn rfl rfl rfl) rfl ?_
          refine TL.no rfl (.gn rfl rfl rfl) rfl ?_
          refine TL.no rfl (.gn rfl rfl rfl) rfl ?_
          refine TL.no rfl (.gn rfl rfl rfl) rfl ?_
          refine TL.no rfl (.gn rfl rfl rfl) rfl ?_
          refine TL.q rfl .u (Ex.pn rfl rfl rfl) rfl ?_
          refine TL.run ft_cursitorref07_ok [33] rfl rfl ?_
          obtain rfl := Option.some.inj h
          exact TL.nil (X.seq (T.ret (X.done1 [2] Try.results60 (RV.tm rfl) ⟨rfl, rfl, rfl⟩ (by rfl) (.inl rfl))))
      · replace h := ifF c9 h
        refine TL.q rfl (.g rfl rfl (decide_eq_true c8)) (Ex.aEq (us := [.bool a0.fKey.null, .string (bsOf a0.fKey.data)]) (vs := [.bool a1.fKey.null, .string (bsOf a1.fKey.data)]) flat_cursitorref07_80 rfl Try.eqGuardType80 rfl rfl rfl rfl (eqL_f (eqV_bn c9))) rfl ?_
        refine TL.q rfl .u (Ex.py rfl (decide_eq_true c8) rfl) rfl ?_
        refine TL.run ft_cursitorref07_ok [19] rfl rfl ?_
        refine TL.no rfl (.gn rfl rfl rfl) rfl ?_
        refine TL.no rfl (.gn rfl rfl rfl) rfl ?_
        refine TL.no rfl (.gn rfl rfl rfl) rfl ?_
        refine TL.no rfl (.gn rfl rfl rfl) rfl ?_
        refine TL.no rfl (.gn rfl rfl rfl) rfl ?_
        refine TL.q rfl .u (Ex.pn rfl rfl rfl) rfl ?_
        refine TL.run ft_cursitorref07_ok [26] rfl rfl ?_
        refine TL.no rfl (.gn rfl rfl rfl) rfl ?_
        refine TL.no rfl (.gn rfl rfl rfl) rfl ?_
        refine TL.no rfl (.gn rfl rfl rfl) rfl ?_
        refine TL.no rfl (.gn rfl rfl rfl) rfl ?_
        refine TL.no rfl (.gn rfl rfl rfl) rfl ?_
        refine TL.q rfl .u (Ex.pn rfl rfl rfl) rfl ?_
        refine TL.run ft_cursitorref07_ok [33] rfl rfl ?_
        obtain rfl := Option.some.inj h
        exact TL.nil (X.seq (T.ret (X.done1 [2] Try.results60 (RV.tm rfl) ⟨rfl, rfl, rfl⟩ (by rfl) (.inl rfl))))
    · replace h := ifF c8 h
      refine TL.run ft_cursitorref07_ok [12] rfl rfl ?_
      refine TL.no rfl (.gn rfl rfl (decide_eq_false c8)) rfl ?_
      refine TL.no rfl (.gn rfl rfl (decide_eq_false c8)) rfl ?_
      refine TL.no rfl (.gn rfl rfl (decide_eq_false c8)) rfl ?_
      refine TL.no rfl (.gn rfl rfl (decide_eq_false c8)) rfl ?_
      refine TL.no rfl (.gn rfl rfl (decide_eq_false c8)) rfl ?_
      refine TL.q rfl .u (Ex.pn rfl (decide_eq_false c8) rfl) rfl ?_
      refine TL.run ft_cursitorref07_ok [19] rfl rfl ?_
      refine TL.no rfl (.gn rfl rfl rfl) rfl ?_
      refine TL.no rfl (.gn rfl rfl rfl) rfl ?_
      refine TL.no rfl (.gn rfl rfl rfl) rfl ?_
      refine TL.no rfl (.gn rfl rfl rfl) rfl ?_
      refine TL.no rfl (.gn rfl rfl rfl) rfl ?_
      refine TL.q rfl .u (Ex.pn rfl rfl rfl) rfl ?_
      refine TL.run ft_cursitorref07_ok [26] rfl rfl ?_
      refine TL.no rfl (.gn rfl rfl rfl) rfl ?_
      refine TL.no rfl (.gn rfl rfl rfl) rfl ?_
      refine TL.no rfl (.gn rfl rfl rfl) rfl ?_
      refine TL.no rfl (.gn rfl rfl rfl) rfl ?_
      refine TL.no rfl (.gn rfl rfl rfl) rfl ?_
      refine TL.q rfl .u (Ex.pn rfl rfl rfl) rfl ?_
      refine TL.run ft_cursitorref07_ok [33] rfl rfl ?_
      obtain rfl := Option.some.inj h
      exact TL.nil (X.seq (T.ret (X.done1 [2] Try.results60 (RV.tm rfl) ⟨rfl, rfl, rfl⟩ (by rfl) (.inl rfl))))
  · replace h := ifF c7 h
    refine TL.run ft_cursitorref07_ok [4, 5] rfl rfl ?_
    refine TL.no rfl (.gn rfl rfl (decide_eq_false c7)) rfl ?_
    refine TL.no rfl (.gn rfl rfl (decide_eq_false c7)) rfl ?_
    refine TL.no rfl (.gn rfl rfl (decide_eq_false c7)) rfl ?_
    refine TL.no rfl (.gn rfl rfl (decide_eq_false c7)) rfl ?_
    refine TL.no rfl (.gn rfl rfl (decide_eq_false c7)) rfl ?_
    refine TL.q rfl .u (Ex.pn rfl (decide_eq_false c7) rfl) rfl ?_
    refine TL.run ft_cursitorref07_ok [12] rfl rfl ?_
    refine TL.no rfl (.gn rfl rfl rfl) rfl ?_
    refine TL.no rfl (.gn rfl rfl rfl) rfl ?_
    refine TL.no rfl (.gn rfl rfl rfl) rfl ?_
    refine TL.no rfl (.gn rfl rfl rfl) rfl ?_
    refine TL.no rfl (.gn rfl rfl rfl) rfl ?_
    refine TL.q rfl .u (Ex.pn rfl rfl rfl) rfl ?_
    refine TL.run ft_cursitorref07_ok [19] rfl rfl ?_
    refine TL.no rfl (.gn rfl rfl rfl) rfl ?_
    refine TL.no rfl (.gn rfl rfl rfl) rfl ?_
    refine TL.no rfl (.gn rfl rfl rfl) rfl ?_
    refine TL.no rfl (.gn rfl rfl rfl) rfl ?_
    refine TL.no rfl (.gn rfl rfl rfl) rfl ?_
    refine TL.q rfl .u (Ex.pn rfl rfl rfl) rfl ?_
    refine TL.run ft_cursitorref07_ok [26] rfl rfl ?_
    refine TL.no rfl (.gn rfl rfl rfl) rfl ?_
    refine TL.no rfl (.gn rfl rfl rfl) rfl ?_
    refine TL.no rfl (.gn rfl rfl rfl) rfl ?_
    refine TL.no rfl (.gn rfl rfl rfl) rfl ?_
    refine TL.no rfl (.gn rfl rfl rfl) rfl ?_
    refine TL.q rfl .u (Ex.pn rfl rfl rfl) rfl ?_
    refine TL.run ft_cursitorref07_ok [33] rfl rfl ?_
    obtain rfl := Option.some.inj h
    exact TL.nil (X.seq (T.ret (X.done1 [2] Try.results60 (RV.tm rfl) ⟨rfl, rfl, rfl⟩ (by rfl) (.inl rfl))))
def f_r07_odd (a0 : Bl) : Option (Bool) := if a0.null = true then (if a0.data = [] then some false else some true) else some false
def f_r07_Right (a0 : Rec) : Option (Int) := if a0.fOffset < 0 then some 11 else (if a0.fOffset > 2147483647 then some 11 else ((f_r07_odd a0.fKey).bind fun x6 => if x6 = true then some 4 else ((f_r07_odd a0.fValue).bind fun x9 => if x9 = true then some 4 else ((f_r06_Right a0.fHeaders).bind fun x12 => if x12 = true then some 0 else some 4))))
end Go.Proofs.Ytahjmpipllajcaa.Sl
namespace Go.Proofs.Ytahjmpipllajcaa.Sl
open Go.RowKit
set_option linter.unusedVariables false
set_option linter.unusedSimpArgs false
set_option maxRecDepth 100000
def f_r08_ReadKey (a0 : List UInt8) : Option (Int × Int) := if (a0.length : Int) < 2 then some (0, 1) else (if 2 ≤ a0.length then ((gRInt (a0.take 2)).bind fun x3 => if x3 = 0 then (if (a0.length : Int) < 4 then some (0, 1) else (if 4 ≤ a0.length then ((gRInt ((a0.drop 2).take 2)).bind fun x8 => if x8 = 0 then (if (a0.length : Int) > 4 then some (0, 2) else some (x8, 0)) else (if x8 = 1 then (if (a0.length : Int) > 4 then some (0, 2) else some (x8, 0)) else some (0, 12))) else none)) else some (0, 7)) else none)
def f_r08_ReadValue (a0 : List UInt8) : Option (Int × Int) := if (a0.length : Int) < 2 then some (0, 1) else (if 2 ≤ a0.length then ((gRInt (a0.take 2)).bind fun x3 => if x3 = 0 then (if (a0.length : Int) < 6 then some (0, 1) else (if 6 ≤ a0.length then ((gRInt ((a0.drop 2).take 4)).bind fun x8 => if x8 < 0 then some (0, 11) else (if (a0.length : Int) > 6 then some (0, 2) else some (x8, 0))) else none)) else some (0, 7)) else none)
def f_r08_Read (a0 : Rec) : Option (Int × Int × Int) := if a0.fKey.null = true then some (0, 0, 12) else (if a0.fValue.null = true then some (0, 0, 12) else (if (a0.fHeaders.length : Int) > 0 then some (0, 0, 12) else (if a0.fOffset = 0 then ((f_r08_ReadKey a0.fKey.data).bind fun (x8, x9) => if x9 = 0 then ((f_r08_ReadValue a0.fValue.data).bind fun (x12, x13) => if x13 = 0 then some (x8, x12, 0) else some (0, 0, x13)) else some (0, 0, x9)) else some (0, 0, 12))))
end Go.Proofs.Ytahjmpipllajcaa.Sl
