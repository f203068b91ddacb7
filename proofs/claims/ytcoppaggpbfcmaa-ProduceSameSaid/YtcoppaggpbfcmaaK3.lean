/- produceSame_holds: part 3. -/
import Derived.KernelRfl
import Derived.Test.YtcoppaggpbfcmaaK2
namespace Go.Proofs.Ytcoppaggpbfcmaa.Sl
open Go.RowKit
set_option linter.unusedVariables false
set_option linter.unusedSimpArgs false
set_option maxRecDepth 100000
def ft_cursitorref11 : FTab := [(25, 0, 0), (25, 1, 1), (25, 2, 2), (25, 3, 3), (25, 4, 4), (25, 5, 5), (25, 6, 6), (25, 7, 7), (25, 8, 8), (25, 9, 9), (25, 10, 10), (25, 11, 11), (33, 0, 0), (33, 1, 1)]
theorem ft_cursitorref11_ok : (ft_cursitorref11).OK Try.prog := ⟨FOK.mk Try.runUnderlying25 rfl Try.sizeOf3 rfl, FOK.mk Try.runUnderlying25 rfl Try.sizeOf3 rfl, FOK.mk Try.runUnderlying25 rfl Try.sizeOf4 rfl, FOK.mk Try.runUnderlying25 rfl Try.sizeOf4 rfl, FOK.mk Try.runUnderlying25 rfl Try.sizeOf4 rfl, FOK.mk Try.runUnderlying25 rfl Try.sizeOf3 rfl, FOK.mk Try.runUnderlying25 rfl Try.sizeOf3 rfl, FOK.mk Try.runUnderlying25 rfl Try.sizeOf3 rfl, FOK.mk Try.runUnderlying25 rfl Try.sizeOf3 rfl, FOK.mk Try.runUnderlying25 rfl Try.sizeOf3 rfl, FOK.mk Try.runUnderlying25 rfl Try.sizeOf3 rfl, FOK.mk Try.runUnderlying25 rfl Try.sizeOf23 rfl, FOK.mk Try.runUnderlying33 rfl Try.sizeOf3 rfl, FOK.mk Try.runUnderlying33 rfl Try.sizeOf3 rfl, trivial⟩
theorem mix_cursitorref11 : Try.prog.follows .mixedOrders = true := by kernel_rfl
def f_r11_Same_l1 (a0 : Bat) (a1 : Bat) : Nat → Bool → Nat → Option (Lp Bool (Bool × Nat))
  | 0, _, _ => none
  | m38 + 1, y33, k34 => if (k34 : Int) < (a0.fRecords.length : Int) then ((a0.fRecords[k34]?).bind fun x43 => (a1.fRecords[k34]?).bind fun x49 => (f_r07_Same x43 x49).bind fun x55 => if x55 = true then (if -9223372036854775808 ≤ ((k34 : Int) + 1) ∧ ((k34 : Int) + 1) ≤ 9223372036854775807 then (f_r11_Same_l1 a0 a1 m38 y33 (k34 + 1)) else none) else some (Lp.ret false)) else (some (Lp.go (y33, k34)))
def f_r11_Same (a0 : Bat) (a1 : Bat) : Option (Bool) := (if a0.fBase = a1.fBase then (if a0.fLeader = a1.fLeader then (if (a0.fAppend == a1.fAppend) = true then (if (a0.fTxn == a1.fTxn) = true then (if (a0.fControl == a1.fControl) = true then (if a0.fLast = a1.fLast then (if a0.fFirst = a1.fFirst then (if a0.fMax = a1.fMax then (if a0.fProducer = a1.fProducer then (if a0.fEpoch = a1.fEpoch then (if a0.fSequence = a1.fSequence then (if (a0.fRecords.length : Int) = (a1.fRecords.length : Int) then some false else some true) else some true) else some true) else some true) else some true) else some true) else some true) else some true) else some true) else some true) else some true) else some true).bind fun y18 => if y18 = true then some false else ((f_r11_Same_l1 a0 a1 (((a0.fRecords.length : Int)).toNat + 1) false 0).bind fun e => match e with | .ret r => some r | .go (y59, k60) => some true)
set_option maxRecDepth 100000 in
set_option maxHeartbeats 4000000 in
theorem f_r11_Same_spec (a0 : Bat) (A1 : Option Addr) (c2 : Nat) (a1 : Bat) (A3 : Option Addr) (c4 : Nat) (r : Bool) (h : f_r11_Same a0 a1 = some r) : SpecX Try.prog 17 #[.agg #[.int .i64 a0.fBase, .int .i64 a0.fLeader, .bool a0.fAppend, .bool a0.fTxn, .bool a0.fControl, .int .i64 a0.fLast, .int .i64 a0.fFirst, .int .i64 a0.fMax, .int .i64 a0.fProducer, .int .i64 a0.fEpoch, .int .i64 a0.fSequence, .slice A1 a0.fRecords.length c2], .agg #[.int .i64 a1.fBase, .int .i64 a1.fLeader, .bool a1.fAppend, .bool a1.fTxn, .bool a1.fControl, .int .i64 a1.fLast, .int .i64 a1.fFirst, .int .i64 a1.fMax, .int .i64 a1.fProducer, .int .i64 a1.fEpoch, .int .i64 a1.fSequence, .slice A3 a1.fRecords.length c4]] (RX.and (RX.of (sliceRd 7 Rec_rd) [.slice A1 a0.fRecords.length c2] a0.fRecords) (RX.of (sliceRd 7 Rec_rd) [.slice A3 a1.fRecords.length c4] a1.fRecords)) (EmpR) (fun v A' N => v = .bool r ∧ A' = EmpR ∧ N = []) := by
  refine enterA Try.func17 rfl Try.ntmps17 rfl ?_
  intro F w hX
  unfold f_r11_Same at h
  refine T.seq (T.region rfl ?_)
  refine TL.box rfl .u rfl rfl (fun b5 => ?_)
  refine TL.box rfl .u rfl rfl (fun b6 => ?_)
  refine TL.run ft_cursitorref11_ok [2] rfl rfl ?_
  refine TL.nil (X.seq (T.seq (T.seq ?_)))
  obtain ⟨y18, h, hk19⟩ := Option.bind_eq_some_iff.1 h
  refine T.jq (fun e Rs => e = [(2, .pointer (some ⟨b5, 0, none⟩)), (3, .pointer (some ⟨b6, 0, none⟩)), (4, .bool false), (89, .bool y18)] ∧ Rs = [BlkR b6 25 #[.int .i64 a1.fBase, .int .i64 a1.fLeader, .bool a1.fAppend, .bool a1.fTxn, .bool a1.fControl, .int .i64 a1.fLast, .int .i64 a1.fFirst, .int .i64 a1.fMax, .int .i64 a1.fProducer, .int .i64 a1.fEpoch, .int .i64 a1.fSequence, .slice A3 a1.fRecords.length c4], BlkR b5 25 #[.int .i64 a0.fBase, .int .i64 a0.fLeader, .bool a0.fAppend, .bool a0.fTxn, .bool a0.fControl, .int .i64 a0.fLast, .int .i64 a0.fFirst, .int .i64 a0.fMax, .int .i64 a0.fProducer, .int .i64 a0.fEpoch, .int .i64 a0.fSequence, .slice A1 a0.fRecords.length c2], EmpR]) ?_ ?_
  · clear hk19
    refine T.region rfl ?_
    refine TL.run ft_cursitorref11_ok [0] rfl rfl ?_
    refine TL.q rfl .u (Ex.b1 1 rfl Try.isAgg3 rfl rfl) rfl ?_
    refine TL.run ft_cursitorref11_ok [2] rfl rfl ?_
    refine TL.q rfl .u (Ex.b1 0 rfl Try.isAgg3 rfl rfl) rfl ?_
    by_cases c20 : a0.fBase = a1.fBase
    · replace h := ifT c20 h
      refine TL.run ft_cursitorref11_ok [4, 5] rfl rfl ?_
      refine TL.q rfl (.g rfl rfl (bn_f (decide_eq_true c20))) (Ex.ft ft_cursitorref11_ok rfl) rfl ?_
      refine TL.q rfl (.g rfl rfl (bn_f (decide_eq_true c20))) (Ex.b1 1 rfl Try.isAgg3 rfl rfl) rfl ?_
      refine TL.q rfl (.g rfl rfl (bn_f (decide_eq_true c20))) (Ex.ft ft_cursitorref11_ok rfl) rfl ?_
      refine TL.q rfl (.g rfl rfl (bn_f (decide_eq_true c20))) (Ex.b1 0 rfl Try.isAgg3 rfl rfl) rfl ?_
      refine TL.q rfl (.g rfl rfl (bn_f (decide_eq_true c20))) (Ex.ft ft_cursitorref11_ok rfl) rfl ?_
      refine TL.q rfl .u (Ex.pn rfl (bn_f (decide_eq_true c20)) rfl) rfl ?_
      by_cases c21 : a0.fLeader = a1.fLeader
      · replace h := ifT c21 h
        refine TL.run ft_cursitorref11_ok [12] rfl rfl ?_
        refine TL.q rfl (.g rfl rfl (bn_f (decide_eq_true c21))) (Ex.ft ft_cursitorref11_ok rfl) rfl ?_
        refine TL.q rfl (.g rfl rfl (bn_f (decide_eq_true c21))) (Ex.b1 1 rfl Try.isAgg4 rfl rfl) rfl ?_
        refine TL.q rfl (.g rfl rfl (bn_f (decide_eq_true c21))) (Ex.ft ft_cursitorref11_ok rfl) rfl ?_
        refine TL.q rfl (.g rfl rfl (bn_f (decide_eq_true c21))) (Ex.b1 0 rfl Try.isAgg4 rfl rfl) rfl ?_
        refine TL.q rfl (.g rfl rfl (bn_f (decide_eq_true c21))) (Ex.bNe rfl rfl rfl rfl Try.runUnderlying4) rfl ?_
        refine TL.q rfl .u (Ex.pn rfl (bn_f (decide_eq_true c21)) rfl) rfl ?_
        by_cases c22 : (a0.fAppend == a1.fAppend) = true
        · replace h := ifT c22 h
          refine TL.run ft_cursitorref11_ok [19] rfl rfl ?_
          refine TL.q rfl (.g rfl rfl (bn_f c22)) (Ex.ft ft_cursitorref11_ok rfl) rfl ?_
          refine TL.q rfl (.g rfl rfl (bn_f c22)) (Ex.b1 1 rfl Try.isAgg4 rfl rfl) rfl ?_
          refine TL.q rfl (.g rfl rfl (bn_f c22)) (Ex.ft ft_cursitorref11_ok rfl) rfl ?_
          refine TL.q rfl (.g rfl rfl (bn_f c22)) (Ex.b1 0 rfl Try.isAgg4 rfl rfl) rfl ?_
          refine TL.q rfl (.g rfl rfl (bn_f c22)) (Ex.bNe rfl rfl rfl rfl Try.runUnderlying4) rfl ?_
          refine TL.q rfl .u (Ex.pn rfl (bn_f c22) rfl) rfl ?_
          by_cases c23 : (a0.fTxn == a1.fTxn) = true
          · replace h := ifT c23 h
            refine TL.run ft_cursitorref11_ok [26] rfl rfl ?_
            refine TL.q rfl (.g rfl rfl (bn_f c23)) (Ex.ft ft_cursitorref11_ok rfl) rfl ?_
            refine TL.q rfl (.g rfl rfl (bn_f c23)) (Ex.b1 1 rfl Try.isAgg4 rfl rfl) rfl ?_
            refine TL.q rfl (.g rfl rfl (bn_f c23)) (Ex.ft ft_cursitorref11_ok rfl) rfl ?_
            refine TL.q rfl (.g rfl rfl (bn_f c23)) (Ex.b1 0 rfl Try.isAgg4 rfl rfl) rfl ?_
            refine TL.q rfl (.g rfl rfl (bn_f c23)) (Ex.bNe rfl rfl rfl rfl Try.runUnderlying4) rfl ?_
            refine TL.q rfl .u (Ex.pn rfl (bn_f c23) rfl) rfl ?_
            by_cases c24 : (a0.fControl == a1.fControl) = true
            · replace h := ifT c24 h
              refine TL.run ft_cursitorref11_ok [33] rfl rfl ?_
              refine TL.q rfl (.g rfl rfl (bn_f c24)) (Ex.ft ft_cursitorref11_ok rfl) rfl ?_
              refine TL.q rfl (.g rfl rfl (bn_f c24)) (Ex.b1 1 rfl Try.isAgg3 rfl rfl) rfl ?_
              refine TL.q rfl (.g rfl rfl (bn_f c24)) (Ex.ft ft_cursitorref11_ok rfl) rfl ?_
              refine TL.q rfl (.g rfl rfl (bn_f c24)) (Ex.b1 0 rfl Try.isAgg3 rfl rfl) rfl ?_
              refine TL.q rfl (.g rfl rfl (bn_f c24)) (Ex.ft ft_cursitorref11_ok rfl) rfl ?_
              refine TL.q rfl .u (Ex.pn rfl (bn_f c24) rfl) rfl ?_
              by_cases c25 : a0.fLast = a1.fLast
              · replace h := ifT c25 h
                refine TL.run ft_cursitorref11_ok [40] rfl rfl ?_
                refine TL.q rfl (.g rfl rfl (bn_f (decide_eq_true c25))) (Ex.ft ft_cursitorref11_ok rfl) rfl ?_
                refine TL.q rfl (.g rfl rfl (bn_f (decide_eq_true c25))) (Ex.b1 1 rfl Try.isAgg3 rfl rfl) rfl ?_
                refine TL.q rfl (.g rfl rfl (bn_f (decide_eq_true c25))) (Ex.ft ft_cursitorref11_ok rfl) rfl ?_
                refine TL.q rfl (.g rfl rfl (bn_f (decide_eq_true c25))) (Ex.b1 0 rfl Try.isAgg3 rfl rfl) rfl ?_
                refine TL.q rfl (.g rfl rfl (bn_f (decide_eq_true c25))) (Ex.ft ft_cursitorref11_ok rfl) rfl ?_
                refine TL.q rfl .u (Ex.pn rfl (bn_f (decide_eq_true c25)) rfl) rfl ?_
                by_cases c26 : a0.fFirst = a1.fFirst
                · replace h := ifT c26 h
                  refine TL.run ft_cursitorref11_ok [47] rfl rfl ?_
                  refine TL.q rfl (.g rfl rfl (bn_f (decide_eq_true c26))) (Ex.ft ft_cursitorref11_ok rfl) rfl ?_
                  refine TL.q rfl (.g rfl rfl (bn_f (decide_eq_true c26))) (Ex.b1 1 rfl Try.isAgg3 rfl rfl) rfl ?_
                  refine TL.q rfl (.g rfl rfl (bn_f (decide_eq_true c26))) (Ex.ft ft_cursitorref11_ok rfl) rfl ?_
                  refine TL.q rfl (.g rfl rfl (bn_f (decide_eq_true c26))) (Ex.b1 0 rfl Try.isAgg3 rfl rfl) rfl ?_
                  refine TL.q rfl (.g rfl rfl (bn_f (decide_eq_true c26))) (Ex.ft ft_cursitorref11_ok rfl) rfl ?_
                  refine TL.q rfl .u (Ex.pn rfl (bn_f (decide_eq_true c26)) rfl) rfl ?_
                  by_cases c27 : a0.fMax = a1.fMax
                  · replace h := ifT c27 h
                    refine TL.run ft_cursitorref11_ok [54] rfl rfl ?_
                    refine TL.q rfl (.g rfl rfl (bn_f (decide_eq_true c27))) (Ex.ft ft_cursitorref11_ok rfl) rfl ?_
                    refine TL.q rfl (.g rfl rfl (bn_f (decide_eq_true c27))) (Ex.b1 1 rfl Try.isAgg3 rfl rfl) rfl ?_
                    refine TL.q rfl (.g rfl rfl (bn_f (decide_eq_true c27))) (Ex.ft ft_cursitorref11_ok rfl) rfl ?_
                    refine TL.q rfl (.g rfl rfl (bn_f (decide_eq_true c27))) (Ex.b1 0 rfl Try.isAgg3 rfl rfl) rfl ?_
                    refine TL.q rfl (.g rfl rfl (bn_f (decide_eq_true c27))) (Ex.ft ft_cursitorref11_ok rfl) rfl ?_
                    refine TL.q rfl .u (Ex.pn rfl (bn_f (decide_eq_true c27)) rfl) rfl ?_
                    by_cases c28 : a0.fProducer = a1.fProducer
                    · replace h := ifT c28 h
                      refine TL.run ft_cursitorref11_ok [61] rfl rfl ?_
                      refine TL.q rfl (.g rfl rfl (bn_f (decide_eq_true c28))) (Ex.ft ft_cursitorref11_ok rfl) rfl ?_
                      refine TL.q rfl (.g rfl rfl (bn_f (decide_eq_true c28))) (Ex.b1 1 rfl Try.isAgg3 rfl rfl) rfl ?_
                      refine TL.q rfl (.g rfl rfl (bn_f (decide_eq_true c28))) (Ex.ft ft_cursitorref11_ok rfl) rfl ?_
                      refine TL.q rfl (.g rfl rfl (bn_f (decide_eq_true c28))) (Ex.b1 0 rfl Try.isAgg3 rfl rfl) rfl ?_
                      refine TL.q rfl (.g rfl rfl (bn_f (decide_eq_true c28))) (Ex.ft ft_cursitorref11_ok rfl) rfl ?_
                      refine TL.q rfl .u (Ex.pn rfl (bn_f (decide_eq_true c28)) rfl) rfl ?_
                      by_cases c29 : a0.fEpoch = a1.fEpoch
                      · replace h := ifT c29 h
                        refine TL.run ft_cursitorref11_ok [68] rfl rfl ?_
                        refine TL.q rfl (.g rfl rfl (bn_f (decide_eq_true c29))) (Ex.ft ft_cursitorref11_ok rfl) rfl ?_
                        refine TL.q rfl (.g rfl rfl (bn_f (decide_eq_true c29))) (Ex.b1 1 rfl Try.isAgg3 rfl rfl) rfl ?_
                        refine TL.q rfl (.g rfl rfl (bn_f (decide_eq_true c29))) (Ex.ft ft_cursitorref11_ok rfl) rfl ?_
                        refine TL.q rfl (.g rfl rfl (bn_f (decide_eq_true c29))) (Ex.b1 0 rfl Try.isAgg3 rfl rfl) rfl ?_
                        refine TL.q rfl (.g rfl rfl (bn_f (decide_eq_true c29))) (Ex.ft ft_cursitorref11_ok rfl) rfl ?_
                        refine TL.q rfl .u (Ex.pn rfl (bn_f (decide_eq_true c29)) rfl) rfl ?_
                        by_cases c30 : a0.fSequence = a1.fSequence
                        · replace h := ifT c30 h
                          refine TL.run ft_cursitorref11_ok [75] rfl rfl ?_
                          refine TL.q rfl (.g rfl rfl (bn_f (decide_eq_true c30))) (Ex.ft ft_cursitorref11_ok rfl) rfl ?_
                          refine TL.q rfl (.g rfl rfl (bn_f (decide_eq_true c30))) (Ex.b1 1 rfl Try.isAgg23 rfl rfl) rfl ?_
                          refine TL.q rfl (.g rfl rfl (bn_f (decide_eq_true c30))) (Ex.lenS rfl Try.runUnderlying23) rfl ?_
                          refine TL.q rfl (.g rfl rfl (bn_f (decide_eq_true c30))) (Ex.ft ft_cursitorref11_ok rfl) rfl ?_
                          refine TL.q rfl (.g rfl rfl (bn_f (decide_eq_true c30))) (Ex.b1 0 rfl Try.isAgg23 rfl rfl) rfl ?_
                          refine TL.q rfl (.g rfl rfl (bn_f (decide_eq_true c30))) (Ex.lenS rfl Try.runUnderlying23) rfl ?_
                          refine TL.q rfl (.g rfl rfl (bn_f (decide_eq_true c30))) (Ex.ft ft_cursitorref11_ok rfl) rfl ?_
                          refine TL.q rfl .u (Ex.pn rfl (bn_f (decide_eq_true c30)) rfl) rfl ?_
                          by_cases c31 : (a0.fRecords.length : Int) = (a1.fRecords.length : Int)
                          · replace h := ifT c31 h
                            cases h
                            exact TL.nil (X.as (d := 89) (v' := .bool false) rfl (congrArg Value.bool (bn_f (decide_eq_true c31))) (X.jq [0, 0, 0] ⟨rfl, rfl⟩ (by rfl) (by rfl)))
                          · replace h := ifF c31 h
                            cases h
                            exact TL.nil (X.as (d := 89) (v' := .bool true) rfl (congrArg Value.bool (bn_t (decide_eq_false c31))) (X.jq [0, 0, 0] ⟨rfl, rfl⟩ (by rfl) (by rfl)))
                        · replace h := ifF c30 h
                          refine TL.run ft_cursitorref11_ok [75] rfl rfl ?_
                          refine TL.no rfl (.gn rfl rfl (bn_t (decide_eq_false c30))) rfl ?_
                          refine TL.no rfl (.gn rfl rfl (bn_t (decide_eq_false c30))) rfl ?_
                          refine TL.no rfl (.gn rfl rfl (bn_t (decide_eq_false c30))) rfl ?_
                          refine TL.no rfl (.gn rfl rfl (bn_t (decide_eq_false c30))) rfl ?_
                          refine TL.no rfl (.gn rfl rfl (bn_t (decide_eq_false c30))) rfl ?_
                          refine TL.no rfl (.gn rfl rfl (bn_t (decide_eq_false c30))) rfl ?_
                          refine TL.no rfl (.gn rfl rfl (bn_t (decide_eq_false c30))) rfl ?_
                          refine TL.q rfl .u (Ex.py rfl (bn_t (decide_eq_false c30)) rfl) rfl ?_
                          cases h
                          exact TL.nil (X.jq [0, 0, 0] ⟨rfl, rfl⟩ (by rfl) (by rfl))
                      · replace h := ifF c29 h
                        refine TL.run ft_cursitorref11_ok [68] rfl rfl ?_
                        refine TL.no rfl (.gn rfl rfl (bn_t (decide_eq_false c29))) rfl ?_
                        refine TL.no rfl (.gn rfl rfl (bn_t (decide_eq_false c29))) rfl ?_
                        refine TL.no rfl (.gn rfl rfl (bn_t (decide_eq_false c29))) rfl ?_
                        refine TL.no rfl (.gn rfl rfl (bn_t (decide_eq_false c29))) rfl ?_
                        refine TL.no rfl (.gn rfl rfl (bn_t (decide_eq_false c29))) rfl ?_
                        refine TL.q rfl .u (Ex.py rfl (bn_t (decide_eq_false c29)) rfl) rfl ?_
                        refine TL.run ft_cursitorref11_ok [75] rfl rfl ?_
                        refine TL.no rfl (.gn rfl rfl rfl) rfl ?_
                        refine TL.no rfl (.gn rfl rfl rfl) rfl ?_
                        refine TL.no rfl (.gn rfl rfl rfl) rfl ?_
                        refine TL.no rfl (.gn rfl rfl rfl) rfl ?_
                        refine TL.no rfl (.gn rfl rfl rfl) rfl ?_
                        refine TL.no rfl (.gn rfl rfl rfl) rfl ?_
                        refine TL.no rfl (.gn rfl rfl rfl) rfl ?_
                        refine TL.q rfl .u (Ex.py rfl rfl rfl) rfl ?_
                        cases h
                        exact TL.nil (X.jq [0, 0, 0] ⟨rfl, rfl⟩ (by rfl) (by rfl))
                    · replace h := ifF c28 h
                      refine TL.run ft_cursitorref11_ok [61] rfl rfl ?_
                      refine TL.no rfl (.gn rfl rfl (bn_t (decide_eq_false c28))) rfl ?_
                      refine TL.no rfl (.gn rfl rfl (bn_t (decide_eq_false c28))) rfl ?_
                      refine TL.no rfl (.gn rfl rfl (bn_t (decide_eq_false c28))) rfl ?_
                      refine TL.no rfl (.gn rfl rfl (bn_t (decide_eq_false c28))) rfl ?_
                      refine TL.no rfl (.gn rfl rfl (bn_t (decide_eq_false c28))) rfl ?_
                      refine TL.q rfl .u (Ex.py rfl (bn_t (decide_eq_false c28)) rfl) rfl ?_
                      refine TL.run ft_cursitorref11_ok [68] rfl rfl ?_
                      refine TL.no rfl (.gn rfl rfl rfl) rfl ?_
                      refine TL.no rfl (.gn rfl rfl rfl) rfl ?_
                      refine TL.no rfl (.gn rfl rfl rfl) rfl ?_
                      refine TL.no rfl (.gn rfl rfl rfl) rfl ?_
                      refine TL.no rfl (.gn rfl rfl rfl) rfl ?_
                      refine TL.q rfl .u (Ex.py rfl rfl rfl) rfl ?_
                      refine TL.run ft_cursitorref11_ok [75] rfl rfl ?_
                      refine TL.no rfl (.gn rfl rfl rfl) rfl ?_
                      refine TL.no rfl (.gn rfl rfl rfl) rfl ?_
                      refine TL.no rfl (.gn rfl rfl rfl) rfl ?_
                      refine TL.no rfl (.gn rfl rfl rfl) rfl ?_
                      refine TL.no rfl (.gn rfl rfl rfl) rfl ?_
                      refine TL.no rfl (.gn rfl rfl rfl) rfl ?_
                      refine TL.no rfl (.gn rfl rfl rfl) rfl ?_
                      refine TL.q rfl .u (Ex.py rfl rfl rfl) rfl ?_
                      cases h
                      exact TL.nil (X.jq [0, 0, 0] ⟨rfl, rfl⟩ (by rfl) (by rfl))
                  · replace h := ifF c27 h
                    refine TL.run ft_cursitorref11_ok [54] rfl rfl ?_
                    refine TL.no rfl (.gn rfl rfl (bn_t (decide_eq_false c27))) rfl ?_
                    refine TL.no rfl (.gn rfl rfl (bn_t (decide_eq_false c27))) rfl ?_
                    refine TL.no rfl (.gn rfl rfl (bn_t (decide_eq_false c27))) rfl ?_
                    refine TL.no rfl (.gn rfl rfl (bn_t (decide_eq_false c27))) rfl ?_
                    refine TL.no rfl (.gn rfl rfl (bn_t (decide_eq_false c27))) rfl ?_
                    refine TL.q rfl .u (Ex.py rfl (bn_t (decide_eq_false c27)) rfl) rfl ?_
                    refine TL.run ft_cursitorref11_ok [61] rfl rfl ?_
                    refine TL.no rfl (.gn rfl rfl rfl) rfl ?_
                    refine TL.no rfl (.gn rfl rfl rfl) rfl ?_
                    refine TL.no rfl (.gn rfl rfl rfl) rfl ?_
                    refine TL.no rfl (.gn rfl rfl rfl) rfl ?_
                    refine TL.no rfl (.gn rfl rfl rfl) rfl ?_
                    refine TL.q rfl .u (Ex.py rfl rfl rfl) rfl ?_
                    refine TL.run ft_cursitorref11_ok [68] rfl rfl ?_
                    refine TL.no rfl (.gn rfl rfl rfl) rfl ?_
                    refine TL.no rfl (.gn rfl rfl rfl) rfl ?_
                    refine TL.no rfl (.gn rfl rfl rfl) rfl ?_
                    refine TL.no rfl (.gn rfl rfl rfl) rfl ?_
                    refine TL.no rfl (.gn rfl rfl rfl) rfl ?_
                    refine TL.q rfl .u (Ex.py rfl rfl rfl) rfl ?_
                    refine TL.run ft_cursitorref11_ok [75] rfl rfl ?_
                    refine TL.no rfl (.gn rfl rfl rfl) rfl ?_
                    refine TL.no rfl (.gn rfl rfl rfl) rfl ?_
                    refine TL.no rfl (.gn rfl rfl rfl) rfl ?_
                    refine TL.no rfl (.gn rfl rfl rfl) rfl ?_
                    refine TL.no rfl (.gn rfl rfl rfl) rfl ?_
                    refine TL.no rfl (.gn rfl rfl rfl) rfl ?_
                    refine TL.no rfl (.gn rfl rfl rfl) rfl ?_
                    refine TL.q rfl .u (Ex.py rfl rfl rfl) rfl ?_
                    cases h
                    exact TL.nil (X.jq [0, 0, 0] ⟨rfl, rfl⟩ (by rfl) (by rfl))
                · replace h := ifF c26 h
                  refine TL.run ft_cursitorref11_ok [47] rfl rfl ?_
                  refine TL.no rfl (.gn rfl rfl (bn_t (decide_eq_false c26))) rfl ?_
                  refine TL.no rfl (.gn rfl rfl (bn_t (decide_eq_false c26))) rfl ?_
                  refine TL.no rfl (.gn rfl rfl (bn_t (decide_eq_false c26))) rfl ?_
                  refine TL.no rfl (.gn rfl rfl (bn_t (decide_eq_false c26))) rfl ?_
                  refine TL.no rfl (.gn rfl rfl (bn_t (decide_eq_false c26))) rfl ?_
                  refine TL.q rfl .u (Ex.py rfl (bn_t (decide_eq_false c26)) rfl) rfl ?_
                  refine TL.run ft_cursitorref11_ok [54] rfl rfl ?_
                  refine TL.no rfl (.gn rfl rfl rfl) rfl ?_
                  refine TL.no rfl (.gn rfl rfl rfl) rfl ?_
                  refine TL.no rfl (.gn rfl rfl rfl) rfl ?_
                  refine TL.no rfl (.gn rfl rfl rfl) rfl ?_
                  refine TL.no rfl (.gn rfl rfl rfl) rfl ?_
                  refine TL.q rfl .u (Ex.py rfl rfl rfl) rfl ?_
                  refine TL.run ft_cursitorref11_ok [61] rfl rfl ?_
                  refine TL.no rfl (.gn rfl rfl rfl) rfl ?_
                  refine TL.no rfl (.gn rfl rfl rfl) rfl ?_
                  refine TL.no rfl (.gn rfl rfl rfl) rfl ?_
                  refine TL.no rfl (.gn rfl rfl rfl) rfl ?_
                  refine TL.no rfl (.gn rfl rfl rfl) rfl ?_
                  refine TL.q rfl .u (Ex.py rfl rfl rfl) rfl ?_
                  refine TL.run ft_cursitorref11_ok [68] rfl rfl ?_
                  refine TL.no rfl (.gn rfl rfl rfl) rfl ?_
                  refine TL.no rfl (.gn rfl rfl rfl) rfl ?_
                  refine TL.no rfl (.gn rfl rfl rfl) rfl ?_
                  refine TL.no rfl (.gn rfl rfl rfl) rfl ?_
                  refine TL.no rfl (.gn rfl rfl rfl) rfl ?_
                  refine TL.q rfl .u (Ex.py rfl rfl rfl) rfl ?_
                  refine TL.run ft_cursitorref11_ok [75] rfl rfl ?_
                  refine TL.no rfl (.gn rfl rfl rfl) rfl ?_
                  refine TL.no rfl (.gn rfl rfl rfl) rfl ?_
                  refine TL.no rfl (.gn rfl rfl rfl) rfl ?_
                  refine TL.no rfl (.gn rfl rfl rfl) rfl ?_
                  refine TL.no rfl (.gn rfl rfl rfl) rfl ?_
                  refine TL.no rfl (.gn rfl rfl rfl) rfl ?_
                  refine TL.no rfl (.gn rfl rfl rfl) rfl ?_
                  refine TL.q rfl .u (Ex.py rfl rfl rfl) rfl ?_
                  cases h
                  exact TL.nil (X.jq [0, 0, 0] ⟨rfl, rfl⟩ (by rfl) (by rfl))
              · replace h := ifF c25 h
                refine TL.run ft_cursitorref11_ok [40] rfl rfl ?_
                refine TL.no rfl (.gn rfl rfl (bn_t (decide_eq_false c25))) rfl ?_
                refine TL.no rfl (.gn rfl rfl (bn_t (decide_eq_false c25))) rfl ?_
                refine TL.no rfl (.gn rfl rfl (bn_t (decide_eq_false c25))) rfl ?_
                refine TL.no rfl (.gn rfl rfl (bn_t (decide_eq_false c25))) rfl ?_
                refine TL.no rfl (.gn rfl rfl (bn_t (decide_eq_false c25))) rfl ?_
                refine TL.q rfl .u (Ex.py rfl (bn_t (decide_eq_false c25)) rfl) rfl ?_
                refine TL.run ft_cursitorref11_ok [47] rfl rfl ?_
                refine TL.no rfl (.gn rfl rfl rfl) rfl ?_
                refine TL.no rfl (.gn rfl rfl rfl) rfl ?_
                refine TL.no rfl (.gn rfl rfl rfl) rfl ?_
                refine TL.no rfl (.gn rfl rfl rfl) rfl ?_
                refine TL.no rfl (.gn rfl rfl rfl) rfl ?_
                refine TL.q rfl .u (Ex.py rfl rfl rfl) rfl ?_
                refine TL.run ft_cursitorref11_ok [54] rfl rfl ?_
                refine TL.no rfl (.gn rfl rfl rfl) rfl ?_
                refine TL.no rfl (.gn rfl rfl rfl) rfl ?_
                refine TL.no rfl (.gn rfl rfl rfl) rfl ?_
                refine TL.no rfl (.gn rfl rfl rfl) rfl ?_
                refine TL.no rfl (.gn rfl rfl rfl) rfl ?_
                refine TL.q rfl .u (Ex.py rfl rfl rfl) rfl ?_
                refine TL.run ft_cursitorref11_ok [61] rfl rfl ?_
                refine TL.no rfl (.gn rfl rfl rfl) rfl ?_
                refine TL.no rfl (.gn rfl rfl rfl) rfl ?_
                refine TL.no rfl (.gn rfl rfl rfl) rfl ?_
                refine TL.no rfl (.gn rfl rfl rfl) rfl ?_
                refine TL.no rfl (.gn rfl rfl rfl) rfl ?_
                refine TL.q rfl .u (Ex.py rfl rfl rfl) rfl ?_
                refine TL.run ft_cursitorref11_ok [68] rfl rfl ?_
                refine TL.no rfl (.gn rfl rfl rfl) rfl ?_
                refine TL.no rfl (.gn rfl rfl rfl) rfl ?_
                refine TL.no rfl (.gn rfl rfl rfl) rfl ?_
                refine TL.no rfl (.gn rfl rfl rfl) rfl ?_
                refine TL.no rfl (.gn rfl rfl rfl) rfl ?_
                refine TL.q rfl .u (Ex.py rfl rfl rfl) rfl ?_
                refine TL.run ft_cursitorref11_ok [75] rfl rfl ?_
                refine TL.no rfl (.gn rfl rfl rfl) rfl ?_
                refine TL.no rfl (.gn rfl rfl rfl) rfl ?_
                refine TL.no rfl (.gn rfl rfl rfl) rfl ?_
                refine TL.no rfl (.gn rfl rfl rfl) rfl ?_
                refine TL.no rfl (.gn rfl rfl rfl) rfl ?_
                refine TL.no rfl (.gn rfl rfl rfl) rfl ?_
                refine TL.no rfl (.gn rfl rfl rfl) rfl ?_
                refine TL.q rfl .u (Ex.py rfl rfl rfl) rfl ?_
                cases h
                exact TL.nil (X.jq [0, 0, 0] ⟨rfl, rfl⟩ (by rfl) (by rfl))
            · replace h := ifF c24 h
              replace c24 := eq_false_of_ne_true c24
              refine TL.run ft_cursitorref11_ok [33] rfl rfl ?_
              refine TL.no rfl (.gn rfl rfl (bn_t c24)) rfl ?_
              refine TL.no rfl (.gn rfl rfl (bn_t c24)) rfl ?_
              refine TL.no rfl (.gn rfl rfl (bn_t c24)) rfl ?_
              refine TL.no rfl (.gn rfl rfl (bn_t c24)) rfl ?_
              refine TL.no rfl (.gn rfl rfl (bn_t c24)) rfl ?_
              refine TL.q rfl .u (Ex.py rfl (bn_t c24) rfl) rfl ?_
              refine TL.run ft_cursitorref11_ok [40] rfl rfl ?_
              refine TL.no rfl (.gn rfl rfl rfl) rfl ?_
              refine TL.no rfl (.gn rfl rfl rfl) rfl ?_
              refine TL.no rfl (.gn rfl rfl rfl) rfl ?_
              refine TL.no rfl (.gn rfl rfl rfl) rfl ?_
              refine TL.no rfl (.gn rfl rfl rfl) rfl ?_
              refine TL.q rfl .u (Ex.py rfl rfl rfl) rfl ?_
              refine TL.run ft_cursitorref11_ok [47] rfl rfl ?_
              refine TL.no rfl (.gn rfl rfl rfl) rfl ?_
              refine TL.no rfl (.gn rfl rfl rfl) rfl ?_
              refine TL.no rfl (.gn rfl rfl rfl) rfl ?_
              refine TL.no rfl (.gn rfl rfl rfl) rfl ?_
              refine TL.no rfl (.gn rfl rfl rfl) rfl ?_
              refine TL.q rfl .u (Ex.py rfl rfl rfl) rfl ?_
              refine TL.run ft_cursitorref11_ok [54] rfl rfl ?_
              refine TL.no rfl (.gn rfl rfl rfl) rfl ?_
              refine TL.no rfl (.gn rfl rfl rfl) rfl ?_
              refine TL.no rfl (.gn rfl rfl rfl) rfl ?_
              refine TL.no rfl (.gn rfl rfl rfl) rfl ?_
              refine TL.no rfl (.gn rfl rfl rfl) rfl ?_
              refine TL.q rfl .u (Ex.py rfl rfl rfl) rfl ?_
              refine TL.run ft_cursitorref11_ok [61] rfl rfl ?_
              refine TL.no rfl (.gn rfl rfl rfl) rfl ?_
              refine TL.no rfl (.gn rfl rfl rfl) rfl ?_
              refine TL.no rfl (.gn rfl rfl rfl) rfl ?_
              refine TL.no rfl (.gn rfl rfl rfl) rfl ?_
              refine TL.no rfl (.gn rfl rfl rfl) rfl ?_
              refine TL.q rfl .u (Ex.py rfl rfl rfl) rfl ?_
              refine TL.run ft_cursitorref11_ok [68] rfl rfl ?_
              refine TL.no rfl (.gn rfl rfl rfl) rfl ?_
              refine TL.no rfl (.gn rfl rfl rfl) rfl ?_
              refine TL.no rfl (.gn rfl rfl rfl) rfl ?_
              refine TL.no rfl (.gn rfl rfl rfl) rfl ?_
              refine TL.no rfl (.gn rfl rfl rfl) rfl ?_
              refine TL.q rfl .u (Ex.py rfl rfl rfl) rfl ?_
              refine TL.run ft_cursitorref11_ok [75] rfl rfl ?_
              refine TL.no rfl (.gn rfl rfl rfl) rfl ?_
              refine TL.no rfl (.gn rfl rfl rfl) rfl ?_
              refine TL.no rfl (.gn rfl rfl rfl) rfl ?_
              refine TL.no rfl (.gn rfl rfl rfl) rfl ?_
              refine TL.no rfl (.gn rfl rfl rfl) rfl ?_
              refine TL.no rfl (.gn rfl rfl rfl) rfl ?_
              refine TL.no rfl (.gn rfl rfl rfl) rfl ?_
              refine TL.q rfl .u (Ex.py rfl rfl rfl) rfl ?_
              cases h
              exact TL.nil (X.jq [0, 0, 0] ⟨rfl, rfl⟩ (by rfl) (by rfl))
          · replace h := ifF c23 h
            replace c23 := eq_false_of_ne_true c23
            refine TL.run ft_cursitorref11_ok [26] rfl rfl ?_
            refine TL.no rfl (.gn rfl rfl (bn_t c23)) rfl ?_
            refine TL.no rfl (.gn rfl rfl (bn_t c23)) rfl ?_
            refine TL.no rfl (.gn rfl rfl (bn_t c23)) rfl ?_
            refine TL.no rfl (.gn rfl rfl (bn_t c23)) rfl ?_
            refine TL.no rfl (.gn rfl rfl (bn_t c23)) rfl ?_
            refine TL.q rfl .u (Ex.py rfl (bn_t c23) rfl) rfl ?_
            refine TL.run ft_cursitorref11_ok [33] rfl rfl ?_
            refine TL.no rfl (.gn rfl rfl rfl) rfl ?_
            refine TL.no rfl (.gn rfl rfl rfl) rfl ?_
            refine TL.no rfl (.gn rfl rfl rfl) rfl ?_
            refine TL.no rfl (.gn rfl rfl rfl) rfl ?_
            refine TL.no rfl (.gn rfl rfl rfl) rfl ?_
            refine TL.q rfl .u (Ex.py rfl rfl rfl) rfl ?_
            refine TL.run ft_cursitorref11_ok [40] rfl rfl ?_
            refine TL.no rfl (.gn rfl rfl rfl) rfl ?_
            refine TL.no rfl (.gn rfl rfl rfl) rfl ?_
            refine TL.no rfl (.gn rfl rfl rfl) rfl ?_
            refine TL.no rfl (.gn rfl rfl rfl) rfl ?_
            refine TL.no rfl (.gn rfl rfl rfl) rfl ?_
            refine TL.q rfl .u (Ex.py rfl rfl rfl) rfl ?_
            refine TL.run ft_cursitorref11_ok [47] rfl rfl ?_
            refine TL.no rfl (.gn rfl rfl rfl) rfl ?_
            refine TL.no rfl (.gn rfl rfl rfl) rfl ?_
            refine TL.no rfl (.gn rfl rfl rfl) rfl ?_
            refine TL.no rfl (.gn rfl rfl rfl) rfl ?_
            refine TL.no rfl (.gn rfl rfl rfl) rfl ?_
            refine TL.q rfl .u (Ex.py rfl rfl rfl) rfl ?_
            refine TL.run ft_cursitorref11_ok [54] rfl rfl ?_
            refine TL.no rfl (.gn rfl rfl rfl) rfl ?_
            refine TL.no rfl (.gn rfl rfl rfl) rfl ?_
            refine TL.no rfl (.gn rfl rfl rfl) rfl ?_
            refine TL.no rfl (.gn rfl rfl rfl) rfl ?_
            refine TL.no rfl (.gn rfl rfl rfl) rfl ?_
            refine TL.q rfl .u (Ex.py rfl rfl rfl) rfl ?_
            refine TL.run ft_cursitorref11_ok [61] rfl rfl ?_
            refine TL.no rfl (.gn rfl rfl rfl) rfl ?_
            refine TL.no rfl (.gn rfl rfl rfl) rfl ?_
            refine TL.no rfl (.gn rfl rfl rfl) rfl ?_
            refine TL.no rfl (.gn rfl rfl rfl) rfl ?_
            refine TL.no rfl (.gn rfl rfl rfl) rfl ?_
            refine TL.q rfl .u (Ex.py rfl rfl rfl) rfl ?_
            refine TL.run ft_cursitorref11_ok [68] rfl rfl ?_
            refine TL.no rfl (.gn rfl rfl rfl) rfl ?_
            refine TL.no rfl (.gn rfl rfl rfl) rfl ?_
            refine TL.no rfl (.gn rfl rfl rfl) rfl ?_
            refine TL.no rfl (.gn rfl rfl rfl) rfl ?_
            refine TL.no rfl (.gn rfl rfl rfl) rfl ?_
            refine TL.q rfl .u (Ex.py rfl rfl rfl) rfl ?_
            refine TL.run ft_cursitorref11_ok [75] rfl rfl ?_
            refine TL.no rfl (.gn rfl rfl rfl) rfl ?_
            refine TL.no rfl (.gn rfl rfl rfl) rfl ?_
            refine TL.no rfl (.gn rfl rfl rfl) rfl ?_
            refine TL.no rfl (.gn rfl rfl rfl) rfl ?_
            refine TL.no rfl (.gn rfl rfl rfl) rfl ?_
            refine TL.no rfl (.gn rfl rfl rfl) rfl ?_
            refine TL.no rfl (.gn rfl rfl rfl) rfl ?_
            refine TL.q rfl .u (Ex.py rfl rfl rfl) rfl ?_
            cases h
            exact TL.nil (X.jq [0, 0, 0] ⟨rfl, rfl⟩ (by rfl) (by rfl))
        · replace h := ifF c22 h
          replace c22 := eq_false_of_ne_true c22
          refine TL.run ft_cursitorref11_ok [19] rfl rfl ?_
          refine TL.no rfl (.gn rfl rfl (bn_t c22)) rfl ?_
          refine TL.no rfl (.gn rfl rfl (bn_t c22)) rfl ?_
          refine TL.no rfl (.gn rfl rfl (bn_t c22)) rfl ?_
          refine TL.no rfl (.gn rfl rfl (bn_t c22)) rfl ?_
          refine TL.no rfl (.gn rfl rfl (bn_t c22)) rfl ?_
          refine TL.q rfl .u (Ex.py rfl (bn_t c22) rfl) rfl ?_
          refine TL.run ft_cursitorref11_ok [26] rfl rfl ?_
          refine TL.no rfl (.gn rfl rfl rfl) rfl ?_
          refine TL.no rfl (.gn rfl rfl rfl) rfl ?_
          refine TL.no rfl (.gn rfl rfl rfl) rfl ?_
          refine TL.no rfl (.gn rfl rfl rfl) rfl ?_
          refine TL.no rfl (.gn rfl rfl rfl) rfl ?_
          refine TL.q rfl .u (Ex.py rfl rfl rfl) rfl ?_
          refine TL.run ft_cursitorref11_ok [33] rfl rfl ?_
          refine TL.no rfl (.gn rfl rfl rfl) rfl ?_
          refine TL.no rfl (.gn rfl rfl rfl) rfl ?_
          refine TL.no rfl (.gn rfl rfl rfl) rfl ?_
          refine TL.no rfl (.gn rfl rfl rfl) rfl ?_
          refine TL.no rfl (.gn rfl rfl rfl) rfl ?_
          refine TL.q rfl .u (Ex.py rfl rfl rfl) rfl ?_
          refine TL.run ft_cursitorref11_ok [40] rfl rfl ?_
          refine TL.no rfl (.gn rfl rfl rfl) rfl ?_
          refine TL.no rfl (.gn rfl rfl rfl) rfl ?_
          refine TL.no rfl (.gn rfl rfl rfl) rfl ?_
          refine TL.no rfl (.gn rfl rfl rfl) rfl ?_
          refine TL.no rfl (.gn rfl rfl rfl) rfl ?_
          refine TL.q rfl .u (Ex.py rfl rfl rfl) rfl ?_
          refine TL.run ft_cursitorref11_ok [47] rfl rfl ?_
          refine TL.no rfl (.gn rfl rfl rfl) rfl ?_
          refine TL.no rfl (.gn rfl rfl rfl) rfl ?_
          refine TL.no rfl (.gn rfl rfl rfl) rfl ?_
          refine TL.no rfl (.gn rfl rfl rfl) rfl ?_
          refine TL.no rfl (.gn rfl rfl rfl) rfl ?_
          refine TL.q rfl .u (Ex.py rfl rfl rfl) rfl ?_
          refine TL.run ft_cursitorref11_ok [54] rfl rfl ?_
          refine TL.no rfl (.gn rfl rfl rfl) rfl ?_
          refine TL.no rfl (.gn rfl rfl rfl) rfl ?_
          refine TL.no rfl (.gn rfl rfl rfl) rfl ?_
          refine TL.no rfl (.gn rfl rfl rfl) rfl ?_
          refine TL.no rfl (.gn rfl rfl rfl) rfl ?_
          refine TL.q rfl .u (Ex.py rfl rfl rfl) rfl ?_
          refine TL.run ft_cursitorref11_ok [61] rfl rfl ?_
          refine TL.no rfl (.gn rfl rfl rfl) rfl ?_
          refine TL.no rfl (.gn rfl rfl rfl) rfl ?_
          refine TL.no rfl (.gn rfl rfl rfl) rfl ?_
          refine TL.no rfl (.gn rfl rfl rfl) rfl ?_
          refine TL.no rfl (.gn rfl rfl rfl) rfl ?_
          refine TL.q rfl .u (Ex.py rfl rfl rfl) rfl ?_
          refine TL.run ft_cursitorref11_ok [68] rfl rfl ?_
          refine TL.no rfl (.gn rfl rfl rfl) rfl ?_
          refine TL.no rfl (.gn rfl rfl rfl) rfl ?_
          refine TL.no rfl (.gn rfl rfl rfl) rfl ?_
          refine TL.no rfl (.gn rfl rfl rfl) rfl ?_
          refine TL.no rfl (.gn rfl rfl rfl) rfl ?_
          refine TL.q rfl .u (Ex.py rfl rfl rfl) rfl ?_
          refine TL.run ft_cursitorref11_ok [75] rfl rfl ?_
          refine TL.no rfl (.gn rfl rfl rfl) rfl ?_
          refine TL.no rfl (.gn rfl rfl rfl) rfl ?_
          refine TL.no rfl (.gn rfl rfl rfl) rfl ?_
          refine TL.no rfl (.gn rfl rfl rfl) rfl ?_
          refine TL.no rfl (.gn rfl rfl rfl) rfl ?_
          refine TL.no rfl (.gn rfl rfl rfl) rfl ?_
          refine TL.no rfl (.gn rfl rfl rfl) rfl ?_
          refine TL.q rfl .u (Ex.py rfl rfl rfl) rfl ?_
          cases h
          exact TL.nil (X.jq [0, 0, 0] ⟨rfl, rfl⟩ (by rfl) (by rfl))
      · replace h := ifF c21 h
        refine TL.run ft_cursitorref11_ok [12] rfl rfl ?_
        refine TL.no rfl (.gn rfl rfl (bn_t (decide_eq_false c21))) rfl ?_
        refine TL.no rfl (.gn rfl rfl (bn_t (decide_eq_false c21))) rfl ?_
        refine TL.no rfl (.gn rfl rfl (bn_t (decide_eq_false c21))) rfl ?_
        refine TL.no rfl (.gn rfl rfl (bn_t (decide_eq_false c21))) rfl ?_
        refine TL.no rfl (.gn rfl rfl (bn_t (decide_eq_false c21))) rfl ?_
        refine TL.q rfl .u (Ex.py rfl (bn_t (decide_eq_false c21)) rfl) rfl ?_
        refine TL.run ft_cursitorref11_ok [19] rfl rfl ?_
        refine TL.no rfl (.gn rfl rfl rfl) rfl ?_
        refine TL.no rfl (.gn rfl rfl rfl) rfl ?_
        refine TL.no rfl (.gn rfl rfl rfl) rfl ?_
        refine TL.no rfl (.gn rfl rfl rfl) rfl ?_
        refine TL.no rfl (.gn rfl rfl rfl) rfl ?_
        refine TL.q rfl .u (Ex.py rfl rfl rfl) rfl ?_
        refine TL.run ft_cursitorref11_ok [26] rfl rfl ?_
        refine TL.no rfl (.gn rfl rfl rfl) rfl ?_
        refine TL.no rfl (.gn rfl rfl rfl) rfl ?_
        refine TL.no rfl (.gn rfl rfl rfl) rfl ?_
        refine TL.no rfl (.gn rfl rfl rfl) rfl ?_
        refine TL.no rfl (.gn rfl rfl rfl) rfl ?_
        refine TL.q rfl .u (Ex.py rfl rfl rfl) rfl ?_
        refine TL.run ft_cursitorref11_ok [33] rfl rfl ?_
        refine TL.no rfl (.gn rfl rfl rfl) rfl ?_
        refine TL.no rfl (.gn rfl rfl rfl) rfl ?_
        refine TL.no rfl (.gn rfl rfl rfl) rfl ?_
        refine TL.no rfl (.gn rfl rfl rfl) rfl ?_
        refine TL.no rfl (.gn rfl rfl rfl) rfl ?_
        refine TL.q rfl .u (Ex.py rfl rfl rfl) rfl ?_
        refine TL.run ft_cursitorref11_ok [40] rfl rfl ?_
        refine TL.no rfl (.gn rfl rfl rfl) rfl ?_
        refine TL.no rfl (.gn rfl rfl rfl) rfl ?_
        refine TL.no rfl (.gn rfl rfl rfl) rfl ?_
        refine TL.no rfl (.gn rfl rfl rfl) rfl ?_
        refine TL.no rfl (.gn rfl rfl rfl) rfl ?_
        refine TL.q rfl .u (Ex.py rfl rfl rfl) rfl ?_
        refine TL.run ft_cursitorref11_ok [47] rfl rfl ?_
        refine TL.no rfl (.gn rfl rfl rfl) rfl ?_
        refine TL.no rfl (.gn rfl rfl rfl) rfl ?_
        refine TL.no rfl (.gn rfl rfl rfl) rfl ?_
        refine TL.no rfl (.gn rfl rfl rfl) rfl ?_
        refine TL.no rfl (.gn rfl rfl rfl) rfl ?_
        refine TL.q rfl .u (Ex.py rfl rfl rfl) rfl ?_
        refine TL.run ft_cursitorref11_ok [54] rfl rfl ?_
        refine TL.no rfl (.gn rfl rfl rfl) rfl ?_
        refine TL.no rfl (.gn rfl rfl rfl) rfl ?_
        refine TL.no rfl (.gn rfl rfl rfl) rfl ?_
        refine TL.no rfl (.gn rfl rfl rfl) rfl ?_
        refine TL.no rfl (.gn rfl rfl rfl) rfl ?_
        refine TL.q rfl .u (Ex.py rfl rfl rfl) rfl ?_
        refine TL.run ft_cursitorref11_ok [61] rfl rfl ?_
        refine TL.no rfl (.gn rfl rfl rfl) rfl ?_
        refine TL.no rfl (.gn rfl rfl rfl) rfl ?_
        refine TL.no rfl (.gn rfl rfl rfl) rfl ?_
        refine TL.no rfl (.gn rfl rfl rfl) rfl ?_
        refine TL.no rfl (.gn rfl rfl rfl) rfl ?_
        refine TL.q rfl .u (Ex.py rfl rfl rfl) rfl ?_
        refine TL.run ft_cursitorref11_ok [68] rfl rfl ?_
        refine TL.no rfl (.gn rfl rfl rfl) rfl ?_
        refine TL.no rfl (.gn rfl rfl rfl) rfl ?_
        refine TL.no rfl (.gn rfl rfl rfl) rfl ?_
        refine TL.no rfl (.gn rfl rfl rfl) rfl ?_
        refine TL.no rfl (.gn rfl rfl rfl) rfl ?_
        refine TL.q rfl .u (Ex.py rfl rfl rfl) rfl ?_
        refine TL.run ft_cursitorref11_ok [75] rfl rfl ?_
        refine TL.no rfl (.gn rfl rfl rfl) rfl ?_
        refine TL.no rfl (.gn rfl rfl rfl) rfl ?_
        refine TL.no rfl (.gn rfl rfl rfl) rfl ?_
        refine TL.no rfl (.gn rfl rfl rfl) rfl ?_
        refine TL.no rfl (.gn rfl rfl rfl) rfl ?_
        refine TL.no rfl (.gn rfl rfl rfl) rfl ?_
        refine TL.no rfl (.gn rfl rfl rfl) rfl ?_
        refine TL.q rfl .u (Ex.py rfl rfl rfl) rfl ?_
        cases h
        exact TL.nil (X.jq [0, 0, 0] ⟨rfl, rfl⟩ (by rfl) (by rfl))
    · replace h := ifF c20 h
      refine TL.run ft_cursitorref11_ok [4, 5] rfl rfl ?_
      refine TL.no rfl (.gn rfl rfl (bn_t (decide_eq_false c20))) rfl ?_
      refine TL.no rfl (.gn rfl rfl (bn_t (decide_eq_false c20))) rfl ?_
      refine TL.no rfl (.gn rfl rfl (bn_t (decide_eq_false c20))) rfl ?_
      refine TL.no rfl (.gn rfl rfl (bn_t (decide_eq_false c20))) rfl ?_
      refine TL.no rfl (.gn rfl rfl (bn_t (decide_eq_false c20))) rfl ?_
      refine TL.q rfl .u (Ex.py rfl (bn_t (decide_eq_false c20)) rfl) rfl ?_
      refine TL.run ft_cursitorref11_ok [12] rfl rfl ?_
      refine TL.no rfl (.gn rfl rfl rfl) rfl ?_
      refine TL.no rfl (.gn rfl rfl rfl) rfl ?_
      refine TL.no rfl (.gn rfl rfl rfl) rfl ?_
      refine TL.no rfl (.gn rfl rfl rfl) rfl ?_
      refine TL.no rfl (.gn rfl rfl rfl) rfl ?_
      refine TL.q rfl .u (Ex.py rfl rfl rfl) rfl ?_
      refine TL.run ft_cursitorref11_ok [19] rfl rfl ?_
      refine TL.no rfl (.gn rfl rfl rfl) rfl ?_
      refine TL.no rfl (.gn rfl rfl rfl) rfl ?_
      refine TL.no rfl (.gn rfl rfl rfl) rfl ?_
      refine TL.no rfl (.gn rfl rfl rfl) rfl ?_
      refine TL.no rfl (.gn rfl rfl rfl) rfl ?_
      refine TL.q rfl .u (Ex.py rfl rfl rfl) rfl ?_
      refine TL.run ft_cursitorref11_ok [26] rfl rfl ?_
      refine TL.no rfl (.gn rfl rfl rfl) rfl ?_
      refine TL.no rfl (.gn rfl rfl rfl) rfl ?_
      refine TL.no rfl (.gn rfl rfl rfl) rfl ?_
      refine TL.no rfl (.gn rfl rfl rfl) rfl ?_
      refine TL.no rfl (.gn rfl rfl rfl) rfl ?_
      refine TL.q rfl .u (Ex.py rfl rfl rfl) rfl ?_
      refine TL.run ft_cursitorref11_ok [33] rfl rfl ?_
      refine TL.no rfl (.gn rfl rfl rfl) rfl ?_
      refine TL.no rfl (.gn rfl rfl rfl) rfl ?_
      refine TL.no rfl (.gn rfl rfl rfl) rfl ?_
      refine TL.no rfl (.gn rfl rfl rfl) rfl ?_
      refine TL.no rfl (.gn rfl rfl rfl) rfl ?_
      refine TL.q rfl .u (Ex.py rfl rfl rfl) rfl ?_
      refine TL.run ft_cursitorref11_ok [40] rfl rfl ?_
      refine TL.no rfl (.gn rfl rfl rfl) rfl ?_
      refine TL.no rfl (.gn rfl rfl rfl) rfl ?_
      refine TL.no rfl (.gn rfl rfl rfl) rfl ?_
      refine TL.no rfl (.gn rfl rfl rfl) rfl ?_
      refine TL.no rfl (.gn rfl rfl rfl) rfl ?_
      refine TL.q rfl .u (Ex.py rfl rfl rfl) rfl ?_
      refine TL.run ft_cursitorref11_ok [47] rfl rfl ?_
      refine TL.no rfl (.gn rfl rfl rfl) rfl ?_
      refine TL.no rfl (.gn rfl rfl rfl) rfl ?_
      refine TL.no rfl (.gn rfl rfl rfl) rfl ?_
      refine TL.no rfl (.gn rfl rfl rfl) rfl ?_
      refine TL.no rfl (.gn rfl rfl rfl) rfl ?_
      refine TL.q rfl .u (Ex.py rfl rfl rfl) rfl ?_
      refine TL.run ft_cursitorref11_ok [54] rfl rfl ?_
      refine TL.no rfl (.gn rfl rfl rfl) rfl ?_
      refine TL.no rfl (.gn rfl rfl rfl) rfl ?_
      refine TL.no rfl (.gn rfl rfl rfl) rfl ?_
      refine TL.no rfl (.gn rfl rfl rfl) rfl ?_
      refine TL.no rfl (.gn rfl rfl rfl) rfl ?_
      refine TL.q rfl .u (Ex.py rfl rfl rfl) rfl ?_
      refine TL.run ft_cursitorref11_ok [61] rfl rfl ?_
      refine TL.no rfl (.gn rfl rfl rfl) rfl ?_
      refine TL.no rfl (.gn rfl rfl rfl) rfl ?_
      refine TL.no rfl (.gn rfl rfl rfl) rfl ?_
      refine TL.no rfl (.gn rfl rfl rfl) rfl ?_
      refine TL.no rfl (.gn rfl rfl rfl) rfl ?_
      refine TL.q rfl .u (Ex.py rfl rfl rfl) rfl ?_
      refine TL.run ft_cursitorref11_ok [68] rfl rfl ?_
      refine TL.no rfl (.gn rfl rfl rfl) rfl ?_
      refine TL.no rfl (.gn rfl rfl rfl) rfl ?_
      refine TL.no rfl (.gn rfl rfl rfl) rfl ?_
      refine TL.no rfl (.gn rfl rfl rfl) rfl ?_
      refine TL.no rfl (.gn rfl rfl rfl) rfl ?_
      refine TL.q rfl .u (Ex.py rfl rfl rfl) rfl ?_
      refine TL.run ft_cursitorref11_ok [75] rfl rfl ?_
      refine TL.no rfl (.gn rfl rfl rfl) rfl ?_
      refine TL.no rfl (.gn rfl rfl rfl) rfl ?_
      refine TL.no rfl (.gn rfl rfl rfl) rfl ?_
      refine TL.no rfl (.gn rfl rfl rfl) rfl ?_
      refine TL.no rfl (.gn rfl rfl rfl) rfl ?_
      refine TL.no rfl (.gn rfl rfl rfl) rfl ?_
      refine TL.no rfl (.gn rfl rfl rfl) rfl ?_
      refine TL.q rfl .u (Ex.py rfl rfl rfl) rfl ?_
      cases h
      exact TL.nil (X.jq [0, 0, 0] ⟨rfl, rfl⟩ (by rfl) (by rfl))
  · rintro _ _ ⟨rfl, rfl⟩
    clear h
    have h := hk19
    clear hk19
    try dsimp only at h
    by_cases c32 : y18 = true
    · replace h := ifT c32 h
      refine X.seq ?_
      refine T.yes rfl c32 ?_
      refine T.seq (T.region rfl ?_)
      refine TL.run ft_cursitorref11_ok [0] rfl rfl ?_
      obtain rfl := Option.some.inj h
      exact TL.nil (X.seq (T.ret (X.rs (X.done1 [2] Try.results17 (RV.tm rfl) ⟨rfl, rfl, rfl⟩ (by rfl) (.inl rfl)))))
    · replace h := ifF c32 h
      replace c32 := eq_false_of_ne_true c32
      refine X.seq ?_
      refine T.no rfl c32 ?_
      refine T.skip (X.seq (T.seq (T.seq (T.region rfl ?_))))
      refine TL.run ft_cursitorref11_ok [0] rfl rfl ?_
      refine TL.nil (X.seq (T.block ?_))
      obtain ⟨E35, hE36, hO37⟩ := Option.bind_eq_some_iff.1 h
      refine T.lp (fun m e Rs => ∃ (y33 : Bool) (k34 : Nat), e = [(2, .pointer (some ⟨b5, 0, none⟩)), (3, .pointer (some ⟨b6, 0, none⟩)), (4, .bool y33), (5, .int .i64 (k34 : Int))] ∧ Rs = [BlkR b6 25 #[.int .i64 a1.fBase, .int .i64 a1.fLeader, .bool a1.fAppend, .bool a1.fTxn, .bool a1.fControl, .int .i64 a1.fLast, .int .i64 a1.fFirst, .int .i64 a1.fMax, .int .i64 a1.fProducer, .int .i64 a1.fEpoch, .int .i64 a1.fSequence, .slice A3 a1.fRecords.length c4], BlkR b5 25 #[.int .i64 a0.fBase, .int .i64 a0.fLeader, .bool a0.fAppend, .bool a0.fTxn, .bool a0.fControl, .int .i64 a0.fLast, .int .i64 a0.fFirst, .int .i64 a0.fMax, .int .i64 a0.fProducer, .int .i64 a0.fEpoch, .int .i64 a0.fSequence, .slice A1 a0.fRecords.length c2], EmpR] ∧ f_r11_Same_l1 a0 a1 m y33 k34 = some E35) (((a0.fRecords.length : Int)).toNat + 1) [0, 0, 0] ⟨false, 0, rfl, rfl, by exact hE36⟩ (by rfl) (by rfl) ?_
      rintro m38 _ _ ⟨y33, k34, rfl, rfl, hl40⟩
      clear hE36 h
      cases m38 with
      | zero =>
        rw [f_r11_Same_l1] at hl40
        cases hl40
      | succ m38 =>
        have h := hl40
        clear hl40
        rw [f_r11_Same_l1] at h
        refine T.seq (T.seq (T.region rfl ?_))
        refine TL.run ft_cursitorref11_ok [0, 1] rfl rfl ?_
        refine TL.q rfl .u (Ex.b1 1 rfl Try.isAgg23 rfl rfl) rfl ?_
        refine TL.q rfl .u (Ex.lenS rfl Try.runUnderlying23) rfl ?_
        refine TL.run ft_cursitorref11_ok [4] rfl rfl ?_
        by_cases c42 : (k34 : Int) < (a0.fRecords.length : Int)
        · replace h := ifT c42 h
          refine TL.nil (X.seq ?_)
          refine T.yes rfl (decide_eq_true c42) ?_
          refine T.skip (X.seq (T.seq (T.block (T.seq (T.draw (.q 0 (.q 1 (.q 2 (.q 3 (.q 4 (.q 5 (.q 6 (.q 7 (.q 8 (.q 9 (.e 10 (.q 11 .nil)))))))))))) [0, 0, 0] rfl mix_cursitorref11 (NoP.seq (NoP.blk (NoP.seq (NoP.seq (NoP.blk (NoP.seq np_post)))))) (by kernel_rfl) ?_)))))
          refine TD.run ft_cursitorref11_ok [0] rfl rfl ?_
          refine TD.q rfl .u (Ex.b1 1 rfl Try.isAgg23 rfl rfl) rfl ?_
          obtain ⟨x43, hx44, h⟩ := Option.bind_eq_some_iff.1 h
          obtain ⟨gz45, oz45, rfl, z45cs, z45cl, z45cc, z45nf, z45r⟩ := RX.elem (by decide) (RX.reads_left hX) hx44
          obtain ⟨z45S, z45r, z45rr⟩ := z45r
          obtain ⟨A46, c47, rfl, z45s0⟩ := z45r
          have hX48 : (RX.of (sliceRd 3 Hd_rd) [.slice A46 x43.fHeaders.length c47] x43.fHeaders).reads w F := ⟨z45S, z45s0, z45rr⟩
          refine TD.run ft_cursitorref11_ok [2] rfl rfl ?_
          refine TD.q rfl .u (Ex.ixS (k := k34) rfl rfl rfl Try.runUnderlying23 Try.sizeOf33 (List.getElem?_eq_some_iff.1 hx44).1) rfl ?_
          refine TD.q rfl .u (Ex.oS (us := [.int .i64 x43.fTime, .int .i64 x43.fOffset, .bool x43.fKey.null, .string (bsOf x43.fKey.data), .bool x43.fValue.null, .string (bsOf x43.fValue.data), .slice A46 x43.fHeaders.length c47]) 0 rfl Try.isAgg33 Try.sizeOf33 z45nf z45cc rfl rfl rfl) rfl ?_
          refine TD.run ft_cursitorref11_ok [5] rfl rfl ?_
          refine TD.q rfl .u (Ex.b1 0 rfl Try.isAgg23 rfl rfl) rfl ?_
          obtain ⟨x49, hx50, h⟩ := Option.bind_eq_some_iff.1 h
          obtain ⟨gz51, oz51, rfl, z51cs, z51cl, z51cc, z51nf, z51r⟩ := RX.elem (by decide) (RX.reads_right hX) hx50
          obtain ⟨z51S, z51r, z51rr⟩ := z51r
          obtain ⟨A52, c53, rfl, z51s0⟩ := z51r
          have hX54 : (RX.of (sliceRd 3 Hd_rd) [.slice A52 x49.fHeaders.length c53] x49.fHeaders).reads w F := ⟨z51S, z51s0, z51rr⟩
          refine TD.run ft_cursitorref11_ok [7] rfl rfl ?_
          refine TD.q rfl .u (Ex.ixS (k := k34) rfl rfl rfl Try.runUnderlying23 Try.sizeOf33 (List.getElem?_eq_some_iff.1 hx50).1) rfl ?_
          refine TD.q rfl .u (Ex.oS (us := [.int .i64 x49.fTime, .int .i64 x49.fOffset, .bool x49.fKey.null, .string (bsOf x49.fKey.data), .bool x49.fValue.null, .string (bsOf x49.fValue.data), .slice A52 x49.fHeaders.length c53]) 0 rfl Try.isAgg33 Try.sizeOf33 z51nf z51cc rfl rfl rfl) rfl ?_
          obtain ⟨x55, hx56, h⟩ := Option.bind_eq_some_iff.1 h
          refine TD.ce rfl .u (.fn Try.call54 rfl) (f_r07_Same_spec x43 _ _ x49 _ _ _ hx56) (fun _ hs => (RX.reads_and (SrcE.old hs hX48) (SrcE.old hs hX54))) rfl [0, 0, 0] (rfl) ?_
          refine TD.run ft_cursitorref11_ok [11] rfl rfl ?_
          by_cases c57 : x55 = true
          · replace h := ifT c57 h
            refine TD.nil (X.seq ?_)
            refine T.no rfl (bn_f c57) ?_
            refine T.skip (X.blk (X.seq (T.region rfl ?_)))
            replace h := guard_some h
            obtain ⟨c58, h⟩ := h
            refine TL.run ft_cursitorref11_ok [0] rfl rfl ?_
            refine TL.q rfl .u (Ex.add rfl rfl c58) rfl ?_
            refine TL.run ft_cursitorref11_ok [2] rfl rfl ?_
            exact TL.nil (X.back (m' := m38) [0, 0, 0] (by omega) ⟨y33, k34 + 1, rfl, rfl, h⟩ (by rfl) (by rfl))
          · replace h := ifF c57 h
            replace c57 := eq_false_of_ne_true c57
            refine TD.nil (X.seq ?_)
            refine T.yes rfl (bn_t c57) ?_
            refine T.seq (T.region rfl ?_)
            refine TL.run ft_cursitorref11_ok [0] rfl rfl ?_
            obtain rfl := Option.some.inj h
            replace h := hO37
            clear hO37
            try dsimp only at h
            obtain rfl := Option.some.inj h
            exact TL.nil (X.seq (T.ret (X.rb (X.rs (X.rs (X.rb (X.rs (X.done1 [2] Try.results17 (RV.tm rfl) ⟨rfl, rfl, rfl⟩ (by rfl) (.inl rfl)))))))))
        · replace h := ifF c42 h
          refine TL.nil (X.seq ?_)
          refine T.no rfl (decide_eq_false c42) ?_
          obtain rfl := Option.some.inj h
          replace h := hO37
          clear hO37
          try dsimp only at h
          refine T.exit (X.exs (X.exs (X.ex (X.seq (T.seq (T.region rfl ?_))))))
          refine TL.run ft_cursitorref11_ok [0] rfl rfl ?_
          obtain rfl := Option.some.inj h
          exact TL.nil (X.seq (T.ret (X.done1 [2] Try.results17 (RV.tm rfl) ⟨rfl, rfl, rfl⟩ (by rfl) (.inl rfl))))
def f_r11_Rows_l1 (a0 : List Bat) (a1 : List Bat) : Nat → Bool → Nat → Option (Lp Bool (Bool × Nat))
  | 0, _, _ => none
  | m11 + 1, y6, k7 => if (k7 : Int) < (a0.length : Int) then ((a0[k7]?).bind fun x16 => (a1[k7]?).bind fun x22 => (f_r11_Same x16 x22).bind fun x28 => if x28 = true then (if -9223372036854775808 ≤ ((k7 : Int) + 1) ∧ ((k7 : Int) + 1) ≤ 9223372036854775807 then (f_r11_Rows_l1 a0 a1 m11 y6 (k7 + 1)) else none) else some (Lp.ret false)) else (some (Lp.go (y6, k7)))
def f_r11_Rows (a0 : List Bat) (a1 : List Bat) : Option (Bool) := if (a0.length : Int) = (a1.length : Int) then ((f_r11_Rows_l1 a0 a1 (((a0.length : Int)).toNat + 1) false 0).bind fun e => match e with | .ret r => some r | .go (y32, k33) => some true) else some false
set_option maxRecDepth 100000 in
set_option maxHeartbeats 4000000 in
theorem f_r11_Rows_spec (a0 : List Bat) (A1 : Option Addr) (c2 : Nat) (a1 : List Bat) (A3 : Option Addr) (c4 : Nat) (r : Bool) (h : f_r11_Rows a0 a1 = some r) : SpecX Try.prog 69 #[.slice A1 a0.length c2, .slice A3 a1.length c4] (RX.and (RX.of (sliceRd 12 Bat_rd) [.slice A1 a0.length c2] a0) (RX.of (sliceRd 12 Bat_rd) [.slice A3 a1.length c4] a1)) (EmpR) (fun v A' N => v = .bool r ∧ A' = EmpR ∧ N = []) := by
  refine enterA Try.func69 rfl Try.ntmps69 rfl ?_
  intro F w hX
  unfold f_r11_Rows at h
  refine T.seq (T.region rfl ?_)
  refine TL.run ft_cursitorref11_ok [0] rfl rfl ?_
  refine TL.nil (X.seq (T.seq (T.seq (T.region rfl ?_))))
  refine TL.run ft_cursitorref11_ok [0] rfl rfl ?_
  refine TL.q rfl .u (Ex.lenS rfl Try.runUnderlying46) rfl ?_
  refine TL.run ft_cursitorref11_ok [2] rfl rfl ?_
  refine TL.q rfl .u (Ex.lenS rfl Try.runUnderlying46) rfl ?_
  refine TL.run ft_cursitorref11_ok [4] rfl rfl ?_
  by_cases c5 : (a0.length : Int) = (a1.length : Int)
  · replace h := ifT c5 h
    refine TL.nil (X.seq ?_)
    refine T.no rfl (bn_f (decide_eq_true c5)) ?_
    refine T.skip (X.seq (T.seq (T.seq (T.region rfl ?_))))
    refine TL.run ft_cursitorref11_ok [0] rfl rfl ?_
    refine TL.nil (X.seq (T.block ?_))
    obtain ⟨E8, hE9, hO10⟩ := Option.bind_eq_some_iff.1 h
    refine T.lp (fun m e Rs => ∃ (y6 : Bool) (k7 : Nat), e = [(0, .slice A1 a0.length c2), (1, .slice A3 a1.length c4), (4, .bool y6), (5, .int .i64 (k7 : Int))] ∧ Rs = [EmpR] ∧ f_r11_Rows_l1 a0 a1 m y6 k7 = some E8) (((a0.length : Int)).toNat + 1) [0] ⟨false, 0, rfl, rfl, by exact hE9⟩ (by rfl) (by rfl) ?_
    rintro m11 _ _ ⟨y6, k7, rfl, rfl, hl13⟩
    clear hE9 h
    cases m11 with
    | zero =>
      rw [f_r11_Rows_l1] at hl13
      cases hl13
    | succ m11 =>
      have h := hl13
      clear hl13
      rw [f_r11_Rows_l1] at h
      refine T.seq (T.seq (T.region rfl ?_))
      refine TL.run ft_cursitorref11_ok [0, 1] rfl rfl ?_
      refine TL.q rfl .u (Ex.lenS rfl Try.runUnderlying46) rfl ?_
      refine TL.run ft_cursitorref11_ok [3] rfl rfl ?_
      by_cases c15 : (k7 : Int) < (a0.length : Int)
      · replace h := ifT c15 h
        refine TL.nil (X.seq ?_)
        refine T.yes rfl (decide_eq_true c15) ?_
        refine T.skip (X.seq (T.seq (T.block (T.seq (T.draw (.q 0 (.q 1 (.q 2 (.q 3 (.q 4 (.q 5 (.q 6 (.q 7 (.e 8 (.q 9 .nil)))))))))) [0] rfl mix_cursitorref11 (NoP.seq (NoP.blk (NoP.seq (NoP.seq (NoP.blk (NoP.seq np_post)))))) (by kernel_rfl) ?_)))))
        obtain ⟨x16, hx17, h⟩ := Option.bind_eq_some_iff.1 h
        obtain ⟨gz18, oz18, rfl, z18cs, z18cl, z18cc, z18nf, z18r⟩ := RX.elem (by decide) (RX.reads_left hX) hx17
        obtain ⟨z18S, z18r, z18rr⟩ := z18r
        obtain ⟨A19, c20, rfl, z18s0⟩ := z18r
        have hX21 : (RX.of (sliceRd 7 Rec_rd) [.slice A19 x16.fRecords.length c20] x16.fRecords).reads w F := ⟨z18S, z18s0, z18rr⟩
        refine TD.run ft_cursitorref11_ok [0, 1] rfl rfl ?_
        refine TD.q rfl .u (Ex.ixS (k := k7) rfl rfl rfl Try.runUnderlying46 Try.sizeOf25 (List.getElem?_eq_some_iff.1 hx17).1) rfl ?_
        refine TD.q rfl .u (Ex.oS (us := [.int .i64 x16.fBase, .int .i64 x16.fLeader, .bool x16.fAppend, .bool x16.fTxn, .bool x16.fControl, .int .i64 x16.fLast, .int .i64 x16.fFirst, .int .i64 x16.fMax, .int .i64 x16.fProducer, .int .i64 x16.fEpoch, .int .i64 x16.fSequence, .slice A19 x16.fRecords.length c20]) 0 rfl Try.isAgg25 Try.sizeOf25 z18nf z18cc rfl rfl rfl) rfl ?_
        obtain ⟨x22, hx23, h⟩ := Option.bind_eq_some_iff.1 h
        obtain ⟨gz24, oz24, rfl, z24cs, z24cl, z24cc, z24nf, z24r⟩ := RX.elem (by decide) (RX.reads_right hX) hx23
        obtain ⟨z24S, z24r, z24rr⟩ := z24r
        obtain ⟨A25, c26, rfl, z24s0⟩ := z24r
        have hX27 : (RX.of (sliceRd 7 Rec_rd) [.slice A25 x22.fRecords.length c26] x22.fRecords).reads w F := ⟨z24S, z24s0, z24rr⟩
        refine TD.run ft_cursitorref11_ok [4, 5] rfl rfl ?_
        refine TD.q rfl .u (Ex.ixS (k := k7) rfl rfl rfl Try.runUnderlying46 Try.sizeOf25 (List.getElem?_eq_some_iff.1 hx23).1) rfl ?_
        refine TD.q rfl .u (Ex.oS (us := [.int .i64 x22.fBase, .int .i64 x22.fLeader, .bool x22.fAppend, .bool x22.fTxn, .bool x22.fControl, .int .i64 x22.fLast, .int .i64 x22.fFirst, .int .i64 x22.fMax, .int .i64 x22.fProducer, .int .i64 x22.fEpoch, .int .i64 x22.fSequence, .slice A25 x22.fRecords.length c26]) 0 rfl Try.isAgg25 Try.sizeOf25 z24nf z24cc rfl rfl rfl) rfl ?_
        obtain ⟨x28, hx29, h⟩ := Option.bind_eq_some_iff.1 h
        refine TD.ce rfl .u (.fn Try.call17 rfl) (f_r11_Same_spec x16 _ _ x22 _ _ _ hx29) (fun _ hs => (RX.reads_and (SrcE.old hs hX21) (SrcE.old hs hX27))) rfl [0] (rfl) ?_
        refine TD.run ft_cursitorref11_ok [9] rfl rfl ?_
        by_cases c30 : x28 = true
        · replace h := ifT c30 h
          refine TD.nil (X.seq ?_)
          refine T.no rfl (bn_f c30) ?_
          refine T.skip (X.blk (X.seq (T.region rfl ?_)))
          replace h := guard_some h
          obtain ⟨c31, h⟩ := h
          refine TL.run ft_cursitorref11_ok [0] rfl rfl ?_
          refine TL.q rfl .u (Ex.add rfl rfl c31) rfl ?_
          refine TL.run ft_cursitorref11_ok [2] rfl rfl ?_
          exact TL.nil (X.back (m' := m11) [0] (by omega) ⟨y6, k7 + 1, rfl, rfl, h⟩ (by rfl) (by rfl))
        · replace h := ifF c30 h
          replace c30 := eq_false_of_ne_true c30
          refine TD.nil (X.seq ?_)
          refine T.yes rfl (bn_t c30) ?_
          refine T.seq (T.region rfl ?_)
          refine TL.run ft_cursitorref11_ok [0] rfl rfl ?_
          obtain rfl := Option.some.inj h
          replace h := hO10
          clear hO10
          try dsimp only at h
          obtain rfl := Option.some.inj h
          exact TL.nil (X.seq (T.ret (X.rb (X.rs (X.rs (X.rb (X.rs (X.done1 [0] Try.results69 (RV.tm rfl) ⟨rfl, rfl, rfl⟩ (by rfl) (.inl rfl)))))))))
      · replace h := ifF c15 h
        refine TL.nil (X.seq ?_)
        refine T.no rfl (decide_eq_false c15) ?_
        obtain rfl := Option.some.inj h
        replace h := hO10
        clear hO10
        try dsimp only at h
        refine T.exit (X.exs (X.exs (X.ex (X.seq (T.seq (T.region rfl ?_))))))
        refine TL.run ft_cursitorref11_ok [0] rfl rfl ?_
        obtain rfl := Option.some.inj h
        exact TL.nil (X.seq (T.ret (X.done1 [0] Try.results69 (RV.tm rfl) ⟨rfl, rfl, rfl⟩ (by rfl) (.inl rfl))))
  · replace h := ifF c5 h
    refine TL.nil (X.seq ?_)
    refine T.yes rfl (bn_t (decide_eq_false c5)) ?_
    refine T.seq (T.region rfl ?_)
    refine TL.run ft_cursitorref11_ok [0] rfl rfl ?_
    obtain rfl := Option.some.inj h
    exact TL.nil (X.seq (T.ret (X.rs (X.done1 [0] Try.results69 (RV.tm rfl) ⟨rfl, rfl, rfl⟩ (by rfl) (.inl rfl)))))
end Go.Proofs.Ytcoppaggpbfcmaa.Sl
namespace Go.Proofs.Ytcoppaggpbfcmaa.Sl
open Go.RowKit
set_option linter.unusedVariables false
set_option linter.unusedSimpArgs false
def badT (F t : Int) : Prop := t > 9223372036854775807 - F ∨ t < -F
instance (F t : Int) : Decidable (badT F t) := by unfold badT; infer_instance
def numOk (a : Bat) : Prop := 0 ≤ a.fBase ∧ (-1 ≤ a.fLeader ∧ a.fLeader ≤ 2147483647) ∧ (0 ≤ a.fLast ∧ a.fLast ≤ 2147483647) ∧ a.fBase + a.fLast ≤ 9223372036854775807 ∧ 0 ≤ a.fFirst ∧ 0 ≤ a.fMax
instance (a : Bat) : Decidable (numOk a) := by unfold numOk; infer_instance
def prodOk (a : Bat) : Prop := if a.fProducer = -1 then a.fEpoch = -1 ∧ a.fSequence = -1 ∧ a.fTxn = false else 0 ≤ a.fProducer ∧ (0 ≤ a.fEpoch ∧ a.fEpoch ≤ 32767) ∧ (if a.fControl = true then a.fSequence = -1 else 0 ≤ a.fSequence ∧ a.fSequence ≤ 2147483647)
instance (a : Bat) : Decidable (prodOk a) := by unfold prodOk; infer_instance
end Go.Proofs.Ytcoppaggpbfcmaa.Sl
namespace Go.Proofs.Ytcoppaggpbfcmaa.Sl
open Go.RowKit
set_option linter.unusedVariables false
set_option linter.unusedSimpArgs false
abbrev Pr (α : Type) := List UInt8 → Nat → Except Int (α × Nat)
namespace Pr
variable {α β : Type}
def ret (a : α) : Pr α := fun _ q => .ok (a, q)
def err (e : Int) : Pr α := fun _ _ => .error e
def bind (p : Pr α) (f : α → Pr β) : Pr β := fun s q => match p s q with | .error e => .error e | .ok (a, r) => f a s r
theorem bind_ok {p : Pr α} {f : α → Pr β} {s : List UInt8} {q : Nat} {x : β × Nat} (h : p.bind f s q = .ok x) : ∃ a r, p s q = .ok (a, r) ∧ f a s r = .ok x := by
  unfold bind at h
  cases hp : p s q with
  | error e => rw [hp] at h; exact nomatch h
  | ok y => rw [hp] at h; exact ⟨_, _, rfl, h⟩
theorem bind_of {p : Pr α} {f : α → Pr β} {s : List UInt8} {q r : Nat} {a : α} (h : p s q = .ok (a, r)) : p.bind f s q = f a s r := by unfold bind; rw [h]
theorem bind_err {p : Pr α} {f : α → Pr β} {s : List UInt8} {q : Nat} {e : Int} (h : p s q = .error e) : p.bind f s q = .error e := by unfold bind; rw [h]
end Pr
structure Sp {α : Type} (p : Pr α) (enc : α → List UInt8) (ok : α → Prop) : Prop where
  spell : ∀ (s : List UInt8) (q : Nat) (a : α) (r : Nat), q ≤ s.length → p s q = .ok (a, r) → q ≤ r ∧ r ≤ s.length ∧ r = q + (enc a).length ∧ s.take r = s.take q ++ enc a ∧ ok a
  back : ∀ (s t : List UInt8) (q : Nat) (a : α), q ≤ s.length → ok a → s.drop q = enc a ++ t → p s q = .ok (a, q + (enc a).length)
theorem drop_step {s x t : List UInt8} {q : Nat} (h : s.drop q = x ++ t) : s.drop (q + x.length) = t := by rw [← List.drop_drop, h, List.drop_left]
end Go.Proofs.Ytcoppaggpbfcmaa.Sl
namespace Go.Proofs.Ytcoppaggpbfcmaa.Sl
open Go.RowKit
set_option linter.unusedVariables false
set_option linter.unusedSimpArgs false
def shift {α : Type} (q : Nat) : Except Int (α × Nat) → Except Int (α × Nat)
  | .error e => .error e
  | .ok (a, r) => .ok (a, q + r)
def Sh {α : Type} (p : Pr α) : Prop := ∀ (s : List UInt8) (q k : Nat), q + k ≤ s.length → p s (q + k) = shift q (p (s.drop q) k)
theorem Sh.ret {α : Type} (a : α) : Sh (Pr.ret a) := fun s q k h => rfl
theorem Sh.err {α : Type} (e : Int) : Sh (Pr.err e : Pr α) := fun s q k h => rfl
theorem Sh.bind {α β : Type} {p : Pr α} {f : α → Pr β} {enc : α → List UInt8} {ok : α → Prop} (hp : Sh p) (hs : Sp p enc ok) (hf : ∀ a, Sh (f a)) : Sh (p.bind f) := by
  intro s q k h
  unfold Pr.bind
  rw [hp s q k h]
  cases hx : p (s.drop q) k with
  | error e => rfl
  | ok x =>
    have := (hs.spell (s.drop q) k x.1 x.2 (by rw [List.length_drop]; omega) hx).2.1
    rw [List.length_drop] at this
    exact hf x.1 s q x.2 (by omega)
theorem Sh.zero {α : Type} {p : Pr α} (h : Sh p) {s : List UInt8} {q : Nat} (hq : q ≤ s.length) : p s q = shift q (p (s.drop q) 0) := h s q 0 hq
def encs {α : Type} (enc : α → List UInt8) : List α → List UInt8
  | [] => []
  | a :: l => enc a ++ encs enc l
structure CB {α : Type} (op : I → Option (α × I)) (p : Pr α) (z : α) : Prop where
  dead : ∀ st : I, st.err ≠ 0 → op st = some (z, st)
  run : ∀ (s : List UInt8) (q : Nat), s.length ≤ 1000000 → q ≤ s.length → (∃ (e : Int) (st : I), p s q = .error e ∧ op ⟨s.drop q, q, 0⟩ = some (z, st) ∧ st.err = e ∧ st.err ≠ 0) ∨ (∃ (a : α) (r : Nat), p s q = .ok (a, r) ∧ op ⟨s.drop q, q, 0⟩ = some (a, ⟨s.drop r, r, 0⟩) ∧ q ≤ r ∧ r ≤ s.length)
def NZ {α : Type} (p : Pr α) : Prop := ∀ (s : List UInt8) (q : Nat) (e : Int), s.length ≤ 1000000 → q ≤ s.length → p s q = .error e → e ≠ 0
theorem NZ.ret {α : Type} (a : α) : NZ (Pr.ret a) := fun s q e _ _ h => nomatch h
theorem NZ.err {α : Type} {e : Int} (he : e ≠ 0) : NZ (Pr.err e : Pr α) := fun s q e' _ _ h => by injection h with h; rw [← h]; exact he
theorem NZ.bind {α β : Type} {p : Pr α} {f : α → Pr β} {enc : α → List UInt8} {ok : α → Prop} (hp : NZ p) (hs : Sp p enc ok) (hf : ∀ a, NZ (f a)) : NZ (p.bind f) := by
  intro s q e hl hq h
  cases hx : p s q with
  | error e' =>
    rw [Pr.bind_err hx] at h
    injection h with h
    rw [← h]
    exact hp s q e' hl hq hx
  | ok x =>
    rw [Pr.bind_of (a := x.1) (r := x.2) hx] at h
    exact hf x.1 s x.2 e hl (hs.spell s q x.1 x.2 hq hx).2.1 h
end Go.Proofs.Ytcoppaggpbfcmaa.Sl
namespace Go.Proofs.Ytcoppaggpbfcmaa.Sl
open Go.RowKit
set_option linter.unusedVariables false
set_option linter.unusedSimpArgs false
theorem Sp.congr {α : Type} {p : Pr α} {enc enc' : α → List UInt8} {ok ok' : α → Prop} (h : Sp p enc ok) (hok : ∀ a, ok a ↔ ok' a) (he : ∀ a, ok a → enc a = enc' a) : Sp p enc' ok' := by
  refine ⟨fun s q a r hq hp => ?_, fun s t q a hq ha hd => ?_⟩
  · obtain ⟨h1, h2, h3, h4, h5⟩ := h.spell s q a r hq hp
    rw [← he a h5]
    exact ⟨h1, h2, h3, h4, (hok a).1 h5⟩
  · have ha' := (hok a).2 ha
    rw [← he a ha'] at hd ⊢
    exact h.back s t q a hq ha' hd
theorem Sp.seq {α β : Type} {p : Pr α} {f : α → Pr β} {π : β → α} {enc1 : α → List UInt8} {enc2 : β → List UInt8} {ok1 : α → Prop} {ok2 : β → Prop} (hp : Sp p enc1 ok1) (hf : ∀ a, Sp (f a) enc2 (fun x => ok2 x ∧ π x = a)) :
    Sp (p.bind f) (fun x => enc1 (π x) ++ enc2 x) (fun x => ok1 (π x) ∧ ok2 x) := by
  refine ⟨fun s q x r hq h => ?_, fun s t q x hq hx hd => ?_⟩
  · obtain ⟨a, m, h1, h2⟩ := Pr.bind_ok h
    obtain ⟨a1, a2, a3, a4, a5⟩ := hp.spell s q a m hq h1
    obtain ⟨b1, b2, b3, b4, b5, b6⟩ := (hf a).spell s m x r a2 h2
    subst b6
    exact ⟨by omega, b2, by rw [List.length_append]; omega, by rw [b4, a4, List.append_assoc], a5, b5⟩
  · rw [List.append_assoc] at hd
    have h1 := hp.back s _ q (π x) hq hx.1 hd
    have hl := congrArg List.length hd
    rw [List.length_drop, List.length_append] at hl
    have h2 := (hf (π x)).back s t _ x (by omega) ⟨hx.2, rfl⟩ (drop_step hd)
    rw [Pr.bind_of h1, h2, List.length_append, Nat.add_assoc]
theorem CB.bind {α β : Type} {op1 : I → Option (α × I)} {p : Pr α} {z1 : α} {op2 : α → I → Option (β × I)} {f : α → Pr β} {z : β} (W : α → Prop) (h : CB op1 p z1)
    (hs : ∀ s q a r, s.length ≤ 1000000 → q ≤ s.length → p s q = .ok (a, r) → W a) (hz : W z1) (hf : ∀ a, W a → CB (op2 a) (f a) z) : CB (fun st => (op1 st).bind fun (a, st1) => op2 a st1) (p.bind f) z := by
  refine ⟨fun st hd => ?_, fun s q hl hq => ?_⟩
  · show (op1 st).bind _ = _
    rw [h.dead st hd, Option.bind_some]
    exact (hf z1 hz).dead st hd
  · rcases h.run s q hl hq with ⟨e, st, p1, g1, x1, y1⟩ | ⟨a, r, p1, g1, n1, l1⟩
    · refine .inl ⟨e, st, Pr.bind_err p1, ?_, x1, y1⟩
      show (op1 _).bind _ = _
      rw [g1, Option.bind_some]
      exact (hf z1 hz).dead st y1
    · have g2 : ((op1 ⟨s.drop q, q, 0⟩).bind fun (a, st1) => op2 a st1) = op2 a ⟨s.drop r, r, 0⟩ := by rw [g1, Option.bind_some]
      show (∃ e st, p.bind f s q = _ ∧ ((op1 ⟨s.drop q, q, 0⟩).bind fun (a, st1) => op2 a st1) = _ ∧ _ ∧ _) ∨ (∃ x m, p.bind f s q = _ ∧ ((op1 ⟨s.drop q, q, 0⟩).bind fun (a, st1) => op2 a st1) = _ ∧ _ ∧ _)
      rw [g2, Pr.bind_of p1]
      rcases (hf a (hs s q a r hl hq p1)).run s r hl l1 with ⟨e, st, p2, k2, x2, y2⟩ | ⟨b, m, p2, k2, n2, l2⟩
      · exact .inl ⟨e, st, p2, k2, x2, y2⟩
      · exact .inr ⟨b, m, p2, k2, by omega, l2⟩
theorem CB.congr {α : Type} {op op' : I → Option (α × I)} {p : Pr α} {z : α} (h : CB op p z) (he : ∀ st, op' st = op st) : CB op' p z := ⟨fun st hd => (he st).trans (h.dead st hd), fun s q hl hq => by rw [he]; exact h.run s q hl hq⟩
theorem CB.at {α : Type} {op : I → Option (α × I)} {p : Pr α} {z : α} {enc : α → List UInt8} {ok : α → Prop} (h : CB op p z) (hs : Sp p enc ok) {a : α} {s t : List UInt8} {q : Nat} (hl : s.length ≤ 1000000) (hq : q ≤ s.length) (ha : ok a) (hd : s.drop q = enc a ++ t) :
    op ⟨s.drop q, q, 0⟩ = some (a, ⟨s.drop (q + (enc a).length), q + (enc a).length, 0⟩) ∧ q + (enc a).length ≤ s.length ∧ s.drop (q + (enc a).length) = t := by
  have h1 := hs.back s t q a hq ha hd
  have h2 := congrArg List.length hd
  rw [List.length_drop, List.length_append] at h2
  refine ⟨?_, by omega, drop_step hd⟩
  rcases h.run s q hl hq with ⟨e, st, p1, g1, x1, y1⟩ | ⟨b, r, p1, g1, n1, l1⟩
  · rw [h1] at p1
    exact nomatch p1
  · rw [h1] at p1
    injection p1 with p1
    obtain ⟨rfl, rfl⟩ := Prod.mk.inj p1
    exact g1
end Go.Proofs.Ytcoppaggpbfcmaa.Sl
namespace Go.Proofs.Ytcoppaggpbfcmaa.Sl
open Go.RowKit
set_option linter.unusedVariables false
set_option linter.unusedSimpArgs false
def encHd (h : Hd) : List UInt8 := (vput (vfold (h.fKey.length : Int)) ++ h.fKey) ++ (vput (vfold (blen h.fValue)) ++ h.fValue.data)
end Go.Proofs.Ytcoppaggpbfcmaa.Sl
namespace Go.Proofs.Ytcoppaggpbfcmaa.Sl
open Go.RowKit
set_option linter.unusedVariables false
set_option linter.unusedSimpArgs false
def hwt (h : Hd) : Nat := 20 + h.fKey.length + h.fValue.data.length
def hwts : List Hd → Nat
  | [] => 0
  | h :: l => hwt h + hwts l
theorem vput_small32 (n : Int) (h : -1 ≤ n) (h2 : n ≤ 2147483647) : (vput (vfold n)).length ≤ 10 := vput_ten _ (vfold_lt n (by omega) (by omega))
theorem blen_small (b : Bl) (h : b.data.length ≤ 2147483647) : -1 ≤ blen b ∧ blen b ≤ 2147483647 := by unfold blen; split <;> omega
theorem encHd_len (h : Hd) (hk : h.fKey.length ≤ 1000000) (hv : h.fValue.data.length ≤ 1000000) : (encHd h).length ≤ hwt h := by
  have h1 := vput_small32 (h.fKey.length : Int) (by omega) (by omega)
  have hb := blen_small h.fValue (by omega)
  have h2 := vput_small32 (blen h.fValue) hb.1 hb.2
  simp only [encHd, List.length_append, hwt]
  omega
theorem encHds_len : ∀ l : List Hd, hwts l ≤ 1000000 → (encs encHd l).length ≤ hwts l
  | [], h => Nat.le_refl _
  | x :: l, h => by
    have h1 : hwt x ≤ hwts (x :: l) := by rw [hwts]; omega
    have h2 := encHds_len l (by rw [hwts] at h; omega)
    have h3 := encHd_len x (by unfold hwt at h1; omega) (by unfold hwt at h1; omega)
    rw [encs, List.length_append, hwts]
    omega
theorem hwts_len : ∀ l : List Hd, l.length * 20 ≤ hwts l
  | [] => by simp [hwts]
  | h :: l => by have := hwts_len l; simp only [hwts, hwt, List.length_cons]; omega
end Go.Proofs.Ytcoppaggpbfcmaa.Sl
namespace Go.Proofs.Ytcoppaggpbfcmaa.Sl
open Go.RowKit
set_option linter.unusedVariables false
set_option linter.unusedSimpArgs false
def encBl (b : Bl) : List UInt8 := vput (vfold (blen b)) ++ b.data
def encHs (l : List Hd) : List UInt8 := vput (vfold (l.length : Int)) ++ encs encHd l
def encBody (x : Rec) : List UInt8 := be 0 1 ++ (vput (vfold x.fTime) ++ (vput (vfold x.fOffset) ++ (encBl x.fKey ++ (encBl x.fValue ++ encHs x.fHeaders))))
def encRec (x : Rec) : List UInt8 := vput (vfold ((encBody x).length : Int)) ++ encBody x
end Go.Proofs.Ytcoppaggpbfcmaa.Sl
namespace Go.Proofs.Ytcoppaggpbfcmaa.Sl
open Go.RowKit
set_option linter.unusedVariables false
set_option linter.unusedSimpArgs false
def rwt (x : Rec) : Nat := x.fKey.data.length + x.fValue.data.length + hwts x.fHeaders
theorem encBl_len (b : Bl) (h : b.data.length ≤ 1000000) : (encBl b).length ≤ 10 + b.data.length := by
  have hb := blen_small b (by omega)
  have := vput_small32 (blen b) hb.1 hb.2
  rw [encBl, List.length_append]
  omega
theorem encHs_len (l : List Hd) (h : hwts l ≤ 1000000) : (encHs l).length ≤ 10 + hwts l := by
  have hn := hwts_len l
  have h1 := vput_small32 (l.length : Int) (by omega) (by omega)
  have h2 := encHds_len l h
  rw [encHs, List.length_append]
  omega
theorem encBody_len (x : Rec) (ht : wI x.fTime) (ho : wI x.fOffset) (hw : rwt x ≤ 900000) : (encBody x).length ≤ 51 + rwt x := by
  unfold rwt at hw ⊢
  have h1 := vput_ten _ (vfold_lt x.fTime ht.1 ht.2)
  have h2 := vput_ten _ (vfold_lt x.fOffset ho.1 ho.2)
  have h3 := encBl_len x.fKey (by omega)
  have h4 := encBl_len x.fValue (by omega)
  have h5 := encHs_len x.fHeaders (by omega)
  simp only [encBody, List.length_append, be_length]
  omega
end Go.Proofs.Ytcoppaggpbfcmaa.Sl
namespace Go.Proofs.Ytcoppaggpbfcmaa.Sl
open Go.RowKit
set_option linter.unusedVariables false
set_option linter.unusedSimpArgs false
def sameH (a b : Hd) : Bool := decide (a.fKey = b.fKey) && decide (a.fValue.null = b.fValue.null) && decide (a.fValue.data = b.fValue.data)
def sameHs : List Hd → List Hd → Bool
  | [], [] => true
  | a :: l, b :: m => sameH a b && sameHs l m
  | _, _ => false
theorem sameHs_len : ∀ (l m : List Hd), sameHs l m = true → l.length = m.length
  | [], [], h => rfl
  | [], b :: m, h => nomatch h
  | a :: l, [], h => nomatch h
  | a :: l, b :: m, h => by
    rw [sameHs, Bool.and_eq_true] at h
    rw [List.length_cons, List.length_cons, sameHs_len l m h.2]
theorem r06s_loop (a b : List Hd) (ha : a.length ≤ 1000000) (y : Bool) : ∀ (t u : List Hd) (k fuel : Nat), a.drop k = t → b.drop k = u → t.length = u.length → t.length < fuel → ∃ z, f_r06_Same_l1 a b fuel y k = some (if sameHs t u = true then .go (y, z) else .ret false)
  | [], [], k, fuel + 1, ht, hu, hl, hf => by
    have := b_nil_drop ht
    exact ⟨k, by rw [f_r06_Same_l1, if_neg (by omega)]; rfl⟩
  | [], d :: u, k, fuel, ht, hu, hl, hf => by simp at hl
  | c :: t, [], k, fuel, ht, hu, hl, hf => by simp at hl
  | c :: t, d :: u, k, fuel + 1, ht, hu, hl, hf => by
    obtain ⟨t1, t2, t3⟩ := b_at_drop ht
    obtain ⟨u1, u2, u3⟩ := b_at_drop hu
    simp only [List.length_cons] at hl hf
    obtain ⟨z, hz⟩ := r06s_loop a b ha y t u (k + 1) fuel t2 u2 (by omega) (by omega)
    rw [f_r06_Same_l1, if_pos (by omega), t1, Option.bind_some, u1, Option.bind_some, sameHs, sameH]
    by_cases h1 : c.fKey = d.fKey
    · rw [if_pos h1, decide_eq_true h1]
      by_cases h2 : c.fValue.null = d.fValue.null
      · rw [if_pos h2, decide_eq_true h2]
        by_cases h3 : c.fValue.data = d.fValue.data
        · rw [if_pos h3, decide_eq_true h3, if_pos (by omega)]
          exact ⟨z, hz⟩
        · rw [if_neg h3, decide_eq_false h3]
          exact ⟨0, rfl⟩
      · rw [if_neg h2, decide_eq_false h2]
        exact ⟨0, rfl⟩
    · rw [if_neg h1, decide_eq_false h1]
      exact ⟨0, rfl⟩
theorem r06_same (a b : List Hd) (ha : a.length ≤ 1000000) : f_r06_Same a b = some (sameHs a b) := by
  unfold f_r06_Same
  by_cases hl : (a.length : Int) = (b.length : Int)
  · obtain ⟨z, hz⟩ := r06s_loop a b ha false a b 0 (((a.length : Int)).toNat + 1) rfl rfl (by omega) (by omega)
    rw [if_pos hl, hz]
    cases sameHs a b <;> rfl
  · rw [if_neg hl]
    have : sameHs a b = false := by
      cases h : sameHs a b with
      | false => rfl
      | true => exact absurd (congrArg Int.ofNat (sameHs_len a b h)) hl
    rw [this]
end Go.Proofs.Ytcoppaggpbfcmaa.Sl
namespace Go.Proofs.Ytcoppaggpbfcmaa.Sl
open Go.RowKit
set_option linter.unusedVariables false
set_option linter.unusedSimpArgs false
def sameR (a b : Rec) : Bool := decide (a.fTime = b.fTime) && decide (a.fOffset = b.fOffset) && decide (a.fKey.null = b.fKey.null) && decide (a.fKey.data = b.fKey.data) && decide (a.fValue.null = b.fValue.null) && decide (a.fValue.data = b.fValue.data) && sameHs a.fHeaders b.fHeaders
theorem sameH_sym (a b : Hd) : sameH b a = sameH a b := by
  unfold sameH
  simp only [eq_comm]
theorem recs_loop (b : Rec) (y : Bool) : ∀ (l u : List Hd) (k : Nat), b.fHeaders.drop k = u → l.length = u.length → f_record_Same_l1 b l y k = some (if sameHs l u = true then .go y else .ret false)
  | [], [], k, hu, hl => rfl
  | [], d :: u, k, hu, hl => by simp at hl
  | c :: l, [], k, hu, hl => by simp at hl
  | c :: l, d :: u, k, hu, hl => by
    obtain ⟨u1, u2, u3⟩ := b_at_drop hu
    simp only [List.length_cons] at hl
    have ih := recs_loop b y l u (k + 1) u2 (by omega)
    rw [f_record_Same_l1, u1, Option.bind_some, sameHs, ← sameH_sym c d, sameH, ih]
    by_cases h1 : d.fKey = c.fKey
    · rw [if_pos h1, decide_eq_true h1]
      by_cases h2 : d.fValue.null = c.fValue.null
      · rw [if_pos h2, decide_eq_true h2]
        by_cases h3 : d.fValue.data = c.fValue.data
        · rw [if_pos h3, decide_eq_true h3]
          rfl
        · rw [if_neg h3, decide_eq_false h3]
          rfl
      · rw [if_neg h2, decide_eq_false h2]
        rfl
    · rw [if_neg h1, decide_eq_false h1]
      rfl
theorem r07_same (a b : Rec) (ha : a.fHeaders.length ≤ 1000000) : f_r07_Same a b = some (sameR a b) := by
  unfold f_r07_Same sameR
  rw [r06_same _ _ ha]
  by_cases h1 : a.fTime = b.fTime <;> by_cases h2 : a.fOffset = b.fOffset <;> by_cases h3 : a.fKey.null = b.fKey.null <;> by_cases h4 : a.fKey.data = b.fKey.data <;> by_cases h5 : a.fValue.null = b.fValue.null <;> by_cases h6 : a.fValue.data = b.fValue.data <;> simp [h1, h2, h3, h4, h5, h6]
theorem record_same (a b : Rec) : f_record_Same a b = some (sameR a b) := by
  unfold f_record_Same sameR
  have hh : (if (a.fHeaders.length : Int) = (b.fHeaders.length : Int) then ((f_record_Same_l1 b a.fHeaders false 0).bind fun e => match e with | .ret r => some r | .go y39 => some true) else some false) = some (sameHs a.fHeaders b.fHeaders) := by
    by_cases hl : (a.fHeaders.length : Int) = (b.fHeaders.length : Int)
    · rw [if_pos hl, recs_loop b false a.fHeaders b.fHeaders 0 rfl (by omega)]
      cases sameHs a.fHeaders b.fHeaders <;> rfl
    · rw [if_neg hl]
      have : sameHs a.fHeaders b.fHeaders = false := by
        cases h : sameHs a.fHeaders b.fHeaders with
        | false => rfl
        | true => exact absurd (congrArg Int.ofNat (sameHs_len _ _ h)) hl
      rw [this]
  by_cases h1 : a.fTime = b.fTime
  case neg => rw [if_neg h1, decide_eq_false h1]; simp
  rw [if_pos h1, decide_eq_true h1]
  by_cases h2 : a.fOffset = b.fOffset
  case neg => rw [if_neg h2, decide_eq_false h2]; simp
  rw [if_pos h2, decide_eq_true h2]
  by_cases h3 : a.fKey.null = b.fKey.null
  case neg => rw [if_neg h3, decide_eq_false h3]; simp
  rw [if_pos h3, decide_eq_true h3]
  by_cases h4 : a.fKey.data = b.fKey.data
  case neg => rw [if_neg h4, decide_eq_false h4]; simp
  rw [if_pos h4, decide_eq_true h4]
  by_cases h5 : a.fValue.null = b.fValue.null
  case neg => rw [if_neg h5, decide_eq_false h5]; simp
  rw [if_pos h5, decide_eq_true h5]
  by_cases h6 : a.fValue.data = b.fValue.data
  case neg => rw [if_neg h6, decide_eq_false h6]; simp
  rw [if_pos h6, decide_eq_true h6]
  simp only [Bool.true_and]
  exact hh
end Go.Proofs.Ytcoppaggpbfcmaa.Sl
namespace Go.Proofs.Ytcoppaggpbfcmaa.Sl
open Go.RowKit
set_option linter.unusedVariables false
set_option linter.unusedSimpArgs false
theorem encRec_len (x : Rec) (ht : wI x.fTime) (ho : wI x.fOffset) (hw : rwt x ≤ 900000) : (encRec x).length ≤ 61 + rwt x := by
  have hb := encBody_len x ht ho hw
  have h6 := vput_ten _ (vfold_lt ((encBody x).length : Int) (by omega) (by omega))
  rw [encRec, List.length_append]
  omega
end Go.Proofs.Ytcoppaggpbfcmaa.Sl
namespace Go.Proofs.Ytcoppaggpbfcmaa.Sl
open Go.RowKit
set_option linter.unusedVariables false
set_option linter.unusedSimpArgs false
def body (a : Bat) : List UInt8 := encs encRec a.fRecords
end Go.Proofs.Ytcoppaggpbfcmaa.Sl
namespace Go.Proofs.Ytcoppaggpbfcmaa.Sl
open Go.RowKit
set_option linter.unusedVariables false
set_option linter.unusedSimpArgs false
def bnR (r : Rec) : Prop := r.fHeaders.length ≤ 1000000 ∧ r.fKey.data.length ≤ 1000000 ∧ r.fValue.data.length ≤ 1000000
def bnB (a : Bat) : Prop := wf_Bat a ∧ a.fRecords.length ≤ 1000000 ∧ ∀ r, r ∈ a.fRecords → bnR r
end Go.Proofs.Ytcoppaggpbfcmaa.Sl
namespace Go.Proofs.Ytcoppaggpbfcmaa.Sl
open Go.RowKit
set_option linter.unusedVariables false
set_option linter.unusedSimpArgs false
def smB (a : Bat) : Prop := bnB a ∧ (∀ r, r ∈ a.fRecords → rwt r ≤ 900000) ∧ (body a).length ≤ 900000
def sameRs : List Rec → List Rec → Bool
  | x :: l, y :: m => sameR x y && sameRs l m
  | _, _ => true
def sameB (a b : Bat) : Bool := decide (a.fBase = b.fBase ∧ a.fLeader = b.fLeader ∧ a.fAppend = b.fAppend ∧ a.fTxn = b.fTxn ∧ a.fControl = b.fControl ∧ a.fLast = b.fLast ∧ a.fFirst = b.fFirst ∧ a.fMax = b.fMax ∧ a.fProducer = b.fProducer ∧ a.fEpoch = b.fEpoch ∧ a.fSequence = b.fSequence ∧ a.fRecords.length = b.fRecords.length) && sameRs a.fRecords b.fRecords
theorem r11s_l1 (a b : Bat) (hn : a.fRecords.length ≤ 1000000) (y : Bool) : ∀ (l m : List Rec) (k fuel : Nat), a.fRecords.drop k = l → b.fRecords.drop k = m → l.length = m.length → l.length < fuel → (∀ x, x ∈ l → x.fHeaders.length ≤ 1000000) → ∃ z, f_r11_Same_l1 a b fuel y k = some (if sameRs l m = true then .go (y, z) else .ret false)
  | [], m, k, fuel + 1, h1, h2, hl, hf, _ => by
    have := b_nil_drop h1
    exact ⟨k, by rw [f_r11_Same_l1, if_neg (by omega)]; rfl⟩
  | x :: l, v :: m, k, fuel + 1, h1, h2, hl, hf, hw => by
    obtain ⟨g1, g2, g3⟩ := b_at_drop h1
    obtain ⟨k1, k2, k3⟩ := b_at_drop h2
    rw [List.length_cons] at hf
    rw [List.length_cons, List.length_cons] at hl
    obtain ⟨z, hz⟩ := r11s_l1 a b hn y l m (k + 1) fuel g2 k2 (by omega) (by omega) (fun u hu => hw u (.tail _ hu))
    refine ⟨z, ?_⟩
    rw [f_r11_Same_l1, if_pos (by omega), g1, Option.bind_some, k1, Option.bind_some, r07_same x v (hw x (.head _)), Option.bind_some, sameRs, if_pos (show -9223372036854775808 ≤ (k : Int) + 1 ∧ (k : Int) + 1 ≤ 9223372036854775807 by omega), hz]
    cases sameR x v <;> rfl
theorem r11_same {a b : Bat} (hn : a.fRecords.length ≤ 1000000) (hw : ∀ x, x ∈ a.fRecords → x.fHeaders.length ≤ 1000000) : f_r11_Same a b = some (sameB a b) := by
  have hL : ∀ o : Option Bool, o = some (sameB a b) ∨ True := fun _ => .inr trivial
  unfold f_r11_Same sameB
  by_cases c1 : a.fBase = b.fBase
  rotate_left
  · rw [if_neg c1, Option.bind_some, if_pos rfl, decide_eq_false (fun h => c1 h.1)]; rfl
  by_cases c2 : a.fLeader = b.fLeader
  rotate_left
  · rw [if_pos c1, if_neg c2, Option.bind_some, if_pos rfl, decide_eq_false (fun h => c2 h.2.1)]; rfl
  by_cases c3 : a.fAppend = b.fAppend
  rotate_left
  · rw [if_pos c1, if_pos c2, if_neg (by simpa using c3), Option.bind_some, if_pos rfl, decide_eq_false (fun h => c3 h.2.2.1)]; rfl
  by_cases c4 : a.fTxn = b.fTxn
  rotate_left
  · rw [if_pos c1, if_pos c2, if_pos (by simpa using c3), if_neg (by simpa using c4), Option.bind_some, if_pos rfl, decide_eq_false (fun h => c4 h.2.2.2.1)]; rfl
  by_cases c5 : a.fControl = b.fControl
  rotate_left
  · rw [if_pos c1, if_pos c2, if_pos (by simpa using c3), if_pos (by simpa using c4), if_neg (by simpa using c5), Option.bind_some, if_pos rfl, decide_eq_false (fun h => c5 h.2.2.2.2.1)]; rfl
  rw [if_pos c1, if_pos c2, if_pos (by simpa using c3), if_pos (by simpa using c4), if_pos (by simpa using c5)]
  by_cases c6 : a.fLast = b.fLast
  rotate_left
  · rw [if_neg c6, Option.bind_some, if_pos rfl, decide_eq_false (fun h => c6 h.2.2.2.2.2.1)]; rfl
  by_cases c7 : a.fFirst = b.fFirst
  rotate_left
  · rw [if_pos c6, if_neg c7, Option.bind_some, if_pos rfl, decide_eq_false (fun h => c7 h.2.2.2.2.2.2.1)]; rfl
  by_cases c8 : a.fMax = b.fMax
  rotate_left
  · rw [if_pos c6, if_pos c7, if_neg c8, Option.bind_some, if_pos rfl, decide_eq_false (fun h => c8 h.2.2.2.2.2.2.2.1)]; rfl
  by_cases c9 : a.fProducer = b.fProducer
  rotate_left
  · rw [if_pos c6, if_pos c7, if_pos c8, if_neg c9, Option.bind_some, if_pos rfl, decide_eq_false (fun h => c9 h.2.2.2.2.2.2.2.2.1)]; rfl
  by_cases c10 : a.fEpoch = b.fEpoch
  rotate_left
  · rw [if_pos c6, if_pos c7, if_pos c8, if_pos c9, if_neg c10, Option.bind_some, if_pos rfl, decide_eq_false (fun h => c10 h.2.2.2.2.2.2.2.2.2.1)]; rfl
  by_cases c11 : a.fSequence = b.fSequence
  rotate_left
  · rw [if_pos c6, if_pos c7, if_pos c8, if_pos c9, if_pos c10, if_neg c11, Option.bind_some, if_pos rfl, decide_eq_false (fun h => c11 h.2.2.2.2.2.2.2.2.2.2.1)]; rfl
  by_cases c12 : a.fRecords.length = b.fRecords.length
  rotate_left
  · rw [if_pos c6, if_pos c7, if_pos c8, if_pos c9, if_pos c10, if_pos c11, if_neg (by omega), Option.bind_some, if_pos rfl, decide_eq_false (fun h => c12 h.2.2.2.2.2.2.2.2.2.2.2)]; rfl
  obtain ⟨z, hz⟩ := r11s_l1 a b hn false a.fRecords b.fRecords 0 (((a.fRecords.length : Int)).toNat + 1) rfl rfl c12 (by omega) hw
  rw [if_pos c6, if_pos c7, if_pos c8, if_pos c9, if_pos c10, if_pos c11, if_pos (by omega), Option.bind_some, if_neg (by decide), hz, decide_eq_true ⟨c1, c2, c3, c4, c5, c6, c7, c8, c9, c10, c11, c12⟩, Bool.true_and]
  cases sameRs a.fRecords b.fRecords <;> rfl
theorem bsame_l1 (b : Bat) (y : Bool) : ∀ (l m : List Rec) (k : Nat), b.fRecords.drop k = m → l.length = m.length → f_batch_Same_l1 b l y k = some (if sameRs l m = true then .go y else .ret false)
  | [], m, k, h, hl => rfl
  | x :: l, v :: m, k, h, hl => by
    obtain ⟨k1, k2, k3⟩ := b_at_drop h
    rw [List.length_cons, List.length_cons] at hl
    rw [f_batch_Same_l1, k1, Option.bind_some, record_same x v, Option.bind_some, sameRs, bsame_l1 b y l m (k + 1) k2 (by omega)]
    cases sameR x v <;> rfl
theorem batch_same_eq (a b : Bat) : f_batch_Same a b = some (sameB a b) := by
  unfold f_batch_Same f_batch_same f_batch_same1 sameB
  rw [Option.bind_some, Option.bind_some]
  dsimp only
  by_cases c1 : a.fBase = b.fBase
  rotate_left
  · rw [if_neg c1, Option.bind_some, if_neg (by decide), Option.bind_some, if_pos rfl, decide_eq_false (fun h => c1 h.1)]; rfl
  by_cases c2 : a.fLeader = b.fLeader
  rotate_left
  · rw [if_pos c1, if_neg c2, Option.bind_some, if_neg (by decide), Option.bind_some, if_pos rfl, decide_eq_false (fun h => c2 h.2.1)]; rfl
  by_cases c6 : a.fLast = b.fLast
  rotate_left
  · rw [if_pos c1, if_pos c2, if_neg c6, Option.bind_some, if_neg (by decide), Option.bind_some, if_pos rfl, decide_eq_false (fun h => c6 h.2.2.2.2.2.1)]; rfl
  by_cases c7 : a.fFirst = b.fFirst
  rotate_left
  · rw [if_pos c1, if_pos c2, if_pos c6, if_neg c7, Option.bind_some, if_neg (by decide), Option.bind_some, if_pos rfl, decide_eq_false (fun h => c7 h.2.2.2.2.2.2.1)]; rfl
  by_cases c8 : a.fMax = b.fMax
  rotate_left
  · rw [if_pos c1, if_pos c2, if_pos c6, if_pos c7, if_neg c8, Option.bind_some, if_neg (by decide), Option.bind_some, if_pos rfl, decide_eq_false (fun h => c8 h.2.2.2.2.2.2.2.1)]; rfl
  by_cases c9 : a.fProducer = b.fProducer
  rotate_left
  · rw [if_pos c1, if_pos c2, if_pos c6, if_pos c7, if_pos c8, if_neg c9, Option.bind_some, if_neg (by decide), Option.bind_some, if_pos rfl, decide_eq_false (fun h => c9 h.2.2.2.2.2.2.2.2.1)]; rfl
  rw [if_pos c1, if_pos c2, if_pos c6, if_pos c7, if_pos c8, if_pos c9]
  by_cases c10 : a.fEpoch = b.fEpoch
  rotate_left
  · rw [if_neg c10, Option.bind_some, if_neg (by decide), Option.bind_some, if_pos rfl, decide_eq_false (fun h => c10 h.2.2.2.2.2.2.2.2.2.1)]; rfl
  by_cases c11 : a.fSequence = b.fSequence
  rotate_left
  · rw [if_pos c10, if_neg c11, Option.bind_some, if_neg (by decide), Option.bind_some, if_pos rfl, decide_eq_false (fun h => c11 h.2.2.2.2.2.2.2.2.2.2.1)]; rfl
  by_cases c3 : a.fAppend = b.fAppend
  rotate_left
  · rw [if_pos c10, if_pos c11, if_neg c3, Option.bind_some, if_neg (by decide), Option.bind_some, if_pos rfl, decide_eq_false (fun h => c3 h.2.2.1)]; rfl
  by_cases c4 : a.fTxn = b.fTxn
  rotate_left
  · rw [if_pos c10, if_pos c11, if_pos c3, if_neg c4, Option.bind_some, if_neg (by decide), Option.bind_some, if_pos rfl, decide_eq_false (fun h => c4 h.2.2.2.1)]; rfl
  by_cases c5 : a.fControl = b.fControl
  rotate_left
  · rw [if_pos c10, if_pos c11, if_pos c3, if_pos c4, if_neg c5, Option.bind_some, if_neg (by decide), Option.bind_some, if_pos rfl, decide_eq_false (fun h => c5 h.2.2.2.2.1)]; rfl
  rw [if_pos c10, if_pos c11, if_pos c3, if_pos c4, if_pos c5, Option.bind_some, if_pos rfl]
  by_cases c12 : a.fRecords.length = b.fRecords.length
  rotate_left
  · rw [if_neg (by omega), Option.bind_some, if_pos rfl, decide_eq_false (fun h => c12 h.2.2.2.2.2.2.2.2.2.2.2)]; rfl
  rw [if_pos (by omega), Option.bind_some, if_neg (by decide), bsame_l1 b false a.fRecords b.fRecords 0 rfl c12, decide_eq_true ⟨c1, c2, c3, c4, c5, c6, c7, c8, c9, c10, c11, c12⟩, Bool.true_and]
  cases sameRs a.fRecords b.fRecords <;> rfl
end Go.Proofs.Ytcoppaggpbfcmaa.Sl
namespace Go.Proofs.Ytcoppaggpbfcmaa.Sl
open Go.RowKit
set_option linter.unusedVariables false
set_option linter.unusedSimpArgs false
set_option maxRecDepth 100000
def ft_cursitorlaw11 : FTab := [(25, 3, 3), (25, 4, 4), (25, 8, 8), (25, 11, 11), (30, 0, 0), (30, 1, 1), (33, 2, 2), (33, 3, 4), (33, 4, 6), (81, 0, 0), (81, 1, 1)]
theorem ft_cursitorlaw11_ok : (ft_cursitorlaw11).OK Try.prog := ⟨FOK.mk Try.runUnderlying25 rfl Try.sizeOf4 rfl, FOK.mk Try.runUnderlying25 rfl Try.sizeOf4 rfl, FOK.mk Try.runUnderlying25 rfl Try.sizeOf3 rfl, FOK.mk Try.runUnderlying25 rfl Try.sizeOf23 rfl, FOK.mk Try.runUnderlying30 rfl Try.sizeOf4 rfl, FOK.mk Try.runUnderlying30 rfl Try.sizeOf9 rfl, FOK.mk Try.runUnderlying33 rfl Try.sizeOf30 rfl, FOK.mk Try.runUnderlying33 rfl Try.sizeOf30 rfl, FOK.mk Try.runUnderlying33 rfl Try.sizeOf31 rfl, FOK.mk Try.runUnderlying81 rfl Try.sizeOf9 rfl, FOK.mk Try.runUnderlying81 rfl Try.sizeOf30 rfl, trivial⟩
def f_l11_Small_l2 : List Hd → Int → Option (Lp Int Int)
  | [], y22 => some (Lp.go y22)
  | x28 :: xs, y22 => if -9223372036854775808 ≤ ((x28.fKey.length : Int) + (x28.fValue.data.length : Int)) ∧ ((x28.fKey.length : Int) + (x28.fValue.data.length : Int)) ≤ 9223372036854775807 then (if ((x28.fKey.length : Int) + (x28.fValue.data.length : Int)) > 100 then some (Lp.ret 0) else (f_l11_Small_l2 xs y22)) else none
def f_l11_Small_l1 : List Rec → Int → Option (Lp Int Int)
  | [], y5 => some (Lp.go y5)
  | x11 :: xs, y5 => if -9223372036854775808 ≤ ((x11.fKey.data.length : Int) + (x11.fValue.data.length : Int)) ∧ ((x11.fKey.data.length : Int) + (x11.fValue.data.length : Int)) ≤ 9223372036854775807 then (if ((x11.fKey.data.length : Int) + (x11.fValue.data.length : Int)) > 100 then some (Lp.ret 0) else (if (x11.fHeaders.length : Int) > 6 then some (Lp.ret 0) else ((f_l11_Small_l2 x11.fHeaders y5).bind fun e => match e with | .ret r => some (Lp.ret r) | .go y35 => (f_l11_Small_l1 xs y35)))) else none
theorem f_l11_Small_l1_z (y5 : Int) : f_l11_Small_l1 [] y5 = (some (Lp.go y5)) := rfl
theorem f_l11_Small_l1_s (x11 : Rec) (xs : List Rec) (y5 : Int) : f_l11_Small_l1 (x11 :: xs) y5 = (if -9223372036854775808 ≤ ((x11.fKey.data.length : Int) + (x11.fValue.data.length : Int)) ∧ ((x11.fKey.data.length : Int) + (x11.fValue.data.length : Int)) ≤ 9223372036854775807 then (if ((x11.fKey.data.length : Int) + (x11.fValue.data.length : Int)) > 100 then some (Lp.ret 0) else (if (x11.fHeaders.length : Int) > 6 then some (Lp.ret 0) else ((f_l11_Small_l2 x11.fHeaders y5).bind fun e => match e with | .ret r => some (Lp.ret r) | .go y35 => (f_l11_Small_l1 xs y35)))) else none) := rfl
def f_l11_Small (a0 : Bat) : Option (Int) := if (a0.fRecords.length : Int) > 12 then some 0 else ((f_l11_Small_l1 a0.fRecords 0).bind fun e => match e with | .ret r => some r | .go y37 => some 1)
set_option maxRecDepth 100000 in
set_option maxHeartbeats 4000000 in
theorem f_l11_Small_spec (a0 : Bat) (A1 : Option Addr) (c2 : Nat) (r : Int) (h : f_l11_Small a0 = some r) : SpecX Try.prog 12 #[.agg #[.int .i64 a0.fBase, .int .i64 a0.fLeader, .bool a0.fAppend, .bool a0.fTxn, .bool a0.fControl, .int .i64 a0.fLast, .int .i64 a0.fFirst, .int .i64 a0.fMax, .int .i64 a0.fProducer, .int .i64 a0.fEpoch, .int .i64 a0.fSequence, .slice A1 a0.fRecords.length c2]] (RX.of (sliceRd 7 Rec_rd) [.slice A1 a0.fRecords.length c2] a0.fRecords) (EmpR) (fun v A' N => v = .int .i64 r ∧ A' = EmpR ∧ N = []) := by
  refine enterA Try.func12 rfl Try.ntmps12 rfl ?_
  intro F w hX
  unfold f_l11_Small at h
  refine T.seq (T.region rfl ?_)
  refine TL.box rfl .u rfl rfl (fun b3 => ?_)
  refine TL.run ft_cursitorlaw11_ok [1] rfl rfl ?_
  refine TL.nil (X.seq (T.seq (T.seq (T.region rfl ?_))))
  refine TL.run ft_cursitorlaw11_ok [0] rfl rfl ?_
  refine TL.q rfl .u (Ex.b1 0 rfl Try.isAgg23 rfl rfl) rfl ?_
  refine TL.q rfl .u (Ex.lenS rfl Try.runUnderlying23) rfl ?_
  refine TL.run ft_cursitorlaw11_ok [3] rfl rfl ?_
  by_cases c4 : (a0.fRecords.length : Int) > 12
  · replace h := ifT c4 h
    refine TL.nil (X.seq ?_)
    refine T.yes rfl (decide_eq_true c4) ?_
    refine T.seq (T.region rfl ?_)
    refine TL.run ft_cursitorlaw11_ok [0] rfl rfl ?_
    obtain rfl := Option.some.inj h
    exact TL.nil (X.seq (T.ret (X.rs (X.done1 [1] Try.results12 (RV.tm rfl) ⟨rfl, rfl, rfl⟩ (by rfl) (.inl rfl)))))
  · replace h := ifF c4 h
    refine TL.nil (X.seq ?_)
    refine T.no rfl (decide_eq_false c4) ?_
    refine T.skip (X.seq (T.seq (T.seq (T.region rfl ?_))))
    refine TL.run ft_cursitorlaw11_ok [0] rfl rfl ?_
    refine TL.q rfl .u (Ex.b1 0 rfl Try.isAgg23 rfl rfl) rfl ?_
    refine TL.q rfl .u (Ex.lenS rfl Try.runUnderlying23) rfl ?_
    refine TL.run ft_cursitorlaw11_ok [3] rfl rfl ?_
    refine TL.nil (X.seq (T.block ?_))
    obtain ⟨E7, hE8, hO9⟩ := Option.bind_eq_some_iff.1 h
    have hk13len := RX.len_le hX
    refine T.lp (fun m e Rs => ∃ (y5 : Int) (k6 : Nat), k6 + m = a0.fRecords.length ∧ e = [(2, .int .i64 y5), (12, .slice A1 a0.fRecords.length c2), (13, .int .i64 (a0.fRecords.length : Int)), (14, .int .i64 (k6 : Int))] ∧ Rs = [BlkR b3 25 #[.int .i64 a0.fBase, .int .i64 a0.fLeader, .bool a0.fAppend, .bool a0.fTxn, .bool a0.fControl, .int .i64 a0.fLast, .int .i64 a0.fFirst, .int .i64 a0.fMax, .int .i64 a0.fProducer, .int .i64 a0.fEpoch, .int .i64 a0.fSequence, .slice A1 a0.fRecords.length c2], EmpR] ∧ f_l11_Small_l1 (a0.fRecords.drop k6) y5 = some E7) (a0.fRecords.length) [0, 0] ⟨0, 0, by simp, rfl, rfl, by rw [List.drop_zero]; exact hE8⟩ (by rfl) (by rfl) ?_
    rintro m10 _ _ ⟨y5, k6, hk13, rfl, rfl, hl12⟩
    clear hE8 h
    cases m10 with
    | zero =>
      have h := hl12
      clear hl12
      rw [List.drop_of_length_le (by omega), f_l11_Small_l1_z] at h
      have hk13ge : ¬ ((k6 : Int) < (a0.fRecords.length : Int)) := by omega
      refine T.seq (T.region rfl ?_)
      refine TL.run ft_cursitorlaw11_ok [0] rfl rfl ?_
      refine TL.nil (X.seq (T.seq ?_))
      refine T.no rfl (decide_eq_false hk13ge) ?_
      obtain rfl := Option.some.inj h
      replace h := hO9
      clear hO9
      try dsimp only at h
      refine T.exit (X.exs (X.exs (X.ex (X.seq (T.seq (T.region rfl ?_))))))
      refine TL.run ft_cursitorlaw11_ok [0] rfl rfl ?_
      obtain rfl := Option.some.inj h
      exact TL.nil (X.seq (T.ret (X.done1 [1] Try.results12 (RV.tm rfl) ⟨rfl, rfl, rfl⟩ (by rfl) (.inl rfl))))
    | succ m10 =>
      have h := hl12
      clear hl12
      obtain ⟨x11, hxx11⟩ : ∃ x, a0.fRecords[k6]? = some x := ⟨_, List.getElem?_eq_getElem (by omega)⟩
      rw [drop_cons hxx11, f_l11_Small_l1_s] at h
      have hk13lt : (k6 : Int) < (a0.fRecords.length : Int) := by omega
      refine T.seq (T.region rfl ?_)
      refine TL.run ft_cursitorlaw11_ok [0] rfl rfl ?_
      refine TL.nil (X.seq (T.seq ?_))
      refine T.yes rfl (decide_eq_true hk13lt) ?_
      obtain ⟨gz14, oz14, rfl, z14cs, z14cl, z14cc, z14nf, z14r⟩ := RX.elem (by decide) hX hxx11
      obtain ⟨z14S, z14r, z14rr⟩ := z14r
      obtain ⟨A15, c16, rfl, z14s0⟩ := z14r
      have hX17 : (RX.of (sliceRd 3 Hd_rd) [.slice A15 x11.fHeaders.length c16] x11.fHeaders).reads w F := ⟨z14S, z14s0, z14rr⟩
      refine T.skip (X.seq (T.seq (T.block (T.seq (T.region rfl ?_)))))
      refine TL.q rfl .u (Ex.ixS (k := k6) rfl rfl rfl Try.runUnderlying23 Try.sizeOf33 (List.getElem?_eq_some_iff.1 hxx11).1) rfl ?_
      refine TL.q rfl .u (Ex.oS (us := [.int .i64 x11.fTime, .int .i64 x11.fOffset, .bool x11.fKey.null, .string (bsOf x11.fKey.data), .bool x11.fValue.null, .string (bsOf x11.fValue.data), .slice A15 x11.fHeaders.length c16]) 0 rfl Try.isAgg33 Try.sizeOf33 z14nf z14cc rfl rfl rfl) rfl ?_
      refine TL.alloc rfl .u Try.zeroValue33 rfl (fun b18 => ?_)
      refine TL.st0 (cs' := #[.int .i64 x11.fTime, .int .i64 x11.fOffset, .bool x11.fKey.null, .string (bsOf x11.fKey.data), .bool x11.fValue.null, .string (bsOf x11.fValue.data), .slice A15 x11.fHeaders.length c16]) rfl .u rfl rfl Try.sizeOf33 rfl rfl rfl rfl ?_
      refine TL.nil (X.seq (T.seq (T.seq (T.region rfl ?_))))
      refine TL.run ft_cursitorlaw11_ok [0, 1] rfl rfl ?_
      refine TL.q rfl .u (Ex.b1 0 rfl Try.isAgg9 rfl rfl) rfl ?_
      refine TL.q rfl .u (Ex.lenB rfl Try.runUnderlying9) rfl ?_
      refine TL.run ft_cursitorlaw11_ok [4, 5] rfl rfl ?_
      refine TL.q rfl .u (Ex.b1 0 rfl Try.isAgg9 rfl rfl) rfl ?_
      refine TL.q rfl .u (Ex.lenB rfl Try.runUnderlying9) rfl ?_
      replace h := guard_some h
      obtain ⟨c19, h⟩ := h
      refine TL.q rfl .u (Ex.add rfl rfl c19) rfl ?_
      by_cases c20 : ((x11.fKey.data.length : Int) + (x11.fValue.data.length : Int)) > 100
      · replace h := ifT c20 h
        refine TL.run ft_cursitorlaw11_ok [9, 10] rfl rfl ?_
        refine TL.no rfl (.gn rfl rfl (decide_eq_true c20)) rfl ?_
        refine TL.no rfl (.gn rfl rfl (decide_eq_true c20)) rfl ?_
        refine TL.no rfl (.gn rfl rfl (decide_eq_true c20)) rfl ?_
        refine TL.no rfl (.gn rfl rfl (decide_eq_true c20)) rfl ?_
        refine TL.q rfl .u (Ex.py rfl (decide_eq_true c20) rfl) rfl ?_
        refine TL.nil (X.seq ?_)
        refine T.yes rfl rfl ?_
        refine T.seq (T.region rfl ?_)
        refine TL.run ft_cursitorlaw11_ok [0] rfl rfl ?_
        obtain rfl := Option.some.inj h
        replace h := hO9
        clear hO9
        try dsimp only at h
        obtain rfl := Option.some.inj h
        exact TL.nil (X.seq (T.ret (X.rs (X.rb (X.rs (X.rs (X.rb (X.rs (X.done1 [2] Try.results12 (RV.tm rfl) ⟨rfl, rfl, rfl⟩ (by rfl) (.inl rfl))))))))))
      · replace h := ifF c20 h
        refine TL.run ft_cursitorlaw11_ok [9, 10] rfl rfl ?_
        refine TL.q rfl (.g rfl rfl (decide_eq_false c20)) (Ex.ft ft_cursitorlaw11_ok rfl) rfl ?_
        refine TL.q rfl (.g rfl rfl (decide_eq_false c20)) (Ex.b1 0 rfl Try.isAgg31 rfl rfl) rfl ?_
        refine TL.q rfl (.g rfl rfl (decide_eq_false c20)) (Ex.lenS rfl Try.runUnderlying31) rfl ?_
        refine TL.q rfl (.g rfl rfl (decide_eq_false c20)) (Ex.ft ft_cursitorlaw11_ok rfl) rfl ?_
        refine TL.q rfl .u (Ex.pn rfl (decide_eq_false c20) rfl) rfl ?_
        by_cases c21 : (x11.fHeaders.length : Int) > 6
        · replace h := ifT c21 h
          refine TL.nil (X.seq ?_)
          refine T.yes rfl (decide_eq_true c21) ?_
          refine T.seq (T.region rfl ?_)
          refine TL.run ft_cursitorlaw11_ok [0] rfl rfl ?_
          obtain rfl := Option.some.inj h
          replace h := hO9
          clear hO9
          try dsimp only at h
          obtain rfl := Option.some.inj h
          exact TL.nil (X.seq (T.ret (X.rs (X.rb (X.rs (X.rs (X.rb (X.rs (X.done1 [2] Try.results12 (RV.tm rfl) ⟨rfl, rfl, rfl⟩ (by rfl) (.inl rfl))))))))))
        · replace h := ifF c21 h
          refine TL.nil (X.seq ?_)
          refine T.no rfl (decide_eq_false c21) ?_
          refine T.skip (X.seq (T.seq (T.region rfl ?_)))
          refine TL.run ft_cursitorlaw11_ok [0] rfl rfl ?_
          refine TL.q rfl .u (Ex.b1 0 rfl Try.isAgg31 rfl rfl) rfl ?_
          refine TL.q rfl .u (Ex.lenS rfl Try.runUnderlying31) rfl ?_
          refine TL.run ft_cursitorlaw11_ok [3] rfl rfl ?_
          refine TL.nil (X.seq (T.block ?_))
          obtain ⟨E24, hE25, hO26⟩ := Option.bind_eq_some_iff.1 h
          have hk30len := RX.len_le hX17
          refine T.lp (fun m e Rs => ∃ (y22 : Int) (k23 : Nat), k23 + m = x11.fHeaders.length ∧ e = [(2, .int .i64 y22), (12, .slice (some ⟨gz14, oz14, none⟩) a0.fRecords.length c2), (13, .int .i64 (a0.fRecords.length : Int)), (14, .int .i64 (k6 : Int)), (35, .slice A15 x11.fHeaders.length c16), (36, .int .i64 (x11.fHeaders.length : Int)), (37, .int .i64 (k23 : Int))] ∧ Rs = [BlkR b18 33 #[.int .i64 x11.fTime, .int .i64 x11.fOffset, .bool x11.fKey.null, .string (bsOf x11.fKey.data), .bool x11.fValue.null, .string (bsOf x11.fValue.data), .slice A15 x11.fHeaders.length c16], BlkR b3 25 #[.int .i64 a0.fBase, .int .i64 a0.fLeader, .bool a0.fAppend, .bool a0.fTxn, .bool a0.fControl, .int .i64 a0.fLast, .int .i64 a0.fFirst, .int .i64 a0.fMax, .int .i64 a0.fProducer, .int .i64 a0.fEpoch, .int .i64 a0.fSequence, .slice (some ⟨gz14, oz14, none⟩) a0.fRecords.length c2], EmpR] ∧ f_l11_Small_l2 (x11.fHeaders.drop k23) y22 = some E24) (x11.fHeaders.length) [0, 0, 0] ⟨y5, 0, by simp, rfl, rfl, by rw [List.drop_zero]; exact hE25⟩ (by rfl) (by rfl) ?_
          rintro m27 _ _ ⟨y22, k23, hk30, rfl, rfl, hl29⟩
          clear hE25 h
          cases m27 with
          | zero =>
            have h := hl29
            clear hl29
            rw [List.drop_of_length_le (by omega), f_l11_Small_l2] at h
            have hk30ge : ¬ ((k23 : Int) < (x11.fHeaders.length : Int)) := by omega
            refine T.seq (T.region rfl ?_)
            refine TL.run ft_cursitorlaw11_ok [0] rfl rfl ?_
            refine TL.nil (X.seq (T.seq ?_))
            refine T.no rfl (decide_eq_false hk30ge) ?_
            obtain rfl := Option.some.inj h
            replace h := hO26
            clear hO26
            try dsimp only at h
            refine T.exit (X.exs (X.exs (X.ex (X.blk (X.seq (T.region rfl ?_))))))
            refine TL.q rfl .u (Ex.add rfl rfl (by omega)) rfl ?_
            refine TL.run ft_cursitorlaw11_ok [1] rfl rfl ?_
            exact TL.nil (X.back (m' := m10) [1, 1] (by omega) ⟨y22, k6 + 1, by omega, rfl, rfl, h⟩ (by rfl) (by rfl))
          | succ m27 =>
            have h := hl29
            clear hl29
            obtain ⟨x28, hxx28⟩ : ∃ x, x11.fHeaders[k23]? = some x := ⟨_, List.getElem?_eq_getElem (by omega)⟩
            rw [drop_cons hxx28, f_l11_Small_l2] at h
            have hk30lt : (k23 : Int) < (x11.fHeaders.length : Int) := by omega
            refine T.seq (T.region rfl ?_)
            refine TL.run ft_cursitorlaw11_ok [0] rfl rfl ?_
            refine TL.nil (X.seq (T.seq ?_))
            refine T.yes rfl (decide_eq_true hk30lt) ?_
            obtain ⟨gz31, oz31, rfl, z31cs, z31cl, z31cc, z31nf, z31r⟩ := RX.elem (by decide) hX17 hxx28
            obtain ⟨z31S, z31r, z31rr⟩ := z31r
            obtain rfl : z31cs = [.string (bsOf x28.fKey), .bool x28.fValue.null, .string (bsOf x28.fValue.data)] := z31r
            refine T.skip (X.seq (T.seq (T.block (T.seq (T.region rfl ?_)))))
            refine TL.q rfl .u (Ex.ixS (k := k23) rfl rfl rfl Try.runUnderlying31 Try.sizeOf81 (List.getElem?_eq_some_iff.1 hxx28).1) rfl ?_
            refine TL.q rfl .u (Ex.oS (us := [.string (bsOf x28.fKey), .bool x28.fValue.null, .string (bsOf x28.fValue.data)]) 0 rfl Try.isAgg81 Try.sizeOf81 z31nf z31cc rfl rfl rfl) rfl ?_
            refine TL.alloc rfl .u Try.zeroValue81 rfl (fun b32 => ?_)
            refine TL.st0 (cs' := #[.string (bsOf x28.fKey), .bool x28.fValue.null, .string (bsOf x28.fValue.data)]) rfl .u rfl rfl Try.sizeOf81 rfl rfl rfl rfl ?_
            refine TL.nil (X.seq (T.seq (T.region rfl ?_)))
            refine TL.run ft_cursitorlaw11_ok [0] rfl rfl ?_
            refine TL.q rfl .u (Ex.b1 0 rfl Try.isAgg9 rfl rfl) rfl ?_
            refine TL.q rfl .u (Ex.lenB rfl Try.runUnderlying9) rfl ?_
            refine TL.run ft_cursitorlaw11_ok [3, 4] rfl rfl ?_
            refine TL.q rfl .u (Ex.b1 0 rfl Try.isAgg9 rfl rfl) rfl ?_
            refine TL.q rfl .u (Ex.lenB rfl Try.runUnderlying9) rfl ?_
            replace h := guard_some h
            obtain ⟨c33, h⟩ := h
            refine TL.q rfl .u (Ex.add rfl rfl c33) rfl ?_
            refine TL.run ft_cursitorlaw11_ok [8] rfl rfl ?_
            by_cases c34 : ((x28.fKey.length : Int) + (x28.fValue.data.length : Int)) > 100
            · replace h := ifT c34 h
              refine TL.nil (X.seq ?_)
              refine T.yes rfl (decide_eq_true c34) ?_
              refine T.seq (T.region rfl ?_)
              refine TL.run ft_cursitorlaw11_ok [0] rfl rfl ?_
              obtain rfl := Option.some.inj h
              replace h := hO26
              clear hO26
              try dsimp only at h
              obtain rfl := Option.some.inj h
              replace h := hO9
              clear hO9
              try dsimp only at h
              obtain rfl := Option.some.inj h
              exact TL.nil (X.seq (T.ret (X.rb (X.rs (X.rs (X.rb (X.rb (X.rs (X.rs (X.rb (X.rs (X.done1 [3] Try.results12 (RV.tm rfl) ⟨rfl, rfl, rfl⟩ (by rfl) (.inl rfl)))))))))))))
            · replace h := ifF c34 h
              refine TL.nil (X.seq ?_)
              refine T.no rfl (decide_eq_false c34) ?_
              refine T.skip (X.blk (X.seq (T.region rfl ?_)))
              refine TL.q rfl .u (Ex.add rfl rfl (by omega)) rfl ?_
              refine TL.run ft_cursitorlaw11_ok [1] rfl rfl ?_
              exact TL.nil (X.back (m' := m27) [1, 1, 1] (by omega) ⟨y22, k23 + 1, by omega, rfl, rfl, h⟩ (by rfl) (by rfl))
end Go.Proofs.Ytcoppaggpbfcmaa.Sl
namespace Go.Proofs.Ytcoppaggpbfcmaa.Sl
open Go.RowKit
set_option linter.unusedVariables false
set_option linter.unusedSimpArgs false
theorem small_l2 (y : Int) : ∀ l : List Hd, (∀ h, h ∈ l → wf_Hd h) → (f_l11_Small_l2 l y = some (.ret 0)) ∨ (f_l11_Small_l2 l y = some (.go y) ∧ ∀ h, h ∈ l → h.fKey.length + h.fValue.data.length ≤ 100)
  | [], h => .inr ⟨rfl, fun x h => nomatch h⟩
  | x :: l, h => by
    have hx := h x (.head _)
    have h1 : x.fKey.length ≤ 140737488351232 := hx.1
    have h2 : x.fValue.data.length ≤ 140737488351232 := hx.2.2
    rw [f_l11_Small_l2, if_pos (by omega)]
    by_cases hc : (x.fKey.length : Int) + (x.fValue.data.length : Int) > 100
    · rw [if_pos hc]
      exact .inl rfl
    · rw [if_neg hc]
      rcases small_l2 y l (fun z hz => h z (.tail _ hz)) with g | ⟨g, g2⟩
      · exact .inl g
      · refine .inr ⟨g, fun z hz => ?_⟩
        rcases List.mem_cons.1 hz with rfl | hz
        · omega
        · exact g2 z hz
theorem small_l1 (y : Int) : ∀ l : List Rec, (∀ r, r ∈ l → wf_Rec r) → (f_l11_Small_l1 l y = some (.ret 0)) ∨ (f_l11_Small_l1 l y = some (.go y) ∧ ∀ r, r ∈ l → r.fKey.data.length + r.fValue.data.length ≤ 100 ∧ r.fHeaders.length ≤ 6 ∧ ∀ h, h ∈ r.fHeaders → h.fKey.length + h.fValue.data.length ≤ 100)
  | [], h => .inr ⟨rfl, fun x h => nomatch h⟩
  | x :: l, h => by
    obtain ⟨h1, h2, h3, h4, h5⟩ := h x (.head _)
    have h6 : x.fKey.data.length ≤ 140737488351232 := h3.2
    have h7 : x.fValue.data.length ≤ 140737488351232 := h4.2
    rw [f_l11_Small_l1, if_pos (by omega)]
    by_cases hc : (x.fKey.data.length : Int) + (x.fValue.data.length : Int) > 100
    · rw [if_pos hc]
      exact .inl rfl
    rw [if_neg hc]
    by_cases hd : (x.fHeaders.length : Int) > 6
    · rw [if_pos hd]
      exact .inl rfl
    rw [if_neg hd]
    rcases small_l2 y x.fHeaders h5.2 with g | ⟨g, g2⟩
    · rw [g]
      exact .inl rfl
    · rw [g, Option.bind_some]
      simp only
      rcases small_l1 y l (fun z hz => h z (.tail _ hz)) with k | ⟨k, k2⟩
      · exact .inl k
      · refine .inr ⟨k, fun z hz => ?_⟩
        rcases List.mem_cons.1 hz with rfl | hz
        · exact ⟨by omega, by omega, g2⟩
        · exact k2 z hz
theorem small11 (a : Bat) (hw : wf_Bat a) : f_l11_Small a = some 0 ∨ (f_l11_Small a = some 1 ∧ a.fRecords.length ≤ 12 ∧ ∀ r, r ∈ a.fRecords → r.fKey.data.length + r.fValue.data.length ≤ 100 ∧ r.fHeaders.length ≤ 6 ∧ ∀ h, h ∈ r.fHeaders → h.fKey.length + h.fValue.data.length ≤ 100) := by
  unfold f_l11_Small
  by_cases hc : (a.fRecords.length : Int) > 12
  · rw [if_pos hc]
    exact .inl rfl
  rw [if_neg hc]
  rcases small_l1 0 a.fRecords hw.2.2.2.2.2.2.2.2.2.2.2.2 with g | ⟨g, g2⟩
  · rw [g]
    exact .inl rfl
  · rw [g]
    exact .inr ⟨rfl, by omega, g2⟩
end Go.Proofs.Ytcoppaggpbfcmaa.Sl
namespace Go.Proofs.Ytcoppaggpbfcmaa.Sl
open Go.RowKit
set_option linter.unusedVariables false
set_option linter.unusedSimpArgs false
theorem bnB_small {a : Bat} (hw : wf_Bat a) (h1 : a.fRecords.length ≤ 12) (h2 : ∀ r, r ∈ a.fRecords → r.fKey.data.length + r.fValue.data.length ≤ 100 ∧ r.fHeaders.length ≤ 6 ∧ ∀ h, h ∈ r.fHeaders → h.fKey.length + h.fValue.data.length ≤ 100) : bnB a :=
  ⟨hw, by omega, fun r hr => by have := h2 r hr; exact ⟨by omega, by omega, by omega⟩⟩
theorem hwts_le : ∀ (l : List Hd), (∀ h, h ∈ l → h.fKey.length + h.fValue.data.length ≤ 100) → hwts l ≤ 120 * l.length
  | [], _ => Nat.zero_le _
  | x :: l, h => by
    have h1 := h x (.head _)
    have h2 := hwts_le l (fun y hy => h y (.tail _ hy))
    rw [hwts, hwt, List.length_cons]
    omega
theorem encs_le {α : Type} (enc : α → List UInt8) (n : Nat) : ∀ (l : List α), (∀ x, x ∈ l → (enc x).length ≤ n) → (encs enc l).length ≤ n * l.length
  | [], _ => Nat.zero_le _
  | x :: l, h => by
    have h1 := h x (.head _)
    have h2 := encs_le enc n l (fun y hy => h y (.tail _ hy))
    rw [encs, List.length_append, List.length_cons, Nat.mul_succ]
    omega
theorem smB_small {a : Bat} (hw : wf_Bat a) (h1 : a.fRecords.length ≤ 12) (h2 : ∀ r, r ∈ a.fRecords → r.fKey.data.length + r.fValue.data.length ≤ 100 ∧ r.fHeaders.length ≤ 6 ∧ ∀ h, h ∈ r.fHeaders → h.fKey.length + h.fValue.data.length ≤ 100) : smB a ∧ (body a).length ≤ 12000 := by
  have hr : ∀ r, r ∈ a.fRecords → rwt r ≤ 900 := fun r hr => by
    obtain ⟨k1, k2, k3⟩ := h2 r hr
    have := hwts_le r.fHeaders k3
    unfold rwt
    omega
  have hl : (body a).length ≤ 12000 := by
    have h3 := encs_le encRec 1000 a.fRecords (fun x hx => by
      have h4 := hw.2.2.2.2.2.2.2.2.2.2.2.2 x hx
      have h5 := hr x hx
      have := encRec_len x h4.1 h4.2.1 (by omega)
      omega)
    unfold body
    omega
  exact ⟨⟨bnB_small hw h1 h2, fun r hr2 => by have := hr r hr2; omega, by omega⟩, hl⟩
end Go.Proofs.Ytcoppaggpbfcmaa.Sl
