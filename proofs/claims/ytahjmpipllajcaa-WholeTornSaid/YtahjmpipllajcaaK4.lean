/- wholeTorn_holds: part 4. -/
import Derived.Test.YtahjmpipllajcaaK3
namespace Go.Proofs.Ytahjmpipllajcaa.Sl
open Go.RowKit
set_option linter.unusedVariables false
set_option linter.unusedSimpArgs false
set_option maxRecDepth 100000
def ft_cursitorref11 : FTab := [(36, 0, 0), (36, 1, 1), (36, 2, 2), (36, 3, 3), (36, 4, 4), (36, 5, 5), (36, 6, 6), (36, 7, 7), (36, 8, 8), (36, 9, 9), (36, 10, 10), (36, 11, 11), (83, 0, 0), (83, 1, 1)]
theorem ft_cursitorref11_ok : (ft_cursitorref11).OK Try.prog := ⟨FOK.mk Try.runUnderlying36 rfl Try.sizeOf3 rfl, FOK.mk Try.runUnderlying36 rfl Try.sizeOf3 rfl, FOK.mk Try.runUnderlying36 rfl Try.sizeOf4 rfl, FOK.mk Try.runUnderlying36 rfl Try.sizeOf4 rfl, FOK.mk Try.runUnderlying36 rfl Try.sizeOf4 rfl, FOK.mk Try.runUnderlying36 rfl Try.sizeOf3 rfl, FOK.mk Try.runUnderlying36 rfl Try.sizeOf3 rfl, FOK.mk Try.runUnderlying36 rfl Try.sizeOf3 rfl, FOK.mk Try.runUnderlying36 rfl Try.sizeOf3 rfl, FOK.mk Try.runUnderlying36 rfl Try.sizeOf3 rfl, FOK.mk Try.runUnderlying36 rfl Try.sizeOf3 rfl, FOK.mk Try.runUnderlying36 rfl Try.sizeOf34 rfl, FOK.mk Try.runUnderlying83 rfl Try.sizeOf3 rfl, FOK.mk Try.runUnderlying83 rfl Try.sizeOf3 rfl, trivial⟩
theorem mix_cursitorref11 : Try.prog.follows .mixedOrders = true := by kernel_rfl
def f_r11_Same_l1 (a0 : Bat) (a1 : Bat) : Nat → Bool → Nat → Option (Lp Bool (Bool × Nat))
  | 0, _, _ => none
  | m38 + 1, y33, k34 => if (k34 : Int) < (a0.fRecords.length : Int) then ((a0.fRecords[k34]?).bind fun x43 => (a1.fRecords[k34]?).bind fun x49 => (f_r07_Same x43 x49).bind fun x55 => if x55 = true then (if -9223372036854775808 ≤ ((k34 : Int) + 1) ∧ ((k34 : Int) + 1) ≤ 9223372036854775807 then (f_r11_Same_l1 a0 a1 m38 y33 (k34 + 1)) else none) else some (Lp.ret false)) else (some (Lp.go (y33, k34)))
def f_r11_Same (a0 : Bat) (a1 : Bat) : Option (Bool) := (if a0.fBase = a1.fBase then (if a0.fLeader = a1.fLeader then (if (a0.fAppend == a1.fAppend) = true then (if (a0.fTxn == a1.fTxn) = true then (if (a0.fControl == a1.fControl) = true then (if a0.fLast = a1.fLast then (if a0.fFirst = a1.fFirst then (if a0.fMax = a1.fMax then (if a0.fProducer = a1.fProducer then (if a0.fEpoch = a1.fEpoch then (if a0.fSequence = a1.fSequence then (if (a0.fRecords.length : Int) = (a1.fRecords.length : Int) then some false else some true) else some true) else some true) else some true) else some true) else some true) else some true) else some true) else some true) else some true) else some true) else some true).bind fun y18 => if y18 = true then some false else ((f_r11_Same_l1 a0 a1 (((a0.fRecords.length : Int)).toNat + 1) false 0).bind fun e => match e with | .ret r => some r | .go (y59, k60) => some true)
set_option maxRecDepth 100000 in
set_option maxHeartbeats 4000000 in
theorem f_r11_Same_spec (a0 : Bat) (A1 : Option Addr) (c2 : Nat) (a1 : Bat) (A3 : Option Addr) (c4 : Nat) (r : Bool) (h : f_r11_Same a0 a1 = some r) : SpecX Try.prog 33 #[.agg #[.int .i64 a0.fBase, .int .i64 a0.fLeader, .bool a0.fAppend, .bool a0.fTxn, .bool a0.fControl, .int .i64 a0.fLast, .int .i64 a0.fFirst, .int .i64 a0.fMax, .int .i64 a0.fProducer, .int .i64 a0.fEpoch, .int .i64 a0.fSequence, .slice A1 a0.fRecords.length c2], .agg #[.int .i64 a1.fBase, .int .i64 a1.fLeader, .bool a1.fAppend, .bool a1.fTxn, .bool a1.fControl, .int .i64 a1.fLast, .int .i64 a1.fFirst, .int .i64 a1.fMax, .int .i64 a1.fProducer, .int .i64 a1.fEpoch, .int .i64 a1.fSequence, .slice A3 a1.fRecords.length c4]] (RX.and (RX.of (sliceRd 7 Rec_rd) [.slice A1 a0.fRecords.length c2] a0.fRecords) (RX.of (sliceRd 7 Rec_rd) [.slice A3 a1.fRecords.length c4] a1.fRecords)) (EmpR) (fun v A' N => v = .bool r ∧ A' = EmpR ∧ N = []) := by
  refine enterA Try.func33 rfl Try.ntmps33 rfl ?_
  intro F w hX
  unfold f_r11_Same at h
  refine T.seq (T.region rfl ?_)
  refine TL.box rfl .u rfl rfl (fun b5 => ?_)
  refine TL.box rfl .u rfl rfl (fun b6 => ?_)
  refine TL.run ft_cursitorref11_ok [2] rfl rfl ?_
  refine TL.nil (X.seq (T.seq (T.seq ?_)))
  obtain ⟨y18, h, hk19⟩ := Option.bind_eq_some_iff.1 h
  refine T.jq (fun e Rs => e = [(2, .pointer (some ⟨b5, 0, none⟩)), (3, .pointer (some ⟨b6, 0, none⟩)), (4, .bool false), (89, .bool y18)] ∧ Rs = [BlkR b6 36 #[.int .i64 a1.fBase, .int .i64 a1.fLeader, .bool a1.fAppend, .bool a1.fTxn, .bool a1.fControl, .int .i64 a1.fLast, .int .i64 a1.fFirst, .int .i64 a1.fMax, .int .i64 a1.fProducer, .int .i64 a1.fEpoch, .int .i64 a1.fSequence, .slice A3 a1.fRecords.length c4], BlkR b5 36 #[.int .i64 a0.fBase, .int .i64 a0.fLeader, .bool a0.fAppend, .bool a0.fTxn, .bool a0.fControl, .int .i64 a0.fLast, .int .i64 a0.fFirst, .int .i64 a0.fMax, .int .i64 a0.fProducer, .int .i64 a0.fEpoch, .int .i64 a0.fSequence, .slice A1 a0.fRecords.length c2], EmpR]) ?_ ?_
  · clear hk19
    refine T.region rfl ?_
    refine TL.run ft_cursitorref11_ok [0] rfl rfl ?_
    refine TL.q rfl .u (Ex.b1 1 rfl Try.isAgg3 rfl rfl) rfl ?_
    refine TL.run ft_cursitorref11_ok [2] rfl rfl ?_
    refine TL.q rfl .u (Ex.b1 0 rfl Try.isAgg3 rfl rfl) rfl ?_
    by_cases c20 : a0.fBase = a1.fBase
    · replace h := ifT c20 h
      refine TL.run ft_cursitorref11_ok [4, 5] rfl rfl ?_
      refine TL.q rfl (.g rfl rfl (bn_f (decide_eq_true c20))) (Ex.ft ft_cursitorref11_ok rfl) rfl ?_
      refine TL.q rfl (.g rfl rfl (bn_f (decide_eq_true c20))) (Ex.b1 1 rfl Try.isAgg3 rfl rfl) rfl ?_
      refine TL.q rfl (.g rfl rfl (bn_f (decide_eq_true c20))) (Ex.ft ft_cursitorref11_ok rfl) rfl ?_
      refine TL.q rfl (.g rfl rfl (bn_f (decide_eq_true c20))) (Ex.b1 0 rfl Try.isAgg3 rfl rfl) rfl ?_
      refine TL.q rfl (.g rfl rfl (bn_f (decide_eq_true c20))) (Ex.ft ft_cursitorref11_ok rfl) rfl ?_
      refine TL.q rfl .u (Ex.pn rfl (bn_f (decide_eq_true c20)) rfl) rfl ?_
      by_cases c21 : a0.fLeader = a1.fLeader
      · replace h := ifT c21 h
        refine TL.run ft_cursitorref11_ok [12] rfl rfl ?_
        refine TL.q rfl (.g rfl rfl (bn_f (decide_eq_true c21))) (Ex.ft ft_cursitorref11_ok rfl) rfl ?_
        refine TL.q rfl (.g rfl rfl (bn_f (decide_eq_true c21))) (Ex.b1 1 rfl Try.isAgg4 rfl rfl) rfl ?_
        refine TL.q rfl (.g rfl rfl (bn_f (decide_eq_true c21))) (Ex.ft ft_cursitorref11_ok rfl) rfl ?_
        refine TL.q rfl (.g rfl rfl (bn_f (decide_eq_true c21))) (Ex.b1 0 rfl Try.isAgg4 rfl rfl) rfl ?_
        refine TL.q rfl (.g rfl rfl (bn_f (decide_eq_true c21))) (Ex.bNe rfl rfl rfl rfl Try.runUnderlying4) rfl ?_
        refine TL.q rfl .u (Ex.pn rfl (bn_f (decide_eq_true c21)) rfl) rfl ?_
        by_cases c22 : (a0.fAppend == a1.fAppend) = true
        · replace h := ifT c22 h
          refine TL.run ft_cursitorref11_ok [19] rfl rfl ?_
          refine TL.q rfl (.g rfl rfl (bn_f c22)) (Ex.ft ft_cursitorref11_ok rfl) rfl ?_
          refine TL.q rfl (.g rfl rfl (bn_f c22)) (Ex.b1 1 rfl Try.isAgg4 rfl rfl) rfl ?_
          refine TL.q rfl (.g rfl rfl (bn_f c22)) (Ex.ft ft_cursitorref11_ok rfl) rfl ?_
          refine TL.q rfl (.g rfl rfl (bn_f c22)) (Ex.b1 0 rfl Try.isAgg4 rfl rfl) rfl ?_
          refine TL.q rfl (.g rfl rfl (bn_f c22)) (Ex.bNe rfl rfl rfl rfl Try.runUnderlying4) rfl ?_
          refine TL.q rfl .u (Ex.pn rfl (bn_f c22) rfl) rfl ?_
          by_cases c23 : (a0.fTxn == a1.fTxn) = true
          · replace h := ifT c23 h
            refine TL.run ft_cursitorref11_ok [26] rfl rfl ?_
            refine TL.q rfl (.g rfl rfl (bn_f c23)) (Ex.ft ft_cursitorref11_ok rfl) rfl ?_
            refine TL.q rfl (.g rfl rfl (bn_f c23)) (Ex.b1 1 rfl Try.isAgg4 rfl rfl) rfl ?_
            refine TL.q rfl (.g rfl rfl (bn_f c23)) (Ex.ft ft_cursitorref11_ok rfl) rfl ?_
            refine TL.q rfl (.g rfl rfl (bn_f c23)) (Ex.b1 0 rfl Try.isAgg4 rfl rfl) rfl ?_
            refine TL.q rfl (.g rfl rfl (bn_f c23)) (Ex.bNe rfl rfl rfl rfl Try.runUnderlying4) rfl ?_
            refine TL.q rfl .u (Ex.pn rfl (bn_f c23) rfl) rfl ?_
            by_cases c24 : (a0.fControl == a1.fControl) = true
            · replace h := ifT c24 h
              refine TL.run ft_cursitorref11_ok [33] rfl rfl ?_
              refine TL.q rfl (.g rfl rfl (bn_f c24)) (Ex.ft ft_cursitorref11_ok rfl) rfl ?_
              refine TL.q rfl (.g rfl rfl (bn_f c24)) (Ex.b1 1 rfl Try.isAgg3 rfl rfl) rfl ?_
              refine TL.q rfl (.g rfl rfl (bn_f c24)) (Ex.ft ft_cursitorref11_ok rfl) rfl ?_
              refine TL.q rfl (.g rfl rfl (bn_f c24)) (Ex.b1 0 rfl Try.isAgg3 rfl rfl) rfl ?_
              refine TL.q rfl (.g rfl rfl (bn_f c24)) (Ex.ft ft_cursitorref11_ok rfl) rfl ?_
              refine TL.q rfl .u (Ex.pn rfl (bn_f c24) rfl) rfl ?_
              by_cases c25 : a0.fLast = a1.fLast
              · replace h := ifT c25 h
                refine TL.run ft_cursitorref11_ok [40] rfl rfl ?_
                refine TL.q rfl (.g rfl rfl (bn_f (decide_eq_true c25))) (Ex.ft ft_cursitorref11_ok rfl) rfl ?_
                refine TL.q rfl (.g rfl rfl (bn_f (decide_eq_true c25))) (Ex.b1 1 rfl Try.isAgg3 rfl rfl) rfl ?_
                refine TL.q rfl (.g rfl rfl (bn_f (decide_eq_true c25))) (Ex.ft ft_cursitorref11_ok rfl) rfl ?_
                refine TL.q rfl (.g rfl rfl (bn_f (decide_eq_true c25))) (Ex.b1 0 rfl Try.isAgg3 rfl rfl) rfl ?_
                refine TL.q rfl (.g rfl rfl (bn_f (decide_eq_true c25))) (Ex.ft ft_cursitorref11_ok rfl) rfl ?_
                refine TL.q rfl .u (Ex.pn rfl (bn_f (decide_eq_true c25)) rfl) rfl ?_
                by_cases c26 : a0.fFirst = a1.fFirst
                · replace h := ifT c26 h
                  refine TL.run ft_cursitorref11_ok [47] rfl rfl ?_
                  refine TL.q rfl (.g rfl rfl (bn_f (decide_eq_true c26))) (Ex.ft ft_cursitorref11_ok rfl) rfl ?_
                  refine TL.q rfl (.g rfl rfl (bn_f (decide_eq_true c26))) (Ex.b1 1 rfl Try.isAgg3 rfl rfl) rfl ?_
                  refine TL.q rfl (.g rfl rfl (bn_f (decide_eq_true c26))) (Ex.ft ft_cursitorref11_ok rfl) rfl ?_
                  refine TL.q rfl (.g rfl rfl (bn_f (decide_eq_true c26))) (Ex.b1 0 rfl Try.isAgg3 rfl rfl) rfl ?_
                  refine TL.q rfl (.g rfl rfl (bn_f (decide_eq_true c26))) (Ex.ft ft_cursitorref11_ok rfl) rfl ?_
                  refine TL.q rfl .u (Ex.pn rfl (bn_f (decide_eq_true c26)) rfl) rfl ?_
                  by_cases c27 : a0.fMax = a1.fMax
                  · replace h := ifT c27 h
                    refine TL.run ft_cursitorref11_ok [54] rfl rfl ?_
                    refine TL.q rfl (.g rfl rfl (bn_f (decide_eq_true c27))) (Ex.ft ft_cursitorref11_ok rfl) rfl ?_
                    refine TL.q rfl (.g rfl rfl (bn_f (decide_eq_true c27))) (Ex.b1 1 rfl Try.isAgg3 rfl rfl) rfl ?_
                    refine TL.q rfl (.g rfl rfl (bn_f (decide_eq_true c27))) (Ex.ft ft_cursitorref11_ok rfl) rfl ?_
                    refine TL.q rfl (.g rfl rfl (bn_f (decide_eq_true c27))) (Ex.b1 0 rfl Try.isAgg3 rfl rfl) rfl ?_
                    refine TL.q rfl (.g rfl rfl (bn_f (decide_eq_true c27))) (Ex.ft ft_cursitorref11_ok rfl) rfl ?_
                    refine TL.q rfl .u (Ex.pn rfl (bn_f (decide_eq_true c27)) rfl) rfl ?_
                    by_cases c28 : a0.fProducer = a1.fProducer
                    · replace h := ifT c28 h
                      refine TL.run ft_cursitorref11_ok [61] rfl rfl ?_
                      refine TL.q rfl (.g rfl rfl (bn_f (decide_eq_true c28))) (Ex.ft ft_cursitorref11_ok rfl) rfl ?_
                      refine TL.q rfl (.g rfl rfl (bn_f (decide_eq_true c28))) (Ex.b1 1 rfl Try.isAgg3 rfl rfl) rfl ?_
                      refine TL.q rfl (.g rfl rfl (bn_f (decide_eq_true c28))) (Ex.ft ft_cursitorref11_ok rfl) rfl ?_
                      refine TL.q rfl (.g rfl rfl (bn_f (decide_eq_true c28))) (Ex.b1 0 rfl Try.isAgg3 rfl rfl) rfl ?_
                      refine TL.q rfl (.g rfl rfl (bn_f (decide_eq_true c28))) (Ex.ft ft_cursitorref11_ok rfl) rfl ?_
                      refine TL.q rfl .u (Ex.pn rfl (bn_f (decide_eq_true c28)) rfl) rfl ?_
                      by_cases c29 : a0.fEpoch = a1.fEpoch
                      · replace h := ifT c29 h
                        refine TL.run ft_cursitorref11_ok [68] rfl rfl ?_
                        refine TL.q rfl (.g rfl rfl (bn_f (decide_eq_true c29))) (Ex.ft ft_cursitorref11_ok rfl) rfl ?_
                        refine TL.q rfl (.g rfl rfl (bn_f (decide_eq_true c29))) (Ex.b1 1 rfl Try.isAgg3 rfl rfl) rfl ?_
                        refine TL.q rfl (.g rfl rfl (bn_f (decide_eq_true c29))) (Ex.ft ft_cursitorref11_ok rfl) rfl ?_
                        refine TL.q rfl (.g rfl rfl (bn_f (decide_eq_true c29))) (Ex.b1 0 rfl Try.isAgg3 rfl rfl) rfl ?_
                        refine TL.q rfl (.g rfl rfl (bn_f (decide_eq_true c29))) (Ex.ft ft_cursitorref11_ok rfl) rfl ?_
                        refine TL.q rfl .u (Ex.pn rfl (bn_f (decide_eq_true c29)) rfl) rfl ?_
                        by_cases c30 : a0.fSequence = a1.fSequence
                        · replace h := ifT c30 h
                          refine TL.run ft_cursitorref11_ok [75] rfl rfl ?_
                          refine TL.q rfl (.g rfl rfl (bn_f (decide_eq_true c30))) (Ex.ft ft_cursitorref11_ok rfl) rfl ?_
                          refine TL.q rfl (.g rfl rfl (bn_f (decide_eq_true c30))) (Ex.b1 1 rfl Try.isAgg34 rfl rfl) rfl ?_
                          refine TL.q rfl (.g rfl rfl (bn_f (decide_eq_true c30))) (Ex.lenS rfl Try.runUnderlying34) rfl ?_
                          refine TL.q rfl (.g rfl rfl (bn_f (decide_eq_true c30))) (Ex.ft ft_cursitorref11_ok rfl) rfl ?_
                          refine TL.q rfl (.g rfl rfl (bn_f (decide_eq_true c30))) (Ex.b1 0 rfl Try.isAgg34 rfl rfl) rfl ?_
                          refine TL.q rfl (.g rfl rfl (bn_f (decide_eq_true c30))) (Ex.lenS rfl Try.runUnderlying34) rfl ?_
                          refine TL.q rfl (.g rfl rfl (bn_f (decide_eq_true c30))) (Ex.ft ft_cursitorref11_ok rfl) rfl ?_
                          refine TL.q rfl .u (Ex.pn rfl (bn_f (decide_eq_true c30)) rfl) rfl ?_
                          by_cases c31 : (a0.fRecords.length : Int) = (a1.fRecords.length : Int)
                          · replace h := ifT c31 h
                            cases h
                            exact TL.nil (X.as (d := 89) (v' := .bool false) rfl (congrArg Value.bool (bn_f (decide_eq_true c31))) (X.jq [0, 0, 0] ⟨rfl, rfl⟩ (by rfl) (by rfl)))
                          · replace h := ifF c31 h
                            cases h
                            exact TL.nil (X.as (d := 89) (v' := .bool true) rfl (congrArg Value.bool (bn_t (decide_eq_false c31))) (X.jq [0, 0, 0] ⟨rfl, rfl⟩ (by rfl) (by rfl)))
                        · replace h := ifF c30 h
                          refine TL.run ft_cursitorref11_ok [75] rfl rfl ?_
                          refine TL.no rfl (.gn rfl rfl (bn_t (decide_eq_false c30))) rfl ?_
                          refine TL.no rfl (.gn rfl rfl (bn_t (decide_eq_false c30))) rfl ?_
                          refine TL.no rfl (.gn rfl rfl (bn_t (decide_eq_false c30))) rfl ?_
                          refine TL.no rfl (.gn rfl rfl (bn_t (decide_eq_false c30))) rfl ?_
                          refine TL.no rfl (.gn rfl rfl (bn_t (decide_eq_false c30))) rfl ?_
                          refine TL.no rfl (.gn rfl rfl (bn_t (decide_eq_false c30))) rfl ?_
                          refine TL.no rfl (.gn rfl rfl (bn_t (decide_eq_false c30))) rfl ?_
                          refine TL.q rfl .u (Ex.py rfl (bn_t (decide_eq_false c30)) rfl) rfl ?_
                          cases h
                          exact TL.nil (X.jq [0, 0, 0] ⟨rfl, rfl⟩ (by rfl) (by rfl))
                      · replace h := ifF c29 h
                        refine TL.run ft_cursitorref11_ok [68] rfl rfl ?_
                        refine TL.no rfl (.gn rfl rfl (bn_t (decide_eq_false c29))) rfl ?_
                        refine TL.no rfl (.gn rfl rfl (bn_t (decide_eq_false c29))) rfl ?_
                        refine TL.no rfl (.gn rfl rfl (bn_t (decide_eq_false c29))) rfl ?_
                        refine TL.no rfl (.gn rfl rfl (bn_t (decide_eq_false c29))) rfl ?_
                        refine TL.no rfl (.gn rfl rfl (bn_t (decide_eq_false c29))) rfl ?_
                        refine TL.q rfl .u (Ex.py rfl (bn_t (decide_eq_false c29)) rfl) rfl ?_
                        refine TL.run ft_cursitorref11_ok [75] rfl rfl ?_
                        refine TL.no rfl (.gn rfl rfl rfl) rfl ?_
                        refine TL.no rfl (.gn rfl rfl rfl) rfl ?_
                        refine TL.no rfl (.gn rfl rfl rfl) rfl ?_
                        refine TL.no rfl (.gn rfl rfl rfl) rfl ?_
                        refine TL.no rfl (.gn rfl rfl rfl) rfl ?_
                        refine TL.no rfl (.gn rfl rfl rfl) rfl ?_
                        refine TL.no rfl (.gn rfl rfl rfl) rfl ?_
                        refine TL.q rfl .u (Ex.py rfl rfl rfl) rfl ?_
                        cases h
                        exact TL.nil (X.jq [0, 0, 0] ⟨rfl, rfl⟩ (by rfl) (by rfl))
                    · replace h := ifF c28 h
                      refine TL.run ft_cursitorref11_ok [61] rfl rfl ?_
                      refine TL.no rfl (.gn rfl rfl (bn_t (decide_eq_false c28))) rfl ?_
                      refine TL.no rfl (.gn rfl rfl (bn_t (decide_eq_false c28))) rfl ?_
                      refine TL.no rfl (.gn rfl rfl (bn_t (decide_eq_false c28))) rfl ?_
                      refine TL.no rfl (.gn rfl rfl (bn_t (decide_eq_false c28))) rfl ?_
                      refine TL.no rfl (.gn rfl rfl (bn_t (decide_eq_false c28))) rfl ?_
                      refine TL.q rfl .u (Ex.py rfl (bn_t (decide_eq_false c28)) rfl) rfl ?_
                      refine TL.run ft_cursitorref11_ok [68] rfl rfl ?_
                      refine TL.no rfl (.gn rfl rfl rfl) rfl ?_
                      refine TL.no rfl (.gn rfl rfl rfl) rfl ?_
                      refine TL.no rfl (.gn rfl rfl rfl) rfl ?_
                      refine TL.no rfl (.gn rfl rfl rfl) rfl ?_
                      refine TL.no rfl (.gn rfl rfl rfl) rfl ?_
                      refine TL.q rfl .u (Ex.py rfl rfl rfl) rfl ?_
                      refine TL.run ft_cursitorref11_ok [75] rfl rfl ?_
                      refine TL.no rfl (.gn rfl rfl rfl) rfl ?_
                      refine TL.no rfl (.gn rfl rfl rfl) rfl ?_
                      refine TL.no rfl (.gn rfl rfl rfl) rfl ?_
                      refine TL.no rfl (.gn rfl rfl rfl) rfl ?_
                      refine TL.no rfl (.gn rfl rfl rfl) rfl ?_
                      refine TL.no rfl (.gn rfl rfl rfl) rfl ?_
                      refine TL.no rfl (.gn rfl rfl rfl) rfl ?_
                      refine TL.q rfl .u (Ex.py rfl rfl rfl) rfl ?_
                      cases h
                      exact TL.nil (X.jq [0, 0, 0] ⟨rfl, rfl⟩ (by rfl) (by rfl))
                  · replace h := ifF c27 h
                    refine TL.run ft_cursitorref11_ok [54] rfl rfl ?_
                    refine TL.no rfl (.gn rfl rfl (bn_t (decide_eq_false c27))) rfl ?_
                    refine TL.no rfl (.gn rfl rfl (bn_t (decide_eq_false c27))) rfl ?_
                    refine TL.no rfl (.gn rfl rfl (bn_t (decide_eq_false c27))) rfl ?_
                    refine TL.no rfl (.gn rfl rfl (bn_t (decide_eq_false c27))) rfl ?_
                    refine TL.no rfl (.gn rfl rfl (bn_t (decide_eq_false c27))) rfl ?_
                    refine TL.q rfl .u (Ex.py rfl (bn_t (decide_eq_false c27)) rfl) rfl ?_
                    refine TL.run ft_cursitorref11_ok [61] rfl rfl ?_
                    refine TL.no rfl (.gn rfl rfl rfl) rfl ?_
                    refine TL.no rfl (.gn rfl rfl rfl) rfl ?_
                    refine TL.no rfl (.gn rfl rfl rfl) rfl ?_
                    refine TL.no rfl (.gn rfl rfl rfl) rfl ?_
                    refine TL.no rfl (.gn rfl rfl rfl) rfl ?_
                    refine TL.q rfl .u (Ex.py rfl rfl rfl) rfl ?_
                    refine TL.run ft_cursitorref11_ok [68] rfl rfl ?_
                    refine TL.no rfl (.gn rfl rfl rfl) rfl ?_
                    refine TL.no rfl (.gn rfl rfl rfl) rfl ?_
                    refine TL.no rfl (.gn rfl rfl rfl) rfl ?_
                    refine TL.no rfl (.gn rfl rfl rfl) rfl ?_
                    refine TL.no rfl (.gn rfl rfl rfl) rfl ?_
                    refine TL.q rfl .u (Ex.py rfl rfl rfl) rfl ?_
                    refine TL.run ft_cursitorref11_ok [75] rfl rfl ?_
                    refine TL.no rfl (.gn rfl rfl rfl) rfl ?_
                    refine TL.no rfl (.gn rfl rfl rfl) rfl ?_
                    refine TL.no rfl (.gn rfl rfl rfl) rfl ?_
                    refine TL.no rfl (.gn rfl rfl rfl) rfl ?_
                    refine TL.no rfl (.gn rfl rfl rfl) rfl ?_
                    refine TL.no rfl (.gn rfl rfl rfl) rfl ?_
                    refine TL.no rfl (.gn rfl rfl rfl) rfl ?_
                    refine TL.q rfl .u (Ex.py rfl rfl rfl) rfl ?_
                    cases h
                    exact TL.nil (X.jq [0, 0, 0] ⟨rfl, rfl⟩ (by rfl) (by rfl))
                · replace h := ifF c26 h
                  refine TL.run ft_cursitorref11_ok [47] rfl rfl ?_
                  refine TL.no rfl (.gn rfl rfl (bn_t (decide_eq_false c26))) rfl ?_
                  refine TL.no rfl (.gn rfl rfl (bn_t (decide_eq_false c26))) rfl ?_
                  refine TL.no rfl (.gn rfl rfl (bn_t (decide_eq_false c26))) rfl ?_
                  refine TL.no rfl (.gn rfl rfl (bn_t (decide_eq_false c26))) rfl ?_
                  refine TL.no rfl (.gn rfl rfl (bn_t (decide_eq_false c26))) rfl ?_
                  refine TL.q rfl .u (Ex.py rfl (bn_t (decide_eq_false c26)) rfl) rfl ?_
                  refine TL.run ft_cursitorref11_ok [54] rfl rfl ?_
                  refine TL.no rfl (.gn rfl rfl rfl) rfl ?_
                  refine TL.no rfl (.gn rfl rfl rfl) rfl ?_
                  refine TL.no rfl (.gn rfl rfl rfl) rfl ?_
                  refine TL.no rfl (.gn rfl rfl rfl) rfl ?_
                  refine TL.no rfl (.gn rfl rfl rfl) rfl ?_
                  refine TL.q rfl .u (Ex.py rfl rfl rfl) rfl ?_
                  refine TL.run ft_cursitorref11_ok [61] rfl rfl ?_
                  refine TL.no rfl (.gn rfl rfl rfl) rfl ?_
                  refine TL.no rfl (.gn rfl rfl rfl) rfl ?_
                  refine TL.no rfl (.gn rfl rfl rfl) rfl ?_
                  refine TL.no rfl (.gn rfl rfl rfl) rfl ?_
                  refine TL.no rfl (.gn rfl rfl rfl) rfl ?_
                  refine TL.q rfl .u (Ex.py rfl rfl rfl) rfl ?_
                  refine TL.run ft_cursitorref11_ok [68] rfl rfl ?_
                  refine TL.no rfl (.gn rfl rfl rfl) rfl ?_
                  refine TL.no rfl (.gn rfl rfl rfl) rfl ?_
                  refine TL.no rfl (.gn rfl rfl rfl) rfl ?_
                  refine TL.no rfl (.gn rfl rfl rfl) rfl ?_
                  refine TL.no rfl (.gn rfl rfl rfl) rfl ?_
                  refine TL.q rfl .u (Ex.py rfl rfl rfl) rfl ?_
                  refine TL.run ft_cursitorref11_ok [75] rfl rfl ?_
                  refine TL.no rfl (.gn rfl rfl rfl) rfl ?_
                  refine TL.no rfl (.gn rfl rfl rfl) rfl ?_
                  refine TL.no rfl (.gn rfl rfl rfl) rfl ?_
                  refine TL.no rfl (.gn rfl rfl rfl) rfl ?_
                  refine TL.no rfl (.gn rfl rfl rfl) rfl ?_
                  refine TL.no rfl (.gn rfl rfl rfl) rfl ?_
                  refine TL.no rfl (.gn rfl rfl rfl) rfl ?_
                  refine TL.q rfl .u (Ex.py rfl rfl rfl) rfl ?_
                  cases h
                  exact TL.nil (X.jq [0, 0, 0] ⟨rfl, rfl⟩ (by rfl) (by rfl))
              · replace h := ifF c25 h
                refine TL.run ft_cursitorref11_ok [40] rfl rfl ?_
                refine TL.no rfl (.gn rfl rfl (bn_t (decide_eq_false c25))) rfl ?_
                refine TL.no rfl (.gn rfl rfl (bn_t (decide_eq_false c25))) rfl ?_
                refine TL.no rfl (.gn rfl rfl (bn_t (decide_eq_false c25))) rfl ?_
                refine TL.no rfl (.gn rfl rfl (bn_t (decide_eq_false c25))) rfl ?_
                refine TL.no rfl (.gn rfl rfl (bn_t (decide_eq_false c25))) rfl ?_
                refine TL.q rfl .u (Ex.py rfl (bn_t (decide_eq_false c25)) rfl) rfl ?_
                refine TL.run ft_cursitorref11_ok [47] rfl rfl ?_
                refine TL.no rfl (.gn rfl rfl rfl) rfl ?_
                refine TL.no rfl (.gn rfl rfl rfl) rfl ?_
                refine TL.no rfl (.gn rfl rfl rfl) rfl ?_
                refine TL.no rfl (.gn rfl rfl rfl) rfl ?_
                refine TL.no rfl (.gn rfl rfl rfl) rfl ?_
                refine TL.q rfl .u (Ex.py rfl rfl rfl) rfl ?_
                refine TL.run ft_cursitorref11_ok [54] rfl rfl ?_
                refine TL.no rfl (.gn rfl rfl rfl) rfl ?_
                refine TL.no rfl (.gn rfl rfl rfl) rfl ?_
                refine TL.no rfl (.gn rfl rfl rfl) rfl ?_
                refine TL.no rfl (.gn rfl rfl rfl) rfl ?_
                refine TL.no rfl (.gn rfl rfl rfl) rfl ?_
                refine TL.q rfl .u (Ex.py rfl rfl rfl) rfl ?_
                refine TL.run ft_cursitorref11_ok [61] rfl rfl ?_
                refine TL.no rfl (.gn rfl rfl rfl) rfl ?_
                refine TL.no rfl (.gn rfl rfl rfl) rfl ?_
                refine TL.no rfl (.gn rfl rfl rfl) rfl ?_
                refine TL.no rfl (.gn rfl rfl rfl) rfl ?_
                refine TL.no rfl (.gn rfl rfl rfl) rfl ?_
                refine TL.q rfl .u (Ex.py rfl rfl rfl) rfl ?_
                refine TL.run ft_cursitorref11_ok [68] rfl rfl ?_
                refine TL.no rfl (.gn rfl rfl rfl) rfl ?_
                refine TL.no rfl (.gn rfl rfl rfl) rfl ?_
                refine TL.no rfl (.gn rfl rfl rfl) rfl ?_
                refine TL.no rfl (.gn rfl rfl rfl) rfl ?_
                refine TL.no rfl (.gn rfl rfl rfl) rfl ?_
                refine TL.q rfl .u (Ex.py rfl rfl rfl) rfl ?_
                refine TL.run ft_cursitorref11_ok [75] rfl rfl ?_
                refine TL.no rfl (.gn rfl rfl rfl) rfl ?_
                refine TL.no rfl (.gn rfl rfl rfl) rfl ?_
                refine TL.no rfl (.gn rfl rfl rfl) rfl ?_
                refine TL.no rfl (.gn rfl rfl rfl) rfl ?_
                refine TL.no rfl (.gn rfl rfl rfl) rfl ?_
                refine TL.no rfl (.gn rfl rfl rfl) rfl ?_
                refine TL.no rfl (.gn rfl rfl rfl) rfl ?_
                refine TL.q rfl .u (Ex.py rfl rfl rfl) rfl ?_
                cases h
                exact TL.nil (X.jq [0, 0, 0] ⟨rfl, rfl⟩ (by rfl) (by rfl))
            · replace h := ifF c24 h
              replace c24 := eq_false_of_ne_true c24
              refine TL.run ft_cursitorref11_ok [33] rfl rfl ?_
              refine TL.no rfl (.gn rfl rfl (bn_t c24)) rfl ?_
              refine TL.no rfl (.gn rfl rfl (bn_t c24)) rfl ?_
              refine TL.no rfl (.gn rfl rfl (bn_t c24)) rfl ?_
              refine TL.no rfl (.gn rfl rfl (bn_t c24)) rfl ?_
              refine TL.no rfl (.gn rfl rfl (bn_t c24)) rfl ?_
              refine TL.q rfl .u (Ex.py rfl (bn_t c24) rfl) rfl ?_
              refine TL.run ft_cursitorref11_ok [40] rfl rfl ?_
              refine TL.no rfl (.gn rfl rfl rfl) rfl ?_
              refine TL.no rfl (.gn rfl rfl rfl) rfl ?_
              refine TL.no rfl (.gn rfl rfl rfl) rfl ?_
              refine TL.no rfl (.gn rfl rfl rfl) rfl ?_
              refine TL.no rfl (.gn rfl rfl rfl) rfl ?_
              refine TL.q rfl .u (Ex.py rfl rfl rfl) rfl ?_
              refine TL.run ft_cursitorref11_ok [47] rfl rfl ?_
              refine TL.no rfl (.gn rfl rfl rfl) rfl ?_
              refine TL.no rfl (.gn rfl rfl rfl) rfl ?_
              refine TL.no rfl (.gn rfl rfl rfl) rfl ?_
              refine TL.no rfl (.gn rfl rfl rfl) rfl ?_
              refine TL.no rfl (.gn rfl rfl rfl) rfl ?_
              refine TL.q rfl .u (Ex.py rfl rfl rfl) rfl ?_
              refine TL.run ft_cursitorref11_ok [54] rfl rfl ?_
              refine TL.no rfl (.gn rfl rfl rfl) rfl ?_
              refine TL.no rfl (.gn rfl rfl rfl) rfl ?_
              refine TL.no rfl (.gn rfl rfl rfl) rfl ?_
              refine TL.no rfl (.gn rfl rfl rfl) rfl ?_
              refine TL.no rfl (.gn rfl rfl rfl) rfl ?_
              refine TL.q rfl .u (Ex.py rfl rfl rfl) rfl ?_
              refine TL.run ft_cursitorref11_ok [61] rfl rfl ?_
              refine TL.no rfl (.gn rfl rfl rfl) rfl ?_
              refine TL.no rfl (.gn rfl rfl rfl) rfl ?_
              refine TL.no rfl (.gn rfl rfl rfl) rfl ?_
              refine TL.no rfl (.gn rfl rfl rfl) rfl ?_
              refine TL.no rfl (.gn rfl rfl rfl) rfl ?_
              refine TL.q rfl .u (Ex.py rfl rfl rfl) rfl ?_
              refine TL.run ft_cursitorref11_ok [68] rfl rfl ?_
              refine TL.no rfl (.gn rfl rfl rfl) rfl ?_
              refine TL.no rfl (.gn rfl rfl rfl) rfl ?_
              refine TL.no rfl (.gn rfl rfl rfl) rfl ?_
              refine TL.no rfl (.gn rfl rfl rfl) rfl ?_
              refine TL.no rfl (.gn rfl rfl rfl) rfl ?_
              refine TL.q rfl .u (Ex.py rfl rfl rfl) rfl ?_
              refine TL.run ft_cursitorref11_ok [75] rfl rfl ?_
              refine TL.no rfl (.gn rfl rfl rfl) rfl ?_
              refine TL.no rfl (.gn rfl rfl rfl) rfl ?_
              refine TL.no rfl (.gn rfl rfl rfl) rfl ?_
              refine TL.no rfl (.gn rfl rfl rfl) rfl ?_
              refine TL.no rfl (.gn rfl rfl rfl) rfl ?_
              refine TL.no rfl (.gn rfl rfl rfl) rfl ?_
              refine TL.no rfl (.gn rfl rfl rfl) rfl ?_
              refine TL.q rfl .u (Ex.py rfl rfl rfl) rfl ?_
              cases h
              exact TL.nil (X.jq [0, 0, 0] ⟨rfl, rfl⟩ (by rfl) (by rfl))
          · replace h := ifF c23 h
            replace c23 := eq_false_of_ne_true c23
            refine TL.run ft_cursitorref11_ok [26] rfl rfl ?_
            refine TL.no rfl (.gn rfl rfl (bn_t c23)) rfl ?_
            refine TL.no rfl (.gn rfl rfl (bn_t c23)) rfl ?_
            refine TL.no rfl (.gn rfl rfl (bn_t c23)) rfl ?_
            refine TL.no rfl (.gn rfl rfl (bn_t c23)) rfl ?_
            refine TL.no rfl (.gn rfl rfl (bn_t c23)) rfl ?_
            refine TL.q rfl .u (Ex.py rfl (bn_t c23) rfl) rfl ?_
            refine TL.run ft_cursitorref11_ok [33] rfl rfl ?_
            refine TL.no rfl (.gn rfl rfl rfl) rfl ?_
            refine TL.no rfl (.gn rfl rfl rfl) rfl ?_
            refine TL.no rfl (.gn rfl rfl rfl) rfl ?_
            refine TL.no rfl (.gn rfl rfl rfl) rfl ?_
            refine TL.no rfl (.gn rfl rfl rfl) rfl ?_
            refine TL.q rfl .u (Ex.py rfl rfl rfl) rfl ?_
            refine TL.run ft_cursitorref11_ok [40] rfl rfl ?_
            refine TL.no rfl (.gn rfl rfl rfl) rfl ?_
            refine TL.no rfl (.gn rfl rfl rfl) rfl ?_
            refine TL.no rfl (.gn rfl rfl rfl) rfl ?_
            refine TL.no rfl (.gn rfl rfl rfl) rfl ?_
            refine TL.no rfl (.gn rfl rfl rfl) rfl ?_
            refine TL.q rfl .u (Ex.py rfl rfl rfl) rfl ?_
            refine TL.run ft_cursitorref11_ok [47] rfl rfl ?_
            refine TL.no rfl (.gn rfl rfl rfl) rfl ?_
            refine TL.no rfl (.gn rfl rfl rfl) rfl ?_
            refine TL.no rfl (.gn rfl rfl rfl) rfl ?_
            refine TL.no rfl (.gn rfl rfl rfl) rfl ?_
            refine TL.no rfl (.gn rfl rfl rfl) rfl ?_
            refine TL.q rfl .u (Ex.py rfl rfl rfl) rfl ?_
            refine TL.run ft_cursitorref11_ok [54] rfl rfl ?_
            refine TL.no rfl (.gn rfl rfl rfl) rfl ?_
            refine TL.no rfl (.gn rfl rfl rfl) rfl ?_
            refine TL.no rfl (.gn rfl rfl rfl) rfl ?_
            refine TL.no rfl (.gn rfl rfl rfl) rfl ?_
            refine TL.no rfl (.gn rfl rfl rfl) rfl ?_
            refine TL.q rfl .u (Ex.py rfl rfl rfl) rfl ?_
            refine TL.run ft_cursitorref11_ok [61] rfl rfl ?_
            refine TL.no rfl (.gn rfl rfl rfl) rfl ?_
            refine TL.no rfl (.gn rfl rfl rfl) rfl ?_
            refine TL.no rfl (.gn rfl rfl rfl) rfl ?_
            refine TL.no rfl (.gn rfl rfl rfl) rfl ?_
            refine TL.no rfl (.gn rfl rfl rfl) rfl ?_
            refine TL.q rfl .u (Ex.py rfl rfl rfl) rfl ?_
            refine TL.run ft_cursitorref11_ok [68] rfl rfl ?_
            refine TL.no rfl (.gn rfl rfl rfl) rfl ?_
            refine TL.no rfl (.gn rfl rfl rfl) rfl ?_
            refine TL.no rfl (.gn rfl rfl rfl) rfl ?_
            refine TL.no rfl (.gn rfl rfl rfl) rfl ?_
            refine TL.no rfl (.gn rfl rfl rfl) rfl ?_
            refine TL.q rfl .u (Ex.py rfl rfl rfl) rfl ?_
            refine TL.run ft_cursitorref11_ok [75] rfl rfl ?_
            refine TL.no rfl (.gn rfl rfl rfl) rfl ?_
            refine TL.no rfl (.gn rfl rfl rfl) rfl ?_
            refine TL.no rfl (.gn rfl rfl rfl) rfl ?_
            refine TL.no rfl (.gn rfl rfl rfl) rfl ?_
            refine TL.no rfl (.gn rfl rfl rfl) rfl ?_
            refine TL.no rfl (.gn rfl rfl rfl) rfl ?_
            refine TL.no rfl (.gn rfl rfl rfl) rfl ?_
            refine TL.q rfl .u (Ex.py rfl rfl rfl) rfl ?_
            cases h
            exact TL.nil (X.jq [0, 0, 0] ⟨rfl, rfl⟩ (by rfl) (by rfl))
        · replace h := ifF c22 h
          replace c22 := eq_false_of_ne_true c22
          refine TL.run ft_cursitorref11_ok [19] rfl rfl ?_
          refine TL.no rfl (.gn rfl rfl (bn_t c22)) rfl ?_
          refine TL.no rfl (.gn rfl rfl (bn_t c22)) rfl ?_
          refine TL.no rfl (.gn rfl rfl (bn_t c22)) rfl ?_
          refine TL.no rfl (.gn rfl rfl (bn_t c22)) rfl ?_
          refine TL.no rfl (.gn rfl rfl (bn_t c22)) rfl ?_
          refine TL.q rfl .u (Ex.py rfl (bn_t c22) rfl) rfl ?_
          refine TL.run ft_cursitorref11_ok [26] rfl rfl ?_
          refine TL.no rfl (.gn rfl rfl rfl) rfl ?_
          refine TL.no rfl (.gn rfl rfl rfl) rfl ?_
          refine TL.no rfl (.gn rfl rfl rfl) rfl ?_
          refine TL.no rfl (.gn rfl rfl rfl) rfl ?_
          refine TL.no rfl (.gn rfl rfl rfl) rfl ?_
          refine TL.q rfl .u (Ex.py rfl rfl rfl) rfl ?_
          refine TL.run ft_cursitorref11_ok [33] rfl rfl ?_
          refine TL.no rfl (.gn rfl rfl rfl) rfl ?_
          refine TL.no rfl (.gn rfl rfl rfl) rfl ?_
          refine TL.no rfl (.gn rfl rfl rfl) rfl ?_
          refine TL.no rfl (.gn rfl rfl rfl) rfl ?_
          refine TL.no rfl (.gn rfl rfl rfl) rfl ?_
          refine TL.q rfl .u (Ex.py rfl rfl rfl) rfl ?_
          refine TL.run ft_cursitorref11_ok [40] rfl rfl ?_
          refine TL.no rfl (.gn rfl rfl rfl) rfl ?_
          refine TL.no rfl (.gn rfl rfl rfl) rfl ?_
          refine TL.no rfl (.gn rfl rfl rfl) rfl ?_
          refine TL.no rfl (.gn rfl rfl rfl) rfl ?_
          refine TL.no rfl (.gn rfl rfl rfl) rfl ?_
          refine TL.q rfl .u (Ex.py rfl rfl rfl) rfl ?_
          refine TL.run ft_cursitorref11_ok [47] rfl rfl ?_
          refine TL.no rfl (.gn rfl rfl rfl) rfl ?_
          refine TL.no rfl (.gn rfl rfl rfl) rfl ?_
          refine TL.no rfl (.gn rfl rfl rfl) rfl ?_
          refine TL.no rfl (.gn rfl rfl rfl) rfl ?_
          refine TL.no rfl (.gn rfl rfl rfl) rfl ?_
          refine TL.q rfl .u (Ex.py rfl rfl rfl) rfl ?_
          refine TL.run ft_cursitorref11_ok [54] rfl rfl ?_
          refine TL.no rfl (.gn rfl rfl rfl) rfl ?_
          refine TL.no rfl (.gn rfl rfl rfl) rfl ?_
          refine TL.no rfl (.gn rfl rfl rfl) rfl ?_
          refine TL.no rfl (.gn rfl rfl rfl) rfl ?_
          refine TL.no rfl (.gn rfl rfl rfl) rfl ?_
          refine TL.q rfl .u (Ex.py rfl rfl rfl) rfl ?_
          refine TL.run ft_cursitorref11_ok [61] rfl rfl ?_
          refine TL.no rfl (.gn rfl rfl rfl) rfl ?_
          refine TL.no rfl (.gn rfl rfl rfl) rfl ?_
          refine TL.no rfl (.gn rfl rfl rfl) rfl ?_
          refine TL.no rfl (.gn rfl rfl rfl) rfl ?_
          refine TL.no rfl (.gn rfl rfl rfl) rfl ?_
          refine TL.q rfl .u (Ex.py rfl rfl rfl) rfl ?_
          refine TL.run ft_cursitorref11_ok [68] rfl rfl ?_
          refine TL.no rfl (.gn rfl rfl rfl) rfl ?_
          refine TL.no rfl (.gn rfl rfl rfl) rfl ?_
          refine TL.no rfl (.gn rfl rfl rfl) rfl ?_
          refine TL.no rfl (.gn rfl rfl rfl) rfl ?_
          refine TL.no rfl (.gn rfl rfl rfl) rfl ?_
          refine TL.q rfl .u (Ex.py rfl rfl rfl) rfl ?_
          refine TL.run ft_cursitorref11_ok [75] rfl rfl ?_
          refine TL.no rfl (.gn rfl rfl rfl) rfl ?_
          refine TL.no rfl (.gn rfl rfl rfl) rfl ?_
          refine TL.no rfl (.gn rfl rfl rfl) rfl ?_
          refine TL.no rfl (.gn rfl rfl rfl) rfl ?_
          refine TL.no rfl (.gn rfl rfl rfl) rfl ?_
          refine TL.no rfl (.gn rfl rfl rfl) rfl ?_
          refine TL.no rfl (.gn rfl rfl rfl) rfl ?_
          refine TL.q rfl .u (Ex.py rfl rfl rfl) rfl ?_
          cases h
          exact TL.nil (X.jq [0, 0, 0] ⟨rfl, rfl⟩ (by rfl) (by rfl))
      · replace h := ifF c21 h
        refine TL.run ft_cursitorref11_ok [12] rfl rfl ?_
        refine TL.no rfl (.gn rfl rfl (bn_t (decide_eq_false c21))) rfl ?_
        refine TL.no rfl (.gn rfl rfl (bn_t (decide_eq_false c21))) rfl ?_
        refine TL.no rfl (.gn rfl rfl (bn_t (decide_eq_false c21))) rfl ?_
        refine TL.no rfl (.gn rfl rfl (bn_t (decide_eq_false c21))) rfl ?_
        refine TL.no rfl (.gn rfl rfl (bn_t (decide_eq_false c21))) rfl ?_
        refine TL.q rfl .u (Ex.py rfl (bn_t (decide_eq_false c21)) rfl) rfl ?_
        refine TL.run ft_cursitorref11_ok [19] rfl rfl ?_
        refine TL.no rfl (.gn rfl rfl rfl) rfl ?_
        refine TL.no rfl (.gn rfl rfl rfl) rfl ?_
        refine TL.no rfl (.gn rfl rfl rfl) rfl ?_
        refine TL.no rfl (.gn rfl rfl rfl) rfl ?_
        refine TL.no rfl (.gn rfl rfl rfl) rfl ?_
        refine TL.q rfl .u (Ex.py rfl rfl rfl) rfl ?_
        refine TL.run ft_cursitorref11_ok [26] rfl rfl ?_
        refine TL.no rfl (.gn rfl rfl rfl) rfl ?_
        refine TL.no rfl (.gn rfl rfl rfl) rfl ?_
        refine TL.no rfl (.gn rfl rfl rfl) rfl ?_
        refine TL.no rfl (.gn rfl rfl rfl) rfl ?_
        refine TL.no rfl (.gn rfl rfl rfl) rfl ?_
        refine TL.q rfl .u (Ex.py rfl rfl rfl) rfl ?_
        refine TL.run ft_cursitorref11_ok [33] rfl rfl ?_
        refine TL.no rfl (.gn rfl rfl rfl) rfl ?_
        refine TL.no rfl (.gn rfl rfl rfl) rfl ?_
        refine TL.no rfl (.gn rfl rfl rfl) rfl ?_
        refine TL.no rfl (.gn rfl rfl rfl) rfl ?_
        refine TL.no rfl (.gn rfl rfl rfl) rfl ?_
        refine TL.q rfl .u (Ex.py rfl rfl rfl) rfl ?_
        refine TL.run ft_cursitorref11_ok [40] rfl rfl ?_
        refine TL.no rfl (.gn rfl rfl rfl) rfl ?_
        refine TL.no rfl (.gn rfl rfl rfl) rfl ?_
        refine TL.no rfl (.gn rfl rfl rfl) rfl ?_
        refine TL.no rfl (.gn rfl rfl rfl) rfl ?_
        refine TL.no rfl (.gn rfl rfl rfl) rfl ?_
        refine TL.q rfl .u (Ex.py rfl rfl rfl) rfl ?_
        refine TL.run ft_cursitorref11_ok [47] rfl rfl ?_
        refine TL.no rfl (.gn rfl rfl rfl) rfl ?_
        refine TL.no rfl (.gn rfl rfl rfl) rfl ?_
        refine TL.no rfl (.gn rfl rfl rfl) rfl ?_
        refine TL.no rfl (.gn rfl rfl rfl) rfl ?_
        refine TL.no rfl (.gn rfl rfl rfl) rfl ?_
        refine TL.q rfl .u (Ex.py rfl rfl rfl) rfl ?_
        refine TL.run ft_cursitorref11_ok [54] rfl rfl ?_
        refine TL.no rfl (.gn rfl rfl rfl) rfl ?_
        refine TL.no rfl (.gn rfl rfl rfl) rfl ?_
        refine TL.no rfl (.gn rfl rfl rfl) rfl ?_
        refine TL.no rfl (.gn rfl rfl rfl) rfl ?_
        refine TL.no rfl (.gn rfl rfl rfl) rfl ?_
        refine TL.q rfl .u (Ex.py rfl rfl rfl) rfl ?_
        refine TL.run ft_cursitorref11_ok [61] rfl rfl ?_
        refine TL.no rfl (.gn rfl rfl rfl) rfl ?_
        refine TL.no rfl (.gn rfl rfl rfl) rfl ?_
        refine TL.no rfl (.gn rfl rfl rfl) rfl ?_
        refine TL.no rfl (.gn rfl rfl rfl) rfl ?_
        refine TL.no rfl (.gn rfl rfl rfl) rfl ?_
        refine TL.q rfl .u (Ex.py rfl rfl rfl) rfl ?_
        refine TL.run ft_cursitorref11_ok [68] rfl rfl ?_
        refine TL.no rfl (.gn rfl rfl rfl) rfl ?_
        refine TL.no rfl (.gn rfl rfl rfl) rfl ?_
        refine TL.no rfl (.gn rfl rfl rfl) rfl ?_
        refine TL.no rfl (.gn rfl rfl rfl) rfl ?_
        refine TL.no rfl (.gn rfl rfl rfl) rfl ?_
        refine TL.q rfl .u (Ex.py rfl rfl rfl) rfl ?_
        refine TL.run ft_cursitorref11_ok [75] rfl rfl ?_
        refine TL.no rfl (.gn rfl rfl rfl) rfl ?_
        refine TL.no rfl (.gn rfl rfl rfl) rfl ?_
        refine TL.no rfl (.gn rfl rfl rfl) rfl ?_
        refine TL.no rfl (.gn rfl rfl rfl) rfl ?_
        refine TL.no rfl (.gn rfl rfl rfl) rfl ?_
        refine TL.no rfl (.gn rfl rfl rfl) rfl ?_
        refine TL.no rfl (.gn rfl rfl rfl) rfl ?_
        refine TL.q rfl .u (Ex.py rfl rfl rfl) rfl ?_
        cases h
        exact TL.nil (X.jq [0, 0, 0] ⟨rfl, rfl⟩ (by rfl) (by rfl))
    · replace h := ifF c20 h
      refine TL.run ft_cursitorref11_ok [4, 5] rfl rfl ?_
      refine TL.no rfl (.gn rfl rfl (bn_t (decide_eq_false c20))) rfl ?_
      refine TL.no rfl (.gn rfl rfl (bn_t (decide_eq_false c20))) rfl ?_
      refine TL.no rfl (.gn rfl rfl (bn_t (decide_eq_false c20))) rfl ?_
      refine TL.no rfl (.gn rfl rfl (bn_t (decide_eq_false c20))) rfl ?_
      refine TL.no rfl (.gn rfl rfl (bn_t (decide_eq_false c20))) rfl ?_
      refine TL.q rfl .u (Ex.py rfl (bn_t (decide_eq_false c20)) rfl) rfl ?_
      refine TL.run ft_cursitorref11_ok [12] rfl rfl ?_
      refine TL.no rfl (.gn rfl rfl rfl) rfl ?_
      refine TL.no rfl (.gn rfl rfl rfl) rfl ?_
      refine TL.no rfl (.gn rfl rfl rfl) rfl ?_
      refine TL.no rfl (.gn rfl rfl rfl) rfl ?_
      refine TL.no rfl (.gn rfl rfl rfl) rfl ?_
      refine TL.q rfl .u (Ex.py rfl rfl rfl) rfl ?_
      refine TL.run ft_cursitorref11_ok [19] rfl rfl ?_
      refine TL.no rfl (.gn rfl rfl rfl) rfl ?_
      refine TL.no rfl (.gn rfl rfl rfl) rfl ?_
      refine TL.no rfl (.gn rfl rfl rfl) rfl ?_
      refine TL.no rfl (.gn rfl rfl rfl) rfl ?_
      refine TL.no rfl (.gn rfl rfl rfl) rfl ?_
      refine TL.q rfl .u (Ex.py rfl rfl rfl) rfl ?_
      refine TL.run ft_cursitorref11_ok [26] rfl rfl ?_
      refine TL.no rfl (.gn rfl rfl rfl) rfl ?_
      refine TL.no rfl (.gn rfl rfl rfl) rfl ?_
      refine TL.no rfl (.gn rfl rfl rfl) rfl ?_
      refine TL.no rfl (.gn rfl rfl rfl) rfl ?_
      refine TL.no rfl (.gn rfl rfl rfl) rfl ?_
      refine TL.q rfl .u (Ex.py rfl rfl rfl) rfl ?_
      refine TL.run ft_cursitorref11_ok [33] rfl rfl ?_
      refine TL.no rfl (.gn rfl rfl rfl) rfl ?_
      refine TL.no rfl (.gn rfl rfl rfl) rfl ?_
      refine TL.no rfl (.gn rfl rfl rfl) rfl ?_
      refine TL.no rfl (.gn rfl rfl rfl) rfl ?_
      refine TL.no rfl (.gn rfl rfl rfl) rfl ?_
      refine TL.q rfl .u (Ex.py rfl rfl rfl) rfl ?_
      refine TL.run ft_cursitorref11_ok [40] rfl rfl ?_
      refine TL.no rfl (.gn rfl rfl rfl) rfl ?_
      refine TL.no rfl (.gn rfl rfl rfl) rfl ?_
      refine TL.no rfl (.gn rfl rfl rfl) rfl ?_
      refine TL.no rfl (.gn rfl rfl rfl) rfl ?_
      refine TL.no rfl (.gn rfl rfl rfl) rfl ?_
      refine TL.q rfl .u (Ex.py rfl rfl rfl) rfl ?_
      refine TL.run ft_cursitorref11_ok [47] rfl rfl ?_
      refine TL.no rfl (.gn rfl rfl rfl) rfl ?_
      refine TL.no rfl (.gn rfl rfl rfl) rfl ?_
      refine TL.no rfl (.gn rfl rfl rfl) rfl ?_
      refine TL.no rfl (.gn rfl rfl rfl) rfl ?_
      refine TL.no rfl (.gn rfl rfl rfl) rfl ?_
      refine TL.q rfl .u (Ex.py rfl rfl rfl) rfl ?_
      refine TL.run ft_cursitorref11_ok [54] rfl rfl ?_
      refine TL.no rfl (.gn rfl rfl rfl) rfl ?_
      refine TL.no rfl (.gn rfl rfl rfl) rfl ?_
      refine TL.no rfl (.gn rfl rfl rfl) rfl ?_
      refine TL.no rfl (.gn rfl rfl rfl) rfl ?_
      refine TL.no rfl (.gn rfl rfl rfl) rfl ?_
      refine TL.q rfl .u (Ex.py rfl rfl rfl) rfl ?_
      refine TL.run ft_cursitorref11_ok [61] rfl rfl ?_
      refine TL.no rfl (.gn rfl rfl rfl) rfl ?_
      refine TL.no rfl (.gn rfl rfl rfl) rfl ?_
      refine TL.no rfl (.gn rfl rfl rfl) rfl ?_
      refine TL.no rfl (.gn rfl rfl rfl) rfl ?_
      refine TL.no rfl (.gn rfl rfl rfl) rfl ?_
      refine TL.q rfl .u (Ex.py rfl rfl rfl) rfl ?_
      refine TL.run ft_cursitorref11_ok [68] rfl rfl ?_
      refine TL.no rfl (.gn rfl rfl rfl) rfl ?_
      refine TL.no rfl (.gn rfl rfl rfl) rfl ?_
      refine TL.no rfl (.gn rfl rfl rfl) rfl ?_
      refine TL.no rfl (.gn rfl rfl rfl) rfl ?_
      refine TL.no rfl (.gn rfl rfl rfl) rfl ?_
      refine TL.q rfl .u (Ex.py rfl rfl rfl) rfl ?_
      refine TL.run ft_cursitorref11_ok [75] rfl rfl ?_
      refine TL.no rfl (.gn rfl rfl rfl) rfl ?_
      refine TL.no rfl (.gn rfl rfl rfl) rfl ?_
      refine TL.no rfl (.gn rfl rfl rfl) rfl ?_
      refine TL.no rfl (.gn rfl rfl rfl) rfl ?_
      refine TL.no rfl (.gn rfl rfl rfl) rfl ?_
      refine TL.no rfl (.gn rfl rfl rfl) rfl ?_
      refine TL.no rfl (.gn rfl rfl rfl) rfl ?_
      refine TL.q rfl .u (Ex.py rfl rfl rfl) rfl ?_
      cases h
      exact TL.nil (X.jq [0, 0, 0] ⟨rfl, rfl⟩ (by rfl) (by rfl))
  · rintro _ _ ⟨rfl, rfl⟩
    clear h
    have h := hk19
    clear hk19
    try dsimp only at h
    by_cases c32 : y18 = true
    · replace h := ifT c32 h
      refine X.seq ?_
      refine T.yes rfl c32 ?_
      refine T.seq (T.region rfl ?_)
      refine TL.run ft_cursitorref11_ok [0] rfl rfl ?_
      obtain rfl := Option.some.inj h
      exact TL.nil (X.seq (T.ret (X.rs (X.done1 [2] Try.results33 (RV.tm rfl) ⟨rfl, rfl, rfl⟩ (by rfl) (.inl rfl)))))
    · replace h := ifF c32 h
      replace c32 := eq_false_of_ne_true c32
      refine X.seq ?_
      refine T.no rfl c32 ?_
      refine T.skip (X.seq (T.seq (T.seq (T.region rfl ?_))))
      refine TL.run ft_cursitorref11_ok [0] rfl rfl ?_
      refine TL.nil (X.seq (T.block ?_))
      obtain ⟨E35, hE36, hO37⟩ := Option.bind_eq_some_iff.1 h
      refine T.lp (fun m e Rs => ∃ (y33 : Bool) (k34 : Nat), e = [(2, .pointer (some ⟨b5, 0, none⟩)), (3, .pointer (some ⟨b6, 0, none⟩)), (4, .bool y33), (5, .int .i64 (k34 : Int))] ∧ Rs = [BlkR b6 36 #[.int .i64 a1.fBase, .int .i64 a1.fLeader, .bool a1.fAppend, .bool a1.fTxn, .bool a1.fControl, .int .i64 a1.fLast, .int .i64 a1.fFirst, .int .i64 a1.fMax, .int .i64 a1.fProducer, .int .i64 a1.fEpoch, .int .i64 a1.fSequence, .slice A3 a1.fRecords.length c4], BlkR b5 36 #[.int .i64 a0.fBase, .int .i64 a0.fLeader, .bool a0.fAppend, .bool a0.fTxn, .bool a0.fControl, .int .i64 a0.fLast, .int .i64 a0.fFirst, .int .i64 a0.fMax, .int .i64 a0.fProducer, .int .i64 a0.fEpoch, .int .i64 a0.fSequence, .slice A1 a0.fRecords.length c2], EmpR] ∧ f_r11_Same_l1 a0 a1 m y33 k34 = some E35) (((a0.fRecords.length : Int)).toNat + 1) [0, 0, 0] ⟨false, 0, rfl, rfl, by exact hE36⟩ (by rfl) (by rfl) ?_
      rintro m38 _ _ ⟨y33, k34, rfl, rfl, hl40⟩
      clear hE36 h
      cases m38 with
      | zero =>
        rw [f_r11_Same_l1] at hl40
        cases hl40
      | succ m38 =>
        have h := hl40
        clear hl40
        rw [f_r11_Same_l1] at h
        refine T.seq (T.seq (T.region rfl ?_))
        refine TL.run ft_cursitorref11_ok [0, 1] rfl rfl ?_
        refine TL.q rfl .u (Ex.b1 1 rfl Try.isAgg34 rfl rfl) rfl ?_
        refine TL.q rfl .u (Ex.lenS rfl Try.runUnderlying34) rfl ?_
        refine TL.run ft_cursitorref11_ok [4] rfl rfl ?_
        by_cases c42 : (k34 : Int) < (a0.fRecords.length : Int)
        · replace h := ifT c42 h
          refine TL.nil (X.seq ?_)
          refine T.yes rfl (decide_eq_true c42) ?_
          refine T.skip (X.seq (T.seq (T.block (T.seq (T.draw (.q 0 (.q 1 (.q 2 (.q 3 (.q 4 (.q 5 (.q 6 (.q 7 (.q 8 (.q 9 (.e 10 (.q 11 .nil)))))))))))) [0, 0, 0] rfl mix_cursitorref11 (NoP.seq (NoP.blk (NoP.seq (NoP.seq (NoP.blk (NoP.seq np_post)))))) (by kernel_rfl) ?_)))))
          refine TD.run ft_cursitorref11_ok [0] rfl rfl ?_
          refine TD.q rfl .u (Ex.b1 1 rfl Try.isAgg34 rfl rfl) rfl ?_
          obtain ⟨x43, hx44, h⟩ := Option.bind_eq_some_iff.1 h
          obtain ⟨gz45, oz45, rfl, z45cs, z45cl, z45cc, z45nf, z45r⟩ := RX.elem (by decide) (RX.reads_left hX) hx44
          obtain ⟨z45S, z45r, z45rr⟩ := z45r
          obtain ⟨A46, c47, rfl, z45s0⟩ := z45r
          have hX48 : (RX.of (sliceRd 3 Hd_rd) [.slice A46 x43.fHeaders.length c47] x43.fHeaders).reads w F := ⟨z45S, z45s0, z45rr⟩
          refine TD.run ft_cursitorref11_ok [2] rfl rfl ?_
          refine TD.q rfl .u (Ex.ixS (k := k34) rfl rfl rfl Try.runUnderlying34 Try.sizeOf83 (List.getElem?_eq_some_iff.1 hx44).1) rfl ?_
          refine TD.q rfl .u (Ex.oS (us := [.int .i64 x43.fTime, .int .i64 x43.fOffset, .bool x43.fKey.null, .string (bsOf x43.fKey.data), .bool x43.fValue.null, .string (bsOf x43.fValue.data), .slice A46 x43.fHeaders.length c47]) 0 rfl Try.isAgg83 Try.sizeOf83 z45nf z45cc rfl rfl rfl) rfl ?_
          refine TD.run ft_cursitorref11_ok [5] rfl rfl ?_
          refine TD.q rfl .u (Ex.b1 0 rfl Try.isAgg34 rfl rfl) rfl ?_
          obtain ⟨x49, hx50, h⟩ := Option.bind_eq_some_iff.1 h
          obtain ⟨gz51, oz51, rfl, z51cs, z51cl, z51cc, z51nf, z51r⟩ := RX.elem (by decide) (RX.reads_right hX) hx50
          obtain ⟨z51S, z51r, z51rr⟩ := z51r
          obtain ⟨A52, c53, rfl, z51s0⟩ := z51r
          have hX54 : (RX.of (sliceRd 3 Hd_rd) [.slice A52 x49.fHeaders.length c53] x49.fHeaders).reads w F := ⟨z51S, z51s0, z51rr⟩
          refine TD.run ft_cursitorref11_ok [7] rfl rfl ?_
          refine TD.q rfl .u (Ex.ixS (k := k34) rfl rfl rfl Try.runUnderlying34 Try.sizeOf83 (List.getElem?_eq_some_iff.1 hx50).1) rfl ?_
          refine TD.q rfl .u (Ex.oS (us := [.int .i64 x49.fTime, .int .i64 x49.fOffset, .bool x49.fKey.null, .string (bsOf x49.fKey.data), .bool x49.fValue.null, .string (bsOf x49.fValue.data), .slice A52 x49.fHeaders.length c53]) 0 rfl Try.isAgg83 Try.sizeOf83 z51nf z51cc rfl rfl rfl) rfl ?_
          obtain ⟨x55, hx56, h⟩ := Option.bind_eq_some_iff.1 h
          refine TD.ce rfl .u (.fn Try.call60 rfl) (f_r07_Same_spec x43 _ _ x49 _ _ _ hx56) (fun _ hs => (RX.reads_and (SrcE.old hs hX48) (SrcE.old hs hX54))) rfl [0, 0, 0] (rfl) ?_
          refine TD.run ft_cursitorref11_ok [11] rfl rfl ?_
          by_cases c57 : x55 = true
          · replace h := ifT c57 h
            refine TD.nil (X.seq ?_)
            refine T.no rfl (bn_f c57) ?_
            refine T.skip (X.blk (X.seq (T.region rfl ?_)))
            replace h := guard_some h
            obtain ⟨c58, h⟩ := h
            refine TL.run ft_cursitorref11_ok [0] rfl rfl ?_
            refine TL.q rfl .u (Ex.add rfl rfl c58) rfl ?_
            refine TL.run ft_cursitorref11_ok [2] rfl rfl ?_
            exact TL.nil (X.back (m' := m38) [0, 0, 0] (by omega) ⟨y33, k34 + 1, rfl, rfl, h⟩ (by rfl) (by rfl))
          · replace h := ifF c57 h
            replace c57 := eq_false_of_ne_true c57
            refine TD.nil (X.seq ?_)
            refine T.yes rfl (bn_t c57) ?_
            refine T.seq (T.region rfl ?_)
            refine TL.run ft_cursitorref11_ok [0] rfl rfl ?_
            obtain rfl := Option.some.inj h
            replace h := hO37
            clear hO37
            try dsimp only at h
            obtain rfl := Option.some.inj h
            exact TL.nil (X.seq (T.ret (X.rb (X.rs (X.rs (X.rb (X.rs (X.done1 [2] Try.results33 (RV.tm rfl) ⟨rfl, rfl, rfl⟩ (by rfl) (.inl rfl)))))))))
        · replace h := ifF c42 h
          refine TL.nil (X.seq ?_)
          refine T.no rfl (decide_eq_false c42) ?_
          obtain rfl := Option.some.inj h
          replace h := hO37
          clear hO37
          try dsimp only at h
          refine T.exit (X.exs (X.exs (X.ex (X.seq (T.seq (T.region rfl ?_))))))
          refine TL.run ft_cursitorref11_ok [0] rfl rfl ?_
          obtain rfl := Option.some.inj h
          exact TL.nil (X.seq (T.ret (X.done1 [2] Try.results33 (RV.tm rfl) ⟨rfl, rfl, rfl⟩ (by rfl) (.inl rfl))))
def f_r11_Rows_l1 (a0 : List Bat) (a1 : List Bat) : Nat → Bool → Nat → Option (Lp Bool (Bool × Nat))
  | 0, _, _ => none
  | m11 + 1, y6, k7 => if (k7 : Int) < (a0.length : Int) then ((a0[k7]?).bind fun x16 => (a1[k7]?).bind fun x22 => (f_r11_Same x16 x22).bind fun x28 => if x28 = true then (if -9223372036854775808 ≤ ((k7 : Int) + 1) ∧ ((k7 : Int) + 1) ≤ 9223372036854775807 then (f_r11_Rows_l1 a0 a1 m11 y6 (k7 + 1)) else none) else some (Lp.ret false)) else (some (Lp.go (y6, k7)))
def f_r11_Rows (a0 : List Bat) (a1 : List Bat) : Option (Bool) := if (a0.length : Int) = (a1.length : Int) then ((f_r11_Rows_l1 a0 a1 (((a0.length : Int)).toNat + 1) false 0).bind fun e => match e with | .ret r => some r | .go (y32, k33) => some true) else some false
set_option maxRecDepth 100000 in
set_option maxHeartbeats 4000000 in
theorem f_r11_Rows_spec (a0 : List Bat) (A1 : Option Addr) (c2 : Nat) (a1 : List Bat) (A3 : Option Addr) (c4 : Nat) (r : Bool) (h : f_r11_Rows a0 a1 = some r) : SpecX Try.prog 11 #[.slice A1 a0.length c2, .slice A3 a1.length c4] (RX.and (RX.of (sliceRd 12 Bat_rd) [.slice A1 a0.length c2] a0) (RX.of (sliceRd 12 Bat_rd) [.slice A3 a1.length c4] a1)) (EmpR) (fun v A' N => v = .bool r ∧ A' = EmpR ∧ N = []) := by
  refine enterA Try.func11 rfl Try.ntmps11 rfl ?_
  intro F w hX
  unfold f_r11_Rows at h
  refine T.seq (T.region rfl ?_)
  refine TL.run ft_cursitorref11_ok [0] rfl rfl ?_
  refine TL.nil (X.seq (T.seq (T.seq (T.region rfl ?_))))
  refine TL.run ft_cursitorref11_ok [0] rfl rfl ?_
  refine TL.q rfl .u (Ex.lenS rfl Try.runUnderlying23) rfl ?_
  refine TL.run ft_cursitorref11_ok [2] rfl rfl ?_
  refine TL.q rfl .u (Ex.lenS rfl Try.runUnderlying23) rfl ?_
  refine TL.run ft_cursitorref11_ok [4] rfl rfl ?_
  by_cases c5 : (a0.length : Int) = (a1.length : Int)
  · replace h := ifT c5 h
    refine TL.nil (X.seq ?_)
    refine T.no rfl (bn_f (decide_eq_true c5)) ?_
    refine T.skip (X.seq (T.seq (T.seq (T.region rfl ?_))))
    refine TL.run ft_cursitorref11_ok [0] rfl rfl ?_
    refine TL.nil (X.seq (T.block ?_))
    obtain ⟨E8, hE9, hO10⟩ := Option.bind_eq_some_iff.1 h
    refine T.lp (fun m e Rs => ∃ (y6 : Bool) (k7 : Nat), e = [(0, .slice A1 a0.length c2), (1, .slice A3 a1.length c4), (4, .bool y6), (5, .int .i64 (k7 : Int))] ∧ Rs = [EmpR] ∧ f_r11_Rows_l1 a0 a1 m y6 k7 = some E8) (((a0.length : Int)).toNat + 1) [0] ⟨false, 0, rfl, rfl, by exact hE9⟩ (by rfl) (by rfl) ?_
    rintro m11 _ _ ⟨y6, k7, rfl, rfl, hl13⟩
    clear hE9 h
    cases m11 with
    | zero =>
      rw [f_r11_Rows_l1] at hl13
      cases hl13
    | succ m11 =>
      have h := hl13
      clear hl13
      rw [f_r11_Rows_l1] at h
      refine T.seq (T.seq (T.region rfl ?_))
      refine TL.run ft_cursitorref11_ok [0, 1] rfl rfl ?_
      refine TL.q rfl .u (Ex.lenS rfl Try.runUnderlying23) rfl ?_
      refine TL.run ft_cursitorref11_ok [3] rfl rfl ?_
      by_cases c15 : (k7 : Int) < (a0.length : Int)
      · replace h := ifT c15 h
        refine TL.nil (X.seq ?_)
        refine T.yes rfl (decide_eq_true c15) ?_
        refine T.skip (X.seq (T.seq (T.block (T.seq (T.draw (.q 0 (.q 1 (.q 2 (.q 3 (.q 4 (.q 5 (.q 6 (.q 7 (.e 8 (.q 9 .nil)))))))))) [0] rfl mix_cursitorref11 (NoP.seq (NoP.blk (NoP.seq (NoP.seq (NoP.blk (NoP.seq np_post)))))) (by kernel_rfl) ?_)))))
        obtain ⟨x16, hx17, h⟩ := Option.bind_eq_some_iff.1 h
        obtain ⟨gz18, oz18, rfl, z18cs, z18cl, z18cc, z18nf, z18r⟩ := RX.elem (by decide) (RX.reads_left hX) hx17
        obtain ⟨z18S, z18r, z18rr⟩ := z18r
        obtain ⟨A19, c20, rfl, z18s0⟩ := z18r
        have hX21 : (RX.of (sliceRd 7 Rec_rd) [.slice A19 x16.fRecords.length c20] x16.fRecords).reads w F := ⟨z18S, z18s0, z18rr⟩
        refine TD.run ft_cursitorref11_ok [0, 1] rfl rfl ?_
        refine TD.q rfl .u (Ex.ixS (k := k7) rfl rfl rfl Try.runUnderlying23 Try.sizeOf36 (List.getElem?_eq_some_iff.1 hx17).1) rfl ?_
        refine TD.q rfl .u (Ex.oS (us := [.int .i64 x16.fBase, .int .i64 x16.fLeader, .bool x16.fAppend, .bool x16.fTxn, .bool x16.fControl, .int .i64 x16.fLast, .int .i64 x16.fFirst, .int .i64 x16.fMax, .int .i64 x16.fProducer, .int .i64 x16.fEpoch, .int .i64 x16.fSequence, .slice A19 x16.fRecords.length c20]) 0 rfl Try.isAgg36 Try.sizeOf36 z18nf z18cc rfl rfl rfl) rfl ?_
        obtain ⟨x22, hx23, h⟩ := Option.bind_eq_some_iff.1 h
        obtain ⟨gz24, oz24, rfl, z24cs, z24cl, z24cc, z24nf, z24r⟩ := RX.elem (by decide) (RX.reads_right hX) hx23
        obtain ⟨z24S, z24r, z24rr⟩ := z24r
        obtain ⟨A25, c26, rfl, z24s0⟩ := z24r
        have hX27 : (RX.of (sliceRd 7 Rec_rd) [.slice A25 x22.fRecords.length c26] x22.fRecords).reads w F := ⟨z24S, z24s0, z24rr⟩
        refine TD.run ft_cursitorref11_ok [4, 5] rfl rfl ?_
        refine TD.q rfl .u (Ex.ixS (k := k7) rfl rfl rfl Try.runUnderlying23 Try.sizeOf36 (List.getElem?_eq_some_iff.1 hx23).1) rfl ?_
        refine TD.q rfl .u (Ex.oS (us := [.int .i64 x22.fBase, .int .i64 x22.fLeader, .bool x22.fAppend, .bool x22.fTxn, .bool x22.fControl, .int .i64 x22.fLast, .int .i64 x22.fFirst, .int .i64 x22.fMax, .int .i64 x22.fProducer, .int .i64 x22.fEpoch, .int .i64 x22.fSequence, .slice A25 x22.fRecords.length c26]) 0 rfl Try.isAgg36 Try.sizeOf36 z24nf z24cc rfl rfl rfl) rfl ?_
        obtain ⟨x28, hx29, h⟩ := Option.bind_eq_some_iff.1 h
        refine TD.ce rfl .u (.fn Try.call33 rfl) (f_r11_Same_spec x16 _ _ x22 _ _ _ hx29) (fun _ hs => (RX.reads_and (SrcE.old hs hX21) (SrcE.old hs hX27))) rfl [0] (rfl) ?_
        refine TD.run ft_cursitorref11_ok [9] rfl rfl ?_
        by_cases c30 : x28 = true
        · replace h := ifT c30 h
          refine TD.nil (X.seq ?_)
          refine T.no rfl (bn_f c30) ?_
          refine T.skip (X.blk (X.seq (T.region rfl ?_)))
          replace h := guard_some h
          obtain ⟨c31, h⟩ := h
          refine TL.run ft_cursitorref11_ok [0] rfl rfl ?_
          refine TL.q rfl .u (Ex.add rfl rfl c31) rfl ?_
          refine TL.run ft_cursitorref11_ok [2] rfl rfl ?_
          exact TL.nil (X.back (m' := m11) [0] (by omega) ⟨y6, k7 + 1, rfl, rfl, h⟩ (by rfl) (by rfl))
        · replace h := ifF c30 h
          replace c30 := eq_false_of_ne_true c30
          refine TD.nil (X.seq ?_)
          refine T.yes rfl (bn_t c30) ?_
          refine T.seq (T.region rfl ?_)
          refine TL.run ft_cursitorref11_ok [0] rfl rfl ?_
          obtain rfl := Option.some.inj h
          replace h := hO10
          clear hO10
          try dsimp only at h
          obtain rfl := Option.some.inj h
          exact TL.nil (X.seq (T.ret (X.rb (X.rs (X.rs (X.rb (X.rs (X.done1 [0] Try.results11 (RV.tm rfl) ⟨rfl, rfl, rfl⟩ (by rfl) (.inl rfl)))))))))
      · replace h := ifF c15 h
        refine TL.nil (X.seq ?_)
        refine T.no rfl (decide_eq_false c15) ?_
        obtain rfl := Option.some.inj h
        replace h := hO10
        clear hO10
        try dsimp only at h
        refine T.exit (X.exs (X.exs (X.ex (X.seq (T.seq (T.region rfl ?_))))))
        refine TL.run ft_cursitorref11_ok [0] rfl rfl ?_
        obtain rfl := Option.some.inj h
        exact TL.nil (X.seq (T.ret (X.done1 [0] Try.results11 (RV.tm rfl) ⟨rfl, rfl, rfl⟩ (by rfl) (.inl rfl))))
  · replace h := ifF c5 h
    refine TL.nil (X.seq ?_)
    refine T.yes rfl (bn_t (decide_eq_false c5)) ?_
    refine T.seq (T.region rfl ?_)
    refine TL.run ft_cursitorref11_ok [0] rfl rfl ?_
    obtain rfl := Option.some.inj h
    exact TL.nil (X.seq (T.ret (X.rs (X.done1 [0] Try.results11 (RV.tm rfl) ⟨rfl, rfl, rfl⟩ (by rfl) (.inl rfl)))))
def f_r11_int32s (a0 : Int) (a1 : Int) : Option (Bool) := if a0 ≥ a1 then (if a0 ≤ 2147483647 then some true else some false) else some false
def f_r11_producer (a0 : Bat) : Option (Bool) := if a0.fProducer = (-1) then (if a0.fEpoch = (-1) then (if a0.fSequence = (-1) then (if a0.fTxn = true then some false else some true) else some false) else some false) else (if a0.fProducer < 0 then some false else (if a0.fEpoch < 0 then some false else (if a0.fEpoch > 32767 then some false else (if a0.fControl = true then (if a0.fSequence = (-1) then some true else some false) else ((f_r11_int32s a0.fSequence 0).bind fun x13 => some x13)))))
def f_r11_times_l1 (a0 : Bat) : Nat → Int → Int → Nat → Option (Lp Int (Int × Int × Nat))
  | 0, _, _, _ => none
  | m10 + 1, y4, y5, k6 => if (k6 : Int) < (a0.fRecords.length : Int) then ((a0.fRecords[k6]?).bind fun x15 => if -9223372036854775808 ≤ (9223372036854775807 - a0.fFirst) ∧ (9223372036854775807 - a0.fFirst) ≤ 9223372036854775807 then (if x15.fTime > (9223372036854775807 - a0.fFirst) then (some (Lp.ret (-1))) else (if -9223372036854775808 ≤ (-a0.fFirst) ∧ (-a0.fFirst) ≤ 9223372036854775807 then (if x15.fTime < (-a0.fFirst) then (some (Lp.ret (-1))) else (if -9223372036854775808 ≤ (a0.fFirst + x15.fTime) ∧ (a0.fFirst + x15.fTime) ≤ 9223372036854775807 then (if (a0.fFirst + x15.fTime) > y5 then (if -9223372036854775808 ≤ (a0.fFirst + x15.fTime) ∧ (a0.fFirst + x15.fTime) ≤ 9223372036854775807 then (if -9223372036854775808 ≤ ((k6 : Int) + 1) ∧ ((k6 : Int) + 1) ≤ 9223372036854775807 then (f_r11_times_l1 a0 m10 y4 (a0.fFirst + x15.fTime) (k6 + 1)) else none) else none) else (if -9223372036854775808 ≤ ((k6 : Int) + 1) ∧ ((k6 : Int) + 1) ≤ 9223372036854775807 then (f_r11_times_l1 a0 m10 y4 y5 (k6 + 1)) else none)) else none)) else none)) else none) else (some (Lp.go (y4, y5, k6)))
def f_r11_times (a0 : Bat) : Option (Int) := (f_r11_times_l1 a0 (((a0.fRecords.length : Int)).toNat + 1) 0 a0.fFirst 0).bind fun e => match e with | .ret r => some r | .go (y30, y31, k32) => some y31
def f_r11_orders_l1 (a0 : Bat) : Nat → Int → Nat → Option (Lp Int (Int × Nat))
  | 0, _, _ => none
  | m9 + 1, y4, k5 => if (k5 : Int) < (a0.fRecords.length : Int) then ((a0.fRecords[k5]?).bind fun x14 => if x14.fOffset > a0.fLast then some (Lp.ret 13) else (if (k5 : Int) > 0 then (if -9223372036854775808 ≤ ((k5 : Int) - 1) ∧ ((k5 : Int) - 1) ≤ 9223372036854775807 then (if 0 ≤ ((k5 : Int) - 1) then ((a0.fRecords[((k5 : Int) - 1).toNat]?).bind fun x24 => if x14.fOffset ≤ x24.fOffset then some (Lp.ret 13) else (if x14.fOffset < 0 then some (Lp.ret 13) else (if -9223372036854775808 ≤ (9223372036854775807 - a0.fFirst) ∧ (9223372036854775807 - a0.fFirst) ≤ 9223372036854775807 then (if x14.fTime > (9223372036854775807 - a0.fFirst) then some (Lp.ret 11) else (if -9223372036854775808 ≤ (-a0.fFirst) ∧ (-a0.fFirst) ≤ 9223372036854775807 then (if x14.fTime < (-a0.fFirst) then some (Lp.ret 11) else (if -9223372036854775808 ≤ ((k5 : Int) + 1) ∧ ((k5 : Int) + 1) ≤ 9223372036854775807 then (f_r11_orders_l1 a0 m9 y4 (k5 + 1)) else none)) else none)) else none))) else none) else none) else (if x14.fOffset < 0 then some (Lp.ret 13) else (if -9223372036854775808 ≤ (9223372036854775807 - a0.fFirst) ∧ (9223372036854775807 - a0.fFirst) ≤ 9223372036854775807 then (if x14.fTime > (9223372036854775807 - a0.fFirst) then some (Lp.ret 11) else (if -9223372036854775808 ≤ (-a0.fFirst) ∧ (-a0.fFirst) ≤ 9223372036854775807 then (if x14.fTime < (-a0.fFirst) then some (Lp.ret 11) else (if -9223372036854775808 ≤ ((k5 : Int) + 1) ∧ ((k5 : Int) + 1) ≤ 9223372036854775807 then (f_r11_orders_l1 a0 m9 y4 (k5 + 1)) else none)) else none)) else none)))) else (some (Lp.go (y4, k5)))
def f_r11_orders (a0 : Bat) : Option (Int) := (f_r11_orders_l1 a0 (((a0.fRecords.length : Int)).toNat + 1) 0 0).bind fun e => match e with | .ret r => some r | .go (y47, k48) => (if a0.fAppend = true then some 0 else ((f_r11_times a0).bind fun x50 => if x50 = a0.fMax then some 0 else some 11))
def f_r11_Check_l1 (a0 : Bat) : Nat → Int → Nat → Option (Lp Int (Int × Nat))
  | 0, _, _ => none
  | m26 + 1, y21, k22 => if (k22 : Int) < (a0.fRecords.length : Int) then ((a0.fRecords[k22]?).bind fun x31 => (f_r07_Right x31).bind fun x37 => if x37 = 0 then (if -9223372036854775808 ≤ ((k22 : Int) + 1) ∧ ((k22 : Int) + 1) ≤ 9223372036854775807 then (f_r11_Check_l1 a0 m26 y21 (k22 + 1)) else none) else some (Lp.ret x37)) else (some (Lp.go (y21, k22)))
def f_r11_Check_l2 (a0 : Bat) : Nat → Int → Nat → Option (Lp Int (Int × Nat))
  | 0, _, _ => none
  | m77 + 1, y72, k73 => if (k73 : Int) < (a0.fRecords.length : Int) then ((a0.fRecords[k73]?).bind fun x82 => (f_r07_Right x82).bind fun x88 => if x88 = 0 then (if -9223372036854775808 ≤ ((k73 : Int) + 1) ∧ ((k73 : Int) + 1) ≤ 9223372036854775807 then (f_r11_Check_l2 a0 m77 y72 (k73 + 1)) else none) else some (Lp.ret x88)) else (some (Lp.go (y72, k73)))
def f_r11_Check (a0 : Bat) : Option (Int) := if a0.fBase < 0 then some 11 else ((f_r11_int32s a0.fLeader (-1)).bind fun x5 => if x5 = true then ((f_r11_int32s a0.fLast 0).bind fun x8 => if x8 = true then (if -9223372036854775808 ≤ (9223372036854775807 - a0.fBase) ∧ (9223372036854775807 - a0.fBase) ≤ 9223372036854775807 then (if a0.fLast > (9223372036854775807 - a0.fBase) then some 11 else (if a0.fFirst < 0 then some 11 else (if a0.fMax < 0 then some 11 else (if a0.fControl = true then (if a0.fTxn = true then ((f_r11_producer a0).bind fun x17 => if x17 = true then (if (a0.fRecords.length : Int) = 1 then ((f_r11_Check_l1 a0 (((a0.fRecords.length : Int)).toNat + 1) 0 0).bind fun e => match e with | .ret r => some r | .go (y54, k55) => ((a0.fRecords[0]?).bind fun x56 => (f_r08_Read x56).bind fun (x62, x63, x64) => if x64 = 0 then ((f_r11_orders a0).bind fun x67 => some x67) else some x64)) else some 10) else some 11) else some 8) else ((f_r11_producer a0).bind fun x69 => if x69 = true then ((f_r11_Check_l2 a0 (((a0.fRecords.length : Int)).toNat + 1) 0 0).bind fun e => match e with | .ret r => some r | .go (y94, k95) => ((f_r11_orders a0).bind fun x96 => some x96)) else some 11))))) else none) else some 11) else some 11)
end Go.Proofs.Ytahjmpipllajcaa.Sl
namespace Go.Proofs.Ytahjmpipllajcaa.Sl
open Go.RowKit Go.Deep Go.ChangeShapes
set_option linter.unusedVariables false
def andRd {α : Type} (E : Rd α) (W : α → Prop) : Rd α := ⟨fun w S cs a => E.P w S cs a ∧ W a, fun h k => ⟨E.mono h.1 k, h.2⟩, fun h k => ⟨E.move h.1 k, h.2⟩⟩
section
variable {H : Type} (enc : TypeId × Value → H) (P : Program) {α β : Type}
def OpensW (t : TypeId) (E : Rd α) : Prop :=
  ∀ (w : World) (fuel : Nat) (cs : List Value) (x : DataW H × List MemPlace), DataW.trod enc P w 0 (fun _ => true) true fuel t cs = some x → (∀ m, m ∈ x.1.weights P t → m ≤ reachBytes) → ∃ a, E.P w (fun k => k < w.heap.size) cs a
def OpensWFs (off : Nat) (fs : List Field) (n : Nat) (E : Rd α) : Prop :=
  ∀ (w : World) (fuel : Nat) (cs : List Value) (xs : List (DataW H × List MemPlace)), cs.length = off + n → xs.length = fs.length →
    (∀ (i : Nat) (f : Field), fs[i]? = some f → DataW.trod enc P w 0 (fun _ => true) true fuel f.type ((cs.drop f.offset).take (P.cellsOf f.type)) = xs[i]?) →
    (∀ m, m ∈ DataW.weightsEach P (fs.map (·.type)) (xs.map (·.1)) → m ≤ reachBytes) → ∃ a, E.P w (fun k => k < w.heap.size) (cs.drop off) a
variable {enc P}
theorem opensW_weak {t : TypeId} {E : Rd α} {E' : Rd β} (f : α → β) (h : OpensW enc P t E) (hf : ∀ w S cs a, E.P w S cs a → E'.P w S cs (f a)) : OpensW enc P t E' := by
  intro w fuel cs x hx hw
  obtain ⟨a, ha⟩ := h w fuel cs x hx hw
  exact ⟨f a, hf _ _ _ _ ha⟩
theorem opensW_of {t : TypeId} {E : Rd α} {E' : Rd β} (f : α → β) (h : Opens enc P t E) (hf : ∀ w S cs a, E.P w S cs a → E'.P w S cs (f a)) : OpensW enc P t E' := by
  intro w fuel cs x hx hw
  obtain ⟨a, ha⟩ := h w fuel cs x hx
  exact ⟨f a, hf _ _ _ _ ha⟩
def wI (n : Int) : Prop := -9223372036854775808 ≤ n ∧ n ≤ 9223372036854775807
def wB (_ : Bool) : Prop := True
def wS (l : List UInt8) : Prop := l.length ≤ 140737488351232
def wU8 (n : Int) : Prop := 0 ≤ n ∧ n ≤ 255
def wL (W : α → Prop) (l : List α) : Prop := l.length ≤ 140737488351232 ∧ ∀ x, x ∈ l → W x
theorem op_i64 {t : TypeId} (ht : P.underlying t = some (.int .i64)) : OpensW enc P t (andRd intE wI) := opensW_of id (opens_int ht) (fun w S cs a h => ⟨h.1, Go.bounds_i64 h.2⟩)
theorem op_u8 {t : TypeId} (ht : P.underlying t = some (.int .u8)) : OpensW enc P t (andRd u8E wU8) := opensW_of id (opens_int ht) (fun w S cs a h => ⟨h.1, Go.bounds_u8 h.2⟩)
theorem op_bool {t : TypeId} (ht : P.underlying t = some .bool) : OpensW enc P t (andRd boolE wB) := opensW_of id (opens_bool ht) (fun w S cs a h => ⟨h, trivial⟩)
theorem op_str {t : TypeId} (ht : P.underlying t = some .string) : OpensW enc P t (andRd strE wS) := by
  intro w fuel cs x h hw
  obtain ⟨s, rfl, rfl, hs⟩ := DataW.trod_string ht h
  have := hw s.data.toList.length (by simp [DataW.weights])
  exact ⟨s.data.toList, by cases s; simp [strE, bsOf], this⟩
theorem slice_and {size : Nat} {E : Rd α} {W : α → Prop} {w : World} {S : Nat → Prop} {cs : List Value} {l : List α} (h : (sliceRd size (andRd E W)).P w S cs l) : (sliceRd size E).P w S cs l ∧ ∀ x, x ∈ l → W x := by
  rcases h with ⟨h, rfl⟩ | ⟨a, cap, h1, h2, h3, h4, h5⟩
  · exact ⟨.inl ⟨h, rfl⟩, fun x hx => by simp at hx⟩
  · refine ⟨.inr ⟨a, cap, h1, h2, h3, h4, fun i x hx => ?_⟩, fun x hx => ?_⟩
    · obtain ⟨cs, k1, k2, k3⟩ := h5 i x hx
      exact ⟨cs, k1, k2, k3.1⟩
    · obtain ⟨i, hi⟩ := List.getElem?_of_mem hx
      obtain ⟨cs, k1, k2, k3⟩ := h5 i x hi
      exact k3.2
theorem weightsAll_mem {e : TypeId} {l : List (DataW H)} {d : DataW H} {m : Nat} (hd : d ∈ l) (hm : m ∈ d.weights P e) : m ∈ DataW.weightsAll P e l := by
  induction l with
  | nil => simp at hd
  | cons x l ih =>
    simp only [DataW.weightsAll, List.mem_append]
    rcases List.mem_cons.1 hd with rfl | h
    · exact .inl hm
    · exact .inr (ih h)
theorem op_slice {t e : TypeId} {E : Rd α} {W : α → Prop} (size bytes : Nat) (ht : P.underlying t = some (.slice e)) (hc : P.cellsOf e = size) (hb : P.bytesOf e = bytes) (hp : 0 < size) (hpb : 0 < bytes) (he : OpensW enc P e (andRd E W)) : OpensW enc P t (andRd (sliceRd size E) (wL W)) := by
  intro w fuel cs x h hw
  rcases open_slice ht h with ⟨rfl, _⟩ | ⟨a, len, cap, m, n, D, Pl, rfl, _, hl, hm, hmm, rfl, hx⟩
  · exact ⟨[], .inl ⟨rfl, rfl⟩, by simp, fun x hx => by simp at hx⟩
  have hlm : len ≤ m := by rw [hmm]; split <;> omega
  have hlen : len ≤ 140737488351232 := by
    have h1 := hw ((((List.range len).map D).length + ((List.range (m - len)).map fun j => D (len + j)).length) * P.bytesOf e) (by simp only [DataW.weights, ht]; exact List.mem_cons_self)
    rw [hb] at h1
    simp only [List.length_map, List.length_range] at h1
    have h2 : (len + (m - len)) * 1 ≤ (len + (m - len)) * bytes := Nat.mul_le_mul_left _ hpb
    have h3 : reachBytes = 140737488351232 := rfl
    omega
  have hwe : ∀ i, i < len → ∀ z, z ∈ (D i).weights P e → z ≤ reachBytes := by
    intro i hi z hz
    apply hw
    simp only [DataW.weights, ht]
    exact List.mem_cons_of_mem _ (List.mem_append.2 (.inl (weightsAll_mem (d := D i) (List.mem_map.2 ⟨i, List.mem_range.2 hi, rfl⟩) hz)))
  rw [hc] at hx
  have each : ∀ i : Fin len, ∃ y : α, ∃ cs, cs.length = size ∧ (∀ j, j < size → w.cell? (a.add (i.val * size + j)) = cs[j]?) ∧ (andRd E W).P w (fun k => k < w.heap.size) cs y := by
    intro i
    obtain ⟨cs', h1, h2⟩ := hx i.val (by have := i.isLt; omega)
    obtain ⟨_, h3, h4⟩ := World.cells?_some h1
    obtain ⟨y, hy⟩ := he _ _ _ _ h2 (hwe i.val i.isLt)
    refine ⟨y, cs', h3, fun j hj => ?_, hy⟩
    rw [← h4 j hj, add_add]
  obtain ⟨f, hf⟩ := Classical.axiomOfChoice each
  have hs : (sliceRd size (andRd E W)).P w (fun k => k < w.heap.size) [.slice (some a) len cap] ((List.finRange len).map f) := by
    refine .inr ⟨a, cap, by simp, by simpa using hl, hm, fun hz => ?_, ?_⟩
    · simp at hz
      obtain ⟨cs', k1, k2, k3⟩ := hf ⟨0, by omega⟩
      have := k2 0 hp
      rw [List.getElem?_eq_getElem (by omega)] at this
      simp only [World.cell?] at this
      rw [block_add] at this
      rcases Nat.lt_or_ge a.block w.heap.size with h | h
      · exact h
      · rw [Array.getElem?_eq_none h] at this
        simp at this
    · intro i x hx
      rw [List.getElem?_map, Option.map_eq_some_iff] at hx
      obtain ⟨j, hj, rfl⟩ := hx
      have e : j.val = i := by
        obtain ⟨h1, h2⟩ := List.getElem?_eq_some_iff.1 hj
        rw [← h2]
        simp
      rw [← e]
      exact hf j
  obtain ⟨k1, k2⟩ := slice_and hs
  exact ⟨_, k1, by simpa using hlen, k2⟩
theorem opensWFs_nil (off : Nat) : OpensWFs enc P off [] 0 unitRd := by
  intro w fuel cs xs hl _ _ _
  exact ⟨(), List.drop_of_length_le (by omega)⟩
theorem opensWFs_cons {off n : Nat} (m : Nat) {f : Field} {fs : List Field} {A : Rd α} {B : Rd β} (ho : f.offset = off) (hc : P.cellsOf f.type = m) (hA : OpensW enc P f.type A) (hB : OpensWFs enc P (off + m) fs n B) :
    OpensWFs enc P off (f :: fs) (m + n) (pairRd A B) := by
  intro w fuel cs xs hl hx h hw
  cases xs with
  | nil => simp at hx
  | cons x xs =>
    have h0 := h 0 f rfl
    rw [ho, hc] at h0
    simp only [List.map_cons, DataW.weightsEach, List.mem_append] at hw
    obtain ⟨a, ha⟩ := hA _ _ _ _ h0 (fun m hm => hw m (.inl hm))
    obtain ⟨b, hb⟩ := hB w fuel cs xs (by omega) (by simpa using hx) (fun i f' hf => by simpa using h (i + 1) f' (by simpa using hf)) (fun m hm => hw m (.inr hm))
    refine ⟨(a, b), (cs.drop off).take m, cs.drop (off + m), ?_, ha, hb⟩
    rw [← List.drop_drop, List.take_append_drop]
theorem opensW_struct {t : TypeId} {fs : Array Field} {n : Nat} {E : Rd α} (ht : P.underlying t = some (.struct fs)) (hc : P.cellsOf t = n) (h : OpensWFs enc P 0 fs.toList n E) : OpensW enc P t E := by
  intro w fuel cs x hx hw
  obtain ⟨xs, k, rfl, rfl, hl, hxl, hf⟩ := DataW.trod_struct ht hx
  simp only [DataW.weights, ht] at hw
  obtain ⟨a, ha⟩ := h w k cs xs (by omega) (by simpa using hxl) (fun i f hi => hf i f (by simpa using hi)) hw
  exact ⟨a, by simpa using ha⟩
theorem weights_in : ∀ {ts : List TypeId} {ds : List (DataW H)} (j : Nat) {t : TypeId} {d : DataW H} {m : Nat}, ts[j]? = some t → ds[j]? = some d → m ∈ d.weights P t → m ∈ DataW.weightsEach P ts ds
  | [], _, j, _, _, _, ht, _, _ => by simp at ht
  | _ :: _, [], j, _, _, _, _, hd, _ => by simp at hd
  | t :: ts, d :: ds, 0, _, _, _, ht, hd, hm => by
    obtain rfl : t = _ := by simpa using ht
    obtain rfl : d = _ := by simpa using hd
    simp only [DataW.weightsEach, List.mem_append]
    exact .inl hm
  | t :: ts, d :: ds, j + 1, _, _, _, ht, hd, hm => by
    simp only [DataW.weightsEach, List.mem_append]
    exact .inr (weights_in j (by simpa using ht) (by simpa using hd) hm)
theorem slice_cells {size : Nat} {E : Rd α} {w : World} {S : Nat → Prop} {cs : List Value} {l : List α} (h : (sliceRd size E).P w S cs l) : ∃ A c, cs = [.slice A l.length c] := by
  rcases h with ⟨h, rfl⟩ | ⟨a, cap, h, _⟩
  · exact ⟨none, 0, h⟩
  · exact ⟨_, _, h⟩
theorem opens_arg1 {t e : TypeId} {E : Rd α} {r : Reach} {b0 : Nat} {w : World} {v : Value} {d : DataW H} {p : List MemPlace} (ht : P.underlying t = some (.slice e)) (hval : Value.okWide P w r b0 t v) (h : OpensW enc P t E)
    (hv : DataW.Trod enc P w 0 (fun _ => true) true t v d p) (hw : ∀ m, m ∈ d.weights P t → m ≤ reachBytes) : ∃ a, E.P w (fun k => k < w.heap.size) [v] a := by
  obtain ⟨a0, len, cap, rfl⟩ := Go.WideShapes.okWide_slice ht hval
  obtain ⟨fuel, hf⟩ := hv
  exact h _ _ _ _ hf hw
theorem RX.reads_all {E : Rd α} {w : World} {cs : List Value} {a : α} (h : E.P w (fun k => k < w.heap.size) cs a) : (RX.of E cs a).reads w (fun _ => False) := ⟨_, h, fun k hk => ⟨fun h => h, hk⟩⟩
end
end Go.Proofs.Ytahjmpipllajcaa.Sl
namespace Go.Proofs.Ytahjmpipllajcaa.Sl
open Go.RowKit
set_option linter.unusedVariables false
def wf_Bl (x : Bl) : Prop := wB x.null ∧ wS x.data
def wf_Hd (x : Hd) : Prop := wS x.fKey ∧ wf_Bl x.fValue
def wf_Rec (x : Rec) : Prop := wI x.fTime ∧ wI x.fOffset ∧ wf_Bl x.fKey ∧ wf_Bl x.fValue ∧ (wL wf_Hd) x.fHeaders
def wf_Bat (x : Bat) : Prop := wI x.fBase ∧ wI x.fLeader ∧ wB x.fAppend ∧ wB x.fTxn ∧ wB x.fControl ∧ wI x.fLast ∧ wI x.fFirst ∧ wI x.fMax ∧ wI x.fProducer ∧ wI x.fEpoch ∧ wI x.fSequence ∧ (wL wf_Rec) x.fRecords
end Go.Proofs.Ytahjmpipllajcaa.Sl
namespace Go.Proofs.Ytahjmpipllajcaa.Sl
open Go.RowKit
set_option linter.unusedVariables false
set_option linter.unusedSimpArgs false
theorem b_at_drop {α : Type} {l : List α} {k : Nat} {x : α} {t : List α} (h : l.drop k = x :: t) : l[k]? = some x ∧ l.drop (k + 1) = t ∧ l.length = k + 1 + t.length := by
  have hl := congrArg List.length h
  rw [List.length_drop, List.length_cons] at hl
  refine ⟨?_, ?_, by omega⟩
  · have := congrArg (fun z => z[0]?) h
    simpa using this
  · rw [← List.drop_drop, h]
    rfl
theorem b_nil_drop {α : Type} {l : List α} {k : Nat} (h : l.drop k = []) : l.length ≤ k := List.drop_eq_nil_iff.1 h
def brAll (l : List Hd) : Bool := l.all fun h => bright h.fValue
def rightR (r : Rec) : Int := if r.fOffset < 0 ∨ r.fOffset > 2147483647 then 11 else if (bright r.fKey && bright r.fValue && brAll r.fHeaders) = true then 0 else 4
theorem rights_loop (y : Bool) : ∀ l : List Bl, f_record_rights_l1 l y = some (if l.all bright = true then .go y else .ret false)
  | [] => rfl
  | b :: l => by
    rw [f_record_rights_l1, gRight_eq, Option.bind_some, List.all_cons, rights_loop y l]
    cases bright b <;> rfl
theorem rights_eq (l : List Bl) : f_record_rights l = some (l.all bright) := by
  unfold f_record_rights
  rw [rights_loop]
  cases l.all bright <;> rfl
theorem rightH_loop (y : Int) : ∀ l : List Hd, f_record_Right_l1 l y = some (if brAll l = true then .go y else .ret 4)
  | [] => rfl
  | h :: l => by
    rw [f_record_Right_l1, rights_eq, Option.bind_some, rightH_loop y l]
    unfold brAll
    rw [List.all_cons, List.all_cons, List.all_nil, Bool.and_true]
    cases bright h.fValue <;> rfl
theorem record_right (r : Rec) (hw : wI r.fOffset) : f_record_Right r = some (rightR r) := by
  unfold f_record_Right rightR
  by_cases h : r.fOffset < 0
  · rw [if_pos h, if_pos (.inl h)]
  rw [if_neg h, gFits_eq _ _ hw, fits_4, Option.bind_some]
  by_cases h2 : r.fOffset > 2147483647
  · rw [if_neg (by simp; omega), if_pos (.inr h2)]
  rw [if_pos (by simp; omega), if_neg (by omega), rights_eq, Option.bind_some, rightH_loop]
  simp only [List.all_cons, List.all_nil, Bool.and_true]
  cases bright r.fKey <;> cases bright r.fValue <;> cases brAll r.fHeaders <;> rfl
theorem odd_eq (b : Bl) : f_r07_odd b = some (!bright b) := by
  unfold f_r07_odd bright
  obtain ⟨n, d⟩ := b
  cases n
  · rfl
  · cases d <;> simp
theorem r06_loop (a0 : List Hd) (hb : a0.length ≤ 1000000) (y : Bool) : ∀ (l : List Hd) (k fuel : Nat), a0.drop k = l → l.length < fuel → ∃ z, f_r06_Right_l1 a0 fuel y k = some (if brAll l = true then .go (y, z) else .ret false)
  | [], k, fuel + 1, h, hf => by
    have := b_nil_drop h
    exact ⟨k, by rw [f_r06_Right_l1, if_neg (by omega)]; rfl⟩
  | x :: l, k, fuel + 1, h, hf => by
    obtain ⟨h1, h2, h3⟩ := b_at_drop h
    rw [List.length_cons] at hf
    obtain ⟨z, hz⟩ := r06_loop a0 hb y l (k + 1) fuel h2 (by omega)
    rw [f_r06_Right_l1, if_pos (by omega), h1, Option.bind_some]
    have e : brAll (x :: l) = (bright x.fValue && brAll l) := rfl
    rw [e]
    by_cases hn : x.fValue.null = true
    · rw [if_pos hn]
      by_cases hd : x.fValue.data = []
      · rw [if_pos hd, if_pos (by omega), hz]
        have : bright x.fValue = true := by unfold bright; rw [hd]; simp
        rw [this, Bool.true_and]
        exact ⟨z, rfl⟩
      · rw [if_neg hd]
        have : bright x.fValue = false := by unfold bright; rw [hn]; simp [hd]
        rw [this]
        exact ⟨0, rfl⟩
    · rw [if_neg hn, if_pos (by omega), hz]
      have : bright x.fValue = true := by unfold bright; simp [hn]
      rw [this, Bool.true_and]
      exact ⟨z, rfl⟩
theorem r06_right (a0 : List Hd) (hb : a0.length ≤ 1000000) : f_r06_Right a0 = some (brAll a0) := by
  unfold f_r06_Right
  obtain ⟨z, hz⟩ := r06_loop a0 hb false a0 0 (((a0.length : Int)).toNat + 1) rfl (by omega)
  rw [hz]
  cases brAll a0 <;> rfl
theorem r07_right (r : Rec) (hb : r.fHeaders.length ≤ 1000000) : f_r07_Right r = some (rightR r) := by
  unfold f_r07_Right rightR
  by_cases h : r.fOffset < 0
  · rw [if_pos h, if_pos (.inl h)]
  rw [if_neg h]
  by_cases h2 : r.fOffset > 2147483647
  · rw [if_pos h2, if_pos (.inr h2)]
  rw [if_neg h2, if_neg (by omega), odd_eq, odd_eq, r06_right _ hb]
  cases bright r.fKey <;> cases bright r.fValue <;> cases brAll r.fHeaders <;> rfl
end Go.Proofs.Ytahjmpipllajcaa.Sl
namespace Go.Proofs.Ytahjmpipllajcaa.Sl
open Go.RowKit
set_option linter.unusedVariables false
set_option linter.unusedSimpArgs false
theorem iint_ok2 (l : List UInt8) (p : Nat) (h : 2 ≤ l.length) : iint ⟨l, p, 0⟩ 2 = (beInt (l.take 2), ⟨l.drop 2, p + 2, 0⟩) := iint_ok l p 2 (by decide) (by decide) h
theorem iint_ok4 (l : List UInt8) (p : Nat) (h : 4 ≤ l.length) : iint ⟨l, p, 0⟩ 4 = (beInt (l.take 4), ⟨l.drop 4, p + 4, 0⟩) := iint_ok l p 4 (by decide) (by decide) h
theorem iint_short2 (l : List UInt8) (p : Nat) (h : l.length < 2) : iint ⟨l, p, 0⟩ 2 = (0, ⟨l, p, 1⟩) := iint_short l p 2 (by decide) (by decide) (by omega)
theorem iint_short4 (l : List UInt8) (p : Nat) (h : l.length < 4) : iint ⟨l, p, 0⟩ 4 = (0, ⟨l, p, 1⟩) := iint_short l p 4 (by decide) (by decide) (by omega)
theorem iint_e (l : List UInt8) (p : Nat) (e n : Int) (h : e ≠ 0) : iint ⟨l, p, e⟩ n = (0, ⟨l, p, e⟩) := iint_err (st := ⟨l, p, e⟩) h n
theorem iclose_e (l : List UInt8) (p : Nat) (e : Int) (h : e ≠ 0) : iclose ⟨l, p, e⟩ = ⟨l, p, e⟩ := iclose_err (st := ⟨l, p, e⟩) h
theorem ifail_e (l : List UInt8) (p : Nat) (e f : Int) (h : e ≠ 0) : ifail ⟨l, p, e⟩ f = ⟨l, p, e⟩ := ifail_err (st := ⟨l, p, e⟩) h f
theorem ifail_0 (l : List UInt8) (p : Nat) (f : Int) : ifail ⟨l, p, 0⟩ f = ⟨l, p, f⟩ := by simp [ifail]
theorem iclose_0 (l : List UInt8) (p : Nat) : iclose ⟨l, p, 0⟩ = ⟨l, p, if l = [] then 0 else 2⟩ := by unfold iclose; split <;> simp_all [ifail]
theorem drop_nil_iff {l : List UInt8} {n : Nat} (h : n ≤ l.length) : l.drop n = [] ↔ ¬ (l.length : Int) > n := by rw [List.drop_eq_nil_iff]; omega
theorem read_key (l : List UInt8) (hl : l.length ≤ 9223372036854775807) : f_control_ReadKey l = f_r08_ReadKey l := by
  unfold f_control_ReadKey f_r08_ReadKey f_control_version
  simp only [gNew_eq l (by omega), gInt_eq, gClose_eq, gIFail_eq, Option.bind_some]
  by_cases h2 : l.length < 2
  · have h2i : (l.length : Int) < 2 := by omega
    simp [iint_short2 l 0 h2, iint_e, iclose_e, ifail_e, h2i]
  have h2i : ¬ (l.length : Int) < 2 := by omega
  have h2j : 2 ≤ (l.length : Int) := by omega
  rw [iint_ok2 l 0 (by omega), if_neg h2i, if_pos (show 2 ≤ l.length by omega), gRInt_eq _ (by simp; omega)]
  simp only [Option.bind_some]
  by_cases h0 : beInt (l.take 2) = 0
  · rw [if_pos h0, if_pos h0]
    simp only [Option.bind_some]
    by_cases h4 : l.length < 4
    · have h4i : (l.length : Int) < 4 := by omega
      simp [iint_short2 (l.drop 2) (0 + 2) (by simp; omega), iclose_e, h4i]
    have h4i : ¬ (l.length : Int) < 4 := by omega
    rw [iint_ok2 _ _ (by simp; omega), if_neg h4i, if_pos (show 4 ≤ l.length by omega), gRInt_eq _ (by simp; omega)]
    simp only [Option.bind_some, List.drop_drop, iclose_0, ifail_0]
    have hd := drop_nil_iff (l := l) (n := 4) (by omega)
    generalize beInt ((l.drop 2).take 2) = k
    by_cases h5 : (l.length : Int) > 4
    · have hd2 : ¬ l.drop (2 + 2) = [] := fun h => (hd.1 h) h5
      by_cases k0 : k = 0
      · simp [hd2, h5, iclose_e, k0]
      · by_cases k1 : k = 1 <;> simp [hd2, h5, iclose_e, k0, k1]
    · have hd2 : l.drop (2 + 2) = [] := hd.2 h5
      by_cases k0 : k = 0
      · simp [hd2, h5, iclose_e, k0]
      · by_cases k1 : k = 1 <;> simp [hd2, h5, iclose_e, k0, k1]
  · rw [if_neg h0, if_neg h0]
    simp [ifail_0, iint_e, iclose_e]
theorem read_value (l : List UInt8) (hl : l.length ≤ 9223372036854775807) : f_control_ReadValue l = f_r08_ReadValue l := by
  unfold f_control_ReadValue f_r08_ReadValue f_control_version
  simp only [gNew_eq l (by omega), gInt_eq, gClose_eq, gIFail_eq, Option.bind_some]
  by_cases h2 : l.length < 2
  · have h2i : (l.length : Int) < 2 := by omega
    simp [iint_short2 l 0 h2, iint_e, iclose_e, ifail_e, h2i]
  have h2i : ¬ (l.length : Int) < 2 := by omega
  have h2j : 2 ≤ (l.length : Int) := by omega
  rw [iint_ok2 l 0 (by omega), if_neg h2i, if_pos (show 2 ≤ l.length by omega), gRInt_eq _ (by simp; omega)]
  simp only [Option.bind_some]
  by_cases h0 : beInt (l.take 2) = 0
  · rw [if_pos h0, if_pos h0]
    simp only [Option.bind_some]
    by_cases h4 : l.length < 6
    · have h4i : (l.length : Int) < 6 := by omega
      simp [iint_short4 (l.drop 2) (0 + 2) (by simp; omega), iclose_e, h4i]
    have h4i : ¬ (l.length : Int) < 6 := by omega
    rw [iint_ok4 _ _ (by simp; omega), if_neg h4i, if_pos (show 6 ≤ l.length by omega), gRInt_eq _ (by simp; omega)]
    simp only [Option.bind_some, List.drop_drop, iclose_0, ifail_0]
    have hd := drop_nil_iff (l := l) (n := 6) (by omega)
    generalize beInt ((l.drop 2).take 4) = k
    by_cases h5 : (l.length : Int) > 6
    · have hd2 : ¬ l.drop (2 + 4) = [] := fun h => (hd.1 h) h5
      by_cases k0 : k < 0 <;> simp [hd2, h5, iclose_e, k0]
    · have hd2 : l.drop (2 + 4) = [] := hd.2 h5
      by_cases k0 : k < 0 <;> simp [hd2, h5, iclose_e, k0]
  · rw [if_neg h0, if_neg h0]
    simp [ifail_0, iint_e, iclose_e]
theorem read_control (r : Rec) (h1 : r.fKey.data.length ≤ 9223372036854775807) (h2 : r.fValue.data.length ≤ 9223372036854775807) : f_control_Read r = f_r08_Read r := by
  unfold f_control_Read f_r08_Read
  rw [read_key _ h1, read_value _ h2]
end Go.Proofs.Ytahjmpipllajcaa.Sl
namespace Go.Proofs.Ytahjmpipllajcaa.Sl
open Go.RowKit
set_option linter.unusedVariables false
set_option linter.unusedSimpArgs false
def firstR : List Rec → Int
  | [] => 0
  | r :: l => if rightR r = 0 then firstR l else rightR r
theorem bcheck_l1 (y : Int) : ∀ l : List Rec, (∀ r, r ∈ l → wI r.fOffset) → f_batch_Check_l1 l y = some (if firstR l = 0 then .go y else .ret (firstR l))
  | [], h => rfl
  | r :: l, h => by
    rw [f_batch_Check_l1, record_right _ (h r (.head _)), Option.bind_some, bcheck_l1 y l (fun x hx => h x (.tail _ hx)), firstR]
    by_cases hr : rightR r = 0
    · rw [if_pos hr, if_pos hr]
    · rw [if_neg hr, if_neg hr, if_neg hr]
theorem bcheck_l2 (y : Int) : ∀ l : List Rec, (∀ r, r ∈ l → wI r.fOffset) → f_batch_Check_l2 l y = some (if firstR l = 0 then .go y else .ret (firstR l))
  | [], h => rfl
  | r :: l, h => by
    rw [f_batch_Check_l2, record_right _ (h r (.head _)), Option.bind_some, bcheck_l2 y l (fun x hx => h x (.tail _ hx)), firstR]
    by_cases hr : rightR r = 0
    · rw [if_pos hr, if_pos hr]
    · rw [if_neg hr, if_neg hr, if_neg hr]
theorem rcheck_l1 (a : Bat) (hb : a.fRecords.length ≤ 1000000) (hh : ∀ r, r ∈ a.fRecords → r.fHeaders.length ≤ 1000000) (y : Int) : ∀ (l : List Rec) (k fuel : Nat), a.fRecords.drop k = l → l.length < fuel → ∃ z, f_r11_Check_l1 a fuel y k = some (if firstR l = 0 then .go (y, z) else .ret (firstR l))
  | [], k, fuel + 1, h, hf => by
    have := b_nil_drop h
    exact ⟨k, by rw [f_r11_Check_l1, if_neg (by omega)]; rfl⟩
  | r :: l, k, fuel + 1, h, hf => by
    obtain ⟨h1, h2, h3⟩ := b_at_drop h
    rw [List.length_cons] at hf
    obtain ⟨z, hz⟩ := rcheck_l1 a hb hh y l (k + 1) fuel h2 (by omega)
    rw [f_r11_Check_l1, if_pos (by omega), h1, Option.bind_some, r07_right _ (hh r (List.mem_of_getElem? h1)), Option.bind_some, firstR]
    by_cases hr : rightR r = 0
    · rw [if_pos hr, if_pos hr, if_pos (by omega)]
      exact ⟨z, hz⟩
    · rw [if_neg hr, if_neg hr]
      exact ⟨0, by rw [if_neg hr]⟩
theorem rcheck_l2 (a : Bat) : ∀ (fuel : Nat) (y : Int) (k : Nat), f_r11_Check_l2 a fuel y k = f_r11_Check_l1 a fuel y k
  | 0, y, k => rfl
  | fuel + 1, y, k => by
    rw [f_r11_Check_l2, f_r11_Check_l1]
    simp only [rcheck_l2 a fuel]
def badT (F t : Int) : Prop := t > 9223372036854775807 - F ∨ t < -F
instance (F t : Int) : Decidable (badT F t) := by unfold badT; infer_instance
def ordR (F L : Int) : Int → Int → List Rec → Except Int Int
  | p, m, [] => .ok m
  | p, m, r :: l => if r.fOffset ≤ p ∨ r.fOffset > L then .error 13 else if badT F r.fTime then .error 11 else ordR F L r.fOffset (if m < F + r.fTime then F + r.fTime else m) l
theorem wrap_time {F t : Int} (h0 : 0 ≤ F) (h1 : F ≤ 9223372036854775807) (ht : wI t) : (badT F t → (IntKind.i64.wrap (F + t) < 0)) ∧ (¬ badT F t → IntKind.i64.wrap (F + t) = F + t ∧ 0 ≤ F + t) := by
  obtain ⟨t0, t1⟩ := ht
  unfold badT
  rw [IntKind.wrap_i64]
  constructor
  · intro h
    omega
  · intro h
    omega
theorem brec_l1 (a : Bat) (h0 : 0 ≤ a.fFirst) (h1 : a.fFirst ≤ 9223372036854775807) (y : Int) : ∀ (l : List Rec) (p m : Int), (∀ r, r ∈ l → wI r.fTime) → (∃ e, ordR a.fFirst a.fLast p m l = .error e ∧ f_batch_records_l1 a l y p m = some (.ret e)) ∨ (∃ p' m', ordR a.fFirst a.fLast p m l = .ok m' ∧ f_batch_records_l1 a l y p m = some (.go (y, p', m')))
  | [], p, m, h => .inr ⟨p, m, rfl, rfl⟩
  | r :: l, p, m, h => by
    have ih := fun p m => brec_l1 a h0 h1 y l p m (fun x hx => h x (.tail _ hx))
    obtain ⟨w1, w2⟩ := wrap_time h0 h1 (h r (.head _))
    rw [f_batch_records_l1, ordR]
    by_cases c1 : r.fOffset ≤ p
    · rw [if_pos c1, if_pos (.inl c1)]
      exact .inl ⟨_, rfl, rfl⟩
    rw [if_neg c1]
    by_cases c2 : r.fOffset > a.fLast
    · rw [if_pos c2, if_pos (.inr c2)]
      exact .inl ⟨_, rfl, rfl⟩
    rw [if_neg c2, if_neg (by omega)]
    by_cases c3 : badT a.fFirst r.fTime
    · rw [if_pos c3, if_pos (w1 c3)]
      exact .inl ⟨_, rfl, rfl⟩
    obtain ⟨w3, w4⟩ := w2 c3
    rw [if_neg c3, w3, if_neg (show ¬ a.fFirst + r.fTime < 0 by omega), if_neg (show ¬ a.fFirst + r.fTime < r.fTime by omega), ite_self]
    by_cases c4 : m < a.fFirst + r.fTime
    · rw [if_pos c4, if_pos c4]
      exact ih _ _
    · rw [if_neg c4, if_neg c4]
      exact ih _ _
theorem rord_l1 (a : Bat) (h0 : 0 ≤ a.fFirst) (h1 : a.fFirst ≤ 9223372036854775807) (hb : a.fRecords.length ≤ 1000000) (y : Int) : ∀ (l : List Rec) (p m : Int) (k fuel : Nat), a.fRecords.drop k = l → l.length < fuel → (k = 0 → p = -1) → (0 < k → ∃ r, a.fRecords[k - 1]? = some r ∧ r.fOffset = p ∧ 0 ≤ p) →
    (∃ e, ordR a.fFirst a.fLast p m l = .error e ∧ f_r11_orders_l1 a fuel y k = some (.ret e)) ∨ (∃ m' z, ordR a.fFirst a.fLast p m l = .ok m' ∧ f_r11_orders_l1 a fuel y k = some (.go (y, z)))
  | [], p, m, k, fuel + 1, h, hf, hk0, hk1 => by
    have := b_nil_drop h
    exact .inr ⟨m, k, rfl, by rw [f_r11_orders_l1, if_neg (by omega)]⟩
  | r :: l, p, m, k, fuel + 1, h, hf, hk0, hk1 => by
    obtain ⟨g1, g2, g3⟩ := b_at_drop h
    rw [List.length_cons] at hf
    rw [f_r11_orders_l1, if_pos (by omega), g1, Option.bind_some, ordR]
    have hp : -1 ≤ p := by
      rcases Nat.eq_zero_or_pos k with hk | hk
      · have := hk0 hk; omega
      · obtain ⟨_, _, _, h5⟩ := hk1 hk; omega
    have ih := fun (hge : 0 ≤ r.fOffset) m => rord_l1 a h0 h1 hb y l r.fOffset m (k + 1) fuel g2 (by omega) (fun h => absurd h (by omega)) (fun _ => ⟨r, g1, rfl, hge⟩)
    have tail : 0 ≤ r.fOffset → ((if -9223372036854775808 ≤ (9223372036854775807 - a.fFirst) ∧ (9223372036854775807 - a.fFirst) ≤ 9223372036854775807 then (if r.fTime > (9223372036854775807 - a.fFirst) then some (Lp.ret (11 : Int)) else (if -9223372036854775808 ≤ (-a.fFirst) ∧ (-a.fFirst) ≤ 9223372036854775807 then (if r.fTime < (-a.fFirst) then some (Lp.ret 11) else (if -9223372036854775808 ≤ ((k : Int) + 1) ∧ ((k : Int) + 1) ≤ 9223372036854775807 then (f_r11_orders_l1 a fuel y (k + 1)) else none)) else none)) else none)) = if badT a.fFirst r.fTime then some (.ret 11) else f_r11_orders_l1 a fuel y (k + 1) := by
      intro hge
      rw [if_pos (by omega)]
      by_cases c1 : r.fTime > 9223372036854775807 - a.fFirst
      · rw [if_pos c1, if_pos (show badT a.fFirst r.fTime from .inl c1)]
      rw [if_neg c1, if_pos (by omega)]
      by_cases c2 : r.fTime < -a.fFirst
      · rw [if_pos c2, if_pos (show badT a.fFirst r.fTime from .inr c2)]
      rw [if_neg c2, if_neg (show ¬ badT a.fFirst r.fTime by unfold badT; omega), if_pos (by omega)]
    by_cases c2 : r.fOffset > a.fLast
    · rw [if_pos c2, if_pos (.inr c2)]
      exact .inl ⟨_, rfl, rfl⟩
    rw [if_neg c2]
    rcases Nat.eq_zero_or_pos k with hk | hk
    · have hp1 := hk0 hk
      rw [if_neg (show ¬ (k : Int) > 0 by omega)]
      by_cases c3 : r.fOffset < 0
      · rw [if_pos c3, if_pos (show r.fOffset ≤ p ∨ r.fOffset > a.fLast by omega)]
        exact .inl ⟨_, rfl, rfl⟩
      rw [if_neg c3, if_neg (show ¬ (r.fOffset ≤ p ∨ r.fOffset > a.fLast) by omega), tail (by omega)]
      by_cases c4 : badT a.fFirst r.fTime
      · rw [if_pos c4, if_pos c4]
        exact .inl ⟨_, rfl, rfl⟩
      · rw [if_neg c4, if_neg c4]
        exact ih (by omega) _
    · obtain ⟨q, q1, q2, q3⟩ := hk1 hk
      rw [if_pos (show (k : Int) > 0 by omega), if_pos (show -9223372036854775808 ≤ (k : Int) - 1 ∧ (k : Int) - 1 ≤ 9223372036854775807 by omega), if_pos (show 0 ≤ (k : Int) - 1 by omega), show ((k : Int) - 1).toNat = k - 1 by omega, q1, Option.bind_some, q2]
      by_cases c1 : r.fOffset ≤ p
      · rw [if_pos c1, if_pos (.inl c1)]
        exact .inl ⟨_, rfl, rfl⟩
      rw [if_neg c1, if_neg (show ¬ r.fOffset < 0 by omega), if_neg (show ¬ (r.fOffset ≤ p ∨ r.fOffset > a.fLast) by omega), tail (by omega)]
      by_cases c4 : badT a.fFirst r.fTime
      · rw [if_pos c4, if_pos c4]
        exact .inl ⟨_, rfl, rfl⟩
      · rw [if_neg c4, if_neg c4]
        exact ih (by omega) _
theorem rtim_l1 (a : Bat) (h0 : 0 ≤ a.fFirst) (h1 : a.fFirst ≤ 9223372036854775807) (hb : a.fRecords.length ≤ 1000000) (y : Int) : ∀ (l : List Rec) (p m m' : Int) (k fuel : Nat), a.fRecords.drop k = l → l.length < fuel → ordR a.fFirst a.fLast p m l = .ok m' → (∀ r, r ∈ l → wI r.fTime) → ∃ z, f_r11_times_l1 a fuel y m k = some (.go (y, m', z))
  | [], p, m, m', k, fuel + 1, h, hf, ho, hw => by
    have := b_nil_drop h
    injection ho with ho
    subst ho
    exact ⟨k, by rw [f_r11_times_l1, if_neg (by omega)]⟩
  | r :: l, p, m, m', k, fuel + 1, h, hf, ho, hw => by
    obtain ⟨g1, g2, g3⟩ := b_at_drop h
    rw [List.length_cons] at hf
    rw [ordR] at ho
    split at ho
    · exact nomatch ho
    split at ho
    · exact nomatch ho
    rename_i hb2
    have ht := hw r (.head _)
    have ht0 := ht.1
    have ht1 := ht.2
    unfold badT at hb2
    rw [f_r11_times_l1, if_pos (by omega), g1, Option.bind_some, if_pos (by omega), if_neg (by omega), if_pos (by omega), if_neg (by omega), if_pos (by omega)]
    obtain ⟨z, hz⟩ := rtim_l1 a h0 h1 hb y l r.fOffset _ m' (k + 1) fuel g2 (by omega) ho (fun x hx => hw x (.tail _ hx))
    by_cases c : m < a.fFirst + r.fTime
    · rw [if_pos c] at hz
      rw [if_pos c, if_pos (by omega), if_pos (by omega)]
      exact ⟨z, hz⟩
    · rw [if_neg c] at hz
      rw [if_neg c, if_pos (by omega)]
      exact ⟨z, hz⟩
theorem records_orders (a : Bat) (h0 : 0 ≤ a.fFirst) (h1 : a.fFirst ≤ 9223372036854775807) (hb : a.fRecords.length ≤ 1000000) (hw : ∀ r, r ∈ a.fRecords → wI r.fTime) : ∃ e, f_batch_records a = some e ∧ f_r11_orders a = some e := by
  unfold f_batch_records f_r11_orders f_r11_times
  rcases brec_l1 a h0 h1 0 a.fRecords (-1) a.fFirst hw with ⟨e, g1, g2⟩ | ⟨p', m', g1, g2⟩
  · rcases rord_l1 a h0 h1 hb 0 a.fRecords (-1) a.fFirst 0 (((a.fRecords.length : Int)).toNat + 1) rfl (by omega) (fun _ => rfl) (fun h => absurd h (by omega)) with ⟨e2, k1, k2⟩ | ⟨m2, z, k1, k2⟩
    · rw [g1] at k1
      injection k1 with k1
      subst k1
      exact ⟨e, by rw [g2]; rfl, by rw [k2]; rfl⟩
    · rw [g1] at k1
      exact nomatch k1
  · rcases rord_l1 a h0 h1 hb 0 a.fRecords (-1) a.fFirst 0 (((a.fRecords.length : Int)).toNat + 1) rfl (by omega) (fun _ => rfl) (fun h => absurd h (by omega)) with ⟨e2, k1, k2⟩ | ⟨m2, z, k1, k2⟩
    · rw [g1] at k1
      exact nomatch k1
    · obtain ⟨z2, hz2⟩ := rtim_l1 a h0 h1 hb 0 a.fRecords (-1) a.fFirst m' 0 (((a.fRecords.length : Int)).toNat + 1) rfl (by omega) g1 hw
      rw [g2, k2, hz2]
      simp only [Option.bind_some]
      by_cases ha : a.fAppend = true
      · exact ⟨0, by rw [if_pos ha], by rw [if_pos ha]⟩
      · rw [if_neg ha]
        by_cases hm : m' = a.fMax
        · exact ⟨0, by rw [if_pos hm], by rw [if_pos hm]⟩
        · exact ⟨11, by rw [if_neg hm], by rw [if_neg hm]⟩
def numOk (a : Bat) : Prop := 0 ≤ a.fBase ∧ (-1 ≤ a.fLeader ∧ a.fLeader ≤ 2147483647) ∧ (0 ≤ a.fLast ∧ a.fLast ≤ 2147483647) ∧ a.fBase + a.fLast ≤ 9223372036854775807 ∧ 0 ≤ a.fFirst ∧ 0 ≤ a.fMax
instance (a : Bat) : Decidable (numOk a) := by unfold numOk; infer_instance
theorem numbers_eq (a : Bat) (h1 : wI a.fBase) (h2 : wI a.fLeader) (h3 : wI a.fLast) : f_batch_numbers a = some (decide (numOk a)) := by
  obtain ⟨u1, u2⟩ := h1
  unfold f_batch_numbers
  rw [gFits_eq _ _ h2, gFits_eq _ _ h3, fits_4, fits_4, IntKind.wrap_i64]
  have no : ∀ {b : Bool}, ¬ numOk a → b = false → some b = some (decide (numOk a)) := fun h hb => by rw [decide_eq_false h, hb]
  by_cases c1 : a.fBase ≥ 0
  · rw [if_pos c1]
    by_cases c2 : a.fLeader ≥ -1
    · rw [if_pos c2, Option.bind_some]
      by_cases c3 : -2147483648 ≤ a.fLeader ∧ a.fLeader ≤ 2147483647
      · rw [if_pos (decide_eq_true c3)]
        by_cases c4 : a.fLast ≥ 0
        · rw [if_pos c4, Option.bind_some]
          by_cases c5 : -2147483648 ≤ a.fLast ∧ a.fLast ≤ 2147483647
          · rw [if_pos (decide_eq_true c5)]
            by_cases c6 : a.fBase + a.fLast ≤ 9223372036854775807
            · rw [if_pos (by omega)]
              by_cases c7 : a.fFirst ≥ 0
              · rw [if_pos c7]
                by_cases c8 : a.fMax ≥ 0
                · rw [if_pos c8, decide_eq_true (show numOk a from ⟨c1, ⟨c2, by omega⟩, ⟨c4, by omega⟩, c6, c7, c8⟩)]
                · rw [if_neg c8]; exact no (fun h => c8 h.2.2.2.2.2) rfl
              · rw [if_neg c7]; exact no (fun h => c7 h.2.2.2.2.1) rfl
            · rw [if_neg (by omega)]; exact no (fun h => c6 h.2.2.2.1) rfl
          · rw [if_neg (by rw [decide_eq_true_eq]; exact c5)]; exact no (fun h => by have := h.2.2.1; omega) rfl
        · rw [if_neg c4]; exact no (fun h => c4 h.2.2.1.1) rfl
      · rw [if_neg (by rw [decide_eq_true_eq]; exact c3)]; exact no (fun h => by have := h.2.1; omega) rfl
    · rw [if_neg c2]; exact no (fun h => c2 h.2.1.1) rfl
  · rw [if_neg c1]; exact no (fun h => c1 h.1) rfl
theorem int32s_eq (n k : Int) : f_r11_int32s n k = some (decide (k ≤ n ∧ n ≤ 2147483647)) := by
  unfold f_r11_int32s
  by_cases h1 : n ≥ k
  · rw [if_pos h1]
    by_cases h2 : n ≤ 2147483647
    · rw [if_pos h2, decide_eq_true ⟨h1, h2⟩]
    · rw [if_neg h2, decide_eq_false (fun h => h2 h.2)]
  · rw [if_neg h1, decide_eq_false (fun h => h1 h.1)]
def prodOk (a : Bat) : Prop := if a.fProducer = -1 then a.fEpoch = -1 ∧ a.fSequence = -1 ∧ a.fTxn = false else 0 ≤ a.fProducer ∧ (0 ≤ a.fEpoch ∧ a.fEpoch ≤ 32767) ∧ (if a.fControl = true then a.fSequence = -1 else 0 ≤ a.fSequence ∧ a.fSequence ≤ 2147483647)
instance (a : Bat) : Decidable (prodOk a) := by unfold prodOk; infer_instance
theorem b_fits_2 (n : Int) : fits n 2 = decide (-32768 ≤ n ∧ n ≤ 32767) := by
  rw [Bool.eq_iff_iff]
  unfold fits
  simp only [Bool.and_eq_true, decide_eq_true_eq]
  have : (2 : Int) ^ (8 * (2 : Int).toNat - 1) = 32768 := by decide
  omega
set_option maxHeartbeats 2000000 in
theorem producer_eq (a : Bat) (h1 : wI a.fEpoch) (h2 : wI a.fSequence) : f_batch_producer a = some (decide (prodOk a)) ∧ f_r11_producer a = some (decide (prodOk a)) := by
  unfold f_batch_producer f_r11_producer
  rw [gFits_eq _ _ h1, gFits_eq _ _ h2, fits_4, b_fits_2, int32s_eq]
  unfold prodOk
  obtain ⟨b0, b1, b2, tx, ct, b5, b6, b7, P, E, S, rs⟩ := a
  simp only
  clear h1 h2
  by_cases c1 : P = -1
  · simp only [if_pos c1]
    by_cases c2 : E = -1
    · simp only [if_pos c2]
      by_cases c3 : S = -1
      · simp only [if_pos c3]
        cases tx <;> simp [c2, c3]
      · simp [c3]
    · simp [c2]
  · simp only [if_neg c1, Option.bind_some]
    cases ct
    · simp only [Bool.false_eq_true, if_false]
      constructor
      · by_cases d1 : P ≥ 0
        · by_cases d2 : E ≥ 0
          · by_cases d3 : -32768 ≤ E ∧ E ≤ 32767
            · by_cases d4 : S ≥ 0
              · by_cases d5 : -2147483648 ≤ S ∧ S ≤ 2147483647
                · rw [if_pos d1, if_pos d2, if_pos (decide_eq_true d3), if_pos d4, if_pos (decide_eq_true d5), decide_eq_true (by omega)]
                · rw [if_pos d1, if_pos d2, if_pos (decide_eq_true d3), if_pos d4, if_neg (by rw [decide_eq_true_eq]; exact d5), decide_eq_false (by omega)]
              · rw [if_pos d1, if_pos d2, if_pos (decide_eq_true d3), if_neg d4, decide_eq_false (by omega)]
            · rw [if_pos d1, if_pos d2, if_neg (by rw [decide_eq_true_eq]; exact d3), decide_eq_false (by omega)]
          · rw [if_pos d1, if_neg d2, decide_eq_false (by omega)]
        · rw [if_neg d1, decide_eq_false (by omega)]
      · by_cases d1 : P < 0
        · rw [if_pos d1, decide_eq_false (by omega)]
        rw [if_neg d1]
        by_cases d2 : E < 0
        · rw [if_pos d2, decide_eq_false (by omega)]
        rw [if_neg d2]
        by_cases d3 : E > 32767
        · rw [if_pos d3, decide_eq_false (by omega)]
        rw [if_neg d3]
        by_cases d4 : 0 ≤ S ∧ S ≤ 2147483647
        · rw [decide_eq_true d4, decide_eq_true (by omega)]
        · rw [decide_eq_false d4, decide_eq_false (by omega)]
    · simp only [if_true]
      constructor
      · by_cases d1 : P ≥ 0
        · by_cases d2 : E ≥ 0
          · by_cases d3 : -32768 ≤ E ∧ E ≤ 32767
            · by_cases d4 : S ≥ -1
              · by_cases d5 : -2147483648 ≤ S ∧ S ≤ 2147483647
                · by_cases d6 : S = -1
                  · rw [if_pos d1, if_pos d2, if_pos (decide_eq_true d3), if_pos d4, if_pos (decide_eq_true d5), if_pos d6, decide_eq_true (by omega)]
                  · rw [if_pos d1, if_pos d2, if_pos (decide_eq_true d3), if_pos d4, if_pos (decide_eq_true d5), if_neg d6, decide_eq_false (by omega)]
                · rw [if_pos d1, if_pos d2, if_pos (decide_eq_true d3), if_pos d4, if_neg (by rw [decide_eq_true_eq]; exact d5), decide_eq_false (by omega)]
              · rw [if_pos d1, if_pos d2, if_pos (decide_eq_true d3), if_neg d4, decide_eq_false (by omega)]
            · rw [if_pos d1, if_pos d2, if_neg (by rw [decide_eq_true_eq]; exact d3), decide_eq_false (by omega)]
          · rw [if_pos d1, if_neg d2, decide_eq_false (by omega)]
        · rw [if_neg d1, decide_eq_false (by omega)]
      · by_cases d1 : P < 0
        · rw [if_pos d1, decide_eq_false (by omega)]
        rw [if_neg d1]
        by_cases d2 : E < 0
        · rw [if_pos d2, decide_eq_false (by omega)]
        rw [if_neg d2]
        by_cases d3 : E > 32767
        · rw [if_pos d3, decide_eq_false (by omega)]
        rw [if_neg d3]
        by_cases d4 : S = -1
        · rw [if_pos d4, decide_eq_true (by omega)]
        · rw [if_neg d4, decide_eq_false (by omega)]
theorem key_some (l : List UInt8) (hl : l.length ≤ 1000000) : ∃ x, f_control_ReadKey l = some x := by
  unfold f_control_ReadKey f_control_version
  simp only [gNew_eq l (by omega), gInt_eq, gClose_eq, gIFail_eq, Option.bind_some]
  generalize iint ⟨l, 0, 0⟩ 2 = x
  by_cases h : x.1 = 0
  · simp only [if_pos h, Option.bind_some]
    generalize iint x.2 2 = y
    split
    · split <;> exact ⟨_, rfl⟩
    · split
      · split <;> exact ⟨_, rfl⟩
      · split <;> exact ⟨_, rfl⟩
  · simp only [if_neg h, Option.bind_some]
    generalize iint (ifail x.2 7) 2 = y
    split
    · split <;> exact ⟨_, rfl⟩
    · split
      · split <;> exact ⟨_, rfl⟩
      · split <;> exact ⟨_, rfl⟩
theorem value_some (l : List UInt8) (hl : l.length ≤ 1000000) : ∃ x, f_control_ReadValue l = some x := by
  unfold f_control_ReadValue f_control_version
  simp only [gNew_eq l (by omega), gInt_eq, gClose_eq, gIFail_eq, Option.bind_some]
  generalize iint ⟨l, 0, 0⟩ 2 = x
  by_cases h : x.1 = 0
  · simp only [if_pos h, Option.bind_some]
    generalize iint x.2 4 = y
    split
    · split <;> exact ⟨_, rfl⟩
    · split <;> exact ⟨_, rfl⟩
  · simp only [if_neg h, Option.bind_some]
    generalize iint (ifail x.2 7) 4 = y
    split
    · split <;> exact ⟨_, rfl⟩
    · split <;> exact ⟨_, rfl⟩
theorem control_some (r : Rec) (h1 : r.fKey.data.length ≤ 1000000) (h2 : r.fValue.data.length ≤ 1000000) : ∃ x1 x2 x3, f_control_Read r = some (x1, x2, x3) := by
  obtain ⟨⟨k1, k2⟩, hk⟩ := key_some _ h1
  obtain ⟨⟨v1, v2⟩, hv⟩ := value_some _ h2
  unfold f_control_Read
  rw [hk, hv]
  simp only [Option.bind_some]
  split
  · exact ⟨_, _, _, rfl⟩
  split
  · exact ⟨_, _, _, rfl⟩
  split
  · exact ⟨_, _, _, rfl⟩
  split
  · split
    · split
      · exact ⟨_, _, _, rfl⟩
      · exact ⟨_, _, _, rfl⟩
    · exact ⟨_, _, _, rfl⟩
  · exact ⟨_, _, _, rfl⟩
def chkB (a : Bat) (cr e0 : Int) : Int := if numOk a then (if a.fControl = true then (if a.fTxn = true then (if prodOk a then (if (a.fRecords.length : Int) = 1 then (if firstR a.fRecords = 0 then (if cr = 0 then e0 else cr) else firstR a.fRecords) else 10) else 11) else 8) else (if prodOk a then (if firstR a.fRecords = 0 then e0 else firstR a.fRecords) else 11)) else 11
theorem bchk (a : Bat) (hw : wf_Bat a) (cr e0 : Int) (hc : numOk a → f_batch_records a = some e0) (hr : (a.fRecords.length : Int) = 1 → ∃ r x1 x2, a.fRecords[0]? = some r ∧ f_control_Read r = some (x1, x2, cr)) : f_batch_Check a = some (chkB a cr e0) := by
  obtain ⟨w1, w2, w3, w4, w5, w6, w7, w8, w9, w10, w11, w12⟩ := hw
  have hoff : ∀ r, r ∈ a.fRecords → wI r.fOffset := fun r h => (w12.2 r h).2.1
  unfold f_batch_Check chkB
  rw [numbers_eq a w1 w2 w6, (producer_eq a w10 w11).1, bcheck_l1 _ _ hoff, bcheck_l2 _ _ hoff]
  by_cases hn : numOk a
  · rw [decide_eq_true hn, Option.bind_some, if_pos rfl, if_pos hn, hc hn]
    by_cases hct : a.fControl = true
    · rw [if_pos hct, if_pos hct]
      by_cases ht : a.fTxn = true
      · rw [if_pos ht, if_pos ht, Option.bind_some]
        by_cases hp : prodOk a
        · rw [decide_eq_true hp, if_pos rfl, if_pos hp]
          by_cases hl : (a.fRecords.length : Int) = 1
          · obtain ⟨r, x1, x2, r1, r2⟩ := hr hl
            rw [if_pos hl, if_pos hl, r1]
            by_cases hf : firstR a.fRecords = 0
            · simp only [if_pos hf, Option.bind_some, r2]
              split <;> rfl
            · simp only [if_neg hf, Option.bind_some]
          · rw [if_neg hl, if_neg hl]
        · rw [decide_eq_false hp, if_neg (by decide), if_neg hp]
      · rw [if_neg ht, if_neg ht]
    · rw [if_neg hct, if_neg hct, Option.bind_some]
      by_cases hp : prodOk a
      · rw [decide_eq_true hp, if_pos rfl, if_pos hp]
        by_cases hf : firstR a.fRecords = 0
        · simp only [if_pos hf, Option.bind_some]
        · simp only [if_neg hf, Option.bind_some]
      · rw [decide_eq_false hp, if_neg (by decide), if_neg hp]
  · rw [decide_eq_false hn, Option.bind_some, if_neg (by decide), if_neg hn]
theorem rchk (a : Bat) (hw : wf_Bat a) (hb : a.fRecords.length ≤ 1000000) (hh : ∀ r, r ∈ a.fRecords → r.fHeaders.length ≤ 1000000) (cr e0 : Int) (hc : numOk a → f_r11_orders a = some e0) (hr : (a.fRecords.length : Int) = 1 → ∃ r x1 x2, a.fRecords[0]? = some r ∧ f_r08_Read r = some (x1, x2, cr)) : f_r11_Check a = some (chkB a cr e0) := by
  obtain ⟨w1, w2, w3, w4, w5, w6, w7, w8, w9, w10, w11, w12⟩ := hw
  obtain ⟨z, hz⟩ := rcheck_l1 a hb hh 0 a.fRecords 0 (((a.fRecords.length : Int)).toNat + 1) rfl (by omega)
  have b1 := w1.1
  have b2 := w1.2
  unfold f_r11_Check chkB
  rw [int32s_eq, int32s_eq, (producer_eq a w10 w11).2]
  simp only [rcheck_l2]
  rw [hz]
  by_cases hn : numOk a
  · obtain ⟨n1, n2, n3, n4, n5, n6⟩ := id hn
    rw [if_neg (show ¬ a.fBase < 0 by omega), decide_eq_true n2, Option.bind_some, if_pos rfl, decide_eq_true n3, Option.bind_some, if_pos rfl, if_pos (show -9223372036854775808 ≤ 9223372036854775807 - a.fBase ∧ 9223372036854775807 - a.fBase ≤ 9223372036854775807 by omega), if_neg (show ¬ a.fLast > 9223372036854775807 - a.fBase by omega), if_neg (show ¬ a.fFirst < 0 by omega), if_neg (show ¬ a.fMax < 0 by omega), if_pos hn, hc hn]
    by_cases hct : a.fControl = true
    · rw [if_pos hct, if_pos hct]
      by_cases ht : a.fTxn = true
      · rw [if_pos ht, if_pos ht, Option.bind_some]
        by_cases hp : prodOk a
        · rw [decide_eq_true hp, if_pos rfl, if_pos hp]
          by_cases hl : (a.fRecords.length : Int) = 1
          · obtain ⟨r, x1, x2, r1, r2⟩ := hr hl
            rw [if_pos hl, if_pos hl, r1]
            by_cases hf : firstR a.fRecords = 0
            · simp only [if_pos hf, Option.bind_some, r2]
              split <;> rfl
            · simp only [if_neg hf, Option.bind_some]
          · rw [if_neg hl, if_neg hl]
        · rw [decide_eq_false hp, if_neg (by decide), if_neg hp]
      · rw [if_neg ht, if_neg ht]
    · rw [if_neg hct, if_neg hct, Option.bind_some]
      by_cases hp : prodOk a
      · rw [decide_eq_true hp, if_pos rfl, if_pos hp]
        by_cases hf : firstR a.fRecords = 0
        · simp only [if_pos hf, Option.bind_some]
        · simp only [if_neg hf, Option.bind_some]
      · rw [decide_eq_false hp, if_neg (by decide), if_neg hp]
  · rw [if_neg hn]
    unfold numOk at hn
    by_cases c1 : a.fBase < 0
    · rw [if_pos c1]
    rw [if_neg c1, Option.bind_some]
    by_cases c2 : -1 ≤ a.fLeader ∧ a.fLeader ≤ 2147483647
    · rw [decide_eq_true c2, if_pos rfl, Option.bind_some]
      by_cases c3 : 0 ≤ a.fLast ∧ a.fLast ≤ 2147483647
      · rw [decide_eq_true c3, if_pos rfl, if_pos (show -9223372036854775808 ≤ 9223372036854775807 - a.fBase ∧ 9223372036854775807 - a.fBase ≤ 9223372036854775807 by omega)]
        by_cases c4 : a.fLast > 9223372036854775807 - a.fBase
        · rw [if_pos c4]
        rw [if_neg c4]
        by_cases c5 : a.fFirst < 0
        · rw [if_pos c5]
        rw [if_neg c5, if_pos (show a.fMax < 0 by omega)]
      · rw [decide_eq_false c3, if_neg (by decide)]
    · rw [decide_eq_false c2, if_neg (by decide)]
theorem check_same (a : Bat) (hw : wf_Bat a) (hb : a.fRecords.length ≤ 1000000) (hr : ∀ r, r ∈ a.fRecords → r.fHeaders.length ≤ 1000000 ∧ r.fKey.data.length ≤ 1000000 ∧ r.fValue.data.length ≤ 1000000) : ∃ cr e0, f_batch_Check a = some (chkB a cr e0) ∧ f_r11_Check a = some (chkB a cr e0) ∧ (numOk a → f_batch_records a = some e0) ∧ ((a.fRecords.length : Int) = 1 → ∃ r x1 x2, a.fRecords[0]? = some r ∧ f_control_Read r = some (x1, x2, cr) ∧ f_r08_Read r = some (x1, x2, cr)) := by
  have htim : ∀ r, r ∈ a.fRecords → wI r.fTime := fun r h => (hw.2.2.2.2.2.2.2.2.2.2.2.2 r h).1
  have hF := hw.2.2.2.2.2.2.1
  obtain ⟨e0, he⟩ : ∃ e0, numOk a → f_batch_records a = some e0 ∧ f_r11_orders a = some e0 := by
    by_cases hn : numOk a
    · obtain ⟨e0, h1, h2⟩ := records_orders a hn.2.2.2.2.1 hF.2 hb htim
      exact ⟨e0, fun _ => ⟨h1, h2⟩⟩
    · exact ⟨0, fun h => absurd h hn⟩
  obtain ⟨cr, hcr⟩ : ∃ cr, (a.fRecords.length : Int) = 1 → ∃ r x1 x2, a.fRecords[0]? = some r ∧ f_control_Read r = some (x1, x2, cr) ∧ f_r08_Read r = some (x1, x2, cr) := by
    by_cases hl : (a.fRecords.length : Int) = 1
    · obtain ⟨r, hrec⟩ : ∃ r, a.fRecords = [r] := List.length_eq_one_iff.1 (by omega)
      have h3 := hr r (by rw [hrec]; exact .head _)
      obtain ⟨x1, x2, x3, h4⟩ := control_some r h3.2.1 h3.2.2
      have h5 := read_control r (by omega) (by omega)
      exact ⟨x3, fun _ => ⟨r, x1, x2, by rw [hrec]; rfl, h4, by rw [← h5]; exact h4⟩⟩
    · exact ⟨0, fun h => absurd h hl⟩
  refine ⟨cr, e0, bchk a hw cr e0 (fun h => (he h).1) (fun h => ?_), rchk a hw hb (fun r h => (hr r h).1) cr e0 (fun h => (he h).2) (fun h => ?_), fun h => (he h).1, hcr⟩
  · obtain ⟨r, x1, x2, h1, h2, h3⟩ := hcr h
    exact ⟨r, x1, x2, h1, h2⟩
  · obtain ⟨r, x1, x2, h1, h2, h3⟩ := hcr h
    exact ⟨r, x1, x2, h1, h3⟩
end Go.Proofs.Ytahjmpipllajcaa.Sl
namespace Go.Proofs.Ytahjmpipllajcaa.Sl
open Go.RowKit
set_option linter.unusedVariables false
set_option linter.unusedSimpArgs false
abbrev Pr (α : Type) := List UInt8 → Nat → Except Int (α × Nat)
namespace Pr
variable {α β : Type}
def ret (a : α) : Pr α := fun _ q => .ok (a, q)
def err (e : Int) : Pr α := fun _ _ => .error e
def bind (p : Pr α) (f : α → Pr β) : Pr β := fun s q => match p s q with | .error e => .error e | .ok (a, r) => f a s r
theorem bind_ok {p : Pr α} {f : α → Pr β} {s : List UInt8} {q : Nat} {x : β × Nat} (h : p.bind f s q = .ok x) : ∃ a r, p s q = .ok (a, r) ∧ f a s r = .ok x := by
  unfold bind at h
  cases hp : p s q with
  | error e => rw [hp] at h; exact nomatch h
  | ok y => rw [hp] at h; exact ⟨_, _, rfl, h⟩
theorem bind_of {p : Pr α} {f : α → Pr β} {s : List UInt8} {q r : Nat} {a : α} (h : p s q = .ok (a, r)) : p.bind f s q = f a s r := by unfold bind; rw [h]
theorem bind_err {p : Pr α} {f : α → Pr β} {s : List UInt8} {q : Nat} {e : Int} (h : p s q = .error e) : p.bind f s q = .error e := by unfold bind; rw [h]
end Pr
structure CR {α : Type} (op : I → Option (α × I)) (p : Pr α) (z : α) : Prop where
  dead : ∀ st : I, st.err ≠ 0 → op st = some (z, st)
  bad : ∀ (s : List UInt8) (q : Nat) (e : Int), q ≤ s.length → p s q = .error e → ∃ st : I, op ⟨s.drop q, q, 0⟩ = some (z, st) ∧ st.err = e ∧ e ≠ 0
  good : ∀ (s : List UInt8) (q : Nat) (a : α) (r : Nat), q ≤ s.length → p s q = .ok (a, r) → op ⟨s.drop q, q, 0⟩ = some (a, ⟨s.drop r, r, 0⟩)
structure Sp {α : Type} (p : Pr α) (enc : α → List UInt8) (ok : α → Prop) : Prop where
  spell : ∀ (s : List UInt8) (q : Nat) (a : α) (r : Nat), q ≤ s.length → p s q = .ok (a, r) → q ≤ r ∧ r ≤ s.length ∧ r = q + (enc a).length ∧ s.take r = s.take q ++ enc a ∧ ok a
  back : ∀ (s t : List UInt8) (q : Nat) (a : α), q ≤ s.length → ok a → s.drop q = enc a ++ t → p s q = .ok (a, q + (enc a).length)
theorem drop_step {s x t : List UInt8} {q : Nat} (h : s.drop q = x ++ t) : s.drop (q + x.length) = t := by rw [← List.drop_drop, h, List.drop_left]
theorem take_step (s : List UInt8) (q k : Nat) : s.take (q + k) = s.take q ++ (s.drop q).take k := List.take_add
theorem c_be_snoc (q : Int) (c : UInt8) (k : Nat) : be (q * 256 + c.toNat) (k + 1) = be q k ++ [c] := by
  have hc := c.toNat_lt
  unfold be
  rw [List.range_succ, List.map_append]
  congr 1
  · apply List.map_congr_left
    intro i hi
    have hi := List.mem_range.1 hi
    have e : k + 1 - 1 - i = (k - 1 - i) + 1 := by omega
    have e2 : (q * 256 + (c.toNat : Int)) / 256 = q := by omega
    rw [e, show 8 * (k - 1 - i + 1) = 8 + 8 * (k - 1 - i) by omega, Int.pow_add, ← Int.ediv_ediv_of_nonneg (by decide), show (2 ^ 8 : Int) = 256 from rfl, e2]
  · simp only [List.map_cons, List.map_nil, Nat.add_sub_cancel, Nat.sub_self, Nat.mul_zero, Int.pow_zero, Int.ediv_one]
    congr 1
    apply UInt8.toNat_inj.1
    simp [UInt8.toNat_ofNat']
    omega
theorem c_be_fold (cs : List UInt8) : ∀ (q : Int) (k : Nat), be (cs.foldl (fun n d => n * 256 + (d.toNat : Int)) q) (k + cs.length) = be q k ++ cs := by
  induction cs with
  | nil => intro q k; simp
  | cons c cs ih =>
    intro q k
    have h := ih (q * 256 + c.toNat) (k + 1)
    rw [c_be_snoc] at h
    rw [List.foldl_cons, List.length_cons, show k + (cs.length + 1) = k + 1 + cs.length by omega, h]
    simp
theorem c_be_sgn (c : UInt8) : be (sgn c) 1 = [c] := by
  have hc := c.toNat_lt
  unfold be
  simp only [List.range_one, List.map_cons, List.map_nil, Nat.sub_self, Nat.mul_zero, Int.pow_zero, Int.ediv_one]
  congr 1
  apply UInt8.toNat_inj.1
  unfold sgn
  simp [UInt8.toNat_ofNat']
  split <;> omega
theorem c_be_beInt (l : List UInt8) (h : l ≠ []) : be (beInt l) l.length = l := by
  cases l with
  | nil => exact absurd rfl h
  | cons c cs =>
    have h := c_be_fold cs (sgn c) 1
    rw [c_be_sgn] at h
    rw [List.length_cons, Nat.add_comm]
    exact h
def pInt (k : Nat) : Pr Int := fun s q => if s.length < q + k then .error 1 else .ok (beInt ((s.drop q).take k), q + k)
theorem CR_int (k : Nat) (h1 : 1 ≤ k) (h8 : k ≤ 8) (kk : Int) (hk : kk = (k : Int)) : CR (fun st => gInt st kk) (pInt k) 0 := by
  subst hk
  refine ⟨fun st h => ?_, fun s q e hq h => ?_, fun s q a r hq h => ?_⟩
  · rw [gInt_eq, iint_err h]
  · unfold pInt at h
    split at h
    · rename_i hl
      injection h with h
      subst h
      refine ⟨⟨s.drop q, q, 1⟩, ?_, rfl, by decide⟩
      simp only [gInt_eq]
      rw [iint_short _ _ _ (by omega) (by omega) (by rw [List.length_drop]; omega)]
    · exact nomatch h
  · unfold pInt at h
    split at h
    · exact nomatch h
    · rename_i hl
      injection h with h
      obtain ⟨rfl, rfl⟩ := Prod.mk.inj h
      simp only [gInt_eq]
      rw [iint_ok _ _ _ h1 h8 (by rw [List.length_drop]; omega), List.drop_drop]
theorem Sp_int (k : Nat) (h1 : 1 ≤ k) (h8 : k ≤ 8) : Sp (pInt k) (fun n => be n k) (fun n => fits n k = true) := by
  refine ⟨fun s q a r hq h => ?_, fun s t q a hq ha h => ?_⟩
  · unfold pInt at h
    split at h
    · exact nomatch h
    · rename_i hl
      injection h with h
      obtain ⟨rfl, rfl⟩ := Prod.mk.inj h
      have hn : ((s.drop q).take k).length = k := by rw [List.length_take, List.length_drop]; omega
      have hne : (s.drop q).take k ≠ [] := fun h0 => by rw [h0] at hn; simp at hn; omega
      have hb : be (beInt ((s.drop q).take k)) k = (s.drop q).take k := by
        have := c_be_beInt _ hne
        rwa [hn] at this
      refine ⟨by omega, by omega, by rw [be_length], by rw [hb, take_step], ?_⟩
      rw [← be_fits _ _ h1 h8, hb]
  · have hl := congrArg List.length h
    rw [List.length_drop, List.length_append, be_length] at hl
    unfold pInt
    rw [if_neg (by omega), h, List.take_append_of_le_length (by rw [be_length]; omega), List.take_of_length_le (by rw [be_length]; omega), be_length, beInt_be _ _ h1 h8 ha]
def pGot (n : Int) : Pr Bl := fun s q => if n = -1 then .ok (⟨true, []⟩, q) else if n < 0 then .error 4 else if (s.length : Int) < q + n then .error 1 else .ok (⟨false, (s.drop q).take n.toNat⟩, q + n.toNat)
theorem bread_pGot (n : Int) (s : List UInt8) (q : Nat) (hq : q ≤ s.length) :
    (∃ e st, pGot n s q = .error e ∧ bread ⟨s.drop q, q, 0⟩ n = (⟨false, []⟩, st) ∧ st.err = e ∧ e ≠ 0) ∨ (∃ b r, pGot n s q = .ok (b, r) ∧ bread ⟨s.drop q, q, 0⟩ n = (b, ⟨s.drop r, r, 0⟩) ∧ q ≤ r ∧ r ≤ s.length ∧ blen b = n ∧ bright b = true ∧ s.take r = s.take q ++ b.data ∧ r = q + b.data.length) := by
  have hd : (s.drop q).length = s.length - q := List.length_drop
  unfold pGot bread
  rw [if_neg (show ¬ ((⟨s.drop q, q, 0⟩ : I).err ≠ 0) by simp)]
  by_cases h1 : n = -1
  · rw [if_pos h1, if_pos h1]
    exact .inr ⟨_, _, rfl, rfl, Nat.le_refl _, hq, h1.symm, rfl, by simp, rfl⟩
  rw [if_neg h1, if_neg h1]
  by_cases h2 : n < 0
  · rw [if_pos h2, itake_neg _ _ _ h2]
    exact .inl ⟨_, _, rfl, rfl, rfl, by decide⟩
  rw [if_neg h2]
  by_cases h3 : (s.length : Int) < q + n
  · rw [if_pos h3, itake_short _ _ _ (by omega)]
    exact .inl ⟨_, _, rfl, rfl, rfl, by decide⟩
  rw [if_neg h3]
  obtain ⟨m, rfl⟩ : ∃ m : Nat, n = (m : Int) := ⟨n.toNat, by omega⟩
  rw [Int.toNat_natCast, itake_ok _ _ _ (by omega), List.drop_drop]
  have hl : ((s.drop q).take m).length = m := by rw [List.length_take]; omega
  exact .inr ⟨_, _, rfl, rfl, by omega, by omega, by unfold blen; simp only [Bool.false_eq_true, if_false]; rw [hl], rfl, take_step s q m, by rw [hl]⟩
theorem CR_got {lenop : I → Int × I} {p : Pr Int} (hl : CR (fun st => some (lenop st)) p 0) (hs : ∀ s q a r, q ≤ s.length → p s q = .ok (a, r) → r ≤ s.length) : CR (fun st => some (bread (lenop st).2 (lenop st).1)) (p.bind pGot) (⟨false, []⟩ : Bl) := by
  refine ⟨fun st h => ?_, fun s q e hq h => ?_, fun s q a r hq h => ?_⟩
  · have h0 := Option.some.inj (hl.dead st h)
    rw [h0, bread_err h]
  · cases hp : p s q with
    | error e' =>
      rw [Pr.bind_err hp] at h
      injection h with h
      subst h
      obtain ⟨st, h1, h2, h3⟩ := hl.bad s q e' hq hp
      have h0 := Option.some.inj h1
      rw [h0, bread_err (by simp only [h2]; exact h3)]
      exact ⟨st, rfl, h2, h3⟩
    | ok x =>
      obtain ⟨n, m⟩ := x
      rw [Pr.bind_of hp] at h
      have h0 := Option.some.inj (hl.good s q n m hq hp)
      rw [h0]
      rcases bread_pGot n s m (hs _ _ _ _ hq hp) with ⟨e', st, g1, g2, g3, g4⟩ | ⟨b, r, g1, g2, _⟩
      · rw [g1] at h
        injection h with h
        subst h
        exact ⟨st, by rw [g2], g3, g4⟩
      · rw [g1] at h
        exact nomatch h
  · obtain ⟨n, m, hp, h⟩ := Pr.bind_ok h
    have h0 := Option.some.inj (hl.good s q n m hq hp)
    rw [h0]
    rcases bread_pGot n s m (hs _ _ _ _ hq hp) with ⟨e', st, g1, g2, g3, g4⟩ | ⟨b, r', g1, g2, _⟩
    · rw [g1] at h
      exact nomatch h
    · rw [g1] at h
      injection h with h
      obtain ⟨rfl, rfl⟩ := Prod.mk.inj h
      rw [g2]
theorem Sp_got {p : Pr Int} {enc : Int → List UInt8} {ok : Int → Prop} (hp : Sp p enc ok) : Sp (p.bind pGot) (fun b => enc (blen b) ++ b.data) (fun b => ok (blen b) ∧ bright b = true) := by
  refine ⟨fun s q a r hq h => ?_, fun s t q a hq ha h => ?_⟩
  · obtain ⟨n, m, h1, h⟩ := Pr.bind_ok h
    obtain ⟨a1, a2, a3, a4, a5⟩ := hp.spell _ _ _ _ hq h1
    rcases bread_pGot n s m a2 with ⟨e', st, g1, g2, g3, g4⟩ | ⟨b, r', g1, g2, b1, b2, b3, b4, b5, b6⟩
    · rw [g1] at h
      exact nomatch h
    · rw [g1] at h
      injection h with h
      obtain ⟨rfl, rfl⟩ := Prod.mk.inj h
      refine ⟨by omega, b2, by rw [List.length_append, b3]; omega, by rw [b5, a4, b3, List.append_assoc], by rw [b3]; exact a5, b4⟩
  · rw [List.append_assoc] at h
    have h1 := hp.back s _ q _ hq ha.1 h
    rw [Pr.bind_of h1, List.length_append, ← Nat.add_assoc]
    have h2 := drop_step h
    have hl := congrArg List.length h
    rw [List.length_drop, List.length_append, List.length_append] at hl
    generalize (enc (blen a)).length = m at h2 hl ⊢
    obtain ⟨nu, d⟩ := a
    unfold pGot blen
    cases nu with
    | true =>
      have : d = [] := by have := ha.2; unfold bright at this; simpa using this
      subst this
      rw [if_pos rfl, if_pos rfl]
      rfl
    | false =>
      simp only [Bool.false_eq_true, if_false]
      simp only at h2 hl
      rw [if_neg (by omega), if_neg (by omega), h2, if_neg (by omega), Int.toNat_natCast, List.take_left]
theorem c_vgo_shift (bs : Int) (a : Nat) : ∀ (l : List UInt8) (b acc i : Nat), vgo bs l (a + b) acc i = ((vgo bs l b acc i).1, ⟨(vgo bs l b acc i).2.rest, a + (vgo bs l b acc i).2.pos, (vgo bs l b acc i).2.err⟩)
  | [], b, acc, i => rfl
  | c :: l, b, acc, i => by
    have ih := c_vgo_shift bs a l (b + 1) (acc + c.toNat % 128 * 2 ^ (7 * i)) (i + 1)
    unfold vgo
    split
    · rfl
    · split
      · rw [Nat.add_assoc, ih]
      · split
        · rfl
        · rfl
theorem c_vgo_zero (bs : Int) : ∀ (l : List UInt8) (b acc i : Nat), (vgo bs l b acc i).2.err ≠ 0 → (vgo bs l b acc i).1 = 0
  | [], b, acc, i, h => rfl
  | c :: l, b, acc, i, h => by
    have ih := c_vgo_zero bs l (b + 1) (acc + c.toNat % 128 * 2 ^ (7 * i)) (i + 1)
    revert h
    unfold vgo
    split
    · exact fun _ => rfl
    · split
      · exact ih
      · split
        · exact fun _ => rfl
        · exact fun h => absurd rfl h
def pVnat (bs : Int) : Pr Nat := fun s q => if (vgo bs (s.drop q) 0 0 0).2.err = 0 then .ok ((vgo bs (s.drop q) 0 0 0).1, q + (vgo bs (s.drop q) 0 0 0).2.pos) else .error (vgo bs (s.drop q) 0 0 0).2.err
theorem vnat_good {bs : Int} {s : List UInt8} {q n r : Nat} (hq : q ≤ s.length) (h : pVnat bs s q = .ok (n, r)) : vread bs ⟨s.drop q, q, 0⟩ = (n, ⟨s.drop r, r, 0⟩) ∧ q ≤ r ∧ r ≤ s.length ∧ r = q + (vput n).length ∧ s.take r = s.take q ++ vput n := by
  have hd : (s.drop q).length = s.length - q := List.length_drop
  unfold pVnat at h
  split at h
  · rename_i he
    injection h with h
    obtain ⟨h1, h2⟩ := Prod.mk.inj h
    obtain ⟨k, v, g1, g2, g3, g4, _⟩ := vgo_ok bs (s.drop q) 0 0 0 _ _ (rfl : _ = ((vgo bs (s.drop q) 0 0 0).1, (vgo bs (s.drop q) 0 0 0).2)) he
    have g3' : (vgo bs (s.drop q) 0 0 0).1 = v := by rw [g3]; simp
    rw [g3'] at h1
    subst h1
    rw [g1] at h2
    simp only [Nat.zero_add] at h2
    have hlk : (vput v).length = k := by rw [g4, List.length_take]; omega
    refine ⟨?_, by omega, by omega, by omega, ?_⟩
    · unfold vread
      rw [if_neg (by simp)]
      have := c_vgo_shift bs q (s.drop q) 0 0 0
      rw [Nat.add_zero] at this
      simp only
      rw [this, g3', g1, ← h2, List.drop_drop]
      simp
    · rw [← h2, take_step, g4]
  · exact nomatch h
theorem vnat_bad {bs : Int} {s : List UInt8} {q : Nat} {e : Int} (h : pVnat bs s q = .error e) : ∃ st, vread bs ⟨s.drop q, q, 0⟩ = (0, st) ∧ st.err = e ∧ e ≠ 0 := by
  unfold pVnat at h
  split at h
  · exact nomatch h
  · rename_i he
    injection h with h
    subst h
    have h0 := c_vgo_zero bs (s.drop q) 0 0 0 he
    refine ⟨(vread bs ⟨s.drop q, q, 0⟩).2, ?_, ?_, he⟩
    · unfold vread
      rw [if_neg (by simp)]
      have := c_vgo_shift bs q (s.drop q) 0 0 0
      rw [Nat.add_zero] at this
      simp only
      rw [this, h0]
    · unfold vread
      rw [if_neg (by simp)]
      have := c_vgo_shift bs q (s.drop q) 0 0 0
      rw [Nat.add_zero] at this
      simp only
      rw [this]
theorem vread_dead {bs : Int} {st : I} (h : st.err ≠ 0) : vread bs st = (0, st) := if_pos h
theorem c_vgo_lt (bs : Int) (hb : bs = 32 ∨ bs = 64) : ∀ (l : List UInt8) (b acc i : Nat), acc < 2 ^ (7 * i) → (vgo bs l b acc i).2.err = 0 → (vgo bs l b acc i).1 < 2 ^ bs.toNat
  | [], b, acc, i, ha, h => by simp [vgo] at h
  | c :: l, b, acc, i, ha, h => by
    have ih := c_vgo_lt bs hb l (b + 1) (acc + c.toNat % 128 * 2 ^ (7 * i)) (i + 1)
    revert h
    unfold vgo
    split
    · exact fun h => absurd h (by simp)
    · rename_i hc
      obtain ⟨h1, h2⟩ := vacc_lt bs hb acc (c.toNat % 128) i ha (by omega) (Nat.mod_lt _ (by decide)) (fun h => hc (.inr h))
      split
      · exact ih h1
      · split
        · exact fun h => absurd h (by simp)
        · exact fun _ => h2
theorem Sp_vnat (bs : Int) (hb : bs = 32 ∨ bs = 64) : Sp (pVnat bs) vput (fun n => n < 2 ^ bs.toNat) := by
  refine ⟨fun s q a r hq h => ?_, fun s t q a hq ha h => ?_⟩
  · obtain ⟨h1, h2, h3, h4, h5⟩ := vnat_good hq h
    refine ⟨h2, h3, h4, h5, ?_⟩
    unfold pVnat at h
    split at h
    · rename_i he
      injection h with h
      rw [← (Prod.mk.inj h).1]
      exact c_vgo_lt bs hb _ _ _ _ (by simp) he
    · exact nomatch h
  · unfold pVnat
    rw [h, vgo_put bs (by omega) a 0 0 0 t (by simpa using ha) (by omega)]
    simp
def pVint (bs : Int) : Pr Int := (pVnat bs).bind fun n => .ret (vback n)
theorem CR_vint (bs : Int) (hb : bs = 32 ∨ bs = 64) : CR (fun st => some (vbackI (vread bs st))) (pVint bs) 0 := by
  refine ⟨fun st h => ?_, fun s q e hq h => ?_, fun s q a r hq h => ?_⟩
  · rw [vread_dead h]
    simp [vbackI, vback]
  · cases hp : pVnat bs s q with
    | error e' =>
      rw [pVint, Pr.bind_err hp] at h
      injection h with h
      subst h
      obtain ⟨st, h1, h2, h3⟩ := vnat_bad hp
      exact ⟨st, by rw [h1]; simp [vbackI, vback], h2, h3⟩
    | ok x =>
      rw [pVint, Pr.bind_of (a := x.1) (r := x.2) hp] at h
      exact nomatch h
  · obtain ⟨n, m, hp, h⟩ := Pr.bind_ok h
    injection h with h
    obtain ⟨rfl, rfl⟩ := Prod.mk.inj h
    rw [(vnat_good hq hp).1]
    rfl
theorem Sp_vint (bs : Int) (hb : bs = 32 ∨ bs = 64) : Sp (pVint bs) (fun n => vput (vfold n)) (fun n => vfold n < 2 ^ bs.toNat) := by
  refine ⟨fun s q a r hq h => ?_, fun s t q a hq ha h => ?_⟩
  · obtain ⟨n, m, hp, h⟩ := Pr.bind_ok h
    injection h with h
    obtain ⟨rfl, rfl⟩ := Prod.mk.inj h
    have := (Sp_vnat bs hb).spell _ _ _ _ hq hp
    rwa [vfold_back]
  · rw [pVint, Pr.bind_of ((Sp_vnat bs hb).back s t q _ hq ha h)]
    simp only [Pr.ret, vback_fold]
def pVaried : Pr Bl := (pVint 32).bind pGot
theorem CR_varied : CR gVaried pVaried (⟨false, []⟩ : Bl) :=
  CR_got (lenop := fun st => vbackI (vread 32 st)) (CR_vint 32 (.inl rfl)) (fun s q a r hq h => ((Sp_vint 32 (.inl rfl)).spell s q a r hq h).2.1)
theorem Sp_varied : Sp pVaried (fun b => vput (vfold (blen b)) ++ b.data) (fun b => vfold (blen b) < 2 ^ (32 : Int).toNat ∧ bright b = true) := Sp_got (Sp_vint 32 (.inl rfl))
def pMust (p : Pr Bl) : Pr (List UInt8) := p.bind fun b => if b.null then .err 4 else .ret b.data
theorem CR_must {op : I → Bl × I} {p : Pr Bl} (h : CR (fun st => some (op st)) p (⟨false, []⟩ : Bl)) (hb : ∀ s q a r, q ≤ s.length → p s q = .ok (a, r) → bright a = true) : CR (fun st => some (bmust (op st))) (pMust p) [] := by
  refine ⟨fun st hs => ?_, fun s q e hq he => ?_, fun s q a r hq hg => ?_⟩
  · have h0 := Option.some.inj (h.dead st hs)
    rw [h0]
    rfl
  · cases hp : p s q with
    | error e' =>
      rw [pMust, Pr.bind_err hp] at he
      injection he with he
      subst he
      obtain ⟨st, h1, h2, h3⟩ := h.bad s q _ hq hp
      have h0 := Option.some.inj h1
      rw [h0]
      exact ⟨st, rfl, h2, h3⟩
    | ok x =>
      obtain ⟨b, r⟩ := x
      rw [pMust, Pr.bind_of hp] at he
      have h0 := Option.some.inj (h.good s q b r hq hp)
      rw [h0]
      have hbr := hb _ _ _ _ hq hp
      split at he
      · rename_i hn
        injection he with he
        subst he
        have : b.data = [] := by unfold bright at hbr; rw [hn] at hbr; simpa using hbr
        refine ⟨⟨s.drop r, r, 4⟩, ?_, rfl, by decide⟩
        unfold bmust
        simp only [hn, if_true, this]
        rfl
      · exact nomatch he
  · obtain ⟨b, m, hp, hg⟩ := Pr.bind_ok hg
    have h0 := Option.some.inj (h.good s q b m hq hp)
    rw [h0]
    split at hg
    · exact nomatch hg
    · rename_i hn
      injection hg with hg
      obtain ⟨rfl, rfl⟩ := Prod.mk.inj hg
      unfold bmust
      simp only [hn, Bool.false_eq_true, if_false]
theorem Sp_must {p : Pr Bl} {enc : Bl → List UInt8} {ok : Bl → Prop} (hp : Sp p enc ok) : Sp (pMust p) (fun d => enc ⟨false, d⟩) (fun d => ok ⟨false, d⟩) := by
  refine ⟨fun s q a r hq h => ?_, fun s t q a hq ha h => ?_⟩
  · obtain ⟨b, m, h1, h⟩ := Pr.bind_ok h
    have h2 := hp.spell _ _ _ _ hq h1
    split at h
    · exact nomatch h
    · rename_i hn
      injection h with h
      obtain ⟨rfl, rfl⟩ := Prod.mk.inj h
      obtain ⟨nu, d⟩ := b
      simp only [Bool.not_eq_true] at hn
      subst hn
      exact h2
  · rw [pMust, Pr.bind_of (hp.back s t q _ hq ha h)]
    rfl
def pName : Pr (List UInt8) := pMust pVaried
theorem CR_name : CR gName pName [] := CR_must (op := bvaried) CR_varied (fun s q a r hq h => (Sp_varied.spell s q a r hq h).2.2.2.2.2)
theorem Sp_name : Sp pName (fun d => vput (vfold (d.length : Int)) ++ d) (fun d => vfold (d.length : Int) < 2 ^ (32 : Int).toNat ∧ bright ⟨false, d⟩ = true) := Sp_must Sp_varied
theorem oput_z (t l : List UInt8) : oput (t, 0) l = (t ++ l, 0) := rfl
theorem ofail_z (t : List UInt8) (e : Int) : ofail (t, 0) e = (t, e) := rfl
theorem fits_rng {n k : Int} (h : fits n k = true) : -9223372036854775808 ≤ n ∧ n ≤ 9223372036854775807 := by
  unfold fits at h
  simp only [Bool.and_eq_true, decide_eq_true_eq] at h
  obtain ⟨⟨⟨h1, h2⟩, h3⟩, h4⟩ := h
  have : (2 : Nat) ^ (8 * k.toNat - 1) ≤ 2 ^ 63 := Nat.pow_le_pow_right (by decide) (by omega)
  have h5 : ((2 : Int) ^ (8 * k.toNat - 1)) = ((2 ^ (8 * k.toNat - 1) : Nat) : Int) := by simp
  have h6 : (2 : Nat) ^ 63 = 9223372036854775808 := by decide
  omega
theorem gOInt_z {t : List UInt8} {n k : Int} (hf : fits n k = true) (ht : t.length ≤ 140737488355320) : gOInt (t, 0) n k = some (t ++ be n k.toNat, 0) := by
  rw [gOInt_eq _ _ _ ⟨fits_rng hf, by simp only; omega⟩]
  unfold oint
  rw [if_pos hf, oput_z]
theorem gPutVaried_z {t : List UInt8} {b : Bl} (hb : bright b = true) (hl : b.data.length ≤ 2147483647) (ht : t.length + b.data.length ≤ 140737488355310) : gPutVaried (t, 0) b = some (t ++ (vput (vfold (blen b)) ++ b.data), 0) := by
  rw [gPutVaried_eq _ _ (by simp only; omega)]
  unfold bputVaried bwrite vputInt
  rw [if_pos hb, if_pos (by unfold blen; split <;> omega), oput_z, oput_z, List.append_assoc]
structure CQ {α : Type} (op : I → Option (α × I)) (p : Pr α) (z : α) : Prop where
  dead : ∀ st : I, st.err ≠ 0 → op st = some (z, st)
  run : ∀ (s : List UInt8) (q : Nat), q ≤ s.length → (∃ (e : Int) (st : I), p s q = .error e ∧ op ⟨s.drop q, q, 0⟩ = some (z, st) ∧ st.err = e ∧ st.err ≠ 0) ∨ (∃ (a : α) (r : Nat), p s q = .ok (a, r) ∧ op ⟨s.drop q, q, 0⟩ = some (a, ⟨s.drop r, r, 0⟩) ∧ q ≤ r ∧ r ≤ s.length)
theorem CR.cq {α : Type} {op : I → Option (α × I)} {p : Pr α} {z : α} {enc : α → List UInt8} {ok : α → Prop} (h : CR op p z) (hs : Sp p enc ok) : CQ op p z := by
  refine ⟨h.dead, fun s q hq => ?_⟩
  cases hp : p s q with
  | error e =>
    obtain ⟨st, h1, h2, h3⟩ := h.bad s q e hq hp
    exact .inl ⟨e, st, rfl, h1, h2, by rw [h2]; exact h3⟩
  | ok x =>
    have := hs.spell s q x.1 x.2 hq hp
    exact .inr ⟨x.1, x.2, rfl, h.good s q x.1 x.2 hq hp, this.1, this.2.1⟩
theorem Q_int (k : Nat) (h1 : 1 ≤ k) (h8 : k ≤ 8) (kk : Int) (hk : kk = (k : Int)) : CQ (fun st => gInt st kk) (pInt k) 0 := (CR_int k h1 h8 kk hk).cq (Sp_int k h1 h8)
theorem Q1 : CQ (fun st => gInt st 1) (pInt 1) 0 := Q_int 1 (by decide) (by decide) 1 rfl
theorem Q2 : CQ (fun st => gInt st 2) (pInt 2) 0 := Q_int 2 (by decide) (by decide) 2 rfl
theorem Q4 : CQ (fun st => gInt st 4) (pInt 4) 0 := Q_int 4 (by decide) (by decide) 4 rfl
theorem Q8 : CQ (fun st => gInt st 8) (pInt 8) 0 := Q_int 8 (by decide) (by decide) 8 rfl
theorem ifail_z (l : List UInt8) (q : Nat) (e : Int) : ifail ⟨l, q, 0⟩ e = ⟨l, q, e⟩ := rfl
theorem QV : CQ gVaried pVaried (⟨false, []⟩ : Bl) := CR_varied.cq Sp_varied
theorem QN : CQ gName pName [] := CR_name.cq Sp_name
theorem otx_z (t : List UInt8) : otx (t, 0) = (t, 0) := by simp [otx]
end Go.Proofs.Ytahjmpipllajcaa.Sl
namespace Go.Proofs.Ytahjmpipllajcaa.Sl
open Go.RowKit
set_option linter.unusedVariables false
set_option linter.unusedSimpArgs false
def shift {α : Type} (q : Nat) : Except Int (α × Nat) → Except Int (α × Nat)
  | .error e => .error e
  | .ok (a, r) => .ok (a, q + r)
def Sh {α : Type} (p : Pr α) : Prop := ∀ (s : List UInt8) (q k : Nat), q + k ≤ s.length → p s (q + k) = shift q (p (s.drop q) k)
theorem Sh.ret {α : Type} (a : α) : Sh (Pr.ret a) := fun s q k h => rfl
theorem Sh.err {α : Type} (e : Int) : Sh (Pr.err e : Pr α) := fun s q k h => rfl
theorem Sh.bind {α β : Type} {p : Pr α} {f : α → Pr β} {enc : α → List UInt8} {ok : α → Prop} (hp : Sh p) (hs : Sp p enc ok) (hf : ∀ a, Sh (f a)) : Sh (p.bind f) := by
  intro s q k h
  unfold Pr.bind
  rw [hp s q k h]
  cases hx : p (s.drop q) k with
  | error e => rfl
  | ok x =>
    have := (hs.spell (s.drop q) k x.1 x.2 (by rw [List.length_drop]; omega) hx).2.1
    rw [List.length_drop] at this
    exact hf x.1 s q x.2 (by omega)
theorem Sh.zero {α : Type} {p : Pr α} (h : Sh p) {s : List UInt8} {q : Nat} (hq : q ≤ s.length) : p s q = shift q (p (s.drop q) 0) := h s q 0 hq
def pLeft (each : Nat) (n : Int) : Pr Int := fun s q => if n < 0 then .error 4 else if 0 < each ∧ ((s.length - q : Nat) : Int) / each < n then .error 1 else .ok (n, q)
def pRep {α : Type} (p : Pr α) : Nat → Pr (List α)
  | 0 => .ret []
  | n + 1 => p.bind fun a => (pRep p n).bind fun l => .ret (a :: l)
def encs {α : Type} (enc : α → List UInt8) : List α → List UInt8
  | [] => []
  | a :: l => enc a ++ encs enc l
theorem Sp_rep {α : Type} {p : Pr α} {enc : α → List UInt8} {ok : α → Prop} (hp : Sp p enc ok) : ∀ n : Nat, Sp (pRep p n) (encs enc) (fun l => l.length = n ∧ ∀ x, x ∈ l → ok x)
  | 0 => by
    refine ⟨fun s q a r hq h => ?_, fun s t q a hq ha h => ?_⟩
    · injection h with h
      obtain ⟨rfl, rfl⟩ := Prod.mk.inj h
      exact ⟨Nat.le_refl _, hq, rfl, by simp [encs], rfl, fun x h => nomatch h⟩
    · obtain rfl := List.length_eq_zero_iff.1 ha.1
      rfl
  | n + 1 => by
    have ih := Sp_rep hp n
    refine ⟨fun s q a r hq h => ?_, fun s t q a hq ha h => ?_⟩
    · obtain ⟨x, q1, h1, h⟩ := Pr.bind_ok h
      obtain ⟨l, q2, h2, h⟩ := Pr.bind_ok h
      injection h with h
      obtain ⟨rfl, rfl⟩ := Prod.mk.inj h
      obtain ⟨a1, a2, a3, a4, a5⟩ := hp.spell _ _ _ _ hq h1
      obtain ⟨b1, b2, b3, b4, b5, b6⟩ := ih.spell _ _ _ _ a2 h2
      refine ⟨by omega, b2, by rw [encs, List.length_append]; omega, by rw [b4, a4, encs, List.append_assoc], by rw [List.length_cons, b5], fun y hy => ?_⟩
      rcases List.mem_cons.1 hy with rfl | hy
      · exact a5
      · exact b6 y hy
    · obtain ⟨ha1, ha2⟩ := ha
      cases a with
      | nil => exact absurd ha1 (by simp)
      | cons x l =>
        rw [encs, List.append_assoc] at h
        have hl := congrArg List.length h
        rw [List.length_drop, List.length_append] at hl
        have g1 := hp.back _ _ _ _ hq (ha2 x (.head _)) h
        have g2 := ih.back _ _ _ _ (by omega) ⟨by simpa using ha1, fun y hy => ha2 y (.tail _ hy)⟩ (drop_step h)
        rw [pRep, Pr.bind_of g1, Pr.bind_of g2]
        simp only [Pr.ret, encs, List.length_append, Nat.add_assoc]
theorem encs_ge {α : Type} {enc : α → List UInt8} {ok : α → Prop} {each : Nat} (he : ∀ x, ok x → each ≤ (enc x).length) : ∀ l : List α, (∀ x, x ∈ l → ok x) → l.length * each ≤ (encs enc l).length
  | [], h => by simp
  | x :: l, h => by
    have := encs_ge he l (fun y hy => h y (.tail _ hy))
    have := he x (h x (.head _))
    rw [encs, List.length_append, List.length_cons, Nat.add_mul]
    omega
structure CB {α : Type} (op : I → Option (α × I)) (p : Pr α) (z : α) : Prop where
  dead : ∀ st : I, st.err ≠ 0 → op st = some (z, st)
  run : ∀ (s : List UInt8) (q : Nat), s.length ≤ 1000000 → q ≤ s.length → (∃ (e : Int) (st : I), p s q = .error e ∧ op ⟨s.drop q, q, 0⟩ = some (z, st) ∧ st.err = e ∧ st.err ≠ 0) ∨ (∃ (a : α) (r : Nat), p s q = .ok (a, r) ∧ op ⟨s.drop q, q, 0⟩ = some (a, ⟨s.drop r, r, 0⟩) ∧ q ≤ r ∧ r ≤ s.length)
theorem CQ.cb {α : Type} {op : I → Option (α × I)} {p : Pr α} {z : α} (h : CQ op p z) : CB op p z := ⟨h.dead, fun s q _ hq => h.run s q hq⟩
def NZ {α : Type} (p : Pr α) : Prop := ∀ (s : List UInt8) (q : Nat) (e : Int), s.length ≤ 1000000 → q ≤ s.length → p s q = .error e → e ≠ 0
theorem CB.nz {α : Type} {op : I → Option (α × I)} {p : Pr α} {z : α} (h : CB op p z) : NZ p := by
  intro s q e hs hq hp
  rcases h.run s q hs hq with ⟨e', st, p1, g, x, y⟩ | ⟨a, r, p1, g, n, l⟩
  · rw [hp] at p1
    injection p1 with p1
    rw [p1, ← x]
    exact y
  · rw [hp] at p1
    exact nomatch p1
theorem NZ.ret {α : Type} (a : α) : NZ (Pr.ret a) := fun s q e _ _ h => nomatch h
theorem NZ.err {α : Type} {e : Int} (he : e ≠ 0) : NZ (Pr.err e : Pr α) := fun s q e' _ _ h => by injection h with h; rw [← h]; exact he
theorem NZ.bind {α β : Type} {p : Pr α} {f : α → Pr β} {enc : α → List UInt8} {ok : α → Prop} (hp : NZ p) (hs : Sp p enc ok) (hf : ∀ a, NZ (f a)) : NZ (p.bind f) := by
  intro s q e hl hq h
  cases hx : p s q with
  | error e' =>
    rw [Pr.bind_err hx] at h
    injection h with h
    rw [← h]
    exact hp s q e' hl hq hx
  | ok x =>
    rw [Pr.bind_of (a := x.1) (r := x.2) hx] at h
    exact hf x.1 s x.2 e hl (hs.spell s q x.1 x.2 hq hx).2.1 h
end Go.Proofs.Ytahjmpipllajcaa.Sl
namespace Go.Proofs.Ytahjmpipllajcaa.Sl
open Go.RowKit
set_option linter.unusedVariables false
set_option linter.unusedSimpArgs false
theorem Sp.congr {α : Type} {p : Pr α} {enc enc' : α → List UInt8} {ok ok' : α → Prop} (h : Sp p enc ok) (hok : ∀ a, ok a ↔ ok' a) (he : ∀ a, ok a → enc a = enc' a) : Sp p enc' ok' := by
  refine ⟨fun s q a r hq hp => ?_, fun s t q a hq ha hd => ?_⟩
  · obtain ⟨h1, h2, h3, h4, h5⟩ := h.spell s q a r hq hp
    rw [← he a h5]
    exact ⟨h1, h2, h3, h4, (hok a).1 h5⟩
  · have ha' := (hok a).2 ha
    rw [← he a ha'] at hd ⊢
    exact h.back s t q a hq ha' hd
theorem Sp.seq {α β : Type} {p : Pr α} {f : α → Pr β} {π : β → α} {enc1 : α → List UInt8} {enc2 : β → List UInt8} {ok1 : α → Prop} {ok2 : β → Prop} (hp : Sp p enc1 ok1) (hf : ∀ a, Sp (f a) enc2 (fun x => ok2 x ∧ π x = a)) :
    Sp (p.bind f) (fun x => enc1 (π x) ++ enc2 x) (fun x => ok1 (π x) ∧ ok2 x) := by
  refine ⟨fun s q x r hq h => ?_, fun s t q x hq hx hd => ?_⟩
  · obtain ⟨a, m, h1, h2⟩ := Pr.bind_ok h
    obtain ⟨a1, a2, a3, a4, a5⟩ := hp.spell s q a m hq h1
    obtain ⟨b1, b2, b3, b4, b5, b6⟩ := (hf a).spell s m x r a2 h2
    subst b6
    exact ⟨by omega, b2, by rw [List.length_append]; omega, by rw [b4, a4, List.append_assoc], a5, b5⟩
  · rw [List.append_assoc] at hd
    have h1 := hp.back s _ q (π x) hq hx.1 hd
    have hl := congrArg List.length hd
    rw [List.length_drop, List.length_append] at hl
    have h2 := (hf (π x)).back s t _ x (by omega) ⟨hx.2, rfl⟩ (drop_step hd)
    rw [Pr.bind_of h1, h2, List.length_append, Nat.add_assoc]
theorem CB.bind {α β : Type} {op1 : I → Option (α × I)} {p : Pr α} {z1 : α} {op2 : α → I → Option (β × I)} {f : α → Pr β} {z : β} (W : α → Prop) (h : CB op1 p z1)
    (hs : ∀ s q a r, s.length ≤ 1000000 → q ≤ s.length → p s q = .ok (a, r) → W a) (hz : W z1) (hf : ∀ a, W a → CB (op2 a) (f a) z) : CB (fun st => (op1 st).bind fun (a, st1) => op2 a st1) (p.bind f) z := by
  refine ⟨fun st hd => ?_, fun s q hl hq => ?_⟩
  · show (op1 st).bind _ = _
    rw [h.dead st hd, Option.bind_some]
    exact (hf z1 hz).dead st hd
  · rcases h.run s q hl hq with ⟨e, st, p1, g1, x1, y1⟩ | ⟨a, r, p1, g1, n1, l1⟩
    · refine .inl ⟨e, st, Pr.bind_err p1, ?_, x1, y1⟩
      show (op1 _).bind _ = _
      rw [g1, Option.bind_some]
      exact (hf z1 hz).dead st y1
    · have g2 : ((op1 ⟨s.drop q, q, 0⟩).bind fun (a, st1) => op2 a st1) = op2 a ⟨s.drop r, r, 0⟩ := by rw [g1, Option.bind_some]
      show (∃ e st, p.bind f s q = _ ∧ ((op1 ⟨s.drop q, q, 0⟩).bind fun (a, st1) => op2 a st1) = _ ∧ _ ∧ _) ∨ (∃ x m, p.bind f s q = _ ∧ ((op1 ⟨s.drop q, q, 0⟩).bind fun (a, st1) => op2 a st1) = _ ∧ _ ∧ _)
      rw [g2, Pr.bind_of p1]
      rcases (hf a (hs s q a r hl hq p1)).run s r hl l1 with ⟨e, st, p2, k2, x2, y2⟩ | ⟨b, m, p2, k2, n2, l2⟩
      · exact .inl ⟨e, st, p2, k2, x2, y2⟩
      · exact .inr ⟨b, m, p2, k2, by omega, l2⟩
theorem CB.congr {α : Type} {op op' : I → Option (α × I)} {p : Pr α} {z : α} (h : CB op p z) (he : ∀ st, op' st = op st) : CB op' p z := ⟨fun st hd => (he st).trans (h.dead st hd), fun s q hl hq => by rw [he]; exact h.run s q hl hq⟩
theorem CB.pr {α : Type} {op : I → Option (α × I)} {p p' : Pr α} {z : α} (h : CB op p z) (he : p = p') : CB op p' z := he ▸ h
theorem CB_chk {α : Type} {op : I → Option (α × I)} {x0 z : α} {e : Int} (h : ∀ st : I, st.err ≠ 0 → op st = some (z, st)) (h0 : ∀ st : I, st.err = 0 → op st = some (if e = 0 then (x0, st) else (z, ifail st e))) : CB op (if e = 0 then .ret x0 else .err e) z := by
  refine ⟨h, fun s q hl hq => ?_⟩
  by_cases he : e = 0
  · rw [if_pos he, h0 _ rfl, if_pos he]
    exact .inr ⟨x0, q, rfl, rfl, Nat.le_refl _, hq⟩
  · rw [if_neg he, h0 _ rfl, if_neg he]
    exact .inl ⟨e, _, rfl, rfl, rfl, he⟩
theorem CB.at {α : Type} {op : I → Option (α × I)} {p : Pr α} {z : α} {enc : α → List UInt8} {ok : α → Prop} (h : CB op p z) (hs : Sp p enc ok) {a : α} {s t : List UInt8} {q : Nat} (hl : s.length ≤ 1000000) (hq : q ≤ s.length) (ha : ok a) (hd : s.drop q = enc a ++ t) :
    op ⟨s.drop q, q, 0⟩ = some (a, ⟨s.drop (q + (enc a).length), q + (enc a).length, 0⟩) ∧ q + (enc a).length ≤ s.length ∧ s.drop (q + (enc a).length) = t := by
  have h1 := hs.back s t q a hq ha hd
  have h2 := congrArg List.length hd
  rw [List.length_drop, List.length_append] at h2
  refine ⟨?_, by omega, drop_step hd⟩
  rcases h.run s q hl hq with ⟨e, st, p1, g1, x1, y1⟩ | ⟨b, r, p1, g1, n1, l1⟩
  · rw [h1] at p1
    exact nomatch p1
  · rw [h1] at p1
    injection p1 with p1
    obtain ⟨rfl, rfl⟩ := Prod.mk.inj p1
    exact g1
end Go.Proofs.Ytahjmpipllajcaa.Sl
namespace Go.Proofs.Ytahjmpipllajcaa.Sl
open Go.RowKit
set_option linter.unusedVariables false
set_option linter.unusedSimpArgs false
theorem Pr.bind_assoc {α β γ : Type} (p : Pr α) (f : α → Pr β) (g : β → Pr γ) : (p.bind f).bind g = p.bind fun a => (f a).bind g := by
  funext s q
  unfold Pr.bind
  cases p s q with
  | error e => rfl
  | ok x => rfl
theorem Pr.ret_bind {α β : Type} (a : α) (f : α → Pr β) : (Pr.ret a).bind f = f a := by
  funext s q
  rfl
def pInts : List Nat → Pr (List Int)
  | [] => .ret []
  | k :: ks => (pInt k).bind fun a => (pInts ks).bind fun l => .ret (a :: l)
def encI : List Nat → List Int → List UInt8
  | k :: ks, x :: xs => be x k ++ encI ks xs
  | _, _ => []
def okI : List Nat → List Int → Prop
  | [], [] => True
  | k :: ks, x :: xs => fits x k = true ∧ okI ks xs
  | _, _ => False
theorem Sp_ints : ∀ ks : List Nat, (∀ k, k ∈ ks → 1 ≤ k ∧ k ≤ 8) → Sp (pInts ks) (encI ks) (okI ks)
  | [], _ => by
    refine ⟨fun s q l r hq h => ?_, fun s t q l hq hl hd => ?_⟩
    · injection h with h
      obtain ⟨rfl, rfl⟩ := Prod.mk.inj h
      exact ⟨Nat.le_refl _, hq, rfl, by simp [encI], trivial⟩
    · cases l with
      | nil => rfl
      | cons x xs => exact nomatch hl
  | k :: ks, hk => by
    have hp := Sp_int k (hk k (List.mem_cons_self ..)).1 (hk k (List.mem_cons_self ..)).2
    have ih := Sp_ints ks (fun j hj => hk j (List.mem_cons_of_mem _ hj))
    refine ⟨fun s q l r hq h => ?_, fun s t q l hq hl hd => ?_⟩
    · obtain ⟨a, m, h1, h2⟩ := Pr.bind_ok h
      obtain ⟨xs, m2, h3, h4⟩ := Pr.bind_ok h2
      injection h4 with h4
      obtain ⟨rfl, rfl⟩ := Prod.mk.inj h4
      obtain ⟨a1, a2, a3, a4, a5⟩ := hp.spell s q a m hq h1
      obtain ⟨b1, b2, b3, b4, b5⟩ := ih.spell s m xs m2 a2 h3
      exact ⟨by omega, b2, by simp only [encI, List.length_append]; omega, by rw [b4, a4, encI, List.append_assoc], a5, b5⟩
    · cases l with
      | nil => exact nomatch hl
      | cons x xs =>
        rw [encI, List.append_assoc] at hd
        have h1 := hp.back s _ q x hq hl.1 hd
        have hl2 := congrArg List.length hd
        rw [List.length_drop, List.length_append] at hl2
        have h2 := ih.back s t _ xs (by omega) hl.2 (drop_step hd)
        rw [pInts, Pr.bind_of h1, Pr.bind_of h2, encI, List.length_append, ← Nat.add_assoc]
        rfl
def KS : List Nat := [8, 4, 4, 1, 4, 2, 4, 8, 8, 8, 2, 4, 4]
theorem KS_ok : ∀ k, k ∈ KS → 1 ≤ k ∧ k ≤ 8 := by decide
def s32 (n : Int) : Int := if n > 2147483647 then n - 4294967296 else n
def toL (p : Pfx) : List Int := [p.fBase, p.fLength, p.fLeader, 2, s32 p.fSum, p.fAttr, p.fLast, p.fFirst, p.fMax, p.fProducer, p.fEpoch, p.fSequence, p.fCount]
def ckE (b m ct : Int) : Int := if m = 2 then (if b < 49 then 4 else if ct < 0 then 10 else 0) else 6
def chkP : List Int → Pr Pfx
  | [a, b, c, m, s, at', la, fi, mx, pr, ep, sq, ct] => if ckE b m ct = 0 then .ret ⟨a, b, c, s % 4294967296, at', la, fi, mx, pr, ep, sq, ct⟩ else .err (ckE b m ct)
  | _ => .err 1
def pPfx : Pr Pfx := (pInts KS).bind chkP
def encP (p : Pfx) : List UInt8 := encI KS (toL p)
def okP (p : Pfx) : Prop := okI KS (toL p) ∧ (0 ≤ p.fSum ∧ p.fSum ≤ 4294967295) ∧ 49 ≤ p.fLength ∧ 0 ≤ p.fCount
theorem okI_len : ∀ {ks : List Nat} {l : List Int}, okI ks l → l.length = ks.length
  | [], [], _ => rfl
  | k :: ks, x :: xs, h => by rw [List.length_cons, List.length_cons, okI_len h.2]
  | [], _ :: _, h => nomatch h
  | _ :: _, [], h => nomatch h
theorem encI_len : ∀ {ks : List Nat} {l : List Int}, okI ks l → (encI ks l).length = ks.sum
  | [], [], _ => rfl
  | k :: ks, x :: xs, h => by rw [encI, List.length_append, be_length, encI_len h.2, List.sum_cons]
  | [], _ :: _, h => nomatch h
  | _ :: _, [], h => nomatch h
theorem len13 {l : List Int} (h : l.length = 13) : ∃ a b c m s t la fi mx pr ep sq ct, l = [a, b, c, m, s, t, la, fi, mx, pr, ep, sq, ct] := by
  match l, h with
  | [a, b, c, m, s, t, la, fi, mx, pr, ep, sq, ct], _ => exact ⟨a, b, c, m, s, t, la, fi, mx, pr, ep, sq, ct, rfl⟩
theorem s32_back {s : Int} (h : fits s 4 = true) : s32 (s % 4294967296) = s := by
  rw [fits_4] at h
  have := of_decide_eq_true h
  unfold s32
  split <;> omega
theorem s32_mod {s : Int} (h : 0 ≤ s ∧ s ≤ 4294967295) : s32 s % 4294967296 = s := by
  unfold s32
  split <;> omega
theorem ckE_zero {b m ct : Int} (h : ckE b m ct = 0) : m = 2 ∧ 49 ≤ b ∧ 0 ≤ ct := by
  unfold ckE at h
  by_cases h1 : m = 2
  · rw [if_pos h1] at h
    by_cases h2 : b < 49
    · rw [if_pos h2] at h; cases h
    · rw [if_neg h2] at h
      by_cases h3 : ct < 0
      · rw [if_pos h3] at h; cases h
      · exact ⟨h1, by omega, by omega⟩
  · rw [if_neg h1] at h; cases h
theorem ckE_of {b ct : Int} (h1 : 49 ≤ b) (h2 : 0 ≤ ct) : ckE b 2 ct = 0 := by
  unfold ckE
  rw [if_pos rfl, if_neg (by omega), if_neg (by omega)]
theorem Sp_pfx : Sp pPfx encP okP := by
  refine ⟨fun s q p r hq h => ?_, fun s t q p hq hp hd => ?_⟩
  · obtain ⟨l, m, h1, h2⟩ := Pr.bind_ok h
    obtain ⟨a1, a2, a3, a4, a5⟩ := (Sp_ints KS KS_ok).spell s q l m hq h1
    obtain ⟨a, b, c, mg, sm, t, la, fi, mx, pr, ep, sq, ct, rfl⟩ := len13 (okI_len a5)
    have hs : fits sm 4 = true := a5.2.2.2.2.1
    unfold chkP at h2
    dsimp only at h2
    by_cases hc : ckE b mg ct = 0
    · rw [if_pos hc] at h2
      injection h2 with h2
      obtain ⟨rfl, rfl⟩ := Prod.mk.inj h2
      obtain ⟨rfl, c2, c3⟩ := ckE_zero hc
      have e : toL ⟨a, b, c, sm % 4294967296, t, la, fi, mx, pr, ep, sq, ct⟩ = [a, b, c, 2, sm, t, la, fi, mx, pr, ep, sq, ct] := by
        unfold toL
        rw [s32_back hs]
      unfold encP okP
      rw [e]
      exact ⟨a1, a2, a3, a4, a5, by show 0 ≤ sm % 4294967296 ∧ sm % 4294967296 ≤ 4294967295; omega, c2, c3⟩
    · rw [if_neg hc] at h2
      exact nomatch h2
  · have h1 := (Sp_ints KS KS_ok).back s t q (toL p) hq hp.1 hd
    rw [pPfx, Pr.bind_of h1]
    unfold toL chkP
    dsimp only
    rw [if_pos (ckE_of hp.2.2.1 hp.2.2.2), s32_mod hp.2.1]
    rfl
theorem and32 (n : Int) : Go.bits .and .i64 n 4294967295 = n % 4294967296 := by
  rw [show (4294967295 : Int) = ((4294967295 : Nat) : Int) from rfl, and_nat n _ (by decide), show (4294967295 : Nat) = 2 ^ 32 - 1 from rfl, Nat.and_two_pow_sub_one_eq_mod]
  omega
def zP : Pfx := ⟨0, 0, 0, 0, 0, 0, 0, 0, 0, 0, 0, 0⟩
def tailP (a b c m s t la fi mx pr ep sq ct : Int) (st : I) : Option (Pfx × I) := (gErr st).bind fun (x57, st58) => (if x57 = 0 then ((if m = 2 then ((if b < 49 then ((gIFail st58 4).bind fun st164 => some st164) else ((if ct < 0 then ((gIFail st58 10).bind fun st172 => some st172) else some st58).bind fun st169 => some st169)).bind fun st161 => some st161) else ((gIFail st58 6).bind fun st174 => some st174)).bind fun st147 => some st147) else some st58).bind fun st117 => (gErr st117).bind fun (x176, st177) => if x176 = 0 then (some ((⟨a, b, c, (Go.bits .and .i64 s 4294967295), t, la, fi, mx, pr, ep, sq, ct⟩ : Pfx), st177)) else (some ((⟨0, 0, 0, 0, 0, 0, 0, 0, 0, 0, 0, 0⟩ : Pfx), st177))
theorem B_tail (a b c m s t la fi mx pr ep sq ct : Int) : CB (tailP a b c m s t la fi mx pr ep sq ct) (chkP [a, b, c, m, s, t, la, fi, mx, pr, ep, sq, ct]) zP := by
  refine CB_chk (fun st h => ?_) (fun st h => ?_)
  · unfold tailP
    rw [gErr_eq, Option.bind_some]
    dsimp only
    rw [if_neg h, Option.bind_some, gErr_eq, Option.bind_some]
    dsimp only
    rw [if_neg h]
    rfl
  · obtain ⟨l, q, e⟩ := st
    obtain rfl : e = 0 := h
    unfold tailP ckE
    rw [gErr_eq, Option.bind_some]
    dsimp only
    rw [if_pos rfl, and32]
    by_cases h1 : m = 2
    · rw [if_pos h1, if_pos h1]
      by_cases h2 : b < 49
      · rw [if_pos h2, if_pos h2, if_neg (by decide)]; rfl
      · rw [if_neg h2, if_neg h2]
        by_cases h3 : ct < 0
        · rw [if_pos h3, if_pos h3, if_neg (by decide)]; rfl
        · rw [if_neg h3, if_neg h3, if_pos rfl]; rfl
    · rw [if_neg h1, if_neg h1, if_neg (by decide)]; rfl
theorem B_pfx : CB (fun st => f_prefix_Read st) pPfx zP := by
  have w : ∀ {p : Pr Int} (s : List UInt8) (q : Nat) (a : Int) (r : Nat), s.length ≤ 1000000 → q ≤ s.length → p s q = .ok (a, r) → (fun _ : Int => True) a := fun _ _ _ _ _ _ _ => trivial
  have h := CB.bind (fun _ => True) Q8.cb w trivial fun a _ => CB.bind (fun _ => True) Q4.cb w trivial fun b _ => CB.bind (fun _ => True) Q4.cb w trivial fun c _ => CB.bind (fun _ => True) Q1.cb w trivial fun m _ => CB.bind (fun _ => True) Q4.cb w trivial fun s _ =>
    CB.bind (fun _ => True) Q2.cb w trivial fun t _ => CB.bind (fun _ => True) Q4.cb w trivial fun la _ => CB.bind (fun _ => True) Q8.cb w trivial fun fi _ => CB.bind (fun _ => True) Q8.cb w trivial fun mx _ => CB.bind (fun _ => True) Q8.cb w trivial fun pr _ =>
    CB.bind (fun _ => True) Q2.cb w trivial fun ep _ => CB.bind (fun _ => True) Q4.cb w trivial fun sq _ => CB.bind (fun _ => True) Q4.cb w trivial fun ct _ => B_tail a b c m s t la fi mx pr ep sq ct
  refine (h.congr (fun st => rfl)).pr ?_
  unfold pPfx KS
  simp only [pInts, Pr.bind_assoc, Pr.ret_bind]
end Go.Proofs.Ytahjmpipllajcaa.Sl
namespace Go.Proofs.Ytahjmpipllajcaa.Sl
open Go.RowKit
set_option linter.unusedVariables false
set_option linter.unusedSimpArgs false
def wrI : List Nat → List Int → List UInt8 × Int → Option (List UInt8 × Int)
  | k :: ks, x :: xs, st => (gOInt st x (k : Int)).bind fun st => wrI ks xs st
  | _, _, st => some st
theorem wrI_ok : ∀ (ks : List Nat) (l : List Int) (t : List UInt8), okI ks l → t.length + ks.sum ≤ 1000000 → wrI ks l (t, 0) = some (t ++ encI ks l, 0)
  | [], [], t, _, _ => by unfold wrI encI; rw [List.append_nil]
  | [], _ :: _, _, h, _ => nomatch h
  | _ :: _, [], _, h, _ => nomatch h
  | k :: ks, x :: xs, t, h, hl => by
    rw [List.sum_cons] at hl
    rw [wrI, gOInt_z h.1 (by omega), Option.bind_some, Int.toNat_natCast, wrI_ok ks xs _ h.2 (by rw [List.length_append, be_length]; omega), encI, List.append_assoc]
def w32 (n : Int) : Int := IntKind.i32.wrap (IntKind.u32.wrap n)
theorem w32_rng (n : Int) : -2147483648 ≤ w32 n ∧ w32 n ≤ 2147483647 := by
  unfold w32
  rw [IntKind.wrap_i32]
  omega
theorem w32_s {n : Int} (h : 0 ≤ n ∧ n ≤ 4294967295) : w32 n = s32 n := by
  unfold w32 s32
  rw [IntKind.wrap_i32, IntKind.wrap_u32]
  split <;> omega
def toW (p : Pfx) : List Int := [p.fBase, p.fLength, p.fLeader, 2, w32 p.fSum, p.fAttr, p.fLast, p.fFirst, p.fMax, p.fProducer, p.fEpoch, p.fSequence, p.fCount]
theorem write_eq (st : List UInt8 × Int) (p : Pfx) : f_prefix_Write st p = wrI KS (toW p) (if p.fSum < 0 ∨ p.fSum > 4294967295 then ofail st 11 else st) := by
  have hw := w32_rng p.fSum
  unfold f_prefix_Write
  have e : ((if p.fSum < 0 then some true else (if p.fSum > 4294967295 then some true else some false)).bind fun y4 => (if y4 = true then ((gOFail st 11).bind fun st14 => some st14) else some st)) = some (if p.fSum < 0 ∨ p.fSum > 4294967295 then ofail st 11 else st) := by
    by_cases h1 : p.fSum < 0
    · rw [if_pos h1, Option.bind_some, if_pos rfl, if_pos (.inl h1)]; rfl
    · rw [if_neg h1]
      by_cases h2 : p.fSum > 4294967295
      · rw [if_pos h2, Option.bind_some, if_pos rfl, if_pos (.inr h2)]; rfl
      · rw [if_neg h2, Option.bind_some, if_neg (by decide), if_neg (by omega)]
  have e2 : ∀ (K : List UInt8 × Int → Option (List UInt8 × Int)), ((if p.fSum < 0 then some true else (if p.fSum > 4294967295 then some true else some false)).bind fun y4 => (if y4 = true then ((gOFail st 11).bind fun st14 => some st14) else some st).bind K) = K (if p.fSum < 0 ∨ p.fSum > 4294967295 then ofail st 11 else st) := by
    intro K
    rw [← Option.bind_assoc, e, Option.bind_some]
  rw [e2]
  show (if -9223372036854775808 ≤ w32 p.fSum ∧ w32 p.fSum ≤ 9223372036854775807 then _ else _) = _
  rw [if_pos (by omega)]
  rfl
def okWp (p : Pfx) : Prop := okI KS (toL p) ∧ 0 ≤ p.fSum ∧ p.fSum ≤ 4294967295
theorem encP_len {p : Pfx} (h : okI KS (toL p)) : (encP p).length = 61 := by
  unfold encP
  rw [encI_len h]
  rfl
theorem write_ok {p : Pfx} (t : List UInt8) (h : okWp p) (ht : t.length ≤ 900000) : f_prefix_Write (t, 0) p = some (t ++ encP p, 0) := by
  have e : toW p = toL p := by
    unfold toW toL
    rw [w32_s h.2]
  have h2 := h.2
  rw [write_eq, if_neg (by omega), e]
  exact wrI_ok KS (toL p) t h.1 (by show t.length + 61 ≤ _; omega)
end Go.Proofs.Ytahjmpipllajcaa.Sl
namespace Go.Proofs.Ytahjmpipllajcaa.Sl
open Go.RowKit
set_option linter.unusedVariables false
set_option linter.unusedSimpArgs false
theorem gVaried_d {st : I} (h : st.err ≠ 0) : gVaried st = some (⟨false, []⟩, st) := QV.dead st h
theorem gName_d {st : I} (h : st.err ≠ 0) : gName st = some ([], st) := QN.dead st h
theorem Q_vint : CQ gVInt (pVint 32) 0 := (CR_vint 32 (.inl rfl)).cq (Sp_vint 32 (.inl rfl))
theorem gVInt_d {st : I} (h : st.err ≠ 0) : gVInt st = some (0, st) := Q_vint.dead st h
def pCountV (each : Nat) : Pr Int := (pVint 32).bind (pLeft each)
theorem pCountV_ok {each : Nat} {s : List UInt8} {q r : Nat} {n : Int} (hq : q ≤ s.length) (h : pCountV each s q = .ok (n, r)) : 0 ≤ n ∧ (0 < each → n * each ≤ ((s.length - r : Nat) : Int)) ∧ q ≤ r ∧ r = q + (vput (vfold n)).length ∧ r ≤ s.length ∧ s.take r = s.take q ++ vput (vfold n) ∧ vfold n < 2 ^ (32 : Int).toNat := by
  obtain ⟨m, r', h2, h⟩ := Pr.bind_ok h
  obtain ⟨a1, a2, a3, a4, a5⟩ := (Sp_vint 32 (.inl rfl)).spell _ _ _ _ hq h2
  unfold pLeft at h
  split at h
  · exact nomatch h
  · rename_i hn
    split at h
    · exact nomatch h
    · rename_i he
      injection h with h
      obtain ⟨rfl, rfl⟩ := Prod.mk.inj h
      refine ⟨by omega, fun hz => ?_, a1, a3, a2, a4, a5⟩
      have : m ≤ ((s.length - r' : Nat) : Int) / each := by
        rcases Int.lt_or_le (((s.length - r' : Nat) : Int) / each) m with g | g
        · exact absurd ⟨hz, g⟩ he
        · exact g
      exact (Int.le_ediv_iff_mul_le (by omega)).1 this
theorem pCountV_of {each : Nat} {s t : List UInt8} {q : Nat} {n : Int} (hq : q ≤ s.length) (hf : vfold n < 2 ^ (32 : Int).toNat) (hn : 0 ≤ n) (h : s.drop q = vput (vfold n) ++ t) (hl : 0 < each → n * each ≤ t.length) : pCountV each s q = .ok (n, q + (vput (vfold n)).length) := by
  have g := (Sp_vint 32 (.inl rfl)).back s t q n hq hf h
  rw [pCountV, Pr.bind_of g]
  unfold pLeft
  have hlen := congrArg List.length h
  rw [List.length_drop, List.length_append] at hlen
  rw [if_neg (by omega), if_neg]
  rintro ⟨hz, hc⟩
  have := (Int.le_ediv_iff_mul_le (show (0 : Int) < each by omega)).2 (hl hz)
  rw [show s.length - (q + (vput (vfold n)).length) = t.length by omega] at hc
  omega
def pRowV {α : Type} (each : Nat) (p : Pr α) : Pr (List α) := (pCountV each).bind fun n => pRep p n.toNat
theorem Sp_rowV {α : Type} {p : Pr α} {enc : α → List UInt8} {ok : α → Prop} (each : Nat) (hp : Sp p enc ok) (he : ∀ x, ok x → each ≤ (enc x).length) : Sp (pRowV each p) (fun l => vput (vfold (l.length : Int)) ++ encs enc l) (fun l => vfold (l.length : Int) < 2 ^ (32 : Int).toNat ∧ ∀ x, x ∈ l → ok x) := by
  refine ⟨fun s q a r hq h => ?_, fun s t q a hq ha h => ?_⟩
  · obtain ⟨n, q1, g1, h⟩ := Pr.bind_ok h
    obtain ⟨a1, a2, a3, a4, a5, a6, a7⟩ := pCountV_ok hq g1
    obtain ⟨b1, b2, b3, b4, b5, b6⟩ := (Sp_rep hp n.toNat).spell _ _ _ _ a5 h
    have hn : (a.length : Int) = n := by omega
    refine ⟨by omega, b2, by rw [List.length_append, hn]; omega, by rw [b4, a6, hn, List.append_assoc], by rw [hn]; exact a7, b6⟩
  · rw [List.append_assoc] at h
    have hl := congrArg List.length h
    rw [List.length_drop, List.length_append, List.length_append] at hl
    have g1 := pCountV_of (each := each) hq ha.1 (by omega) h (fun _ => by
      have := encs_ge he a ha.2
      rw [List.length_append, Int.natCast_add, ← Int.natCast_mul]
      omega)
    have h2 := drop_step h
    have g2 := (Sp_rep hp a.length).back _ _ _ _ (by omega) ⟨rfl, ha.2⟩ h2
    rw [pRowV, Pr.bind_of g1, Int.toNat_natCast, g2, List.length_append]
    simp only [Nat.add_assoc]
end Go.Proofs.Ytahjmpipllajcaa.Sl
namespace Go.Proofs.Ytahjmpipllajcaa.Sl
open Go.RowKit
set_option linter.unusedVariables false
set_option linter.unusedSimpArgs false
def pHd : Pr Hd := pName.bind fun k => pVaried.bind fun v => .ret ⟨k, v⟩
def encHd (h : Hd) : List UInt8 := (vput (vfold (h.fKey.length : Int)) ++ h.fKey) ++ (vput (vfold (blen h.fValue)) ++ h.fValue.data)
def okHd (h : Hd) : Prop := vfold (h.fKey.length : Int) < 2 ^ (32 : Int).toNat ∧ vfold (blen h.fValue) < 2 ^ (32 : Int).toNat ∧ bright h.fValue = true
theorem Sp_hd : Sp pHd encHd okHd := by
  refine ⟨fun s q a r hq h => ?_, fun s t q a hq ha h => ?_⟩
  · obtain ⟨k, q1, h1, h⟩ := Pr.bind_ok h
    obtain ⟨v, q2, h2, h⟩ := Pr.bind_ok h
    injection h with h
    obtain ⟨rfl, rfl⟩ := Prod.mk.inj h
    obtain ⟨a1, a2, a3, a4, a5⟩ := Sp_name.spell _ _ _ _ hq h1
    obtain ⟨b1, b2, b3, b4, b5⟩ := Sp_varied.spell _ _ _ _ a2 h2
    exact ⟨by omega, b2, by simp only [encHd, List.length_append] at *; omega, by rw [b4, a4]; simp only [encHd, List.append_assoc], a5.1, b5⟩
  · obtain ⟨a1, a2, a3⟩ := ha
    have hl := congrArg List.length h
    rw [encHd, List.append_assoc] at h
    have g1 := Sp_name.back _ _ _ _ hq ⟨a1, rfl⟩ h
    have h := drop_step h
    have g2 := Sp_varied.back _ _ _ _ (by simp only [encHd, List.length_drop, List.length_append] at *; omega) ⟨a2, a3⟩ h
    rw [pHd, Pr.bind_of g1, Pr.bind_of g2]
    simp only [Pr.ret, encHd, List.length_append, Nat.add_assoc]
theorem encHd_ge (h : Hd) (ho : okHd h) : 2 ≤ (encHd h).length := by
  have h1 := vput_pos (vfold (h.fKey.length : Int))
  have h2 := vput_pos (vfold (blen h.fValue))
  simp only [encHd, List.length_append]
  omega
def pHds : Pr (List Hd) := pRowV 2 pHd
theorem Sp_hds : Sp pHds (fun l => vput (vfold (l.length : Int)) ++ encs encHd l) (fun l => vfold (l.length : Int) < 2 ^ (32 : Int).toNat ∧ ∀ h, h ∈ l → okHd h) := Sp_rowV 2 Sp_hd encHd_ge
theorem hd_loop (n : Int) (s : List UInt8) (hs : s.length ≤ 1000000) (hn : n ≤ 1000000) : ∀ (m fuel k : Nat) (acc : List Hd) (q : Nat), ((k + m : Nat) : Int) = n → m < fuel → q ≤ s.length → acc.length = k →
    (∃ (e : Int) (st : I), pRep pHd m s q = .error e ∧ f_header_Read_l1 n fuel [] acc k ⟨s.drop q, q, 0⟩ = some (.ret ([], st)) ∧ st.err = e ∧ st.err ≠ 0) ∨
    (∃ l r, pRep pHd m s q = .ok (l, r) ∧ f_header_Read_l1 n fuel [] acc k ⟨s.drop q, q, 0⟩ = some (.go ([], acc ++ l, k + m, ⟨s.drop r, r, 0⟩)) ∧ q ≤ r ∧ r ≤ s.length)
  | 0, fuel + 1, k, acc, q, h1, h2, h3, h4 => .inr ⟨[], q, rfl, by rw [f_header_Read_l1, if_neg (by omega), List.append_nil]; rfl, Nat.le_refl _, h3⟩
  | m + 1, fuel + 1, k, acc, q, h1, h2, h3, h4 => by
    rw [f_header_Read_l1, if_pos (by omega)]
    rcases QN.run s q h3 with ⟨e, st, p1, g1, x1, y1⟩ | ⟨nm, q1, p1, g1, n1, l1⟩
    · left
      refine ⟨e, st, by rw [pRep, Pr.bind_err (show pHd s q = .error e from Pr.bind_err p1)], ?_, x1, y1⟩
      rw [g1, Option.bind_some]
      simp only
      rw [gVaried_d y1, Option.bind_some]
      simp only
      rw [if_pos (by omega), gErr_eq, Option.bind_some]
      simp only
      rw [if_neg y1]
    rw [g1, Option.bind_some]
    simp only
    rcases QV.run s q1 l1 with ⟨e, st, p2, g2, x2, y2⟩ | ⟨v, q2, p2, g2, n2, l2⟩
    · left
      have ht : pHd s q = .error e := by rw [pHd, Pr.bind_of p1, Pr.bind_err p2]
      refine ⟨e, st, by rw [pRep, Pr.bind_err ht], ?_, x2, y2⟩
      rw [g2, Option.bind_some]
      simp only
      rw [if_pos (by omega), gErr_eq, Option.bind_some]
      simp only
      rw [if_neg y2]
    rw [g2, Option.bind_some]
    simp only
    rw [if_pos (by omega), gErr_eq, Option.bind_some]
    simp only [if_true]
    rw [if_pos (by omega)]
    have ht : pHd s q = .ok (⟨nm, v⟩, q2) := by rw [pHd, Pr.bind_of p1, Pr.bind_of p2]; rfl
    rw [pRep, Pr.bind_of ht]
    rcases hd_loop n s hs hn m fuel (k + 1) (acc ++ [(⟨nm, v⟩ : Hd)]) q2 (by omega) (by omega) l2 (by rw [List.length_append, h4]; rfl) with ⟨e, st, r1, r2, r3, r4⟩ | ⟨l, r, r1, r2, r3, r4⟩
    · exact .inl ⟨e, st, by rw [Pr.bind_err r1], r2, r3, r4⟩
    · refine .inr ⟨⟨nm, v⟩ :: l, r, by rw [Pr.bind_of r1]; rfl, ?_, by omega, r4⟩
      rw [r2, List.append_assoc, show k + 1 + m = k + (m + 1) by omega]
      rfl
theorem B_hds : CB f_header_Read pHds [] := by
  refine ⟨fun st h => ?_, fun s q hs hq => ?_⟩
  · unfold f_header_Read
    rw [gVInt_d h, Option.bind_some]
    simp only
    rw [gErr_eq, Option.bind_some]
    simp only
    rw [if_neg h]
  · unfold f_header_Read
    rcases Q_vint.run s q hq with ⟨e, st, p1, g1, x1, y1⟩ | ⟨c, q1, p1, g1, n1, l1⟩
    · refine .inl ⟨e, st, Pr.bind_err (Pr.bind_err p1), ?_, x1, y1⟩
      rw [g1, Option.bind_some]
      simp only
      rw [gErr_eq, Option.bind_some]
      simp only
      rw [if_neg y1]
    · rw [g1, Option.bind_some]
      simp only
      rw [gErr_eq, Option.bind_some]
      simp only [if_true]
      have hd : (s.drop q1).length = s.length - q1 := List.length_drop
      have hE : pHds s q = ((pLeft 2 c).bind fun n => pRep pHd n.toNat) s q1 := by
        unfold pHds pRowV pCountV Pr.bind
        rw [p1]
      rw [hE]
      unfold Pr.bind pLeft
      by_cases hn : c < 0
      · rw [if_pos hn, if_pos hn]
        exact .inl ⟨4, _, rfl, rfl, rfl, by simp [ifail]⟩
      rw [if_neg hn, if_neg hn, gLeft_eq, Option.bind_some]
      simp only
      rw [hd, if_pos (show 0 ≤ ((s.length - q1 : Nat) : Int) ∧ ((s.length - q1 : Nat) : Int) ≤ 9223372036854775807 by omega)]
      by_cases hc : 0 < 2 ∧ ((s.length - q1 : Nat) : Int) / ((2 : Nat) : Int) < c
      · have hc2 : c > ((s.length - q1 : Nat) : Int) / 2 := hc.2
        rw [if_pos hc, if_pos hc2]
        exact .inl ⟨1, _, rfl, rfl, rfl, by simp [ifail]⟩
      · have hc2 : ¬ c > ((s.length - q1 : Nat) : Int) / 2 := fun h => hc ⟨by decide, h⟩
        rw [if_neg hc, if_neg hc2]
        simp only
        rcases hd_loop c s hs (by omega) c.toNat (c.toNat + 1) 0 [] q1 (by omega) (by omega) l1 rfl with ⟨e, st, r1, r2, r3, r4⟩ | ⟨l, r, r1, r2, r3, r4⟩
        · exact .inl ⟨e, st, r1, by rw [r2]; rfl, r3, r4⟩
        · refine .inr ⟨l, r, r1, ?_, by omega, r4⟩
          rw [r2, List.nil_append]
          rfl
end Go.Proofs.Ytahjmpipllajcaa.Sl
namespace Go.Proofs.Ytahjmpipllajcaa.Sl
open Go.RowKit
set_option linter.unusedVariables false
set_option linter.unusedSimpArgs false
def hwt (h : Hd) : Nat := 20 + h.fKey.length + h.fValue.data.length
def hwts : List Hd → Nat
  | [] => 0
  | h :: l => hwt h + hwts l
theorem vput_small32 (n : Int) (h : -1 ≤ n) (h2 : n ≤ 2147483647) : (vput (vfold n)).length ≤ 10 := vput_ten _ (vfold_lt n (by omega) (by omega))
theorem vfold_ok (n : Int) (h : -1 ≤ n) (h2 : n ≤ 2147483647) : vfold n < 2 ^ (32 : Int).toNat := by
  rw [show 2 ^ (32 : Int).toNat = 4294967296 by decide]
  exact vfold_lt32 n ⟨by omega, h2⟩
theorem blen_small (b : Bl) (h : b.data.length ≤ 2147483647) : -1 ≤ blen b ∧ blen b ≤ 2147483647 := by unfold blen; split <;> omega
theorem encHd_len (h : Hd) (hk : h.fKey.length ≤ 1000000) (hv : h.fValue.data.length ≤ 1000000) : (encHd h).length ≤ hwt h := by
  have h1 := vput_small32 (h.fKey.length : Int) (by omega) (by omega)
  have hb := blen_small h.fValue (by omega)
  have h2 := vput_small32 (blen h.fValue) hb.1 hb.2
  simp only [encHd, List.length_append, hwt]
  omega
theorem encHds_len : ∀ l : List Hd, hwts l ≤ 1000000 → (encs encHd l).length ≤ hwts l
  | [], h => Nat.le_refl _
  | x :: l, h => by
    have h1 : hwt x ≤ hwts (x :: l) := by rw [hwts]; omega
    have h2 := encHds_len l (by rw [hwts] at h; omega)
    have h3 := encHd_len x (by unfold hwt at h1; omega) (by unfold hwt at h1; omega)
    rw [encs, List.length_append, hwts]
    omega
theorem gPutName_z {t d : List UInt8} (hf : d.length ≤ 1000000) (ht : t.length ≤ 1000000000) : gPutName (t, 0) d = some (t ++ (vput (vfold (d.length : Int)) ++ d), 0) := by
  have := gPutVaried_z (t := t) (b := ⟨false, d⟩) rfl (by simp only; omega) (by simp only; omega)
  rw [gPutName_eq _ _ (by simp only; omega)]
  rw [gPutVaried_eq _ _ (by simp only; omega)] at this
  exact this
theorem hw_l1 : ∀ (l : List Hd) (t : List UInt8), (∀ h, h ∈ l → bright h.fValue = true) → t.length + hwts l ≤ 1000000 → f_header_Write_l1 l (t, 0) = some (t ++ encs encHd l, 0)
  | [], t, h, hl => by rw [f_header_Write_l1, encs, List.append_nil]
  | x :: l, t, h, hl => by
    have hx : t.length + (hwt x + hwts l) ≤ 1000000 := hl
    have h1 := encHd_len x (by unfold hwt at hx; omega) (by unfold hwt at hx; omega)
    have h2 : (vput (vfold (x.fKey.length : Int)) ++ x.fKey).length ≤ (encHd x).length := by simp only [encHd, List.length_append]; omega
    have e : t ++ (vput (vfold (x.fKey.length : Int)) ++ x.fKey) ++ (vput (vfold (blen x.fValue)) ++ x.fValue.data) = t ++ encHd x := by simp only [encHd, List.append_assoc]
    have h3 : (t ++ (vput (vfold (x.fKey.length : Int)) ++ x.fKey)).length = t.length + (vput (vfold (x.fKey.length : Int)) ++ x.fKey).length := List.length_append
    rw [f_header_Write_l1, gPutName_z (by unfold hwt at hx; omega) (by omega), Option.bind_some, gPutVaried_z (h x (.head _)) (by unfold hwt at hx; omega) (by rw [h3]; unfold hwt at hx h1; omega), Option.bind_some, e, hw_l1 l _ (fun y hy => h y (.tail _ hy)) (by rw [List.length_append]; omega), encs, List.append_assoc]
theorem hwts_len : ∀ l : List Hd, l.length * 20 ≤ hwts l
  | [] => by simp [hwts]
  | h :: l => by have := hwts_len l; simp only [hwts, hwt, List.length_cons]; omega
theorem hwts_mem : ∀ (l : List Hd) (h : Hd), h ∈ l → hwt h ≤ hwts l
  | x :: l, h, hm => by
    rcases List.mem_cons.1 hm with rfl | hm
    · simp only [hwts]; omega
    · have := hwts_mem l h hm; simp only [hwts]; omega
theorem hwrite_z (l : List Hd) (t : List UInt8) (h : ∀ x, x ∈ l → bright x.fValue = true) (ht : t.length + 10 + hwts l ≤ 1000000) : f_header_Write (t, 0) l = some (t ++ (vput (vfold (l.length : Int)) ++ encs encHd l), 0) := by
  have hn := hwts_len l
  have h1 := vput_small32 (l.length : Int) (by omega) (by omega)
  unfold f_header_Write
  rw [gPutInt_eq _ _ ⟨by omega, by simp only; omega⟩]
  unfold vputInt
  rw [if_pos (by omega), oput_z, Option.bind_some, hw_l1 l _ h (by rw [List.length_append]; omega), List.append_assoc]
  rfl
end Go.Proofs.Ytahjmpipllajcaa.Sl
namespace Go.Proofs.Ytahjmpipllajcaa.Sl
open Go.RowKit
set_option linter.unusedVariables false
set_option linter.unusedSimpArgs false
theorem Q_vlong : CQ gVLong (pVint 64) 0 := (CR_vint 64 (.inr rfl)).cq (Sp_vint 64 (.inr rfl))
theorem gVLong_d {st : I} (h : st.err ≠ 0) : gVLong st = some (0, st) := Q_vlong.dead st h
theorem c_gClose_d {st : I} (h : st.err ≠ 0) : gClose st = some (st.err, st) := by rw [gClose_eq, iclose_err h]
def pStop : Pr Unit := fun s q => if q = s.length then .ok ((), q) else .error 2
def zRec : Rec := ⟨0, 0, ⟨false, []⟩, ⟨false, []⟩, []⟩
def pBody : Pr Rec := (pInt 1).bind fun z => if z = 0 then (pVint 64).bind fun t => (pVint 32).bind fun o => if o < 0 then .err 11 else pVaried.bind fun k => pVaried.bind fun v => pHds.bind fun h => pStop.bind fun _ => .ret ⟨t, o, k, v, h⟩ else .err 8
def bodyOp (st9 : I) : Option (Rec × Int) := (gInt st9 1).bind fun (x12, st13) => if x12 = 0 then ((gVLong st13).bind fun (x16, st17) => (gVInt st17).bind fun (x19, st20) => if x19 < 0 then ((gIFail st20 11).bind fun st24 => (gVaried st24).bind fun (x26, st27) => (gVaried st27).bind fun (x29, st30) => (f_header_Read st30).bind fun (x32, st35) => (gClose st35).bind fun (x37, st38) => some ((⟨x16, x19, x26, x29, x32⟩ : Rec), x37)) else ((gVaried st20).bind fun (x43, st44) => (gVaried st44).bind fun (x46, st47) => (f_header_Read st47).bind fun (x49, st52) => (gClose st52).bind fun (x54, st55) => some ((⟨x16, x19, x43, x46, x49⟩ : Rec), x54))) else ((gIFail st13 8).bind fun st60 => (gVLong st60).bind fun (x62, st63) => (gVInt st63).bind fun (x65, st66) => if x65 < 0 then ((gIFail st66 11).bind fun st70 => (gVaried st70).bind fun (x72, st73) => (gVaried st73).bind fun (x75, st76) => (f_header_Read st76).bind fun (x78, st81) => (gClose st81).bind fun (x83, st84) => some ((⟨x62, x65, x72, x75, x78⟩ : Rec), x83)) else ((gVaried st66).bind fun (x89, st90) => (gVaried st90).bind fun (x92, st93) => (f_header_Read st93).bind fun (x95, st98) => (gClose st98).bind fun (x100, st101) => some ((⟨x62, x65, x89, x92, x95⟩ : Rec), x100)))
theorem body_run (s : List UInt8) (hs : s.length ≤ 1000000) : (∃ e x, pBody s 0 = .error e ∧ bodyOp ⟨s, 0, 0⟩ = some (x, e) ∧ e ≠ 0) ∨ (∃ x, pBody s 0 = .ok (x, s.length) ∧ bodyOp ⟨s, 0, 0⟩ = some (x, 0)) := by
  unfold bodyOp pBody
  have r0 := Q1.run s 0 (Nat.zero_le _)
  rw [List.drop_zero] at r0
  have hB := B_hds
  rcases r0 with ⟨e, st, p0, g0, x0, y0⟩ | ⟨z, q0, p0, g0, n0, l0⟩
  · refine .inl ⟨e, ⟨0, 0, ⟨false, []⟩, ⟨false, []⟩, []⟩, Pr.bind_err p0, ?_, by rw [← x0]; exact y0⟩
    rw [g0]
    simp only [Option.bind_some, if_true, gVLong_d y0, gVInt_d y0, gVaried_d y0, hB.dead _ y0, c_gClose_d y0, x0, show ¬ (0 : Int) < 0 by decide, if_false]
  rw [g0, Option.bind_some]
  simp only
  by_cases hz : z = 0
  · rw [if_pos hz, Pr.bind_of p0, if_pos hz]
    rcases Q_vlong.run s q0 l0 with ⟨e, st, p1, g1, x1, y1⟩ | ⟨a, q1, p1, g1, n1, l1⟩
    · refine .inl ⟨e, ⟨0, 0, ⟨false, []⟩, ⟨false, []⟩, []⟩, Pr.bind_err p1, ?_, by rw [← x1]; exact y1⟩
      rw [g1]
      simp only [Option.bind_some, if_true, gVInt_d y1, gVaried_d y1, hB.dead _ y1, c_gClose_d y1, x1, show ¬ (0 : Int) < 0 by decide, if_false]
    rw [g1, Option.bind_some, Pr.bind_of p1]
    simp only
    rcases Q_vint.run s q1 l1 with ⟨e, st, p2, g2, x2, y2⟩ | ⟨o, q2, p2, g2, n2, l2⟩
    · refine .inl ⟨e, ⟨a, 0, ⟨false, []⟩, ⟨false, []⟩, []⟩, Pr.bind_err p2, ?_, by rw [← x2]; exact y2⟩
      rw [g2]
      simp only [Option.bind_some, if_true, gVaried_d y2, hB.dead _ y2, c_gClose_d y2, x2, show ¬ (0 : Int) < 0 by decide, if_false]
    rw [g2, Option.bind_some, Pr.bind_of p2]
    simp only
    by_cases ho : o < 0
    · rw [if_pos ho, if_pos ho, gIFail_eq, Option.bind_some, ifail_z]
      have y : (⟨s.drop q2, q2, 11⟩ : I).err ≠ 0 := by simp
      refine .inl ⟨11, ⟨a, o, ⟨false, []⟩, ⟨false, []⟩, []⟩, rfl, ?_, by decide⟩
      simp only [Option.bind_some, gVaried_d y, hB.dead _ y, c_gClose_d y]
    rw [if_neg ho, if_neg ho]
    rcases QV.run s q2 l2 with ⟨e, st, p3, g3, x3, y3⟩ | ⟨k, q3, p3, g3, n3, l3⟩
    · refine .inl ⟨e, ⟨a, o, ⟨false, []⟩, ⟨false, []⟩, []⟩, Pr.bind_err p3, ?_, by rw [← x3]; exact y3⟩
      rw [g3]
      simp only [Option.bind_some, gVaried_d y3, hB.dead _ y3, c_gClose_d y3, x3]
    rw [g3, Option.bind_some, Pr.bind_of p3]
    simp only
    rcases QV.run s q3 l3 with ⟨e, st, p4, g4, x4, y4⟩ | ⟨v, q4, p4, g4, n4, l4⟩
    · refine .inl ⟨e, ⟨a, o, k, ⟨false, []⟩, []⟩, Pr.bind_err p4, ?_, by rw [← x4]; exact y4⟩
      rw [g4]
      simp only [Option.bind_some, hB.dead _ y4, c_gClose_d y4, x4]
    rw [g4, Option.bind_some, Pr.bind_of p4]
    simp only
    rcases hB.run s q4 hs l4 with ⟨e, st, p5, g5, x5, y5⟩ | ⟨h, q5, p5, g5, n5, l5⟩
    · refine .inl ⟨e, ⟨a, o, k, v, []⟩, Pr.bind_err p5, ?_, by rw [← x5]; exact y5⟩
      rw [g5]
      simp only [Option.bind_some, c_gClose_d y5, x5]
    rw [g5, Option.bind_some, Pr.bind_of p5]
    simp only
    rw [gClose_eq, Option.bind_some]
    simp only
    by_cases hq : q5 = s.length
    · have he : pStop s q5 = .ok ((), q5) := by unfold pStop; rw [if_pos hq]
      have hi : (iclose ⟨s.drop q5, q5, 0⟩).err = 0 := by rw [hq, List.drop_length]; rfl
      rw [Pr.bind_of he, hi]
      exact .inr ⟨⟨a, o, k, v, h⟩, by rw [hq]; rfl, rfl⟩
    · have he : pStop s q5 = .error 2 := by unfold pStop; rw [if_neg hq]
      have hi : (iclose ⟨s.drop q5, q5, 0⟩).err = 2 := by
        unfold iclose
        rw [if_neg]
        · rfl
        · intro h0
          have := List.drop_eq_nil_iff.1 h0
          omega
      rw [Pr.bind_err he, hi]
      exact .inl ⟨2, _, rfl, rfl, by decide⟩
  · rw [if_neg hz, Pr.bind_of p0, if_neg hz, gIFail_eq, Option.bind_some, ifail_z]
    have y : (⟨s.drop q0, q0, 8⟩ : I).err ≠ 0 := by simp
    refine .inl ⟨8, ⟨0, 0, ⟨false, []⟩, ⟨false, []⟩, []⟩, rfl, ?_, by decide⟩
    simp only [Option.bind_some, if_true, gVLong_d y, gVInt_d y, gVaried_d y, hB.dead _ y, c_gClose_d y, show ¬ (0 : Int) < 0 by decide, if_false]
def pRec : Pr Rec := fun s q => match pName s q with
  | .error e => .error e
  | .ok (d, r) => match pBody d 0 with
    | .error e => .error e
    | .ok (x, _) => .ok (x, r)
theorem read_body (st9 st6 : I) (x : Rec) (e : Int) (h : bodyOp st9 = some (x, e)) : ((gInt st9 1).bind fun (x12, st13) => if x12 = 0 then ((gVLong st13).bind fun (x16, st17) => (gVInt st17).bind fun (x19, st20) => if x19 < 0 then ((gIFail st20 11).bind fun st24 => (gVaried st24).bind fun (x26, st27) => (gVaried st27).bind fun (x29, st30) => (f_header_Read st30).bind fun (x32, st35) => (gClose st35).bind fun (x37, st38) => if x37 = 0 then (some ((⟨x16, x19, x26, x29, x32⟩ : Rec), st6)) else ((gIFail st6 x37).bind fun st41 => some (zRec, st41))) else ((gVaried st20).bind fun (x43, st44) => (gVaried st44).bind fun (x46, st47) => (f_header_Read st47).bind fun (x49, st52) => (gClose st52).bind fun (x54, st55) => if x54 = 0 then (some ((⟨x16, x19, x43, x46, x49⟩ : Rec), st6)) else ((gIFail st6 x54).bind fun st58 => some (zRec, st58)))) else ((gIFail st13 8).bind fun st60 => (gVLong st60).bind fun (x62, st63) => (gVInt st63).bind fun (x65, st66) => if x65 < 0 then ((gIFail st66 11).bind fun st70 => (gVaried st70).bind fun (x72, st73) => (gVaried st73).bind fun (x75, st76) => (f_header_Read st76).bind fun (x78, st81) => (gClose st81).bind fun (x83, st84) => if x83 = 0 then (some ((⟨x62, x65, x72, x75, x78⟩ : Rec), st6)) else ((gIFail st6 x83).bind fun st87 => some (zRec, st87))) else ((gVaried st66).bind fun (x89, st90) => (gVaried st90).bind fun (x92, st93) => (f_header_Read st93).bind fun (x95, st98) => (gClose st98).bind fun (x100, st101) => if x100 = 0 then (some ((⟨x62, x65, x89, x92, x95⟩ : Rec), st6)) else ((gIFail st6 x100).bind fun st104 => some (zRec, st104))))) = if e = 0 then some (x, st6) else some (zRec, ifail st6 e) := by
  unfold bodyOp at h
  revert h
  have hop : ∀ (o : Option (List Hd × I)) (f : List Hd → Rec), ((o.bind fun (a, s1) => (gClose s1).bind fun (b, s2) => some (f a, b)) = some (x, e)) → (o.bind fun (a, s1) => (gClose s1).bind fun (b, s2) => if b = 0 then some (f a, st6) else (gIFail st6 b).bind fun s3 => some (zRec, s3)) = if e = 0 then some (x, st6) else some (zRec, ifail st6 e) := by
    intro o f h
    cases o with
    | none => exact nomatch h
    | some y =>
      rw [Option.bind_some] at h ⊢
      simp only [gClose_eq, Option.bind_some] at h ⊢
      injection h with h
      obtain ⟨rfl, rfl⟩ := Prod.mk.inj h
      by_cases hz : (iclose y.2).err = 0
      · rw [if_pos hz, if_pos hz]
      · rw [if_neg hz, if_neg hz]
        rfl
  simp only [gInt_eq, gVLong_eq, gVInt_eq, gVaried_eq, gIFail_eq, Option.bind_some]
  intro h
  split at h
  · rename_i h1
    rw [if_pos h1]
    split at h
    · rename_i h2
      rw [if_pos h2]
      exact hop _ (fun a => ⟨_, _, _, _, a⟩) h
    · rename_i h2
      rw [if_neg h2]
      exact hop _ (fun a => ⟨_, _, _, _, a⟩) h
  · rename_i h1
    rw [if_neg h1]
    split at h
    · rename_i h2
      rw [if_pos h2]
      exact hop _ (fun a => ⟨_, _, _, _, a⟩) h
    · rename_i h2
      rw [if_neg h2]
      exact hop _ (fun a => ⟨_, _, _, _, a⟩) h
theorem B_rec : CB f_record_Read pRec zRec := by
  refine ⟨fun st h => ?_, fun s q hs hq => ?_⟩
  · unfold f_record_Read
    rw [gName_d h, Option.bind_some]
    simp only
    rw [gErr_eq, Option.bind_some]
    simp only
    rw [if_neg h]
    rfl
  · unfold f_record_Read pRec
    rcases QN.run s q hq with ⟨e, st, p1, g1, x1, y1⟩ | ⟨d, r, p1, g1, n1, l1⟩
    · refine .inl ⟨e, st, by rw [p1], ?_, x1, y1⟩
      rw [g1, Option.bind_some]
      simp only
      rw [gErr_eq, Option.bind_some]
      simp only
      rw [if_neg y1]
      rfl
    · have hsp := Sp_name.spell _ _ _ _ hq p1
      have hdl : d.length ≤ 1000000 := by
        have := hsp.2.2.1
        rw [List.length_append] at this
        omega
      rw [g1, p1, Option.bind_some]
      simp only
      rw [gErr_eq, Option.bind_some]
      simp only [if_true]
      rw [gNew_eq _ (by omega), Option.bind_some]
      rcases body_run d hdl with ⟨e, x, b1, b2, b3⟩ | ⟨x, b1, b2⟩
      · have hb := read_body ⟨d, 0, 0⟩ ⟨s.drop r, r, 0⟩ x e b2
        rw [if_neg b3] at hb
        rw [b1]
        exact .inl ⟨e, _, rfl, hb, rfl, b3⟩
      · have hb := read_body ⟨d, 0, 0⟩ ⟨s.drop r, r, 0⟩ x 0 b2
        rw [if_pos rfl] at hb
        rw [b1]
        exact .inr ⟨x, r, rfl, hb, n1, l1⟩
end Go.Proofs.Ytahjmpipllajcaa.Sl
namespace Go.Proofs.Ytahjmpipllajcaa.Sl
open Go.RowKit
set_option linter.unusedVariables false
set_option linter.unusedSimpArgs false
def encBl (b : Bl) : List UInt8 := vput (vfold (blen b)) ++ b.data
def encHs (l : List Hd) : List UInt8 := vput (vfold (l.length : Int)) ++ encs encHd l
def encBody (x : Rec) : List UInt8 := be 0 1 ++ (vput (vfold x.fTime) ++ (vput (vfold x.fOffset) ++ (encBl x.fKey ++ (encBl x.fValue ++ encHs x.fHeaders))))
def okBl (b : Bl) : Prop := vfold (blen b) < 2 ^ (32 : Int).toNat ∧ bright b = true
def okHs (l : List Hd) : Prop := vfold (l.length : Int) < 2 ^ (32 : Int).toNat ∧ ∀ h, h ∈ l → okHd h
def okRec (x : Rec) : Prop := vfold x.fTime < 2 ^ (64 : Int).toNat ∧ (vfold x.fOffset < 2 ^ (32 : Int).toNat ∧ 0 ≤ x.fOffset) ∧ okBl x.fKey ∧ okBl x.fValue ∧ okHs x.fHeaders
theorem body_spell {s : List UInt8} {x : Rec} {r : Nat} (h : pBody s 0 = .ok (x, r)) : s = encBody x ∧ okRec x := by
  obtain ⟨z, q0, h0, h⟩ := Pr.bind_ok h
  split at h
  · rename_i hz
    subst hz
    obtain ⟨t, q1, h1, h⟩ := Pr.bind_ok h
    obtain ⟨o, q2, h2, h⟩ := Pr.bind_ok h
    split at h
    · exact nomatch h
    · rename_i ho
      obtain ⟨k, q3, h3, h⟩ := Pr.bind_ok h
      obtain ⟨v, q4, h4, h⟩ := Pr.bind_ok h
      obtain ⟨hs, q5, h5, h⟩ := Pr.bind_ok h
      obtain ⟨u, q6, h6, h⟩ := Pr.bind_ok h
      injection h with h
      obtain ⟨rfl, rfl⟩ := Prod.mk.inj h
      obtain ⟨-, a2, -, a4, a5⟩ := (Sp_int 1 (by decide) (by decide)).spell _ _ _ _ (Nat.zero_le _) h0
      obtain ⟨-, b2, -, b4, b5⟩ := (Sp_vint 64 (.inr rfl)).spell _ _ _ _ a2 h1
      obtain ⟨-, c2, -, c4, c5⟩ := (Sp_vint 32 (.inl rfl)).spell _ _ _ _ b2 h2
      obtain ⟨-, d2, -, d4, d5⟩ := Sp_varied.spell _ _ _ _ c2 h3
      obtain ⟨-, e2, -, e4, e5⟩ := Sp_varied.spell _ _ _ _ d2 h4
      obtain ⟨-, f2, -, f4, f5⟩ := Sp_hds.spell _ _ _ _ e2 h5
      have hq : q5 = s.length := by
        unfold pStop at h6
        split at h6
        · rename_i hh; exact hh
        · exact nomatch h6
      refine ⟨?_, b5, ⟨c5, by simp only; omega⟩, d5, e5, f5⟩
      have hs2 : s = s.take q5 := by rw [hq, List.take_length]
      rw [hs2, f4, e4, d4, c4, b4, a4]
      simp only [encBody, encBl, encHs, List.append_assoc, List.take_zero, List.nil_append]
  · exact nomatch h
theorem SpV : Sp pVaried encBl okBl := Sp_varied
theorem SpH : Sp pHds encHs okHs := Sp_hds
theorem body_back {x : Rec} (h : okRec x) : pBody (encBody x) 0 = .ok (x, (encBody x).length) := by
  obtain ⟨h1, ⟨h2, h3⟩, h4, h5, h6⟩ := h
  have hd : (encBody x).drop 0 = encBody x := rfl
  have hlen : (encBody x).length = 1 + ((vput (vfold x.fTime)).length + ((vput (vfold x.fOffset)).length + ((encBl x.fKey).length + ((encBl x.fValue).length + (encHs x.fHeaders).length)))) := by
    simp only [encBody, List.length_append, be_length]
  generalize hE : encBody x = E at hd hlen ⊢
  have hh : E.drop 0 = be 0 1 ++ (vput (vfold x.fTime) ++ (vput (vfold x.fOffset) ++ (encBl x.fKey ++ (encBl x.fValue ++ (encHs x.fHeaders ++ []))))) := by
    rw [hd, ← hE]
    simp only [encBody, List.append_nil]
  have g0 := (Sp_int 1 (by decide) (by decide)).back _ _ _ 0 (Nat.zero_le _) (by decide) hh
  have hh := drop_step hh
  rw [be_length] at hh g0
  have g1 := (Sp_vint 64 (.inr rfl)).back _ _ _ _ (by omega) h1 hh
  have hh := drop_step hh
  have g2 := (Sp_vint 32 (.inl rfl)).back _ _ _ _ (by omega) h2 hh
  have hh := drop_step hh
  have g3 := SpV.back _ _ _ _ (by omega) h4 hh
  have hh := drop_step hh
  have g4 := SpV.back _ _ _ _ (by omega) h5 hh
  have hh := drop_step hh
  have g5 := SpH.back _ _ _ _ (by omega) h6 hh
  rw [pBody, Pr.bind_of g0, if_pos rfl, Pr.bind_of g1, Pr.bind_of g2, if_neg (by omega), Pr.bind_of g3, Pr.bind_of g4, Pr.bind_of g5]
  have he : 0 + 1 + (vput (vfold x.fTime)).length + (vput (vfold x.fOffset)).length + (encBl x.fKey).length + (encBl x.fValue).length + (encHs x.fHeaders).length = E.length := by omega
  rw [he, Pr.bind_of (a := ()) (r := E.length) (by unfold pStop; rw [if_pos rfl])]
  rfl
def encRec (x : Rec) : List UInt8 := vput (vfold ((encBody x).length : Int)) ++ encBody x
theorem Sp_rec : Sp pRec encRec (fun x => okRec x ∧ vfold ((encBody x).length : Int) < 2 ^ (32 : Int).toNat) := by
  refine ⟨fun s q a r hq h => ?_, fun s t q a hq ha h => ?_⟩
  · unfold pRec at h
    cases hp : pName s q with
    | error e => rw [hp] at h; exact nomatch h
    | ok y =>
      obtain ⟨d, r'⟩ := y
      rw [hp] at h
      simp only at h
      obtain ⟨a1, a2, a3, a4, a5⟩ := Sp_name.spell _ _ _ _ hq hp
      cases hb : pBody d 0 with
      | error e => rw [hb] at h; exact nomatch h
      | ok z =>
        rw [hb] at h
        injection h with h
        obtain ⟨rfl, rfl⟩ := Prod.mk.inj h
        obtain ⟨b1, b2⟩ := body_spell (x := z.1) (r := z.2) hb
        unfold encRec
        rw [← b1]
        exact ⟨a1, a2, a3, a4, b2, a5.1⟩
  · have g1 := Sp_name.back s t q (encBody a) hq ⟨ha.2, rfl⟩ h
    unfold pRec
    rw [g1]
    simp only
    rw [body_back ha.1]
    rfl
end Go.Proofs.Ytahjmpipllajcaa.Sl
namespace Go.Proofs.Ytahjmpipllajcaa.Sl
open Go.RowKit
set_option linter.unusedVariables false
set_option linter.unusedSimpArgs false
def rwt (x : Rec) : Nat := x.fKey.data.length + x.fValue.data.length + hwts x.fHeaders
theorem encBl_len (b : Bl) (h : b.data.length ≤ 1000000) : (encBl b).length ≤ 10 + b.data.length := by
  have hb := blen_small b (by omega)
  have := vput_small32 (blen b) hb.1 hb.2
  rw [encBl, List.length_append]
  omega
theorem encHs_len (l : List Hd) (h : hwts l ≤ 1000000) : (encHs l).length ≤ 10 + hwts l := by
  have hn := hwts_len l
  have h1 := vput_small32 (l.length : Int) (by omega) (by omega)
  have h2 := encHds_len l h
  rw [encHs, List.length_append]
  omega
theorem encBody_len (x : Rec) (ht : wI x.fTime) (ho : wI x.fOffset) (hw : rwt x ≤ 900000) : (encBody x).length ≤ 51 + rwt x := by
  unfold rwt at hw ⊢
  have h1 := vput_ten _ (vfold_lt x.fTime ht.1 ht.2)
  have h2 := vput_ten _ (vfold_lt x.fOffset ho.1 ho.2)
  have h3 := encBl_len x.fKey (by omega)
  have h4 := encBl_len x.fValue (by omega)
  have h5 := encHs_len x.fHeaders (by omega)
  simp only [encBody, List.length_append, be_length]
  omega
theorem body_write (x : Rec) (ht : wI x.fTime) (ho : 0 ≤ x.fOffset ∧ x.fOffset ≤ 2147483647) (hk : bright x.fKey = true) (hv : bright x.fValue = true) (hh : ∀ h, h ∈ x.fHeaders → bright h.fValue = true) (hw : rwt x ≤ 900000) : f_record_body x = some (encBody x, 0) := by
  unfold rwt at hw
  have h1 := vput_ten _ (vfold_lt x.fTime ht.1 ht.2)
  have h2 := vput_ten _ (vfold_lt x.fOffset (by omega) (by omega))
  have h3 := encBl_len x.fKey (by omega)
  have h4 := encBl_len x.fValue (by omega)
  unfold encBl at h3 h4
  unfold f_record_body
  rw [gOByte_eq _ _ (by simp), Option.bind_some, show oput ([], 0) [UInt8.ofNat (0 : Int).toNat] = (be 0 1, 0) from by decide]
  have l1 : (be 0 1).length = 1 := be_length 0 1
  generalize hb0 : be 0 1 = b0 at l1
  rw [gPutLong_eq _ _ ⟨ht, by simp only; omega⟩, Option.bind_some, oput_z]
  have l2 : (b0 ++ vput (vfold x.fTime)).length ≤ 11 := by rw [List.length_append]; omega
  generalize hB1 : b0 ++ vput (vfold x.fTime) = B1 at l2
  rw [gPutInt_eq _ _ ⟨by omega, by simp only; omega⟩, Option.bind_some]
  unfold vputInt
  rw [if_pos (by omega), oput_z]
  have l3 : (B1 ++ vput (vfold x.fOffset)).length ≤ 21 := by rw [List.length_append]; omega
  generalize hB2 : B1 ++ vput (vfold x.fOffset) = B2 at l3
  rw [gPutVaried_z hk (by omega) (by omega), Option.bind_some]
  have l4 : (B2 ++ (vput (vfold (blen x.fKey)) ++ x.fKey.data)).length ≤ 31 + x.fKey.data.length := by rw [List.length_append]; omega
  generalize hB3 : B2 ++ (vput (vfold (blen x.fKey)) ++ x.fKey.data) = B3 at l4
  rw [gPutVaried_z hv (by omega) (by omega), Option.bind_some]
  have l5 : (B3 ++ (vput (vfold (blen x.fValue)) ++ x.fValue.data)).length ≤ 41 + x.fKey.data.length + x.fValue.data.length := by rw [List.length_append]; omega
  generalize hB4 : B3 ++ (vput (vfold (blen x.fValue)) ++ x.fValue.data) = B4 at l5
  rw [hwrite_z _ _ hh (by omega), Option.bind_some, gOText_eq, Option.bind_some, otx_z]
  rw [← hB4, ← hB3, ← hB2, ← hB1, ← hb0]
  simp only [encBody, encBl, encHs, List.append_assoc]
end Go.Proofs.Ytahjmpipllajcaa.Sl
namespace Go.Proofs.Ytahjmpipllajcaa.Sl
open Go.RowKit
set_option linter.unusedVariables false
set_option linter.unusedSimpArgs false
theorem right_zero {x : Rec} (h : rightR x = 0) : (0 ≤ x.fOffset ∧ x.fOffset ≤ 2147483647) ∧ bright x.fKey = true ∧ bright x.fValue = true ∧ ∀ h, h ∈ x.fHeaders → bright h.fValue = true := by
  unfold rightR at h
  split at h
  · exact absurd h (by decide)
  · rename_i h1
    split at h
    · rename_i h2
      simp only [Bool.and_eq_true] at h2
      exact ⟨by omega, h2.1.1, h2.1.2, fun y hy => List.all_eq_true.1 h2.2 y hy⟩
    · exact absurd h (by decide)
theorem rec_write (x : Rec) (t : List UInt8) (ht : wI x.fTime) (ho : wI x.fOffset) (hw : rwt x ≤ 900000) (hl : t.length ≤ 100000000) : f_record_Write (t, 0) x = some (if rightR x = 0 then (t ++ encRec x, 0) else (t, rightR x)) := by
  unfold f_record_Write
  rw [record_right x ho, Option.bind_some]
  by_cases hr : rightR x = 0
  · obtain ⟨h1, h2, h3, h4⟩ := right_zero hr
    have hb := encBody_len x ht ho hw
    rw [if_pos hr, if_pos hr, body_write x ht h1 h2 h3 h4 hw, Option.bind_some]
    simp only [if_true]
    rw [gPutName_z (by omega) (by omega), Option.bind_some]
    rfl
  · rw [if_neg hr, if_neg hr, gOFail_eq, Option.bind_some, ofail_z]
end Go.Proofs.Ytahjmpipllajcaa.Sl
namespace Go.Proofs.Ytahjmpipllajcaa.Sl
open Go.RowKit
set_option linter.unusedVariables false
set_option linter.unusedSimpArgs false
def sameH (a b : Hd) : Bool := decide (a.fKey = b.fKey) && decide (a.fValue.null = b.fValue.null) && decide (a.fValue.data = b.fValue.data)
def sameHs : List Hd → List Hd → Bool
  | [], [] => true
  | a :: l, b :: m => sameH a b && sameHs l m
  | _, _ => false
theorem sameHs_refl : ∀ l : List Hd, sameHs l l = true
  | [] => rfl
  | a :: l => by rw [sameHs, sameHs_refl l]; simp [sameH]
theorem sameHs_len : ∀ (l m : List Hd), sameHs l m = true → l.length = m.length
  | [], [], h => rfl
  | [], b :: m, h => nomatch h
  | a :: l, [], h => nomatch h
  | a :: l, b :: m, h => by
    rw [sameHs, Bool.and_eq_true] at h
    rw [List.length_cons, List.length_cons, sameHs_len l m h.2]
theorem r06s_loop (a b : List Hd) (ha : a.length ≤ 1000000) (y : Bool) : ∀ (t u : List Hd) (k fuel : Nat), a.drop k = t → b.drop k = u → t.length = u.length → t.length < fuel → ∃ z, f_r06_Same_l1 a b fuel y k = some (if sameHs t u = true then .go (y, z) else .ret false)
  | [], [], k, fuel + 1, ht, hu, hl, hf => by
    have := b_nil_drop ht
    exact ⟨k, by rw [f_r06_Same_l1, if_neg (by omega)]; rfl⟩
  | [], d :: u, k, fuel, ht, hu, hl, hf => by simp at hl
  | c :: t, [], k, fuel, ht, hu, hl, hf => by simp at hl
  | c :: t, d :: u, k, fuel + 1, ht, hu, hl, hf => by
    obtain ⟨t1, t2, t3⟩ := b_at_drop ht
    obtain ⟨u1, u2, u3⟩ := b_at_drop hu
    simp only [List.length_cons] at hl hf
    obtain ⟨z, hz⟩ := r06s_loop a b ha y t u (k + 1) fuel t2 u2 (by omega) (by omega)
    rw [f_r06_Same_l1, if_pos (by omega), t1, Option.bind_some, u1, Option.bind_some, sameHs, sameH]
    by_cases h1 : c.fKey = d.fKey
    · rw [if_pos h1, decide_eq_true h1]
      by_cases h2 : c.fValue.null = d.fValue.null
      · rw [if_pos h2, decide_eq_true h2]
        by_cases h3 : c.fValue.data = d.fValue.data
        · rw [if_pos h3, decide_eq_true h3, if_pos (by omega)]
          exact ⟨z, hz⟩
        · rw [if_neg h3, decide_eq_false h3]
          exact ⟨0, rfl⟩
      · rw [if_neg h2, decide_eq_false h2]
        exact ⟨0, rfl⟩
    · rw [if_neg h1, decide_eq_false h1]
      exact ⟨0, rfl⟩
theorem r06_same (a b : List Hd) (ha : a.length ≤ 1000000) : f_r06_Same a b = some (sameHs a b) := by
  unfold f_r06_Same
  by_cases hl : (a.length : Int) = (b.length : Int)
  · obtain ⟨z, hz⟩ := r06s_loop a b ha false a b 0 (((a.length : Int)).toNat + 1) rfl rfl (by omega) (by omega)
    rw [if_pos hl, hz]
    cases sameHs a b <;> rfl
  · rw [if_neg hl]
    have : sameHs a b = false := by
      cases h : sameHs a b with
      | false => rfl
      | true => exact absurd (congrArg Int.ofNat (sameHs_len a b h)) hl
    rw [this]
end Go.Proofs.Ytahjmpipllajcaa.Sl
namespace Go.Proofs.Ytahjmpipllajcaa.Sl
open Go.RowKit
set_option linter.unusedVariables false
set_option linter.unusedSimpArgs false
def sameR (a b : Rec) : Bool := decide (a.fTime = b.fTime) && decide (a.fOffset = b.fOffset) && decide (a.fKey.null = b.fKey.null) && decide (a.fKey.data = b.fKey.data) && decide (a.fValue.null = b.fValue.null) && decide (a.fValue.data = b.fValue.data) && sameHs a.fHeaders b.fHeaders
theorem sameR_refl (a : Rec) : sameR a a = true := by simp [sameR, sameHs_refl]
theorem r07_same (a b : Rec) (ha : a.fHeaders.length ≤ 1000000) : f_r07_Same a b = some (sameR a b) := by
  unfold f_r07_Same sameR
  rw [r06_same _ _ ha]
  by_cases h1 : a.fTime = b.fTime <;> by_cases h2 : a.fOffset = b.fOffset <;> by_cases h3 : a.fKey.null = b.fKey.null <;> by_cases h4 : a.fKey.data = b.fKey.data <;> by_cases h5 : a.fValue.null = b.fValue.null <;> by_cases h6 : a.fValue.data = b.fValue.data <;> simp [h1, h2, h3, h4, h5, h6]
end Go.Proofs.Ytahjmpipllajcaa.Sl
namespace Go.Proofs.Ytahjmpipllajcaa.Sl
open Go.RowKit
set_option linter.unusedVariables false
set_option linter.unusedSimpArgs false
theorem okRec_of {x : Rec} (ht : wI x.fTime) (hr : rightR x = 0) (hw : rwt x ≤ 900000) : okRec x ∧ vfold ((encBody x).length : Int) < 2 ^ (32 : Int).toNat := by
  obtain ⟨h1, h2, h3, h4⟩ := right_zero hr
  have hb := encBody_len x ht ⟨by omega, by omega⟩ hw
  unfold rwt at hw hb
  have hn := hwts_len x.fHeaders
  have bk := blen_small x.fKey (by omega)
  have bv := blen_small x.fValue (by omega)
  refine ⟨⟨?_, ⟨vfold_ok _ (by omega) h1.2, h1.1⟩, ⟨vfold_ok _ bk.1 bk.2, h2⟩, ⟨vfold_ok _ bv.1 bv.2, h3⟩, vfold_ok _ (by omega) (by omega), fun h hh => ?_⟩, vfold_ok _ (by omega) (by omega)⟩
  · rw [show 2 ^ (64 : Int).toNat = 18446744073709551616 by decide]
    exact vfold_lt _ ht.1 ht.2
  · have hm := hwts_mem _ _ hh
    unfold hwt at hm
    have b := blen_small h.fValue (by omega)
    exact ⟨vfold_ok _ (by omega) (by omega), vfold_ok _ b.1 b.2, h4 h hh⟩
theorem encRec_len (x : Rec) (ht : wI x.fTime) (ho : wI x.fOffset) (hw : rwt x ≤ 900000) : (encRec x).length ≤ 61 + rwt x := by
  have hb := encBody_len x ht ho hw
  have h6 := vput_ten _ (vfold_lt ((encBody x).length : Int) (by omega) (by omega))
  rw [encRec, List.length_append]
  omega
end Go.Proofs.Ytahjmpipllajcaa.Sl
namespace Go.Proofs.Ytahjmpipllajcaa.Sl
open Go.RowKit
set_option linter.unusedVariables false
set_option linter.unusedSimpArgs false
theorem okRec_right {x : Rec} (h : okRec x) : rightR x = 0 ∧ wI x.fTime ∧ wI x.fOffset := by
  obtain ⟨h1, ⟨h2, h3⟩, h4, h5, h6⟩ := h
  rw [show 2 ^ (64 : Int).toNat = 18446744073709551616 by decide] at h1
  rw [show 2 ^ (32 : Int).toNat = 4294967296 by decide] at h2
  have ho : x.fOffset ≤ 2147483647 := by unfold vfold at h2; split at h2 <;> omega
  refine ⟨?_, ?_, ⟨by omega, by omega⟩⟩
  · unfold rightR
    have hb : brAll x.fHeaders = true := List.all_eq_true.2 fun y hy => (h6.2 y hy).2.2
    rw [if_neg (by omega), h4.2, h5.2, hb]
    rfl
  · unfold vfold at h1
    constructor <;> (split at h1 <;> omega)
end Go.Proofs.Ytahjmpipllajcaa.Sl
namespace Go.Proofs.Ytahjmpipllajcaa.Sl
set_option linter.unusedVariables false
def crcP : Nat := 2197175160
def crcS (x : Nat) : Nat := x / 2 ^^^ (if x % 2 = 1 then crcP else 0)
def crcI : Nat → Nat → Nat
  | 0, x => x
  | k + 1, x => crcI k (crcS x)
theorem nat_xor_mod2 (x y : Nat) : (x ^^^ y) % 2 = (x % 2 + y % 2) % 2 := by
  have h := Nat.xor_mod_two_pow (a := x) (b := y) (n := 1)
  rw [Nat.pow_one] at h
  rw [h]
  rcases Nat.mod_two_eq_zero_or_one x with hx | hx <;> rcases Nat.mod_two_eq_zero_or_one y with hy | hy <;> rw [hx, hy] <;> rfl
theorem nat_xor_div2 (x y : Nat) : (x ^^^ y) / 2 = (x / 2) ^^^ (y / 2) := Nat.xor_div_two
theorem crcS_xor (x y : Nat) : crcS (x ^^^ y) = crcS x ^^^ crcS y := by
  unfold crcS
  rw [nat_xor_div2, nat_xor_mod2]
  rcases Nat.mod_two_eq_zero_or_one x with hx | hx <;> rcases Nat.mod_two_eq_zero_or_one y with hy | hy <;> simp [hx, hy]
  · rw [Nat.xor_assoc]
  · ac_rfl
  · rw [show x / 2 ^^^ crcP ^^^ (y / 2 ^^^ crcP) = x / 2 ^^^ y / 2 ^^^ (crcP ^^^ crcP) by ac_rfl, Nat.xor_self, Nat.xor_zero]
theorem crcI_xor : ∀ (k x y : Nat), crcI k (x ^^^ y) = crcI k x ^^^ crcI k y
  | 0, _, _ => rfl
  | k + 1, x, y => by show crcI k _ = _; rw [crcS_xor, crcI_xor k]; rfl
theorem crcS_even (x : Nat) : crcS (2 * x) = x := by
  unfold crcS; rw [if_neg (by omega), Nat.xor_zero]; omega
theorem crcI_shift : ∀ (k x : Nat), crcI k (2 ^ k * x) = x
  | 0, x => by rw [Nat.pow_zero, Nat.one_mul]; rfl
  | k + 1, x => by
    show crcI k (crcS _) = x
    rw [show 2 ^ (k + 1) * x = 2 * (2 ^ k * x) by rw [Nat.pow_succ, Nat.mul_comm (2 ^ k) 2, Nat.mul_assoc], crcS_even]
    exact crcI_shift k x
theorem crcS_lt {x : Nat} (h : x < 2 ^ 32) : crcS x < 2 ^ 32 := by
  unfold crcS
  exact Nat.xor_lt_two_pow (by omega) (by split <;> decide)
theorem crcI_lt : ∀ (k : Nat) {x : Nat}, x < 2 ^ 32 → crcI k x < 2 ^ 32
  | 0, _, h => h
  | k + 1, _, h => crcI_lt k (crcS_lt h)
theorem crcI_byte (x b : Nat) (hb : b < 256) : crcI 8 (x ^^^ b) = crcI 8 ((x % 256) ^^^ b) ^^^ (x / 256) := by
  have h : x = (x % 256) ^^^ (2 ^ 8 * (x / 256)) := by
    apply Nat.eq_of_testBit_eq
    intro i
    rw [Nat.testBit_xor, show (256 : Nat) = 2 ^ 8 from rfl, Nat.testBit_mod_two_pow, Nat.testBit_two_pow_mul, Nat.testBit_div_two_pow]
    by_cases hi : i < 8
    · simp [hi, show ¬ 8 ≤ i by omega]
    · simp [hi, show 8 ≤ i by omega]
  conv => lhs; rw [h]
  rw [show x % 256 ^^^ 2 ^ 8 * (x / 256) ^^^ b = (x % 256 ^^^ b) ^^^ (2 ^ 8 * (x / 256)) by ac_rfl, crcI_xor, crcI_shift]
def crcR : Nat → List UInt8 → Nat
  | x, [] => x
  | x, c :: l => crcR (crcI 8 (x ^^^ c.toNat)) l
theorem crcR_append : ∀ (l m : List UInt8) (x : Nat), crcR x (l ++ m) = crcR (crcR x l) m
  | [], _, _ => rfl
  | c :: l, m, x => crcR_append l m _
theorem crcR_lt : ∀ (l : List UInt8) {x : Nat}, x < 2 ^ 32 → crcR x l < 2 ^ 32
  | [], _, h => h
  | c :: l, _, h => crcR_lt l (crcI_lt 8 (Nat.xor_lt_two_pow h (Nat.lt_trans c.toNat_lt (by decide))))
end Go.Proofs.Ytahjmpipllajcaa.Sl
namespace Go.Proofs.Ytahjmpipllajcaa.Sl
open Go.RowKit
set_option linter.unusedVariables false
set_option linter.unusedSimpArgs false
theorem u32_ofInt (a : Nat) (h : a < 4294967296) : (BitVec.ofInt IntKind.u32.bits (a : Int)).toNat = a := by
  show (BitVec.ofInt 32 (a : Int)).toNat = a
  rw [BitVec.ofInt_natCast, BitVec.toNat_ofNat, Nat.mod_eq_of_lt (by omega)]
theorem u8_ofInt (a : Nat) (h : a < 256) : (BitVec.ofInt IntKind.u8.bits (a : Int)).toNat = a := by
  show (BitVec.ofInt 8 (a : Int)).toNat = a
  rw [BitVec.ofInt_natCast, BitVec.toNat_ofNat, Nat.mod_eq_of_lt (by omega)]
theorem wrap_u32 (a : Nat) : IntKind.u32.wrap (a : Int) = ((a % 4294967296 : Nat) : Int) := by
  rw [IntKind.wrap_u32]; omega
theorem wrap_u8 (a : Nat) : IntKind.u8.wrap (a : Int) = ((a % 256 : Nat) : Int) := by
  rw [IntKind.wrap_u8]; omega
theorem xor_u32 (a b : Nat) (ha : a < 4294967296) (hb : b < 4294967296) : Go.bits .xor .u32 (a : Int) (b : Int) = ((a ^^^ b : Nat) : Int) := by
  show IntKind.u32.wrap (((BitVec.ofInt IntKind.u32.bits (a : Int)) ^^^ (BitVec.ofInt IntKind.u32.bits (b : Int))).toNat : Int) = _
  rw [BitVec.toNat_xor, u32_ofInt a ha, u32_ofInt b hb, wrap_u32, Nat.mod_eq_of_lt (Nat.xor_lt_two_pow (n := 32) ha hb)]
theorem xor_u8 (a b : Nat) (ha : a < 256) (hb : b < 256) : Go.bits .xor .u8 (a : Int) (b : Int) = ((a ^^^ b : Nat) : Int) := by
  show IntKind.u8.wrap (((BitVec.ofInt IntKind.u8.bits (a : Int)) ^^^ (BitVec.ofInt IntKind.u8.bits (b : Int))).toNat : Int) = _
  rw [BitVec.toNat_xor, u8_ofInt a ha, u8_ofInt b hb, wrap_u8, Nat.mod_eq_of_lt (Nat.xor_lt_two_pow (n := 8) ha hb)]
theorem and1_u32 (a : Nat) (ha : a < 4294967296) : Go.bits .and .u32 (a : Int) 1 = ((a % 2 : Nat) : Int) := by
  show IntKind.u32.wrap (((BitVec.ofInt IntKind.u32.bits (a : Int)) &&& (BitVec.ofInt IntKind.u32.bits ((1 : Nat) : Int))).toNat : Int) = _
  rw [BitVec.toNat_and, u32_ofInt a ha, u32_ofInt 1 (by decide), wrap_u32, Nat.and_one_is_mod, Nat.mod_eq_of_lt (by omega)]
theorem shr1_u32 (a : Nat) : shrK .u32 (a : Int) 1 = ((a / 2 : Nat) : Int) := by
  show Int.fdiv (a : Int) 2 = _
  rw [Int.fdiv_eq_ediv_of_nonneg _ (by decide)]
  omega
theorem shr8_u32 (a : Nat) : shrK .u32 (a : Int) 8 = ((a / 256 : Nat) : Int) := by
  show Int.fdiv (a : Int) 256 = _
  rw [Int.fdiv_eq_ediv_of_nonneg _ (by decide)]
  omega
theorem crcS_int (y : Nat) (hy : y < 4294967296) : (if Go.bits .and .u32 (y : Int) 1 = 1 then some (Go.bits .xor .u32 (shrK .u32 (y : Int) 1) 2197175160) else some (shrK .u32 (y : Int) 1)) = some ((crcS y : Nat) : Int) := by
  rw [and1_u32 y hy, shr1_u32, show (2197175160 : Int) = ((2197175160 : Nat) : Int) from rfl, xor_u32 _ _ (by omega) (by decide)]
  unfold crcS
  by_cases h : y % 2 = 1
  · rw [if_pos (by omega), if_pos h]; rfl
  · rw [if_neg (by omega), if_neg h, Nat.xor_zero]
theorem new_l2 : ∀ (m y k : Nat), y < 4294967296 → k ≤ 8 → 8 - k < m → f_crc_New_l2 m (y : Int) k = some (((crcI (8 - k) y : Nat) : Int), 8)
  | 0, _, _, _, _, h => by omega
  | m + 1, y, k, hy, hk, hm => by
    rw [f_crc_New_l2]
    by_cases h : k < 8
    · rw [if_pos (by omega), crcS_int y hy, Option.bind_some, if_pos (by omega), new_l2 m (crcS y) (k + 1) (crcS_lt hy) (by omega) (by omega), show 8 - k = (8 - (k + 1)) + 1 by omega]
      rfl
    · rw [if_neg (by omega), show 8 - k = 0 by omega, show k = 8 by omega]
      rfl
def crcTab : List Int := (List.range 256).map (fun j => ((crcI 8 j : Nat) : Int))
theorem crcTab_get (j : Nat) (hj : j < 256) : crcTab[j]? = some ((crcI 8 j : Nat) : Int) := by
  unfold crcTab
  rw [List.getElem?_map, List.getElem?_range hj]
  rfl
theorem new_l1 : ∀ (m k : Nat) (l : List Int), l.length = 256 → k ≤ 256 → 256 - k < m → (∀ j, j < k → l[j]? = some ((crcI 8 j : Nat) : Int)) → f_crc_New_l1 m k l = some (256, crcTab)
  | 0, _, _, _, _, h, _ => by omega
  | m + 1, k, l, hl, hk, hm, hj => by
    rw [f_crc_New_l1]
    by_cases h : k < 256
    · have e1 : IntKind.u32.wrap (k : Int) = ((k : Nat) : Int) := by rw [wrap_u32, Nat.mod_eq_of_lt (by omega)]
      have e2 : f_crc_New_l2 ((8 : Int).toNat + 1) (IntKind.u32.wrap (k : Int)) 0 = some (((crcI 8 k : Nat) : Int), 8) := by
        rw [e1]
        exact new_l2 9 k 0 (by omega) (by omega) (by omega)
      have e3 : l[k]? = some (l[k]'(by omega)) := List.getElem?_eq_getElem (by omega)
      rw [if_pos (by omega), e2, Option.bind_some]
      dsimp only
      rw [e3, Option.bind_some, Option.bind_some, if_pos (by omega)]
      refine new_l1 m (k + 1) _ (by rw [List.length_set]; exact hl) (by omega) (by omega) (fun j hjk => ?_)
      rw [List.getElem?_set]
      by_cases e : k = j
      · rw [if_pos e, if_pos (by omega), e]
      · rw [if_neg e]
        exact hj j (by omega)
    · rw [if_neg (by omega), show k = 256 by omega]
      congr 2
      apply List.ext_getElem?
      intro j
      by_cases hj2 : j < 256
      · rw [crcTab_get j hj2]
        exact hj j (by omega)
      · rw [List.getElem?_eq_none (by omega), List.getElem?_eq_none (by unfold crcTab; simp; omega)]
theorem crc_new : f_crc_New = some crcTab := by
  unfold f_crc_New
  rw [show (256 : Int).toNat + 1 = 257 from rfl, new_l1 257 0 _ (List.length_replicate ..) (by omega) (by omega) (fun j hj => absurd hj (by omega)), Option.bind_some]
theorem more_l1 (s : List UInt8) (hs : s.length ≤ 9223372036854775806) : ∀ (m y k : Nat), y < 4294967296 → k ≤ s.length → s.length - k < m → f_crc_TableMore_l1 s m (y : Int) k crcTab = some (((crcR y (s.drop k) : Nat) : Int), s.length, crcTab)
  | 0, _, _, _, _, h => by omega
  | m + 1, y, k, hy, hk, hm => by
    rw [f_crc_TableMore_l1]
    by_cases h : k < s.length
    · have e1 : s[k]? = some s[k] := List.getElem?_eq_getElem h
      have hc := s[k].toNat_lt
      have hx : y % 256 ^^^ s[k].toNat < 256 := Nat.xor_lt_two_pow (n := 8) (by omega) hc
      have e2 : Go.bits .xor .u8 (IntKind.u8.wrap (y : Int)) (s[k].toNat : Int) = ((y % 256 ^^^ s[k].toNat : Nat) : Int) := by
        rw [wrap_u8, xor_u8 _ _ (by omega) (by omega)]
      have e3 : crcI 8 (y % 256 ^^^ s[k].toNat) < 2 ^ 32 := crcI_lt 8 (by omega)
      rw [if_pos (by omega), e1, Option.bind_some, e2, if_pos (by omega), Int.toNat_natCast, crcTab_get _ hx, Option.bind_some, if_pos (by omega), shr8_u32, xor_u32 _ _ (by omega) (by omega), ← crcI_byte y _ (by omega),
        more_l1 s hs m _ (k + 1) (crcI_lt 8 (Nat.xor_lt_two_pow (n := 32) hy (by omega))) (by omega) (by omega)]
      rw [drop_cons e1]
      rfl
    · rw [if_neg (by omega), show k = s.length by omega, List.drop_length]
      rfl
def crcM (x : Nat) (s : List UInt8) : Nat := 4294967295 ^^^ crcR (4294967295 ^^^ x) s
theorem crcM_lt {x : Nat} (hx : x < 4294967296) (s : List UInt8) : crcM x s < 4294967296 := Nat.xor_lt_two_pow (n := 32) (by decide) (crcR_lt s (Nat.xor_lt_two_pow (n := 32) (by decide) hx))
theorem ones2 (x : Nat) : 4294967295 ^^^ (4294967295 ^^^ x) = x := by rw [← Nat.xor_assoc, Nat.xor_self, Nat.zero_xor]
theorem crcM_append (x : Nat) (s t : List UInt8) : crcM x (s ++ t) = crcM (crcM x s) t := by
  unfold crcM
  rw [crcR_append, ones2]
theorem crcM_nil (x : Nat) : crcM x [] = x := ones2 x
theorem crc_more (x : Nat) (hx : x < 4294967296) (s : List UInt8) (hs : s.length ≤ 9223372036854775806) : f_crc_TableMore crcTab (x : Int) s = some (((crcM x s : Nat) : Int), crcTab) := by
  unfold f_crc_TableMore
  have h1 : (4294967295 ^^^ x : Nat) < 4294967296 := Nat.xor_lt_two_pow (n := 32) (by decide) hx
  rw [show (4294967295 : Int) = ((4294967295 : Nat) : Int) from rfl, xor_u32 _ _ (by decide) hx, Int.toNat_natCast, more_l1 s hs _ _ 0 h1 (by omega) (by omega), Option.bind_some, List.drop_zero]
  dsimp only
  rw [xor_u32 _ _ (by decide) (crcR_lt s h1)]
  rfl
theorem sum_l1 : ∀ (l : List (List UInt8)) (x : Nat), x < 4294967296 → (∀ s, s ∈ l → s.length ≤ 9223372036854775806) → f_crc_TableSum_l1 l (x : Int) crcTab = some (((crcM x l.flatten : Nat) : Int), crcTab)
  | [], x, _, _ => by rw [f_crc_TableSum_l1, List.flatten_nil, crcM_nil]
  | s :: l, x, hx, hs => by
    rw [f_crc_TableSum_l1, crc_more x hx s (hs s (List.mem_cons_self ..)), Option.bind_some]
    dsimp only
    rw [sum_l1 l _ (crcM_lt hx s) (fun t ht => hs t (List.mem_cons_of_mem _ ht)), List.flatten_cons, crcM_append]
theorem crc_sum (l : List (List UInt8)) (hs : ∀ s, s ∈ l → s.length ≤ 9223372036854775806) : f_crc_TableSum crcTab l = some (((crcM 0 l.flatten : Nat) : Int), crcTab) := by
  unfold f_crc_TableSum
  have h := sum_l1 l 0 (by decide) hs
  rw [show ((0 : Nat) : Int) = 0 from rfl] at h
  rw [h, Option.bind_some]
end Go.Proofs.Ytahjmpipllajcaa.Sl
namespace Go.Proofs.Ytahjmpipllajcaa.Sl
open Go.RowKit
set_option linter.unusedVariables false
set_option linter.unusedSimpArgs false
def pre21 (p : Pfx) : List UInt8 := be p.fBase 8 ++ (be p.fLength 4 ++ (be p.fLeader 4 ++ (be 2 1 ++ be (s32 p.fSum) 4)))
def post21 (p : Pfx) : List UInt8 := be p.fAttr 2 ++ encI [4, 8, 8, 8, 2, 4, 4] [p.fLast, p.fFirst, p.fMax, p.fProducer, p.fEpoch, p.fSequence, p.fCount]
theorem encP_21 (p : Pfx) : encP p = pre21 p ++ post21 p := by
  unfold encP KS toL pre21 post21
  simp only [encI, List.append_assoc]
theorem pre21_len (p : Pfx) : (pre21 p).length = 21 := by
  unfold pre21
  simp only [List.length_append, be_length]
theorem encP_drop (p : Pfx) : (encP p).drop 21 = post21 p := by
  rw [encP_21, ← pre21_len p, List.drop_left]
def okRc (x : Rec) : Prop := okRec x ∧ vfold ((encBody x).length : Int) < 2 ^ (32 : Int).toNat
def pMore : Pr Unit := fun s q => if q = s.length then .error 10 else .ok ((), q)
def pRecs : Nat → Pr (List Rec)
  | 0 => .ret []
  | n + 1 => pMore.bind fun _ => pRec.bind fun x => (pRecs n).bind fun l => .ret (x :: l)
theorem encRec_pos (x : Rec) : 0 < (encRec x).length := by
  unfold encRec
  rw [List.length_append]
  have := vput_pos (vfold ((encBody x).length : Int))
  omega
theorem recs_spell : ∀ (n : Nat) (s : List UInt8) (q : Nat) (l : List Rec) (r : Nat), q ≤ s.length → pRecs n s q = .ok (l, r) → q ≤ r ∧ r ≤ s.length ∧ s.take r = s.take q ++ encs encRec l ∧ l.length = n ∧ ∀ x, x ∈ l → okRc x
  | 0, s, q, l, r, hq, h => by
    injection h with h
    obtain ⟨rfl, rfl⟩ := Prod.mk.inj h
    exact ⟨Nat.le_refl _, hq, by simp [encs], rfl, fun x h => nomatch h⟩
  | n + 1, s, q, l, r, hq, h => by
    obtain ⟨u, m, h1, h2⟩ := Pr.bind_ok h
    unfold pMore at h1
    split at h1
    · exact nomatch h1
    injection h1 with h1
    obtain ⟨_, rfl⟩ := Prod.mk.inj h1
    obtain ⟨x, m2, h3, h4⟩ := Pr.bind_ok h2
    obtain ⟨xs, m3, h5, h6⟩ := Pr.bind_ok h4
    injection h6 with h6
    obtain ⟨rfl, rfl⟩ := Prod.mk.inj h6
    obtain ⟨a1, a2, a3, a4, a5⟩ := Sp_rec.spell s q x m2 hq h3
    obtain ⟨b1, b2, b3, b4, b5⟩ := recs_spell n s m2 xs m3 a2 h5
    refine ⟨by omega, b2, by rw [b3, a4, encs, List.append_assoc], by rw [List.length_cons, b4], fun y hy => ?_⟩
    rcases List.mem_cons.1 hy with rfl | hy
    · exact a5
    · exact b5 y hy
theorem recs_back : ∀ (l : List Rec) (s t : List UInt8) (q : Nat), q ≤ s.length → (∀ x, x ∈ l → okRc x) → s.drop q = encs encRec l ++ t → pRecs l.length s q = .ok (l, q + (encs encRec l).length)
  | [], s, t, q, hq, _, _ => rfl
  | x :: l, s, t, q, hq, ho, hd => by
    rw [encs, List.append_assoc] at hd
    have hl := congrArg List.length hd
    rw [List.length_drop, List.length_append] at hl
    have hp := encRec_pos x
    have h0 : pMore s q = .ok ((), q) := if_neg (by omega)
    have h1 := Sp_rec.back s _ q x hq (ho x (.head _)) hd
    have h2 := recs_back l s t _ (by omega) (fun y hy => ho y (.tail _ hy)) (drop_step hd)
    rw [List.length_cons, pRecs, Pr.bind_of h0, Pr.bind_of h1, Pr.bind_of h2, encs, List.length_append, ← Nat.add_assoc]
    rfl
def chk (a : Bat) : Int := (f_batch_Check a).getD 0
def body (a : Bat) : List UInt8 := encs encRec a.fRecords
def mkB (p : Pfx) (l : List Rec) : Bat := ⟨p.fBase, p.fLeader, bitAt p.fAttr 3, bitAt p.fAttr 4, bitAt p.fAttr 5, p.fLast, p.fFirst, p.fMax, p.fProducer, p.fEpoch, p.fSequence, l⟩
def pB (a : Bat) (s : Int) : Pfx := ⟨a.fBase, 49 + ((body a).length : Int), a.fLeader, s, ofBits a.fAppend a.fTxn a.fControl, a.fLast, a.fFirst, a.fMax, a.fProducer, a.fEpoch, a.fSequence, (a.fRecords.length : Int)⟩
def sumP (p : Pfx) (s : List UInt8) : Nat := crcM 0 (post21 p ++ s)
def sumB (a : Bat) : Nat := sumP (pB a 0) (body a)
def encBt (a : Bat) : List UInt8 := encP (pB a (sumB a)) ++ body a
def okB (a : Bat) : Prop := okP (pB a (sumB a)) ∧ acheck (ofBits a.fAppend a.fTxn a.fControl) = 0 ∧ (∀ x, x ∈ a.fRecords → okRc x) ∧ chk a = 0
def openP (p : Pfx) (s : List UInt8) : Except Int Bat :=
  if acheck p.fAttr = 0 then
    match pRecs p.fCount.toNat s 0 with
    | .error e => .error e
    | .ok (l, r) => if r < s.length then .error 10 else if chk (mkB p l) = 0 then .ok (mkB p l) else .error (chk (mkB p l))
  else .error (acheck p.fAttr)
def pBat : Pr Bat := fun s q =>
  match pPfx s q with
  | .error e => .error e
  | .ok (p, r) => if s.length < r + (p.fLength - 49).toNat then .error 1 else
    if ((sumP p ((s.drop r).take (p.fLength - 49).toNat) : Nat) : Int) = p.fSum then
      match openP p ((s.drop r).take (p.fLength - 49).toNat) with
      | .error e => .error e
      | .ok b => .ok (b, r + (p.fLength - 49).toNat)
    else .error 5
theorem attr_back {n : Int} (h : acheck n = 0) : ofBits (bitAt n 3) (bitAt n 4) (bitAt n 5) = n := by
  have h1 : n % 8 = 0 ∧ 0 ≤ n ∧ n ≤ 63 := by
    unfold acheck at h
    split at h
    · cases h
    · split at h
      · cases h
      · omega
  have h2 : n = 0 ∨ n = 8 ∨ n = 16 ∨ n = 24 ∨ n = 32 ∨ n = 40 ∨ n = 48 ∨ n = 56 := by omega
  rcases h2 with rfl | rfl | rfl | rfl | rfl | rfl | rfl | rfl <;> decide
theorem bits_of : ∀ a b c : Bool, bitAt (ofBits a b c) 3 = a ∧ bitAt (ofBits a b c) 4 = b ∧ bitAt (ofBits a b c) 5 = c := by decide
theorem openP_ok {p : Pfx} {s : List UInt8} {b : Bat} (h : openP p s = .ok b) (h0 : 0 ≤ p.fCount) : acheck p.fAttr = 0 ∧ ∃ l, b = mkB p l ∧ s = encs encRec l ∧ (l.length : Int) = p.fCount ∧ (∀ x, x ∈ l → okRc x) ∧ chk b = 0 := by
  unfold openP at h
  by_cases ha : acheck p.fAttr = 0
  · rw [if_pos ha] at h
    refine ⟨ha, ?_⟩
    cases hr : pRecs p.fCount.toNat s 0 with
    | error e => rw [hr] at h; exact nomatch h
    | ok x =>
      obtain ⟨l, r⟩ := x
      rw [hr] at h
      dsimp only at h
      by_cases hl : r < s.length
      · rw [if_pos hl] at h; exact nomatch h
      rw [if_neg hl] at h
      by_cases hc : chk (mkB p l) = 0
      · rw [if_pos hc] at h
        injection h with h
        subst h
        obtain ⟨b1, b2, b3, b4, b5⟩ := recs_spell _ s 0 l r (Nat.zero_le _) hr
        rw [List.take_of_length_le (by omega), List.take_zero, List.nil_append] at b3
        exact ⟨l, rfl, b3, by omega, b5, hc⟩
      · rw [if_neg hc] at h; exact nomatch h
  · rw [if_neg ha] at h; exact nomatch h
theorem pB_mk {p : Pfx} {l : List Rec} (h1 : (49 : Int) + ((encs encRec l).length : Int) = p.fLength) (h2 : acheck p.fAttr = 0) (h3 : (l.length : Int) = p.fCount) (s : Int) : pB (mkB p l) s = ⟨p.fBase, p.fLength, p.fLeader, s, p.fAttr, p.fLast, p.fFirst, p.fMax, p.fProducer, p.fEpoch, p.fSequence, p.fCount⟩ := by
  unfold pB mkB body
  dsimp only
  rw [h1, h3, attr_back h2]
theorem Sp_bat : Sp pBat encBt okB := by
  refine ⟨fun s q b r hq h => ?_, fun s t q a hq ha hd => ?_⟩
  · unfold pBat at h
    cases hp : pPfx s q with
    | error e => rw [hp] at h; exact nomatch h
    | ok x =>
      obtain ⟨p, m⟩ := x
      rw [hp] at h
      dsimp only at h
      obtain ⟨a1, a2, a3, a4, a5, a6, a7, a8⟩ := Sp_pfx.spell s q p m hq hp
      by_cases hl : s.length < m + (p.fLength - 49).toNat
      · rw [if_pos hl] at h; exact nomatch h
      rw [if_neg hl] at h
      by_cases hs : ((sumP p ((s.drop m).take (p.fLength - 49).toNat) : Nat) : Int) = p.fSum
      · rw [if_pos hs] at h
        cases ho : openP p ((s.drop m).take (p.fLength - 49).toNat) with
        | error e => rw [ho] at h; exact nomatch h
        | ok b' =>
          rw [ho] at h
          injection h with h
          obtain ⟨rfl, rfl⟩ := Prod.mk.inj h
          obtain ⟨k1, l, rfl, k3, k4, k5, k6⟩ := openP_ok ho a8
          have hn : ((s.drop m).take (p.fLength - 49).toNat).length = (p.fLength - 49).toNat := by rw [List.length_take, List.length_drop]; omega
          have e1 : (49 : Int) + ((encs encRec l).length : Int) = p.fLength := by rw [← k3, hn]; omega
          have e2 : ((sumB (mkB p l) : Nat) : Int) = p.fSum := by
            rw [← hs, k3]
            unfold sumB
            rw [pB_mk e1 k1 k4]
            rfl
          have e3 : pB (mkB p l) (sumB (mkB p l)) = p := by rw [pB_mk e1 k1 k4, e2]
          have e4 : encBt (mkB p l) = encP p ++ (s.drop m).take (p.fLength - 49).toNat := by
            unfold encBt
            rw [e3, k3]
            rfl
          have a9 := congrArg List.length a4
          refine ⟨by omega, by omega, ?_, ?_, ?_⟩
          · rw [e4, List.length_append, hn]; omega
          · rw [e4, take_step, a4, List.append_assoc]
          · refine ⟨by rw [e3]; exact ⟨a5, a6, a7, a8⟩, ?_, k5, k6⟩
            show acheck (ofBits (bitAt p.fAttr 3) (bitAt p.fAttr 4) (bitAt p.fAttr 5)) = 0
            rw [attr_back k1]
            exact k1
      · rw [if_neg hs] at h; exact nomatch h
  · obtain ⟨h1, h2, h3, h4⟩ := ha
    unfold encBt at hd
    rw [List.append_assoc] at hd
    have hp := Sp_pfx.back s _ q _ hq h1 hd
    have hd2 := drop_step hd
    have hl := congrArg List.length hd
    rw [List.length_drop, List.length_append, List.length_append] at hl
    have hn : ((pB a (sumB a)).fLength - 49).toNat = (body a).length := by
      show ((49 : Int) + ((body a).length : Int) - 49).toNat = _
      omega
    have ht : (s.drop (q + (encP (pB a (sumB a))).length)).take (body a).length = body a := by rw [hd2, List.take_left]
    unfold pBat
    rw [hp]
    dsimp only
    rw [hn, ht, if_neg (by omega), if_pos (show ((sumP (pB a (sumB a)) (body a) : Nat) : Int) = (pB a (sumB a)).fSum from rfl)]
    have hr := recs_back a.fRecords (body a) [] 0 (Nat.zero_le _) h3 (by rw [List.drop_zero, List.append_nil]; rfl)
    have ho : openP (pB a (sumB a)) (body a) = .ok a := by
      unfold openP
      rw [if_pos (show acheck (pB a (sumB a)).fAttr = 0 from h2), show (pB a (sumB a)).fCount.toNat = a.fRecords.length from rfl, hr]
      dsimp only
      obtain ⟨b1, b2, b3⟩ := bits_of a.fAppend a.fTxn a.fControl
      have e : mkB (pB a (sumB a)) a.fRecords = a := by
        unfold mkB pB
        dsimp only
        rw [b1, b2, b3]
      rw [e, if_neg (by show ¬ 0 + (body a).length < _; omega), if_pos h4]
    rw [ho]
    dsimp only
    unfold encBt
    rw [List.length_append, Nat.add_assoc]
end Go.Proofs.Ytahjmpipllajcaa.Sl
namespace Go.Proofs.Ytahjmpipllajcaa.Sl
open Go.RowKit
set_option linter.unusedVariables false
set_option linter.unusedSimpArgs false
def zBat : Bat := ⟨0, 0, false, false, false, 0, 0, 0, 0, 0, 0, []⟩
def bnR (r : Rec) : Prop := r.fHeaders.length ≤ 1000000 ∧ r.fKey.data.length ≤ 1000000 ∧ r.fValue.data.length ≤ 1000000
def bnB (a : Bat) : Prop := wf_Bat a ∧ a.fRecords.length ≤ 1000000 ∧ ∀ r, r ∈ a.fRecords → bnR r
theorem encs_mem {α : Type} (enc : α → List UInt8) : ∀ (l : List α) (x : α), x ∈ l → (enc x).length ≤ (encs enc l).length
  | y :: l, x, h => by
    rw [encs, List.length_append]
    rcases List.mem_cons.1 h with rfl | h
    · omega
    · have := encs_mem enc l x h
      omega
theorem encs_pos {α : Type} (enc : α → List UInt8) : ∀ (l : List α), (∀ x, x ∈ l → 0 < (enc x).length) → l.length ≤ (encs enc l).length
  | [], _ => Nat.zero_le _
  | y :: l, h => by
    rw [encs, List.length_append, List.length_cons]
    have h1 := h y (.head _)
    have := encs_pos enc l (fun x hx => h x (.tail _ hx))
    omega
theorem encHd_pos (h : Hd) : 0 < (encHd h).length := by
  unfold encHd
  simp only [List.length_append]
  have := vput_pos (vfold (h.fKey.length : Int))
  omega
theorem rec_bounds {x : Rec} (h : okRec x) (hl : (encRec x).length ≤ 1000000) : wf_Rec x ∧ bnR x := by
  obtain ⟨_, h2, h3⟩ := okRec_right h
  have e : (encRec x).length = (vput (vfold ((encBody x).length : Int))).length + (encBody x).length := by unfold encRec; rw [List.length_append]
  have e2 : (encBody x).length ≤ 1000000 := by omega
  simp only [encBody, encBl, encHs, List.length_append, be_length] at e2
  have h4 := encs_pos encHd x.fHeaders (fun y _ => encHd_pos y)
  have hS : ∀ d : List UInt8, d.length ≤ 1000000 → wS d := fun d hd => by unfold wS; omega
  refine ⟨⟨h2, h3, ⟨trivial, hS _ (by omega)⟩, ⟨trivial, hS _ (by omega)⟩, by omega, fun y hy => ?_⟩, by omega, by omega, by omega⟩
  have h5 := encs_mem encHd x.fHeaders y hy
  have h6 : (encHd y).length ≤ 1000000 := by omega
  simp only [encHd, List.length_append] at h6
  exact ⟨hS _ (by omega), trivial, hS _ (by omega)⟩
theorem chk_eq {a : Bat} (h : bnB a) : f_batch_Check a = some (chk a) ∧ f_r11_Check a = some (chk a) := by
  obtain ⟨cr, e0, h1, h2, _⟩ := check_same a h.1 h.2.1 h.2.2
  have e : chk a = chkB a cr e0 := by unfold chk; rw [h1]; rfl
  rw [e]
  exact ⟨h1, h2⟩
theorem b_fits_8 (n : Int) : fits n 8 = decide (-9223372036854775808 ≤ n ∧ n ≤ 9223372036854775807) := by
  rw [Bool.eq_iff_iff]
  unfold fits
  simp only [Bool.and_eq_true, decide_eq_true_eq]
  have : (2 : Int) ^ (8 * (8 : Int).toNat - 1) = 9223372036854775808 := by decide
  omega
theorem wI8 {n : Int} (h : fits n (8 : Nat) = true) : wI n := by
  have h' : fits n 8 = true := h
  rw [b_fits_8] at h'
  have h2 := of_decide_eq_true h'
  exact h2
theorem wI4 {n : Int} (h : fits n (4 : Nat) = true) : -2147483648 ≤ n ∧ n ≤ 2147483647 := by
  have h' : fits n 4 = true := h
  rw [fits_4] at h'
  exact of_decide_eq_true h'
theorem wI2 {n : Int} (h : fits n (2 : Nat) = true) : -32768 ≤ n ∧ n ≤ 32767 := by
  have h' : fits n 2 = true := h
  rw [b_fits_2] at h'
  exact of_decide_eq_true h'
theorem mkB_bounds {p : Pfx} (hp : okP p) {l : List Rec} (hl : ∀ x, x ∈ l → okRc x) (hb : (encs encRec l).length ≤ 1000000) : bnB (mkB p l) := by
  obtain ⟨⟨k1, k2, k3, _, k5, k6, k7, k8, k9, k10, k11, k12, k13, _⟩, _, _, _⟩ := hp
  have w4 : ∀ {n : Int}, fits n (4 : Nat) = true → wI n := fun h => by have := wI4 h; unfold wI; omega
  have w2 : ∀ {n : Int}, fits n (2 : Nat) = true → wI n := fun h => by have := wI2 h; unfold wI; omega
  have hr : ∀ x, x ∈ l → wf_Rec x ∧ bnR x := fun x hx => rec_bounds (hl x hx).1 (by have := encs_mem encRec l x hx; omega)
  have h4 := encs_pos encRec l (fun y _ => encRec_pos y)
  exact ⟨⟨wI8 k1, w4 k3, trivial, trivial, trivial, w4 k7, wI8 k8, wI8 k9, wI8 k10, w2 k11, w4 k12, by show l.length ≤ _; omega, fun x hx => (hr x hx).1⟩, by show l.length ≤ _; omega, fun x hx => (hr x hx).2⟩
theorem bopen_l1 (p : Pfx) (hc : p.fCount ≤ 2147483647) (s : List UInt8) (hs : s.length ≤ 1000000) (y : Int) : ∀ (n k fuel : Nat) (acc : List Rec) (q : Nat), ((k + n : Nat) : Int) = p.fCount → n < fuel → q ≤ s.length → acc.length ≤ q →
    (∃ e, pRecs n s q = .error e ∧ e ≠ 0 ∧ f_batch_open_l1 p fuel y k acc ⟨s.drop q, q, 0⟩ = some (.ret (zBat, e))) ∨ (∃ l r, pRecs n s q = .ok (l, r) ∧ q ≤ r ∧ r ≤ s.length ∧ f_batch_open_l1 p fuel y k acc ⟨s.drop q, q, 0⟩ = some (.go (y, k + n, acc ++ l, ⟨s.drop r, r, 0⟩)))
  | 0, k, fuel + 1, acc, q, hk, hf, hq, ha => .inr ⟨[], q, rfl, Nat.le_refl _, hq, by rw [f_batch_open_l1, if_neg (by omega), List.append_nil, Nat.add_zero]⟩
  | n + 1, k, fuel + 1, acc, q, hk, hf, hq, ha => by
    rw [f_batch_open_l1, if_pos (by omega), gLeft_eq, Option.bind_some]
    dsimp only
    rw [List.length_drop, pRecs]
    by_cases hz : q = s.length
    · rw [if_pos (by omega)]
      exact .inl ⟨10, Pr.bind_err (if_pos hz), by decide, rfl⟩
    rw [if_neg (by omega), Pr.bind_of (show pMore s q = .ok ((), q) from if_neg hz)]
    rcases B_rec.run s q hs hq with ⟨e, st, p1, g1, x1, y1⟩ | ⟨b, r, p1, g1, n1, l1⟩
    · rw [g1, Option.bind_some]
      dsimp only
      rw [gErr_eq, Option.bind_some]
      dsimp only
      rw [if_neg y1]
      exact .inl ⟨e, Pr.bind_err p1, by rw [← x1]; exact y1, by rw [x1]; rfl⟩
    · have h3 := (Sp_rec.spell s q b r hq p1).2.2.1
      have h4 := encRec_pos b
      rw [g1, Option.bind_some]
      dsimp only
      rw [gErr_eq, Option.bind_some]
      dsimp only
      rw [if_pos rfl, if_pos (by omega), if_pos (by omega), Pr.bind_of p1]
      rcases bopen_l1 p hc s hs y n (k + 1) fuel (acc ++ [b]) r (by omega) (by omega) l1 (by rw [List.length_append, List.length_singleton]; omega) with ⟨e, q1, q2, q3⟩ | ⟨l, m, q1, q2, q3, q4⟩
      · exact .inl ⟨e, Pr.bind_err q1, q2, q3⟩
      · exact .inr ⟨b :: l, m, by rw [Pr.bind_of q1]; rfl, by omega, q3, by rw [q4, List.append_assoc, show k + 1 + n = k + (n + 1) by omega]; rfl⟩
theorem bopen {p : Pfx} (hp : okP p) (s : List UInt8) (hs : s.length ≤ 1000000) : (∃ e x, openP p s = .error e ∧ e ≠ 0 ∧ f_batch_open p s = some (x, e)) ∨ (∃ b, openP p s = .ok b ∧ f_batch_open p s = some (b, 0)) := by
  obtain ⟨k1, k2, k3, k4⟩ := id hp
  have ha := wI2 k1.2.2.2.2.2.1
  have hc := wI4 k1.2.2.2.2.2.2.2.2.2.2.2.2.1
  try dsimp only at ha
  unfold f_batch_open openP
  rw [gACheck_eq _ (by omega), Option.bind_some]
  by_cases h0 : acheck p.fAttr = 0
  rotate_left
  · rw [if_neg h0, if_neg h0]
    exact .inl ⟨_, _, rfl, h0, rfl⟩
  rw [if_pos h0, if_pos h0, gARead_eq, Option.bind_some]
  dsimp only
  rw [gNew_eq _ (by omega), Option.bind_some]
  rcases bopen_l1 p hc.2 s hs 0 p.fCount.toNat 0 (p.fCount.toNat + 1) [] 0 (by omega) (by omega) (Nat.zero_le _) (Nat.zero_le _) with ⟨e, q1, q2, q3⟩ | ⟨l, m, q1, q2, q3, q4⟩
  · rw [List.drop_zero] at q3
    rw [q3, q1]
    exact .inl ⟨e, _, rfl, q2, rfl⟩
  · rw [List.drop_zero] at q4
    obtain ⟨b1, b2, b3, b4, b5⟩ := recs_spell _ s 0 l m (Nat.zero_le _) q1
    rw [q4, q1, Option.bind_some]
    dsimp only
    rw [gLeft_eq, Option.bind_some]
    dsimp only
    rw [List.length_drop]
    by_cases hl : m < s.length
    · rw [if_pos hl, if_pos (show ((s.length - m : Nat) : Int) > 0 by omega)]
      exact .inl ⟨_, _, rfl, by decide, rfl⟩
    · rw [if_neg hl, if_neg (show ¬ ((s.length - m : Nat) : Int) > 0 by omega)]
      rw [List.take_of_length_le (by omega), List.take_zero, List.nil_append] at b3
      have hB := mkB_bounds hp b5 (by rw [← b3]; exact hs)
      have e : f_batch_Check (⟨p.fBase, p.fLeader, bitAt p.fAttr 3, bitAt p.fAttr 4, bitAt p.fAttr 5, p.fLast, p.fFirst, p.fMax, p.fProducer, p.fEpoch, p.fSequence, [] ++ l⟩ : Bat) = some (chk (mkB p l)) := (chk_eq hB).1
      rw [e, Option.bind_some]
      by_cases hk : chk (mkB p l) = 0
      · rw [if_pos hk, hk]
        exact .inr ⟨_, rfl, rfl⟩
      · rw [if_neg hk]
        exact .inl ⟨_, _, rfl, hk, rfl⟩
theorem B_bat : CB f_batch_Read pBat zBat := by
  refine ⟨fun st h => ?_, fun s q hs hq => ?_⟩
  · unfold f_batch_Read
    rw [B_pfx.dead st h, Option.bind_some]
    dsimp only
    rw [if_pos (by decide), gTake_eq _ _ (by decide), Option.bind_some]
    dsimp only
    have e : itake st ((0 : Int) - 49) = ([], st) := if_pos h
    rw [show zP.fLength = (0 : Int) from rfl, e, gErr_eq, Option.bind_some]
    dsimp only
    rw [if_neg h]
    rfl
  · unfold f_batch_Read pBat
    rcases B_pfx.run s q hs hq with ⟨e, st, p1, g1, x1, y1⟩ | ⟨p, r, p1, g1, n1, l1⟩
    · refine .inl ⟨e, st, by rw [p1], ?_, x1, y1⟩
      rw [g1, Option.bind_some]
      dsimp only
      rw [if_pos (by decide), gTake_eq _ _ (by decide), Option.bind_some]
      dsimp only
      have e : itake st ((0 : Int) - 49) = ([], st) := if_pos y1
      rw [show zP.fLength = (0 : Int) from rfl, e, gErr_eq, Option.bind_some]
      dsimp only
      rw [if_neg y1]
      rfl
    · obtain ⟨a1, a2, a3, a4, ap⟩ := Sp_pfx.spell s q p r hq p1
      obtain ⟨k1, k2, k3, k4⟩ := id ap
      have hL := wI4 k1.2.1
      try dsimp only at hL
      have hT : -9223372036854775808 ≤ p.fLength - 49 ∧ p.fLength - 49 ≤ 9223372036854775807 := by omega
      rw [g1, Option.bind_some, p1]
      dsimp only
      rw [if_pos hT, gTake_eq _ _ hT, Option.bind_some]
      dsimp only
      by_cases hl : s.length < r + (p.fLength - 49).toNat
      · have e : itake ⟨s.drop r, r, 0⟩ (p.fLength - 49) = ([], ⟨s.drop r, r, 1⟩) := by
          unfold itake
          rw [if_neg (by simp), if_neg (by omega), if_pos (by rw [List.length_drop]; omega)]
        rw [if_pos hl, e, gErr_eq, Option.bind_some]
        exact .inl ⟨1, ⟨s.drop r, r, 1⟩, rfl, rfl, rfl, by show (1 : Int) ≠ 0; decide⟩
      have e : itake ⟨s.drop r, r, 0⟩ (p.fLength - 49) = ((s.drop r).take (p.fLength - 49).toNat, ⟨s.drop (r + (p.fLength - 49).toNat), r + (p.fLength - 49).toNat, 0⟩) := by
        unfold itake
        rw [if_neg (by simp), if_neg (by omega), if_neg (by rw [List.length_drop]; omega), List.drop_drop]
      rw [if_neg hl, e, gErr_eq, Option.bind_some]
      dsimp only
      have hn : ((s.drop r).take (p.fLength - 49).toNat).length = (p.fLength - 49).toNat := by rw [List.length_take, List.length_drop]; omega
      generalize (s.drop r).take (p.fLength - 49).toNat = b at hn
      have hlen : (encP p).length = 61 := encP_len k1
      rw [if_pos rfl, write_ok [] ⟨k1, k2⟩ (by decide), Option.bind_some, List.nil_append, gOText_eq, Option.bind_some]
      dsimp only
      rw [otx_z, crc_new, Option.bind_some]
      dsimp only
      rw [if_pos (show 21 ≤ (encP p).length by omega)]
      have hp21 : (post21 p).length ≤ 61 := by rw [← encP_drop p, List.length_drop]; omega
      have hs2 : [post21 p, b].flatten = post21 p ++ b := by simp
      rw [encP_drop, crc_sum [post21 p, b] (by intro t ht; rcases List.mem_cons.1 ht with rfl | ht; omega; rw [List.mem_singleton.1 ht]; omega), Option.bind_some, hs2]
      dsimp only
      have hlt : crcM 0 (post21 p ++ b) < 4294967296 := crcM_lt (by decide) _
      rw [if_pos (show -9223372036854775808 ≤ ((crcM 0 (post21 p ++ b) : Nat) : Int) ∧ ((crcM 0 (post21 p ++ b) : Nat) : Int) ≤ 9223372036854775807 by omega)]
      by_cases hsum : ((sumP p b : Nat) : Int) = p.fSum
      rotate_left
      · rw [if_neg hsum, if_neg (show ¬ ((crcM 0 (post21 p ++ b) : Nat) : Int) = p.fSum from hsum), gIFail_eq, Option.bind_some]
        exact .inl ⟨5, _, rfl, rfl, rfl, by show (5 : Int) ≠ 0; decide⟩
      rw [if_pos hsum, if_pos (show ((crcM 0 (post21 p ++ b) : Nat) : Int) = p.fSum from hsum)]
      rcases bopen ap b (by omega) with ⟨e, x, o1, o2, o3⟩ | ⟨x, o1, o3⟩
      · rw [o1, o3, Option.bind_some]
        dsimp only
        rw [if_neg o2, gIFail_eq, Option.bind_some]
        exact .inl ⟨e, _, rfl, rfl, rfl, o2⟩
      · rw [o1, o3, Option.bind_some]
        dsimp only
        rw [if_pos rfl]
        exact .inr ⟨x, _, rfl, rfl, by omega, by omega⟩
end Go.Proofs.Ytahjmpipllajcaa.Sl
