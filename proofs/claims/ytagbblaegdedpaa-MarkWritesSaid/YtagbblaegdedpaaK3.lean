/- markWrites_holds: part 3. -/
import Derived.Test.YtagbblaegdedpaaK2
namespace Go.Proofs.Ytagbblaegdedpaa.Sl
open Go.RowKit
set_option linter.unusedVariables false
set_option linter.unusedSimpArgs false
set_option maxRecDepth 100000
def ft_cursitorref19 : FTab := [(167, 0, 0), (167, 1, 1), (167, 2, 2), (167, 3, 3), (167, 4, 4)]
theorem ft_cursitorref19_ok : (ft_cursitorref19).OK Try.prog := ⟨FOK.mk Try.runUnderlying167 rfl Try.sizeOf3 rfl, FOK.mk Try.runUnderlying167 rfl Try.sizeOf3 rfl, FOK.mk Try.runUnderlying167 rfl Try.sizeOf4 rfl, FOK.mk Try.runUnderlying167 rfl Try.sizeOf68 rfl, FOK.mk Try.runUnderlying167 rfl Try.sizeOf3 rfl, trivial⟩
theorem mix_cursitorref19 : Try.prog.follows .mixedOrders = true := by kernel_rfl
def f_r19_one (a0 : R19Mark) (a1 : Int) : Option (Int) := (if a0.fProducer < 0 then some true else (if a0.fEpoch < 0 then some true else (if a0.fEpoch > 32767 then some true else (if a0.fCoordinator < 0 then some true else (if a0.fCoordinator > 2147483647 then some true else (if a1 = 0 then (if a0.fCoordinator = 0 then some false else some true) else some false)))))).bind fun y10 => if y10 = true then some 11 else (if (a0.fTopics.length : Int) = 0 then some 10 else ((f_r14_Rise a0.fTopics).bind fun x21 => if x21 = true then some 0 else some 13))
set_option maxRecDepth 100000 in
set_option maxHeartbeats 4000000 in
theorem f_r19_one_spec (a0 : R19Mark) (A1 : Option Addr) (c2 : Nat) (a1 : Int) (r : Int) (h : f_r19_one a0 a1 = some r) : SpecX Try.prog 116 #[.agg #[.int .i64 a0.fProducer, .int .i64 a0.fEpoch, .bool a0.fCommit, .slice A1 a0.fTopics.length c2, .int .i64 a0.fCoordinator], .int .i64 a1] (RX.of (sliceRd 2 Top_rd) [.slice A1 a0.fTopics.length c2] a0.fTopics) (EmpR) (fun v A' N => v = .int .i64 r ∧ A' = EmpR ∧ N = []) := by
  refine enterA Try.func116 rfl Try.ntmps116 rfl ?_
  intro F w hX
  unfold f_r19_one at h
  refine T.seq (T.region rfl ?_)
  refine TL.box rfl .u rfl rfl (fun b3 => ?_)
  refine TL.run ft_cursitorref19_ok [1] rfl rfl ?_
  refine TL.nil (X.seq (T.seq (T.seq ?_)))
  obtain ⟨y10, h, hk11⟩ := Option.bind_eq_some_iff.1 h
  refine T.jq (fun e Rs => e = [(2, .pointer (some ⟨b3, 0, none⟩)), (4, .int .i64 0), (36, .bool y10)] ∧ Rs = [BlkR b3 167 #[.int .i64 a0.fProducer, .int .i64 a0.fEpoch, .bool a0.fCommit, .slice A1 a0.fTopics.length c2, .int .i64 a0.fCoordinator], EmpR]) ?_ ?_
  · clear hk11
    refine T.region rfl ?_
    refine TL.run ft_cursitorref19_ok [0] rfl rfl ?_
    refine TL.q rfl .u (Ex.b1 0 rfl Try.isAgg3 rfl rfl) rfl ?_
    by_cases c12 : a0.fProducer < 0
    · replace h := ifT c12 h
      refine TL.run ft_cursitorref19_ok [2, 3] rfl rfl ?_
      refine TL.no rfl (.gn rfl rfl (decide_eq_true c12)) rfl ?_
      refine TL.no rfl (.gn rfl rfl (decide_eq_true c12)) rfl ?_
      refine TL.no rfl (.gn rfl rfl (decide_eq_true c12)) rfl ?_
      refine TL.q rfl .u (Ex.py rfl (decide_eq_true c12) rfl) rfl ?_
      refine TL.run ft_cursitorref19_ok [8] rfl rfl ?_
      refine TL.no rfl (.gn rfl rfl rfl) rfl ?_
      refine TL.no rfl (.gn rfl rfl rfl) rfl ?_
      refine TL.no rfl (.gn rfl rfl rfl) rfl ?_
      refine TL.q rfl .u (Ex.py rfl rfl rfl) rfl ?_
      refine TL.run ft_cursitorref19_ok [13] rfl rfl ?_
      refine TL.no rfl (.gn rfl rfl rfl) rfl ?_
      refine TL.no rfl (.gn rfl rfl rfl) rfl ?_
      refine TL.no rfl (.gn rfl rfl rfl) rfl ?_
      refine TL.q rfl .u (Ex.py rfl rfl rfl) rfl ?_
      refine TL.run ft_cursitorref19_ok [18] rfl rfl ?_
      refine TL.no rfl (.gn rfl rfl rfl) rfl ?_
      refine TL.no rfl (.gn rfl rfl rfl) rfl ?_
      refine TL.no rfl (.gn rfl rfl rfl) rfl ?_
      refine TL.q rfl .u (Ex.py rfl rfl rfl) rfl ?_
      refine TL.run ft_cursitorref19_ok [23] rfl rfl ?_
      refine TL.no rfl (.gn rfl rfl rfl) rfl ?_
      refine TL.no rfl (.gn rfl rfl rfl) rfl ?_
      refine TL.no rfl (.gn rfl rfl rfl) rfl ?_
      refine TL.no rfl (.gu rfl rfl) rfl ?_
      refine TL.no rfl (.gu rfl rfl) rfl ?_
      refine TL.no rfl (.gu rfl rfl) rfl ?_
      refine TL.no rfl (.gn rfl rfl rfl) rfl ?_
      refine TL.q rfl .u (Ex.py rfl rfl rfl) rfl ?_
      cases h
      exact TL.nil (X.jq [0, 0] ⟨rfl, rfl⟩ (by rfl) (by rfl))
    · replace h := ifF c12 h
      refine TL.run ft_cursitorref19_ok [2, 3] rfl rfl ?_
      refine TL.q rfl (.g rfl rfl (decide_eq_false c12)) (Ex.ft ft_cursitorref19_ok rfl) rfl ?_
      refine TL.q rfl (.g rfl rfl (decide_eq_false c12)) (Ex.b1 0 rfl Try.isAgg3 rfl rfl) rfl ?_
      refine TL.q rfl (.g rfl rfl (decide_eq_false c12)) (Ex.ft ft_cursitorref19_ok rfl) rfl ?_
      refine TL.q rfl .u (Ex.pn rfl (decide_eq_false c12) rfl) rfl ?_
      by_cases c13 : a0.fEpoch < 0
      · replace h := ifT c13 h
        refine TL.run ft_cursitorref19_ok [8] rfl rfl ?_
        refine TL.no rfl (.gn rfl rfl (decide_eq_true c13)) rfl ?_
        refine TL.no rfl (.gn rfl rfl (decide_eq_true c13)) rfl ?_
        refine TL.no rfl (.gn rfl rfl (decide_eq_true c13)) rfl ?_
        refine TL.q rfl .u (Ex.py rfl (decide_eq_true c13) rfl) rfl ?_
        refine TL.run ft_cursitorref19_ok [13] rfl rfl ?_
        refine TL.no rfl (.gn rfl rfl rfl) rfl ?_
        refine TL.no rfl (.gn rfl rfl rfl) rfl ?_
        refine TL.no rfl (.gn rfl rfl rfl) rfl ?_
        refine TL.q rfl .u (Ex.py rfl rfl rfl) rfl ?_
        refine TL.run ft_cursitorref19_ok [18] rfl rfl ?_
        refine TL.no rfl (.gn rfl rfl rfl) rfl ?_
        refine TL.no rfl (.gn rfl rfl rfl) rfl ?_
        refine TL.no rfl (.gn rfl rfl rfl) rfl ?_
        refine TL.q rfl .u (Ex.py rfl rfl rfl) rfl ?_
        refine TL.run ft_cursitorref19_ok [23] rfl rfl ?_
        refine TL.no rfl (.gn rfl rfl rfl) rfl ?_
        refine TL.no rfl (.gn rfl rfl rfl) rfl ?_
        refine TL.no rfl (.gn rfl rfl rfl) rfl ?_
        refine TL.no rfl (.gu rfl rfl) rfl ?_
        refine TL.no rfl (.gu rfl rfl) rfl ?_
        refine TL.no rfl (.gu rfl rfl) rfl ?_
        refine TL.no rfl (.gn rfl rfl rfl) rfl ?_
        refine TL.q rfl .u (Ex.py rfl rfl rfl) rfl ?_
        cases h
        exact TL.nil (X.jq [0, 0] ⟨rfl, rfl⟩ (by rfl) (by rfl))
      · replace h := ifF c13 h
        refine TL.run ft_cursitorref19_ok [8] rfl rfl ?_
        refine TL.q rfl (.g rfl rfl (decide_eq_false c13)) (Ex.ft ft_cursitorref19_ok rfl) rfl ?_
        refine TL.q rfl (.g rfl rfl (decide_eq_false c13)) (Ex.b1 0 rfl Try.isAgg3 rfl rfl) rfl ?_
        refine TL.q rfl (.g rfl rfl (decide_eq_false c13)) (Ex.ft ft_cursitorref19_ok rfl) rfl ?_
        refine TL.q rfl .u (Ex.pn rfl (decide_eq_false c13) rfl) rfl ?_
        by_cases c14 : a0.fEpoch > 32767
        · replace h := ifT c14 h
          refine TL.run ft_cursitorref19_ok [13] rfl rfl ?_
          refine TL.no rfl (.gn rfl rfl (decide_eq_true c14)) rfl ?_
          refine TL.no rfl (.gn rfl rfl (decide_eq_true c14)) rfl ?_
          refine TL.no rfl (.gn rfl rfl (decide_eq_true c14)) rfl ?_
          refine TL.q rfl .u (Ex.py rfl (decide_eq_true c14) rfl) rfl ?_
          refine TL.run ft_cursitorref19_ok [18] rfl rfl ?_
          refine TL.no rfl (.gn rfl rfl rfl) rfl ?_
          refine TL.no rfl (.gn rfl rfl rfl) rfl ?_
          refine TL.no rfl (.gn rfl rfl rfl) rfl ?_
          refine TL.q rfl .u (Ex.py rfl rfl rfl) rfl ?_
          refine TL.run ft_cursitorref19_ok [23] rfl rfl ?_
          refine TL.no rfl (.gn rfl rfl rfl) rfl ?_
          refine TL.no rfl (.gn rfl rfl rfl) rfl ?_
          refine TL.no rfl (.gn rfl rfl rfl) rfl ?_
          refine TL.no rfl (.gu rfl rfl) rfl ?_
          refine TL.no rfl (.gu rfl rfl) rfl ?_
          refine TL.no rfl (.gu rfl rfl) rfl ?_
          refine TL.no rfl (.gn rfl rfl rfl) rfl ?_
          refine TL.q rfl .u (Ex.py rfl rfl rfl) rfl ?_
          cases h
          exact TL.nil (X.jq [0, 0] ⟨rfl, rfl⟩ (by rfl) (by rfl))
        · replace h := ifF c14 h
          refine TL.run ft_cursitorref19_ok [13] rfl rfl ?_
          refine TL.q rfl (.g rfl rfl (decide_eq_false c14)) (Ex.ft ft_cursitorref19_ok rfl) rfl ?_
          refine TL.q rfl (.g rfl rfl (decide_eq_false c14)) (Ex.b1 0 rfl Try.isAgg3 rfl rfl) rfl ?_
          refine TL.q rfl (.g rfl rfl (decide_eq_false c14)) (Ex.ft ft_cursitorref19_ok rfl) rfl ?_
          refine TL.q rfl .u (Ex.pn rfl (decide_eq_false c14) rfl) rfl ?_
          by_cases c15 : a0.fCoordinator < 0
          · replace h := ifT c15 h
            refine TL.run ft_cursitorref19_ok [18] rfl rfl ?_
            refine TL.no rfl (.gn rfl rfl (decide_eq_true c15)) rfl ?_
            refine TL.no rfl (.gn rfl rfl (decide_eq_true c15)) rfl ?_
            refine TL.no rfl (.gn rfl rfl (decide_eq_true c15)) rfl ?_
            refine TL.q rfl .u (Ex.py rfl (decide_eq_true c15) rfl) rfl ?_
            refine TL.run ft_cursitorref19_ok [23] rfl rfl ?_
            refine TL.no rfl (.gn rfl rfl rfl) rfl ?_
            refine TL.no rfl (.gn rfl rfl rfl) rfl ?_
            refine TL.no rfl (.gn rfl rfl rfl) rfl ?_
            refine TL.no rfl (.gu rfl rfl) rfl ?_
            refine TL.no rfl (.gu rfl rfl) rfl ?_
            refine TL.no rfl (.gu rfl rfl) rfl ?_
            refine TL.no rfl (.gn rfl rfl rfl) rfl ?_
            refine TL.q rfl .u (Ex.py rfl rfl rfl) rfl ?_
            cases h
            exact TL.nil (X.jq [0, 0] ⟨rfl, rfl⟩ (by rfl) (by rfl))
          · replace h := ifF c15 h
            refine TL.run ft_cursitorref19_ok [18] rfl rfl ?_
            refine TL.q rfl (.g rfl rfl (decide_eq_false c15)) (Ex.ft ft_cursitorref19_ok rfl) rfl ?_
            refine TL.q rfl (.g rfl rfl (decide_eq_false c15)) (Ex.b1 0 rfl Try.isAgg3 rfl rfl) rfl ?_
            refine TL.q rfl (.g rfl rfl (decide_eq_false c15)) (Ex.ft ft_cursitorref19_ok rfl) rfl ?_
            refine TL.q rfl .u (Ex.pn rfl (decide_eq_false c15) rfl) rfl ?_
            by_cases c16 : a0.fCoordinator > 2147483647
            · replace h := ifT c16 h
              refine TL.run ft_cursitorref19_ok [23] rfl rfl ?_
              refine TL.no rfl (.gn rfl rfl (decide_eq_true c16)) rfl ?_
              refine TL.no rfl (.gn rfl rfl (decide_eq_true c16)) rfl ?_
              refine TL.no rfl (.gn rfl rfl (decide_eq_true c16)) rfl ?_
              refine TL.no rfl (.gu rfl rfl) rfl ?_
              refine TL.no rfl (.gu rfl rfl) rfl ?_
              refine TL.no rfl (.gu rfl rfl) rfl ?_
              refine TL.no rfl (.gn rfl rfl (decide_eq_true c16)) rfl ?_
              refine TL.q rfl .u (Ex.py rfl (decide_eq_true c16) rfl) rfl ?_
              cases h
              exact TL.nil (X.jq [0, 0] ⟨rfl, rfl⟩ (by rfl) (by rfl))
            · replace h := ifF c16 h
              refine TL.run ft_cursitorref19_ok [23] rfl rfl ?_
              refine TL.q rfl (.g rfl rfl (decide_eq_false c16)) (Ex.ft ft_cursitorref19_ok rfl) rfl ?_
              refine TL.q rfl (.g rfl rfl (decide_eq_false c16)) (Ex.ft ft_cursitorref19_ok rfl) rfl ?_
              refine TL.q rfl (.g rfl rfl (decide_eq_false c16)) (Ex.ft ft_cursitorref19_ok rfl) rfl ?_
              by_cases c17 : a1 = 0
              · replace h := ifT c17 h
                refine TL.q rfl (.g rfl rfl (decide_eq_true c17)) (Ex.ft ft_cursitorref19_ok rfl) rfl ?_
                refine TL.q rfl (.g rfl rfl (decide_eq_true c17)) (Ex.b1 0 rfl Try.isAgg3 rfl rfl) rfl ?_
                refine TL.q rfl (.g rfl rfl (decide_eq_true c17)) (Ex.ft ft_cursitorref19_ok rfl) rfl ?_
                refine TL.q rfl (.g rfl rfl (decide_eq_false c16)) (Ex.py rfl (decide_eq_true c17) rfl) rfl ?_
                refine TL.q rfl .u (Ex.pn rfl (decide_eq_false c16) rfl) rfl ?_
                by_cases c18 : a0.fCoordinator = 0
                · replace h := ifT c18 h
                  cases h
                  exact TL.nil (X.as (d := 36) (v' := .bool false) rfl (congrArg Value.bool (bn_f (decide_eq_true c18))) (X.jq [0, 0] ⟨rfl, rfl⟩ (by rfl) (by rfl)))
                · replace h := ifF c18 h
                  cases h
                  exact TL.nil (X.as (d := 36) (v' := .bool true) rfl (congrArg Value.bool (bn_t (decide_eq_false c18))) (X.jq [0, 0] ⟨rfl, rfl⟩ (by rfl) (by rfl)))
              · replace h := ifF c17 h
                refine TL.no rfl (.gn rfl rfl (decide_eq_false c17)) rfl ?_
                refine TL.no rfl (.gn rfl rfl (decide_eq_false c17)) rfl ?_
                refine TL.no rfl (.gn rfl rfl (decide_eq_false c17)) rfl ?_
                refine TL.q rfl (.g rfl rfl (decide_eq_false c16)) (Ex.pn rfl (decide_eq_false c17) rfl) rfl ?_
                refine TL.q rfl .u (Ex.pn rfl (decide_eq_false c16) rfl) rfl ?_
                cases h
                exact TL.nil (X.jq [0, 0] ⟨rfl, rfl⟩ (by rfl) (by rfl))
  · rintro _ _ ⟨rfl, rfl⟩
    clear h
    have h := hk11
    clear hk11
    try dsimp only at h
    by_cases c19 : y10 = true
    · replace h := ifT c19 h
      refine X.seq ?_
      refine T.yes rfl c19 ?_
      refine T.seq (T.region rfl ?_)
      refine TL.run ft_cursitorref19_ok [0] rfl rfl ?_
      obtain rfl := Option.some.inj h
      exact TL.nil (X.seq (T.ret (X.rs (X.done1 [1] Try.results116 (RV.tm rfl) ⟨rfl, rfl, rfl⟩ (by rfl) (.inl rfl)))))
    · replace h := ifF c19 h
      replace c19 := eq_false_of_ne_true c19
      refine X.seq ?_
      refine T.no rfl c19 ?_
      refine T.skip (X.seq (T.seq (T.seq (T.region rfl ?_))))
      refine TL.run ft_cursitorref19_ok [0] rfl rfl ?_
      refine TL.q rfl .u (Ex.b1 0 rfl Try.isAgg68 rfl rfl) rfl ?_
      refine TL.q rfl .u (Ex.lenS rfl Try.runUnderlying68) rfl ?_
      refine TL.run ft_cursitorref19_ok [3] rfl rfl ?_
      by_cases c20 : (a0.fTopics.length : Int) = 0
      · replace h := ifT c20 h
        refine TL.nil (X.seq ?_)
        refine T.yes rfl (decide_eq_true c20) ?_
        refine T.seq (T.region rfl ?_)
        refine TL.run ft_cursitorref19_ok [0] rfl rfl ?_
        obtain rfl := Option.some.inj h
        exact TL.nil (X.seq (T.ret (X.rs (X.done1 [1] Try.results116 (RV.tm rfl) ⟨rfl, rfl, rfl⟩ (by rfl) (.inl rfl)))))
      · replace h := ifF c20 h
        refine TL.nil (X.seq ?_)
        refine T.no rfl (decide_eq_false c20) ?_
        refine T.skip (X.seq (T.seq (T.seq (T.region rfl ?_))))
        refine TL.run ft_cursitorref19_ok [0] rfl rfl ?_
        refine TL.q rfl .u (Ex.b1 0 rfl Try.isAgg68 rfl rfl) rfl ?_
        obtain ⟨x21, hx22, h⟩ := Option.bind_eq_some_iff.1 h
        refine TL.ce rfl .u (.fn Try.call127 rfl) (f_r14_Rise_spec a0.fTopics _ _ _ hx22) (fun _ hs => (SrcE.old hs hX)) rfl ?_
        refine TL.run ft_cursitorref19_ok [3] rfl rfl ?_
        by_cases c23 : x21 = true
        · replace h := ifT c23 h
          refine TL.nil (X.seq ?_)
          refine T.no rfl (bn_f c23) ?_
          refine T.skip (X.seq (T.seq (T.region rfl ?_)))
          refine TL.run ft_cursitorref19_ok [0] rfl rfl ?_
          obtain rfl := Option.some.inj h
          exact TL.nil (X.seq (T.ret (X.done1 [1] Try.results116 (RV.tm rfl) ⟨rfl, rfl, rfl⟩ (by rfl) (.inl rfl))))
        · replace h := ifF c23 h
          replace c23 := eq_false_of_ne_true c23
          refine TL.nil (X.seq ?_)
          refine T.yes rfl (bn_t c23) ?_
          refine T.seq (T.region rfl ?_)
          refine TL.run ft_cursitorref19_ok [0] rfl rfl ?_
          obtain rfl := Option.some.inj h
          exact TL.nil (X.seq (T.ret (X.rs (X.done1 [1] Try.results116 (RV.tm rfl) ⟨rfl, rfl, rfl⟩ (by rfl) (.inl rfl)))))
def f_r19_Check_l1 (a0 : List R19Mark) (a1 : Int) : Nat → Int → Nat → Option (Lp Int (Int × Nat))
  | 0, _, _ => none
  | m9 + 1, y4, k5 => if (k5 : Int) < (a0.length : Int) then ((a0[k5]?).bind fun x14 => (f_r19_one x14 a1).bind fun x20 => if x20 = 0 then (if -9223372036854775808 ≤ ((k5 : Int) + 1) ∧ ((k5 : Int) + 1) ≤ 9223372036854775807 then (f_r19_Check_l1 a0 a1 m9 y4 (k5 + 1)) else none) else some (Lp.ret x20)) else (some (Lp.go (y4, k5)))
def f_r19_Check (a0 : List R19Mark) (a1 : Int) : Option (Int) := if (a0.length : Int) = 0 then some 10 else ((f_r19_Check_l1 a0 a1 (((a0.length : Int)).toNat + 1) 0 0).bind fun e => match e with | .ret r => some r | .go (y24, k25) => some 0)
set_option maxRecDepth 100000 in
set_option maxHeartbeats 4000000 in
theorem f_r19_Check_spec (a0 : List R19Mark) (A1 : Option Addr) (c2 : Nat) (a1 : Int) (r : Int) (h : f_r19_Check a0 a1 = some r) : SpecX Try.prog 40 #[.slice A1 a0.length c2, .int .i64 a1] (RX.of (sliceRd 5 R19Mark_rd) [.slice A1 a0.length c2] a0) (EmpR) (fun v A' N => v = .int .i64 r ∧ A' = EmpR ∧ N = []) := by
  refine enterA Try.func40 rfl Try.ntmps40 rfl ?_
  intro F w hX
  unfold f_r19_Check at h
  refine T.seq (T.region rfl ?_)
  refine TL.run ft_cursitorref19_ok [0] rfl rfl ?_
  refine TL.nil (X.seq (T.seq (T.seq (T.region rfl ?_))))
  refine TL.run ft_cursitorref19_ok [0] rfl rfl ?_
  refine TL.q rfl .u (Ex.lenS rfl Try.runUnderlying57) rfl ?_
  refine TL.run ft_cursitorref19_ok [2] rfl rfl ?_
  by_cases c3 : (a0.length : Int) = 0
  · replace h := ifT c3 h
    refine TL.nil (X.seq ?_)
    refine T.yes rfl (decide_eq_true c3) ?_
    refine T.seq (T.region rfl ?_)
    refine TL.run ft_cursitorref19_ok [0] rfl rfl ?_
    obtain rfl := Option.some.inj h
    exact TL.nil (X.seq (T.ret (X.rs (X.done1 [0] Try.results40 (RV.tm rfl) ⟨rfl, rfl, rfl⟩ (by rfl) (.inl rfl)))))
  · replace h := ifF c3 h
    refine TL.nil (X.seq ?_)
    refine T.no rfl (decide_eq_false c3) ?_
    refine T.skip (X.seq (T.seq (T.seq (T.region rfl ?_))))
    refine TL.run ft_cursitorref19_ok [0] rfl rfl ?_
    refine TL.nil (X.seq (T.block ?_))
    obtain ⟨E6, hE7, hO8⟩ := Option.bind_eq_some_iff.1 h
    refine T.lp (fun m e Rs => ∃ (y4 : Int) (k5 : Nat), e = [(0, .slice A1 a0.length c2), (1, .int .i64 a1), (4, .int .i64 y4), (5, .int .i64 (k5 : Int))] ∧ Rs = [EmpR] ∧ f_r19_Check_l1 a0 a1 m y4 k5 = some E6) (((a0.length : Int)).toNat + 1) [0] ⟨0, 0, rfl, rfl, by exact hE7⟩ (by rfl) (by rfl) ?_
    rintro m9 _ _ ⟨y4, k5, rfl, rfl, hl11⟩
    clear hE7 h
    cases m9 with
    | zero =>
      rw [f_r19_Check_l1] at hl11
      cases hl11
    | succ m9 =>
      have h := hl11
      clear hl11
      rw [f_r19_Check_l1] at h
      refine T.seq (T.seq (T.region rfl ?_))
      refine TL.run ft_cursitorref19_ok [0, 1] rfl rfl ?_
      refine TL.q rfl .u (Ex.lenS rfl Try.runUnderlying57) rfl ?_
      refine TL.run ft_cursitorref19_ok [3] rfl rfl ?_
      by_cases c13 : (k5 : Int) < (a0.length : Int)
      · replace h := ifT c13 h
        refine TL.nil (X.seq ?_)
        refine T.yes rfl (decide_eq_true c13) ?_
        refine T.skip (X.seq (T.seq (T.block (T.seq (T.region rfl ?_)))))
        obtain ⟨x14, hx15, h⟩ := Option.bind_eq_some_iff.1 h
        obtain ⟨gz16, oz16, rfl, z16cs, z16cl, z16cc, z16nf, z16r⟩ := RX.elem (by decide) hX hx15
        obtain ⟨z16S, z16r, z16rr⟩ := z16r
        obtain ⟨A17, c18, rfl, z16s0⟩ := z16r
        have hX19 : (RX.of (sliceRd 2 Top_rd) [.slice A17 x14.fTopics.length c18] x14.fTopics).reads w F := ⟨z16S, z16s0, z16rr⟩
        refine TL.run ft_cursitorref19_ok [0, 1] rfl rfl ?_
        refine TL.q rfl .u (Ex.ixS (k := k5) rfl rfl rfl Try.runUnderlying57 Try.sizeOf167 (List.getElem?_eq_some_iff.1 hx15).1) rfl ?_
        refine TL.q rfl .u (Ex.oS (us := [.int .i64 x14.fProducer, .int .i64 x14.fEpoch, .bool x14.fCommit, .slice A17 x14.fTopics.length c18, .int .i64 x14.fCoordinator]) 0 rfl Try.isAgg167 Try.sizeOf167 z16nf z16cc rfl rfl rfl) rfl ?_
        obtain ⟨x20, hx21, h⟩ := Option.bind_eq_some_iff.1 h
        refine TL.run ft_cursitorref19_ok [4] rfl rfl ?_
        refine TL.ce rfl .u (.fn Try.call116 rfl) (f_r19_one_spec x14 _ _ a1 _ hx21) (fun _ hs => (SrcE.old hs hX19)) rfl ?_
        refine TL.run ft_cursitorref19_ok [6] rfl rfl ?_
        refine TL.nil (X.seq (T.seq (T.region rfl ?_)))
        refine TL.run ft_cursitorref19_ok [0, 1] rfl rfl ?_
        by_cases c22 : x20 = 0
        · replace h := ifT c22 h
          refine TL.nil (X.seq ?_)
          refine T.no rfl (bn_f (decide_eq_true c22)) ?_
          refine T.skip (X.blk (X.seq (T.region rfl ?_)))
          replace h := guard_some h
          obtain ⟨c23, h⟩ := h
          refine TL.run ft_cursitorref19_ok [0] rfl rfl ?_
          refine TL.q rfl .u (Ex.add rfl rfl c23) rfl ?_
          refine TL.run ft_cursitorref19_ok [2] rfl rfl ?_
          exact TL.nil (X.back (m' := m9) [0] (by omega) ⟨y4, k5 + 1, rfl, rfl, h⟩ (by rfl) (by rfl))
        · replace h := ifF c22 h
          refine TL.nil (X.seq ?_)
          refine T.yes rfl (bn_t (decide_eq_false c22)) ?_
          refine T.seq (T.region rfl ?_)
          refine TL.run ft_cursitorref19_ok [0, 1] rfl rfl ?_
          obtain rfl := Option.some.inj h
          replace h := hO8
          clear hO8
          try dsimp only at h
          obtain rfl := Option.some.inj h
          exact TL.nil (X.seq (T.ret (X.rb (X.rs (X.rs (X.rb (X.rs (X.done1 [0] Try.results40 (RV.tm rfl) ⟨rfl, rfl, rfl⟩ (by rfl) (.inl rfl)))))))))
      · replace h := ifF c13 h
        refine TL.nil (X.seq ?_)
        refine T.no rfl (decide_eq_false c13) ?_
        obtain rfl := Option.some.inj h
        replace h := hO8
        clear hO8
        try dsimp only at h
        refine T.exit (X.exs (X.exs (X.ex (X.seq (T.seq (T.region rfl ?_))))))
        refine TL.run ft_cursitorref19_ok [0] rfl rfl ?_
        obtain rfl := Option.some.inj h
        exact TL.nil (X.seq (T.ret (X.done1 [0] Try.results40 (RV.tm rfl) ⟨rfl, rfl, rfl⟩ (by rfl) (.inl rfl))))
def f_r19_Same_l1 (a0 : List R19Mark) (a1 : List R19Mark) : Nat → Bool → Nat → Option (Lp Bool (Bool × Nat))
  | 0, _, _ => none
  | m11 + 1, y6, k7 => if (k7 : Int) < (a0.length : Int) then (((a0[k7]?).bind fun x41 => (a1[k7]?).bind fun x47 => if x41.fProducer = x47.fProducer then (if x41.fEpoch = x47.fEpoch then (if x41.fCommit = true then (if x47.fCommit = true then (if x41.fCoordinator = x47.fCoordinator then ((f_r14_SameTopics x41.fTopics x47.fTopics).bind fun x58 => if x58 = true then some false else some true) else some true) else some true) else (if x47.fCommit = true then some true else (if x41.fCoordinator = x47.fCoordinator then ((f_r14_SameTopics x41.fTopics x47.fTopics).bind fun x63 => if x63 = true then some false else some true) else some true))) else some true) else some true).bind fun y39 => if y39 = true then some (Lp.ret false) else (if -9223372036854775808 ≤ ((k7 : Int) + 1) ∧ ((k7 : Int) + 1) ≤ 9223372036854775807 then (f_r19_Same_l1 a0 a1 m11 y6 (k7 + 1)) else none)) else (some (Lp.go (y6, k7)))
def f_r19_Same (a0 : List R19Mark) (a1 : List R19Mark) : Option (Bool) := if (a0.length : Int) = (a1.length : Int) then ((f_r19_Same_l1 a0 a1 (((a0.length : Int)).toNat + 1) false 0).bind fun e => match e with | .ret r => some r | .go (y68, k69) => some true) else some false
set_option maxRecDepth 100000 in
set_option maxHeartbeats 4000000 in
theorem f_r19_Same_spec (a0 : List R19Mark) (A1 : Option Addr) (c2 : Nat) (a1 : List R19Mark) (A3 : Option Addr) (c4 : Nat) (r : Bool) (h : f_r19_Same a0 a1 = some r) : SpecX Try.prog 35 #[.slice A1 a0.length c2, .slice A3 a1.length c4] (RX.and (RX.of (sliceRd 5 R19Mark_rd) [.slice A1 a0.length c2] a0) (RX.of (sliceRd 5 R19Mark_rd) [.slice A3 a1.length c4] a1)) (EmpR) (fun v A' N => v = .bool r ∧ A' = EmpR ∧ N = []) := by
  refine enterA Try.func35 rfl Try.ntmps35 rfl ?_
  intro F w hX
  unfold f_r19_Same at h
  refine T.seq (T.region rfl ?_)
  refine TL.run ft_cursitorref19_ok [0] rfl rfl ?_
  refine TL.nil (X.seq (T.seq (T.seq (T.region rfl ?_))))
  refine TL.run ft_cursitorref19_ok [0] rfl rfl ?_
  refine TL.q rfl .u (Ex.lenS rfl Try.runUnderlying57) rfl ?_
  refine TL.run ft_cursitorref19_ok [2] rfl rfl ?_
  refine TL.q rfl .u (Ex.lenS rfl Try.runUnderlying57) rfl ?_
  refine TL.run ft_cursitorref19_ok [4] rfl rfl ?_
  by_cases c5 : (a0.length : Int) = (a1.length : Int)
  · replace h := ifT c5 h
    refine TL.nil (X.seq ?_)
    refine T.no rfl (bn_f (decide_eq_true c5)) ?_
    refine T.skip (X.seq (T.seq (T.seq (T.region rfl ?_))))
    refine TL.run ft_cursitorref19_ok [0] rfl rfl ?_
    refine TL.nil (X.seq (T.block ?_))
    obtain ⟨E8, hE9, hO10⟩ := Option.bind_eq_some_iff.1 h
    refine T.lp (fun m e Rs => ∃ (y6 : Bool) (k7 : Nat), e = [(0, .slice A1 a0.length c2), (1, .slice A3 a1.length c4), (4, .bool y6), (5, .int .i64 (k7 : Int))] ∧ Rs = [EmpR] ∧ f_r19_Same_l1 a0 a1 m y6 k7 = some E8) (((a0.length : Int)).toNat + 1) [0] ⟨false, 0, rfl, rfl, by exact hE9⟩ (by rfl) (by rfl) ?_
    rintro m11 _ _ ⟨y6, k7, rfl, rfl, hl13⟩
    clear hE9 h
    cases m11 with
    | zero =>
      rw [f_r19_Same_l1] at hl13
      cases hl13
    | succ m11 =>
      have h := hl13
      clear hl13
      rw [f_r19_Same_l1] at h
      refine T.seq (T.seq (T.region rfl ?_))
      refine TL.run ft_cursitorref19_ok [0, 1] rfl rfl ?_
      refine TL.q rfl .u (Ex.lenS rfl Try.runUnderlying57) rfl ?_
      refine TL.run ft_cursitorref19_ok [3] rfl rfl ?_
      by_cases c15 : (k7 : Int) < (a0.length : Int)
      · replace h := ifT c15 h
        refine TL.nil (X.seq ?_)
        refine T.yes rfl (decide_eq_true c15) ?_
        refine T.skip (X.seq (T.seq (T.block (T.seq ?_))))
        obtain ⟨y39, h, hk40⟩ := Option.bind_eq_some_iff.1 h
        refine T.jq (fun e Rs => e = [(0, .slice A1 a0.length c2), (1, .slice A3 a1.length c4), (4, .bool y6), (5, .int .i64 (k7 : Int)), (80, .bool y39)] ∧ Rs = [EmpR]) ?_ ?_
        · clear hk40
          refine T.draw (.q 0 (.q 1 (.q 2 (.q 3 (.q 4 (.q 5 (.q 6 (.q 7 (.q 8 (.q 9 (.q 10 (.q 11 (.q 12 (.q 13 (.q 14 (.q 15 (.q 16 (.q 17 (.q 18 (.q 19 (.q 20 (.q 21 (.q 22 (.q 23 (.q 24 (.q 25 (.q 26 (.q 27 (.q 28 (.q 29 (.q 30 (.q 31 (.q 32 (.q 33 (.q 34 (.q 35 (.q 36 (.q 37 (.q 38 (.q 39 (.q 40 (.q 41 (.q 42 (.q 43 (.q 44 (.q 45 (.q 46 (.q 47 (.q 48 (.q 49 (.q 50 (.q 51 (.q 52 (.q 53 (.q 54 (.q 55 (.q 56 (.q 57 (.q 58 (.q 59 (.q 60 (.e 61 (.q 62 (.q 63 .nil)))))))))))))))))))))))))))))))))))))))))))))))))))))))))))))))) [0] rfl mix_cursitorref19 (NoP.seq (NoP.seq (NoP.blk (NoP.seq (NoP.seq (NoP.blk (NoP.seq np_post))))))) (by kernel_rfl) ?_
          obtain ⟨x41, hx42, h⟩ := Option.bind_eq_some_iff.1 h
          obtain ⟨gz43, oz43, rfl, z43cs, z43cl, z43cc, z43nf, z43r⟩ := RX.elem (by decide) (RX.reads_left hX) hx42
          obtain ⟨z43S, z43r, z43rr⟩ := z43r
          obtain ⟨A44, c45, rfl, z43s0⟩ := z43r
          have hX46 : (RX.of (sliceRd 2 Top_rd) [.slice A44 x41.fTopics.length c45] x41.fTopics).reads w F := ⟨z43S, z43s0, z43rr⟩
          refine TD.run ft_cursitorref19_ok [0, 1] rfl rfl ?_
          refine TD.q rfl .u (Ex.ixS (k := k7) rfl rfl rfl Try.runUnderlying57 Try.sizeOf167 (List.getElem?_eq_some_iff.1 hx42).1) rfl ?_
          refine TD.run ft_cursitorref19_ok [3] rfl rfl ?_
          refine TD.q rfl .u (Ex.o1 0 rfl Try.isAgg3 z43nf z43cc rfl rfl) rfl ?_
          obtain ⟨x47, hx48, h⟩ := Option.bind_eq_some_iff.1 h
          obtain ⟨gz49, oz49, rfl, z49cs, z49cl, z49cc, z49nf, z49r⟩ := RX.elem (by decide) (RX.reads_right hX) hx48
          obtain ⟨z49S, z49r, z49rr⟩ := z49r
          obtain ⟨A50, c51, rfl, z49s0⟩ := z49r
          have hX52 : (RX.of (sliceRd 2 Top_rd) [.slice A50 x47.fTopics.length c51] x47.fTopics).reads w F := ⟨z49S, z49s0, z49rr⟩
          refine TD.run ft_cursitorref19_ok [5, 6] rfl rfl ?_
          refine TD.q rfl .u (Ex.ixS (k := k7) rfl rfl rfl Try.runUnderlying57 Try.sizeOf167 (List.getElem?_eq_some_iff.1 hx48).1) rfl ?_
          refine TD.run ft_cursitorref19_ok [8] rfl rfl ?_
          refine TD.q rfl .u (Ex.o1 0 rfl Try.isAgg3 z49nf z49cc rfl rfl) rfl ?_
          by_cases c53 : x41.fProducer = x47.fProducer
          · replace h := ifT c53 h
            refine TD.run ft_cursitorref19_ok [10, 11] rfl rfl ?_
            refine TD.q rfl (.g rfl rfl (bn_f (decide_eq_true c53))) (Ex.ft ft_cursitorref19_ok rfl) rfl ?_
            refine TD.q rfl (.g rfl rfl (bn_f (decide_eq_true c53))) (Ex.ft ft_cursitorref19_ok rfl) rfl ?_
            refine TD.q rfl (.g rfl rfl (bn_f (decide_eq_true c53))) (Ex.ixS (k := k7) rfl rfl rfl Try.runUnderlying57 Try.sizeOf167 (List.getElem?_eq_some_iff.1 hx42).1) rfl ?_
            refine TD.q rfl (.g rfl rfl (bn_f (decide_eq_true c53))) (Ex.ft ft_cursitorref19_ok rfl) rfl ?_
            refine TD.q rfl (.g rfl rfl (bn_f (decide_eq_true c53))) (Ex.o1 1 rfl Try.isAgg3 z43nf z43cc rfl rfl) rfl ?_
            refine TD.q rfl (.g rfl rfl (bn_f (decide_eq_true c53))) (Ex.ft ft_cursitorref19_ok rfl) rfl ?_
            refine TD.q rfl (.g rfl rfl (bn_f (decide_eq_true c53))) (Ex.ft ft_cursitorref19_ok rfl) rfl ?_
            refine TD.q rfl (.g rfl rfl (bn_f (decide_eq_true c53))) (Ex.ixS (k := k7) rfl rfl rfl Try.runUnderlying57 Try.sizeOf167 (List.getElem?_eq_some_iff.1 hx48).1) rfl ?_
            refine TD.q rfl (.g rfl rfl (bn_f (decide_eq_true c53))) (Ex.ft ft_cursitorref19_ok rfl) rfl ?_
            refine TD.q rfl (.g rfl rfl (bn_f (decide_eq_true c53))) (Ex.o1 1 rfl Try.isAgg3 z49nf z49cc rfl rfl) rfl ?_
            refine TD.q rfl (.g rfl rfl (bn_f (decide_eq_true c53))) (Ex.ft ft_cursitorref19_ok rfl) rfl ?_
            refine TD.q rfl .u (Ex.pn rfl (bn_f (decide_eq_true c53)) rfl) rfl ?_
            by_cases c54 : x41.fEpoch = x47.fEpoch
            · replace h := ifT c54 h
              refine TD.run ft_cursitorref19_ok [24] rfl rfl ?_
              refine TD.q rfl (.g rfl rfl (bn_f (decide_eq_true c54))) (Ex.ft ft_cursitorref19_ok rfl) rfl ?_
              refine TD.q rfl (.g rfl rfl (bn_f (decide_eq_true c54))) (Ex.ft ft_cursitorref19_ok rfl) rfl ?_
              refine TD.q rfl (.g rfl rfl (bn_f (decide_eq_true c54))) (Ex.ixS (k := k7) rfl rfl rfl Try.runUnderlying57 Try.sizeOf167 (List.getElem?_eq_some_iff.1 hx42).1) rfl ?_
              refine TD.q rfl (.g rfl rfl (bn_f (decide_eq_true c54))) (Ex.ft ft_cursitorref19_ok rfl) rfl ?_
              refine TD.q rfl (.g rfl rfl (bn_f (decide_eq_true c54))) (Ex.o1 2 rfl Try.isAgg4 z43nf z43cc rfl rfl) rfl ?_
              refine TD.q rfl (.g rfl rfl (bn_f (decide_eq_true c54))) (Ex.ft ft_cursitorref19_ok rfl) rfl ?_
              refine TD.q rfl (.g rfl rfl (bn_f (decide_eq_true c54))) (Ex.ft ft_cursitorref19_ok rfl) rfl ?_
              refine TD.q rfl (.g rfl rfl (bn_f (decide_eq_true c54))) (Ex.ixS (k := k7) rfl rfl rfl Try.runUnderlying57 Try.sizeOf167 (List.getElem?_eq_some_iff.1 hx48).1) rfl ?_
              refine TD.q rfl (.g rfl rfl (bn_f (decide_eq_true c54))) (Ex.ft ft_cursitorref19_ok rfl) rfl ?_
              refine TD.q rfl (.g rfl rfl (bn_f (decide_eq_true c54))) (Ex.o1 2 rfl Try.isAgg4 z49nf z49cc rfl rfl) rfl ?_
              by_cases c55 : x41.fCommit = true
              · replace h := ifT c55 h
                by_cases c56 : x47.fCommit = true
                · replace h := ifT c56 h
                  refine TD.q rfl (.g rfl rfl (bn_f (decide_eq_true c54))) (Ex.bNe rfl c55 rfl c56 Try.runUnderlying4) rfl ?_
                  refine TD.q rfl .u (Ex.pn rfl (bn_f (decide_eq_true c54)) rfl) rfl ?_
                  refine TD.run ft_cursitorref19_ok [37] rfl rfl ?_
                  refine TD.q rfl (.g rfl rfl rfl) (Ex.ft ft_cursitorref19_ok rfl) rfl ?_
                  refine TD.q rfl (.g rfl rfl rfl) (Ex.ft ft_cursitorref19_ok rfl) rfl ?_
                  refine TD.q rfl (.g rfl rfl rfl) (Ex.ixS (k := k7) rfl rfl rfl Try.runUnderlying57 Try.sizeOf167 (List.getElem?_eq_some_iff.1 hx42).1) rfl ?_
                  refine TD.q rfl (.g rfl rfl rfl) (Ex.ft ft_cursitorref19_ok rfl) rfl ?_
                  refine TD.q rfl (.g rfl rfl rfl) (Ex.o1 4 rfl Try.isAgg3 z43nf z43cc rfl rfl) rfl ?_
                  refine TD.q rfl (.g rfl rfl rfl) (Ex.ft ft_cursitorref19_ok rfl) rfl ?_
                  refine TD.q rfl (.g rfl rfl rfl) (Ex.ft ft_cursitorref19_ok rfl) rfl ?_
                  refine TD.q rfl (.g rfl rfl rfl) (Ex.ixS (k := k7) rfl rfl rfl Try.runUnderlying57 Try.sizeOf167 (List.getElem?_eq_some_iff.1 hx48).1) rfl ?_
                  refine TD.q rfl (.g rfl rfl rfl) (Ex.ft ft_cursitorref19_ok rfl) rfl ?_
                  refine TD.q rfl (.g rfl rfl rfl) (Ex.o1 4 rfl Try.isAgg3 z49nf z49cc rfl rfl) rfl ?_
                  refine TD.q rfl (.g rfl rfl rfl) (Ex.ft ft_cursitorref19_ok rfl) rfl ?_
                  refine TD.q rfl .u (Ex.pn rfl rfl rfl) rfl ?_
                  by_cases c57 : x41.fCoordinator = x47.fCoordinator
                  · replace h := ifT c57 h
                    refine TD.run ft_cursitorref19_ok [50] rfl rfl ?_
                    refine TD.q rfl (.g rfl rfl (bn_f (decide_eq_true c57))) (Ex.ft ft_cursitorref19_ok rfl) rfl ?_
                    refine TD.q rfl (.g rfl rfl (bn_f (decide_eq_true c57))) (Ex.ft ft_cursitorref19_ok rfl) rfl ?_
                    refine TD.q rfl (.g rfl rfl (bn_f (decide_eq_true c57))) (Ex.ixS (k := k7) rfl rfl rfl Try.runUnderlying57 Try.sizeOf167 (List.getElem?_eq_some_iff.1 hx42).1) rfl ?_
                    refine TD.q rfl (.g rfl rfl (bn_f (decide_eq_true c57))) (Ex.ft ft_cursitorref19_ok rfl) rfl ?_
                    refine TD.q rfl (.g rfl rfl (bn_f (decide_eq_true c57))) (Ex.o1 3 rfl Try.isAgg68 z43nf z43cc rfl rfl) rfl ?_
                    refine TD.q rfl (.g rfl rfl (bn_f (decide_eq_true c57))) (Ex.ft ft_cursitorref19_ok rfl) rfl ?_
                    refine TD.q rfl (.g rfl rfl (bn_f (decide_eq_true c57))) (Ex.ft ft_cursitorref19_ok rfl) rfl ?_
                    refine TD.q rfl (.g rfl rfl (bn_f (decide_eq_true c57))) (Ex.ixS (k := k7) rfl rfl rfl Try.runUnderlying57 Try.sizeOf167 (List.getElem?_eq_some_iff.1 hx48).1) rfl ?_
                    refine TD.q rfl (.g rfl rfl (bn_f (decide_eq_true c57))) (Ex.ft ft_cursitorref19_ok rfl) rfl ?_
                    refine TD.q rfl (.g rfl rfl (bn_f (decide_eq_true c57))) (Ex.o1 3 rfl Try.isAgg68 z49nf z49cc rfl rfl) rfl ?_
                    obtain ⟨x58, hx59, h⟩ := Option.bind_eq_some_iff.1 h
                    refine TD.ce rfl (.g rfl rfl (bn_f (decide_eq_true c57))) (.fn Try.call110 rfl) (f_r14_SameTopics_spec x41.fTopics _ _ x47.fTopics _ _ _ hx59) (fun _ hs => (RX.reads_and (SrcE.old hs hX46) (SrcE.old hs hX52))) rfl [0] (rfl) ?_
                    refine TD.q rfl (.g rfl rfl (bn_f (decide_eq_true c57))) (Ex.ft ft_cursitorref19_ok rfl) rfl ?_
                    refine TD.q rfl .u (Ex.pn rfl (bn_f (decide_eq_true c57)) rfl) rfl ?_
                    by_cases c60 : x58 = true
                    · replace h := ifT c60 h
                      cases h
                      exact TD.nil (X.as (d := 80) (v' := .bool false) rfl (congrArg Value.bool (bn_f c60)) (X.jq [0] ⟨rfl, rfl⟩ (by rfl) (by rfl)))
                    · replace h := ifF c60 h
                      replace c60 := eq_false_of_ne_true c60
                      cases h
                      exact TD.nil (X.as (d := 80) (v' := .bool true) rfl (congrArg Value.bool (bn_t c60)) (X.jq [0] ⟨rfl, rfl⟩ (by rfl) (by rfl)))
                  · replace h := ifF c57 h
                    refine TD.run ft_cursitorref19_ok [50] rfl rfl ?_
                    refine TD.no rfl (.gn rfl rfl (bn_t (decide_eq_false c57))) rfl ?_
                    refine TD.no rfl (.gn rfl rfl (bn_t (decide_eq_false c57))) rfl ?_
                    refine TD.no rfl (.gn rfl rfl (bn_t (decide_eq_false c57))) rfl ?_
                    refine TD.no rfl (.gn rfl rfl (bn_t (decide_eq_false c57))) rfl ?_
                    refine TD.no rfl (.gn rfl rfl (bn_t (decide_eq_false c57))) rfl ?_
                    refine TD.no rfl (.gn rfl rfl (bn_t (decide_eq_false c57))) rfl ?_
                    refine TD.no rfl (.gn rfl rfl (bn_t (decide_eq_false c57))) rfl ?_
                    refine TD.no rfl (.gn rfl rfl (bn_t (decide_eq_false c57))) rfl ?_
                    refine TD.no rfl (.gn rfl rfl (bn_t (decide_eq_false c57))) rfl ?_
                    refine TD.no rfl (.gn rfl rfl (bn_t (decide_eq_false c57))) rfl ?_
                    refine TD.noe rfl (.gn rfl rfl (bn_t (decide_eq_false c57))) rfl [0] rfl ?_
                    refine TD.no rfl (.gn rfl rfl (bn_t (decide_eq_false c57))) rfl ?_
                    refine TD.q rfl .u (Ex.py rfl (bn_t (decide_eq_false c57)) rfl) rfl ?_
                    cases h
                    exact TD.nil (X.jq [0] ⟨rfl, rfl⟩ (by rfl) (by rfl))
                · replace h := ifF c56 h
                  replace c56 := eq_false_of_ne_true c56
                  refine TD.q rfl (.g rfl rfl (bn_f (decide_eq_true c54))) (Ex.bNe rfl c55 rfl c56 Try.runUnderlying4) rfl ?_
                  refine TD.q rfl .u (Ex.pn rfl (bn_f (decide_eq_true c54)) rfl) rfl ?_
                  refine TD.run ft_cursitorref19_ok [37] rfl rfl ?_
                  refine TD.no rfl (.gn rfl rfl rfl) rfl ?_
                  refine TD.no rfl (.gn rfl rfl rfl) rfl ?_
                  refine TD.no rfl (.gn rfl rfl rfl) rfl ?_
                  refine TD.no rfl (.gn rfl rfl rfl) rfl ?_
                  refine TD.no rfl (.gn rfl rfl rfl) rfl ?_
                  refine TD.no rfl (.gn rfl rfl rfl) rfl ?_
                  refine TD.no rfl (.gn rfl rfl rfl) rfl ?_
                  refine TD.no rfl (.gn rfl rfl rfl) rfl ?_
                  refine TD.no rfl (.gn rfl rfl rfl) rfl ?_
                  refine TD.no rfl (.gn rfl rfl rfl) rfl ?_
                  refine TD.no rfl (.gn rfl rfl rfl) rfl ?_
                  refine TD.q rfl .u (Ex.py rfl rfl rfl) rfl ?_
                  refine TD.run ft_cursitorref19_ok [50] rfl rfl ?_
                  refine TD.no rfl (.gn rfl rfl rfl) rfl ?_
                  refine TD.no rfl (.gn rfl rfl rfl) rfl ?_
                  refine TD.no rfl (.gn rfl rfl rfl) rfl ?_
                  refine TD.no rfl (.gn rfl rfl rfl) rfl ?_
                  refine TD.no rfl (.gn rfl rfl rfl) rfl ?_
                  refine TD.no rfl (.gn rfl rfl rfl) rfl ?_
                  refine TD.no rfl (.gn rfl rfl rfl) rfl ?_
                  refine TD.no rfl (.gn rfl rfl rfl) rfl ?_
                  refine TD.no rfl (.gn rfl rfl rfl) rfl ?_
                  refine TD.no rfl (.gn rfl rfl rfl) rfl ?_
                  refine TD.noe rfl (.gn rfl rfl rfl) rfl [0] rfl ?_
                  refine TD.no rfl (.gn rfl rfl rfl) rfl ?_
                  refine TD.q rfl .u (Ex.py rfl rfl rfl) rfl ?_
                  cases h
                  exact TD.nil (X.jq [0] ⟨rfl, rfl⟩ (by rfl) (by rfl))
              · replace h := ifF c55 h
                replace c55 := eq_false_of_ne_true c55
                by_cases c61 : x47.fCommit = true
                · replace h := ifT c61 h
                  refine TD.q rfl (.g rfl rfl (bn_f (decide_eq_true c54))) (Ex.bNe rfl c55 rfl c61 Try.runUnderlying4) rfl ?_
                  refine TD.q rfl .u (Ex.pn rfl (bn_f (decide_eq_true c54)) rfl) rfl ?_
                  refine TD.run ft_cursitorref19_ok [37] rfl rfl ?_
                  refine TD.no rfl (.gn rfl rfl rfl) rfl ?_
                  refine TD.no rfl (.gn rfl rfl rfl) rfl ?_
                  refine TD.no rfl (.gn rfl rfl rfl) rfl ?_
                  refine TD.no rfl (.gn rfl rfl rfl) rfl ?_
                  refine TD.no rfl (.gn rfl rfl rfl) rfl ?_
                  refine TD.no rfl (.gn rfl rfl rfl) rfl ?_
                  refine TD.no rfl (.gn rfl rfl rfl) rfl ?_
                  refine TD.no rfl (.gn rfl rfl rfl) rfl ?_
                  refine TD.no rfl (.gn rfl rfl rfl) rfl ?_
                  refine TD.no rfl (.gn rfl rfl rfl) rfl ?_
                  refine TD.no rfl (.gn rfl rfl rfl) rfl ?_
                  refine TD.q rfl .u (Ex.py rfl rfl rfl) rfl ?_
                  refine TD.run ft_cursitorref19_ok [50] rfl rfl ?_
                  refine TD.no rfl (.gn rfl rfl rfl) rfl ?_
                  refine TD.no rfl (.gn rfl rfl rfl) rfl ?_
                  refine TD.no rfl (.gn rfl rfl rfl) rfl ?_
                  refine TD.no rfl (.gn rfl rfl rfl) rfl ?_
                  refine TD.no rfl (.gn rfl rfl rfl) rfl ?_
                  refine TD.no rfl (.gn rfl rfl rfl) rfl ?_
                  refine TD.no rfl (.gn rfl rfl rfl) rfl ?_
                  refine TD.no rfl (.gn rfl rfl rfl) rfl ?_
                  refine TD.no rfl (.gn rfl rfl rfl) rfl ?_
                  refine TD.no rfl (.gn rfl rfl rfl) rfl ?_
                  refine TD.noe rfl (.gn rfl rfl rfl) rfl [0] rfl ?_
                  refine TD.no rfl (.gn rfl rfl rfl) rfl ?_
                  refine TD.q rfl .u (Ex.py rfl rfl rfl) rfl ?_
                  cases h
                  exact TD.nil (X.jq [0] ⟨rfl, rfl⟩ (by rfl) (by rfl))
                · replace h := ifF c61 h
                  replace c61 := eq_false_of_ne_true c61
                  refine TD.q rfl (.g rfl rfl (bn_f (decide_eq_true c54))) (Ex.bNe rfl c55 rfl c61 Try.runUnderlying4) rfl ?_
                  refine TD.q rfl .u (Ex.pn rfl (bn_f (decide_eq_true c54)) rfl) rfl ?_
                  refine TD.run ft_cursitorref19_ok [37] rfl rfl ?_
                  refine TD.q rfl (.g rfl rfl rfl) (Ex.ft ft_cursitorref19_ok rfl) rfl ?_
                  refine TD.q rfl (.g rfl rfl rfl) (Ex.ft ft_cursitorref19_ok rfl) rfl ?_
                  refine TD.q rfl (.g rfl rfl rfl) (Ex.ixS (k := k7) rfl rfl rfl Try.runUnderlying57 Try.sizeOf167 (List.getElem?_eq_some_iff.1 hx42).1) rfl ?_
                  refine TD.q rfl (.g rfl rfl rfl) (Ex.ft ft_cursitorref19_ok rfl) rfl ?_
                  refine TD.q rfl (.g rfl rfl rfl) (Ex.o1 4 rfl Try.isAgg3 z43nf z43cc rfl rfl) rfl ?_
                  refine TD.q rfl (.g rfl rfl rfl) (Ex.ft ft_cursitorref19_ok rfl) rfl ?_
                  refine TD.q rfl (.g rfl rfl rfl) (Ex.ft ft_cursitorref19_ok rfl) rfl ?_
                  refine TD.q rfl (.g rfl rfl rfl) (Ex.ixS (k := k7) rfl rfl rfl Try.runUnderlying57 Try.sizeOf167 (List.getElem?_eq_some_iff.1 hx48).1) rfl ?_
                  refine TD.q rfl (.g rfl rfl rfl) (Ex.ft ft_cursitorref19_ok rfl) rfl ?_
                  refine TD.q rfl (.g rfl rfl rfl) (Ex.o1 4 rfl Try.isAgg3 z49nf z49cc rfl rfl) rfl ?_
                  refine TD.q rfl (.g rfl rfl rfl) (Ex.ft ft_cursitorref19_ok rfl) rfl ?_
                  refine TD.q rfl .u (Ex.pn rfl rfl rfl) rfl ?_
                  by_cases c62 : x41.fCoordinator = x47.fCoordinator
                  · replace h := ifT c62 h
                    refine TD.run ft_cursitorref19_ok [50] rfl rfl ?_
                    refine TD.q rfl (.g rfl rfl (bn_f (decide_eq_true c62))) (Ex.ft ft_cursitorref19_ok rfl) rfl ?_
                    refine TD.q rfl (.g rfl rfl (bn_f (decide_eq_true c62))) (Ex.ft ft_cursitorref19_ok rfl) rfl ?_
                    refine TD.q rfl (.g rfl rfl (bn_f (decide_eq_true c62))) (Ex.ixS (k := k7) rfl rfl rfl Try.runUnderlying57 Try.sizeOf167 (List.getElem?_eq_some_iff.1 hx42).1) rfl ?_
                    refine TD.q rfl (.g rfl rfl (bn_f (decide_eq_true c62))) (Ex.ft ft_cursitorref19_ok rfl) rfl ?_
                    refine TD.q rfl (.g rfl rfl (bn_f (decide_eq_true c62))) (Ex.o1 3 rfl Try.isAgg68 z43nf z43cc rfl rfl) rfl ?_
                    refine TD.q rfl (.g rfl rfl (bn_f (decide_eq_true c62))) (Ex.ft ft_cursitorref19_ok rfl) rfl ?_
                    refine TD.q rfl (.g rfl rfl (bn_f (decide_eq_true c62))) (Ex.ft ft_cursitorref19_ok rfl) rfl ?_
                    refine TD.q rfl (.g rfl rfl (bn_f (decide_eq_true c62))) (Ex.ixS (k := k7) rfl rfl rfl Try.runUnderlying57 Try.sizeOf167 (List.getElem?_eq_some_iff.1 hx48).1) rfl ?_
                    refine TD.q rfl (.g rfl rfl (bn_f (decide_eq_true c62))) (Ex.ft ft_cursitorref19_ok rfl) rfl ?_
                    refine TD.q rfl (.g rfl rfl (bn_f (decide_eq_true c62))) (Ex.o1 3 rfl Try.isAgg68 z49nf z49cc rfl rfl) rfl ?_
                    obtain ⟨x63, hx64, h⟩ := Option.bind_eq_some_iff.1 h
                    refine TD.ce rfl (.g rfl rfl (bn_f (decide_eq_true c62))) (.fn Try.call110 rfl) (f_r14_SameTopics_spec x41.fTopics _ _ x47.fTopics _ _ _ hx64) (fun _ hs => (RX.reads_and (SrcE.old hs hX46) (SrcE.old hs hX52))) rfl [0] (rfl) ?_
                    refine TD.q rfl (.g rfl rfl (bn_f (decide_eq_true c62))) (Ex.ft ft_cursitorref19_ok rfl) rfl ?_
                    refine TD.q rfl .u (Ex.pn rfl (bn_f (decide_eq_true c62)) rfl) rfl ?_
                    by_cases c65 : x63 = true
                    · replace h := ifT c65 h
                      cases h
                      exact TD.nil (X.as (d := 80) (v' := .bool false) rfl (congrArg Value.bool (bn_f c65)) (X.jq [0] ⟨rfl, rfl⟩ (by rfl) (by rfl)))
                    · replace h := ifF c65 h
                      replace c65 := eq_false_of_ne_true c65
                      cases h
                      exact TD.nil (X.as (d := 80) (v' := .bool true) rfl (congrArg Value.bool (bn_t c65)) (X.jq [0] ⟨rfl, rfl⟩ (by rfl) (by rfl)))
                  · replace h := ifF c62 h
                    refine TD.run ft_cursitorref19_ok [50] rfl rfl ?_
                    refine TD.no rfl (.gn rfl rfl (bn_t (decide_eq_false c62))) rfl ?_
                    refine TD.no rfl (.gn rfl rfl (bn_t (decide_eq_false c62))) rfl ?_
                    refine TD.no rfl (.gn rfl rfl (bn_t (decide_eq_false c62))) rfl ?_
                    refine TD.no rfl (.gn rfl rfl (bn_t (decide_eq_false c62))) rfl ?_
                    refine TD.no rfl (.gn rfl rfl (bn_t (decide_eq_false c62))) rfl ?_
                    refine TD.no rfl (.gn rfl rfl (bn_t (decide_eq_false c62))) rfl ?_
                    refine TD.no rfl (.gn rfl rfl (bn_t (decide_eq_false c62))) rfl ?_
                    refine TD.no rfl (.gn rfl rfl (bn_t (decide_eq_false c62))) rfl ?_
                    refine TD.no rfl (.gn rfl rfl (bn_t (decide_eq_false c62))) rfl ?_
                    refine TD.no rfl (.gn rfl rfl (bn_t (decide_eq_false c62))) rfl ?_
                    refine TD.noe rfl (.gn rfl rfl (bn_t (decide_eq_false c62))) rfl [0] rfl ?_
                    refine TD.no rfl (.gn rfl rfl (bn_t (decide_eq_false c62))) rfl ?_
                    refine TD.q rfl .u (Ex.py rfl (bn_t (decide_eq_false c62)) rfl) rfl ?_
                    cases h
                    exact TD.nil (X.jq [0] ⟨rfl, rfl⟩ (by rfl) (by rfl))
            · replace h := ifF c54 h
              refine TD.run ft_cursitorref19_ok [24] rfl rfl ?_
              refine TD.no rfl (.gn rfl rfl (bn_t (decide_eq_false c54))) rfl ?_
              refine TD.no rfl (.gn rfl rfl (bn_t (decide_eq_false c54))) rfl ?_
              refine TD.no rfl (.gn rfl rfl (bn_t (decide_eq_false c54))) rfl ?_
              refine TD.no rfl (.gn rfl rfl (bn_t (decide_eq_false c54))) rfl ?_
              refine TD.no rfl (.gn rfl rfl (bn_t (decide_eq_false c54))) rfl ?_
              refine TD.no rfl (.gn rfl rfl (bn_t (decide_eq_false c54))) rfl ?_
              refine TD.no rfl (.gn rfl rfl (bn_t (decide_eq_false c54))) rfl ?_
              refine TD.no rfl (.gn rfl rfl (bn_t (decide_eq_false c54))) rfl ?_
              refine TD.no rfl (.gn rfl rfl (bn_t (decide_eq_false c54))) rfl ?_
              refine TD.no rfl (.gn rfl rfl (bn_t (decide_eq_false c54))) rfl ?_
              refine TD.no rfl (.gn rfl rfl (bn_t (decide_eq_false c54))) rfl ?_
              refine TD.q rfl .u (Ex.py rfl (bn_t (decide_eq_false c54)) rfl) rfl ?_
              refine TD.run ft_cursitorref19_ok [37] rfl rfl ?_
              refine TD.no rfl (.gn rfl rfl rfl) rfl ?_
              refine TD.no rfl (.gn rfl rfl rfl) rfl ?_
              refine TD.no rfl (.gn rfl rfl rfl) rfl ?_
              refine TD.no rfl (.gn rfl rfl rfl) rfl ?_
              refine TD.no rfl (.gn rfl rfl rfl) rfl ?_
              refine TD.no rfl (.gn rfl rfl rfl) rfl ?_
              refine TD.no rfl (.gn rfl rfl rfl) rfl ?_
              refine TD.no rfl (.gn rfl rfl rfl) rfl ?_
              refine TD.no rfl (.gn rfl rfl rfl) rfl ?_
              refine TD.no rfl (.gn rfl rfl rfl) rfl ?_
              refine TD.no rfl (.gn rfl rfl rfl) rfl ?_
              refine TD.q rfl .u (Ex.py rfl rfl rfl) rfl ?_
              refine TD.run ft_cursitorref19_ok [50] rfl rfl ?_
              refine TD.no rfl (.gn rfl rfl rfl) rfl ?_
              refine TD.no rfl (.gn rfl rfl rfl) rfl ?_
              refine TD.no rfl (.gn rfl rfl rfl) rfl ?_
              refine TD.no rfl (.gn rfl rfl rfl) rfl ?_
              refine TD.no rfl (.gn rfl rfl rfl) rfl ?_
              refine TD.no rfl (.gn rfl rfl rfl) rfl ?_
              refine TD.no rfl (.gn rfl rfl rfl) rfl ?_
              refine TD.no rfl (.gn rfl rfl rfl) rfl ?_
              refine TD.no rfl (.gn rfl rfl rfl) rfl ?_
              refine TD.no rfl (.gn rfl rfl rfl) rfl ?_
              refine TD.noe rfl (.gn rfl rfl rfl) rfl [0] rfl ?_
              refine TD.no rfl (.gn rfl rfl rfl) rfl ?_
              refine TD.q rfl .u (Ex.py rfl rfl rfl) rfl ?_
              cases h
              exact TD.nil (X.jq [0] ⟨rfl, rfl⟩ (by rfl) (by rfl))
          · replace h := ifF c53 h
            refine TD.run ft_cursitorref19_ok [10, 11] rfl rfl ?_
            refine TD.no rfl (.gn rfl rfl (bn_t (decide_eq_false c53))) rfl ?_
            refine TD.no rfl (.gn rfl rfl (bn_t (decide_eq_false c53))) rfl ?_
            refine TD.no rfl (.gn rfl rfl (bn_t (decide_eq_false c53))) rfl ?_
            refine TD.no rfl (.gn rfl rfl (bn_t (decide_eq_false c53))) rfl ?_
            refine TD.no rfl (.gn rfl rfl (bn_t (decide_eq_false c53))) rfl ?_
            refine TD.no rfl (.gn rfl rfl (bn_t (decide_eq_false c53))) rfl ?_
            refine TD.no rfl (.gn rfl rfl (bn_t (decide_eq_false c53))) rfl ?_
            refine TD.no rfl (.gn rfl rfl (bn_t (decide_eq_false c53))) rfl ?_
            refine TD.no rfl (.gn rfl rfl (bn_t (decide_eq_false c53))) rfl ?_
            refine TD.no rfl (.gn rfl rfl (bn_t (decide_eq_false c53))) rfl ?_
            refine TD.no rfl (.gn rfl rfl (bn_t (decide_eq_false c53))) rfl ?_
            refine TD.q rfl .u (Ex.py rfl (bn_t (decide_eq_false c53)) rfl) rfl ?_
            refine TD.run ft_cursitorref19_ok [24] rfl rfl ?_
            refine TD.no rfl (.gn rfl rfl rfl) rfl ?_
            refine TD.no rfl (.gn rfl rfl rfl) rfl ?_
            refine TD.no rfl (.gn rfl rfl rfl) rfl ?_
            refine TD.no rfl (.gn rfl rfl rfl) rfl ?_
            refine TD.no rfl (.gn rfl rfl rfl) rfl ?_
            refine TD.no rfl (.gn rfl rfl rfl) rfl ?_
            refine TD.no rfl (.gn rfl rfl rfl) rfl ?_
            refine TD.no rfl (.gn rfl rfl rfl) rfl ?_
            refine TD.no rfl (.gn rfl rfl rfl) rfl ?_
            refine TD.no rfl (.gn rfl rfl rfl) rfl ?_
            refine TD.no rfl (.gn rfl rfl rfl) rfl ?_
            refine TD.q rfl .u (Ex.py rfl rfl rfl) rfl ?_
            refine TD.run ft_cursitorref19_ok [37] rfl rfl ?_
            refine TD.no rfl (.gn rfl rfl rfl) rfl ?_
            refine TD.no rfl (.gn rfl rfl rfl) rfl ?_
            refine TD.no rfl (.gn rfl rfl rfl) rfl ?_
            refine TD.no rfl (.gn rfl rfl rfl) rfl ?_
            refine TD.no rfl (.gn rfl rfl rfl) rfl ?_
            refine TD.no rfl (.gn rfl rfl rfl) rfl ?_
            refine TD.no rfl (.gn rfl rfl rfl) rfl ?_
            refine TD.no rfl (.gn rfl rfl rfl) rfl ?_
            refine TD.no rfl (.gn rfl rfl rfl) rfl ?_
            refine TD.no rfl (.gn rfl rfl rfl) rfl ?_
            refine TD.no rfl (.gn rfl rfl rfl) rfl ?_
            refine TD.q rfl .u (Ex.py rfl rfl rfl) rfl ?_
            refine TD.run ft_cursitorref19_ok [50] rfl rfl ?_
            refine TD.no rfl (.gn rfl rfl rfl) rfl ?_
            refine TD.no rfl (.gn rfl rfl rfl) rfl ?_
            refine TD.no rfl (.gn rfl rfl rfl) rfl ?_
            refine TD.no rfl (.gn rfl rfl rfl) rfl ?_
            refine TD.no rfl (.gn rfl rfl rfl) rfl ?_
            refine TD.no rfl (.gn rfl rfl rfl) rfl ?_
            refine TD.no rfl (.gn rfl rfl rfl) rfl ?_
            refine TD.no rfl (.gn rfl rfl rfl) rfl ?_
            refine TD.no rfl (.gn rfl rfl rfl) rfl ?_
            refine TD.no rfl (.gn rfl rfl rfl) rfl ?_
            refine TD.noe rfl (.gn rfl rfl rfl) rfl [0] rfl ?_
            refine TD.no rfl (.gn rfl rfl rfl) rfl ?_
            refine TD.q rfl .u (Ex.py rfl rfl rfl) rfl ?_
            cases h
            exact TD.nil (X.jq [0] ⟨rfl, rfl⟩ (by rfl) (by rfl))
        · rintro _ _ ⟨rfl, rfl⟩
          clear h
          have h := hk40
          clear hk40
          try dsimp only at h
          by_cases c66 : y39 = true
          · replace h := ifT c66 h
            refine X.seq ?_
            refine T.yes rfl c66 ?_
            refine T.seq (T.region rfl ?_)
            refine TL.run ft_cursitorref19_ok [0] rfl rfl ?_
            obtain rfl := Option.some.inj h
            replace h := hO10
            clear hO10
            try dsimp only at h
            obtain rfl := Option.some.inj h
            exact TL.nil (X.seq (T.ret (X.rb (X.rs (X.rs (X.rb (X.rs (X.done1 [0] Try.results35 (RV.tm rfl) ⟨rfl, rfl, rfl⟩ (by rfl) (.inl rfl)))))))))
          · replace h := ifF c66 h
            replace c66 := eq_false_of_ne_true c66
            refine X.seq ?_
            refine T.no rfl c66 ?_
            refine T.skip (X.blk (X.seq (T.region rfl ?_)))
            replace h := guard_some h
            obtain ⟨c67, h⟩ := h
            refine TL.run ft_cursitorref19_ok [0] rfl rfl ?_
            refine TL.q rfl .u (Ex.add rfl rfl c67) rfl ?_
            refine TL.run ft_cursitorref19_ok [2] rfl rfl ?_
            exact TL.nil (X.back (m' := m11) [0] (by omega) ⟨y6, k7 + 1, rfl, rfl, h⟩ (by rfl) (by rfl))
      · replace h := ifF c15 h
        refine TL.nil (X.seq ?_)
        refine T.no rfl (decide_eq_false c15) ?_
        obtain rfl := Option.some.inj h
        replace h := hO10
        clear hO10
        try dsimp only at h
        refine T.exit (X.exs (X.exs (X.ex (X.seq (T.seq (T.region rfl ?_))))))
        refine TL.run ft_cursitorref19_ok [0] rfl rfl ?_
        obtain rfl := Option.some.inj h
        exact TL.nil (X.seq (T.ret (X.done1 [0] Try.results35 (RV.tm rfl) ⟨rfl, rfl, rfl⟩ (by rfl) (.inl rfl))))
  · replace h := ifF c5 h
    refine TL.nil (X.seq ?_)
    refine T.yes rfl (bn_t (decide_eq_false c5)) ?_
    refine T.seq (T.region rfl ?_)
    refine TL.run ft_cursitorref19_ok [0] rfl rfl ?_
    obtain rfl := Option.some.inj h
    exact TL.nil (X.seq (T.ret (X.rs (X.done1 [0] Try.results35 (RV.tm rfl) ⟨rfl, rfl, rfl⟩ (by rfl) (.inl rfl)))))
def f_r19_Write_l1 (a0 : List R19Mark) (a1 : Int) : Nat → List UInt8 → Nat → Option (List UInt8 × Nat)
  | 0, _, _ => none
  | m10 + 1, y5, k6 => if (k6 : Int) < (a0.length : Int) then ((a0[k6]?).bind fun x15 => (if x15.fCommit = true then some 1 else some 0).bind fun y22 => (gRBytes x15.fProducer 8).bind fun x25 => if y5.length + x25.length ≤ 9223372036854775807 then ((gRBytes x15.fEpoch 2).bind fun x28 => if (y5 ++ x25).length + x28.length ≤ 9223372036854775807 then ((gRBytes y22 1).bind fun x31 => if ((y5 ++ x25) ++ x28).length + x31.length ≤ 9223372036854775807 then ((f_r14_Topics x15.fTopics).bind fun x34 => if (((y5 ++ x25) ++ x28) ++ x31).length + x34.length ≤ 9223372036854775807 then ((if a1 = 1 then ((gRBytes x15.fCoordinator 4).bind fun x44 => if ((((y5 ++ x25) ++ x28) ++ x31) ++ x34).length + x44.length ≤ 9223372036854775807 then (some (((((y5 ++ x25) ++ x28) ++ x31) ++ x34) ++ x44)) else none) else (some ((((y5 ++ x25) ++ x28) ++ x31) ++ x34))).bind fun y41 => if -9223372036854775808 ≤ ((k6 : Int) + 1) ∧ ((k6 : Int) + 1) ≤ 9223372036854775807 then (f_r19_Write_l1 a0 a1 m10 y41 (k6 + 1)) else none) else none) else none) else none) else none) else some (y5, k6)
def f_r19_Write (a0 : List R19Mark) (a1 : Int) : Option (List UInt8) := (gRBytes (a0.length : Int) 4).bind fun x3 => (f_r19_Write_l1 a0 a1 (((a0.length : Int)).toNat + 1) x3 0).bind fun (y48, k49) => some y48
set_option maxRecDepth 100000 in
set_option maxHeartbeats 4000000 in
theorem f_r19_Write_spec (a0 : List R19Mark) (A1 : Option Addr) (c2 : Nat) (a1 : Int) (r : List UInt8) (h : f_r19_Write a0 a1 = some r) : SpecX Try.prog 37 #[.slice A1 a0.length c2, .int .i64 a1] (RX.of (sliceRd 5 R19Mark_rd) [.slice A1 a0.length c2] a0) (EmpR) (fun v A' N => v = .string (bsOf r) ∧ A' = EmpR ∧ N = []) := by
  refine enterA Try.func37 rfl Try.ntmps37 rfl ?_
  intro F w hX
  unfold f_r19_Write at h
  refine T.seq (T.region rfl ?_)
  refine TL.run ft_cursitorref19_ok [0] rfl rfl ?_
  refine TL.nil (X.seq (T.seq (T.region rfl ?_)))
  refine TL.run ft_cursitorref19_ok [0] rfl rfl ?_
  refine TL.q rfl .u (Ex.lenS rfl Try.runUnderlying57) rfl ?_
  obtain ⟨x3, hx4, h⟩ := Option.bind_eq_some_iff.1 h
  refine TL.ce rfl .u (.fn Try.call111 rfl) (gRBytes_spec (a0.length : Int) 4 _ hx4) (fun _ hs => (RX.reads_triv _ _)) rfl ?_
  refine TL.run ft_cursitorref19_ok [3] rfl rfl ?_
  refine TL.nil (X.seq (T.seq (T.seq (T.region rfl ?_))))
  refine TL.run ft_cursitorref19_ok [0] rfl rfl ?_
  refine TL.nil (X.seq (T.block ?_))
  obtain ⟨E7, hE8, hO9⟩ := Option.bind_eq_some_iff.1 h
  refine T.lp (fun m e Rs => ∃ (y5 : List UInt8) (k6 : Nat), e = [(0, .slice A1 a0.length c2), (1, .int .i64 a1), (4, .string ⟨#[]⟩), (5, .string (bsOf y5)), (6, .int .i64 (k6 : Int))] ∧ Rs = [EmpR] ∧ f_r19_Write_l1 a0 a1 m y5 k6 = some E7) (((a0.length : Int)).toNat + 1) [0] ⟨x3, 0, rfl, rfl, by exact hE8⟩ (by rfl) (by rfl) ?_
  rintro m10 _ _ ⟨y5, k6, rfl, rfl, hl12⟩
  clear hE8 h
  cases m10 with
  | zero =>
    rw [f_r19_Write_l1] at hl12
    cases hl12
  | succ m10 =>
    have h := hl12
    clear hl12
    rw [f_r19_Write_l1] at h
    refine T.seq (T.seq (T.region rfl ?_))
    refine TL.run ft_cursitorref19_ok [0, 1] rfl rfl ?_
    refine TL.q rfl .u (Ex.lenS rfl Try.runUnderlying57) rfl ?_
    refine TL.run ft_cursitorref19_ok [3] rfl rfl ?_
    by_cases c14 : (k6 : Int) < (a0.length : Int)
    · replace h := ifT c14 h
      refine TL.nil (X.seq ?_)
      refine T.yes rfl (decide_eq_true c14) ?_
      refine T.skip (X.seq (T.seq (T.block (T.seq (T.region rfl ?_)))))
      refine TL.run ft_cursitorref19_ok [0] rfl rfl ?_
      refine TL.nil (X.seq (T.seq (T.seq (T.region rfl ?_))))
      obtain ⟨x15, hx16, h⟩ := Option.bind_eq_some_iff.1 h
      obtain ⟨gz17, oz17, rfl, z17cs, z17cl, z17cc, z17nf, z17r⟩ := RX.elem (by decide) hX hx16
      obtain ⟨z17S, z17r, z17rr⟩ := z17r
      obtain ⟨A18, c19, rfl, z17s0⟩ := z17r
      have hX20 : (RX.of (sliceRd 2 Top_rd) [.slice A18 x15.fTopics.length c19] x15.fTopics).reads w F := ⟨z17S, z17s0, z17rr⟩
      refine TL.run ft_cursitorref19_ok [0, 1] rfl rfl ?_
      refine TL.q rfl .u (Ex.ixS (k := k6) rfl rfl rfl Try.runUnderlying57 Try.sizeOf167 (List.getElem?_eq_some_iff.1 hx16).1) rfl ?_
      refine TL.run ft_cursitorref19_ok [3] rfl rfl ?_
      refine TL.q rfl .u (Ex.o1 2 rfl Try.isAgg4 z17nf z17cc rfl rfl) rfl ?_
      refine TL.nil (X.seq ?_)
      obtain ⟨y22, h, hk23⟩ := Option.bind_eq_some_iff.1 h
      refine T.jq (fun e Rs => e = [(0, .slice (some ⟨gz17, oz17, none⟩) a0.length c2), (1, .int .i64 a1), (4, .string ⟨#[]⟩), (5, .string (bsOf y5)), (6, .int .i64 (k6 : Int)), (7, .int .i64 y22)] ∧ Rs = [EmpR]) ?_ ?_
      · clear hk23
        by_cases c24 : x15.fCommit = true
        · replace h := ifT c24 h
          refine T.yes rfl c24 ?_
          refine T.region rfl ?_
          refine TL.run ft_cursitorref19_ok [0] rfl rfl ?_
          cases h
          exact TL.nil (X.jq [0] ⟨rfl, rfl⟩ (by rfl) (by rfl))
        · replace h := ifF c24 h
          replace c24 := eq_false_of_ne_true c24
          refine T.no rfl c24 ?_
          cases h
          exact T.skip (X.jq [0] ⟨rfl, rfl⟩ (by rfl) (by rfl))
      · rintro _ _ ⟨rfl, rfl⟩
        clear h
        have h := hk23
        clear hk23
        try dsimp only at h
        refine X.seq (T.seq (T.draw (.q 0 (.q 1 (.q 2 (.q 3 (.q 4 (.q 5 (.q 8 (.q 9 (.q 10 (.q 11 (.q 12 (.q 15 (.q 18 (.q 19 (.q 20 (.q 21 (.q 22 (.e 6 (.q 7 (.e 13 (.q 14 (.e 16 (.q 17 (.e 23 (.q 24 (.q 25 .nil)))))))))))))))))))))))))) [0] rfl mix_cursitorref19 (NoP.seq (NoP.blk (NoP.seq (NoP.seq (NoP.blk (NoP.seq np_post)))))) (by kernel_rfl) ?_))
        refine TD.run ft_cursitorref19_ok [0, 1, 2] rfl rfl ?_
        refine TD.q rfl .u (Ex.ixS (k := k6) rfl rfl rfl Try.runUnderlying57 Try.sizeOf167 (List.getElem?_eq_some_iff.1 hx16).1) rfl ?_
        refine TD.run ft_cursitorref19_ok [4] rfl rfl ?_
        refine TD.q rfl .u (Ex.o1 0 rfl Try.isAgg3 z17nf z17cc rfl rfl) rfl ?_
        refine TD.run ft_cursitorref19_ok [8, 9] rfl rfl ?_
        refine TD.q rfl .u (Ex.ixS (k := k6) rfl rfl rfl Try.runUnderlying57 Try.sizeOf167 (List.getElem?_eq_some_iff.1 hx16).1) rfl ?_
        refine TD.run ft_cursitorref19_ok [11] rfl rfl ?_
        refine TD.q rfl .u (Ex.o1 1 rfl Try.isAgg3 z17nf z17cc rfl rfl) rfl ?_
        refine TD.run ft_cursitorref19_ok [15, 18, 19] rfl rfl ?_
        refine TD.q rfl .u (Ex.ixS (k := k6) rfl rfl rfl Try.runUnderlying57 Try.sizeOf167 (List.getElem?_eq_some_iff.1 hx16).1) rfl ?_
        refine TD.run ft_cursitorref19_ok [21] rfl rfl ?_
        refine TD.q rfl .u (Ex.o1 3 rfl Try.isAgg68 z17nf z17cc rfl rfl) rfl ?_
        obtain ⟨x25, hx26, h⟩ := Option.bind_eq_some_iff.1 h
        refine TD.ce rfl .u (.fn Try.call111 rfl) (gRBytes_spec x15.fProducer 8 _ hx26) (fun _ hs => (RX.reads_triv _ _)) rfl [0] (rfl) ?_
        replace h := guard_some h
        obtain ⟨c27, h⟩ := h
        refine TD.q rfl .u (Ex.sAdd rfl rfl c27) rfl ?_
        obtain ⟨x28, hx29, h⟩ := Option.bind_eq_some_iff.1 h
        refine TD.ce rfl .u (.fn Try.call111 rfl) (gRBytes_spec x15.fEpoch 2 _ hx29) (fun _ hs => (RX.reads_triv _ _)) rfl [0] (rfl) ?_
        replace h := guard_some h
        obtain ⟨c30, h⟩ := h
        refine TD.q rfl .u (Ex.sAdd rfl rfl c30) rfl ?_
        obtain ⟨x31, hx32, h⟩ := Option.bind_eq_some_iff.1 h
        refine TD.ce rfl .u (.fn Try.call111 rfl) (gRBytes_spec y22 1 _ hx32) (fun _ hs => (RX.reads_triv _ _)) rfl [0] (rfl) ?_
        replace h := guard_some h
        obtain ⟨c33, h⟩ := h
        refine TD.q rfl .u (Ex.sAdd rfl rfl c33) rfl ?_
        obtain ⟨x34, hx35, h⟩ := Option.bind_eq_some_iff.1 h
        refine TD.ce rfl .u (.fn Try.call112 rfl) (f_r14_Topics_spec x15.fTopics _ _ _ hx35) (fun _ hs => (SrcE.old hs hX20)) rfl [0] (rfl) ?_
        replace h := guard_some h
        obtain ⟨c36, h⟩ := h
        refine TD.q rfl .u (Ex.sAdd rfl rfl c36) rfl ?_
        refine TD.run ft_cursitorref19_ok [25] rfl rfl ?_
        refine TD.nil (X.seq (T.seq (T.region rfl ?_)))
        refine TL.run ft_cursitorref19_ok [0, 1] rfl rfl ?_
        refine TL.nil (X.seq ?_)
        obtain ⟨y41, h, hk42⟩ := Option.bind_eq_some_iff.1 h
        refine T.jq (fun e Rs => e = [(0, .slice (some ⟨gz17, oz17, none⟩) a0.length c2), (1, .int .i64 a1), (4, .string ⟨#[]⟩), (5, .string (bsOf y41)), (6, .int .i64 (k6 : Int))] ∧ Rs = [EmpR]) ?_ ?_
        · clear hk42
          by_cases c43 : a1 = 1
          · replace h := ifT c43 h
            refine T.yes rfl (decide_eq_true c43) ?_
            refine T.region rfl ?_
            refine TL.run ft_cursitorref19_ok [0, 1, 2] rfl rfl ?_
            refine TL.q rfl .u (Ex.ixS (k := k6) rfl rfl rfl Try.runUnderlying57 Try.sizeOf167 (List.getElem?_eq_some_iff.1 hx16).1) rfl ?_
            refine TL.run ft_cursitorref19_ok [4] rfl rfl ?_
            refine TL.q rfl .u (Ex.o1 4 rfl Try.isAgg3 z17nf z17cc rfl rfl) rfl ?_
            obtain ⟨x44, hx45, h⟩ := Option.bind_eq_some_iff.1 h
            refine TL.ce rfl .u (.fn Try.call111 rfl) (gRBytes_spec x15.fCoordinator 4 _ hx45) (fun _ hs => (RX.reads_triv _ _)) rfl ?_
            replace h := guard_some h
            obtain ⟨c46, h⟩ := h
            refine TL.q rfl .u (Ex.sAdd rfl rfl c46) rfl ?_
            refine TL.run ft_cursitorref19_ok [8] rfl rfl ?_
            cases h
            exact TL.nil (X.jq [0] ⟨rfl, rfl⟩ (by rfl) (by rfl))
          · replace h := ifF c43 h
            refine T.no rfl (decide_eq_false c43) ?_
            cases h
            exact T.skip (X.jq [0] ⟨rfl, rfl⟩ (by rfl) (by rfl))
        · rintro _ _ ⟨rfl, rfl⟩
          clear h
          have h := hk42
          clear hk42
          try dsimp only at h
          refine X.blk (X.seq (T.region rfl ?_))
          replace h := guard_some h
          obtain ⟨c47, h⟩ := h
          refine TL.run ft_cursitorref19_ok [0] rfl rfl ?_
          refine TL.q rfl .u (Ex.add rfl rfl c47) rfl ?_
          refine TL.run ft_cursitorref19_ok [2] rfl rfl ?_
          exact TL.nil (X.back (m' := m10) [0] (by omega) ⟨y41, k6 + 1, rfl, rfl, h⟩ (by rfl) (by rfl))
    · replace h := ifF c14 h
      refine TL.nil (X.seq ?_)
      refine T.no rfl (decide_eq_false c14) ?_
      obtain rfl := Option.some.inj h
      replace h := hO9
      clear hO9
      try dsimp only at h
      refine T.exit (X.exs (X.exs (X.ex (X.seq (T.seq (T.region rfl ?_))))))
      refine TL.run ft_cursitorref19_ok [0, 1] rfl rfl ?_
      obtain rfl := Option.some.inj h
      exact TL.nil (X.seq (T.ret (X.done1 [0] Try.results37 (RV.tm rfl) ⟨rfl, rfl, rfl⟩ (by rfl) (.inl rfl))))
end Go.Proofs.Ytagbblaegdedpaa.Sl
namespace Go.Proofs.Ytagbblaegdedpaa.Sl
open Go.RowKit
set_option linter.unusedVariables false
set_option linter.unusedSimpArgs false
set_option maxRecDepth 100000
def ft_cursitorlaw19 : FTab := [(70, 3, 3)]
theorem ft_cursitorlaw19_ok : (ft_cursitorlaw19).OK Try.prog := ⟨FOK.mk Try.runUnderlying70 rfl Try.sizeOf68 rfl, trivial⟩
theorem mix_cursitorlaw19 : Try.prog.follows .mixedOrders = true := by kernel_rfl
theorem bok_cursitorlaw19_70 : BOK Try.prog 70 #[.int .i64 0, .int .i64 0, .bool false, .slice none 0 0, .int .i64 0] [(0, 1), (1, 1), (2, 1), (3, 1), (4, 1)] := BOK.mk Try.zeroValue70 Try.runUnderlying70 (by intro w; simp)
theorem bok_cursitorlaw19_162 : BOK Try.prog 162 #[.string ⟨#[]⟩, .slice none 0 0] [(0, 1), (1, 1)] := BOK.mk Try.zeroValue162 Try.runUnderlying162 (by intro w; simp)
theorem sok_cursitorlaw19_55_1 : SOK Try.prog 55 70 1 5 #[.int .i64 0, .int .i64 0, .bool false, .slice none 0 0, .int .i64 0] := SOK.mk Try.runUnderlying55 Try.sizeOf70 Try.zeroValue70 (by decide) (by kernel_rfl)
theorem sok_cursitorlaw19_57_1 : SOK Try.prog 57 167 1 5 #[.int .i64 0, .int .i64 0, .bool false, .slice none 0 0, .int .i64 0] := SOK.mk Try.runUnderlying57 Try.sizeOf167 Try.zeroValue167 (by decide) (by kernel_rfl)
theorem sok_cursitorlaw19_68_1 : SOK Try.prog 68 162 1 2 #[.string ⟨#[]⟩, .slice none 0 0] := SOK.mk Try.runUnderlying68 Try.sizeOf162 Try.zeroValue162 (by decide) (by kernel_rfl)
theorem sok_cursitorlaw19_160_1 : SOK Try.prog 160 3 1 1 #[.int .i64 0] := SOK.mk Try.runUnderlying160 Try.sizeOf3 Try.zeroValue3 (by decide) (by kernel_rfl)
theorem inf_cursitorlaw19_167 : (Try.prog.info? 167).map (fun i => (i.zero, i.size, i.bytes)) = some (some (.agg #[.int .i64 0, .int .i64 0, .bool false, .slice none 0 0, .int .i64 0]), 5, 56) := by kernel_rfl
def f_l19_speaks  : Option (Bool) := (f_mark_Write ([], 0) [(⟨0, 0, true, [(⟨[97], [1]⟩ : Top)], 0⟩ : MarkMark)] 0).bind fun st5 => (gOText st5).bind fun (x7, x8, st9) => (if x8 = 0 then (if (x7.length : Int) = 30 then ((f_mark_Check [] 0).bind fun x19 => if x19 = 10 then some true else some false) else some false) else some false).bind fun y15 => some y15
set_option maxRecDepth 100000 in
set_option maxHeartbeats 4000000 in
theorem f_l19_speaks_spec  (r : Bool) (h : f_l19_speaks  = some r) : SpecX Try.prog 32 #[] .triv (EmpR) (fun v A' N => v = .bool r ∧ A' = EmpR ∧ N = []) := by
  refine enterA Try.func32 rfl Try.ntmps32 rfl ?_
  intro F w hX
  unfold f_l19_speaks at h
  refine T.seq (T.region rfl ?_)
  refine TL.run ft_cursitorlaw19_ok [0] rfl rfl ?_
  refine TL.nil (X.seq (T.seq (T.region rfl ?_)))
  refine TL.newout rfl .u Try.zeroValue50 rfl (fun b1 => ?_)
  refine TL.nil (X.seq (T.seq (T.region rfl ?_)))
  refine TL.lit (cells := #[.int .i64 1]) rfl .u sok_cursitorlaw19_160_1 rfl (by rfl) rfl (fun b2 => ?_)
  refine TL.rowOf (us := [.int .i64 1]) (xs := [1]) (E := intE) (z := 1) rfl (Nat.le_of_ble_eq_true rfl) (fun _ => ⟨rfl, rfl, rfl⟩) ?_
  refine TL.q rfl .u (Ex.bld (cells := #[.string ⟨#[97]⟩, .slice (some ⟨b2, 0, none⟩) 1 1]) bok_cursitorlaw19_162 rfl (by kernel_rfl)) rfl ?_
  refine TL.lit (cells := #[.string ⟨#[97]⟩, .slice (some ⟨b2, 0, none⟩) 1 1]) rfl .u sok_cursitorlaw19_68_1 rfl (by rfl) rfl (fun b3 => ?_)
  refine TL.rowOf2 (us := [.string ⟨#[97]⟩, .slice (some ⟨b2, 0, none⟩) 1 1]) (xs := [(⟨[97], [1]⟩ : Top)]) (E := Top_rd) (z := 2) 0 rfl rfl (Nat.le_of_ble_eq_true rfl) (fun w G hG => ⟨rfl, ⟨_, _, rfl, own_reads (by decide) _ _ hG⟩, rfl⟩) ?_
  refine TL.sel [0, 0, 0] rfl ?_
  refine TL.q rfl .u (Ex.bld (cells := #[.int .i64 0, .int .i64 0, .bool true, .slice (some ⟨b3, 0, none⟩) 1 1, .int .i64 0]) bok_cursitorlaw19_70 rfl (by kernel_rfl)) rfl ?_
  refine TL.lit (cells := #[.int .i64 0, .int .i64 0, .bool true, .slice (some ⟨b3, 0, none⟩) 1 1, .int .i64 0]) rfl .u sok_cursitorlaw19_55_1 rfl (by rfl) rfl (fun b4 => ?_)
  refine TL.rowOf2 (us := [.int .i64 0, .int .i64 0, .bool true, .slice (some ⟨b3, 0, none⟩) 1 1, .int .i64 0]) (xs := [(⟨0, 0, true, [(⟨[97], [1]⟩ : Top)], 0⟩ : MarkMark)]) (E := MarkMark_rd) (z := 5) 0 rfl rfl (Nat.le_of_ble_eq_true rfl) (fun w G hG => ⟨rfl, ⟨_, _, rfl, own_reads (by decide) _ _ hG⟩, rfl⟩) ?_
  refine TL.sel [0, 0, 0] rfl ?_
  obtain ⟨st5, hx6, h⟩ := Option.bind_eq_some_iff.1 h
  refine TL.c1 rfl .u (.fn Try.call39 rfl) (f_mark_Write_spec b1 ([], 0) [(⟨0, 0, true, [(⟨[97], [1]⟩ : Top)], 0⟩ : MarkMark)] _ _ 0 _ hx6) (fun _ hs => (Src.res 0 rfl (fun w G h => own_reads (by decide) w G h))) rfl ?_
  obtain ⟨⟨x7, x8, st9⟩, hx10, h⟩ := Option.bind_eq_some_iff.1 h
  try dsimp only at h
  refine TL.nil (X.seq (T.seq (T.region rfl ?_)))
  refine TL.c1 rfl .u (.fn Try.call30 rfl) (gOText_spec b1 st5 _ hx10) (fun _ hs => (Src.triv _)) rfl ?_
  refine TL.run ft_cursitorlaw19_ok [1, 2, 3, 4, 5] rfl rfl ?_
  refine TL.nil (X.seq (T.seq ?_))
  obtain ⟨y15, h, hk16⟩ := Option.bind_eq_some_iff.1 h
  refine T.jq (fun e Rs => e = [(0, .bool y15)] ∧ Rs = [OwnR 70 5 MarkMark_rd (.slice (some ⟨b4, 0, none⟩) 1 1) [(⟨0, 0, true, [(⟨[97], [1]⟩ : Top)], 0⟩ : MarkMark)], OutR b1 st9, EmpR]) ?_ ?_
  · clear hk16
    refine T.region rfl ?_
    by_cases c17 : x8 = 0
    · replace h := ifT c17 h
      refine TL.run ft_cursitorlaw19_ok [0, 1, 2] rfl rfl ?_
      refine TL.q rfl (.g rfl rfl (decide_eq_true c17)) (Ex.ft ft_cursitorlaw19_ok rfl) rfl ?_
      refine TL.q rfl (.g rfl rfl (decide_eq_true c17)) (Ex.lenB rfl Try.runUnderlying9) rfl ?_
      refine TL.q rfl (.g rfl rfl (decide_eq_true c17)) (Ex.ft ft_cursitorlaw19_ok rfl) rfl ?_
      refine TL.q rfl .u (Ex.py rfl (decide_eq_true c17) rfl) rfl ?_
      by_cases c18 : (x7.length : Int) = 30
      · replace h := ifT c18 h
        obtain ⟨x19, hx20, h⟩ := Option.bind_eq_some_iff.1 h
        refine TL.run ft_cursitorlaw19_ok [7] rfl rfl ?_
        refine TL.ce rfl (.g rfl rfl (decide_eq_true c18)) (.fn Try.call41 rfl) (f_mark_Check_spec [] _ _ 0 _ hx20) (fun _ hs => slice_nil_reads) rfl ?_
        refine TL.q rfl (.g rfl rfl (decide_eq_true c18)) (Ex.ft ft_cursitorlaw19_ok rfl) rfl ?_
        refine TL.q rfl .u (Ex.py rfl (decide_eq_true c18) rfl) rfl ?_
        refine TL.run ft_cursitorlaw19_ok [11] rfl rfl ?_
        by_cases c21 : x19 = 10
        · replace h := ifT c21 h
          cases h
          exact TL.nil (X.as (d := 0) (v' := .bool true) rfl (congrArg Value.bool (decide_eq_true c21)) (X.jq [0, 0, 0] ⟨rfl, rfl⟩ (by rfl) (by rfl)))
        · replace h := ifF c21 h
          cases h
          exact TL.nil (X.as (d := 0) (v' := .bool false) rfl (congrArg Value.bool (decide_eq_false c21)) (X.jq [0, 0, 0] ⟨rfl, rfl⟩ (by rfl) (by rfl)))
      · replace h := ifF c18 h
        refine TL.run ft_cursitorlaw19_ok [7] rfl rfl ?_
        refine TL.no rfl (.gn rfl rfl (decide_eq_false c18)) rfl ?_
        refine TL.no rfl (.gn rfl rfl (decide_eq_false c18)) rfl ?_
        refine TL.q rfl .u (Ex.pn rfl (decide_eq_false c18) rfl) rfl ?_
        refine TL.run ft_cursitorlaw19_ok [11] rfl rfl ?_
        cases h
        exact TL.nil (X.jq [0, 0, 0] ⟨rfl, rfl⟩ (by rfl) (by rfl))
    · replace h := ifF c17 h
      refine TL.run ft_cursitorlaw19_ok [0, 1, 2] rfl rfl ?_
      refine TL.no rfl (.gn rfl rfl (decide_eq_false c17)) rfl ?_
      refine TL.no rfl (.gn rfl rfl (decide_eq_false c17)) rfl ?_
      refine TL.no rfl (.gn rfl rfl (decide_eq_false c17)) rfl ?_
      refine TL.q rfl .u (Ex.pn rfl (decide_eq_false c17) rfl) rfl ?_
      refine TL.run ft_cursitorlaw19_ok [7] rfl rfl ?_
      refine TL.no rfl (.gn rfl rfl rfl) rfl ?_
      refine TL.no rfl (.gn rfl rfl rfl) rfl ?_
      refine TL.q rfl .u (Ex.pn rfl rfl rfl) rfl ?_
      refine TL.run ft_cursitorlaw19_ok [11] rfl rfl ?_
      cases h
      exact TL.nil (X.jq [0, 0, 0] ⟨rfl, rfl⟩ (by rfl) (by rfl))
  · rintro _ _ ⟨rfl, rfl⟩
    clear h
    have h := hk16
    clear hk16
    try dsimp only at h
    obtain rfl := Option.some.inj h
    exact X.seq (T.ret (X.done1 [2] Try.results32 (RV.tm rfl) ⟨rfl, rfl, rfl⟩ (by rfl) (.inl rfl)))
def f_l19_Of_l1 : List MarkMark → List R19Mark → Option (List R19Mark)
  | [], y3 => some y3
  | x11 :: xs, y3 => if (y3.length + 1) * 56 ≤ 140737488355328 then (f_l19_Of_l1 xs (y3 ++ [(⟨x11.fProducer, x11.fEpoch, x11.fCommit, x11.fTopics, x11.fCoordinator⟩ : R19Mark)])) else none
def f_l19_Of (a0 : List MarkMark) : Option (List R19Mark) := (f_l19_Of_l1 a0 []).bind fun y23 => some y23
set_option maxRecDepth 100000 in
set_option maxHeartbeats 4000000 in
theorem f_l19_Of_spec (a0 : List MarkMark) (A1 : Option Addr) (c2 : Nat) (r : List R19Mark) (h : f_l19_Of a0 = some r) : SpecS Try.prog 36 #[.slice A1 a0.length c2] (RX.of (sliceRd 5 MarkMark_rd) [.slice A1 a0.length c2] a0) EmpR (fun v A' L => ∃ (A27 : Option Addr) (c28 : Nat), v = .slice A27 r.length c28 ∧ A' = EmpR ∧ L = [(⟨_, sliceRd 5 R19Mark_rd, [.slice A27 r.length c28], r⟩ : RO)]) := by
  refine enterS Try.func36 rfl Try.ntmps36 rfl ?_
  intro F w S hS hSF
  have hX : (RX.of (sliceRd 5 MarkMark_rd) [.slice A1 a0.length c2] a0).reads w F := ⟨S, hS, hSF⟩
  unfold f_l19_Of at h
  refine T.seq (T.region rfl ?_)
  refine TL.run ft_cursitorlaw19_ok [0] rfl rfl ?_
  refine TL.nil (X.seq (T.seq (T.region rfl ?_)))
  refine TL.run ft_cursitorlaw19_ok [0] rfl rfl ?_
  refine TL.nil (X.seq (T.seq (T.seq (T.region rfl ?_))))
  refine TL.run ft_cursitorlaw19_ok [0] rfl rfl ?_
  refine TL.q rfl .u (Ex.lenS rfl Try.runUnderlying55) rfl ?_
  refine TL.run ft_cursitorlaw19_ok [2] rfl rfl ?_
  refine TL.nil (X.seq (T.block ?_))
  refine T.nilrow 167 5 (oldRd w S R19Mark_rd) ?_
  obtain ⟨E7, hE8, hO9⟩ := Option.bind_eq_some_iff.1 h
  have hk13len := RX.len_le hX
  refine T.lp (fun m e Rs => ∃ (y3 : List R19Mark) (A4 : Option Addr) (c5 : Nat) (k6 : Nat), k6 + m = a0.length ∧ e = [(2, .slice none 0 0), (3, .slice A4 y3.length c5), (6, .slice A1 a0.length c2), (7, .int .i64 (a0.length : Int)), (8, .int .i64 (k6 : Int))] ∧ Rs = [OwnR 167 5 (oldRd w S R19Mark_rd) (.slice A4 y3.length c5) y3, EmpR] ∧ f_l19_Of_l1 (a0.drop k6) y3 = some E7) (a0.length) [0, 0] ⟨[], none, 0, 0, by simp, rfl, rfl, by rw [List.drop_zero]; exact hE8⟩ (by rfl) (by rfl) ?_
  rintro m10 _ _ ⟨y3, A4, c5, k6, hk13, rfl, rfl, hl12⟩
  clear hE8 h
  cases m10 with
  | zero =>
    have h := hl12
    clear hl12
    rw [List.drop_of_length_le (by omega), f_l19_Of_l1] at h
    have hk13ge : ¬ ((k6 : Int) < (a0.length : Int)) := by omega
    refine T.seq (T.region rfl ?_)
    refine TL.run ft_cursitorlaw19_ok [0] rfl rfl ?_
    refine TL.nil (X.seq (T.seq ?_))
    refine T.no rfl (decide_eq_false hk13ge) ?_
    obtain rfl := Option.some.inj h
    replace h := hO9
    clear hO9
    try dsimp only at h
    refine T.exit (X.exs (X.exs (X.ex (X.seq (T.seq (T.region rfl ?_))))))
    refine TL.run ft_cursitorlaw19_ok [0, 1] rfl rfl ?_
    obtain rfl := Option.some.inj h
    refine TL.nil (X.seq (T.ret ?_))
    refine X.shutO (by decide) 0 rfl ?_
    refine X.sel [0, 0] rfl ?_
    exact X.done1 [1, 0] Try.results36 (RV.tm rfl) ⟨_, ⟨_, _, rfl, rfl, rfl⟩, rfl⟩ (by rfl) (.inl rfl)
  | succ m10 =>
    have h := hl12
    clear hl12
    obtain ⟨x11, hxx11⟩ : ∃ x, a0[k6]? = some x := ⟨_, List.getElem?_eq_getElem (by omega)⟩
    rw [drop_cons hxx11, f_l19_Of_l1] at h
    have hk13lt : (k6 : Int) < (a0.length : Int) := by omega
    refine T.seq (T.region rfl ?_)
    refine TL.run ft_cursitorlaw19_ok [0] rfl rfl ?_
    refine TL.nil (X.seq (T.seq ?_))
    refine T.yes rfl (decide_eq_true hk13lt) ?_
    obtain ⟨gz14, oz14, rfl, z14cs, z14cl, z14cc, z14nf, z14r⟩ := RX.elemS (by decide) hS hSF hxx11
    obtain ⟨A15, c16, rfl, z14s0⟩ := z14r
    have hX17 : (RX.of (sliceRd 2 Top_rd) [.slice A15 x11.fTopics.length c16] x11.fTopics).reads w F := ⟨S, z14s0, hSF⟩
    refine T.skip (X.seq (T.seq (T.block (T.seq (T.region rfl ?_)))))
    refine TL.q rfl .u (Ex.ixS (k := k6) rfl rfl rfl Try.runUnderlying55 Try.sizeOf70 (List.getElem?_eq_some_iff.1 hxx11).1) rfl ?_
    refine TL.q rfl .u (Ex.oS (us := [.int .i64 x11.fProducer, .int .i64 x11.fEpoch, .bool x11.fCommit, .slice A15 x11.fTopics.length c16, .int .i64 x11.fCoordinator]) 0 rfl Try.isAgg70 Try.sizeOf70 z14nf z14cc rfl rfl rfl) rfl ?_
    refine TL.alloc rfl .u Try.zeroValue70 rfl (fun b18 => ?_)
    refine TL.st0 (cs' := #[.int .i64 x11.fProducer, .int .i64 x11.fEpoch, .bool x11.fCommit, .slice A15 x11.fTopics.length c16, .int .i64 x11.fCoordinator]) rfl .u rfl rfl Try.sizeOf70 rfl rfl rfl rfl ?_
    refine TL.nil (X.seq (T.region rfl ?_))
    refine TL.run ft_cursitorlaw19_ok [0] rfl rfl ?_
    refine TL.q rfl .u (Ex.bS (us := [.int .i64 x11.fProducer, .int .i64 x11.fEpoch, .bool x11.fCommit, .slice A15 x11.fTopics.length c16, .int .i64 x11.fCoordinator]) 0 rfl Try.isAgg70 Try.sizeOf70 rfl rfl rfl) rfl ?_
    refine TL.lit (cells := #[.int .i64 x11.fProducer, .int .i64 x11.fEpoch, .bool x11.fCommit, .slice A15 x11.fTopics.length c16, .int .i64 x11.fCoordinator]) rfl .u sok_cursitorlaw19_57_1 rfl (by rfl) rfl (fun b19 => ?_)
    replace h := guard_some h
    obtain ⟨c20, h⟩ := h
    refine TL.app1 1 rfl .u (us := [.int .i64 x11.fProducer, .int .i64 x11.fEpoch, .bool x11.fCommit, .slice A15 x11.fTopics.length c16, .int .i64 x11.fCoordinator]) (u := (⟨x11.fProducer, x11.fEpoch, x11.fCommit, x11.fTopics, x11.fCoordinator⟩ : R19Mark)) (l := y3) (E := (oldRd w S R19Mark_rd)) Try.underlying57 inf_cursitorlaw19_167 rfl (by decide) rfl rfl rfl rfl rfl rfl (fun _ _ => old_in ⟨_, _, rfl, z14s0⟩) (by have hq := c20; omega) (by have hq := c20; omega) rfl (fun A21 c22 => ?_)
    refine TL.sel [0, 0, 0] rfl ?_
    refine TL.run ft_cursitorlaw19_ok [4] rfl rfl ?_
    refine TL.nil (X.blk (X.seq (T.region rfl ?_)))
    refine TL.q rfl .u (Ex.add rfl rfl (by omega)) rfl ?_
    refine TL.run ft_cursitorlaw19_ok [1] rfl rfl ?_
    exact TL.nil (X.back (m' := m10) [1, 1] (by omega) ⟨(y3 ++ [(⟨x11.fProducer, x11.fEpoch, x11.fCommit, x11.fTopics, x11.fCoordinator⟩ : R19Mark)]), A21, c22, k6 + 1, by omega, rfl, rfl, h⟩ (by rfl) (by rfl))
def f_l19_Few_l1 : List MarkMark → Int → Option (Lp Int Int)
  | [], y4 => some (Lp.go y4)
  | x10 :: xs, y4 => (f_l14_Few x10.fTopics).bind fun x18 => if x18 = 0 then some (Lp.ret 0) else (f_l19_Few_l1 xs y4)
def f_l19_Few (a0 : List MarkMark) : Option (Int) := if (a0.length : Int) > 20 then some 0 else ((f_l19_Few_l1 a0 0).bind fun e => match e with | .ret r => some r | .go y21 => some 1)
set_option maxRecDepth 100000 in
set_option maxHeartbeats 4000000 in
theorem f_l19_Few_spec (a0 : List MarkMark) (A1 : Option Addr) (c2 : Nat) (r : Int) (h : f_l19_Few a0 = some r) : SpecX Try.prog 38 #[.slice A1 a0.length c2] (RX.of (sliceRd 5 MarkMark_rd) [.slice A1 a0.length c2] a0) (EmpR) (fun v A' N => v = .int .i64 r ∧ A' = EmpR ∧ N = []) := by
  refine enterA Try.func38 rfl Try.ntmps38 rfl ?_
  intro F w hX
  unfold f_l19_Few at h
  refine T.seq (T.region rfl ?_)
  refine TL.run ft_cursitorlaw19_ok [0] rfl rfl ?_
  refine TL.nil (X.seq (T.seq (T.seq (T.region rfl ?_))))
  refine TL.run ft_cursitorlaw19_ok [0] rfl rfl ?_
  refine TL.q rfl .u (Ex.lenS rfl Try.runUnderlying55) rfl ?_
  refine TL.run ft_cursitorlaw19_ok [2] rfl rfl ?_
  by_cases c3 : (a0.length : Int) > 20
  · replace h := ifT c3 h
    refine TL.nil (X.seq ?_)
    refine T.yes rfl (decide_eq_true c3) ?_
    refine T.seq (T.region rfl ?_)
    refine TL.run ft_cursitorlaw19_ok [0] rfl rfl ?_
    obtain rfl := Option.some.inj h
    exact TL.nil (X.seq (T.ret (X.rs (X.done1 [0] Try.results38 (RV.tm rfl) ⟨rfl, rfl, rfl⟩ (by rfl) (.inl rfl)))))
  · replace h := ifF c3 h
    refine TL.nil (X.seq ?_)
    refine T.no rfl (decide_eq_false c3) ?_
    refine T.skip (X.seq (T.seq (T.seq (T.region rfl ?_))))
    refine TL.run ft_cursitorlaw19_ok [0] rfl rfl ?_
    refine TL.q rfl .u (Ex.lenS rfl Try.runUnderlying55) rfl ?_
    refine TL.run ft_cursitorlaw19_ok [2] rfl rfl ?_
    refine TL.nil (X.seq (T.block ?_))
    obtain ⟨E6, hE7, hO8⟩ := Option.bind_eq_some_iff.1 h
    have hk12len := RX.len_le hX
    refine T.lp (fun m e Rs => ∃ (y4 : Int) (k5 : Nat), k5 + m = a0.length ∧ e = [(2, .int .i64 y4), (8, .slice A1 a0.length c2), (9, .int .i64 (a0.length : Int)), (10, .int .i64 (k5 : Int))] ∧ Rs = [EmpR] ∧ f_l19_Few_l1 (a0.drop k5) y4 = some E6) (a0.length) [0] ⟨0, 0, by simp, rfl, rfl, by rw [List.drop_zero]; exact hE7⟩ (by rfl) (by rfl) ?_
    rintro m9 _ _ ⟨y4, k5, hk12, rfl, rfl, hl11⟩
    clear hE7 h
    cases m9 with
    | zero =>
      have h := hl11
      clear hl11
      rw [List.drop_of_length_le (by omega), f_l19_Few_l1] at h
      have hk12ge : ¬ ((k5 : Int) < (a0.length : Int)) := by omega
      refine T.seq (T.region rfl ?_)
      refine TL.run ft_cursitorlaw19_ok [0] rfl rfl ?_
      refine TL.nil (X.seq (T.seq ?_))
      refine T.no rfl (decide_eq_false hk12ge) ?_
      obtain rfl := Option.some.inj h
      replace h := hO8
      clear hO8
      try dsimp only at h
      refine T.exit (X.exs (X.exs (X.ex (X.seq (T.seq (T.region rfl ?_))))))
      refine TL.run ft_cursitorlaw19_ok [0] rfl rfl ?_
      obtain rfl := Option.some.inj h
      exact TL.nil (X.seq (T.ret (X.done1 [0] Try.results38 (RV.tm rfl) ⟨rfl, rfl, rfl⟩ (by rfl) (.inl rfl))))
    | succ m9 =>
      have h := hl11
      clear hl11
      obtain ⟨x10, hxx10⟩ : ∃ x, a0[k5]? = some x := ⟨_, List.getElem?_eq_getElem (by omega)⟩
      rw [drop_cons hxx10, f_l19_Few_l1] at h
      have hk12lt : (k5 : Int) < (a0.length : Int) := by omega
      refine T.seq (T.region rfl ?_)
      refine TL.run ft_cursitorlaw19_ok [0] rfl rfl ?_
      refine TL.nil (X.seq (T.seq ?_))
      refine T.yes rfl (decide_eq_true hk12lt) ?_
      obtain ⟨gz13, oz13, rfl, z13cs, z13cl, z13cc, z13nf, z13r⟩ := RX.elem (by decide) hX hxx10
      obtain ⟨z13S, z13r, z13rr⟩ := z13r
      obtain ⟨A14, c15, rfl, z13s0⟩ := z13r
      have hX16 : (RX.of (sliceRd 2 Top_rd) [.slice A14 x10.fTopics.length c15] x10.fTopics).reads w F := ⟨z13S, z13s0, z13rr⟩
      refine T.skip (X.seq (T.seq (T.block (T.seq (T.region rfl ?_)))))
      refine TL.q rfl .u (Ex.ixS (k := k5) rfl rfl rfl Try.runUnderlying55 Try.sizeOf70 (List.getElem?_eq_some_iff.1 hxx10).1) rfl ?_
      refine TL.q rfl .u (Ex.oS (us := [.int .i64 x10.fProducer, .int .i64 x10.fEpoch, .bool x10.fCommit, .slice A14 x10.fTopics.length c15, .int .i64 x10.fCoordinator]) 0 rfl Try.isAgg70 Try.sizeOf70 z13nf z13cc rfl rfl rfl) rfl ?_
      refine TL.alloc rfl .u Try.zeroValue70 rfl (fun b17 => ?_)
      refine TL.st0 (cs' := #[.int .i64 x10.fProducer, .int .i64 x10.fEpoch, .bool x10.fCommit, .slice A14 x10.fTopics.length c15, .int .i64 x10.fCoordinator]) rfl .u rfl rfl Try.sizeOf70 rfl rfl rfl rfl ?_
      refine TL.nil (X.seq (T.seq (T.region rfl ?_)))
      refine TL.run ft_cursitorlaw19_ok [0] rfl rfl ?_
      refine TL.q rfl .u (Ex.b1 0 rfl Try.isAgg68 rfl rfl) rfl ?_
      obtain ⟨x18, hx19, h⟩ := Option.bind_eq_some_iff.1 h
      refine TL.ce rfl .u (.fn Try.call50 rfl) (f_l14_Few_spec x10.fTopics _ _ _ hx19) (fun _ hs => (SrcE.old hs hX16)) rfl ?_
      refine TL.run ft_cursitorlaw19_ok [3] rfl rfl ?_
      by_cases c20 : x18 = 0
      · replace h := ifT c20 h
        refine TL.nil (X.seq ?_)
        refine T.yes rfl (decide_eq_true c20) ?_
        refine T.seq (T.region rfl ?_)
        refine TL.run ft_cursitorlaw19_ok [0] rfl rfl ?_
        obtain rfl := Option.some.inj h
        replace h := hO8
        clear hO8
        try dsimp only at h
        obtain rfl := Option.some.inj h
        exact TL.nil (X.seq (T.ret (X.rb (X.rs (X.rs (X.rb (X.rs (X.done1 [1] Try.results38 (RV.tm rfl) ⟨rfl, rfl, rfl⟩ (by rfl) (.inl rfl)))))))))
      · replace h := ifF c20 h
        refine TL.nil (X.seq ?_)
        refine T.no rfl (decide_eq_false c20) ?_
        refine T.skip (X.blk (X.seq (T.region rfl ?_)))
        refine TL.q rfl .u (Ex.add rfl rfl (by omega)) rfl ?_
        refine TL.run ft_cursitorlaw19_ok [1] rfl rfl ?_
        exact TL.nil (X.back (m' := m9) [1] (by omega) ⟨y4, k5 + 1, by omega, rfl, rfl, h⟩ (by rfl) (by rfl))
def f_l19_MarkWrites_l1 (a0 : List MarkMark) (a1 : Int) : List MarkMark → Bool → Option (Lp Bool Bool)
  | [], y34 => some (Lp.go y34)
  | x40 :: xs, y34 => ((f_mark_MarkCheck x40 (a1 % 2)).bind fun x87 => (f_l19_Of [x40]).bind fun x90 => (f_r19_Check x90 (a1 % 2)).bind fun x95 => if x87 = x95 then ((a0[0]?).bind fun x98 => (f_mark_Same x40 x98).bind fun x104 => (f_l19_Of [x40]).bind fun x107 => if 1 ≤ a0.length then ((f_l19_Of (a0.take 1)).bind fun x115 => (f_r19_Same x107 x115).bind fun x119 => if x104 = true then (if x119 = true then some false else some true) else (if x119 = true then some true else some false)) else none) else some true).bind fun y85 => if y85 = true then none else (f_l19_MarkWrites_l1 a0 a1 xs y34)
def f_l19_MarkWrites (a0 : List MarkMark) (a1 : Int) : Option (Bool) := (f_l19_speaks).bind fun x3 => if x3 = true then ((f_l19_Few a0).bind fun x6 => if x6 = 0 then some true else (if 0 ≤ a1 then (if -9223372036854775808 ≤ (a1 % 2) ∧ (a1 % 2) ≤ 9223372036854775807 then ((f_mark_Write ([], 0) a0 (a1 % 2)).bind fun st12 => (gOText st12).bind fun (x14, x15, st16) => (f_l19_Of a0).bind fun x18 => (f_r19_Check x18 (a1 % 2)).bind fun x22 => (if x15 = x22 then ((f_mark_Check a0 (a1 % 2)).bind fun x30 => if x30 = x22 then some false else some true) else some true).bind fun y27 => if y27 = true then none else ((f_l19_MarkWrites_l1 a0 a1 a0 false).bind fun e => match e with | .ret r => some r | .go y125 => (if x22 = 0 then ((gNew x14).bind fun st128 => ((f_l19_Of a0).bind fun x161 => (f_r19_Write x161 (a1 % 2)).bind fun x165 => if x14 = x165 then ((f_mark_Read st128 (a1 % 2)).bind fun (x168, st171) => (f_l19_Of x168).bind fun x173 => (f_l19_Of a0).bind fun x178 => (f_r19_Same x173 x178).bind fun x182 => if x182 = true then ((gClose st171).bind fun (x185, st186) => if x185 = 0 then some (true, st186) else some (false, st186)) else some (false, st171)) else some (false, st128)).bind fun (y158, st159) => some y158) else (if x14 = [] then some true else none)))) else none) else none)) else none
set_option maxRecDepth 100000 in
set_option maxHeartbeats 4000000 in
theorem f_l19_MarkWrites_spec (a0 : List MarkMark) (A1 : Option Addr) (c2 : Nat) (a1 : Int) (r : Bool) (h : f_l19_MarkWrites a0 a1 = some r) : SpecX Try.prog 7 #[.slice A1 a0.length c2, .int .u8 a1] (RX.of (sliceRd 5 MarkMark_rd) [.slice A1 a0.length c2] a0) (EmpR) (fun v A' N => v = .bool r ∧ A' = EmpR ∧ N = []) := by
  refine enterA Try.func7 rfl Try.ntmps7 rfl ?_
  intro F w hX
  obtain ⟨S, hS, hSF⟩ := hX
  have hX : (RX.of (sliceRd 5 MarkMark_rd) [.slice A1 a0.length c2] a0).reads w F := ⟨S, hS, hSF⟩
  unfold f_l19_MarkWrites at h
  refine T.seq (T.region rfl ?_)
  refine TL.run ft_cursitorlaw19_ok [0] rfl rfl ?_
  obtain ⟨x3, hx4, h⟩ := Option.bind_eq_some_iff.1 h
  refine TL.nil (X.seq (T.seq (T.seq (T.region rfl ?_))))
  refine TL.ce rfl .u (.fn Try.call32 rfl) (f_l19_speaks_spec _ hx4) (fun _ hs => (RX.reads_triv _ _)) rfl ?_
  refine TL.run ft_cursitorlaw19_ok [1] rfl rfl ?_
  by_cases c5 : x3 = true
  · replace h := ifT c5 h
    refine TL.nil (X.seq ?_)
    refine T.no rfl (bn_f c5) ?_
    refine T.skip (X.seq (T.seq (T.seq (T.region rfl ?_))))
    obtain ⟨x6, hx7, h⟩ := Option.bind_eq_some_iff.1 h
    refine TL.run ft_cursitorlaw19_ok [0] rfl rfl ?_
    refine TL.ce rfl .u (.fn Try.call38 rfl) (f_l19_Few_spec a0 _ _ _ hx7) (fun _ hs => (SrcE.old hs hX)) rfl ?_
    refine TL.run ft_cursitorlaw19_ok [2] rfl rfl ?_
    by_cases c8 : x6 = 0
    · replace h := ifT c8 h
      refine TL.nil (X.seq ?_)
      refine T.yes rfl (decide_eq_true c8) ?_
      refine T.seq (T.region rfl ?_)
      refine TL.run ft_cursitorlaw19_ok [0] rfl rfl ?_
      obtain rfl := Option.some.inj h
      exact TL.nil (X.seq (T.ret (X.rs (X.done1 [0] Try.results7 (RV.tm rfl) ⟨rfl, rfl, rfl⟩ (by rfl) (.inl rfl)))))
    · replace h := ifF c8 h
      refine TL.nil (X.seq ?_)
      refine T.no rfl (decide_eq_false c8) ?_
      refine T.skip (X.seq (T.seq (T.region rfl ?_)))
      replace h := guard_some h
      obtain ⟨c9, h⟩ := h
      refine TL.run ft_cursitorlaw19_ok [0] rfl rfl ?_
      refine TL.q rfl .u (Ex.remK rfl rfl (by omega) c9) rfl ?_
      replace h := guard_some h
      obtain ⟨c10, h⟩ := h
      refine TL.q rfl .u (Ex.conv64 rfl Try.runUnderlying5 Try.runUnderlying3 c10) rfl ?_
      refine TL.run ft_cursitorlaw19_ok [3] rfl rfl ?_
      refine TL.nil (X.seq (T.seq (T.region rfl ?_)))
      refine TL.newout rfl .u Try.zeroValue50 rfl (fun b11 => ?_)
      refine TL.nil (X.seq (T.seq (T.region rfl ?_)))
      obtain ⟨st12, hx13, h⟩ := Option.bind_eq_some_iff.1 h
      refine TL.run ft_cursitorlaw19_ok [0, 1] rfl rfl ?_
      refine TL.c0 rfl .u (.fn Try.call39 rfl) (f_mark_Write_spec b11 ([], 0) a0 _ _ (a1 % 2) _ hx13) (fun _ hs => (Src.old hs hX)) rfl ?_
      obtain ⟨⟨x14, x15, st16⟩, hx17, h⟩ := Option.bind_eq_some_iff.1 h
      try dsimp only at h
      refine TL.nil (X.seq (T.seq (T.region rfl ?_)))
      refine TL.c0 rfl .u (.fn Try.call30 rfl) (gOText_spec b11 st12 _ hx17) (fun _ hs => (Src.triv _)) rfl ?_
      refine TL.run ft_cursitorlaw19_ok [1, 2, 3, 4, 5] rfl rfl ?_
      refine TL.nil (X.seq (T.seq (T.region rfl ?_)))
      obtain ⟨x18, hx21, h⟩ := Option.bind_eq_some_iff.1 h
      refine TL.run ft_cursitorlaw19_ok [0] rfl rfl ?_
      refine TL.cso  rfl .u (.fn Try.call36 rfl) (f_l19_Of_spec a0 _ _ _ hx21) hS hSF rfl ?_
      rintro _ _ _ ⟨A19, c20, rfl, rfl, rfl⟩
      refine TL.sel [0, 0, 0] rfl ?_
      obtain ⟨x22, hx23, h⟩ := Option.bind_eq_some_iff.1 h
      refine TL.run ft_cursitorlaw19_ok [2] rfl rfl ?_
      refine TL.ce rfl .u (.fn Try.call40 rfl) (f_r19_Check_spec x18 _ _ (a1 % 2) _ hx23) (fun _ hs => (SrcE.oldres 0 hs rfl xold_rd hSF)) rfl ?_
      refine TL.run ft_cursitorlaw19_ok [4] rfl rfl ?_
      refine TL.nil (X.seq (T.seq (T.seq ?_)))
      obtain ⟨y27, h, hk28⟩ := Option.bind_eq_some_iff.1 h
      refine T.jq (fun e Rs => e = [(0, .slice A1 a0.length c2), (4, .bool false), (5, .int .i64 (a1 % 2)), (7, .string (bsOf x14)), (9, .int .i64 x22), (41, .bool y27)] ∧ Rs = [RdR (oldRd w S (sliceRd 5 R19Mark_rd)) [.slice A19 x18.length c20] x18, OutR b11 st16, EmpR]) ?_ ?_
      · clear hk28
        refine T.region rfl ?_
        by_cases c29 : x15 = x22
        · replace h := ifT c29 h
          refine TL.run ft_cursitorlaw19_ok [0, 1, 2, 3] rfl rfl ?_
          refine TL.q rfl (.g rfl rfl (bn_f (decide_eq_true c29))) (Ex.ft ft_cursitorlaw19_ok rfl) rfl ?_
          refine TL.q rfl (.g rfl rfl (bn_f (decide_eq_true c29))) (Ex.ft ft_cursitorlaw19_ok rfl) rfl ?_
          obtain ⟨x30, hx31, h⟩ := Option.bind_eq_some_iff.1 h
          refine TL.ce rfl (.g rfl rfl (bn_f (decide_eq_true c29))) (.fn Try.call41 rfl) (f_mark_Check_spec a0 _ _ (a1 % 2) _ hx31) (fun _ hs => (SrcE.old hs hX)) rfl ?_
          refine TL.q rfl (.g rfl rfl (bn_f (decide_eq_true c29))) (Ex.ft ft_cursitorlaw19_ok rfl) rfl ?_
          refine TL.q rfl (.g rfl rfl (bn_f (decide_eq_true c29))) (Ex.ft ft_cursitorlaw19_ok rfl) rfl ?_
          refine TL.q rfl .u (Ex.pn rfl (bn_f (decide_eq_true c29)) rfl) rfl ?_
          by_cases c32 : x30 = x22
          · replace h := ifT c32 h
            cases h
            exact TL.nil (X.as (d := 41) (v' := .bool false) rfl (congrArg Value.bool (bn_f (decide_eq_true c32))) (X.jq [0, 0, 0] ⟨rfl, rfl⟩ (by rfl) (by rfl)))
          · replace h := ifF c32 h
            cases h
            exact TL.nil (X.as (d := 41) (v' := .bool true) rfl (congrArg Value.bool (bn_t (decide_eq_false c32))) (X.jq [0, 0, 0] ⟨rfl, rfl⟩ (by rfl) (by rfl)))
        · replace h := ifF c29 h
          refine TL.run ft_cursitorlaw19_ok [0, 1, 2, 3] rfl rfl ?_
          refine TL.no rfl (.gn rfl rfl (bn_t (decide_eq_false c29))) rfl ?_
          refine TL.no rfl (.gn rfl rfl (bn_t (decide_eq_false c29))) rfl ?_
          refine TL.no rfl (.gn rfl rfl (bn_t (decide_eq_false c29))) rfl ?_
          refine TL.no rfl (.gn rfl rfl (bn_t (decide_eq_false c29))) rfl ?_
          refine TL.no rfl (.gn rfl rfl (bn_t (decide_eq_false c29))) rfl ?_
          refine TL.q rfl .u (Ex.py rfl (bn_t (decide_eq_false c29)) rfl) rfl ?_
          cases h
          exact TL.nil (X.jq [0, 0, 0] ⟨rfl, rfl⟩ (by rfl) (by rfl))
      · rintro _ _ ⟨rfl, rfl⟩
        clear h
        have h := hk28
        clear hk28
        try dsimp only at h
        by_cases c33 : y27 = true
        · replace h := ifT c33 h
          refine X.seq ?_
          refine T.yes rfl c33 ?_
          exact nomatch h
        · replace h := ifF c33 h
          replace c33 := eq_false_of_ne_true c33
          refine X.seq ?_
          refine T.no rfl c33 ?_
          refine T.skip (X.seq (T.seq (T.seq (T.region rfl ?_))))
          refine TL.run ft_cursitorlaw19_ok [0] rfl rfl ?_
          refine TL.q rfl .u (Ex.lenS rfl Try.runUnderlying55) rfl ?_
          refine TL.run ft_cursitorlaw19_ok [2] rfl rfl ?_
          refine TL.nil (X.seq (T.block ?_))
          obtain ⟨E36, hE37, hO38⟩ := Option.bind_eq_some_iff.1 h
          have hk42len := RX.len_le hX
          refine T.lp (fun m e Rs => ∃ (y34 : Bool) (k35 : Nat), k35 + m = a0.length ∧ e = [(0, .slice A1 a0.length c2), (4, .bool y34), (5, .int .i64 (a1 % 2)), (7, .string (bsOf x14)), (9, .int .i64 x22), (42, .slice A1 a0.length c2), (43, .int .i64 (a0.length : Int)), (44, .int .i64 (k35 : Int))] ∧ Rs = [RdR (oldRd w S (sliceRd 5 R19Mark_rd)) [.slice A19 x18.length c20] x18, OutR b11 st16, EmpR] ∧ f_l19_MarkWrites_l1 a0 a1 (a0.drop k35) y34 = some E36) (a0.length) [0, 0, 0] ⟨false, 0, by simp, rfl, rfl, by rw [List.drop_zero]; exact hE37⟩ (by rfl) (by rfl) ?_
          rintro m39 _ _ ⟨y34, k35, hk42, rfl, rfl, hl41⟩
          clear hE37 h
          cases m39 with
          | zero =>
            have h := hl41
            clear hl41
            rw [List.drop_of_length_le (by omega), f_l19_MarkWrites_l1] at h
            have hk42ge : ¬ ((k35 : Int) < (a0.length : Int)) := by omega
            refine T.seq (T.region rfl ?_)
            refine TL.run ft_cursitorlaw19_ok [0] rfl rfl ?_
            refine TL.nil (X.seq (T.seq ?_))
            refine T.no rfl (decide_eq_false hk42ge) ?_
            obtain rfl := Option.some.inj h
            replace h := hO38
            clear hO38
            try dsimp only at h
            refine T.exit (X.exs (X.exs (X.ex (X.seq (T.seq (T.seq (T.region rfl ?_)))))))
            refine TL.run ft_cursitorlaw19_ok [0, 1] rfl rfl ?_
            by_cases c190 : x22 = 0
            · replace h := ifT c190 h
              refine TL.nil (X.seq ?_)
              refine T.no rfl (bn_f (decide_eq_true c190)) ?_
              refine T.skip (X.seq (T.seq (T.region rfl ?_)))
              obtain ⟨st191, hx192, h⟩ := Option.bind_eq_some_iff.1 h
              refine TL.run ft_cursitorlaw19_ok [0] rfl rfl ?_
              refine TL.cge rfl .u (.fn Try.call16 rfl) (gNew_spec x14 _ hx192) (fun _ hs => (RX.reads_triv _ _)) rfl ?_
              rintro _ _ _ ⟨b193, rfl, rfl, rfl⟩
              refine TL.sel [0, 0, 0, 0] rfl ?_
              refine TL.run ft_cursitorlaw19_ok [2] rfl rfl ?_
              refine TL.nil (X.seq (T.seq ?_))
              obtain ⟨⟨y221, st222⟩, h, hk223⟩ := Option.bind_eq_some_iff.1 h
              refine T.jq (fun e Rs => e = [(4, .bool y221)] ∧ Rs = [InR b193 st222, RdR (oldRd w S (sliceRd 5 R19Mark_rd)) [.slice A19 x18.length c20] x18, OutR b11 st16, EmpR]) ?_ ?_
              · clear hk223
                refine T.region rfl ?_
                obtain ⟨x224, hx227, h⟩ := Option.bind_eq_some_iff.1 h
                refine TL.run ft_cursitorlaw19_ok [0, 1] rfl rfl ?_
                refine TL.cso  rfl .u (.fn Try.call36 rfl) (f_l19_Of_spec a0 _ _ _ hx227) hS hSF rfl ?_
                rintro _ _ _ ⟨A225, c226, rfl, rfl, rfl⟩
                refine TL.sel [0, 0, 0, 0, 0] rfl ?_
                obtain ⟨x228, hx229, h⟩ := Option.bind_eq_some_iff.1 h
                refine TL.run ft_cursitorlaw19_ok [3] rfl rfl ?_
                refine TL.ce rfl .u (.fn Try.call37 rfl) (f_r19_Write_spec x224 _ _ (a1 % 2) _ hx229) (fun _ hs => (SrcE.oldres 0 hs rfl xold_rd hSF)) rfl ?_
                refine TL.q rfl .u (Ex.sEq rfl rfl) rfl ?_
                by_cases c230 : x14 = x228
                · replace h := ifT c230 h
                  refine TL.run ft_cursitorlaw19_ok [6] rfl rfl ?_
                  refine TL.q rfl (.g rfl rfl (decide_eq_true c230)) (Ex.ft ft_cursitorlaw19_ok rfl) rfl ?_
                  refine TL.q rfl (.g rfl rfl (decide_eq_true c230)) (Ex.ft ft_cursitorlaw19_ok rfl) rfl ?_
                  obtain ⟨⟨x231, st234⟩, hx235, h⟩ := Option.bind_eq_some_iff.1 h
                  try dsimp only at h
                  refine TL.cg1 rfl (.g rfl rfl (decide_eq_true c230)) (.fn Try.call33 rfl) (f_mark_Read_spec b193 st191 (a1 % 2) _ hx235) (fun _ hs => (Src.triv _)) rfl ?_
                  rintro _ _ _ ⟨A232, c233, rfl, rfl, rfl⟩
                  refine TL.sel [0, 0, 0, 0, 0, 0] rfl ?_
                  obtain ⟨x236, hx239, h⟩ := Option.bind_eq_some_iff.1 h
                  refine TL.csn 1 rfl (.g rfl rfl (decide_eq_true c230)) (.fn Try.call36 rfl) (f_l19_Of_spec x231 _ _ _ hx239) (fun w1 G1 hG => (Sep.has 0 rfl hG (xold_new (fun w G h => rd_reads w G h)))) hSF rfl ?_
                  rintro _ _ _ ⟨A237, c238, rfl, rfl, rfl⟩
                  refine TL.sel [0, 0, 0, 0, 0, 0] rfl ?_
                  refine TL.q rfl (.g rfl rfl (decide_eq_true c230)) (Ex.ft ft_cursitorlaw19_ok rfl) rfl ?_
                  obtain ⟨x241, hx244, h⟩ := Option.bind_eq_some_iff.1 h
                  refine TL.cso  rfl (.g rfl rfl (decide_eq_true c230)) (.fn Try.call36 rfl) (f_l19_Of_spec a0 _ _ _ hx244) hS hSF rfl ?_
                  rintro _ _ _ ⟨A242, c243, rfl, rfl, rfl⟩
                  refine TL.sel [0, 0, 0, 0, 0, 0, 0] rfl ?_
                  obtain ⟨x245, hx246, h⟩ := Option.bind_eq_some_iff.1 h
                  refine TL.ce rfl (.g rfl rfl (decide_eq_true c230)) (.fn Try.call35 rfl) (f_r19_Same_spec x236 _ _ x241 _ _ _ hx246) (fun _ hs => (RX.reads_and (SrcE.oldres 1 hs rfl (grp_lead 0 rfl) hSF) (SrcE.oldres 0 hs rfl xold_rd hSF))) rfl ?_
                  refine TL.q rfl .u (Ex.py rfl (decide_eq_true c230) rfl) rfl ?_
                  by_cases c247 : x245 = true
                  · replace h := ifT c247 h
                    refine TL.run ft_cursitorlaw19_ok [15] rfl rfl ?_
                    refine TL.q rfl (.g rfl rfl c247) (Ex.ft ft_cursitorlaw19_ok rfl) rfl ?_
                    obtain ⟨⟨x248, st249⟩, hx250, h⟩ := Option.bind_eq_some_iff.1 h
                    try dsimp only at h
                    refine TL.c3 rfl (.g rfl rfl c247) (.fn Try.call31 rfl) (gClose_spec b193 st234 _ hx250) (fun _ hs => (Src.triv _)) rfl ?_
                    refine TL.q rfl (.g rfl rfl c247) (Ex.ft ft_cursitorlaw19_ok rfl) rfl ?_
                    refine TL.q rfl .u (Ex.py rfl c247 rfl) rfl ?_
                    refine TL.run ft_cursitorlaw19_ok [20] rfl rfl ?_
                    by_cases c251 : x248 = 0
                    · replace h := ifT c251 h
                      refine TL.nil ?_
                      refine X.ungrp 1 rfl ?_
                      refine X.sel [0, 0, 0, 0, 0, 0, 0] rfl ?_
                      cases h
                      exact X.as (d := 4) (v' := .bool true) rfl (congrArg Value.bool (decide_eq_true c251)) (X.jq [3, 3, 3, 3] ⟨rfl, rfl⟩ (by rfl) (by rfl))
                    · replace h := ifF c251 h
                      refine TL.nil ?_
                      refine X.ungrp 1 rfl ?_
                      refine X.sel [0, 0, 0, 0, 0, 0, 0] rfl ?_
                      cases h
                      exact X.as (d := 4) (v' := .bool false) rfl (congrArg Value.bool (decide_eq_false c251)) (X.jq [3, 3, 3, 3] ⟨rfl, rfl⟩ (by rfl) (by rfl))
                  · replace h := ifF c247 h
                    replace c247 := eq_false_of_ne_true c247
                    refine TL.run ft_cursitorlaw19_ok [15] rfl rfl ?_
                    refine TL.no rfl (.gn rfl rfl c247) rfl ?_
                    refine TL.no rfl (.gn rfl rfl c247) rfl ?_
                    refine TL.no rfl (.gn rfl rfl c247) rfl ?_
                    refine TL.q rfl .u (Ex.pn rfl c247 rfl) rfl ?_
                    refine TL.run ft_cursitorlaw19_ok [20] rfl rfl ?_
                    refine TL.nil ?_
                    refine X.ungrp 1 rfl ?_
                    refine X.sel [0, 0, 0, 0, 0, 0, 0] rfl ?_
                    cases h
                    exact X.jq [3, 3, 3, 3] ⟨rfl, rfl⟩ (by rfl) (by rfl)
                · replace h := ifF c230 h
                  refine TL.run ft_cursitorlaw19_ok [6] rfl rfl ?_
                  refine TL.no rfl (.gn rfl rfl (decide_eq_false c230)) rfl ?_
                  refine TL.no rfl (.gn rfl rfl (decide_eq_false c230)) rfl ?_
                  refine TL.no rfl (.gn rfl rfl (decide_eq_false c230)) rfl ?_
                  refine TL.no rfl (.gn rfl rfl (decide_eq_false c230)) rfl ?_
                  refine TL.no rfl (.gn rfl rfl (decide_eq_false c230)) rfl ?_
                  refine TL.no rfl (.gn rfl rfl (decide_eq_false c230)) rfl ?_
                  refine TL.no rfl (.gn rfl rfl (decide_eq_false c230)) rfl ?_
                  refine TL.q rfl .u (Ex.pn rfl (decide_eq_false c230) rfl) rfl ?_
                  refine TL.run ft_cursitorlaw19_ok [15] rfl rfl ?_
                  refine TL.no rfl (.gn rfl rfl rfl) rfl ?_
                  refine TL.no rfl (.gn rfl rfl rfl) rfl ?_
                  refine TL.no rfl (.gn rfl rfl rfl) rfl ?_
                  refine TL.q rfl .u (Ex.pn rfl rfl rfl) rfl ?_
                  refine TL.run ft_cursitorlaw19_ok [20] rfl rfl ?_
                  cases h
                  exact TL.nil (X.jq [1, 1, 1, 1] ⟨rfl, rfl⟩ (by rfl) (by rfl))
              · rintro _ _ ⟨rfl, rfl⟩
                clear h
                have h := hk223
                clear hk223
                try dsimp only at h
                obtain rfl := Option.some.inj h
                exact X.seq (T.ret (X.done1 [3] Try.results7 (RV.tm rfl) ⟨rfl, rfl, rfl⟩ (by rfl) (.inl rfl)))
            · replace h := ifF c190 h
              refine TL.nil (X.seq ?_)
              refine T.yes rfl (bn_t (decide_eq_false c190)) ?_
              refine T.seq (T.region rfl ?_)
              refine TL.run ft_cursitorlaw19_ok [0] rfl rfl ?_
              refine TL.q rfl .u (Ex.sEq rfl (m := []) rfl) rfl ?_
              refine TL.run ft_cursitorlaw19_ok [2] rfl rfl ?_
              by_cases c252 : x14 = []
              · replace h := ifT c252 h
                obtain rfl := Option.some.inj h
                exact TL.nil (X.seq (T.ret (X.rs (X.done1 [2] Try.results7 (RV.tm (v := .bool true) (congrArg (fun b => some (Value.bool b)) (decide_eq_true c252))) ⟨rfl, rfl, rfl⟩ (by rfl) (.inl rfl)))))
              · replace h := ifF c252 h
                exact nomatch h
          | succ m39 =>
            have h := hl41
            clear hl41
            obtain ⟨x40, hxx40⟩ : ∃ x, a0[k35]? = some x := ⟨_, List.getElem?_eq_getElem (by omega)⟩
            rw [drop_cons hxx40, f_l19_MarkWrites_l1] at h
            have hk42lt : (k35 : Int) < (a0.length : Int) := by omega
            refine T.seq (T.region rfl ?_)
            refine TL.run ft_cursitorlaw19_ok [0] rfl rfl ?_
            refine TL.nil (X.seq (T.seq ?_))
            refine T.yes rfl (decide_eq_true hk42lt) ?_
            obtain ⟨gz43, oz43, rfl, z43cs, z43cl, z43cc, z43nf, z43r⟩ := RX.elemS (by decide) hS hSF hxx40
            obtain ⟨A44, c45, rfl, z43s0⟩ := z43r
            have hX46 : (RX.of (sliceRd 2 Top_rd) [.slice A44 x40.fTopics.length c45] x40.fTopics).reads w F := ⟨S, z43s0, hSF⟩
            refine T.skip (X.seq (T.seq (T.block (T.seq (T.region rfl ?_)))))
            refine TL.q rfl .u (Ex.ixS (k := k35) rfl rfl rfl Try.runUnderlying55 Try.sizeOf70 (List.getElem?_eq_some_iff.1 hxx40).1) rfl ?_
            refine TL.q rfl .u (Ex.oS (us := [.int .i64 x40.fProducer, .int .i64 x40.fEpoch, .bool x40.fCommit, .slice A44 x40.fTopics.length c45, .int .i64 x40.fCoordinator]) 0 rfl Try.isAgg70 Try.sizeOf70 z43nf z43cc rfl rfl rfl) rfl ?_
            refine TL.alloc rfl .u Try.zeroValue70 rfl (fun b47 => ?_)
            refine TL.st0 (cs' := #[.int .i64 x40.fProducer, .int .i64 x40.fEpoch, .bool x40.fCommit, .slice A44 x40.fTopics.length c45, .int .i64 x40.fCoordinator]) rfl .u rfl rfl Try.sizeOf70 rfl rfl rfl rfl ?_
            refine TL.nil (X.seq (T.seq ?_))
            obtain ⟨y85, h, hk86⟩ := Option.bind_eq_some_iff.1 h
            refine T.jq (fun e Rs => e = [(0, .slice (some ⟨gz43, oz43, none⟩) a0.length c2), (4, .bool y34), (5, .int .i64 (a1 % 2)), (7, .string (bsOf x14)), (9, .int .i64 x22), (42, .slice (some ⟨gz43, oz43, none⟩) a0.length c2), (43, .int .i64 (a0.length : Int)), (44, .int .i64 (k35 : Int)), (71, .bool y85)] ∧ Rs = [BlkR b47 70 #[.int .i64 x40.fProducer, .int .i64 x40.fEpoch, .bool x40.fCommit, .slice A44 x40.fTopics.length c45, .int .i64 x40.fCoordinator], RdR (oldRd w S (sliceRd 5 R19Mark_rd)) [.slice A19 x18.length c20] x18, OutR b11 st16, EmpR]) ?_ ?_
            · clear hk86
              obtain ⟨x87, hx88, h⟩ := Option.bind_eq_some_iff.1 h
              obtain ⟨x90, hx93, h⟩ := Option.bind_eq_some_iff.1 h
              obtain ⟨x95, hx96, h⟩ := Option.bind_eq_some_iff.1 h
              by_cases c97 : x87 = x95
              · replace h := ifT c97 h
                obtain ⟨x98, hx99, h⟩ := Option.bind_eq_some_iff.1 h
                obtain ⟨z100cs, z100cl, z100cc, z100nf, z100r⟩ := RX.elemS' (by decide) hS hSF hx99
                obtain ⟨A101, c102, rfl, z100s0⟩ := z100r
                have hX103 : (RX.of (sliceRd 2 Top_rd) [.slice A101 x98.fTopics.length c102] x98.fTopics).reads w F := ⟨S, z100s0, hSF⟩
                obtain ⟨x104, hx105, h⟩ := Option.bind_eq_some_iff.1 h
                obtain ⟨x107, hx110, h⟩ := Option.bind_eq_some_iff.1 h
                replace h := guard_some h
                obtain ⟨c112, h⟩ := h
                have hS114 := RX.takeS hS c112
                have hX113 : (RX.of (sliceRd 5 MarkMark_rd) [.slice (some ⟨gz43, oz43, none⟩) (a0.take 1).length c2] (a0.take 1)).reads w F := ⟨S, hS114, hSF⟩
                obtain ⟨x115, hx118, h⟩ := Option.bind_eq_some_iff.1 h
                obtain ⟨x119, hx120, h⟩ := Option.bind_eq_some_iff.1 h
                by_cases c121 : x104 = true
                · replace h := ifT c121 h
                  by_cases c122 : x119 = true
                  · replace h := ifT c122 h
                    refine T.join (fun e Rs => ∃ (b89 : Nat) (A91 : Option Addr) (c92 : Nat) (b106 : Nat) (A108 : Option Addr) (c109 : Nat) (A116 : Option Addr) (c117 : Nat), e = [(0, .slice (some ⟨gz43, oz43, none⟩) a0.length c2), (4, .bool y34), (5, .int .i64 (a1 % 2)), (7, .string (bsOf x14)), (9, .int .i64 x22), (11, .pointer (some ⟨b47, 0, none⟩)), (42, .slice (some ⟨gz43, oz43, none⟩) a0.length c2), (43, .int .i64 (a0.length : Int)), (44, .int .i64 (k35 : Int)), (45, .bool (decide ((k35 : Int) < (a0.length : Int)))), (46, .pointer (some ⟨gz43, oz43 + k35 * 5, none⟩)), (47, .agg #[.int .i64 x40.fProducer, .int .i64 x40.fEpoch, .bool x40.fCommit, .slice A44 x40.fTopics.length c45, .int .i64 x40.fCoordinator]), (71, .bool false)] ∧ Rs = [RdR (oldRd w S (sliceRd 5 R19Mark_rd)) [.slice A116 x115.length c117] x115, GrpR w S [OwnR 70 5 (oldRd w S MarkMark_rd) (.slice (some ⟨b106, 0, none⟩) 1 1) [x40]] [(⟨_, sliceRd 5 R19Mark_rd, [.slice A108 x107.length c109], x107⟩ : RO)], GrpR w S [OwnR 70 5 (oldRd w S MarkMark_rd) (.slice (some ⟨b89, 0, none⟩) 1 1) [x40]] [(⟨_, sliceRd 5 R19Mark_rd, [.slice A91 x90.length c92], x90⟩ : RO)], BlkR b47 70 #[.int .i64 x40.fProducer, .int .i64 x40.fEpoch, .bool x40.fCommit, .slice A44 x40.fTopics.length c45, .int .i64 x40.fCoordinator], RdR (oldRd w S (sliceRd 5 R19Mark_rd)) [.slice A19 x18.length c20] x18, OutR b11 st16, EmpR]) ?_ ?_
                    · refine T.draw (.q 0 (.q 1 (.q 3 (.q 6 (.br 2 (.e 4 (.e 5 (.e 7 (.q 8 (.q 9 (.q 10 (.q 11 (.q 12 (.q 13 (.q 15 (.q 18 (.q 19 (.br 14 (.e 16 (.e 17 (.e 20 (.e 21 (.q 22 (.q 23 .nil)))))) (.e 16 (.e 14 (.e 17 (.e 20 (.e 21 (.q 22 (.q 23 .nil)))))))))))))))))))) (.e 4 (.e 2 (.e 5 (.e 7 (.q 8 (.q 9 (.q 10 (.q 11 (.q 12 (.q 13 (.q 15 (.q 18 (.q 19 (.br 14 (.e 16 (.e 17 (.e 20 (.e 21 (.q 22 (.q 23 .nil)))))) (.e 16 (.e 14 (.e 17 (.e 20 (.e 21 (.q 22 (.q 23 .nil)))))))))))))))))))))))))) [0, 0, 0, 0] rfl mix_cursitorlaw19 np_jq (by kernel_rfl) ?_
                      refine TD.q rfl .u (Ex.bS (us := [.int .i64 x40.fProducer, .int .i64 x40.fEpoch, .bool x40.fCommit, .slice A44 x40.fTopics.length c45, .int .i64 x40.fCoordinator]) 0 rfl Try.isAgg70 Try.sizeOf70 rfl rfl rfl) rfl ?_
                      refine TD.run ft_cursitorlaw19_ok [1] rfl rfl ?_
                      refine TD.q rfl .u (Ex.bS (us := [.int .i64 x40.fProducer, .int .i64 x40.fEpoch, .bool x40.fCommit, .slice A44 x40.fTopics.length c45, .int .i64 x40.fCoordinator]) 0 rfl Try.isAgg70 Try.sizeOf70 rfl rfl rfl) rfl ?_
                      refine TD.run ft_cursitorlaw19_ok [6] rfl rfl ?_
                      refine TD.br ?_ ?_
                      · refine TD.ce rfl .u (.fn Try.call42 rfl) (f_mark_MarkCheck_spec x40 _ _ (a1 % 2) _ hx88) (fun _ hs => (SrcE.old hs hX46)) rfl [0, 0, 0, 0] (rfl) ?_
                        refine TD.lit (cells := #[.int .i64 x40.fProducer, .int .i64 x40.fEpoch, .bool x40.fCommit, .slice A44 x40.fTopics.length c45, .int .i64 x40.fCoordinator]) rfl .u sok_cursitorlaw19_55_1 rfl (by rfl) rfl [1, 1, 1, 1] (fun _ => rfl) (fun b89 => ?_)
                        refine TD.rowOf (us := [.int .i64 x40.fProducer, .int .i64 x40.fEpoch, .bool x40.fCommit, .slice A44 x40.fTopics.length c45, .int .i64 x40.fCoordinator]) (xs := [x40]) (E := (oldRd w S MarkMark_rd)) (z := 5) rfl (Nat.le_of_ble_eq_true rfl) (fun _ => ⟨rfl, old_in ⟨_, _, rfl, z43s0⟩, rfl⟩) ?_
                        refine TD.csn 1 rfl .u (.fn Try.call36 rfl) (f_l19_Of_spec [x40] _ _ _ hx93) (fun w1 G1 hG => (Sep.has 0 rfl hG (fun w G h => xold_own (by decide) w G h))) hSF rfl [1, 1, 1, 1] ?_ ?_
                        · rintro _ _ _ ⟨A91, c92, rfl, rfl, rfl⟩
                          rfl
                        rintro _ _ _ ⟨A91, c92, rfl, rfl, rfl⟩
                        refine TD.sel [0, 0, 0, 0, 0] rfl ?_
                        refine TD.ce rfl .u (.fn Try.call40 rfl) (f_r19_Check_spec x90 _ _ (a1 % 2) _ hx96) (fun _ hs => (SrcE.oldres 0 hs rfl (grp_lead 0 rfl) hSF)) rfl [1, 1, 1, 1] (rfl) ?_
                        refine TD.run ft_cursitorlaw19_ok [8, 9] rfl rfl ?_
                        refine TD.q rfl (.g rfl rfl (bn_f (decide_eq_true c97))) (Ex.bS (us := [.int .i64 x40.fProducer, .int .i64 x40.fEpoch, .bool x40.fCommit, .slice A44 x40.fTopics.length c45, .int .i64 x40.fCoordinator]) 0 rfl Try.isAgg70 Try.sizeOf70 rfl rfl rfl) rfl ?_
                        refine TD.q rfl (.g rfl rfl (bn_f (decide_eq_true c97))) (Ex.ft ft_cursitorlaw19_ok rfl) rfl ?_
                        refine TD.q rfl (.g rfl rfl (bn_f (decide_eq_true c97))) (Ex.ixS (k := 0) rfl rfl rfl Try.runUnderlying55 Try.sizeOf70 (List.getElem?_eq_some_iff.1 hx99).1) rfl ?_
                        refine TD.q rfl (.g rfl rfl (bn_f (decide_eq_true c97))) (Ex.oS (us := [.int .i64 x98.fProducer, .int .i64 x98.fEpoch, .bool x98.fCommit, .slice A101 x98.fTopics.length c102, .int .i64 x98.fCoordinator]) 0 rfl Try.isAgg70 Try.sizeOf70 z100nf z100cc rfl rfl rfl) rfl ?_
                        refine TD.q rfl (.g rfl rfl (bn_f (decide_eq_true c97))) (Ex.bS (us := [.int .i64 x40.fProducer, .int .i64 x40.fEpoch, .bool x40.fCommit, .slice A44 x40.fTopics.length c45, .int .i64 x40.fCoordinator]) 0 rfl Try.isAgg70 Try.sizeOf70 rfl rfl rfl) rfl ?_
                        refine TD.q rfl (.g rfl rfl (bn_f (decide_eq_true c97))) (Ex.ft ft_cursitorlaw19_ok rfl) rfl ?_
                        refine TD.q rfl (.g rfl rfl (bn_f (decide_eq_true c97))) (Ex.slT (mm := (a0.take 1).length) (k := 1) rfl Try.runUnderlying55 Try.sizeOf70 (.some rfl rfl) (Nat.le_trans c112 (RX.capS hS)) (by rw [List.length_take]; omega)) rfl ?_
                        refine TD.br ?_ ?_
                        · refine TD.ce rfl (.g rfl rfl (bn_f (decide_eq_true c97))) (.fn Try.call43 rfl) (f_mark_Same_spec x40 _ _ x98 _ _ _ hx105) (fun _ hs => (RX.reads_and (SrcE.old hs hX46) (SrcE.old hs hX103))) rfl [1, 1, 1, 1] (rfl) ?_
                          refine TD.lit (cells := #[.int .i64 x40.fProducer, .int .i64 x40.fEpoch, .bool x40.fCommit, .slice A44 x40.fTopics.length c45, .int .i64 x40.fCoordinator]) rfl (.g rfl rfl (bn_f (decide_eq_true c97))) sok_cursitorlaw19_55_1 rfl (by rfl) rfl [2, 2, 2, 2] (fun _ => rfl) (fun b106 => ?_)
                          refine TD.rowOf (us := [.int .i64 x40.fProducer, .int .i64 x40.fEpoch, .bool x40.fCommit, .slice A44 x40.fTopics.length c45, .int .i64 x40.fCoordinator]) (xs := [x40]) (E := (oldRd w S MarkMark_rd)) (z := 5) rfl (Nat.le_of_ble_eq_true rfl) (fun _ => ⟨rfl, old_in ⟨_, _, rfl, z43s0⟩, rfl⟩) ?_
                          refine TD.csn 1 rfl (.g rfl rfl (bn_f (decide_eq_true c97))) (.fn Try.call36 rfl) (f_l19_Of_spec [x40] _ _ _ hx110) (fun w1 G1 hG => (Sep.has 0 rfl hG (fun w G h => xold_own (by decide) w G h))) hSF rfl [2, 2, 2, 2] ?_ ?_
                          · rintro _ _ _ ⟨A108, c109, rfl, rfl, rfl⟩
                            rfl
                          rintro _ _ _ ⟨A108, c109, rfl, rfl, rfl⟩
                          refine TD.sel [0, 0, 0, 0, 0, 0] rfl ?_
                          refine TD.cso  rfl (.g rfl rfl (bn_f (decide_eq_true c97))) (.fn Try.call36 rfl) (f_l19_Of_spec (a0.take 1) _ _ _ hx118) hS114 hSF rfl [3, 3, 3, 3] ?_ ?_
                          · rintro _ _ _ ⟨A116, c117, rfl, rfl, rfl⟩
                            rfl
                          rintro _ _ _ ⟨A116, c117, rfl, rfl, rfl⟩
                          refine TD.sel [0, 0, 0, 0, 0, 0, 0] rfl ?_
                          refine TD.ce rfl (.g rfl rfl (bn_f (decide_eq_true c97))) (.fn Try.call35 rfl) (f_r19_Same_spec x107 _ _ x115 _ _ _ hx120) (fun _ hs => (RX.reads_and (SrcE.oldres 1 hs rfl (grp_lead 0 rfl) hSF) (SrcE.oldres 0 hs rfl xold_rd hSF))) rfl [3, 3, 3, 3] (rfl) ?_
                          refine TD.q rfl (.g rfl rfl (bn_f (decide_eq_true c97))) (Ex.bNe rfl c121 rfl c122 Try.runUnderlying4) rfl ?_
                          refine TD.q rfl .u (Ex.pn rfl (bn_f (decide_eq_true c97)) rfl) rfl ?_
                          exact TD.nil (X.jn [0, 0, 0, 0, 0, 0, 0] ⟨b89, A91, c92, b106, A108, c109, A116, c117, rfl, rfl⟩ (by rfl) (by rfl))
                        · refine TD.lit (cells := #[.int .i64 x40.fProducer, .int .i64 x40.fEpoch, .bool x40.fCommit, .slice A44 x40.fTopics.length c45, .int .i64 x40.fCoordinator]) rfl (.g rfl rfl (bn_f (decide_eq_true c97))) sok_cursitorlaw19_55_1 rfl (by rfl) rfl [2, 2, 2, 2] (fun _ => rfl) (fun b106 => ?_)
                          refine TD.rowOf (us := [.int .i64 x40.fProducer, .int .i64 x40.fEpoch, .bool x40.fCommit, .slice A44 x40.fTopics.length c45, .int .i64 x40.fCoordinator]) (xs := [x40]) (E := (oldRd w S MarkMark_rd)) (z := 5) rfl (Nat.le_of_ble_eq_true rfl) (fun _ => ⟨rfl, old_in ⟨_, _, rfl, z43s0⟩, rfl⟩) ?_
                          refine TD.ce rfl (.g rfl rfl (bn_f (decide_eq_true c97))) (.fn Try.call43 rfl) (f_mark_Same_spec x40 _ _ x98 _ _ _ hx105) (fun _ hs => (RX.reads_and (SrcE.old hs hX46) (SrcE.old hs hX103))) rfl [2, 2, 2, 2] (rfl) ?_
                          refine TD.csn 1 rfl (.g rfl rfl (bn_f (decide_eq_true c97))) (.fn Try.call36 rfl) (f_l19_Of_spec [x40] _ _ _ hx110) (fun w1 G1 hG => (Sep.has 0 rfl hG (fun w G h => xold_own (by decide) w G h))) hSF rfl [2, 2, 2, 2] ?_ ?_
                          · rintro _ _ _ ⟨A108, c109, rfl, rfl, rfl⟩
                            rfl
                          rintro _ _ _ ⟨A108, c109, rfl, rfl, rfl⟩
                          refine TD.sel [0, 0, 0, 0, 0, 0] rfl ?_
                          refine TD.cso  rfl (.g rfl rfl (bn_f (decide_eq_true c97))) (.fn Try.call36 rfl) (f_l19_Of_spec (a0.take 1) _ _ _ hx118) hS114 hSF rfl [3, 3, 3, 3] ?_ ?_
                          · rintro _ _ _ ⟨A116, c117, rfl, rfl, rfl⟩
                            rfl
                          rintro _ _ _ ⟨A116, c117, rfl, rfl, rfl⟩
                          refine TD.sel [0, 0, 0, 0, 0, 0, 0] rfl ?_
                          refine TD.ce rfl (.g rfl rfl (bn_f (decide_eq_true c97))) (.fn Try.call35 rfl) (f_r19_Same_spec x107 _ _ x115 _ _ _ hx120) (fun _ hs => (RX.reads_and (SrcE.oldres 1 hs rfl (grp_lead 0 rfl) hSF) (SrcE.oldres 0 hs rfl xold_rd hSF))) rfl [3, 3, 3, 3] (rfl) ?_
                          refine TD.q rfl (.g rfl rfl (bn_f (decide_eq_true c97))) (Ex.bNe rfl c121 rfl c122 Try.runUnderlying4) rfl ?_
                          refine TD.q rfl .u (Ex.pn rfl (bn_f (decide_eq_true c97)) rfl) rfl ?_
                          exact TD.nil (X.jn [0, 0, 0, 0, 0, 0, 0] ⟨b89, A91, c92, b106, A108, c109, A116, c117, rfl, rfl⟩ (by rfl) (by rfl))
                      · refine TD.lit (cells := #[.int .i64 x40.fProducer, .int .i64 x40.fEpoch, .bool x40.fCommit, .slice A44 x40.fTopics.length c45, .int .i64 x40.fCoordinator]) rfl .u sok_cursitorlaw19_55_1 rfl (by rfl) rfl [1, 1, 1, 1] (fun _ => rfl) (fun b89 => ?_)
                        refine TD.rowOf (us := [.int .i64 x40.fProducer, .int .i64 x40.fEpoch, .bool x40.fCommit, .slice A44 x40.fTopics.length c45, .int .i64 x40.fCoordinator]) (xs := [x40]) (E := (oldRd w S MarkMark_rd)) (z := 5) rfl (Nat.le_of_ble_eq_true rfl) (fun _ => ⟨rfl, old_in ⟨_, _, rfl, z43s0⟩, rfl⟩) ?_
                        refine TD.ce rfl .u (.fn Try.call42 rfl) (f_mark_MarkCheck_spec x40 _ _ (a1 % 2) _ hx88) (fun _ hs => (SrcE.old hs hX46)) rfl [1, 1, 1, 1] (rfl) ?_
                        refine TD.csn 1 rfl .u (.fn Try.call36 rfl) (f_l19_Of_spec [x40] _ _ _ hx93) (fun w1 G1 hG => (Sep.has 0 rfl hG (fun w G h => xold_own (by decide) w G h))) hSF rfl [1, 1, 1, 1] ?_ ?_
                        · rintro _ _ _ ⟨A91, c92, rfl, rfl, rfl⟩
                          rfl
                        rintro _ _ _ ⟨A91, c92, rfl, rfl, rfl⟩
                        refine TD.sel [0, 0, 0, 0, 0] rfl ?_
                        refine TD.ce rfl .u (.fn Try.call40 rfl) (f_r19_Check_spec x90 _ _ (a1 % 2) _ hx96) (fun _ hs => (SrcE.oldres 0 hs rfl (grp_lead 0 rfl) hSF)) rfl [1, 1, 1, 1] (rfl) ?_
                        refine TD.run ft_cursitorlaw19_ok [8, 9] rfl rfl ?_
                        refine TD.q rfl (.g rfl rfl (bn_f (decide_eq_true c97))) (Ex.bS (us := [.int .i64 x40.fProducer, .int .i64 x40.fEpoch, .bool x40.fCommit, .slice A44 x40.fTopics.length c45, .int .i64 x40.fCoordinator]) 0 rfl Try.isAgg70 Try.sizeOf70 rfl rfl rfl) rfl ?_
                        refine TD.q rfl (.g rfl rfl (bn_f (decide_eq_true c97))) (Ex.ft ft_cursitorlaw19_ok rfl) rfl ?_
                        refine TD.q rfl (.g rfl rfl (bn_f (decide_eq_true c97))) (Ex.ixS (k := 0) rfl rfl rfl Try.runUnderlying55 Try.sizeOf70 (List.getElem?_eq_some_iff.1 hx99).1) rfl ?_
                        refine TD.q rfl (.g rfl rfl (bn_f (decide_eq_true c97))) (Ex.oS (us := [.int .i64 x98.fProducer, .int .i64 x98.fEpoch, .bool x98.fCommit, .slice A101 x98.fTopics.length c102, .int .i64 x98.fCoordinator]) 0 rfl Try.isAgg70 Try.sizeOf70 z100nf z100cc rfl rfl rfl) rfl ?_
                        refine TD.q rfl (.g rfl rfl (bn_f (decide_eq_true c97))) (Ex.bS (us := [.int .i64 x40.fProducer, .int .i64 x40.fEpoch, .bool x40.fCommit, .slice A44 x40.fTopics.length c45, .int .i64 x40.fCoordinator]) 0 rfl Try.isAgg70 Try.sizeOf70 rfl rfl rfl) rfl ?_
                        refine TD.q rfl (.g rfl rfl (bn_f (decide_eq_true c97))) (Ex.ft ft_cursitorlaw19_ok rfl) rfl ?_
                        refine TD.q rfl (.g rfl rfl (bn_f (decide_eq_true c97))) (Ex.slT (mm := (a0.take 1).length) (k := 1) rfl Try.runUnderlying55 Try.sizeOf70 (.some rfl rfl) (Nat.le_trans c112 (RX.capS hS)) (by rw [List.length_take]; omega)) rfl ?_
                        refine TD.br ?_ ?_
                        · refine TD.ce rfl (.g rfl rfl (bn_f (decide_eq_true c97))) (.fn Try.call43 rfl) (f_mark_Same_spec x40 _ _ x98 _ _ _ hx105) (fun _ hs => (RX.reads_and (SrcE.old hs hX46) (SrcE.old hs hX103))) rfl [1, 1, 1, 1] (rfl) ?_
                          refine TD.lit (cells := #[.int .i64 x40.fProducer, .int .i64 x40.fEpoch, .bool x40.fCommit, .slice A44 x40.fTopics.length c45, .int .i64 x40.fCoordinator]) rfl (.g rfl rfl (bn_f (decide_eq_true c97))) sok_cursitorlaw19_55_1 rfl (by rfl) rfl [2, 2, 2, 2] (fun _ => rfl) (fun b106 => ?_)
                          refine TD.rowOf (us := [.int .i64 x40.fProducer, .int .i64 x40.fEpoch, .bool x40.fCommit, .slice A44 x40.fTopics.length c45, .int .i64 x40.fCoordinator]) (xs := [x40]) (E := (oldRd w S MarkMark_rd)) (z := 5) rfl (Nat.le_of_ble_eq_true rfl) (fun _ => ⟨rfl, old_in ⟨_, _, rfl, z43s0⟩, rfl⟩) ?_
                          refine TD.csn 1 rfl (.g rfl rfl (bn_f (decide_eq_true c97))) (.fn Try.call36 rfl) (f_l19_Of_spec [x40] _ _ _ hx110) (fun w1 G1 hG => (Sep.has 0 rfl hG (fun w G h => xold_own (by decide) w G h))) hSF rfl [2, 2, 2, 2] ?_ ?_
                          · rintro _ _ _ ⟨A108, c109, rfl, rfl, rfl⟩
                            rfl
                          rintro _ _ _ ⟨A108, c109, rfl, rfl, rfl⟩
                          refine TD.sel [0, 0, 0, 0, 0, 0] rfl ?_
                          refine TD.cso  rfl (.g rfl rfl (bn_f (decide_eq_true c97))) (.fn Try.call36 rfl) (f_l19_Of_spec (a0.take 1) _ _ _ hx118) hS114 hSF rfl [3, 3, 3, 3] ?_ ?_
                          · rintro _ _ _ ⟨A116, c117, rfl, rfl, rfl⟩
                            rfl
                          rintro _ _ _ ⟨A116, c117, rfl, rfl, rfl⟩
                          refine TD.sel [0, 0, 0, 0, 0, 0, 0] rfl ?_
                          refine TD.ce rfl (.g rfl rfl (bn_f (decide_eq_true c97))) (.fn Try.call35 rfl) (f_r19_Same_spec x107 _ _ x115 _ _ _ hx120) (fun _ hs => (RX.reads_and (SrcE.oldres 1 hs rfl (grp_lead 0 rfl) hSF) (SrcE.oldres 0 hs rfl xold_rd hSF))) rfl [3, 3, 3, 3] (rfl) ?_
                          refine TD.q rfl (.g rfl rfl (bn_f (decide_eq_true c97))) (Ex.bNe rfl c121 rfl c122 Try.runUnderlying4) rfl ?_
                          refine TD.q rfl .u (Ex.pn rfl (bn_f (decide_eq_true c97)) rfl) rfl ?_
                          exact TD.nil (X.jn [0, 0, 0, 0, 0, 0, 0] ⟨b89, A91, c92, b106, A108, c109, A116, c117, rfl, rfl⟩ (by rfl) (by rfl))
                        · refine TD.lit (cells := #[.int .i64 x40.fProducer, .int .i64 x40.fEpoch, .bool x40.fCommit, .slice A44 x40.fTopics.length c45, .int .i64 x40.fCoordinator]) rfl (.g rfl rfl (bn_f (decide_eq_true c97))) sok_cursitorlaw19_55_1 rfl (by rfl) rfl [2, 2, 2, 2] (fun _ => rfl) (fun b106 => ?_)
                          refine TD.rowOf (us := [.int .i64 x40.fProducer, .int .i64 x40.fEpoch, .bool x40.fCommit, .slice A44 x40.fTopics.length c45, .int .i64 x40.fCoordinator]) (xs := [x40]) (E := (oldRd w S MarkMark_rd)) (z := 5) rfl (Nat.le_of_ble_eq_true rfl) (fun _ => ⟨rfl, old_in ⟨_, _, rfl, z43s0⟩, rfl⟩) ?_
                          refine TD.ce rfl (.g rfl rfl (bn_f (decide_eq_true c97))) (.fn Try.call43 rfl) (f_mark_Same_spec x40 _ _ x98 _ _ _ hx105) (fun _ hs => (RX.reads_and (SrcE.old hs hX46) (SrcE.old hs hX103))) rfl [2, 2, 2, 2] (rfl) ?_
                          refine TD.csn 1 rfl (.g rfl rfl (bn_f (decide_eq_true c97))) (.fn Try.call36 rfl) (f_l19_Of_spec [x40] _ _ _ hx110) (fun w1 G1 hG => (Sep.has 0 rfl hG (fun w G h => xold_own (by decide) w G h))) hSF rfl [2, 2, 2, 2] ?_ ?_
                          · rintro _ _ _ ⟨A108, c109, rfl, rfl, rfl⟩
                            rfl
                          rintro _ _ _ ⟨A108, c109, rfl, rfl, rfl⟩
                          refine TD.sel [0, 0, 0, 0, 0, 0] rfl ?_
                          refine TD.cso  rfl (.g rfl rfl (bn_f (decide_eq_true c97))) (.fn Try.call36 rfl) (f_l19_Of_spec (a0.take 1) _ _ _ hx118) hS114 hSF rfl [3, 3, 3, 3] ?_ ?_
                          · rintro _ _ _ ⟨A116, c117, rfl, rfl, rfl⟩
                            rfl
                          rintro _ _ _ ⟨A116, c117, rfl, rfl, rfl⟩
                          refine TD.sel [0, 0, 0, 0, 0, 0, 0] rfl ?_
                          refine TD.ce rfl (.g rfl rfl (bn_f (decide_eq_true c97))) (.fn Try.call35 rfl) (f_r19_Same_spec x107 _ _ x115 _ _ _ hx120) (fun _ hs => (RX.reads_and (SrcE.oldres 1 hs rfl (grp_lead 0 rfl) hSF) (SrcE.oldres 0 hs rfl xold_rd hSF))) rfl [3, 3, 3, 3] (rfl) ?_
                          refine TD.q rfl (.g rfl rfl (bn_f (decide_eq_true c97))) (Ex.bNe rfl c121 rfl c122 Try.runUnderlying4) rfl ?_
                          refine TD.q rfl .u (Ex.pn rfl (bn_f (decide_eq_true c97)) rfl) rfl ?_
                          exact TD.nil (X.jn [0, 0, 0, 0, 0, 0, 0] ⟨b89, A91, c92, b106, A108, c109, A116, c117, rfl, rfl⟩ (by rfl) (by rfl))
                    · rintro _ _ ⟨b89, A91, c92, b106, A108, c109, A116, c117, rfl, rfl⟩
                      refine X.ungrp 1 rfl ?_
                      refine X.sel [0, 0, 0, 0, 0, 0, 0] rfl ?_
                      refine X.ungrp 2 rfl ?_
                      refine X.sel [0, 0, 0, 0, 0, 0, 0] rfl ?_
                      cases h
                      exact X.jq [3, 3, 3, 3] ⟨rfl, rfl⟩ (by rfl) (by rfl)
                  · replace h := ifF c122 h
                    replace c122 := eq_false_of_ne_true c122
                    refine T.join (fun e Rs => ∃ (b89 : Nat) (A91 : Option Addr) (c92 : Nat) (b106 : Nat) (A108 : Option Addr) (c109 : Nat) (A116 : Option Addr) (c117 : Nat), e = [(0, .slice (some ⟨gz43, oz43, none⟩) a0.length c2), (4, .bool y34), (5, .int .i64 (a1 % 2)), (7, .string (bsOf x14)), (9, .int .i64 x22), (11, .pointer (some ⟨b47, 0, none⟩)), (42, .slice (some ⟨gz43, oz43, none⟩) a0.length c2), (43, .int .i64 (a0.length : Int)), (44, .int .i64 (k35 : Int)), (45, .bool (decide ((k35 : Int) < (a0.length : Int)))), (46, .pointer (some ⟨gz43, oz43 + k35 * 5, none⟩)), (47, .agg #[.int .i64 x40.fProducer, .int .i64 x40.fEpoch, .bool x40.fCommit, .slice A44 x40.fTopics.length c45, .int .i64 x40.fCoordinator]), (71, .bool true)] ∧ Rs = [RdR (oldRd w S (sliceRd 5 R19Mark_rd)) [.slice A116 x115.length c117] x115, GrpR w S [OwnR 70 5 (oldRd w S MarkMark_rd) (.slice (some ⟨b106, 0, none⟩) 1 1) [x40]] [(⟨_, sliceRd 5 R19Mark_rd, [.slice A108 x107.length c109], x107⟩ : RO)], GrpR w S [OwnR 70 5 (oldRd w S MarkMark_rd) (.slice (some ⟨b89, 0, none⟩) 1 1) [x40]] [(⟨_, sliceRd 5 R19Mark_rd, [.slice A91 x90.length c92], x90⟩ : RO)], BlkR b47 70 #[.int .i64 x40.fProducer, .int .i64 x40.fEpoch, .bool x40.fCommit, .slice A44 x40.fTopics.length c45, .int .i64 x40.fCoordinator], RdR (oldRd w S (sliceRd 5 R19Mark_rd)) [.slice A19 x18.length c20] x18, OutR b11 st16, EmpR]) ?_ ?_
                    · refine T.draw (.q 0 (.q 1 (.q 3 (.q 6 (.br 2 (.e 4 (.e 5 (.e 7 (.q 8 (.q 9 (.q 10 (.q 11 (.q 12 (.q 13 (.q 15 (.q 18 (.q 19 (.br 14 (.e 16 (.e 17 (.e 20 (.e 21 (.q 22 (.q 23 .nil)))))) (.e 16 (.e 14 (.e 17 (.e 20 (.e 21 (.q 22 (.q 23 .nil)))))))))))))))))))) (.e 4 (.e 2 (.e 5 (.e 7 (.q 8 (.q 9 (.q 10 (.q 11 (.q 12 (.q 13 (.q 15 (.q 18 (.q 19 (.br 14 (.e 16 (.e 17 (.e 20 (.e 21 (.q 22 (.q 23 .nil)))))) (.e 16 (.e 14 (.e 17 (.e 20 (.e 21 (.q 22 (.q 23 .nil)))))))))))))))))))))))))) [0, 0, 0, 0] rfl mix_cursitorlaw19 np_jq (by kernel_rfl) ?_
                      refine TD.q rfl .u (Ex.bS (us := [.int .i64 x40.fProducer, .int .i64 x40.fEpoch, .bool x40.fCommit, .slice A44 x40.fTopics.length c45, .int .i64 x40.fCoordinator]) 0 rfl Try.isAgg70 Try.sizeOf70 rfl rfl rfl) rfl ?_
                      refine TD.run ft_cursitorlaw19_ok [1] rfl rfl ?_
                      refine TD.q rfl .u (Ex.bS (us := [.int .i64 x40.fProducer, .int .i64 x40.fEpoch, .bool x40.fCommit, .slice A44 x40.fTopics.length c45, .int .i64 x40.fCoordinator]) 0 rfl Try.isAgg70 Try.sizeOf70 rfl rfl rfl) rfl ?_
                      refine TD.run ft_cursitorlaw19_ok [6] rfl rfl ?_
                      refine TD.br ?_ ?_
                      · refine TD.ce rfl .u (.fn Try.call42 rfl) (f_mark_MarkCheck_spec x40 _ _ (a1 % 2) _ hx88) (fun _ hs => (SrcE.old hs hX46)) rfl [0, 0, 0, 0] (rfl) ?_
                        refine TD.lit (cells := #[.int .i64 x40.fProducer, .int .i64 x40.fEpoch, .bool x40.fCommit, .slice A44 x40.fTopics.length c45, .int .i64 x40.fCoordinator]) rfl .u sok_cursitorlaw19_55_1 rfl (by rfl) rfl [1, 1, 1, 1] (fun _ => rfl) (fun b89 => ?_)
                        refine TD.rowOf (us := [.int .i64 x40.fProducer, .int .i64 x40.fEpoch, .bool x40.fCommit, .slice A44 x40.fTopics.length c45, .int .i64 x40.fCoordinator]) (xs := [x40]) (E := (oldRd w S MarkMark_rd)) (z := 5) rfl (Nat.le_of_ble_eq_true rfl) (fun _ => ⟨rfl, old_in ⟨_, _, rfl, z43s0⟩, rfl⟩) ?_
                        refine TD.csn 1 rfl .u (.fn Try.call36 rfl) (f_l19_Of_spec [x40] _ _ _ hx93) (fun w1 G1 hG => (Sep.has 0 rfl hG (fun w G h => xold_own (by decide) w G h))) hSF rfl [1, 1, 1, 1] ?_ ?_
                        · rintro _ _ _ ⟨A91, c92, rfl, rfl, rfl⟩
                          rfl
                        rintro _ _ _ ⟨A91, c92, rfl, rfl, rfl⟩
                        refine TD.sel [0, 0, 0, 0, 0] rfl ?_
                        refine TD.ce rfl .u (.fn Try.call40 rfl) (f_r19_Check_spec x90 _ _ (a1 % 2) _ hx96) (fun _ hs => (SrcE.oldres 0 hs rfl (grp_lead 0 rfl) hSF)) rfl [1, 1, 1, 1] (rfl) ?_
                        refine TD.run ft_cursitorlaw19_ok [8, 9] rfl rfl ?_
                        refine TD.q rfl (.g rfl rfl (bn_f (decide_eq_true c97))) (Ex.bS (us := [.int .i64 x40.fProducer, .int .i64 x40.fEpoch, .bool x40.fCommit, .slice A44 x40.fTopics.length c45, .int .i64 x40.fCoordinator]) 0 rfl Try.isAgg70 Try.sizeOf70 rfl rfl rfl) rfl ?_
                        refine TD.q rfl (.g rfl rfl (bn_f (decide_eq_true c97))) (Ex.ft ft_cursitorlaw19_ok rfl) rfl ?_
                        refine TD.q rfl (.g rfl rfl (bn_f (decide_eq_true c97))) (Ex.ixS (k := 0) rfl rfl rfl Try.runUnderlying55 Try.sizeOf70 (List.getElem?_eq_some_iff.1 hx99).1) rfl ?_
                        refine TD.q rfl (.g rfl rfl (bn_f (decide_eq_true c97))) (Ex.oS (us := [.int .i64 x98.fProducer, .int .i64 x98.fEpoch, .bool x98.fCommit, .slice A101 x98.fTopics.length c102, .int .i64 x98.fCoordinator]) 0 rfl Try.isAgg70 Try.sizeOf70 z100nf z100cc rfl rfl rfl) rfl ?_
                        refine TD.q rfl (.g rfl rfl (bn_f (decide_eq_true c97))) (Ex.bS (us := [.int .i64 x40.fProducer, .int .i64 x40.fEpoch, .bool x40.fCommit, .slice A44 x40.fTopics.length c45, .int .i64 x40.fCoordinator]) 0 rfl Try.isAgg70 Try.sizeOf70 rfl rfl rfl) rfl ?_
                        refine TD.q rfl (.g rfl rfl (bn_f (decide_eq_true c97))) (Ex.ft ft_cursitorlaw19_ok rfl) rfl ?_
                        refine TD.q rfl (.g rfl rfl (bn_f (decide_eq_true c97))) (Ex.slT (mm := (a0.take 1).length) (k := 1) rfl Try.runUnderlying55 Try.sizeOf70 (.some rfl rfl) (Nat.le_trans c112 (RX.capS hS)) (by rw [List.length_take]; omega)) rfl ?_
                        refine TD.br ?_ ?_
                        · refine TD.ce rfl (.g rfl rfl (bn_f (decide_eq_true c97))) (.fn Try.call43 rfl) (f_mark_Same_spec x40 _ _ x98 _ _ _ hx105) (fun _ hs => (RX.reads_and (SrcE.old hs hX46) (SrcE.old hs hX103))) rfl [1, 1, 1, 1] (rfl) ?_
                          refine TD.lit (cells := #[.int .i64 x40.fProducer, .int .i64 x40.fEpoch, .bool x40.fCommit, .slice A44 x40.fTopics.length c45, .int .i64 x40.fCoordinator]) rfl (.g rfl rfl (bn_f (decide_eq_true c97))) sok_cursitorlaw19_55_1 rfl (by rfl) rfl [2, 2, 2, 2] (fun _ => rfl) (fun b106 => ?_)
                          refine TD.rowOf (us := [.int .i64 x40.fProducer, .int .i64 x40.fEpoch, .bool x40.fCommit, .slice A44 x40.fTopics.length c45, .int .i64 x40.fCoordinator]) (xs := [x40]) (E := (oldRd w S MarkMark_rd)) (z := 5) rfl (Nat.le_of_ble_eq_true rfl) (fun _ => ⟨rfl, old_in ⟨_, _, rfl, z43s0⟩, rfl⟩) ?_
                          refine TD.csn 1 rfl (.g rfl rfl (bn_f (decide_eq_true c97))) (.fn Try.call36 rfl) (f_l19_Of_spec [x40] _ _ _ hx110) (fun w1 G1 hG => (Sep.has 0 rfl hG (fun w G h => xold_own (by decide) w G h))) hSF rfl [2, 2, 2, 2] ?_ ?_
                          · rintro _ _ _ ⟨A108, c109, rfl, rfl, rfl⟩
                            rfl
                          rintro _ _ _ ⟨A108, c109, rfl, rfl, rfl⟩
                          refine TD.sel [0, 0, 0, 0, 0, 0] rfl ?_
                          refine TD.cso  rfl (.g rfl rfl (bn_f (decide_eq_true c97))) (.fn Try.call36 rfl) (f_l19_Of_spec (a0.take 1) _ _ _ hx118) hS114 hSF rfl [3, 3, 3, 3] ?_ ?_
                          · rintro _ _ _ ⟨A116, c117, rfl, rfl, rfl⟩
                            rfl
                          rintro _ _ _ ⟨A116, c117, rfl, rfl, rfl⟩
                          refine TD.sel [0, 0, 0, 0, 0, 0, 0] rfl ?_
                          refine TD.ce rfl (.g rfl rfl (bn_f (decide_eq_true c97))) (.fn Try.call35 rfl) (f_r19_Same_spec x107 _ _ x115 _ _ _ hx120) (fun _ hs => (RX.reads_and (SrcE.oldres 1 hs rfl (grp_lead 0 rfl) hSF) (SrcE.oldres 0 hs rfl xold_rd hSF))) rfl [3, 3, 3, 3] (rfl) ?_
                          refine TD.q rfl (.g rfl rfl (bn_f (decide_eq_true c97))) (Ex.bNe rfl c121 rfl c122 Try.runUnderlying4) rfl ?_
                          refine TD.q rfl .u (Ex.pn rfl (bn_f (decide_eq_true c97)) rfl) rfl ?_
                          exact TD.nil (X.jn [0, 0, 0, 0, 0, 0, 0] ⟨b89, A91, c92, b106, A108, c109, A116, c117, rfl, rfl⟩ (by rfl) (by rfl))
                        · refine TD.lit (cells := #[.int .i64 x40.fProducer, .int .i64 x40.fEpoch, .bool x40.fCommit, .slice A44 x40.fTopics.length c45, .int .i64 x40.fCoordinator]) rfl (.g rfl rfl (bn_f (decide_eq_true c97))) sok_cursitorlaw19_55_1 rfl (by rfl) rfl [2, 2, 2, 2] (fun _ => rfl) (fun b106 => ?_)
                          refine TD.rowOf (us := [.int .i64 x40.fProducer, .int .i64 x40.fEpoch, .bool x40.fCommit, .slice A44 x40.fTopics.length c45, .int .i64 x40.fCoordinator]) (xs := [x40]) (E := (oldRd w S MarkMark_rd)) (z := 5) rfl (Nat.le_of_ble_eq_true rfl) (fun _ => ⟨rfl, old_in ⟨_, _, rfl, z43s0⟩, rfl⟩) ?_
                          refine TD.ce rfl (.g rfl rfl (bn_f (decide_eq_true c97))) (.fn Try.call43 rfl) (f_mark_Same_spec x40 _ _ x98 _ _ _ hx105) (fun _ hs => (RX.reads_and (SrcE.old hs hX46) (SrcE.old hs hX103))) rfl [2, 2, 2, 2] (rfl) ?_
                          refine TD.csn 1 rfl (.g rfl rfl (bn_f (decide_eq_true c97))) (.fn Try.call36 rfl) (f_l19_Of_spec [x40] _ _ _ hx110) (fun w1 G1 hG => (Sep.has 0 rfl hG (fun w G h => xold_own (by decide) w G h))) hSF rfl [2, 2, 2, 2] ?_ ?_
                          · rintro _ _ _ ⟨A108, c109, rfl, rfl, rfl⟩
                            rfl
                          rintro _ _ _ ⟨A108, c109, rfl, rfl, rfl⟩
                          refine TD.sel [0, 0, 0, 0, 0, 0] rfl ?_
                          refine TD.cso  rfl (.g rfl rfl (bn_f (decide_eq_true c97))) (.fn Try.call36 rfl) (f_l19_Of_spec (a0.take 1) _ _ _ hx118) hS114 hSF rfl [3, 3, 3, 3] ?_ ?_
                          · rintro _ _ _ ⟨A116, c117, rfl, rfl, rfl⟩
                            rfl
                          rintro _ _ _ ⟨A116, c117, rfl, rfl, rfl⟩
                          refine TD.sel [0, 0, 0, 0, 0, 0, 0] rfl ?_
                          refine TD.ce rfl (.g rfl rfl (bn_f (decide_eq_true c97))) (.fn Try.call35 rfl) (f_r19_Same_spec x107 _ _ x115 _ _ _ hx120) (fun _ hs => (RX.reads_and (SrcE.oldres 1 hs rfl (grp_lead 0 rfl) hSF) (SrcE.oldres 0 hs rfl xold_rd hSF))) rfl [3, 3, 3, 3] (rfl) ?_
                          refine TD.q rfl (.g rfl rfl (bn_f (decide_eq_true c97))) (Ex.bNe rfl c121 rfl c122 Try.runUnderlying4) rfl ?_
                          refine TD.q rfl .u (Ex.pn rfl (bn_f (decide_eq_true c97)) rfl) rfl ?_
                          exact TD.nil (X.jn [0, 0, 0, 0, 0, 0, 0] ⟨b89, A91, c92, b106, A108, c109, A116, c117, rfl, rfl⟩ (by rfl) (by rfl))
                      · refine TD.lit (cells := #[.int .i64 x40.fProducer, .int .i64 x40.fEpoch, .bool x40.fCommit, .slice A44 x40.fTopics.length c45, .int .i64 x40.fCoordinator]) rfl .u sok_cursitorlaw19_55_1 rfl (by rfl) rfl [1, 1, 1, 1] (fun _ => rfl) (fun b89 => ?_)
                        refine TD.rowOf (us := [.int .i64 x40.fProducer, .int .i64 x40.fEpoch, .bool x40.fCommit, .slice A44 x40.fTopics.length c45, .int .i64 x40.fCoordinator]) (xs := [x40]) (E := (oldRd w S MarkMark_rd)) (z := 5) rfl (Nat.le_of_ble_eq_true rfl) (fun _ => ⟨rfl, old_in ⟨_, _, rfl, z43s0⟩, rfl⟩) ?_
                        refine TD.ce rfl .u (.fn Try.call42 rfl) (f_mark_MarkCheck_spec x40 _ _ (a1 % 2) _ hx88) (fun _ hs => (SrcE.old hs hX46)) rfl [1, 1, 1, 1] (rfl) ?_
                        refine TD.csn 1 rfl .u (.fn Try.call36 rfl) (f_l19_Of_spec [x40] _ _ _ hx93) (fun w1 G1 hG => (Sep.has 0 rfl hG (fun w G h => xold_own (by decide) w G h))) hSF rfl [1, 1, 1, 1] ?_ ?_
                        · rintro _ _ _ ⟨A91, c92, rfl, rfl, rfl⟩
                          rfl
                        rintro _ _ _ ⟨A91, c92, rfl, rfl, rfl⟩
                        refine TD.sel [0, 0, 0, 0, 0] rfl ?_
                        refine TD.ce rfl .u (.fn Try.call40 rfl) (f_r19_Check_spec x90 _ _ (a1 % 2) _ hx96) (fun _ hs => (SrcE.oldres 0 hs rfl (grp_lead 0 rfl) hSF)) rfl [1, 1, 1, 1] (rfl) ?_
                        refine TD.run ft_cursitorlaw19_ok [8, 9] rfl rfl ?_
                        refine TD.q rfl (.g rfl rfl (bn_f (decide_eq_true c97))) (Ex.bS (us := [.int .i64 x40.fProducer, .int .i64 x40.fEpoch, .bool x40.fCommit, .slice A44 x40.fTopics.length c45, .int .i64 x40.fCoordinator]) 0 rfl Try.isAgg70 Try.sizeOf70 rfl rfl rfl) rfl ?_
                        refine TD.q rfl (.g rfl rfl (bn_f (decide_eq_true c97))) (Ex.ft ft_cursitorlaw19_ok rfl) rfl ?_
                        refine TD.q rfl (.g rfl rfl (bn_f (decide_eq_true c97))) (Ex.ixS (k := 0) rfl rfl rfl Try.runUnderlying55 Try.sizeOf70 (List.getElem?_eq_some_iff.1 hx99).1) rfl ?_
                        refine TD.q rfl (.g rfl rfl (bn_f (decide_eq_true c97))) (Ex.oS (us := [.int .i64 x98.fProducer, .int .i64 x98.fEpoch, .bool x98.fCommit, .slice A101 x98.fTopics.length c102, .int .i64 x98.fCoordinator]) 0 rfl Try.isAgg70 Try.sizeOf70 z100nf z100cc rfl rfl rfl) rfl ?_
                        refine TD.q rfl (.g rfl rfl (bn_f (decide_eq_true c97))) (Ex.bS (us := [.int .i64 x40.fProducer, .int .i64 x40.fEpoch, .bool x40.fCommit, .slice A44 x40.fTopics.length c45, .int .i64 x40.fCoordinator]) 0 rfl Try.isAgg70 Try.sizeOf70 rfl rfl rfl) rfl ?_
                        refine TD.q rfl (.g rfl rfl (bn_f (decide_eq_true c97))) (Ex.ft ft_cursitorlaw19_ok rfl) rfl ?_
                        refine TD.q rfl (.g rfl rfl (bn_f (decide_eq_true c97))) (Ex.slT (mm := (a0.take 1).length) (k := 1) rfl Try.runUnderlying55 Try.sizeOf70 (.some rfl rfl) (Nat.le_trans c112 (RX.capS hS)) (by rw [List.length_take]; omega)) rfl ?_
                        refine TD.br ?_ ?_
                        · refine TD.ce rfl (.g rfl rfl (bn_f (decide_eq_true c97))) (.fn Try.call43 rfl) (f_mark_Same_spec x40 _ _ x98 _ _ _ hx105) (fun _ hs => (RX.reads_and (SrcE.old hs hX46) (SrcE.old hs hX103))) rfl [1, 1, 1, 1] (rfl) ?_
                          refine TD.lit (cells := #[.int .i64 x40.fProducer, .int .i64 x40.fEpoch, .bool x40.fCommit, .slice A44 x40.fTopics.length c45, .int .i64 x40.fCoordinator]) rfl (.g rfl rfl (bn_f (decide_eq_true c97))) sok_cursitorlaw19_55_1 rfl (by rfl) rfl [2, 2, 2, 2] (fun _ => rfl) (fun b106 => ?_)
                          refine TD.rowOf (us := [.int .i64 x40.fProducer, .int .i64 x40.fEpoch, .bool x40.fCommit, .slice A44 x40.fTopics.length c45, .int .i64 x40.fCoordinator]) (xs := [x40]) (E := (oldRd w S MarkMark_rd)) (z := 5) rfl (Nat.le_of_ble_eq_true rfl) (fun _ => ⟨rfl, old_in ⟨_, _, rfl, z43s0⟩, rfl⟩) ?_
                          refine TD.csn 1 rfl (.g rfl rfl (bn_f (decide_eq_true c97))) (.fn Try.call36 rfl) (f_l19_Of_spec [x40] _ _ _ hx110) (fun w1 G1 hG => (Sep.has 0 rfl hG (fun w G h => xold_own (by decide) w G h))) hSF rfl [2, 2, 2, 2] ?_ ?_
                          · rintro _ _ _ ⟨A108, c109, rfl, rfl, rfl⟩
                            rfl
                          rintro _ _ _ ⟨A108, c109, rfl, rfl, rfl⟩
                          refine TD.sel [0, 0, 0, 0, 0, 0] rfl ?_
                          refine TD.cso  rfl (.g rfl rfl (bn_f (decide_eq_true c97))) (.fn Try.call36 rfl) (f_l19_Of_spec (a0.take 1) _ _ _ hx118) hS114 hSF rfl [3, 3, 3, 3] ?_ ?_
                          · rintro _ _ _ ⟨A116, c117, rfl, rfl, rfl⟩
                            rfl
                          rintro _ _ _ ⟨A116, c117, rfl, rfl, rfl⟩
                          refine TD.sel [0, 0, 0, 0, 0, 0, 0] rfl ?_
                          refine TD.ce rfl (.g rfl rfl (bn_f (decide_eq_true c97))) (.fn Try.call35 rfl) (f_r19_Same_spec x107 _ _ x115 _ _ _ hx120) (fun _ hs => (RX.reads_and (SrcE.oldres 1 hs rfl (grp_lead 0 rfl) hSF) (SrcE.oldres 0 hs rfl xold_rd hSF))) rfl [3, 3, 3, 3] (rfl) ?_
                          refine TD.q rfl (.g rfl rfl (bn_f (decide_eq_true c97))) (Ex.bNe rfl c121 rfl c122 Try.runUnderlying4) rfl ?_
                          refine TD.q rfl .u (Ex.pn rfl (bn_f (decide_eq_true c97)) rfl) rfl ?_
                          exact TD.nil (X.jn [0, 0, 0, 0, 0, 0, 0] ⟨b89, A91, c92, b106, A108, c109, A116, c117, rfl, rfl⟩ (by rfl) (by rfl))
                        · refine TD.lit (cells := #[.int .i64 x40.fProducer, .int .i64 x40.fEpoch, .bool x40.fCommit, .slice A44 x40.fTopics.length c45, .int .i64 x40.fCoordinator]) rfl (.g rfl rfl (bn_f (decide_eq_true c97))) sok_cursitorlaw19_55_1 rfl (by rfl) rfl [2, 2, 2, 2] (fun _ => rfl) (fun b106 => ?_)
                          refine TD.rowOf (us := [.int .i64 x40.fProducer, .int .i64 x40.fEpoch, .bool x40.fCommit, .slice A44 x40.fTopics.length c45, .int .i64 x40.fCoordinator]) (xs := [x40]) (E := (oldRd w S MarkMark_rd)) (z := 5) rfl (Nat.le_of_ble_eq_true rfl) (fun _ => ⟨rfl, old_in ⟨_, _, rfl, z43s0⟩, rfl⟩) ?_
                          refine TD.ce rfl (.g rfl rfl (bn_f (decide_eq_true c97))) (.fn Try.call43 rfl) (f_mark_Same_spec x40 _ _ x98 _ _ _ hx105) (fun _ hs => (RX.reads_and (SrcE.old hs hX46) (SrcE.old hs hX103))) rfl [2, 2, 2, 2] (rfl) ?_
                          refine TD.csn 1 rfl (.g rfl rfl (bn_f (decide_eq_true c97))) (.fn Try.call36 rfl) (f_l19_Of_spec [x40] _ _ _ hx110) (fun w1 G1 hG => (Sep.has 0 rfl hG (fun w G h => xold_own (by decide) w G h))) hSF rfl [2, 2, 2, 2] ?_ ?_
                          · rintro _ _ _ ⟨A108, c109, rfl, rfl, rfl⟩
                            rfl
                          rintro _ _ _ ⟨A108, c109, rfl, rfl, rfl⟩
                          refine TD.sel [0, 0, 0, 0, 0, 0] rfl ?_
                          refine TD.cso  rfl (.g rfl rfl (bn_f (decide_eq_true c97))) (.fn Try.call36 rfl) (f_l19_Of_spec (a0.take 1) _ _ _ hx118) hS114 hSF rfl [3, 3, 3, 3] ?_ ?_
                          · rintro _ _ _ ⟨A116, c117, rfl, rfl, rfl⟩
                            rfl
                          rintro _ _ _ ⟨A116, c117, rfl, rfl, rfl⟩
                          refine TD.sel [0, 0, 0, 0, 0, 0, 0] rfl ?_
                          refine TD.ce rfl (.g rfl rfl (bn_f (decide_eq_true c97))) (.fn Try.call35 rfl) (f_r19_Same_spec x107 _ _ x115 _ _ _ hx120) (fun _ hs => (RX.reads_and (SrcE.oldres 1 hs rfl (grp_lead 0 rfl) hSF) (SrcE.oldres 0 hs rfl xold_rd hSF))) rfl [3, 3, 3, 3] (rfl) ?_
                          refine TD.q rfl (.g rfl rfl (bn_f (decide_eq_true c97))) (Ex.bNe rfl c121 rfl c122 Try.runUnderlying4) rfl ?_
                          refine TD.q rfl .u (Ex.pn rfl (bn_f (decide_eq_true c97)) rfl) rfl ?_
                          exact TD.nil (X.jn [0, 0, 0, 0, 0, 0, 0] ⟨b89, A91, c92, b106, A108, c109, A116, c117, rfl, rfl⟩ (by rfl) (by rfl))
                    · rintro _ _ ⟨b89, A91, c92, b106, A108, c109, A116, c117, rfl, rfl⟩
                      refine X.ungrp 1 rfl ?_
                      refine X.sel [0, 0, 0, 0, 0, 0, 0] rfl ?_
                      refine X.ungrp 2 rfl ?_
                      refine X.sel [0, 0, 0, 0, 0, 0, 0] rfl ?_
                      cases h
                      exact X.jq [3, 3, 3, 3] ⟨rfl, rfl⟩ (by rfl) (by rfl)
                · replace h := ifF c121 h
                  replace c121 := eq_false_of_ne_true c121
                  by_cases c123 : x119 = true
                  · replace h := ifT c123 h
                    refine T.join (fun e Rs => ∃ (b89 : Nat) (A91 : Option Addr) (c92 : Nat) (b106 : Nat) (A108 : Option Addr) (c109 : Nat) (A116 : Option Addr) (c117 : Nat), e = [(0, .slice (some ⟨gz43, oz43, none⟩) a0.length c2), (4, .bool y34), (5, .int .i64 (a1 % 2)), (7, .string (bsOf x14)), (9, .int .i64 x22), (11, .pointer (some ⟨b47, 0, none⟩)), (42, .slice (some ⟨gz43, oz43, none⟩) a0.length c2), (43, .int .i64 (a0.length : Int)), (44, .int .i64 (k35 : Int)), (45, .bool (decide ((k35 : Int) < (a0.length : Int)))), (46, .pointer (some ⟨gz43, oz43 + k35 * 5, none⟩)), (47, .agg #[.int .i64 x40.fProducer, .int .i64 x40.fEpoch, .bool x40.fCommit, .slice A44 x40.fTopics.length c45, .int .i64 x40.fCoordinator]), (71, .bool true)] ∧ Rs = [RdR (oldRd w S (sliceRd 5 R19Mark_rd)) [.slice A116 x115.length c117] x115, GrpR w S [OwnR 70 5 (oldRd w S MarkMark_rd) (.slice (some ⟨b106, 0, none⟩) 1 1) [x40]] [(⟨_, sliceRd 5 R19Mark_rd, [.slice A108 x107.length c109], x107⟩ : RO)], GrpR w S [OwnR 70 5 (oldRd w S MarkMark_rd) (.slice (some ⟨b89, 0, none⟩) 1 1) [x40]] [(⟨_, sliceRd 5 R19Mark_rd, [.slice A91 x90.length c92], x90⟩ : RO)], BlkR b47 70 #[.int .i64 x40.fProducer, .int .i64 x40.fEpoch, .bool x40.fCommit, .slice A44 x40.fTopics.length c45, .int .i64 x40.fCoordinator], RdR (oldRd w S (sliceRd 5 R19Mark_rd)) [.slice A19 x18.length c20] x18, OutR b11 st16, EmpR]) ?_ ?_
                    · refine T.draw (.q 0 (.q 1 (.q 3 (.q 6 (.br 2 (.e 4 (.e 5 (.e 7 (.q 8 (.q 9 (.q 10 (.q 11 (.q 12 (.q 13 (.q 15 (.q 18 (.q 19 (.br 14 (.e 16 (.e 17 (.e 20 (.e 21 (.q 22 (.q 23 .nil)))))) (.e 16 (.e 14 (.e 17 (.e 20 (.e 21 (.q 22 (.q 23 .nil)))))))))))))))))))) (.e 4 (.e 2 (.e 5 (.e 7 (.q 8 (.q 9 (.q 10 (.q 11 (.q 12 (.q 13 (.q 15 (.q 18 (.q 19 (.br 14 (.e 16 (.e 17 (.e 20 (.e 21 (.q 22 (.q 23 .nil)))))) (.e 16 (.e 14 (.e 17 (.e 20 (.e 21 (.q 22 (.q 23 .nil)))))))))))))))))))))))))) [0, 0, 0, 0] rfl mix_cursitorlaw19 np_jq (by kernel_rfl) ?_
                      refine TD.q rfl .u (Ex.bS (us := [.int .i64 x40.fProducer, .int .i64 x40.fEpoch, .bool x40.fCommit, .slice A44 x40.fTopics.length c45, .int .i64 x40.fCoordinator]) 0 rfl Try.isAgg70 Try.sizeOf70 rfl rfl rfl) rfl ?_
                      refine TD.run ft_cursitorlaw19_ok [1] rfl rfl ?_
                      refine TD.q rfl .u (Ex.bS (us := [.int .i64 x40.fProducer, .int .i64 x40.fEpoch, .bool x40.fCommit, .slice A44 x40.fTopics.length c45, .int .i64 x40.fCoordinator]) 0 rfl Try.isAgg70 Try.sizeOf70 rfl rfl rfl) rfl ?_
                      refine TD.run ft_cursitorlaw19_ok [6] rfl rfl ?_
                      refine TD.br ?_ ?_
                      · refine TD.ce rfl .u (.fn Try.call42 rfl) (f_mark_MarkCheck_spec x40 _ _ (a1 % 2) _ hx88) (fun _ hs => (SrcE.old hs hX46)) rfl [0, 0, 0, 0] (rfl) ?_
                        refine TD.lit (cells := #[.int .i64 x40.fProducer, .int .i64 x40.fEpoch, .bool x40.fCommit, .slice A44 x40.fTopics.length c45, .int .i64 x40.fCoordinator]) rfl .u sok_cursitorlaw19_55_1 rfl (by rfl) rfl [1, 1, 1, 1] (fun _ => rfl) (fun b89 => ?_)
                        refine TD.rowOf (us := [.int .i64 x40.fProducer, .int .i64 x40.fEpoch, .bool x40.fCommit, .slice A44 x40.fTopics.length c45, .int .i64 x40.fCoordinator]) (xs := [x40]) (E := (oldRd w S MarkMark_rd)) (z := 5) rfl (Nat.le_of_ble_eq_true rfl) (fun _ => ⟨rfl, old_in ⟨_, _, rfl, z43s0⟩, rfl⟩) ?_
                        refine TD.csn 1 rfl .u (.fn Try.call36 rfl) (f_l19_Of_spec [x40] _ _ _ hx93) (fun w1 G1 hG => (Sep.has 0 rfl hG (fun w G h => xold_own (by decide) w G h))) hSF rfl [1, 1, 1, 1] ?_ ?_
                        · rintro _ _ _ ⟨A91, c92, rfl, rfl, rfl⟩
                          rfl
                        rintro _ _ _ ⟨A91, c92, rfl, rfl, rfl⟩
                        refine TD.sel [0, 0, 0, 0, 0] rfl ?_
                        refine TD.ce rfl .u (.fn Try.call40 rfl) (f_r19_Check_spec x90 _ _ (a1 % 2) _ hx96) (fun _ hs => (SrcE.oldres 0 hs rfl (grp_lead 0 rfl) hSF)) rfl [1, 1, 1, 1] (rfl) ?_
                        refine TD.run ft_cursitorlaw19_ok [8, 9] rfl rfl ?_
                        refine TD.q rfl (.g rfl rfl (bn_f (decide_eq_true c97))) (Ex.bS (us := [.int .i64 x40.fProducer, .int .i64 x40.fEpoch, .bool x40.fCommit, .slice A44 x40.fTopics.length c45, .int .i64 x40.fCoordinator]) 0 rfl Try.isAgg70 Try.sizeOf70 rfl rfl rfl) rfl ?_
                        refine TD.q rfl (.g rfl rfl (bn_f (decide_eq_true c97))) (Ex.ft ft_cursitorlaw19_ok rfl) rfl ?_
                        refine TD.q rfl (.g rfl rfl (bn_f (decide_eq_true c97))) (Ex.ixS (k := 0) rfl rfl rfl Try.runUnderlying55 Try.sizeOf70 (List.getElem?_eq_some_iff.1 hx99).1) rfl ?_
                        refine TD.q rfl (.g rfl rfl (bn_f (decide_eq_true c97))) (Ex.oS (us := [.int .i64 x98.fProducer, .int .i64 x98.fEpoch, .bool x98.fCommit, .slice A101 x98.fTopics.length c102, .int .i64 x98.fCoordinator]) 0 rfl Try.isAgg70 Try.sizeOf70 z100nf z100cc rfl rfl rfl) rfl ?_
                        refine TD.q rfl (.g rfl rfl (bn_f (decide_eq_true c97))) (Ex.bS (us := [.int .i64 x40.fProducer, .int .i64 x40.fEpoch, .bool x40.fCommit, .slice A44 x40.fTopics.length c45, .int .i64 x40.fCoordinator]) 0 rfl Try.isAgg70 Try.sizeOf70 rfl rfl rfl) rfl ?_
                        refine TD.q rfl (.g rfl rfl (bn_f (decide_eq_true c97))) (Ex.ft ft_cursitorlaw19_ok rfl) rfl ?_
                        refine TD.q rfl (.g rfl rfl (bn_f (decide_eq_true c97))) (Ex.slT (mm := (a0.take 1).length) (k := 1) rfl Try.runUnderlying55 Try.sizeOf70 (.some rfl rfl) (Nat.le_trans c112 (RX.capS hS)) (by rw [List.length_take]; omega)) rfl ?_
                        refine TD.br ?_ ?_
                        · refine TD.ce rfl (.g rfl rfl (bn_f (decide_eq_true c97))) (.fn Try.call43 rfl) (f_mark_Same_spec x40 _ _ x98 _ _ _ hx105) (fun _ hs => (RX.reads_and (SrcE.old hs hX46) (SrcE.old hs hX103))) rfl [1, 1, 1, 1] (rfl) ?_
                          refine TD.lit (cells := #[.int .i64 x40.fProducer, .int .i64 x40.fEpoch, .bool x40.fCommit, .slice A44 x40.fTopics.length c45, .int .i64 x40.fCoordinator]) rfl (.g rfl rfl (bn_f (decide_eq_true c97))) sok_cursitorlaw19_55_1 rfl (by rfl) rfl [2, 2, 2, 2] (fun _ => rfl) (fun b106 => ?_)
                          refine TD.rowOf (us := [.int .i64 x40.fProducer, .int .i64 x40.fEpoch, .bool x40.fCommit, .slice A44 x40.fTopics.length c45, .int .i64 x40.fCoordinator]) (xs := [x40]) (E := (oldRd w S MarkMark_rd)) (z := 5) rfl (Nat.le_of_ble_eq_true rfl) (fun _ => ⟨rfl, old_in ⟨_, _, rfl, z43s0⟩, rfl⟩) ?_
                          refine TD.csn 1 rfl (.g rfl rfl (bn_f (decide_eq_true c97))) (.fn Try.call36 rfl) (f_l19_Of_spec [x40] _ _ _ hx110) (fun w1 G1 hG => (Sep.has 0 rfl hG (fun w G h => xold_own (by decide) w G h))) hSF rfl [2, 2, 2, 2] ?_ ?_
                          · rintro _ _ _ ⟨A108, c109, rfl, rfl, rfl⟩
                            rfl
                          rintro _ _ _ ⟨A108, c109, rfl, rfl, rfl⟩
                          refine TD.sel [0, 0, 0, 0, 0, 0] rfl ?_
                          refine TD.cso  rfl (.g rfl rfl (bn_f (decide_eq_true c97))) (.fn Try.call36 rfl) (f_l19_Of_spec (a0.take 1) _ _ _ hx118) hS114 hSF rfl [3, 3, 3, 3] ?_ ?_
                          · rintro _ _ _ ⟨A116, c117, rfl, rfl, rfl⟩
                            rfl
                          rintro _ _ _ ⟨A116, c117, rfl, rfl, rfl⟩
                          refine TD.sel [0, 0, 0, 0, 0, 0, 0] rfl ?_
                          refine TD.ce rfl (.g rfl rfl (bn_f (decide_eq_true c97))) (.fn Try.call35 rfl) (f_r19_Same_spec x107 _ _ x115 _ _ _ hx120) (fun _ hs => (RX.reads_and (SrcE.oldres 1 hs rfl (grp_lead 0 rfl) hSF) (SrcE.oldres 0 hs rfl xold_rd hSF))) rfl [3, 3, 3, 3] (rfl) ?_
                          refine TD.q rfl (.g rfl rfl (bn_f (decide_eq_true c97))) (Ex.bNe rfl c121 rfl c123 Try.runUnderlying4) rfl ?_
                          refine TD.q rfl .u (Ex.pn rfl (bn_f (decide_eq_true c97)) rfl) rfl ?_
                          exact TD.nil (X.jn [0, 0, 0, 0, 0, 0, 0] ⟨b89, A91, c92, b106, A108, c109, A116, c117, rfl, rfl⟩ (by rfl) (by rfl))
                        · refine TD.lit (cells := #[.int .i64 x40.fProducer, .int .i64 x40.fEpoch, .bool x40.fCommit, .slice A44 x40.fTopics.length c45, .int .i64 x40.fCoordinator]) rfl (.g rfl rfl (bn_f (decide_eq_true c97))) sok_cursitorlaw19_55_1 rfl (by rfl) rfl [2, 2, 2, 2] (fun _ => rfl) (fun b106 => ?_)
                          refine TD.rowOf (us := [.int .i64 x40.fProducer, .int .i64 x40.fEpoch, .bool x40.fCommit, .slice A44 x40.fTopics.length c45, .int .i64 x40.fCoordinator]) (xs := [x40]) (E := (oldRd w S MarkMark_rd)) (z := 5) rfl (Nat.le_of_ble_eq_true rfl) (fun _ => ⟨rfl, old_in ⟨_, _, rfl, z43s0⟩, rfl⟩) ?_
                          refine TD.ce rfl (.g rfl rfl (bn_f (decide_eq_true c97))) (.fn Try.call43 rfl) (f_mark_Same_spec x40 _ _ x98 _ _ _ hx105) (fun _ hs => (RX.reads_and (SrcE.old hs hX46) (SrcE.old hs hX103))) rfl [2, 2, 2, 2] (rfl) ?_
                          refine TD.csn 1 rfl (.g rfl rfl (bn_f (decide_eq_true c97))) (.fn Try.call36 rfl) (f_l19_Of_spec [x40] _ _ _ hx110) (fun w1 G1 hG => (Sep.has 0 rfl hG (fun w G h => xold_own (by decide) w G h))) hSF rfl [2, 2, 2, 2] ?_ ?_
                          · rintro _ _ _ ⟨A108, c109, rfl, rfl, rfl⟩
                            rfl
                          rintro _ _ _ ⟨A108, c109, rfl, rfl, rfl⟩
                          refine TD.sel [0, 0, 0, 0, 0, 0] rfl ?_
                          refine TD.cso  rfl (.g rfl rfl (bn_f (decide_eq_true c97))) (.fn Try.call36 rfl) (f_l19_Of_spec (a0.take 1) _ _ _ hx118) hS114 hSF rfl [3, 3, 3, 3] ?_ ?_
                          · rintro _ _ _ ⟨A116, c117, rfl, rfl, rfl⟩
                            rfl
                          rintro _ _ _ ⟨A116, c117, rfl, rfl, rfl⟩
                          refine TD.sel [0, 0, 0, 0, 0, 0, 0] rfl ?_
                          refine TD.ce rfl (.g rfl rfl (bn_f (decide_eq_true c97))) (.fn Try.call35 rfl) (f_r19_Same_spec x107 _ _ x115 _ _ _ hx120) (fun _ hs => (RX.reads_and (SrcE.oldres 1 hs rfl (grp_lead 0 rfl) hSF) (SrcE.oldres 0 hs rfl xold_rd hSF))) rfl [3, 3, 3, 3] (rfl) ?_
                          refine TD.q rfl (.g rfl rfl (bn_f (decide_eq_true c97))) (Ex.bNe rfl c121 rfl c123 Try.runUnderlying4) rfl ?_
                          refine TD.q rfl .u (Ex.pn rfl (bn_f (decide_eq_true c97)) rfl) rfl ?_
                          exact TD.nil (X.jn [0, 0, 0, 0, 0, 0, 0] ⟨b89, A91, c92, b106, A108, c109, A116, c117, rfl, rfl⟩ (by rfl) (by rfl))
                      · refine TD.lit (cells := #[.int .i64 x40.fProducer, .int .i64 x40.fEpoch, .bool x40.fCommit, .slice A44 x40.fTopics.length c45, .int .i64 x40.fCoordinator]) rfl .u sok_cursitorlaw19_55_1 rfl (by rfl) rfl [1, 1, 1, 1] (fun _ => rfl) (fun b89 => ?_)
                        refine TD.rowOf (us := [.int .i64 x40.fProducer, .int .i64 x40.fEpoch, .bool x40.fCommit, .slice A44 x40.fTopics.length c45, .int .i64 x40.fCoordinator]) (xs := [x40]) (E := (oldRd w S MarkMark_rd)) (z := 5) rfl (Nat.le_of_ble_eq_true rfl) (fun _ => ⟨rfl, old_in ⟨_, _, rfl, z43s0⟩, rfl⟩) ?_
                        refine TD.ce rfl .u (.fn Try.call42 rfl) (f_mark_MarkCheck_spec x40 _ _ (a1 % 2) _ hx88) (fun _ hs => (SrcE.old hs hX46)) rfl [1, 1, 1, 1] (rfl) ?_
                        refine TD.csn 1 rfl .u (.fn Try.call36 rfl) (f_l19_Of_spec [x40] _ _ _ hx93) (fun w1 G1 hG => (Sep.has 0 rfl hG (fun w G h => xold_own (by decide) w G h))) hSF rfl [1, 1, 1, 1] ?_ ?_
                        · rintro _ _ _ ⟨A91, c92, rfl, rfl, rfl⟩
                          rfl
                        rintro _ _ _ ⟨A91, c92, rfl, rfl, rfl⟩
                        refine TD.sel [0, 0, 0, 0, 0] rfl ?_
                        refine TD.ce rfl .u (.fn Try.call40 rfl) (f_r19_Check_spec x90 _ _ (a1 % 2) _ hx96) (fun _ hs => (SrcE.oldres 0 hs rfl (grp_lead 0 rfl) hSF)) rfl [1, 1, 1, 1] (rfl) ?_
                        refine TD.run ft_cursitorlaw19_ok [8, 9] rfl rfl ?_
                        refine TD.q rfl (.g rfl rfl (bn_f (decide_eq_true c97))) (Ex.bS (us := [.int .i64 x40.fProducer, .int .i64 x40.fEpoch, .bool x40.fCommit, .slice A44 x40.fTopics.length c45, .int .i64 x40.fCoordinator]) 0 rfl Try.isAgg70 Try.sizeOf70 rfl rfl rfl) rfl ?_
                        refine TD.q rfl (.g rfl rfl (bn_f (decide_eq_true c97))) (Ex.ft ft_cursitorlaw19_ok rfl) rfl ?_
                        refine TD.q rfl (.g rfl rfl (bn_f (decide_eq_true c97))) (Ex.ixS (k := 0) rfl rfl rfl Try.runUnderlying55 Try.sizeOf70 (List.getElem?_eq_some_iff.1 hx99).1) rfl ?_
                        refine TD.q rfl (.g rfl rfl (bn_f (decide_eq_true c97))) (Ex.oS (us := [.int .i64 x98.fProducer, .int .i64 x98.fEpoch, .bool x98.fCommit, .slice A101 x98.fTopics.length c102, .int .i64 x98.fCoordinator]) 0 rfl Try.isAgg70 Try.sizeOf70 z100nf z100cc rfl rfl rfl) rfl ?_
                        refine TD.q rfl (.g rfl rfl (bn_f (decide_eq_true c97))) (Ex.bS (us := [.int .i64 x40.fProducer, .int .i64 x40.fEpoch, .bool x40.fCommit, .slice A44 x40.fTopics.length c45, .int .i64 x40.fCoordinator]) 0 rfl Try.isAgg70 Try.sizeOf70 rfl rfl rfl) rfl ?_
                        refine TD.q rfl (.g rfl rfl (bn_f (decide_eq_true c97))) (Ex.ft ft_cursitorlaw19_ok rfl) rfl ?_
                        refine TD.q rfl (.g rfl rfl (bn_f (decide_eq_true c97))) (Ex.slT (mm := (a0.take 1).length) (k := 1) rfl Try.runUnderlying55 Try.sizeOf70 (.some rfl rfl) (Nat.le_trans c112 (RX.capS hS)) (by rw [List.length_take]; omega)) rfl ?_
                        refine TD.br ?_ ?_
                        · refine TD.ce rfl (.g rfl rfl (bn_f (decide_eq_true c97))) (.fn Try.call43 rfl) (f_mark_Same_spec x40 _ _ x98 _ _ _ hx105) (fun _ hs => (RX.reads_and (SrcE.old hs hX46) (SrcE.old hs hX103))) rfl [1, 1, 1, 1] (rfl) ?_
                          refine TD.lit (cells := #[.int .i64 x40.fProducer, .int .i64 x40.fEpoch, .bool x40.fCommit, .slice A44 x40.fTopics.length c45, .int .i64 x40.fCoordinator]) rfl (.g rfl rfl (bn_f (decide_eq_true c97))) sok_cursitorlaw19_55_1 rfl (by rfl) rfl [2, 2, 2, 2] (fun _ => rfl) (fun b106 => ?_)
                          refine TD.rowOf (us := [.int .i64 x40.fProducer, .int .i64 x40.fEpoch, .bool x40.fCommit, .slice A44 x40.fTopics.length c45, .int .i64 x40.fCoordinator]) (xs := [x40]) (E := (oldRd w S MarkMark_rd)) (z := 5) rfl (Nat.le_of_ble_eq_true rfl) (fun _ => ⟨rfl, old_in ⟨_, _, rfl, z43s0⟩, rfl⟩) ?_
                          refine TD.csn 1 rfl (.g rfl rfl (bn_f (decide_eq_true c97))) (.fn Try.call36 rfl) (f_l19_Of_spec [x40] _ _ _ hx110) (fun w1 G1 hG => (Sep.has 0 rfl hG (fun w G h => xold_own (by decide) w G h))) hSF rfl [2, 2, 2, 2] ?_ ?_
                          · rintro _ _ _ ⟨A108, c109, rfl, rfl, rfl⟩
                            rfl
                          rintro _ _ _ ⟨A108, c109, rfl, rfl, rfl⟩
                          refine TD.sel [0, 0, 0, 0, 0, 0] rfl ?_
                          refine TD.cso  rfl (.g rfl rfl (bn_f (decide_eq_true c97))) (.fn Try.call36 rfl) (f_l19_Of_spec (a0.take 1) _ _ _ hx118) hS114 hSF rfl [3, 3, 3, 3] ?_ ?_
                          · rintro _ _ _ ⟨A116, c117, rfl, rfl, rfl⟩
                            rfl
                          rintro _ _ _ ⟨A116, c117, rfl, rfl, rfl⟩
                          refine TD.sel [0, 0, 0, 0, 0, 0, 0] rfl ?_
                          refine TD.ce rfl (.g rfl rfl (bn_f (decide_eq_true c97))) (.fn Try.call35 rfl) (f_r19_Same_spec x107 _ _ x115 _ _ _ hx120) (fun _ hs => (RX.reads_and (SrcE.oldres 1 hs rfl (grp_lead 0 rfl) hSF) (SrcE.oldres 0 hs rfl xold_rd hSF))) rfl [3, 3, 3, 3] (rfl) ?_
                          refine TD.q rfl (.g rfl rfl (bn_f (decide_eq_true c97))) (Ex.bNe rfl c121 rfl c123 Try.runUnderlying4) rfl ?_
                          refine TD.q rfl .u (Ex.pn rfl (bn_f (decide_eq_true c97)) rfl) rfl ?_
                          exact TD.nil (X.jn [0, 0, 0, 0, 0, 0, 0] ⟨b89, A91, c92, b106, A108, c109, A116, c117, rfl, rfl⟩ (by rfl) (by rfl))
                        · refine TD.lit (cells := #[.int .i64 x40.fProducer, .int .i64 x40.fEpoch, .bool x40.fCommit, .slice A44 x40.fTopics.length c45, .int .i64 x40.fCoordinator]) rfl (.g rfl rfl (bn_f (decide_eq_true c97))) sok_cursitorlaw19_55_1 rfl (by rfl) rfl [2, 2, 2, 2] (fun _ => rfl) (fun b106 => ?_)
                          refine TD.rowOf (us := [.int .i64 x40.fProducer, .int .i64 x40.fEpoch, .bool x40.fCommit, .slice A44 x40.fTopics.length c45, .int .i64 x40.fCoordinator]) (xs := [x40]) (E := (oldRd w S MarkMark_rd)) (z := 5) rfl (Nat.le_of_ble_eq_true rfl) (fun _ => ⟨rfl, old_in ⟨_, _, rfl, z43s0⟩, rfl⟩) ?_
                          refine TD.ce rfl (.g rfl rfl (bn_f (decide_eq_true c97))) (.fn Try.call43 rfl) (f_mark_Same_spec x40 _ _ x98 _ _ _ hx105) (fun _ hs => (RX.reads_and (SrcE.old hs hX46) (SrcE.old hs hX103))) rfl [2, 2, 2, 2] (rfl) ?_
                          refine TD.csn 1 rfl (.g rfl rfl (bn_f (decide_eq_true c97))) (.fn Try.call36 rfl) (f_l19_Of_spec [x40] _ _ _ hx110) (fun w1 G1 hG => (Sep.has 0 rfl hG (fun w G h => xold_own (by decide) w G h))) hSF rfl [2, 2, 2, 2] ?_ ?_
                          · rintro _ _ _ ⟨A108, c109, rfl, rfl, rfl⟩
                            rfl
                          rintro _ _ _ ⟨A108, c109, rfl, rfl, rfl⟩
                          refine TD.sel [0, 0, 0, 0, 0, 0] rfl ?_
                          refine TD.cso  rfl (.g rfl rfl (bn_f (decide_eq_true c97))) (.fn Try.call36 rfl) (f_l19_Of_spec (a0.take 1) _ _ _ hx118) hS114 hSF rfl [3, 3, 3, 3] ?_ ?_
                          · rintro _ _ _ ⟨A116, c117, rfl, rfl, rfl⟩
                            rfl
                          rintro _ _ _ ⟨A116, c117, rfl, rfl, rfl⟩
                          refine TD.sel [0, 0, 0, 0, 0, 0, 0] rfl ?_
                          refine TD.ce rfl (.g rfl rfl (bn_f (decide_eq_true c97))) (.fn Try.call35 rfl) (f_r19_Same_spec x107 _ _ x115 _ _ _ hx120) (fun _ hs => (RX.reads_and (SrcE.oldres 1 hs rfl (grp_lead 0 rfl) hSF) (SrcE.oldres 0 hs rfl xold_rd hSF))) rfl [3, 3, 3, 3] (rfl) ?_
                          refine TD.q rfl (.g rfl rfl (bn_f (decide_eq_true c97))) (Ex.bNe rfl c121 rfl c123 Try.runUnderlying4) rfl ?_
                          refine TD.q rfl .u (Ex.pn rfl (bn_f (decide_eq_true c97)) rfl) rfl ?_
                          exact TD.nil (X.jn [0, 0, 0, 0, 0, 0, 0] ⟨b89, A91, c92, b106, A108, c109, A116, c117, rfl, rfl⟩ (by rfl) (by rfl))
                    · rintro _ _ ⟨b89, A91, c92, b106, A108, c109, A116, c117, rfl, rfl⟩
                      refine X.ungrp 1 rfl ?_
                      refine X.sel [0, 0, 0, 0, 0, 0, 0] rfl ?_
                      refine X.ungrp 2 rfl ?_
                      refine X.sel [0, 0, 0, 0, 0, 0, 0] rfl ?_
                      cases h
                      exact X.jq [3, 3, 3, 3] ⟨rfl, rfl⟩ (by rfl) (by rfl)
                  · replace h := ifF c123 h
                    replace c123 := eq_false_of_ne_true c123
                    refine T.join (fun e Rs => ∃ (b89 : Nat) (A91 : Option Addr) (c92 : Nat) (b106 : Nat) (A108 : Option Addr) (c109 : Nat) (A116 : Option Addr) (c117 : Nat), e = [(0, .slice (some ⟨gz43, oz43, none⟩) a0.length c2), (4, .bool y34), (5, .int .i64 (a1 % 2)), (7, .string (bsOf x14)), (9, .int .i64 x22), (11, .pointer (some ⟨b47, 0, none⟩)), (42, .slice (some ⟨gz43, oz43, none⟩) a0.length c2), (43, .int .i64 (a0.length : Int)), (44, .int .i64 (k35 : Int)), (45, .bool (decide ((k35 : Int) < (a0.length : Int)))), (46, .pointer (some ⟨gz43, oz43 + k35 * 5, none⟩)), (47, .agg #[.int .i64 x40.fProducer, .int .i64 x40.fEpoch, .bool x40.fCommit, .slice A44 x40.fTopics.length c45, .int .i64 x40.fCoordinator]), (71, .bool false)] ∧ Rs = [RdR (oldRd w S (sliceRd 5 R19Mark_rd)) [.slice A116 x115.length c117] x115, GrpR w S [OwnR 70 5 (oldRd w S MarkMark_rd) (.slice (some ⟨b106, 0, none⟩) 1 1) [x40]] [(⟨_, sliceRd 5 R19Mark_rd, [.slice A108 x107.length c109], x107⟩ : RO)], GrpR w S [OwnR 70 5 (oldRd w S MarkMark_rd) (.slice (some ⟨b89, 0, none⟩) 1 1) [x40]] [(⟨_, sliceRd 5 R19Mark_rd, [.slice A91 x90.length c92], x90⟩ : RO)], BlkR b47 70 #[.int .i64 x40.fProducer, .int .i64 x40.fEpoch, .bool x40.fCommit, .slice A44 x40.fTopics.length c45, .int .i64 x40.fCoordinator], RdR (oldRd w S (sliceRd 5 R19Mark_rd)) [.slice A19 x18.length c20] x18, OutR b11 st16, EmpR]) ?_ ?_
                    · refine T.draw (.q 0 (.q 1 (.q 3 (.q 6 (.br 2 (.e 4 (.e 5 (.e 7 (.q 8 (.q 9 (.q 10 (.q 11 (.q 12 (.q 13 (.q 15 (.q 18 (.q 19 (.br 14 (.e 16 (.e 17 (.e 20 (.e 21 (.q 22 (.q 23 .nil)))))) (.e 16 (.e 14 (.e 17 (.e 20 (.e 21 (.q 22 (.q 23 .nil)))))))))))))))))))) (.e 4 (.e 2 (.e 5 (.e 7 (.q 8 (.q 9 (.q 10 (.q 11 (.q 12 (.q 13 (.q 15 (.q 18 (.q 19 (.br 14 (.e 16 (.e 17 (.e 20 (.e 21 (.q 22 (.q 23 .nil)))))) (.e 16 (.e 14 (.e 17 (.e 20 (.e 21 (.q 22 (.q 23 .nil)))))))))))))))))))))))))) [0, 0, 0, 0] rfl mix_cursitorlaw19 np_jq (by kernel_rfl) ?_
                      refine TD.q rfl .u (Ex.bS (us := [.int .i64 x40.fProducer, .int .i64 x40.fEpoch, .bool x40.fCommit, .slice A44 x40.fTopics.length c45, .int .i64 x40.fCoordinator]) 0 rfl Try.isAgg70 Try.sizeOf70 rfl rfl rfl) rfl ?_
                      refine TD.run ft_cursitorlaw19_ok [1] rfl rfl ?_
                      refine TD.q rfl .u (Ex.bS (us := [.int .i64 x40.fProducer, .int .i64 x40.fEpoch, .bool x40.fCommit, .slice A44 x40.fTopics.length c45, .int .i64 x40.fCoordinator]) 0 rfl Try.isAgg70 Try.sizeOf70 rfl rfl rfl) rfl ?_
                      refine TD.run ft_cursitorlaw19_ok [6] rfl rfl ?_
                      refine TD.br ?_ ?_
                      · refine TD.ce rfl .u (.fn Try.call42 rfl) (f_mark_MarkCheck_spec x40 _ _ (a1 % 2) _ hx88) (fun _ hs => (SrcE.old hs hX46)) rfl [0, 0, 0, 0] (rfl) ?_
                        refine TD.lit (cells := #[.int .i64 x40.fProducer, .int .i64 x40.fEpoch, .bool x40.fCommit, .slice A44 x40.fTopics.length c45, .int .i64 x40.fCoordinator]) rfl .u sok_cursitorlaw19_55_1 rfl (by rfl) rfl [1, 1, 1, 1] (fun _ => rfl) (fun b89 => ?_)
                        refine TD.rowOf (us := [.int .i64 x40.fProducer, .int .i64 x40.fEpoch, .bool x40.fCommit, .slice A44 x40.fTopics.length c45, .int .i64 x40.fCoordinator]) (xs := [x40]) (E := (oldRd w S MarkMark_rd)) (z := 5) rfl (Nat.le_of_ble_eq_true rfl) (fun _ => ⟨rfl, old_in ⟨_, _, rfl, z43s0⟩, rfl⟩) ?_
                        refine TD.csn 1 rfl .u (.fn Try.call36 rfl) (f_l19_Of_spec [x40] _ _ _ hx93) (fun w1 G1 hG => (Sep.has 0 rfl hG (fun w G h => xold_own (by decide) w G h))) hSF rfl [1, 1, 1, 1] ?_ ?_
                        · rintro _ _ _ ⟨A91, c92, rfl, rfl, rfl⟩
                          rfl
                        rintro _ _ _ ⟨A91, c92, rfl, rfl, rfl⟩
                        refine TD.sel [0, 0, 0, 0, 0] rfl ?_
                        refine TD.ce rfl .u (.fn Try.call40 rfl) (f_r19_Check_spec x90 _ _ (a1 % 2) _ hx96) (fun _ hs => (SrcE.oldres 0 hs rfl (grp_lead 0 rfl) hSF)) rfl [1, 1, 1, 1] (rfl) ?_
                        refine TD.run ft_cursitorlaw19_ok [8, 9] rfl rfl ?_
                        refine TD.q rfl (.g rfl rfl (bn_f (decide_eq_true c97))) (Ex.bS (us := [.int .i64 x40.fProducer, .int .i64 x40.fEpoch, .bool x40.fCommit, .slice A44 x40.fTopics.length c45, .int .i64 x40.fCoordinator]) 0 rfl Try.isAgg70 Try.sizeOf70 rfl rfl rfl) rfl ?_
                        refine TD.q rfl (.g rfl rfl (bn_f (decide_eq_true c97))) (Ex.ft ft_cursitorlaw19_ok rfl) rfl ?_
                        refine TD.q rfl (.g rfl rfl (bn_f (decide_eq_true c97))) (Ex.ixS (k := 0) rfl rfl rfl Try.runUnderlying55 Try.sizeOf70 (List.getElem?_eq_some_iff.1 hx99).1) rfl ?_
                        refine TD.q rfl (.g rfl rfl (bn_f (decide_eq_true c97))) (Ex.oS (us := [.int .i64 x98.fProducer, .int .i64 x98.fEpoch, .bool x98.fCommit, .slice A101 x98.fTopics.length c102, .int .i64 x98.fCoordinator]) 0 rfl Try.isAgg70 Try.sizeOf70 z100nf z100cc rfl rfl rfl) rfl ?_
                        refine TD.q rfl (.g rfl rfl (bn_f (decide_eq_true c97))) (Ex.bS (us := [.int .i64 x40.fProducer, .int .i64 x40.fEpoch, .bool x40.fCommit, .slice A44 x40.fTopics.length c45, .int .i64 x40.fCoordinator]) 0 rfl Try.isAgg70 Try.sizeOf70 rfl rfl rfl) rfl ?_
                        refine TD.q rfl (.g rfl rfl (bn_f (decide_eq_true c97))) (Ex.ft ft_cursitorlaw19_ok rfl) rfl ?_
                        refine TD.q rfl (.g rfl rfl (bn_f (decide_eq_true c97))) (Ex.slT (mm := (a0.take 1).length) (k := 1) rfl Try.runUnderlying55 Try.sizeOf70 (.some rfl rfl) (Nat.le_trans c112 (RX.capS hS)) (by rw [List.length_take]; omega)) rfl ?_
                        refine TD.br ?_ ?_
                        · refine TD.ce rfl (.g rfl rfl (bn_f (decide_eq_true c97))) (.fn Try.call43 rfl) (f_mark_Same_spec x40 _ _ x98 _ _ _ hx105) (fun _ hs => (RX.reads_and (SrcE.old hs hX46) (SrcE.old hs hX103))) rfl [1, 1, 1, 1] (rfl) ?_
                          refine TD.lit (cells := #[.int .i64 x40.fProducer, .int .i64 x40.fEpoch, .bool x40.fCommit, .slice A44 x40.fTopics.length c45, .int .i64 x40.fCoordinator]) rfl (.g rfl rfl (bn_f (decide_eq_true c97))) sok_cursitorlaw19_55_1 rfl (by rfl) rfl [2, 2, 2, 2] (fun _ => rfl) (fun b106 => ?_)
                          refine TD.rowOf (us := [.int .i64 x40.fProducer, .int .i64 x40.fEpoch, .bool x40.fCommit, .slice A44 x40.fTopics.length c45, .int .i64 x40.fCoordinator]) (xs := [x40]) (E := (oldRd w S MarkMark_rd)) (z := 5) rfl (Nat.le_of_ble_eq_true rfl) (fun _ => ⟨rfl, old_in ⟨_, _, rfl, z43s0⟩, rfl⟩) ?_
                          refine TD.csn 1 rfl (.g rfl rfl (bn_f (decide_eq_true c97))) (.fn Try.call36 rfl) (f_l19_Of_spec [x40] _ _ _ hx110) (fun w1 G1 hG => (Sep.has 0 rfl hG (fun w G h => xold_own (by decide) w G h))) hSF rfl [2, 2, 2, 2] ?_ ?_
                          · rintro _ _ _ ⟨A108, c109, rfl, rfl, rfl⟩
                            rfl
                          rintro _ _ _ ⟨A108, c109, rfl, rfl, rfl⟩
                          refine TD.sel [0, 0, 0, 0, 0, 0] rfl ?_
                          refine TD.cso  rfl (.g rfl rfl (bn_f (decide_eq_true c97))) (.fn Try.call36 rfl) (f_l19_Of_spec (a0.take 1) _ _ _ hx118) hS114 hSF rfl [3, 3, 3, 3] ?_ ?_
                          · rintro _ _ _ ⟨A116, c117, rfl, rfl, rfl⟩
                            rfl
                          rintro _ _ _ ⟨A116, c117, rfl, rfl, rfl⟩
                          refine TD.sel [0, 0, 0, 0, 0, 0, 0] rfl ?_
                          refine TD.ce rfl (.g rfl rfl (bn_f (decide_eq_true c97))) (.fn Try.call35 rfl) (f_r19_Same_spec x107 _ _ x115 _ _ _ hx120) (fun _ hs => (RX.reads_and (SrcE.oldres 1 hs rfl (grp_lead 0 rfl) hSF) (SrcE.oldres 0 hs rfl xold_rd hSF))) rfl [3, 3, 3, 3] (rfl) ?_
                          refine TD.q rfl (.g rfl rfl (bn_f (decide_eq_true c97))) (Ex.bNe rfl c121 rfl c123 Try.runUnderlying4) rfl ?_
                          refine TD.q rfl .u (Ex.pn rfl (bn_f (decide_eq_true c97)) rfl) rfl ?_
                          exact TD.nil (X.jn [0, 0, 0, 0, 0, 0, 0] ⟨b89, A91, c92, b106, A108, c109, A116, c117, rfl, rfl⟩ (by rfl) (by rfl))
                        · refine TD.lit (cells := #[.int .i64 x40.fProducer, .int .i64 x40.fEpoch, .bool x40.fCommit, .slice A44 x40.fTopics.length c45, .int .i64 x40.fCoordinator]) rfl (.g rfl rfl (bn_f (decide_eq_true c97))) sok_cursitorlaw19_55_1 rfl (by rfl) rfl [2, 2, 2, 2] (fun _ => rfl) (fun b106 => ?_)
                          refine TD.rowOf (us := [.int .i64 x40.fProducer, .int .i64 x40.fEpoch, .bool x40.fCommit, .slice A44 x40.fTopics.length c45, .int .i64 x40.fCoordinator]) (xs := [x40]) (E := (oldRd w S MarkMark_rd)) (z := 5) rfl (Nat.le_of_ble_eq_true rfl) (fun _ => ⟨rfl, old_in ⟨_, _, rfl, z43s0⟩, rfl⟩) ?_
                          refine TD.ce rfl (.g rfl rfl (bn_f (decide_eq_true c97))) (.fn Try.call43 rfl) (f_mark_Same_spec x40 _ _ x98 _ _ _ hx105) (fun _ hs => (RX.reads_and (SrcE.old hs hX46) (SrcE.old hs hX103))) rfl [2, 2, 2, 2] (rfl) ?_
                          refine TD.csn 1 rfl (.g rfl rfl (bn_f (decide_eq_true c97))) (.fn Try.call36 rfl) (f_l19_Of_spec [x40] _ _ _ hx110) (fun w1 G1 hG => (Sep.has 0 rfl hG (fun w G h => xold_own (by decide) w G h))) hSF rfl [2, 2, 2, 2] ?_ ?_
                          · rintro _ _ _ ⟨A108, c109, rfl, rfl, rfl⟩
                            rfl
                          rintro _ _ _ ⟨A108, c109, rfl, rfl, rfl⟩
                          refine TD.sel [0, 0, 0, 0, 0, 0] rfl ?_
                          refine TD.cso  rfl (.g rfl rfl (bn_f (decide_eq_true c97))) (.fn Try.call36 rfl) (f_l19_Of_spec (a0.take 1) _ _ _ hx118) hS114 hSF rfl [3, 3, 3, 3] ?_ ?_
                          · rintro _ _ _ ⟨A116, c117, rfl, rfl, rfl⟩
                            rfl
                          rintro _ _ _ ⟨A116, c117, rfl, rfl, rfl⟩
                          refine TD.sel [0, 0, 0, 0, 0, 0, 0] rfl ?_
                          refine TD.ce rfl (.g rfl rfl (bn_f (decide_eq_true c97))) (.fn Try.call35 rfl) (f_r19_Same_spec x107 _ _ x115 _ _ _ hx120) (fun _ hs => (RX.reads_and (SrcE.oldres 1 hs rfl (grp_lead 0 rfl) hSF) (SrcE.oldres 0 hs rfl xold_rd hSF))) rfl [3, 3, 3, 3] (rfl) ?_
                          refine TD.q rfl (.g rfl rfl (bn_f (decide_eq_true c97))) (Ex.bNe rfl c121 rfl c123 Try.runUnderlying4) rfl ?_
                          refine TD.q rfl .u (Ex.pn rfl (bn_f (decide_eq_true c97)) rfl) rfl ?_
                          exact TD.nil (X.jn [0, 0, 0, 0, 0, 0, 0] ⟨b89, A91, c92, b106, A108, c109, A116, c117, rfl, rfl⟩ (by rfl) (by rfl))
                      · refine TD.lit (cells := #[.int .i64 x40.fProducer, .int .i64 x40.fEpoch, .bool x40.fCommit, .slice A44 x40.fTopics.length c45, .int .i64 x40.fCoordinator]) rfl .u sok_cursitorlaw19_55_1 rfl (by rfl) rfl [1, 1, 1, 1] (fun _ => rfl) (fun b89 => ?_)
                        refine TD.rowOf (us := [.int .i64 x40.fProducer, .int .i64 x40.fEpoch, .bool x40.fCommit, .slice A44 x40.fTopics.length c45, .int .i64 x40.fCoordinator]) (xs := [x40]) (E := (oldRd w S MarkMark_rd)) (z := 5) rfl (Nat.le_of_ble_eq_true rfl) (fun _ => ⟨rfl, old_in ⟨_, _, rfl, z43s0⟩, rfl⟩) ?_
                        refine TD.ce rfl .u (.fn Try.call42 rfl) (f_mark_MarkCheck_spec x40 _ _ (a1 % 2) _ hx88) (fun _ hs => (SrcE.old hs hX46)) rfl [1, 1, 1, 1] (rfl) ?_
                        refine TD.csn 1 rfl .u (.fn Try.call36 rfl) (f_l19_Of_spec [x40] _ _ _ hx93) (fun w1 G1 hG => (Sep.has 0 rfl hG (fun w G h => xold_own (by decide) w G h))) hSF rfl [1, 1, 1, 1] ?_ ?_
                        · rintro _ _ _ ⟨A91, c92, rfl, rfl, rfl⟩
                          rfl
                        rintro _ _ _ ⟨A91, c92, rfl, rfl, rfl⟩
                        refine TD.sel [0, 0, 0, 0, 0] rfl ?_
                        refine TD.ce rfl .u (.fn Try.call40 rfl) (f_r19_Check_spec x90 _ _ (a1 % 2) _ hx96) (fun _ hs => (SrcE.oldres 0 hs rfl (grp_lead 0 rfl) hSF)) rfl [1, 1, 1, 1] (rfl) ?_
                        refine TD.run ft_cursitorlaw19_ok [8, 9] rfl rfl ?_
                        refine TD.q rfl (.g rfl rfl (bn_f (decide_eq_true c97))) (Ex.bS (us := [.int .i64 x40.fProducer, .int .i64 x40.fEpoch, .bool x40.fCommit, .slice A44 x40.fTopics.length c45, .int .i64 x40.fCoordinator]) 0 rfl Try.isAgg70 Try.sizeOf70 rfl rfl rfl) rfl ?_
                        refine TD.q rfl (.g rfl rfl (bn_f (decide_eq_true c97))) (Ex.ft ft_cursitorlaw19_ok rfl) rfl ?_
                        refine TD.q rfl (.g rfl rfl (bn_f (decide_eq_true c97))) (Ex.ixS (k := 0) rfl rfl rfl Try.runUnderlying55 Try.sizeOf70 (List.getElem?_eq_some_iff.1 hx99).1) rfl ?_
                        refine TD.q rfl (.g rfl rfl (bn_f (decide_eq_true c97))) (Ex.oS (us := [.int .i64 x98.fProducer, .int .i64 x98.fEpoch, .bool x98.fCommit, .slice A101 x98.fTopics.length c102, .int .i64 x98.fCoordinator]) 0 rfl Try.isAgg70 Try.sizeOf70 z100nf z100cc rfl rfl rfl) rfl ?_
                        refine TD.q rfl (.g rfl rfl (bn_f (decide_eq_true c97))) (Ex.bS (us := [.int .i64 x40.fProducer, .int .i64 x40.fEpoch, .bool x40.fCommit, .slice A44 x40.fTopics.length c45, .int .i64 x40.fCoordinator]) 0 rfl Try.isAgg70 Try.sizeOf70 rfl rfl rfl) rfl ?_
                        refine TD.q rfl (.g rfl rfl (bn_f (decide_eq_true c97))) (Ex.ft ft_cursitorlaw19_ok rfl) rfl ?_
                        refine TD.q rfl (.g rfl rfl (bn_f (decide_eq_true c97))) (Ex.slT (mm := (a0.take 1).length) (k := 1) rfl Try.runUnderlying55 Try.sizeOf70 (.some rfl rfl) (Nat.le_trans c112 (RX.capS hS)) (by rw [List.length_take]; omega)) rfl ?_
                        refine TD.br ?_ ?_
                        · refine TD.ce rfl (.g rfl rfl (bn_f (decide_eq_true c97))) (.fn Try.call43 rfl) (f_mark_Same_spec x40 _ _ x98 _ _ _ hx105) (fun _ hs => (RX.reads_and (SrcE.old hs hX46) (SrcE.old hs hX103))) rfl [1, 1, 1, 1] (rfl) ?_
                          refine TD.lit (cells := #[.int .i64 x40.fProducer, .int .i64 x40.fEpoch, .bool x40.fCommit, .slice A44 x40.fTopics.length c45, .int .i64 x40.fCoordinator]) rfl (.g rfl rfl (bn_f (decide_eq_true c97))) sok_cursitorlaw19_55_1 rfl (by rfl) rfl [2, 2, 2, 2] (fun _ => rfl) (fun b106 => ?_)
                          refine TD.rowOf (us := [.int .i64 x40.fProducer, .int .i64 x40.fEpoch, .bool x40.fCommit, .slice A44 x40.fTopics.length c45, .int .i64 x40.fCoordinator]) (xs := [x40]) (E := (oldRd w S MarkMark_rd)) (z := 5) rfl (Nat.le_of_ble_eq_true rfl) (fun _ => ⟨rfl, old_in ⟨_, _, rfl, z43s0⟩, rfl⟩) ?_
                          refine TD.csn 1 rfl (.g rfl rfl (bn_f (decide_eq_true c97))) (.fn Try.call36 rfl) (f_l19_Of_spec [x40] _ _ _ hx110) (fun w1 G1 hG => (Sep.has 0 rfl hG (fun w G h => xold_own (by decide) w G h))) hSF rfl [2, 2, 2, 2] ?_ ?_
                          · rintro _ _ _ ⟨A108, c109, rfl, rfl, rfl⟩
                            rfl
                          rintro _ _ _ ⟨A108, c109, rfl, rfl, rfl⟩
                          refine TD.sel [0, 0, 0, 0, 0, 0] rfl ?_
                          refine TD.cso  rfl (.g rfl rfl (bn_f (decide_eq_true c97))) (.fn Try.call36 rfl) (f_l19_Of_spec (a0.take 1) _ _ _ hx118) hS114 hSF rfl [3, 3, 3, 3] ?_ ?_
                          · rintro _ _ _ ⟨A116, c117, rfl, rfl, rfl⟩
                            rfl
                          rintro _ _ _ ⟨A116, c117, rfl, rfl, rfl⟩
                          refine TD.sel [0, 0, 0, 0, 0, 0, 0] rfl ?_
                          refine TD.ce rfl (.g rfl rfl (bn_f (decide_eq_true c97))) (.fn Try.call35 rfl) (f_r19_Same_spec x107 _ _ x115 _ _ _ hx120) (fun _ hs => (RX.reads_and (SrcE.oldres 1 hs rfl (grp_lead 0 rfl) hSF) (SrcE.oldres 0 hs rfl xold_rd hSF))) rfl [3, 3, 3, 3] (rfl) ?_
                          refine TD.q rfl (.g rfl rfl (bn_f (decide_eq_true c97))) (Ex.bNe rfl c121 rfl c123 Try.runUnderlying4) rfl ?_
                          refine TD.q rfl .u (Ex.pn rfl (bn_f (decide_eq_true c97)) rfl) rfl ?_
                          exact TD.nil (X.jn [0, 0, 0, 0, 0, 0, 0] ⟨b89, A91, c92, b106, A108, c109, A116, c117, rfl, rfl⟩ (by rfl) (by rfl))
                        · refine TD.lit (cells := #[.int .i64 x40.fProducer, .int .i64 x40.fEpoch, .bool x40.fCommit, .slice A44 x40.fTopics.length c45, .int .i64 x40.fCoordinator]) rfl (.g rfl rfl (bn_f (decide_eq_true c97))) sok_cursitorlaw19_55_1 rfl (by rfl) rfl [2, 2, 2, 2] (fun _ => rfl) (fun b106 => ?_)
                          refine TD.rowOf (us := [.int .i64 x40.fProducer, .int .i64 x40.fEpoch, .bool x40.fCommit, .slice A44 x40.fTopics.length c45, .int .i64 x40.fCoordinator]) (xs := [x40]) (E := (oldRd w S MarkMark_rd)) (z := 5) rfl (Nat.le_of_ble_eq_true rfl) (fun _ => ⟨rfl, old_in ⟨_, _, rfl, z43s0⟩, rfl⟩) ?_
                          refine TD.ce rfl (.g rfl rfl (bn_f (decide_eq_true c97))) (.fn Try.call43 rfl) (f_mark_Same_spec x40 _ _ x98 _ _ _ hx105) (fun _ hs => (RX.reads_and (SrcE.old hs hX46) (SrcE.old hs hX103))) rfl [2, 2, 2, 2] (rfl) ?_
                          refine TD.csn 1 rfl (.g rfl rfl (bn_f (decide_eq_true c97))) (.fn Try.call36 rfl) (f_l19_Of_spec [x40] _ _ _ hx110) (fun w1 G1 hG => (Sep.has 0 rfl hG (fun w G h => xold_own (by decide) w G h))) hSF rfl [2, 2, 2, 2] ?_ ?_
                          · rintro _ _ _ ⟨A108, c109, rfl, rfl, rfl⟩
                            rfl
                          rintro _ _ _ ⟨A108, c109, rfl, rfl, rfl⟩
                          refine TD.sel [0, 0, 0, 0, 0, 0] rfl ?_
                          refine TD.cso  rfl (.g rfl rfl (bn_f (decide_eq_true c97))) (.fn Try.call36 rfl) (f_l19_Of_spec (a0.take 1) _ _ _ hx118) hS114 hSF rfl [3, 3, 3, 3] ?_ ?_
                          · rintro _ _ _ ⟨A116, c117, rfl, rfl, rfl⟩
                            rfl
                          rintro _ _ _ ⟨A116, c117, rfl, rfl, rfl⟩
                          refine TD.sel [0, 0, 0, 0, 0, 0, 0] rfl ?_
                          refine TD.ce rfl (.g rfl rfl (bn_f (decide_eq_true c97))) (.fn Try.call35 rfl) (f_r19_Same_spec x107 _ _ x115 _ _ _ hx120) (fun _ hs => (RX.reads_and (SrcE.oldres 1 hs rfl (grp_lead 0 rfl) hSF) (SrcE.oldres 0 hs rfl xold_rd hSF))) rfl [3, 3, 3, 3] (rfl) ?_
                          refine TD.q rfl (.g rfl rfl (bn_f (decide_eq_true c97))) (Ex.bNe rfl c121 rfl c123 Try.runUnderlying4) rfl ?_
                          refine TD.q rfl .u (Ex.pn rfl (bn_f (decide_eq_true c97)) rfl) rfl ?_
                          exact TD.nil (X.jn [0, 0, 0, 0, 0, 0, 0] ⟨b89, A91, c92, b106, A108, c109, A116, c117, rfl, rfl⟩ (by rfl) (by rfl))
                    · rintro _ _ ⟨b89, A91, c92, b106, A108, c109, A116, c117, rfl, rfl⟩
                      refine X.ungrp 1 rfl ?_
                      refine X.sel [0, 0, 0, 0, 0, 0, 0] rfl ?_
                      refine X.ungrp 2 rfl ?_
                      refine X.sel [0, 0, 0, 0, 0, 0, 0] rfl ?_
                      cases h
                      exact X.jq [3, 3, 3, 3] ⟨rfl, rfl⟩ (by rfl) (by rfl)
              · replace h := ifF c97 h
                refine T.join (fun e Rs => ∃ (b89 : Nat) (A91 : Option Addr) (c92 : Nat), e = [(0, .slice (some ⟨gz43, oz43, none⟩) a0.length c2), (4, .bool y34), (5, .int .i64 (a1 % 2)), (7, .string (bsOf x14)), (9, .int .i64 x22), (11, .pointer (some ⟨b47, 0, none⟩)), (42, .slice (some ⟨gz43, oz43, none⟩) a0.length c2), (43, .int .i64 (a0.length : Int)), (44, .int .i64 (k35 : Int)), (45, .bool (decide ((k35 : Int) < (a0.length : Int)))), (46, .pointer (some ⟨gz43, oz43 + k35 * 5, none⟩)), (47, .agg #[.int .i64 x40.fProducer, .int .i64 x40.fEpoch, .bool x40.fCommit, .slice A44 x40.fTopics.length c45, .int .i64 x40.fCoordinator]), (71, .bool true)] ∧ Rs = [GrpR w S [OwnR 70 5 (oldRd w S MarkMark_rd) (.slice (some ⟨b89, 0, none⟩) 1 1) [x40]] [(⟨_, sliceRd 5 R19Mark_rd, [.slice A91 x90.length c92], x90⟩ : RO)], BlkR b47 70 #[.int .i64 x40.fProducer, .int .i64 x40.fEpoch, .bool x40.fCommit, .slice A44 x40.fTopics.length c45, .int .i64 x40.fCoordinator], RdR (oldRd w S (sliceRd 5 R19Mark_rd)) [.slice A19 x18.length c20] x18, OutR b11 st16, EmpR]) ?_ ?_
                · refine T.draw (.q 0 (.q 1 (.q 3 (.q 6 (.br 2 (.e 4 (.e 5 (.e 7 (.q 8 (.q 9 (.q 10 (.q 11 (.q 12 (.q 13 (.q 15 (.q 18 (.q 19 (.br 14 (.e 16 (.e 17 (.e 20 (.e 21 (.q 22 (.q 23 .nil)))))) (.e 16 (.e 14 (.e 17 (.e 20 (.e 21 (.q 22 (.q 23 .nil)))))))))))))))))))) (.e 4 (.e 2 (.e 5 (.e 7 (.q 8 (.q 9 (.q 10 (.q 11 (.q 12 (.q 13 (.q 15 (.q 18 (.q 19 (.br 14 (.e 16 (.e 17 (.e 20 (.e 21 (.q 22 (.q 23 .nil)))))) (.e 16 (.e 14 (.e 17 (.e 20 (.e 21 (.q 22 (.q 23 .nil)))))))))))))))))))))))))) [0, 0, 0, 0] rfl mix_cursitorlaw19 np_jq (by kernel_rfl) ?_
                  refine TD.q rfl .u (Ex.bS (us := [.int .i64 x40.fProducer, .int .i64 x40.fEpoch, .bool x40.fCommit, .slice A44 x40.fTopics.length c45, .int .i64 x40.fCoordinator]) 0 rfl Try.isAgg70 Try.sizeOf70 rfl rfl rfl) rfl ?_
                  refine TD.run ft_cursitorlaw19_ok [1] rfl rfl ?_
                  refine TD.q rfl .u (Ex.bS (us := [.int .i64 x40.fProducer, .int .i64 x40.fEpoch, .bool x40.fCommit, .slice A44 x40.fTopics.length c45, .int .i64 x40.fCoordinator]) 0 rfl Try.isAgg70 Try.sizeOf70 rfl rfl rfl) rfl ?_
                  refine TD.run ft_cursitorlaw19_ok [6] rfl rfl ?_
                  refine TD.br ?_ ?_
                  · refine TD.ce rfl .u (.fn Try.call42 rfl) (f_mark_MarkCheck_spec x40 _ _ (a1 % 2) _ hx88) (fun _ hs => (SrcE.old hs hX46)) rfl [0, 0, 0, 0] (rfl) ?_
                    refine TD.lit (cells := #[.int .i64 x40.fProducer, .int .i64 x40.fEpoch, .bool x40.fCommit, .slice A44 x40.fTopics.length c45, .int .i64 x40.fCoordinator]) rfl .u sok_cursitorlaw19_55_1 rfl (by rfl) rfl [1, 1, 1, 1] (fun _ => rfl) (fun b89 => ?_)
                    refine TD.rowOf (us := [.int .i64 x40.fProducer, .int .i64 x40.fEpoch, .bool x40.fCommit, .slice A44 x40.fTopics.length c45, .int .i64 x40.fCoordinator]) (xs := [x40]) (E := (oldRd w S MarkMark_rd)) (z := 5) rfl (Nat.le_of_ble_eq_true rfl) (fun _ => ⟨rfl, old_in ⟨_, _, rfl, z43s0⟩, rfl⟩) ?_
                    refine TD.csn 1 rfl .u (.fn Try.call36 rfl) (f_l19_Of_spec [x40] _ _ _ hx93) (fun w1 G1 hG => (Sep.has 0 rfl hG (fun w G h => xold_own (by decide) w G h))) hSF rfl [1, 1, 1, 1] ?_ ?_
                    · rintro _ _ _ ⟨A91, c92, rfl, rfl, rfl⟩
                      rfl
                    rintro _ _ _ ⟨A91, c92, rfl, rfl, rfl⟩
                    refine TD.sel [0, 0, 0, 0, 0] rfl ?_
                    refine TD.ce rfl .u (.fn Try.call40 rfl) (f_r19_Check_spec x90 _ _ (a1 % 2) _ hx96) (fun _ hs => (SrcE.oldres 0 hs rfl (grp_lead 0 rfl) hSF)) rfl [1, 1, 1, 1] (rfl) ?_
                    refine TD.run ft_cursitorlaw19_ok [8, 9] rfl rfl ?_
                    refine TD.no rfl (.gn rfl rfl (bn_t (decide_eq_false c97))) rfl ?_
                    refine TD.no rfl (.gn rfl rfl (bn_t (decide_eq_false c97))) rfl ?_
                    refine TD.no rfl (.gn rfl rfl (bn_t (decide_eq_false c97))) rfl ?_
                    refine TD.no rfl (.gn rfl rfl (bn_t (decide_eq_false c97))) rfl ?_
                    refine TD.no rfl (.gn rfl rfl (bn_t (decide_eq_false c97))) rfl ?_
                    refine TD.no rfl (.gn rfl rfl (bn_t (decide_eq_false c97))) rfl ?_
                    refine TD.no rfl (.gn rfl rfl (bn_t (decide_eq_false c97))) rfl ?_
                    refine TD.br ?_ ?_
                    · refine TD.noe rfl (.gn rfl rfl (bn_t (decide_eq_false c97))) rfl [1, 1, 1, 1] rfl ?_
                      refine TD.noe rfl (.gn rfl rfl (bn_t (decide_eq_false c97))) rfl [1, 1, 1, 1] rfl ?_
                      refine TD.noe rfl (.gn rfl rfl (bn_t (decide_eq_false c97))) rfl [1, 1, 1, 1] rfl ?_
                      refine TD.noe rfl (.gn rfl rfl (bn_t (decide_eq_false c97))) rfl [1, 1, 1, 1] rfl ?_
                      refine TD.noe rfl (.gn rfl rfl (bn_t (decide_eq_false c97))) rfl [1, 1, 1, 1] rfl ?_
                      refine TD.no rfl (.gn rfl rfl (bn_t (decide_eq_false c97))) rfl ?_
                      refine TD.q rfl .u (Ex.py rfl (bn_t (decide_eq_false c97)) rfl) rfl ?_
                      exact TD.nil (X.jn [0, 0, 0, 0, 0] ⟨b89, A91, c92, rfl, rfl⟩ (by rfl) (by rfl))
                    · refine TD.noe rfl (.gn rfl rfl (bn_t (decide_eq_false c97))) rfl [1, 1, 1, 1] rfl ?_
                      refine TD.noe rfl (.gn rfl rfl (bn_t (decide_eq_false c97))) rfl [1, 1, 1, 1] rfl ?_
                      refine TD.noe rfl (.gn rfl rfl (bn_t (decide_eq_false c97))) rfl [1, 1, 1, 1] rfl ?_
                      refine TD.noe rfl (.gn rfl rfl (bn_t (decide_eq_false c97))) rfl [1, 1, 1, 1] rfl ?_
                      refine TD.noe rfl (.gn rfl rfl (bn_t (decide_eq_false c97))) rfl [1, 1, 1, 1] rfl ?_
                      refine TD.no rfl (.gn rfl rfl (bn_t (decide_eq_false c97))) rfl ?_
                      refine TD.q rfl .u (Ex.py rfl (bn_t (decide_eq_false c97)) rfl) rfl ?_
                      exact TD.nil (X.jn [0, 0, 0, 0, 0] ⟨b89, A91, c92, rfl, rfl⟩ (by rfl) (by rfl))
                  · refine TD.lit (cells := #[.int .i64 x40.fProducer, .int .i64 x40.fEpoch, .bool x40.fCommit, .slice A44 x40.fTopics.length c45, .int .i64 x40.fCoordinator]) rfl .u sok_cursitorlaw19_55_1 rfl (by rfl) rfl [1, 1, 1, 1] (fun _ => rfl) (fun b89 => ?_)
                    refine TD.rowOf (us := [.int .i64 x40.fProducer, .int .i64 x40.fEpoch, .bool x40.fCommit, .slice A44 x40.fTopics.length c45, .int .i64 x40.fCoordinator]) (xs := [x40]) (E := (oldRd w S MarkMark_rd)) (z := 5) rfl (Nat.le_of_ble_eq_true rfl) (fun _ => ⟨rfl, old_in ⟨_, _, rfl, z43s0⟩, rfl⟩) ?_
                    refine TD.ce rfl .u (.fn Try.call42 rfl) (f_mark_MarkCheck_spec x40 _ _ (a1 % 2) _ hx88) (fun _ hs => (SrcE.old hs hX46)) rfl [1, 1, 1, 1] (rfl) ?_
                    refine TD.csn 1 rfl .u (.fn Try.call36 rfl) (f_l19_Of_spec [x40] _ _ _ hx93) (fun w1 G1 hG => (Sep.has 0 rfl hG (fun w G h => xold_own (by decide) w G h))) hSF rfl [1, 1, 1, 1] ?_ ?_
                    · rintro _ _ _ ⟨A91, c92, rfl, rfl, rfl⟩
                      rfl
                    rintro _ _ _ ⟨A91, c92, rfl, rfl, rfl⟩
                    refine TD.sel [0, 0, 0, 0, 0] rfl ?_
                    refine TD.ce rfl .u (.fn Try.call40 rfl) (f_r19_Check_spec x90 _ _ (a1 % 2) _ hx96) (fun _ hs => (SrcE.oldres 0 hs rfl (grp_lead 0 rfl) hSF)) rfl [1, 1, 1, 1] (rfl) ?_
                    refine TD.run ft_cursitorlaw19_ok [8, 9] rfl rfl ?_
                    refine TD.no rfl (.gn rfl rfl (bn_t (decide_eq_false c97))) rfl ?_
                    refine TD.no rfl (.gn rfl rfl (bn_t (decide_eq_false c97))) rfl ?_
                    refine TD.no rfl (.gn rfl rfl (bn_t (decide_eq_false c97))) rfl ?_
                    refine TD.no rfl (.gn rfl rfl (bn_t (decide_eq_false c97))) rfl ?_
                    refine TD.no rfl (.gn rfl rfl (bn_t (decide_eq_false c97))) rfl ?_
                    refine TD.no rfl (.gn rfl rfl (bn_t (decide_eq_false c97))) rfl ?_
                    refine TD.no rfl (.gn rfl rfl (bn_t (decide_eq_false c97))) rfl ?_
                    refine TD.br ?_ ?_
                    · refine TD.noe rfl (.gn rfl rfl (bn_t (decide_eq_false c97))) rfl [1, 1, 1, 1] rfl ?_
                      refine TD.noe rfl (.gn rfl rfl (bn_t (decide_eq_false c97))) rfl [1, 1, 1, 1] rfl ?_
                      refine TD.noe rfl (.gn rfl rfl (bn_t (decide_eq_false c97))) rfl [1, 1, 1, 1] rfl ?_
                      refine TD.noe rfl (.gn rfl rfl (bn_t (decide_eq_false c97))) rfl [1, 1, 1, 1] rfl ?_
                      refine TD.noe rfl (.gn rfl rfl (bn_t (decide_eq_false c97))) rfl [1, 1, 1, 1] rfl ?_
                      refine TD.no rfl (.gn rfl rfl (bn_t (decide_eq_false c97))) rfl ?_
                      refine TD.q rfl .u (Ex.py rfl (bn_t (decide_eq_false c97)) rfl) rfl ?_
                      exact TD.nil (X.jn [0, 0, 0, 0, 0] ⟨b89, A91, c92, rfl, rfl⟩ (by rfl) (by rfl))
                    · refine TD.noe rfl (.gn rfl rfl (bn_t (decide_eq_false c97))) rfl [1, 1, 1, 1] rfl ?_
                      refine TD.noe rfl (.gn rfl rfl (bn_t (decide_eq_false c97))) rfl [1, 1, 1, 1] rfl ?_
                      refine TD.noe rfl (.gn rfl rfl (bn_t (decide_eq_false c97))) rfl [1, 1, 1, 1] rfl ?_
                      refine TD.noe rfl (.gn rfl rfl (bn_t (decide_eq_false c97))) rfl [1, 1, 1, 1] rfl ?_
                      refine TD.noe rfl (.gn rfl rfl (bn_t (decide_eq_false c97))) rfl [1, 1, 1, 1] rfl ?_
                      refine TD.no rfl (.gn rfl rfl (bn_t (decide_eq_false c97))) rfl ?_
                      refine TD.q rfl .u (Ex.py rfl (bn_t (decide_eq_false c97)) rfl) rfl ?_
                      exact TD.nil (X.jn [0, 0, 0, 0, 0] ⟨b89, A91, c92, rfl, rfl⟩ (by rfl) (by rfl))
                · rintro _ _ ⟨b89, A91, c92, rfl, rfl⟩
                  refine X.ungrp 0 rfl ?_
                  refine X.sel [0, 0, 0, 0, 0] rfl ?_
                  cases h
                  exact X.jq [1, 1, 1, 1] ⟨rfl, rfl⟩ (by rfl) (by rfl)
            · rintro _ _ ⟨rfl, rfl⟩
              clear h
              have h := hk86
              clear hk86
              try dsimp only at h
              by_cases c124 : y85 = true
              · replace h := ifT c124 h
                refine X.seq ?_
                refine T.yes rfl c124 ?_
                exact nomatch h
              · replace h := ifF c124 h
                replace c124 := eq_false_of_ne_true c124
                refine X.seq ?_
                refine T.no rfl c124 ?_
                refine T.skip (X.blk (X.seq (T.region rfl ?_)))
                refine TL.q rfl .u (Ex.add rfl rfl (by omega)) rfl ?_
                refine TL.run ft_cursitorlaw19_ok [1] rfl rfl ?_
                exact TL.nil (X.back (m' := m39) [1, 1, 1] (by omega) ⟨y34, k35 + 1, by omega, rfl, rfl, h⟩ (by rfl) (by rfl))
  · replace h := ifF c5 h
    replace c5 := eq_false_of_ne_true c5
    refine TL.nil (X.seq ?_)
    refine T.yes rfl (bn_t c5) ?_
    exact nomatch h
end Go.Proofs.Ytagbblaegdedpaa.Sl
namespace Go.Proofs.Ytagbblaegdedpaa.Sl
open Go.RowKit
set_option linter.unusedVariables false
set_option linter.unusedSimpArgs false
noncomputable instance decMark : DecidableEq MarkMark := fun a b => Classical.propDecidable (a = b)
def toR (m : MarkMark) : R19Mark := ⟨m.fProducer, m.fEpoch, m.fCommit, m.fTopics, m.fCoordinator⟩
theorem of_loop : ∀ (l : List MarkMark) (acc : List R19Mark), acc.length + l.length ≤ 1000000 → f_l19_Of_l1 l acc = some (acc ++ l.map toR)
  | [], acc, _ => by rw [f_l19_Of_l1]; simp
  | m :: l, acc, h => by
    rw [List.length_cons] at h
    rw [f_l19_Of_l1, if_pos (by omega), of_loop l _ (by rw [List.length_append, List.length_singleton]; omega), List.map_cons, List.append_assoc]
    rfl
theorem of_eq (l : List MarkMark) (h : l.length ≤ 1000000) : f_l19_Of l = some (l.map toR) := by
  unfold f_l19_Of
  rw [of_loop l [] (by simpa using h)]
  rfl
def chkM (v : Int) (m : MarkMark) : Int := if (who m.fProducer m.fEpoch && (tmB m.fCoordinator && !(decide (v = 0) && decide (m.fCoordinator ≠ 0)))) = true then riseV m.fTopics else 11
def firstM (v : Int) : List MarkMark → Int
  | [] => 0
  | m :: l => if chkM v m = 0 then firstM v l else chkM v m
def chkMs (v : Int) (l : List MarkMark) : Int := if l.length = 0 then 10 else firstM v l
def okW (m : MarkMark) : Prop := wI m.fEpoch ∧ wI m.fCoordinator ∧ wTl m.fTopics
theorem markCheck (v : Int) (m : MarkMark) (h : okW m) : f_mark_MarkCheck m v = some (chkM v m) := by
  obtain ⟨h1, h2, h3⟩ := h
  unfold f_mark_MarkCheck chkM
  rw [who_eq _ _ h1, rise_txn _ h3, Option.bind_some]
  have hc : (if m.fCoordinator < 0 then some true else ((gFits m.fCoordinator 4).bind fun x18 => if x18 = true then (if v = 0 then (if m.fCoordinator > 0 then some true else some false) else some false) else some true)) = some (!(tmB m.fCoordinator && !(decide (v = 0) && decide (m.fCoordinator ≠ 0)))) := by
    unfold tmB
    by_cases a : m.fCoordinator < 0
    · rw [if_pos a, decide_eq_false (by omega)]; rfl
    · rw [if_neg a, gFits_eq _ _ h2, fits_4, Option.bind_some]
      by_cases b : m.fCoordinator ≤ 2147483647
      · rw [if_pos (decide_eq_true (by omega)), decide_eq_true (by omega)]
        by_cases c : v = 0
        · rw [if_pos c, decide_eq_true c]
          by_cases d : m.fCoordinator > 0
          · rw [if_pos d, decide_eq_true (by omega)]; rfl
          · rw [if_neg d, decide_eq_false (by omega)]; rfl
        · rw [if_neg c, decide_eq_false c]; rfl
      · rw [if_neg (by simp; omega), decide_eq_false (by omega)]; rfl
  rw [hc]
  cases who m.fProducer m.fEpoch <;> cases (tmB m.fCoordinator && !(decide (v = 0) && decide (m.fCoordinator ≠ 0))) <;> rfl
theorem mcheck_loop (v : Int) (y : Int) : ∀ l : List MarkMark, (∀ m, m ∈ l → okW m) → f_mark_Check_l1 v l y = some (if firstM v l = 0 then .go y else .ret (firstM v l))
  | [], _ => rfl
  | m :: l, h => by
    rw [f_mark_Check_l1, markCheck v m (h m (.head _)), Option.bind_some, firstM]
    by_cases hc : chkM v m = 0
    · rw [if_pos hc, if_pos hc, mcheck_loop v y l (fun z hz => h z (.tail _ hz))]
    · rw [if_neg hc, if_neg hc, if_neg hc]
theorem mCheck (v : Int) (l : List MarkMark) (h : ∀ m, m ∈ l → okW m) : f_mark_Check l v = some (chkMs v l) := by
  unfold f_mark_Check chkMs
  by_cases h0 : l.length = 0
  · rw [if_pos (by omega), if_pos h0]
  · rw [if_neg (by omega), if_neg h0, mcheck_loop v 0 l h]
    by_cases hc : firstM v l = 0
    · rw [if_pos hc, hc]; rfl
    · rw [if_neg hc]; rfl
theorem r19_one (v : Int) (m : MarkMark) (hl : m.fTopics.length ≤ 1000000) (hx : ∀ t, t ∈ m.fTopics → t.fParts.length ≤ 1000000 ∧ t.fName.length ≤ 1000000) : f_r19_one (toR m) v = some (chkM v m) := by
  unfold f_r19_one chkM
  rw [rise_eq (toR m).fTopics hl hx]
  have hc0 : (if m.fProducer < 0 then some true else (if m.fEpoch < 0 then some true else (if m.fEpoch > 32767 then some true else (if m.fCoordinator < 0 then some true else (if m.fCoordinator > 2147483647 then some true else (if v = 0 then (if m.fCoordinator = 0 then some false else some true) else some false)))))) = some (!(who m.fProducer m.fEpoch && (tmB m.fCoordinator && !(decide (v = 0) && decide (m.fCoordinator ≠ 0))))) := by
    unfold who tmB
    by_cases a : m.fProducer < 0
    · rw [if_pos a, decide_eq_false (p := 0 ≤ m.fProducer ∧ _) (by omega)]; rfl
    rw [if_neg a]
    by_cases b : m.fEpoch < 0
    · rw [if_pos b, decide_eq_false (p := 0 ≤ m.fProducer ∧ _) (by omega)]; rfl
    rw [if_neg b]
    by_cases c : m.fEpoch > 32767
    · rw [if_pos c, decide_eq_false (p := 0 ≤ m.fProducer ∧ _) (by omega)]; rfl
    rw [if_neg c, decide_eq_true (p := 0 ≤ m.fProducer ∧ _) (by omega)]
    by_cases d : m.fCoordinator < 0
    · rw [if_pos d, decide_eq_false (p := 0 ≤ m.fCoordinator ∧ _) (by omega)]; rfl
    rw [if_neg d]
    by_cases e : m.fCoordinator > 2147483647
    · rw [if_pos e, decide_eq_false (p := 0 ≤ m.fCoordinator ∧ _) (by omega)]; rfl
    rw [if_neg e, decide_eq_true (p := 0 ≤ m.fCoordinator ∧ _) (by omega)]
    by_cases f : v = 0
    · by_cases g : m.fCoordinator = 0
      · simp [f, g]
      · simp [f, g]
    · simp [f]
  have hc : (if (toR m).fProducer < 0 then some true else (if (toR m).fEpoch < 0 then some true else (if (toR m).fEpoch > 32767 then some true else (if (toR m).fCoordinator < 0 then some true else (if (toR m).fCoordinator > 2147483647 then some true else (if v = 0 then (if (toR m).fCoordinator = 0 then some false else some true) else some false)))))) = some (!(who m.fProducer m.fEpoch && (tmB m.fCoordinator && !(decide (v = 0) && decide (m.fCoordinator ≠ 0))))) := hc0
  rw [hc]
  have ht : (toR m).fTopics = m.fTopics := rfl
  rw [ht]
  unfold riseV
  by_cases h0 : m.fTopics.length = 0
  · rw [if_pos h0, if_pos (show (m.fTopics.length : Int) = 0 by omega)]
    cases (who m.fProducer m.fEpoch && (tmB m.fCoordinator && !(decide (v = 0) && decide (m.fCoordinator ≠ 0)))) <;> rfl
  · rw [if_neg h0, if_neg (show ¬ (m.fTopics.length : Int) = 0 by omega)]
    cases (who m.fProducer m.fEpoch && (tmB m.fCoordinator && !(decide (v = 0) && decide (m.fCoordinator ≠ 0)))) <;> cases okts m.fTopics <;> rfl
def okL (m : MarkMark) : Prop := m.fTopics.length ≤ 1000000 ∧ ∀ t, t ∈ m.fTopics → t.fParts.length ≤ 1000000 ∧ t.fName.length ≤ 1000000
theorem r19check_loop (a : List R19Mark) (v : Int) (hb : a.length ≤ 1000000) (y : Int) : ∀ (l : List MarkMark) (k fuel : Nat), a.drop k = l.map toR → l.length < fuel → (∀ m, m ∈ l → okL m) → ∃ z, f_r19_Check_l1 a v fuel y k = some (if firstM v l = 0 then .go (y, z) else .ret (firstM v l))
  | [], k, fuel + 1, h, _, _ => by
    have := nil_drop h
    exact ⟨k, by rw [f_r19_Check_l1, if_neg (by omega)]; rfl⟩
  | m :: l, k, fuel + 1, h, hf, ho => by
    obtain ⟨h1, h2, h3⟩ := at_drop h
    rw [List.length_cons] at hf
    have hm := ho m (.head _)
    obtain ⟨z, hz⟩ := r19check_loop a v hb y l (k + 1) fuel h2 (by omega) (fun z hz => ho z (.tail _ hz))
    rw [f_r19_Check_l1, if_pos (by omega), h1, Option.bind_some, r19_one v m hm.1 hm.2, Option.bind_some, firstM]
    by_cases hc : chkM v m = 0
    · rw [if_pos hc, if_pos (by omega), if_pos hc]
      exact ⟨z, hz⟩
    · rw [if_neg hc, if_neg hc]
      exact ⟨0, by rw [if_neg hc]⟩
theorem r19_check (v : Int) (l : List MarkMark) (hb : l.length ≤ 1000000) (ho : ∀ m, m ∈ l → okL m) : f_r19_Check (l.map toR) v = some (chkMs v l) := by
  unfold f_r19_Check chkMs
  rw [List.length_map]
  by_cases h0 : l.length = 0
  · rw [if_pos (by omega), if_pos h0]
  · obtain ⟨z, hz⟩ := r19check_loop (l.map toR) v (by rw [List.length_map]; omega) 0 l 0 ((l.length : Int).toNat + 1) (List.drop_zero) (by omega) ho
    rw [if_neg (by omega), if_neg h0, hz]
    by_cases hc : firstM v l = 0
    · rw [if_pos hc, hc]; rfl
    · rw [if_neg hc]; rfl
def pMark (v : Int) : Pr MarkMark := (pInt 8).bind fun p => (pInt 2).bind fun e => pBool.bind fun c => pTops.bind fun l => (if v > 0 then pInt 4 else .ret 0).bind fun k => .ret ⟨p, e, c, l, k⟩
def encM (v : Int) (m : MarkMark) : List UInt8 := be m.fProducer 8 ++ (be m.fEpoch 2 ++ (encBool m.fCommit ++ (encTs m.fTopics ++ (if v > 0 then be m.fCoordinator 4 else []))))
def okM (v : Int) (m : MarkMark) : Prop := fits m.fProducer 8 = true ∧ fits m.fEpoch 2 = true ∧ okTs m.fTopics ∧ (if v > 0 then fits m.fCoordinator 4 = true else m.fCoordinator = 0)
theorem Sp_co (v : Int) : Sp (if v > 0 then pInt 4 else Pr.ret 0) (fun k => if v > 0 then be k 4 else []) (fun k => if v > 0 then fits k 4 = true else k = 0) := by
  by_cases hv : v > 0
  · simp only [if_pos hv]
    exact spI 4
  · simp only [if_neg hv]
    exact Sp_ret 0
theorem Sp_mark (v : Int) : Sp (pMark v) (encM v) (okM v) := by
  refine Sp.congr (Sp.seq (β := MarkMark) (π := (·.fProducer)) (ok2 := fun x : MarkMark => fits x.fEpoch 2 = true ∧ okTs x.fTopics ∧ (if v > 0 then fits x.fCoordinator 4 = true else x.fCoordinator = 0)) (spI 8) fun p =>
    Sp.congr (Sp.seq (β := MarkMark) (π := (·.fEpoch)) (ok2 := fun x : MarkMark => okTs x.fTopics ∧ (if v > 0 then fits x.fCoordinator 4 = true else x.fCoordinator = 0) ∧ x.fProducer = p) (spI 2) fun e =>
    Sp.congr (Sp.seq (β := MarkMark) (π := (·.fCommit)) (ok2 := fun x : MarkMark => okTs x.fTopics ∧ (if v > 0 then fits x.fCoordinator 4 = true else x.fCoordinator = 0) ∧ x.fProducer = p ∧ x.fEpoch = e) Sp_bool fun c =>
    Sp.congr (Sp.seq (β := MarkMark) (π := (·.fTopics)) (ok2 := fun x : MarkMark => (if v > 0 then fits x.fCoordinator 4 = true else x.fCoordinator = 0) ∧ x.fProducer = p ∧ x.fEpoch = e ∧ x.fCommit = c) Sp_topics fun l =>
    Sp.congr (Sp.seq (β := MarkMark) (π := (·.fCoordinator)) (ok2 := fun x : MarkMark => x.fProducer = p ∧ x.fEpoch = e ∧ x.fCommit = c ∧ x.fTopics = l) (Sp_co v) fun k =>
    (Sp_ret (β := MarkMark) _).congr (ok' := fun x : MarkMark => (x.fProducer = p ∧ x.fEpoch = e ∧ x.fCommit = c ∧ x.fTopics = l) ∧ x.fCoordinator = k) (fun x => ?_) (fun _ _ => rfl)) (fun x => ?_) (fun _ _ => rfl)) (fun x => ?_) (fun _ _ => rfl)) (fun x => ?_) (fun _ _ => rfl)) (fun x => ?_) (fun _ _ => rfl)) (fun x => ?_) (fun x _ => by simp only [encM, encTs, List.append_nil])
  · obtain ⟨a1, a2, a3, a4, a5⟩ := x
    simp only [MarkMark.mk.injEq]
    exact ⟨fun ⟨h, h1, h2, h3, h4⟩ => ⟨⟨h, h1, h2, h3⟩, h4⟩, fun ⟨⟨h, h1, h2, h3⟩, h4⟩ => ⟨h, h1, h2, h3, h4⟩⟩
  · exact ⟨fun ⟨h, h1, h2, h3, h4⟩ => ⟨⟨h, h1, h2, h3⟩, h4⟩, fun ⟨⟨h, h1, h2, h3⟩, h4⟩ => ⟨h, h1, h2, h3, h4⟩⟩
  · exact ⟨fun ⟨h, h1, h2, h3, h4⟩ => ⟨⟨h, h1, h2, h3⟩, h4⟩, fun ⟨⟨h, h1, h2, h3⟩, h4⟩ => ⟨h, h1, h2, h3, h4⟩⟩
  · exact ⟨fun ⟨_, h, h1, h2, h3⟩ => ⟨⟨h, h1, h2⟩, h3⟩, fun ⟨⟨h, h1, h2⟩, h3⟩ => ⟨trivial, h, h1, h2, h3⟩⟩
  · exact ⟨fun ⟨h, h1, h2, h3⟩ => ⟨⟨h, h1, h2⟩, h3⟩, fun ⟨⟨h, h1, h2⟩, h3⟩ => ⟨h, h1, h2, h3⟩⟩
  · exact Iff.rfl
theorem encM_ge (v : Int) (m : MarkMark) (h : okM v m) : 15 ≤ (encM v m).length := by
  have : (encBool m.fCommit).length = 1 := be_length _ _
  simp only [encM, encTs, List.length_append, be_length]
  omega
theorem encM_len (v : Int) (m : MarkMark) : 15 + wTs m.fTopics ≤ (encM v m).length ∧ (encM v m).length ≤ 19 + wTs m.fTopics := by
  have : (encBool m.fCommit).length = 1 := be_length _ _
  have h2 := encTs_len m.fTopics
  simp only [encM, encTs, List.length_append, be_length, h2]
  split <;> simp only [be_length, List.length_nil] <;> omega
def markE (v : Int) (st11 : I) : Option (Option MarkMark × I) := (gInt st11 8).bind fun (x20, st21) => (gInt st21 2).bind fun (x23, st24) => (f_txn_Bool st24).bind fun (x26, st27) => (f_value_Topics st27).bind fun (x30, st33) => (if v > 0 then ((gInt st33 4).bind fun (x43, st44) => some (x43, st44)) else some (0, st33)).bind fun (y39, st40) => if st40.err = 0 then some (some ⟨x20, x23, x26, x30, y39⟩, st40) else some (none, st40)
theorem B_co (v : Int) : CB (fun st33 => if v > 0 then ((gInt st33 4).bind fun (x43, st44) => some (x43, st44)) else some (0, st33)) (if v > 0 then pInt 4 else Pr.ret 0) 0 := by
  by_cases hv : v > 0
  · simp only [if_pos hv]
    refine CB.congr Q4.cb (fun st => ?_)
    cases gInt st 4 <;> rfl
  · simp only [if_neg hv]
    exact ⟨fun _ _ => rfl, fun s q _ hq => .inr ⟨0, q, rfl, rfl, Nat.le_refl _, hq⟩⟩
theorem w_co (v : Int) : ∀ (s : List UInt8) (q : Nat) (a : Int) (r : Nat), s.length ≤ 1000000 → q ≤ s.length → (if v > 0 then pInt 4 else Pr.ret 0) s q = .ok (a, r) → wI a := by
  intro s q a r hl hq h
  by_cases hv : v > 0
  · rw [if_pos hv] at h
    exact w_int (by decide) (by decide) s q a r hl hq h
  · rw [if_neg hv] at h
    injection h with h
    rw [← (Prod.mk.inj h).1]
    exact wi0
theorem B_markE (v : Int) : CB (markE v) ((pMark v).map some) none := by
  have h : CB (markE v) ((pInt 8).bind fun p => (pInt 2).bind fun e => pBool.bind fun c => pTops.bind fun l => (if v > 0 then pInt 4 else .ret 0).bind fun k => .ret (some ⟨p, e, c, l, k⟩)) none := by
    refine CB.congr (CB.bind wI Q8.cb (w_int (by decide) (by decide)) wi0 fun p hp => CB.bind wI Q2.cb (w_int (by decide) (by decide)) wi0 fun e he => CB.bind (fun _ => True) B_bool (fun _ _ _ _ _ _ _ => trivial) trivial fun c _ => CB.bind wTl B_topics w_tops ⟨(fun t h => nomatch h), by decide⟩ fun l hl => CB.bind wI (B_co v) (w_co v) wi0 fun k hk =>
      (?_ : CB (fun st40 : I => if st40.err = 0 then some (some (⟨p, e, c, l, k⟩ : MarkMark), st40) else some ((none : Option MarkMark), st40)) (Pr.ret (some (⟨p, e, c, l, k⟩ : MarkMark))) none)) (fun st => rfl)
    exact ⟨fun st h => if_neg h, fun s q _ hq => .inr ⟨_, q, rfl, rfl, Nat.le_refl _, hq⟩⟩
  refine h.pr ?_
  funext s q
  unfold pMark Pr.map Pr.bind
  cases pInt 8 s q with
  | error e => rfl
  | ok x =>
    simp only
    cases pInt 2 s x.2 with
    | error e => rfl
    | ok x =>
      simp only
      cases pBool s x.2 with
      | error e => rfl
      | ok x =>
        simp only
        cases pTops s x.2 with
        | error e => rfl
        | ok x =>
          simp only
          cases (if v > 0 then pInt 4 else Pr.ret 0) s x.2 <;> rfl
end Go.Proofs.Ytagbblaegdedpaa.Sl
namespace Go.Proofs.Ytagbblaegdedpaa.Sl
open Go.RowKit
set_option linter.unusedVariables false
set_option linter.unusedSimpArgs false
theorem Pr.map_err {α β : Type} {p : Pr α} {g : α → β} {s : List UInt8} {q : Nat} {e : Int} (h : p.map g s q = .error e) : p s q = .error e := by
  unfold Pr.map Pr.bind at h
  cases hp : p s q with
  | error e' =>
    rw [hp] at h
    injection h with h
    rw [h]
  | ok x => rw [hp] at h; exact nomatch h
theorem Pr.map_ok {α β : Type} {p : Pr α} {g : α → β} {s : List UInt8} {q r : Nat} {y : β} (h : p.map g s q = .ok (y, r)) : ∃ a, p s q = .ok (a, r) ∧ y = g a := by
  unfold Pr.map Pr.bind at h
  cases hp : p s q with
  | error e' => rw [hp] at h; exact nomatch h
  | ok x =>
    rw [hp] at h
    injection h with h
    obtain ⟨rfl, rfl⟩ := Prod.mk.inj h
    exact ⟨x.1, rfl, rfl⟩
theorem mark_chain {γ : Type} (K : MarkMark → I → Option γ) (D : I → Option γ) (v : Int) (st : I) :
    ((gInt st 8).bind fun (x20, st21) => (gInt st21 2).bind fun (x23, st24) => (f_txn_Bool st24).bind fun (x26, st27) => (f_value_Topics st27).bind fun (x30, st33) => (if v > 0 then ((gInt st33 4).bind fun (x43, st44) => some (x43, st44)) else some (0, st33)).bind fun (y39, st40) => (gErr st40).bind fun (x46, st47) => if x46 = 0 then K ⟨x20, x23, x26, x30, y39⟩ st47 else D st47) =
    (markE v st).bind fun (o, st47) => match o with
      | some m => K m st47
      | none => D st47 := by
  unfold markE
  cases gInt st 8 with
  | none => rfl
  | some x =>
    obtain ⟨a1, s1⟩ := x
    simp only [Option.bind_some]
    cases gInt s1 2 with
    | none => rfl
    | some x =>
      obtain ⟨a2, s2⟩ := x
      simp only [Option.bind_some]
      cases f_txn_Bool s2 with
      | none => rfl
      | some x =>
        obtain ⟨a3, s3⟩ := x
        simp only [Option.bind_some]
        cases f_value_Topics s3 with
        | none => rfl
        | some x =>
          obtain ⟨a4, s4⟩ := x
          simp only [Option.bind_some]
          cases (if v > 0 then ((gInt s4 4).bind fun (x43, st44) => some (x43, st44)) else some (0, s4)) with
          | none => rfl
          | some x =>
            obtain ⟨a5, s5⟩ := x
            simp only [Option.bind_some, gErr_eq]
            by_cases he : s5.err = 0
            · rw [if_pos he, if_pos he, Option.bind_some]
            · rw [if_neg he, if_neg he, Option.bind_some]
theorem mread_step (v n : Int) (fuel : Nat) (y4 acc : List MarkMark) (k : Nat) (st : I) (hk : k ≤ 1000000) (ha : acc.length ≤ 1000000) :
    f_mark_Read_l1 v n (fuel + 1) y4 acc k st = if (k : Int) < n then (markE v st).bind fun (o, st47) => match o with
      | some m => f_mark_Read_l1 v n fuel y4 (acc ++ [m]) (k + 1) st47
      | none => some (.ret ([], st47)) else some (.go (y4, acc, k, st)) := by
  rw [f_mark_Read_l1]
  by_cases h : (k : Int) < n
  case neg => rw [if_neg h, if_neg h]
  rw [if_pos h, if_pos h]
  refine (mark_chain (fun m st47 => if (acc.length + 1) * 56 ≤ 140737488355328 then (if -9223372036854775808 ≤ ((k : Int) + 1) ∧ ((k : Int) + 1) ≤ 9223372036854775807 then f_mark_Read_l1 v n fuel y4 (acc ++ [m]) (k + 1) st47 else none) else none) (fun st47 => some (.ret ([], st47))) v st).trans ?_
  cases markE v st with
  | none => rfl
  | some x =>
    obtain ⟨o, s⟩ := x
    rw [Option.bind_some, Option.bind_some]
    cases o with
    | none => rfl
    | some m =>
      show (if (acc.length + 1) * 56 ≤ 140737488355328 then _ else _) = _
      rw [if_pos (by omega), if_pos (by omega)]
theorem mread_loop (v n : Int) (s : List UInt8) (hs : s.length ≤ 1000000) (y : List MarkMark) : ∀ (m fuel k : Nat) (acc : List MarkMark) (q : Nat), ((k + m : Nat) : Int) = n → m < fuel → q ≤ s.length → acc.length = k → k + m ≤ 1000000 →
    (∃ e st, pRep (pMark v) m s q = .error e ∧ e ≠ 0 ∧ st.err = e ∧ f_mark_Read_l1 v n fuel y acc k ⟨s.drop q, q, 0⟩ = some (.ret ([], st))) ∨ (∃ l r, pRep (pMark v) m s q = .ok (l, r) ∧ f_mark_Read_l1 v n fuel y acc k ⟨s.drop q, q, 0⟩ = some (.go (y, acc ++ l, k + m, ⟨s.drop r, r, 0⟩)) ∧ q ≤ r ∧ r ≤ s.length)
  | 0, fuel + 1, k, acc, q, hn, hf, hq, ha, hk => by
    refine .inr ⟨[], q, rfl, ?_, Nat.le_refl _, hq⟩
    rw [mread_step _ _ _ _ _ _ _ (by omega) (by omega), if_neg (by omega), List.append_nil, Nat.add_zero]
  | m + 1, fuel + 1, k, acc, q, hn, hf, hq, ha, hk => by
    rw [mread_step _ _ _ _ _ _ _ (by omega) (by omega), if_pos (by omega)]
    rcases (B_markE v).run s q hs hq with ⟨e, st, p1, g1, x1, y1⟩ | ⟨o, r, p1, g1, n1, l1⟩
    · refine .inl ⟨e, st, ?_, by rw [← x1]; exact y1, x1, ?_⟩
      · rw [pRep, Pr.bind_err (Pr.map_err p1)]
      · rw [g1]
        rfl
    · obtain ⟨a, p2, rfl⟩ := Pr.map_ok p1
      have ih := mread_loop v n s hs y m fuel (k + 1) (acc ++ [a]) r (by omega) (by omega) l1 (by rw [List.length_append, List.length_singleton, ha]) (by omega)
      rw [g1, Option.bind_some]
      simp only
      rcases ih with ⟨e, st, h1, h2, h3, h4⟩ | ⟨l, r', h1, h2, h3, h4⟩
      · exact .inl ⟨e, st, by rw [pRep, Pr.bind_of p2, Pr.bind_err h1], h2, h3, h4⟩
      · refine .inr ⟨a :: l, r', by rw [pRep, Pr.bind_of p2, Pr.bind_of h1]; rfl, ?_, by omega, h4⟩
        rw [h2, List.append_assoc, show k + 1 + m = k + (m + 1) by omega]
        rfl
def pMs (v : Int) : Pr (List MarkMark) := pRow 4 15 (pMark v)
def encMs (v : Int) (l : List MarkMark) : List UInt8 := be (l.length : Int) 4 ++ encs (encM v) l
theorem Sp_ms (v : Int) : Sp (pMs v) (encMs v) (fun l => fits (l.length : Int) 4 = true ∧ ∀ m, m ∈ l → okM v m) := Sp_row 4 15 (by decide) (by decide) (Sp_mark v) (encM_ge v)
def pMarks (v : Int) : Pr (List MarkMark) := (pMs v).bind fun l => if chkMs v l = 0 then .ret l else .err (chkMs v l)
theorem Sp_marks (v : Int) : Sp (pMarks v) (encMs v) (fun l => (fits (l.length : Int) 4 = true ∧ ∀ m, m ∈ l → okM v m) ∧ chkMs v l = 0) := by
  refine Sp.congr (Sp.seq (β := List MarkMark) (π := id) (ok2 := fun l : List MarkMark => chkMs v l = 0) (Sp_ms v) fun l => (Sp_chk (β := List MarkMark) _ _ _).congr (ok' := fun x : List MarkMark => chkMs v x = 0 ∧ id x = l) (fun x => ?_) (fun _ _ => rfl)) (fun x => Iff.rfl) (fun x _ => by rw [List.append_nil]; rfl)
  exact ⟨fun ⟨h1, h2⟩ => ⟨by rw [h2]; exact h1, h2⟩, fun ⟨h1, h2⟩ => ⟨by have h2 : x = l := h2; rw [← h2]; exact h1, h2⟩⟩
theorem okTs_wTl {l : List Top} (h : okTs l) (hw : wTs l ≤ 1000000) : wTl l := by
  have hn := wTs_len l
  refine ⟨fun t ht => ?_, by omega⟩
  have hm := wTs_mem _ _ ht
  unfold wT at hm
  obtain ⟨b1, b2, b3⟩ := h.2 t ht
  exact ⟨by show t.fName.length ≤ _; omega, by show t.fParts.length ≤ _; omega, fun n hn => fits_rng (b3 n hn)⟩
theorem okM_co {v : Int} {m : MarkMark} (h : okM v m) : wI m.fCoordinator := by
  have := h.2.2.2
  split at this
  · exact fits_rng this
  · rw [this]; exact wi0
theorem okM_W {v : Int} {m : MarkMark} (h : okM v m) (hw : wTs m.fTopics ≤ 1000000) : okW m := ⟨fits_rng h.2.1, okM_co h, okTs_wTl h.2.2.1 hw⟩
theorem encMs_mem (v : Int) (l : List MarkMark) (m : MarkMark) (hm : m ∈ l) : wTs m.fTopics ≤ (encMs v l).length := by
  have h1 := encs_mem_len (enc := encM v) l m hm
  have h2 := (encM_len v m).1
  rw [encMs, List.length_append]
  omega
theorem gIFail_z (l : List UInt8) (q : Nat) (e : Int) : gIFail ⟨l, q, 0⟩ e = some (⟨l, q, e⟩ : I) := by rw [gIFail_eq]; rfl
theorem B_marks (v : Int) : CB (fun st => f_mark_Read st v) (pMarks v) [] := by
  refine ⟨fun st h => ?_, fun s q hs hq => ?_⟩
  · show f_mark_Read st v = _
    unfold f_mark_Read
    rw [gCount_d h ⟨by decide, by decide⟩ ⟨by decide, by decide⟩, Option.bind_some]
    simp only
    rw [show ((0 : Int).toNat + 1) = 0 + 1 from rfl, mread_step _ _ _ _ _ _ _ (by decide) (by decide), if_neg (by decide), Option.bind_some]
    simp only
    rw [gErr_eq, Option.bind_some]
    simp only
    rw [if_neg h]
  · show (∃ e st, pMarks v s q = _ ∧ f_mark_Read _ v = _ ∧ _ ∧ _) ∨ (∃ a r, pMarks v s q = _ ∧ f_mark_Read _ v = _ ∧ _ ∧ _)
    unfold f_mark_Read
    rcases (Q_count 4 15 (by decide) (by decide) 4 15 rfl rfl (by decide)).run s q hq with ⟨e, st, p1, g1, x1, y1⟩ | ⟨n, r, p1, g1, n1, l1⟩
    · refine .inl ⟨e, st, ?_, ?_, x1, y1⟩
      · rw [pMarks, Pr.bind_err (by rw [pMs, pRow, Pr.bind_err p1])]
      · rw [g1, Option.bind_some]
        simp only
        rw [show ((0 : Int).toNat + 1) = 0 + 1 from rfl, mread_step _ _ _ _ _ _ _ (by decide) (by decide), if_neg (by decide), Option.bind_some]
        simp only
        rw [gErr_eq, Option.bind_some]
        simp only
        rw [if_neg y1]
    · obtain ⟨c1, c2, c3, c4, c5, c6⟩ := pCount_ok (by decide) (by decide) hq p1
      have c2 := c2 (by decide)
      rw [g1, Option.bind_some]
      simp only
      rcases mread_loop v n s hs [] n.toNat (n.toNat + 1) 0 [] r (by omega) (by omega) l1 rfl (by omega) with ⟨e, st, h1, h2, h3, h4⟩ | ⟨l, r', h1, h2, h3, h4⟩
      · refine .inl ⟨e, st, ?_, ?_, h3, by rw [h3]; exact h2⟩
        · rw [pMarks, Pr.bind_err (by rw [pMs, pRow, Pr.bind_of p1, h1])]
        · rw [h4]
          rfl
      · have hms : pMs v s q = .ok (l, r') := by rw [pMs, pRow, Pr.bind_of p1, h1]
        obtain ⟨b1, b2, b3, b4, b5, b6⟩ := (Sp_ms v).spell s q l r' hq hms
        have hW : ∀ m, m ∈ l → okW m := fun m hm => okM_W (b6 m hm) (by have := encMs_mem v l m hm; omega)
        rw [h2, Option.bind_some]
        simp only [List.nil_append]
        rw [gErr_eq, Option.bind_some]
        simp only [if_true]
        rw [mCheck v l hW, Option.bind_some, pMarks, Pr.bind_of hms]
        by_cases hc : chkMs v l = 0
        · rw [if_pos hc, if_pos hc]
          exact .inr ⟨l, r', rfl, rfl, by omega, h4⟩
        · rw [if_neg hc, if_neg hc, gIFail_z]
          exact .inl ⟨chkMs v l, _, rfl, rfl, rfl, hc⟩
end Go.Proofs.Ytagbblaegdedpaa.Sl
