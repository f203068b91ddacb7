/- TxnWrites: for every input the law returns true, and its arguments read behind the call as they did before. -/
import Derived.Test.YtagbblaegdedpaaRows
import Derived.WalkKit
import Derived.ProofKit
import Derived.OpenShut
import Derived.ShutString
import Derived.ChangeOld
import Derived.Below
import Derived.SizedLaws
import Derived.Test.YtagbblaegdedpaaK2
namespace Go.Proofs.Ytagbblaegdedpaa.Sl
open Go.RowKit
set_option linter.unusedVariables false
set_option linter.unusedSimpArgs false
set_option maxRecDepth 100000
def ft_cursitorref18 : FTab := [(26, 0, 0), (26, 1, 1), (76, 0, 0), (76, 1, 2), (76, 2, 3), (76, 3, 4), (76, 4, 5), (76, 5, 6), (147, 0, 0), (147, 1, 2), (147, 2, 3)]
theorem ft_cursitorref18_ok : (ft_cursitorref18).OK Try.prog := ⟨FOK.mk Try.runUnderlying26 rfl Try.sizeOf4 rfl, FOK.mk Try.runUnderlying26 rfl Try.sizeOf9 rfl, FOK.mk Try.runUnderlying76 rfl Try.sizeOf26 rfl, FOK.mk Try.runUnderlying76 rfl Try.sizeOf3 rfl, FOK.mk Try.runUnderlying76 rfl Try.sizeOf3 rfl, FOK.mk Try.runUnderlying76 rfl Try.sizeOf3 rfl, FOK.mk Try.runUnderlying76 rfl Try.sizeOf68 rfl, FOK.mk Try.runUnderlying76 rfl Try.sizeOf4 rfl, FOK.mk Try.runUnderlying147 rfl Try.sizeOf26 rfl, FOK.mk Try.runUnderlying147 rfl Try.sizeOf3 rfl, FOK.mk Try.runUnderlying147 rfl Try.sizeOf3 rfl, trivial⟩
theorem mix_cursitorref18 : Try.prog.follows .mixedOrders = true := by kernel_rfl
theorem flat_cursitorref18_26 : Flat Try.prog 2 26 [.bool, .string] true := (Flat.struct Try.isAgg26 Try.sizeOf26 rfl Try.underlying26 Try.stoodInHeld26 ⟨by decide, rfl, [.bool], [.string], false, rfl, (Flat.one_ Try.isAgg4 Try.sizeOf4 Try.underlying4), ⟨by decide, rfl, [.string], [], false, rfl, (Flat.one_ Try.isAgg9 Try.sizeOf9 Try.underlying9), rfl⟩⟩)
def f_r18_named (a0 : Bl) : Option (Bool) := (if a0.null = true then some false else (if (a0.data.length : Int) ≥ 1 then (if (a0.data.length : Int) ≤ 32767 then some true else some false) else some false)).bind fun y4 => some y4
set_option maxRecDepth 100000 in
set_option maxHeartbeats 4000000 in
theorem f_r18_named_spec (a0 : Bl) (r : Bool) (h : f_r18_named a0 = some r) : SpecX Try.prog 125 #[.agg #[.bool a0.null, .string (bsOf a0.data)]] .triv (EmpR) (fun v A' N => v = .bool r ∧ A' = EmpR ∧ N = []) := by
  refine enterA Try.func125 rfl Try.ntmps125 rfl ?_
  intro F w hX
  unfold f_r18_named at h
  refine T.seq (T.region rfl ?_)
  refine TL.box rfl .u rfl rfl (fun b1 => ?_)
  refine TL.run ft_cursitorref18_ok [1] rfl rfl ?_
  refine TL.nil (X.seq (T.seq ?_))
  obtain ⟨y4, h, hk5⟩ := Option.bind_eq_some_iff.1 h
  refine T.jq (fun e Rs => e = [(2, .bool y4)] ∧ Rs = [BlkR b1 26 #[.bool a0.null, .string (bsOf a0.data)], EmpR]) ?_ ?_
  · clear hk5
    refine T.region rfl ?_
    refine TL.run ft_cursitorref18_ok [0] rfl rfl ?_
    refine TL.q rfl .u (Ex.b1 0 rfl Try.isAgg4 rfl rfl) rfl ?_
    by_cases c6 : a0.null = true
    · replace h := ifT c6 h
      refine TL.run ft_cursitorref18_ok [2, 3] rfl rfl ?_
      refine TL.no rfl (.gn rfl rfl (bn_f c6)) rfl ?_
      refine TL.no rfl (.gn rfl rfl (bn_f c6)) rfl ?_
      refine TL.no rfl (.gn rfl rfl (bn_f c6)) rfl ?_
      refine TL.no rfl (.gn rfl rfl (bn_f c6)) rfl ?_
      refine TL.q rfl .u (Ex.pn rfl (bn_f c6) rfl) rfl ?_
      refine TL.run ft_cursitorref18_ok [9] rfl rfl ?_
      refine TL.no rfl (.gn rfl rfl rfl) rfl ?_
      refine TL.no rfl (.gn rfl rfl rfl) rfl ?_
      refine TL.no rfl (.gn rfl rfl rfl) rfl ?_
      refine TL.no rfl (.gn rfl rfl rfl) rfl ?_
      refine TL.q rfl .u (Ex.pn rfl rfl rfl) rfl ?_
      refine TL.run ft_cursitorref18_ok [15] rfl rfl ?_
      cases h
      exact TL.nil (X.jq [0, 0] ⟨rfl, rfl⟩ (by rfl) (by rfl))
    · replace h := ifF c6 h
      replace c6 := eq_false_of_ne_true c6
      refine TL.run ft_cursitorref18_ok [2, 3] rfl rfl ?_
      refine TL.q rfl (.g rfl rfl (bn_t c6)) (Ex.ft ft_cursitorref18_ok rfl) rfl ?_
      refine TL.q rfl (.g rfl rfl (bn_t c6)) (Ex.b1 0 rfl Try.isAgg9 rfl rfl) rfl ?_
      refine TL.q rfl (.g rfl rfl (bn_t c6)) (Ex.lenB rfl Try.runUnderlying9) rfl ?_
      refine TL.q rfl (.g rfl rfl (bn_t c6)) (Ex.ft ft_cursitorref18_ok rfl) rfl ?_
      refine TL.q rfl .u (Ex.py rfl (bn_t c6) rfl) rfl ?_
      by_cases c7 : (a0.data.length : Int) ≥ 1
      · replace h := ifT c7 h
        refine TL.run ft_cursitorref18_ok [9] rfl rfl ?_
        refine TL.q rfl (.g rfl rfl (decide_eq_true c7)) (Ex.ft ft_cursitorref18_ok rfl) rfl ?_
        refine TL.q rfl (.g rfl rfl (decide_eq_true c7)) (Ex.b1 0 rfl Try.isAgg9 rfl rfl) rfl ?_
        refine TL.q rfl (.g rfl rfl (decide_eq_true c7)) (Ex.lenB rfl Try.runUnderlying9) rfl ?_
        refine TL.q rfl (.g rfl rfl (decide_eq_true c7)) (Ex.ft ft_cursitorref18_ok rfl) rfl ?_
        refine TL.q rfl .u (Ex.py rfl (decide_eq_true c7) rfl) rfl ?_
        refine TL.run ft_cursitorref18_ok [15] rfl rfl ?_
        by_cases c8 : (a0.data.length : Int) ≤ 32767
        · replace h := ifT c8 h
          cases h
          exact TL.nil (X.as (d := 2) (v' := .bool true) rfl (congrArg Value.bool (decide_eq_true c8)) (X.jq [0, 0] ⟨rfl, rfl⟩ (by rfl) (by rfl)))
        · replace h := ifF c8 h
          cases h
          exact TL.nil (X.as (d := 2) (v' := .bool false) rfl (congrArg Value.bool (decide_eq_false c8)) (X.jq [0, 0] ⟨rfl, rfl⟩ (by rfl) (by rfl)))
      · replace h := ifF c7 h
        refine TL.run ft_cursitorref18_ok [9] rfl rfl ?_
        refine TL.no rfl (.gn rfl rfl (decide_eq_false c7)) rfl ?_
        refine TL.no rfl (.gn rfl rfl (decide_eq_false c7)) rfl ?_
        refine TL.no rfl (.gn rfl rfl (decide_eq_false c7)) rfl ?_
        refine TL.no rfl (.gn rfl rfl (decide_eq_false c7)) rfl ?_
        refine TL.q rfl .u (Ex.pn rfl (decide_eq_false c7) rfl) rfl ?_
        refine TL.run ft_cursitorref18_ok [15] rfl rfl ?_
        cases h
        exact TL.nil (X.jq [0, 0] ⟨rfl, rfl⟩ (by rfl) (by rfl))
  · rintro _ _ ⟨rfl, rfl⟩
    clear h
    have h := hk5
    clear hk5
    try dsimp only at h
    obtain rfl := Option.some.inj h
    exact X.seq (T.ret (X.done1 [1] Try.results125 (RV.tm rfl) ⟨rfl, rfl, rfl⟩ (by rfl) (.inl rfl)))
def f_r18_who (a0 : R18Request) : Option (Bool) := (if a0.fProducer ≥ 0 then (if a0.fEpoch ≥ 0 then (if a0.fEpoch ≤ 32767 then some true else some false) else some false) else some false).bind fun y6 => some y6
set_option maxRecDepth 100000 in
set_option maxHeartbeats 4000000 in
theorem f_r18_who_spec (a0 : R18Request) (A1 : Option Addr) (c2 : Nat) (r : Bool) (h : f_r18_who a0 = some r) : SpecX Try.prog 126 #[.agg #[.bool a0.fID.null, .string (bsOf a0.fID.data), .int .i64 a0.fTimeout, .int .i64 a0.fProducer, .int .i64 a0.fEpoch, .slice A1 a0.fTopics.length c2, .bool a0.fCommit]] (RX.of (sliceRd 2 Top_rd) [.slice A1 a0.fTopics.length c2] a0.fTopics) (EmpR) (fun v A' N => v = .bool r ∧ A' = EmpR ∧ N = []) := by
  refine enterA Try.func126 rfl Try.ntmps126 rfl ?_
  intro F w hX
  unfold f_r18_who at h
  refine T.seq (T.region rfl ?_)
  refine TL.box rfl .u rfl rfl (fun b3 => ?_)
  refine TL.run ft_cursitorref18_ok [1] rfl rfl ?_
  refine TL.nil (X.seq (T.seq ?_))
  obtain ⟨y6, h, hk7⟩ := Option.bind_eq_some_iff.1 h
  refine T.jq (fun e Rs => e = [(2, .bool y6)] ∧ Rs = [BlkR b3 76 #[.bool a0.fID.null, .string (bsOf a0.fID.data), .int .i64 a0.fTimeout, .int .i64 a0.fProducer, .int .i64 a0.fEpoch, .slice A1 a0.fTopics.length c2, .bool a0.fCommit], EmpR]) ?_ ?_
  · clear hk7
    refine T.region rfl ?_
    refine TL.run ft_cursitorref18_ok [0] rfl rfl ?_
    refine TL.q rfl .u (Ex.b1 0 rfl Try.isAgg3 rfl rfl) rfl ?_
    by_cases c8 : a0.fProducer ≥ 0
    · replace h := ifT c8 h
      refine TL.run ft_cursitorref18_ok [2, 3] rfl rfl ?_
      refine TL.q rfl (.g rfl rfl (decide_eq_true c8)) (Ex.ft ft_cursitorref18_ok rfl) rfl ?_
      refine TL.q rfl (.g rfl rfl (decide_eq_true c8)) (Ex.b1 0 rfl Try.isAgg3 rfl rfl) rfl ?_
      refine TL.q rfl (.g rfl rfl (decide_eq_true c8)) (Ex.ft ft_cursitorref18_ok rfl) rfl ?_
      refine TL.q rfl .u (Ex.py rfl (decide_eq_true c8) rfl) rfl ?_
      by_cases c9 : a0.fEpoch ≥ 0
      · replace h := ifT c9 h
        refine TL.run ft_cursitorref18_ok [8] rfl rfl ?_
        refine TL.q rfl (.g rfl rfl (decide_eq_true c9)) (Ex.ft ft_cursitorref18_ok rfl) rfl ?_
        refine TL.q rfl (.g rfl rfl (decide_eq_true c9)) (Ex.b1 0 rfl Try.isAgg3 rfl rfl) rfl ?_
        refine TL.q rfl (.g rfl rfl (decide_eq_true c9)) (Ex.ft ft_cursitorref18_ok rfl) rfl ?_
        refine TL.q rfl .u (Ex.py rfl (decide_eq_true c9) rfl) rfl ?_
        refine TL.run ft_cursitorref18_ok [13] rfl rfl ?_
        by_cases c10 : a0.fEpoch ≤ 32767
        · replace h := ifT c10 h
          cases h
          exact TL.nil (X.as (d := 2) (v' := .bool true) rfl (congrArg Value.bool (decide_eq_true c10)) (X.jq [0, 0] ⟨rfl, rfl⟩ (by rfl) (by rfl)))
        · replace h := ifF c10 h
          cases h
          exact TL.nil (X.as (d := 2) (v' := .bool false) rfl (congrArg Value.bool (decide_eq_false c10)) (X.jq [0, 0] ⟨rfl, rfl⟩ (by rfl) (by rfl)))
      · replace h := ifF c9 h
        refine TL.run ft_cursitorref18_ok [8] rfl rfl ?_
        refine TL.no rfl (.gn rfl rfl (decide_eq_false c9)) rfl ?_
        refine TL.no rfl (.gn rfl rfl (decide_eq_false c9)) rfl ?_
        refine TL.no rfl (.gn rfl rfl (decide_eq_false c9)) rfl ?_
        refine TL.q rfl .u (Ex.pn rfl (decide_eq_false c9) rfl) rfl ?_
        refine TL.run ft_cursitorref18_ok [13] rfl rfl ?_
        cases h
        exact TL.nil (X.jq [0, 0] ⟨rfl, rfl⟩ (by rfl) (by rfl))
    · replace h := ifF c8 h
      refine TL.run ft_cursitorref18_ok [2, 3] rfl rfl ?_
      refine TL.no rfl (.gn rfl rfl (decide_eq_false c8)) rfl ?_
      refine TL.no rfl (.gn rfl rfl (decide_eq_false c8)) rfl ?_
      refine TL.no rfl (.gn rfl rfl (decide_eq_false c8)) rfl ?_
      refine TL.q rfl .u (Ex.pn rfl (decide_eq_false c8) rfl) rfl ?_
      refine TL.run ft_cursitorref18_ok [8] rfl rfl ?_
      refine TL.no rfl (.gn rfl rfl rfl) rfl ?_
      refine TL.no rfl (.gn rfl rfl rfl) rfl ?_
      refine TL.no rfl (.gn rfl rfl rfl) rfl ?_
      refine TL.q rfl .u (Ex.pn rfl rfl rfl) rfl ?_
      refine TL.run ft_cursitorref18_ok [13] rfl rfl ?_
      cases h
      exact TL.nil (X.jq [0, 0] ⟨rfl, rfl⟩ (by rfl) (by rfl))
  · rintro _ _ ⟨rfl, rfl⟩
    clear h
    have h := hk7
    clear hk7
    try dsimp only at h
    obtain rfl := Option.some.inj h
    exact X.seq (T.ret (X.done1 [1] Try.results126 (RV.tm rfl) ⟨rfl, rfl, rfl⟩ (by rfl) (.inl rfl)))
def f_r18_Check (a0 : Int) (a1 : Int) (a2 : R18Request) : Option (Int) := if a0 = 22 then ((if a2.fID.null = true then (if a2.fID.data = [] then some false else some true) else ((f_r18_named a2.fID).bind fun x13 => if x13 = true then some false else some true)).bind fun y9 => if y9 = true then some 4 else ((if a2.fTimeout < 0 then some true else (if a2.fTimeout > 2147483647 then some true else some false)).bind fun y18 => if y18 = true then some 11 else ((if a2.fProducer = (-1) then (if a2.fEpoch = (-1) then some true else (if a1 = 1 then ((f_r18_who a2).bind fun x36 => some x36) else some false)) else (if a1 = 1 then ((f_r18_who a2).bind fun x39 => some x39) else some false)).bind fun y31 => if y31 = true then some 0 else some 11))) else ((f_r18_named a2.fID).bind fun x42 => if x42 = true then ((f_r18_who a2).bind fun x45 => if x45 = true then ((if a0 = 24 then (if (a2.fTopics.length : Int) = 0 then some true else some false) else some false).bind fun y49 => if y49 = true then some 10 else ((if a0 = 24 then ((f_r14_Rise a2.fTopics).bind fun x60 => if x60 = true then some false else some true) else some false).bind fun y57 => if y57 = true then some 13 else some 0)) else some 11) else some 4)
set_option maxRecDepth 100000 in
set_option maxHeartbeats 4000000 in
theorem f_r18_Check_spec (a0 : Int) (a1 : Int) (a2 : R18Request) (A1 : Option Addr) (c2 : Nat) (r : Int) (h : f_r18_Check a0 a1 a2 = some r) : SpecX Try.prog 52 #[.int .i64 a0, .int .i64 a1, .agg #[.bool a2.fID.null, .string (bsOf a2.fID.data), .int .i64 a2.fTimeout, .int .i64 a2.fProducer, .int .i64 a2.fEpoch, .slice A1 a2.fTopics.length c2, .bool a2.fCommit]] (RX.of (sliceRd 2 Top_rd) [.slice A1 a2.fTopics.length c2] a2.fTopics) (EmpR) (fun v A' N => v = .int .i64 r ∧ A' = EmpR ∧ N = []) := by
  refine enterA Try.func52 rfl Try.ntmps52 rfl ?_
  intro F w hX
  unfold f_r18_Check at h
  refine T.seq (T.region rfl ?_)
  refine TL.box rfl .u rfl rfl (fun b3 => ?_)
  refine TL.run ft_cursitorref18_ok [1] rfl rfl ?_
  refine TL.nil (X.seq (T.seq (T.seq (T.region rfl ?_))))
  refine TL.run ft_cursitorref18_ok [0, 1] rfl rfl ?_
  by_cases c4 : a0 = 22
  · replace h := ifT c4 h
    refine TL.nil (X.seq ?_)
    refine T.no rfl (bn_f (decide_eq_true c4)) ?_
    refine T.skip (X.seq (T.seq (T.seq ?_)))
    obtain ⟨y9, h, hk10⟩ := Option.bind_eq_some_iff.1 h
    refine T.jq (fun e Rs => e = [(1, .int .i64 a1), (5, .pointer (some ⟨b3, 0, none⟩)), (6, .int .i64 0), (52, .bool y9)] ∧ Rs = [BlkR b3 76 #[.bool a2.fID.null, .string (bsOf a2.fID.data), .int .i64 a2.fTimeout, .int .i64 a2.fProducer, .int .i64 a2.fEpoch, .slice A1 a2.fTopics.length c2, .bool a2.fCommit], EmpR]) ?_ ?_
    · clear hk10
      refine T.region rfl ?_
      refine TL.run ft_cursitorref18_ok [0, 1] rfl rfl ?_
      refine TL.q rfl .u (Ex.b1 0 rfl Try.isAgg4 rfl rfl) rfl ?_
      by_cases c11 : a2.fID.null = true
      · replace h := ifT c11 h
        refine TL.run ft_cursitorref18_ok [3] rfl rfl ?_
        refine TL.q rfl (.g rfl rfl c11) (Ex.ft ft_cursitorref18_ok rfl) rfl ?_
        refine TL.q rfl (.g rfl rfl c11) (Ex.ft ft_cursitorref18_ok rfl) rfl ?_
        refine TL.q rfl (.g rfl rfl c11) (Ex.b1 0 rfl Try.isAgg9 rfl rfl) rfl ?_
        refine TL.q rfl (.g rfl rfl c11) (Ex.sNe rfl (m := []) rfl) rfl ?_
        refine TL.q rfl .u (Ex.py rfl c11 rfl) rfl ?_
        by_cases c12 : a2.fID.data = []
        · replace h := ifT c12 h
          refine TL.run ft_cursitorref18_ok [9] rfl rfl ?_
          refine TL.q rfl (.g rfl rfl (bn_f (decide_eq_true c12))) (Ex.ft ft_cursitorref18_ok rfl) rfl ?_
          refine TL.q rfl (.g rfl rfl (bn_f (decide_eq_true c12))) (Ex.ft ft_cursitorref18_ok rfl) rfl ?_
          refine TL.q rfl (.g rfl rfl (bn_f (decide_eq_true c12))) (Ex.b1 0 rfl Try.isAgg4 rfl rfl) rfl ?_
          refine TL.q rfl (.g rfl rfl (bn_f (decide_eq_true c12))) (Ex.ft ft_cursitorref18_ok rfl) rfl ?_
          refine TL.q rfl (.g rfl rfl (bn_f (decide_eq_true c12))) (Ex.ft ft_cursitorref18_ok rfl) rfl ?_
          refine TL.no rfl (.gn rfl rfl (bn_f c11)) rfl ?_
          refine TL.no rfl (.gn rfl rfl (bn_f c11)) rfl ?_
          refine TL.no rfl (.gn rfl rfl (bn_f c11)) rfl ?_
          refine TL.no rfl (.gn rfl rfl (bn_f c11)) rfl ?_
          refine TL.q rfl (.g rfl rfl (bn_f (decide_eq_true c12))) (Ex.pn rfl (bn_f c11) rfl) rfl ?_
          refine TL.q rfl .u (Ex.pn rfl (bn_f (decide_eq_true c12)) rfl) rfl ?_
          cases h
          exact TL.nil (X.jq [0, 0] ⟨rfl, rfl⟩ (by rfl) (by rfl))
        · replace h := ifF c12 h
          refine TL.run ft_cursitorref18_ok [9] rfl rfl ?_
          refine TL.no rfl (.gn rfl rfl (bn_t (decide_eq_false c12))) rfl ?_
          refine TL.no rfl (.gn rfl rfl (bn_t (decide_eq_false c12))) rfl ?_
          refine TL.no rfl (.gn rfl rfl (bn_t (decide_eq_false c12))) rfl ?_
          refine TL.no rfl (.gn rfl rfl (bn_t (decide_eq_false c12))) rfl ?_
          refine TL.no rfl (.gn rfl rfl (bn_t (decide_eq_false c12))) rfl ?_
          refine TL.no rfl (.gu rfl rfl) rfl ?_
          refine TL.no rfl (.gu rfl rfl) rfl ?_
          refine TL.no rfl (.gu rfl rfl) rfl ?_
          refine TL.no rfl (.gu rfl rfl) rfl ?_
          refine TL.no rfl (.gn rfl rfl (bn_t (decide_eq_false c12))) rfl ?_
          refine TL.q rfl .u (Ex.py rfl (bn_t (decide_eq_false c12)) rfl) rfl ?_
          cases h
          exact TL.nil (X.jq [0, 0] ⟨rfl, rfl⟩ (by rfl) (by rfl))
      · replace h := ifF c11 h
        replace c11 := eq_false_of_ne_true c11
        refine TL.run ft_cursitorref18_ok [3] rfl rfl ?_
        refine TL.no rfl (.gn rfl rfl c11) rfl ?_
        refine TL.no rfl (.gn rfl rfl c11) rfl ?_
        refine TL.no rfl (.gn rfl rfl c11) rfl ?_
        refine TL.no rfl (.gn rfl rfl c11) rfl ?_
        refine TL.q rfl .u (Ex.pn rfl c11 rfl) rfl ?_
        refine TL.run ft_cursitorref18_ok [9] rfl rfl ?_
        refine TL.q rfl (.g rfl rfl rfl) (Ex.ft ft_cursitorref18_ok rfl) rfl ?_
        refine TL.q rfl (.g rfl rfl rfl) (Ex.ft ft_cursitorref18_ok rfl) rfl ?_
        refine TL.q rfl (.g rfl rfl rfl) (Ex.b1 0 rfl Try.isAgg4 rfl rfl) rfl ?_
        refine TL.q rfl (.g rfl rfl rfl) (Ex.ft ft_cursitorref18_ok rfl) rfl ?_
        refine TL.q rfl (.g rfl rfl rfl) (Ex.ft ft_cursitorref18_ok rfl) rfl ?_
        refine TL.q rfl (.g rfl rfl (bn_t c11)) (Ex.ft ft_cursitorref18_ok rfl) rfl ?_
        refine TL.q rfl (.g rfl rfl (bn_t c11)) (Ex.bS (us := [.bool a2.fID.null, .string (bsOf a2.fID.data)]) 0 rfl Try.isAgg26 Try.sizeOf26 rfl rfl rfl) rfl ?_
        obtain ⟨x13, hx14, h⟩ := Option.bind_eq_some_iff.1 h
        refine TL.ce rfl (.g rfl rfl (bn_t c11)) (.fn Try.call125 rfl) (f_r18_named_spec a2.fID _ hx14) (fun _ hs => (RX.reads_triv _ _)) rfl ?_
        refine TL.q rfl (.g rfl rfl (bn_t c11)) (Ex.ft ft_cursitorref18_ok rfl) rfl ?_
        refine TL.q rfl (.g rfl rfl rfl) (Ex.py rfl (bn_t c11) rfl) rfl ?_
        refine TL.q rfl .u (Ex.pn rfl rfl rfl) rfl ?_
        by_cases c15 : x13 = true
        · replace h := ifT c15 h
          cases h
          exact TL.nil (X.as (d := 52) (v' := .bool false) rfl (congrArg Value.bool (bn_f c15)) (X.jq [0, 0] ⟨rfl, rfl⟩ (by rfl) (by rfl)))
        · replace h := ifF c15 h
          replace c15 := eq_false_of_ne_true c15
          cases h
          exact TL.nil (X.as (d := 52) (v' := .bool true) rfl (congrArg Value.bool (bn_t c15)) (X.jq [0, 0] ⟨rfl, rfl⟩ (by rfl) (by rfl)))
    · rintro _ _ ⟨rfl, rfl⟩
      clear h
      have h := hk10
      clear hk10
      try dsimp only at h
      by_cases c16 : y9 = true
      · replace h := ifT c16 h
        refine X.seq ?_
        refine T.yes rfl c16 ?_
        refine T.seq (T.region rfl ?_)
        refine TL.run ft_cursitorref18_ok [0] rfl rfl ?_
        obtain rfl := Option.some.inj h
        exact TL.nil (X.seq (T.ret (X.rs (X.done1 [1] Try.results52 (RV.tm rfl) ⟨rfl, rfl, rfl⟩ (by rfl) (.inl rfl)))))
      · replace h := ifF c16 h
        replace c16 := eq_false_of_ne_true c16
        refine X.seq ?_
        refine T.no rfl c16 ?_
        refine T.skip (X.seq (T.seq (T.seq ?_)))
        obtain ⟨y18, h, hk19⟩ := Option.bind_eq_some_iff.1 h
        refine T.jq (fun e Rs => e = [(1, .int .i64 a1), (5, .pointer (some ⟨b3, 0, none⟩)), (6, .int .i64 0), (60, .bool y18)] ∧ Rs = [BlkR b3 76 #[.bool a2.fID.null, .string (bsOf a2.fID.data), .int .i64 a2.fTimeout, .int .i64 a2.fProducer, .int .i64 a2.fEpoch, .slice A1 a2.fTopics.length c2, .bool a2.fCommit], EmpR]) ?_ ?_
        · clear hk19
          refine T.region rfl ?_
          refine TL.run ft_cursitorref18_ok [0] rfl rfl ?_
          refine TL.q rfl .u (Ex.b1 0 rfl Try.isAgg3 rfl rfl) rfl ?_
          by_cases c20 : a2.fTimeout < 0
          · replace h := ifT c20 h
            refine TL.run ft_cursitorref18_ok [2, 3] rfl rfl ?_
            refine TL.no rfl (.gn rfl rfl (decide_eq_true c20)) rfl ?_
            refine TL.no rfl (.gn rfl rfl (decide_eq_true c20)) rfl ?_
            refine TL.no rfl (.gn rfl rfl (decide_eq_true c20)) rfl ?_
            refine TL.q rfl .u (Ex.py rfl (decide_eq_true c20) rfl) rfl ?_
            cases h
            exact TL.nil (X.jq [0, 0] ⟨rfl, rfl⟩ (by rfl) (by rfl))
          · replace h := ifF c20 h
            refine TL.run ft_cursitorref18_ok [2, 3] rfl rfl ?_
            refine TL.q rfl (.g rfl rfl (decide_eq_false c20)) (Ex.ft ft_cursitorref18_ok rfl) rfl ?_
            refine TL.q rfl (.g rfl rfl (decide_eq_false c20)) (Ex.b1 0 rfl Try.isAgg3 rfl rfl) rfl ?_
            refine TL.q rfl (.g rfl rfl (decide_eq_false c20)) (Ex.ft ft_cursitorref18_ok rfl) rfl ?_
            refine TL.q rfl .u (Ex.pn rfl (decide_eq_false c20) rfl) rfl ?_
            by_cases c21 : a2.fTimeout > 2147483647
            · replace h := ifT c21 h
              cases h
              exact TL.nil (X.as (d := 60) (v' := .bool true) rfl (congrArg Value.bool (decide_eq_true c21)) (X.jq [0, 0] ⟨rfl, rfl⟩ (by rfl) (by rfl)))
            · replace h := ifF c21 h
              cases h
              exact TL.nil (X.as (d := 60) (v' := .bool false) rfl (congrArg Value.bool (decide_eq_false c21)) (X.jq [0, 0] ⟨rfl, rfl⟩ (by rfl) (by rfl)))
        · rintro _ _ ⟨rfl, rfl⟩
          clear h
          have h := hk19
          clear hk19
          try dsimp only at h
          by_cases c22 : y18 = true
          · replace h := ifT c22 h
            refine X.seq ?_
            refine T.yes rfl c22 ?_
            refine T.seq (T.region rfl ?_)
            refine TL.run ft_cursitorref18_ok [0] rfl rfl ?_
            obtain rfl := Option.some.inj h
            exact TL.nil (X.seq (T.ret (X.rs (X.done1 [1] Try.results52 (RV.tm rfl) ⟨rfl, rfl, rfl⟩ (by rfl) (.inl rfl)))))
          · replace h := ifF c22 h
            replace c22 := eq_false_of_ne_true c22
            refine X.seq ?_
            refine T.no rfl c22 ?_
            refine T.skip (X.seq (T.seq (T.seq ?_)))
            obtain ⟨y31, h, hk32⟩ := Option.bind_eq_some_iff.1 h
            refine T.jq (fun e Rs => e = [(6, .int .i64 0), (76, .bool y31)] ∧ Rs = [BlkR b3 76 #[.bool a2.fID.null, .string (bsOf a2.fID.data), .int .i64 a2.fTimeout, .int .i64 a2.fProducer, .int .i64 a2.fEpoch, .slice A1 a2.fTopics.length c2, .bool a2.fCommit], EmpR]) ?_ ?_
            · clear hk32
              refine T.region rfl ?_
              refine TL.run ft_cursitorref18_ok [0] rfl rfl ?_
              refine TL.q rfl .u (Ex.b1 0 rfl Try.isAgg3 rfl rfl) rfl ?_
              by_cases c33 : a2.fProducer = (-1)
              · replace h := ifT c33 h
                refine TL.run ft_cursitorref18_ok [2, 3] rfl rfl ?_
                refine TL.q rfl (.g rfl rfl (decide_eq_true c33)) (Ex.ft ft_cursitorref18_ok rfl) rfl ?_
                refine TL.q rfl (.g rfl rfl (decide_eq_true c33)) (Ex.b1 0 rfl Try.isAgg3 rfl rfl) rfl ?_
                refine TL.q rfl (.g rfl rfl (decide_eq_true c33)) (Ex.ft ft_cursitorref18_ok rfl) rfl ?_
                refine TL.q rfl .u (Ex.py rfl (decide_eq_true c33) rfl) rfl ?_
                by_cases c34 : a2.fEpoch = (-1)
                · replace h := ifT c34 h
                  refine TL.run ft_cursitorref18_ok [8] rfl rfl ?_
                  refine TL.no rfl (.gn rfl rfl (decide_eq_true c34)) rfl ?_
                  refine TL.no rfl (.gn rfl rfl (decide_eq_true c34)) rfl ?_
                  refine TL.no rfl (.gn rfl rfl (decide_eq_true c34)) rfl ?_
                  refine TL.no rfl (.gu rfl rfl) rfl ?_
                  refine TL.no rfl (.gu rfl rfl) rfl ?_
                  refine TL.no rfl (.gn rfl rfl (decide_eq_true c34)) rfl ?_
                  refine TL.q rfl .u (Ex.py rfl (decide_eq_true c34) rfl) rfl ?_
                  cases h
                  exact TL.nil (X.jq [0, 0] ⟨rfl, rfl⟩ (by rfl) (by rfl))
                · replace h := ifF c34 h
                  refine TL.run ft_cursitorref18_ok [8] rfl rfl ?_
                  refine TL.q rfl (.g rfl rfl (decide_eq_false c34)) (Ex.ft ft_cursitorref18_ok rfl) rfl ?_
                  refine TL.q rfl (.g rfl rfl (decide_eq_false c34)) (Ex.ft ft_cursitorref18_ok rfl) rfl ?_
                  refine TL.q rfl (.g rfl rfl (decide_eq_false c34)) (Ex.ft ft_cursitorref18_ok rfl) rfl ?_
                  by_cases c35 : a1 = 1
                  · replace h := ifT c35 h
                    refine TL.q rfl (.g rfl rfl (decide_eq_true c35)) (Ex.bS (us := [.bool a2.fID.null, .string (bsOf a2.fID.data), .int .i64 a2.fTimeout, .int .i64 a2.fProducer, .int .i64 a2.fEpoch, .slice A1 a2.fTopics.length c2, .bool a2.fCommit]) 0 rfl Try.isAgg76 Try.sizeOf76 rfl rfl rfl) rfl ?_
                    obtain ⟨x36, hx37, h⟩ := Option.bind_eq_some_iff.1 h
                    refine TL.ce rfl (.g rfl rfl (decide_eq_true c35)) (.fn Try.call126 rfl) (f_r18_who_spec a2 _ _ _ hx37) (fun _ hs => (SrcE.old hs hX)) rfl ?_
                    refine TL.q rfl (.g rfl rfl (decide_eq_false c34)) (Ex.py rfl (decide_eq_true c35) rfl) rfl ?_
                    refine TL.q rfl .u (Ex.pn rfl (decide_eq_false c34) rfl) rfl ?_
                    cases h
                    exact TL.nil (X.jq [0, 0] ⟨rfl, rfl⟩ (by rfl) (by rfl))
                  · replace h := ifF c35 h
                    refine TL.no rfl (.gn rfl rfl (decide_eq_false c35)) rfl ?_
                    refine TL.no rfl (.gn rfl rfl (decide_eq_false c35)) rfl ?_
                    refine TL.q rfl (.g rfl rfl (decide_eq_false c34)) (Ex.pn rfl (decide_eq_false c35) rfl) rfl ?_
                    refine TL.q rfl .u (Ex.pn rfl (decide_eq_false c34) rfl) rfl ?_
                    cases h
                    exact TL.nil (X.jq [0, 0] ⟨rfl, rfl⟩ (by rfl) (by rfl))
              · replace h := ifF c33 h
                refine TL.run ft_cursitorref18_ok [2, 3] rfl rfl ?_
                refine TL.no rfl (.gn rfl rfl (decide_eq_false c33)) rfl ?_
                refine TL.no rfl (.gn rfl rfl (decide_eq_false c33)) rfl ?_
                refine TL.no rfl (.gn rfl rfl (decide_eq_false c33)) rfl ?_
                refine TL.q rfl .u (Ex.pn rfl (decide_eq_false c33) rfl) rfl ?_
                refine TL.run ft_cursitorref18_ok [8] rfl rfl ?_
                refine TL.q rfl (.g rfl rfl rfl) (Ex.ft ft_cursitorref18_ok rfl) rfl ?_
                refine TL.q rfl (.g rfl rfl rfl) (Ex.ft ft_cursitorref18_ok rfl) rfl ?_
                refine TL.q rfl (.g rfl rfl rfl) (Ex.ft ft_cursitorref18_ok rfl) rfl ?_
                by_cases c38 : a1 = 1
                · replace h := ifT c38 h
                  refine TL.q rfl (.g rfl rfl (decide_eq_true c38)) (Ex.bS (us := [.bool a2.fID.null, .string (bsOf a2.fID.data), .int .i64 a2.fTimeout, .int .i64 a2.fProducer, .int .i64 a2.fEpoch, .slice A1 a2.fTopics.length c2, .bool a2.fCommit]) 0 rfl Try.isAgg76 Try.sizeOf76 rfl rfl rfl) rfl ?_
                  obtain ⟨x39, hx40, h⟩ := Option.bind_eq_some_iff.1 h
                  refine TL.ce rfl (.g rfl rfl (decide_eq_true c38)) (.fn Try.call126 rfl) (f_r18_who_spec a2 _ _ _ hx40) (fun _ hs => (SrcE.old hs hX)) rfl ?_
                  refine TL.q rfl (.g rfl rfl rfl) (Ex.py rfl (decide_eq_true c38) rfl) rfl ?_
                  refine TL.q rfl .u (Ex.pn rfl rfl rfl) rfl ?_
                  cases h
                  exact TL.nil (X.jq [0, 0] ⟨rfl, rfl⟩ (by rfl) (by rfl))
                · replace h := ifF c38 h
                  refine TL.no rfl (.gn rfl rfl (decide_eq_false c38)) rfl ?_
                  refine TL.no rfl (.gn rfl rfl (decide_eq_false c38)) rfl ?_
                  refine TL.q rfl (.g rfl rfl rfl) (Ex.pn rfl (decide_eq_false c38) rfl) rfl ?_
                  refine TL.q rfl .u (Ex.pn rfl rfl rfl) rfl ?_
                  cases h
                  exact TL.nil (X.jq [0, 0] ⟨rfl, rfl⟩ (by rfl) (by rfl))
            · rintro _ _ ⟨rfl, rfl⟩
              clear h
              have h := hk32
              clear hk32
              try dsimp only at h
              by_cases c41 : y31 = true
              · replace h := ifT c41 h
                refine X.seq ?_
                refine T.yes rfl c41 ?_
                refine T.seq (T.region rfl ?_)
                refine TL.run ft_cursitorref18_ok [0] rfl rfl ?_
                obtain rfl := Option.some.inj h
                exact TL.nil (X.seq (T.ret (X.rs (X.done1 [1] Try.results52 (RV.tm rfl) ⟨rfl, rfl, rfl⟩ (by rfl) (.inl rfl)))))
              · replace h := ifF c41 h
                replace c41 := eq_false_of_ne_true c41
                refine X.seq ?_
                refine T.no rfl c41 ?_
                refine T.skip (X.seq (T.seq (T.region rfl ?_)))
                refine TL.run ft_cursitorref18_ok [0] rfl rfl ?_
                obtain rfl := Option.some.inj h
                exact TL.nil (X.seq (T.ret (X.done1 [1] Try.results52 (RV.tm rfl) ⟨rfl, rfl, rfl⟩ (by rfl) (.inl rfl))))
  · replace h := ifF c4 h
    refine TL.nil (X.seq ?_)
    refine T.yes rfl (bn_t (decide_eq_false c4)) ?_
    refine T.seq (T.seq (T.region rfl ?_))
    refine TL.run ft_cursitorref18_ok [0] rfl rfl ?_
    refine TL.q rfl .u (Ex.bS (us := [.bool a2.fID.null, .string (bsOf a2.fID.data)]) 0 rfl Try.isAgg26 Try.sizeOf26 rfl rfl rfl) rfl ?_
    obtain ⟨x42, hx43, h⟩ := Option.bind_eq_some_iff.1 h
    refine TL.ce rfl .u (.fn Try.call125 rfl) (f_r18_named_spec a2.fID _ hx43) (fun _ hs => (RX.reads_triv _ _)) rfl ?_
    refine TL.run ft_cursitorref18_ok [3] rfl rfl ?_
    by_cases c44 : x42 = true
    · replace h := ifT c44 h
      refine TL.nil (X.seq ?_)
      refine T.no rfl (bn_f c44) ?_
      refine T.skip (X.seq (T.seq (T.seq (T.region rfl ?_))))
      refine TL.q rfl .u (Ex.bS (us := [.bool a2.fID.null, .string (bsOf a2.fID.data), .int .i64 a2.fTimeout, .int .i64 a2.fProducer, .int .i64 a2.fEpoch, .slice A1 a2.fTopics.length c2, .bool a2.fCommit]) 0 rfl Try.isAgg76 Try.sizeOf76 rfl rfl rfl) rfl ?_
      obtain ⟨x45, hx46, h⟩ := Option.bind_eq_some_iff.1 h
      refine TL.ce rfl .u (.fn Try.call126 rfl) (f_r18_who_spec a2 _ _ _ hx46) (fun _ hs => (SrcE.old hs hX)) rfl ?_
      refine TL.run ft_cursitorref18_ok [2] rfl rfl ?_
      by_cases c47 : x45 = true
      · replace h := ifT c47 h
        refine TL.nil (X.seq ?_)
        refine T.no rfl (bn_f c47) ?_
        refine T.skip (X.seq (T.seq (T.seq ?_)))
        obtain ⟨y49, h, hk50⟩ := Option.bind_eq_some_iff.1 h
        refine T.jq (fun e Rs => e = [(0, .int .i64 a0), (1, .int .i64 a1), (5, .pointer (some ⟨b3, 0, none⟩)), (6, .int .i64 0), (23, .bool y49)] ∧ Rs = [BlkR b3 76 #[.bool a2.fID.null, .string (bsOf a2.fID.data), .int .i64 a2.fTimeout, .int .i64 a2.fProducer, .int .i64 a2.fEpoch, .slice A1 a2.fTopics.length c2, .bool a2.fCommit], EmpR]) ?_ ?_
        · clear hk50
          refine T.region rfl ?_
          by_cases c51 : a0 = 24
          · replace h := ifT c51 h
            refine TL.run ft_cursitorref18_ok [0, 1, 2] rfl rfl ?_
            refine TL.q rfl (.g rfl rfl (decide_eq_true c51)) (Ex.ft ft_cursitorref18_ok rfl) rfl ?_
            refine TL.q rfl (.g rfl rfl (decide_eq_true c51)) (Ex.b1 0 rfl Try.isAgg68 rfl rfl) rfl ?_
            refine TL.q rfl (.g rfl rfl (decide_eq_true c51)) (Ex.lenS rfl Try.runUnderlying68) rfl ?_
            refine TL.q rfl (.g rfl rfl (decide_eq_true c51)) (Ex.ft ft_cursitorref18_ok rfl) rfl ?_
            refine TL.q rfl .u (Ex.py rfl (decide_eq_true c51) rfl) rfl ?_
            by_cases c52 : (a2.fTopics.length : Int) = 0
            · replace h := ifT c52 h
              cases h
              exact TL.nil (X.as (d := 23) (v' := .bool true) rfl (congrArg Value.bool (decide_eq_true c52)) (X.jq [0, 0] ⟨rfl, rfl⟩ (by rfl) (by rfl)))
            · replace h := ifF c52 h
              cases h
              exact TL.nil (X.as (d := 23) (v' := .bool false) rfl (congrArg Value.bool (decide_eq_false c52)) (X.jq [0, 0] ⟨rfl, rfl⟩ (by rfl) (by rfl)))
          · replace h := ifF c51 h
            refine TL.run ft_cursitorref18_ok [0, 1, 2] rfl rfl ?_
            refine TL.no rfl (.gn rfl rfl (decide_eq_false c51)) rfl ?_
            refine TL.no rfl (.gn rfl rfl (decide_eq_false c51)) rfl ?_
            refine TL.no rfl (.gn rfl rfl (decide_eq_false c51)) rfl ?_
            refine TL.no rfl (.gn rfl rfl (decide_eq_false c51)) rfl ?_
            refine TL.q rfl .u (Ex.pn rfl (decide_eq_false c51) rfl) rfl ?_
            cases h
            exact TL.nil (X.jq [0, 0] ⟨rfl, rfl⟩ (by rfl) (by rfl))
        · rintro _ _ ⟨rfl, rfl⟩
          clear h
          have h := hk50
          clear hk50
          try dsimp only at h
          by_cases c53 : y49 = true
          · replace h := ifT c53 h
            refine X.seq ?_
            refine T.yes rfl c53 ?_
            refine T.seq (T.region rfl ?_)
            refine TL.run ft_cursitorref18_ok [0] rfl rfl ?_
            obtain rfl := Option.some.inj h
            exact TL.nil (X.seq (T.ret (X.rs (X.rs (X.done1 [1] Try.results52 (RV.tm rfl) ⟨rfl, rfl, rfl⟩ (by rfl) (.inl rfl))))))
          · replace h := ifF c53 h
            replace c53 := eq_false_of_ne_true c53
            refine X.seq ?_
            refine T.no rfl c53 ?_
            refine T.skip (X.seq (T.seq (T.seq ?_)))
            obtain ⟨y57, h, hk58⟩ := Option.bind_eq_some_iff.1 h
            refine T.jq (fun e Rs => e = [(1, .int .i64 a1), (5, .pointer (some ⟨b3, 0, none⟩)), (6, .int .i64 0), (31, .bool y57)] ∧ Rs = [BlkR b3 76 #[.bool a2.fID.null, .string (bsOf a2.fID.data), .int .i64 a2.fTimeout, .int .i64 a2.fProducer, .int .i64 a2.fEpoch, .slice A1 a2.fTopics.length c2, .bool a2.fCommit], EmpR]) ?_ ?_
            · clear hk58
              refine T.region rfl ?_
              by_cases c59 : a0 = 24
              · replace h := ifT c59 h
                refine TL.run ft_cursitorref18_ok [0, 1, 2] rfl rfl ?_
                refine TL.q rfl (.g rfl rfl (decide_eq_true c59)) (Ex.ft ft_cursitorref18_ok rfl) rfl ?_
                refine TL.q rfl (.g rfl rfl (decide_eq_true c59)) (Ex.b1 0 rfl Try.isAgg68 rfl rfl) rfl ?_
                obtain ⟨x60, hx61, h⟩ := Option.bind_eq_some_iff.1 h
                refine TL.ce rfl (.g rfl rfl (decide_eq_true c59)) (.fn Try.call127 rfl) (f_r14_Rise_spec a2.fTopics _ _ _ hx61) (fun _ hs => (SrcE.old hs hX)) rfl ?_
                refine TL.q rfl (.g rfl rfl (decide_eq_true c59)) (Ex.ft ft_cursitorref18_ok rfl) rfl ?_
                refine TL.q rfl .u (Ex.py rfl (decide_eq_true c59) rfl) rfl ?_
                by_cases c62 : x60 = true
                · replace h := ifT c62 h
                  cases h
                  exact TL.nil (X.as (d := 31) (v' := .bool false) rfl (congrArg Value.bool (bn_f c62)) (X.jq [0, 0] ⟨rfl, rfl⟩ (by rfl) (by rfl)))
                · replace h := ifF c62 h
                  replace c62 := eq_false_of_ne_true c62
                  cases h
                  exact TL.nil (X.as (d := 31) (v' := .bool true) rfl (congrArg Value.bool (bn_t c62)) (X.jq [0, 0] ⟨rfl, rfl⟩ (by rfl) (by rfl)))
              · replace h := ifF c59 h
                refine TL.run ft_cursitorref18_ok [0, 1, 2] rfl rfl ?_
                refine TL.no rfl (.gn rfl rfl (decide_eq_false c59)) rfl ?_
                refine TL.no rfl (.gn rfl rfl (decide_eq_false c59)) rfl ?_
                refine TL.no rfl (.gn rfl rfl (decide_eq_false c59)) rfl ?_
                refine TL.no rfl (.gn rfl rfl (decide_eq_false c59)) rfl ?_
                refine TL.q rfl .u (Ex.pn rfl (decide_eq_false c59) rfl) rfl ?_
                cases h
                exact TL.nil (X.jq [0, 0] ⟨rfl, rfl⟩ (by rfl) (by rfl))
            · rintro _ _ ⟨rfl, rfl⟩
              clear h
              have h := hk58
              clear hk58
              try dsimp only at h
              by_cases c63 : y57 = true
              · replace h := ifT c63 h
                refine X.seq ?_
                refine T.yes rfl c63 ?_
                refine T.seq (T.region rfl ?_)
                refine TL.run ft_cursitorref18_ok [0] rfl rfl ?_
                obtain rfl := Option.some.inj h
                exact TL.nil (X.seq (T.ret (X.rs (X.rs (X.done1 [1] Try.results52 (RV.tm rfl) ⟨rfl, rfl, rfl⟩ (by rfl) (.inl rfl))))))
              · replace h := ifF c63 h
                replace c63 := eq_false_of_ne_true c63
                refine X.seq ?_
                refine T.no rfl c63 ?_
                refine T.skip (X.seq (T.seq (T.region rfl ?_)))
                refine TL.run ft_cursitorref18_ok [0] rfl rfl ?_
                obtain rfl := Option.some.inj h
                exact TL.nil (X.seq (T.ret (X.rs (X.done1 [1] Try.results52 (RV.tm rfl) ⟨rfl, rfl, rfl⟩ (by rfl) (.inl rfl)))))
      · replace h := ifF c47 h
        replace c47 := eq_false_of_ne_true c47
        refine TL.nil (X.seq ?_)
        refine T.yes rfl (bn_t c47) ?_
        refine T.seq (T.region rfl ?_)
        refine TL.run ft_cursitorref18_ok [0] rfl rfl ?_
        obtain rfl := Option.some.inj h
        exact TL.nil (X.seq (T.ret (X.rs (X.rs (X.done1 [1] Try.results52 (RV.tm rfl) ⟨rfl, rfl, rfl⟩ (by rfl) (.inl rfl))))))
    · replace h := ifF c44 h
      replace c44 := eq_false_of_ne_true c44
      refine TL.nil (X.seq ?_)
      refine T.yes rfl (bn_t c44) ?_
      refine T.seq (T.region rfl ?_)
      refine TL.run ft_cursitorref18_ok [0] rfl rfl ?_
      obtain rfl := Option.some.inj h
      exact TL.nil (X.seq (T.ret (X.rs (X.rs (X.done1 [1] Try.results52 (RV.tm rfl) ⟨rfl, rfl, rfl⟩ (by rfl) (.inl rfl))))))
def f_r18_Same (a0 : R18Request) (a1 : R18Request) : Option (Bool) := (if a0.fID.null = a1.fID.null then (if a0.fID.data = a1.fID.data then (if a0.fTimeout = a1.fTimeout then (if a0.fProducer = a1.fProducer then (if a0.fEpoch = a1.fEpoch then (if a0.fCommit = true then (if a1.fCommit = true then ((f_r14_SameTopics a0.fTopics a1.fTopics).bind fun x28 => some x28) else some false) else (if a1.fCommit = true then some false else ((f_r14_SameTopics a0.fTopics a1.fTopics).bind fun x31 => some x31))) else some false) else some false) else some false) else some false) else some false).bind fun y19 => some y19
set_option maxRecDepth 100000 in
set_option maxHeartbeats 4000000 in
theorem f_r18_Same_spec (a0 : R18Request) (A1 : Option Addr) (c2 : Nat) (a1 : R18Request) (A3 : Option Addr) (c4 : Nat) (r : Bool) (h : f_r18_Same a0 a1 = some r) : SpecX Try.prog 48 #[.agg #[.bool a0.fID.null, .string (bsOf a0.fID.data), .int .i64 a0.fTimeout, .int .i64 a0.fProducer, .int .i64 a0.fEpoch, .slice A1 a0.fTopics.length c2, .bool a0.fCommit], .agg #[.bool a1.fID.null, .string (bsOf a1.fID.data), .int .i64 a1.fTimeout, .int .i64 a1.fProducer, .int .i64 a1.fEpoch, .slice A3 a1.fTopics.length c4, .bool a1.fCommit]] (RX.and (RX.of (sliceRd 2 Top_rd) [.slice A1 a0.fTopics.length c2] a0.fTopics) (RX.of (sliceRd 2 Top_rd) [.slice A3 a1.fTopics.length c4] a1.fTopics)) (EmpR) (fun v A' N => v = .bool r ∧ A' = EmpR ∧ N = []) := by
  refine enterA Try.func48 rfl Try.ntmps48 rfl ?_
  intro F w hX
  unfold f_r18_Same at h
  refine T.seq (T.region rfl ?_)
  refine TL.box rfl .u rfl rfl (fun b5 => ?_)
  refine TL.box rfl .u rfl rfl (fun b6 => ?_)
  refine TL.run ft_cursitorref18_ok [2] rfl rfl ?_
  refine TL.nil (X.seq (T.seq ?_))
  obtain ⟨y19, h, hk20⟩ := Option.bind_eq_some_iff.1 h
  refine T.jq (fun e Rs => e = [(4, .bool y19)] ∧ Rs = [BlkR b6 76 #[.bool a1.fID.null, .string (bsOf a1.fID.data), .int .i64 a1.fTimeout, .int .i64 a1.fProducer, .int .i64 a1.fEpoch, .slice A3 a1.fTopics.length c4, .bool a1.fCommit], BlkR b5 76 #[.bool a0.fID.null, .string (bsOf a0.fID.data), .int .i64 a0.fTimeout, .int .i64 a0.fProducer, .int .i64 a0.fEpoch, .slice A1 a0.fTopics.length c2, .bool a0.fCommit], EmpR]) ?_ ?_
  · clear hk20
    refine T.region rfl ?_
    refine TL.run ft_cursitorref18_ok [0] rfl rfl ?_
    refine TL.q rfl .u (Ex.bS (us := [.bool a0.fID.null, .string (bsOf a0.fID.data)]) 1 rfl Try.isAgg26 Try.sizeOf26 rfl rfl rfl) rfl ?_
    refine TL.run ft_cursitorref18_ok [2] rfl rfl ?_
    refine TL.q rfl .u (Ex.bS (us := [.bool a1.fID.null, .string (bsOf a1.fID.data)]) 0 rfl Try.isAgg26 Try.sizeOf26 rfl rfl rfl) rfl ?_
    by_cases c21 : a0.fID.null = a1.fID.null
    · replace h := ifT c21 h
      by_cases c22 : a0.fID.data = a1.fID.data
      · replace h := ifT c22 h
        refine TL.q rfl .u (Ex.aEq (us := [.bool a0.fID.null, .string (bsOf a0.fID.data)]) (vs := [.bool a1.fID.null, .string (bsOf a1.fID.data)]) flat_cursitorref18_26 rfl Try.eqGuardType26 rfl rfl rfl rfl (eqL_t (eqV_b c21) (eqL_t (eqV_s (l := a0.fID.data) (m := a1.fID.data) c22) rfl))) rfl ?_
        refine TL.run ft_cursitorref18_ok [5] rfl rfl ?_
        refine TL.q rfl (.g rfl rfl rfl) (Ex.ft ft_cursitorref18_ok rfl) rfl ?_
        refine TL.q rfl (.g rfl rfl rfl) (Ex.b1 1 rfl Try.isAgg3 rfl rfl) rfl ?_
        refine TL.q rfl (.g rfl rfl rfl) (Ex.ft ft_cursitorref18_ok rfl) rfl ?_
        refine TL.q rfl (.g rfl rfl rfl) (Ex.b1 0 rfl Try.isAgg3 rfl rfl) rfl ?_
        refine TL.q rfl (.g rfl rfl rfl) (Ex.ft ft_cursitorref18_ok rfl) rfl ?_
        refine TL.q rfl .u (Ex.py rfl rfl rfl) rfl ?_
        by_cases c23 : a0.fTimeout = a1.fTimeout
        · replace h := ifT c23 h
          refine TL.run ft_cursitorref18_ok [12] rfl rfl ?_
          refine TL.q rfl (.g rfl rfl (decide_eq_true c23)) (Ex.ft ft_cursitorref18_ok rfl) rfl ?_
          refine TL.q rfl (.g rfl rfl (decide_eq_true c23)) (Ex.b1 1 rfl Try.isAgg3 rfl rfl) rfl ?_
          refine TL.q rfl (.g rfl rfl (decide_eq_true c23)) (Ex.ft ft_cursitorref18_ok rfl) rfl ?_
          refine TL.q rfl (.g rfl rfl (decide_eq_true c23)) (Ex.b1 0 rfl Try.isAgg3 rfl rfl) rfl ?_
          refine TL.q rfl (.g rfl rfl (decide_eq_true c23)) (Ex.ft ft_cursitorref18_ok rfl) rfl ?_
          refine TL.q rfl .u (Ex.py rfl (decide_eq_true c23) rfl) rfl ?_
          by_cases c24 : a0.fProducer = a1.fProducer
          · replace h := ifT c24 h
            refine TL.run ft_cursitorref18_ok [19] rfl rfl ?_
            refine TL.q rfl (.g rfl rfl (decide_eq_true c24)) (Ex.ft ft_cursitorref18_ok rfl) rfl ?_
            refine TL.q rfl (.g rfl rfl (decide_eq_true c24)) (Ex.b1 1 rfl Try.isAgg3 rfl rfl) rfl ?_
            refine TL.q rfl (.g rfl rfl (decide_eq_true c24)) (Ex.ft ft_cursitorref18_ok rfl) rfl ?_
            refine TL.q rfl (.g rfl rfl (decide_eq_true c24)) (Ex.b1 0 rfl Try.isAgg3 rfl rfl) rfl ?_
            refine TL.q rfl (.g rfl rfl (decide_eq_true c24)) (Ex.ft ft_cursitorref18_ok rfl) rfl ?_
            refine TL.q rfl .u (Ex.py rfl (decide_eq_true c24) rfl) rfl ?_
            by_cases c25 : a0.fEpoch = a1.fEpoch
            · replace h := ifT c25 h
              refine TL.run ft_cursitorref18_ok [26] rfl rfl ?_
              refine TL.q rfl (.g rfl rfl (decide_eq_true c25)) (Ex.ft ft_cursitorref18_ok rfl) rfl ?_
              refine TL.q rfl (.g rfl rfl (decide_eq_true c25)) (Ex.b1 1 rfl Try.isAgg4 rfl rfl) rfl ?_
              refine TL.q rfl (.g rfl rfl (decide_eq_true c25)) (Ex.ft ft_cursitorref18_ok rfl) rfl ?_
              refine TL.q rfl (.g rfl rfl (decide_eq_true c25)) (Ex.b1 0 rfl Try.isAgg4 rfl rfl) rfl ?_
              by_cases c26 : a0.fCommit = true
              · replace h := ifT c26 h
                by_cases c27 : a1.fCommit = true
                · replace h := ifT c27 h
                  refine TL.q rfl (.g rfl rfl (decide_eq_true c25)) (Ex.bEq rfl c26 rfl c27 Try.runUnderlying4) rfl ?_
                  refine TL.q rfl .u (Ex.py rfl (decide_eq_true c25) rfl) rfl ?_
                  refine TL.run ft_cursitorref18_ok [33] rfl rfl ?_
                  refine TL.q rfl (.g rfl rfl rfl) (Ex.ft ft_cursitorref18_ok rfl) rfl ?_
                  refine TL.q rfl (.g rfl rfl rfl) (Ex.b1 1 rfl Try.isAgg68 rfl rfl) rfl ?_
                  refine TL.q rfl (.g rfl rfl rfl) (Ex.ft ft_cursitorref18_ok rfl) rfl ?_
                  refine TL.q rfl (.g rfl rfl rfl) (Ex.b1 0 rfl Try.isAgg68 rfl rfl) rfl ?_
                  obtain ⟨x28, hx29, h⟩ := Option.bind_eq_some_iff.1 h
                  refine TL.ce rfl (.g rfl rfl rfl) (.fn Try.call110 rfl) (f_r14_SameTopics_spec a0.fTopics _ _ a1.fTopics _ _ _ hx29) (fun _ hs => (RX.reads_and (SrcE.old hs (RX.reads_left hX)) (SrcE.old hs (RX.reads_right hX)))) rfl ?_
                  refine TL.q rfl .u (Ex.py rfl rfl rfl) rfl ?_
                  refine TL.run ft_cursitorref18_ok [40] rfl rfl ?_
                  cases h
                  exact TL.nil (X.jq [0, 0, 0] ⟨rfl, rfl⟩ (by rfl) (by rfl))
                · replace h := ifF c27 h
                  replace c27 := eq_false_of_ne_true c27
                  refine TL.q rfl (.g rfl rfl (decide_eq_true c25)) (Ex.bEq rfl c26 rfl c27 Try.runUnderlying4) rfl ?_
                  refine TL.q rfl .u (Ex.py rfl (decide_eq_true c25) rfl) rfl ?_
                  refine TL.run ft_cursitorref18_ok [33] rfl rfl ?_
                  refine TL.no rfl (.gn rfl rfl rfl) rfl ?_
                  refine TL.no rfl (.gn rfl rfl rfl) rfl ?_
                  refine TL.no rfl (.gn rfl rfl rfl) rfl ?_
                  refine TL.no rfl (.gn rfl rfl rfl) rfl ?_
                  refine TL.no rfl (.gn rfl rfl rfl) rfl ?_
                  refine TL.q rfl .u (Ex.pn rfl rfl rfl) rfl ?_
                  refine TL.run ft_cursitorref18_ok [40] rfl rfl ?_
                  cases h
                  exact TL.nil (X.jq [0, 0, 0] ⟨rfl, rfl⟩ (by rfl) (by rfl))
              · replace h := ifF c26 h
                replace c26 := eq_false_of_ne_true c26
                by_cases c30 : a1.fCommit = true
                · replace h := ifT c30 h
                  refine TL.q rfl (.g rfl rfl (decide_eq_true c25)) (Ex.bEq rfl c26 rfl c30 Try.runUnderlying4) rfl ?_
                  refine TL.q rfl .u (Ex.py rfl (decide_eq_true c25) rfl) rfl ?_
                  refine TL.run ft_cursitorref18_ok [33] rfl rfl ?_
                  refine TL.no rfl (.gn rfl rfl rfl) rfl ?_
                  refine TL.no rfl (.gn rfl rfl rfl) rfl ?_
                  refine TL.no rfl (.gn rfl rfl rfl) rfl ?_
                  refine TL.no rfl (.gn rfl rfl rfl) rfl ?_
                  refine TL.no rfl (.gn rfl rfl rfl) rfl ?_
                  refine TL.q rfl .u (Ex.pn rfl rfl rfl) rfl ?_
                  refine TL.run ft_cursitorref18_ok [40] rfl rfl ?_
                  cases h
                  exact TL.nil (X.jq [0, 0, 0] ⟨rfl, rfl⟩ (by rfl) (by rfl))
                · replace h := ifF c30 h
                  replace c30 := eq_false_of_ne_true c30
                  refine TL.q rfl (.g rfl rfl (decide_eq_true c25)) (Ex.bEq rfl c26 rfl c30 Try.runUnderlying4) rfl ?_
                  refine TL.q rfl .u (Ex.py rfl (decide_eq_true c25) rfl) rfl ?_
                  refine TL.run ft_cursitorref18_ok [33] rfl rfl ?_
                  refine TL.q rfl (.g rfl rfl rfl) (Ex.ft ft_cursitorref18_ok rfl) rfl ?_
                  refine TL.q rfl (.g rfl rfl rfl) (Ex.b1 1 rfl Try.isAgg68 rfl rfl) rfl ?_
                  refine TL.q rfl (.g rfl rfl rfl) (Ex.ft ft_cursitorref18_ok rfl) rfl ?_
                  refine TL.q rfl (.g rfl rfl rfl) (Ex.b1 0 rfl Try.isAgg68 rfl rfl) rfl ?_
                  obtain ⟨x31, hx32, h⟩ := Option.bind_eq_some_iff.1 h
                  refine TL.ce rfl (.g rfl rfl rfl) (.fn Try.call110 rfl) (f_r14_SameTopics_spec a0.fTopics _ _ a1.fTopics _ _ _ hx32) (fun _ hs => (RX.reads_and (SrcE.old hs (RX.reads_left hX)) (SrcE.old hs (RX.reads_right hX)))) rfl ?_
                  refine TL.q rfl .u (Ex.py rfl rfl rfl) rfl ?_
                  refine TL.run ft_cursitorref18_ok [40] rfl rfl ?_
                  cases h
                  exact TL.nil (X.jq [0, 0, 0] ⟨rfl, rfl⟩ (by rfl) (by rfl))
            · replace h := ifF c25 h
              refine TL.run ft_cursitorref18_ok [26] rfl rfl ?_
              refine TL.no rfl (.gn rfl rfl (decide_eq_false c25)) rfl ?_
              refine TL.no rfl (.gn rfl rfl (decide_eq_false c25)) rfl ?_
              refine TL.no rfl (.gn rfl rfl (decide_eq_false c25)) rfl ?_
              refine TL.no rfl (.gn rfl rfl (decide_eq_false c25)) rfl ?_
              refine TL.no rfl (.gn rfl rfl (decide_eq_false c25)) rfl ?_
              refine TL.q rfl .u (Ex.pn rfl (decide_eq_false c25) rfl) rfl ?_
              refine TL.run ft_cursitorref18_ok [33] rfl rfl ?_
              refine TL.no rfl (.gn rfl rfl rfl) rfl ?_
              refine TL.no rfl (.gn rfl rfl rfl) rfl ?_
              refine TL.no rfl (.gn rfl rfl rfl) rfl ?_
              refine TL.no rfl (.gn rfl rfl rfl) rfl ?_
              refine TL.no rfl (.gn rfl rfl rfl) rfl ?_
              refine TL.q rfl .u (Ex.pn rfl rfl rfl) rfl ?_
              refine TL.run ft_cursitorref18_ok [40] rfl rfl ?_
              cases h
              exact TL.nil (X.jq [0, 0, 0] ⟨rfl, rfl⟩ (by rfl) (by rfl))
          · replace h := ifF c24 h
            refine TL.run ft_cursitorref18_ok [19] rfl rfl ?_
            refine TL.no rfl (.gn rfl rfl (decide_eq_false c24)) rfl ?_
            refine TL.no rfl (.gn rfl rfl (decide_eq_false c24)) rfl ?_
            refine TL.no rfl (.gn rfl rfl (decide_eq_false c24)) rfl ?_
            refine TL.no rfl (.gn rfl rfl (decide_eq_false c24)) rfl ?_
            refine TL.no rfl (.gn rfl rfl (decide_eq_false c24)) rfl ?_
            refine TL.q rfl .u (Ex.pn rfl (decide_eq_false c24) rfl) rfl ?_
            refine TL.run ft_cursitorref18_ok [26] rfl rfl ?_
            refine TL.no rfl (.gn rfl rfl rfl) rfl ?_
            refine TL.no rfl (.gn rfl rfl rfl) rfl ?_
            refine TL.no rfl (.gn rfl rfl rfl) rfl ?_
            refine TL.no rfl (.gn rfl rfl rfl) rfl ?_
            refine TL.no rfl (.gn rfl rfl rfl) rfl ?_
            refine TL.q rfl .u (Ex.pn rfl rfl rfl) rfl ?_
            refine TL.run ft_cursitorref18_ok [33] rfl rfl ?_
            refine TL.no rfl (.gn rfl rfl rfl) rfl ?_
            refine TL.no rfl (.gn rfl rfl rfl) rfl ?_
            refine TL.no rfl (.gn rfl rfl rfl) rfl ?_
            refine TL.no rfl (.gn rfl rfl rfl) rfl ?_
            refine TL.no rfl (.gn rfl rfl rfl) rfl ?_
            refine TL.q rfl .u (Ex.pn rfl rfl rfl) rfl ?_
            refine TL.run ft_cursitorref18_ok [40] rfl rfl ?_
            cases h
            exact TL.nil (X.jq [0, 0, 0] ⟨rfl, rfl⟩ (by rfl) (by rfl))
        · replace h := ifF c23 h
          refine TL.run ft_cursitorref18_ok [12] rfl rfl ?_
          refine TL.no rfl (.gn rfl rfl (decide_eq_false c23)) rfl ?_
          refine TL.no rfl (.gn rfl rfl (decide_eq_false c23)) rfl ?_
          refine TL.no rfl (.gn rfl rfl (decide_eq_false c23)) rfl ?_
          refine TL.no rfl (.gn rfl rfl (decide_eq_false c23)) rfl ?_
          refine TL.no rfl (.gn rfl rfl (decide_eq_false c23)) rfl ?_
          refine TL.q rfl .u (Ex.pn rfl (decide_eq_false c23) rfl) rfl ?_
          refine TL.run ft_cursitorref18_ok [19] rfl rfl ?_
          refine TL.no rfl (.gn rfl rfl rfl) rfl ?_
          refine TL.no rfl (.gn rfl rfl rfl) rfl ?_
          refine TL.no rfl (.gn rfl rfl rfl) rfl ?_
          refine TL.no rfl (.gn rfl rfl rfl) rfl ?_
          refine TL.no rfl (.gn rfl rfl rfl) rfl ?_
          refine TL.q rfl .u (Ex.pn rfl rfl rfl) rfl ?_
          refine TL.run ft_cursitorref18_ok [26] rfl rfl ?_
          refine TL.no rfl (.gn rfl rfl rfl) rfl ?_
          refine TL.no rfl (.gn rfl rfl rfl) rfl ?_
          refine TL.no rfl (.gn rfl rfl rfl) rfl ?_
          refine TL.no rfl (.gn rfl rfl rfl) rfl ?_
          refine TL.no rfl (.gn rfl rfl rfl) rfl ?_
          refine TL.q rfl .u (Ex.pn rfl rfl rfl) rfl ?_
          refine TL.run ft_cursitorref18_ok [33] rfl rfl ?_
          refine TL.no rfl (.gn rfl rfl rfl) rfl ?_
          refine TL.no rfl (.gn rfl rfl rfl) rfl ?_
          refine TL.no rfl (.gn rfl rfl rfl) rfl ?_
          refine TL.no rfl (.gn rfl rfl rfl) rfl ?_
          refine TL.no rfl (.gn rfl rfl rfl) rfl ?_
          refine TL.q rfl .u (Ex.pn rfl rfl rfl) rfl ?_
          refine TL.run ft_cursitorref18_ok [40] rfl rfl ?_
          cases h
          exact TL.nil (X.jq [0, 0, 0] ⟨rfl, rfl⟩ (by rfl) (by rfl))
      · replace h := ifF c22 h
        refine TL.q rfl .u (Ex.aEq (us := [.bool a0.fID.null, .string (bsOf a0.fID.data)]) (vs := [.bool a1.fID.null, .string (bsOf a1.fID.data)]) flat_cursitorref18_26 rfl Try.eqGuardType26 rfl rfl rfl rfl (eqL_t (eqV_b c21) (eqL_f (eqV_sn (l := a0.fID.data) (m := a1.fID.data) c22)))) rfl ?_
        refine TL.run ft_cursitorref18_ok [5] rfl rfl ?_
        refine TL.no rfl (.gn rfl rfl rfl) rfl ?_
        refine TL.no rfl (.gn rfl rfl rfl) rfl ?_
        refine TL.no rfl (.gn rfl rfl rfl) rfl ?_
        refine TL.no rfl (.gn rfl rfl rfl) rfl ?_
        refine TL.no rfl (.gn rfl rfl rfl) rfl ?_
        refine TL.q rfl .u (Ex.pn rfl rfl rfl) rfl ?_
        refine TL.run ft_cursitorref18_ok [12] rfl rfl ?_
        refine TL.no rfl (.gn rfl rfl rfl) rfl ?_
        refine TL.no rfl (.gn rfl rfl rfl) rfl ?_
        refine TL.no rfl (.gn rfl rfl rfl) rfl ?_
        refine TL.no rfl (.gn rfl rfl rfl) rfl ?_
        refine TL.no rfl (.gn rfl rfl rfl) rfl ?_
        refine TL.q rfl .u (Ex.pn rfl rfl rfl) rfl ?_
        refine TL.run ft_cursitorref18_ok [19] rfl rfl ?_
        refine TL.no rfl (.gn rfl rfl rfl) rfl ?_
        refine TL.no rfl (.gn rfl rfl rfl) rfl ?_
        refine TL.no rfl (.gn rfl rfl rfl) rfl ?_
        refine TL.no rfl (.gn rfl rfl rfl) rfl ?_
        refine TL.no rfl (.gn rfl rfl rfl) rfl ?_
        refine TL.q rfl .u (Ex.pn rfl rfl rfl) rfl ?_
        refine TL.run ft_cursitorref18_ok [26] rfl rfl ?_
        refine TL.no rfl (.gn rfl rfl rfl) rfl ?_
        refine TL.no rfl (.gn rfl rfl rfl) rfl ?_
        refine TL.no rfl (.gn rfl rfl rfl) rfl ?_
        refine TL.no rfl (.gn rfl rfl rfl) rfl ?_
        refine TL.no rfl (.gn rfl rfl rfl) rfl ?_
        refine TL.q rfl .u (Ex.pn rfl rfl rfl) rfl ?_
        refine TL.run ft_cursitorref18_ok [33] rfl rfl ?_
        refine TL.no rfl (.gn rfl rfl rfl) rfl ?_
        refine TL.no rfl (.gn rfl rfl rfl) rfl ?_
        refine TL.no rfl (.gn rfl rfl rfl) rfl ?_
        refine TL.no rfl (.gn rfl rfl rfl) rfl ?_
        refine TL.no rfl (.gn rfl rfl rfl) rfl ?_
        refine TL.q rfl .u (Ex.pn rfl rfl rfl) rfl ?_
        refine TL.run ft_cursitorref18_ok [40] rfl rfl ?_
        cases h
        exact TL.nil (X.jq [0, 0, 0] ⟨rfl, rfl⟩ (by rfl) (by rfl))
    · replace h := ifF c21 h
      refine TL.q rfl .u (Ex.aEq (us := [.bool a0.fID.null, .string (bsOf a0.fID.data)]) (vs := [.bool a1.fID.null, .string (bsOf a1.fID.data)]) flat_cursitorref18_26 rfl Try.eqGuardType26 rfl rfl rfl rfl (eqL_f (eqV_bn c21))) rfl ?_
      refine TL.run ft_cursitorref18_ok [5] rfl rfl ?_
      refine TL.no rfl (.gn rfl rfl rfl) rfl ?_
      refine TL.no rfl (.gn rfl rfl rfl) rfl ?_
      refine TL.no rfl (.gn rfl rfl rfl) rfl ?_
      refine TL.no rfl (.gn rfl rfl rfl) rfl ?_
      refine TL.no rfl (.gn rfl rfl rfl) rfl ?_
      refine TL.q rfl .u (Ex.pn rfl rfl rfl) rfl ?_
      refine TL.run ft_cursitorref18_ok [12] rfl rfl ?_
      refine TL.no rfl (.gn rfl rfl rfl) rfl ?_
      refine TL.no rfl (.gn rfl rfl rfl) rfl ?_
      refine TL.no rfl (.gn rfl rfl rfl) rfl ?_
      refine TL.no rfl (.gn rfl rfl rfl) rfl ?_
      refine TL.no rfl (.gn rfl rfl rfl) rfl ?_
      refine TL.q rfl .u (Ex.pn rfl rfl rfl) rfl ?_
      refine TL.run ft_cursitorref18_ok [19] rfl rfl ?_
      refine TL.no rfl (.gn rfl rfl rfl) rfl ?_
      refine TL.no rfl (.gn rfl rfl rfl) rfl ?_
      refine TL.no rfl (.gn rfl rfl rfl) rfl ?_
      refine TL.no rfl (.gn rfl rfl rfl) rfl ?_
      refine TL.no rfl (.gn rfl rfl rfl) rfl ?_
      refine TL.q rfl .u (Ex.pn rfl rfl rfl) rfl ?_
      refine TL.run ft_cursitorref18_ok [26] rfl rfl ?_
      refine TL.no rfl (.gn rfl rfl rfl) rfl ?_
      refine TL.no rfl (.gn rfl rfl rfl) rfl ?_
      refine TL.no rfl (.gn rfl rfl rfl) rfl ?_
      refine TL.no rfl (.gn rfl rfl rfl) rfl ?_
      refine TL.no rfl (.gn rfl rfl rfl) rfl ?_
      refine TL.q rfl .u (Ex.pn rfl rfl rfl) rfl ?_
      refine TL.run ft_cursitorref18_ok [33] rfl rfl ?_
      refine TL.no rfl (.gn rfl rfl rfl) rfl ?_
      refine TL.no rfl (.gn rfl rfl rfl) rfl ?_
      refine TL.no rfl (.gn rfl rfl rfl) rfl ?_
      refine TL.no rfl (.gn rfl rfl rfl) rfl ?_
      refine TL.no rfl (.gn rfl rfl rfl) rfl ?_
      refine TL.q rfl .u (Ex.pn rfl rfl rfl) rfl ?_
      refine TL.run ft_cursitorref18_ok [40] rfl rfl ?_
      cases h
      exact TL.nil (X.jq [0, 0, 0] ⟨rfl, rfl⟩ (by rfl) (by rfl))
  · rintro _ _ ⟨rfl, rfl⟩
    clear h
    have h := hk20
    clear hk20
    try dsimp only at h
    obtain rfl := Option.some.inj h
    exact X.seq (T.ret (X.done1 [2] Try.results48 (RV.tm rfl) ⟨rfl, rfl, rfl⟩ (by rfl) (.inl rfl)))
def f_r18_Write (a0 : Int) (a1 : Int) (a2 : R18Request) : Option (List UInt8) := (gRBFixed a2.fID 2).bind fun x4 => if a0 = 22 then ((gRBytes a2.fTimeout 4).bind fun x7 => if x4.length + x7.length ≤ 9223372036854775807 then (if a1 = 0 then some (x4 ++ x7) else ((gRBytes a2.fProducer 8).bind fun x11 => if (x4 ++ x7).length + x11.length ≤ 9223372036854775807 then ((gRBytes a2.fEpoch 2).bind fun x14 => if ((x4 ++ x7) ++ x11).length + x14.length ≤ 9223372036854775807 then (some (((x4 ++ x7) ++ x11) ++ x14)) else none) else none)) else none) else ((gRBytes a2.fProducer 8).bind fun x19 => if x4.length + x19.length ≤ 9223372036854775807 then ((gRBytes a2.fEpoch 2).bind fun x22 => if (x4 ++ x19).length + x22.length ≤ 9223372036854775807 then (if a0 = 24 then ((f_r14_Topics a2.fTopics).bind fun x26 => if ((x4 ++ x19) ++ x22).length + x26.length ≤ 9223372036854775807 then (some (((x4 ++ x19) ++ x22) ++ x26)) else none) else ((if a0 = 26 then some a2.fCommit else some false).bind fun y30 => if y30 = true then ((gRBytes 1 1).bind fun x34 => if ((x4 ++ x19) ++ x22).length + x34.length ≤ 9223372036854775807 then (some (((x4 ++ x19) ++ x22) ++ x34)) else none) else (if a0 = 26 then ((gRBytes 0 1).bind fun x38 => if ((x4 ++ x19) ++ x22).length + x38.length ≤ 9223372036854775807 then (some (((x4 ++ x19) ++ x22) ++ x38)) else none) else (some ((x4 ++ x19) ++ x22))))) else none) else none)
set_option maxRecDepth 100000 in
set_option maxHeartbeats 4000000 in
theorem f_r18_Write_spec (a0 : Int) (a1 : Int) (a2 : R18Request) (A1 : Option Addr) (c2 : Nat) (r : List UInt8) (h : f_r18_Write a0 a1 a2 = some r) : SpecX Try.prog 49 #[.int .i64 a0, .int .i64 a1, .agg #[.bool a2.fID.null, .string (bsOf a2.fID.data), .int .i64 a2.fTimeout, .int .i64 a2.fProducer, .int .i64 a2.fEpoch, .slice A1 a2.fTopics.length c2, .bool a2.fCommit]] (RX.of (sliceRd 2 Top_rd) [.slice A1 a2.fTopics.length c2] a2.fTopics) (EmpR) (fun v A' N => v = .string (bsOf r) ∧ A' = EmpR ∧ N = []) := by
  refine enterA Try.func49 rfl Try.ntmps49 rfl ?_
  intro F w hX
  unfold f_r18_Write at h
  refine T.seq (T.region rfl ?_)
  refine TL.box rfl .u rfl rfl (fun b3 => ?_)
  refine TL.run ft_cursitorref18_ok [1] rfl rfl ?_
  refine TL.nil (X.seq (T.seq (T.region rfl ?_)))
  refine TL.run ft_cursitorref18_ok [0] rfl rfl ?_
  refine TL.q rfl .u (Ex.bS (us := [.bool a2.fID.null, .string (bsOf a2.fID.data)]) 0 rfl Try.isAgg26 Try.sizeOf26 rfl rfl rfl) rfl ?_
  obtain ⟨x4, hx5, h⟩ := Option.bind_eq_some_iff.1 h
  refine TL.ce rfl .u (.fn Try.call122 rfl) (gRBFixed_spec a2.fID 2 _ hx5) (fun _ hs => (RX.reads_triv _ _)) rfl ?_
  refine TL.run ft_cursitorref18_ok [3] rfl rfl ?_
  refine TL.nil (X.seq (T.seq (T.seq (T.region rfl ?_))))
  refine TL.run ft_cursitorref18_ok [0, 1] rfl rfl ?_
  by_cases c6 : a0 = 22
  · replace h := ifT c6 h
    refine TL.nil (X.seq ?_)
    refine T.yes rfl (decide_eq_true c6) ?_
    refine T.seq (T.region rfl ?_)
    refine TL.run ft_cursitorref18_ok [0, 1] rfl rfl ?_
    refine TL.q rfl .u (Ex.b1 0 rfl Try.isAgg3 rfl rfl) rfl ?_
    obtain ⟨x7, hx8, h⟩ := Option.bind_eq_some_iff.1 h
    refine TL.ce rfl .u (.fn Try.call111 rfl) (gRBytes_spec a2.fTimeout 4 _ hx8) (fun _ hs => (RX.reads_triv _ _)) rfl ?_
    replace h := guard_some h
    obtain ⟨c9, h⟩ := h
    refine TL.q rfl .u (Ex.sAdd rfl rfl c9) rfl ?_
    refine TL.run ft_cursitorref18_ok [5] rfl rfl ?_
    refine TL.nil (X.seq (T.seq (T.region rfl ?_)))
    refine TL.run ft_cursitorref18_ok [0, 1] rfl rfl ?_
    by_cases c10 : a1 = 0
    · replace h := ifT c10 h
      refine TL.nil (X.seq ?_)
      refine T.yes rfl (decide_eq_true c10) ?_
      refine T.seq (T.region rfl ?_)
      refine TL.run ft_cursitorref18_ok [0, 1] rfl rfl ?_
      obtain rfl := Option.some.inj h
      exact TL.nil (X.seq (T.ret (X.rs (X.done1 [1] Try.results49 (RV.tm rfl) ⟨rfl, rfl, rfl⟩ (by rfl) (.inl rfl)))))
    · replace h := ifF c10 h
      refine TL.nil (X.seq ?_)
      refine T.no rfl (decide_eq_false c10) ?_
      refine T.skip (X.seq (T.seq (T.draw (.q 0 (.q 1 (.q 2 (.q 5 (.q 6 (.e 3 (.q 4 (.e 7 (.q 8 (.q 9 .nil)))))))))) [0, 0] rfl mix_cursitorref18 (NoP.seq np_post) (by kernel_rfl) ?_)))
      refine TD.run ft_cursitorref18_ok [0, 1] rfl rfl ?_
      refine TD.q rfl .u (Ex.b1 0 rfl Try.isAgg3 rfl rfl) rfl ?_
      refine TD.run ft_cursitorref18_ok [5] rfl rfl ?_
      refine TD.q rfl .u (Ex.b1 0 rfl Try.isAgg3 rfl rfl) rfl ?_
      obtain ⟨x11, hx12, h⟩ := Option.bind_eq_some_iff.1 h
      refine TD.ce rfl .u (.fn Try.call111 rfl) (gRBytes_spec a2.fProducer 8 _ hx12) (fun _ hs => (RX.reads_triv _ _)) rfl [0, 0] (rfl) ?_
      replace h := guard_some h
      obtain ⟨c13, h⟩ := h
      refine TD.q rfl .u (Ex.sAdd rfl rfl c13) rfl ?_
      obtain ⟨x14, hx15, h⟩ := Option.bind_eq_some_iff.1 h
      refine TD.ce rfl .u (.fn Try.call111 rfl) (gRBytes_spec a2.fEpoch 2 _ hx15) (fun _ hs => (RX.reads_triv _ _)) rfl [0, 0] (rfl) ?_
      replace h := guard_some h
      obtain ⟨c16, h⟩ := h
      refine TD.q rfl .u (Ex.sAdd rfl rfl c16) rfl ?_
      refine TD.run ft_cursitorref18_ok [9] rfl rfl ?_
      refine TD.nil (X.seq (T.seq (T.seq (T.region rfl ?_))))
      refine TL.run ft_cursitorref18_ok [0, 1] rfl rfl ?_
      have c17 : ¬ (a0 = 24) := by have hq := c6; omega
      refine TL.nil (X.seq ?_)
      refine T.no rfl (decide_eq_false c17) ?_
      refine T.skip (X.seq (T.seq (T.seq (T.region rfl ?_))))
      have c18 : ¬ (a0 = 26) := by have hq := c6; omega
      refine TL.run ft_cursitorref18_ok [0, 1, 2] rfl rfl ?_
      refine TL.no rfl (.gn rfl rfl (decide_eq_false c18)) rfl ?_
      refine TL.no rfl (.gn rfl rfl (decide_eq_false c18)) rfl ?_
      refine TL.q rfl .u (Ex.pn rfl (decide_eq_false c18) rfl) rfl ?_
      refine TL.nil (X.seq ?_)
      refine T.no rfl rfl ?_
      refine T.skip (X.seq (T.seq (T.seq (T.region rfl ?_))))
      refine TL.run ft_cursitorref18_ok [0, 1] rfl rfl ?_
      refine TL.nil (X.seq ?_)
      refine T.no rfl (decide_eq_false c18) ?_
      refine T.skip (X.seq (T.seq (T.region rfl ?_)))
      refine TL.run ft_cursitorref18_ok [0, 1] rfl rfl ?_
      obtain rfl := Option.some.inj h
      exact TL.nil (X.seq (T.ret (X.done1 [1] Try.results49 (RV.tm rfl) ⟨rfl, rfl, rfl⟩ (by rfl) (.inl rfl))))
  · replace h := ifF c6 h
    refine TL.nil (X.seq ?_)
    refine T.no rfl (decide_eq_false c6) ?_
    refine T.skip (X.seq (T.seq (T.draw (.q 0 (.q 1 (.q 2 (.q 5 (.q 6 (.e 3 (.q 4 (.e 7 (.q 8 (.q 9 .nil)))))))))) [0, 0] rfl mix_cursitorref18 (NoP.seq np_post) (by kernel_rfl) ?_)))
    refine TD.run ft_cursitorref18_ok [0, 1] rfl rfl ?_
    refine TD.q rfl .u (Ex.b1 0 rfl Try.isAgg3 rfl rfl) rfl ?_
    refine TD.run ft_cursitorref18_ok [5] rfl rfl ?_
    refine TD.q rfl .u (Ex.b1 0 rfl Try.isAgg3 rfl rfl) rfl ?_
    obtain ⟨x19, hx20, h⟩ := Option.bind_eq_some_iff.1 h
    refine TD.ce rfl .u (.fn Try.call111 rfl) (gRBytes_spec a2.fProducer 8 _ hx20) (fun _ hs => (RX.reads_triv _ _)) rfl [0, 0] (rfl) ?_
    replace h := guard_some h
    obtain ⟨c21, h⟩ := h
    refine TD.q rfl .u (Ex.sAdd rfl rfl c21) rfl ?_
    obtain ⟨x22, hx23, h⟩ := Option.bind_eq_some_iff.1 h
    refine TD.ce rfl .u (.fn Try.call111 rfl) (gRBytes_spec a2.fEpoch 2 _ hx23) (fun _ hs => (RX.reads_triv _ _)) rfl [0, 0] (rfl) ?_
    replace h := guard_some h
    obtain ⟨c24, h⟩ := h
    refine TD.q rfl .u (Ex.sAdd rfl rfl c24) rfl ?_
    refine TD.run ft_cursitorref18_ok [9] rfl rfl ?_
    refine TD.nil (X.seq (T.seq (T.seq (T.region rfl ?_))))
    refine TL.run ft_cursitorref18_ok [0, 1] rfl rfl ?_
    by_cases c25 : a0 = 24
    · replace h := ifT c25 h
      refine TL.nil (X.seq ?_)
      refine T.yes rfl (decide_eq_true c25) ?_
      refine T.seq (T.region rfl ?_)
      refine TL.run ft_cursitorref18_ok [0, 1] rfl rfl ?_
      refine TL.q rfl .u (Ex.b1 0 rfl Try.isAgg68 rfl rfl) rfl ?_
      obtain ⟨x26, hx27, h⟩ := Option.bind_eq_some_iff.1 h
      refine TL.ce rfl .u (.fn Try.call112 rfl) (f_r14_Topics_spec a2.fTopics _ _ _ hx27) (fun _ hs => (SrcE.old hs hX)) rfl ?_
      replace h := guard_some h
      obtain ⟨c28, h⟩ := h
      refine TL.q rfl .u (Ex.sAdd rfl rfl c28) rfl ?_
      refine TL.run ft_cursitorref18_ok [5] rfl rfl ?_
      obtain rfl := Option.some.inj h
      exact TL.nil (X.seq (T.ret (X.rs (X.done1 [1] Try.results49 (RV.tm rfl) ⟨rfl, rfl, rfl⟩ (by rfl) (.inl rfl)))))
    · replace h := ifF c25 h
      refine TL.nil (X.seq ?_)
      refine T.no rfl (decide_eq_false c25) ?_
      refine T.skip (X.seq (T.seq (T.seq ?_)))
      obtain ⟨y30, h, hk31⟩ := Option.bind_eq_some_iff.1 h
      refine T.jq (fun e Rs => e = [(0, .int .i64 a0), (6, .string ⟨#[]⟩), (7, .string (bsOf ((x4 ++ x19) ++ x22))), (42, .bool y30)] ∧ Rs = [BlkR b3 76 #[.bool a2.fID.null, .string (bsOf a2.fID.data), .int .i64 a2.fTimeout, .int .i64 a2.fProducer, .int .i64 a2.fEpoch, .slice A1 a2.fTopics.length c2, .bool a2.fCommit], EmpR]) ?_ ?_
      · clear hk31
        refine T.region rfl ?_
        by_cases c32 : a0 = 26
        · replace h := ifT c32 h
          refine TL.run ft_cursitorref18_ok [0, 1, 2] rfl rfl ?_
          refine TL.q rfl (.g rfl rfl (decide_eq_true c32)) (Ex.ft ft_cursitorref18_ok rfl) rfl ?_
          refine TL.q rfl (.g rfl rfl (decide_eq_true c32)) (Ex.b1 0 rfl Try.isAgg4 rfl rfl) rfl ?_
          refine TL.q rfl .u (Ex.py rfl (decide_eq_true c32) rfl) rfl ?_
          cases h
          exact TL.nil (X.jq [0, 0] ⟨rfl, rfl⟩ (by rfl) (by rfl))
        · replace h := ifF c32 h
          refine TL.run ft_cursitorref18_ok [0, 1, 2] rfl rfl ?_
          refine TL.no rfl (.gn rfl rfl (decide_eq_false c32)) rfl ?_
          refine TL.no rfl (.gn rfl rfl (decide_eq_false c32)) rfl ?_
          refine TL.q rfl .u (Ex.pn rfl (decide_eq_false c32) rfl) rfl ?_
          cases h
          exact TL.nil (X.jq [0, 0] ⟨rfl, rfl⟩ (by rfl) (by rfl))
      · rintro _ _ ⟨rfl, rfl⟩
        clear h
        have h := hk31
        clear hk31
        try dsimp only at h
        by_cases c33 : y30 = true
        · replace h := ifT c33 h
          refine X.seq ?_
          refine T.yes rfl c33 ?_
          refine T.seq (T.region rfl ?_)
          obtain ⟨x34, hx35, h⟩ := Option.bind_eq_some_iff.1 h
          refine TL.run ft_cursitorref18_ok [0] rfl rfl ?_
          refine TL.ce rfl .u (.fn Try.call111 rfl) (gRBytes_spec 1 1 _ hx35) (fun _ hs => (RX.reads_triv _ _)) rfl ?_
          replace h := guard_some h
          obtain ⟨c36, h⟩ := h
          refine TL.q rfl .u (Ex.sAdd rfl rfl c36) rfl ?_
          refine TL.run ft_cursitorref18_ok [3] rfl rfl ?_
          obtain rfl := Option.some.inj h
          exact TL.nil (X.seq (T.ret (X.rs (X.done1 [1] Try.results49 (RV.tm rfl) ⟨rfl, rfl, rfl⟩ (by rfl) (.inl rfl)))))
        · replace h := ifF c33 h
          replace c33 := eq_false_of_ne_true c33
          refine X.seq ?_
          refine T.no rfl c33 ?_
          refine T.skip (X.seq (T.seq (T.seq (T.region rfl ?_))))
          refine TL.run ft_cursitorref18_ok [0, 1] rfl rfl ?_
          by_cases c37 : a0 = 26
          · replace h := ifT c37 h
            refine TL.nil (X.seq ?_)
            refine T.yes rfl (decide_eq_true c37) ?_
            refine T.seq (T.region rfl ?_)
            obtain ⟨x38, hx39, h⟩ := Option.bind_eq_some_iff.1 h
            refine TL.run ft_cursitorref18_ok [0] rfl rfl ?_
            refine TL.ce rfl .u (.fn Try.call111 rfl) (gRBytes_spec 0 1 _ hx39) (fun _ hs => (RX.reads_triv _ _)) rfl ?_
            replace h := guard_some h
            obtain ⟨c40, h⟩ := h
            refine TL.q rfl .u (Ex.sAdd rfl rfl c40) rfl ?_
            refine TL.run ft_cursitorref18_ok [3] rfl rfl ?_
            obtain rfl := Option.some.inj h
            exact TL.nil (X.seq (T.ret (X.rs (X.done1 [1] Try.results49 (RV.tm rfl) ⟨rfl, rfl, rfl⟩ (by rfl) (.inl rfl)))))
          · replace h := ifF c37 h
            refine TL.nil (X.seq ?_)
            refine T.no rfl (decide_eq_false c37) ?_
            refine T.skip (X.seq (T.seq (T.region rfl ?_)))
            refine TL.run ft_cursitorref18_ok [0, 1] rfl rfl ?_
            obtain rfl := Option.some.inj h
            exact TL.nil (X.seq (T.ret (X.done1 [1] Try.results49 (RV.tm rfl) ⟨rfl, rfl, rfl⟩ (by rfl) (.inl rfl))))
end Go.Proofs.Ytagbblaegdedpaa.Sl
namespace Go.Proofs.Ytagbblaegdedpaa.Sl
open Go.RowKit
set_option linter.unusedVariables false
set_option linter.unusedSimpArgs false
set_option maxRecDepth 100000
def ft_cursitorlaw18 : FTab := [(26, 0, 0), (26, 1, 1), (76, 0, 0), (76, 1, 2), (76, 2, 3), (76, 3, 4), (76, 4, 5), (76, 5, 6), (107, 0, 0), (107, 1, 2), (107, 2, 3), (107, 3, 4), (109, 0, 0), (109, 1, 1), (109, 2, 2), (109, 3, 3), (180, 0, 0), (180, 1, 1), (180, 2, 2), (180, 3, 3)]
theorem ft_cursitorlaw18_ok : (ft_cursitorlaw18).OK Try.prog := ⟨FOK.mk Try.runUnderlying26 rfl Try.sizeOf4 rfl, FOK.mk Try.runUnderlying26 rfl Try.sizeOf9 rfl, FOK.mk Try.runUnderlying76 rfl Try.sizeOf26 rfl, FOK.mk Try.runUnderlying76 rfl Try.sizeOf3 rfl, FOK.mk Try.runUnderlying76 rfl Try.sizeOf3 rfl, FOK.mk Try.runUnderlying76 rfl Try.sizeOf3 rfl, FOK.mk Try.runUnderlying76 rfl Try.sizeOf68 rfl, FOK.mk Try.runUnderlying76 rfl Try.sizeOf4 rfl, FOK.mk Try.runUnderlying107 rfl Try.sizeOf26 rfl, FOK.mk Try.runUnderlying107 rfl Try.sizeOf3 rfl, FOK.mk Try.runUnderlying107 rfl Try.sizeOf3 rfl, FOK.mk Try.runUnderlying107 rfl Try.sizeOf3 rfl, FOK.mk Try.runUnderlying109 rfl Try.sizeOf9 rfl, FOK.mk Try.runUnderlying109 rfl Try.sizeOf3 rfl, FOK.mk Try.runUnderlying109 rfl Try.sizeOf3 rfl, FOK.mk Try.runUnderlying109 rfl Try.sizeOf4 rfl, FOK.mk Try.runUnderlying180 rfl Try.sizeOf9 rfl, FOK.mk Try.runUnderlying180 rfl Try.sizeOf3 rfl, FOK.mk Try.runUnderlying180 rfl Try.sizeOf3 rfl, FOK.mk Try.runUnderlying180 rfl Try.sizeOf68 rfl, trivial⟩
theorem mix_cursitorlaw18 : Try.prog.follows .mixedOrders = true := by kernel_rfl
theorem flat_cursitorlaw18_109 : Flat Try.prog 2 109 [.string, .int .i64, .int .i64, .bool] true := (Flat.struct Try.isAgg109 Try.sizeOf109 rfl Try.underlying109 Try.stoodInHeld109 ⟨by decide, rfl, [.string], [.int .i64, .int .i64, .bool], false, rfl, (Flat.one_ Try.isAgg9 Try.sizeOf9 Try.underlying9), ⟨by decide, rfl, [.int .i64], [.int .i64, .bool], false, rfl, (Flat.one_ Try.isAgg3 Try.sizeOf3 Try.underlying3), ⟨by decide, rfl, [.int .i64], [.bool], false, rfl, (Flat.one_ Try.isAgg3 Try.sizeOf3 Try.underlying3), ⟨by decide, rfl, [.bool], [], false, rfl, (Flat.one_ Try.isAgg4 Try.sizeOf4 Try.underlying4), rfl⟩⟩⟩⟩)
theorem bok_cursitorlaw18_26 : BOK Try.prog 26 #[.bool false, .string ⟨#[]⟩] [(0, 1), (1, 1)] := BOK.mk Try.zeroValue26 Try.runUnderlying26 (by intro w; simp)
theorem bok_cursitorlaw18_76 : BOK Try.prog 76 #[.bool false, .string ⟨#[]⟩, .int .i64 0, .int .i64 0, .int .i64 0, .slice none 0 0, .bool false] [(0, 2), (2, 1), (3, 1), (4, 1), (5, 1), (6, 1)] := BOK.mk Try.zeroValue76 Try.runUnderlying76 (by intro w; simp)
theorem bok_cursitorlaw18_107 : BOK Try.prog 107 #[.bool false, .string ⟨#[]⟩, .int .i64 0, .int .i64 0, .int .i64 0] [(0, 2), (2, 1), (3, 1), (4, 1)] := BOK.mk Try.zeroValue107 Try.runUnderlying107 (by intro w; simp)
theorem bok_cursitorlaw18_109 : BOK Try.prog 109 #[.string ⟨#[]⟩, .int .i64 0, .int .i64 0, .bool false] [(0, 1), (1, 1), (2, 1), (3, 1)] := BOK.mk Try.zeroValue109 Try.runUnderlying109 (by intro w; simp)
theorem bok_cursitorlaw18_178 : BOK Try.prog 178 #[.int .i64 0, .int .i64 0, .int .i64 0] [(0, 1), (1, 1), (2, 1)] := BOK.mkA Try.zeroValue178 Try.runUnderlying178 Try.sizeOf3 (by decide)
theorem bok_cursitorlaw18_180 : BOK Try.prog 180 #[.string ⟨#[]⟩, .int .i64 0, .int .i64 0, .slice none 0 0] [(0, 1), (1, 1), (2, 1), (3, 1)] := BOK.mk Try.zeroValue180 Try.runUnderlying180 (by intro w; simp)
def f_l18_speaks  : Option (Bool) := (f_txn_EndWrite ([], 0) (⟨[97], 0, 0, true⟩ : TxnEnd)).bind fun st2 => (gOText st2).bind fun (x4, x5, st6) => (gNew x4).bind fun st8 => (if x5 = 0 then (if x4 = [0, 1, 97, 0, 0, 0, 0, 0, 0, 0, 0, 0, 0, 1] then ((f_txn_ReadEnd st8).bind fun (x30, st31) => if x30.fID = [97] then (if x30.fProducer = 0 then (if x30.fEpoch = 0 then (if x30.fCommit = true then ((f_txn_Rise []).bind fun x37 => if x37 = 10 then ((f_txn_Who 0 0).bind fun x40 => some (x40, st31)) else some (false, st31)) else some (false, st31)) else some (false, st31)) else some (false, st31)) else some (false, st31)) else some (false, st8)) else some (false, st8)).bind fun (y25, st26) => some y25
set_option maxRecDepth 100000 in
set_option maxHeartbeats 4000000 in
theorem f_l18_speaks_spec  (r : Bool) (h : f_l18_speaks  = some r) : SpecX Try.prog 44 #[] .triv (EmpR) (fun v A' N => v = .bool r ∧ A' = EmpR ∧ N = []) := by
  refine enterA Try.func44 rfl Try.ntmps44 rfl ?_
  intro F w hX
  unfold f_l18_speaks at h
  refine T.seq (T.region rfl ?_)
  refine TL.run ft_cursitorlaw18_ok [0] rfl rfl ?_
  refine TL.nil (X.seq (T.seq (T.region rfl ?_)))
  refine TL.newout rfl .u Try.zeroValue50 rfl (fun b1 => ?_)
  refine TL.nil (X.seq (T.seq (T.region rfl ?_)))
  refine TL.q rfl .u (Ex.bld (cells := #[.string ⟨#[97]⟩, .int .i64 0, .int .i64 0, .bool true]) bok_cursitorlaw18_109 rfl (by kernel_rfl)) rfl ?_
  obtain ⟨st2, hx3, h⟩ := Option.bind_eq_some_iff.1 h
  refine TL.c0 rfl .u (.fn Try.call66 rfl) (f_txn_EndWrite_spec b1 ([], 0) (⟨[97], 0, 0, true⟩ : TxnEnd) _ hx3) (fun _ hs => (Src.triv _)) rfl ?_
  obtain ⟨⟨x4, x5, st6⟩, hx7, h⟩ := Option.bind_eq_some_iff.1 h
  try dsimp only at h
  refine TL.nil (X.seq (T.seq (T.region rfl ?_)))
  refine TL.c0 rfl .u (.fn Try.call30 rfl) (gOText_spec b1 st2 _ hx7) (fun _ hs => (Src.triv _)) rfl ?_
  refine TL.run ft_cursitorlaw18_ok [1, 2, 3, 4, 5] rfl rfl ?_
  refine TL.nil (X.seq (T.seq (T.region rfl ?_)))
  obtain ⟨st8, hx9, h⟩ := Option.bind_eq_some_iff.1 h
  refine TL.run ft_cursitorlaw18_ok [0] rfl rfl ?_
  refine TL.cge rfl .u (.fn Try.call16 rfl) (gNew_spec x4 _ hx9) (fun _ hs => (RX.reads_triv _ _)) rfl ?_
  rintro _ _ _ ⟨b10, rfl, rfl, rfl⟩
  refine TL.sel [0, 0, 0] rfl ?_
  refine TL.run ft_cursitorlaw18_ok [2] rfl rfl ?_
  refine TL.nil (X.seq (T.seq ?_))
  obtain ⟨⟨y25, st26⟩, h, hk27⟩ := Option.bind_eq_some_iff.1 h
  refine T.jq (fun e Rs => e = [(0, .bool y25)] ∧ Rs = [InR b10 st26, OutR b1 st6, EmpR]) ?_ ?_
  · clear hk27
    refine T.region rfl ?_
    by_cases c28 : x5 = 0
    · replace h := ifT c28 h
      refine TL.run ft_cursitorlaw18_ok [0, 1, 2] rfl rfl ?_
      refine TL.q rfl (.g rfl rfl (decide_eq_true c28)) (Ex.ft ft_cursitorlaw18_ok rfl) rfl ?_
      refine TL.q rfl (.g rfl rfl (decide_eq_true c28)) (Ex.sEq rfl (m := [0, 1, 97, 0, 0, 0, 0, 0, 0, 0, 0, 0, 0, 1]) rfl) rfl ?_
      refine TL.q rfl .u (Ex.py rfl (decide_eq_true c28) rfl) rfl ?_
      by_cases c29 : x4 = [0, 1, 97, 0, 0, 0, 0, 0, 0, 0, 0, 0, 0, 1]
      · replace h := ifT c29 h
        refine TL.run ft_cursitorlaw18_ok [6] rfl rfl ?_
        refine TL.q rfl (.g rfl rfl (decide_eq_true c29)) (Ex.ft ft_cursitorlaw18_ok rfl) rfl ?_
        refine TL.q rfl (.g rfl rfl (decide_eq_true c29)) (Ex.pNe (.inr ⟨rfl, rfl⟩) rfl rfl Try.runUnderlying23) rfl ?_
        refine TL.q rfl .u (Ex.py rfl (decide_eq_true c29) rfl) rfl ?_
        refine TL.run ft_cursitorlaw18_ok [10] rfl rfl ?_
        refine TL.q rfl (.g rfl rfl rfl) (Ex.ft ft_cursitorlaw18_ok rfl) rfl ?_
        obtain ⟨⟨x30, st31⟩, hx32, h⟩ := Option.bind_eq_some_iff.1 h
        try dsimp only at h
        refine TL.c0 rfl (.g rfl rfl rfl) (.fn Try.call69 rfl) (f_txn_ReadEnd_spec b10 st8 _ hx32) (fun _ hs => (Src.triv _)) rfl ?_
        refine TL.q rfl (.g rfl rfl rfl) (Ex.bld (cells := #[.string ⟨#[97]⟩, .int .i64 0, .int .i64 0, .bool true]) bok_cursitorlaw18_109 rfl (by kernel_rfl)) rfl ?_
        by_cases c33 : x30.fID = [97]
        · replace h := ifT c33 h
          by_cases c34 : x30.fProducer = 0
          · replace h := ifT c34 h
            by_cases c35 : x30.fEpoch = 0
            · replace h := ifT c35 h
              by_cases c36 : x30.fCommit = true
              · replace h := ifT c36 h
                refine TL.q rfl (.g rfl rfl rfl) (Ex.aEq (us := [.string (bsOf x30.fID), .int .i64 x30.fProducer, .int .i64 x30.fEpoch, .bool x30.fCommit]) (vs := [.string ⟨#[97]⟩, .int .i64 0, .int .i64 0, .bool true]) flat_cursitorlaw18_109 rfl Try.eqGuardType109 rfl rfl rfl rfl (eqL_t (eqV_s (l := x30.fID) (m := [97]) c33) (eqL_t (eqV_i c34) (eqL_t (eqV_i c35) (eqL_t (eqV_b (c36.trans (Eq.symm rfl))) rfl))))) rfl ?_
                refine TL.q rfl .u (Ex.py rfl rfl rfl) rfl ?_
                obtain ⟨x37, hx38, h⟩ := Option.bind_eq_some_iff.1 h
                refine TL.run ft_cursitorlaw18_ok [16] rfl rfl ?_
                refine TL.ce rfl (.g rfl rfl rfl) (.fn Try.call118 rfl) (f_txn_Rise_spec [] _ _ _ hx38) (fun _ hs => slice_nil_reads) rfl ?_
                refine TL.q rfl (.g rfl rfl rfl) (Ex.ft ft_cursitorlaw18_ok rfl) rfl ?_
                refine TL.q rfl .u (Ex.py rfl rfl rfl) rfl ?_
                by_cases c39 : x37 = 10
                · replace h := ifT c39 h
                  obtain ⟨x40, hx41, h⟩ := Option.bind_eq_some_iff.1 h
                  refine TL.run ft_cursitorlaw18_ok [20] rfl rfl ?_
                  refine TL.ce rfl (.g rfl rfl (decide_eq_true c39)) (.fn Try.call117 rfl) (f_txn_Who_spec 0 0 _ hx41) (fun _ hs => (RX.reads_triv _ _)) rfl ?_
                  refine TL.q rfl .u (Ex.py rfl (decide_eq_true c39) rfl) rfl ?_
                  refine TL.run ft_cursitorlaw18_ok [23] rfl rfl ?_
                  cases h
                  exact TL.nil (X.jq [0, 0, 0] ⟨rfl, rfl⟩ (by rfl) (by rfl))
                · replace h := ifF c39 h
                  refine TL.run ft_cursitorlaw18_ok [20] rfl rfl ?_
                  refine TL.no rfl (.gn rfl rfl (decide_eq_false c39)) rfl ?_
                  refine TL.q rfl .u (Ex.pn rfl (decide_eq_false c39) rfl) rfl ?_
                  refine TL.run ft_cursitorlaw18_ok [23] rfl rfl ?_
                  cases h
                  exact TL.nil (X.jq [0, 0, 0] ⟨rfl, rfl⟩ (by rfl) (by rfl))
              · replace h := ifF c36 h
                replace c36 := eq_false_of_ne_true c36
                refine TL.q rfl (.g rfl rfl rfl) (Ex.aEq (us := [.string (bsOf x30.fID), .int .i64 x30.fProducer, .int .i64 x30.fEpoch, .bool x30.fCommit]) (vs := [.string ⟨#[97]⟩, .int .i64 0, .int .i64 0, .bool true]) flat_cursitorlaw18_109 rfl Try.eqGuardType109 rfl rfl rfl rfl (eqL_t (eqV_s (l := x30.fID) (m := [97]) c33) (eqL_t (eqV_i c34) (eqL_t (eqV_i c35) (eqL_f (eqV_bn (fun h => absurd ((Eq.symm c36).trans (h.trans rfl)) (by decide)))))))) rfl ?_
                refine TL.q rfl .u (Ex.py rfl rfl rfl) rfl ?_
                refine TL.run ft_cursitorlaw18_ok [16] rfl rfl ?_
                refine TL.no rfl (.gn rfl rfl rfl) rfl ?_
                refine TL.no rfl (.gn rfl rfl rfl) rfl ?_
                refine TL.q rfl .u (Ex.pn rfl rfl rfl) rfl ?_
                refine TL.run ft_cursitorlaw18_ok [20] rfl rfl ?_
                refine TL.no rfl (.gn rfl rfl rfl) rfl ?_
                refine TL.q rfl .u (Ex.pn rfl rfl rfl) rfl ?_
                refine TL.run ft_cursitorlaw18_ok [23] rfl rfl ?_
                cases h
                exact TL.nil (X.jq [0, 0, 0] ⟨rfl, rfl⟩ (by rfl) (by rfl))
            · replace h := ifF c35 h
              refine TL.q rfl (.g rfl rfl rfl) (Ex.aEq (us := [.string (bsOf x30.fID), .int .i64 x30.fProducer, .int .i64 x30.fEpoch, .bool x30.fCommit]) (vs := [.string ⟨#[97]⟩, .int .i64 0, .int .i64 0, .bool true]) flat_cursitorlaw18_109 rfl Try.eqGuardType109 rfl rfl rfl rfl (eqL_t (eqV_s (l := x30.fID) (m := [97]) c33) (eqL_t (eqV_i c34) (eqL_f (eqV_in c35))))) rfl ?_
              refine TL.q rfl .u (Ex.py rfl rfl rfl) rfl ?_
              refine TL.run ft_cursitorlaw18_ok [16] rfl rfl ?_
              refine TL.no rfl (.gn rfl rfl rfl) rfl ?_
              refine TL.no rfl (.gn rfl rfl rfl) rfl ?_
              refine TL.q rfl .u (Ex.pn rfl rfl rfl) rfl ?_
              refine TL.run ft_cursitorlaw18_ok [20] rfl rfl ?_
              refine TL.no rfl (.gn rfl rfl rfl) rfl ?_
              refine TL.q rfl .u (Ex.pn rfl rfl rfl) rfl ?_
              refine TL.run ft_cursitorlaw18_ok [23] rfl rfl ?_
              cases h
              exact TL.nil (X.jq [0, 0, 0] ⟨rfl, rfl⟩ (by rfl) (by rfl))
          · replace h := ifF c34 h
            refine TL.q rfl (.g rfl rfl rfl) (Ex.aEq (us := [.string (bsOf x30.fID), .int .i64 x30.fProducer, .int .i64 x30.fEpoch, .bool x30.fCommit]) (vs := [.string ⟨#[97]⟩, .int .i64 0, .int .i64 0, .bool true]) flat_cursitorlaw18_109 rfl Try.eqGuardType109 rfl rfl rfl rfl (eqL_t (eqV_s (l := x30.fID) (m := [97]) c33) (eqL_f (eqV_in c34)))) rfl ?_
            refine TL.q rfl .u (Ex.py rfl rfl rfl) rfl ?_
            refine TL.run ft_cursitorlaw18_ok [16] rfl rfl ?_
            refine TL.no rfl (.gn rfl rfl rfl) rfl ?_
            refine TL.no rfl (.gn rfl rfl rfl) rfl ?_
            refine TL.q rfl .u (Ex.pn rfl rfl rfl) rfl ?_
            refine TL.run ft_cursitorlaw18_ok [20] rfl rfl ?_
            refine TL.no rfl (.gn rfl rfl rfl) rfl ?_
            refine TL.q rfl .u (Ex.pn rfl rfl rfl) rfl ?_
            refine TL.run ft_cursitorlaw18_ok [23] rfl rfl ?_
            cases h
            exact TL.nil (X.jq [0, 0, 0] ⟨rfl, rfl⟩ (by rfl) (by rfl))
        · replace h := ifF c33 h
          refine TL.q rfl (.g rfl rfl rfl) (Ex.aEq (us := [.string (bsOf x30.fID), .int .i64 x30.fProducer, .int .i64 x30.fEpoch, .bool x30.fCommit]) (vs := [.string ⟨#[97]⟩, .int .i64 0, .int .i64 0, .bool true]) flat_cursitorlaw18_109 rfl Try.eqGuardType109 rfl rfl rfl rfl (eqL_f (eqV_sn (l := x30.fID) (m := [97]) c33))) rfl ?_
          refine TL.q rfl .u (Ex.py rfl rfl rfl) rfl ?_
          refine TL.run ft_cursitorlaw18_ok [16] rfl rfl ?_
          refine TL.no rfl (.gn rfl rfl rfl) rfl ?_
          refine TL.no rfl (.gn rfl rfl rfl) rfl ?_
          refine TL.q rfl .u (Ex.pn rfl rfl rfl) rfl ?_
          refine TL.run ft_cursitorlaw18_ok [20] rfl rfl ?_
          refine TL.no rfl (.gn rfl rfl rfl) rfl ?_
          refine TL.q rfl .u (Ex.pn rfl rfl rfl) rfl ?_
          refine TL.run ft_cursitorlaw18_ok [23] rfl rfl ?_
          cases h
          exact TL.nil (X.jq [0, 0, 0] ⟨rfl, rfl⟩ (by rfl) (by rfl))
      · replace h := ifF c29 h
        refine TL.run ft_cursitorlaw18_ok [6] rfl rfl ?_
        refine TL.no rfl (.gn rfl rfl (decide_eq_false c29)) rfl ?_
        refine TL.no rfl (.gn rfl rfl (decide_eq_false c29)) rfl ?_
        refine TL.q rfl .u (Ex.pn rfl (decide_eq_false c29) rfl) rfl ?_
        refine TL.run ft_cursitorlaw18_ok [10] rfl rfl ?_
        refine TL.no rfl (.gn rfl rfl rfl) rfl ?_
        refine TL.no rfl (.gn rfl rfl rfl) rfl ?_
        refine TL.no rfl (.gn rfl rfl rfl) rfl ?_
        refine TL.no rfl (.gn rfl rfl rfl) rfl ?_
        refine TL.q rfl .u (Ex.pn rfl rfl rfl) rfl ?_
        refine TL.run ft_cursitorlaw18_ok [16] rfl rfl ?_
        refine TL.no rfl (.gn rfl rfl rfl) rfl ?_
        refine TL.no rfl (.gn rfl rfl rfl) rfl ?_
        refine TL.q rfl .u (Ex.pn rfl rfl rfl) rfl ?_
        refine TL.run ft_cursitorlaw18_ok [20] rfl rfl ?_
        refine TL.no rfl (.gn rfl rfl rfl) rfl ?_
        refine TL.q rfl .u (Ex.pn rfl rfl rfl) rfl ?_
        refine TL.run ft_cursitorlaw18_ok [23] rfl rfl ?_
        cases h
        exact TL.nil (X.jq [0, 0, 0] ⟨rfl, rfl⟩ (by rfl) (by rfl))
    · replace h := ifF c28 h
      refine TL.run ft_cursitorlaw18_ok [0, 1, 2] rfl rfl ?_
      refine TL.no rfl (.gn rfl rfl (decide_eq_false c28)) rfl ?_
      refine TL.no rfl (.gn rfl rfl (decide_eq_false c28)) rfl ?_
      refine TL.q rfl .u (Ex.pn rfl (decide_eq_false c28) rfl) rfl ?_
      refine TL.run ft_cursitorlaw18_ok [6] rfl rfl ?_
      refine TL.no rfl (.gn rfl rfl rfl) rfl ?_
      refine TL.no rfl (.gn rfl rfl rfl) rfl ?_
      refine TL.q rfl .u (Ex.pn rfl rfl rfl) rfl ?_
      refine TL.run ft_cursitorlaw18_ok [10] rfl rfl ?_
      refine TL.no rfl (.gn rfl rfl rfl) rfl ?_
      refine TL.no rfl (.gn rfl rfl rfl) rfl ?_
      refine TL.no rfl (.gn rfl rfl rfl) rfl ?_
      refine TL.no rfl (.gn rfl rfl rfl) rfl ?_
      refine TL.q rfl .u (Ex.pn rfl rfl rfl) rfl ?_
      refine TL.run ft_cursitorlaw18_ok [16] rfl rfl ?_
      refine TL.no rfl (.gn rfl rfl rfl) rfl ?_
      refine TL.no rfl (.gn rfl rfl rfl) rfl ?_
      refine TL.q rfl .u (Ex.pn rfl rfl rfl) rfl ?_
      refine TL.run ft_cursitorlaw18_ok [20] rfl rfl ?_
      refine TL.no rfl (.gn rfl rfl rfl) rfl ?_
      refine TL.q rfl .u (Ex.pn rfl rfl rfl) rfl ?_
      refine TL.run ft_cursitorlaw18_ok [23] rfl rfl ?_
      cases h
      exact TL.nil (X.jq [0, 0, 0] ⟨rfl, rfl⟩ (by rfl) (by rfl))
  · rintro _ _ ⟨rfl, rfl⟩
    clear h
    have h := hk27
    clear hk27
    try dsimp only at h
    obtain rfl := Option.some.inj h
    exact X.seq (T.ret (X.done1 [2] Try.results44 (RV.tm rfl) ⟨rfl, rfl, rfl⟩ (by rfl) (.inl rfl)))
def f_l18_kinds (a0 : Int) : Option (Int) := if 0 ≤ a0 then (if (a0 % 3) = 0 then some 22 else (if (a0 % 3) = 1 then some 24 else (if (a0 % 3) = 2 then some 26 else none))) else none
set_option maxRecDepth 100000 in
set_option maxHeartbeats 4000000 in
theorem f_l18_kinds_spec (a0 : Int) (r : Int) (h : f_l18_kinds a0 = some r) : SpecX Try.prog 45 #[.int .u8 a0] .triv (EmpR) (fun v A' N => v = .int .i64 r ∧ A' = EmpR ∧ N = []) := by
  refine enterA Try.func45 rfl Try.ntmps45 rfl ?_
  intro F w hX
  unfold f_l18_kinds at h
  refine T.seq (T.region rfl ?_)
  refine TL.run ft_cursitorlaw18_ok [0] rfl rfl ?_
  refine TL.nil (X.seq (T.seq (T.region rfl ?_)))
  refine TL.q rfl .u (Ex.bld (cells := #[.int .i64 22, .int .i64 24, .int .i64 26]) bok_cursitorlaw18_178 rfl (by kernel_rfl)) rfl ?_
  replace h := guard_some h
  obtain ⟨c1, h⟩ := h
  refine TL.run ft_cursitorlaw18_ok [1] rfl rfl ?_
  refine TL.q rfl .u (Ex.remK rfl rfl (by omega) c1) rfl ?_
  by_cases c2 : (a0 % 3) = 0
  · replace h := ifT c2 h
    refine TL.q rfl .u (Ex.ixA1 (cs := [.int .i64 22, .int .i64 24, .int .i64 26]) (k := 0) rfl rfl c2 Try.runUnderlying178 Try.sizeOf3 Try.isAgg3 (by decide) rfl) rfl ?_
    refine TL.run ft_cursitorlaw18_ok [4] rfl rfl ?_
    obtain rfl := Option.some.inj h
    exact TL.nil (X.seq (T.ret (X.done1 [0] Try.results45 (RV.tm rfl) ⟨rfl, rfl, rfl⟩ (by rfl) (.inl rfl))))
  · replace h := ifF c2 h
    by_cases c3 : (a0 % 3) = 1
    · replace h := ifT c3 h
      refine TL.q rfl .u (Ex.ixA1 (cs := [.int .i64 22, .int .i64 24, .int .i64 26]) (k := 1) rfl rfl c3 Try.runUnderlying178 Try.sizeOf3 Try.isAgg3 (by decide) rfl) rfl ?_
      refine TL.run ft_cursitorlaw18_ok [4] rfl rfl ?_
      obtain rfl := Option.some.inj h
      exact TL.nil (X.seq (T.ret (X.done1 [0] Try.results45 (RV.tm rfl) ⟨rfl, rfl, rfl⟩ (by rfl) (.inl rfl))))
    · replace h := ifF c3 h
      replace h := guard_some h
      obtain ⟨c4, h⟩ := h
      refine TL.q rfl .u (Ex.ixA1 (cs := [.int .i64 22, .int .i64 24, .int .i64 26]) (k := 2) rfl rfl c4 Try.runUnderlying178 Try.sizeOf3 Try.isAgg3 (by decide) rfl) rfl ?_
      refine TL.run ft_cursitorlaw18_ok [4] rfl rfl ?_
      obtain rfl := Option.some.inj h
      exact TL.nil (X.seq (T.ret (X.done1 [0] Try.results45 (RV.tm rfl) ⟨rfl, rfl, rfl⟩ (by rfl) (.inl rfl))))
def f_l18_read (st : I) (a0 : Int) (a1 : Int) : Option (R18Request × I) := if a0 = 22 then ((f_txn_ReadBegin st a1).bind fun (x3, st4) => some ((⟨x3.fID, x3.fTimeout, x3.fProducer, x3.fEpoch, [], false⟩ : R18Request), st4)) else (if a0 = 24 then ((f_txn_ReadAdd st).bind fun (x8, st11) => some ((⟨(⟨false, x8.fID⟩ : Bl), 0, x8.fProducer, x8.fEpoch, x8.fTopics, false⟩ : R18Request), st11)) else ((f_txn_ReadEnd st).bind fun (x14, st15) => some ((⟨(⟨false, x14.fID⟩ : Bl), 0, x14.fProducer, x14.fEpoch, [], x14.fCommit⟩ : R18Request), st15)))
set_option maxRecDepth 100000 in
set_option maxHeartbeats 4000000 in
theorem f_l18_read_spec (g : Nat) (st : I) (a0 : Int) (a1 : Int) (r : R18Request × I) (h : f_l18_read st a0 a1 = some r) : SpecX Try.prog 46 #[.int .i64 a0, .int .i64 a1, .pointer (some ⟨g, 0, none⟩)] .triv (InR g st) (fun v A' N => ∃ (A18 : Option Addr) (c19 : Nat), v = .agg #[.bool r.1.fID.null, .string (bsOf r.1.fID.data), .int .i64 r.1.fTimeout, .int .i64 r.1.fProducer, .int .i64 r.1.fEpoch, .slice A18 r.1.fTopics.length c19, .bool r.1.fCommit] ∧ A' = InR g r.2 ∧ N = [RdR (sliceRd 2 Top_rd) [.slice A18 r.1.fTopics.length c19] r.1.fTopics]) := by
  refine enterA Try.func46 rfl Try.ntmps46 rfl ?_
  intro F w hX
  unfold f_l18_read at h
  refine T.seq (T.region rfl ?_)
  refine TL.alloc rfl .u Try.zeroValue76 rfl (fun b1 => ?_)
  refine TL.nil (X.seq (T.seq (T.seq (T.region rfl ?_))))
  refine TL.run ft_cursitorlaw18_ok [0] rfl rfl ?_
  refine TL.nil (X.seq (T.block (T.seq (T.region rfl ?_))))
  refine TL.run ft_cursitorlaw18_ok [0, 1] rfl rfl ?_
  by_cases c2 : a0 = 22
  · replace h := ifT c2 h
    refine TL.nil (X.seq ?_)
    refine T.yes rfl (decide_eq_true c2) ?_
    refine T.seq (T.region rfl ?_)
    obtain ⟨⟨x3, st4⟩, hx5, h⟩ := Option.bind_eq_some_iff.1 h
    try dsimp only at h
    refine TL.run ft_cursitorlaw18_ok [0, 1] rfl rfl ?_
    refine TL.c1 rfl .u (.fn Try.call68 rfl) (f_txn_ReadBegin_spec g st a1 _ hx5) (fun _ hs => (Src.triv _)) rfl ?_
    refine TL.alloc rfl .u Try.zeroValue107 rfl (fun b6 => ?_)
    refine TL.st0 (cs' := #[.bool x3.fID.null, .string (bsOf x3.fID.data), .int .i64 x3.fTimeout, .int .i64 x3.fProducer, .int .i64 x3.fEpoch]) rfl .u rfl rfl Try.sizeOf107 rfl rfl rfl rfl ?_
    refine TL.nil (X.seq (T.seq (T.region rfl ?_)))
    refine TL.run ft_cursitorlaw18_ok [0] rfl rfl ?_
    refine TL.q rfl .u (Ex.bS (us := [.bool x3.fID.null, .string (bsOf x3.fID.data)]) 0 rfl Try.isAgg26 Try.sizeOf26 rfl rfl rfl) rfl ?_
    refine TL.run ft_cursitorlaw18_ok [2] rfl rfl ?_
    refine TL.q rfl .u (Ex.b1 0 rfl Try.isAgg3 rfl rfl) rfl ?_
    refine TL.run ft_cursitorlaw18_ok [4] rfl rfl ?_
    refine TL.q rfl .u (Ex.b1 0 rfl Try.isAgg3 rfl rfl) rfl ?_
    refine TL.run ft_cursitorlaw18_ok [6] rfl rfl ?_
    refine TL.q rfl .u (Ex.b1 0 rfl Try.isAgg3 rfl rfl) rfl ?_
    refine TL.q rfl .u (Ex.bld (cells := #[.bool x3.fID.null, .string (bsOf x3.fID.data), .int .i64 x3.fTimeout, .int .i64 x3.fProducer, .int .i64 x3.fEpoch, .slice none 0 0, .bool false]) bok_cursitorlaw18_76 rfl (by kernel_rfl)) rfl ?_
    refine TL.st1 (cs' := #[.bool x3.fID.null, .string (bsOf x3.fID.data), .int .i64 x3.fTimeout, .int .i64 x3.fProducer, .int .i64 x3.fEpoch, .slice none 0 0, .bool false]) rfl .u rfl rfl Try.sizeOf76 rfl rfl rfl rfl ?_
    obtain rfl := Option.some.inj h
    refine TL.nil (X.seq (T.ret (X.rb (X.rs ?_))))
    refine X.nilrd 2 Top_rd ?_
    exact X.done1 [3, 0] Try.results46 (RV.cS (us := #[.bool x3.fID.null, .string (bsOf x3.fID.data), .int .i64 x3.fTimeout, .int .i64 x3.fProducer, .int .i64 x3.fEpoch, .slice none 0 0, .bool false]) 2 rfl Try.isAgg76 Try.sizeOf76 rfl rfl) ⟨_, _, rfl, rfl, rfl⟩ (by rfl) (.inl rfl)
  · replace h := ifF c2 h
    refine TL.nil (X.seq ?_)
    refine T.no rfl (decide_eq_false c2) ?_
    refine T.seq (T.region rfl ?_)
    refine TL.run ft_cursitorlaw18_ok [0, 1] rfl rfl ?_
    by_cases c7 : a0 = 24
    · replace h := ifT c7 h
      refine TL.nil (X.seq ?_)
      refine T.yes rfl (decide_eq_true c7) ?_
      refine T.seq (T.region rfl ?_)
      obtain ⟨⟨x8, st11⟩, hx12, h⟩ := Option.bind_eq_some_iff.1 h
      try dsimp only at h
      refine TL.run ft_cursitorlaw18_ok [0] rfl rfl ?_
      refine TL.cg1 rfl .u (.fn Try.call120 rfl) (f_txn_ReadAdd_spec g st _ hx12) (fun _ hs => (Src.triv _)) rfl ?_
      rintro _ _ _ ⟨A9, c10, rfl, rfl, rfl⟩
      refine TL.sel [0, 0, 0] rfl ?_
      refine TL.alloc rfl .u Try.zeroValue180 rfl (fun b13 => ?_)
      refine TL.st0 (cs' := #[.string (bsOf x8.fID), .int .i64 x8.fProducer, .int .i64 x8.fEpoch, .slice A9 x8.fTopics.length c10]) rfl .u rfl rfl Try.sizeOf180 rfl rfl rfl rfl ?_
      refine TL.nil (X.seq (T.seq (T.region rfl ?_)))
      refine TL.run ft_cursitorlaw18_ok [0] rfl rfl ?_
      refine TL.q rfl .u (Ex.b1 0 rfl Try.isAgg9 rfl rfl) rfl ?_
      refine TL.q rfl .u (Ex.bld (cells := #[.bool false, .string (bsOf x8.fID)]) bok_cursitorlaw18_26 rfl (by kernel_rfl)) rfl ?_
      refine TL.run ft_cursitorlaw18_ok [3] rfl rfl ?_
      refine TL.q rfl .u (Ex.b1 0 rfl Try.isAgg3 rfl rfl) rfl ?_
      refine TL.run ft_cursitorlaw18_ok [5] rfl rfl ?_
      refine TL.q rfl .u (Ex.b1 0 rfl Try.isAgg3 rfl rfl) rfl ?_
      refine TL.run ft_cursitorlaw18_ok [7] rfl rfl ?_
      refine TL.q rfl .u (Ex.b1 0 rfl Try.isAgg68 rfl rfl) rfl ?_
      refine TL.q rfl .u (Ex.bld (cells := #[.bool false, .string (bsOf x8.fID), .int .i64 0, .int .i64 x8.fProducer, .int .i64 x8.fEpoch, .slice A9 x8.fTopics.length c10, .bool false]) bok_cursitorlaw18_76 rfl (by kernel_rfl)) rfl ?_
      refine TL.st2 (cs' := #[.bool false, .string (bsOf x8.fID), .int .i64 0, .int .i64 x8.fProducer, .int .i64 x8.fEpoch, .slice A9 x8.fTopics.length c10, .bool false]) rfl .u rfl rfl Try.sizeOf76 rfl rfl rfl rfl ?_
      obtain rfl := Option.some.inj h
      exact TL.nil (X.seq (T.ret (X.rb (X.rs (X.done1 [3, 1] Try.results46 (RV.cS (us := #[.bool false, .string (bsOf x8.fID), .int .i64 0, .int .i64 x8.fProducer, .int .i64 x8.fEpoch, .slice A9 x8.fTopics.length c10, .bool false]) 2 rfl Try.isAgg76 Try.sizeOf76 rfl rfl) ⟨_, _, rfl, rfl, rfl⟩ (by rfl) (.inl rfl))))))
    · replace h := ifF c7 h
      refine TL.nil (X.seq ?_)
      refine T.no rfl (decide_eq_false c7) ?_
      refine T.skip (X.blk (X.seq (T.seq (T.region rfl ?_))))
      obtain ⟨⟨x14, st15⟩, hx16, h⟩ := Option.bind_eq_some_iff.1 h
      try dsimp only at h
      refine TL.run ft_cursitorlaw18_ok [0] rfl rfl ?_
      refine TL.c1 rfl .u (.fn Try.call69 rfl) (f_txn_ReadEnd_spec g st _ hx16) (fun _ hs => (Src.triv _)) rfl ?_
      refine TL.alloc rfl .u Try.zeroValue109 rfl (fun b17 => ?_)
      refine TL.st0 (cs' := #[.string (bsOf x14.fID), .int .i64 x14.fProducer, .int .i64 x14.fEpoch, .bool x14.fCommit]) rfl .u rfl rfl Try.sizeOf109 rfl rfl rfl rfl ?_
      refine TL.nil (X.seq (T.seq (T.region rfl ?_)))
      refine TL.run ft_cursitorlaw18_ok [0] rfl rfl ?_
      refine TL.q rfl .u (Ex.b1 0 rfl Try.isAgg9 rfl rfl) rfl ?_
      refine TL.q rfl .u (Ex.bld (cells := #[.bool false, .string (bsOf x14.fID)]) bok_cursitorlaw18_26 rfl (by kernel_rfl)) rfl ?_
      refine TL.run ft_cursitorlaw18_ok [3] rfl rfl ?_
      refine TL.q rfl .u (Ex.b1 0 rfl Try.isAgg3 rfl rfl) rfl ?_
      refine TL.run ft_cursitorlaw18_ok [5] rfl rfl ?_
      refine TL.q rfl .u (Ex.b1 0 rfl Try.isAgg3 rfl rfl) rfl ?_
      refine TL.run ft_cursitorlaw18_ok [7] rfl rfl ?_
      refine TL.q rfl .u (Ex.b1 0 rfl Try.isAgg4 rfl rfl) rfl ?_
      refine TL.q rfl .u (Ex.bld (cells := #[.bool false, .string (bsOf x14.fID), .int .i64 0, .int .i64 x14.fProducer, .int .i64 x14.fEpoch, .slice none 0 0, .bool x14.fCommit]) bok_cursitorlaw18_76 rfl (by kernel_rfl)) rfl ?_
      refine TL.st1 (cs' := #[.bool false, .string (bsOf x14.fID), .int .i64 0, .int .i64 x14.fProducer, .int .i64 x14.fEpoch, .slice none 0 0, .bool x14.fCommit]) rfl .u rfl rfl Try.sizeOf76 rfl rfl rfl rfl ?_
      obtain rfl := Option.some.inj h
      refine TL.nil (X.seq (T.ret ?_))
      refine X.nilrd 2 Top_rd ?_
      exact X.done1 [3, 0] Try.results46 (RV.cS (us := #[.bool false, .string (bsOf x14.fID), .int .i64 0, .int .i64 x14.fProducer, .int .i64 x14.fEpoch, .slice none 0 0, .bool x14.fCommit]) 2 rfl Try.isAgg76 Try.sizeOf76 rfl rfl) ⟨_, _, rfl, rfl, rfl⟩ (by rfl) (.inl rfl)
def f_l18_write (a0 : Int) (a1 : Int) (a2 : R18Request) : Option (List UInt8 × Int × Int) := (if a0 = 22 then ((f_txn_BeginWrite ([], 0) (⟨a2.fID, a2.fTimeout, a2.fProducer, a2.fEpoch⟩ : TxnBegin) a1).bind fun st41 => (f_txn_BeginCheck (⟨a2.fID, a2.fTimeout, a2.fProducer, a2.fEpoch⟩ : TxnBegin) a1).bind fun x43 => some (x43, st41)) else ((if a0 = 24 then ((f_txn_AddWrite ([], 0) (⟨a2.fID.data, a2.fProducer, a2.fEpoch, a2.fTopics⟩ : TxnAdd)).bind fun st61 => (f_txn_AddCheck (⟨a2.fID.data, a2.fProducer, a2.fEpoch, a2.fTopics⟩ : TxnAdd)).bind fun x63 => some (x63, st61)) else ((f_txn_EndWrite ([], 0) (⟨a2.fID.data, a2.fProducer, a2.fEpoch, a2.fCommit⟩ : TxnEnd)).bind fun st66 => (f_txn_EndCheck (⟨a2.fID.data, a2.fProducer, a2.fEpoch, a2.fCommit⟩ : TxnEnd)).bind fun x68 => some (x68, st66))).bind fun (y56, st57) => some (y56, st57))).bind fun (y36, st37) => (gOText st37).bind fun (x70, x71, st72) => some (x70, x71, y36)
set_option maxRecDepth 100000 in
set_option maxHeartbeats 4000000 in
theorem f_l18_write_spec (a0 : Int) (a1 : Int) (a2 : R18Request) (A1 : Option Addr) (c2 : Nat) (r : List UInt8 × Int × Int) (h : f_l18_write a0 a1 a2 = some r) : SpecX Try.prog 51 #[.int .i64 a0, .int .i64 a1, .agg #[.bool a2.fID.null, .string (bsOf a2.fID.data), .int .i64 a2.fTimeout, .int .i64 a2.fProducer, .int .i64 a2.fEpoch, .slice A1 a2.fTopics.length c2, .bool a2.fCommit]] (RX.of (sliceRd 2 Top_rd) [.slice A1 a2.fTopics.length c2] a2.fTopics) (EmpR) (fun v A' N => v = .tuple #[.string (bsOf r.1), .int .i64 r.2.1, .int .i64 r.2.2] ∧ A' = EmpR ∧ N = []) := by
  refine enterA Try.func51 rfl Try.ntmps51 rfl ?_
  intro F w hX
  unfold f_l18_write at h
  refine T.seq (T.region rfl ?_)
  refine TL.box rfl .u rfl rfl (fun b3 => ?_)
  refine TL.run ft_cursitorlaw18_ok [1, 2, 3] rfl rfl ?_
  refine TL.nil (X.seq (T.seq (T.region rfl ?_)))
  refine TL.newout rfl .u Try.zeroValue50 rfl (fun b4 => ?_)
  refine TL.nil (X.seq (T.seq (T.region rfl ?_)))
  refine TL.run ft_cursitorlaw18_ok [0] rfl rfl ?_
  refine TL.nil (X.seq (T.seq (T.seq (T.region rfl ?_))))
  refine TL.run ft_cursitorlaw18_ok [0] rfl rfl ?_
  refine TL.nil (X.seq (T.block (T.seq (T.region rfl ?_))))
  refine TL.run ft_cursitorlaw18_ok [0, 1] rfl rfl ?_
  refine TL.nil (X.seq ?_)
  obtain ⟨⟨y36, st37⟩, h, hk38⟩ := Option.bind_eq_some_iff.1 h
  refine T.jq (fun e Rs => e = [(6, .string ⟨#[]⟩), (7, .int .i64 0), (8, .int .i64 0), (9, .pointer (some ⟨b4, 0, none⟩)), (10, .int .i64 y36)] ∧ Rs = [OutR b4 st37, BlkR b3 76 #[.bool a2.fID.null, .string (bsOf a2.fID.data), .int .i64 a2.fTimeout, .int .i64 a2.fProducer, .int .i64 a2.fEpoch, .slice A1 a2.fTopics.length c2, .bool a2.fCommit], EmpR]) ?_ ?_
  · clear hk38
    by_cases c39 : a0 = 22
    · replace h := ifT c39 h
      refine T.yes rfl (decide_eq_true c39) ?_
      refine T.seq (T.region rfl ?_)
      refine TL.run ft_cursitorlaw18_ok [0] rfl rfl ?_
      refine TL.q rfl .u (Ex.bS (us := [.bool a2.fID.null, .string (bsOf a2.fID.data)]) 1 rfl Try.isAgg26 Try.sizeOf26 rfl rfl rfl) rfl ?_
      refine TL.run ft_cursitorlaw18_ok [2] rfl rfl ?_
      refine TL.q rfl .u (Ex.b1 1 rfl Try.isAgg3 rfl rfl) rfl ?_
      refine TL.run ft_cursitorlaw18_ok [4] rfl rfl ?_
      refine TL.q rfl .u (Ex.b1 1 rfl Try.isAgg3 rfl rfl) rfl ?_
      refine TL.run ft_cursitorlaw18_ok [6] rfl rfl ?_
      refine TL.q rfl .u (Ex.b1 1 rfl Try.isAgg3 rfl rfl) rfl ?_
      refine TL.q rfl .u (Ex.bld (cells := #[.bool a2.fID.null, .string (bsOf a2.fID.data), .int .i64 a2.fTimeout, .int .i64 a2.fProducer, .int .i64 a2.fEpoch]) bok_cursitorlaw18_107 rfl (by kernel_rfl)) rfl ?_
      refine TL.alloc rfl .u Try.zeroValue107 rfl (fun b40 => ?_)
      refine TL.st0 (cs' := #[.bool a2.fID.null, .string (bsOf a2.fID.data), .int .i64 a2.fTimeout, .int .i64 a2.fProducer, .int .i64 a2.fEpoch]) rfl .u rfl rfl Try.sizeOf107 rfl rfl rfl rfl ?_
      refine TL.nil (X.seq (T.seq (T.region rfl ?_)))
      refine TL.q rfl .u (Ex.bS (us := [.bool a2.fID.null, .string (bsOf a2.fID.data), .int .i64 a2.fTimeout, .int .i64 a2.fProducer, .int .i64 a2.fEpoch]) 0 rfl Try.isAgg107 Try.sizeOf107 rfl rfl rfl) rfl ?_
      obtain ⟨st41, hx42, h⟩ := Option.bind_eq_some_iff.1 h
      refine TL.run ft_cursitorlaw18_ok [1] rfl rfl ?_
      refine TL.c1 rfl .u (.fn Try.call64 rfl) (f_txn_BeginWrite_spec b4 ([], 0) (⟨a2.fID, a2.fTimeout, a2.fProducer, a2.fEpoch⟩ : TxnBegin) a1 _ hx42) (fun _ hs => (Src.triv _)) rfl ?_
      refine TL.nil (X.seq (T.region rfl ?_))
      refine TL.q rfl .u (Ex.bS (us := [.bool a2.fID.null, .string (bsOf a2.fID.data), .int .i64 a2.fTimeout, .int .i64 a2.fProducer, .int .i64 a2.fEpoch]) 0 rfl Try.isAgg107 Try.sizeOf107 rfl rfl rfl) rfl ?_
      obtain ⟨x43, hx44, h⟩ := Option.bind_eq_some_iff.1 h
      refine TL.run ft_cursitorlaw18_ok [1] rfl rfl ?_
      refine TL.ce rfl .u (.fn Try.call65 rfl) (f_txn_BeginCheck_spec (⟨a2.fID, a2.fTimeout, a2.fProducer, a2.fEpoch⟩ : TxnBegin) a1 _ hx44) (fun _ hs => (RX.reads_triv _ _)) rfl ?_
      refine TL.run ft_cursitorlaw18_ok [3] rfl rfl ?_
      cases h
      exact TL.nil (X.jq [1, 1, 1] ⟨rfl, rfl⟩ (by rfl) (by rfl))
    · replace h := ifF c39 h
      refine T.no rfl (decide_eq_false c39) ?_
      refine T.seq (T.region rfl ?_)
      refine TL.run ft_cursitorlaw18_ok [0, 1] rfl rfl ?_
      refine TL.nil (X.seq ?_)
      obtain ⟨⟨y56, st57⟩, h, hk58⟩ := Option.bind_eq_some_iff.1 h
      refine T.jq (fun e Rs => e = [(6, .string ⟨#[]⟩), (7, .int .i64 0), (8, .int .i64 0), (9, .pointer (some ⟨b4, 0, none⟩)), (10, .int .i64 y56)] ∧ Rs = [OutR b4 st57, BlkR b3 76 #[.bool a2.fID.null, .string (bsOf a2.fID.data), .int .i64 a2.fTimeout, .int .i64 a2.fProducer, .int .i64 a2.fEpoch, .slice A1 a2.fTopics.length c2, .bool a2.fCommit], EmpR]) ?_ ?_
      · clear hk58
        by_cases c59 : a0 = 24
        · replace h := ifT c59 h
          refine T.yes rfl (decide_eq_true c59) ?_
          refine T.seq (T.region rfl ?_)
          refine TL.run ft_cursitorlaw18_ok [0, 1] rfl rfl ?_
          refine TL.q rfl .u (Ex.b1 1 rfl Try.isAgg9 rfl rfl) rfl ?_
          refine TL.run ft_cursitorlaw18_ok [3] rfl rfl ?_
          refine TL.q rfl .u (Ex.b1 1 rfl Try.isAgg3 rfl rfl) rfl ?_
          refine TL.run ft_cursitorlaw18_ok [5] rfl rfl ?_
          refine TL.q rfl .u (Ex.b1 1 rfl Try.isAgg3 rfl rfl) rfl ?_
          refine TL.run ft_cursitorlaw18_ok [7] rfl rfl ?_
          refine TL.q rfl .u (Ex.b1 1 rfl Try.isAgg68 rfl rfl) rfl ?_
          refine TL.q rfl .u (Ex.bld (cells := #[.string (bsOf a2.fID.data), .int .i64 a2.fProducer, .int .i64 a2.fEpoch, .slice A1 a2.fTopics.length c2]) bok_cursitorlaw18_180 rfl (by kernel_rfl)) rfl ?_
          refine TL.alloc rfl .u Try.zeroValue180 rfl (fun b60 => ?_)
          refine TL.st0 (cs' := #[.string (bsOf a2.fID.data), .int .i64 a2.fProducer, .int .i64 a2.fEpoch, .slice A1 a2.fTopics.length c2]) rfl .u rfl rfl Try.sizeOf180 rfl rfl rfl rfl ?_
          refine TL.nil (X.seq (T.seq (T.region rfl ?_)))
          refine TL.q rfl .u (Ex.bS (us := [.string (bsOf a2.fID.data), .int .i64 a2.fProducer, .int .i64 a2.fEpoch, .slice A1 a2.fTopics.length c2]) 0 rfl Try.isAgg180 Try.sizeOf180 rfl rfl rfl) rfl ?_
          obtain ⟨st61, hx62, h⟩ := Option.bind_eq_some_iff.1 h
          refine TL.c1 rfl .u (.fn Try.call123 rfl) (f_txn_AddWrite_spec b4 ([], 0) (⟨a2.fID.data, a2.fProducer, a2.fEpoch, a2.fTopics⟩ : TxnAdd) _ _ _ hx62) (fun _ hs => (Src.old hs hX)) rfl ?_
          refine TL.nil (X.seq (T.region rfl ?_))
          refine TL.q rfl .u (Ex.bS (us := [.string (bsOf a2.fID.data), .int .i64 a2.fProducer, .int .i64 a2.fEpoch, .slice A1 a2.fTopics.length c2]) 0 rfl Try.isAgg180 Try.sizeOf180 rfl rfl rfl) rfl ?_
          obtain ⟨x63, hx64, h⟩ := Option.bind_eq_some_iff.1 h
          refine TL.ce rfl .u (.fn Try.call124 rfl) (f_txn_AddCheck_spec (⟨a2.fID.data, a2.fProducer, a2.fEpoch, a2.fTopics⟩ : TxnAdd) _ _ _ hx64) (fun _ hs => (SrcE.old hs hX)) rfl ?_
          refine TL.run ft_cursitorlaw18_ok [2] rfl rfl ?_
          cases h
          exact TL.nil (X.jq [1, 1, 1] ⟨rfl, rfl⟩ (by rfl) (by rfl))
        · replace h := ifF c59 h
          refine T.no rfl (decide_eq_false c59) ?_
          refine T.seq (T.region rfl ?_)
          refine TL.run ft_cursitorlaw18_ok [0, 1] rfl rfl ?_
          refine TL.q rfl .u (Ex.b1 1 rfl Try.isAgg9 rfl rfl) rfl ?_
          refine TL.run ft_cursitorlaw18_ok [3] rfl rfl ?_
          refine TL.q rfl .u (Ex.b1 1 rfl Try.isAgg3 rfl rfl) rfl ?_
          refine TL.run ft_cursitorlaw18_ok [5] rfl rfl ?_
          refine TL.q rfl .u (Ex.b1 1 rfl Try.isAgg3 rfl rfl) rfl ?_
          refine TL.run ft_cursitorlaw18_ok [7] rfl rfl ?_
          refine TL.q rfl .u (Ex.b1 1 rfl Try.isAgg4 rfl rfl) rfl ?_
          refine TL.q rfl .u (Ex.bld (cells := #[.string (bsOf a2.fID.data), .int .i64 a2.fProducer, .int .i64 a2.fEpoch, .bool a2.fCommit]) bok_cursitorlaw18_109 rfl (by kernel_rfl)) rfl ?_
          refine TL.alloc rfl .u Try.zeroValue109 rfl (fun b65 => ?_)
          refine TL.st0 (cs' := #[.string (bsOf a2.fID.data), .int .i64 a2.fProducer, .int .i64 a2.fEpoch, .bool a2.fCommit]) rfl .u rfl rfl Try.sizeOf109 rfl rfl rfl rfl ?_
          refine TL.nil (X.seq (T.seq (T.region rfl ?_)))
          refine TL.q rfl .u (Ex.bS (us := [.string (bsOf a2.fID.data), .int .i64 a2.fProducer, .int .i64 a2.fEpoch, .bool a2.fCommit]) 0 rfl Try.isAgg109 Try.sizeOf109 rfl rfl rfl) rfl ?_
          obtain ⟨st66, hx67, h⟩ := Option.bind_eq_some_iff.1 h
          refine TL.c1 rfl .u (.fn Try.call66 rfl) (f_txn_EndWrite_spec b4 ([], 0) (⟨a2.fID.data, a2.fProducer, a2.fEpoch, a2.fCommit⟩ : TxnEnd) _ hx67) (fun _ hs => (Src.triv _)) rfl ?_
          refine TL.nil (X.seq (T.region rfl ?_))
          refine TL.q rfl .u (Ex.bS (us := [.string (bsOf a2.fID.data), .int .i64 a2.fProducer, .int .i64 a2.fEpoch, .bool a2.fCommit]) 0 rfl Try.isAgg109 Try.sizeOf109 rfl rfl rfl) rfl ?_
          obtain ⟨x68, hx69, h⟩ := Option.bind_eq_some_iff.1 h
          refine TL.ce rfl .u (.fn Try.call63 rfl) (f_txn_EndCheck_spec (⟨a2.fID.data, a2.fProducer, a2.fEpoch, a2.fCommit⟩ : TxnEnd) _ hx69) (fun _ hs => (RX.reads_triv _ _)) rfl ?_
          refine TL.run ft_cursitorlaw18_ok [2] rfl rfl ?_
          cases h
          exact TL.nil (X.jq [1, 1, 1] ⟨rfl, rfl⟩ (by rfl) (by rfl))
      · rintro _ _ ⟨rfl, rfl⟩
        clear h
        have h := hk58
        clear hk58
        try dsimp only at h
        cases h
        exact X.jq [0, 0, 0] ⟨rfl, rfl⟩ (by rfl) (by rfl)
  · rintro _ _ ⟨rfl, rfl⟩
    clear h
    have h := hk38
    clear hk38
    try dsimp only at h
    obtain ⟨⟨x70, x71, st72⟩, hx73, h⟩ := Option.bind_eq_some_iff.1 h
    try dsimp only at h
    refine X.blk (X.seq (T.seq (T.region rfl ?_)))
    refine TL.c0 rfl .u (.fn Try.call30 rfl) (gOText_spec b4 st37 _ hx73) (fun _ hs => (Src.triv _)) rfl ?_
    refine TL.run ft_cursitorlaw18_ok [1, 2, 3, 4, 5] rfl rfl ?_
    refine TL.nil (X.seq (T.seq (T.region rfl ?_)))
    refine TL.run ft_cursitorlaw18_ok [0, 1, 2, 3, 4, 5] rfl rfl ?_
    obtain rfl := Option.some.inj h
    exact TL.nil (X.seq (T.ret (X.done3 [2] Try.results51 (RV.tm rfl) (RV.tm rfl) (RV.tm rfl) ⟨rfl, rfl, rfl⟩ (by rfl) (.inl rfl))))
def f_l18_TxnWrites (a0 : Int) (a1 : Int) (a2 : R18Request) : Option (Bool) := (f_l18_speaks).bind fun x4 => if x4 = true then ((f_l18_kinds a0).bind fun x7 => if 0 ≤ a1 then (if -9223372036854775808 ≤ (a1 % 2) ∧ (a1 % 2) ≤ 9223372036854775807 then ((if (a2.fID.data.length : Int) > 40000 then some true else ((f_l14_Few a2.fTopics).bind fun x17 => if x17 = 0 then some true else some false)).bind fun y14 => if y14 = true then some true else ((if x7 = 22 then some (a2.fID.null, a2.fTimeout) else some (false, 0)).bind fun (y22, y23) => if x7 = 24 then ((f_l18_write x7 (a1 % 2) (⟨(⟨y22, a2.fID.data⟩ : Bl), y23, a2.fProducer, a2.fEpoch, a2.fTopics, false⟩ : R18Request)).bind fun (x28, x29, x30) => (f_r18_Check x7 (a1 % 2) (⟨(⟨y22, a2.fID.data⟩ : Bl), y23, a2.fProducer, a2.fEpoch, a2.fTopics, false⟩ : R18Request)).bind fun x32 => (if x29 = x32 then (if x30 = x32 then some false else some true) else some true).bind fun y35 => if y35 = true then none else (if x32 = 0 then ((gNew x28).bind fun st41 => ((f_r18_Write x7 (a1 % 2) (⟨(⟨y22, a2.fID.data⟩ : Bl), y23, a2.fProducer, a2.fEpoch, a2.fTopics, false⟩ : R18Request)).bind fun x61 => if x28 = x61 then ((f_l18_read st41 x7 (a1 % 2)).bind fun (x64, st67) => (f_r18_Same x64 (⟨(⟨y22, a2.fID.data⟩ : Bl), y23, a2.fProducer, a2.fEpoch, a2.fTopics, false⟩ : R18Request)).bind fun x69 => if x69 = true then ((gClose st67).bind fun (x72, st73) => if x72 = 0 then some (true, st73) else some (false, st73)) else some (false, st67)) else some (false, st41)).bind fun (y58, st59) => some y58) else (if x28 = [] then some true else none))) else ((if x7 = 26 then some a2.fCommit else some false).bind fun y78 => (f_l18_write x7 (a1 % 2) (⟨(⟨y22, a2.fID.data⟩ : Bl), y23, a2.fProducer, a2.fEpoch, [], y78⟩ : R18Request)).bind fun (x81, x82, x83) => (f_r18_Check x7 (a1 % 2) (⟨(⟨y22, a2.fID.data⟩ : Bl), y23, a2.fProducer, a2.fEpoch, [], y78⟩ : R18Request)).bind fun x85 => (if x82 = x85 then (if x83 = x85 then some false else some true) else some true).bind fun y88 => if y88 = true then none else (if x85 = 0 then ((gNew x81).bind fun st94 => ((f_r18_Write x7 (a1 % 2) (⟨(⟨y22, a2.fID.data⟩ : Bl), y23, a2.fProducer, a2.fEpoch, [], y78⟩ : R18Request)).bind fun x114 => if x81 = x114 then ((f_l18_read st94 x7 (a1 % 2)).bind fun (x117, st120) => (f_r18_Same x117 (⟨(⟨y22, a2.fID.data⟩ : Bl), y23, a2.fProducer, a2.fEpoch, [], y78⟩ : R18Request)).bind fun x122 => if x122 = true then ((gClose st120).bind fun (x125, st126) => if x125 = 0 then some (true, st126) else some (false, st126)) else some (false, st120)) else some (false, st94)).bind fun (y111, st112) => some y111) else (if x81 = [] then some true else none))))) else none) else none) else none
set_option maxRecDepth 100000 in
set_option maxHeartbeats 4000000 in
theorem f_l18_TxnWrites_spec (a0 : Int) (a1 : Int) (a2 : R18Request) (A1 : Option Addr) (c2 : Nat) (r : Bool) (h : f_l18_TxnWrites a0 a1 a2 = some r) : SpecX Try.prog 9 #[.int .u8 a0, .int .u8 a1, .agg #[.bool a2.fID.null, .string (bsOf a2.fID.data), .int .i64 a2.fTimeout, .int .i64 a2.fProducer, .int .i64 a2.fEpoch, .slice A1 a2.fTopics.length c2, .bool a2.fCommit]] (RX.of (sliceRd 2 Top_rd) [.slice A1 a2.fTopics.length c2] a2.fTopics) (EmpR) (fun v A' N => v = .bool r ∧ A' = EmpR ∧ N = []) := by
  refine enterA Try.func9 rfl Try.ntmps9 rfl ?_
  intro F w hX
  unfold f_l18_TxnWrites at h
  refine T.seq (T.region rfl ?_)
  refine TL.box rfl .u rfl rfl (fun b3 => ?_)
  refine TL.run ft_cursitorlaw18_ok [1] rfl rfl ?_
  obtain ⟨x4, hx5, h⟩ := Option.bind_eq_some_iff.1 h
  refine TL.nil (X.seq (T.seq (T.seq (T.region rfl ?_))))
  refine TL.ce rfl .u (.fn Try.call44 rfl) (f_l18_speaks_spec _ hx5) (fun _ hs => (RX.reads_triv _ _)) rfl ?_
  refine TL.run ft_cursitorlaw18_ok [1] rfl rfl ?_
  by_cases c6 : x4 = true
  · replace h := ifT c6 h
    refine TL.nil (X.seq ?_)
    refine T.no rfl (bn_f c6) ?_
    refine T.skip (X.seq (T.seq (T.region rfl ?_)))
    obtain ⟨x7, hx8, h⟩ := Option.bind_eq_some_iff.1 h
    refine TL.run ft_cursitorlaw18_ok [0] rfl rfl ?_
    refine TL.ce rfl .u (.fn Try.call45 rfl) (f_l18_kinds_spec a0 _ hx8) (fun _ hs => (RX.reads_triv _ _)) rfl ?_
    replace h := guard_some h
    obtain ⟨c9, h⟩ := h
    refine TL.run ft_cursitorlaw18_ok [2] rfl rfl ?_
    refine TL.q rfl .u (Ex.remK rfl rfl (by omega) c9) rfl ?_
    replace h := guard_some h
    obtain ⟨c10, h⟩ := h
    refine TL.q rfl .u (Ex.conv64 rfl Try.runUnderlying5 Try.runUnderlying3 c10) rfl ?_
    refine TL.run ft_cursitorlaw18_ok [5, 6] rfl rfl ?_
    refine TL.nil (X.seq (T.seq (T.seq ?_)))
    obtain ⟨y14, h, hk15⟩ := Option.bind_eq_some_iff.1 h
    refine T.jq (fun e Rs => e = [(5, .pointer (some ⟨b3, 0, none⟩)), (6, .bool false), (7, .int .i64 x7), (8, .int .i64 (a1 % 2)), (31, .bool y14)] ∧ Rs = [BlkR b3 76 #[.bool a2.fID.null, .string (bsOf a2.fID.data), .int .i64 a2.fTimeout, .int .i64 a2.fProducer, .int .i64 a2.fEpoch, .slice A1 a2.fTopics.length c2, .bool a2.fCommit], EmpR]) ?_ ?_
    · clear hk15
      refine T.region rfl ?_
      refine TL.run ft_cursitorlaw18_ok [0, 1] rfl rfl ?_
      refine TL.q rfl .u (Ex.b1 0 rfl Try.isAgg9 rfl rfl) rfl ?_
      refine TL.q rfl .u (Ex.lenB rfl Try.runUnderlying9) rfl ?_
      by_cases c16 : (a2.fID.data.length : Int) > 40000
      · replace h := ifT c16 h
        refine TL.run ft_cursitorlaw18_ok [4, 5] rfl rfl ?_
        refine TL.no rfl (.gn rfl rfl (decide_eq_true c16)) rfl ?_
        refine TL.no rfl (.gn rfl rfl (decide_eq_true c16)) rfl ?_
        refine TL.no rfl (.gn rfl rfl (decide_eq_true c16)) rfl ?_
        refine TL.no rfl (.gn rfl rfl (decide_eq_true c16)) rfl ?_
        refine TL.q rfl .u (Ex.py rfl (decide_eq_true c16) rfl) rfl ?_
        cases h
        exact TL.nil (X.jq [0, 0] ⟨rfl, rfl⟩ (by rfl) (by rfl))
      · replace h := ifF c16 h
        refine TL.run ft_cursitorlaw18_ok [4, 5] rfl rfl ?_
        refine TL.q rfl (.g rfl rfl (decide_eq_false c16)) (Ex.ft ft_cursitorlaw18_ok rfl) rfl ?_
        refine TL.q rfl (.g rfl rfl (decide_eq_false c16)) (Ex.b1 0 rfl Try.isAgg68 rfl rfl) rfl ?_
        obtain ⟨x17, hx18, h⟩ := Option.bind_eq_some_iff.1 h
        refine TL.ce rfl (.g rfl rfl (decide_eq_false c16)) (.fn Try.call50 rfl) (f_l14_Few_spec a2.fTopics _ _ _ hx18) (fun _ hs => (SrcE.old hs hX)) rfl ?_
        refine TL.q rfl (.g rfl rfl (decide_eq_false c16)) (Ex.ft ft_cursitorlaw18_ok rfl) rfl ?_
        refine TL.q rfl .u (Ex.pn rfl (decide_eq_false c16) rfl) rfl ?_
        by_cases c19 : x17 = 0
        · replace h := ifT c19 h
          cases h
          exact TL.nil (X.as (d := 31) (v' := .bool true) rfl (congrArg Value.bool (decide_eq_true c19)) (X.jq [0, 0] ⟨rfl, rfl⟩ (by rfl) (by rfl)))
        · replace h := ifF c19 h
          cases h
          exact TL.nil (X.as (d := 31) (v' := .bool false) rfl (congrArg Value.bool (decide_eq_false c19)) (X.jq [0, 0] ⟨rfl, rfl⟩ (by rfl) (by rfl)))
    · rintro _ _ ⟨rfl, rfl⟩
      clear h
      have h := hk15
      clear hk15
      try dsimp only at h
      by_cases c20 : y14 = true
      · replace h := ifT c20 h
        refine X.seq ?_
        refine T.yes rfl c20 ?_
        refine T.seq (T.region rfl ?_)
        refine TL.run ft_cursitorlaw18_ok [0] rfl rfl ?_
        obtain rfl := Option.some.inj h
        exact TL.nil (X.seq (T.ret (X.rs (X.done1 [1] Try.results9 (RV.tm rfl) ⟨rfl, rfl, rfl⟩ (by rfl) (.inl rfl)))))
      · replace h := ifF c20 h
        replace c20 := eq_false_of_ne_true c20
        refine X.seq ?_
        refine T.no rfl c20 ?_
        refine T.skip (X.seq (T.seq (T.seq (T.region rfl ?_))))
        refine TL.run ft_cursitorlaw18_ok [0, 1] rfl rfl ?_
        refine TL.nil (X.seq ?_)
        obtain ⟨⟨y22, y23⟩, h, hk24⟩ := Option.bind_eq_some_iff.1 h
        refine T.jq (fun e Rs => e = [(5, .pointer (some ⟨b3, 0, none⟩)), (6, .bool false), (7, .int .i64 x7), (8, .int .i64 (a1 % 2))] ∧ Rs = [BlkR b3 76 #[.bool y22, .string (bsOf a2.fID.data), .int .i64 y23, .int .i64 a2.fProducer, .int .i64 a2.fEpoch, .slice A1 a2.fTopics.length c2, .bool a2.fCommit], EmpR]) ?_ ?_
        · clear hk24
          by_cases c25 : x7 = 22
          · replace h := ifT c25 h
            refine T.no rfl (bn_f (decide_eq_true c25)) ?_
            cases h
            exact T.skip (X.jq [0, 0] ⟨rfl, rfl⟩ (by rfl) (by rfl))
          · replace h := ifF c25 h
            refine T.yes rfl (bn_t (decide_eq_false c25)) ?_
            refine T.region rfl ?_
            refine TL.run ft_cursitorlaw18_ok [0, 1] rfl rfl ?_
            refine TL.st0 (cs' := #[.bool false, .string (bsOf a2.fID.data), .int .i64 a2.fTimeout, .int .i64 a2.fProducer, .int .i64 a2.fEpoch, .slice A1 a2.fTopics.length c2, .bool a2.fCommit]) rfl .u rfl rfl Try.sizeOf4 rfl rfl rfl rfl ?_
            refine TL.run ft_cursitorlaw18_ok [3] rfl rfl ?_
            refine TL.st0 (cs' := #[.bool false, .string (bsOf a2.fID.data), .int .i64 0, .int .i64 a2.fProducer, .int .i64 a2.fEpoch, .slice A1 a2.fTopics.length c2, .bool a2.fCommit]) rfl .u rfl rfl Try.sizeOf3 rfl rfl rfl rfl ?_
            cases h
            exact TL.nil (X.jq [0, 0] ⟨rfl, rfl⟩ (by rfl) (by rfl))
        · rintro _ _ ⟨rfl, rfl⟩
          clear h
          have h := hk24
          clear hk24
          try dsimp only at h
          refine X.seq (T.seq (T.seq (T.region rfl ?_)))
          refine TL.run ft_cursitorlaw18_ok [0, 1] rfl rfl ?_
          by_cases c26 : x7 = 24
          · replace h := ifT c26 h
            refine TL.nil (X.seq ?_)
            refine T.no rfl (bn_f (decide_eq_true c26)) ?_
            refine T.skip (X.seq (T.seq (T.seq (T.region rfl ?_))))
            refine TL.run ft_cursitorlaw18_ok [0, 1] rfl rfl ?_
            have c27 : ¬ (x7 = 26) := by have hq := c26; omega
            refine TL.nil (X.seq ?_)
            refine T.yes rfl (bn_t (decide_eq_false c27)) ?_
            refine T.region rfl ?_
            refine TL.run ft_cursitorlaw18_ok [0] rfl rfl ?_
            refine TL.st0 (cs' := #[.bool y22, .string (bsOf a2.fID.data), .int .i64 y23, .int .i64 a2.fProducer, .int .i64 a2.fEpoch, .slice A1 a2.fTopics.length c2, .bool false]) rfl .u rfl rfl Try.sizeOf4 rfl rfl rfl rfl ?_
            refine TL.nil (X.seq (T.seq (T.region rfl ?_)))
            refine TL.run ft_cursitorlaw18_ok [0, 1] rfl rfl ?_
            refine TL.q rfl .u (Ex.bS (us := [.bool y22, .string (bsOf a2.fID.data), .int .i64 y23, .int .i64 a2.fProducer, .int .i64 a2.fEpoch, .slice A1 a2.fTopics.length c2, .bool false]) 0 rfl Try.isAgg76 Try.sizeOf76 rfl rfl rfl) rfl ?_
            obtain ⟨⟨x28, x29, x30⟩, hx31, h⟩ := Option.bind_eq_some_iff.1 h
            try dsimp only at h
            refine TL.ce rfl .u (.fn Try.call51 rfl) (f_l18_write_spec x7 (a1 % 2) (⟨(⟨y22, a2.fID.data⟩ : Bl), y23, a2.fProducer, a2.fEpoch, a2.fTopics, false⟩ : R18Request) _ _ _ hx31) (fun _ hs => (SrcE.old hs hX)) rfl ?_
            refine TL.run ft_cursitorlaw18_ok [4, 5, 6, 7, 8, 9, 10] rfl rfl ?_
            refine TL.nil (X.seq (T.seq (T.region rfl ?_)))
            refine TL.run ft_cursitorlaw18_ok [0, 1] rfl rfl ?_
            refine TL.q rfl .u (Ex.bS (us := [.bool y22, .string (bsOf a2.fID.data), .int .i64 y23, .int .i64 a2.fProducer, .int .i64 a2.fEpoch, .slice A1 a2.fTopics.length c2, .bool false]) 0 rfl Try.isAgg76 Try.sizeOf76 rfl rfl rfl) rfl ?_
            obtain ⟨x32, hx33, h⟩ := Option.bind_eq_some_iff.1 h
            refine TL.ce rfl .u (.fn Try.call52 rfl) (f_r18_Check_spec x7 (a1 % 2) (⟨(⟨y22, a2.fID.data⟩ : Bl), y23, a2.fProducer, a2.fEpoch, a2.fTopics, false⟩ : R18Request) _ _ _ hx33) (fun _ hs => (SrcE.old hs hX)) rfl ?_
            refine TL.run ft_cursitorlaw18_ok [4] rfl rfl ?_
            refine TL.nil (X.seq (T.seq (T.seq ?_)))
            obtain ⟨y35, h, hk36⟩ := Option.bind_eq_some_iff.1 h
            refine T.jq (fun e Rs => e = [(5, .pointer (some ⟨b3, 0, none⟩)), (6, .bool false), (7, .int .i64 x7), (8, .int .i64 (a1 % 2)), (9, .string (bsOf x28)), (12, .int .i64 x32), (62, .bool y35)] ∧ Rs = [BlkR b3 76 #[.bool y22, .string (bsOf a2.fID.data), .int .i64 y23, .int .i64 a2.fProducer, .int .i64 a2.fEpoch, .slice A1 a2.fTopics.length c2, .bool false], EmpR]) ?_ ?_
            · clear hk36
              refine T.region rfl ?_
              by_cases c37 : x29 = x32
              · replace h := ifT c37 h
                refine TL.run ft_cursitorlaw18_ok [0, 1, 2, 3] rfl rfl ?_
                refine TL.q rfl (.g rfl rfl (bn_f (decide_eq_true c37))) (Ex.ft ft_cursitorlaw18_ok rfl) rfl ?_
                refine TL.q rfl (.g rfl rfl (bn_f (decide_eq_true c37))) (Ex.ft ft_cursitorlaw18_ok rfl) rfl ?_
                refine TL.q rfl (.g rfl rfl (bn_f (decide_eq_true c37))) (Ex.ft ft_cursitorlaw18_ok rfl) rfl ?_
                refine TL.q rfl .u (Ex.pn rfl (bn_f (decide_eq_true c37)) rfl) rfl ?_
                by_cases c38 : x30 = x32
                · replace h := ifT c38 h
                  cases h
                  exact TL.nil (X.as (d := 62) (v' := .bool false) rfl (congrArg Value.bool (bn_f (decide_eq_true c38))) (X.jq [0, 0] ⟨rfl, rfl⟩ (by rfl) (by rfl)))
                · replace h := ifF c38 h
                  cases h
                  exact TL.nil (X.as (d := 62) (v' := .bool true) rfl (congrArg Value.bool (bn_t (decide_eq_false c38))) (X.jq [0, 0] ⟨rfl, rfl⟩ (by rfl) (by rfl)))
              · replace h := ifF c37 h
                refine TL.run ft_cursitorlaw18_ok [0, 1, 2, 3] rfl rfl ?_
                refine TL.no rfl (.gn rfl rfl (bn_t (decide_eq_false c37))) rfl ?_
                refine TL.no rfl (.gn rfl rfl (bn_t (decide_eq_false c37))) rfl ?_
                refine TL.no rfl (.gn rfl rfl (bn_t (decide_eq_false c37))) rfl ?_
                refine TL.q rfl .u (Ex.py rfl (bn_t (decide_eq_false c37)) rfl) rfl ?_
                cases h
                exact TL.nil (X.jq [0, 0] ⟨rfl, rfl⟩ (by rfl) (by rfl))
            · rintro _ _ ⟨rfl, rfl⟩
              clear h
              have h := hk36
              clear hk36
              try dsimp only at h
              by_cases c39 : y35 = true
              · replace h := ifT c39 h
                refine X.seq ?_
                refine T.yes rfl c39 ?_
                exact nomatch h
              · replace h := ifF c39 h
                replace c39 := eq_false_of_ne_true c39
                refine X.seq ?_
                refine T.no rfl c39 ?_
                refine T.skip (X.seq (T.seq (T.seq (T.region rfl ?_))))
                refine TL.run ft_cursitorlaw18_ok [0, 1] rfl rfl ?_
                by_cases c40 : x32 = 0
                · replace h := ifT c40 h
                  refine TL.nil (X.seq ?_)
                  refine T.no rfl (bn_f (decide_eq_true c40)) ?_
                  refine T.skip (X.seq (T.seq (T.region rfl ?_)))
                  obtain ⟨st41, hx42, h⟩ := Option.bind_eq_some_iff.1 h
                  refine TL.run ft_cursitorlaw18_ok [0] rfl rfl ?_
                  refine TL.cge rfl .u (.fn Try.call16 rfl) (gNew_spec x28 _ hx42) (fun _ hs => (RX.reads_triv _ _)) rfl ?_
                  rintro _ _ _ ⟨b43, rfl, rfl, rfl⟩
                  refine TL.sel [0, 0, 0] rfl ?_
                  refine TL.run ft_cursitorlaw18_ok [2] rfl rfl ?_
                  refine TL.nil (X.seq (T.seq ?_))
                  obtain ⟨⟨y58, st59⟩, h, hk60⟩ := Option.bind_eq_some_iff.1 h
                  refine T.jq (fun e Rs => e = [(6, .bool y58)] ∧ Rs = [InR b43 st59, BlkR b3 76 #[.bool y22, .string (bsOf a2.fID.data), .int .i64 y23, .int .i64 a2.fProducer, .int .i64 a2.fEpoch, .slice A1 a2.fTopics.length c2, .bool false], EmpR]) ?_ ?_
                  · clear hk60
                    refine T.draw (.q 0 (.q 1 (.q 2 (.q 3 (.e 4 (.q 5 (.q 6 (.q 7 (.q 8 (.q 9 (.q 11 (.e 10 (.e 12 (.q 13 (.q 14 (.q 15 (.e 16 (.q 17 (.q 18 (.q 19 .nil)))))))))))))))))))) [1, 1] rfl mix_cursitorlaw18 (NoP.seq (NoP.seq np_post)) (by kernel_rfl) ?_
                    refine TD.run ft_cursitorlaw18_ok [0, 1, 2] rfl rfl ?_
                    refine TD.q rfl .u (Ex.bS (us := [.bool y22, .string (bsOf a2.fID.data), .int .i64 y23, .int .i64 a2.fProducer, .int .i64 a2.fEpoch, .slice A1 a2.fTopics.length c2, .bool false]) 0 rfl Try.isAgg76 Try.sizeOf76 rfl rfl rfl) rfl ?_
                    obtain ⟨x61, hx62, h⟩ := Option.bind_eq_some_iff.1 h
                    refine TD.ce rfl .u (.fn Try.call49 rfl) (f_r18_Write_spec x7 (a1 % 2) (⟨(⟨y22, a2.fID.data⟩ : Bl), y23, a2.fProducer, a2.fEpoch, a2.fTopics, false⟩ : R18Request) _ _ _ hx62) (fun _ hs => (SrcE.old hs hX)) rfl [1, 1] (rfl) ?_
                    refine TD.q rfl .u (Ex.sEq rfl rfl) rfl ?_
                    by_cases c63 : x28 = x61
                    · replace h := ifT c63 h
                      refine TD.run ft_cursitorlaw18_ok [6] rfl rfl ?_
                      refine TD.q rfl (.g rfl rfl (decide_eq_true c63)) (Ex.ft ft_cursitorlaw18_ok rfl) rfl ?_
                      refine TD.q rfl (.g rfl rfl (decide_eq_true c63)) (Ex.ft ft_cursitorlaw18_ok rfl) rfl ?_
                      refine TD.q rfl (.g rfl rfl (decide_eq_true c63)) (Ex.ft ft_cursitorlaw18_ok rfl) rfl ?_
                      refine TD.q rfl (.g rfl rfl (decide_eq_true c63)) (Ex.bS (us := [.bool y22, .string (bsOf a2.fID.data), .int .i64 y23, .int .i64 a2.fProducer, .int .i64 a2.fEpoch, .slice A1 a2.fTopics.length c2, .bool false]) 0 rfl Try.isAgg76 Try.sizeOf76 rfl rfl rfl) rfl ?_
                      obtain ⟨⟨x64, st67⟩, hx68, h⟩ := Option.bind_eq_some_iff.1 h
                      try dsimp only at h
                      refine TD.cg0 rfl (.g rfl rfl (decide_eq_true c63)) (.fn Try.call46 rfl) (f_l18_read_spec b43 st41 x7 (a1 % 2) _ hx68) (fun _ hs => (Src.triv _)) rfl [2, 2] ?_ ?_
                      · rintro _ _ _ ⟨A65, c66, rfl, rfl, rfl⟩
                        rfl
                      rintro _ _ _ ⟨A65, c66, rfl, rfl, rfl⟩
                      refine TD.sel [0, 0, 0, 0] rfl ?_
                      obtain ⟨x69, hx70, h⟩ := Option.bind_eq_some_iff.1 h
                      refine TD.ce rfl (.g rfl rfl (decide_eq_true c63)) (.fn Try.call48 rfl) (f_r18_Same_spec x64 _ _ (⟨(⟨y22, a2.fID.data⟩ : Bl), y23, a2.fProducer, a2.fEpoch, a2.fTopics, false⟩ : R18Request) _ _ _ hx70) (fun _ hs => (RX.reads_and (SrcE.res 0 hs rfl (fun w G h => rd_reads w G h)) (SrcE.old hs hX))) rfl [2, 2] (rfl) ?_
                      refine TD.q rfl .u (Ex.py rfl (decide_eq_true c63) rfl) rfl ?_
                      by_cases c71 : x69 = true
                      · replace h := ifT c71 h
                        refine TD.run ft_cursitorlaw18_ok [14] rfl rfl ?_
                        refine TD.q rfl (.g rfl rfl c71) (Ex.ft ft_cursitorlaw18_ok rfl) rfl ?_
                        obtain ⟨⟨x72, st73⟩, hx74, h⟩ := Option.bind_eq_some_iff.1 h
                        try dsimp only at h
                        refine TD.c1 rfl (.g rfl rfl c71) (.fn Try.call31 rfl) (gClose_spec b43 st67 _ hx74) (fun _ hs => (Src.triv _)) rfl [2, 2] (rfl) ?_
                        refine TD.q rfl (.g rfl rfl c71) (Ex.ft ft_cursitorlaw18_ok rfl) rfl ?_
                        refine TD.q rfl .u (Ex.py rfl c71 rfl) rfl ?_
                        refine TD.run ft_cursitorlaw18_ok [19] rfl rfl ?_
                        by_cases c75 : x72 = 0
                        · replace h := ifT c75 h
                          cases h
                          exact TD.nil (X.as (d := 6) (v' := .bool true) rfl (congrArg Value.bool (decide_eq_true c75)) (X.jq [1, 1, 1] ⟨rfl, rfl⟩ (by rfl) (by rfl)))
                        · replace h := ifF c75 h
                          cases h
                          exact TD.nil (X.as (d := 6) (v' := .bool false) rfl (congrArg Value.bool (decide_eq_false c75)) (X.jq [1, 1, 1] ⟨rfl, rfl⟩ (by rfl) (by rfl)))
                      · replace h := ifF c71 h
                        replace c71 := eq_false_of_ne_true c71
                        refine TD.run ft_cursitorlaw18_ok [14] rfl rfl ?_
                        refine TD.no rfl (.gn rfl rfl c71) rfl ?_
                        refine TD.noe rfl (.gn rfl rfl c71) rfl [2, 2] rfl ?_
                        refine TD.no rfl (.gn rfl rfl c71) rfl ?_
                        refine TD.q rfl .u (Ex.pn rfl c71 rfl) rfl ?_
                        refine TD.run ft_cursitorlaw18_ok [19] rfl rfl ?_
                        cases h
                        exact TD.nil (X.jq [1, 1, 1] ⟨rfl, rfl⟩ (by rfl) (by rfl))
                    · replace h := ifF c63 h
                      refine TD.run ft_cursitorlaw18_ok [6] rfl rfl ?_
                      refine TD.no rfl (.gn rfl rfl (decide_eq_false c63)) rfl ?_
                      refine TD.no rfl (.gn rfl rfl (decide_eq_false c63)) rfl ?_
                      refine TD.no rfl (.gn rfl rfl (decide_eq_false c63)) rfl ?_
                      refine TD.no rfl (.gn rfl rfl (decide_eq_false c63)) rfl ?_
                      refine TD.noe rfl (.gn rfl rfl (decide_eq_false c63)) rfl [1, 1] rfl ?_
                      refine TD.noe rfl (.gn rfl rfl (decide_eq_false c63)) rfl [1, 1] rfl ?_
                      refine TD.q rfl .u (Ex.pn rfl (decide_eq_false c63) rfl) rfl ?_
                      refine TD.run ft_cursitorlaw18_ok [14] rfl rfl ?_
                      refine TD.no rfl (.gn rfl rfl rfl) rfl ?_
                      refine TD.noe rfl (.gn rfl rfl rfl) rfl [1, 1] rfl ?_
                      refine TD.no rfl (.gn rfl rfl rfl) rfl ?_
                      refine TD.q rfl .u (Ex.pn rfl rfl rfl) rfl ?_
                      refine TD.run ft_cursitorlaw18_ok [19] rfl rfl ?_
                      cases h
                      exact TD.nil (X.jq [0, 0, 0] ⟨rfl, rfl⟩ (by rfl) (by rfl))
                  · rintro _ _ ⟨rfl, rfl⟩
                    clear h
                    have h := hk60
                    clear hk60
                    try dsimp only at h
                    obtain rfl := Option.some.inj h
                    exact X.seq (T.ret (X.done1 [2] Try.results9 (RV.tm rfl) ⟨rfl, rfl, rfl⟩ (by rfl) (.inl rfl)))
                · replace h := ifF c40 h
                  refine TL.nil (X.seq ?_)
                  refine T.yes rfl (bn_t (decide_eq_false c40)) ?_
                  refine T.seq (T.region rfl ?_)
                  refine TL.run ft_cursitorlaw18_ok [0] rfl rfl ?_
                  refine TL.q rfl .u (Ex.sEq rfl (m := []) rfl) rfl ?_
                  refine TL.run ft_cursitorlaw18_ok [2] rfl rfl ?_
                  by_cases c76 : x28 = []
                  · replace h := ifT c76 h
                    obtain rfl := Option.some.inj h
                    exact TL.nil (X.seq (T.ret (X.rs (X.done1 [1] Try.results9 (RV.tm (v := .bool true) (congrArg (fun b => some (Value.bool b)) (decide_eq_true c76))) ⟨rfl, rfl, rfl⟩ (by rfl) (.inl rfl)))))
                  · replace h := ifF c76 h
                    exact nomatch h
          · replace h := ifF c26 h
            refine TL.nil (X.seq ?_)
            refine T.yes rfl (bn_t (decide_eq_false c26)) ?_
            refine T.region rfl ?_
            refine TL.run ft_cursitorlaw18_ok [0] rfl rfl ?_
            refine TL.st0 (cs' := #[.bool y22, .string (bsOf a2.fID.data), .int .i64 y23, .int .i64 a2.fProducer, .int .i64 a2.fEpoch, .slice none 0 0, .bool a2.fCommit]) rfl .u rfl rfl Try.sizeOf68 rfl rfl rfl rfl ?_
            refine TL.nil (X.seq (T.seq (T.seq (T.region rfl ?_))))
            refine TL.run ft_cursitorlaw18_ok [0, 1] rfl rfl ?_
            refine TL.nil (X.seq ?_)
            obtain ⟨y78, h, hk79⟩ := Option.bind_eq_some_iff.1 h
            refine T.jq (fun e Rs => e = [(5, .pointer (some ⟨b3, 0, none⟩)), (6, .bool false), (7, .int .i64 x7), (8, .int .i64 (a1 % 2))] ∧ Rs = [BlkR b3 76 #[.bool y22, .string (bsOf a2.fID.data), .int .i64 y23, .int .i64 a2.fProducer, .int .i64 a2.fEpoch, .slice none 0 0, .bool y78], EmpR]) ?_ ?_
            · clear hk79
              by_cases c80 : x7 = 26
              · replace h := ifT c80 h
                refine T.no rfl (bn_f (decide_eq_true c80)) ?_
                cases h
                exact T.skip (X.jq [0, 0] ⟨rfl, rfl⟩ (by rfl) (by rfl))
              · replace h := ifF c80 h
                refine T.yes rfl (bn_t (decide_eq_false c80)) ?_
                refine T.region rfl ?_
                refine TL.run ft_cursitorlaw18_ok [0] rfl rfl ?_
                refine TL.st0 (cs' := #[.bool y22, .string (bsOf a2.fID.data), .int .i64 y23, .int .i64 a2.fProducer, .int .i64 a2.fEpoch, .slice none 0 0, .bool false]) rfl .u rfl rfl Try.sizeOf4 rfl rfl rfl rfl ?_
                cases h
                exact TL.nil (X.jq [0, 0] ⟨rfl, rfl⟩ (by rfl) (by rfl))
            · rintro _ _ ⟨rfl, rfl⟩
              clear h
              have h := hk79
              clear hk79
              try dsimp only at h
              refine X.seq (T.seq (T.region rfl ?_))
              refine TL.run ft_cursitorlaw18_ok [0, 1] rfl rfl ?_
              refine TL.q rfl .u (Ex.bS (us := [.bool y22, .string (bsOf a2.fID.data), .int .i64 y23, .int .i64 a2.fProducer, .int .i64 a2.fEpoch, .slice none 0 0, .bool y78]) 0 rfl Try.isAgg76 Try.sizeOf76 rfl rfl rfl) rfl ?_
              obtain ⟨⟨x81, x82, x83⟩, hx84, h⟩ := Option.bind_eq_some_iff.1 h
              try dsimp only at h
              refine TL.ce rfl .u (.fn Try.call51 rfl) (f_l18_write_spec x7 (a1 % 2) (⟨(⟨y22, a2.fID.data⟩ : Bl), y23, a2.fProducer, a2.fEpoch, [], y78⟩ : R18Request) _ _ _ hx84) (fun _ hs => slice_nil_reads) rfl ?_
              refine TL.run ft_cursitorlaw18_ok [4, 5, 6, 7, 8, 9, 10] rfl rfl ?_
              refine TL.nil (X.seq (T.seq (T.region rfl ?_)))
              refine TL.run ft_cursitorlaw18_ok [0, 1] rfl rfl ?_
              refine TL.q rfl .u (Ex.bS (us := [.bool y22, .string (bsOf a2.fID.data), .int .i64 y23, .int .i64 a2.fProducer, .int .i64 a2.fEpoch, .slice none 0 0, .bool y78]) 0 rfl Try.isAgg76 Try.sizeOf76 rfl rfl rfl) rfl ?_
              obtain ⟨x85, hx86, h⟩ := Option.bind_eq_some_iff.1 h
              refine TL.ce rfl .u (.fn Try.call52 rfl) (f_r18_Check_spec x7 (a1 % 2) (⟨(⟨y22, a2.fID.data⟩ : Bl), y23, a2.fProducer, a2.fEpoch, [], y78⟩ : R18Request) _ _ _ hx86) (fun _ hs => slice_nil_reads) rfl ?_
              refine TL.run ft_cursitorlaw18_ok [4] rfl rfl ?_
              refine TL.nil (X.seq (T.seq (T.seq ?_)))
              obtain ⟨y88, h, hk89⟩ := Option.bind_eq_some_iff.1 h
              refine T.jq (fun e Rs => e = [(5, .pointer (some ⟨b3, 0, none⟩)), (6, .bool false), (7, .int .i64 x7), (8, .int .i64 (a1 % 2)), (9, .string (bsOf x81)), (12, .int .i64 x85), (62, .bool y88)] ∧ Rs = [BlkR b3 76 #[.bool y22, .string (bsOf a2.fID.data), .int .i64 y23, .int .i64 a2.fProducer, .int .i64 a2.fEpoch, .slice none 0 0, .bool y78], EmpR]) ?_ ?_
              · clear hk89
                refine T.region rfl ?_
                by_cases c90 : x82 = x85
                · replace h := ifT c90 h
                  refine TL.run ft_cursitorlaw18_ok [0, 1, 2, 3] rfl rfl ?_
                  refine TL.q rfl (.g rfl rfl (bn_f (decide_eq_true c90))) (Ex.ft ft_cursitorlaw18_ok rfl) rfl ?_
                  refine TL.q rfl (.g rfl rfl (bn_f (decide_eq_true c90))) (Ex.ft ft_cursitorlaw18_ok rfl) rfl ?_
                  refine TL.q rfl (.g rfl rfl (bn_f (decide_eq_true c90))) (Ex.ft ft_cursitorlaw18_ok rfl) rfl ?_
                  refine TL.q rfl .u (Ex.pn rfl (bn_f (decide_eq_true c90)) rfl) rfl ?_
                  by_cases c91 : x83 = x85
                  · replace h := ifT c91 h
                    cases h
                    exact TL.nil (X.as (d := 62) (v' := .bool false) rfl (congrArg Value.bool (bn_f (decide_eq_true c91))) (X.jq [0, 0] ⟨rfl, rfl⟩ (by rfl) (by rfl)))
                  · replace h := ifF c91 h
                    cases h
                    exact TL.nil (X.as (d := 62) (v' := .bool true) rfl (congrArg Value.bool (bn_t (decide_eq_false c91))) (X.jq [0, 0] ⟨rfl, rfl⟩ (by rfl) (by rfl)))
                · replace h := ifF c90 h
                  refine TL.run ft_cursitorlaw18_ok [0, 1, 2, 3] rfl rfl ?_
                  refine TL.no rfl (.gn rfl rfl (bn_t (decide_eq_false c90))) rfl ?_
                  refine TL.no rfl (.gn rfl rfl (bn_t (decide_eq_false c90))) rfl ?_
                  refine TL.no rfl (.gn rfl rfl (bn_t (decide_eq_false c90))) rfl ?_
                  refine TL.q rfl .u (Ex.py rfl (bn_t (decide_eq_false c90)) rfl) rfl ?_
                  cases h
                  exact TL.nil (X.jq [0, 0] ⟨rfl, rfl⟩ (by rfl) (by rfl))
              · rintro _ _ ⟨rfl, rfl⟩
                clear h
                have h := hk89
                clear hk89
                try dsimp only at h
                by_cases c92 : y88 = true
                · replace h := ifT c92 h
                  refine X.seq ?_
                  refine T.yes rfl c92 ?_
                  exact nomatch h
                · replace h := ifF c92 h
                  replace c92 := eq_false_of_ne_true c92
                  refine X.seq ?_
                  refine T.no rfl c92 ?_
                  refine T.skip (X.seq (T.seq (T.seq (T.region rfl ?_))))
                  refine TL.run ft_cursitorlaw18_ok [0, 1] rfl rfl ?_
                  by_cases c93 : x85 = 0
                  · replace h := ifT c93 h
                    refine TL.nil (X.seq ?_)
                    refine T.no rfl (bn_f (decide_eq_true c93)) ?_
                    refine T.skip (X.seq (T.seq (T.region rfl ?_)))
                    obtain ⟨st94, hx95, h⟩ := Option.bind_eq_some_iff.1 h
                    refine TL.run ft_cursitorlaw18_ok [0] rfl rfl ?_
                    refine TL.cge rfl .u (.fn Try.call16 rfl) (gNew_spec x81 _ hx95) (fun _ hs => (RX.reads_triv _ _)) rfl ?_
                    rintro _ _ _ ⟨b96, rfl, rfl, rfl⟩
                    refine TL.sel [0, 0, 0] rfl ?_
                    refine TL.run ft_cursitorlaw18_ok [2] rfl rfl ?_
                    refine TL.nil (X.seq (T.seq ?_))
                    obtain ⟨⟨y111, st112⟩, h, hk113⟩ := Option.bind_eq_some_iff.1 h
                    refine T.jq (fun e Rs => e = [(6, .bool y111)] ∧ Rs = [InR b96 st112, BlkR b3 76 #[.bool y22, .string (bsOf a2.fID.data), .int .i64 y23, .int .i64 a2.fProducer, .int .i64 a2.fEpoch, .slice none 0 0, .bool y78], EmpR]) ?_ ?_
                    · clear hk113
                      refine T.draw (.q 0 (.q 1 (.q 2 (.q 3 (.e 4 (.q 5 (.q 6 (.q 7 (.q 8 (.q 9 (.q 11 (.e 10 (.e 12 (.q 13 (.q 14 (.q 15 (.e 16 (.q 17 (.q 18 (.q 19 .nil)))))))))))))))))))) [1, 1] rfl mix_cursitorlaw18 (NoP.seq (NoP.seq np_post)) (by kernel_rfl) ?_
                      refine TD.run ft_cursitorlaw18_ok [0, 1, 2] rfl rfl ?_
                      refine TD.q rfl .u (Ex.bS (us := [.bool y22, .string (bsOf a2.fID.data), .int .i64 y23, .int .i64 a2.fProducer, .int .i64 a2.fEpoch, .slice none 0 0, .bool y78]) 0 rfl Try.isAgg76 Try.sizeOf76 rfl rfl rfl) rfl ?_
                      obtain ⟨x114, hx115, h⟩ := Option.bind_eq_some_iff.1 h
                      refine TD.ce rfl .u (.fn Try.call49 rfl) (f_r18_Write_spec x7 (a1 % 2) (⟨(⟨y22, a2.fID.data⟩ : Bl), y23, a2.fProducer, a2.fEpoch, [], y78⟩ : R18Request) _ _ _ hx115) (fun _ hs => slice_nil_reads) rfl [1, 1] (rfl) ?_
                      refine TD.q rfl .u (Ex.sEq rfl rfl) rfl ?_
                      by_cases c116 : x81 = x114
                      · replace h := ifT c116 h
                        refine TD.run ft_cursitorlaw18_ok [6] rfl rfl ?_
                        refine TD.q rfl (.g rfl rfl (decide_eq_true c116)) (Ex.ft ft_cursitorlaw18_ok rfl) rfl ?_
                        refine TD.q rfl (.g rfl rfl (decide_eq_true c116)) (Ex.ft ft_cursitorlaw18_ok rfl) rfl ?_
                        refine TD.q rfl (.g rfl rfl (decide_eq_true c116)) (Ex.ft ft_cursitorlaw18_ok rfl) rfl ?_
                        refine TD.q rfl (.g rfl rfl (decide_eq_true c116)) (Ex.bS (us := [.bool y22, .string (bsOf a2.fID.data), .int .i64 y23, .int .i64 a2.fProducer, .int .i64 a2.fEpoch, .slice none 0 0, .bool y78]) 0 rfl Try.isAgg76 Try.sizeOf76 rfl rfl rfl) rfl ?_
                        obtain ⟨⟨x117, st120⟩, hx121, h⟩ := Option.bind_eq_some_iff.1 h
                        try dsimp only at h
                        refine TD.cg0 rfl (.g rfl rfl (decide_eq_true c116)) (.fn Try.call46 rfl) (f_l18_read_spec b96 st94 x7 (a1 % 2) _ hx121) (fun _ hs => (Src.triv _)) rfl [2, 2] ?_ ?_
                        · rintro _ _ _ ⟨A118, c119, rfl, rfl, rfl⟩
                          rfl
                        rintro _ _ _ ⟨A118, c119, rfl, rfl, rfl⟩
                        refine TD.sel [0, 0, 0, 0] rfl ?_
                        obtain ⟨x122, hx123, h⟩ := Option.bind_eq_some_iff.1 h
                        refine TD.ce rfl (.g rfl rfl (decide_eq_true c116)) (.fn Try.call48 rfl) (f_r18_Same_spec x117 _ _ (⟨(⟨y22, a2.fID.data⟩ : Bl), y23, a2.fProducer, a2.fEpoch, [], y78⟩ : R18Request) _ _ _ hx123) (fun _ hs => (RX.reads_and (SrcE.res 0 hs rfl (fun w G h => rd_reads w G h)) slice_nil_reads)) rfl [2, 2] (rfl) ?_
                        refine TD.q rfl .u (Ex.py rfl (decide_eq_true c116) rfl) rfl ?_
                        by_cases c124 : x122 = true
                        · replace h := ifT c124 h
                          refine TD.run ft_cursitorlaw18_ok [14] rfl rfl ?_
                          refine TD.q rfl (.g rfl rfl c124) (Ex.ft ft_cursitorlaw18_ok rfl) rfl ?_
                          obtain ⟨⟨x125, st126⟩, hx127, h⟩ := Option.bind_eq_some_iff.1 h
                          try dsimp only at h
                          refine TD.c1 rfl (.g rfl rfl c124) (.fn Try.call31 rfl) (gClose_spec b96 st120 _ hx127) (fun _ hs => (Src.triv _)) rfl [2, 2] (rfl) ?_
                          refine TD.q rfl (.g rfl rfl c124) (Ex.ft ft_cursitorlaw18_ok rfl) rfl ?_
                          refine TD.q rfl .u (Ex.py rfl c124 rfl) rfl ?_
                          refine TD.run ft_cursitorlaw18_ok [19] rfl rfl ?_
                          by_cases c128 : x125 = 0
                          · replace h := ifT c128 h
                            cases h
                            exact TD.nil (X.as (d := 6) (v' := .bool true) rfl (congrArg Value.bool (decide_eq_true c128)) (X.jq [1, 1, 1] ⟨rfl, rfl⟩ (by rfl) (by rfl)))
                          · replace h := ifF c128 h
                            cases h
                            exact TD.nil (X.as (d := 6) (v' := .bool false) rfl (congrArg Value.bool (decide_eq_false c128)) (X.jq [1, 1, 1] ⟨rfl, rfl⟩ (by rfl) (by rfl)))
                        · replace h := ifF c124 h
                          replace c124 := eq_false_of_ne_true c124
                          refine TD.run ft_cursitorlaw18_ok [14] rfl rfl ?_
                          refine TD.no rfl (.gn rfl rfl c124) rfl ?_
                          refine TD.noe rfl (.gn rfl rfl c124) rfl [2, 2] rfl ?_
                          refine TD.no rfl (.gn rfl rfl c124) rfl ?_
                          refine TD.q rfl .u (Ex.pn rfl c124 rfl) rfl ?_
                          refine TD.run ft_cursitorlaw18_ok [19] rfl rfl ?_
                          cases h
                          exact TD.nil (X.jq [1, 1, 1] ⟨rfl, rfl⟩ (by rfl) (by rfl))
                      · replace h := ifF c116 h
                        refine TD.run ft_cursitorlaw18_ok [6] rfl rfl ?_
                        refine TD.no rfl (.gn rfl rfl (decide_eq_false c116)) rfl ?_
                        refine TD.no rfl (.gn rfl rfl (decide_eq_false c116)) rfl ?_
                        refine TD.no rfl (.gn rfl rfl (decide_eq_false c116)) rfl ?_
                        refine TD.no rfl (.gn rfl rfl (decide_eq_false c116)) rfl ?_
                        refine TD.noe rfl (.gn rfl rfl (decide_eq_false c116)) rfl [1, 1] rfl ?_
                        refine TD.noe rfl (.gn rfl rfl (decide_eq_false c116)) rfl [1, 1] rfl ?_
                        refine TD.q rfl .u (Ex.pn rfl (decide_eq_false c116) rfl) rfl ?_
                        refine TD.run ft_cursitorlaw18_ok [14] rfl rfl ?_
                        refine TD.no rfl (.gn rfl rfl rfl) rfl ?_
                        refine TD.noe rfl (.gn rfl rfl rfl) rfl [1, 1] rfl ?_
                        refine TD.no rfl (.gn rfl rfl rfl) rfl ?_
                        refine TD.q rfl .u (Ex.pn rfl rfl rfl) rfl ?_
                        refine TD.run ft_cursitorlaw18_ok [19] rfl rfl ?_
                        cases h
                        exact TD.nil (X.jq [0, 0, 0] ⟨rfl, rfl⟩ (by rfl) (by rfl))
                    · rintro _ _ ⟨rfl, rfl⟩
                      clear h
                      have h := hk113
                      clear hk113
                      try dsimp only at h
                      obtain rfl := Option.some.inj h
                      exact X.seq (T.ret (X.done1 [2] Try.results9 (RV.tm rfl) ⟨rfl, rfl, rfl⟩ (by rfl) (.inl rfl)))
                  · replace h := ifF c93 h
                    refine TL.nil (X.seq ?_)
                    refine T.yes rfl (bn_t (decide_eq_false c93)) ?_
                    refine T.seq (T.region rfl ?_)
                    refine TL.run ft_cursitorlaw18_ok [0] rfl rfl ?_
                    refine TL.q rfl .u (Ex.sEq rfl (m := []) rfl) rfl ?_
                    refine TL.run ft_cursitorlaw18_ok [2] rfl rfl ?_
                    by_cases c129 : x81 = []
                    · replace h := ifT c129 h
                      obtain rfl := Option.some.inj h
                      exact TL.nil (X.seq (T.ret (X.rs (X.done1 [1] Try.results9 (RV.tm (v := .bool true) (congrArg (fun b => some (Value.bool b)) (decide_eq_true c129))) ⟨rfl, rfl, rfl⟩ (by rfl) (.inl rfl)))))
                    · replace h := ifF c129 h
                      exact nomatch h
  · replace h := ifF c6 h
    replace c6 := eq_false_of_ne_true c6
    refine TL.nil (X.seq ?_)
    refine T.yes rfl (bn_t c6) ?_
    exact nomatch h
end Go.Proofs.Ytagbblaegdedpaa.Sl
namespace Go.Proofs.Ytagbblaegdedpaa.Sl
open Go.RowKit
set_option linter.unusedVariables false
set_option linter.unusedSimpArgs false
theorem kright_len {d : List UInt8} (h : kright d = true) : d.length ≤ 32767 ∧ d ≠ [] := by
  unfold kright at h
  simp only [Bool.and_eq_true, decide_eq_true_eq, Bool.not_eq_true'] at h
  refine ⟨by omega, fun h0 => ?_⟩
  rw [h0] at h
  exact absurd h.1 (by decide)
theorem who_fits {p e : Int} (h : who p e = true) (hp : wI p) : fits p 8 = true ∧ fits e 2 = true := by
  unfold who at h
  have h := of_decide_eq_true h
  exact ⟨by rw [fits_8]; exact decide_eq_true hp, by rw [fits_2]; exact decide_eq_true (by omega)⟩
theorem putBool (t : List UInt8) (b : Bool) (ht : t.length ≤ 1000000) : f_txn_PutBool (t, 0) b = some (t ++ encBool b, 0) := by
  unfold f_txn_PutBool
  cases b with
  | true =>
    rw [if_pos rfl, gOByte_eq _ _ ⟨by decide, by decide, by simp only; omega⟩]
    rfl
  | false =>
    rw [if_neg (by decide), gOByte_eq _ _ ⟨by decide, by decide, by simp only; omega⟩]
    rfl
theorem txnFail (t : List UInt8) (e : Int) : f_txn_fail (t, 0) e = some (if e = 0 then (false, (t, 0)) else (true, (t, e))) := by
  unfold f_txn_fail
  by_cases h : e = 0
  · rw [if_pos h, if_pos h, Option.bind_some, if_pos h]
  · rw [if_neg h, if_neg h, gOFail_eq, Option.bind_some, Option.bind_some, if_neg h]
    rfl
theorem endWrite (x : TxnEnd) (t : List UInt8) (hp : wI x.fProducer) (he : wI x.fEpoch) (ht : t.length ≤ 900000) : f_txn_EndWrite (t, 0) x = some (if chkE x.fID x.fProducer x.fEpoch = 0 then (t ++ encE x, 0) else (t, chkE x.fID x.fProducer x.fEpoch)) := by
  unfold f_txn_EndWrite f_txn_wrong_TxnEnd
  rw [endCheck x he, Option.bind_some, txnFail, Option.bind_some]
  by_cases hc : chkE x.fID x.fProducer x.fEpoch = 0
  · rw [if_pos hc, if_pos hc, Option.bind_some]
    simp only
    have hk : kright x.fID = true := by
      unfold chkE at hc
      split at hc
      · rename_i h; exact h
      · exact absurd hc (by decide)
    have hw : who x.fProducer x.fEpoch = true := by
      unfold chkE at hc
      rw [if_pos hk] at hc
      split at hc
      · rename_i h; exact h
      · exact absurd hc (by decide)
    obtain ⟨k1, _⟩ := kright_len hk
    obtain ⟨f1, f2⟩ := who_fits hw hp
    rw [if_neg (by decide), gPutText_z k1 (by omega), Option.bind_some, gOInt_z f1 (by simp only [List.length_append, be_length]; omega), Option.bind_some, gOInt_z f2 (by simp only [List.length_append, be_length]; omega), Option.bind_some, putBool _ _ (by simp only [List.length_append, be_length]; omega), Option.bind_some]
    simp only [encE, encTx, List.append_assoc]
    rfl
  · rw [if_neg hc, if_neg hc, Option.bind_some]
    rfl
theorem rise_zero {l : List Top} (h : riseV l = 0) : l ≠ [] ∧ okts l = true := by
  unfold riseV at h
  split at h
  · exact absurd h (by decide)
  · rename_i h1
    split at h
    · rename_i h2
      exact ⟨fun h0 => h1 (by rw [h0]; rfl), h2⟩
    · exact absurd h (by decide)
theorem chkA_zero {d : List UInt8} {p e : Int} {l : List Top} (hc : chkA d p e l = 0) : kright d = true ∧ who p e = true ∧ riseV l = 0 := by
  unfold chkA at hc
  split at hc
  · rename_i h1
    split at hc
    · rename_i h2; exact ⟨h1, h2, hc⟩
    · exact absurd hc (by decide)
  · exact absurd hc (by decide)
theorem addWrite (x : TxnAdd) (t : List UInt8) (hp : wI x.fProducer) (he : wI x.fEpoch) (hl : wTl x.fTopics) (hw2 : wTs x.fTopics ≤ 2000) (ht : t.length ≤ 700000) : f_txn_AddWrite (t, 0) x = some (if chkA x.fID x.fProducer x.fEpoch x.fTopics = 0 then (t ++ encA x, 0) else (t, chkA x.fID x.fProducer x.fEpoch x.fTopics)) := by
  unfold f_txn_AddWrite f_txn_wrong_TxnAdd
  rw [addCheck x he hl, Option.bind_some, txnFail, Option.bind_some]
  by_cases hc : chkA x.fID x.fProducer x.fEpoch x.fTopics = 0
  · rw [if_pos hc, if_pos hc, Option.bind_some]
    simp only
    obtain ⟨hk, hw, hr⟩ := chkA_zero hc
    obtain ⟨k1, _⟩ := kright_len hk
    obtain ⟨f1, f2⟩ := who_fits hw hp
    rw [if_neg (by decide), gPutText_z k1 (by omega), Option.bind_some, gOInt_z f1 (by simp only [List.length_append, be_length]; omega), Option.bind_some, gOInt_z f2 (by simp only [List.length_append, be_length]; omega), Option.bind_some,
      put_topics x.fTopics _ (okts_ok (rise_zero hr).2 hw2) (by simp only [List.length_append, be_length]; omega) hw2, Option.bind_some]
    simp only [encA, encTx, encTs, List.append_assoc]
    rfl
  · rw [if_neg hc, if_neg hc, Option.bind_some]
    rfl
theorem chkBg_zero {b : Bl} {t p e v : Int} (hc : chkBg b t p e v = 0) : bright b = true ∧ (b.null = true ∨ kright b.data = true) ∧ (0 ≤ t ∧ t ≤ 2147483647) ∧ (p = -1 ∧ e = -1 ∨ v > 0 ∧ who p e = true) := by
  unfold chkBg at hc
  split at hc
  · rename_i h1
    split at hc
    · rename_i h2
      simp only [Bool.and_eq_true, Bool.or_eq_true, tmB, nobB, decide_eq_true_eq] at h1 h2
      exact ⟨h1.1, h1.2, h2.1, h2.2⟩
    · exact absurd hc (by decide)
  · exact absurd hc (by decide)
theorem bl_fits {b : Bl} (hb : bright b = true) (h : b.null = true ∨ kright b.data = true) : fits (blen b) 2 = true ∧ b.data.length ≤ 32767 := by
  unfold blen
  rcases h with h | h
  · have : b.data = [] := by unfold bright at hb; rw [h] at hb; simpa using hb
    rw [if_pos h, this]
    exact ⟨by decide, by decide⟩
  · obtain ⟨k1, _⟩ := kright_len h
    refine ⟨?_, k1⟩
    split
    · decide
    · rw [fits_2]; exact decide_eq_true (by omega)
def encB (v : Int) (x : TxnBegin) : List UInt8 := if v > 0 then encB1 x else encB0 x
theorem beginWrite (x : TxnBegin) (v : Int) (t : List UInt8) (hp : wI x.fProducer) (he : wI x.fEpoch) (hm : wI x.fTimeout) (ht : t.length ≤ 900000) : f_txn_BeginWrite (t, 0) x v = some (if chkBg x.fID x.fTimeout x.fProducer x.fEpoch v = 0 then (t ++ encB v x, 0) else (t, chkBg x.fID x.fTimeout x.fProducer x.fEpoch v)) := by
  unfold f_txn_BeginWrite
  rw [beginCheck x v he hm, Option.bind_some, txnFail, Option.bind_some]
  by_cases hc : chkBg x.fID x.fTimeout x.fProducer x.fEpoch v = 0
  · rw [if_pos hc, if_pos hc]
    simp only
    obtain ⟨h1, h2, h3, h4⟩ := chkBg_zero hc
    obtain ⟨f0, k1⟩ := bl_fits h1 h2
    have f4 : fits x.fTimeout 4 = true := by rw [fits_4]; exact decide_eq_true (by omega)
    have f1 : fits x.fProducer 8 = true := by rw [fits_8]; exact decide_eq_true hp
    have f2 : fits x.fEpoch 2 = true := by
      rcases h4 with h4 | h4
      · rw [h4.2]; decide
      · exact (who_fits h4.2 hp).2
    rw [if_neg (by decide), gPutFixed_z f0 h1 (by omega), Option.bind_some, gOInt_z f4 (by simp only [List.length_append, be_length]; omega), Option.bind_some]
    unfold encB
    by_cases hv : v > 0
    · rw [if_pos hv, if_pos hv, gOInt_z f1 (by simp only [List.length_append, be_length]; omega), Option.bind_some, gOInt_z f2 (by simp only [List.length_append, be_length]; omega), Option.bind_some, Option.bind_some]
      simp only [encB1, encFx, List.append_assoc]
      rfl
    · rw [if_neg hv, if_neg hv, Option.bind_some]
      simp only [encB0, encFx, List.append_assoc]
      rfl
  · rw [if_neg hc, if_neg hc]
    rfl
theorem r18_named (b : Bl) : f_r18_named b = some (!b.null && kright b.data) := by
  unfold f_r18_named
  cases hb : b.null with
  | true => rfl
  | false =>
    rw [if_neg (by decide)]
    unfold kright
    by_cases h1 : (b.data.length : Int) ≥ 1
    · rw [if_pos h1]
      have : b.data.isEmpty = false := by cases hd : b.data with | nil => rw [hd] at h1; exact absurd h1 (by decide) | cons c l => rfl
      by_cases h2 : (b.data.length : Int) ≤ 32767
      · rw [if_pos h2, this, decide_eq_true h2]
        rfl
      · rw [if_neg h2, this, decide_eq_false h2]
        rfl
    · rw [if_neg h1]
      have : b.data = [] := List.eq_nil_of_length_eq_zero (by omega)
      rw [this]
      rfl
theorem r18_who (r : R18Request) : f_r18_who r = some (who r.fProducer r.fEpoch) := by
  unfold f_r18_who who
  by_cases h1 : r.fProducer ≥ 0
  · rw [if_pos h1]
    by_cases h2 : r.fEpoch ≥ 0
    · rw [if_pos h2]
      by_cases h3 : r.fEpoch ≤ 32767
      · rw [if_pos h3, decide_eq_true (by omega)]
        rfl
      · rw [if_neg h3, decide_eq_false (by omega)]
        rfl
    · rw [if_neg h2, decide_eq_false (by omega)]
      rfl
  · rw [if_neg h1, decide_eq_false (by omega)]
    rfl
def chkR (k v : Int) (r : R18Request) : Int := if k = 22 then chkBg r.fID r.fTimeout r.fProducer r.fEpoch v else if k = 24 then chkA r.fID.data r.fProducer r.fEpoch r.fTopics else chkE r.fID.data r.fProducer r.fEpoch
theorem r18_check (k v : Int) (hv : v = 0 ∨ v = 1) (r : R18Request) (hn : k ≠ 22 → r.fID.null = false) (hl : r.fTopics.length ≤ 1000000) (hx : ∀ t, t ∈ r.fTopics → t.fParts.length ≤ 1000000 ∧ t.fName.length ≤ 1000000) : f_r18_Check k v r = some (chkR k v r) := by
  unfold f_r18_Check chkR
  by_cases hk : k = 22
  · rw [if_pos hk, if_pos hk, r18_named, r18_who]
    unfold chkBg
    have h1 : (if r.fID.null = true then (if r.fID.data = [] then some false else some true) else ((some (!r.fID.null && kright r.fID.data)).bind fun x13 => if x13 = true then some false else some true)) = some (!(bright r.fID && (r.fID.null || kright r.fID.data))) := by
      unfold bright
      cases r.fID.null with
      | true =>
        rw [if_pos rfl]
        by_cases hd : r.fID.data = []
        · rw [if_pos hd, hd]; rfl
        · rw [if_neg hd]
          simp [hd]
      | false => cases kright r.fID.data <;> rfl
    have h2 : (if r.fTimeout < 0 then some true else (if r.fTimeout > 2147483647 then some true else some false)) = some (!tmB r.fTimeout) := by
      unfold tmB
      by_cases a : r.fTimeout < 0
      · rw [if_pos a, decide_eq_false (by omega)]; rfl
      · rw [if_neg a]
        by_cases b : r.fTimeout > 2147483647
        · rw [if_pos b, decide_eq_false (by omega)]; rfl
        · rw [if_neg b, decide_eq_true (by omega)]; rfl
    have h3 : (if r.fProducer = (-1) then (if r.fEpoch = (-1) then some true else (if v = 1 then ((some (who r.fProducer r.fEpoch)).bind fun x36 => some x36) else some false)) else (if v = 1 then ((some (who r.fProducer r.fEpoch)).bind fun x39 => some x39) else some false)) = some (nobB r.fProducer r.fEpoch || (decide (v > 0) && who r.fProducer r.fEpoch)) := by
      unfold nobB
      rcases hv with rfl | rfl
      · by_cases a : r.fProducer = -1 <;> by_cases b : r.fEpoch = -1 <;> simp [a, b]
      · by_cases a : r.fProducer = -1 <;> by_cases b : r.fEpoch = -1 <;> simp [a, b]
    rw [h1, h2, h3]
    cases (bright r.fID && (r.fID.null || kright r.fID.data)) <;> cases tmB r.fTimeout <;> cases (nobB r.fProducer r.fEpoch || (decide (v > 0) && who r.fProducer r.fEpoch)) <;> rfl
  · rw [if_neg hk, if_neg hk, r18_named, r18_who, hn hk]
    simp only [Bool.not_false, Bool.true_and]
    by_cases h4 : k = 24
    · rw [if_pos h4, if_pos h4, if_pos h4, rise_eq _ hl hx]
      unfold chkA riseV
      by_cases h0 : r.fTopics.length = 0
      · rw [if_pos (by omega), if_pos h0]
        cases kright r.fID.data <;> cases who r.fProducer r.fEpoch <;> rfl
      · rw [if_neg (by omega), if_neg h0]
        cases kright r.fID.data <;> cases who r.fProducer r.fEpoch <;> cases okts r.fTopics <;> rfl
    · rw [if_neg h4, if_neg h4, if_neg h4]
      unfold chkE
      cases kright r.fID.data <;> cases who r.fProducer r.fEpoch <;> rfl
def gE (x : TxnEnd) : R18Request := ⟨⟨false, x.fID⟩, 0, x.fProducer, x.fEpoch, [], x.fCommit⟩
def gA (x : TxnAdd) : R18Request := ⟨⟨false, x.fID⟩, 0, x.fProducer, x.fEpoch, x.fTopics, false⟩
def gB (x : TxnBegin) : R18Request := ⟨x.fID, x.fTimeout, x.fProducer, x.fEpoch, [], false⟩
def toE (r : R18Request) : TxnEnd := ⟨r.fID.data, r.fProducer, r.fEpoch, r.fCommit⟩
def toA (r : R18Request) : TxnAdd := ⟨r.fID.data, r.fProducer, r.fEpoch, r.fTopics⟩
def toB (r : R18Request) : TxnBegin := ⟨r.fID, r.fTimeout, r.fProducer, r.fEpoch⟩
def Pr.map {α β : Type} (g : α → β) (p : Pr α) : Pr β := p.bind fun x => .ret (g x)
theorem Sp.map {α β : Type} {p : Pr α} {enc : α → List UInt8} {ok : α → Prop} (g : α → β) (g' : β → α) (hg : ∀ x, g' (g x) = x) (h : Sp p enc ok) : Sp (p.map g) (fun y => enc (g' y)) (fun y => ok (g' y) ∧ g (g' y) = y) := by
  refine ⟨fun s q y r hq hp => ?_, fun s t q y hq hy hd => ?_⟩
  · obtain ⟨x, m, h1, h2⟩ := Pr.bind_ok hp
    injection h2 with h2
    obtain ⟨rfl, rfl⟩ := Prod.mk.inj h2
    obtain ⟨a1, a2, a3, a4, a5⟩ := h.spell s q x m hq h1
    rw [hg x]
    exact ⟨a1, a2, a3, a4, a5, rfl⟩
  · have := h.back s t q (g' y) hq hy.1 hd
    rw [Pr.map, Pr.bind_of this, hy.2]
    rfl
theorem CB.map {α β : Type} {op : I → Option (α × I)} {p : Pr α} {z : α} (g : α → β) (h : CB op p z) : CB (fun st => (op st).bind fun (x, st1) => some (g x, st1)) (p.map g) (g z) := by
  refine ⟨fun st hd => ?_, fun s q hl hq => ?_⟩
  · show (op st).bind _ = _
    rw [h.dead st hd]
    rfl
  · rcases h.run s q hl hq with ⟨e, st, p1, g1, x1, y1⟩ | ⟨a, r, p1, g1, n1, l1⟩
    · refine .inl ⟨e, st, Pr.bind_err p1, ?_, x1, y1⟩
      show (op _).bind _ = _
      rw [g1]
      rfl
    · refine .inr ⟨g a, r, by rw [Pr.map, Pr.bind_of p1]; rfl, ?_, n1, l1⟩
      show (op _).bind _ = _
      rw [g1]
      rfl
def pReq (k v : Int) : Pr R18Request := if k = 22 then (if v > 0 then (pBeg1 v).map gB else (pBeg0 v).map gB) else if k = 24 then pAddR.map gA else pEndR.map gE
def encR (k v : Int) (r : R18Request) : List UInt8 := if k = 22 then encB v (toB r) else if k = 24 then encA (toA r) else encE (toE r)
def zR : R18Request := ⟨⟨false, []⟩, 0, 0, 0, [], false⟩
theorem B_req (k v : Int) : CB (fun st => f_l18_read st k v) (pReq k v) zR := by
  unfold pReq
  by_cases hk : k = 22
  · rw [if_pos hk]
    by_cases hv : v > 0
    · rw [if_pos hv]
      exact CB.congr ((B_beg1 v hv).map gB) (fun st => by unfold f_l18_read; rw [if_pos hk]; rfl)
    · rw [if_neg hv]
      exact CB.congr ((B_beg0 v hv).map gB) (fun st => by unfold f_l18_read; rw [if_pos hk]; rfl)
  · rw [if_neg hk]
    by_cases h4 : k = 24
    · rw [if_pos h4]
      exact CB.congr (B_add.map gA) (fun st => by unfold f_l18_read; rw [if_neg hk, if_pos h4]; rfl)
    · rw [if_neg h4]
      exact CB.congr (B_end.map gE) (fun st => by unfold f_l18_read; rw [if_neg hk, if_neg h4]; rfl)
def nrm (k : Int) (r : R18Request) : Prop := if k = 22 then gB (toB r) = r else if k = 24 then gA (toA r) = r else gE (toE r) = r
def okRq (k v : Int) (r : R18Request) : Prop := fits r.fProducer 8 = true ∧ fits r.fEpoch 2 = true ∧ (k = 22 → okFx r.fID ∧ fits r.fTimeout 4 = true) ∧ (k ≠ 22 → okTx r.fID.data) ∧ (k = 24 → okTs r.fTopics) ∧ chkR k v r = 0 ∧ nrm k r
theorem Sp_req (k v : Int) (hv : v = 0 ∨ v = 1) : Sp (pReq k v) (encR k v) (okRq k v) := by
  unfold pReq
  by_cases hk : k = 22
  · rw [if_pos hk]
    by_cases hv0 : v > 0
    · rw [if_pos hv0]
      refine ((Sp_beg1 v).map gB toB (fun _ => rfl)).congr (fun r => ?_) (fun r _ => by unfold encR encB; rw [if_pos hk, if_pos hv0])
      unfold okRq chkR nrm
      rw [if_pos hk, if_pos hk]
      exact ⟨fun ⟨⟨h1, h2, h3, h4, h5⟩, h6⟩ => ⟨h3, h4, fun _ => ⟨h1, h2⟩, fun h => absurd hk h, fun h => absurd (hk.symm.trans h) (by decide), h5, h6⟩, fun ⟨h3, h4, h1, _, _, h5, h6⟩ => ⟨⟨(h1 hk).1, (h1 hk).2, h3, h4, h5⟩, h6⟩⟩
    · rw [if_neg hv0]
      refine ((Sp_beg0 v).map gB toB (fun _ => rfl)).congr (fun r => ?_) (fun r _ => by unfold encR encB; rw [if_pos hk, if_neg hv0])
      unfold okRq chkR nrm
      rw [if_pos hk, if_pos hk]
      refine ⟨fun ⟨⟨h1, h2, h5, h3, h4⟩, h6⟩ => ⟨?_, ?_, fun _ => ⟨h1, h2⟩, fun h => absurd hk h, fun h => absurd (hk.symm.trans h) (by decide), h5, h6⟩, fun ⟨h3, h4, h1, _, _, h5, h6⟩ => ⟨⟨(h1 hk).1, (h1 hk).2, h5, ?_⟩, h6⟩⟩
      · have h3 : r.fProducer = -1 := h3
        rw [h3]; decide
      · have h4 : r.fEpoch = -1 := h4
        rw [h4]; decide
      · rcases (chkBg_zero h5).2.2.2 with h | h
        · exact h
        · exact absurd h.1 hv0
  · rw [if_neg hk]
    by_cases h4 : k = 24
    · rw [if_pos h4]
      refine (Sp_add.map gA toA (fun _ => rfl)).congr (fun r => ?_) (fun r _ => by unfold encR; rw [if_neg hk, if_pos h4])
      unfold okRq chkR nrm
      rw [if_neg hk, if_neg hk, if_pos h4, if_pos h4]
      exact ⟨fun ⟨⟨h1, h2, h3, h5, h6⟩, h7⟩ => ⟨h2, h3, fun h => absurd h hk, fun _ => h1, fun _ => h5, h6, h7⟩, fun ⟨h2, h3, _, h1, h5, h6, h7⟩ => ⟨⟨h1 hk, h2, h3, h5 h4, h6⟩, h7⟩⟩
    · rw [if_neg h4]
      refine (Sp_end.map gE toE (fun _ => rfl)).congr (fun r => ?_) (fun r _ => by unfold encR; rw [if_neg hk, if_neg h4])
      unfold okRq chkR nrm
      rw [if_neg hk, if_neg hk, if_neg h4, if_neg h4]
      exact ⟨fun ⟨⟨h1, h2, h3, h6⟩, h7⟩ => ⟨h2, h3, fun h => absurd h hk, fun _ => h1, fun h => absurd h h4, h6, h7⟩, fun ⟨h2, h3, _, h1, _, h6, h7⟩ => ⟨⟨h1 hk, h2, h3, h6⟩, h7⟩⟩
end Go.Proofs.Ytagbblaegdedpaa.Sl
namespace Go.Proofs.Ytagbblaegdedpaa.Sl
open Go.RowKit
set_option linter.unusedVariables false
set_option linter.unusedSimpArgs false
theorem r18_write (k v : Int) (hk : k = 22 ∨ k = 24 ∨ k = 26) (hv : v = 0 ∨ v = 1) (r : R18Request) (hn : k ≠ 22 → r.fID.null = false) (hm : wI r.fTimeout) (hp : wI r.fProducer) (he : wI r.fEpoch) (hl : ∀ t, t ∈ r.fTopics → wf_Top t) (hw2 : wTs r.fTopics ≤ 2000) (hd : r.fID.data.length ≤ 100000) : f_r18_Write k v r = some (encR k v r) := by
  unfold f_r18_Write encR
  have l8 := be_length r.fProducer 8
  have l2 := be_length r.fEpoch 2
  have l4 := be_length r.fTimeout 4
  have l1 : ∀ n, (be n 1).length = 1 := fun n => be_length n 1
  have lb : (be (blen r.fID) 2 ++ r.fID.data).length ≤ 100002 := by rw [List.length_append, be_length]; omega
  rw [gRBFixed_eq _ _ ⟨by decide, by decide, by omega⟩, Option.bind_some, show (2 : Int).toNat = 2 from rfl]
  by_cases h22 : k = 22
  · rw [if_pos h22, if_pos h22, gRBytes_eq _ _ ⟨hm, by decide, by decide⟩, Option.bind_some, show (4 : Int).toNat = 4 from rfl, if_pos (by omega)]
    unfold encB
    rcases hv with rfl | rfl
    · rw [if_pos rfl, if_neg (by decide)]
      rfl
    · rw [if_neg (by decide), if_pos (by decide), gRBytes_eq _ _ ⟨hp, by decide, by decide⟩, Option.bind_some, show (8 : Int).toNat = 8 from rfl, if_pos (by rw [List.length_append]; omega), gRBytes_eq _ _ ⟨he, by decide, by decide⟩, Option.bind_some, show (2 : Int).toNat = 2 from rfl, if_pos (by rw [List.length_append, List.length_append]; omega)]
      simp only [encB1, encFx, toB, List.append_assoc]
  · have hnull := hn h22
    have hbl : blen r.fID = (r.fID.data.length : Int) := by unfold blen; rw [if_neg (by simp [hnull])]
    rw [if_neg h22, if_neg h22, gRBytes_eq _ _ ⟨hp, by decide, by decide⟩, Option.bind_some, show (8 : Int).toNat = 8 from rfl, if_pos (by omega), gRBytes_eq _ _ ⟨he, by decide, by decide⟩, Option.bind_some, show (2 : Int).toNat = 2 from rfl, if_pos (by rw [List.length_append]; omega), hbl]
    rcases hk with rfl | rfl | rfl
    · exact absurd rfl h22
    · have hts : (be (r.fTopics.length : Int) 4 ++ encs encT r.fTopics).length ≤ 2004 := by rw [List.length_append, be_length, encTs_len]; omega
      rw [if_pos rfl, if_pos rfl, r14t_eq _ hl hw2, Option.bind_some, if_pos (by rw [List.length_append, List.length_append, ← hbl]; omega)]
      simp only [encA, encTx, encTs, toA, List.append_assoc]
    · rw [if_neg (show ¬ (26 : Int) = 24 by decide), if_pos rfl, Option.bind_some, if_neg (show ¬ (26 : Int) = 24 by decide)]
      unfold encE encBool
      cases hc : (toE r).fCommit with
      | true =>
        have hc : r.fCommit = true := hc
        rw [hc, if_pos rfl, if_pos rfl, gRBytes_eq _ _ ⟨by decide, by decide, by decide⟩, Option.bind_some, show (1 : Int).toNat = 1 from rfl, if_pos (by rw [List.length_append, List.length_append, l1, ← hbl]; omega)]
        simp only [encTx, toE, List.append_assoc]
      | false =>
        have hc : r.fCommit = false := hc
        rw [hc, if_neg (by decide), if_pos rfl, gRBytes_eq _ _ ⟨by decide, by decide, by decide⟩, Option.bind_some, show (1 : Int).toNat = 1 from rfl, if_pos (by rw [List.length_append, List.length_append, l1, ← hbl]; omega)]
        simp only [encTx, toE, List.append_assoc]
        rfl
theorem l18_write (k v : Int) (hk : k = 22 ∨ k = 24 ∨ k = 26) (r : R18Request) (hm : wI r.fTimeout) (hp : wI r.fProducer) (he : wI r.fEpoch) (hl : wTl r.fTopics) (hw2 : wTs r.fTopics ≤ 2000) : f_l18_write k v r = some (if chkR k v r = 0 then (encR k v r, 0, 0) else ([], chkR k v r, chkR k v r)) := by
  unfold f_l18_write chkR encR
  have fin : ∀ (c : Int) (t : List UInt8), ((some (c, if c = 0 then (t, (0 : Int)) else (([] : List UInt8), c))).bind fun (y36, st37) => (gOText st37).bind fun (x70, x71, st72) => some (x70, x71, y36)) = some (if c = 0 then (t, 0, 0) else ([], c, c)) := by
    intro c t
    rw [Option.bind_some]
    simp only
    rw [gOText_eq, Option.bind_some]
    by_cases hc : c = 0
    · rw [if_pos hc, if_pos hc, otx_z, hc]
    · rw [if_neg hc, if_neg hc, otx_e _ _ hc]
  by_cases h22 : k = 22
  · rw [if_pos h22, if_pos h22, if_pos h22, beginWrite _ _ _ hp he hm (by decide), Option.bind_some, beginCheck _ _ he hm, Option.bind_some, List.nil_append]
    exact fin _ _
  · rw [if_neg h22, if_neg h22, if_neg h22]
    by_cases h24 : k = 24
    · rw [if_pos h24, if_pos h24, if_pos h24, addWrite _ _ hp he hl hw2 (by decide), Option.bind_some, addCheck _ he hl, Option.bind_some, Option.bind_some, List.nil_append]
      exact fin _ _
    · rw [if_neg h24, if_neg h24, if_neg h24, endWrite _ _ hp he (by decide), Option.bind_some, endCheck _ he, Option.bind_some, Option.bind_some, List.nil_append]
      exact fin _ _
theorem same18 (r : R18Request) (h1 : r.fTopics.length ≤ 1000000) (h2 : ∀ t, t ∈ r.fTopics → t.fParts.length ≤ 140737488355328) : f_r18_Same r r = some true := by
  unfold f_r18_Same
  rw [if_pos rfl, if_pos rfl, if_pos rfl, if_pos rfl, if_pos rfl, rsame_eq _ _ h1 h2, sameTs_refl]
  cases r.fCommit <;> rfl
theorem speaks18_eq : f_l18_speaks = some true := by kernel_rfl
theorem kinds_eq (a : Int) (h : 0 ≤ a) : ∃ k, f_l18_kinds a = some k ∧ (k = 22 ∨ k = 24 ∨ k = 26) := by
  unfold f_l18_kinds
  rw [if_pos h]
  by_cases h0 : a % 3 = 0
  · exact ⟨22, by rw [if_pos h0], .inl rfl⟩
  · by_cases h1 : a % 3 = 1
    · exact ⟨24, by rw [if_neg h0, if_pos h1], .inr (.inl rfl)⟩
    · exact ⟨26, by rw [if_neg h0, if_neg h1, if_pos (by omega)], .inr (.inr rfl)⟩
theorem wTs_bounds {l : List Top} (h : wTs l ≤ 1000000) : l.length ≤ 1000000 ∧ ∀ t, t ∈ l → t.fParts.length ≤ 1000000 ∧ t.fName.length ≤ 1000000 := by
  have := wTs_len l
  refine ⟨by omega, fun t ht => ?_⟩
  have := wTs_mem _ _ ht
  unfold wT at this
  omega
theorem pure_TxnWrites (a0 : Int) (a1 : Int) (a2 : R18Request) (w0 : 0 ≤ a0 ∧ a0 ≤ 255) (w1 : 0 ≤ a1 ∧ a1 ≤ 255) (w2 : wf_R18Request a2) : f_l18_TxnWrites a0 a1 a2 = some true := by
  unfold f_l18_TxnWrites
  obtain ⟨k, hk, hkk⟩ := kinds_eq a0 w0.1
  have hv : a1 % 2 = 0 ∨ a1 % 2 = 1 := by omega
  rw [speaks18_eq, Option.bind_some, if_pos rfl, hk, Option.bind_some, if_pos w1.1, if_pos (by omega)]
  generalize a1 % 2 = v at hv ⊢
  by_cases hd : (a2.fID.data.length : Int) > 40000
  · rw [if_pos hd]
    rfl
  rw [if_neg hd]
  rcases few_eq a2.fTopics w2.2.2.2.2.1.2 with hf | ⟨hf, hfw⟩
  · rw [hf]
    rfl
  rw [hf, Option.bind_some, if_neg (by decide), Option.bind_some, if_neg (by decide)]
  have hb := wTs_bounds (l := a2.fTopics) (by omega)
  have key : ∀ r : R18Request, (k ≠ 22 → r.fID.null = false) → nrm k r → wI r.fTimeout → wI r.fProducer → wI r.fEpoch → wTl r.fTopics → wTs r.fTopics ≤ 1000 → r.fID.data.length ≤ 40000 →
      ((f_l18_write k v r).bind fun (x28, x29, x30) => (f_r18_Check k v r).bind fun x32 => (if x29 = x32 then (if x30 = x32 then some false else some true) else some true).bind fun y35 => if y35 = true then none else (if x32 = 0 then ((gNew x28).bind fun st41 => ((f_r18_Write k v r).bind fun x61 => if x28 = x61 then ((f_l18_read st41 k v).bind fun (x64, st67) => (f_r18_Same x64 r).bind fun x69 => if x69 = true then ((gClose st67).bind fun (x72, st73) => if x72 = 0 then some (true, st73) else some (false, st73)) else some (false, st67)) else some (false, st41)).bind fun (y58, st59) => some y58) else (if x28 = [] then some true else none))) = some true := by
    intro r hn hnr hm hp he htl hw hdl
    have hbr := wTs_bounds (l := r.fTopics) (by omega)
    rw [l18_write k v hkk r hm hp he htl (by omega), Option.bind_some, r18_check k v hv r hn hbr.1 hbr.2]
    simp only [Option.bind_some]
    by_cases hc : chkR k v r = 0
    · have hok : okRq k v r := by
        unfold chkR at hc
        by_cases h22 : k = 22
        · rw [if_pos h22] at hc
          obtain ⟨c1, c2, c3, c4⟩ := chkB_zero hc
          obtain ⟨f0, k1⟩ := bl_fits c1 c2
          refine ⟨by rw [fits_8]; exact decide_eq_true hp, ?_, fun _ => ⟨⟨f0, c1⟩, by rw [fits_4]; exact decide_eq_true (by omega)⟩, fun h => absurd h22 h, fun h => absurd (h22.symm.trans h) (by decide), by unfold chkR; rw [if_pos h22]; exact hc, hnr⟩
          rcases c4 with h4 | h4
          · rw [h4.2]; decide
          · exact (who_fits h4.2 hp).2
        · rw [if_neg h22] at hc
          by_cases h24 : k = 24
          · rw [if_pos h24] at hc
            obtain ⟨c1, c2, c3⟩ := chkA_zero hc
            obtain ⟨k1, _⟩ := kright_len c1
            obtain ⟨f1, f2⟩ := who_fits c2 hp
            refine ⟨f1, f2, fun h => absurd h h22, fun _ => ⟨by rw [fits_2]; exact decide_eq_true (by omega), rfl⟩, fun _ => ⟨by rw [fits_4]; exact decide_eq_true (by have := wTs_len r.fTopics; omega), okts_ok (rise_zero c3).2 (by omega)⟩, by unfold chkR; rw [if_neg h22, if_pos h24]; exact hc, hnr⟩
          · rw [if_neg h24] at hc
            have hkr : kright r.fID.data = true ∧ who r.fProducer r.fEpoch = true := by
              unfold chkE at hc
              split at hc
              · rename_i h1
                split at hc
                · rename_i h2; exact ⟨h1, h2⟩
                · exact absurd hc (by decide)
              · exact absurd hc (by decide)
            obtain ⟨k1, _⟩ := kright_len hkr.1
            obtain ⟨f1, f2⟩ := who_fits hkr.2 hp
            exact ⟨f1, f2, fun h => absurd h h22, fun _ => ⟨by rw [fits_2]; exact decide_eq_true (by omega), rfl⟩, fun h => absurd h h24, by unfold chkR; rw [if_neg h22, if_neg h24]; exact hc, hnr⟩
      have hlen : (encR k v r).length ≤ 100000 := by
        unfold encR encB
        have := encTs_len r.fTopics
        split
        · split <;> simp only [encB1, encB0, encFx, toB, List.length_append, be_length] <;> omega
        · split
          · simp only [encA, encTx, encTs, toA, List.length_append, be_length]; omega
          · simp only [encE, encTx, toE, encBool, List.length_append, be_length]; omega
      simp only [hc, if_true]
      rw [Option.bind_some, if_neg (by decide), gNew_eq _ (by omega), Option.bind_some, r18_write k v hkk hv r hn hm hp he htl.1 (by omega) (by omega), Option.bind_some, if_pos rfl]
      have hw : f_l18_read ⟨encR k v r, 0, 0⟩ k v = _ := (B_req k v).whole (Sp_req k v hv) (by omega) hok
      rw [hw, Option.bind_some]
      simp only
      rw [same18 r hbr.1 (fun t ht => by have := (hbr.2 t ht).1; omega), Option.bind_some, if_pos rfl, gClose_z]
      rfl
    · simp only [if_neg hc, if_true]
      rfl
  obtain ⟨u1, u2, u3, u4, u5, u6⟩ := w2
  rcases hkk with rfl | rfl | rfl
  · rw [if_pos rfl, Option.bind_some]
    simp only
    rw [if_neg (by decide), if_neg (by decide), Option.bind_some]
    exact key ⟨⟨a2.fID.null, a2.fID.data⟩, a2.fTimeout, a2.fProducer, a2.fEpoch, [], false⟩ (fun h => absurd rfl h) rfl u2 u3 u4 ⟨(fun t h => nomatch h), Nat.zero_le _⟩ (Nat.zero_le _) (by simp only; omega)
  · rw [if_neg (by decide), Option.bind_some]
    simp only [if_true]
    exact key ⟨⟨false, a2.fID.data⟩, 0, a2.fProducer, a2.fEpoch, a2.fTopics, false⟩ (fun _ => rfl) rfl wi0 u3 u4 ⟨u5.2, hb.1⟩ hfw (by simp only; omega)
  · rw [if_neg (by decide), Option.bind_some]
    simp only [if_true]
    rw [if_neg (by decide), Option.bind_some]
    exact key ⟨⟨false, a2.fID.data⟩, 0, a2.fProducer, a2.fEpoch, [], a2.fCommit⟩ (fun _ => rfl) rfl wi0 u3 u4 ⟨(fun t h => nomatch h), Nat.zero_le _⟩ (Nat.zero_le _) (by simp only; omega)
end Go.Proofs.Ytagbblaegdedpaa.Sl
namespace Go.Proofs.Ytagbblaegdedpaa.Sl
open Go.RowKit Go.Deep Go.ChangeShapes
set_option linter.unusedVariables false
theorem op_Bl {H : Type} {enc : TypeId × Value → H} : OpensW enc Try.prog 26 (andRd Bl_rd wf_Bl) :=
  opensW_weak (fun x => ⟨x.1, x.2.1⟩) (opensW_struct Try.underlying26 (by kernel_rfl) (opensWFs_cons 1 (by kernel_rfl) (by kernel_rfl) (op_bool Try.underlying4) (opensWFs_cons 1 (by kernel_rfl) (by kernel_rfl) (op_str Try.underlying9) (opensWFs_nil _)))) (by
    rintro w S cs ⟨x0, x1, _⟩ ⟨_, _, rfl, ⟨p0, q0⟩, _, _, rfl, ⟨p1, q1⟩, rfl⟩
    obtain rfl := p0
    obtain rfl := p1
    exact ⟨rfl, q0, q1⟩)
theorem op_Top {H : Type} {enc : TypeId × Value → H} : OpensW enc Try.prog 162 (andRd Top_rd wf_Top) :=
  opensW_weak (fun x => ⟨x.1, x.2.1⟩) (opensW_struct Try.underlying162 (by kernel_rfl) (opensWFs_cons 1 (by kernel_rfl) (by kernel_rfl) (op_str Try.underlying9) (opensWFs_cons 1 (by kernel_rfl) (by kernel_rfl) (op_slice 1 8 Try.underlying160 (by kernel_rfl) (by kernel_rfl) (by decide) (by decide) (op_i64 Try.underlying3)) (opensWFs_nil _)))) (by
    rintro w S cs ⟨x0, x1, _⟩ ⟨_, _, rfl, ⟨p0, q0⟩, _, _, rfl, ⟨p1, q1⟩, rfl⟩
    obtain rfl := p0
    obtain ⟨A1, c1, rfl⟩ := slice_cells p1
    exact ⟨⟨A1, c1, rfl, p1⟩, q0, q1⟩)
theorem op_R18Request {H : Type} {enc : TypeId × Value → H} : OpensW enc Try.prog 76 (andRd R18Request_rd wf_R18Request) :=
  opensW_weak (fun x => ⟨x.1, x.2.1, x.2.2.1, x.2.2.2.1, x.2.2.2.2.1, x.2.2.2.2.2.1⟩) (opensW_struct Try.underlying76 (by kernel_rfl) (opensWFs_cons 2 (by kernel_rfl) (by kernel_rfl) op_Bl (opensWFs_cons 1 (by kernel_rfl) (by kernel_rfl) (op_i64 Try.underlying3) (opensWFs_cons 1 (by kernel_rfl) (by kernel_rfl) (op_i64 Try.underlying3) (opensWFs_cons 1 (by kernel_rfl) (by kernel_rfl) (op_i64 Try.underlying3) (opensWFs_cons 1 (by kernel_rfl) (by kernel_rfl) (op_slice 2 40 Try.underlying68 (by kernel_rfl) (by kernel_rfl) (by decide) (by decide) op_Top) (opensWFs_cons 1 (by kernel_rfl) (by kernel_rfl) (op_bool Try.underlying4) (opensWFs_nil _)))))))) (by
    rintro w S cs ⟨x0, x1, x2, x3, x4, x5, _⟩ ⟨_, _, rfl, ⟨p0, q0⟩, _, _, rfl, ⟨p1, q1⟩, _, _, rfl, ⟨p2, q2⟩, _, _, rfl, ⟨p3, q3⟩, _, _, rfl, ⟨p4, q4⟩, _, _, rfl, ⟨p5, q5⟩, rfl⟩
    obtain rfl := p0
    obtain rfl := p1
    obtain rfl := p2
    obtain rfl := p3
    obtain ⟨A4, c4, rfl⟩ := slice_cells p4
    obtain rfl := p5
    exact ⟨⟨A4, c4, rfl, p4⟩, q0, q1, q2, q3, q4, q5⟩)
end Go.Proofs.Ytagbblaegdedpaa.Sl
namespace Go.Proofs.Ytagbblaegdedpaa.txnWrites
open Go.ChangeShapes Go.WideShapes Go.ChangeAt Go.RowKit
open Go.ChangeMaps (open_string shut_string)
set_option linter.unusedVariables false
theorem own : ownKnob Try.prog.godebug = none := by kernel_rfl
theorem laidOut : laidOutB Try.prog = true := by kernel_rfl
set_option maxRecDepth 100000 in
set_option maxHeartbeats 1000000 in
theorem lifted (os : Os) (started : os.Started) (H : Type) (enc : TypeId × Value → H) :
    ReturnsInHanded {} Try.checked os 9 .any (Rows.txnWritesSpec.pre6 enc Try.prog Try.f9 Rows.txnWritesRow.domain false) (Rows.txnWritesSpec.post enc Try.prog Try.f9 false true false false) := by
  refine returnsInHanded_of_change_sized (C := Try.checked) own started (by kernel_rfl) Try.func9
    (ChangeSpec.witness6 (enc := enc) (C := Try.checked) false ⟨#[], #[.int .u8 0, .int .u8 0, .agg #[.bool false, .string ⟨#[]⟩, .int .i64 0, .int .i64 0, .int .i64 0, .slice none 0 0, .bool false]], []⟩ 8 (by kernel_rfl) (by kernel_rfl) (by kernel_rfl) (by kernel_rfl)) ?_
  intro W base args ds gs before hval0 hW hcnd hsz0 _
  have hsz : (DataW.weightsEach Try.prog (Try.f9.params.toList ++ Rows.txnWritesSpec.plain.varTypes Try.prog) (ds ++ gs)).all (· ≤ reachBytes) = true := hsz0
  have hval : ∀ (j : Nat) t v, Try.f9.params[j]? = some t → args[j]? = some v → Value.okWide Try.prog W .any base t v := hval0
  have hW' := hW
  obtain ⟨p, q, hA0, hV, rfl, hfz, hnd⟩ := hW
  have hA : DataW.TrodAll enc Try.prog W 0 (fun _ => true) true Try.f9.params.toList args.toList ds p := hA0
  rw [Try.params9] at hA hval hsz
  obtain ⟨v0, vs0, d0, ds0, p0, q0, hargs, rfl, rfl, h0, r0⟩ := trodAll_cons hA
  obtain ⟨v1, vs1, d1, ds1, p1, q1, rfl, rfl, rfl, h1, r1⟩ := trodAll_cons r0
  obtain ⟨v2, vs2, d2, ds2, p2, q2, rfl, rfl, rfl, h2, r2⟩ := trodAll_cons r1
  obtain ⟨rfl, rfl, rfl⟩ := trodAll_nil r2
  obtain rfl : args = #[v0, v1, v2] := by cases args; simp_all
  obtain ⟨rfl, rfl⟩ := trodVars_none hV
  obtain ⟨a0, rfl, rfl, rfl, u0⟩ := open_int Try.underlying5 (hval 0 5 v0 rfl rfl) h0
  have w0 := Go.bounds_u8 u0
  obtain ⟨a1, rfl, rfl, rfl, u1⟩ := open_int Try.underlying5 (hval 1 5 v1 rfl rfl) h1
  have w1 := Go.bounds_u8 u1
  have k2 := h2
  have lt2 : ∀ x ∈ p2, x.block < W.heap.size := by obtain ⟨m, hm⟩ := k2; exact DataW.trod_lt m _ _ _ hm
  obtain ⟨a2, cs2, rfl, r_2, w2⟩ := Sl.opens_arg2 Try.underlying76 (hval 2 76 v2 rfl rfl) Sl.op_R18Request h2 (fun x hx => of_decide_eq_true (List.all_eq_true.1 hsz x (Sl.weights_in 2 rfl rfl hx)))
  obtain ⟨A2_0, c2_0, e2, r2_0⟩ := r_2
  obtain rfl : cs2 = #[.bool a2.fID.null, .string (Sl.bsOf a2.fID.data), .int .i64 a2.fTimeout, .int .i64 a2.fProducer, .int .i64 a2.fEpoch, .slice A2_0 a2.fTopics.length c2_0, .bool a2.fCommit] := by apply Array.toList_inj.1; exact e2
  clear hA0 hval0 hsz0 hsz
  refine (Sl.f_l18_TxnWrites_spec a0 a1 a2 A2_0 c2_0 true (Sl.pure_TxnWrites a0 a1 a2 w0 w1 w2) (fun _ => False) W (fun _ h => h) (Sl.RX.reads_all r2_0)).mono fun e W' hP => ?_
  obtain ⟨v, A', Ns, rfl, ⟨rfl, rfl, rfl⟩, hst⟩ := hP
  have bel := Sl.St.below hst
  exact ⟨_, rfl, _, _, _, [], _, [], hW', trodAll_mk1 (shut_bool Try.underlying4 _), (trodAll_cons_mk (shut_int Try.underlying5 u0) (trodAll_cons_mk (shut_int Try.underlying5 u1) (trodAll_cons_mk (Below.trod laidOut (by kernel_rfl) (of_decide_eq_true (by kernel_rfl)) k2 bel lt2) trodAll_mk0))), rfl, bel.frame _, fun h => by cases h⟩
theorem over : Rows.txnWritesRow.holds Try.pinned (OpenSpec.ofChange Rows.txnWritesSpec) :=
  OpenClaim.holds_of_wide 9 Try.f9 rfl rfl rfl rfl rfl rfl rfl ⟨rfl, rfl, rfl, rfl, rfl⟩ rfl rfl rfl rfl rfl (by kernel_rfl) Try.func9 (by kernel_rfl)
    (of_decide_eq_true (by kernel_rfl)) (by unfold Func.isWrapper; first | (rw [if_pos (by decide +kernel)]; kernel_rfl) | (rw [if_neg (by decide +kernel)]; exact ⟨rfl, rfl⟩))
    (fun os started H enc _ => lifted os started H enc)
theorem proved : Rows.TxnWritesSaid := over
end Go.Proofs.Ytagbblaegdedpaa.txnWrites
namespace Go.Proofs.Ytagbblaegdedpaa
theorem txnWrites_holds : Rows.TxnWritesSaid := txnWrites.proved
end Go.Proofs.Ytagbblaegdedpaa
