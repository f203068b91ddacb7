/- WholeTxns: for every input the law returns true, and its arguments read behind the call as they did before. -/
import Derived.Test.YtagbblaegdedpaaRows
import Derived.WalkKit
import Derived.ProofKit
import Derived.OpenShut
import Derived.ShutString
import Derived.ChangeOld
import Derived.Below
import Derived.SizedLaws
import Derived.Test.YtagbblaegdedpaaK1
namespace Go.Proofs.Ytagbblaegdedpaa.Sl
open Go.RowKit
set_option linter.unusedVariables false
set_option linter.unusedSimpArgs false
set_option maxRecDepth 100000
def ft_cursitortop : FTab := [(26, 1, 1), (29, 0, 0), (29, 2, 2), (29, 4, 6), (97, 4, 4), (105, 0, 0), (105, 1, 1), (105, 3, 3), (107, 0, 0), (109, 0, 0)]
theorem ft_cursitortop_ok : (ft_cursitortop).OK Try.prog := ⟨FOK.mk Try.runUnderlying26 rfl Try.sizeOf9 rfl, FOK.mk Try.runUnderlying29 rfl Try.sizeOf3 rfl, FOK.mk Try.runUnderlying29 rfl Try.sizeOf26 rfl, FOK.mk Try.runUnderlying29 rfl Try.sizeOf27 rfl, FOK.mk Try.runUnderlying97 rfl Try.sizeOf68 rfl, FOK.mk Try.runUnderlying105 rfl Try.sizeOf3 rfl, FOK.mk Try.runUnderlying105 rfl Try.sizeOf3 rfl, FOK.mk Try.runUnderlying105 rfl Try.sizeOf26 rfl, FOK.mk Try.runUnderlying107 rfl Try.sizeOf26 rfl, FOK.mk Try.runUnderlying109 rfl Try.sizeOf9 rfl, trivial⟩
theorem mix_cursitortop : Try.prog.follows .mixedOrders = true := by kernel_rfl
theorem flat_cursitortop_105 : Flat Try.prog 3 105 [.int .i64, .int .i64, .int .i64, .bool, .string] true := (Flat.struct Try.isAgg105 Try.sizeOf105 rfl Try.underlying105 Try.stoodInHeld105 ⟨by decide, rfl, [.int .i64], [.int .i64, .int .i64, .bool, .string], false, rfl, ((Flat.one_ Try.isAgg3 Try.sizeOf3 Try.underlying3).mono (by decide)), ⟨by decide, rfl, [.int .i64], [.int .i64, .bool, .string], false, rfl, ((Flat.one_ Try.isAgg3 Try.sizeOf3 Try.underlying3).mono (by decide)), ⟨by decide, rfl, [.int .i64], [.bool, .string], false, rfl, ((Flat.one_ Try.isAgg3 Try.sizeOf3 Try.underlying3).mono (by decide)), ⟨by decide, rfl, [.bool, .string], [], true, rfl, (Flat.struct Try.isAgg26 Try.sizeOf26 rfl Try.underlying26 Try.stoodInHeld26 ⟨by decide, rfl, [.bool], [.string], false, rfl, (Flat.one_ Try.isAgg4 Try.sizeOf4 Try.underlying4), ⟨by decide, rfl, [.string], [], false, rfl, (Flat.one_ Try.isAgg9 Try.sizeOf9 Try.underlying9), rfl⟩⟩), rfl⟩⟩⟩⟩)
theorem flat_cursitortop_107 : Flat Try.prog 3 107 [.bool, .string, .int .i64, .int .i64, .int .i64] true := (Flat.struct Try.isAgg107 Try.sizeOf107 rfl Try.underlying107 Try.stoodInHeld107 ⟨by decide, rfl, [.bool, .string], [.int .i64, .int .i64, .int .i64], true, rfl, (Flat.struct Try.isAgg26 Try.sizeOf26 rfl Try.underlying26 Try.stoodInHeld26 ⟨by decide, rfl, [.bool], [.string], false, rfl, (Flat.one_ Try.isAgg4 Try.sizeOf4 Try.underlying4), ⟨by decide, rfl, [.string], [], false, rfl, (Flat.one_ Try.isAgg9 Try.sizeOf9 Try.underlying9), rfl⟩⟩), ⟨by decide, rfl, [.int .i64], [.int .i64, .int .i64], false, rfl, ((Flat.one_ Try.isAgg3 Try.sizeOf3 Try.underlying3).mono (by decide)), ⟨by decide, rfl, [.int .i64], [.int .i64], false, rfl, ((Flat.one_ Try.isAgg3 Try.sizeOf3 Try.underlying3).mono (by decide)), ⟨by decide, rfl, [.int .i64], [], false, rfl, ((Flat.one_ Try.isAgg3 Try.sizeOf3 Try.underlying3).mono (by decide)), rfl⟩⟩⟩⟩)
theorem flat_cursitortop_109 : Flat Try.prog 2 109 [.string, .int .i64, .int .i64, .bool] true := (Flat.struct Try.isAgg109 Try.sizeOf109 rfl Try.underlying109 Try.stoodInHeld109 ⟨by decide, rfl, [.string], [.int .i64, .int .i64, .bool], false, rfl, (Flat.one_ Try.isAgg9 Try.sizeOf9 Try.underlying9), ⟨by decide, rfl, [.int .i64], [.int .i64, .bool], false, rfl, (Flat.one_ Try.isAgg3 Try.sizeOf3 Try.underlying3), ⟨by decide, rfl, [.int .i64], [.bool], false, rfl, (Flat.one_ Try.isAgg3 Try.sizeOf3 Try.underlying3), ⟨by decide, rfl, [.bool], [], false, rfl, (Flat.one_ Try.isAgg4 Try.sizeOf4 Try.underlying4), rfl⟩⟩⟩⟩)
theorem bok_cursitortop_105 : BOK Try.prog 105 #[.int .i64 0, .int .i64 0, .int .i64 0, .bool false, .string ⟨#[]⟩] [(0, 1), (1, 1), (2, 1), (3, 2)] := BOK.mk Try.zeroValue105 Try.runUnderlying105 (by intro w; simp)
def f_top_WholeTxns (a0 : Head) (a1 : TxnBegin) (a2 : TxnEnd) : Option (Bool) := ((f_request_Check (⟨26, 0, 0, (⟨false, []⟩ : Bl)⟩ : Head)).bind fun x11 => if x11 = 0 then ((f_request_Check (⟨26, 1, 0, (⟨false, []⟩ : Bl)⟩ : Head)).bind fun x14 => if x14 = 7 then some false else some true) else some true).bind fun y9 => if y9 = true then none else ((if (a0.fClient.data.length : Int) > 1000 then some true else (if (a1.fID.data.length : Int) > 1000 then some true else (if (a2.fID.length : Int) > 1000 then some true else ((f_request_Check a0).bind fun x30 => if x30 = 0 then (if a0.fKind = 22 then some false else (if a0.fKind = 26 then some false else some true)) else some true)))).bind fun y25 => if y25 = true then some true else ((f_request_Write ([], 0) a0).bind fun st37 => (gOLen st37).bind fun (x39, st40) => (f_txn_EndCheck a2).bind fun x42 => (if a0.fKind = 22 then ((f_txn_BeginWrite st40 a1 a0.fVersion).bind fun st55 => (f_txn_BeginCheck a1 a0.fVersion).bind fun x57 => some (x57, st55)) else ((f_txn_EndWrite st40 a2).bind fun st59 => some (x42, st59))).bind fun (y51, st52) => (gOText st52).bind fun (x61, x62, st63) => if y51 = 0 then ((gNew x61).bind fun st66 => (f_request_Read st66).bind fun (x69, st70) => (if x62 = 0 then (if x69.fKind = a0.fKind then (if x69.fVersion = a0.fVersion then (if x69.fNumber = a0.fNumber then (if x69.fClient.null = a0.fClient.null then (if x69.fClient.data = a0.fClient.data then ((gAt st70).bind fun (x91, st92) => if x91 = x39 then some (false, st92) else some (true, st92)) else some (true, st70)) else some (true, st70)) else some (true, st70)) else some (true, st70)) else some (true, st70)) else some (true, st70)).bind fun (y82, st83) => if y82 = true then none else (if x69.fKind = 22 then (((f_txn_ReadBegin st83 x69.fVersion).bind fun (x111, st112) => if x111.fID.null = a1.fID.null then (if x111.fID.data = a1.fID.data then (if x111.fTimeout = a1.fTimeout then (if x111.fProducer = a1.fProducer then (if x111.fEpoch = a1.fEpoch then ((gClose st112).bind fun (x119, st120) => if x119 = 0 then some (true, st120) else some (false, st120)) else some (false, st112)) else some (false, st112)) else some (false, st112)) else some (false, st112)) else some (false, st112)).bind fun (y108, st109) => some y108) else (((f_txn_ReadEnd st83).bind fun (x136, st137) => if x136.fID = a2.fID then (if x136.fProducer = a2.fProducer then (if x136.fEpoch = a2.fEpoch then (if x136.fCommit = a2.fCommit then ((gClose st137).bind fun (x143, st144) => if x143 = 0 then some (true, st144) else some (false, st144)) else some (false, st137)) else some (false, st137)) else some (false, st137)) else some (false, st137)).bind fun (y133, st134) => some y133))) else ((if x62 = y51 then (if x61 = [] then some true else some false) else some false).bind fun y148 => some y148)))
set_option maxRecDepth 100000 in
set_option maxHeartbeats 4000000 in
theorem f_top_WholeTxns_spec (a0 : Head) (a1 : TxnBegin) (a2 : TxnEnd) (r : Bool) (h : f_top_WholeTxns a0 a1 a2 = some r) : SpecX Try.prog 12 #[.agg #[.int .i64 a0.fKind, .int .i64 a0.fVersion, .int .i64 a0.fNumber, .bool a0.fClient.null, .string (bsOf a0.fClient.data)], .agg #[.bool a1.fID.null, .string (bsOf a1.fID.data), .int .i64 a1.fTimeout, .int .i64 a1.fProducer, .int .i64 a1.fEpoch], .agg #[.string (bsOf a2.fID), .int .i64 a2.fProducer, .int .i64 a2.fEpoch, .bool a2.fCommit]] .triv (EmpR) (fun v A' N => v = .bool r ∧ A' = EmpR ∧ N = []) := by
  refine enterA Try.func12 rfl Try.ntmps12 rfl ?_
  intro F w hX
  unfold f_top_WholeTxns at h
  refine T.seq (T.region rfl ?_)
  refine TL.box rfl .u rfl rfl (fun b1 => ?_)
  refine TL.box rfl .u rfl rfl (fun b2 => ?_)
  refine TL.box rfl .u rfl rfl (fun b3 => ?_)
  refine TL.run ft_cursitortop_ok [3] rfl rfl ?_
  refine TL.nil (X.seq (T.seq (T.seq ?_)))
  obtain ⟨y9, h, hk10⟩ := Option.bind_eq_some_iff.1 h
  refine T.jq (fun e Rs => e = [(3, .pointer (some ⟨b1, 0, none⟩)), (4, .pointer (some ⟨b2, 0, none⟩)), (5, .pointer (some ⟨b3, 0, none⟩)), (6, .bool false), (21, .bool y9)] ∧ Rs = [BlkR b3 109 #[.string (bsOf a2.fID), .int .i64 a2.fProducer, .int .i64 a2.fEpoch, .bool a2.fCommit], BlkR b2 107 #[.bool a1.fID.null, .string (bsOf a1.fID.data), .int .i64 a1.fTimeout, .int .i64 a1.fProducer, .int .i64 a1.fEpoch], BlkR b1 105 #[.int .i64 a0.fKind, .int .i64 a0.fVersion, .int .i64 a0.fNumber, .bool a0.fClient.null, .string (bsOf a0.fClient.data)], EmpR]) ?_ ?_
  · clear hk10
    refine T.region rfl ?_
    refine TL.q rfl .u (Ex.bld (cells := #[.int .i64 26, .int .i64 0, .int .i64 0, .bool false, .string ⟨#[]⟩]) bok_cursitortop_105 rfl (by kernel_rfl)) rfl ?_
    obtain ⟨x11, hx12, h⟩ := Option.bind_eq_some_iff.1 h
    refine TL.ce rfl .u (.fn Try.call60 rfl) (f_request_Check_spec (⟨26, 0, 0, (⟨false, []⟩ : Bl)⟩ : Head) _ hx12) (fun _ hs => (RX.reads_triv _ _)) rfl ?_
    by_cases c13 : x11 = 0
    · replace h := ifT c13 h
      refine TL.run ft_cursitortop_ok [2, 3] rfl rfl ?_
      refine TL.q rfl (.g rfl rfl (bn_f (decide_eq_true c13))) (Ex.bld (cells := #[.int .i64 26, .int .i64 1, .int .i64 0, .bool false, .string ⟨#[]⟩]) bok_cursitortop_105 rfl (by kernel_rfl)) rfl ?_
      obtain ⟨x14, hx15, h⟩ := Option.bind_eq_some_iff.1 h
      refine TL.ce rfl (.g rfl rfl (bn_f (decide_eq_true c13))) (.fn Try.call60 rfl) (f_request_Check_spec (⟨26, 1, 0, (⟨false, []⟩ : Bl)⟩ : Head) _ hx15) (fun _ hs => (RX.reads_triv _ _)) rfl ?_
      refine TL.q rfl (.g rfl rfl (bn_f (decide_eq_true c13))) (Ex.ft ft_cursitortop_ok rfl) rfl ?_
      refine TL.q rfl .u (Ex.pn rfl (bn_f (decide_eq_true c13)) rfl) rfl ?_
      by_cases c16 : x14 = 7
      · replace h := ifT c16 h
        cases h
        exact TL.nil (X.as (d := 21) (v' := .bool false) rfl (congrArg Value.bool (bn_f (decide_eq_true c16))) (X.jq [0, 0, 0, 0] ⟨rfl, rfl⟩ (by rfl) (by rfl)))
      · replace h := ifF c16 h
        cases h
        exact TL.nil (X.as (d := 21) (v' := .bool true) rfl (congrArg Value.bool (bn_t (decide_eq_false c16))) (X.jq [0, 0, 0, 0] ⟨rfl, rfl⟩ (by rfl) (by rfl)))
    · replace h := ifF c13 h
      refine TL.run ft_cursitortop_ok [2, 3] rfl rfl ?_
      refine TL.no rfl (.gn rfl rfl (bn_t (decide_eq_false c13))) rfl ?_
      refine TL.no rfl (.gn rfl rfl (bn_t (decide_eq_false c13))) rfl ?_
      refine TL.no rfl (.gn rfl rfl (bn_t (decide_eq_false c13))) rfl ?_
      refine TL.q rfl .u (Ex.py rfl (bn_t (decide_eq_false c13)) rfl) rfl ?_
      cases h
      exact TL.nil (X.jq [0, 0, 0, 0] ⟨rfl, rfl⟩ (by rfl) (by rfl))
  · rintro _ _ ⟨rfl, rfl⟩
    clear h
    have h := hk10
    clear hk10
    try dsimp only at h
    by_cases c17 : y9 = true
    · replace h := ifT c17 h
      refine X.seq ?_
      refine T.yes rfl c17 ?_
      exact nomatch h
    · replace h := ifF c17 h
      replace c17 := eq_false_of_ne_true c17
      refine X.seq ?_
      refine T.no rfl c17 ?_
      refine T.skip (X.seq (T.seq (T.seq ?_)))
      obtain ⟨y25, h, hk26⟩ := Option.bind_eq_some_iff.1 h
      refine T.jq (fun e Rs => e = [(3, .pointer (some ⟨b1, 0, none⟩)), (4, .pointer (some ⟨b2, 0, none⟩)), (5, .pointer (some ⟨b3, 0, none⟩)), (6, .bool false), (54, .bool y25)] ∧ Rs = [BlkR b3 109 #[.string (bsOf a2.fID), .int .i64 a2.fProducer, .int .i64 a2.fEpoch, .bool a2.fCommit], BlkR b2 107 #[.bool a1.fID.null, .string (bsOf a1.fID.data), .int .i64 a1.fTimeout, .int .i64 a1.fProducer, .int .i64 a1.fEpoch], BlkR b1 105 #[.int .i64 a0.fKind, .int .i64 a0.fVersion, .int .i64 a0.fNumber, .bool a0.fClient.null, .string (bsOf a0.fClient.data)], EmpR]) ?_ ?_
      · clear hk26
        refine T.region rfl ?_
        refine TL.run ft_cursitortop_ok [0, 1] rfl rfl ?_
        refine TL.q rfl .u (Ex.b1 2 rfl Try.isAgg9 rfl rfl) rfl ?_
        refine TL.q rfl .u (Ex.lenB rfl Try.runUnderlying9) rfl ?_
        by_cases c27 : (a0.fClient.data.length : Int) > 1000
        · replace h := ifT c27 h
          refine TL.run ft_cursitortop_ok [4, 5] rfl rfl ?_
          refine TL.no rfl (.gn rfl rfl (decide_eq_true c27)) rfl ?_
          refine TL.no rfl (.gn rfl rfl (decide_eq_true c27)) rfl ?_
          refine TL.no rfl (.gn rfl rfl (decide_eq_true c27)) rfl ?_
          refine TL.no rfl (.gn rfl rfl (decide_eq_true c27)) rfl ?_
          refine TL.no rfl (.gn rfl rfl (decide_eq_true c27)) rfl ?_
          refine TL.q rfl .u (Ex.py rfl (decide_eq_true c27) rfl) rfl ?_
          refine TL.run ft_cursitortop_ok [12] rfl rfl ?_
          refine TL.no rfl (.gn rfl rfl rfl) rfl ?_
          refine TL.no rfl (.gn rfl rfl rfl) rfl ?_
          refine TL.no rfl (.gn rfl rfl rfl) rfl ?_
          refine TL.no rfl (.gn rfl rfl rfl) rfl ?_
          refine TL.q rfl .u (Ex.py rfl rfl rfl) rfl ?_
          refine TL.run ft_cursitortop_ok [18] rfl rfl ?_
          refine TL.no rfl (.gn rfl rfl rfl) rfl ?_
          refine TL.no rfl (.gn rfl rfl rfl) rfl ?_
          refine TL.no rfl (.gn rfl rfl rfl) rfl ?_
          refine TL.q rfl .u (Ex.py rfl rfl rfl) rfl ?_
          refine TL.run ft_cursitortop_ok [23] rfl rfl ?_
          refine TL.no rfl (.gn rfl rfl rfl) rfl ?_
          refine TL.no rfl (.gn rfl rfl rfl) rfl ?_
          refine TL.no rfl (.gn rfl rfl rfl) rfl ?_
          refine TL.no rfl (.gn rfl rfl rfl) rfl ?_
          refine TL.no rfl (.gu rfl rfl) rfl ?_
          refine TL.no rfl (.gu rfl rfl) rfl ?_
          refine TL.no rfl (.gu rfl rfl) rfl ?_
          refine TL.no rfl (.gn rfl rfl rfl) rfl ?_
          refine TL.q rfl .u (Ex.py rfl rfl rfl) rfl ?_
          cases h
          exact TL.nil (X.jq [0, 0, 0, 0] ⟨rfl, rfl⟩ (by rfl) (by rfl))
        · replace h := ifF c27 h
          refine TL.run ft_cursitortop_ok [4, 5] rfl rfl ?_
          refine TL.q rfl (.g rfl rfl (decide_eq_false c27)) (Ex.ft ft_cursitortop_ok rfl) rfl ?_
          refine TL.q rfl (.g rfl rfl (decide_eq_false c27)) (Ex.ft ft_cursitortop_ok rfl) rfl ?_
          refine TL.q rfl (.g rfl rfl (decide_eq_false c27)) (Ex.b1 1 rfl Try.isAgg9 rfl rfl) rfl ?_
          refine TL.q rfl (.g rfl rfl (decide_eq_false c27)) (Ex.lenB rfl Try.runUnderlying9) rfl ?_
          refine TL.q rfl (.g rfl rfl (decide_eq_false c27)) (Ex.ft ft_cursitortop_ok rfl) rfl ?_
          refine TL.q rfl .u (Ex.pn rfl (decide_eq_false c27) rfl) rfl ?_
          by_cases c28 : (a1.fID.data.length : Int) > 1000
          · replace h := ifT c28 h
            refine TL.run ft_cursitortop_ok [12] rfl rfl ?_
            refine TL.no rfl (.gn rfl rfl (decide_eq_true c28)) rfl ?_
            refine TL.no rfl (.gn rfl rfl (decide_eq_true c28)) rfl ?_
            refine TL.no rfl (.gn rfl rfl (decide_eq_true c28)) rfl ?_
            refine TL.no rfl (.gn rfl rfl (decide_eq_true c28)) rfl ?_
            refine TL.q rfl .u (Ex.py rfl (decide_eq_true c28) rfl) rfl ?_
            refine TL.run ft_cursitortop_ok [18] rfl rfl ?_
            refine TL.no rfl (.gn rfl rfl rfl) rfl ?_
            refine TL.no rfl (.gn rfl rfl rfl) rfl ?_
            refine TL.no rfl (.gn rfl rfl rfl) rfl ?_
            refine TL.q rfl .u (Ex.py rfl rfl rfl) rfl ?_
            refine TL.run ft_cursitortop_ok [23] rfl rfl ?_
            refine TL.no rfl (.gn rfl rfl rfl) rfl ?_
            refine TL.no rfl (.gn rfl rfl rfl) rfl ?_
            refine TL.no rfl (.gn rfl rfl rfl) rfl ?_
            refine TL.no rfl (.gn rfl rfl rfl) rfl ?_
            refine TL.no rfl (.gu rfl rfl) rfl ?_
            refine TL.no rfl (.gu rfl rfl) rfl ?_
            refine TL.no rfl (.gu rfl rfl) rfl ?_
            refine TL.no rfl (.gn rfl rfl rfl) rfl ?_
            refine TL.q rfl .u (Ex.py rfl rfl rfl) rfl ?_
            cases h
            exact TL.nil (X.jq [0, 0, 0, 0] ⟨rfl, rfl⟩ (by rfl) (by rfl))
          · replace h := ifF c28 h
            refine TL.run ft_cursitortop_ok [12] rfl rfl ?_
            refine TL.q rfl (.g rfl rfl (decide_eq_false c28)) (Ex.ft ft_cursitortop_ok rfl) rfl ?_
            refine TL.q rfl (.g rfl rfl (decide_eq_false c28)) (Ex.b1 0 rfl Try.isAgg9 rfl rfl) rfl ?_
            refine TL.q rfl (.g rfl rfl (decide_eq_false c28)) (Ex.lenB rfl Try.runUnderlying9) rfl ?_
            refine TL.q rfl (.g rfl rfl (decide_eq_false c28)) (Ex.ft ft_cursitortop_ok rfl) rfl ?_
            refine TL.q rfl .u (Ex.pn rfl (decide_eq_false c28) rfl) rfl ?_
            by_cases c29 : (a2.fID.length : Int) > 1000
            · replace h := ifT c29 h
              refine TL.run ft_cursitortop_ok [18] rfl rfl ?_
              refine TL.no rfl (.gn rfl rfl (decide_eq_true c29)) rfl ?_
              refine TL.no rfl (.gn rfl rfl (decide_eq_true c29)) rfl ?_
              refine TL.no rfl (.gn rfl rfl (decide_eq_true c29)) rfl ?_
              refine TL.q rfl .u (Ex.py rfl (decide_eq_true c29) rfl) rfl ?_
              refine TL.run ft_cursitortop_ok [23] rfl rfl ?_
              refine TL.no rfl (.gn rfl rfl rfl) rfl ?_
              refine TL.no rfl (.gn rfl rfl rfl) rfl ?_
              refine TL.no rfl (.gn rfl rfl rfl) rfl ?_
              refine TL.no rfl (.gn rfl rfl rfl) rfl ?_
              refine TL.no rfl (.gu rfl rfl) rfl ?_
              refine TL.no rfl (.gu rfl rfl) rfl ?_
              refine TL.no rfl (.gu rfl rfl) rfl ?_
              refine TL.no rfl (.gn rfl rfl rfl) rfl ?_
              refine TL.q rfl .u (Ex.py rfl rfl rfl) rfl ?_
              cases h
              exact TL.nil (X.jq [0, 0, 0, 0] ⟨rfl, rfl⟩ (by rfl) (by rfl))
            · replace h := ifF c29 h
              refine TL.run ft_cursitortop_ok [18] rfl rfl ?_
              refine TL.q rfl (.g rfl rfl (decide_eq_false c29)) (Ex.bS (us := [.int .i64 a0.fKind, .int .i64 a0.fVersion, .int .i64 a0.fNumber, .bool a0.fClient.null, .string (bsOf a0.fClient.data)]) 2 rfl Try.isAgg105 Try.sizeOf105 rfl rfl rfl) rfl ?_
              obtain ⟨x30, hx31, h⟩ := Option.bind_eq_some_iff.1 h
              refine TL.ce rfl (.g rfl rfl (decide_eq_false c29)) (.fn Try.call60 rfl) (f_request_Check_spec a0 _ hx31) (fun _ hs => (RX.reads_triv _ _)) rfl ?_
              refine TL.q rfl (.g rfl rfl (decide_eq_false c29)) (Ex.ft ft_cursitortop_ok rfl) rfl ?_
              refine TL.q rfl .u (Ex.pn rfl (decide_eq_false c29) rfl) rfl ?_
              by_cases c32 : x30 = 0
              · replace h := ifT c32 h
                refine TL.run ft_cursitortop_ok [23] rfl rfl ?_
                refine TL.q rfl (.g rfl rfl (bn_f (decide_eq_true c32))) (Ex.ft ft_cursitortop_ok rfl) rfl ?_
                refine TL.q rfl (.g rfl rfl (bn_f (decide_eq_true c32))) (Ex.b1 2 rfl Try.isAgg3 rfl rfl) rfl ?_
                refine TL.q rfl (.g rfl rfl (bn_f (decide_eq_true c32))) (Ex.ft ft_cursitortop_ok rfl) rfl ?_
                refine TL.q rfl (.g rfl rfl (bn_f (decide_eq_true c32))) (Ex.ft ft_cursitortop_ok rfl) rfl ?_
                by_cases c33 : a0.fKind = 22
                · replace h := ifT c33 h
                  refine TL.no rfl (.gn rfl rfl (bn_f (decide_eq_true c33))) rfl ?_
                  refine TL.no rfl (.gn rfl rfl (bn_f (decide_eq_true c33))) rfl ?_
                  refine TL.no rfl (.gn rfl rfl (bn_f (decide_eq_true c33))) rfl ?_
                  refine TL.q rfl (.g rfl rfl (bn_f (decide_eq_true c32))) (Ex.pn rfl (bn_f (decide_eq_true c33)) rfl) rfl ?_
                  refine TL.q rfl .u (Ex.pn rfl (bn_f (decide_eq_true c32)) rfl) rfl ?_
                  cases h
                  exact TL.nil (X.jq [0, 0, 0, 0] ⟨rfl, rfl⟩ (by rfl) (by rfl))
                · replace h := ifF c33 h
                  refine TL.q rfl (.g rfl rfl (bn_t (decide_eq_false c33))) (Ex.ft ft_cursitortop_ok rfl) rfl ?_
                  refine TL.q rfl (.g rfl rfl (bn_t (decide_eq_false c33))) (Ex.b1 2 rfl Try.isAgg3 rfl rfl) rfl ?_
                  refine TL.q rfl (.g rfl rfl (bn_t (decide_eq_false c33))) (Ex.ft ft_cursitortop_ok rfl) rfl ?_
                  refine TL.q rfl (.g rfl rfl (bn_f (decide_eq_true c32))) (Ex.py rfl (bn_t (decide_eq_false c33)) rfl) rfl ?_
                  refine TL.q rfl .u (Ex.pn rfl (bn_f (decide_eq_true c32)) rfl) rfl ?_
                  by_cases c34 : a0.fKind = 26
                  · replace h := ifT c34 h
                    cases h
                    exact TL.nil (X.as (d := 54) (v' := .bool false) rfl (congrArg Value.bool (bn_f (decide_eq_true c34))) (X.jq [0, 0, 0, 0] ⟨rfl, rfl⟩ (by rfl) (by rfl)))
                  · replace h := ifF c34 h
                    cases h
                    exact TL.nil (X.as (d := 54) (v' := .bool true) rfl (congrArg Value.bool (bn_t (decide_eq_false c34))) (X.jq [0, 0, 0, 0] ⟨rfl, rfl⟩ (by rfl) (by rfl)))
              · replace h := ifF c32 h
                refine TL.run ft_cursitortop_ok [23] rfl rfl ?_
                refine TL.no rfl (.gn rfl rfl (bn_t (decide_eq_false c32))) rfl ?_
                refine TL.no rfl (.gn rfl rfl (bn_t (decide_eq_false c32))) rfl ?_
                refine TL.no rfl (.gn rfl rfl (bn_t (decide_eq_false c32))) rfl ?_
                refine TL.no rfl (.gn rfl rfl (bn_t (decide_eq_false c32))) rfl ?_
                refine TL.no rfl (.gu rfl rfl) rfl ?_
                refine TL.no rfl (.gu rfl rfl) rfl ?_
                refine TL.no rfl (.gu rfl rfl) rfl ?_
                refine TL.no rfl (.gn rfl rfl (bn_t (decide_eq_false c32))) rfl ?_
                refine TL.q rfl .u (Ex.py rfl (bn_t (decide_eq_false c32)) rfl) rfl ?_
                cases h
                exact TL.nil (X.jq [0, 0, 0, 0] ⟨rfl, rfl⟩ (by rfl) (by rfl))
      · rintro _ _ ⟨rfl, rfl⟩
        clear h
        have h := hk26
        clear hk26
        try dsimp only at h
        by_cases c35 : y25 = true
        · replace h := ifT c35 h
          refine X.seq ?_
          refine T.yes rfl c35 ?_
          refine T.seq (T.region rfl ?_)
          refine TL.run ft_cursitortop_ok [0] rfl rfl ?_
          obtain rfl := Option.some.inj h
          exact TL.nil (X.seq (T.ret (X.rs (X.done1 [3] Try.results12 (RV.tm rfl) ⟨rfl, rfl, rfl⟩ (by rfl) (.inl rfl)))))
        · replace h := ifF c35 h
          replace c35 := eq_false_of_ne_true c35
          refine X.seq ?_
          refine T.no rfl c35 ?_
          refine T.skip (X.seq (T.seq (T.region rfl ?_)))
          refine TL.newout rfl .u Try.zeroValue50 rfl (fun b36 => ?_)
          refine TL.nil (X.seq (T.seq (T.region rfl ?_)))
          refine TL.q rfl .u (Ex.bS (us := [.int .i64 a0.fKind, .int .i64 a0.fVersion, .int .i64 a0.fNumber, .bool a0.fClient.null, .string (bsOf a0.fClient.data)]) 3 rfl Try.isAgg105 Try.sizeOf105 rfl rfl rfl) rfl ?_
          obtain ⟨st37, hx38, h⟩ := Option.bind_eq_some_iff.1 h
          refine TL.c0 rfl .u (.fn Try.call61 rfl) (f_request_Write_spec b36 ([], 0) a0 _ hx38) (fun _ hs => (Src.triv _)) rfl ?_
          obtain ⟨⟨x39, st40⟩, hx41, h⟩ := Option.bind_eq_some_iff.1 h
          try dsimp only at h
          refine TL.nil (X.seq (T.seq (T.region rfl ?_)))
          refine TL.c0 rfl .u (.fn Try.call62 rfl) (gOLen_spec b36 st37 _ hx41) (fun _ hs => (Src.triv _)) rfl ?_
          refine TL.run ft_cursitortop_ok [1] rfl rfl ?_
          refine TL.nil (X.seq (T.seq (T.region rfl ?_)))
          refine TL.q rfl .u (Ex.bS (us := [.string (bsOf a2.fID), .int .i64 a2.fProducer, .int .i64 a2.fEpoch, .bool a2.fCommit]) 1 rfl Try.isAgg109 Try.sizeOf109 rfl rfl rfl) rfl ?_
          obtain ⟨x42, hx43, h⟩ := Option.bind_eq_some_iff.1 h
          refine TL.ce rfl .u (.fn Try.call63 rfl) (f_txn_EndCheck_spec a2 _ hx43) (fun _ hs => (RX.reads_triv _ _)) rfl ?_
          refine TL.run ft_cursitortop_ok [2] rfl rfl ?_
          refine TL.nil (X.seq (T.seq (T.seq (T.region rfl ?_))))
          refine TL.run ft_cursitortop_ok [0] rfl rfl ?_
          refine TL.q rfl .u (Ex.b1 3 rfl Try.isAgg3 rfl rfl) rfl ?_
          refine TL.run ft_cursitortop_ok [2] rfl rfl ?_
          refine TL.nil (X.seq ?_)
          obtain ⟨⟨y51, st52⟩, h, hk53⟩ := Option.bind_eq_some_iff.1 h
          refine T.jq (fun e Rs => e = [(3, .pointer (some ⟨b1, 0, none⟩)), (4, .pointer (some ⟨b2, 0, none⟩)), (5, .pointer (some ⟨b3, 0, none⟩)), (6, .bool false), (7, .pointer (some ⟨b36, 0, none⟩)), (8, .int .i64 x39), (9, .int .i64 y51)] ∧ Rs = [OutR b36 st52, BlkR b3 109 #[.string (bsOf a2.fID), .int .i64 a2.fProducer, .int .i64 a2.fEpoch, .bool a2.fCommit], BlkR b2 107 #[.bool a1.fID.null, .string (bsOf a1.fID.data), .int .i64 a1.fTimeout, .int .i64 a1.fProducer, .int .i64 a1.fEpoch], BlkR b1 105 #[.int .i64 a0.fKind, .int .i64 a0.fVersion, .int .i64 a0.fNumber, .bool a0.fClient.null, .string (bsOf a0.fClient.data)], EmpR]) ?_ ?_
          · clear hk53
            by_cases c54 : a0.fKind = 22
            · replace h := ifT c54 h
              refine T.yes rfl (decide_eq_true c54) ?_
              refine T.seq (T.region rfl ?_)
              refine TL.q rfl .u (Ex.bS (us := [.bool a1.fID.null, .string (bsOf a1.fID.data), .int .i64 a1.fTimeout, .int .i64 a1.fProducer, .int .i64 a1.fEpoch]) 2 rfl Try.isAgg107 Try.sizeOf107 rfl rfl rfl) rfl ?_
              refine TL.run ft_cursitortop_ok [1] rfl rfl ?_
              refine TL.q rfl .u (Ex.b1 3 rfl Try.isAgg3 rfl rfl) rfl ?_
              obtain ⟨st55, hx56, h⟩ := Option.bind_eq_some_iff.1 h
              refine TL.c0 rfl .u (.fn Try.call64 rfl) (f_txn_BeginWrite_spec b36 st40 a1 a0.fVersion _ hx56) (fun _ hs => (Src.triv _)) rfl ?_
              refine TL.nil (X.seq (T.region rfl ?_))
              refine TL.q rfl .u (Ex.bS (us := [.bool a1.fID.null, .string (bsOf a1.fID.data), .int .i64 a1.fTimeout, .int .i64 a1.fProducer, .int .i64 a1.fEpoch]) 2 rfl Try.isAgg107 Try.sizeOf107 rfl rfl rfl) rfl ?_
              refine TL.run ft_cursitortop_ok [1] rfl rfl ?_
              refine TL.q rfl .u (Ex.b1 3 rfl Try.isAgg3 rfl rfl) rfl ?_
              obtain ⟨x57, hx58, h⟩ := Option.bind_eq_some_iff.1 h
              refine TL.ce rfl .u (.fn Try.call65 rfl) (f_txn_BeginCheck_spec a1 a0.fVersion _ hx58) (fun _ hs => (RX.reads_triv _ _)) rfl ?_
              refine TL.run ft_cursitortop_ok [4] rfl rfl ?_
              cases h
              exact TL.nil (X.jq [0, 0, 0, 0, 0] ⟨rfl, rfl⟩ (by rfl) (by rfl))
            · replace h := ifF c54 h
              refine T.no rfl (decide_eq_false c54) ?_
              refine T.region rfl ?_
              refine TL.q rfl .u (Ex.bS (us := [.string (bsOf a2.fID), .int .i64 a2.fProducer, .int .i64 a2.fEpoch, .bool a2.fCommit]) 1 rfl Try.isAgg109 Try.sizeOf109 rfl rfl rfl) rfl ?_
              obtain ⟨st59, hx60, h⟩ := Option.bind_eq_some_iff.1 h
              refine TL.c0 rfl .u (.fn Try.call66 rfl) (f_txn_EndWrite_spec b36 st40 a2 _ hx60) (fun _ hs => (Src.triv _)) rfl ?_
              cases h
              exact TL.nil (X.jq [0, 0, 0, 0, 0] ⟨rfl, rfl⟩ (by rfl) (by rfl))
          · rintro _ _ ⟨rfl, rfl⟩
            clear h
            have h := hk53
            clear hk53
            try dsimp only at h
            obtain ⟨⟨x61, x62, st63⟩, hx64, h⟩ := Option.bind_eq_some_iff.1 h
            try dsimp only at h
            refine X.seq (T.seq (T.region rfl ?_))
            refine TL.c0 rfl .u (.fn Try.call30 rfl) (gOText_spec b36 st52 _ hx64) (fun _ hs => (Src.triv _)) rfl ?_
            refine TL.run ft_cursitortop_ok [1, 2, 3, 4, 5] rfl rfl ?_
            refine TL.nil (X.seq (T.seq (T.seq (T.region rfl ?_))))
            refine TL.run ft_cursitortop_ok [0, 1] rfl rfl ?_
            by_cases c65 : y51 = 0
            · replace h := ifT c65 h
              refine TL.nil (X.seq ?_)
              refine T.no rfl (bn_f (decide_eq_true c65)) ?_
              refine T.skip (X.seq (T.seq (T.region rfl ?_)))
              obtain ⟨st66, hx67, h⟩ := Option.bind_eq_some_iff.1 h
              refine TL.run ft_cursitortop_ok [0] rfl rfl ?_
              refine TL.cge rfl .u (.fn Try.call16 rfl) (gNew_spec x61 _ hx67) (fun _ hs => (RX.reads_triv _ _)) rfl ?_
              rintro _ _ _ ⟨b68, rfl, rfl, rfl⟩
              refine TL.sel [0, 0, 0, 0, 0, 0] rfl ?_
              refine TL.run ft_cursitortop_ok [2] rfl rfl ?_
              refine TL.nil (X.seq (T.seq (T.region rfl ?_)))
              obtain ⟨⟨x69, st70⟩, hx71, h⟩ := Option.bind_eq_some_iff.1 h
              try dsimp only at h
              refine TL.run ft_cursitortop_ok [0] rfl rfl ?_
              refine TL.c0 rfl .u (.fn Try.call67 rfl) (f_request_Read_spec b68 st66 _ hx71) (fun _ hs => (Src.triv _)) rfl ?_
              refine TL.alloc rfl .u Try.zeroValue105 rfl (fun b72 => ?_)
              refine TL.st0 (cs' := #[.int .i64 x69.fKind, .int .i64 x69.fVersion, .int .i64 x69.fNumber, .bool x69.fClient.null, .string (bsOf x69.fClient.data)]) rfl .u rfl rfl Try.sizeOf105 rfl rfl rfl rfl ?_
              refine TL.nil (X.seq (T.seq (T.seq ?_)))
              obtain ⟨⟨y82, st83⟩, h, hk84⟩ := Option.bind_eq_some_iff.1 h
              refine T.jq (fun e Rs => e = [(4, .pointer (some ⟨b2, 0, none⟩)), (5, .pointer (some ⟨b3, 0, none⟩)), (6, .bool false), (12, .pointer (some ⟨b68, 0, none⟩)), (13, .pointer (some ⟨b72, 0, none⟩)), (102, .bool y82)] ∧ Rs = [BlkR b72 105 #[.int .i64 x69.fKind, .int .i64 x69.fVersion, .int .i64 x69.fNumber, .bool x69.fClient.null, .string (bsOf x69.fClient.data)], InR b68 st83, OutR b36 st63, BlkR b3 109 #[.string (bsOf a2.fID), .int .i64 a2.fProducer, .int .i64 a2.fEpoch, .bool a2.fCommit], BlkR b2 107 #[.bool a1.fID.null, .string (bsOf a1.fID.data), .int .i64 a1.fTimeout, .int .i64 a1.fProducer, .int .i64 a1.fEpoch], BlkR b1 105 #[.int .i64 a0.fKind, .int .i64 a0.fVersion, .int .i64 a0.fNumber, .bool a0.fClient.null, .string (bsOf a0.fClient.data)], EmpR]) ?_ ?_
              · clear hk84
                refine T.region rfl ?_
                by_cases c85 : x62 = 0
                · replace h := ifT c85 h
                  refine TL.run ft_cursitortop_ok [0, 1, 2] rfl rfl ?_
                  refine TL.q rfl (.g rfl rfl (bn_f (decide_eq_true c85))) (Ex.bS (us := [.int .i64 x69.fKind, .int .i64 x69.fVersion, .int .i64 x69.fNumber, .bool x69.fClient.null, .string (bsOf x69.fClient.data)]) 0 rfl Try.isAgg105 Try.sizeOf105 rfl rfl rfl) rfl ?_
                  refine TL.q rfl (.g rfl rfl (bn_f (decide_eq_true c85))) (Ex.bS (us := [.int .i64 a0.fKind, .int .i64 a0.fVersion, .int .i64 a0.fNumber, .bool a0.fClient.null, .string (bsOf a0.fClient.data)]) 5 rfl Try.isAgg105 Try.sizeOf105 rfl rfl rfl) rfl ?_
                  by_cases c86 : x69.fKind = a0.fKind
                  · replace h := ifT c86 h
                    by_cases c87 : x69.fVersion = a0.fVersion
                    · replace h := ifT c87 h
                      by_cases c88 : x69.fNumber = a0.fNumber
                      · replace h := ifT c88 h
                        by_cases c89 : x69.fClient.null = a0.fClient.null
                        · replace h := ifT c89 h
                          by_cases c90 : x69.fClient.data = a0.fClient.data
                          · replace h := ifT c90 h
                            refine TL.q rfl (.g rfl rfl (bn_f (decide_eq_true c85))) (Ex.aNe (us := [.int .i64 x69.fKind, .int .i64 x69.fVersion, .int .i64 x69.fNumber, .bool x69.fClient.null, .string (bsOf x69.fClient.data)]) (vs := [.int .i64 a0.fKind, .int .i64 a0.fVersion, .int .i64 a0.fNumber, .bool a0.fClient.null, .string (bsOf a0.fClient.data)]) flat_cursitortop_105 rfl Try.eqGuardType105 rfl rfl rfl rfl (eqL_t (eqV_i c86) (eqL_t (eqV_i c87) (eqL_t (eqV_i c88) (eqL_t (eqV_b c89) (eqL_t (eqV_s (l := x69.fClient.data) (m := a0.fClient.data) c90) rfl)))))) rfl ?_
                            refine TL.q rfl .u (Ex.pn rfl (bn_f (decide_eq_true c85)) rfl) rfl ?_
                            refine TL.run ft_cursitortop_ok [7] rfl rfl ?_
                            refine TL.q rfl (.g rfl rfl rfl) (Ex.ft ft_cursitortop_ok rfl) rfl ?_
                            obtain ⟨⟨x91, st92⟩, hx93, h⟩ := Option.bind_eq_some_iff.1 h
                            try dsimp only at h
                            refine TL.c1 rfl (.g rfl rfl rfl) (.fn Try.call21 rfl) (gAt_spec b68 st70 _ hx93) (fun _ hs => (Src.triv _)) rfl ?_
                            refine TL.q rfl (.g rfl rfl rfl) (Ex.ft ft_cursitortop_ok rfl) rfl ?_
                            refine TL.q rfl (.g rfl rfl rfl) (Ex.ft ft_cursitortop_ok rfl) rfl ?_
                            refine TL.q rfl .u (Ex.pn rfl rfl rfl) rfl ?_
                            by_cases c94 : x91 = x39
                            · replace h := ifT c94 h
                              cases h
                              exact TL.nil (X.as (d := 102) (v' := .bool false) rfl (congrArg Value.bool (bn_f (decide_eq_true c94))) (X.jq [0, 0, 0, 0, 0, 0, 0] ⟨rfl, rfl⟩ (by rfl) (by rfl)))
                            · replace h := ifF c94 h
                              cases h
                              exact TL.nil (X.as (d := 102) (v' := .bool true) rfl (congrArg Value.bool (bn_t (decide_eq_false c94))) (X.jq [0, 0, 0, 0, 0, 0, 0] ⟨rfl, rfl⟩ (by rfl) (by rfl)))
                          · replace h := ifF c90 h
                            refine TL.q rfl (.g rfl rfl (bn_f (decide_eq_true c85))) (Ex.aNe (us := [.int .i64 x69.fKind, .int .i64 x69.fVersion, .int .i64 x69.fNumber, .bool x69.fClient.null, .string (bsOf x69.fClient.data)]) (vs := [.int .i64 a0.fKind, .int .i64 a0.fVersion, .int .i64 a0.fNumber, .bool a0.fClient.null, .string (bsOf a0.fClient.data)]) flat_cursitortop_105 rfl Try.eqGuardType105 rfl rfl rfl rfl (eqL_t (eqV_i c86) (eqL_t (eqV_i c87) (eqL_t (eqV_i c88) (eqL_t (eqV_b c89) (eqL_f (eqV_sn (l := x69.fClient.data) (m := a0.fClient.data) c90))))))) rfl ?_
                            refine TL.q rfl .u (Ex.pn rfl (bn_f (decide_eq_true c85)) rfl) rfl ?_
                            refine TL.run ft_cursitortop_ok [7] rfl rfl ?_
                            refine TL.no rfl (.gn rfl rfl rfl) rfl ?_
                            refine TL.no rfl (.gn rfl rfl rfl) rfl ?_
                            refine TL.no rfl (.gn rfl rfl rfl) rfl ?_
                            refine TL.no rfl (.gn rfl rfl rfl) rfl ?_
                            refine TL.q rfl .u (Ex.py rfl rfl rfl) rfl ?_
                            cases h
                            exact TL.nil (X.jq [0, 0, 0, 0, 0, 0, 0] ⟨rfl, rfl⟩ (by rfl) (by rfl))
                        · replace h := ifF c89 h
                          refine TL.q rfl (.g rfl rfl (bn_f (decide_eq_true c85))) (Ex.aNe (us := [.int .i64 x69.fKind, .int .i64 x69.fVersion, .int .i64 x69.fNumber, .bool x69.fClient.null, .string (bsOf x69.fClient.data)]) (vs := [.int .i64 a0.fKind, .int .i64 a0.fVersion, .int .i64 a0.fNumber, .bool a0.fClient.null, .string (bsOf a0.fClient.data)]) flat_cursitortop_105 rfl Try.eqGuardType105 rfl rfl rfl rfl (eqL_t (eqV_i c86) (eqL_t (eqV_i c87) (eqL_t (eqV_i c88) (eqL_f (eqV_bn c89)))))) rfl ?_
                          refine TL.q rfl .u (Ex.pn rfl (bn_f (decide_eq_true c85)) rfl) rfl ?_
                          refine TL.run ft_cursitortop_ok [7] rfl rfl ?_
                          refine TL.no rfl (.gn rfl rfl rfl) rfl ?_
                          refine TL.no rfl (.gn rfl rfl rfl) rfl ?_
                          refine TL.no rfl (.gn rfl rfl rfl) rfl ?_
                          refine TL.no rfl (.gn rfl rfl rfl) rfl ?_
                          refine TL.q rfl .u (Ex.py rfl rfl rfl) rfl ?_
                          cases h
                          exact TL.nil (X.jq [0, 0, 0, 0, 0, 0, 0] ⟨rfl, rfl⟩ (by rfl) (by rfl))
                      · replace h := ifF c88 h
                        refine TL.q rfl (.g rfl rfl (bn_f (decide_eq_true c85))) (Ex.aNe (us := [.int .i64 x69.fKind, .int .i64 x69.fVersion, .int .i64 x69.fNumber, .bool x69.fClient.null, .string (bsOf x69.fClient.data)]) (vs := [.int .i64 a0.fKind, .int .i64 a0.fVersion, .int .i64 a0.fNumber, .bool a0.fClient.null, .string (bsOf a0.fClient.data)]) flat_cursitortop_105 rfl Try.eqGuardType105 rfl rfl rfl rfl (eqL_t (eqV_i c86) (eqL_t (eqV_i c87) (eqL_f (eqV_in c88))))) rfl ?_
                        refine TL.q rfl .u (Ex.pn rfl (bn_f (decide_eq_true c85)) rfl) rfl ?_
                        refine TL.run ft_cursitortop_ok [7] rfl rfl ?_
                        refine TL.no rfl (.gn rfl rfl rfl) rfl ?_
                        refine TL.no rfl (.gn rfl rfl rfl) rfl ?_
                        refine TL.no rfl (.gn rfl rfl rfl) rfl ?_
                        refine TL.no rfl (.gn rfl rfl rfl) rfl ?_
                        refine TL.q rfl .u (Ex.py rfl rfl rfl) rfl ?_
                        cases h
                        exact TL.nil (X.jq [0, 0, 0, 0, 0, 0, 0] ⟨rfl, rfl⟩ (by rfl) (by rfl))
                    · replace h := ifF c87 h
                      refine TL.q rfl (.g rfl rfl (bn_f (decide_eq_true c85))) (Ex.aNe (us := [.int .i64 x69.fKind, .int .i64 x69.fVersion, .int .i64 x69.fNumber, .bool x69.fClient.null, .string (bsOf x69.fClient.data)]) (vs := [.int .i64 a0.fKind, .int .i64 a0.fVersion, .int .i64 a0.fNumber, .bool a0.fClient.null, .string (bsOf a0.fClient.data)]) flat_cursitortop_105 rfl Try.eqGuardType105 rfl rfl rfl rfl (eqL_t (eqV_i c86) (eqL_f (eqV_in c87)))) rfl ?_
                      refine TL.q rfl .u (Ex.pn rfl (bn_f (decide_eq_true c85)) rfl) rfl ?_
                      refine TL.run ft_cursitortop_ok [7] rfl rfl ?_
                      refine TL.no rfl (.gn rfl rfl rfl) rfl ?_
                      refine TL.no rfl (.gn rfl rfl rfl) rfl ?_
                      refine TL.no rfl (.gn rfl rfl rfl) rfl ?_
                      refine TL.no rfl (.gn rfl rfl rfl) rfl ?_
                      refine TL.q rfl .u (Ex.py rfl rfl rfl) rfl ?_
                      cases h
                      exact TL.nil (X.jq [0, 0, 0, 0, 0, 0, 0] ⟨rfl, rfl⟩ (by rfl) (by rfl))
                  · replace h := ifF c86 h
                    refine TL.q rfl (.g rfl rfl (bn_f (decide_eq_true c85))) (Ex.aNe (us := [.int .i64 x69.fKind, .int .i64 x69.fVersion, .int .i64 x69.fNumber, .bool x69.fClient.null, .string (bsOf x69.fClient.data)]) (vs := [.int .i64 a0.fKind, .int .i64 a0.fVersion, .int .i64 a0.fNumber, .bool a0.fClient.null, .string (bsOf a0.fClient.data)]) flat_cursitortop_105 rfl Try.eqGuardType105 rfl rfl rfl rfl (eqL_f (eqV_in c86))) rfl ?_
                    refine TL.q rfl .u (Ex.pn rfl (bn_f (decide_eq_true c85)) rfl) rfl ?_
                    refine TL.run ft_cursitortop_ok [7] rfl rfl ?_
                    refine TL.no rfl (.gn rfl rfl rfl) rfl ?_
                    refine TL.no rfl (.gn rfl rfl rfl) rfl ?_
                    refine TL.no rfl (.gn rfl rfl rfl) rfl ?_
                    refine TL.no rfl (.gn rfl rfl rfl) rfl ?_
                    refine TL.q rfl .u (Ex.py rfl rfl rfl) rfl ?_
                    cases h
                    exact TL.nil (X.jq [0, 0, 0, 0, 0, 0, 0] ⟨rfl, rfl⟩ (by rfl) (by rfl))
                · replace h := ifF c85 h
                  refine TL.run ft_cursitortop_ok [0, 1, 2] rfl rfl ?_
                  refine TL.no rfl (.gn rfl rfl (bn_t (decide_eq_false c85))) rfl ?_
                  refine TL.no rfl (.gn rfl rfl (bn_t (decide_eq_false c85))) rfl ?_
                  refine TL.no rfl (.gn rfl rfl (bn_t (decide_eq_false c85))) rfl ?_
                  refine TL.q rfl .u (Ex.py rfl (bn_t (decide_eq_false c85)) rfl) rfl ?_
                  refine TL.run ft_cursitortop_ok [7] rfl rfl ?_
                  refine TL.no rfl (.gn rfl rfl rfl) rfl ?_
                  refine TL.no rfl (.gn rfl rfl rfl) rfl ?_
                  refine TL.no rfl (.gn rfl rfl rfl) rfl ?_
                  refine TL.no rfl (.gn rfl rfl rfl) rfl ?_
                  refine TL.q rfl .u (Ex.py rfl rfl rfl) rfl ?_
                  cases h
                  exact TL.nil (X.jq [0, 0, 0, 0, 0, 0, 0] ⟨rfl, rfl⟩ (by rfl) (by rfl))
              · rintro _ _ ⟨rfl, rfl⟩
                clear h
                have h := hk84
                clear hk84
                try dsimp only at h
                by_cases c95 : y82 = true
                · replace h := ifT c95 h
                  refine X.seq ?_
                  refine T.yes rfl c95 ?_
                  exact nomatch h
                · replace h := ifF c95 h
                  replace c95 := eq_false_of_ne_true c95
                  refine X.seq ?_
                  refine T.no rfl c95 ?_
                  refine T.skip (X.seq (T.seq (T.seq (T.region rfl ?_))))
                  refine TL.run ft_cursitortop_ok [0] rfl rfl ?_
                  refine TL.q rfl .u (Ex.b1 0 rfl Try.isAgg3 rfl rfl) rfl ?_
                  refine TL.run ft_cursitortop_ok [2] rfl rfl ?_
                  by_cases c96 : x69.fKind = 22
                  · replace h := ifT c96 h
                    refine TL.nil (X.seq ?_)
                    refine T.yes rfl (decide_eq_true c96) ?_
                    refine T.seq ?_
                    obtain ⟨⟨y108, st109⟩, h, hk110⟩ := Option.bind_eq_some_iff.1 h
                    refine T.jq (fun e Rs => e = [(5, .pointer (some ⟨b3, 0, none⟩)), (6, .bool y108), (12, .pointer (some ⟨b68, 0, none⟩))] ∧ Rs = [BlkR b72 105 #[.int .i64 x69.fKind, .int .i64 x69.fVersion, .int .i64 x69.fNumber, .bool x69.fClient.null, .string (bsOf x69.fClient.data)], InR b68 st109, OutR b36 st63, BlkR b3 109 #[.string (bsOf a2.fID), .int .i64 a2.fProducer, .int .i64 a2.fEpoch, .bool a2.fCommit], BlkR b2 107 #[.bool a1.fID.null, .string (bsOf a1.fID.data), .int .i64 a1.fTimeout, .int .i64 a1.fProducer, .int .i64 a1.fEpoch], BlkR b1 105 #[.int .i64 a0.fKind, .int .i64 a0.fVersion, .int .i64 a0.fNumber, .bool a0.fClient.null, .string (bsOf a0.fClient.data)], EmpR]) ?_ ?_
                    · clear hk110
                      refine T.draw (.q 0 (.q 1 (.q 2 (.q 4 (.e 3 (.q 5 (.q 6 (.q 7 (.e 8 (.q 9 (.q 10 (.q 11 .nil)))))))))))) [0, 1, 1, 1, 1, 1] rfl mix_cursitortop (NoP.seq (NoP.seq (NoP.seq np_post))) (by kernel_rfl) ?_
                      refine TD.run ft_cursitortop_ok [0, 1] rfl rfl ?_
                      refine TD.q rfl .u (Ex.b1 0 rfl Try.isAgg3 rfl rfl) rfl ?_
                      refine TD.q rfl .u (Ex.bS (us := [.bool a1.fID.null, .string (bsOf a1.fID.data), .int .i64 a1.fTimeout, .int .i64 a1.fProducer, .int .i64 a1.fEpoch]) 3 rfl Try.isAgg107 Try.sizeOf107 rfl rfl rfl) rfl ?_
                      obtain ⟨⟨x111, st112⟩, hx113, h⟩ := Option.bind_eq_some_iff.1 h
                      try dsimp only at h
                      refine TD.c1 rfl .u (.fn Try.call68 rfl) (f_txn_ReadBegin_spec b68 st83 x69.fVersion _ hx113) (fun _ hs => (Src.triv _)) rfl [0, 1, 1, 1, 1, 1] (rfl) ?_
                      by_cases c114 : x111.fID.null = a1.fID.null
                      · replace h := ifT c114 h
                        by_cases c115 : x111.fID.data = a1.fID.data
                        · replace h := ifT c115 h
                          by_cases c116 : x111.fTimeout = a1.fTimeout
                          · replace h := ifT c116 h
                            by_cases c117 : x111.fProducer = a1.fProducer
                            · replace h := ifT c117 h
                              by_cases c118 : x111.fEpoch = a1.fEpoch
                              · replace h := ifT c118 h
                                refine TD.q rfl .u (Ex.aEq (us := [.bool x111.fID.null, .string (bsOf x111.fID.data), .int .i64 x111.fTimeout, .int .i64 x111.fProducer, .int .i64 x111.fEpoch]) (vs := [.bool a1.fID.null, .string (bsOf a1.fID.data), .int .i64 a1.fTimeout, .int .i64 a1.fProducer, .int .i64 a1.fEpoch]) flat_cursitortop_107 rfl Try.eqGuardType107 rfl rfl rfl rfl (eqL_t (eqV_b c114) (eqL_t (eqV_s (l := x111.fID.data) (m := a1.fID.data) c115) (eqL_t (eqV_i c116) (eqL_t (eqV_i c117) (eqL_t (eqV_i c118) rfl)))))) rfl ?_
                                refine TD.run ft_cursitortop_ok [6] rfl rfl ?_
                                refine TD.q rfl (.g rfl rfl rfl) (Ex.ft ft_cursitortop_ok rfl) rfl ?_
                                obtain ⟨⟨x119, st120⟩, hx121, h⟩ := Option.bind_eq_some_iff.1 h
                                try dsimp only at h
                                refine TD.c1 rfl (.g rfl rfl rfl) (.fn Try.call31 rfl) (gClose_spec b68 st112 _ hx121) (fun _ hs => (Src.triv _)) rfl [0, 1, 1, 1, 1, 1] (rfl) ?_
                                refine TD.q rfl (.g rfl rfl rfl) (Ex.ft ft_cursitortop_ok rfl) rfl ?_
                                refine TD.q rfl .u (Ex.py rfl rfl rfl) rfl ?_
                                refine TD.run ft_cursitortop_ok [11] rfl rfl ?_
                                by_cases c122 : x119 = 0
                                · replace h := ifT c122 h
                                  cases h
                                  exact TD.nil (X.as (d := 6) (v' := .bool true) rfl (congrArg Value.bool (decide_eq_true c122)) (X.jq [0, 0, 0, 0, 0, 0, 0] ⟨rfl, rfl⟩ (by rfl) (by rfl)))
                                · replace h := ifF c122 h
                                  cases h
                                  exact TD.nil (X.as (d := 6) (v' := .bool false) rfl (congrArg Value.bool (decide_eq_false c122)) (X.jq [0, 0, 0, 0, 0, 0, 0] ⟨rfl, rfl⟩ (by rfl) (by rfl)))
                              · replace h := ifF c118 h
                                refine TD.q rfl .u (Ex.aEq (us := [.bool x111.fID.null, .string (bsOf x111.fID.data), .int .i64 x111.fTimeout, .int .i64 x111.fProducer, .int .i64 x111.fEpoch]) (vs := [.bool a1.fID.null, .string (bsOf a1.fID.data), .int .i64 a1.fTimeout, .int .i64 a1.fProducer, .int .i64 a1.fEpoch]) flat_cursitortop_107 rfl Try.eqGuardType107 rfl rfl rfl rfl (eqL_t (eqV_b c114) (eqL_t (eqV_s (l := x111.fID.data) (m := a1.fID.data) c115) (eqL_t (eqV_i c116) (eqL_t (eqV_i c117) (eqL_f (eqV_in c118))))))) rfl ?_
                                refine TD.run ft_cursitortop_ok [6] rfl rfl ?_
                                refine TD.no rfl (.gn rfl rfl rfl) rfl ?_
                                refine TD.noe rfl (.gn rfl rfl rfl) rfl [0, 1, 1, 1, 1, 1] rfl ?_
                                refine TD.no rfl (.gn rfl rfl rfl) rfl ?_
                                refine TD.q rfl .u (Ex.pn rfl rfl rfl) rfl ?_
                                refine TD.run ft_cursitortop_ok [11] rfl rfl ?_
                                cases h
                                exact TD.nil (X.jq [0, 0, 0, 0, 0, 0, 0] ⟨rfl, rfl⟩ (by rfl) (by rfl))
                            · replace h := ifF c117 h
                              refine TD.q rfl .u (Ex.aEq (us := [.bool x111.fID.null, .string (bsOf x111.fID.data), .int .i64 x111.fTimeout, .int .i64 x111.fProducer, .int .i64 x111.fEpoch]) (vs := [.bool a1.fID.null, .string (bsOf a1.fID.data), .int .i64 a1.fTimeout, .int .i64 a1.fProducer, .int .i64 a1.fEpoch]) flat_cursitortop_107 rfl Try.eqGuardType107 rfl rfl rfl rfl (eqL_t (eqV_b c114) (eqL_t (eqV_s (l := x111.fID.data) (m := a1.fID.data) c115) (eqL_t (eqV_i c116) (eqL_f (eqV_in c117)))))) rfl ?_
                              refine TD.run ft_cursitortop_ok [6] rfl rfl ?_
                              refine TD.no rfl (.gn rfl rfl rfl) rfl ?_
                              refine TD.noe rfl (.gn rfl rfl rfl) rfl [0, 1, 1, 1, 1, 1] rfl ?_
                              refine TD.no rfl (.gn rfl rfl rfl) rfl ?_
                              refine TD.q rfl .u (Ex.pn rfl rfl rfl) rfl ?_
                              refine TD.run ft_cursitortop_ok [11] rfl rfl ?_
                              cases h
                              exact TD.nil (X.jq [0, 0, 0, 0, 0, 0, 0] ⟨rfl, rfl⟩ (by rfl) (by rfl))
                          · replace h := ifF c116 h
                            refine TD.q rfl .u (Ex.aEq (us := [.bool x111.fID.null, .string (bsOf x111.fID.data), .int .i64 x111.fTimeout, .int .i64 x111.fProducer, .int .i64 x111.fEpoch]) (vs := [.bool a1.fID.null, .string (bsOf a1.fID.data), .int .i64 a1.fTimeout, .int .i64 a1.fProducer, .int .i64 a1.fEpoch]) flat_cursitortop_107 rfl Try.eqGuardType107 rfl rfl rfl rfl (eqL_t (eqV_b c114) (eqL_t (eqV_s (l := x111.fID.data) (m := a1.fID.data) c115) (eqL_f (eqV_in c116))))) rfl ?_
                            refine TD.run ft_cursitortop_ok [6] rfl rfl ?_
                            refine TD.no rfl (.gn rfl rfl rfl) rfl ?_
                            refine TD.noe rfl (.gn rfl rfl rfl) rfl [0, 1, 1, 1, 1, 1] rfl ?_
                            refine TD.no rfl (.gn rfl rfl rfl) rfl ?_
                            refine TD.q rfl .u (Ex.pn rfl rfl rfl) rfl ?_
                            refine TD.run ft_cursitortop_ok [11] rfl rfl ?_
                            cases h
                            exact TD.nil (X.jq [0, 0, 0, 0, 0, 0, 0] ⟨rfl, rfl⟩ (by rfl) (by rfl))
                        · replace h := ifF c115 h
                          refine TD.q rfl .u (Ex.aEq (us := [.bool x111.fID.null, .string (bsOf x111.fID.data), .int .i64 x111.fTimeout, .int .i64 x111.fProducer, .int .i64 x111.fEpoch]) (vs := [.bool a1.fID.null, .string (bsOf a1.fID.data), .int .i64 a1.fTimeout, .int .i64 a1.fProducer, .int .i64 a1.fEpoch]) flat_cursitortop_107 rfl Try.eqGuardType107 rfl rfl rfl rfl (eqL_t (eqV_b c114) (eqL_f (eqV_sn (l := x111.fID.data) (m := a1.fID.data) c115)))) rfl ?_
                          refine TD.run ft_cursitortop_ok [6] rfl rfl ?_
                          refine TD.no rfl (.gn rfl rfl rfl) rfl ?_
                          refine TD.noe rfl (.gn rfl rfl rfl) rfl [0, 1, 1, 1, 1, 1] rfl ?_
                          refine TD.no rfl (.gn rfl rfl rfl) rfl ?_
                          refine TD.q rfl .u (Ex.pn rfl rfl rfl) rfl ?_
                          refine TD.run ft_cursitortop_ok [11] rfl rfl ?_
                          cases h
                          exact TD.nil (X.jq [0, 0, 0, 0, 0, 0, 0] ⟨rfl, rfl⟩ (by rfl) (by rfl))
                      · replace h := ifF c114 h
                        refine TD.q rfl .u (Ex.aEq (us := [.bool x111.fID.null, .string (bsOf x111.fID.data), .int .i64 x111.fTimeout, .int .i64 x111.fProducer, .int .i64 x111.fEpoch]) (vs := [.bool a1.fID.null, .string (bsOf a1.fID.data), .int .i64 a1.fTimeout, .int .i64 a1.fProducer, .int .i64 a1.fEpoch]) flat_cursitortop_107 rfl Try.eqGuardType107 rfl rfl rfl rfl (eqL_f (eqV_bn c114))) rfl ?_
                        refine TD.run ft_cursitortop_ok [6] rfl rfl ?_
                        refine TD.no rfl (.gn rfl rfl rfl) rfl ?_
                        refine TD.noe rfl (.gn rfl rfl rfl) rfl [0, 1, 1, 1, 1, 1] rfl ?_
                        refine TD.no rfl (.gn rfl rfl rfl) rfl ?_
                        refine TD.q rfl .u (Ex.pn rfl rfl rfl) rfl ?_
                        refine TD.run ft_cursitortop_ok [11] rfl rfl ?_
                        cases h
                        exact TD.nil (X.jq [0, 0, 0, 0, 0, 0, 0] ⟨rfl, rfl⟩ (by rfl) (by rfl))
                    · rintro _ _ ⟨rfl, rfl⟩
                      clear h
                      have h := hk110
                      clear hk110
                      try dsimp only at h
                      obtain rfl := Option.some.inj h
                      exact X.seq (T.ret (X.rs (X.done1 [6] Try.results12 (RV.tm rfl) ⟨rfl, rfl, rfl⟩ (by rfl) (.inl rfl))))
                  · replace h := ifF c96 h
                    refine TL.nil (X.seq ?_)
                    refine T.no rfl (decide_eq_false c96) ?_
                    refine T.skip (X.seq (T.seq ?_))
                    obtain ⟨⟨y133, st134⟩, h, hk135⟩ := Option.bind_eq_some_iff.1 h
                    refine T.jq (fun e Rs => e = [(6, .bool y133)] ∧ Rs = [BlkR b72 105 #[.int .i64 x69.fKind, .int .i64 x69.fVersion, .int .i64 x69.fNumber, .bool x69.fClient.null, .string (bsOf x69.fClient.data)], InR b68 st134, OutR b36 st63, BlkR b3 109 #[.string (bsOf a2.fID), .int .i64 a2.fProducer, .int .i64 a2.fEpoch, .bool a2.fCommit], BlkR b2 107 #[.bool a1.fID.null, .string (bsOf a1.fID.data), .int .i64 a1.fTimeout, .int .i64 a1.fProducer, .int .i64 a1.fEpoch], BlkR b1 105 #[.int .i64 a0.fKind, .int .i64 a0.fVersion, .int .i64 a0.fNumber, .bool a0.fClient.null, .string (bsOf a0.fClient.data)], EmpR]) ?_ ?_
                    · clear hk135
                      refine T.draw (.q 0 (.q 2 (.e 1 (.q 3 (.q 4 (.q 5 (.e 6 (.q 7 (.q 8 (.q 9 .nil)))))))))) [0, 1, 1, 1, 1, 1] rfl mix_cursitortop (NoP.seq (NoP.seq np_post)) (by kernel_rfl) ?_
                      refine TD.run ft_cursitortop_ok [0] rfl rfl ?_
                      refine TD.q rfl .u (Ex.bS (us := [.string (bsOf a2.fID), .int .i64 a2.fProducer, .int .i64 a2.fEpoch, .bool a2.fCommit]) 2 rfl Try.isAgg109 Try.sizeOf109 rfl rfl rfl) rfl ?_
                      obtain ⟨⟨x136, st137⟩, hx138, h⟩ := Option.bind_eq_some_iff.1 h
                      try dsimp only at h
                      refine TD.c1 rfl .u (.fn Try.call69 rfl) (f_txn_ReadEnd_spec b68 st83 _ hx138) (fun _ hs => (Src.triv _)) rfl [0, 1, 1, 1, 1, 1] (rfl) ?_
                      by_cases c139 : x136.fID = a2.fID
                      · replace h := ifT c139 h
                        by_cases c140 : x136.fProducer = a2.fProducer
                        · replace h := ifT c140 h
                          by_cases c141 : x136.fEpoch = a2.fEpoch
                          · replace h := ifT c141 h
                            by_cases c142 : x136.fCommit = a2.fCommit
                            · replace h := ifT c142 h
                              refine TD.q rfl .u (Ex.aEq (us := [.string (bsOf x136.fID), .int .i64 x136.fProducer, .int .i64 x136.fEpoch, .bool x136.fCommit]) (vs := [.string (bsOf a2.fID), .int .i64 a2.fProducer, .int .i64 a2.fEpoch, .bool a2.fCommit]) flat_cursitortop_109 rfl Try.eqGuardType109 rfl rfl rfl rfl (eqL_t (eqV_s (l := x136.fID) (m := a2.fID) c139) (eqL_t (eqV_i c140) (eqL_t (eqV_i c141) (eqL_t (eqV_b c142) rfl))))) rfl ?_
                              refine TD.run ft_cursitortop_ok [4] rfl rfl ?_
                              refine TD.q rfl (.g rfl rfl rfl) (Ex.ft ft_cursitortop_ok rfl) rfl ?_
                              obtain ⟨⟨x143, st144⟩, hx145, h⟩ := Option.bind_eq_some_iff.1 h
                              try dsimp only at h
                              refine TD.c1 rfl (.g rfl rfl rfl) (.fn Try.call31 rfl) (gClose_spec b68 st137 _ hx145) (fun _ hs => (Src.triv _)) rfl [0, 1, 1, 1, 1, 1] (rfl) ?_
                              refine TD.q rfl (.g rfl rfl rfl) (Ex.ft ft_cursitortop_ok rfl) rfl ?_
                              refine TD.q rfl .u (Ex.py rfl rfl rfl) rfl ?_
                              refine TD.run ft_cursitortop_ok [9] rfl rfl ?_
                              by_cases c146 : x143 = 0
                              · replace h := ifT c146 h
                                cases h
                                exact TD.nil (X.as (d := 6) (v' := .bool true) rfl (congrArg Value.bool (decide_eq_true c146)) (X.jq [0, 0, 0, 0, 0, 0, 0] ⟨rfl, rfl⟩ (by rfl) (by rfl)))
                              · replace h := ifF c146 h
                                cases h
                                exact TD.nil (X.as (d := 6) (v' := .bool false) rfl (congrArg Value.bool (decide_eq_false c146)) (X.jq [0, 0, 0, 0, 0, 0, 0] ⟨rfl, rfl⟩ (by rfl) (by rfl)))
                            · replace h := ifF c142 h
                              refine TD.q rfl .u (Ex.aEq (us := [.string (bsOf x136.fID), .int .i64 x136.fProducer, .int .i64 x136.fEpoch, .bool x136.fCommit]) (vs := [.string (bsOf a2.fID), .int .i64 a2.fProducer, .int .i64 a2.fEpoch, .bool a2.fCommit]) flat_cursitortop_109 rfl Try.eqGuardType109 rfl rfl rfl rfl (eqL_t (eqV_s (l := x136.fID) (m := a2.fID) c139) (eqL_t (eqV_i c140) (eqL_t (eqV_i c141) (eqL_f (eqV_bn c142)))))) rfl ?_
                              refine TD.run ft_cursitortop_ok [4] rfl rfl ?_
                              refine TD.no rfl (.gn rfl rfl rfl) rfl ?_
                              refine TD.noe rfl (.gn rfl rfl rfl) rfl [0, 1, 1, 1, 1, 1] rfl ?_
                              refine TD.no rfl (.gn rfl rfl rfl) rfl ?_
                              refine TD.q rfl .u (Ex.pn rfl rfl rfl) rfl ?_
                              refine TD.run ft_cursitortop_ok [9] rfl rfl ?_
                              cases h
                              exact TD.nil (X.jq [0, 0, 0, 0, 0, 0, 0] ⟨rfl, rfl⟩ (by rfl) (by rfl))
                          · replace h := ifF c141 h
                            refine TD.q rfl .u (Ex.aEq (us := [.string (bsOf x136.fID), .int .i64 x136.fProducer, .int .i64 x136.fEpoch, .bool x136.fCommit]) (vs := [.string (bsOf a2.fID), .int .i64 a2.fProducer, .int .i64 a2.fEpoch, .bool a2.fCommit]) flat_cursitortop_109 rfl Try.eqGuardType109 rfl rfl rfl rfl (eqL_t (eqV_s (l := x136.fID) (m := a2.fID) c139) (eqL_t (eqV_i c140) (eqL_f (eqV_in c141))))) rfl ?_
                            refine TD.run ft_cursitortop_ok [4] rfl rfl ?_
                            refine TD.no rfl (.gn rfl rfl rfl) rfl ?_
                            refine TD.noe rfl (.gn rfl rfl rfl) rfl [0, 1, 1, 1, 1, 1] rfl ?_
                            refine TD.no rfl (.gn rfl rfl rfl) rfl ?_
                            refine TD.q rfl .u (Ex.pn rfl rfl rfl) rfl ?_
                            refine TD.run ft_cursitortop_ok [9] rfl rfl ?_
                            cases h
                            exact TD.nil (X.jq [0, 0, 0, 0, 0, 0, 0] ⟨rfl, rfl⟩ (by rfl) (by rfl))
                        · replace h := ifF c140 h
                          refine TD.q rfl .u (Ex.aEq (us := [.string (bsOf x136.fID), .int .i64 x136.fProducer, .int .i64 x136.fEpoch, .bool x136.fCommit]) (vs := [.string (bsOf a2.fID), .int .i64 a2.fProducer, .int .i64 a2.fEpoch, .bool a2.fCommit]) flat_cursitortop_109 rfl Try.eqGuardType109 rfl rfl rfl rfl (eqL_t (eqV_s (l := x136.fID) (m := a2.fID) c139) (eqL_f (eqV_in c140)))) rfl ?_
                          refine TD.run ft_cursitortop_ok [4] rfl rfl ?_
                          refine TD.no rfl (.gn rfl rfl rfl) rfl ?_
                          refine TD.noe rfl (.gn rfl rfl rfl) rfl [0, 1, 1, 1, 1, 1] rfl ?_
                          refine TD.no rfl (.gn rfl rfl rfl) rfl ?_
                          refine TD.q rfl .u (Ex.pn rfl rfl rfl) rfl ?_
                          refine TD.run ft_cursitortop_ok [9] rfl rfl ?_
                          cases h
                          exact TD.nil (X.jq [0, 0, 0, 0, 0, 0, 0] ⟨rfl, rfl⟩ (by rfl) (by rfl))
                      · replace h := ifF c139 h
                        refine TD.q rfl .u (Ex.aEq (us := [.string (bsOf x136.fID), .int .i64 x136.fProducer, .int .i64 x136.fEpoch, .bool x136.fCommit]) (vs := [.string (bsOf a2.fID), .int .i64 a2.fProducer, .int .i64 a2.fEpoch, .bool a2.fCommit]) flat_cursitortop_109 rfl Try.eqGuardType109 rfl rfl rfl rfl (eqL_f (eqV_sn (l := x136.fID) (m := a2.fID) c139))) rfl ?_
                        refine TD.run ft_cursitortop_ok [4] rfl rfl ?_
                        refine TD.no rfl (.gn rfl rfl rfl) rfl ?_
                        refine TD.noe rfl (.gn rfl rfl rfl) rfl [0, 1, 1, 1, 1, 1] rfl ?_
                        refine TD.no rfl (.gn rfl rfl rfl) rfl ?_
                        refine TD.q rfl .u (Ex.pn rfl rfl rfl) rfl ?_
                        refine TD.run ft_cursitortop_ok [9] rfl rfl ?_
                        cases h
                        exact TD.nil (X.jq [0, 0, 0, 0, 0, 0, 0] ⟨rfl, rfl⟩ (by rfl) (by rfl))
                    · rintro _ _ ⟨rfl, rfl⟩
                      clear h
                      have h := hk135
                      clear hk135
                      try dsimp only at h
                      obtain rfl := Option.some.inj h
                      exact X.seq (T.ret (X.done1 [6] Try.results12 (RV.tm rfl) ⟨rfl, rfl, rfl⟩ (by rfl) (.inl rfl)))
            · replace h := ifF c65 h
              refine TL.nil (X.seq ?_)
              refine T.yes rfl (bn_t (decide_eq_false c65)) ?_
              refine T.seq ?_
              obtain ⟨y148, h, hk149⟩ := Option.bind_eq_some_iff.1 h
              refine T.jq (fun e Rs => e = [(3, .pointer (some ⟨b1, 0, none⟩)), (4, .pointer (some ⟨b2, 0, none⟩)), (5, .pointer (some ⟨b3, 0, none⟩)), (6, .bool y148), (8, .int .i64 x39), (10, .string (bsOf x61)), (11, .int .i64 x62)] ∧ Rs = [OutR b36 st63, BlkR b3 109 #[.string (bsOf a2.fID), .int .i64 a2.fProducer, .int .i64 a2.fEpoch, .bool a2.fCommit], BlkR b2 107 #[.bool a1.fID.null, .string (bsOf a1.fID.data), .int .i64 a1.fTimeout, .int .i64 a1.fProducer, .int .i64 a1.fEpoch], BlkR b1 105 #[.int .i64 a0.fKind, .int .i64 a0.fVersion, .int .i64 a0.fNumber, .bool a0.fClient.null, .string (bsOf a0.fClient.data)], EmpR]) ?_ ?_
              · clear hk149
                refine T.region rfl ?_
                by_cases c150 : x62 = y51
                · replace h := ifT c150 h
                  refine TL.run ft_cursitortop_ok [0, 1, 2, 3] rfl rfl ?_
                  refine TL.q rfl (.g rfl rfl (decide_eq_true c150)) (Ex.ft ft_cursitortop_ok rfl) rfl ?_
                  refine TL.q rfl (.g rfl rfl (decide_eq_true c150)) (Ex.sEq rfl (m := []) rfl) rfl ?_
                  refine TL.q rfl .u (Ex.py rfl (decide_eq_true c150) rfl) rfl ?_
                  refine TL.run ft_cursitortop_ok [7] rfl rfl ?_
                  by_cases c151 : x61 = []
                  · replace h := ifT c151 h
                    cases h
                    exact TL.nil (X.as (d := 6) (v' := .bool true) rfl (congrArg Value.bool (decide_eq_true c151)) (X.jq [0, 0, 0, 0, 0] ⟨rfl, rfl⟩ (by rfl) (by rfl)))
                  · replace h := ifF c151 h
                    cases h
                    exact TL.nil (X.as (d := 6) (v' := .bool false) rfl (congrArg Value.bool (decide_eq_false c151)) (X.jq [0, 0, 0, 0, 0] ⟨rfl, rfl⟩ (by rfl) (by rfl)))
                · replace h := ifF c150 h
                  refine TL.run ft_cursitortop_ok [0, 1, 2, 3] rfl rfl ?_
                  refine TL.no rfl (.gn rfl rfl (decide_eq_false c150)) rfl ?_
                  refine TL.no rfl (.gn rfl rfl (decide_eq_false c150)) rfl ?_
                  refine TL.q rfl .u (Ex.pn rfl (decide_eq_false c150) rfl) rfl ?_
                  refine TL.run ft_cursitortop_ok [7] rfl rfl ?_
                  cases h
                  exact TL.nil (X.jq [0, 0, 0, 0, 0] ⟨rfl, rfl⟩ (by rfl) (by rfl))
              · rintro _ _ ⟨rfl, rfl⟩
                clear h
                have h := hk149
                clear hk149
                try dsimp only at h
                obtain rfl := Option.some.inj h
                exact X.seq (T.ret (X.rs (X.done1 [4] Try.results12 (RV.tm rfl) ⟨rfl, rfl, rfl⟩ (by rfl) (.inl rfl))))
end Go.Proofs.Ytagbblaegdedpaa.Sl
namespace Go.Proofs.Ytagbblaegdedpaa.Sl
open Go.RowKit
set_option linter.unusedVariables false
set_option linter.unusedSimpArgs false
theorem rq26_0 : f_request_Check (⟨26, 0, 0, (⟨false, []⟩ : Bl)⟩ : Head) = some 0 := by kernel_rfl
theorem rq26_1 : f_request_Check (⟨26, 1, 0, (⟨false, []⟩ : Bl)⟩ : Head) = some 7 := by kernel_rfl
theorem vers22 {v : Int} (h : vcheck 22 v = 0) : v = 0 ∨ v = 1 := by
  have e : vKnown 22 = (0, 1, (vKnown 22).2.2) := by decide
  unfold vcheck at h
  rw [e] at h
  split at h
  · exact absurd h (by decide)
  · split at h
    · exact absurd h (by decide)
    · rename_i h1
      simp only at h1
      omega
theorem pure_WholeTxns (a0 : Head) (a1 : TxnBegin) (a2 : TxnEnd) (w0 : wf_Head a0) (w1 : wf_TxnBegin a1) (w2 : wf_TxnEnd a2) : f_top_WholeTxns a0 a1 a2 = some true := by
  unfold f_top_WholeTxns
  rw [rq26_0, Option.bind_some, if_pos rfl, rq26_1, Option.bind_some, if_pos rfl, Option.bind_some, if_neg (by decide)]
  by_cases h1 : (a0.fClient.data.length : Int) > 1000
  · rw [if_pos h1]; rfl
  rw [if_neg h1]
  by_cases h2 : (a1.fID.data.length : Int) > 1000
  · rw [if_pos h2]; rfl
  rw [if_neg h2]
  by_cases h3 : (a2.fID.length : Int) > 1000
  · rw [if_pos h3]; rfl
  rw [if_neg h3, check_eq a0 w0.2.2.1, Option.bind_some]
  by_cases hc : chkH a0 = 0
  case neg => rw [if_neg hc]; rfl
  rw [if_pos hc]
  have hok := chk_ok hc
  have hel : (encH a0).length ≤ 1010 := by
    simp only [encH, List.length_append, be_length]
    omega
  have hwr := head_write a0 [] (by decide) w0.2.2.1 (by omega)
  rw [if_pos hc, List.nil_append] at hwr
  have hB := Q_head.cb
  have hS := Sp_head
  have hH : ∀ t : List UInt8, t.length ≤ 100000 → f_request_Read ⟨encH a0 ++ t, 0, 0⟩ = some (a0, ⟨t, (encH a0).length, 0⟩) := by
    intro t ht
    have := CB.at hB hS (s := encH a0 ++ t) (t := t) (q := 0) (by rw [List.length_append]; omega) (Nat.zero_le _) hok (by rw [List.drop_zero])
    rw [List.drop_zero, Nat.zero_add] at this
    have h4 := this.1
    rw [List.drop_left] at h4
    exact h4
  by_cases hk : a0.fKind = 22
  · have hv : a0.fVersion = 0 ∨ a0.fVersion = 1 := vers22 (by have := hok.1; rwa [hk] at this)
    rw [if_pos hk, Option.bind_some, if_neg (by decide), hwr, Option.bind_some, gOLen_eq, Option.bind_some]
    simp only
    rw [endCheck a2 w2.2.2.1, Option.bind_some, if_pos hk, beginWrite a1 _ _ w1.2.2.1 w1.2.2.2 w1.2.1 (by omega), Option.bind_some, beginCheck a1 _ w1.2.2.2 w1.2.1, Option.bind_some, Option.bind_some]
    simp only
    rw [gOText_eq, Option.bind_some]
    by_cases hz : chkBg a1.fID a1.fTimeout a1.fProducer a1.fEpoch a0.fVersion = 0
    · obtain ⟨c1, c2, c3, c4⟩ := chkBg_zero hz
      obtain ⟨f0, k1⟩ := bl_fits c1 c2
      have f4 : fits a1.fTimeout 4 = true := by rw [fits_4]; exact decide_eq_true (by omega)
      have f8 : fits a1.fProducer 8 = true := by rw [fits_8]; exact decide_eq_true w1.2.2.1
      have f2 : fits a1.fEpoch 2 = true := by
        rcases c4 with h4 | h4
        · rw [h4.2]; decide
        · exact (who_fits h4.2 w1.2.2.1).2
      have hbl : (encB a0.fVersion a1).length ≤ 1100 := by
        unfold encB
        split <;> simp only [encB1, encB0, encFx, List.length_append, be_length] <;> omega
      rw [if_pos hz, if_pos hz, otx_z]
      simp only
      rw [gNew_eq _ (by rw [List.length_append]; omega), Option.bind_some, hH _ (by omega), Option.bind_some]
      simp only [if_true, gAt_eq, Option.bind_some, gOLen_eq]
      rw [if_neg (by decide), if_pos hk]
      have hR : f_txn_ReadBegin ⟨encB a0.fVersion a1, (encH a0).length, 0⟩ a0.fVersion = some (a1, ⟨[], (encH a0).length + (encB a0.fVersion a1).length, 0⟩) := by
        unfold encB
        have hlen : (encH a0 ++ encB a0.fVersion a1).length ≤ 1000000 := by rw [List.length_append]; omega
        unfold encB at hlen
        rcases hv with hv | hv
        · rw [if_neg (by omega)] at hlen ⊢
          have hpe : a1.fProducer = -1 ∧ a1.fEpoch = -1 := by
            rcases c4 with h4 | h4
            · exact h4
            · omega
          have := CB.at (B_beg0 a0.fVersion (by omega)) (Sp_beg0 a0.fVersion) (a := a1) (s := encH a0 ++ encB0 a1) (t := []) (q := (encH a0).length) hlen (by rw [List.length_append]; omega) ⟨⟨f0, c1⟩, f4, hz, hpe⟩ (by rw [List.drop_left, List.append_nil])
          have h4 := this.1
          rw [this.2.2, List.drop_left] at h4
          exact h4
        · rw [if_pos (by omega)] at hlen ⊢
          have := CB.at (B_beg1 a0.fVersion (by omega)) (Sp_beg1 a0.fVersion) (a := a1) (s := encH a0 ++ encB1 a1) (t := []) (q := (encH a0).length) hlen (by rw [List.length_append]; omega) ⟨⟨f0, c1⟩, f4, f8, f2, hz⟩ (by rw [List.drop_left, List.append_nil])
          have h4 := this.1
          rw [this.2.2, List.drop_left] at h4
          exact h4
      rw [hR, Option.bind_some]
      simp only [if_true]
      rw [gClose_z]
      rfl
    · rw [if_neg hz, if_neg hz, otx_e _ _ hz]
      simp only [if_true]
      rfl
  · rw [if_neg hk]
    by_cases hk6 : a0.fKind = 26
    case neg => rw [if_neg hk6]; rfl
    rw [if_pos hk6, Option.bind_some, if_neg (by decide), hwr, Option.bind_some, gOLen_eq, Option.bind_some]
    simp only
    rw [endCheck a2 w2.2.2.1, Option.bind_some, if_neg hk, endWrite a2 _ w2.2.1 w2.2.2.1 (by omega), Option.bind_some, Option.bind_some]
    simp only
    rw [gOText_eq, Option.bind_some]
    by_cases hz : chkE a2.fID a2.fProducer a2.fEpoch = 0
    · have hkr : kright a2.fID = true ∧ who a2.fProducer a2.fEpoch = true := by
        unfold chkE at hz
        split at hz
        · rename_i h1
          split at hz
          · rename_i h2; exact ⟨h1, h2⟩
          · exact absurd hz (by decide)
        · exact absurd hz (by decide)
      obtain ⟨k1, _⟩ := kright_len hkr.1
      obtain ⟨f8, f2⟩ := who_fits hkr.2 w2.2.1
      have hbl : (encE a2).length ≤ 1100 := by
        simp only [encE, encTx, encBool, List.length_append, be_length]
        omega
      rw [if_pos hz, if_pos hz, otx_z]
      simp only
      rw [gNew_eq _ (by rw [List.length_append]; omega), Option.bind_some, hH _ (by omega), Option.bind_some]
      simp only [if_true, gAt_eq, Option.bind_some]
      rw [if_neg (by decide), if_neg hk]
      have hR : f_txn_ReadEnd ⟨encE a2, (encH a0).length, 0⟩ = some (a2, ⟨[], (encH a0).length + (encE a2).length, 0⟩) := by
        have hlen : (encH a0 ++ encE a2).length ≤ 1000000 := by rw [List.length_append]; omega
        have := CB.at B_end Sp_end (a := a2) (s := encH a0 ++ encE a2) (t := []) (q := (encH a0).length) hlen (by rw [List.length_append]; omega) ⟨⟨by rw [fits_2]; exact decide_eq_true (by omega), rfl⟩, f8, f2, hz⟩ (by rw [List.drop_left, List.append_nil])
        have h4 := this.1
        rw [this.2.2, List.drop_left] at h4
        exact h4
      rw [hR, Option.bind_some]
      simp only [if_true]
      rw [gClose_z]
      rfl
    · rw [if_neg hz, if_neg hz, otx_e _ _ hz]
      simp only [if_true]
      rfl
end Go.Proofs.Ytagbblaegdedpaa.Sl
namespace Go.Proofs.Ytagbblaegdedpaa.Sl
open Go.RowKit Go.Deep Go.ChangeShapes
set_option linter.unusedVariables false
theorem op_Bl {H : Type} {enc : TypeId × Value → H} : OpensW enc Try.prog 26 (andRd Bl_rd wf_Bl) :=
  opensW_weak (fun x => ⟨x.1, x.2.1⟩) (opensW_struct Try.underlying26 (by kernel_rfl) (opensWFs_cons 1 (by kernel_rfl) (by kernel_rfl) (op_bool Try.underlying4) (opensWFs_cons 1 (by kernel_rfl) (by kernel_rfl) (op_str Try.underlying9) (opensWFs_nil _)))) (by
    rintro w S cs ⟨x0, x1, _⟩ ⟨_, _, rfl, ⟨p0, q0⟩, _, _, rfl, ⟨p1, q1⟩, rfl⟩
    obtain rfl := p0
    obtain rfl := p1
    exact ⟨rfl, q0, q1⟩)
theorem op_Head {H : Type} {enc : TypeId × Value → H} : OpensW enc Try.prog 105 (andRd Head_rd wf_Head) :=
  opensW_weak (fun x => ⟨x.1, x.2.1, x.2.2.1, x.2.2.2.1⟩) (opensW_struct Try.underlying105 (by kernel_rfl) (opensWFs_cons 1 (by kernel_rfl) (by kernel_rfl) (op_i64 Try.underlying3) (opensWFs_cons 1 (by kernel_rfl) (by kernel_rfl) (op_i64 Try.underlying3) (opensWFs_cons 1 (by kernel_rfl) (by kernel_rfl) (op_i64 Try.underlying3) (opensWFs_cons 2 (by kernel_rfl) (by kernel_rfl) op_Bl (opensWFs_nil _)))))) (by
    rintro w S cs ⟨x0, x1, x2, x3, _⟩ ⟨_, _, rfl, ⟨p0, q0⟩, _, _, rfl, ⟨p1, q1⟩, _, _, rfl, ⟨p2, q2⟩, _, _, rfl, ⟨p3, q3⟩, rfl⟩
    obtain rfl := p0
    obtain rfl := p1
    obtain rfl := p2
    obtain rfl := p3
    exact ⟨rfl, q0, q1, q2, q3⟩)
theorem op_TxnBegin {H : Type} {enc : TypeId × Value → H} : OpensW enc Try.prog 107 (andRd TxnBegin_rd wf_TxnBegin) :=
  opensW_weak (fun x => ⟨x.1, x.2.1, x.2.2.1, x.2.2.2.1⟩) (opensW_struct Try.underlying107 (by kernel_rfl) (opensWFs_cons 2 (by kernel_rfl) (by kernel_rfl) op_Bl (opensWFs_cons 1 (by kernel_rfl) (by kernel_rfl) (op_i64 Try.underlying3) (opensWFs_cons 1 (by kernel_rfl) (by kernel_rfl) (op_i64 Try.underlying3) (opensWFs_cons 1 (by kernel_rfl) (by kernel_rfl) (op_i64 Try.underlying3) (opensWFs_nil _)))))) (by
    rintro w S cs ⟨x0, x1, x2, x3, _⟩ ⟨_, _, rfl, ⟨p0, q0⟩, _, _, rfl, ⟨p1, q1⟩, _, _, rfl, ⟨p2, q2⟩, _, _, rfl, ⟨p3, q3⟩, rfl⟩
    obtain rfl := p0
    obtain rfl := p1
    obtain rfl := p2
    obtain rfl := p3
    exact ⟨rfl, q0, q1, q2, q3⟩)
theorem op_TxnEnd {H : Type} {enc : TypeId × Value → H} : OpensW enc Try.prog 109 (andRd TxnEnd_rd wf_TxnEnd) :=
  opensW_weak (fun x => ⟨x.1, x.2.1, x.2.2.1, x.2.2.2.1⟩) (opensW_struct Try.underlying109 (by kernel_rfl) (opensWFs_cons 1 (by kernel_rfl) (by kernel_rfl) (op_str Try.underlying9) (opensWFs_cons 1 (by kernel_rfl) (by kernel_rfl) (op_i64 Try.underlying3) (opensWFs_cons 1 (by kernel_rfl) (by kernel_rfl) (op_i64 Try.underlying3) (opensWFs_cons 1 (by kernel_rfl) (by kernel_rfl) (op_bool Try.underlying4) (opensWFs_nil _)))))) (by
    rintro w S cs ⟨x0, x1, x2, x3, _⟩ ⟨_, _, rfl, ⟨p0, q0⟩, _, _, rfl, ⟨p1, q1⟩, _, _, rfl, ⟨p2, q2⟩, _, _, rfl, ⟨p3, q3⟩, rfl⟩
    obtain rfl := p0
    obtain rfl := p1
    obtain rfl := p2
    obtain rfl := p3
    exact ⟨rfl, q0, q1, q2, q3⟩)
end Go.Proofs.Ytagbblaegdedpaa.Sl
namespace Go.Proofs.Ytagbblaegdedpaa.wholeTxns
open Go.ChangeShapes Go.WideShapes Go.ChangeAt Go.RowKit
open Go.ChangeMaps (open_string shut_string)
set_option linter.unusedVariables false
theorem own : ownKnob Try.prog.godebug = none := by kernel_rfl
theorem laidOut : laidOutB Try.prog = true := by kernel_rfl
set_option maxRecDepth 100000 in
set_option maxHeartbeats 1000000 in
theorem lifted (os : Os) (started : os.Started) (H : Type) (enc : TypeId × Value → H) :
    ReturnsInHanded {} Try.checked os 12 .any (Rows.wholeTxnsSpec.pre6 enc Try.prog Try.f12 Rows.wholeTxnsRow.domain false) (Rows.wholeTxnsSpec.post enc Try.prog Try.f12 false true false false) := by
  refine returnsInHanded_of_change_sized (C := Try.checked) own started (by kernel_rfl) Try.func12
    (ChangeSpec.witness6 (enc := enc) (C := Try.checked) false ⟨#[], #[.agg #[.int .i64 0, .int .i64 0, .int .i64 0, .bool false, .string ⟨#[]⟩], .agg #[.bool false, .string ⟨#[]⟩, .int .i64 0, .int .i64 0, .int .i64 0], .agg #[.string ⟨#[]⟩, .int .i64 0, .int .i64 0, .bool false]], []⟩ 8 (by kernel_rfl) (by kernel_rfl) (by kernel_rfl) (by kernel_rfl)) ?_
  intro W base args ds gs before hval0 hW hcnd hsz0 _
  have hsz : (DataW.weightsEach Try.prog (Try.f12.params.toList ++ Rows.wholeTxnsSpec.plain.varTypes Try.prog) (ds ++ gs)).all (· ≤ reachBytes) = true := hsz0
  have hval : ∀ (j : Nat) t v, Try.f12.params[j]? = some t → args[j]? = some v → Value.okWide Try.prog W .any base t v := hval0
  have hW' := hW
  obtain ⟨p, q, hA0, hV, rfl, hfz, hnd⟩ := hW
  have hA : DataW.TrodAll enc Try.prog W 0 (fun _ => true) true Try.f12.params.toList args.toList ds p := hA0
  rw [Try.params12] at hA hval hsz
  obtain ⟨v0, vs0, d0, ds0, p0, q0, hargs, rfl, rfl, h0, r0⟩ := trodAll_cons hA
  obtain ⟨v1, vs1, d1, ds1, p1, q1, rfl, rfl, rfl, h1, r1⟩ := trodAll_cons r0
  obtain ⟨v2, vs2, d2, ds2, p2, q2, rfl, rfl, rfl, h2, r2⟩ := trodAll_cons r1
  obtain ⟨rfl, rfl, rfl⟩ := trodAll_nil r2
  obtain rfl : args = #[v0, v1, v2] := by cases args; simp_all
  obtain ⟨rfl, rfl⟩ := trodVars_none hV
  have k0 := h0
  have lt0 : ∀ x ∈ p0, x.block < W.heap.size := by obtain ⟨m, hm⟩ := k0; exact DataW.trod_lt m _ _ _ hm
  obtain ⟨a0, cs0, rfl, r_0, w0⟩ := Sl.opens_arg2 Try.underlying105 (hval 0 105 v0 rfl rfl) Sl.op_Head h0 (fun x hx => of_decide_eq_true (List.all_eq_true.1 hsz x (Sl.weights_in 0 rfl rfl hx)))
  have e0 : cs0.toList = _ := r_0
  obtain rfl : cs0 = #[.int .i64 a0.fKind, .int .i64 a0.fVersion, .int .i64 a0.fNumber, .bool a0.fClient.null, .string (Sl.bsOf a0.fClient.data)] := by apply Array.toList_inj.1; exact e0
  have k1 := h1
  have lt1 : ∀ x ∈ p1, x.block < W.heap.size := by obtain ⟨m, hm⟩ := k1; exact DataW.trod_lt m _ _ _ hm
  obtain ⟨a1, cs1, rfl, r_1, w1⟩ := Sl.opens_arg2 Try.underlying107 (hval 1 107 v1 rfl rfl) Sl.op_TxnBegin h1 (fun x hx => of_decide_eq_true (List.all_eq_true.1 hsz x (Sl.weights_in 1 rfl rfl hx)))
  have e1 : cs1.toList = _ := r_1
  obtain rfl : cs1 = #[.bool a1.fID.null, .string (Sl.bsOf a1.fID.data), .int .i64 a1.fTimeout, .int .i64 a1.fProducer, .int .i64 a1.fEpoch] := by apply Array.toList_inj.1; exact e1
  have k2 := h2
  have lt2 : ∀ x ∈ p2, x.block < W.heap.size := by obtain ⟨m, hm⟩ := k2; exact DataW.trod_lt m _ _ _ hm
  obtain ⟨a2, cs2, rfl, r_2, w2⟩ := Sl.opens_arg2 Try.underlying109 (hval 2 109 v2 rfl rfl) Sl.op_TxnEnd h2 (fun x hx => of_decide_eq_true (List.all_eq_true.1 hsz x (Sl.weights_in 2 rfl rfl hx)))
  have e2 : cs2.toList = _ := r_2
  obtain rfl : cs2 = #[.string (Sl.bsOf a2.fID), .int .i64 a2.fProducer, .int .i64 a2.fEpoch, .bool a2.fCommit] := by apply Array.toList_inj.1; exact e2
  clear hA0 hval0 hsz0 hsz
  refine (Sl.f_top_WholeTxns_spec a0 a1 a2 true (Sl.pure_WholeTxns a0 a1 a2 w0 w1 w2) (fun _ => False) W (fun _ h => h) (Sl.RX.reads_triv _ _)).mono fun e W' hP => ?_
  obtain ⟨v, A', Ns, rfl, ⟨rfl, rfl, rfl⟩, hst⟩ := hP
  have bel := Sl.St.below hst
  exact ⟨_, rfl, _, _, _, [], _, [], hW', trodAll_mk1 (shut_bool Try.underlying4 _), (trodAll_cons_mk (Below.trod laidOut (by kernel_rfl) (of_decide_eq_true (by kernel_rfl)) k0 bel lt0) (trodAll_cons_mk (Below.trod laidOut (by kernel_rfl) (of_decide_eq_true (by kernel_rfl)) k1 bel lt1) (trodAll_cons_mk (Below.trod laidOut (by kernel_rfl) (of_decide_eq_true (by kernel_rfl)) k2 bel lt2) trodAll_mk0))), rfl, bel.frame _, fun h => by cases h⟩
theorem over : Rows.wholeTxnsRow.holds Try.pinned (OpenSpec.ofChange Rows.wholeTxnsSpec) :=
  OpenClaim.holds_of_wide 12 Try.f12 rfl rfl rfl rfl rfl rfl rfl ⟨rfl, rfl, rfl, rfl, rfl⟩ rfl rfl rfl rfl rfl (by kernel_rfl) Try.func12 (by kernel_rfl)
    (of_decide_eq_true (by kernel_rfl)) (by unfold Func.isWrapper; first | (rw [if_pos (by decide +kernel)]; kernel_rfl) | (rw [if_neg (by decide +kernel)]; exact ⟨rfl, rfl⟩))
    (fun os started H enc _ => lifted os started H enc)
theorem proved : Rows.WholeTxnsSaid := over
end Go.Proofs.Ytagbblaegdedpaa.wholeTxns
namespace Go.Proofs.Ytagbblaegdedpaa
theorem wholeTxns_holds : Rows.WholeTxnsSaid := wholeTxns.proved
end Go.Proofs.Ytagbblaegdedpaa
