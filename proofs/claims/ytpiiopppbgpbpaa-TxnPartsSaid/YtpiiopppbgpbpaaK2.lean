/- TxnParts: for every input the law returns true, and its arguments read behind the call as they did before. -/
import Derived.Test.YtpiiopppbgpbpaaRows
import Derived.WalkKit
import Derived.ProofKit
import Derived.OpenShut
import Derived.ShutString
import Derived.ChangeOld
import Derived.Below
import Derived.SizedLaws
import Derived.Test.YtpiiopppbgpbpaaK1
namespace Go.Proofs.Ytpiiopppbgpbpaa.Sl
open Go.RowKit
set_option linter.unusedVariables false
set_option linter.unusedSimpArgs false
set_option maxRecDepth 100000
def ft_cursitorlaw18 : FTab := []
theorem ft_cursitorlaw18_ok : (ft_cursitorlaw18).OK Try.prog := trivial
theorem mix_cursitorlaw18 : Try.prog.follows .mixedOrders = true := by kernel_rfl
theorem flat_cursitorlaw18_149 : Flat Try.prog 2 149 [.string, .int .i64, .int .i64, .bool] true := (Flat.struct Try.isAgg149 Try.sizeOf149 rfl Try.underlying149 Try.stoodInHeld149 ⟨by decide, rfl, [.string], [.int .i64, .int .i64, .bool], false, rfl, (Flat.one_ Try.isAgg9 Try.sizeOf9 Try.underlying9), ⟨by decide, rfl, [.int .i64], [.int .i64, .bool], false, rfl, (Flat.one_ Try.isAgg3 Try.sizeOf3 Try.underlying3), ⟨by decide, rfl, [.int .i64], [.bool], false, rfl, (Flat.one_ Try.isAgg3 Try.sizeOf3 Try.underlying3), ⟨by decide, rfl, [.bool], [], false, rfl, (Flat.one_ Try.isAgg4 Try.sizeOf4 Try.underlying4), rfl⟩⟩⟩⟩)
theorem bok_cursitorlaw18_149 : BOK Try.prog 149 #[.string ⟨#[]⟩, .int .i64 0, .int .i64 0, .bool false] [(0, 1), (1, 1), (2, 1), (3, 1)] := BOK.mk Try.zeroValue149 Try.runUnderlying149 (by intro w; simp)
theorem sok_cursitorlaw18_39_1 : SOK Try.prog 39 5 1 1 #[.int .u8 0] := SOK.mk Try.runUnderlying39 Try.sizeOf5 Try.zeroValue5 (by decide) (by kernel_rfl)
def f_l18_speaks  : Option (Bool) := (f_txn_EndWrite ([], 0) (⟨[97], 0, 0, true⟩ : TxnEnd)).bind fun st2 => (gOText st2).bind fun (x4, x5, st6) => (gNew x4).bind fun st8 => (if x5 = 0 then (if x4 = [0, 1, 97, 0, 0, 0, 0, 0, 0, 0, 0, 0, 0, 1] then ((f_txn_ReadEnd st8).bind fun (x30, st31) => if x30.fID = [97] then (if x30.fProducer = 0 then (if x30.fEpoch = 0 then (if x30.fCommit = true then ((f_txn_Rise []).bind fun x37 => if x37 = 10 then ((f_txn_Who 0 0).bind fun x40 => some (x40, st31)) else some (false, st31)) else some (false, st31)) else some (false, st31)) else some (false, st31)) else some (false, st31)) else some (false, st8)) else some (false, st8)).bind fun (y25, st26) => some y25
set_option maxRecDepth 100000 in
set_option maxHeartbeats 4000000 in
theorem f_l18_speaks_spec  (r : Bool) (h : f_l18_speaks  = some r) : SpecX Try.prog 65 #[] .triv (EmpR) (fun v A' N => v = .bool r ∧ A' = EmpR ∧ N = []) := by
  refine enterA Try.func65 rfl Try.ntmps65 rfl ?_
  intro F w hX
  unfold f_l18_speaks at h
  refine T.seq (T.region rfl ?_)
  refine TL.run ft_cursitorlaw18_ok [0] rfl rfl ?_
  refine TL.nil (X.seq (T.seq (T.region rfl ?_)))
  refine TL.newout rfl .u Try.zeroValue42 rfl (fun b1 => ?_)
  refine TL.nil (X.seq (T.seq (T.region rfl ?_)))
  refine TL.q rfl .u (Ex.bld (cells := #[.string ⟨#[97]⟩, .int .i64 0, .int .i64 0, .bool true]) bok_cursitorlaw18_149 rfl (by kernel_rfl)) rfl ?_
  obtain ⟨st2, hx3, h⟩ := Option.bind_eq_some_iff.1 h
  refine TL.c0 rfl .u (.fn Try.call94 rfl) (f_txn_EndWrite_spec b1 ([], 0) (⟨[97], 0, 0, true⟩ : TxnEnd) _ hx3) (fun _ hs => (Src.triv _)) rfl ?_
  obtain ⟨⟨x4, x5, st6⟩, hx7, h⟩ := Option.bind_eq_some_iff.1 h
  try dsimp only at h
  refine TL.nil (X.seq (T.seq (T.region rfl ?_)))
  refine TL.c0 rfl .u (.fn Try.call24 rfl) (gOText_spec b1 st2 _ hx7) (fun _ hs => (Src.triv _)) rfl ?_
  refine TL.run ft_cursitorlaw18_ok [1, 2, 3, 4, 5] rfl rfl ?_
  refine TL.nil (X.seq (T.seq (T.region rfl ?_)))
  obtain ⟨st8, hx9, h⟩ := Option.bind_eq_some_iff.1 h
  refine TL.run ft_cursitorlaw18_ok [0] rfl rfl ?_
  refine TL.cge rfl .u (.fn Try.call27 rfl) (gNew_spec x4 _ hx9) (fun _ hs => (RX.reads_triv _ _)) rfl ?_
  rintro _ _ _ ⟨b10, rfl, rfl, rfl⟩
  refine TL.sel [0, 0, 0] rfl ?_
  refine TL.run ft_cursitorlaw18_ok [2] rfl rfl ?_
  refine TL.nil (X.seq (T.seq ?_))
  obtain ⟨⟨y25, st26⟩, h, hk27⟩ := Option.bind_eq_some_iff.1 h
  refine T.jq (fun e Rs => e = [(0, .bool y25)] ∧ Rs = [InR b10 st26, OutR b1 st6, EmpR]) ?_ ?_
  · clear hk27
    refine T.region rfl ?_
    by_cases c28 : x5 = 0
    · replace h := ifT c28 h
      refine TL.run ft_cursitorlaw18_ok [0, 1, 2] rfl rfl ?_
      refine TL.q rfl (.g rfl rfl (decide_eq_true c28)) (Ex.ft ft_cursitorlaw18_ok rfl) rfl ?_
      refine TL.q rfl (.g rfl rfl (decide_eq_true c28)) (Ex.sEq rfl (m := [0, 1, 97, 0, 0, 0, 0, 0, 0, 0, 0, 0, 0, 1]) rfl) rfl ?_
      refine TL.q rfl .u (Ex.py rfl (decide_eq_true c28) rfl) rfl ?_
      by_cases c29 : x4 = [0, 1, 97, 0, 0, 0, 0, 0, 0, 0, 0, 0, 0, 1]
      · replace h := ifT c29 h
        refine TL.run ft_cursitorlaw18_ok [6] rfl rfl ?_
        refine TL.q rfl (.g rfl rfl (decide_eq_true c29)) (Ex.ft ft_cursitorlaw18_ok rfl) rfl ?_
        refine TL.q rfl (.g rfl rfl (decide_eq_true c29)) (Ex.pNe (.inr ⟨rfl, rfl⟩) rfl rfl Try.runUnderlying50) rfl ?_
        refine TL.q rfl .u (Ex.py rfl (decide_eq_true c29) rfl) rfl ?_
        refine TL.run ft_cursitorlaw18_ok [10] rfl rfl ?_
        refine TL.q rfl (.g rfl rfl rfl) (Ex.ft ft_cursitorlaw18_ok rfl) rfl ?_
        obtain ⟨⟨x30, st31⟩, hx32, h⟩ := Option.bind_eq_some_iff.1 h
        try dsimp only at h
        refine TL.c0 rfl (.g rfl rfl rfl) (.fn Try.call95 rfl) (f_txn_ReadEnd_spec b10 st8 _ hx32) (fun _ hs => (Src.triv _)) rfl ?_
        refine TL.q rfl (.g rfl rfl rfl) (Ex.bld (cells := #[.string ⟨#[97]⟩, .int .i64 0, .int .i64 0, .bool true]) bok_cursitorlaw18_149 rfl (by kernel_rfl)) rfl ?_
        by_cases c33 : x30.fID = [97]
        · replace h := ifT c33 h
          by_cases c34 : x30.fProducer = 0
          · replace h := ifT c34 h
            by_cases c35 : x30.fEpoch = 0
            · replace h := ifT c35 h
              by_cases c36 : x30.fCommit = true
              · replace h := ifT c36 h
                refine TL.q rfl (.g rfl rfl rfl) (Ex.aEq (us := [.string (bsOf x30.fID), .int .i64 x30.fProducer, .int .i64 x30.fEpoch, .bool x30.fCommit]) (vs := [.string ⟨#[97]⟩, .int .i64 0, .int .i64 0, .bool true]) flat_cursitorlaw18_149 rfl Try.eqGuardType149 rfl rfl rfl rfl (eqL_t (eqV_s (l := x30.fID) (m := [97]) c33) (eqL_t (eqV_i c34) (eqL_t (eqV_i c35) (eqL_t (eqV_b (c36.trans (Eq.symm rfl))) rfl))))) rfl ?_
                refine TL.q rfl .u (Ex.py rfl rfl rfl) rfl ?_
                obtain ⟨x37, hx38, h⟩ := Option.bind_eq_some_iff.1 h
                refine TL.run ft_cursitorlaw18_ok [16] rfl rfl ?_
                refine TL.ce rfl (.g rfl rfl rfl) (.fn Try.call69 rfl) (f_txn_Rise_spec [] _ _ _ hx38) (fun _ hs => slice_nil_reads) rfl ?_
                refine TL.q rfl (.g rfl rfl rfl) (Ex.ft ft_cursitorlaw18_ok rfl) rfl ?_
                refine TL.q rfl .u (Ex.py rfl rfl rfl) rfl ?_
                by_cases c39 : x37 = 10
                · replace h := ifT c39 h
                  obtain ⟨x40, hx41, h⟩ := Option.bind_eq_some_iff.1 h
                  refine TL.run ft_cursitorlaw18_ok [20] rfl rfl ?_
                  refine TL.ce rfl (.g rfl rfl (decide_eq_true c39)) (.fn Try.call68 rfl) (f_txn_Who_spec 0 0 _ hx41) (fun _ hs => (RX.reads_triv _ _)) rfl ?_
                  refine TL.q rfl .u (Ex.py rfl (decide_eq_true c39) rfl) rfl ?_
                  refine TL.run ft_cursitorlaw18_ok [23] rfl rfl ?_
                  cases h
                  exact TL.nil (X.jq [0, 0, 0] ⟨rfl, rfl⟩ (by rfl) (by rfl))
                · replace h := ifF c39 h
                  refine TL.run ft_cursitorlaw18_ok [20] rfl rfl ?_
                  refine TL.no rfl (.gn rfl rfl (decide_eq_false c39)) rfl ?_
                  refine TL.q rfl .u (Ex.pn rfl (decide_eq_false c39) rfl) rfl ?_
                  refine TL.run ft_cursitorlaw18_ok [23] rfl rfl ?_
                  cases h
                  exact TL.nil (X.jq [0, 0, 0] ⟨rfl, rfl⟩ (by rfl) (by rfl))
              · replace h := ifF c36 h
                replace c36 := eq_false_of_ne_true c36
                refine TL.q rfl (.g rfl rfl rfl) (Ex.aEq (us := [.string (bsOf x30.fID), .int .i64 x30.fProducer, .int .i64 x30.fEpoch, .bool x30.fCommit]) (vs := [.string ⟨#[97]⟩, .int .i64 0, .int .i64 0, .bool true]) flat_cursitorlaw18_149 rfl Try.eqGuardType149 rfl rfl rfl rfl (eqL_t (eqV_s (l := x30.fID) (m := [97]) c33) (eqL_t (eqV_i c34) (eqL_t (eqV_i c35) (eqL_f (eqV_bn (fun h => absurd ((Eq.symm c36).trans (h.trans rfl)) (by decide)))))))) rfl ?_
                refine TL.q rfl .u (Ex.py rfl rfl rfl) rfl ?_
                refine TL.run ft_cursitorlaw18_ok [16] rfl rfl ?_
                refine TL.no rfl (.gn rfl rfl rfl) rfl ?_
                refine TL.no rfl (.gn rfl rfl rfl) rfl ?_
                refine TL.q rfl .u (Ex.pn rfl rfl rfl) rfl ?_
                refine TL.run ft_cursitorlaw18_ok [20] rfl rfl ?_
                refine TL.no rfl (.gn rfl rfl rfl) rfl ?_
                refine TL.q rfl .u (Ex.pn rfl rfl rfl) rfl ?_
                refine TL.run ft_cursitorlaw18_ok [23] rfl rfl ?_
                cases h
                exact TL.nil (X.jq [0, 0, 0] ⟨rfl, rfl⟩ (by rfl) (by rfl))
            · replace h := ifF c35 h
              refine TL.q rfl (.g rfl rfl rfl) (Ex.aEq (us := [.string (bsOf x30.fID), .int .i64 x30.fProducer, .int .i64 x30.fEpoch, .bool x30.fCommit]) (vs := [.string ⟨#[97]⟩, .int .i64 0, .int .i64 0, .bool true]) flat_cursitorlaw18_149 rfl Try.eqGuardType149 rfl rfl rfl rfl (eqL_t (eqV_s (l := x30.fID) (m := [97]) c33) (eqL_t (eqV_i c34) (eqL_f (eqV_in c35))))) rfl ?_
              refine TL.q rfl .u (Ex.py rfl rfl rfl) rfl ?_
              refine TL.run ft_cursitorlaw18_ok [16] rfl rfl ?_
              refine TL.no rfl (.gn rfl rfl rfl) rfl ?_
              refine TL.no rfl (.gn rfl rfl rfl) rfl ?_
              refine TL.q rfl .u (Ex.pn rfl rfl rfl) rfl ?_
              refine TL.run ft_cursitorlaw18_ok [20] rfl rfl ?_
              refine TL.no rfl (.gn rfl rfl rfl) rfl ?_
              refine TL.q rfl .u (Ex.pn rfl rfl rfl) rfl ?_
              refine TL.run ft_cursitorlaw18_ok [23] rfl rfl ?_
              cases h
              exact TL.nil (X.jq [0, 0, 0] ⟨rfl, rfl⟩ (by rfl) (by rfl))
          · replace h := ifF c34 h
            refine TL.q rfl (.g rfl rfl rfl) (Ex.aEq (us := [.string (bsOf x30.fID), .int .i64 x30.fProducer, .int .i64 x30.fEpoch, .bool x30.fCommit]) (vs := [.string ⟨#[97]⟩, .int .i64 0, .int .i64 0, .bool true]) flat_cursitorlaw18_149 rfl Try.eqGuardType149 rfl rfl rfl rfl (eqL_t (eqV_s (l := x30.fID) (m := [97]) c33) (eqL_f (eqV_in c34)))) rfl ?_
            refine TL.q rfl .u (Ex.py rfl rfl rfl) rfl ?_
            refine TL.run ft_cursitorlaw18_ok [16] rfl rfl ?_
            refine TL.no rfl (.gn rfl rfl rfl) rfl ?_
            refine TL.no rfl (.gn rfl rfl rfl) rfl ?_
            refine TL.q rfl .u (Ex.pn rfl rfl rfl) rfl ?_
            refine TL.run ft_cursitorlaw18_ok [20] rfl rfl ?_
            refine TL.no rfl (.gn rfl rfl rfl) rfl ?_
            refine TL.q rfl .u (Ex.pn rfl rfl rfl) rfl ?_
            refine TL.run ft_cursitorlaw18_ok [23] rfl rfl ?_
            cases h
            exact TL.nil (X.jq [0, 0, 0] ⟨rfl, rfl⟩ (by rfl) (by rfl))
        · replace h := ifF c33 h
          refine TL.q rfl (.g rfl rfl rfl) (Ex.aEq (us := [.string (bsOf x30.fID), .int .i64 x30.fProducer, .int .i64 x30.fEpoch, .bool x30.fCommit]) (vs := [.string ⟨#[97]⟩, .int .i64 0, .int .i64 0, .bool true]) flat_cursitorlaw18_149 rfl Try.eqGuardType149 rfl rfl rfl rfl (eqL_f (eqV_sn (l := x30.fID) (m := [97]) c33))) rfl ?_
          refine TL.q rfl .u (Ex.py rfl rfl rfl) rfl ?_
          refine TL.run ft_cursitorlaw18_ok [16] rfl rfl ?_
          refine TL.no rfl (.gn rfl rfl rfl) rfl ?_
          refine TL.no rfl (.gn rfl rfl rfl) rfl ?_
          refine TL.q rfl .u (Ex.pn rfl rfl rfl) rfl ?_
          refine TL.run ft_cursitorlaw18_ok [20] rfl rfl ?_
          refine TL.no rfl (.gn rfl rfl rfl) rfl ?_
          refine TL.q rfl .u (Ex.pn rfl rfl rfl) rfl ?_
          refine TL.run ft_cursitorlaw18_ok [23] rfl rfl ?_
          cases h
          exact TL.nil (X.jq [0, 0, 0] ⟨rfl, rfl⟩ (by rfl) (by rfl))
      · replace h := ifF c29 h
        refine TL.run ft_cursitorlaw18_ok [6] rfl rfl ?_
        refine TL.no rfl (.gn rfl rfl (decide_eq_false c29)) rfl ?_
        refine TL.no rfl (.gn rfl rfl (decide_eq_false c29)) rfl ?_
        refine TL.q rfl .u (Ex.pn rfl (decide_eq_false c29) rfl) rfl ?_
        refine TL.run ft_cursitorlaw18_ok [10] rfl rfl ?_
        refine TL.no rfl (.gn rfl rfl rfl) rfl ?_
        refine TL.no rfl (.gn rfl rfl rfl) rfl ?_
        refine TL.no rfl (.gn rfl rfl rfl) rfl ?_
        refine TL.no rfl (.gn rfl rfl rfl) rfl ?_
        refine TL.q rfl .u (Ex.pn rfl rfl rfl) rfl ?_
        refine TL.run ft_cursitorlaw18_ok [16] rfl rfl ?_
        refine TL.no rfl (.gn rfl rfl rfl) rfl ?_
        refine TL.no rfl (.gn rfl rfl rfl) rfl ?_
        refine TL.q rfl .u (Ex.pn rfl rfl rfl) rfl ?_
        refine TL.run ft_cursitorlaw18_ok [20] rfl rfl ?_
        refine TL.no rfl (.gn rfl rfl rfl) rfl ?_
        refine TL.q rfl .u (Ex.pn rfl rfl rfl) rfl ?_
        refine TL.run ft_cursitorlaw18_ok [23] rfl rfl ?_
        cases h
        exact TL.nil (X.jq [0, 0, 0] ⟨rfl, rfl⟩ (by rfl) (by rfl))
    · replace h := ifF c28 h
      refine TL.run ft_cursitorlaw18_ok [0, 1, 2] rfl rfl ?_
      refine TL.no rfl (.gn rfl rfl (decide_eq_false c28)) rfl ?_
      refine TL.no rfl (.gn rfl rfl (decide_eq_false c28)) rfl ?_
      refine TL.q rfl .u (Ex.pn rfl (decide_eq_false c28) rfl) rfl ?_
      refine TL.run ft_cursitorlaw18_ok [6] rfl rfl ?_
      refine TL.no rfl (.gn rfl rfl rfl) rfl ?_
      refine TL.no rfl (.gn rfl rfl rfl) rfl ?_
      refine TL.q rfl .u (Ex.pn rfl rfl rfl) rfl ?_
      refine TL.run ft_cursitorlaw18_ok [10] rfl rfl ?_
      refine TL.no rfl (.gn rfl rfl rfl) rfl ?_
      refine TL.no rfl (.gn rfl rfl rfl) rfl ?_
      refine TL.no rfl (.gn rfl rfl rfl) rfl ?_
      refine TL.no rfl (.gn rfl rfl rfl) rfl ?_
      refine TL.q rfl .u (Ex.pn rfl rfl rfl) rfl ?_
      refine TL.run ft_cursitorlaw18_ok [16] rfl rfl ?_
      refine TL.no rfl (.gn rfl rfl rfl) rfl ?_
      refine TL.no rfl (.gn rfl rfl rfl) rfl ?_
      refine TL.q rfl .u (Ex.pn rfl rfl rfl) rfl ?_
      refine TL.run ft_cursitorlaw18_ok [20] rfl rfl ?_
      refine TL.no rfl (.gn rfl rfl rfl) rfl ?_
      refine TL.q rfl .u (Ex.pn rfl rfl rfl) rfl ?_
      refine TL.run ft_cursitorlaw18_ok [23] rfl rfl ?_
      cases h
      exact TL.nil (X.jq [0, 0, 0] ⟨rfl, rfl⟩ (by rfl) (by rfl))
  · rintro _ _ ⟨rfl, rfl⟩
    clear h
    have h := hk27
    clear hk27
    try dsimp only at h
    obtain rfl := Option.some.inj h
    exact X.seq (T.ret (X.done1 [2] Try.results65 (RV.tm rfl) ⟨rfl, rfl, rfl⟩ (by rfl) (.inl rfl)))
def f_l18_TxnParts (a0 : Int) (a1 : Int) (a2 : List Top) : Option (Bool) := (f_l18_speaks).bind fun x3 => if x3 = true then ((f_l14_Few a2).bind fun x6 => if x6 = 0 then some true else ((if (a2.length : Int) = 0 then some 10 else ((f_r14_Rise a2).bind fun x19 => (if x19 = true then some 0 else some 13).bind fun y22 => some y22)).bind fun y16 => ((f_txn_Who a0 a1).bind fun x44 => if a0 ≥ 0 then (if a1 ≥ 0 then (if x44 = true then (if a1 ≤ 32767 then ((f_txn_Rise a2).bind fun x50 => if x50 = y16 then some false else some true) else some true) else (if a1 ≤ 32767 then some true else ((f_txn_Rise a2).bind fun x54 => if x54 = y16 then some false else some true))) else (if x44 = true then some true else ((f_txn_Rise a2).bind fun x58 => if x58 = y16 then some false else some true))) else (if x44 = true then some true else ((f_txn_Rise a2).bind fun x62 => if x62 = y16 then some false else some true))).bind fun y42 => if y42 = true then none else ((gNew (toBs [(IntKind.u8.wrap a0)])).bind fun st67 => (f_txn_Bool st67).bind fun (x70, st71) => (f_txn_PutBool ([], 0) x70).bind fun st74 => (gOText st74).bind fun (x76, x77, st78) => (if x77 = 0 then (((toBs [(IntKind.u8.wrap a0)])[0]?).bind fun ch135 => (gErr st71).bind fun (x137, st138) => if x137 = 0 then (if (ch135.toNat : Int) < 2 then ((gErr st138).bind fun (x142, st143) => if x142 = 0 then (if x76 = (toBs [(IntKind.u8.wrap a0)]) then ((gErr st143).bind fun (x147, st148) => if x147 = 0 then some (true, st148) else ((gErr st148).bind fun (x151, st152) => if x151 = 11 then (if x70 = true then some (false, st152) else some (true, st152)) else some (false, st152))) else some (false, st143)) else ((gErr st143).bind fun (x156, st157) => if x156 = 0 then some (true, st157) else ((gErr st157).bind fun (x160, st161) => if x160 = 11 then (if x70 = true then some (false, st161) else some (true, st161)) else some (false, st161)))) else some (false, st138)) else (if (ch135.toNat : Int) < 2 then some (false, st138) else ((gErr st138).bind fun (x166, st167) => if x166 = 0 then (if x76 = (toBs [(IntKind.u8.wrap a0)]) then ((gErr st167).bind fun (x171, st172) => if x171 = 0 then some (true, st172) else ((gErr st172).bind fun (x175, st176) => if x175 = 11 then (if x70 = true then some (false, st176) else some (true, st176)) else some (false, st176))) else some (false, st167)) else ((gErr st167).bind fun (x180, st181) => if x180 = 0 then some (true, st181) else ((gErr st181).bind fun (x184, st185) => if x184 = 11 then (if x70 = true then some (false, st185) else some (true, st185)) else some (false, st185)))))) else some (false, st71)).bind fun (y131, st132) => some y131))) else none
set_option maxRecDepth 100000 in
set_option maxHeartbeats 4000000 in
theorem f_l18_TxnParts_spec (a0 : Int) (a1 : Int) (a2 : List Top) (A1 : Option Addr) (c2 : Nat) (r : Bool) (h : f_l18_TxnParts a0 a1 a2 = some r) : SpecX Try.prog 13 #[.int .i64 a0, .int .i64 a1, .slice A1 a2.length c2] (RX.of (sliceRd 2 Top_rd) [.slice A1 a2.length c2] a2) (EmpR) (fun v A' N => v = .bool r ∧ A' = EmpR ∧ N = []) := by
  refine enterA Try.func13 rfl Try.ntmps13 rfl ?_
  intro F w hX
  unfold f_l18_TxnParts at h
  refine T.seq (T.region rfl ?_)
  refine TL.run ft_cursitorlaw18_ok [0] rfl rfl ?_
  obtain ⟨x3, hx4, h⟩ := Option.bind_eq_some_iff.1 h
  refine TL.nil (X.seq (T.seq (T.seq (T.region rfl ?_))))
  refine TL.ce rfl .u (.fn Try.call65 rfl) (f_l18_speaks_spec _ hx4) (fun _ hs => (RX.reads_triv _ _)) rfl ?_
  refine TL.run ft_cursitorlaw18_ok [1] rfl rfl ?_
  by_cases c5 : x3 = true
  · replace h := ifT c5 h
    refine TL.nil (X.seq ?_)
    refine T.no rfl (bn_f c5) ?_
    refine T.skip (X.seq (T.seq (T.seq (T.region rfl ?_))))
    obtain ⟨x6, hx7, h⟩ := Option.bind_eq_some_iff.1 h
    refine TL.run ft_cursitorlaw18_ok [0] rfl rfl ?_
    refine TL.ce rfl .u (.fn Try.call66 rfl) (f_l14_Few_spec a2 _ _ _ hx7) (fun _ hs => (SrcE.old hs hX)) rfl ?_
    refine TL.run ft_cursitorlaw18_ok [2] rfl rfl ?_
    by_cases c8 : x6 = 0
    · replace h := ifT c8 h
      refine TL.nil (X.seq ?_)
      refine T.yes rfl (decide_eq_true c8) ?_
      refine T.seq (T.region rfl ?_)
      refine TL.run ft_cursitorlaw18_ok [0] rfl rfl ?_
      obtain rfl := Option.some.inj h
      exact TL.nil (X.seq (T.ret (X.rs (X.done1 [0] Try.results13 (RV.tm rfl) ⟨rfl, rfl, rfl⟩ (by rfl) (.inl rfl)))))
    · replace h := ifF c8 h
      refine TL.nil (X.seq ?_)
      refine T.no rfl (decide_eq_false c8) ?_
      refine T.skip (X.seq (T.seq (T.region rfl ?_)))
      refine TL.run ft_cursitorlaw18_ok [0] rfl rfl ?_
      refine TL.nil (X.seq (T.seq (T.block (T.seq (T.region rfl ?_)))))
      refine TL.run ft_cursitorlaw18_ok [0] rfl rfl ?_
      refine TL.q rfl .u (Ex.lenS rfl Try.runUnderlying106) rfl ?_
      refine TL.run ft_cursitorlaw18_ok [2, 3] rfl rfl ?_
      refine TL.nil (X.seq ?_)
      obtain ⟨y16, h, hk17⟩ := Option.bind_eq_some_iff.1 h
      refine T.jq (fun e Rs => e = [(0, .int .i64 a0), (1, .int .i64 a1), (2, .slice A1 a2.length c2), (6, .bool false), (7, .int .i64 y16)] ∧ Rs = [EmpR]) ?_ ?_
      · clear hk17
        by_cases c18 : (a2.length : Int) = 0
        · replace h := ifT c18 h
          refine T.yes rfl (decide_eq_true c18) ?_
          refine T.region rfl ?_
          refine TL.run ft_cursitorlaw18_ok [0] rfl rfl ?_
          cases h
          exact TL.nil (X.jq [0] ⟨rfl, rfl⟩ (by rfl) (by rfl))
        · replace h := ifF c18 h
          refine T.no rfl (decide_eq_false c18) ?_
          refine T.seq (T.region rfl ?_)
          obtain ⟨x19, hx20, h⟩ := Option.bind_eq_some_iff.1 h
          refine TL.run ft_cursitorlaw18_ok [0] rfl rfl ?_
          refine TL.ce rfl .u (.fn Try.call67 rfl) (f_r14_Rise_spec a2 _ _ _ hx20) (fun _ hs => (SrcE.old hs hX)) rfl ?_
          refine TL.run ft_cursitorlaw18_ok [2, 3] rfl rfl ?_
          refine TL.nil (X.seq ?_)
          obtain ⟨y22, h, hk23⟩ := Option.bind_eq_some_iff.1 h
          refine T.jq (fun e Rs => e = [(0, .int .i64 a0), (1, .int .i64 a1), (2, .slice A1 a2.length c2), (6, .bool false), (7, .int .i64 y22)] ∧ Rs = [EmpR]) ?_ ?_
          · clear hk23
            by_cases c24 : x19 = true
            · replace h := ifT c24 h
              refine T.no rfl (bn_f c24) ?_
              cases h
              exact T.skip (X.jq [0] ⟨rfl, rfl⟩ (by rfl) (by rfl))
            · replace h := ifF c24 h
              replace c24 := eq_false_of_ne_true c24
              refine T.yes rfl (bn_t c24) ?_
              refine T.region rfl ?_
              refine TL.run ft_cursitorlaw18_ok [0] rfl rfl ?_
              cases h
              exact TL.nil (X.jq [0] ⟨rfl, rfl⟩ (by rfl) (by rfl))
          · rintro _ _ ⟨rfl, rfl⟩
            clear h
            have h := hk23
            clear hk23
            try dsimp only at h
            cases h
            exact X.jq [0] ⟨rfl, rfl⟩ (by rfl) (by rfl)
      · rintro _ _ ⟨rfl, rfl⟩
        clear h
        have h := hk17
        clear hk17
        try dsimp only at h
        refine X.blk (X.seq (T.seq (T.seq ?_)))
        obtain ⟨y42, h, hk43⟩ := Option.bind_eq_some_iff.1 h
        refine T.jq (fun e Rs => e = [(0, .int .i64 a0), (6, .bool false), (46, .bool y42)] ∧ Rs = [EmpR]) ?_ ?_
        · clear hk43
          refine T.region rfl ?_
          obtain ⟨x44, hx45, h⟩ := Option.bind_eq_some_iff.1 h
          refine TL.run ft_cursitorlaw18_ok [0, 1] rfl rfl ?_
          refine TL.ce rfl .u (.fn Try.call68 rfl) (f_txn_Who_spec a0 a1 _ hx45) (fun _ hs => (RX.reads_triv _ _)) rfl ?_
          by_cases c46 : a0 ≥ 0
          · replace h := ifT c46 h
            refine TL.run ft_cursitorlaw18_ok [3, 4, 5] rfl rfl ?_
            refine TL.q rfl (.g rfl rfl (decide_eq_true c46)) (Ex.ft ft_cursitorlaw18_ok rfl) rfl ?_
            refine TL.q rfl (.g rfl rfl (decide_eq_true c46)) (Ex.ft ft_cursitorlaw18_ok rfl) rfl ?_
            refine TL.q rfl .u (Ex.py rfl (decide_eq_true c46) rfl) rfl ?_
            by_cases c47 : a1 ≥ 0
            · replace h := ifT c47 h
              refine TL.run ft_cursitorlaw18_ok [9] rfl rfl ?_
              refine TL.q rfl (.g rfl rfl (decide_eq_true c47)) (Ex.ft ft_cursitorlaw18_ok rfl) rfl ?_
              refine TL.q rfl (.g rfl rfl (decide_eq_true c47)) (Ex.ft ft_cursitorlaw18_ok rfl) rfl ?_
              refine TL.q rfl .u (Ex.py rfl (decide_eq_true c47) rfl) rfl ?_
              by_cases c48 : x44 = true
              · replace h := ifT c48 h
                by_cases c49 : a1 ≤ 32767
                · replace h := ifT c49 h
                  refine TL.q rfl .u (Ex.bNe rfl c48 rfl (decide_eq_true c49) Try.runUnderlying4) rfl ?_
                  refine TL.run ft_cursitorlaw18_ok [14] rfl rfl ?_
                  refine TL.q rfl (.g rfl rfl rfl) (Ex.ft ft_cursitorlaw18_ok rfl) rfl ?_
                  obtain ⟨x50, hx51, h⟩ := Option.bind_eq_some_iff.1 h
                  refine TL.ce rfl (.g rfl rfl rfl) (.fn Try.call69 rfl) (f_txn_Rise_spec a2 _ _ _ hx51) (fun _ hs => (SrcE.old hs hX)) rfl ?_
                  refine TL.q rfl (.g rfl rfl rfl) (Ex.ft ft_cursitorlaw18_ok rfl) rfl ?_
                  refine TL.q rfl (.g rfl rfl rfl) (Ex.ft ft_cursitorlaw18_ok rfl) rfl ?_
                  refine TL.q rfl .u (Ex.pn rfl rfl rfl) rfl ?_
                  by_cases c52 : x50 = y16
                  · replace h := ifT c52 h
                    cases h
                    exact TL.nil (X.as (d := 46) (v' := .bool false) rfl (congrArg Value.bool (bn_f (decide_eq_true c52))) (X.jq [0] ⟨rfl, rfl⟩ (by rfl) (by rfl)))
                  · replace h := ifF c52 h
                    cases h
                    exact TL.nil (X.as (d := 46) (v' := .bool true) rfl (congrArg Value.bool (bn_t (decide_eq_false c52))) (X.jq [0] ⟨rfl, rfl⟩ (by rfl) (by rfl)))
                · replace h := ifF c49 h
                  refine TL.q rfl .u (Ex.bNe rfl c48 rfl (decide_eq_false c49) Try.runUnderlying4) rfl ?_
                  refine TL.run ft_cursitorlaw18_ok [14] rfl rfl ?_
                  refine TL.no rfl (.gn rfl rfl rfl) rfl ?_
                  refine TL.no rfl (.gn rfl rfl rfl) rfl ?_
                  refine TL.no rfl (.gn rfl rfl rfl) rfl ?_
                  refine TL.no rfl (.gn rfl rfl rfl) rfl ?_
                  refine TL.q rfl .u (Ex.py rfl rfl rfl) rfl ?_
                  cases h
                  exact TL.nil (X.jq [0] ⟨rfl, rfl⟩ (by rfl) (by rfl))
              · replace h := ifF c48 h
                replace c48 := eq_false_of_ne_true c48
                by_cases c53 : a1 ≤ 32767
                · replace h := ifT c53 h
                  refine TL.q rfl .u (Ex.bNe rfl c48 rfl (decide_eq_true c53) Try.runUnderlying4) rfl ?_
                  refine TL.run ft_cursitorlaw18_ok [14] rfl rfl ?_
                  refine TL.no rfl (.gn rfl rfl rfl) rfl ?_
                  refine TL.no rfl (.gn rfl rfl rfl) rfl ?_
                  refine TL.no rfl (.gn rfl rfl rfl) rfl ?_
                  refine TL.no rfl (.gn rfl rfl rfl) rfl ?_
                  refine TL.q rfl .u (Ex.py rfl rfl rfl) rfl ?_
                  cases h
                  exact TL.nil (X.jq [0] ⟨rfl, rfl⟩ (by rfl) (by rfl))
                · replace h := ifF c53 h
                  refine TL.q rfl .u (Ex.bNe rfl c48 rfl (decide_eq_false c53) Try.runUnderlying4) rfl ?_
                  refine TL.run ft_cursitorlaw18_ok [14] rfl rfl ?_
                  refine TL.q rfl (.g rfl rfl rfl) (Ex.ft ft_cursitorlaw18_ok rfl) rfl ?_
                  obtain ⟨x54, hx55, h⟩ := Option.bind_eq_some_iff.1 h
                  refine TL.ce rfl (.g rfl rfl rfl) (.fn Try.call69 rfl) (f_txn_Rise_spec a2 _ _ _ hx55) (fun _ hs => (SrcE.old hs hX)) rfl ?_
                  refine TL.q rfl (.g rfl rfl rfl) (Ex.ft ft_cursitorlaw18_ok rfl) rfl ?_
                  refine TL.q rfl (.g rfl rfl rfl) (Ex.ft ft_cursitorlaw18_ok rfl) rfl ?_
                  refine TL.q rfl .u (Ex.pn rfl rfl rfl) rfl ?_
                  by_cases c56 : x54 = y16
                  · replace h := ifT c56 h
                    cases h
                    exact TL.nil (X.as (d := 46) (v' := .bool false) rfl (congrArg Value.bool (bn_f (decide_eq_true c56))) (X.jq [0] ⟨rfl, rfl⟩ (by rfl) (by rfl)))
                  · replace h := ifF c56 h
                    cases h
                    exact TL.nil (X.as (d := 46) (v' := .bool true) rfl (congrArg Value.bool (bn_t (decide_eq_false c56))) (X.jq [0] ⟨rfl, rfl⟩ (by rfl) (by rfl)))
            · replace h := ifF c47 h
              refine TL.run ft_cursitorlaw18_ok [9] rfl rfl ?_
              refine TL.no rfl (.gn rfl rfl (decide_eq_false c47)) rfl ?_
              refine TL.no rfl (.gn rfl rfl (decide_eq_false c47)) rfl ?_
              refine TL.q rfl .u (Ex.pn rfl (decide_eq_false c47) rfl) rfl ?_
              by_cases c57 : x44 = true
              · replace h := ifT c57 h
                refine TL.q rfl .u (Ex.bNe rfl c57 rfl rfl Try.runUnderlying4) rfl ?_
                refine TL.run ft_cursitorlaw18_ok [14] rfl rfl ?_
                refine TL.no rfl (.gn rfl rfl rfl) rfl ?_
                refine TL.no rfl (.gn rfl rfl rfl) rfl ?_
                refine TL.no rfl (.gn rfl rfl rfl) rfl ?_
                refine TL.no rfl (.gn rfl rfl rfl) rfl ?_
                refine TL.q rfl .u (Ex.py rfl rfl rfl) rfl ?_
                cases h
                exact TL.nil (X.jq [0] ⟨rfl, rfl⟩ (by rfl) (by rfl))
              · replace h := ifF c57 h
                replace c57 := eq_false_of_ne_true c57
                refine TL.q rfl .u (Ex.bNe rfl c57 rfl rfl Try.runUnderlying4) rfl ?_
                refine TL.run ft_cursitorlaw18_ok [14] rfl rfl ?_
                refine TL.q rfl (.g rfl rfl rfl) (Ex.ft ft_cursitorlaw18_ok rfl) rfl ?_
                obtain ⟨x58, hx59, h⟩ := Option.bind_eq_some_iff.1 h
                refine TL.ce rfl (.g rfl rfl rfl) (.fn Try.call69 rfl) (f_txn_Rise_spec a2 _ _ _ hx59) (fun _ hs => (SrcE.old hs hX)) rfl ?_
                refine TL.q rfl (.g rfl rfl rfl) (Ex.ft ft_cursitorlaw18_ok rfl) rfl ?_
                refine TL.q rfl (.g rfl rfl rfl) (Ex.ft ft_cursitorlaw18_ok rfl) rfl ?_
                refine TL.q rfl .u (Ex.pn rfl rfl rfl) rfl ?_
                by_cases c60 : x58 = y16
                · replace h := ifT c60 h
                  cases h
                  exact TL.nil (X.as (d := 46) (v' := .bool false) rfl (congrArg Value.bool (bn_f (decide_eq_true c60))) (X.jq [0] ⟨rfl, rfl⟩ (by rfl) (by rfl)))
                · replace h := ifF c60 h
                  cases h
                  exact TL.nil (X.as (d := 46) (v' := .bool true) rfl (congrArg Value.bool (bn_t (decide_eq_false c60))) (X.jq [0] ⟨rfl, rfl⟩ (by rfl) (by rfl)))
          · replace h := ifF c46 h
            refine TL.run ft_cursitorlaw18_ok [3, 4, 5] rfl rfl ?_
            refine TL.no rfl (.gn rfl rfl (decide_eq_false c46)) rfl ?_
            refine TL.no rfl (.gn rfl rfl (decide_eq_false c46)) rfl ?_
            refine TL.q rfl .u (Ex.pn rfl (decide_eq_false c46) rfl) rfl ?_
            refine TL.run ft_cursitorlaw18_ok [9] rfl rfl ?_
            refine TL.no rfl (.gn rfl rfl rfl) rfl ?_
            refine TL.no rfl (.gn rfl rfl rfl) rfl ?_
            refine TL.q rfl .u (Ex.pn rfl rfl rfl) rfl ?_
            by_cases c61 : x44 = true
            · replace h := ifT c61 h
              refine TL.q rfl .u (Ex.bNe rfl c61 rfl rfl Try.runUnderlying4) rfl ?_
              refine TL.run ft_cursitorlaw18_ok [14] rfl rfl ?_
              refine TL.no rfl (.gn rfl rfl rfl) rfl ?_
              refine TL.no rfl (.gn rfl rfl rfl) rfl ?_
              refine TL.no rfl (.gn rfl rfl rfl) rfl ?_
              refine TL.no rfl (.gn rfl rfl rfl) rfl ?_
              refine TL.q rfl .u (Ex.py rfl rfl rfl) rfl ?_
              cases h
              exact TL.nil (X.jq [0] ⟨rfl, rfl⟩ (by rfl) (by rfl))
            · replace h := ifF c61 h
              replace c61 := eq_false_of_ne_true c61
              refine TL.q rfl .u (Ex.bNe rfl c61 rfl rfl Try.runUnderlying4) rfl ?_
              refine TL.run ft_cursitorlaw18_ok [14] rfl rfl ?_
              refine TL.q rfl (.g rfl rfl rfl) (Ex.ft ft_cursitorlaw18_ok rfl) rfl ?_
              obtain ⟨x62, hx63, h⟩ := Option.bind_eq_some_iff.1 h
              refine TL.ce rfl (.g rfl rfl rfl) (.fn Try.call69 rfl) (f_txn_Rise_spec a2 _ _ _ hx63) (fun _ hs => (SrcE.old hs hX)) rfl ?_
              refine TL.q rfl (.g rfl rfl rfl) (Ex.ft ft_cursitorlaw18_ok rfl) rfl ?_
              refine TL.q rfl (.g rfl rfl rfl) (Ex.ft ft_cursitorlaw18_ok rfl) rfl ?_
              refine TL.q rfl .u (Ex.pn rfl rfl rfl) rfl ?_
              by_cases c64 : x62 = y16
              · replace h := ifT c64 h
                cases h
                exact TL.nil (X.as (d := 46) (v' := .bool false) rfl (congrArg Value.bool (bn_f (decide_eq_true c64))) (X.jq [0] ⟨rfl, rfl⟩ (by rfl) (by rfl)))
              · replace h := ifF c64 h
                cases h
                exact TL.nil (X.as (d := 46) (v' := .bool true) rfl (congrArg Value.bool (bn_t (decide_eq_false c64))) (X.jq [0] ⟨rfl, rfl⟩ (by rfl) (by rfl)))
        · rintro _ _ ⟨rfl, rfl⟩
          clear h
          have h := hk43
          clear hk43
          try dsimp only at h
          by_cases c65 : y42 = true
          · replace h := ifT c65 h
            refine X.seq ?_
            refine T.yes rfl c65 ?_
            exact nomatch h
          · replace h := ifF c65 h
            replace c65 := eq_false_of_ne_true c65
            refine X.seq ?_
            refine T.no rfl c65 ?_
            refine T.skip (X.seq (T.seq (T.region rfl ?_)))
            refine TL.run ft_cursitorlaw18_ok [0] rfl rfl ?_
            refine TL.q rfl .u (Ex.conv rfl Try.runUnderlying3 Try.runUnderlying5) rfl ?_
            refine TL.lit (cells := #[.int .u8 (IntKind.u8.wrap a0)]) rfl .u sok_cursitorlaw18_39_1 rfl (by rfl) rfl (fun b66 => ?_)
            refine TL.q rfl .u (Ex.blkStr (xs := [(IntKind.u8.wrap a0)]) 0 rfl rfl rfl rfl Try.runUnderlying39 Try.runUnderlying9 Try.runUnderlying5) rfl ?_
            refine TL.run ft_cursitorlaw18_ok [4] rfl rfl ?_
            refine TL.nil (X.seq (T.seq (T.region rfl ?_)))
            obtain ⟨st67, hx68, h⟩ := Option.bind_eq_some_iff.1 h
            refine TL.run ft_cursitorlaw18_ok [0] rfl rfl ?_
            refine TL.cge rfl .u (.fn Try.call27 rfl) (gNew_spec (toBs [(IntKind.u8.wrap a0)]) _ hx68) (fun _ hs => (RX.reads_triv _ _)) rfl ?_
            rintro _ _ _ ⟨b69, rfl, rfl, rfl⟩
            refine TL.sel [0, 0, 0] rfl ?_
            refine TL.run ft_cursitorlaw18_ok [2] rfl rfl ?_
            refine TL.nil (X.seq (T.seq (T.region rfl ?_)))
            obtain ⟨⟨x70, st71⟩, hx72, h⟩ := Option.bind_eq_some_iff.1 h
            try dsimp only at h
            refine TL.run ft_cursitorlaw18_ok [0] rfl rfl ?_
            refine TL.c0 rfl .u (.fn Try.call70 rfl) (f_txn_Bool_spec b69 st67 _ hx72) (fun _ hs => (Src.triv _)) rfl ?_
            refine TL.run ft_cursitorlaw18_ok [2] rfl rfl ?_
            refine TL.nil (X.seq (T.seq (T.region rfl ?_)))
            refine TL.newout rfl .u Try.zeroValue42 rfl (fun b73 => ?_)
            refine TL.nil (X.seq (T.seq (T.region rfl ?_)))
            obtain ⟨st74, hx75, h⟩ := Option.bind_eq_some_iff.1 h
            refine TL.run ft_cursitorlaw18_ok [0] rfl rfl ?_
            refine TL.c0 rfl .u (.fn Try.call71 rfl) (f_txn_PutBool_spec b73 ([], 0) x70 _ hx75) (fun _ hs => (Src.triv _)) rfl ?_
            obtain ⟨⟨x76, x77, st78⟩, hx79, h⟩ := Option.bind_eq_some_iff.1 h
            try dsimp only at h
            refine TL.nil (X.seq (T.seq (T.region rfl ?_)))
            refine TL.c0 rfl .u (.fn Try.call24 rfl) (gOText_spec b73 st74 _ hx79) (fun _ hs => (Src.triv _)) rfl ?_
            refine TL.run ft_cursitorlaw18_ok [1, 2, 3, 4, 5] rfl rfl ?_
            refine TL.nil (X.seq (T.seq ?_))
            obtain ⟨⟨y131, st132⟩, h, hk133⟩ := Option.bind_eq_some_iff.1 h
            refine T.jq (fun e Rs => e = [(6, .bool y131)] ∧ Rs = [OutR b73 st78, InR b69 st132, BlkR b66 5 #[.int .u8 (IntKind.u8.wrap a0)], EmpR]) ?_ ?_
            · clear hk133
              refine T.draw (.q 0 (.q 1 (.q 2 (.q 3 (.q 6 (.q 7 (.q 8 (.e 4 (.q 5 (.q 9 (.q 10 (.q 11 (.q 12 (.e 13 (.q 14 (.q 15 (.q 16 (.q 17 (.q 18 (.q 19 (.q 20 (.q 21 (.q 22 (.e 23 (.q 24 (.q 25 (.q 26 (.e 27 (.q 28 (.q 29 (.q 30 (.q 31 (.q 32 (.q 33 (.q 34 (.q 35 .nil)))))))))))))))))))))))))))))))))))) [0, 1, 1] rfl mix_cursitorlaw18 (NoP.seq (NoP.seq np_post)) (by kernel_rfl) ?_
              by_cases c134 : x77 = 0
              · replace h := ifT c134 h
                refine TD.run ft_cursitorlaw18_ok [0, 1, 2] rfl rfl ?_
                refine TD.q rfl (.g rfl rfl (decide_eq_true c134)) (Ex.ft ft_cursitorlaw18_ok rfl) rfl ?_
                refine TD.q rfl (.g rfl rfl (decide_eq_true c134)) (Ex.ft ft_cursitorlaw18_ok rfl) rfl ?_
                obtain ⟨ch135, hc136, h⟩ := Option.bind_eq_some_iff.1 h
                refine TD.q rfl (.g rfl rfl (decide_eq_true c134)) (Ex.sIx rfl rfl rfl Try.underlying9 hc136) rfl ?_
                refine TD.q rfl (.g rfl rfl (decide_eq_true c134)) (Ex.ft ft_cursitorlaw18_ok rfl) rfl ?_
                obtain ⟨⟨x137, st138⟩, hx139, h⟩ := Option.bind_eq_some_iff.1 h
                try dsimp only at h
                refine TD.c1 rfl (.g rfl rfl (decide_eq_true c134)) (.fn Try.call29 rfl) (gErr_spec b69 st71 _ hx139) (fun _ hs => (Src.triv _)) rfl [0, 1, 1] (rfl) ?_
                refine TD.q rfl (.g rfl rfl (decide_eq_true c134)) (Ex.ft ft_cursitorlaw18_ok rfl) rfl ?_
                by_cases c140 : x137 = 0
                · replace h := ifT c140 h
                  by_cases c141 : (ch135.toNat : Int) < 2
                  · replace h := ifT c141 h
                    refine TD.q rfl (.g rfl rfl (decide_eq_true c134)) (Ex.bEq rfl (decide_eq_true c140) rfl (decide_eq_true c141) Try.runUnderlying4) rfl ?_
                    refine TD.q rfl .u (Ex.py rfl (decide_eq_true c134) rfl) rfl ?_
                    refine TD.run ft_cursitorlaw18_ok [11] rfl rfl ?_
                    refine TD.q rfl (.g rfl rfl rfl) (Ex.ft ft_cursitorlaw18_ok rfl) rfl ?_
                    obtain ⟨⟨x142, st143⟩, hx144, h⟩ := Option.bind_eq_some_iff.1 h
                    try dsimp only at h
                    refine TD.c1 rfl (.g rfl rfl rfl) (.fn Try.call29 rfl) (gErr_spec b69 st138 _ hx144) (fun _ hs => (Src.triv _)) rfl [0, 1, 1] (rfl) ?_
                    refine TD.q rfl (.g rfl rfl rfl) (Ex.ft ft_cursitorlaw18_ok rfl) rfl ?_
                    refine TD.q rfl (.g rfl rfl rfl) (Ex.ft ft_cursitorlaw18_ok rfl) rfl ?_
                    by_cases c145 : x142 = 0
                    · replace h := ifT c145 h
                      refine TD.q rfl (.g rfl rfl (bn_f (decide_eq_true c145))) (Ex.ft ft_cursitorlaw18_ok rfl) rfl ?_
                      refine TD.q rfl (.g rfl rfl (bn_f (decide_eq_true c145))) (Ex.ft ft_cursitorlaw18_ok rfl) rfl ?_
                      refine TD.q rfl (.g rfl rfl (bn_f (decide_eq_true c145))) (Ex.sEq rfl rfl) rfl ?_
                      refine TD.q rfl (.g rfl rfl rfl) (Ex.pn rfl (bn_f (decide_eq_true c145)) rfl) rfl ?_
                      refine TD.q rfl .u (Ex.py rfl rfl rfl) rfl ?_
                      by_cases c146 : x76 = (toBs [(IntKind.u8.wrap a0)])
                      · replace h := ifT c146 h
                        refine TD.run ft_cursitorlaw18_ok [21] rfl rfl ?_
                        refine TD.q rfl (.g rfl rfl (decide_eq_true c146)) (Ex.ft ft_cursitorlaw18_ok rfl) rfl ?_
                        obtain ⟨⟨x147, st148⟩, hx149, h⟩ := Option.bind_eq_some_iff.1 h
                        try dsimp only at h
                        refine TD.c1 rfl (.g rfl rfl (decide_eq_true c146)) (.fn Try.call29 rfl) (gErr_spec b69 st143 _ hx149) (fun _ hs => (Src.triv _)) rfl [0, 1, 1] (rfl) ?_
                        refine TD.q rfl (.g rfl rfl (decide_eq_true c146)) (Ex.ft ft_cursitorlaw18_ok rfl) rfl ?_
                        refine TD.q rfl (.g rfl rfl (decide_eq_true c146)) (Ex.ft ft_cursitorlaw18_ok rfl) rfl ?_
                        by_cases c150 : x147 = 0
                        · replace h := ifT c150 h
                          refine TD.no rfl (.gn rfl rfl (decide_eq_true c150)) rfl ?_
                          refine TD.noe rfl (.gn rfl rfl (decide_eq_true c150)) rfl [0, 1, 1] rfl ?_
                          refine TD.no rfl (.gn rfl rfl (decide_eq_true c150)) rfl ?_
                          refine TD.no rfl (.gn rfl rfl (decide_eq_true c150)) rfl ?_
                          refine TD.no rfl (.gu rfl rfl) rfl ?_
                          refine TD.no rfl (.gu rfl rfl) rfl ?_
                          refine TD.no rfl (.gn rfl rfl (decide_eq_true c150)) rfl ?_
                          refine TD.q rfl (.g rfl rfl (decide_eq_true c146)) (Ex.py rfl (decide_eq_true c150) rfl) rfl ?_
                          refine TD.q rfl .u (Ex.py rfl (decide_eq_true c146) rfl) rfl ?_
                          refine TD.run ft_cursitorlaw18_ok [35] rfl rfl ?_
                          cases h
                          exact TD.nil (X.jq [0, 0, 0, 0] ⟨rfl, rfl⟩ (by rfl) (by rfl))
                        · replace h := ifF c150 h
                          refine TD.q rfl (.g rfl rfl (decide_eq_false c150)) (Ex.ft ft_cursitorlaw18_ok rfl) rfl ?_
                          obtain ⟨⟨x151, st152⟩, hx153, h⟩ := Option.bind_eq_some_iff.1 h
                          try dsimp only at h
                          refine TD.c1 rfl (.g rfl rfl (decide_eq_false c150)) (.fn Try.call29 rfl) (gErr_spec b69 st148 _ hx153) (fun _ hs => (Src.triv _)) rfl [0, 1, 1] (rfl) ?_
                          refine TD.q rfl (.g rfl rfl (decide_eq_false c150)) (Ex.ft ft_cursitorlaw18_ok rfl) rfl ?_
                          refine TD.q rfl (.g rfl rfl (decide_eq_false c150)) (Ex.ft ft_cursitorlaw18_ok rfl) rfl ?_
                          by_cases c154 : x151 = 11
                          · replace h := ifT c154 h
                            refine TD.q rfl (.g rfl rfl (decide_eq_true c154)) (Ex.ft ft_cursitorlaw18_ok rfl) rfl ?_
                            refine TD.q rfl (.g rfl rfl (decide_eq_true c154)) (Ex.ft ft_cursitorlaw18_ok rfl) rfl ?_
                            refine TD.q rfl (.g rfl rfl (decide_eq_false c150)) (Ex.py rfl (decide_eq_true c154) rfl) rfl ?_
                            refine TD.q rfl (.g rfl rfl (decide_eq_true c146)) (Ex.pn rfl (decide_eq_false c150) rfl) rfl ?_
                            refine TD.q rfl .u (Ex.py rfl (decide_eq_true c146) rfl) rfl ?_
                            refine TD.run ft_cursitorlaw18_ok [35] rfl rfl ?_
                            by_cases c155 : x70 = true
                            · replace h := ifT c155 h
                              cases h
                              exact TD.nil (X.as (d := 6) (v' := .bool false) rfl (congrArg Value.bool (bn_f c155)) (X.jq [0, 0, 0, 0] ⟨rfl, rfl⟩ (by rfl) (by rfl)))
                            · replace h := ifF c155 h
                              replace c155 := eq_false_of_ne_true c155
                              cases h
                              exact TD.nil (X.as (d := 6) (v' := .bool true) rfl (congrArg Value.bool (bn_t c155)) (X.jq [0, 0, 0, 0] ⟨rfl, rfl⟩ (by rfl) (by rfl)))
                          · replace h := ifF c154 h
                            refine TD.no rfl (.gn rfl rfl (decide_eq_false c154)) rfl ?_
                            refine TD.no rfl (.gn rfl rfl (decide_eq_false c154)) rfl ?_
                            refine TD.q rfl (.g rfl rfl (decide_eq_false c150)) (Ex.pn rfl (decide_eq_false c154) rfl) rfl ?_
                            refine TD.q rfl (.g rfl rfl (decide_eq_true c146)) (Ex.pn rfl (decide_eq_false c150) rfl) rfl ?_
                            refine TD.q rfl .u (Ex.py rfl (decide_eq_true c146) rfl) rfl ?_
                            refine TD.run ft_cursitorlaw18_ok [35] rfl rfl ?_
                            cases h
                            exact TD.nil (X.jq [0, 0, 0, 0] ⟨rfl, rfl⟩ (by rfl) (by rfl))
                      · replace h := ifF c146 h
                        refine TD.run ft_cursitorlaw18_ok [21] rfl rfl ?_
                        refine TD.no rfl (.gn rfl rfl (decide_eq_false c146)) rfl ?_
                        refine TD.noe rfl (.gn rfl rfl (decide_eq_false c146)) rfl [0, 1, 1] rfl ?_
                        refine TD.no rfl (.gn rfl rfl (decide_eq_false c146)) rfl ?_
                        refine TD.no rfl (.gn rfl rfl (decide_eq_false c146)) rfl ?_
                        refine TD.no rfl (.gu rfl rfl) rfl ?_
                        refine TD.noe rfl (.gu rfl rfl) rfl [0, 1, 1] rfl ?_
                        refine TD.no rfl (.gu rfl rfl) rfl ?_
                        refine TD.no rfl (.gu rfl rfl) rfl ?_
                        refine TD.no rfl (.gu rfl rfl) rfl ?_
                        refine TD.no rfl (.gu rfl rfl) rfl ?_
                        refine TD.no rfl (.gu rfl rfl) rfl ?_
                        refine TD.no rfl (.gn rfl rfl (decide_eq_false c146)) rfl ?_
                        refine TD.q rfl .u (Ex.pn rfl (decide_eq_false c146) rfl) rfl ?_
                        refine TD.run ft_cursitorlaw18_ok [35] rfl rfl ?_
                        cases h
                        exact TD.nil (X.jq [0, 0, 0, 0] ⟨rfl, rfl⟩ (by rfl) (by rfl))
                    · replace h := ifF c145 h
                      refine TD.no rfl (.gn rfl rfl (bn_t (decide_eq_false c145))) rfl ?_
                      refine TD.no rfl (.gn rfl rfl (bn_t (decide_eq_false c145))) rfl ?_
                      refine TD.no rfl (.gn rfl rfl (bn_t (decide_eq_false c145))) rfl ?_
                      refine TD.q rfl (.g rfl rfl rfl) (Ex.py rfl (bn_t (decide_eq_false c145)) rfl) rfl ?_
                      refine TD.q rfl .u (Ex.py rfl rfl rfl) rfl ?_
                      refine TD.run ft_cursitorlaw18_ok [21] rfl rfl ?_
                      refine TD.q rfl (.g rfl rfl rfl) (Ex.ft ft_cursitorlaw18_ok rfl) rfl ?_
                      obtain ⟨⟨x156, st157⟩, hx158, h⟩ := Option.bind_eq_some_iff.1 h
                      try dsimp only at h
                      refine TD.c1 rfl (.g rfl rfl rfl) (.fn Try.call29 rfl) (gErr_spec b69 st143 _ hx158) (fun _ hs => (Src.triv _)) rfl [0, 1, 1] (rfl) ?_
                      refine TD.q rfl (.g rfl rfl rfl) (Ex.ft ft_cursitorlaw18_ok rfl) rfl ?_
                      refine TD.q rfl (.g rfl rfl rfl) (Ex.ft ft_cursitorlaw18_ok rfl) rfl ?_
                      by_cases c159 : x156 = 0
                      · replace h := ifT c159 h
                        refine TD.no rfl (.gn rfl rfl (decide_eq_true c159)) rfl ?_
                        refine TD.noe rfl (.gn rfl rfl (decide_eq_true c159)) rfl [0, 1, 1] rfl ?_
                        refine TD.no rfl (.gn rfl rfl (decide_eq_true c159)) rfl ?_
                        refine TD.no rfl (.gn rfl rfl (decide_eq_true c159)) rfl ?_
                        refine TD.no rfl (.gu rfl rfl) rfl ?_
                        refine TD.no rfl (.gu rfl rfl) rfl ?_
                        refine TD.no rfl (.gn rfl rfl (decide_eq_true c159)) rfl ?_
                        refine TD.q rfl (.g rfl rfl rfl) (Ex.py rfl (decide_eq_true c159) rfl) rfl ?_
                        refine TD.q rfl .u (Ex.py rfl rfl rfl) rfl ?_
                        refine TD.run ft_cursitorlaw18_ok [35] rfl rfl ?_
                        cases h
                        exact TD.nil (X.jq [0, 0, 0, 0] ⟨rfl, rfl⟩ (by rfl) (by rfl))
                      · replace h := ifF c159 h
                        refine TD.q rfl (.g rfl rfl (decide_eq_false c159)) (Ex.ft ft_cursitorlaw18_ok rfl) rfl ?_
                        obtain ⟨⟨x160, st161⟩, hx162, h⟩ := Option.bind_eq_some_iff.1 h
                        try dsimp only at h
                        refine TD.c1 rfl (.g rfl rfl (decide_eq_false c159)) (.fn Try.call29 rfl) (gErr_spec b69 st157 _ hx162) (fun _ hs => (Src.triv _)) rfl [0, 1, 1] (rfl) ?_
                        refine TD.q rfl (.g rfl rfl (decide_eq_false c159)) (Ex.ft ft_cursitorlaw18_ok rfl) rfl ?_
                        refine TD.q rfl (.g rfl rfl (decide_eq_false c159)) (Ex.ft ft_cursitorlaw18_ok rfl) rfl ?_
                        by_cases c163 : x160 = 11
                        · replace h := ifT c163 h
                          refine TD.q rfl (.g rfl rfl (decide_eq_true c163)) (Ex.ft ft_cursitorlaw18_ok rfl) rfl ?_
                          refine TD.q rfl (.g rfl rfl (decide_eq_true c163)) (Ex.ft ft_cursitorlaw18_ok rfl) rfl ?_
                          refine TD.q rfl (.g rfl rfl (decide_eq_false c159)) (Ex.py rfl (decide_eq_true c163) rfl) rfl ?_
                          refine TD.q rfl (.g rfl rfl rfl) (Ex.pn rfl (decide_eq_false c159) rfl) rfl ?_
                          refine TD.q rfl .u (Ex.py rfl rfl rfl) rfl ?_
                          refine TD.run ft_cursitorlaw18_ok [35] rfl rfl ?_
                          by_cases c164 : x70 = true
                          · replace h := ifT c164 h
                            cases h
                            exact TD.nil (X.as (d := 6) (v' := .bool false) rfl (congrArg Value.bool (bn_f c164)) (X.jq [0, 0, 0, 0] ⟨rfl, rfl⟩ (by rfl) (by rfl)))
                          · replace h := ifF c164 h
                            replace c164 := eq_false_of_ne_true c164
                            cases h
                            exact TD.nil (X.as (d := 6) (v' := .bool true) rfl (congrArg Value.bool (bn_t c164)) (X.jq [0, 0, 0, 0] ⟨rfl, rfl⟩ (by rfl) (by rfl)))
                        · replace h := ifF c163 h
                          refine TD.no rfl (.gn rfl rfl (decide_eq_false c163)) rfl ?_
                          refine TD.no rfl (.gn rfl rfl (decide_eq_false c163)) rfl ?_
                          refine TD.q rfl (.g rfl rfl (decide_eq_false c159)) (Ex.pn rfl (decide_eq_false c163) rfl) rfl ?_
                          refine TD.q rfl (.g rfl rfl rfl) (Ex.pn rfl (decide_eq_false c159) rfl) rfl ?_
                          refine TD.q rfl .u (Ex.py rfl rfl rfl) rfl ?_
                          refine TD.run ft_cursitorlaw18_ok [35] rfl rfl ?_
                          cases h
                          exact TD.nil (X.jq [0, 0, 0, 0] ⟨rfl, rfl⟩ (by rfl) (by rfl))
                  · replace h := ifF c141 h
                    refine TD.q rfl (.g rfl rfl (decide_eq_true c134)) (Ex.bEq rfl (decide_eq_true c140) rfl (decide_eq_false c141) Try.runUnderlying4) rfl ?_
                    refine TD.q rfl .u (Ex.py rfl (decide_eq_true c134) rfl) rfl ?_
                    refine TD.run ft_cursitorlaw18_ok [11] rfl rfl ?_
                    refine TD.no rfl (.gn rfl rfl rfl) rfl ?_
                    refine TD.noe rfl (.gn rfl rfl rfl) rfl [0, 1, 1] rfl ?_
                    refine TD.no rfl (.gn rfl rfl rfl) rfl ?_
                    refine TD.no rfl (.gn rfl rfl rfl) rfl ?_
                    refine TD.no rfl (.gu rfl rfl) rfl ?_
                    refine TD.no rfl (.gu rfl rfl) rfl ?_
                    refine TD.no rfl (.gu rfl rfl) rfl ?_
                    refine TD.no rfl (.gn rfl rfl rfl) rfl ?_
                    refine TD.q rfl .u (Ex.pn rfl rfl rfl) rfl ?_
                    refine TD.run ft_cursitorlaw18_ok [21] rfl rfl ?_
                    refine TD.no rfl (.gn rfl rfl rfl) rfl ?_
                    refine TD.noe rfl (.gn rfl rfl rfl) rfl [0, 1, 1] rfl ?_
                    refine TD.no rfl (.gn rfl rfl rfl) rfl ?_
                    refine TD.no rfl (.gn rfl rfl rfl) rfl ?_
                    refine TD.no rfl (.gu rfl rfl) rfl ?_
                    refine TD.noe rfl (.gu rfl rfl) rfl [0, 1, 1] rfl ?_
                    refine TD.no rfl (.gu rfl rfl) rfl ?_
                    refine TD.no rfl (.gu rfl rfl) rfl ?_
                    refine TD.no rfl (.gu rfl rfl) rfl ?_
                    refine TD.no rfl (.gu rfl rfl) rfl ?_
                    refine TD.no rfl (.gu rfl rfl) rfl ?_
                    refine TD.no rfl (.gn rfl rfl rfl) rfl ?_
                    refine TD.q rfl .u (Ex.pn rfl rfl rfl) rfl ?_
                    refine TD.run ft_cursitorlaw18_ok [35] rfl rfl ?_
                    cases h
                    exact TD.nil (X.jq [0, 0, 0, 0] ⟨rfl, rfl⟩ (by rfl) (by rfl))
                · replace h := ifF c140 h
                  by_cases c165 : (ch135.toNat : Int) < 2
                  · replace h := ifT c165 h
                    refine TD.q rfl (.g rfl rfl (decide_eq_true c134)) (Ex.bEq rfl (decide_eq_false c140) rfl (decide_eq_true c165) Try.runUnderlying4) rfl ?_
                    refine TD.q rfl .u (Ex.py rfl (decide_eq_true c134) rfl) rfl ?_
                    refine TD.run ft_cursitorlaw18_ok [11] rfl rfl ?_
                    refine TD.no rfl (.gn rfl rfl rfl) rfl ?_
                    refine TD.noe rfl (.gn rfl rfl rfl) rfl [0, 1, 1] rfl ?_
                    refine TD.no rfl (.gn rfl rfl rfl) rfl ?_
                    refine TD.no rfl (.gn rfl rfl rfl) rfl ?_
                    refine TD.no rfl (.gu rfl rfl) rfl ?_
                    refine TD.no rfl (.gu rfl rfl) rfl ?_
                    refine TD.no rfl (.gu rfl rfl) rfl ?_
                    refine TD.no rfl (.gn rfl rfl rfl) rfl ?_
                    refine TD.q rfl .u (Ex.pn rfl rfl rfl) rfl ?_
                    refine TD.run ft_cursitorlaw18_ok [21] rfl rfl ?_
                    refine TD.no rfl (.gn rfl rfl rfl) rfl ?_
                    refine TD.noe rfl (.gn rfl rfl rfl) rfl [0, 1, 1] rfl ?_
                    refine TD.no rfl (.gn rfl rfl rfl) rfl ?_
                    refine TD.no rfl (.gn rfl rfl rfl) rfl ?_
                    refine TD.no rfl (.gu rfl rfl) rfl ?_
                    refine TD.noe rfl (.gu rfl rfl) rfl [0, 1, 1] rfl ?_
                    refine TD.no rfl (.gu rfl rfl) rfl ?_
                    refine TD.no rfl (.gu rfl rfl) rfl ?_
                    refine TD.no rfl (.gu rfl rfl) rfl ?_
                    refine TD.no rfl (.gu rfl rfl) rfl ?_
                    refine TD.no rfl (.gu rfl rfl) rfl ?_
                    refine TD.no rfl (.gn rfl rfl rfl) rfl ?_
                    refine TD.q rfl .u (Ex.pn rfl rfl rfl) rfl ?_
                    refine TD.run ft_cursitorlaw18_ok [35] rfl rfl ?_
                    cases h
                    exact TD.nil (X.jq [0, 0, 0, 0] ⟨rfl, rfl⟩ (by rfl) (by rfl))
                  · replace h := ifF c165 h
                    refine TD.q rfl (.g rfl rfl (decide_eq_true c134)) (Ex.bEq rfl (decide_eq_false c140) rfl (decide_eq_false c165) Try.runUnderlying4) rfl ?_
                    refine TD.q rfl .u (Ex.py rfl (decide_eq_true c134) rfl) rfl ?_
                    refine TD.run ft_cursitorlaw18_ok [11] rfl rfl ?_
                    refine TD.q rfl (.g rfl rfl rfl) (Ex.ft ft_cursitorlaw18_ok rfl) rfl ?_
                    obtain ⟨⟨x166, st167⟩, hx168, h⟩ := Option.bind_eq_some_iff.1 h
                    try dsimp only at h
                    refine TD.c1 rfl (.g rfl rfl rfl) (.fn Try.call29 rfl) (gErr_spec b69 st138 _ hx168) (fun _ hs => (Src.triv _)) rfl [0, 1, 1] (rfl) ?_
                    refine TD.q rfl (.g rfl rfl rfl) (Ex.ft ft_cursitorlaw18_ok rfl) rfl ?_
                    refine TD.q rfl (.g rfl rfl rfl) (Ex.ft ft_cursitorlaw18_ok rfl) rfl ?_
                    by_cases c169 : x166 = 0
                    · replace h := ifT c169 h
                      refine TD.q rfl (.g rfl rfl (bn_f (decide_eq_true c169))) (Ex.ft ft_cursitorlaw18_ok rfl) rfl ?_
                      refine TD.q rfl (.g rfl rfl (bn_f (decide_eq_true c169))) (Ex.ft ft_cursitorlaw18_ok rfl) rfl ?_
                      refine TD.q rfl (.g rfl rfl (bn_f (decide_eq_true c169))) (Ex.sEq rfl rfl) rfl ?_
                      refine TD.q rfl (.g rfl rfl rfl) (Ex.pn rfl (bn_f (decide_eq_true c169)) rfl) rfl ?_
                      refine TD.q rfl .u (Ex.py rfl rfl rfl) rfl ?_
                      by_cases c170 : x76 = (toBs [(IntKind.u8.wrap a0)])
                      · replace h := ifT c170 h
                        refine TD.run ft_cursitorlaw18_ok [21] rfl rfl ?_
                        refine TD.q rfl (.g rfl rfl (decide_eq_true c170)) (Ex.ft ft_cursitorlaw18_ok rfl) rfl ?_
                        obtain ⟨⟨x171, st172⟩, hx173, h⟩ := Option.bind_eq_some_iff.1 h
                        try dsimp only at h
                        refine TD.c1 rfl (.g rfl rfl (decide_eq_true c170)) (.fn Try.call29 rfl) (gErr_spec b69 st167 _ hx173) (fun _ hs => (Src.triv _)) rfl [0, 1, 1] (rfl) ?_
                        refine TD.q rfl (.g rfl rfl (decide_eq_true c170)) (Ex.ft ft_cursitorlaw18_ok rfl) rfl ?_
                        refine TD.q rfl (.g rfl rfl (decide_eq_true c170)) (Ex.ft ft_cursitorlaw18_ok rfl) rfl ?_
                        by_cases c174 : x171 = 0
                        · replace h := ifT c174 h
                          refine TD.no rfl (.gn rfl rfl (decide_eq_true c174)) rfl ?_
                          refine TD.noe rfl (.gn rfl rfl (decide_eq_true c174)) rfl [0, 1, 1] rfl ?_
                          refine TD.no rfl (.gn rfl rfl (decide_eq_true c174)) rfl ?_
                          refine TD.no rfl (.gn rfl rfl (decide_eq_true c174)) rfl ?_
                          refine TD.no rfl (.gu rfl rfl) rfl ?_
                          refine TD.no rfl (.gu rfl rfl) rfl ?_
                          refine TD.no rfl (.gn rfl rfl (decide_eq_true c174)) rfl ?_
                          refine TD.q rfl (.g rfl rfl (decide_eq_true c170)) (Ex.py rfl (decide_eq_true c174) rfl) rfl ?_
                          refine TD.q rfl .u (Ex.py rfl (decide_eq_true c170) rfl) rfl ?_
                          refine TD.run ft_cursitorlaw18_ok [35] rfl rfl ?_
                          cases h
                          exact TD.nil (X.jq [0, 0, 0, 0] ⟨rfl, rfl⟩ (by rfl) (by rfl))
                        · replace h := ifF c174 h
                          refine TD.q rfl (.g rfl rfl (decide_eq_false c174)) (Ex.ft ft_cursitorlaw18_ok rfl) rfl ?_
                          obtain ⟨⟨x175, st176⟩, hx177, h⟩ := Option.bind_eq_some_iff.1 h
                          try dsimp only at h
                          refine TD.c1 rfl (.g rfl rfl (decide_eq_false c174)) (.fn Try.call29 rfl) (gErr_spec b69 st172 _ hx177) (fun _ hs => (Src.triv _)) rfl [0, 1, 1] (rfl) ?_
                          refine TD.q rfl (.g rfl rfl (decide_eq_false c174)) (Ex.ft ft_cursitorlaw18_ok rfl) rfl ?_
                          refine TD.q rfl (.g rfl rfl (decide_eq_false c174)) (Ex.ft ft_cursitorlaw18_ok rfl) rfl ?_
                          by_cases c178 : x175 = 11
                          · replace h := ifT c178 h
                            refine TD.q rfl (.g rfl rfl (decide_eq_true c178)) (Ex.ft ft_cursitorlaw18_ok rfl) rfl ?_
                            refine TD.q rfl (.g rfl rfl (decide_eq_true c178)) (Ex.ft ft_cursitorlaw18_ok rfl) rfl ?_
                            refine TD.q rfl (.g rfl rfl (decide_eq_false c174)) (Ex.py rfl (decide_eq_true c178) rfl) rfl ?_
                            refine TD.q rfl (.g rfl rfl (decide_eq_true c170)) (Ex.pn rfl (decide_eq_false c174) rfl) rfl ?_
                            refine TD.q rfl .u (Ex.py rfl (decide_eq_true c170) rfl) rfl ?_
                            refine TD.run ft_cursitorlaw18_ok [35] rfl rfl ?_
                            by_cases c179 : x70 = true
                            · replace h := ifT c179 h
                              cases h
                              exact TD.nil (X.as (d := 6) (v' := .bool false) rfl (congrArg Value.bool (bn_f c179)) (X.jq [0, 0, 0, 0] ⟨rfl, rfl⟩ (by rfl) (by rfl)))
                            · replace h := ifF c179 h
                              replace c179 := eq_false_of_ne_true c179
                              cases h
                              exact TD.nil (X.as (d := 6) (v' := .bool true) rfl (congrArg Value.bool (bn_t c179)) (X.jq [0, 0, 0, 0] ⟨rfl, rfl⟩ (by rfl) (by rfl)))
                          · replace h := ifF c178 h
                            refine TD.no rfl (.gn rfl rfl (decide_eq_false c178)) rfl ?_
                            refine TD.no rfl (.gn rfl rfl (decide_eq_false c178)) rfl ?_
                            refine TD.q rfl (.g rfl rfl (decide_eq_false c174)) (Ex.pn rfl (decide_eq_false c178) rfl) rfl ?_
                            refine TD.q rfl (.g rfl rfl (decide_eq_true c170)) (Ex.pn rfl (decide_eq_false c174) rfl) rfl ?_
                            refine TD.q rfl .u (Ex.py rfl (decide_eq_true c170) rfl) rfl ?_
                            refine TD.run ft_cursitorlaw18_ok [35] rfl rfl ?_
                            cases h
                            exact TD.nil (X.jq [0, 0, 0, 0] ⟨rfl, rfl⟩ (by rfl) (by rfl))
                      · replace h := ifF c170 h
                        refine TD.run ft_cursitorlaw18_ok [21] rfl rfl ?_
                        refine TD.no rfl (.gn rfl rfl (decide_eq_false c170)) rfl ?_
                        refine TD.noe rfl (.gn rfl rfl (decide_eq_false c170)) rfl [0, 1, 1] rfl ?_
                        refine TD.no rfl (.gn rfl rfl (decide_eq_false c170)) rfl ?_
                        refine TD.no rfl (.gn rfl rfl (decide_eq_false c170)) rfl ?_
                        refine TD.no rfl (.gu rfl rfl) rfl ?_
                        refine TD.noe rfl (.gu rfl rfl) rfl [0, 1, 1] rfl ?_
                        refine TD.no rfl (.gu rfl rfl) rfl ?_
                        refine TD.no rfl (.gu rfl rfl) rfl ?_
                        refine TD.no rfl (.gu rfl rfl) rfl ?_
                        refine TD.no rfl (.gu rfl rfl) rfl ?_
                        refine TD.no rfl (.gu rfl rfl) rfl ?_
                        refine TD.no rfl (.gn rfl rfl (decide_eq_false c170)) rfl ?_
                        refine TD.q rfl .u (Ex.pn rfl (decide_eq_false c170) rfl) rfl ?_
                        refine TD.run ft_cursitorlaw18_ok [35] rfl rfl ?_
                        cases h
                        exact TD.nil (X.jq [0, 0, 0, 0] ⟨rfl, rfl⟩ (by rfl) (by rfl))
                    · replace h := ifF c169 h
                      refine TD.no rfl (.gn rfl rfl (bn_t (decide_eq_false c169))) rfl ?_
                      refine TD.no rfl (.gn rfl rfl (bn_t (decide_eq_false c169))) rfl ?_
                      refine TD.no rfl (.gn rfl rfl (bn_t (decide_eq_false c169))) rfl ?_
                      refine TD.q rfl (.g rfl rfl rfl) (Ex.py rfl (bn_t (decide_eq_false c169)) rfl) rfl ?_
                      refine TD.q rfl .u (Ex.py rfl rfl rfl) rfl ?_
                      refine TD.run ft_cursitorlaw18_ok [21] rfl rfl ?_
                      refine TD.q rfl (.g rfl rfl rfl) (Ex.ft ft_cursitorlaw18_ok rfl) rfl ?_
                      obtain ⟨⟨x180, st181⟩, hx182, h⟩ := Option.bind_eq_some_iff.1 h
                      try dsimp only at h
                      refine TD.c1 rfl (.g rfl rfl rfl) (.fn Try.call29 rfl) (gErr_spec b69 st167 _ hx182) (fun _ hs => (Src.triv _)) rfl [0, 1, 1] (rfl) ?_
                      refine TD.q rfl (.g rfl rfl rfl) (Ex.ft ft_cursitorlaw18_ok rfl) rfl ?_
                      refine TD.q rfl (.g rfl rfl rfl) (Ex.ft ft_cursitorlaw18_ok rfl) rfl ?_
                      by_cases c183 : x180 = 0
                      · replace h := ifT c183 h
                        refine TD.no rfl (.gn rfl rfl (decide_eq_true c183)) rfl ?_
                        refine TD.noe rfl (.gn rfl rfl (decide_eq_true c183)) rfl [0, 1, 1] rfl ?_
                        refine TD.no rfl (.gn rfl rfl (decide_eq_true c183)) rfl ?_
                        refine TD.no rfl (.gn rfl rfl (decide_eq_true c183)) rfl ?_
                        refine TD.no rfl (.gu rfl rfl) rfl ?_
                        refine TD.no rfl (.gu rfl rfl) rfl ?_
                        refine TD.no rfl (.gn rfl rfl (decide_eq_true c183)) rfl ?_
                        refine TD.q rfl (.g rfl rfl rfl) (Ex.py rfl (decide_eq_true c183) rfl) rfl ?_
                        refine TD.q rfl .u (Ex.py rfl rfl rfl) rfl ?_
                        refine TD.run ft_cursitorlaw18_ok [35] rfl rfl ?_
                        cases h
                        exact TD.nil (X.jq [0, 0, 0, 0] ⟨rfl, rfl⟩ (by rfl) (by rfl))
                      · replace h := ifF c183 h
                        refine TD.q rfl (.g rfl rfl (decide_eq_false c183)) (Ex.ft ft_cursitorlaw18_ok rfl) rfl ?_
                        obtain ⟨⟨x184, st185⟩, hx186, h⟩ := Option.bind_eq_some_iff.1 h
                        try dsimp only at h
                        refine TD.c1 rfl (.g rfl rfl (decide_eq_false c183)) (.fn Try.call29 rfl) (gErr_spec b69 st181 _ hx186) (fun _ hs => (Src.triv _)) rfl [0, 1, 1] (rfl) ?_
                        refine TD.q rfl (.g rfl rfl (decide_eq_false c183)) (Ex.ft ft_cursitorlaw18_ok rfl) rfl ?_
                        refine TD.q rfl (.g rfl rfl (decide_eq_false c183)) (Ex.ft ft_cursitorlaw18_ok rfl) rfl ?_
                        by_cases c187 : x184 = 11
                        · replace h := ifT c187 h
                          refine TD.q rfl (.g rfl rfl (decide_eq_true c187)) (Ex.ft ft_cursitorlaw18_ok rfl) rfl ?_
                          refine TD.q rfl (.g rfl rfl (decide_eq_true c187)) (Ex.ft ft_cursitorlaw18_ok rfl) rfl ?_
                          refine TD.q rfl (.g rfl rfl (decide_eq_false c183)) (Ex.py rfl (decide_eq_true c187) rfl) rfl ?_
                          refine TD.q rfl (.g rfl rfl rfl) (Ex.pn rfl (decide_eq_false c183) rfl) rfl ?_
                          refine TD.q rfl .u (Ex.py rfl rfl rfl) rfl ?_
                          refine TD.run ft_cursitorlaw18_ok [35] rfl rfl ?_
                          by_cases c188 : x70 = true
                          · replace h := ifT c188 h
                            cases h
                            exact TD.nil (X.as (d := 6) (v' := .bool false) rfl (congrArg Value.bool (bn_f c188)) (X.jq [0, 0, 0, 0] ⟨rfl, rfl⟩ (by rfl) (by rfl)))
                          · replace h := ifF c188 h
                            replace c188 := eq_false_of_ne_true c188
                            cases h
                            exact TD.nil (X.as (d := 6) (v' := .bool true) rfl (congrArg Value.bool (bn_t c188)) (X.jq [0, 0, 0, 0] ⟨rfl, rfl⟩ (by rfl) (by rfl)))
                        · replace h := ifF c187 h
                          refine TD.no rfl (.gn rfl rfl (decide_eq_false c187)) rfl ?_
                          refine TD.no rfl (.gn rfl rfl (decide_eq_false c187)) rfl ?_
                          refine TD.q rfl (.g rfl rfl (decide_eq_false c183)) (Ex.pn rfl (decide_eq_false c187) rfl) rfl ?_
                          refine TD.q rfl (.g rfl rfl rfl) (Ex.pn rfl (decide_eq_false c183) rfl) rfl ?_
                          refine TD.q rfl .u (Ex.py rfl rfl rfl) rfl ?_
                          refine TD.run ft_cursitorlaw18_ok [35] rfl rfl ?_
                          cases h
                          exact TD.nil (X.jq [0, 0, 0, 0] ⟨rfl, rfl⟩ (by rfl) (by rfl))
              · replace h := ifF c134 h
                refine TD.run ft_cursitorlaw18_ok [0, 1, 2] rfl rfl ?_
                refine TD.no rfl (.gn rfl rfl (decide_eq_false c134)) rfl ?_
                refine TD.no rfl (.gn rfl rfl (decide_eq_false c134)) rfl ?_
                refine TD.no rfl (.gn rfl rfl (decide_eq_false c134)) rfl ?_
                refine TD.no rfl (.gn rfl rfl (decide_eq_false c134)) rfl ?_
                refine TD.noe rfl (.gn rfl rfl (decide_eq_false c134)) rfl [0, 1, 1] rfl ?_
                refine TD.no rfl (.gn rfl rfl (decide_eq_false c134)) rfl ?_
                refine TD.no rfl (.gn rfl rfl (decide_eq_false c134)) rfl ?_
                refine TD.q rfl .u (Ex.pn rfl (decide_eq_false c134) rfl) rfl ?_
                refine TD.run ft_cursitorlaw18_ok [11] rfl rfl ?_
                refine TD.no rfl (.gn rfl rfl rfl) rfl ?_
                refine TD.noe rfl (.gn rfl rfl rfl) rfl [0, 1, 1] rfl ?_
                refine TD.no rfl (.gn rfl rfl rfl) rfl ?_
                refine TD.no rfl (.gn rfl rfl rfl) rfl ?_
                refine TD.no rfl (.gu rfl rfl) rfl ?_
                refine TD.no rfl (.gu rfl rfl) rfl ?_
                refine TD.no rfl (.gu rfl rfl) rfl ?_
                refine TD.no rfl (.gn rfl rfl rfl) rfl ?_
                refine TD.q rfl .u (Ex.pn rfl rfl rfl) rfl ?_
                refine TD.run ft_cursitorlaw18_ok [21] rfl rfl ?_
                refine TD.no rfl (.gn rfl rfl rfl) rfl ?_
                refine TD.noe rfl (.gn rfl rfl rfl) rfl [0, 1, 1] rfl ?_
                refine TD.no rfl (.gn rfl rfl rfl) rfl ?_
                refine TD.no rfl (.gn rfl rfl rfl) rfl ?_
                refine TD.no rfl (.gu rfl rfl) rfl ?_
                refine TD.noe rfl (.gu rfl rfl) rfl [0, 1, 1] rfl ?_
                refine TD.no rfl (.gu rfl rfl) rfl ?_
                refine TD.no rfl (.gu rfl rfl) rfl ?_
                refine TD.no rfl (.gu rfl rfl) rfl ?_
                refine TD.no rfl (.gu rfl rfl) rfl ?_
                refine TD.no rfl (.gu rfl rfl) rfl ?_
                refine TD.no rfl (.gn rfl rfl rfl) rfl ?_
                refine TD.q rfl .u (Ex.pn rfl rfl rfl) rfl ?_
                refine TD.run ft_cursitorlaw18_ok [35] rfl rfl ?_
                cases h
                exact TD.nil (X.jq [0, 0, 0, 0] ⟨rfl, rfl⟩ (by rfl) (by rfl))
            · rintro _ _ ⟨rfl, rfl⟩
              clear h
              have h := hk133
              clear hk133
              try dsimp only at h
              obtain rfl := Option.some.inj h
              exact X.seq (T.ret (X.done1 [3] Try.results13 (RV.tm rfl) ⟨rfl, rfl, rfl⟩ (by rfl) (.inl rfl)))
  · replace h := ifF c5 h
    replace c5 := eq_false_of_ne_true c5
    refine TL.nil (X.seq ?_)
    refine T.yes rfl (bn_t c5) ?_
    exact nomatch h
end Go.Proofs.Ytpiiopppbgpbpaa.Sl
namespace Go.Proofs.Ytpiiopppbgpbpaa.Sl
open Go.RowKit
set_option linter.unusedVariables false
set_option linter.unusedSimpArgs false
theorem speaks18_eq : f_l18_speaks = some true := by kernel_rfl
def whoB (p e : Int) : Bool := decide (0 ≤ p) && decide (0 ≤ e) && decide (e ≤ 32767)
theorem who_eq (p e : Int) (h : wI e) : f_txn_Who p e = some (whoB p e) := by
  unfold f_txn_Who whoB
  by_cases h1 : p ≥ 0
  · rw [if_pos h1]
    by_cases h2 : e ≥ 0
    · rw [if_pos h2, gFits_eq _ _ h, Option.bind_some, Option.bind_some, fits_2, decide_eq_true h1, decide_eq_true h2]
      congr 1
      rw [Bool.eq_iff_iff]
      simp
      omega
    · rw [if_neg h2, decide_eq_false h2]
      simp
  · rw [if_neg h1, decide_eq_false h1]
    simp
def riseE (l : List Top) : Int := if l.length = 0 then 10 else if okts l = true then 0 else 13
theorem trise_eq (l : List Top) (hw : wL wf_Top l) (hl : l.length ≤ 1000000) : f_txn_Rise l = some (riseE l) := by
  have z0 : wI 0 := by constructor <;> decide
  have z1 : wI 1 := by constructor <;> decide
  unfold f_txn_Rise riseE
  by_cases h : l.length = 0
  · rw [if_pos (by omega), if_pos h]
  rw [if_neg (by omega), if_neg h, vcheck_eq _ ⟨z0, z0, z0, z1, hw, z0, z0⟩ hl, Option.bind_some]
  unfold chkV
  rw [if_neg (show ¬ badR (⟨0, 0, 0, 1, l, 0, 0⟩ : Val) by unfold badR; simp), if_neg (show ¬ ((⟨0, 0, 0, 1, l, 0, 0⟩ : Val).fState < 0 ∨ (⟨0, 0, 0, 1, l, 0, 0⟩ : Val).fState > 6) by simp), if_neg (show ¬ badC (⟨0, 0, 0, 1, l, 0, 0⟩ : Val) by unfold badC; simp only; omega)]
theorem one_byte (a : Int) : ∃ c : UInt8, toBs [IntKind.u8.wrap a] = [c] := ⟨_, rfl⟩
theorem put_bool (b : Bool) : f_txn_PutBool ([], 0) b = some ([if b = true then 1 else 0], 0) := by
  unfold f_txn_PutBool
  cases b
  · rw [if_neg (by decide), gOByte_eq _ _ (by simp)]
    rfl
  · rw [if_pos rfl, gOByte_eq _ _ (by simp)]
    rfl
theorem read_bool (c : UInt8) : (c.toNat < 2 ∧ ∃ b : Bool, [c] = [if b = true then (1 : UInt8) else 0] ∧ f_txn_Bool ⟨[c], 0, 0⟩ = some (b, ⟨[], 1, 0⟩)) ∨ (2 ≤ c.toNat ∧ f_txn_Bool ⟨[c], 0, 0⟩ = some (false, ⟨[], 1, 11⟩)) := by
  have hc := c.toNat_lt
  have hi : iint ⟨[c], 0, 0⟩ 1 = (sgn c, ⟨[], 1, 0⟩) := by
    have := iint_ok [c] 0 1 (by decide) (by decide) (by simp)
    rw [show ((1 : Nat) : Int) = 1 from rfl] at this
    rw [this]
    rfl
  unfold f_txn_Bool
  rw [gInt_eq, hi, Option.bind_some]
  simp only
  by_cases h0 : c = 0
  · subst h0
    exact .inl ⟨by decide, false, rfl, rfl⟩
  by_cases h1 : c = 1
  · subst h1
    exact .inl ⟨by decide, true, rfl, rfl⟩
  right
  have hn0 : c.toNat ≠ 0 := fun h => h0 (UInt8.toNat_inj.1 h)
  have hn1 : c.toNat ≠ 1 := fun h => h1 (UInt8.toNat_inj.1 h)
  refine ⟨by omega, ?_⟩
  have s0 : ¬ sgn c = 0 := by unfold sgn; split <;> omega
  have s1 : ¬ sgn c = 1 := by unfold sgn; split <;> omega
  rw [if_neg s0, if_neg s1, gIFail_eq, Option.bind_some, if_pos rfl, Option.bind_some, Option.bind_some]
  rw [if_neg s1]
  rfl
set_option maxHeartbeats 4000000 in
theorem pure_TxnParts (a0 : Int) (a1 : Int) (a2 : List Top) (w0 : -9223372036854775808 ≤ a0 ∧ a0 ≤ 9223372036854775807) (w1 : -9223372036854775808 ≤ a1 ∧ a1 ≤ 9223372036854775807) (w2 : (wL wf_Top) a2) : f_l18_TxnParts a0 a1 a2 = some true := by
  unfold f_l18_TxnParts
  rw [speaks18_eq, Option.bind_some, if_pos rfl]
  rcases few_eq a2 w2.2 with h | ⟨h, hw⟩
  · rw [h]
    rfl
  rw [h, Option.bind_some, if_neg (by decide)]
  have hn := wTs_len a2
  have hm : ∀ t, t ∈ a2 → t.fParts.length ≤ 1000000 ∧ t.fName.length ≤ 1000000 := fun t ht => by
    have := wTs_mem _ t ht
    unfold wT at this
    exact ⟨by omega, by omega⟩
  have W := who_eq a0 a1 w1
  have R := trise_eq a2 w2 (by omega)
  have R2 := rise_eq a2 (by omega) hm
  obtain ⟨c, hc⟩ := one_byte a0
  have N := gNew_eq [c] (by simp)
  have G : ([c] : List UInt8)[0]? = some c := rfl
  rw [W]
  simp only [R, R2, hc, N, G, Option.bind_some, put_bool, gOText_eq, otx_z, gErr_eq, if_true]
  unfold riseE
  unfold whoB
  rcases read_bool c with ⟨c1, b, c2, c3⟩ | ⟨c1, c3⟩
  · have c1' : (c.toNat : Int) < 2 := by omega
    simp only [c3, Option.bind_some, if_pos c1', if_true, ← c2]
    by_cases p1 : a0 ≥ 0
    · by_cases p2 : a1 ≥ 0
      · by_cases p3 : a1 ≤ 32767
        · simp only [if_pos p1, if_pos p2, if_pos p3, decide_eq_true p1, decide_eq_true p2, decide_eq_true p3, Bool.and_self, if_true]
          by_cases e0 : a2.length = 0
          · simp [e0]
          · cases ho : okts a2 <;> simp [e0, ho]
        · simp only [if_pos p1, if_pos p2, if_neg p3, decide_eq_true p1, decide_eq_true p2, decide_eq_false p3, Bool.and_false, Bool.false_eq_true, if_false, if_true]
          by_cases e0 : a2.length = 0
          · simp [e0]
          · cases ho : okts a2 <;> simp [e0, ho]
      · simp only [if_pos p1, if_neg p2, decide_eq_true p1, decide_eq_false p2, Bool.and_false, Bool.false_and, Bool.false_eq_true, if_false, if_true]
        by_cases e0 : a2.length = 0
        · simp [e0]
        · cases ho : okts a2 <;> simp [e0, ho]
    · simp only [if_neg p1, decide_eq_false p1, Bool.false_and, Bool.false_eq_true, if_false, if_true]
      by_cases e0 : a2.length = 0
      · simp [e0]
      · cases ho : okts a2 <;> simp [e0, ho]
  · have c1' : ¬ (c.toNat : Int) < 2 := by omega
    simp only [c3, Option.bind_some, if_neg c1', if_true]
    by_cases p1 : a0 ≥ 0
    · by_cases p2 : a1 ≥ 0
      · by_cases p3 : a1 ≤ 32767
        · simp only [if_pos p1, if_pos p2, if_pos p3, decide_eq_true p1, decide_eq_true p2, decide_eq_true p3, Bool.and_self, if_true]
          by_cases e0 : a2.length = 0
          · simp [e0]
          · cases ho : okts a2 <;> simp [e0, ho]
        · simp only [if_pos p1, if_pos p2, if_neg p3, decide_eq_true p1, decide_eq_true p2, decide_eq_false p3, Bool.and_false, Bool.false_eq_true, if_false, if_true]
          by_cases e0 : a2.length = 0
          · simp [e0]
          · cases ho : okts a2 <;> simp [e0, ho]
      · simp only [if_pos p1, if_neg p2, decide_eq_true p1, decide_eq_false p2, Bool.and_false, Bool.false_and, Bool.false_eq_true, if_false, if_true]
        by_cases e0 : a2.length = 0
        · simp [e0]
        · cases ho : okts a2 <;> simp [e0, ho]
    · simp only [if_neg p1, decide_eq_false p1, Bool.false_and, Bool.false_eq_true, if_false, if_true]
      by_cases e0 : a2.length = 0
      · simp [e0]
      · cases ho : okts a2 <;> simp [e0, ho]
end Go.Proofs.Ytpiiopppbgpbpaa.Sl
namespace Go.Proofs.Ytpiiopppbgpbpaa.Sl
open Go.RowKit Go.Deep Go.ChangeShapes
set_option linter.unusedVariables false
theorem op_Top {H : Type} {enc : TypeId × Value → H} : OpensW enc Try.prog 153 (andRd Top_rd wf_Top) :=
  opensW_weak (fun x => ⟨x.1, x.2.1⟩) (opensW_struct Try.underlying153 (by kernel_rfl) (opensWFs_cons 1 (by kernel_rfl) (by kernel_rfl) (op_str Try.underlying9) (opensWFs_cons 1 (by kernel_rfl) (by kernel_rfl) (op_slice 1 8 Try.underlying25 (by kernel_rfl) (by kernel_rfl) (by decide) (by decide) (op_i64 Try.underlying3)) (opensWFs_nil _)))) (by
    rintro w S cs ⟨x0, x1, _⟩ ⟨_, _, rfl, ⟨p0, q0⟩, _, _, rfl, ⟨p1, q1⟩, rfl⟩
    obtain rfl := p0
    obtain ⟨A1, c1, rfl⟩ := slice_cells p1
    exact ⟨⟨A1, c1, rfl, p1⟩, q0, q1⟩)
end Go.Proofs.Ytpiiopppbgpbpaa.Sl
namespace Go.Proofs.Ytpiiopppbgpbpaa.txnParts
open Go.ChangeShapes Go.WideShapes Go.ChangeAt Go.RowKit
open Go.ChangeMaps (open_string shut_string)
set_option linter.unusedVariables false
theorem own : ownKnob Try.prog.godebug = none := by kernel_rfl
theorem laidOut : laidOutB Try.prog = true := by kernel_rfl
set_option maxRecDepth 100000 in
set_option maxHeartbeats 1000000 in
theorem lifted (os : Os) (started : os.Started) (H : Type) (enc : TypeId × Value → H) :
    ReturnsInHanded {} Try.checked os 13 .any (Rows.txnPartsSpec.pre6 enc Try.prog Try.f13 Rows.txnPartsRow.domain false) (Rows.txnPartsSpec.post enc Try.prog Try.f13 false true false false) := by
  refine returnsInHanded_of_change_sized (C := Try.checked) own started (by kernel_rfl) Try.func13
    (ChangeSpec.witness6 (enc := enc) (C := Try.checked) false ⟨#[], #[.int .i64 0, .int .i64 0, .slice none 0 0], []⟩ 8 (by kernel_rfl) (by kernel_rfl) (by kernel_rfl) (by kernel_rfl)) ?_
  intro W base args ds gs before hval0 hW hcnd hsz0 _
  have hsz : (DataW.weightsEach Try.prog (Try.f13.params.toList ++ Rows.txnPartsSpec.plain.varTypes Try.prog) (ds ++ gs)).all (· ≤ reachBytes) = true := hsz0
  have hval : ∀ (j : Nat) t v, Try.f13.params[j]? = some t → args[j]? = some v → Value.okWide Try.prog W .any base t v := hval0
  have hW' := hW
  obtain ⟨p, q, hA0, hV, rfl, hfz, hnd⟩ := hW
  have hA : DataW.TrodAll enc Try.prog W 0 (fun _ => true) true Try.f13.params.toList args.toList ds p := hA0
  rw [Try.params13] at hA hval hsz
  obtain ⟨v0, vs0, d0, ds0, p0, q0, hargs, rfl, rfl, h0, r0⟩ := trodAll_cons hA
  obtain ⟨v1, vs1, d1, ds1, p1, q1, rfl, rfl, rfl, h1, r1⟩ := trodAll_cons r0
  obtain ⟨v2, vs2, d2, ds2, p2, q2, rfl, rfl, rfl, h2, r2⟩ := trodAll_cons r1
  obtain ⟨rfl, rfl, rfl⟩ := trodAll_nil r2
  obtain rfl : args = #[v0, v1, v2] := by cases args; simp_all
  obtain ⟨rfl, rfl⟩ := trodVars_none hV
  obtain ⟨a0, rfl, rfl, rfl, u0⟩ := open_int Try.underlying3 (hval 0 3 v0 rfl rfl) h0
  have w0 := Go.bounds_i64 u0
  obtain ⟨a1, rfl, rfl, rfl, u1⟩ := open_int Try.underlying3 (hval 1 3 v1 rfl rfl) h1
  have w1 := Go.bounds_i64 u1
  have k2 := h2
  have lt2 : ∀ x ∈ p2, x.block < W.heap.size := by obtain ⟨m, hm⟩ := k2; exact DataW.trod_lt m _ _ _ hm
  obtain ⟨a2, r_2, w2⟩ := Sl.opens_arg1 Try.underlying106 (hval 2 106 v2 rfl rfl) (Sl.op_slice 2 40 Try.underlying106 (by kernel_rfl) (by kernel_rfl) (by decide) (by decide) Sl.op_Top) h2 (fun x hx => of_decide_eq_true (List.all_eq_true.1 hsz x (Sl.weights_in 2 rfl rfl hx)))
  obtain ⟨A2, c2, e2⟩ := Sl.slice_cells r_2
  injection e2 with e2
  subst e2
  clear hA0 hval0 hsz0 hsz
  refine (Sl.f_l18_TxnParts_spec a0 a1 a2 A2 c2 true (Sl.pure_TxnParts a0 a1 a2 w0 w1 w2) (fun _ => False) W (fun _ h => h) (Sl.RX.reads_all r_2)).mono fun e W' hP => ?_
  obtain ⟨v, A', Ns, rfl, ⟨rfl, rfl, rfl⟩, hst⟩ := hP
  have bel := Sl.St.below hst
  exact ⟨_, rfl, _, _, _, [], _, [], hW', trodAll_mk1 (shut_bool Try.underlying4 _), (trodAll_cons_mk (shut_int Try.underlying3 u0) (trodAll_cons_mk (shut_int Try.underlying3 u1) (trodAll_cons_mk (Below.trod laidOut (by kernel_rfl) (of_decide_eq_true (by kernel_rfl)) k2 bel lt2) trodAll_mk0))), rfl, bel.frame _, fun h => by cases h⟩
theorem over : Rows.txnPartsRow.holds Try.pinned (OpenSpec.ofChange Rows.txnPartsSpec) :=
  OpenClaim.holds_of_wide 13 Try.f13 rfl rfl rfl rfl rfl rfl rfl ⟨rfl, rfl, rfl, rfl, rfl⟩ rfl rfl rfl rfl rfl (by kernel_rfl) Try.func13 (by kernel_rfl)
    (of_decide_eq_true (by kernel_rfl)) (by unfold Func.isWrapper; first | (rw [if_pos (by decide +kernel)]; kernel_rfl) | (rw [if_neg (by decide +kernel)]; exact ⟨rfl, rfl⟩))
    (fun os started H enc _ => lifted os started H enc)
theorem proved : Rows.TxnPartsSaid := over
end Go.Proofs.Ytpiiopppbgpbpaa.txnParts
namespace Go.Proofs.Ytpiiopppbgpbpaa
theorem txnParts_holds : Rows.TxnPartsSaid := txnParts.proved
end Go.Proofs.Ytpiiopppbgpbpaa
