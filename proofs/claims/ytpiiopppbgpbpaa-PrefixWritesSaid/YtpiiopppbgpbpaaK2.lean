/- PrefixWrites: for every input the law returns true, and its arguments read behind the call as they did before. -/
import Derived.Test.YtpiiopppbgpbpaaRows
import Derived.WalkKit
import Derived.ProofKit
import Derived.OpenShut
import Derived.ShutString
import Derived.ChangeOld
import Derived.Below
import Derived.SizedLaws
import Derived.Test.YtpiiopppbgpbpaaK1
namespace Go.Proofs.Ytpiiopppbgpbpaa.Sl
open Go.RowKit
set_option linter.unusedVariables false
set_option linter.unusedSimpArgs false
set_option maxRecDepth 100000
def ft_cursitorlaw10 : FTab := [(38, 0, 0), (38, 1, 1), (38, 2, 2), (38, 3, 3), (38, 4, 4), (38, 5, 5), (38, 6, 6), (38, 7, 7), (38, 8, 8), (38, 9, 9), (38, 10, 10), (38, 11, 11)]
theorem ft_cursitorlaw10_ok : (ft_cursitorlaw10).OK Try.prog := ⟨FOK.mk Try.runUnderlying38 rfl Try.sizeOf3 rfl, FOK.mk Try.runUnderlying38 rfl Try.sizeOf3 rfl, FOK.mk Try.runUnderlying38 rfl Try.sizeOf3 rfl, FOK.mk Try.runUnderlying38 rfl Try.sizeOf3 rfl, FOK.mk Try.runUnderlying38 rfl Try.sizeOf3 rfl, FOK.mk Try.runUnderlying38 rfl Try.sizeOf3 rfl, FOK.mk Try.runUnderlying38 rfl Try.sizeOf3 rfl, FOK.mk Try.runUnderlying38 rfl Try.sizeOf3 rfl, FOK.mk Try.runUnderlying38 rfl Try.sizeOf3 rfl, FOK.mk Try.runUnderlying38 rfl Try.sizeOf3 rfl, FOK.mk Try.runUnderlying38 rfl Try.sizeOf3 rfl, FOK.mk Try.runUnderlying38 rfl Try.sizeOf3 rfl, trivial⟩
theorem mix_cursitorlaw10 : Try.prog.follows .mixedOrders = true := by kernel_rfl
theorem flat_cursitorlaw10_38 : Flat Try.prog 2 38 [.int .i64, .int .i64, .int .i64, .int .i64, .int .i64, .int .i64, .int .i64, .int .i64, .int .i64, .int .i64, .int .i64, .int .i64] true := (Flat.struct Try.isAgg38 Try.sizeOf38 rfl Try.underlying38 Try.stoodInHeld38 ⟨by decide, rfl, [.int .i64], [.int .i64, .int .i64, .int .i64, .int .i64, .int .i64, .int .i64, .int .i64, .int .i64, .int .i64, .int .i64, .int .i64], false, rfl, (Flat.one_ Try.isAgg3 Try.sizeOf3 Try.underlying3), ⟨by decide, rfl, [.int .i64], [.int .i64, .int .i64, .int .i64, .int .i64, .int .i64, .int .i64, .int .i64, .int .i64, .int .i64, .int .i64], false, rfl, (Flat.one_ Try.isAgg3 Try.sizeOf3 Try.underlying3), ⟨by decide, rfl, [.int .i64], [.int .i64, .int .i64, .int .i64, .int .i64, .int .i64, .int .i64, .int .i64, .int .i64, .int .i64], false, rfl, (Flat.one_ Try.isAgg3 Try.sizeOf3 Try.underlying3), ⟨by decide, rfl, [.int .i64], [.int .i64, .int .i64, .int .i64, .int .i64, .int .i64, .int .i64, .int .i64, .int .i64], false, rfl, (Flat.one_ Try.isAgg3 Try.sizeOf3 Try.underlying3), ⟨by decide, rfl, [.int .i64], [.int .i64, .int .i64, .int .i64, .int .i64, .int .i64, .int .i64, .int .i64], false, rfl, (Flat.one_ Try.isAgg3 Try.sizeOf3 Try.underlying3), ⟨by decide, rfl, [.int .i64], [.int .i64, .int .i64, .int .i64, .int .i64, .int .i64, .int .i64], false, rfl, (Flat.one_ Try.isAgg3 Try.sizeOf3 Try.underlying3), ⟨by decide, rfl, [.int .i64], [.int .i64, .int .i64, .int .i64, .int .i64, .int .i64], false, rfl, (Flat.one_ Try.isAgg3 Try.sizeOf3 Try.underlying3), ⟨by decide, rfl, [.int .i64], [.int .i64, .int .i64, .int .i64, .int .i64], false, rfl, (Flat.one_ Try.isAgg3 Try.sizeOf3 Try.underlying3), ⟨by decide, rfl, [.int .i64], [.int .i64, .int .i64, .int .i64], false, rfl, (Flat.one_ Try.isAgg3 Try.sizeOf3 Try.underlying3), ⟨by decide, rfl, [.int .i64], [.int .i64, .int .i64], false, rfl, (Flat.one_ Try.isAgg3 Try.sizeOf3 Try.underlying3), ⟨by decide, rfl, [.int .i64], [.int .i64], false, rfl, (Flat.one_ Try.isAgg3 Try.sizeOf3 Try.underlying3), ⟨by decide, rfl, [.int .i64], [], false, rfl, (Flat.one_ Try.isAgg3 Try.sizeOf3 Try.underlying3), rfl⟩⟩⟩⟩⟩⟩⟩⟩⟩⟩⟩⟩)
theorem bok_cursitorlaw10_38 : BOK Try.prog 38 #[.int .i64 0, .int .i64 0, .int .i64 0, .int .i64 0, .int .i64 0, .int .i64 0, .int .i64 0, .int .i64 0, .int .i64 0, .int .i64 0, .int .i64 0, .int .i64 0] [(0, 1), (1, 1), (2, 1), (3, 1), (4, 1), (5, 1), (6, 1), (7, 1), (8, 1), (9, 1), (10, 1), (11, 1)] := BOK.mk Try.zeroValue38 Try.runUnderlying38 (by intro w; simp)
theorem sok_cursitorlaw10_25_12 : SOK Try.prog 25 3 12 1 #[.int .i64 0, .int .i64 0, .int .i64 0, .int .i64 0, .int .i64 0, .int .i64 0, .int .i64 0, .int .i64 0, .int .i64 0, .int .i64 0, .int .i64 0, .int .i64 0] := SOK.mk Try.runUnderlying25 Try.sizeOf3 Try.zeroValue3 (by decide) (by kernel_rfl)
def f_l10_speaks  : Option (Bool) := (f_prefix_Write ([], 0) (⟨0, 49, 0, 4294967295, 0, 0, 0, 0, -1, 0, 0, 0⟩ : Pfx)).bind fun st3 => (gOText st3).bind fun (x5, x6, st7) => (gNew x5).bind fun st9 => (if x6 = 0 then (if (x5.length : Int) = 61 then ((x5[16]?).bind fun ch21 => if (ch21.toNat : Int) = 2 then some false else some true) else some true) else some true).bind fun y17 => if y17 = true then some false else ((f_prefix_Peek x5).bind fun (x25, x26) => ((f_prefix_Read st9).bind fun (x51, st52) => if x51.fBase = 0 then (if x51.fLength = 49 then (if x51.fLeader = 0 then (if x51.fSum = 4294967295 then (if x51.fAttr = 0 then (if x51.fLast = 0 then (if x51.fFirst = 0 then (if x51.fMax = 0 then (if x51.fProducer = (-1) then (if x51.fEpoch = 0 then (if x51.fSequence = 0 then (if x51.fCount = 0 then ((gClose st52).bind fun (x66, st67) => if x66 = 0 then (if x25 = 61 then (if x26 = 0 then some (true, st67) else some (false, st67)) else some (false, st67)) else some (false, st67)) else some (false, st52)) else some (false, st52)) else some (false, st52)) else some (false, st52)) else some (false, st52)) else some (false, st52)) else some (false, st52)) else some (false, st52)) else some (false, st52)) else some (false, st52)) else some (false, st52)) else some (false, st52)).bind fun (y48, st49) => some y48)
set_option maxRecDepth 100000 in
set_option maxHeartbeats 4000000 in
theorem f_l10_speaks_spec  (r : Bool) (h : f_l10_speaks  = some r) : SpecX Try.prog 22 #[] .triv (EmpR) (fun v A' N => v = .bool r ∧ A' = EmpR ∧ N = []) := by
  refine enterA Try.func22 rfl Try.ntmps22 rfl ?_
  intro F w hX
  unfold f_l10_speaks at h
  refine T.seq (T.region rfl ?_)
  refine TL.run ft_cursitorlaw10_ok [0] rfl rfl ?_
  refine TL.nil (X.seq (T.seq (T.region rfl ?_)))
  refine TL.newout rfl .u Try.zeroValue42 rfl (fun b1 => ?_)
  refine TL.nil (X.seq (T.seq (T.region rfl ?_)))
  refine TL.q rfl .u (Ex.bld (cells := #[.int .i64 0, .int .i64 49, .int .i64 0, .int .i64 4294967295, .int .i64 0, .int .i64 0, .int .i64 0, .int .i64 0, .int .i64 (-1), .int .i64 0, .int .i64 0, .int .i64 0]) bok_cursitorlaw10_38 rfl (by kernel_rfl)) rfl ?_
  refine TL.alloc rfl .u Try.zeroValue38 rfl (fun b2 => ?_)
  refine TL.st0 (cs' := #[.int .i64 0, .int .i64 49, .int .i64 0, .int .i64 4294967295, .int .i64 0, .int .i64 0, .int .i64 0, .int .i64 0, .int .i64 (-1), .int .i64 0, .int .i64 0, .int .i64 0]) rfl .u rfl rfl Try.sizeOf38 rfl rfl rfl rfl ?_
  refine TL.nil (X.seq (T.seq (T.region rfl ?_)))
  refine TL.q rfl .u (Ex.bS (us := [.int .i64 0, .int .i64 49, .int .i64 0, .int .i64 4294967295, .int .i64 0, .int .i64 0, .int .i64 0, .int .i64 0, .int .i64 (-1), .int .i64 0, .int .i64 0, .int .i64 0]) 0 rfl Try.isAgg38 Try.sizeOf38 rfl rfl rfl) rfl ?_
  obtain ⟨st3, hx4, h⟩ := Option.bind_eq_some_iff.1 h
  refine TL.c1 rfl .u (.fn Try.call23 rfl) (f_prefix_Write_spec b1 ([], 0) (⟨0, 49, 0, 4294967295, 0, 0, 0, 0, -1, 0, 0, 0⟩ : Pfx) _ hx4) (fun _ hs => (Src.triv _)) rfl ?_
  obtain ⟨⟨x5, x6, st7⟩, hx8, h⟩ := Option.bind_eq_some_iff.1 h
  try dsimp only at h
  refine TL.nil (X.seq (T.seq (T.region rfl ?_)))
  refine TL.c1 rfl .u (.fn Try.call24 rfl) (gOText_spec b1 st3 _ hx8) (fun _ hs => (Src.triv _)) rfl ?_
  refine TL.run ft_cursitorlaw10_ok [1, 2, 3, 4, 5] rfl rfl ?_
  refine TL.nil (X.seq (T.seq (T.region rfl ?_)))
  obtain ⟨st9, hx10, h⟩ := Option.bind_eq_some_iff.1 h
  refine TL.run ft_cursitorlaw10_ok [0] rfl rfl ?_
  refine TL.cge rfl .u (.fn Try.call27 rfl) (gNew_spec x5 _ hx10) (fun _ hs => (RX.reads_triv _ _)) rfl ?_
  rintro _ _ _ ⟨b11, rfl, rfl, rfl⟩
  refine TL.sel [0, 0, 0, 0] rfl ?_
  refine TL.run ft_cursitorlaw10_ok [2] rfl rfl ?_
  refine TL.nil (X.seq (T.seq (T.seq ?_)))
  obtain ⟨y17, h, hk18⟩ := Option.bind_eq_some_iff.1 h
  refine T.jq (fun e Rs => e = [(0, .bool false), (2, .pointer (some ⟨b2, 0, none⟩)), (3, .string (bsOf x5)), (5, .pointer (some ⟨b11, 0, none⟩)), (32, .bool y17)] ∧ Rs = [InR b11 st9, BlkR b2 38 #[.int .i64 0, .int .i64 49, .int .i64 0, .int .i64 4294967295, .int .i64 0, .int .i64 0, .int .i64 0, .int .i64 0, .int .i64 (-1), .int .i64 0, .int .i64 0, .int .i64 0], OutR b1 st7, EmpR]) ?_ ?_
  · clear hk18
    refine T.region rfl ?_
    by_cases c19 : x6 = 0
    · replace h := ifT c19 h
      refine TL.run ft_cursitorlaw10_ok [0, 1, 2] rfl rfl ?_
      refine TL.q rfl (.g rfl rfl (bn_f (decide_eq_true c19))) (Ex.ft ft_cursitorlaw10_ok rfl) rfl ?_
      refine TL.q rfl (.g rfl rfl (bn_f (decide_eq_true c19))) (Ex.lenB rfl Try.runUnderlying9) rfl ?_
      refine TL.q rfl (.g rfl rfl (bn_f (decide_eq_true c19))) (Ex.ft ft_cursitorlaw10_ok rfl) rfl ?_
      refine TL.q rfl .u (Ex.pn rfl (bn_f (decide_eq_true c19)) rfl) rfl ?_
      by_cases c20 : (x5.length : Int) = 61
      · replace h := ifT c20 h
        refine TL.run ft_cursitorlaw10_ok [7] rfl rfl ?_
        refine TL.q rfl (.g rfl rfl (bn_f (decide_eq_true c20))) (Ex.ft ft_cursitorlaw10_ok rfl) rfl ?_
        obtain ⟨ch21, hc22, h⟩ := Option.bind_eq_some_iff.1 h
        refine TL.q rfl (.g rfl rfl (bn_f (decide_eq_true c20))) (Ex.sIx rfl rfl rfl Try.underlying9 hc22) rfl ?_
        refine TL.q rfl (.g rfl rfl (bn_f (decide_eq_true c20))) (Ex.ft ft_cursitorlaw10_ok rfl) rfl ?_
        refine TL.q rfl .u (Ex.pn rfl (bn_f (decide_eq_true c20)) rfl) rfl ?_
        by_cases c23 : (ch21.toNat : Int) = 2
        · replace h := ifT c23 h
          refine TL.run ft_cursitorlaw10_ok [12] rfl rfl ?_
          refine TL.q rfl (.g rfl rfl (bn_f (decide_eq_true c23))) (Ex.ft ft_cursitorlaw10_ok rfl) rfl ?_
          refine TL.q rfl (.g rfl rfl (bn_f (decide_eq_true c23))) (Ex.pNe (.inl ⟨rfl, rfl⟩) rfl rfl Try.runUnderlying50) rfl ?_
          refine TL.q rfl .u (Ex.pn rfl (bn_f (decide_eq_true c23)) rfl) rfl ?_
          cases h
          exact TL.nil (X.jq [0, 0, 0, 0] ⟨rfl, rfl⟩ (by rfl) (by rfl))
        · replace h := ifF c23 h
          refine TL.run ft_cursitorlaw10_ok [12] rfl rfl ?_
          refine TL.no rfl (.gn rfl rfl (bn_t (decide_eq_false c23))) rfl ?_
          refine TL.no rfl (.gn rfl rfl (bn_t (decide_eq_false c23))) rfl ?_
          refine TL.q rfl .u (Ex.py rfl (bn_t (decide_eq_false c23)) rfl) rfl ?_
          cases h
          exact TL.nil (X.jq [0, 0, 0, 0] ⟨rfl, rfl⟩ (by rfl) (by rfl))
      · replace h := ifF c20 h
        refine TL.run ft_cursitorlaw10_ok [7] rfl rfl ?_
        refine TL.no rfl (.gn rfl rfl (bn_t (decide_eq_false c20))) rfl ?_
        refine TL.no rfl (.gn rfl rfl (bn_t (decide_eq_false c20))) rfl ?_
        refine TL.no rfl (.gn rfl rfl (bn_t (decide_eq_false c20))) rfl ?_
        refine TL.q rfl .u (Ex.py rfl (bn_t (decide_eq_false c20)) rfl) rfl ?_
        refine TL.run ft_cursitorlaw10_ok [12] rfl rfl ?_
        refine TL.no rfl (.gn rfl rfl rfl) rfl ?_
        refine TL.no rfl (.gn rfl rfl rfl) rfl ?_
        refine TL.q rfl .u (Ex.py rfl rfl rfl) rfl ?_
        cases h
        exact TL.nil (X.jq [0, 0, 0, 0] ⟨rfl, rfl⟩ (by rfl) (by rfl))
    · replace h := ifF c19 h
      refine TL.run ft_cursitorlaw10_ok [0, 1, 2] rfl rfl ?_
      refine TL.no rfl (.gn rfl rfl (bn_t (decide_eq_false c19))) rfl ?_
      refine TL.no rfl (.gn rfl rfl (bn_t (decide_eq_false c19))) rfl ?_
      refine TL.no rfl (.gn rfl rfl (bn_t (decide_eq_false c19))) rfl ?_
      refine TL.q rfl .u (Ex.py rfl (bn_t (decide_eq_false c19)) rfl) rfl ?_
      refine TL.run ft_cursitorlaw10_ok [7] rfl rfl ?_
      refine TL.no rfl (.gn rfl rfl rfl) rfl ?_
      refine TL.no rfl (.gn rfl rfl rfl) rfl ?_
      refine TL.no rfl (.gn rfl rfl rfl) rfl ?_
      refine TL.q rfl .u (Ex.py rfl rfl rfl) rfl ?_
      refine TL.run ft_cursitorlaw10_ok [12] rfl rfl ?_
      refine TL.no rfl (.gn rfl rfl rfl) rfl ?_
      refine TL.no rfl (.gn rfl rfl rfl) rfl ?_
      refine TL.q rfl .u (Ex.py rfl rfl rfl) rfl ?_
      cases h
      exact TL.nil (X.jq [0, 0, 0, 0] ⟨rfl, rfl⟩ (by rfl) (by rfl))
  · rintro _ _ ⟨rfl, rfl⟩
    clear h
    have h := hk18
    clear hk18
    try dsimp only at h
    by_cases c24 : y17 = true
    · replace h := ifT c24 h
      refine X.seq ?_
      refine T.yes rfl c24 ?_
      refine T.seq (T.region rfl ?_)
      refine TL.run ft_cursitorlaw10_ok [0] rfl rfl ?_
      obtain rfl := Option.some.inj h
      exact TL.nil (X.seq (T.ret (X.rs (X.done1 [3] Try.results22 (RV.tm rfl) ⟨rfl, rfl, rfl⟩ (by rfl) (.inl rfl)))))
    · replace h := ifF c24 h
      replace c24 := eq_false_of_ne_true c24
      refine X.seq ?_
      refine T.no rfl c24 ?_
      refine T.skip (X.seq (T.seq (T.region rfl ?_)))
      obtain ⟨⟨x25, x26⟩, hx27, h⟩ := Option.bind_eq_some_iff.1 h
      try dsimp only at h
      refine TL.run ft_cursitorlaw10_ok [0] rfl rfl ?_
      refine TL.ce rfl .u (.fn Try.call32 rfl) (f_prefix_Peek_spec x5 _ hx27) (fun _ hs => (RX.reads_triv _ _)) rfl ?_
      refine TL.run ft_cursitorlaw10_ok [2, 3, 4, 5, 6] rfl rfl ?_
      refine TL.nil (X.seq (T.seq ?_))
      obtain ⟨⟨y48, st49⟩, h, hk50⟩ := Option.bind_eq_some_iff.1 h
      refine T.jq (fun e Rs => e = [(0, .bool y48)] ∧ Rs = [InR b11 st49, BlkR b2 38 #[.int .i64 0, .int .i64 49, .int .i64 0, .int .i64 4294967295, .int .i64 0, .int .i64 0, .int .i64 0, .int .i64 0, .int .i64 (-1), .int .i64 0, .int .i64 0, .int .i64 0], OutR b1 st7, EmpR]) ?_ ?_
      · clear hk50
        refine T.draw (.q 0 (.q 2 (.e 1 (.q 3 (.q 4 (.q 5 (.e 6 (.q 7 (.q 8 (.q 9 (.q 10 (.q 11 (.q 12 (.q 13 (.q 14 (.q 15 (.q 16 (.q 17 .nil)))))))))))))))))) [1, 1, 1] rfl mix_cursitorlaw10 (NoP.seq (NoP.seq np_post)) (by kernel_rfl) ?_
        refine TD.run ft_cursitorlaw10_ok [0] rfl rfl ?_
        refine TD.q rfl .u (Ex.bS (us := [.int .i64 0, .int .i64 49, .int .i64 0, .int .i64 4294967295, .int .i64 0, .int .i64 0, .int .i64 0, .int .i64 0, .int .i64 (-1), .int .i64 0, .int .i64 0, .int .i64 0]) 0 rfl Try.isAgg38 Try.sizeOf38 rfl rfl rfl) rfl ?_
        obtain ⟨⟨x51, st52⟩, hx53, h⟩ := Option.bind_eq_some_iff.1 h
        try dsimp only at h
        refine TD.c0 rfl .u (.fn Try.call28 rfl) (f_prefix_Read_spec b11 st9 _ hx53) (fun _ hs => (Src.triv _)) rfl [1, 1, 1] (rfl) ?_
        by_cases c54 : x51.fBase = 0
        · replace h := ifT c54 h
          by_cases c55 : x51.fLength = 49
          · replace h := ifT c55 h
            by_cases c56 : x51.fLeader = 0
            · replace h := ifT c56 h
              by_cases c57 : x51.fSum = 4294967295
              · replace h := ifT c57 h
                by_cases c58 : x51.fAttr = 0
                · replace h := ifT c58 h
                  by_cases c59 : x51.fLast = 0
                  · replace h := ifT c59 h
                    by_cases c60 : x51.fFirst = 0
                    · replace h := ifT c60 h
                      by_cases c61 : x51.fMax = 0
                      · replace h := ifT c61 h
                        by_cases c62 : x51.fProducer = (-1)
                        · replace h := ifT c62 h
                          by_cases c63 : x51.fEpoch = 0
                          · replace h := ifT c63 h
                            by_cases c64 : x51.fSequence = 0
                            · replace h := ifT c64 h
                              by_cases c65 : x51.fCount = 0
                              · replace h := ifT c65 h
                                refine TD.q rfl .u (Ex.aEq (us := [.int .i64 x51.fBase, .int .i64 x51.fLength, .int .i64 x51.fLeader, .int .i64 x51.fSum, .int .i64 x51.fAttr, .int .i64 x51.fLast, .int .i64 x51.fFirst, .int .i64 x51.fMax, .int .i64 x51.fProducer, .int .i64 x51.fEpoch, .int .i64 x51.fSequence, .int .i64 x51.fCount]) (vs := [.int .i64 0, .int .i64 49, .int .i64 0, .int .i64 4294967295, .int .i64 0, .int .i64 0, .int .i64 0, .int .i64 0, .int .i64 (-1), .int .i64 0, .int .i64 0, .int .i64 0]) flat_cursitorlaw10_38 rfl Try.eqGuardType38 rfl rfl rfl rfl (eqL_t (eqV_i c54) (eqL_t (eqV_i c55) (eqL_t (eqV_i c56) (eqL_t (eqV_i c57) (eqL_t (eqV_i c58) (eqL_t (eqV_i c59) (eqL_t (eqV_i c60) (eqL_t (eqV_i c61) (eqL_t (eqV_i c62) (eqL_t (eqV_i c63) (eqL_t (eqV_i c64) (eqL_t (eqV_i c65) rfl))))))))))))) rfl ?_
                                refine TD.run ft_cursitorlaw10_ok [4] rfl rfl ?_
                                refine TD.q rfl (.g rfl rfl rfl) (Ex.ft ft_cursitorlaw10_ok rfl) rfl ?_
                                obtain ⟨⟨x66, st67⟩, hx68, h⟩ := Option.bind_eq_some_iff.1 h
                                try dsimp only at h
                                refine TD.c0 rfl (.g rfl rfl rfl) (.fn Try.call30 rfl) (gClose_spec b11 st52 _ hx68) (fun _ hs => (Src.triv _)) rfl [1, 1, 1] (rfl) ?_
                                refine TD.q rfl (.g rfl rfl rfl) (Ex.ft ft_cursitorlaw10_ok rfl) rfl ?_
                                refine TD.q rfl .u (Ex.py rfl rfl rfl) rfl ?_
                                by_cases c69 : x66 = 0
                                · replace h := ifT c69 h
                                  refine TD.run ft_cursitorlaw10_ok [9] rfl rfl ?_
                                  refine TD.q rfl (.g rfl rfl (decide_eq_true c69)) (Ex.ft ft_cursitorlaw10_ok rfl) rfl ?_
                                  refine TD.q rfl (.g rfl rfl (decide_eq_true c69)) (Ex.ft ft_cursitorlaw10_ok rfl) rfl ?_
                                  refine TD.q rfl .u (Ex.py rfl (decide_eq_true c69) rfl) rfl ?_
                                  by_cases c70 : x25 = 61
                                  · replace h := ifT c70 h
                                    refine TD.run ft_cursitorlaw10_ok [13] rfl rfl ?_
                                    refine TD.q rfl (.g rfl rfl (decide_eq_true c70)) (Ex.ft ft_cursitorlaw10_ok rfl) rfl ?_
                                    refine TD.q rfl (.g rfl rfl (decide_eq_true c70)) (Ex.ft ft_cursitorlaw10_ok rfl) rfl ?_
                                    refine TD.q rfl .u (Ex.py rfl (decide_eq_true c70) rfl) rfl ?_
                                    refine TD.run ft_cursitorlaw10_ok [17] rfl rfl ?_
                                    by_cases c71 : x26 = 0
                                    · replace h := ifT c71 h
                                      cases h
                                      exact TD.nil (X.as (d := 0) (v' := .bool true) rfl (congrArg Value.bool (decide_eq_true c71)) (X.jq [0, 0, 0, 0] ⟨rfl, rfl⟩ (by rfl) (by rfl)))
                                    · replace h := ifF c71 h
                                      cases h
                                      exact TD.nil (X.as (d := 0) (v' := .bool false) rfl (congrArg Value.bool (decide_eq_false c71)) (X.jq [0, 0, 0, 0] ⟨rfl, rfl⟩ (by rfl) (by rfl)))
                                  · replace h := ifF c70 h
                                    refine TD.run ft_cursitorlaw10_ok [13] rfl rfl ?_
                                    refine TD.no rfl (.gn rfl rfl (decide_eq_false c70)) rfl ?_
                                    refine TD.no rfl (.gn rfl rfl (decide_eq_false c70)) rfl ?_
                                    refine TD.q rfl .u (Ex.pn rfl (decide_eq_false c70) rfl) rfl ?_
                                    refine TD.run ft_cursitorlaw10_ok [17] rfl rfl ?_
                                    cases h
                                    exact TD.nil (X.jq [0, 0, 0, 0] ⟨rfl, rfl⟩ (by rfl) (by rfl))
                                · replace h := ifF c69 h
                                  refine TD.run ft_cursitorlaw10_ok [9] rfl rfl ?_
                                  refine TD.no rfl (.gn rfl rfl (decide_eq_false c69)) rfl ?_
                                  refine TD.no rfl (.gn rfl rfl (decide_eq_false c69)) rfl ?_
                                  refine TD.q rfl .u (Ex.pn rfl (decide_eq_false c69) rfl) rfl ?_
                                  refine TD.run ft_cursitorlaw10_ok [13] rfl rfl ?_
                                  refine TD.no rfl (.gn rfl rfl rfl) rfl ?_
                                  refine TD.no rfl (.gn rfl rfl rfl) rfl ?_
                                  refine TD.q rfl .u (Ex.pn rfl rfl rfl) rfl ?_
                                  refine TD.run ft_cursitorlaw10_ok [17] rfl rfl ?_
                                  cases h
                                  exact TD.nil (X.jq [0, 0, 0, 0] ⟨rfl, rfl⟩ (by rfl) (by rfl))
                              · replace h := ifF c65 h
                                refine TD.q rfl .u (Ex.aEq (us := [.int .i64 x51.fBase, .int .i64 x51.fLength, .int .i64 x51.fLeader, .int .i64 x51.fSum, .int .i64 x51.fAttr, .int .i64 x51.fLast, .int .i64 x51.fFirst, .int .i64 x51.fMax, .int .i64 x51.fProducer, .int .i64 x51.fEpoch, .int .i64 x51.fSequence, .int .i64 x51.fCount]) (vs := [.int .i64 0, .int .i64 49, .int .i64 0, .int .i64 4294967295, .int .i64 0, .int .i64 0, .int .i64 0, .int .i64 0, .int .i64 (-1), .int .i64 0, .int .i64 0, .int .i64 0]) flat_cursitorlaw10_38 rfl Try.eqGuardType38 rfl rfl rfl rfl (eqL_t (eqV_i c54) (eqL_t (eqV_i c55) (eqL_t (eqV_i c56) (eqL_t (eqV_i c57) (eqL_t (eqV_i c58) (eqL_t (eqV_i c59) (eqL_t (eqV_i c60) (eqL_t (eqV_i c61) (eqL_t (eqV_i c62) (eqL_t (eqV_i c63) (eqL_t (eqV_i c64) (eqL_f (eqV_in c65)))))))))))))) rfl ?_
                                refine TD.run ft_cursitorlaw10_ok [4] rfl rfl ?_
                                refine TD.no rfl (.gn rfl rfl rfl) rfl ?_
                                refine TD.noe rfl (.gn rfl rfl rfl) rfl [1, 1, 1] rfl ?_
                                refine TD.no rfl (.gn rfl rfl rfl) rfl ?_
                                refine TD.q rfl .u (Ex.pn rfl rfl rfl) rfl ?_
                                refine TD.run ft_cursitorlaw10_ok [9] rfl rfl ?_
                                refine TD.no rfl (.gn rfl rfl rfl) rfl ?_
                                refine TD.no rfl (.gn rfl rfl rfl) rfl ?_
                                refine TD.q rfl .u (Ex.pn rfl rfl rfl) rfl ?_
                                refine TD.run ft_cursitorlaw10_ok [13] rfl rfl ?_
                                refine TD.no rfl (.gn rfl rfl rfl) rfl ?_
                                refine TD.no rfl (.gn rfl rfl rfl) rfl ?_
                                refine TD.q rfl .u (Ex.pn rfl rfl rfl) rfl ?_
                                refine TD.run ft_cursitorlaw10_ok [17] rfl rfl ?_
                                cases h
                                exact TD.nil (X.jq [0, 0, 0, 0] ⟨rfl, rfl⟩ (by rfl) (by rfl))
                            · replace h := ifF c64 h
                              refine TD.q rfl .u (Ex.aEq (us := [.int .i64 x51.fBase, .int .i64 x51.fLength, .int .i64 x51.fLeader, .int .i64 x51.fSum, .int .i64 x51.fAttr, .int .i64 x51.fLast, .int .i64 x51.fFirst, .int .i64 x51.fMax, .int .i64 x51.fProducer, .int .i64 x51.fEpoch, .int .i64 x51.fSequence, .int .i64 x51.fCount]) (vs := [.int .i64 0, .int .i64 49, .int .i64 0, .int .i64 4294967295, .int .i64 0, .int .i64 0, .int .i64 0, .int .i64 0, .int .i64 (-1), .int .i64 0, .int .i64 0, .int .i64 0]) flat_cursitorlaw10_38 rfl Try.eqGuardType38 rfl rfl rfl rfl (eqL_t (eqV_i c54) (eqL_t (eqV_i c55) (eqL_t (eqV_i c56) (eqL_t (eqV_i c57) (eqL_t (eqV_i c58) (eqL_t (eqV_i c59) (eqL_t (eqV_i c60) (eqL_t (eqV_i c61) (eqL_t (eqV_i c62) (eqL_t (eqV_i c63) (eqL_f (eqV_in c64))))))))))))) rfl ?_
                              refine TD.run ft_cursitorlaw10_ok [4] rfl rfl ?_
                              refine TD.no rfl (.gn rfl rfl rfl) rfl ?_
                              refine TD.noe rfl (.gn rfl rfl rfl) rfl [1, 1, 1] rfl ?_
                              refine TD.no rfl (.gn rfl rfl rfl) rfl ?_
                              refine TD.q rfl .u (Ex.pn rfl rfl rfl) rfl ?_
                              refine TD.run ft_cursitorlaw10_ok [9] rfl rfl ?_
                              refine TD.no rfl (.gn rfl rfl rfl) rfl ?_
                              refine TD.no rfl (.gn rfl rfl rfl) rfl ?_
                              refine TD.q rfl .u (Ex.pn rfl rfl rfl) rfl ?_
                              refine TD.run ft_cursitorlaw10_ok [13] rfl rfl ?_
                              refine TD.no rfl (.gn rfl rfl rfl) rfl ?_
                              refine TD.no rfl (.gn rfl rfl rfl) rfl ?_
                              refine TD.q rfl .u (Ex.pn rfl rfl rfl) rfl ?_
                              refine TD.run ft_cursitorlaw10_ok [17] rfl rfl ?_
                              cases h
                              exact TD.nil (X.jq [0, 0, 0, 0] ⟨rfl, rfl⟩ (by rfl) (by rfl))
                          · replace h := ifF c63 h
                            refine TD.q rfl .u (Ex.aEq (us := [.int .i64 x51.fBase, .int .i64 x51.fLength, .int .i64 x51.fLeader, .int .i64 x51.fSum, .int .i64 x51.fAttr, .int .i64 x51.fLast, .int .i64 x51.fFirst, .int .i64 x51.fMax, .int .i64 x51.fProducer, .int .i64 x51.fEpoch, .int .i64 x51.fSequence, .int .i64 x51.fCount]) (vs := [.int .i64 0, .int .i64 49, .int .i64 0, .int .i64 4294967295, .int .i64 0, .int .i64 0, .int .i64 0, .int .i64 0, .int .i64 (-1), .int .i64 0, .int .i64 0, .int .i64 0]) flat_cursitorlaw10_38 rfl Try.eqGuardType38 rfl rfl rfl rfl (eqL_t (eqV_i c54) (eqL_t (eqV_i c55) (eqL_t (eqV_i c56) (eqL_t (eqV_i c57) (eqL_t (eqV_i c58) (eqL_t (eqV_i c59) (eqL_t (eqV_i c60) (eqL_t (eqV_i c61) (eqL_t (eqV_i c62) (eqL_f (eqV_in c63)))))))))))) rfl ?_
                            refine TD.run ft_cursitorlaw10_ok [4] rfl rfl ?_
                            refine TD.no rfl (.gn rfl rfl rfl) rfl ?_
                            refine TD.noe rfl (.gn rfl rfl rfl) rfl [1, 1, 1] rfl ?_
                            refine TD.no rfl (.gn rfl rfl rfl) rfl ?_
                            refine TD.q rfl .u (Ex.pn rfl rfl rfl) rfl ?_
                            refine TD.run ft_cursitorlaw10_ok [9] rfl rfl ?_
                            refine TD.no rfl (.gn rfl rfl rfl) rfl ?_
                            refine TD.no rfl (.gn rfl rfl rfl) rfl ?_
                            refine TD.q rfl .u (Ex.pn rfl rfl rfl) rfl ?_
                            refine TD.run ft_cursitorlaw10_ok [13] rfl rfl ?_
                            refine TD.no rfl (.gn rfl rfl rfl) rfl ?_
                            refine TD.no rfl (.gn rfl rfl rfl) rfl ?_
                            refine TD.q rfl .u (Ex.pn rfl rfl rfl) rfl ?_
                            refine TD.run ft_cursitorlaw10_ok [17] rfl rfl ?_
                            cases h
                            exact TD.nil (X.jq [0, 0, 0, 0] ⟨rfl, rfl⟩ (by rfl) (by rfl))
                        · replace h := ifF c62 h
                          refine TD.q rfl .u (Ex.aEq (us := [.int .i64 x51.fBase, .int .i64 x51.fLength, .int .i64 x51.fLeader, .int .i64 x51.fSum, .int .i64 x51.fAttr, .int .i64 x51.fLast, .int .i64 x51.fFirst, .int .i64 x51.fMax, .int .i64 x51.fProducer, .int .i64 x51.fEpoch, .int .i64 x51.fSequence, .int .i64 x51.fCount]) (vs := [.int .i64 0, .int .i64 49, .int .i64 0, .int .i64 4294967295, .int .i64 0, .int .i64 0, .int .i64 0, .int .i64 0, .int .i64 (-1), .int .i64 0, .int .i64 0, .int .i64 0]) flat_cursitorlaw10_38 rfl Try.eqGuardType38 rfl rfl rfl rfl (eqL_t (eqV_i c54) (eqL_t (eqV_i c55) (eqL_t (eqV_i c56) (eqL_t (eqV_i c57) (eqL_t (eqV_i c58) (eqL_t (eqV_i c59) (eqL_t (eqV_i c60) (eqL_t (eqV_i c61) (eqL_f (eqV_in c62))))))))))) rfl ?_
                          refine TD.run ft_cursitorlaw10_ok [4] rfl rfl ?_
                          refine TD.no rfl (.gn rfl rfl rfl) rfl ?_
                          refine TD.noe rfl (.gn rfl rfl rfl) rfl [1, 1, 1] rfl ?_
                          refine TD.no rfl (.gn rfl rfl rfl) rfl ?_
                          refine TD.q rfl .u (Ex.pn rfl rfl rfl) rfl ?_
                          refine TD.run ft_cursitorlaw10_ok [9] rfl rfl ?_
                          refine TD.no rfl (.gn rfl rfl rfl) rfl ?_
                          refine TD.no rfl (.gn rfl rfl rfl) rfl ?_
                          refine TD.q rfl .u (Ex.pn rfl rfl rfl) rfl ?_
                          refine TD.run ft_cursitorlaw10_ok [13] rfl rfl ?_
                          refine TD.no rfl (.gn rfl rfl rfl) rfl ?_
                          refine TD.no rfl (.gn rfl rfl rfl) rfl ?_
                          refine TD.q rfl .u (Ex.pn rfl rfl rfl) rfl ?_
                          refine TD.run ft_cursitorlaw10_ok [17] rfl rfl ?_
                          cases h
                          exact TD.nil (X.jq [0, 0, 0, 0] ⟨rfl, rfl⟩ (by rfl) (by rfl))
                      · replace h := ifF c61 h
                        refine TD.q rfl .u (Ex.aEq (us := [.int .i64 x51.fBase, .int .i64 x51.fLength, .int .i64 x51.fLeader, .int .i64 x51.fSum, .int .i64 x51.fAttr, .int .i64 x51.fLast, .int .i64 x51.fFirst, .int .i64 x51.fMax, .int .i64 x51.fProducer, .int .i64 x51.fEpoch, .int .i64 x51.fSequence, .int .i64 x51.fCount]) (vs := [.int .i64 0, .int .i64 49, .int .i64 0, .int .i64 4294967295, .int .i64 0, .int .i64 0, .int .i64 0, .int .i64 0, .int .i64 (-1), .int .i64 0, .int .i64 0, .int .i64 0]) flat_cursitorlaw10_38 rfl Try.eqGuardType38 rfl rfl rfl rfl (eqL_t (eqV_i c54) (eqL_t (eqV_i c55) (eqL_t (eqV_i c56) (eqL_t (eqV_i c57) (eqL_t (eqV_i c58) (eqL_t (eqV_i c59) (eqL_t (eqV_i c60) (eqL_f (eqV_in c61)))))))))) rfl ?_
                        refine TD.run ft_cursitorlaw10_ok [4] rfl rfl ?_
                        refine TD.no rfl (.gn rfl rfl rfl) rfl ?_
                        refine TD.noe rfl (.gn rfl rfl rfl) rfl [1, 1, 1] rfl ?_
                        refine TD.no rfl (.gn rfl rfl rfl) rfl ?_
                        refine TD.q rfl .u (Ex.pn rfl rfl rfl) rfl ?_
                        refine TD.run ft_cursitorlaw10_ok [9] rfl rfl ?_
                        refine TD.no rfl (.gn rfl rfl rfl) rfl ?_
                        refine TD.no rfl (.gn rfl rfl rfl) rfl ?_
                        refine TD.q rfl .u (Ex.pn rfl rfl rfl) rfl ?_
                        refine TD.run ft_cursitorlaw10_ok [13] rfl rfl ?_
                        refine TD.no rfl (.gn rfl rfl rfl) rfl ?_
                        refine TD.no rfl (.gn rfl rfl rfl) rfl ?_
                        refine TD.q rfl .u (Ex.pn rfl rfl rfl) rfl ?_
                        refine TD.run ft_cursitorlaw10_ok [17] rfl rfl ?_
                        cases h
                        exact TD.nil (X.jq [0, 0, 0, 0] ⟨rfl, rfl⟩ (by rfl) (by rfl))
                    · replace h := ifF c60 h
                      refine TD.q rfl .u (Ex.aEq (us := [.int .i64 x51.fBase, .int .i64 x51.fLength, .int .i64 x51.fLeader, .int .i64 x51.fSum, .int .i64 x51.fAttr, .int .i64 x51.fLast, .int .i64 x51.fFirst, .int .i64 x51.fMax, .int .i64 x51.fProducer, .int .i64 x51.fEpoch, .int .i64 x51.fSequence, .int .i64 x51.fCount]) (vs := [.int .i64 0, .int .i64 49, .int .i64 0, .int .i64 4294967295, .int .i64 0, .int .i64 0, .int .i64 0, .int .i64 0, .int .i64 (-1), .int .i64 0, .int .i64 0, .int .i64 0]) flat_cursitorlaw10_38 rfl Try.eqGuardType38 rfl rfl rfl rfl (eqL_t (eqV_i c54) (eqL_t (eqV_i c55) (eqL_t (eqV_i c56) (eqL_t (eqV_i c57) (eqL_t (eqV_i c58) (eqL_t (eqV_i c59) (eqL_f (eqV_in c60))))))))) rfl ?_
                      refine TD.run ft_cursitorlaw10_ok [4] rfl rfl ?_
                      refine TD.no rfl (.gn rfl rfl rfl) rfl ?_
                      refine TD.noe rfl (.gn rfl rfl rfl) rfl [1, 1, 1] rfl ?_
                      refine TD.no rfl (.gn rfl rfl rfl) rfl ?_
                      refine TD.q rfl .u (Ex.pn rfl rfl rfl) rfl ?_
                      refine TD.run ft_cursitorlaw10_ok [9] rfl rfl ?_
                      refine TD.no rfl (.gn rfl rfl rfl) rfl ?_
                      refine TD.no rfl (.gn rfl rfl rfl) rfl ?_
                      refine TD.q rfl .u (Ex.pn rfl rfl rfl) rfl ?_
                      refine TD.run ft_cursitorlaw10_ok [13] rfl rfl ?_
                      refine TD.no rfl (.gn rfl rfl rfl) rfl ?_
                      refine TD.no rfl (.gn rfl rfl rfl) rfl ?_
                      refine TD.q rfl .u (Ex.pn rfl rfl rfl) rfl ?_
                      refine TD.run ft_cursitorlaw10_ok [17] rfl rfl ?_
                      cases h
                      exact TD.nil (X.jq [0, 0, 0, 0] ⟨rfl, rfl⟩ (by rfl) (by rfl))
                  · replace h := ifF c59 h
                    refine TD.q rfl .u (Ex.aEq (us := [.int .i64 x51.fBase, .int .i64 x51.fLength, .int .i64 x51.fLeader, .int .i64 x51.fSum, .int .i64 x51.fAttr, .int .i64 x51.fLast, .int .i64 x51.fFirst, .int .i64 x51.fMax, .int .i64 x51.fProducer, .int .i64 x51.fEpoch, .int .i64 x51.fSequence, .int .i64 x51.fCount]) (vs := [.int .i64 0, .int .i64 49, .int .i64 0, .int .i64 4294967295, .int .i64 0, .int .i64 0, .int .i64 0, .int .i64 0, .int .i64 (-1), .int .i64 0, .int .i64 0, .int .i64 0]) flat_cursitorlaw10_38 rfl Try.eqGuardType38 rfl rfl rfl rfl (eqL_t (eqV_i c54) (eqL_t (eqV_i c55) (eqL_t (eqV_i c56) (eqL_t (eqV_i c57) (eqL_t (eqV_i c58) (eqL_f (eqV_in c59)))))))) rfl ?_
                    refine TD.run ft_cursitorlaw10_ok [4] rfl rfl ?_
                    refine TD.no rfl (.gn rfl rfl rfl) rfl ?_
                    refine TD.noe rfl (.gn rfl rfl rfl) rfl [1, 1, 1] rfl ?_
                    refine TD.no rfl (.gn rfl rfl rfl) rfl ?_
                    refine TD.q rfl .u (Ex.pn rfl rfl rfl) rfl ?_
                    refine TD.run ft_cursitorlaw10_ok [9] rfl rfl ?_
                    refine TD.no rfl (.gn rfl rfl rfl) rfl ?_
                    refine TD.no rfl (.gn rfl rfl rfl) rfl ?_
                    refine TD.q rfl .u (Ex.pn rfl rfl rfl) rfl ?_
                    refine TD.run ft_cursitorlaw10_ok [13] rfl rfl ?_
                    refine TD.no rfl (.gn rfl rfl rfl) rfl ?_
                    refine TD.no rfl (.gn rfl rfl rfl) rfl ?_
                    refine TD.q rfl .u (Ex.pn rfl rfl rfl) rfl ?_
                    refine TD.run ft_cursitorlaw10_ok [17] rfl rfl ?_
                    cases h
                    exact TD.nil (X.jq [0, 0, 0, 0] ⟨rfl, rfl⟩ (by rfl) (by rfl))
                · replace h := ifF c58 h
                  refine TD.q rfl .u (Ex.aEq (us := [.int .i64 x51.fBase, .int .i64 x51.fLength, .int .i64 x51.fLeader, .int .i64 x51.fSum, .int .i64 x51.fAttr, .int .i64 x51.fLast, .int .i64 x51.fFirst, .int .i64 x51.fMax, .int .i64 x51.fProducer, .int .i64 x51.fEpoch, .int .i64 x51.fSequence, .int .i64 x51.fCount]) (vs := [.int .i64 0, .int .i64 49, .int .i64 0, .int .i64 4294967295, .int .i64 0, .int .i64 0, .int .i64 0, .int .i64 0, .int .i64 (-1), .int .i64 0, .int .i64 0, .int .i64 0]) flat_cursitorlaw10_38 rfl Try.eqGuardType38 rfl rfl rfl rfl (eqL_t (eqV_i c54) (eqL_t (eqV_i c55) (eqL_t (eqV_i c56) (eqL_t (eqV_i c57) (eqL_f (eqV_in c58))))))) rfl ?_
                  refine TD.run ft_cursitorlaw10_ok [4] rfl rfl ?_
                  refine TD.no rfl (.gn rfl rfl rfl) rfl ?_
                  refine TD.noe rfl (.gn rfl rfl rfl) rfl [1, 1, 1] rfl ?_
                  refine TD.no rfl (.gn rfl rfl rfl) rfl ?_
                  refine TD.q rfl .u (Ex.pn rfl rfl rfl) rfl ?_
                  refine TD.run ft_cursitorlaw10_ok [9] rfl rfl ?_
                  refine TD.no rfl (.gn rfl rfl rfl) rfl ?_
                  refine TD.no rfl (.gn rfl rfl rfl) rfl ?_
                  refine TD.q rfl .u (Ex.pn rfl rfl rfl) rfl ?_
                  refine TD.run ft_cursitorlaw10_ok [13] rfl rfl ?_
                  refine TD.no rfl (.gn rfl rfl rfl) rfl ?_
                  refine TD.no rfl (.gn rfl rfl rfl) rfl ?_
                  refine TD.q rfl .u (Ex.pn rfl rfl rfl) rfl ?_
                  refine TD.run ft_cursitorlaw10_ok [17] rfl rfl ?_
                  cases h
                  exact TD.nil (X.jq [0, 0, 0, 0] ⟨rfl, rfl⟩ (by rfl) (by rfl))
              · replace h := ifF c57 h
                refine TD.q rfl .u (Ex.aEq (us := [.int .i64 x51.fBase, .int .i64 x51.fLength, .int .i64 x51.fLeader, .int .i64 x51.fSum, .int .i64 x51.fAttr, .int .i64 x51.fLast, .int .i64 x51.fFirst, .int .i64 x51.fMax, .int .i64 x51.fProducer, .int .i64 x51.fEpoch, .int .i64 x51.fSequence, .int .i64 x51.fCount]) (vs := [.int .i64 0, .int .i64 49, .int .i64 0, .int .i64 4294967295, .int .i64 0, .int .i64 0, .int .i64 0, .int .i64 0, .int .i64 (-1), .int .i64 0, .int .i64 0, .int .i64 0]) flat_cursitorlaw10_38 rfl Try.eqGuardType38 rfl rfl rfl rfl (eqL_t (eqV_i c54) (eqL_t (eqV_i c55) (eqL_t (eqV_i c56) (eqL_f (eqV_in c57)))))) rfl ?_
                refine TD.run ft_cursitorlaw10_ok [4] rfl rfl ?_
                refine TD.no rfl (.gn rfl rfl rfl) rfl ?_
                refine TD.noe rfl (.gn rfl rfl rfl) rfl [1, 1, 1] rfl ?_
                refine TD.no rfl (.gn rfl rfl rfl) rfl ?_
                refine TD.q rfl .u (Ex.pn rfl rfl rfl) rfl ?_
                refine TD.run ft_cursitorlaw10_ok [9] rfl rfl ?_
                refine TD.no rfl (.gn rfl rfl rfl) rfl ?_
                refine TD.no rfl (.gn rfl rfl rfl) rfl ?_
                refine TD.q rfl .u (Ex.pn rfl rfl rfl) rfl ?_
                refine TD.run ft_cursitorlaw10_ok [13] rfl rfl ?_
                refine TD.no rfl (.gn rfl rfl rfl) rfl ?_
                refine TD.no rfl (.gn rfl rfl rfl) rfl ?_
                refine TD.q rfl .u (Ex.pn rfl rfl rfl) rfl ?_
                refine TD.run ft_cursitorlaw10_ok [17] rfl rfl ?_
                cases h
                exact TD.nil (X.jq [0, 0, 0, 0] ⟨rfl, rfl⟩ (by rfl) (by rfl))
            · replace h := ifF c56 h
              refine TD.q rfl .u (Ex.aEq (us := [.int .i64 x51.fBase, .int .i64 x51.fLength, .int .i64 x51.fLeader, .int .i64 x51.fSum, .int .i64 x51.fAttr, .int .i64 x51.fLast, .int .i64 x51.fFirst, .int .i64 x51.fMax, .int .i64 x51.fProducer, .int .i64 x51.fEpoch, .int .i64 x51.fSequence, .int .i64 x51.fCount]) (vs := [.int .i64 0, .int .i64 49, .int .i64 0, .int .i64 4294967295, .int .i64 0, .int .i64 0, .int .i64 0, .int .i64 0, .int .i64 (-1), .int .i64 0, .int .i64 0, .int .i64 0]) flat_cursitorlaw10_38 rfl Try.eqGuardType38 rfl rfl rfl rfl (eqL_t (eqV_i c54) (eqL_t (eqV_i c55) (eqL_f (eqV_in c56))))) rfl ?_
              refine TD.run ft_cursitorlaw10_ok [4] rfl rfl ?_
              refine TD.no rfl (.gn rfl rfl rfl) rfl ?_
              refine TD.noe rfl (.gn rfl rfl rfl) rfl [1, 1, 1] rfl ?_
              refine TD.no rfl (.gn rfl rfl rfl) rfl ?_
              refine TD.q rfl .u (Ex.pn rfl rfl rfl) rfl ?_
              refine TD.run ft_cursitorlaw10_ok [9] rfl rfl ?_
              refine TD.no rfl (.gn rfl rfl rfl) rfl ?_
              refine TD.no rfl (.gn rfl rfl rfl) rfl ?_
              refine TD.q rfl .u (Ex.pn rfl rfl rfl) rfl ?_
              refine TD.run ft_cursitorlaw10_ok [13] rfl rfl ?_
              refine TD.no rfl (.gn rfl rfl rfl) rfl ?_
              refine TD.no rfl (.gn rfl rfl rfl) rfl ?_
              refine TD.q rfl .u (Ex.pn rfl rfl rfl) rfl ?_
              refine TD.run ft_cursitorlaw10_ok [17] rfl rfl ?_
              cases h
              exact TD.nil (X.jq [0, 0, 0, 0] ⟨rfl, rfl⟩ (by rfl) (by rfl))
          · replace h := ifF c55 h
            refine TD.q rfl .u (Ex.aEq (us := [.int .i64 x51.fBase, .int .i64 x51.fLength, .int .i64 x51.fLeader, .int .i64 x51.fSum, .int .i64 x51.fAttr, .int .i64 x51.fLast, .int .i64 x51.fFirst, .int .i64 x51.fMax, .int .i64 x51.fProducer, .int .i64 x51.fEpoch, .int .i64 x51.fSequence, .int .i64 x51.fCount]) (vs := [.int .i64 0, .int .i64 49, .int .i64 0, .int .i64 4294967295, .int .i64 0, .int .i64 0, .int .i64 0, .int .i64 0, .int .i64 (-1), .int .i64 0, .int .i64 0, .int .i64 0]) flat_cursitorlaw10_38 rfl Try.eqGuardType38 rfl rfl rfl rfl (eqL_t (eqV_i c54) (eqL_f (eqV_in c55)))) rfl ?_
            refine TD.run ft_cursitorlaw10_ok [4] rfl rfl ?_
            refine TD.no rfl (.gn rfl rfl rfl) rfl ?_
            refine TD.noe rfl (.gn rfl rfl rfl) rfl [1, 1, 1] rfl ?_
            refine TD.no rfl (.gn rfl rfl rfl) rfl ?_
            refine TD.q rfl .u (Ex.pn rfl rfl rfl) rfl ?_
            refine TD.run ft_cursitorlaw10_ok [9] rfl rfl ?_
            refine TD.no rfl (.gn rfl rfl rfl) rfl ?_
            refine TD.no rfl (.gn rfl rfl rfl) rfl ?_
            refine TD.q rfl .u (Ex.pn rfl rfl rfl) rfl ?_
            refine TD.run ft_cursitorlaw10_ok [13] rfl rfl ?_
            refine TD.no rfl (.gn rfl rfl rfl) rfl ?_
            refine TD.no rfl (.gn rfl rfl rfl) rfl ?_
            refine TD.q rfl .u (Ex.pn rfl rfl rfl) rfl ?_
            refine TD.run ft_cursitorlaw10_ok [17] rfl rfl ?_
            cases h
            exact TD.nil (X.jq [0, 0, 0, 0] ⟨rfl, rfl⟩ (by rfl) (by rfl))
        · replace h := ifF c54 h
          refine TD.q rfl .u (Ex.aEq (us := [.int .i64 x51.fBase, .int .i64 x51.fLength, .int .i64 x51.fLeader, .int .i64 x51.fSum, .int .i64 x51.fAttr, .int .i64 x51.fLast, .int .i64 x51.fFirst, .int .i64 x51.fMax, .int .i64 x51.fProducer, .int .i64 x51.fEpoch, .int .i64 x51.fSequence, .int .i64 x51.fCount]) (vs := [.int .i64 0, .int .i64 49, .int .i64 0, .int .i64 4294967295, .int .i64 0, .int .i64 0, .int .i64 0, .int .i64 0, .int .i64 (-1), .int .i64 0, .int .i64 0, .int .i64 0]) flat_cursitorlaw10_38 rfl Try.eqGuardType38 rfl rfl rfl rfl (eqL_f (eqV_in c54))) rfl ?_
          refine TD.run ft_cursitorlaw10_ok [4] rfl rfl ?_
          refine TD.no rfl (.gn rfl rfl rfl) rfl ?_
          refine TD.noe rfl (.gn rfl rfl rfl) rfl [1, 1, 1] rfl ?_
          refine TD.no rfl (.gn rfl rfl rfl) rfl ?_
          refine TD.q rfl .u (Ex.pn rfl rfl rfl) rfl ?_
          refine TD.run ft_cursitorlaw10_ok [9] rfl rfl ?_
          refine TD.no rfl (.gn rfl rfl rfl) rfl ?_
          refine TD.no rfl (.gn rfl rfl rfl) rfl ?_
          refine TD.q rfl .u (Ex.pn rfl rfl rfl) rfl ?_
          refine TD.run ft_cursitorlaw10_ok [13] rfl rfl ?_
          refine TD.no rfl (.gn rfl rfl rfl) rfl ?_
          refine TD.no rfl (.gn rfl rfl rfl) rfl ?_
          refine TD.q rfl .u (Ex.pn rfl rfl rfl) rfl ?_
          refine TD.run ft_cursitorlaw10_ok [17] rfl rfl ?_
          cases h
          exact TD.nil (X.jq [0, 0, 0, 0] ⟨rfl, rfl⟩ (by rfl) (by rfl))
      · rintro _ _ ⟨rfl, rfl⟩
        clear h
        have h := hk50
        clear hk50
        try dsimp only at h
        obtain rfl := Option.some.inj h
        exact X.seq (T.ret (X.done1 [3] Try.results22 (RV.tm rfl) ⟨rfl, rfl, rfl⟩ (by rfl) (.inl rfl)))
def f_l10_list (a0 : Pfx) : Option (List Int) := some [a0.fBase, a0.fLength, a0.fLeader, a0.fSum, a0.fAttr, a0.fLast, a0.fFirst, a0.fMax, a0.fProducer, a0.fEpoch, a0.fSequence, a0.fCount]
set_option maxRecDepth 100000 in
set_option maxHeartbeats 4000000 in
theorem f_l10_list_spec (a0 : Pfx) (r : List Int) (h : f_l10_list a0 = some r) : SpecX Try.prog 26 #[.agg #[.int .i64 a0.fBase, .int .i64 a0.fLength, .int .i64 a0.fLeader, .int .i64 a0.fSum, .int .i64 a0.fAttr, .int .i64 a0.fLast, .int .i64 a0.fFirst, .int .i64 a0.fMax, .int .i64 a0.fProducer, .int .i64 a0.fEpoch, .int .i64 a0.fSequence, .int .i64 a0.fCount]] .triv (EmpR) (fun v A' N => ∃ (A3 : Option Addr) (c4 : Nat), v = .slice A3 r.length c4 ∧ A' = EmpR ∧ N = [RdR (sliceRd 1 intE) [.slice A3 r.length c4] r]) := by
  refine enterA Try.func26 rfl Try.ntmps26 rfl ?_
  intro F w hX
  unfold f_l10_list at h
  refine T.seq (T.region rfl ?_)
  refine TL.box rfl .u rfl rfl (fun b1 => ?_)
  refine TL.run ft_cursitorlaw10_ok [1] rfl rfl ?_
  refine TL.nil (X.seq (T.seq (T.region rfl ?_)))
  refine TL.run ft_cursitorlaw10_ok [0] rfl rfl ?_
  refine TL.q rfl .u (Ex.b1 0 rfl Try.isAgg3 rfl rfl) rfl ?_
  refine TL.run ft_cursitorlaw10_ok [2] rfl rfl ?_
  refine TL.q rfl .u (Ex.b1 0 rfl Try.isAgg3 rfl rfl) rfl ?_
  refine TL.run ft_cursitorlaw10_ok [4] rfl rfl ?_
  refine TL.q rfl .u (Ex.b1 0 rfl Try.isAgg3 rfl rfl) rfl ?_
  refine TL.run ft_cursitorlaw10_ok [6] rfl rfl ?_
  refine TL.q rfl .u (Ex.b1 0 rfl Try.isAgg3 rfl rfl) rfl ?_
  refine TL.run ft_cursitorlaw10_ok [8] rfl rfl ?_
  refine TL.q rfl .u (Ex.b1 0 rfl Try.isAgg3 rfl rfl) rfl ?_
  refine TL.run ft_cursitorlaw10_ok [10] rfl rfl ?_
  refine TL.q rfl .u (Ex.b1 0 rfl Try.isAgg3 rfl rfl) rfl ?_
  refine TL.run ft_cursitorlaw10_ok [12] rfl rfl ?_
  refine TL.q rfl .u (Ex.b1 0 rfl Try.isAgg3 rfl rfl) rfl ?_
  refine TL.run ft_cursitorlaw10_ok [14] rfl rfl ?_
  refine TL.q rfl .u (Ex.b1 0 rfl Try.isAgg3 rfl rfl) rfl ?_
  refine TL.run ft_cursitorlaw10_ok [16] rfl rfl ?_
  refine TL.q rfl .u (Ex.b1 0 rfl Try.isAgg3 rfl rfl) rfl ?_
  refine TL.run ft_cursitorlaw10_ok [18] rfl rfl ?_
  refine TL.q rfl .u (Ex.b1 0 rfl Try.isAgg3 rfl rfl) rfl ?_
  refine TL.run ft_cursitorlaw10_ok [20] rfl rfl ?_
  refine TL.q rfl .u (Ex.b1 0 rfl Try.isAgg3 rfl rfl) rfl ?_
  refine TL.run ft_cursitorlaw10_ok [22] rfl rfl ?_
  refine TL.q rfl .u (Ex.b1 0 rfl Try.isAgg3 rfl rfl) rfl ?_
  refine TL.lit (cells := #[.int .i64 a0.fBase, .int .i64 a0.fLength, .int .i64 a0.fLeader, .int .i64 a0.fSum, .int .i64 a0.fAttr, .int .i64 a0.fLast, .int .i64 a0.fFirst, .int .i64 a0.fMax, .int .i64 a0.fProducer, .int .i64 a0.fEpoch, .int .i64 a0.fSequence, .int .i64 a0.fCount]) rfl .u sok_cursitorlaw10_25_12 rfl (by kernel_rfl) rfl (fun b2 => ?_)
  refine TL.rowOf (us := [.int .i64 a0.fBase, .int .i64 a0.fLength, .int .i64 a0.fLeader, .int .i64 a0.fSum, .int .i64 a0.fAttr, .int .i64 a0.fLast, .int .i64 a0.fFirst, .int .i64 a0.fMax, .int .i64 a0.fProducer, .int .i64 a0.fEpoch, .int .i64 a0.fSequence, .int .i64 a0.fCount]) (xs := [a0.fBase, a0.fLength, a0.fLeader, a0.fSum, a0.fAttr, a0.fLast, a0.fFirst, a0.fMax, a0.fProducer, a0.fEpoch, a0.fSequence, a0.fCount]) (E := intE) (z := 1) rfl (Nat.le_of_ble_eq_true rfl) (fun _ => ⟨rfl, rfl, ⟨rfl, rfl, ⟨rfl, rfl, ⟨rfl, rfl, ⟨rfl, rfl, ⟨rfl, rfl, ⟨rfl, rfl, ⟨rfl, rfl, ⟨rfl, rfl, ⟨rfl, rfl, ⟨rfl, rfl, ⟨rfl, rfl, rfl⟩⟩⟩⟩⟩⟩⟩⟩⟩⟩⟩⟩) ?_
  refine TL.run ft_cursitorlaw10_ok [25] rfl rfl ?_
  obtain rfl := Option.some.inj h
  refine TL.nil (X.seq (T.ret ?_))
  refine X.shut (by decide) 0 rfl ?_
  refine X.sel [0, 0, 0] rfl ?_
  exact X.done1 [2, 0] Try.results26 (RV.tm rfl) ⟨_, _, rfl, rfl, rfl⟩ (by rfl) (.inl rfl)
def f_l10_PrefixWrites (a0 : Pfx) : Option (Bool) := (f_l10_speaks).bind fun x2 => if x2 = true then ((f_prefix_Write ([], 0) a0).bind fun st6 => (gOText st6).bind fun (x8, x9, st10) => (f_l10_list a0).bind fun x12 => (f_r10_Bytes x12).bind fun (x16, x17) => if x17 = true then ((if x9 = 0 then (if x8 = x16 then some false else some true) else some true).bind fun y21 => if y21 = true then none else ((gNew x8).bind fun st26 => (f_prefix_Read st26).bind fun (x29, st30) => if a0.fLength < 49 then ((if x29.fBase = 0 then (if x29.fLength = 0 then (if x29.fLeader = 0 then (if x29.fSum = 0 then (if x29.fAttr = 0 then (if x29.fLast = 0 then (if x29.fFirst = 0 then (if x29.fMax = 0 then (if x29.fProducer = 0 then (if x29.fEpoch = 0 then (if x29.fSequence = 0 then (if x29.fCount = 0 then ((gErr st30).bind fun (x64, st65) => if x64 = 4 then some (true, st65) else some (false, st65)) else some (false, st30)) else some (false, st30)) else some (false, st30)) else some (false, st30)) else some (false, st30)) else some (false, st30)) else some (false, st30)) else some (false, st30)) else some (false, st30)) else some (false, st30)) else some (false, st30)) else some (false, st30)).bind fun (y49, st50) => some y49) else (if a0.fCount < 0 then ((if x29.fBase = 0 then (if x29.fLength = 0 then (if x29.fLeader = 0 then (if x29.fSum = 0 then (if x29.fAttr = 0 then (if x29.fLast = 0 then (if x29.fFirst = 0 then (if x29.fMax = 0 then (if x29.fProducer = 0 then (if x29.fEpoch = 0 then (if x29.fSequence = 0 then (if x29.fCount = 0 then ((gErr st30).bind fun (x99, st100) => if x99 = 10 then some (true, st100) else some (false, st100)) else some (false, st30)) else some (false, st30)) else some (false, st30)) else some (false, st30)) else some (false, st30)) else some (false, st30)) else some (false, st30)) else some (false, st30)) else some (false, st30)) else some (false, st30)) else some (false, st30)) else some (false, st30)).bind fun (y84, st85) => some y84) else ((if x29.fBase = a0.fBase then (if x29.fLength = a0.fLength then (if x29.fLeader = a0.fLeader then (if x29.fSum = a0.fSum then (if x29.fAttr = a0.fAttr then (if x29.fLast = a0.fLast then (if x29.fFirst = a0.fFirst then (if x29.fMax = a0.fMax then (if x29.fProducer = a0.fProducer then (if x29.fEpoch = a0.fEpoch then (if x29.fSequence = a0.fSequence then (if x29.fCount = a0.fCount then ((gClose st30).bind fun (x133, st134) => if x133 = 0 then some (true, st134) else some (false, st134)) else some (false, st30)) else some (false, st30)) else some (false, st30)) else some (false, st30)) else some (false, st30)) else some (false, st30)) else some (false, st30)) else some (false, st30)) else some (false, st30)) else some (false, st30)) else some (false, st30)) else some (false, st30)).bind fun (y118, st119) => some y118)))) else ((if x9 = 11 then (if x8 = [] then some true else some false) else some false).bind fun y138 => some y138)) else none
set_option maxRecDepth 100000 in
set_option maxHeartbeats 4000000 in
theorem f_l10_PrefixWrites_spec (a0 : Pfx) (r : Bool) (h : f_l10_PrefixWrites a0 = some r) : SpecX Try.prog 4 #[.agg #[.int .i64 a0.fBase, .int .i64 a0.fLength, .int .i64 a0.fLeader, .int .i64 a0.fSum, .int .i64 a0.fAttr, .int .i64 a0.fLast, .int .i64 a0.fFirst, .int .i64 a0.fMax, .int .i64 a0.fProducer, .int .i64 a0.fEpoch, .int .i64 a0.fSequence, .int .i64 a0.fCount]] .triv (EmpR) (fun v A' N => v = .bool r ∧ A' = EmpR ∧ N = []) := by
  refine enterA Try.func4 rfl Try.ntmps4 rfl ?_
  intro F w hX
  unfold f_l10_PrefixWrites at h
  refine T.seq (T.region rfl ?_)
  refine TL.box rfl .u rfl rfl (fun b1 => ?_)
  refine TL.run ft_cursitorlaw10_ok [1] rfl rfl ?_
  obtain ⟨x2, hx3, h⟩ := Option.bind_eq_some_iff.1 h
  refine TL.nil (X.seq (T.seq (T.seq (T.region rfl ?_))))
  refine TL.ce rfl .u (.fn Try.call22 rfl) (f_l10_speaks_spec _ hx3) (fun _ hs => (RX.reads_triv _ _)) rfl ?_
  refine TL.run ft_cursitorlaw10_ok [1] rfl rfl ?_
  by_cases c4 : x2 = true
  · replace h := ifT c4 h
    refine TL.nil (X.seq ?_)
    refine T.no rfl (bn_f c4) ?_
    refine T.skip (X.seq (T.seq (T.region rfl ?_)))
    refine TL.newout rfl .u Try.zeroValue42 rfl (fun b5 => ?_)
    refine TL.nil (X.seq (T.seq (T.region rfl ?_)))
    refine TL.q rfl .u (Ex.bS (us := [.int .i64 a0.fBase, .int .i64 a0.fLength, .int .i64 a0.fLeader, .int .i64 a0.fSum, .int .i64 a0.fAttr, .int .i64 a0.fLast, .int .i64 a0.fFirst, .int .i64 a0.fMax, .int .i64 a0.fProducer, .int .i64 a0.fEpoch, .int .i64 a0.fSequence, .int .i64 a0.fCount]) 1 rfl Try.isAgg38 Try.sizeOf38 rfl rfl rfl) rfl ?_
    obtain ⟨st6, hx7, h⟩ := Option.bind_eq_some_iff.1 h
    refine TL.c0 rfl .u (.fn Try.call23 rfl) (f_prefix_Write_spec b5 ([], 0) a0 _ hx7) (fun _ hs => (Src.triv _)) rfl ?_
    obtain ⟨⟨x8, x9, st10⟩, hx11, h⟩ := Option.bind_eq_some_iff.1 h
    try dsimp only at h
    refine TL.nil (X.seq (T.seq (T.region rfl ?_)))
    refine TL.c0 rfl .u (.fn Try.call24 rfl) (gOText_spec b5 st6 _ hx11) (fun _ hs => (Src.triv _)) rfl ?_
    refine TL.run ft_cursitorlaw10_ok [1, 2, 3, 4, 5] rfl rfl ?_
    refine TL.nil (X.seq (T.seq (T.region rfl ?_)))
    refine TL.q rfl .u (Ex.bS (us := [.int .i64 a0.fBase, .int .i64 a0.fLength, .int .i64 a0.fLeader, .int .i64 a0.fSum, .int .i64 a0.fAttr, .int .i64 a0.fLast, .int .i64 a0.fFirst, .int .i64 a0.fMax, .int .i64 a0.fProducer, .int .i64 a0.fEpoch, .int .i64 a0.fSequence, .int .i64 a0.fCount]) 1 rfl Try.isAgg38 Try.sizeOf38 rfl rfl rfl) rfl ?_
    obtain ⟨x12, hx15, h⟩ := Option.bind_eq_some_iff.1 h
    refine TL.cge rfl .u (.fn Try.call26 rfl) (f_l10_list_spec a0 _ hx15) (fun _ hs => (RX.reads_triv _ _)) rfl ?_
    rintro _ _ _ ⟨A13, c14, rfl, rfl, rfl⟩
    refine TL.sel [0, 0, 0, 0] rfl ?_
    obtain ⟨⟨x16, x17⟩, hx18, h⟩ := Option.bind_eq_some_iff.1 h
    try dsimp only at h
    refine TL.ce rfl .u (.fn Try.call25 rfl) (f_r10_Bytes_spec x12 _ _ _ hx18) (fun _ hs => (SrcE.res 0 hs rfl (fun w G h => rd_reads w G h))) rfl ?_
    refine TL.run ft_cursitorlaw10_ok [3, 4, 5, 6, 7] rfl rfl ?_
    refine TL.nil (X.seq (T.seq (T.seq (T.region rfl ?_))))
    refine TL.run ft_cursitorlaw10_ok [0, 1] rfl rfl ?_
    by_cases c19 : x17 = true
    · replace h := ifT c19 h
      refine TL.nil (X.seq ?_)
      refine T.no rfl (bn_f c19) ?_
      refine T.skip (X.seq (T.seq (T.seq ?_)))
      obtain ⟨y21, h, hk22⟩ := Option.bind_eq_some_iff.1 h
      refine T.jq (fun e Rs => e = [(1, .pointer (some ⟨b1, 0, none⟩)), (2, .bool false), (4, .string (bsOf x8)), (38, .bool y21)] ∧ Rs = [RdR (sliceRd 1 intE) [.slice A13 x12.length c14] x12, OutR b5 st10, BlkR b1 38 #[.int .i64 a0.fBase, .int .i64 a0.fLength, .int .i64 a0.fLeader, .int .i64 a0.fSum, .int .i64 a0.fAttr, .int .i64 a0.fLast, .int .i64 a0.fFirst, .int .i64 a0.fMax, .int .i64 a0.fProducer, .int .i64 a0.fEpoch, .int .i64 a0.fSequence, .int .i64 a0.fCount], EmpR]) ?_ ?_
      · clear hk22
        refine T.region rfl ?_
        by_cases c23 : x9 = 0
        · replace h := ifT c23 h
          refine TL.run ft_cursitorlaw10_ok [0, 1, 2] rfl rfl ?_
          refine TL.q rfl (.g rfl rfl (bn_f (decide_eq_true c23))) (Ex.ft ft_cursitorlaw10_ok rfl) rfl ?_
          refine TL.q rfl (.g rfl rfl (bn_f (decide_eq_true c23))) (Ex.ft ft_cursitorlaw10_ok rfl) rfl ?_
          refine TL.q rfl (.g rfl rfl (bn_f (decide_eq_true c23))) (Ex.sNe rfl rfl) rfl ?_
          refine TL.q rfl .u (Ex.pn rfl (bn_f (decide_eq_true c23)) rfl) rfl ?_
          by_cases c24 : x8 = x16
          · replace h := ifT c24 h
            cases h
            exact TL.nil (X.as (d := 38) (v' := .bool false) rfl (congrArg Value.bool (bn_f (decide_eq_true c24))) (X.jq [0, 0, 0, 0] ⟨rfl, rfl⟩ (by rfl) (by rfl)))
          · replace h := ifF c24 h
            cases h
            exact TL.nil (X.as (d := 38) (v' := .bool true) rfl (congrArg Value.bool (bn_t (decide_eq_false c24))) (X.jq [0, 0, 0, 0] ⟨rfl, rfl⟩ (by rfl) (by rfl)))
        · replace h := ifF c23 h
          refine TL.run ft_cursitorlaw10_ok [0, 1, 2] rfl rfl ?_
          refine TL.no rfl (.gn rfl rfl (bn_t (decide_eq_false c23))) rfl ?_
          refine TL.no rfl (.gn rfl rfl (bn_t (decide_eq_false c23))) rfl ?_
          refine TL.no rfl (.gn rfl rfl (bn_t (decide_eq_false c23))) rfl ?_
          refine TL.q rfl .u (Ex.py rfl (bn_t (decide_eq_false c23)) rfl) rfl ?_
          cases h
          exact TL.nil (X.jq [0, 0, 0, 0] ⟨rfl, rfl⟩ (by rfl) (by rfl))
      · rintro _ _ ⟨rfl, rfl⟩
        clear h
        have h := hk22
        clear hk22
        try dsimp only at h
        by_cases c25 : y21 = true
        · replace h := ifT c25 h
          refine X.seq ?_
          refine T.yes rfl c25 ?_
          exact nomatch h
        · replace h := ifF c25 h
          replace c25 := eq_false_of_ne_true c25
          refine X.seq ?_
          refine T.no rfl c25 ?_
          refine T.skip (X.seq (T.seq (T.region rfl ?_)))
          obtain ⟨st26, hx27, h⟩ := Option.bind_eq_some_iff.1 h
          refine TL.run ft_cursitorlaw10_ok [0] rfl rfl ?_
          refine TL.cge rfl .u (.fn Try.call27 rfl) (gNew_spec x8 _ hx27) (fun _ hs => (RX.reads_triv _ _)) rfl ?_
          rintro _ _ _ ⟨b28, rfl, rfl, rfl⟩
          refine TL.sel [0, 0, 0, 0, 0] rfl ?_
          refine TL.run ft_cursitorlaw10_ok [2] rfl rfl ?_
          refine TL.nil (X.seq (T.seq (T.region rfl ?_)))
          obtain ⟨⟨x29, st30⟩, hx31, h⟩ := Option.bind_eq_some_iff.1 h
          try dsimp only at h
          refine TL.run ft_cursitorlaw10_ok [0] rfl rfl ?_
          refine TL.c0 rfl .u (.fn Try.call28 rfl) (f_prefix_Read_spec b28 st26 _ hx31) (fun _ hs => (Src.triv _)) rfl ?_
          refine TL.alloc rfl .u Try.zeroValue38 rfl (fun b32 => ?_)
          refine TL.st0 (cs' := #[.int .i64 x29.fBase, .int .i64 x29.fLength, .int .i64 x29.fLeader, .int .i64 x29.fSum, .int .i64 x29.fAttr, .int .i64 x29.fLast, .int .i64 x29.fFirst, .int .i64 x29.fMax, .int .i64 x29.fProducer, .int .i64 x29.fEpoch, .int .i64 x29.fSequence, .int .i64 x29.fCount]) rfl .u rfl rfl Try.sizeOf38 rfl rfl rfl rfl ?_
          refine TL.nil (X.seq (T.seq (T.block (T.seq (T.region rfl ?_)))))
          refine TL.run ft_cursitorlaw10_ok [0] rfl rfl ?_
          refine TL.q rfl .u (Ex.b1 4 rfl Try.isAgg3 rfl rfl) rfl ?_
          refine TL.run ft_cursitorlaw10_ok [2, 3] rfl rfl ?_
          by_cases c33 : a0.fLength < 49
          · replace h := ifT c33 h
            refine TL.nil (X.seq ?_)
            refine T.yes rfl (decide_eq_true c33) ?_
            refine T.seq ?_
            obtain ⟨⟨y49, st50⟩, h, hk51⟩ := Option.bind_eq_some_iff.1 h
            refine T.jq (fun e Rs => e = [(1, .pointer (some ⟨b1, 0, none⟩)), (2, .bool y49), (8, .pointer (some ⟨b28, 0, none⟩)), (9, .pointer (some ⟨b32, 0, none⟩))] ∧ Rs = [BlkR b32 38 #[.int .i64 x29.fBase, .int .i64 x29.fLength, .int .i64 x29.fLeader, .int .i64 x29.fSum, .int .i64 x29.fAttr, .int .i64 x29.fLast, .int .i64 x29.fFirst, .int .i64 x29.fMax, .int .i64 x29.fProducer, .int .i64 x29.fEpoch, .int .i64 x29.fSequence, .int .i64 x29.fCount], InR b28 st50, RdR (sliceRd 1 intE) [.slice A13 x12.length c14] x12, OutR b5 st10, BlkR b1 38 #[.int .i64 a0.fBase, .int .i64 a0.fLength, .int .i64 a0.fLeader, .int .i64 a0.fSum, .int .i64 a0.fAttr, .int .i64 a0.fLast, .int .i64 a0.fFirst, .int .i64 a0.fMax, .int .i64 a0.fProducer, .int .i64 a0.fEpoch, .int .i64 a0.fSequence, .int .i64 a0.fCount], EmpR]) ?_ ?_
            · clear hk51
              refine T.region rfl ?_
              refine TL.q rfl .u (Ex.bS (us := [.int .i64 x29.fBase, .int .i64 x29.fLength, .int .i64 x29.fLeader, .int .i64 x29.fSum, .int .i64 x29.fAttr, .int .i64 x29.fLast, .int .i64 x29.fFirst, .int .i64 x29.fMax, .int .i64 x29.fProducer, .int .i64 x29.fEpoch, .int .i64 x29.fSequence, .int .i64 x29.fCount]) 0 rfl Try.isAgg38 Try.sizeOf38 rfl rfl rfl) rfl ?_
              refine TL.q rfl .u (Ex.bld (cells := #[.int .i64 0, .int .i64 0, .int .i64 0, .int .i64 0, .int .i64 0, .int .i64 0, .int .i64 0, .int .i64 0, .int .i64 0, .int .i64 0, .int .i64 0, .int .i64 0]) bok_cursitorlaw10_38 rfl (by kernel_rfl)) rfl ?_
              by_cases c52 : x29.fBase = 0
              · replace h := ifT c52 h
                by_cases c53 : x29.fLength = 0
                · replace h := ifT c53 h
                  by_cases c54 : x29.fLeader = 0
                  · replace h := ifT c54 h
                    by_cases c55 : x29.fSum = 0
                    · replace h := ifT c55 h
                      by_cases c56 : x29.fAttr = 0
                      · replace h := ifT c56 h
                        by_cases c57 : x29.fLast = 0
                        · replace h := ifT c57 h
                          by_cases c58 : x29.fFirst = 0
                          · replace h := ifT c58 h
                            by_cases c59 : x29.fMax = 0
                            · replace h := ifT c59 h
                              by_cases c60 : x29.fProducer = 0
                              · replace h := ifT c60 h
                                by_cases c61 : x29.fEpoch = 0
                                · replace h := ifT c61 h
                                  by_cases c62 : x29.fSequence = 0
                                  · replace h := ifT c62 h
                                    by_cases c63 : x29.fCount = 0
                                    · replace h := ifT c63 h
                                      refine TL.q rfl .u (Ex.aEq (us := [.int .i64 x29.fBase, .int .i64 x29.fLength, .int .i64 x29.fLeader, .int .i64 x29.fSum, .int .i64 x29.fAttr, .int .i64 x29.fLast, .int .i64 x29.fFirst, .int .i64 x29.fMax, .int .i64 x29.fProducer, .int .i64 x29.fEpoch, .int .i64 x29.fSequence, .int .i64 x29.fCount]) (vs := [.int .i64 0, .int .i64 0, .int .i64 0, .int .i64 0, .int .i64 0, .int .i64 0, .int .i64 0, .int .i64 0, .int .i64 0, .int .i64 0, .int .i64 0, .int .i64 0]) flat_cursitorlaw10_38 rfl Try.eqGuardType38 rfl rfl rfl rfl (eqL_t (eqV_i c52) (eqL_t (eqV_i c53) (eqL_t (eqV_i c54) (eqL_t (eqV_i c55) (eqL_t (eqV_i c56) (eqL_t (eqV_i c57) (eqL_t (eqV_i c58) (eqL_t (eqV_i c59) (eqL_t (eqV_i c60) (eqL_t (eqV_i c61) (eqL_t (eqV_i c62) (eqL_t (eqV_i c63) rfl))))))))))))) rfl ?_
                                      refine TL.run ft_cursitorlaw10_ok [3] rfl rfl ?_
                                      refine TL.q rfl (.g rfl rfl rfl) (Ex.ft ft_cursitorlaw10_ok rfl) rfl ?_
                                      obtain ⟨⟨x64, st65⟩, hx66, h⟩ := Option.bind_eq_some_iff.1 h
                                      try dsimp only at h
                                      refine TL.c1 rfl (.g rfl rfl rfl) (.fn Try.call29 rfl) (gErr_spec b28 st30 _ hx66) (fun _ hs => (Src.triv _)) rfl ?_
                                      refine TL.q rfl (.g rfl rfl rfl) (Ex.ft ft_cursitorlaw10_ok rfl) rfl ?_
                                      refine TL.q rfl .u (Ex.py rfl rfl rfl) rfl ?_
                                      refine TL.run ft_cursitorlaw10_ok [8] rfl rfl ?_
                                      by_cases c67 : x64 = 4
                                      · replace h := ifT c67 h
                                        cases h
                                        exact TL.nil (X.as (d := 2) (v' := .bool true) rfl (congrArg Value.bool (decide_eq_true c67)) (X.jq [0, 0, 0, 0, 0, 0] ⟨rfl, rfl⟩ (by rfl) (by rfl)))
                                      · replace h := ifF c67 h
                                        cases h
                                        exact TL.nil (X.as (d := 2) (v' := .bool false) rfl (congrArg Value.bool (decide_eq_false c67)) (X.jq [0, 0, 0, 0, 0, 0] ⟨rfl, rfl⟩ (by rfl) (by rfl)))
                                    · replace h := ifF c63 h
                                      refine TL.q rfl .u (Ex.aEq (us := [.int .i64 x29.fBase, .int .i64 x29.fLength, .int .i64 x29.fLeader, .int .i64 x29.fSum, .int .i64 x29.fAttr, .int .i64 x29.fLast, .int .i64 x29.fFirst, .int .i64 x29.fMax, .int .i64 x29.fProducer, .int .i64 x29.fEpoch, .int .i64 x29.fSequence, .int .i64 x29.fCount]) (vs := [.int .i64 0, .int .i64 0, .int .i64 0, .int .i64 0, .int .i64 0, .int .i64 0, .int .i64 0, .int .i64 0, .int .i64 0, .int .i64 0, .int .i64 0, .int .i64 0]) flat_cursitorlaw10_38 rfl Try.eqGuardType38 rfl rfl rfl rfl (eqL_t (eqV_i c52) (eqL_t (eqV_i c53) (eqL_t (eqV_i c54) (eqL_t (eqV_i c55) (eqL_t (eqV_i c56) (eqL_t (eqV_i c57) (eqL_t (eqV_i c58) (eqL_t (eqV_i c59) (eqL_t (eqV_i c60) (eqL_t (eqV_i c61) (eqL_t (eqV_i c62) (eqL_f (eqV_in c63)))))))))))))) rfl ?_
                                      refine TL.run ft_cursitorlaw10_ok [3] rfl rfl ?_
                                      refine TL.no rfl (.gn rfl rfl rfl) rfl ?_
                                      refine TL.no rfl (.gn rfl rfl rfl) rfl ?_
                                      refine TL.no rfl (.gn rfl rfl rfl) rfl ?_
                                      refine TL.q rfl .u (Ex.pn rfl rfl rfl) rfl ?_
                                      refine TL.run ft_cursitorlaw10_ok [8] rfl rfl ?_
                                      cases h
                                      exact TL.nil (X.jq [0, 0, 0, 0, 0, 0] ⟨rfl, rfl⟩ (by rfl) (by rfl))
                                  · replace h := ifF c62 h
                                    refine TL.q rfl .u (Ex.aEq (us := [.int .i64 x29.fBase, .int .i64 x29.fLength, .int .i64 x29.fLeader, .int .i64 x29.fSum, .int .i64 x29.fAttr, .int .i64 x29.fLast, .int .i64 x29.fFirst, .int .i64 x29.fMax, .int .i64 x29.fProducer, .int .i64 x29.fEpoch, .int .i64 x29.fSequence, .int .i64 x29.fCount]) (vs := [.int .i64 0, .int .i64 0, .int .i64 0, .int .i64 0, .int .i64 0, .int .i64 0, .int .i64 0, .int .i64 0, .int .i64 0, .int .i64 0, .int .i64 0, .int .i64 0]) flat_cursitorlaw10_38 rfl Try.eqGuardType38 rfl rfl rfl rfl (eqL_t (eqV_i c52) (eqL_t (eqV_i c53) (eqL_t (eqV_i c54) (eqL_t (eqV_i c55) (eqL_t (eqV_i c56) (eqL_t (eqV_i c57) (eqL_t (eqV_i c58) (eqL_t (eqV_i c59) (eqL_t (eqV_i c60) (eqL_t (eqV_i c61) (eqL_f (eqV_in c62))))))))))))) rfl ?_
                                    refine TL.run ft_cursitorlaw10_ok [3] rfl rfl ?_
                                    refine TL.no rfl (.gn rfl rfl rfl) rfl ?_
                                    refine TL.no rfl (.gn rfl rfl rfl) rfl ?_
                                    refine TL.no rfl (.gn rfl rfl rfl) rfl ?_
                                    refine TL.q rfl .u (Ex.pn rfl rfl rfl) rfl ?_
                                    refine TL.run ft_cursitorlaw10_ok [8] rfl rfl ?_
                                    cases h
                                    exact TL.nil (X.jq [0, 0, 0, 0, 0, 0] ⟨rfl, rfl⟩ (by rfl) (by rfl))
                                · replace h := ifF c61 h
                                  refine TL.q rfl .u (Ex.aEq (us := [.int .i64 x29.fBase, .int .i64 x29.fLength, .int .i64 x29.fLeader, .int .i64 x29.fSum, .int .i64 x29.fAttr, .int .i64 x29.fLast, .int .i64 x29.fFirst, .int .i64 x29.fMax, .int .i64 x29.fProducer, .int .i64 x29.fEpoch, .int .i64 x29.fSequence, .int .i64 x29.fCount]) (vs := [.int .i64 0, .int .i64 0, .int .i64 0, .int .i64 0, .int .i64 0, .int .i64 0, .int .i64 0, .int .i64 0, .int .i64 0, .int .i64 0, .int .i64 0, .int .i64 0]) flat_cursitorlaw10_38 rfl Try.eqGuardType38 rfl rfl rfl rfl (eqL_t (eqV_i c52) (eqL_t (eqV_i c53) (eqL_t (eqV_i c54) (eqL_t (eqV_i c55) (eqL_t (eqV_i c56) (eqL_t (eqV_i c57) (eqL_t (eqV_i c58) (eqL_t (eqV_i c59) (eqL_t (eqV_i c60) (eqL_f (eqV_in c61)))))))))))) rfl ?_
                                  refine TL.run ft_cursitorlaw10_ok [3] rfl rfl ?_
                                  refine TL.no rfl (.gn rfl rfl rfl) rfl ?_
                                  refine TL.no rfl (.gn rfl rfl rfl) rfl ?_
                                  refine TL.no rfl (.gn rfl rfl rfl) rfl ?_
                                  refine TL.q rfl .u (Ex.pn rfl rfl rfl) rfl ?_
                                  refine TL.run ft_cursitorlaw10_ok [8] rfl rfl ?_
                                  cases h
                                  exact TL.nil (X.jq [0, 0, 0, 0, 0, 0] ⟨rfl, rfl⟩ (by rfl) (by rfl))
                              · replace h := ifF c60 h
                                refine TL.q rfl .u (Ex.aEq (us := [.int .i64 x29.fBase, .int .i64 x29.fLength, .int .i64 x29.fLeader, .int .i64 x29.fSum, .int .i64 x29.fAttr, .int .i64 x29.fLast, .int .i64 x29.fFirst, .int .i64 x29.fMax, .int .i64 x29.fProducer, .int .i64 x29.fEpoch, .int .i64 x29.fSequence, .int .i64 x29.fCount]) (vs := [.int .i64 0, .int .i64 0, .int .i64 0, .int .i64 0, .int .i64 0, .int .i64 0, .int .i64 0, .int .i64 0, .int .i64 0, .int .i64 0, .int .i64 0, .int .i64 0]) flat_cursitorlaw10_38 rfl Try.eqGuardType38 rfl rfl rfl rfl (eqL_t (eqV_i c52) (eqL_t (eqV_i c53) (eqL_t (eqV_i c54) (eqL_t (eqV_i c55) (eqL_t (eqV_i c56) (eqL_t (eqV_i c57) (eqL_t (eqV_i c58) (eqL_t (eqV_i c59) (eqL_f (eqV_in c60))))))))))) rfl ?_
                                refine TL.run ft_cursitorlaw10_ok [3] rfl rfl ?_
                                refine TL.no rfl (.gn rfl rfl rfl) rfl ?_
                                refine TL.no rfl (.gn rfl rfl rfl) rfl ?_
                                refine TL.no rfl (.gn rfl rfl rfl) rfl ?_
                                refine TL.q rfl .u (Ex.pn rfl rfl rfl) rfl ?_
                                refine TL.run ft_cursitorlaw10_ok [8] rfl rfl ?_
                                cases h
                                exact TL.nil (X.jq [0, 0, 0, 0, 0, 0] ⟨rfl, rfl⟩ (by rfl) (by rfl))
                            · replace h := ifF c59 h
                              refine TL.q rfl .u (Ex.aEq (us := [.int .i64 x29.fBase, .int .i64 x29.fLength, .int .i64 x29.fLeader, .int .i64 x29.fSum, .int .i64 x29.fAttr, .int .i64 x29.fLast, .int .i64 x29.fFirst, .int .i64 x29.fMax, .int .i64 x29.fProducer, .int .i64 x29.fEpoch, .int .i64 x29.fSequence, .int .i64 x29.fCount]) (vs := [.int .i64 0, .int .i64 0, .int .i64 0, .int .i64 0, .int .i64 0, .int .i64 0, .int .i64 0, .int .i64 0, .int .i64 0, .int .i64 0, .int .i64 0, .int .i64 0]) flat_cursitorlaw10_38 rfl Try.eqGuardType38 rfl rfl rfl rfl (eqL_t (eqV_i c52) (eqL_t (eqV_i c53) (eqL_t (eqV_i c54) (eqL_t (eqV_i c55) (eqL_t (eqV_i c56) (eqL_t (eqV_i c57) (eqL_t (eqV_i c58) (eqL_f (eqV_in c59)))))))))) rfl ?_
                              refine TL.run ft_cursitorlaw10_ok [3] rfl rfl ?_
                              refine TL.no rfl (.gn rfl rfl rfl) rfl ?_
                              refine TL.no rfl (.gn rfl rfl rfl) rfl ?_
                              refine TL.no rfl (.gn rfl rfl rfl) rfl ?_
                              refine TL.q rfl .u (Ex.pn rfl rfl rfl) rfl ?_
                              refine TL.run ft_cursitorlaw10_ok [8] rfl rfl ?_
                              cases h
                              exact TL.nil (X.jq [0, 0, 0, 0, 0, 0] ⟨rfl, rfl⟩ (by rfl) (by rfl))
                          · replace h := ifF c58 h
                            refine TL.q rfl .u (Ex.aEq (us := [.int .i64 x29.fBase, .int .i64 x29.fLength, .int .i64 x29.fLeader, .int .i64 x29.fSum, .int .i64 x29.fAttr, .int .i64 x29.fLast, .int .i64 x29.fFirst, .int .i64 x29.fMax, .int .i64 x29.fProducer, .int .i64 x29.fEpoch, .int .i64 x29.fSequence, .int .i64 x29.fCount]) (vs := [.int .i64 0, .int .i64 0, .int .i64 0, .int .i64 0, .int .i64 0, .int .i64 0, .int .i64 0, .int .i64 0, .int .i64 0, .int .i64 0, .int .i64 0, .int .i64 0]) flat_cursitorlaw10_38 rfl Try.eqGuardType38 rfl rfl rfl rfl (eqL_t (eqV_i c52) (eqL_t (eqV_i c53) (eqL_t (eqV_i c54) (eqL_t (eqV_i c55) (eqL_t (eqV_i c56) (eqL_t (eqV_i c57) (eqL_f (eqV_in c58))))))))) rfl ?_
                            refine TL.run ft_cursitorlaw10_ok [3] rfl rfl ?_
                            refine TL.no rfl (.gn rfl rfl rfl) rfl ?_
                            refine TL.no rfl (.gn rfl rfl rfl) rfl ?_
                            refine TL.no rfl (.gn rfl rfl rfl) rfl ?_
                            refine TL.q rfl .u (Ex.pn rfl rfl rfl) rfl ?_
                            refine TL.run ft_cursitorlaw10_ok [8] rfl rfl ?_
                            cases h
                            exact TL.nil (X.jq [0, 0, 0, 0, 0, 0] ⟨rfl, rfl⟩ (by rfl) (by rfl))
                        · replace h := ifF c57 h
                          refine TL.q rfl .u (Ex.aEq (us := [.int .i64 x29.fBase, .int .i64 x29.fLength, .int .i64 x29.fLeader, .int .i64 x29.fSum, .int .i64 x29.fAttr, .int .i64 x29.fLast, .int .i64 x29.fFirst, .int .i64 x29.fMax, .int .i64 x29.fProducer, .int .i64 x29.fEpoch, .int .i64 x29.fSequence, .int .i64 x29.fCount]) (vs := [.int .i64 0, .int .i64 0, .int .i64 0, .int .i64 0, .int .i64 0, .int .i64 0, .int .i64 0, .int .i64 0, .int .i64 0, .int .i64 0, .int .i64 0, .int .i64 0]) flat_cursitorlaw10_38 rfl Try.eqGuardType38 rfl rfl rfl rfl (eqL_t (eqV_i c52) (eqL_t (eqV_i c53) (eqL_t (eqV_i c54) (eqL_t (eqV_i c55) (eqL_t (eqV_i c56) (eqL_f (eqV_in c57)))))))) rfl ?_
                          refine TL.run ft_cursitorlaw10_ok [3] rfl rfl ?_
                          refine TL.no rfl (.gn rfl rfl rfl) rfl ?_
                          refine TL.no rfl (.gn rfl rfl rfl) rfl ?_
                          refine TL.no rfl (.gn rfl rfl rfl) rfl ?_
                          refine TL.q rfl .u (Ex.pn rfl rfl rfl) rfl ?_
                          refine TL.run ft_cursitorlaw10_ok [8] rfl rfl ?_
                          cases h
                          exact TL.nil (X.jq [0, 0, 0, 0, 0, 0] ⟨rfl, rfl⟩ (by rfl) (by rfl))
                      · replace h := ifF c56 h
                        refine TL.q rfl .u (Ex.aEq (us := [.int .i64 x29.fBase, .int .i64 x29.fLength, .int .i64 x29.fLeader, .int .i64 x29.fSum, .int .i64 x29.fAttr, .int .i64 x29.fLast, .int .i64 x29.fFirst, .int .i64 x29.fMax, .int .i64 x29.fProducer, .int .i64 x29.fEpoch, .int .i64 x29.fSequence, .int .i64 x29.fCount]) (vs := [.int .i64 0, .int .i64 0, .int .i64 0, .int .i64 0, .int .i64 0, .int .i64 0, .int .i64 0, .int .i64 0, .int .i64 0, .int .i64 0, .int .i64 0, .int .i64 0]) flat_cursitorlaw10_38 rfl Try.eqGuardType38 rfl rfl rfl rfl (eqL_t (eqV_i c52) (eqL_t (eqV_i c53) (eqL_t (eqV_i c54) (eqL_t (eqV_i c55) (eqL_f (eqV_in c56))))))) rfl ?_
                        refine TL.run ft_cursitorlaw10_ok [3] rfl rfl ?_
                        refine TL.no rfl (.gn rfl rfl rfl) rfl ?_
                        refine TL.no rfl (.gn rfl rfl rfl) rfl ?_
                        refine TL.no rfl (.gn rfl rfl rfl) rfl ?_
                        refine TL.q rfl .u (Ex.pn rfl rfl rfl) rfl ?_
                        refine TL.run ft_cursitorlaw10_ok [8] rfl rfl ?_
                        cases h
                        exact TL.nil (X.jq [0, 0, 0, 0, 0, 0] ⟨rfl, rfl⟩ (by rfl) (by rfl))
                    · replace h := ifF c55 h
                      refine TL.q rfl .u (Ex.aEq (us := [.int .i64 x29.fBase, .int .i64 x29.fLength, .int .i64 x29.fLeader, .int .i64 x29.fSum, .int .i64 x29.fAttr, .int .i64 x29.fLast, .int .i64 x29.fFirst, .int .i64 x29.fMax, .int .i64 x29.fProducer, .int .i64 x29.fEpoch, .int .i64 x29.fSequence, .int .i64 x29.fCount]) (vs := [.int .i64 0, .int .i64 0, .int .i64 0, .int .i64 0, .int .i64 0, .int .i64 0, .int .i64 0, .int .i64 0, .int .i64 0, .int .i64 0, .int .i64 0, .int .i64 0]) flat_cursitorlaw10_38 rfl Try.eqGuardType38 rfl rfl rfl rfl (eqL_t (eqV_i c52) (eqL_t (eqV_i c53) (eqL_t (eqV_i c54) (eqL_f (eqV_in c55)))))) rfl ?_
                      refine TL.run ft_cursitorlaw10_ok [3] rfl rfl ?_
                      refine TL.no rfl (.gn rfl rfl rfl) rfl ?_
                      refine TL.no rfl (.gn rfl rfl rfl) rfl ?_
                      refine TL.no rfl (.gn rfl rfl rfl) rfl ?_
                      refine TL.q rfl .u (Ex.pn rfl rfl rfl) rfl ?_
                      refine TL.run ft_cursitorlaw10_ok [8] rfl rfl ?_
                      cases h
                      exact TL.nil (X.jq [0, 0, 0, 0, 0, 0] ⟨rfl, rfl⟩ (by rfl) (by rfl))
                  · replace h := ifF c54 h
                    refine TL.q rfl .u (Ex.aEq (us := [.int .i64 x29.fBase, .int .i64 x29.fLength, .int .i64 x29.fLeader, .int .i64 x29.fSum, .int .i64 x29.fAttr, .int .i64 x29.fLast, .int .i64 x29.fFirst, .int .i64 x29.fMax, .int .i64 x29.fProducer, .int .i64 x29.fEpoch, .int .i64 x29.fSequence, .int .i64 x29.fCount]) (vs := [.int .i64 0, .int .i64 0, .int .i64 0, .int .i64 0, .int .i64 0, .int .i64 0, .int .i64 0, .int .i64 0, .int .i64 0, .int .i64 0, .int .i64 0, .int .i64 0]) flat_cursitorlaw10_38 rfl Try.eqGuardType38 rfl rfl rfl rfl (eqL_t (eqV_i c52) (eqL_t (eqV_i c53) (eqL_f (eqV_in c54))))) rfl ?_
                    refine TL.run ft_cursitorlaw10_ok [3] rfl rfl ?_
                    refine TL.no rfl (.gn rfl rfl rfl) rfl ?_
                    refine TL.no rfl (.gn rfl rfl rfl) rfl ?_
                    refine TL.no rfl (.gn rfl rfl rfl) rfl ?_
                    refine TL.q rfl .u (Ex.pn rfl rfl rfl) rfl ?_
                    refine TL.run ft_cursitorlaw10_ok [8] rfl rfl ?_
                    cases h
                    exact TL.nil (X.jq [0, 0, 0, 0, 0, 0] ⟨rfl, rfl⟩ (by rfl) (by rfl))
                · replace h := ifF c53 h
                  refine TL.q rfl .u (Ex.aEq (us := [.int .i64 x29.fBase, .int .i64 x29.fLength, .int .i64 x29.fLeader, .int .i64 x29.fSum, .int .i64 x29.fAttr, .int .i64 x29.fLast, .int .i64 x29.fFirst, .int .i64 x29.fMax, .int .i64 x29.fProducer, .int .i64 x29.fEpoch, .int .i64 x29.fSequence, .int .i64 x29.fCount]) (vs := [.int .i64 0, .int .i64 0, .int .i64 0, .int .i64 0, .int .i64 0, .int .i64 0, .int .i64 0, .int .i64 0, .int .i64 0, .int .i64 0, .int .i64 0, .int .i64 0]) flat_cursitorlaw10_38 rfl Try.eqGuardType38 rfl rfl rfl rfl (eqL_t (eqV_i c52) (eqL_f (eqV_in c53)))) rfl ?_
                  refine TL.run ft_cursitorlaw10_ok [3] rfl rfl ?_
                  refine TL.no rfl (.gn rfl rfl rfl) rfl ?_
                  refine TL.no rfl (.gn rfl rfl rfl) rfl ?_
                  refine TL.no rfl (.gn rfl rfl rfl) rfl ?_
                  refine TL.q rfl .u (Ex.pn rfl rfl rfl) rfl ?_
                  refine TL.run ft_cursitorlaw10_ok [8] rfl rfl ?_
                  cases h
                  exact TL.nil (X.jq [0, 0, 0, 0, 0, 0] ⟨rfl, rfl⟩ (by rfl) (by rfl))
              · replace h := ifF c52 h
                refine TL.q rfl .u (Ex.aEq (us := [.int .i64 x29.fBase, .int .i64 x29.fLength, .int .i64 x29.fLeader, .int .i64 x29.fSum, .int .i64 x29.fAttr, .int .i64 x29.fLast, .int .i64 x29.fFirst, .int .i64 x29.fMax, .int .i64 x29.fProducer, .int .i64 x29.fEpoch, .int .i64 x29.fSequence, .int .i64 x29.fCount]) (vs := [.int .i64 0, .int .i64 0, .int .i64 0, .int .i64 0, .int .i64 0, .int .i64 0, .int .i64 0, .int .i64 0, .int .i64 0, .int .i64 0, .int .i64 0, .int .i64 0]) flat_cursitorlaw10_38 rfl Try.eqGuardType38 rfl rfl rfl rfl (eqL_f (eqV_in c52))) rfl ?_
                refine TL.run ft_cursitorlaw10_ok [3] rfl rfl ?_
                refine TL.no rfl (.gn rfl rfl rfl) rfl ?_
                refine TL.no rfl (.gn rfl rfl rfl) rfl ?_
                refine TL.no rfl (.gn rfl rfl rfl) rfl ?_
                refine TL.q rfl .u (Ex.pn rfl rfl rfl) rfl ?_
                refine TL.run ft_cursitorlaw10_ok [8] rfl rfl ?_
                cases h
                exact TL.nil (X.jq [0, 0, 0, 0, 0, 0] ⟨rfl, rfl⟩ (by rfl) (by rfl))
            · rintro _ _ ⟨rfl, rfl⟩
              clear h
              have h := hk51
              clear hk51
              try dsimp only at h
              obtain rfl := Option.some.inj h
              exact X.seq (T.ret (X.rb (X.rs (X.done1 [5] Try.results4 (RV.tm rfl) ⟨rfl, rfl, rfl⟩ (by rfl) (.inl rfl)))))
          · replace h := ifF c33 h
            refine TL.nil (X.seq ?_)
            refine T.no rfl (decide_eq_false c33) ?_
            refine T.seq (T.region rfl ?_)
            refine TL.run ft_cursitorlaw10_ok [0] rfl rfl ?_
            refine TL.q rfl .u (Ex.b1 4 rfl Try.isAgg3 rfl rfl) rfl ?_
            refine TL.run ft_cursitorlaw10_ok [2, 3] rfl rfl ?_
            by_cases c68 : a0.fCount < 0
            · replace h := ifT c68 h
              refine TL.nil (X.seq ?_)
              refine T.yes rfl (decide_eq_true c68) ?_
              refine T.seq ?_
              obtain ⟨⟨y84, st85⟩, h, hk86⟩ := Option.bind_eq_some_iff.1 h
              refine T.jq (fun e Rs => e = [(1, .pointer (some ⟨b1, 0, none⟩)), (2, .bool y84), (8, .pointer (some ⟨b28, 0, none⟩)), (9, .pointer (some ⟨b32, 0, none⟩))] ∧ Rs = [BlkR b32 38 #[.int .i64 x29.fBase, .int .i64 x29.fLength, .int .i64 x29.fLeader, .int .i64 x29.fSum, .int .i64 x29.fAttr, .int .i64 x29.fLast, .int .i64 x29.fFirst, .int .i64 x29.fMax, .int .i64 x29.fProducer, .int .i64 x29.fEpoch, .int .i64 x29.fSequence, .int .i64 x29.fCount], InR b28 st85, RdR (sliceRd 1 intE) [.slice A13 x12.length c14] x12, OutR b5 st10, BlkR b1 38 #[.int .i64 a0.fBase, .int .i64 a0.fLength, .int .i64 a0.fLeader, .int .i64 a0.fSum, .int .i64 a0.fAttr, .int .i64 a0.fLast, .int .i64 a0.fFirst, .int .i64 a0.fMax, .int .i64 a0.fProducer, .int .i64 a0.fEpoch, .int .i64 a0.fSequence, .int .i64 a0.fCount], EmpR]) ?_ ?_
              · clear hk86
                refine T.region rfl ?_
                refine TL.q rfl .u (Ex.bS (us := [.int .i64 x29.fBase, .int .i64 x29.fLength, .int .i64 x29.fLeader, .int .i64 x29.fSum, .int .i64 x29.fAttr, .int .i64 x29.fLast, .int .i64 x29.fFirst, .int .i64 x29.fMax, .int .i64 x29.fProducer, .int .i64 x29.fEpoch, .int .i64 x29.fSequence, .int .i64 x29.fCount]) 0 rfl Try.isAgg38 Try.sizeOf38 rfl rfl rfl) rfl ?_
                refine TL.q rfl .u (Ex.bld (cells := #[.int .i64 0, .int .i64 0, .int .i64 0, .int .i64 0, .int .i64 0, .int .i64 0, .int .i64 0, .int .i64 0, .int .i64 0, .int .i64 0, .int .i64 0, .int .i64 0]) bok_cursitorlaw10_38 rfl (by kernel_rfl)) rfl ?_
                by_cases c87 : x29.fBase = 0
                · replace h := ifT c87 h
                  by_cases c88 : x29.fLength = 0
                  · replace h := ifT c88 h
                    by_cases c89 : x29.fLeader = 0
                    · replace h := ifT c89 h
                      by_cases c90 : x29.fSum = 0
                      · replace h := ifT c90 h
                        by_cases c91 : x29.fAttr = 0
                        · replace h := ifT c91 h
                          by_cases c92 : x29.fLast = 0
                          · replace h := ifT c92 h
                            by_cases c93 : x29.fFirst = 0
                            · replace h := ifT c93 h
                              by_cases c94 : x29.fMax = 0
                              · replace h := ifT c94 h
                                by_cases c95 : x29.fProducer = 0
                                · replace h := ifT c95 h
                                  by_cases c96 : x29.fEpoch = 0
                                  · replace h := ifT c96 h
                                    by_cases c97 : x29.fSequence = 0
                                    · replace h := ifT c97 h
                                      by_cases c98 : x29.fCount = 0
                                      · replace h := ifT c98 h
                                        refine TL.q rfl .u (Ex.aEq (us := [.int .i64 x29.fBase, .int .i64 x29.fLength, .int .i64 x29.fLeader, .int .i64 x29.fSum, .int .i64 x29.fAttr, .int .i64 x29.fLast, .int .i64 x29.fFirst, .int .i64 x29.fMax, .int .i64 x29.fProducer, .int .i64 x29.fEpoch, .int .i64 x29.fSequence, .int .i64 x29.fCount]) (vs := [.int .i64 0, .int .i64 0, .int .i64 0, .int .i64 0, .int .i64 0, .int .i64 0, .int .i64 0, .int .i64 0, .int .i64 0, .int .i64 0, .int .i64 0, .int .i64 0]) flat_cursitorlaw10_38 rfl Try.eqGuardType38 rfl rfl rfl rfl (eqL_t (eqV_i c87) (eqL_t (eqV_i c88) (eqL_t (eqV_i c89) (eqL_t (eqV_i c90) (eqL_t (eqV_i c91) (eqL_t (eqV_i c92) (eqL_t (eqV_i c93) (eqL_t (eqV_i c94) (eqL_t (eqV_i c95) (eqL_t (eqV_i c96) (eqL_t (eqV_i c97) (eqL_t (eqV_i c98) rfl))))))))))))) rfl ?_
                                        refine TL.run ft_cursitorlaw10_ok [3] rfl rfl ?_
                                        refine TL.q rfl (.g rfl rfl rfl) (Ex.ft ft_cursitorlaw10_ok rfl) rfl ?_
                                        obtain ⟨⟨x99, st100⟩, hx101, h⟩ := Option.bind_eq_some_iff.1 h
                                        try dsimp only at h
                                        refine TL.c1 rfl (.g rfl rfl rfl) (.fn Try.call29 rfl) (gErr_spec b28 st30 _ hx101) (fun _ hs => (Src.triv _)) rfl ?_
                                        refine TL.q rfl (.g rfl rfl rfl) (Ex.ft ft_cursitorlaw10_ok rfl) rfl ?_
                                        refine TL.q rfl .u (Ex.py rfl rfl rfl) rfl ?_
                                        refine TL.run ft_cursitorlaw10_ok [8] rfl rfl ?_
                                        by_cases c102 : x99 = 10
                                        · replace h := ifT c102 h
                                          cases h
                                          exact TL.nil (X.as (d := 2) (v' := .bool true) rfl (congrArg Value.bool (decide_eq_true c102)) (X.jq [0, 0, 0, 0, 0, 0] ⟨rfl, rfl⟩ (by rfl) (by rfl)))
                                        · replace h := ifF c102 h
                                          cases h
                                          exact TL.nil (X.as (d := 2) (v' := .bool false) rfl (congrArg Value.bool (decide_eq_false c102)) (X.jq [0, 0, 0, 0, 0, 0] ⟨rfl, rfl⟩ (by rfl) (by rfl)))
                                      · replace h := ifF c98 h
                                        refine TL.q rfl .u (Ex.aEq (us := [.int .i64 x29.fBase, .int .i64 x29.fLength, .int .i64 x29.fLeader, .int .i64 x29.fSum, .int .i64 x29.fAttr, .int .i64 x29.fLast, .int .i64 x29.fFirst, .int .i64 x29.fMax, .int .i64 x29.fProducer, .int .i64 x29.fEpoch, .int .i64 x29.fSequence, .int .i64 x29.fCount]) (vs := [.int .i64 0, .int .i64 0, .int .i64 0, .int .i64 0, .int .i64 0, .int .i64 0, .int .i64 0, .int .i64 0, .int .i64 0, .int .i64 0, .int .i64 0, .int .i64 0]) flat_cursitorlaw10_38 rfl Try.eqGuardType38 rfl rfl rfl rfl (eqL_t (eqV_i c87) (eqL_t (eqV_i c88) (eqL_t (eqV_i c89) (eqL_t (eqV_i c90) (eqL_t (eqV_i c91) (eqL_t (eqV_i c92) (eqL_t (eqV_i c93) (eqL_t (eqV_i c94) (eqL_t (eqV_i c95) (eqL_t (eqV_i c96) (eqL_t (eqV_i c97) (eqL_f (eqV_in c98)))))))))))))) rfl ?_
                                        refine TL.run ft_cursitorlaw10_ok [3] rfl rfl ?_
                                        refine TL.no rfl (.gn rfl rfl rfl) rfl ?_
                                        refine TL.no rfl (.gn rfl rfl rfl) rfl ?_
                                        refine TL.no rfl (.gn rfl rfl rfl) rfl ?_
                                        refine TL.q rfl .u (Ex.pn rfl rfl rfl) rfl ?_
                                        refine TL.run ft_cursitorlaw10_ok [8] rfl rfl ?_
                                        cases h
                                        exact TL.nil (X.jq [0, 0, 0, 0, 0, 0] ⟨rfl, rfl⟩ (by rfl) (by rfl))
                                    · replace h := ifF c97 h
                                      refine TL.q rfl .u (Ex.aEq (us := [.int .i64 x29.fBase, .int .i64 x29.fLength, .int .i64 x29.fLeader, .int .i64 x29.fSum, .int .i64 x29.fAttr, .int .i64 x29.fLast, .int .i64 x29.fFirst, .int .i64 x29.fMax, .int .i64 x29.fProducer, .int .i64 x29.fEpoch, .int .i64 x29.fSequence, .int .i64 x29.fCount]) (vs := [.int .i64 0, .int .i64 0, .int .i64 0, .int .i64 0, .int .i64 0, .int .i64 0, .int .i64 0, .int .i64 0, .int .i64 0, .int .i64 0, .int .i64 0, .int .i64 0]) flat_cursitorlaw10_38 rfl Try.eqGuardType38 rfl rfl rfl rfl (eqL_t (eqV_i c87) (eqL_t (eqV_i c88) (eqL_t (eqV_i c89) (eqL_t (eqV_i c90) (eqL_t (eqV_i c91) (eqL_t (eqV_i c92) (eqL_t (eqV_i c93) (eqL_t (eqV_i c94) (eqL_t (eqV_i c95) (eqL_t (eqV_i c96) (eqL_f (eqV_in c97))))))))))))) rfl ?_
                                      refine TL.run ft_cursitorlaw10_ok [3] rfl rfl ?_
                                      refine TL.no rfl (.gn rfl rfl rfl) rfl ?_
                                      refine TL.no rfl (.gn rfl rfl rfl) rfl ?_
                                      refine TL.no rfl (.gn rfl rfl rfl) rfl ?_
                                      refine TL.q rfl .u (Ex.pn rfl rfl rfl) rfl ?_
                                      refine TL.run ft_cursitorlaw10_ok [8] rfl rfl ?_
                                      cases h
                                      exact TL.nil (X.jq [0, 0, 0, 0, 0, 0] ⟨rfl, rfl⟩ (by rfl) (by rfl))
                                  · replace h := ifF c96 h
                                    refine TL.q rfl .u (Ex.aEq (us := [.int .i64 x29.fBase, .int .i64 x29.fLength, .int .i64 x29.fLeader, .int .i64 x29.fSum, .int .i64 x29.fAttr, .int .i64 x29.fLast, .int .i64 x29.fFirst, .int .i64 x29.fMax, .int .i64 x29.fProducer, .int .i64 x29.fEpoch, .int .i64 x29.fSequence, .int .i64 x29.fCount]) (vs := [.int .i64 0, .int .i64 0, .int .i64 0, .int .i64 0, .int .i64 0, .int .i64 0, .int .i64 0, .int .i64 0, .int .i64 0, .int .i64 0, .int .i64 0, .int .i64 0]) flat_cursitorlaw10_38 rfl Try.eqGuardType38 rfl rfl rfl rfl (eqL_t (eqV_i c87) (eqL_t (eqV_i c88) (eqL_t (eqV_i c89) (eqL_t (eqV_i c90) (eqL_t (eqV_i c91) (eqL_t (eqV_i c92) (eqL_t (eqV_i c93) (eqL_t (eqV_i c94) (eqL_t (eqV_i c95) (eqL_f (eqV_in c96)))))))))))) rfl ?_
                                    refine TL.run ft_cursitorlaw10_ok [3] rfl rfl ?_
                                    refine TL.no rfl (.gn rfl rfl rfl) rfl ?_
                                    refine TL.no rfl (.gn rfl rfl rfl) rfl ?_
                                    refine TL.no rfl (.gn rfl rfl rfl) rfl ?_
                                    refine TL.q rfl .u (Ex.pn rfl rfl rfl) rfl ?_
                                    refine TL.run ft_cursitorlaw10_ok [8] rfl rfl ?_
                                    cases h
                                    exact TL.nil (X.jq [0, 0, 0, 0, 0, 0] ⟨rfl, rfl⟩ (by rfl) (by rfl))
                                · replace h := ifF c95 h
                                  refine TL.q rfl .u (Ex.aEq (us := [.int .i64 x29.fBase, .int .i64 x29.fLength, .int .i64 x29.fLeader, .int .i64 x29.fSum, .int .i64 x29.fAttr, .int .i64 x29.fLast, .int .i64 x29.fFirst, .int .i64 x29.fMax, .int .i64 x29.fProducer, .int .i64 x29.fEpoch, .int .i64 x29.fSequence, .int .i64 x29.fCount]) (vs := [.int .i64 0, .int .i64 0, .int .i64 0, .int .i64 0, .int .i64 0, .int .i64 0, .int .i64 0, .int .i64 0, .int .i64 0, .int .i64 0, .int .i64 0, .int .i64 0]) flat_cursitorlaw10_38 rfl Try.eqGuardType38 rfl rfl rfl rfl (eqL_t (eqV_i c87) (eqL_t (eqV_i c88) (eqL_t (eqV_i c89) (eqL_t (eqV_i c90) (eqL_t (eqV_i c91) (eqL_t (eqV_i c92) (eqL_t (eqV_i c93) (eqL_t (eqV_i c94) (eqL_f (eqV_in c95))))))))))) rfl ?_
                                  refine TL.run ft_cursitorlaw10_ok [3] rfl rfl ?_
                                  refine TL.no rfl (.gn rfl rfl rfl) rfl ?_
                                  refine TL.no rfl (.gn rfl rfl rfl) rfl ?_
                                  refine TL.no rfl (.gn rfl rfl rfl) rfl ?_
                                  refine TL.q rfl .u (Ex.pn rfl rfl rfl) rfl ?_
                                  refine TL.run ft_cursitorlaw10_ok [8] rfl rfl ?_
                                  cases h
                                  exact TL.nil (X.jq [0, 0, 0, 0, 0, 0] ⟨rfl, rfl⟩ (by rfl) (by rfl))
                              · replace h := ifF c94 h
                                refine TL.q rfl .u (Ex.aEq (us := [.int .i64 x29.fBase, .int .i64 x29.fLength, .int .i64 x29.fLeader, .int .i64 x29.fSum, .int .i64 x29.fAttr, .int .i64 x29.fLast, .int .i64 x29.fFirst, .int .i64 x29.fMax, .int .i64 x29.fProducer, .int .i64 x29.fEpoch, .int .i64 x29.fSequence, .int .i64 x29.fCount]) (vs := [.int .i64 0, .int .i64 0, .int .i64 0, .int .i64 0, .int .i64 0, .int .i64 0, .int .i64 0, .int .i64 0, .int .i64 0, .int .i64 0, .int .i64 0, .int .i64 0]) flat_cursitorlaw10_38 rfl Try.eqGuardType38 rfl rfl rfl rfl (eqL_t (eqV_i c87) (eqL_t (eqV_i c88) (eqL_t (eqV_i c89) (eqL_t (eqV_i c90) (eqL_t (eqV_i c91) (eqL_t (eqV_i c92) (eqL_t (eqV_i c93) (eqL_f (eqV_in c94)))))))))) rfl ?_
                                refine TL.run ft_cursitorlaw10_ok [3] rfl rfl ?_
                                refine TL.no rfl (.gn rfl rfl rfl) rfl ?_
                                refine TL.no rfl (.gn rfl rfl rfl) rfl ?_
                                refine TL.no rfl (.gn rfl rfl rfl) rfl ?_
                                refine TL.q rfl .u (Ex.pn rfl rfl rfl) rfl ?_
                                refine TL.run ft_cursitorlaw10_ok [8] rfl rfl ?_
                                cases h
                                exact TL.nil (X.jq [0, 0, 0, 0, 0, 0] ⟨rfl, rfl⟩ (by rfl) (by rfl))
                            · replace h := ifF c93 h
                              refine TL.q rfl .u (Ex.aEq (us := [.int .i64 x29.fBase, .int .i64 x29.fLength, .int .i64 x29.fLeader, .int .i64 x29.fSum, .int .i64 x29.fAttr, .int .i64 x29.fLast, .int .i64 x29.fFirst, .int .i64 x29.fMax, .int .i64 x29.fProducer, .int .i64 x29.fEpoch, .int .i64 x29.fSequence, .int .i64 x29.fCount]) (vs := [.int .i64 0, .int .i64 0, .int .i64 0, .int .i64 0, .int .i64 0, .int .i64 0, .int .i64 0, .int .i64 0, .int .i64 0, .int .i64 0, .int .i64 0, .int .i64 0]) flat_cursitorlaw10_38 rfl Try.eqGuardType38 rfl rfl rfl rfl (eqL_t (eqV_i c87) (eqL_t (eqV_i c88) (eqL_t (eqV_i c89) (eqL_t (eqV_i c90) (eqL_t (eqV_i c91) (eqL_t (eqV_i c92) (eqL_f (eqV_in c93))))))))) rfl ?_
                              refine TL.run ft_cursitorlaw10_ok [3] rfl rfl ?_
                              refine TL.no rfl (.gn rfl rfl rfl) rfl ?_
                              refine TL.no rfl (.gn rfl rfl rfl) rfl ?_
                              refine TL.no rfl (.gn rfl rfl rfl) rfl ?_
                              refine TL.q rfl .u (Ex.pn rfl rfl rfl) rfl ?_
                              refine TL.run ft_cursitorlaw10_ok [8] rfl rfl ?_
                              cases h
                              exact TL.nil (X.jq [0, 0, 0, 0, 0, 0] ⟨rfl, rfl⟩ (by rfl) (by rfl))
                          · replace h := ifF c92 h
                            refine TL.q rfl .u (Ex.aEq (us := [.int .i64 x29.fBase, .int .i64 x29.fLength, .int .i64 x29.fLeader, .int .i64 x29.fSum, .int .i64 x29.fAttr, .int .i64 x29.fLast, .int .i64 x29.fFirst, .int .i64 x29.fMax, .int .i64 x29.fProducer, .int .i64 x29.fEpoch, .int .i64 x29.fSequence, .int .i64 x29.fCount]) (vs := [.int .i64 0, .int .i64 0, .int .i64 0, .int .i64 0, .int .i64 0, .int .i64 0, .int .i64 0, .int .i64 0, .int .i64 0, .int .i64 0, .int .i64 0, .int .i64 0]) flat_cursitorlaw10_38 rfl Try.eqGuardType38 rfl rfl rfl rfl (eqL_t (eqV_i c87) (eqL_t (eqV_i c88) (eqL_t (eqV_i c89) (eqL_t (eqV_i c90) (eqL_t (eqV_i c91) (eqL_f (eqV_in c92)))))))) rfl ?_
                            refine TL.run ft_cursitorlaw10_ok [3] rfl rfl ?_
                            refine TL.no rfl (.gn rfl rfl rfl) rfl ?_
                            refine TL.no rfl (.gn rfl rfl rfl) rfl ?_
                            refine TL.no rfl (.gn rfl rfl rfl) rfl ?_
                            refine TL.q rfl .u (Ex.pn rfl rfl rfl) rfl ?_
                            refine TL.run ft_cursitorlaw10_ok [8] rfl rfl ?_
                            cases h
                            exact TL.nil (X.jq [0, 0, 0, 0, 0, 0] ⟨rfl, rfl⟩ (by rfl) (by rfl))
                        · replace h := ifF c91 h
                          refine TL.q rfl .u (Ex.aEq (us := [.int .i64 x29.fBase, .int .i64 x29.fLength, .int .i64 x29.fLeader, .int .i64 x29.fSum, .int .i64 x29.fAttr, .int .i64 x29.fLast, .int .i64 x29.fFirst, .int .i64 x29.fMax, .int .i64 x29.fProducer, .int .i64 x29.fEpoch, .int .i64 x29.fSequence, .int .i64 x29.fCount]) (vs := [.int .i64 0, .int .i64 0, .int .i64 0, .int .i64 0, .int .i64 0, .int .i64 0, .int .i64 0, .int .i64 0, .int .i64 0, .int .i64 0, .int .i64 0, .int .i64 0]) flat_cursitorlaw10_38 rfl Try.eqGuardType38 rfl rfl rfl rfl (eqL_t (eqV_i c87) (eqL_t (eqV_i c88) (eqL_t (eqV_i c89) (eqL_t (eqV_i c90) (eqL_f (eqV_in c91))))))) rfl ?_
                          refine TL.run ft_cursitorlaw10_ok [3] rfl rfl ?_
                          refine TL.no rfl (.gn rfl rfl rfl) rfl ?_
                          refine TL.no rfl (.gn rfl rfl rfl) rfl ?_
                          refine TL.no rfl (.gn rfl rfl rfl) rfl ?_
                          refine TL.q rfl .u (Ex.pn rfl rfl rfl) rfl ?_
                          refine TL.run ft_cursitorlaw10_ok [8] rfl rfl ?_
                          cases h
                          exact TL.nil (X.jq [0, 0, 0, 0, 0, 0] ⟨rfl, rfl⟩ (by rfl) (by rfl))
                      · replace h := ifF c90 h
                        refine TL.q rfl .u (Ex.aEq (us := [.int .i64 x29.fBase, .int .i64 x29.fLength, .int .i64 x29.fLeader, .int .i64 x29.fSum, .int .i64 x29.fAttr, .int .i64 x29.fLast, .int .i64 x29.fFirst, .int .i64 x29.fMax, .int .i64 x29.fProducer, .int .i64 x29.fEpoch, .int .i64 x29.fSequence, .int .i64 x29.fCount]) (vs := [.int .i64 0, .int .i64 0, .int .i64 0, .int .i64 0, .int .i64 0, .int .i64 0, .int .i64 0, .int .i64 0, .int .i64 0, .int .i64 0, .int .i64 0, .int .i64 0]) flat_cursitorlaw10_38 rfl Try.eqGuardType38 rfl rfl rfl rfl (eqL_t (eqV_i c87) (eqL_t (eqV_i c88) (eqL_t (eqV_i c89) (eqL_f (eqV_in c90)))))) rfl ?_
                        refine TL.run ft_cursitorlaw10_ok [3] rfl rfl ?_
                        refine TL.no rfl (.gn rfl rfl rfl) rfl ?_
                        refine TL.no rfl (.gn rfl rfl rfl) rfl ?_
                        refine TL.no rfl (.gn rfl rfl rfl) rfl ?_
                        refine TL.q rfl .u (Ex.pn rfl rfl rfl) rfl ?_
                        refine TL.run ft_cursitorlaw10_ok [8] rfl rfl ?_
                        cases h
                        exact TL.nil (X.jq [0, 0, 0, 0, 0, 0] ⟨rfl, rfl⟩ (by rfl) (by rfl))
                    · replace h := ifF c89 h
                      refine TL.q rfl .u (Ex.aEq (us := [.int .i64 x29.fBase, .int .i64 x29.fLength, .int .i64 x29.fLeader, .int .i64 x29.fSum, .int .i64 x29.fAttr, .int .i64 x29.fLast, .int .i64 x29.fFirst, .int .i64 x29.fMax, .int .i64 x29.fProducer, .int .i64 x29.fEpoch, .int .i64 x29.fSequence, .int .i64 x29.fCount]) (vs := [.int .i64 0, .int .i64 0, .int .i64 0, .int .i64 0, .int .i64 0, .int .i64 0, .int .i64 0, .int .i64 0, .int .i64 0, .int .i64 0, .int .i64 0, .int .i64 0]) flat_cursitorlaw10_38 rfl Try.eqGuardType38 rfl rfl rfl rfl (eqL_t (eqV_i c87) (eqL_t (eqV_i c88) (eqL_f (eqV_in c89))))) rfl ?_
                      refine TL.run ft_cursitorlaw10_ok [3] rfl rfl ?_
                      refine TL.no rfl (.gn rfl rfl rfl) rfl ?_
                      refine TL.no rfl (.gn rfl rfl rfl) rfl ?_
                      refine TL.no rfl (.gn rfl rfl rfl) rfl ?_
                      refine TL.q rfl .u (Ex.pn rfl rfl rfl) rfl ?_
                      refine TL.run ft_cursitorlaw10_ok [8] rfl rfl ?_
                      cases h
                      exact TL.nil (X.jq [0, 0, 0, 0, 0, 0] ⟨rfl, rfl⟩ (by rfl) (by rfl))
                  · replace h := ifF c88 h
                    refine TL.q rfl .u (Ex.aEq (us := [.int .i64 x29.fBase, .int .i64 x29.fLength, .int .i64 x29.fLeader, .int .i64 x29.fSum, .int .i64 x29.fAttr, .int .i64 x29.fLast, .int .i64 x29.fFirst, .int .i64 x29.fMax, .int .i64 x29.fProducer, .int .i64 x29.fEpoch, .int .i64 x29.fSequence, .int .i64 x29.fCount]) (vs := [.int .i64 0, .int .i64 0, .int .i64 0, .int .i64 0, .int .i64 0, .int .i64 0, .int .i64 0, .int .i64 0, .int .i64 0, .int .i64 0, .int .i64 0, .int .i64 0]) flat_cursitorlaw10_38 rfl Try.eqGuardType38 rfl rfl rfl rfl (eqL_t (eqV_i c87) (eqL_f (eqV_in c88)))) rfl ?_
                    refine TL.run ft_cursitorlaw10_ok [3] rfl rfl ?_
                    refine TL.no rfl (.gn rfl rfl rfl) rfl ?_
                    refine TL.no rfl (.gn rfl rfl rfl) rfl ?_
                    refine TL.no rfl (.gn rfl rfl rfl) rfl ?_
                    refine TL.q rfl .u (Ex.pn rfl rfl rfl) rfl ?_
                    refine TL.run ft_cursitorlaw10_ok [8] rfl rfl ?_
                    cases h
                    exact TL.nil (X.jq [0, 0, 0, 0, 0, 0] ⟨rfl, rfl⟩ (by rfl) (by rfl))
                · replace h := ifF c87 h
                  refine TL.q rfl .u (Ex.aEq (us := [.int .i64 x29.fBase, .int .i64 x29.fLength, .int .i64 x29.fLeader, .int .i64 x29.fSum, .int .i64 x29.fAttr, .int .i64 x29.fLast, .int .i64 x29.fFirst, .int .i64 x29.fMax, .int .i64 x29.fProducer, .int .i64 x29.fEpoch, .int .i64 x29.fSequence, .int .i64 x29.fCount]) (vs := [.int .i64 0, .int .i64 0, .int .i64 0, .int .i64 0, .int .i64 0, .int .i64 0, .int .i64 0, .int .i64 0, .int .i64 0, .int .i64 0, .int .i64 0, .int .i64 0]) flat_cursitorlaw10_38 rfl Try.eqGuardType38 rfl rfl rfl rfl (eqL_f (eqV_in c87))) rfl ?_
                  refine TL.run ft_cursitorlaw10_ok [3] rfl rfl ?_
                  refine TL.no rfl (.gn rfl rfl rfl) rfl ?_
                  refine TL.no rfl (.gn rfl rfl rfl) rfl ?_
                  refine TL.no rfl (.gn rfl rfl rfl) rfl ?_
                  refine TL.q rfl .u (Ex.pn rfl rfl rfl) rfl ?_
                  refine TL.run ft_cursitorlaw10_ok [8] rfl rfl ?_
                  cases h
                  exact TL.nil (X.jq [0, 0, 0, 0, 0, 0] ⟨rfl, rfl⟩ (by rfl) (by rfl))
              · rintro _ _ ⟨rfl, rfl⟩
                clear h
                have h := hk86
                clear hk86
                try dsimp only at h
                obtain rfl := Option.some.inj h
                exact X.seq (T.ret (X.rb (X.rs (X.done1 [5] Try.results4 (RV.tm rfl) ⟨rfl, rfl, rfl⟩ (by rfl) (.inl rfl)))))
            · replace h := ifF c68 h
              refine TL.nil (X.seq ?_)
              refine T.no rfl (decide_eq_false c68) ?_
              refine T.skip (X.blk (X.seq (T.seq ?_)))
              obtain ⟨⟨y118, st119⟩, h, hk120⟩ := Option.bind_eq_some_iff.1 h
              refine T.jq (fun e Rs => e = [(2, .bool y118)] ∧ Rs = [BlkR b32 38 #[.int .i64 x29.fBase, .int .i64 x29.fLength, .int .i64 x29.fLeader, .int .i64 x29.fSum, .int .i64 x29.fAttr, .int .i64 x29.fLast, .int .i64 x29.fFirst, .int .i64 x29.fMax, .int .i64 x29.fProducer, .int .i64 x29.fEpoch, .int .i64 x29.fSequence, .int .i64 x29.fCount], InR b28 st119, RdR (sliceRd 1 intE) [.slice A13 x12.length c14] x12, OutR b5 st10, BlkR b1 38 #[.int .i64 a0.fBase, .int .i64 a0.fLength, .int .i64 a0.fLeader, .int .i64 a0.fSum, .int .i64 a0.fAttr, .int .i64 a0.fLast, .int .i64 a0.fFirst, .int .i64 a0.fMax, .int .i64 a0.fProducer, .int .i64 a0.fEpoch, .int .i64 a0.fSequence, .int .i64 a0.fCount], EmpR]) ?_ ?_
              · clear hk120
                refine T.region rfl ?_
                refine TL.q rfl .u (Ex.bS (us := [.int .i64 x29.fBase, .int .i64 x29.fLength, .int .i64 x29.fLeader, .int .i64 x29.fSum, .int .i64 x29.fAttr, .int .i64 x29.fLast, .int .i64 x29.fFirst, .int .i64 x29.fMax, .int .i64 x29.fProducer, .int .i64 x29.fEpoch, .int .i64 x29.fSequence, .int .i64 x29.fCount]) 0 rfl Try.isAgg38 Try.sizeOf38 rfl rfl rfl) rfl ?_
                refine TL.q rfl .u (Ex.bS (us := [.int .i64 a0.fBase, .int .i64 a0.fLength, .int .i64 a0.fLeader, .int .i64 a0.fSum, .int .i64 a0.fAttr, .int .i64 a0.fLast, .int .i64 a0.fFirst, .int .i64 a0.fMax, .int .i64 a0.fProducer, .int .i64 a0.fEpoch, .int .i64 a0.fSequence, .int .i64 a0.fCount]) 4 rfl Try.isAgg38 Try.sizeOf38 rfl rfl rfl) rfl ?_
                by_cases c121 : x29.fBase = a0.fBase
                · replace h := ifT c121 h
                  by_cases c122 : x29.fLength = a0.fLength
                  · replace h := ifT c122 h
                    by_cases c123 : x29.fLeader = a0.fLeader
                    · replace h := ifT c123 h
                      by_cases c124 : x29.fSum = a0.fSum
                      · replace h := ifT c124 h
                        by_cases c125 : x29.fAttr = a0.fAttr
                        · replace h := ifT c125 h
                          by_cases c126 : x29.fLast = a0.fLast
                          · replace h := ifT c126 h
                            by_cases c127 : x29.fFirst = a0.fFirst
                            · replace h := ifT c127 h
                              by_cases c128 : x29.fMax = a0.fMax
                              · replace h := ifT c128 h
                                by_cases c129 : x29.fProducer = a0.fProducer
                                · replace h := ifT c129 h
                                  by_cases c130 : x29.fEpoch = a0.fEpoch
                                  · replace h := ifT c130 h
                                    by_cases c131 : x29.fSequence = a0.fSequence
                                    · replace h := ifT c131 h
                                      by_cases c132 : x29.fCount = a0.fCount
                                      · replace h := ifT c132 h
                                        refine TL.q rfl .u (Ex.aEq (us := [.int .i64 x29.fBase, .int .i64 x29.fLength, .int .i64 x29.fLeader, .int .i64 x29.fSum, .int .i64 x29.fAttr, .int .i64 x29.fLast, .int .i64 x29.fFirst, .int .i64 x29.fMax, .int .i64 x29.fProducer, .int .i64 x29.fEpoch, .int .i64 x29.fSequence, .int .i64 x29.fCount]) (vs := [.int .i64 a0.fBase, .int .i64 a0.fLength, .int .i64 a0.fLeader, .int .i64 a0.fSum, .int .i64 a0.fAttr, .int .i64 a0.fLast, .int .i64 a0.fFirst, .int .i64 a0.fMax, .int .i64 a0.fProducer, .int .i64 a0.fEpoch, .int .i64 a0.fSequence, .int .i64 a0.fCount]) flat_cursitorlaw10_38 rfl Try.eqGuardType38 rfl rfl rfl rfl (eqL_t (eqV_i c121) (eqL_t (eqV_i c122) (eqL_t (eqV_i c123) (eqL_t (eqV_i c124) (eqL_t (eqV_i c125) (eqL_t (eqV_i c126) (eqL_t (eqV_i c127) (eqL_t (eqV_i c128) (eqL_t (eqV_i c129) (eqL_t (eqV_i c130) (eqL_t (eqV_i c131) (eqL_t (eqV_i c132) rfl))))))))))))) rfl ?_
                                        refine TL.run ft_cursitorlaw10_ok [3] rfl rfl ?_
                                        refine TL.q rfl (.g rfl rfl rfl) (Ex.ft ft_cursitorlaw10_ok rfl) rfl ?_
                                        obtain ⟨⟨x133, st134⟩, hx135, h⟩ := Option.bind_eq_some_iff.1 h
                                        try dsimp only at h
                                        refine TL.c1 rfl (.g rfl rfl rfl) (.fn Try.call30 rfl) (gClose_spec b28 st30 _ hx135) (fun _ hs => (Src.triv _)) rfl ?_
                                        refine TL.q rfl (.g rfl rfl rfl) (Ex.ft ft_cursitorlaw10_ok rfl) rfl ?_
                                        refine TL.q rfl .u (Ex.py rfl rfl rfl) rfl ?_
                                        refine TL.run ft_cursitorlaw10_ok [8] rfl rfl ?_
                                        by_cases c136 : x133 = 0
                                        · replace h := ifT c136 h
                                          cases h
                                          exact TL.nil (X.as (d := 2) (v' := .bool true) rfl (congrArg Value.bool (decide_eq_true c136)) (X.jq [0, 0, 0, 0, 0, 0] ⟨rfl, rfl⟩ (by rfl) (by rfl)))
                                        · replace h := ifF c136 h
                                          cases h
                                          exact TL.nil (X.as (d := 2) (v' := .bool false) rfl (congrArg Value.bool (decide_eq_false c136)) (X.jq [0, 0, 0, 0, 0, 0] ⟨rfl, rfl⟩ (by rfl) (by rfl)))
                                      · replace h := ifF c132 h
                                        refine TL.q rfl .u (Ex.aEq (us := [.int .i64 x29.fBase, .int .i64 x29.fLength, .int .i64 x29.fLeader, .int .i64 x29.fSum, .int .i64 x29.fAttr, .int .i64 x29.fLast, .int .i64 x29.fFirst, .int .i64 x29.fMax, .int .i64 x29.fProducer, .int .i64 x29.fEpoch, .int .i64 x29.fSequence, .int .i64 x29.fCount]) (vs := [.int .i64 a0.fBase, .int .i64 a0.fLength, .int .i64 a0.fLeader, .int .i64 a0.fSum, .int .i64 a0.fAttr, .int .i64 a0.fLast, .int .i64 a0.fFirst, .int .i64 a0.fMax, .int .i64 a0.fProducer, .int .i64 a0.fEpoch, .int .i64 a0.fSequence, .int .i64 a0.fCount]) flat_cursitorlaw10_38 rfl Try.eqGuardType38 rfl rfl rfl rfl (eqL_t (eqV_i c121) (eqL_t (eqV_i c122) (eqL_t (eqV_i c123) (eqL_t (eqV_i c124) (eqL_t (eqV_i c125) (eqL_t (eqV_i c126) (eqL_t (eqV_i c127) (eqL_t (eqV_i c128) (eqL_t (eqV_i c129) (eqL_t (eqV_i c130) (eqL_t (eqV_i c131) (eqL_f (eqV_in c132)))))))))))))) rfl ?_
                                        refine TL.run ft_cursitorlaw10_ok [3] rfl rfl ?_
                                        refine TL.no rfl (.gn rfl rfl rfl) rfl ?_
                                        refine TL.no rfl (.gn rfl rfl rfl) rfl ?_
                                        refine TL.no rfl (.gn rfl rfl rfl) rfl ?_
                                        refine TL.q rfl .u (Ex.pn rfl rfl rfl) rfl ?_
                                        refine TL.run ft_cursitorlaw10_ok [8] rfl rfl ?_
                                        cases h
                                        exact TL.nil (X.jq [0, 0, 0, 0, 0, 0] ⟨rfl, rfl⟩ (by rfl) (by rfl))
                                    · replace h := ifF c131 h
                                      refine TL.q rfl .u (Ex.aEq (us := [.int .i64 x29.fBase, .int .i64 x29.fLength, .int .i64 x29.fLeader, .int .i64 x29.fSum, .int .i64 x29.fAttr, .int .i64 x29.fLast, .int .i64 x29.fFirst, .int .i64 x29.fMax, .int .i64 x29.fProducer, .int .i64 x29.fEpoch, .int .i64 x29.fSequence, .int .i64 x29.fCount]) (vs := [.int .i64 a0.fBase, .int .i64 a0.fLength, .int .i64 a0.fLeader, .int .i64 a0.fSum, .int .i64 a0.fAttr, .int .i64 a0.fLast, .int .i64 a0.fFirst, .int .i64 a0.fMax, .int .i64 a0.fProducer, .int .i64 a0.fEpoch, .int .i64 a0.fSequence, .int .i64 a0.fCount]) flat_cursitorlaw10_38 rfl Try.eqGuardType38 rfl rfl rfl rfl (eqL_t (eqV_i c121) (eqL_t (eqV_i c122) (eqL_t (eqV_i c123) (eqL_t (eqV_i c124) (eqL_t (eqV_i c125) (eqL_t (eqV_i c126) (eqL_t (eqV_i c127) (eqL_t (eqV_i c128) (eqL_t (eqV_i c129) (eqL_t (eqV_i c130) (eqL_f (eqV_in c131))))))))))))) rfl ?_
                                      refine TL.run ft_cursitorlaw10_ok [3] rfl rfl ?_
                                      refine TL.no rfl (.gn rfl rfl rfl) rfl ?_
                                      refine TL.no rfl (.gn rfl rfl rfl) rfl ?_
                                      refine TL.no rfl (.gn rfl rfl rfl) rfl ?_
                                      refine TL.q rfl .u (Ex.pn rfl rfl rfl) rfl ?_
                                      refine TL.run ft_cursitorlaw10_ok [8] rfl rfl ?_
                                      cases h
                                      exact TL.nil (X.jq [0, 0, 0, 0, 0, 0] ⟨rfl, rfl⟩ (by rfl) (by rfl))
                                  · replace h := ifF c130 h
                                    refine TL.q rfl .u (Ex.aEq (us := [.int .i64 x29.fBase, .int .i64 x29.fLength, .int .i64 x29.fLeader, .int .i64 x29.fSum, .int .i64 x29.fAttr, .int .i64 x29.fLast, .int .i64 x29.fFirst, .int .i64 x29.fMax, .int .i64 x29.fProducer, .int .i64 x29.fEpoch, .int .i64 x29.fSequence, .int .i64 x29.fCount]) (vs := [.int .i64 a0.fBase, .int .i64 a0.fLength, .int .i64 a0.fLeader, .int .i64 a0.fSum, .int .i64 a0.fAttr, .int .i64 a0.fLast, .int .i64 a0.fFirst, .int .i64 a0.fMax, .int .i64 a0.fProducer, .int .i64 a0.fEpoch, .int .i64 a0.fSequence, .int .i64 a0.fCount]) flat_cursitorlaw10_38 rfl Try.eqGuardType38 rfl rfl rfl rfl (eqL_t (eqV_i c121) (eqL_t (eqV_i c122) (eqL_t (eqV_i c123) (eqL_t (eqV_i c124) (eqL_t (eqV_i c125) (eqL_t (eqV_i c126) (eqL_t (eqV_i c127) (eqL_t (eqV_i c128) (eqL_t (eqV_i c129) (eqL_f (eqV_in c130)))))))))))) rfl ?_
                                    refine TL.run ft_cursitorlaw10_ok [3] rfl rfl ?_
                                    refine TL.no rfl (.gn rfl rfl rfl) rfl ?_
                                    refine TL.no rfl (.gn rfl rfl rfl) rfl ?_
                                    refine TL.no rfl (.gn rfl rfl rfl) rfl ?_
                                    refine TL.q rfl .u (Ex.pn rfl rfl rfl) rfl ?_
                                    refine TL.run ft_cursitorlaw10_ok [8] rfl rfl ?_
                                    cases h
                                    exact TL.nil (X.jq [0, 0, 0, 0, 0, 0] ⟨rfl, rfl⟩ (by rfl) (by rfl))
                                · replace h := ifF c129 h
                                  refine TL.q rfl .u (Ex.aEq (us := [.int .i64 x29.fBase, .int .i64 x29.fLength, .int .i64 x29.fLeader, .int .i64 x29.fSum, .int .i64 x29.fAttr, .int .i64 x29.fLast, .int .i64 x29.fFirst, .int .i64 x29.fMax, .int .i64 x29.fProducer, .int .i64 x29.fEpoch, .int .i64 x29.fSequence, .int .i64 x29.fCount]) (vs := [.int .i64 a0.fBase, .int .i64 a0.fLength, .int .i64 a0.fLeader, .int .i64 a0.fSum, .int .i64 a0.fAttr, .int .i64 a0.fLast, .int .i64 a0.fFirst, .int .i64 a0.fMax, .int .i64 a0.fProducer, .int .i64 a0.fEpoch, .int .i64 a0.fSequence, .int .i64 a0.fCount]) flat_cursitorlaw10_38 rfl Try.eqGuardType38 rfl rfl rfl rfl (eqL_t (eqV_i c121) (eqL_t (eqV_i c122) (eqL_t (eqV_i c123) (eqL_t (eqV_i c124) (eqL_t (eqV_i c125) (eqL_t (eqV_i c126) (eqL_t (eqV_i c127) (eqL_t (eqV_i c128) (eqL_f (eqV_in c129))))))))))) rfl ?_
                                  refine TL.run ft_cursitorlaw10_ok [3] rfl rfl ?_
                                  refine TL.no rfl (.gn rfl rfl rfl) rfl ?_
                                  refine TL.no rfl (.gn rfl rfl rfl) rfl ?_
                                  refine TL.no rfl (.gn rfl rfl rfl) rfl ?_
                                  refine TL.q rfl .u (Ex.pn rfl rfl rfl) rfl ?_
                                  refine TL.run ft_cursitorlaw10_ok [8] rfl rfl ?_
                                  cases h
                                  exact TL.nil (X.jq [0, 0, 0, 0, 0, 0] ⟨rfl, rfl⟩ (by rfl) (by rfl))
                              · replace h := ifF c128 h
                                refine TL.q rfl .u (Ex.aEq (us := [.int .i64 x29.fBase, .int .i64 x29.fLength, .int .i64 x29.fLeader, .int .i64 x29.fSum, .int .i64 x29.fAttr, .int .i64 x29.fLast, .int .i64 x29.fFirst, .int .i64 x29.fMax, .int .i64 x29.fProducer, .int .i64 x29.fEpoch, .int .i64 x29.fSequence, .int .i64 x29.fCount]) (vs := [.int .i64 a0.fBase, .int .i64 a0.fLength, .int .i64 a0.fLeader, .int .i64 a0.fSum, .int .i64 a0.fAttr, .int .i64 a0.fLast, .int .i64 a0.fFirst, .int .i64 a0.fMax, .int .i64 a0.fProducer, .int .i64 a0.fEpoch, .int .i64 a0.fSequence, .int .i64 a0.fCount]) flat_cursitorlaw10_38 rfl Try.eqGuardType38 rfl rfl rfl rfl (eqL_t (eqV_i c121) (eqL_t (eqV_i c122) (eqL_t (eqV_i c123) (eqL_t (eqV_i c124) (eqL_t (eqV_i c125) (eqL_t (eqV_i c126) (eqL_t (eqV_i c127) (eqL_f (eqV_in c128)))))))))) rfl ?_
                                refine TL.run ft_cursitorlaw10_ok [3] rfl rfl ?_
                                refine TL.no rfl (.gn rfl rfl rfl) rfl ?_
                                refine TL.no rfl (.gn rfl rfl rfl) rfl ?_
                                refine TL.no rfl (.gn rfl rfl rfl) rfl ?_
                                refine TL.q rfl .u (Ex.pn rfl rfl rfl) rfl ?_
                                refine TL.run ft_cursitorlaw10_ok [8] rfl rfl ?_
                                cases h
                                exact TL.nil (X.jq [0, 0, 0, 0, 0, 0] ⟨rfl, rfl⟩ (by rfl) (by rfl))
                            · replace h := ifF c127 h
                              refine TL.q rfl .u (Ex.aEq (us := [.int .i64 x29.fBase, .int .i64 x29.fLength, .int .i64 x29.fLeader, .int .i64 x29.fSum, .int .i64 x29.fAttr, .int .i64 x29.fLast, .int .i64 x29.fFirst, .int .i64 x29.fMax, .int .i64 x29.fProducer, .int .i64 x29.fEpoch, .int .i64 x29.fSequence, .int .i64 x29.fCount]) (vs := [.int .i64 a0.fBase, .int .i64 a0.fLength, .int .i64 a0.fLeader, .int .i64 a0.fSum, .int .i64 a0.fAttr, .int .i64 a0.fLast, .int .i64 a0.fFirst, .int .i64 a0.fMax, .int .i64 a0.fProducer, .int .i64 a0.fEpoch, .int .i64 a0.fSequence, .int .i64 a0.fCount]) flat_cursitorlaw10_38 rfl Try.eqGuardType38 rfl rfl rfl rfl (eqL_t (eqV_i c121) (eqL_t (eqV_i c122) (eqL_t (eqV_i c123) (eqL_t (eqV_i c124) (eqL_t (eqV_i c125) (eqL_t (eqV_i c126) (eqL_f (eqV_in c127))))))))) rfl ?_
                              refine TL.run ft_cursitorlaw10_ok [3] rfl rfl ?_
                              refine TL.no rfl (.gn rfl rfl rfl) rfl ?_
                              refine TL.no rfl (.gn rfl rfl rfl) rfl ?_
                              refine TL.no rfl (.gn rfl rfl rfl) rfl ?_
                              refine TL.q rfl .u (Ex.pn rfl rfl rfl) rfl ?_
                              refine TL.run ft_cursitorlaw10_ok [8] rfl rfl ?_
                              cases h
                              exact TL.nil (X.jq [0, 0, 0, 0, 0, 0] ⟨rfl, rfl⟩ (by rfl) (by rfl))
                          · replace h := ifF c126 h
                            refine TL.q rfl .u (Ex.aEq (us := [.int .i64 x29.fBase, .int .i64 x29.fLength, .int .i64 x29.fLeader, .int .i64 x29.fSum, .int .i64 x29.fAttr, .int .i64 x29.fLast, .int .i64 x29.fFirst, .int .i64 x29.fMax, .int .i64 x29.fProducer, .int .i64 x29.fEpoch, .int .i64 x29.fSequence, .int .i64 x29.fCount]) (vs := [.int .i64 a0.fBase, .int .i64 a0.fLength, .int .i64 a0.fLeader, .int .i64 a0.fSum, .int .i64 a0.fAttr, .int .i64 a0.fLast, .int .i64 a0.fFirst, .int .i64 a0.fMax, .int .i64 a0.fProducer, .int .i64 a0.fEpoch, .int .i64 a0.fSequence, .int .i64 a0.fCount]) flat_cursitorlaw10_38 rfl Try.eqGuardType38 rfl rfl rfl rfl (eqL_t (eqV_i c121) (eqL_t (eqV_i c122) (eqL_t (eqV_i c123) (eqL_t (eqV_i c124) (eqL_t (eqV_i c125) (eqL_f (eqV_in c126)))))))) rfl ?_
                            refine TL.run ft_cursitorlaw10_ok [3] rfl rfl ?_
                            refine TL.no rfl (.gn rfl rfl rfl) rfl ?_
                            refine TL.no rfl (.gn rfl rfl rfl) rfl ?_
                            refine TL.no rfl (.gn rfl rfl rfl) rfl ?_
                            refine TL.q rfl .u (Ex.pn rfl rfl rfl) rfl ?_
                            refine TL.run ft_cursitorlaw10_ok [8] rfl rfl ?_
                            cases h
                            exact TL.nil (X.jq [0, 0, 0, 0, 0, 0] ⟨rfl, rfl⟩ (by rfl) (by rfl))
                        · replace h := ifF c125 h
                          refine TL.q rfl .u (Ex.aEq (us := [.int .i64 x29.fBase, .int .i64 x29.fLength, .int .i64 x29.fLeader, .int .i64 x29.fSum, .int .i64 x29.fAttr, .int .i64 x29.fLast, .int .i64 x29.fFirst, .int .i64 x29.fMax, .int .i64 x29.fProducer, .int .i64 x29.fEpoch, .int .i64 x29.fSequence, .int .i64 x29.fCount]) (vs := [.int .i64 a0.fBase, .int .i64 a0.fLength, .int .i64 a0.fLeader, .int .i64 a0.fSum, .int .i64 a0.fAttr, .int .i64 a0.fLast, .int .i64 a0.fFirst, .int .i64 a0.fMax, .int .i64 a0.fProducer, .int .i64 a0.fEpoch, .int .i64 a0.fSequence, .int .i64 a0.fCount]) flat_cursitorlaw10_38 rfl Try.eqGuardType38 rfl rfl rfl rfl (eqL_t (eqV_i c121) (eqL_t (eqV_i c122) (eqL_t (eqV_i c123) (eqL_t (eqV_i c124) (eqL_f (eqV_in c125))))))) rfl ?_
                          refine TL.run ft_cursitorlaw10_ok [3] rfl rfl ?_
                          refine TL.no rfl (.gn rfl rfl rfl) rfl ?_
                          refine TL.no rfl (.gn rfl rfl rfl) rfl ?_
                          refine TL.no rfl (.gn rfl rfl rfl) rfl ?_
                          refine TL.q rfl .u (Ex.pn rfl rfl rfl) rfl ?_
                          refine TL.run ft_cursitorlaw10_ok [8] rfl rfl ?_
                          cases h
                          exact TL.nil (X.jq [0, 0, 0, 0, 0, 0] ⟨rfl, rfl⟩ (by rfl) (by rfl))
                      · replace h := ifF c124 h
                        refine TL.q rfl .u (Ex.aEq (us := [.int .i64 x29.fBase, .int .i64 x29.fLength, .int .i64 x29.fLeader, .int .i64 x29.fSum, .int .i64 x29.fAttr, .int .i64 x29.fLast, .int .i64 x29.fFirst, .int .i64 x29.fMax, .int .i64 x29.fProducer, .int .i64 x29.fEpoch, .int .i64 x29.fSequence, .int .i64 x29.fCount]) (vs := [.int .i64 a0.fBase, .int .i64 a0.fLength, .int .i64 a0.fLeader, .int .i64 a0.fSum, .int .i64 a0.fAttr, .int .i64 a0.fLast, .int .i64 a0.fFirst, .int .i64 a0.fMax, .int .i64 a0.fProducer, .int .i64 a0.fEpoch, .int .i64 a0.fSequence, .int .i64 a0.fCount]) flat_cursitorlaw10_38 rfl Try.eqGuardType38 rfl rfl rfl rfl (eqL_t (eqV_i c121) (eqL_t (eqV_i c122) (eqL_t (eqV_i c123) (eqL_f (eqV_in c124)))))) rfl ?_
                        refine TL.run ft_cursitorlaw10_ok [3] rfl rfl ?_
                        refine TL.no rfl (.gn rfl rfl rfl) rfl ?_
                        refine TL.no rfl (.gn rfl rfl rfl) rfl ?_
                        refine TL.no rfl (.gn rfl rfl rfl) rfl ?_
                        refine TL.q rfl .u (Ex.pn rfl rfl rfl) rfl ?_
                        refine TL.run ft_cursitorlaw10_ok [8] rfl rfl ?_
                        cases h
                        exact TL.nil (X.jq [0, 0, 0, 0, 0, 0] ⟨rfl, rfl⟩ (by rfl) (by rfl))
                    · replace h := ifF c123 h
                      refine TL.q rfl .u (Ex.aEq (us := [.int .i64 x29.fBase, .int .i64 x29.fLength, .int .i64 x29.fLeader, .int .i64 x29.fSum, .int .i64 x29.fAttr, .int .i64 x29.fLast, .int .i64 x29.fFirst, .int .i64 x29.fMax, .int .i64 x29.fProducer, .int .i64 x29.fEpoch, .int .i64 x29.fSequence, .int .i64 x29.fCount]) (vs := [.int .i64 a0.fBase, .int .i64 a0.fLength, .int .i64 a0.fLeader, .int .i64 a0.fSum, .int .i64 a0.fAttr, .int .i64 a0.fLast, .int .i64 a0.fFirst, .int .i64 a0.fMax, .int .i64 a0.fProducer, .int .i64 a0.fEpoch, .int .i64 a0.fSequence, .int .i64 a0.fCount]) flat_cursitorlaw10_38 rfl Try.eqGuardType38 rfl rfl rfl rfl (eqL_t (eqV_i c121) (eqL_t (eqV_i c122) (eqL_f (eqV_in c123))))) rfl ?_
                      refine TL.run ft_cursitorlaw10_ok [3] rfl rfl ?_
                      refine TL.no rfl (.gn rfl rfl rfl) rfl ?_
                      refine TL.no rfl (.gn rfl rfl rfl) rfl ?_
                      refine TL.no rfl (.gn rfl rfl rfl) rfl ?_
                      refine TL.q rfl .u (Ex.pn rfl rfl rfl) rfl ?_
                      refine TL.run ft_cursitorlaw10_ok [8] rfl rfl ?_
                      cases h
                      exact TL.nil (X.jq [0, 0, 0, 0, 0, 0] ⟨rfl, rfl⟩ (by rfl) (by rfl))
                  · replace h := ifF c122 h
                    refine TL.q rfl .u (Ex.aEq (us := [.int .i64 x29.fBase, .int .i64 x29.fLength, .int .i64 x29.fLeader, .int .i64 x29.fSum, .int .i64 x29.fAttr, .int .i64 x29.fLast, .int .i64 x29.fFirst, .int .i64 x29.fMax, .int .i64 x29.fProducer, .int .i64 x29.fEpoch, .int .i64 x29.fSequence, .int .i64 x29.fCount]) (vs := [.int .i64 a0.fBase, .int .i64 a0.fLength, .int .i64 a0.fLeader, .int .i64 a0.fSum, .int .i64 a0.fAttr, .int .i64 a0.fLast, .int .i64 a0.fFirst, .int .i64 a0.fMax, .int .i64 a0.fProducer, .int .i64 a0.fEpoch, .int .i64 a0.fSequence, .int .i64 a0.fCount]) flat_cursitorlaw10_38 rfl Try.eqGuardType38 rfl rfl rfl rfl (eqL_t (eqV_i c121) (eqL_f (eqV_in c122)))) rfl ?_
                    refine TL.run ft_cursitorlaw10_ok [3] rfl rfl ?_
                    refine TL.no rfl (.gn rfl rfl rfl) rfl ?_
                    refine TL.no rfl (.gn rfl rfl rfl) rfl ?_
                    refine TL.no rfl (.gn rfl rfl rfl) rfl ?_
                    refine TL.q rfl .u (Ex.pn rfl rfl rfl) rfl ?_
                    refine TL.run ft_cursitorlaw10_ok [8] rfl rfl ?_
                    cases h
                    exact TL.nil (X.jq [0, 0, 0, 0, 0, 0] ⟨rfl, rfl⟩ (by rfl) (by rfl))
                · replace h := ifF c121 h
                  refine TL.q rfl .u (Ex.aEq (us := [.int .i64 x29.fBase, .int .i64 x29.fLength, .int .i64 x29.fLeader, .int .i64 x29.fSum, .int .i64 x29.fAttr, .int .i64 x29.fLast, .int .i64 x29.fFirst, .int .i64 x29.fMax, .int .i64 x29.fProducer, .int .i64 x29.fEpoch, .int .i64 x29.fSequence, .int .i64 x29.fCount]) (vs := [.int .i64 a0.fBase, .int .i64 a0.fLength, .int .i64 a0.fLeader, .int .i64 a0.fSum, .int .i64 a0.fAttr, .int .i64 a0.fLast, .int .i64 a0.fFirst, .int .i64 a0.fMax, .int .i64 a0.fProducer, .int .i64 a0.fEpoch, .int .i64 a0.fSequence, .int .i64 a0.fCount]) flat_cursitorlaw10_38 rfl Try.eqGuardType38 rfl rfl rfl rfl (eqL_f (eqV_in c121))) rfl ?_
                  refine TL.run ft_cursitorlaw10_ok [3] rfl rfl ?_
                  refine TL.no rfl (.gn rfl rfl rfl) rfl ?_
                  refine TL.no rfl (.gn rfl rfl rfl) rfl ?_
                  refine TL.no rfl (.gn rfl rfl rfl) rfl ?_
                  refine TL.q rfl .u (Ex.pn rfl rfl rfl) rfl ?_
                  refine TL.run ft_cursitorlaw10_ok [8] rfl rfl ?_
                  cases h
                  exact TL.nil (X.jq [0, 0, 0, 0, 0, 0] ⟨rfl, rfl⟩ (by rfl) (by rfl))
              · rintro _ _ ⟨rfl, rfl⟩
                clear h
                have h := hk120
                clear hk120
                try dsimp only at h
                obtain rfl := Option.some.inj h
                exact X.seq (T.ret (X.done1 [5] Try.results4 (RV.tm rfl) ⟨rfl, rfl, rfl⟩ (by rfl) (.inl rfl)))
    · replace h := ifF c19 h
      replace c19 := eq_false_of_ne_true c19
      refine TL.nil (X.seq ?_)
      refine T.yes rfl (bn_t c19) ?_
      refine T.seq ?_
      obtain ⟨y138, h, hk139⟩ := Option.bind_eq_some_iff.1 h
      refine T.jq (fun e Rs => e = [(1, .pointer (some ⟨b1, 0, none⟩)), (2, .bool y138), (4, .string (bsOf x8)), (5, .int .i64 x9), (6, .string (bsOf x16))] ∧ Rs = [RdR (sliceRd 1 intE) [.slice A13 x12.length c14] x12, OutR b5 st10, BlkR b1 38 #[.int .i64 a0.fBase, .int .i64 a0.fLength, .int .i64 a0.fLeader, .int .i64 a0.fSum, .int .i64 a0.fAttr, .int .i64 a0.fLast, .int .i64 a0.fFirst, .int .i64 a0.fMax, .int .i64 a0.fProducer, .int .i64 a0.fEpoch, .int .i64 a0.fSequence, .int .i64 a0.fCount], EmpR]) ?_ ?_
      · clear hk139
        refine T.region rfl ?_
        by_cases c140 : x9 = 11
        · replace h := ifT c140 h
          refine TL.run ft_cursitorlaw10_ok [0, 1, 2] rfl rfl ?_
          refine TL.q rfl (.g rfl rfl (decide_eq_true c140)) (Ex.ft ft_cursitorlaw10_ok rfl) rfl ?_
          refine TL.q rfl (.g rfl rfl (decide_eq_true c140)) (Ex.sEq rfl (m := []) rfl) rfl ?_
          refine TL.q rfl .u (Ex.py rfl (decide_eq_true c140) rfl) rfl ?_
          refine TL.run ft_cursitorlaw10_ok [6] rfl rfl ?_
          by_cases c141 : x8 = []
          · replace h := ifT c141 h
            cases h
            exact TL.nil (X.as (d := 2) (v' := .bool true) rfl (congrArg Value.bool (decide_eq_true c141)) (X.jq [0, 0, 0, 0] ⟨rfl, rfl⟩ (by rfl) (by rfl)))
          · replace h := ifF c141 h
            cases h
            exact TL.nil (X.as (d := 2) (v' := .bool false) rfl (congrArg Value.bool (decide_eq_false c141)) (X.jq [0, 0, 0, 0] ⟨rfl, rfl⟩ (by rfl) (by rfl)))
        · replace h := ifF c140 h
          refine TL.run ft_cursitorlaw10_ok [0, 1, 2] rfl rfl ?_
          refine TL.no rfl (.gn rfl rfl (decide_eq_false c140)) rfl ?_
          refine TL.no rfl (.gn rfl rfl (decide_eq_false c140)) rfl ?_
          refine TL.q rfl .u (Ex.pn rfl (decide_eq_false c140) rfl) rfl ?_
          refine TL.run ft_cursitorlaw10_ok [6] rfl rfl ?_
          cases h
          exact TL.nil (X.jq [0, 0, 0, 0] ⟨rfl, rfl⟩ (by rfl) (by rfl))
      · rintro _ _ ⟨rfl, rfl⟩
        clear h
        have h := hk139
        clear hk139
        try dsimp only at h
        obtain rfl := Option.some.inj h
        exact X.seq (T.ret (X.rs (X.done1 [3] Try.results4 (RV.tm rfl) ⟨rfl, rfl, rfl⟩ (by rfl) (.inl rfl))))
  · replace h := ifF c4 h
    replace c4 := eq_false_of_ne_true c4
    refine TL.nil (X.seq ?_)
    refine T.yes rfl (bn_t c4) ?_
    exact nomatch h
end Go.Proofs.Ytpiiopppbgpbpaa.Sl
namespace Go.Proofs.Ytpiiopppbgpbpaa.Sl
open Go.RowKit Go.Deep Go.ChangeShapes
set_option linter.unusedVariables false
def andRd {α : Type} (E : Rd α) (W : α → Prop) : Rd α := ⟨fun w S cs a => E.P w S cs a ∧ W a, fun h k => ⟨E.mono h.1 k, h.2⟩, fun h k => ⟨E.move h.1 k, h.2⟩⟩
section
variable {H : Type} (enc : TypeId × Value → H) (P : Program) {α β : Type}
def OpensW (t : TypeId) (E : Rd α) : Prop :=
  ∀ (w : World) (fuel : Nat) (cs : List Value) (x : DataW H × List MemPlace), DataW.trod enc P w 0 (fun _ => true) true fuel t cs = some x → (∀ m, m ∈ x.1.weights P t → m ≤ reachBytes) → ∃ a, E.P w (fun k => k < w.heap.size) cs a
def OpensWFs (off : Nat) (fs : List Field) (n : Nat) (E : Rd α) : Prop :=
  ∀ (w : World) (fuel : Nat) (cs : List Value) (xs : List (DataW H × List MemPlace)), cs.length = off + n → xs.length = fs.length →
    (∀ (i : Nat) (f : Field), fs[i]? = some f → DataW.trod enc P w 0 (fun _ => true) true fuel f.type ((cs.drop f.offset).take (P.cellsOf f.type)) = xs[i]?) →
    (∀ m, m ∈ DataW.weightsEach P (fs.map (·.type)) (xs.map (·.1)) → m ≤ reachBytes) → ∃ a, E.P w (fun k => k < w.heap.size) (cs.drop off) a
variable {enc P}
theorem opensW_weak {t : TypeId} {E : Rd α} {E' : Rd β} (f : α → β) (h : OpensW enc P t E) (hf : ∀ w S cs a, E.P w S cs a → E'.P w S cs (f a)) : OpensW enc P t E' := by
  intro w fuel cs x hx hw
  obtain ⟨a, ha⟩ := h w fuel cs x hx hw
  exact ⟨f a, hf _ _ _ _ ha⟩
theorem opensW_of {t : TypeId} {E : Rd α} {E' : Rd β} (f : α → β) (h : Opens enc P t E) (hf : ∀ w S cs a, E.P w S cs a → E'.P w S cs (f a)) : OpensW enc P t E' := by
  intro w fuel cs x hx hw
  obtain ⟨a, ha⟩ := h w fuel cs x hx
  exact ⟨f a, hf _ _ _ _ ha⟩
def wI (n : Int) : Prop := -9223372036854775808 ≤ n ∧ n ≤ 9223372036854775807
theorem op_i64 {t : TypeId} (ht : P.underlying t = some (.int .i64)) : OpensW enc P t (andRd intE wI) := opensW_of id (opens_int ht) (fun w S cs a h => ⟨h.1, Go.bounds_i64 h.2⟩)
theorem opensWFs_nil (off : Nat) : OpensWFs enc P off [] 0 unitRd := by
  intro w fuel cs xs hl _ _ _
  exact ⟨(), List.drop_of_length_le (by omega)⟩
theorem opensWFs_cons {off n : Nat} (m : Nat) {f : Field} {fs : List Field} {A : Rd α} {B : Rd β} (ho : f.offset = off) (hc : P.cellsOf f.type = m) (hA : OpensW enc P f.type A) (hB : OpensWFs enc P (off + m) fs n B) :
    OpensWFs enc P off (f :: fs) (m + n) (pairRd A B) := by
  intro w fuel cs xs hl hx h hw
  cases xs with
  | nil => simp at hx
  | cons x xs =>
    have h0 := h 0 f rfl
    rw [ho, hc] at h0
    simp only [List.map_cons, DataW.weightsEach, List.mem_append] at hw
    obtain ⟨a, ha⟩ := hA _ _ _ _ h0 (fun m hm => hw m (.inl hm))
    obtain ⟨b, hb⟩ := hB w fuel cs xs (by omega) (by simpa using hx) (fun i f' hf => by simpa using h (i + 1) f' (by simpa using hf)) (fun m hm => hw m (.inr hm))
    refine ⟨(a, b), (cs.drop off).take m, cs.drop (off + m), ?_, ha, hb⟩
    rw [← List.drop_drop, List.take_append_drop]
theorem opensW_struct {t : TypeId} {fs : Array Field} {n : Nat} {E : Rd α} (ht : P.underlying t = some (.struct fs)) (hc : P.cellsOf t = n) (h : OpensWFs enc P 0 fs.toList n E) : OpensW enc P t E := by
  intro w fuel cs x hx hw
  obtain ⟨xs, k, rfl, rfl, hl, hxl, hf⟩ := DataW.trod_struct ht hx
  simp only [DataW.weights, ht] at hw
  obtain ⟨a, ha⟩ := h w k cs xs (by omega) (by simpa using hxl) (fun i f hi => hf i f (by simpa using hi)) hw
  exact ⟨a, by simpa using ha⟩
theorem weights_in : ∀ {ts : List TypeId} {ds : List (DataW H)} (j : Nat) {t : TypeId} {d : DataW H} {m : Nat}, ts[j]? = some t → ds[j]? = some d → m ∈ d.weights P t → m ∈ DataW.weightsEach P ts ds
  | [], _, j, _, _, _, ht, _, _ => by simp at ht
  | _ :: _, [], j, _, _, _, _, hd, _ => by simp at hd
  | t :: ts, d :: ds, 0, _, _, _, ht, hd, hm => by
    obtain rfl : t = _ := by simpa using ht
    obtain rfl : d = _ := by simpa using hd
    simp only [DataW.weightsEach, List.mem_append]
    exact .inl hm
  | t :: ts, d :: ds, j + 1, _, _, _, ht, hd, hm => by
    simp only [DataW.weightsEach, List.mem_append]
    exact .inr (weights_in j (by simpa using ht) (by simpa using hd) hm)
theorem opens_arg2 {t : TypeId} {fs : Array Field} {E : Rd α} {r : Reach} {b0 : Nat} {w : World} {v : Value} {d : DataW H} {p : List MemPlace} (ht : P.underlying t = some (.struct fs)) (hval : Value.okWide P w r b0 t v) (h : OpensW enc P t E)
    (hv : DataW.Trod enc P w 0 (fun _ => true) true t v d p) (hw : ∀ m, m ∈ d.weights P t → m ≤ reachBytes) : ∃ a cs, v = .agg cs ∧ E.P w (fun k => k < w.heap.size) cs.toList a := by
  obtain ⟨cs, rfl, _⟩ := Go.WideShapes.okWide_struct ht hval
  obtain ⟨fuel, hf⟩ := hv
  obtain ⟨a, ha⟩ := h _ _ _ _ hf hw
  exact ⟨a, cs, rfl, ha⟩
end
end Go.Proofs.Ytpiiopppbgpbpaa.Sl
namespace Go.Proofs.Ytpiiopppbgpbpaa.Sl
open Go.RowKit
set_option linter.unusedVariables false
def wf_Pfx (x : Pfx) : Prop := wI x.fBase ∧ wI x.fLength ∧ wI x.fLeader ∧ wI x.fSum ∧ wI x.fAttr ∧ wI x.fLast ∧ wI x.fFirst ∧ wI x.fMax ∧ wI x.fProducer ∧ wI x.fEpoch ∧ wI x.fSequence ∧ wI x.fCount
end Go.Proofs.Ytpiiopppbgpbpaa.Sl
namespace Go.Proofs.Ytpiiopppbgpbpaa.Sl
open Go.RowKit
set_option linter.unusedVariables false
set_option linter.unusedSimpArgs false
theorem l10_speaks : f_l10_speaks = some true := by decide +kernel
theorem read_bad {p : Pfx} (h : okI KS (toL p)) {e : Int} (he : ckE p.fLength 2 p.fCount = e) (h0 : e ≠ 0) : ∃ st : I, f_prefix_Read ⟨encP p, 0, 0⟩ = some (zP, st) ∧ st.err = e := by
  have h1 := (Sp_ints KS KS_ok).back (encP p) [] 0 (toL p) (Nat.zero_le _) h (by rw [List.drop_zero, List.append_nil]; rfl)
  have h2 : pPfx (encP p) 0 = .error e := by
    rw [pPfx, Pr.bind_of h1]
    unfold toL chkP
    dsimp only
    rw [he, if_neg h0]
    rfl
  rcases B_pfx.run (encP p) 0 (by rw [encP_len h]; decide) (Nat.zero_le _) with ⟨e', st, p1, g1, x1, y1⟩ | ⟨b, r, p1, g1, n1, l1⟩
  · rw [h2] at p1
    injection p1 with p1
    exact ⟨st, g1, by rw [x1, p1]⟩
  · rw [h2] at p1
    exact nomatch p1
theorem pure_PrefixWrites (a0 : Pfx) (w0 : wf_Pfx a0) : f_l10_PrefixWrites a0 = some true := by
  have hw : wP a0 := w0
  unfold f_l10_PrefixWrites
  rw [l10_speaks, Option.bind_some, if_pos rfl]
  by_cases h : okW a0
  · rw [write_ok [] h (by decide), Option.bind_some, List.nil_append, gOText_eq, Option.bind_some]
    dsimp only
    rw [otx_z, show f_l10_list a0 = some (listP a0) from rfl, Option.bind_some, r10_bytes a0 hw, if_pos h, Option.bind_some]
    dsimp only
    rw [if_pos rfl, if_pos rfl, if_pos rfl, Option.bind_some, if_neg (by decide), gNew_eq _ (by rw [encP_len h.1]; decide), Option.bind_some]
    by_cases h1 : a0.fLength < 49
    · obtain ⟨st, r1, r2⟩ := read_bad h.1 (e := 4) (by unfold ckE; rw [if_pos rfl, if_pos h1]) (by decide)
      rw [r1, Option.bind_some]
      dsimp only
      rw [if_pos h1]
      simp only [zP, if_true, gErr_eq, Option.bind_some, r2]
    · by_cases h2 : a0.fCount < 0
      · obtain ⟨st, r1, r2⟩ := read_bad h.1 (e := 10) (by unfold ckE; rw [if_pos rfl, if_neg h1, if_pos h2]) (by decide)
        rw [r1, Option.bind_some]
        dsimp only
        rw [if_neg h1, if_pos h2]
        simp only [zP, if_true, gErr_eq, Option.bind_some, r2]
      · have hr := B_pfx.whole Sp_pfx (a := a0) (by rw [encP_len h.1]; decide) ⟨h.1, h.2, by omega, by omega⟩
        rw [hr, Option.bind_some]
        dsimp only
        rw [if_neg h1, if_neg h2]
        simp only [if_true, gClose_z, Option.bind_some]
  · obtain ⟨t, ht⟩ := write_no h hw
    rw [ht, Option.bind_some, gOText_eq, Option.bind_some]
    dsimp only
    rw [otx_e t 11 (by decide), show f_l10_list a0 = some (listP a0) from rfl, Option.bind_some, r10_bytes a0 hw, if_neg h, Option.bind_some]
    dsimp only
    rw [if_neg (by decide), if_pos rfl, if_pos rfl]
    rfl
end Go.Proofs.Ytpiiopppbgpbpaa.Sl
namespace Go.Proofs.Ytpiiopppbgpbpaa.Sl
open Go.RowKit Go.Deep Go.ChangeShapes
set_option linter.unusedVariables false
theorem op_Pfx {H : Type} {enc : TypeId × Value → H} : OpensW enc Try.prog 38 (andRd Pfx_rd wf_Pfx) :=
  opensW_weak (fun x => ⟨x.1, x.2.1, x.2.2.1, x.2.2.2.1, x.2.2.2.2.1, x.2.2.2.2.2.1, x.2.2.2.2.2.2.1, x.2.2.2.2.2.2.2.1, x.2.2.2.2.2.2.2.2.1, x.2.2.2.2.2.2.2.2.2.1, x.2.2.2.2.2.2.2.2.2.2.1, x.2.2.2.2.2.2.2.2.2.2.2.1⟩) (opensW_struct Try.underlying38 (by kernel_rfl) (opensWFs_cons 1 (by kernel_rfl) (by kernel_rfl) (op_i64 Try.underlying3) (opensWFs_cons 1 (by kernel_rfl) (by kernel_rfl) (op_i64 Try.underlying3) (opensWFs_cons 1 (by kernel_rfl) (by kernel_rfl) (op_i64 Try.underlying3) (opensWFs_cons 1 (by kernel_rfl) (by kernel_rfl) (op_i64 Try.underlying3) (opensWFs_cons 1 (by kernel_rfl) (by kernel_rfl) (op_i64 Try.underlying3) (opensWFs_cons 1 (by kernel_rfl) (by kernel_rfl) (op_i64 Try.underlying3) (opensWFs_cons 1 (by kernel_rfl) (by kernel_rfl) (op_i64 Try.underlying3) (opensWFs_cons 1 (by kernel_rfl) (by kernel_rfl) (op_i64 Try.underlying3) (opensWFs_cons 1 (by kernel_rfl) (by kernel_rfl) (op_i64 Try.underlying3) (opensWFs_cons 1 (by kernel_rfl) (by kernel_rfl) (op_i64 Try.underlying3) (opensWFs_cons 1 (by kernel_rfl) (by kernel_rfl) (op_i64 Try.underlying3) (opensWFs_cons 1 (by kernel_rfl) (by kernel_rfl) (op_i64 Try.underlying3) (opensWFs_nil _)))))))))))))) (by
    rintro w S cs ⟨x0, x1, x2, x3, x4, x5, x6, x7, x8, x9, x10, x11, _⟩ ⟨_, _, rfl, ⟨p0, q0⟩, _, _, rfl, ⟨p1, q1⟩, _, _, rfl, ⟨p2, q2⟩, _, _, rfl, ⟨p3, q3⟩, _, _, rfl, ⟨p4, q4⟩, _, _, rfl, ⟨p5, q5⟩, _, _, rfl, ⟨p6, q6⟩, _, _, rfl, ⟨p7, q7⟩, _, _, rfl, ⟨p8, q8⟩, _, _, rfl, ⟨p9, q9⟩, _, _, rfl, ⟨p10, q10⟩, _, _, rfl, ⟨p11, q11⟩, rfl⟩
    obtain rfl := p0
    obtain rfl := p1
    obtain rfl := p2
    obtain rfl := p3
    obtain rfl := p4
    obtain rfl := p5
    obtain rfl := p6
    obtain rfl := p7
    obtain rfl := p8
    obtain rfl := p9
    obtain rfl := p10
    obtain rfl := p11
    exact ⟨rfl, q0, q1, q2, q3, q4, q5, q6, q7, q8, q9, q10, q11⟩)
end Go.Proofs.Ytpiiopppbgpbpaa.Sl
namespace Go.Proofs.Ytpiiopppbgpbpaa.prefixWrites
open Go.ChangeShapes Go.WideShapes Go.ChangeAt Go.RowKit
open Go.ChangeMaps (open_string shut_string)
set_option linter.unusedVariables false
theorem own : ownKnob Try.prog.godebug = none := by kernel_rfl
theorem laidOut : laidOutB Try.prog = true := by kernel_rfl
set_option maxRecDepth 100000 in
set_option maxHeartbeats 1000000 in
theorem lifted (os : Os) (started : os.Started) (H : Type) (enc : TypeId × Value → H) :
    ReturnsInHanded {} Try.checked os 4 .any (Rows.prefixWritesSpec.pre6 enc Try.prog Try.f4 Rows.prefixWritesRow.domain false) (Rows.prefixWritesSpec.post enc Try.prog Try.f4 false true false false) := by
  refine returnsInHanded_of_change_sized (C := Try.checked) own started (by kernel_rfl) Try.func4
    (ChangeSpec.witness6 (enc := enc) (C := Try.checked) false ⟨#[], #[.agg #[.int .i64 0, .int .i64 0, .int .i64 0, .int .i64 0, .int .i64 0, .int .i64 0, .int .i64 0, .int .i64 0, .int .i64 0, .int .i64 0, .int .i64 0, .int .i64 0]], []⟩ 8 (by kernel_rfl) (by kernel_rfl) (by kernel_rfl) (by kernel_rfl)) ?_
  intro W base args ds gs before hval0 hW hcnd hsz0 _
  have hsz : (DataW.weightsEach Try.prog (Try.f4.params.toList ++ Rows.prefixWritesSpec.plain.varTypes Try.prog) (ds ++ gs)).all (· ≤ reachBytes) = true := hsz0
  have hval : ∀ (j : Nat) t v, Try.f4.params[j]? = some t → args[j]? = some v → Value.okWide Try.prog W .any base t v := hval0
  have hW' := hW
  obtain ⟨p, q, hA0, hV, rfl, hfz, hnd⟩ := hW
  have hA : DataW.TrodAll enc Try.prog W 0 (fun _ => true) true Try.f4.params.toList args.toList ds p := hA0
  rw [Try.params4] at hA hval hsz
  obtain ⟨v0, vs0, d0, ds0, p0, q0, hargs, rfl, rfl, h0, r0⟩ := trodAll_cons hA
  obtain ⟨rfl, rfl, rfl⟩ := trodAll_nil r0
  obtain rfl : args = #[v0] := by cases args; simp_all
  obtain ⟨rfl, rfl⟩ := trodVars_none hV
  have k0 := h0
  have lt0 : ∀ x ∈ p0, x.block < W.heap.size := by obtain ⟨m, hm⟩ := k0; exact DataW.trod_lt m _ _ _ hm
  obtain ⟨a0, cs0, rfl, r_0, w0⟩ := Sl.opens_arg2 Try.underlying38 (hval 0 38 v0 rfl rfl) Sl.op_Pfx h0 (fun x hx => of_decide_eq_true (List.all_eq_true.1 hsz x (Sl.weights_in 0 rfl rfl hx)))
  have e0 : cs0.toList = _ := r_0
  obtain rfl : cs0 = #[.int .i64 a0.fBase, .int .i64 a0.fLength, .int .i64 a0.fLeader, .int .i64 a0.fSum, .int .i64 a0.fAttr, .int .i64 a0.fLast, .int .i64 a0.fFirst, .int .i64 a0.fMax, .int .i64 a0.fProducer, .int .i64 a0.fEpoch, .int .i64 a0.fSequence, .int .i64 a0.fCount] := by apply Array.toList_inj.1; exact e0
  clear hA0 hval0 hsz0 hsz
  refine (Sl.f_l10_PrefixWrites_spec a0 true (Sl.pure_PrefixWrites a0 w0) (fun _ => False) W (fun _ h => h) (Sl.RX.reads_triv _ _)).mono fun e W' hP => ?_
  obtain ⟨v, A', Ns, rfl, ⟨rfl, rfl, rfl⟩, hst⟩ := hP
  have bel := Sl.St.below hst
  exact ⟨_, rfl, _, _, _, [], _, [], hW', trodAll_mk1 (shut_bool Try.underlying4 _), (trodAll_cons_mk (Below.trod laidOut (by kernel_rfl) (of_decide_eq_true (by kernel_rfl)) k0 bel lt0) trodAll_mk0), rfl, bel.frame _, fun h => by cases h⟩
theorem over : Rows.prefixWritesRow.holds Try.pinned (OpenSpec.ofChange Rows.prefixWritesSpec) :=
  OpenClaim.holds_of_wide 4 Try.f4 rfl rfl rfl rfl rfl rfl rfl ⟨rfl, rfl, rfl, rfl, rfl⟩ rfl rfl rfl rfl rfl (by kernel_rfl) Try.func4 (by kernel_rfl)
    (of_decide_eq_true (by kernel_rfl)) (by unfold Func.isWrapper; first | (rw [if_pos (by decide +kernel)]; kernel_rfl) | (rw [if_neg (by decide +kernel)]; exact ⟨rfl, rfl⟩))
    (fun os started H enc _ => lifted os started H enc)
theorem proved : Rows.PrefixWritesSaid := over
end Go.Proofs.Ytpiiopppbgpbpaa.prefixWrites
namespace Go.Proofs.Ytpiiopppbgpbpaa
theorem prefixWrites_holds : Rows.PrefixWritesSaid := prefixWrites.proved
end Go.Proofs.Ytpiiopppbgpbpaa
