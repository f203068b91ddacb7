/- Printed by g2.py: package cursitorlaw04BlobReads. -/
import Derived.Test.YtchfkhdifmpbkaaGb
import Derived.Test.YtchfkhdifmpbkaaNg
import Derived.Test.YtchfkhdifmpbkaaPcursitorlaw04
namespace Go.Proofs.Ytchfkhdifmpbkaa.Sl
open Go.RowKit
set_option linter.unusedVariables false
set_option linter.unusedSimpArgs false
set_option maxRecDepth 100000
def ft_cursitorlaw04BlobReads : FTab := [(99, 0, 0), (99, 1, 2), (99, 2, 3)]
theorem ft_cursitorlaw04BlobReads_ok : (ft_cursitorlaw04BlobReads).OK Try.prog := ⟨FOK.mk Try.runUnderlying99 rfl Try.sizeOf62 rfl, FOK.mk Try.runUnderlying99 rfl Try.sizeOf3 rfl, FOK.mk Try.runUnderlying99 rfl Try.sizeOf3 rfl, trivial⟩
theorem mix_cursitorlaw04BlobReads : Try.prog.follows .mixedOrders = true := by kernel_rfl
theorem flat_cursitorlaw04BlobReads_62 : Flat Try.prog 2 62 [.bool, .string] true := (Flat.struct Try.isAgg62 Try.sizeOf62 rfl Try.underlying62 Try.stoodInHeld62 ⟨by decide, rfl, [.bool], [.string], false, rfl, (Flat.one_ Try.isAgg4 Try.sizeOf4 Try.underlying4), ⟨by decide, rfl, [.string], [], false, rfl, (Flat.one_ Try.isAgg9 Try.sizeOf9 Try.underlying9), rfl⟩⟩)
def f_l04_BlobReads (a0 : List UInt8) (a1 : Int) : Option (Bool) := (f_l04_speaks).bind fun x1 => if x1 = true then (if (a0.length : Int) > 2000 then some true else (if -9223372036854775808 ≤ a1 ∧ a1 ≤ 9223372036854775807 then (if 0 ≤ a1 ∧ a1 ≤ 9223372036854775807 then (if -9223372036854775808 ≤ (1 + (a1 % 8)) ∧ (1 + (a1 % 8)) ≤ 9223372036854775807 then ((gNew a0).bind fun st8 => (gNew a0).bind fun st11 => (gNew a0).bind fun st14 => (gNew a0).bind fun st17 => (gRRFixed a0 (1 + (a1 % 8))).bind fun x20 => (gRRVaried a0).bind fun x22 => (gFixed st8 (1 + (a1 % 8))).bind fun (x26, st27) => if x26.null = x20.blob.null then (if x26.data = x20.blob.data then ((gErr st27).bind fun (x31, st32) => if x31 = x20.err then (if x20.err = 0 then ((gAt st32).bind fun (x36, st37) => if x36 = x20.many then ((gVaried st11).bind fun (x40, st41) => if x40.null = x22.blob.null then (if x40.data = x22.blob.data then ((gErr st41).bind fun (x45, st46) => if x45 = x22.err then (if x22.err = 0 then ((gAt st46).bind fun (x50, st51) => if x50 = x22.many then ((gRRFixed a0 2).bind fun x54 => (gText st14).bind fun (x58, st59) => (f_l04_is st59 x54 x58).bind fun (x61, st62) => if x61 = true then ((gName st17).bind fun (x65, st66) => (f_l04_is st66 x22 x65).bind fun (x68, st69) => some x68) else none) else none) else ((gRRFixed a0 2).bind fun x71 => (gText st14).bind fun (x75, st76) => (f_l04_is st76 x71 x75).bind fun (x78, st79) => if x78 = true then ((gName st17).bind fun (x82, st83) => (f_l04_is st83 x22 x82).bind fun (x85, st86) => some x85) else none)) else none) else none) else none) else none) else ((gVaried st11).bind fun (x88, st89) => if x88.null = x22.blob.null then (if x88.data = x22.blob.data then ((gErr st89).bind fun (x93, st94) => if x93 = x22.err then (if x22.err = 0 then ((gAt st94).bind fun (x98, st99) => if x98 = x22.many then ((gRRFixed a0 2).bind fun x102 => (gText st14).bind fun (x106, st107) => (f_l04_is st107 x102 x106).bind fun (x109, st110) => if x109 = true then ((gName st17).bind fun (x113, st114) => (f_l04_is st114 x22 x113).bind fun (x116, st117) => some x116) else none) else none) else ((gRRFixed a0 2).bind fun x119 => (gText st14).bind fun (x123, st124) => (f_l04_is st124 x119 x123).bind fun (x126, st127) => if x126 = true then ((gName st17).bind fun (x130, st131) => (f_l04_is st131 x22 x130).bind fun (x133, st134) => some x133) else none)) else none) else none) else none)) else none) else none) else none) else none) else none) else none)) else none
set_option maxRecDepth 100000 in
set_option maxHeartbeats 4000000 in
theorem f_l04_BlobReads_spec (a0 : List UInt8) (a1 : Int) (r : Bool) (h : f_l04_BlobReads a0 a1 = some r) : SpecX Try.prog 12 #[.string (bsOf a0), .int .u8 a1] .triv (EmpR) (fun v A' N => v = .bool r ∧ A' = EmpR ∧ N = []) := by
  refine enterA Try.func12 rfl Try.ntmps12 rfl ?_
  intro F w hX
  unfold f_l04_BlobReads at h
  refine T.seq (T.region rfl ?_)
  refine TL.run ft_cursitorlaw04BlobReads_ok [0] rfl rfl ?_
  obtain ⟨x1, hx2, h⟩ := Option.bind_eq_some_iff.1 h
  refine TL.nil (X.seq (T.seq (T.seq (T.region rfl ?_))))
  refine TL.ce rfl .u (.fn Try.call55 rfl) (f_l04_speaks_spec _ hx2) (fun _ hs => (RX.reads_triv _ _)) rfl ?_
  refine TL.run ft_cursitorlaw04BlobReads_ok [1] rfl rfl ?_
  by_cases c3 : x1 = true
  · replace h := ifT c3 h
    refine TL.nil (X.seq ?_)
    refine T.no rfl (bn_f c3) ?_
    refine T.skip (X.seq (T.seq (T.seq (T.region rfl ?_))))
    refine TL.run ft_cursitorlaw04BlobReads_ok [0] rfl rfl ?_
    refine TL.q rfl .u (Ex.lenB rfl Try.runUnderlying9) rfl ?_
    refine TL.run ft_cursitorlaw04BlobReads_ok [2] rfl rfl ?_
    by_cases c4 : (a0.length : Int) > 2000
    · replace h := ifT c4 h
      refine TL.nil (X.seq ?_)
      refine T.yes rfl (decide_eq_true c4) ?_
      refine T.seq (T.region rfl ?_)
      refine TL.run ft_cursitorlaw04BlobReads_ok [0] rfl rfl ?_
      obtain rfl := Option.some.inj h
      exact TL.nil (X.seq (T.ret (X.rs (X.done1 [0] Try.results12 (RV.tm rfl) ⟨rfl, rfl, rfl⟩ (by rfl) (.inl rfl)))))
    · replace h := ifF c4 h
      refine TL.nil (X.seq ?_)
      refine T.no rfl (decide_eq_false c4) ?_
      refine T.skip (X.seq (T.seq (T.region rfl ?_)))
      replace h := guard_some h
      obtain ⟨c5, h⟩ := h
      refine TL.run ft_cursitorlaw04BlobReads_ok [0] rfl rfl ?_
      refine TL.q rfl .u (Ex.conv64 rfl Try.runUnderlying5 Try.runUnderlying3 c5) rfl ?_
      replace h := guard_some h
      obtain ⟨c6, h⟩ := h
      refine TL.q rfl .u (Ex.rem rfl rfl (by omega) c6) rfl ?_
      replace h := guard_some h
      obtain ⟨c7, h⟩ := h
      refine TL.q rfl .u (Ex.add rfl rfl c7) rfl ?_
      refine TL.run ft_cursitorlaw04BlobReads_ok [4] rfl rfl ?_
      refine TL.nil (X.seq (T.seq (T.region rfl ?_)))
      obtain ⟨st8, hx9, h⟩ := Option.bind_eq_some_iff.1 h
      refine TL.run ft_cursitorlaw04BlobReads_ok [0] rfl rfl ?_
      refine TL.cge rfl .u (.fn Try.call27 rfl) (gNew_spec a0 _ hx9) (fun _ hs => (RX.reads_triv _ _)) rfl ?_
      rintro _ _ _ ⟨b10, rfl, rfl, rfl⟩
      refine TL.sel [0, 0] rfl ?_
      obtain ⟨st11, hx12, h⟩ := Option.bind_eq_some_iff.1 h
      refine TL.run ft_cursitorlaw04BlobReads_ok [2] rfl rfl ?_
      refine TL.cge rfl .u (.fn Try.call27 rfl) (gNew_spec a0 _ hx12) (fun _ hs => (RX.reads_triv _ _)) rfl ?_
      rintro _ _ _ ⟨b13, rfl, rfl, rfl⟩
      refine TL.sel [0, 0, 0] rfl ?_
      obtain ⟨st14, hx15, h⟩ := Option.bind_eq_some_iff.1 h
      refine TL.run ft_cursitorlaw04BlobReads_ok [4] rfl rfl ?_
      refine TL.cge rfl .u (.fn Try.call27 rfl) (gNew_spec a0 _ hx15) (fun _ hs => (RX.reads_triv _ _)) rfl ?_
      rintro _ _ _ ⟨b16, rfl, rfl, rfl⟩
      refine TL.sel [0, 0, 0, 0] rfl ?_
      obtain ⟨st17, hx18, h⟩ := Option.bind_eq_some_iff.1 h
      refine TL.run ft_cursitorlaw04BlobReads_ok [6] rfl rfl ?_
      refine TL.cge rfl .u (.fn Try.call27 rfl) (gNew_spec a0 _ hx18) (fun _ hs => (RX.reads_triv _ _)) rfl ?_
      rintro _ _ _ ⟨b19, rfl, rfl, rfl⟩
      refine TL.sel [0, 0, 0, 0, 0] rfl ?_
      refine TL.run ft_cursitorlaw04BlobReads_ok [8, 9, 10, 11] rfl rfl ?_
      refine TL.nil (X.seq (T.seq (T.region rfl ?_)))
      obtain ⟨x20, hx21, h⟩ := Option.bind_eq_some_iff.1 h
      refine TL.run ft_cursitorlaw04BlobReads_ok [0, 1] rfl rfl ?_
      refine TL.ce rfl .u (.fn Try.call66 rfl) (gRRFixed_spec a0 (1 + (a1 % 8)) _ hx21) (fun _ hs => (RX.reads_triv _ _)) rfl ?_
      obtain ⟨x22, hx23, h⟩ := Option.bind_eq_some_iff.1 h
      refine TL.run ft_cursitorlaw04BlobReads_ok [3] rfl rfl ?_
      refine TL.ce rfl .u (.fn Try.call67 rfl) (gRRVaried_spec a0 _ hx23) (fun _ hs => (RX.reads_triv _ _)) rfl ?_
      refine TL.alloc rfl .u Try.zeroValue99 rfl (fun b24 => ?_)
      refine TL.alloc rfl .u Try.zeroValue99 rfl (fun b25 => ?_)
      refine TL.st1 (cs' := #[.bool x20.blob.null, .string (bsOf x20.blob.data), .int .i64 x20.many, .int .i64 x20.err]) rfl .u rfl rfl Try.sizeOf99 rfl rfl rfl rfl ?_
      refine TL.st0 (cs' := #[.bool x22.blob.null, .string (bsOf x22.blob.data), .int .i64 x22.many, .int .i64 x22.err]) rfl .u rfl rfl Try.sizeOf99 rfl rfl rfl rfl ?_
      refine TL.nil (X.seq (T.seq (T.seq (T.draw (.q 0 (.q 1 (.q 3 (.q 4 (.e 2 (.q 5 (.q 6 (.q 7 (.q 9 (.q 10 (.e 8 (.q 11 (.q 12 (.q 13 (.q 14 (.q 15 (.q 16 (.q 17 (.q 18 (.q 20 (.q 21 (.e 19 (.q 22 (.q 23 (.q 24 .nil))))))))))))))))))))))))) [0, 0, 0, 0, 0, 1] rfl mix_cursitorlaw04BlobReads (NoP.seq (NoP.seq np_post)) (by kernel_rfl) ?_))))
      refine TD.run ft_cursitorlaw04BlobReads_ok [0, 1, 3] rfl rfl ?_
      refine TD.q rfl .u (Ex.bS (us := [.bool x20.blob.null, .string (bsOf x20.blob.data)]) 1 rfl Try.isAgg62 Try.sizeOf62 rfl rfl rfl) rfl ?_
      obtain ⟨⟨x26, st27⟩, hx28, h⟩ := Option.bind_eq_some_iff.1 h
      try dsimp only at h
      refine TD.c5 rfl .u (.fn Try.call68 rfl) (gFixed_spec b10 st8 (1 + (a1 % 8)) _ hx28) (fun _ hs => (Src.triv _)) rfl [0, 0, 0, 0, 0, 1] (rfl) ?_
      by_cases c29 : x26.null = x20.blob.null
      · replace h := ifT c29 h
        by_cases c30 : x26.data = x20.blob.data
        · replace h := ifT c30 h
          refine TD.q rfl .u (Ex.aNe (us := [.bool x26.null, .string (bsOf x26.data)]) (vs := [.bool x20.blob.null, .string (bsOf x20.blob.data)]) flat_cursitorlaw04BlobReads_62 rfl Try.eqGuardType62 rfl rfl rfl rfl (eqL_t (eqV_b c29) (eqL_t (eqV_s (l := x26.data) (m := x20.blob.data) c30) rfl))) rfl ?_
          refine TD.run ft_cursitorlaw04BlobReads_ok [6] rfl rfl ?_
          refine TD.q rfl (.g rfl rfl rfl) (Ex.ft ft_cursitorlaw04BlobReads_ok rfl) rfl ?_
          refine TD.q rfl (.g rfl rfl rfl) (Ex.ft ft_cursitorlaw04BlobReads_ok rfl) rfl ?_
          refine TD.q rfl (.g rfl rfl rfl) (Ex.b1 1 rfl Try.isAgg3 rfl rfl) rfl ?_
          obtain ⟨⟨x31, st32⟩, hx33, h⟩ := Option.bind_eq_some_iff.1 h
          try dsimp only at h
          refine TD.c5 rfl (.g rfl rfl rfl) (.fn Try.call29 rfl) (gErr_spec b10 st27 _ hx33) (fun _ hs => (Src.triv _)) rfl [0, 0, 0, 0, 0, 1] (rfl) ?_
          refine TD.q rfl (.g rfl rfl rfl) (Ex.ft ft_cursitorlaw04BlobReads_ok rfl) rfl ?_
          refine TD.q rfl .u (Ex.pn rfl rfl rfl) rfl ?_
          by_cases c34 : x31 = x20.err
          · replace h := ifT c34 h
            refine TD.run ft_cursitorlaw04BlobReads_ok [13] rfl rfl ?_
            refine TD.q rfl (.g rfl rfl (bn_f (decide_eq_true c34))) (Ex.ft ft_cursitorlaw04BlobReads_ok rfl) rfl ?_
            refine TD.q rfl (.g rfl rfl (bn_f (decide_eq_true c34))) (Ex.b1 1 rfl Try.isAgg3 rfl rfl) rfl ?_
            refine TD.q rfl (.g rfl rfl (bn_f (decide_eq_true c34))) (Ex.ft ft_cursitorlaw04BlobReads_ok rfl) rfl ?_
            refine TD.q rfl (.g rfl rfl (bn_f (decide_eq_true c34))) (Ex.ft ft_cursitorlaw04BlobReads_ok rfl) rfl ?_
            by_cases c35 : x20.err = 0
            · replace h := ifT c35 h
              refine TD.q rfl (.g rfl rfl (decide_eq_true c35)) (Ex.ft ft_cursitorlaw04BlobReads_ok rfl) rfl ?_
              refine TD.q rfl (.g rfl rfl (decide_eq_true c35)) (Ex.ft ft_cursitorlaw04BlobReads_ok rfl) rfl ?_
              refine TD.q rfl (.g rfl rfl (decide_eq_true c35)) (Ex.b1 1 rfl Try.isAgg3 rfl rfl) rfl ?_
              obtain ⟨⟨x36, st37⟩, hx38, h⟩ := Option.bind_eq_some_iff.1 h
              try dsimp only at h
              refine TD.c5 rfl (.g rfl rfl (decide_eq_true c35)) (.fn Try.call33 rfl) (gAt_spec b10 st32 _ hx38) (fun _ hs => (Src.triv _)) rfl [0, 0, 0, 0, 0, 1] (rfl) ?_
              refine TD.q rfl (.g rfl rfl (decide_eq_true c35)) (Ex.ft ft_cursitorlaw04BlobReads_ok rfl) rfl ?_
              refine TD.q rfl (.g rfl rfl (bn_f (decide_eq_true c34))) (Ex.py rfl (decide_eq_true c35) rfl) rfl ?_
              refine TD.q rfl .u (Ex.pn rfl (bn_f (decide_eq_true c34)) rfl) rfl ?_
              by_cases c39 : x36 = x20.many
              · replace h := ifT c39 h
                refine TD.nil (X.seq ?_)
                refine T.no rfl (bn_f (decide_eq_true c39)) ?_
                refine T.skip (X.seq (T.seq (T.seq (T.draw (.q 0 (.q 2 (.q 3 (.e 1 (.q 4 (.q 5 (.q 6 (.q 8 (.q 9 (.e 7 (.q 10 (.q 11 (.q 12 (.q 13 (.q 14 (.q 15 (.q 16 (.q 17 (.q 19 (.q 20 (.e 18 (.q 21 (.q 22 (.q 23 .nil)))))))))))))))))))))))) [0, 0, 0, 0, 1, 1] rfl mix_cursitorlaw04BlobReads (NoP.seq (NoP.seq np_post)) (by kernel_rfl) ?_))))
                refine TD.run ft_cursitorlaw04BlobReads_ok [0, 2] rfl rfl ?_
                refine TD.q rfl .u (Ex.bS (us := [.bool x22.blob.null, .string (bsOf x22.blob.data)]) 0 rfl Try.isAgg62 Try.sizeOf62 rfl rfl rfl) rfl ?_
                obtain ⟨⟨x40, st41⟩, hx42, h⟩ := Option.bind_eq_some_iff.1 h
                try dsimp only at h
                refine TD.c4 rfl .u (.fn Try.call69 rfl) (gVaried_spec b13 st11 _ hx42) (fun _ hs => (Src.triv _)) rfl [0, 0, 0, 0, 1, 1] (rfl) ?_
                by_cases c43 : x40.null = x22.blob.null
                · replace h := ifT c43 h
                  by_cases c44 : x40.data = x22.blob.data
                  · replace h := ifT c44 h
                    refine TD.q rfl .u (Ex.aNe (us := [.bool x40.null, .string (bsOf x40.data)]) (vs := [.bool x22.blob.null, .string (bsOf x22.blob.data)]) flat_cursitorlaw04BlobReads_62 rfl Try.eqGuardType62 rfl rfl rfl rfl (eqL_t (eqV_b c43) (eqL_t (eqV_s (l := x40.data) (m := x22.blob.data) c44) rfl))) rfl ?_
                    refine TD.run ft_cursitorlaw04BlobReads_ok [5] rfl rfl ?_
                    refine TD.q rfl (.g rfl rfl rfl) (Ex.ft ft_cursitorlaw04BlobReads_ok rfl) rfl ?_
                    refine TD.q rfl (.g rfl rfl rfl) (Ex.ft ft_cursitorlaw04BlobReads_ok rfl) rfl ?_
                    refine TD.q rfl (.g rfl rfl rfl) (Ex.b1 0 rfl Try.isAgg3 rfl rfl) rfl ?_
                    obtain ⟨⟨x45, st46⟩, hx47, h⟩ := Option.bind_eq_some_iff.1 h
                    try dsimp only at h
                    refine TD.c4 rfl (.g rfl rfl rfl) (.fn Try.call29 rfl) (gErr_spec b13 st41 _ hx47) (fun _ hs => (Src.triv _)) rfl [0, 0, 0, 0, 1, 1] (rfl) ?_
                    refine TD.q rfl (.g rfl rfl rfl) (Ex.ft ft_cursitorlaw04BlobReads_ok rfl) rfl ?_
                    refine TD.q rfl .u (Ex.pn rfl rfl rfl) rfl ?_
                    by_cases c48 : x45 = x22.err
                    · replace h := ifT c48 h
                      refine TD.run ft_cursitorlaw04BlobReads_ok [12] rfl rfl ?_
                      refine TD.q rfl (.g rfl rfl (bn_f (decide_eq_true c48))) (Ex.ft ft_cursitorlaw04BlobReads_ok rfl) rfl ?_
                      refine TD.q rfl (.g rfl rfl (bn_f (decide_eq_true c48))) (Ex.b1 0 rfl Try.isAgg3 rfl rfl) rfl ?_
                      refine TD.q rfl (.g rfl rfl (bn_f (decide_eq_true c48))) (Ex.ft ft_cursitorlaw04BlobReads_ok rfl) rfl ?_
                      refine TD.q rfl (.g rfl rfl (bn_f (decide_eq_true c48))) (Ex.ft ft_cursitorlaw04BlobReads_ok rfl) rfl ?_
                      by_cases c49 : x22.err = 0
                      · replace h := ifT c49 h
                        refine TD.q rfl (.g rfl rfl (decide_eq_true c49)) (Ex.ft ft_cursitorlaw04BlobReads_ok rfl) rfl ?_
                        refine TD.q rfl (.g rfl rfl (decide_eq_true c49)) (Ex.ft ft_cursitorlaw04BlobReads_ok rfl) rfl ?_
                        refine TD.q rfl (.g rfl rfl (decide_eq_true c49)) (Ex.b1 0 rfl Try.isAgg3 rfl rfl) rfl ?_
                        obtain ⟨⟨x50, st51⟩, hx52, h⟩ := Option.bind_eq_some_iff.1 h
                        try dsimp only at h
                        refine TD.c4 rfl (.g rfl rfl (decide_eq_true c49)) (.fn Try.call33 rfl) (gAt_spec b13 st46 _ hx52) (fun _ hs => (Src.triv _)) rfl [0, 0, 0, 0, 1, 1] (rfl) ?_
                        refine TD.q rfl (.g rfl rfl (decide_eq_true c49)) (Ex.ft ft_cursitorlaw04BlobReads_ok rfl) rfl ?_
                        refine TD.q rfl (.g rfl rfl (bn_f (decide_eq_true c48))) (Ex.py rfl (decide_eq_true c49) rfl) rfl ?_
                        refine TD.q rfl .u (Ex.pn rfl (bn_f (decide_eq_true c48)) rfl) rfl ?_
                        by_cases c53 : x50 = x22.many
                        · replace h := ifT c53 h
                          refine TD.nil (X.seq ?_)
                          refine T.no rfl (bn_f (decide_eq_true c53)) ?_
                          obtain ⟨x54, hx55, h⟩ := Option.bind_eq_some_iff.1 h
                          refine T.skip (X.seq (T.seq ?_))
                          refine T.join (fun e Rs => ∃ (b56 : Nat) (b57 : Nat), e = [(0, .string (bsOf a0)), (1, .int .u8 a1), (4, .bool false), (5, .int .i64 (1 + (a1 % 8))), (6, .pointer (some ⟨b10, 0, none⟩)), (7, .pointer (some ⟨b13, 0, none⟩)), (8, .pointer (some ⟨b16, 0, none⟩)), (9, .pointer (some ⟨b19, 0, none⟩)), (10, .pointer (some ⟨b24, 0, none⟩)), (11, .pointer (some ⟨b25, 0, none⟩)), (12, .pointer (some ⟨b56, 0, none⟩)), (13, .pointer (some ⟨b57, 0, none⟩)), (14, .bool x1), (15, .bool (!x1)), (16, .string (bsOf a0)), (17, .int .i64 (a0.length : Int)), (18, .bool (decide ((a0.length : Int) > 2000))), (19, .int .u8 a1), (20, .int .i64 a1), (21, .int .i64 (a1 % 8)), (22, .int .i64 (1 + (a1 % 8))), (23, .string (bsOf a0)), (24, .pointer (some ⟨b10, 0, none⟩)), (25, .string (bsOf a0)), (26, .pointer (some ⟨b13, 0, none⟩)), (27, .string (bsOf a0)), (28, .pointer (some ⟨b16, 0, none⟩)), (29, .string (bsOf a0)), (30, .pointer (some ⟨b19, 0, none⟩)), (31, .string (bsOf a0)), (32, .int .i64 (1 + (a1 % 8))), (33, .agg #[.bool x20.blob.null, .string (bsOf x20.blob.data), .int .i64 x20.many, .int .i64 x20.err]), (34, .string (bsOf a0)), (35, .agg #[.bool x22.blob.null, .string (bsOf x22.blob.data), .int .i64 x22.many, .int .i64 x22.err]), (36, .pointer (some ⟨b10, 0, none⟩)), (37, .int .i64 (1 + (a1 % 8))), (38, .agg #[.bool x26.null, .string (bsOf x26.data)]), (39, .pointer (some ⟨b24, 0, none⟩)), (40, .agg #[.bool x20.blob.null, .string (bsOf x20.blob.data)]), (41, .bool (!true)), (42, .bool (!true)), (43, .pointer (some ⟨b10, 0, none⟩)), (44, .int .i64 x31), (45, .pointer (some ⟨b24, 3, none⟩)), (46, .int .i64 x20.err), (47, .bool (!(decide (x31 = x20.err)))), (48, .bool (!(decide (x31 = x20.err)))), (49, .bool (!(decide (x31 = x20.err)))), (50, .pointer (some ⟨b24, 3, none⟩)), (51, .int .i64 x20.err), (52, .bool (decide (x20.err = 0))), (53, .bool (decide (x20.err = 0))), (54, .pointer (some ⟨b10, 0, none⟩)), (55, .int .i64 x36), (56, .pointer (some ⟨b24, 2, none⟩)), (57, .int .i64 x20.many), (58, .bool (!(decide (x36 = x20.many)))), (59, .bool (!(decide (x36 = x20.many)))), (60, .bool (!(decide (x36 = x20.many)))), (61, .pointer (some ⟨b13, 0, none⟩)), (62, .agg #[.bool x40.null, .string (bsOf x40.data)]), (63, .pointer (some ⟨b25, 0, none⟩)), (64, .agg #[.bool x22.blob.null, .string (bsOf x22.blob.data)]), (65, .bool (!true)), (66, .bool (!true)), (67, .pointer (some ⟨b13, 0, none⟩)), (68, .int .i64 x45), (69, .pointer (some ⟨b25, 3, none⟩)), (70, .int .i64 x22.err), (71, .bool (!(decide (x45 = x22.err)))), (72, .bool (!(decide (x45 = x22.err)))), (73, .bool (!(decide (x45 = x22.err)))), (74, .pointer (some ⟨b25, 3, none⟩)), (75, .int .i64 x22.err), (76, .bool (decide (x22.err = 0))), (77, .bool (decide (x22.err = 0))), (78, .pointer (some ⟨b13, 0, none⟩)), (79, .int .i64 x50), (80, .pointer (some ⟨b25, 2, none⟩)), (81, .int .i64 x22.many), (82, .bool (!(decide (x50 = x22.many)))), (83, .bool (!(decide (x50 = x22.many)))), (84, .bool (!(decide (x50 = x22.many))))] ∧ Rs = [BlkR b57 99 #[.bool x22.blob.null, .string (bsOf x22.blob.data), .int .i64 x22.many, .int .i64 x22.err], BlkR b56 99 #[.bool x54.blob.null, .string (bsOf x54.blob.data), .int .i64 x54.many, .int .i64 x54.err], BlkR b25 99 #[.bool x22.blob.null, .string (bsOf x22.blob.data), .int .i64 x22.many, .int .i64 x22.err], BlkR b24 99 #[.bool x20.blob.null, .string (bsOf x20.blob.data), .int .i64 x20.many, .int .i64 x20.err], InR b19 st17, InR b16 st14, InR b13 st51, InR b10 st37, EmpR]) ?_ ?_
                          · refine T.draw (.q 0 (.q 2 (.br 1 (.br 3 (.e 4 (.e 5 (.e 6 .nil))) (.e 4 (.e 3 (.e 5 (.e 6 .nil))))) (.br 3 (.br 1 (.e 4 (.e 5 (.e 6 .nil))) (.e 4 (.e 1 (.e 5 (.e 6 .nil))))) (.e 4 (.br 1 (.e 3 (.e 5 (.e 6 .nil))) (.e 3 (.e 1 (.e 5 (.e 6 .nil)))))))))) [0, 0, 0, 0, 0, 0, 0] rfl mix_cursitorlaw04BlobReads np_jq (by kernel_rfl) ?_
                            refine TD.run ft_cursitorlaw04BlobReads_ok [0] rfl rfl ?_
                            refine TD.q rfl .u (Ex.bS (us := [.bool x22.blob.null, .string (bsOf x22.blob.data), .int .i64 x22.many, .int .i64 x22.err]) 0 rfl Try.isAgg99 Try.sizeOf99 rfl rfl rfl) rfl ?_
                            refine TD.br ?_ ?_
                            · refine TD.ce rfl .u (.fn Try.call66 rfl) (gRRFixed_spec a0 2 _ hx55) (fun _ hs => (RX.reads_triv _ _)) rfl [0, 0, 0, 0, 0, 0, 0] (rfl) ?_
                              refine TD.br ?_ ?_
                              · refine TD.alloc rfl .u Try.zeroValue99 rfl [1, 1, 1, 1, 1, 1, 1] (fun _ => rfl) (fun b56 => ?_)
                                refine TD.alloc rfl .u Try.zeroValue99 rfl [2, 2, 2, 2, 2, 2, 2] (fun _ => rfl) (fun b57 => ?_)
                                refine TD.st1 (cs' := #[.bool x54.blob.null, .string (bsOf x54.blob.data), .int .i64 x54.many, .int .i64 x54.err]) rfl .u rfl rfl Try.sizeOf99 rfl rfl rfl rfl [2, 2, 2, 2, 2, 2, 2] (rfl) ?_
                                refine TD.st0 (cs' := #[.bool x22.blob.null, .string (bsOf x22.blob.data), .int .i64 x22.many, .int .i64 x22.err]) rfl .u rfl rfl Try.sizeOf99 rfl rfl rfl rfl [2, 2, 2, 2, 2, 2, 2] (rfl) ?_
                                exact TD.nil (X.jn [0, 0, 0, 0, 0, 0, 0, 0, 0] ⟨b56, b57, rfl, rfl⟩ (by rfl) (by rfl))
                              · refine TD.alloc rfl .u Try.zeroValue99 rfl [1, 1, 1, 1, 1, 1, 1] (fun _ => rfl) (fun b57 => ?_)
                                refine TD.alloc rfl .u Try.zeroValue99 rfl [2, 2, 2, 2, 2, 2, 2] (fun _ => rfl) (fun b56 => ?_)
                                refine TD.st0 (cs' := #[.bool x54.blob.null, .string (bsOf x54.blob.data), .int .i64 x54.many, .int .i64 x54.err]) rfl .u rfl rfl Try.sizeOf99 rfl rfl rfl rfl [2, 2, 2, 2, 2, 2, 2] (rfl) ?_
                                refine TD.st1 (cs' := #[.bool x22.blob.null, .string (bsOf x22.blob.data), .int .i64 x22.many, .int .i64 x22.err]) rfl .u rfl rfl Try.sizeOf99 rfl rfl rfl rfl [2, 2, 2, 2, 2, 2, 2] (rfl) ?_
                                exact TD.nil (X.jn [1, 0, 0, 0, 0, 0, 0, 0, 0] ⟨b56, b57, rfl, rfl⟩ (by rfl) (by rfl))
                            · refine TD.br ?_ ?_
                              · refine TD.alloc rfl .u Try.zeroValue99 rfl [1, 1, 1, 1, 1, 1, 1] (fun _ => rfl) (fun b56 => ?_)
                                refine TD.br ?_ ?_
                                · refine TD.ce rfl .u (.fn Try.call66 rfl) (gRRFixed_spec a0 2 _ hx55) (fun _ hs => (RX.reads_triv _ _)) rfl [1, 1, 1, 1, 1, 1, 1] (rfl) ?_
                                  refine TD.alloc rfl .u Try.zeroValue99 rfl [2, 2, 2, 2, 2, 2, 2] (fun _ => rfl) (fun b57 => ?_)
                                  refine TD.st1 (cs' := #[.bool x54.blob.null, .string (bsOf x54.blob.data), .int .i64 x54.many, .int .i64 x54.err]) rfl .u rfl rfl Try.sizeOf99 rfl rfl rfl rfl [2, 2, 2, 2, 2, 2, 2] (rfl) ?_
                                  refine TD.st0 (cs' := #[.bool x22.blob.null, .string (bsOf x22.blob.data), .int .i64 x22.many, .int .i64 x22.err]) rfl .u rfl rfl Try.sizeOf99 rfl rfl rfl rfl [2, 2, 2, 2, 2, 2, 2] (rfl) ?_
                                  exact TD.nil (X.jn [0, 0, 0, 0, 0, 0, 0, 0, 0] ⟨b56, b57, rfl, rfl⟩ (by rfl) (by rfl))
                                · refine TD.alloc rfl .u Try.zeroValue99 rfl [2, 2, 2, 2, 2, 2, 2] (fun _ => rfl) (fun b57 => ?_)
                                  refine TD.ce rfl .u (.fn Try.call66 rfl) (gRRFixed_spec a0 2 _ hx55) (fun _ hs => (RX.reads_triv _ _)) rfl [2, 2, 2, 2, 2, 2, 2] (rfl) ?_
                                  refine TD.st1 (cs' := #[.bool x54.blob.null, .string (bsOf x54.blob.data), .int .i64 x54.many, .int .i64 x54.err]) rfl .u rfl rfl Try.sizeOf99 rfl rfl rfl rfl [2, 2, 2, 2, 2, 2, 2] (rfl) ?_
                                  refine TD.st0 (cs' := #[.bool x22.blob.null, .string (bsOf x22.blob.data), .int .i64 x22.many, .int .i64 x22.err]) rfl .u rfl rfl Try.sizeOf99 rfl rfl rfl rfl [2, 2, 2, 2, 2, 2, 2] (rfl) ?_
                                  exact TD.nil (X.jn [0, 0, 0, 0, 0, 0, 0, 0, 0] ⟨b56, b57, rfl, rfl⟩ (by rfl) (by rfl))
                              · refine TD.alloc rfl .u Try.zeroValue99 rfl [1, 1, 1, 1, 1, 1, 1] (fun _ => rfl) (fun b57 => ?_)
                                refine TD.br ?_ ?_
                                · refine TD.ce rfl .u (.fn Try.call66 rfl) (gRRFixed_spec a0 2 _ hx55) (fun _ hs => (RX.reads_triv _ _)) rfl [1, 1, 1, 1, 1, 1, 1] (rfl) ?_
                                  refine TD.alloc rfl .u Try.zeroValue99 rfl [2, 2, 2, 2, 2, 2, 2] (fun _ => rfl) (fun b56 => ?_)
                                  refine TD.st0 (cs' := #[.bool x54.blob.null, .string (bsOf x54.blob.data), .int .i64 x54.many, .int .i64 x54.err]) rfl .u rfl rfl Try.sizeOf99 rfl rfl rfl rfl [2, 2, 2, 2, 2, 2, 2] (rfl) ?_
                                  refine TD.st1 (cs' := #[.bool x22.blob.null, .string (bsOf x22.blob.data), .int .i64 x22.many, .int .i64 x22.err]) rfl .u rfl rfl Try.sizeOf99 rfl rfl rfl rfl [2, 2, 2, 2, 2, 2, 2] (rfl) ?_
                                  exact TD.nil (X.jn [1, 0, 0, 0, 0, 0, 0, 0, 0] ⟨b56, b57, rfl, rfl⟩ (by rfl) (by rfl))
                                · refine TD.alloc rfl .u Try.zeroValue99 rfl [2, 2, 2, 2, 2, 2, 2] (fun _ => rfl) (fun b56 => ?_)
                                  refine TD.ce rfl .u (.fn Try.call66 rfl) (gRRFixed_spec a0 2 _ hx55) (fun _ hs => (RX.reads_triv _ _)) rfl [2, 2, 2, 2, 2, 2, 2] (rfl) ?_
                                  refine TD.st0 (cs' := #[.bool x54.blob.null, .string (bsOf x54.blob.data), .int .i64 x54.many, .int .i64 x54.err]) rfl .u rfl rfl Try.sizeOf99 rfl rfl rfl rfl [2, 2, 2, 2, 2, 2, 2] (rfl) ?_
                                  refine TD.st1 (cs' := #[.bool x22.blob.null, .string (bsOf x22.blob.data), .int .i64 x22.many, .int .i64 x22.err]) rfl .u rfl rfl Try.sizeOf99 rfl rfl rfl rfl [2, 2, 2, 2, 2, 2, 2] (rfl) ?_
                                  exact TD.nil (X.jn [1, 0, 0, 0, 0, 0, 0, 0, 0] ⟨b56, b57, rfl, rfl⟩ (by rfl) (by rfl))
                          · rintro _ _ ⟨b56, b57, rfl, rfl⟩
                            refine X.seq (T.seq (T.draw (.q 0 (.q 1 (.q 3 (.e 2 (.e 4 (.q 5 (.q 6 (.q 7 (.q 9 (.e 8 (.e 10 (.q 11 (.q 12 .nil))))))))))))) [0, 0, 0, 0, 2, 2, 2] rfl mix_cursitorlaw04BlobReads (NoP.seq np_post) (by kernel_rfl) ?_))
                            refine TD.q rfl .u (Ex.bS (us := [.bool x54.blob.null, .string (bsOf x54.blob.data), .int .i64 x54.many, .int .i64 x54.err]) 1 rfl Try.isAgg99 Try.sizeOf99 rfl rfl rfl) rfl ?_
                            obtain ⟨⟨x58, st59⟩, hx60, h⟩ := Option.bind_eq_some_iff.1 h
                            try dsimp only at h
                            refine TD.run ft_cursitorlaw04BlobReads_ok [1, 3] rfl rfl ?_
                            refine TD.c5 rfl .u (.fn Try.call71 rfl) (gText_spec b16 st14 _ hx60) (fun _ hs => (Src.triv _)) rfl [0, 0, 0, 0, 2, 2, 2] (rfl) ?_
                            obtain ⟨⟨x61, st62⟩, hx63, h⟩ := Option.bind_eq_some_iff.1 h
                            try dsimp only at h
                            refine TD.c5 rfl .u (.fn Try.call70 rfl) (f_l04_is_spec b16 st59 x54 x58 _ hx63) (fun _ hs => (Src.triv _)) rfl [0, 0, 0, 0, 2, 2, 2] (rfl) ?_
                            by_cases c64 : x61 = true
                            · replace h := ifT c64 h
                              refine TD.run ft_cursitorlaw04BlobReads_ok [5] rfl rfl ?_
                              refine TD.q rfl (.g rfl rfl c64) (Ex.bS (us := [.bool x22.blob.null, .string (bsOf x22.blob.data), .int .i64 x22.many, .int .i64 x22.err]) 0 rfl Try.isAgg99 Try.sizeOf99 rfl rfl rfl) rfl ?_
                              refine TD.q rfl (.g rfl rfl c64) (Ex.ft ft_cursitorlaw04BlobReads_ok rfl) rfl ?_
                              refine TD.q rfl (.g rfl rfl c64) (Ex.ft ft_cursitorlaw04BlobReads_ok rfl) rfl ?_
                              obtain ⟨⟨x65, st66⟩, hx67, h⟩ := Option.bind_eq_some_iff.1 h
                              try dsimp only at h
                              refine TD.c4 rfl (.g rfl rfl c64) (.fn Try.call72 rfl) (gName_spec b19 st17 _ hx67) (fun _ hs => (Src.triv _)) rfl [0, 0, 0, 0, 2, 2, 2] (rfl) ?_
                              obtain ⟨⟨x68, st69⟩, hx70, h⟩ := Option.bind_eq_some_iff.1 h
                              try dsimp only at h
                              refine TD.c4 rfl (.g rfl rfl c64) (.fn Try.call70 rfl) (f_l04_is_spec b19 st66 x22 x65 _ hx70) (fun _ hs => (Src.triv _)) rfl [0, 0, 0, 0, 2, 2, 2] (rfl) ?_
                              refine TD.q rfl .u (Ex.py rfl c64 rfl) rfl ?_
                              refine TD.run ft_cursitorlaw04BlobReads_ok [12] rfl rfl ?_
                              obtain rfl := Option.some.inj h
                              exact TD.nil (X.seq (T.ret (X.done1 [8] Try.results12 (RV.tm rfl) ⟨rfl, rfl, rfl⟩ (by rfl) (.inl rfl))))
                            · replace h := ifF c64 h
                              replace c64 := eq_false_of_ne_true c64
                              refine TD.run ft_cursitorlaw04BlobReads_ok [5] rfl rfl ?_
                              refine TD.no rfl (.gn rfl rfl c64) rfl ?_
                              refine TD.no rfl (.gn rfl rfl c64) rfl ?_
                              refine TD.no rfl (.gn rfl rfl c64) rfl ?_
                              refine TD.noe rfl (.gn rfl rfl c64) rfl [0, 0, 0, 0, 2, 2, 2] rfl ?_
                              refine TD.noe rfl (.gn rfl rfl c64) rfl [0, 0, 0, 0, 2, 2, 2] rfl ?_
                              exact nomatch h
                        · replace h := ifF c53 h
                          refine TD.nil (X.seq ?_)
                          refine T.yes rfl (bn_t (decide_eq_false c53)) ?_
                          exact nomatch h
                      · replace h := ifF c49 h
                        refine TD.no rfl (.gn rfl rfl (decide_eq_false c49)) rfl ?_
                        refine TD.no rfl (.gn rfl rfl (decide_eq_false c49)) rfl ?_
                        refine TD.no rfl (.gn rfl rfl (decide_eq_false c49)) rfl ?_
                        refine TD.noe rfl (.gn rfl rfl (decide_eq_false c49)) rfl [0, 0, 0, 0, 1, 1] rfl ?_
                        refine TD.no rfl (.gn rfl rfl (decide_eq_false c49)) rfl ?_
                        refine TD.q rfl (.g rfl rfl (bn_f (decide_eq_true c48))) (Ex.pn rfl (decide_eq_false c49) rfl) rfl ?_
                        refine TD.q rfl .u (Ex.pn rfl (bn_f (decide_eq_true c48)) rfl) rfl ?_
                        refine TD.nil (X.seq ?_)
                        refine T.no rfl rfl ?_
                        obtain ⟨x71, hx72, h⟩ := Option.bind_eq_some_iff.1 h
                        refine T.skip (X.seq (T.seq ?_))
                        refine T.join (fun e Rs => ∃ (b73 : Nat) (b74 : Nat), e = [(0, .string (bsOf a0)), (1, .int .u8 a1), (4, .bool false), (5, .int .i64 (1 + (a1 % 8))), (6, .pointer (some ⟨b10, 0, none⟩)), (7, .pointer (some ⟨b13, 0, none⟩)), (8, .pointer (some ⟨b16, 0, none⟩)), (9, .pointer (some ⟨b19, 0, none⟩)), (10, .pointer (some ⟨b24, 0, none⟩)), (11, .pointer (some ⟨b25, 0, none⟩)), (12, .pointer (some ⟨b73, 0, none⟩)), (13, .pointer (some ⟨b74, 0, none⟩)), (14, .bool x1), (15, .bool (!x1)), (16, .string (bsOf a0)), (17, .int .i64 (a0.length : Int)), (18, .bool (decide ((a0.length : Int) > 2000))), (19, .int .u8 a1), (20, .int .i64 a1), (21, .int .i64 (a1 % 8)), (22, .int .i64 (1 + (a1 % 8))), (23, .string (bsOf a0)), (24, .pointer (some ⟨b10, 0, none⟩)), (25, .string (bsOf a0)), (26, .pointer (some ⟨b13, 0, none⟩)), (27, .string (bsOf a0)), (28, .pointer (some ⟨b16, 0, none⟩)), (29, .string (bsOf a0)), (30, .pointer (some ⟨b19, 0, none⟩)), (31, .string (bsOf a0)), (32, .int .i64 (1 + (a1 % 8))), (33, .agg #[.bool x20.blob.null, .string (bsOf x20.blob.data), .int .i64 x20.many, .int .i64 x20.err]), (34, .string (bsOf a0)), (35, .agg #[.bool x22.blob.null, .string (bsOf x22.blob.data), .int .i64 x22.many, .int .i64 x22.err]), (36, .pointer (some ⟨b10, 0, none⟩)), (37, .int .i64 (1 + (a1 % 8))), (38, .agg #[.bool x26.null, .string (bsOf x26.data)]), (39, .pointer (some ⟨b24, 0, none⟩)), (40, .agg #[.bool x20.blob.null, .string (bsOf x20.blob.data)]), (41, .bool (!true)), (42, .bool (!true)), (43, .pointer (some ⟨b10, 0, none⟩)), (44, .int .i64 x31), (45, .pointer (some ⟨b24, 3, none⟩)), (46, .int .i64 x20.err), (47, .bool (!(decide (x31 = x20.err)))), (48, .bool (!(decide (x31 = x20.err)))), (49, .bool (!(decide (x31 = x20.err)))), (50, .pointer (some ⟨b24, 3, none⟩)), (51, .int .i64 x20.err), (52, .bool (decide (x20.err = 0))), (53, .bool (decide (x20.err = 0))), (54, .pointer (some ⟨b10, 0, none⟩)), (55, .int .i64 x36), (56, .pointer (some ⟨b24, 2, none⟩)), (57, .int .i64 x20.many), (58, .bool (!(decide (x36 = x20.many)))), (59, .bool (!(decide (x36 = x20.many)))), (60, .bool (!(decide (x36 = x20.many)))), (61, .pointer (some ⟨b13, 0, none⟩)), (62, .agg #[.bool x40.null, .string (bsOf x40.data)]), (63, .pointer (some ⟨b25, 0, none⟩)), (64, .agg #[.bool x22.blob.null, .string (bsOf x22.blob.data)]), (65, .bool (!true)), (66, .bool (!true)), (67, .pointer (some ⟨b13, 0, none⟩)), (68, .int .i64 x45), (69, .pointer (some ⟨b25, 3, none⟩)), (70, .int .i64 x22.err), (71, .bool (!(decide (x45 = x22.err)))), (72, .bool (!(decide (x45 = x22.err)))), (73, .bool (!(decide (x45 = x22.err)))), (74, .pointer (some ⟨b25, 3, none⟩)), (75, .int .i64 x22.err), (76, .bool (decide (x22.err = 0))), (77, .bool (decide (x22.err = 0))), (83, .bool false), (84, .bool false)] ∧ Rs = [BlkR b74 99 #[.bool x22.blob.null, .string (bsOf x22.blob.data), .int .i64 x22.many, .int .i64 x22.err], BlkR b73 99 #[.bool x71.blob.null, .string (bsOf x71.blob.data), .int .i64 x71.many, .int .i64 x71.err], BlkR b25 99 #[.bool x22.blob.null, .string (bsOf x22.blob.data), .int .i64 x22.many, .int .i64 x22.err], BlkR b24 99 #[.bool x20.blob.null, .string (bsOf x20.blob.data), .int .i64 x20.many, .int .i64 x20.err], InR b19 st17, InR b16 st14, InR b13 st46, InR b10 st37, EmpR]) ?_ ?_
                        · refine T.draw (.q 0 (.q 2 (.br 1 (.br 3 (.e 4 (.e 5 (.e 6 .nil))) (.e 4 (.e 3 (.e 5 (.e 6 .nil))))) (.br 3 (.br 1 (.e 4 (.e 5 (.e 6 .nil))) (.e 4 (.e 1 (.e 5 (.e 6 .nil))))) (.e 4 (.br 1 (.e 3 (.e 5 (.e 6 .nil))) (.e 3 (.e 1 (.e 5 (.e 6 .nil)))))))))) [0, 0, 0, 0, 0, 0, 0] rfl mix_cursitorlaw04BlobReads np_jq (by kernel_rfl) ?_
                          refine TD.run ft_cursitorlaw04BlobReads_ok [0] rfl rfl ?_
                          refine TD.q rfl .u (Ex.bS (us := [.bool x22.blob.null, .string (bsOf x22.blob.data), .int .i64 x22.many, .int .i64 x22.err]) 0 rfl Try.isAgg99 Try.sizeOf99 rfl rfl rfl) rfl ?_
                          refine TD.br ?_ ?_
                          · refine TD.ce rfl .u (.fn Try.call66 rfl) (gRRFixed_spec a0 2 _ hx72) (fun _ hs => (RX.reads_triv _ _)) rfl [0, 0, 0, 0, 0, 0, 0] (rfl) ?_
                            refine TD.br ?_ ?_
                            · refine TD.alloc rfl .u Try.zeroValue99 rfl [1, 1, 1, 1, 1, 1, 1] (fun _ => rfl) (fun b73 => ?_)
                              refine TD.alloc rfl .u Try.zeroValue99 rfl [2, 2, 2, 2, 2, 2, 2] (fun _ => rfl) (fun b74 => ?_)
                              refine TD.st1 (cs' := #[.bool x71.blob.null, .string (bsOf x71.blob.data), .int .i64 x71.many, .int .i64 x71.err]) rfl .u rfl rfl Try.sizeOf99 rfl rfl rfl rfl [2, 2, 2, 2, 2, 2, 2] (rfl) ?_
                              refine TD.st0 (cs' := #[.bool x22.blob.null, .string (bsOf x22.blob.data), .int .i64 x22.many, .int .i64 x22.err]) rfl .u rfl rfl Try.sizeOf99 rfl rfl rfl rfl [2, 2, 2, 2, 2, 2, 2] (rfl) ?_
                              exact TD.nil (X.jn [0, 0, 0, 0, 0, 0, 0, 0, 0] ⟨b73, b74, rfl, rfl⟩ (by rfl) (by rfl))
                            · refine TD.alloc rfl .u Try.zeroValue99 rfl [1, 1, 1, 1, 1, 1, 1] (fun _ => rfl) (fun b74 => ?_)
                              refine TD.alloc rfl .u Try.zeroValue99 rfl [2, 2, 2, 2, 2, 2, 2] (fun _ => rfl) (fun b73 => ?_)
                              refine TD.st0 (cs' := #[.bool x71.blob.null, .string (bsOf x71.blob.data), .int .i64 x71.many, .int .i64 x71.err]) rfl .u rfl rfl Try.sizeOf99 rfl rfl rfl rfl [2, 2, 2, 2, 2, 2, 2] (rfl) ?_
                              refine TD.st1 (cs' := #[.bool x22.blob.null, .string (bsOf x22.blob.data), .int .i64 x22.many, .int .i64 x22.err]) rfl .u rfl rfl Try.sizeOf99 rfl rfl rfl rfl [2, 2, 2, 2, 2, 2, 2] (rfl) ?_
                              exact TD.nil (X.jn [1, 0, 0, 0, 0, 0, 0, 0, 0] ⟨b73, b74, rfl, rfl⟩ (by rfl) (by rfl))
                          · refine TD.br ?_ ?_
                            · refine TD.alloc rfl .u Try.zeroValue99 rfl [1, 1, 1, 1, 1, 1, 1] (fun _ => rfl) (fun b73 => ?_)
                              refine TD.br ?_ ?_
                              · refine TD.ce rfl .u (.fn Try.call66 rfl) (gRRFixed_spec a0 2 _ hx72) (fun _ hs => (RX.reads_triv _ _)) rfl [1, 1, 1, 1, 1, 1, 1] (rfl) ?_
                                refine TD.alloc rfl .u Try.zeroValue99 rfl [2, 2, 2, 2, 2, 2, 2] (fun _ => rfl) (fun b74 => ?_)
                                refine TD.st1 (cs' := #[.bool x71.blob.null, .string (bsOf x71.blob.data), .int .i64 x71.many, .int .i64 x71.err]) rfl .u rfl rfl Try.sizeOf99 rfl rfl rfl rfl [2, 2, 2, 2, 2, 2, 2] (rfl) ?_
                                refine TD.st0 (cs' := #[.bool x22.blob.null, .string (bsOf x22.blob.data), .int .i64 x22.many, .int .i64 x22.err]) rfl .u rfl rfl Try.sizeOf99 rfl rfl rfl rfl [2, 2, 2, 2, 2, 2, 2] (rfl) ?_
                                exact TD.nil (X.jn [0, 0, 0, 0, 0, 0, 0, 0, 0] ⟨b73, b74, rfl, rfl⟩ (by rfl) (by rfl))
                              · refine TD.alloc rfl .u Try.zeroValue99 rfl [2, 2, 2, 2, 2, 2, 2] (fun _ => rfl) (fun b74 => ?_)
                                refine TD.ce rfl .u (.fn Try.call66 rfl) (gRRFixed_spec a0 2 _ hx72) (fun _ hs => (RX.reads_triv _ _)) rfl [2, 2, 2, 2, 2, 2, 2] (rfl) ?_
                                refine TD.st1 (cs' := #[.bool x71.blob.null, .string (bsOf x71.blob.data), .int .i64 x71.many, .int .i64 x71.err]) rfl .u rfl rfl Try.sizeOf99 rfl rfl rfl rfl [2, 2, 2, 2, 2, 2, 2] (rfl) ?_
                                refine TD.st0 (cs' := #[.bool x22.blob.null, .string (bsOf x22.blob.data), .int .i64 x22.many, .int .i64 x22.err]) rfl .u rfl rfl Try.sizeOf99 rfl rfl rfl rfl [2, 2, 2, 2, 2, 2, 2] (rfl) ?_
                                exact TD.nil (X.jn [0, 0, 0, 0, 0, 0, 0, 0, 0] ⟨b73, b74, rfl, rfl⟩ (by rfl) (by rfl))
                            · refine TD.alloc rfl .u Try.zeroValue99 rfl [1, 1, 1, 1, 1, 1, 1] (fun _ => rfl) (fun b74 => ?_)
                              refine TD.br ?_ ?_
                              · refine TD.ce rfl .u (.fn Try.call66 rfl) (gRRFixed_spec a0 2 _ hx72) (fun _ hs => (RX.reads_triv _ _)) rfl [1, 1, 1, 1, 1, 1, 1] (rfl) ?_
                                refine TD.alloc rfl .u Try.zeroValue99 rfl [2, 2, 2, 2, 2, 2, 2] (fun _ => rfl) (fun b73 => ?_)
                                refine TD.st0 (cs' := #[.bool x71.blob.null, .string (bsOf x71.blob.data), .int .i64 x71.many, .int .i64 x71.err]) rfl .u rfl rfl Try.sizeOf99 rfl rfl rfl rfl [2, 2, 2, 2, 2, 2, 2] (rfl) ?_
                                refine TD.st1 (cs' := #[.bool x22.blob.null, .string (bsOf x22.blob.data), .int .i64 x22.many, .int .i64 x22.err]) rfl .u rfl rfl Try.sizeOf99 rfl rfl rfl rfl [2, 2, 2, 2, 2, 2, 2] (rfl) ?_
                                exact TD.nil (X.jn [1, 0, 0, 0, 0, 0, 0, 0, 0] ⟨b73, b74, rfl, rfl⟩ (by rfl) (by rfl))
                              · refine TD.alloc rfl .u Try.zeroValue99 rfl [2, 2, 2, 2, 2, 2, 2] (fun _ => rfl) (fun b73 => ?_)
                                refine TD.ce rfl .u (.fn Try.call66 rfl) (gRRFixed_spec a0 2 _ hx72) (fun _ hs => (RX.reads_triv _ _)) rfl [2, 2, 2, 2, 2, 2, 2] (rfl) ?_
                                refine TD.st0 (cs' := #[.bool x71.blob.null, .string (bsOf x71.blob.data), .int .i64 x71.many, .int .i64 x71.err]) rfl .u rfl rfl Try.sizeOf99 rfl rfl rfl rfl [2, 2, 2, 2, 2, 2, 2] (rfl) ?_
                                refine TD.st1 (cs' := #[.bool x22.blob.null, .string (bsOf x22.blob.data), .int .i64 x22.many, .int .i64 x22.err]) rfl .u rfl rfl Try.sizeOf99 rfl rfl rfl rfl [2, 2, 2, 2, 2, 2, 2] (rfl) ?_
                                exact TD.nil (X.jn [1, 0, 0, 0, 0, 0, 0, 0, 0] ⟨b73, b74, rfl, rfl⟩ (by rfl) (by rfl))
                        · rintro _ _ ⟨b73, b74, rfl, rfl⟩
                          refine X.seq (T.seq (T.draw (.q 0 (.q 1 (.q 3 (.e 2 (.e 4 (.q 5 (.q 6 (.q 7 (.q 9 (.e 8 (.e 10 (.q 11 (.q 12 .nil))))))))))))) [0, 0, 0, 0, 2, 2, 2] rfl mix_cursitorlaw04BlobReads (NoP.seq np_post) (by kernel_rfl) ?_))
                          refine TD.q rfl .u (Ex.bS (us := [.bool x71.blob.null, .string (bsOf x71.blob.data), .int .i64 x71.many, .int .i64 x71.err]) 1 rfl Try.isAgg99 Try.sizeOf99 rfl rfl rfl) rfl ?_
                          obtain ⟨⟨x75, st76⟩, hx77, h⟩ := Option.bind_eq_some_iff.1 h
                          try dsimp only at h
                          refine TD.run ft_cursitorlaw04BlobReads_ok [1, 3] rfl rfl ?_
                          refine TD.c5 rfl .u (.fn Try.call71 rfl) (gText_spec b16 st14 _ hx77) (fun _ hs => (Src.triv _)) rfl [0, 0, 0, 0, 2, 2, 2] (rfl) ?_
                          obtain ⟨⟨x78, st79⟩, hx80, h⟩ := Option.bind_eq_some_iff.1 h
                          try dsimp only at h
                          refine TD.c5 rfl .u (.fn Try.call70 rfl) (f_l04_is_spec b16 st76 x71 x75 _ hx80) (fun _ hs => (Src.triv _)) rfl [0, 0, 0, 0, 2, 2, 2] (rfl) ?_
                          by_cases c81 : x78 = true
                          · replace h := ifT c81 h
                            refine TD.run ft_cursitorlaw04BlobReads_ok [5] rfl rfl ?_
                            refine TD.q rfl (.g rfl rfl c81) (Ex.bS (us := [.bool x22.blob.null, .string (bsOf x22.blob.data), .int .i64 x22.many, .int .i64 x22.err]) 0 rfl Try.isAgg99 Try.sizeOf99 rfl rfl rfl) rfl ?_
                            refine TD.q rfl (.g rfl rfl c81) (Ex.ft ft_cursitorlaw04BlobReads_ok rfl) rfl ?_
                            refine TD.q rfl (.g rfl rfl c81) (Ex.ft ft_cursitorlaw04BlobReads_ok rfl) rfl ?_
                            obtain ⟨⟨x82, st83⟩, hx84, h⟩ := Option.bind_eq_some_iff.1 h
                            try dsimp only at h
                            refine TD.c4 rfl (.g rfl rfl c81) (.fn Try.call72 rfl) (gName_spec b19 st17 _ hx84) (fun _ hs => (Src.triv _)) rfl [0, 0, 0, 0, 2, 2, 2] (rfl) ?_
                            obtain ⟨⟨x85, st86⟩, hx87, h⟩ := Option.bind_eq_some_iff.1 h
                            try dsimp only at h
                            refine TD.c4 rfl (.g rfl rfl c81) (.fn Try.call70 rfl) (f_l04_is_spec b19 st83 x22 x82 _ hx87) (fun _ hs => (Src.triv _)) rfl [0, 0, 0, 0, 2, 2, 2] (rfl) ?_
                            refine TD.q rfl .u (Ex.py rfl c81 rfl) rfl ?_
                            refine TD.run ft_cursitorlaw04BlobReads_ok [12] rfl rfl ?_
                            obtain rfl := Option.some.inj h
                            exact TD.nil (X.seq (T.ret (X.done1 [8] Try.results12 (RV.tm rfl) ⟨rfl, rfl, rfl⟩ (by rfl) (.inl rfl))))
                          · replace h := ifF c81 h
                            replace c81 := eq_false_of_ne_true c81
                            refine TD.run ft_cursitorlaw04BlobReads_ok [5] rfl rfl ?_
                            refine TD.no rfl (.gn rfl rfl c81) rfl ?_
                            refine TD.no rfl (.gn rfl rfl c81) rfl ?_
                            refine TD.no rfl (.gn rfl rfl c81) rfl ?_
                            refine TD.noe rfl (.gn rfl rfl c81) rfl [0, 0, 0, 0, 2, 2, 2] rfl ?_
                            refine TD.noe rfl (.gn rfl rfl c81) rfl [0, 0, 0, 0, 2, 2, 2] rfl ?_
                            exact nomatch h
                    · replace h := ifF c48 h
                      refine TD.run ft_cursitorlaw04BlobReads_ok [12] rfl rfl ?_
                      refine TD.no rfl (.gn rfl rfl (bn_t (decide_eq_false c48))) rfl ?_
                      refine TD.no rfl (.gn rfl rfl (bn_t (decide_eq_false c48))) rfl ?_
                      refine TD.no rfl (.gn rfl rfl (bn_t (decide_eq_false c48))) rfl ?_
                      refine TD.no rfl (.gn rfl rfl (bn_t (decide_eq_false c48))) rfl ?_
                      refine TD.no rfl (.gu rfl rfl) rfl ?_
                      refine TD.no rfl (.gu rfl rfl) rfl ?_
                      refine TD.no rfl (.gu rfl rfl) rfl ?_
                      refine TD.noe rfl (.gu rfl rfl) rfl [0, 0, 0, 0, 1, 1] rfl ?_
                      refine TD.no rfl (.gu rfl rfl) rfl ?_
                      refine TD.no rfl (.gn rfl rfl (bn_t (decide_eq_false c48))) rfl ?_
                      exact nomatch h
                  · replace h := ifF c44 h
                    refine TD.q rfl .u (Ex.aNe (us := [.bool x40.null, .string (bsOf x40.data)]) (vs := [.bool x22.blob.null, .string (bsOf x22.blob.data)]) flat_cursitorlaw04BlobReads_62 rfl Try.eqGuardType62 rfl rfl rfl rfl (eqL_t (eqV_b c43) (eqL_f (eqV_sn (l := x40.data) (m := x22.blob.data) c44)))) rfl ?_
                    exact nomatch h
                · replace h := ifF c43 h
                  refine TD.q rfl .u (Ex.aNe (us := [.bool x40.null, .string (bsOf x40.data)]) (vs := [.bool x22.blob.null, .string (bsOf x22.blob.data)]) flat_cursitorlaw04BlobReads_62 rfl Try.eqGuardType62 rfl rfl rfl rfl (eqL_f (eqV_bn c43))) rfl ?_
                  exact nomatch h
              · replace h := ifF c39 h
                refine TD.nil (X.seq ?_)
                refine T.yes rfl (bn_t (decide_eq_false c39)) ?_
                exact nomatch h
            · replace h := ifF c35 h
              refine TD.no rfl (.gn rfl rfl (decide_eq_false c35)) rfl ?_
              refine TD.no rfl (.gn rfl rfl (decide_eq_false c35)) rfl ?_
              refine TD.no rfl (.gn rfl rfl (decide_eq_false c35)) rfl ?_
              refine TD.noe rfl (.gn rfl rfl (decide_eq_false c35)) rfl [0, 0, 0, 0, 0, 1] rfl ?_
              refine TD.no rfl (.gn rfl rfl (decide_eq_false c35)) rfl ?_
              refine TD.q rfl (.g rfl rfl (bn_f (decide_eq_true c34))) (Ex.pn rfl (decide_eq_false c35) rfl) rfl ?_
              refine TD.q rfl .u (Ex.pn rfl (bn_f (decide_eq_true c34)) rfl) rfl ?_
              refine TD.nil (X.seq ?_)
              refine T.no rfl rfl ?_
              refine T.skip (X.seq (T.seq (T.seq (T.draw (.q 0 (.q 2 (.q 3 (.e 1 (.q 4 (.q 5 (.q 6 (.q 8 (.q 9 (.e 7 (.q 10 (.q 11 (.q 12 (.q 13 (.q 14 (.q 15 (.q 16 (.q 17 (.q 19 (.q 20 (.e 18 (.q 21 (.q 22 (.q 23 .nil)))))))))))))))))))))))) [0, 0, 0, 0, 1, 1] rfl mix_cursitorlaw04BlobReads (NoP.seq (NoP.seq np_post)) (by kernel_rfl) ?_))))
              refine TD.run ft_cursitorlaw04BlobReads_ok [0, 2] rfl rfl ?_
              refine TD.q rfl .u (Ex.bS (us := [.bool x22.blob.null, .string (bsOf x22.blob.data)]) 0 rfl Try.isAgg62 Try.sizeOf62 rfl rfl rfl) rfl ?_
              obtain ⟨⟨x88, st89⟩, hx90, h⟩ := Option.bind_eq_some_iff.1 h
              try dsimp only at h
              refine TD.c4 rfl .u (.fn Try.call69 rfl) (gVaried_spec b13 st11 _ hx90) (fun _ hs => (Src.triv _)) rfl [0, 0, 0, 0, 1, 1] (rfl) ?_
              by_cases c91 : x88.null = x22.blob.null
              · replace h := ifT c91 h
                by_cases c92 : x88.data = x22.blob.data
                · replace h := ifT c92 h
                  refine TD.q rfl .u (Ex.aNe (us := [.bool x88.null, .string (bsOf x88.data)]) (vs := [.bool x22.blob.null, .string (bsOf x22.blob.data)]) flat_cursitorlaw04BlobReads_62 rfl Try.eqGuardType62 rfl rfl rfl rfl (eqL_t (eqV_b c91) (eqL_t (eqV_s (l := x88.data) (m := x22.blob.data) c92) rfl))) rfl ?_
                  refine TD.run ft_cursitorlaw04BlobReads_ok [5] rfl rfl ?_
                  refine TD.q rfl (.g rfl rfl rfl) (Ex.ft ft_cursitorlaw04BlobReads_ok rfl) rfl ?_
                  refine TD.q rfl (.g rfl rfl rfl) (Ex.ft ft_cursitorlaw04BlobReads_ok rfl) rfl ?_
                  refine TD.q rfl (.g rfl rfl rfl) (Ex.b1 0 rfl Try.isAgg3 rfl rfl) rfl ?_
                  obtain ⟨⟨x93, st94⟩, hx95, h⟩ := Option.bind_eq_some_iff.1 h
                  try dsimp only at h
                  refine TD.c4 rfl (.g rfl rfl rfl) (.fn Try.call29 rfl) (gErr_spec b13 st89 _ hx95) (fun _ hs => (Src.triv _)) rfl [0, 0, 0, 0, 1, 1] (rfl) ?_
                  refine TD.q rfl (.g rfl rfl rfl) (Ex.ft ft_cursitorlaw04BlobReads_ok rfl) rfl ?_
                  refine TD.q rfl .u (Ex.pn rfl rfl rfl) rfl ?_
                  by_cases c96 : x93 = x22.err
                  · replace h := ifT c96 h
                    refine TD.run ft_cursitorlaw04BlobReads_ok [12] rfl rfl ?_
                    refine TD.q rfl (.g rfl rfl (bn_f (decide_eq_true c96))) (Ex.ft ft_cursitorlaw04BlobReads_ok rfl) rfl ?_
                    refine TD.q rfl (.g rfl rfl (bn_f (decide_eq_true c96))) (Ex.b1 0 rfl Try.isAgg3 rfl rfl) rfl ?_
                    refine TD.q rfl (.g rfl rfl (bn_f (decide_eq_true c96))) (Ex.ft ft_cursitorlaw04BlobReads_ok rfl) rfl ?_
                    refine TD.q rfl (.g rfl rfl (bn_f (decide_eq_true c96))) (Ex.ft ft_cursitorlaw04BlobReads_ok rfl) rfl ?_
                    by_cases c97 : x22.err = 0
                    · replace h := ifT c97 h
                      refine TD.q rfl (.g rfl rfl (decide_eq_true c97)) (Ex.ft ft_cursitorlaw04BlobReads_ok rfl) rfl ?_
                      refine TD.q rfl (.g rfl rfl (decide_eq_true c97)) (Ex.ft ft_cursitorlaw04BlobReads_ok rfl) rfl ?_
                      refine TD.q rfl (.g rfl rfl (decide_eq_true c97)) (Ex.b1 0 rfl Try.isAgg3 rfl rfl) rfl ?_
                      obtain ⟨⟨x98, st99⟩, hx100, h⟩ := Option.bind_eq_some_iff.1 h
                      try dsimp only at h
                      refine TD.c4 rfl (.g rfl rfl (decide_eq_true c97)) (.fn Try.call33 rfl) (gAt_spec b13 st94 _ hx100) (fun _ hs => (Src.triv _)) rfl [0, 0, 0, 0, 1, 1] (rfl) ?_
                      refine TD.q rfl (.g rfl rfl (decide_eq_true c97)) (Ex.ft ft_cursitorlaw04BlobReads_ok rfl) rfl ?_
                      refine TD.q rfl (.g rfl rfl (bn_f (decide_eq_true c96))) (Ex.py rfl (decide_eq_true c97) rfl) rfl ?_
                      refine TD.q rfl .u (Ex.pn rfl (bn_f (decide_eq_true c96)) rfl) rfl ?_
                      by_cases c101 : x98 = x22.many
                      · replace h := ifT c101 h
                        refine TD.nil (X.seq ?_)
                        refine T.no rfl (bn_f (decide_eq_true c101)) ?_
                        obtain ⟨x102, hx103, h⟩ := Option.bind_eq_some_iff.1 h
                        refine T.skip (X.seq (T.seq ?_))
                        refine T.join (fun e Rs => ∃ (b104 : Nat) (b105 : Nat), e = [(0, .string (bsOf a0)), (1, .int .u8 a1), (4, .bool false), (5, .int .i64 (1 + (a1 % 8))), (6, .pointer (some ⟨b10, 0, none⟩)), (7, .pointer (some ⟨b13, 0, none⟩)), (8, .pointer (some ⟨b16, 0, none⟩)), (9, .pointer (some ⟨b19, 0, none⟩)), (10, .pointer (some ⟨b24, 0, none⟩)), (11, .pointer (some ⟨b25, 0, none⟩)), (12, .pointer (some ⟨b104, 0, none⟩)), (13, .pointer (some ⟨b105, 0, none⟩)), (14, .bool x1), (15, .bool (!x1)), (16, .string (bsOf a0)), (17, .int .i64 (a0.length : Int)), (18, .bool (decide ((a0.length : Int) > 2000))), (19, .int .u8 a1), (20, .int .i64 a1), (21, .int .i64 (a1 % 8)), (22, .int .i64 (1 + (a1 % 8))), (23, .string (bsOf a0)), (24, .pointer (some ⟨b10, 0, none⟩)), (25, .string (bsOf a0)), (26, .pointer (some ⟨b13, 0, none⟩)), (27, .string (bsOf a0)), (28, .pointer (some ⟨b16, 0, none⟩)), (29, .string (bsOf a0)), (30, .pointer (some ⟨b19, 0, none⟩)), (31, .string (bsOf a0)), (32, .int .i64 (1 + (a1 % 8))), (33, .agg #[.bool x20.blob.null, .string (bsOf x20.blob.data), .int .i64 x20.many, .int .i64 x20.err]), (34, .string (bsOf a0)), (35, .agg #[.bool x22.blob.null, .string (bsOf x22.blob.data), .int .i64 x22.many, .int .i64 x22.err]), (36, .pointer (some ⟨b10, 0, none⟩)), (37, .int .i64 (1 + (a1 % 8))), (38, .agg #[.bool x26.null, .string (bsOf x26.data)]), (39, .pointer (some ⟨b24, 0, none⟩)), (40, .agg #[.bool x20.blob.null, .string (bsOf x20.blob.data)]), (41, .bool (!true)), (42, .bool (!true)), (43, .pointer (some ⟨b10, 0, none⟩)), (44, .int .i64 x31), (45, .pointer (some ⟨b24, 3, none⟩)), (46, .int .i64 x20.err), (47, .bool (!(decide (x31 = x20.err)))), (48, .bool (!(decide (x31 = x20.err)))), (49, .bool (!(decide (x31 = x20.err)))), (50, .pointer (some ⟨b24, 3, none⟩)), (51, .int .i64 x20.err), (52, .bool (decide (x20.err = 0))), (53, .bool (decide (x20.err = 0))), (59, .bool false), (60, .bool false), (61, .pointer (some ⟨b13, 0, none⟩)), (62, .agg #[.bool x88.null, .string (bsOf x88.data)]), (63, .pointer (some ⟨b25, 0, none⟩)), (64, .agg #[.bool x22.blob.null, .string (bsOf x22.blob.data)]), (65, .bool (!true)), (66, .bool (!true)), (67, .pointer (some ⟨b13, 0, none⟩)), (68, .int .i64 x93), (69, .pointer (some ⟨b25, 3, none⟩)), (70, .int .i64 x22.err), (71, .bool (!(decide (x93 = x22.err)))), (72, .bool (!(decide (x93 = x22.err)))), (73, .bool (!(decide (x93 = x22.err)))), (74, .pointer (some ⟨b25, 3, none⟩)), (75, .int .i64 x22.err), (76, .bool (decide (x22.err = 0))), (77, .bool (decide (x22.err = 0))), (78, .pointer (some ⟨b13, 0, none⟩)), (79, .int .i64 x98), (80, .pointer (some ⟨b25, 2, none⟩)), (81, .int .i64 x22.many), (82, .bool (!(decide (x98 = x22.many)))), (83, .bool (!(decide (x98 = x22.many)))), (84, .bool (!(decide (x98 = x22.many))))] ∧ Rs = [BlkR b105 99 #[.bool x22.blob.null, .string (bsOf x22.blob.data), .int .i64 x22.many, .int .i64 x22.err], BlkR b104 99 #[.bool x102.blob.null, .string (bsOf x102.blob.data), .int .i64 x102.many, .int .i64 x102.err], BlkR b25 99 #[.bool x22.blob.null, .string (bsOf x22.blob.data), .int .i64 x22.many, .int .i64 x22.err], BlkR b24 99 #[.bool x20.blob.null, .string (bsOf x20.blob.data), .int .i64 x20.many, .int .i64 x20.err], InR b19 st17, InR b16 st14, InR b13 st99, InR b10 st32, EmpR]) ?_ ?_
                        · refine T.draw (.q 0 (.q 2 (.br 1 (.br 3 (.e 4 (.e 5 (.e 6 .nil))) (.e 4 (.e 3 (.e 5 (.e 6 .nil))))) (.br 3 (.br 1 (.e 4 (.e 5 (.e 6 .nil))) (.e 4 (.e 1 (.e 5 (.e 6 .nil))))) (.e 4 (.br 1 (.e 3 (.e 5 (.e 6 .nil))) (.e 3 (.e 1 (.e 5 (.e 6 .nil)))))))))) [0, 0, 0, 0, 0, 0, 0] rfl mix_cursitorlaw04BlobReads np_jq (by kernel_rfl) ?_
                          refine TD.run ft_cursitorlaw04BlobReads_ok [0] rfl rfl ?_
                          refine TD.q rfl .u (Ex.bS (us := [.bool x22.blob.null, .string (bsOf x22.blob.data), .int .i64 x22.many, .int .i64 x22.err]) 0 rfl Try.isAgg99 Try.sizeOf99 rfl rfl rfl) rfl ?_
                          refine TD.br ?_ ?_
                          · refine TD.ce rfl .u (.fn Try.call66 rfl) (gRRFixed_spec a0 2 _ hx103) (fun _ hs => (RX.reads_triv _ _)) rfl [0, 0, 0, 0, 0, 0, 0] (rfl) ?_
                            refine TD.br ?_ ?_
                            · refine TD.alloc rfl .u Try.zeroValue99 rfl [1, 1, 1, 1, 1, 1, 1] (fun _ => rfl) (fun b104 => ?_)
                              refine TD.alloc rfl .u Try.zeroValue99 rfl [2, 2, 2, 2, 2, 2, 2] (fun _ => rfl) (fun b105 => ?_)
                              refine TD.st1 (cs' := #[.bool x102.blob.null, .string (bsOf x102.blob.data), .int .i64 x102.many, .int .i64 x102.err]) rfl .u rfl rfl Try.sizeOf99 rfl rfl rfl rfl [2, 2, 2, 2, 2, 2, 2] (rfl) ?_
                              refine TD.st0 (cs' := #[.bool x22.blob.null, .string (bsOf x22.blob.data), .int .i64 x22.many, .int .i64 x22.err]) rfl .u rfl rfl Try.sizeOf99 rfl rfl rfl rfl [2, 2, 2, 2, 2, 2, 2] (rfl) ?_
                              exact TD.nil (X.jn [0, 0, 0, 0, 0, 0, 0, 0, 0] ⟨b104, b105, rfl, rfl⟩ (by rfl) (by rfl))
                            · refine TD.alloc rfl .u Try.zeroValue99 rfl [1, 1, 1, 1, 1, 1, 1] (fun _ => rfl) (fun b105 => ?_)
                              refine TD.alloc rfl .u Try.zeroValue99 rfl [2, 2, 2, 2, 2, 2, 2] (fun _ => rfl) (fun b104 => ?_)
                              refine TD.st0 (cs' := #[.bool x102.blob.null, .string (bsOf x102.blob.data), .int .i64 x102.many, .int .i64 x102.err]) rfl .u rfl rfl Try.sizeOf99 rfl rfl rfl rfl [2, 2, 2, 2, 2, 2, 2] (rfl) ?_
                              refine TD.st1 (cs' := #[.bool x22.blob.null, .string (bsOf x22.blob.data), .int .i64 x22.many, .int .i64 x22.err]) rfl .u rfl rfl Try.sizeOf99 rfl rfl rfl rfl [2, 2, 2, 2, 2, 2, 2] (rfl) ?_
                              exact TD.nil (X.jn [1, 0, 0, 0, 0, 0, 0, 0, 0] ⟨b104, b105, rfl, rfl⟩ (by rfl) (by rfl))
                          · refine TD.br ?_ ?_
                            · refine TD.alloc rfl .u Try.zeroValue99 rfl [1, 1, 1, 1, 1, 1, 1] (fun _ => rfl) (fun b104 => ?_)
                              refine TD.br ?_ ?_
                              · refine TD.ce rfl .u (.fn Try.call66 rfl) (gRRFixed_spec a0 2 _ hx103) (fun _ hs => (RX.reads_triv _ _)) rfl [1, 1, 1, 1, 1, 1, 1] (rfl) ?_
                                refine TD.alloc rfl .u Try.zeroValue99 rfl [2, 2, 2, 2, 2, 2, 2] (fun _ => rfl) (fun b105 => ?_)
                                refine TD.st1 (cs' := #[.bool x102.blob.null, .string (bsOf x102.blob.data), .int .i64 x102.many, .int .i64 x102.err]) rfl .u rfl rfl Try.sizeOf99 rfl rfl rfl rfl [2, 2, 2, 2, 2, 2, 2] (rfl) ?_
                                refine TD.st0 (cs' := #[.bool x22.blob.null, .string (bsOf x22.blob.data), .int .i64 x22.many, .int .i64 x22.err]) rfl .u rfl rfl Try.sizeOf99 rfl rfl rfl rfl [2, 2, 2, 2, 2, 2, 2] (rfl) ?_
                                exact TD.nil (X.jn [0, 0, 0, 0, 0, 0, 0, 0, 0] ⟨b104, b105, rfl, rfl⟩ (by rfl) (by rfl))
                              · refine TD.alloc rfl .u Try.zeroValue99 rfl [2, 2, 2, 2, 2, 2, 2] (fun _ => rfl) (fun b105 => ?_)
                                refine TD.ce rfl .u (.fn Try.call66 rfl) (gRRFixed_spec a0 2 _ hx103) (fun _ hs => (RX.reads_triv _ _)) rfl [2, 2, 2, 2, 2, 2, 2] (rfl) ?_
                                refine TD.st1 (cs' := #[.bool x102.blob.null, .string (bsOf x102.blob.data), .int .i64 x102.many, .int .i64 x102.err]) rfl .u rfl rfl Try.sizeOf99 rfl rfl rfl rfl [2, 2, 2, 2, 2, 2, 2] (rfl) ?_
                                refine TD.st0 (cs' := #[.bool x22.blob.null, .string (bsOf x22.blob.data), .int .i64 x22.many, .int .i64 x22.err]) rfl .u rfl rfl Try.sizeOf99 rfl rfl rfl rfl [2, 2, 2, 2, 2, 2, 2] (rfl) ?_
                                exact TD.nil (X.jn [0, 0, 0, 0, 0, 0, 0, 0, 0] ⟨b104, b105, rfl, rfl⟩ (by rfl) (by rfl))
                            · refine TD.alloc rfl .u Try.zeroValue99 rfl [1, 1, 1, 1, 1, 1, 1] (fun _ => rfl) (fun b105 => ?_)
                              refine TD.br ?_ ?_
                              · refine TD.ce rfl .u (.fn Try.call66 rfl) (gRRFixed_spec a0 2 _ hx103) (fun _ hs => (RX.reads_triv _ _)) rfl [1, 1, 1, 1, 1, 1, 1] (rfl) ?_
                                refine TD.alloc rfl .u Try.zeroValue99 rfl [2, 2, 2, 2, 2, 2, 2] (fun _ => rfl) (fun b104 => ?_)
                                refine TD.st0 (cs' := #[.bool x102.blob.null, .string (bsOf x102.blob.data), .int .i64 x102.many, .int .i64 x102.err]) rfl .u rfl rfl Try.sizeOf99 rfl rfl rfl rfl [2, 2, 2, 2, 2, 2, 2] (rfl) ?_
                                refine TD.st1 (cs' := #[.bool x22.blob.null, .string (bsOf x22.blob.data), .int .i64 x22.many, .int .i64 x22.err]) rfl .u rfl rfl Try.sizeOf99 rfl rfl rfl rfl [2, 2, 2, 2, 2, 2, 2] (rfl) ?_
                                exact TD.nil (X.jn [1, 0, 0, 0, 0, 0, 0, 0, 0] ⟨b104, b105, rfl, rfl⟩ (by rfl) (by rfl))
                              · refine TD.alloc rfl .u Try.zeroValue99 rfl [2, 2, 2, 2, 2, 2, 2] (fun _ => rfl) (fun b104 => ?_)
                                refine TD.ce rfl .u (.fn Try.call66 rfl) (gRRFixed_spec a0 2 _ hx103) (fun _ hs => (RX.reads_triv _ _)) rfl [2, 2, 2, 2, 2, 2, 2] (rfl) ?_
                                refine TD.st0 (cs' := #[.bool x102.blob.null, .string (bsOf x102.blob.data), .int .i64 x102.many, .int .i64 x102.err]) rfl .u rfl rfl Try.sizeOf99 rfl rfl rfl rfl [2, 2, 2, 2, 2, 2, 2] (rfl) ?_
                                refine TD.st1 (cs' := #[.bool x22.blob.null, .string (bsOf x22.blob.data), .int .i64 x22.many, .int .i64 x22.err]) rfl .u rfl rfl Try.sizeOf99 rfl rfl rfl rfl [2, 2, 2, 2, 2, 2, 2] (rfl) ?_
                                exact TD.nil (X.jn [1, 0, 0, 0, 0, 0, 0, 0, 0] ⟨b104, b105, rfl, rfl⟩ (by rfl) (by rfl))
                        · rintro _ _ ⟨b104, b105, rfl, rfl⟩
                          refine X.seq (T.seq (T.draw (.q 0 (.q 1 (.q 3 (.e 2 (.e 4 (.q 5 (.q 6 (.q 7 (.q 9 (.e 8 (.e 10 (.q 11 (.q 12 .nil))))))))))))) [0, 0, 0, 0, 2, 2, 2] rfl mix_cursitorlaw04BlobReads (NoP.seq np_post) (by kernel_rfl) ?_))
                          refine TD.q rfl .u (Ex.bS (us := [.bool x102.blob.null, .string (bsOf x102.blob.data), .int .i64 x102.many, .int .i64 x102.err]) 1 rfl Try.isAgg99 Try.sizeOf99 rfl rfl rfl) rfl ?_
                          obtain ⟨⟨x106, st107⟩, hx108, h⟩ := Option.bind_eq_some_iff.1 h
                          try dsimp only at h
                          refine TD.run ft_cursitorlaw04BlobReads_ok [1, 3] rfl rfl ?_
                          refine TD.c5 rfl .u (.fn Try.call71 rfl) (gText_spec b16 st14 _ hx108) (fun _ hs => (Src.triv _)) rfl [0, 0, 0, 0, 2, 2, 2] (rfl) ?_
                          obtain ⟨⟨x109, st110⟩, hx111, h⟩ := Option.bind_eq_some_iff.1 h
                          try dsimp only at h
                          refine TD.c5 rfl .u (.fn Try.call70 rfl) (f_l04_is_spec b16 st107 x102 x106 _ hx111) (fun _ hs => (Src.triv _)) rfl [0, 0, 0, 0, 2, 2, 2] (rfl) ?_
                          by_cases c112 : x109 = true
                          · replace h := ifT c112 h
                            refine TD.run ft_cursitorlaw04BlobReads_ok [5] rfl rfl ?_
                            refine TD.q rfl (.g rfl rfl c112) (Ex.bS (us := [.bool x22.blob.null, .string (bsOf x22.blob.data), .int .i64 x22.many, .int .i64 x22.err]) 0 rfl Try.isAgg99 Try.sizeOf99 rfl rfl rfl) rfl ?_
                            refine TD.q rfl (.g rfl rfl c112) (Ex.ft ft_cursitorlaw04BlobReads_ok rfl) rfl ?_
                            refine TD.q rfl (.g rfl rfl c112) (Ex.ft ft_cursitorlaw04BlobReads_ok rfl) rfl ?_
                            obtain ⟨⟨x113, st114⟩, hx115, h⟩ := Option.bind_eq_some_iff.1 h
                            try dsimp only at h
                            refine TD.c4 rfl (.g rfl rfl c112) (.fn Try.call72 rfl) (gName_spec b19 st17 _ hx115) (fun _ hs => (Src.triv _)) rfl [0, 0, 0, 0, 2, 2, 2] (rfl) ?_
                            obtain ⟨⟨x116, st117⟩, hx118, h⟩ := Option.bind_eq_some_iff.1 h
                            try dsimp only at h
                            refine TD.c4 rfl (.g rfl rfl c112) (.fn Try.call70 rfl) (f_l04_is_spec b19 st114 x22 x113 _ hx118) (fun _ hs => (Src.triv _)) rfl [0, 0, 0, 0, 2, 2, 2] (rfl) ?_
                            refine TD.q rfl .u (Ex.py rfl c112 rfl) rfl ?_
                            refine TD.run ft_cursitorlaw04BlobReads_ok [12] rfl rfl ?_
                            obtain rfl := Option.some.inj h
                            exact TD.nil (X.seq (T.ret (X.done1 [8] Try.results12 (RV.tm rfl) ⟨rfl, rfl, rfl⟩ (by rfl) (.inl rfl))))
                          · replace h := ifF c112 h
                            replace c112 := eq_false_of_ne_true c112
                            refine TD.run ft_cursitorlaw04BlobReads_ok [5] rfl rfl ?_
                            refine TD.no rfl (.gn rfl rfl c112) rfl ?_
                            refine TD.no rfl (.gn rfl rfl c112) rfl ?_
                            refine TD.no rfl (.gn rfl rfl c112) rfl ?_
                            refine TD.noe rfl (.gn rfl rfl c112) rfl [0, 0, 0, 0, 2, 2, 2] rfl ?_
                            refine TD.noe rfl (.gn rfl rfl c112) rfl [0, 0, 0, 0, 2, 2, 2] rfl ?_
                            exact nomatch h
                      · replace h := ifF c101 h
                        refine TD.nil (X.seq ?_)
                        refine T.yes rfl (bn_t (decide_eq_false c101)) ?_
                        exact nomatch h
                    · replace h := ifF c97 h
                      refine TD.no rfl (.gn rfl rfl (decide_eq_false c97)) rfl ?_
                      refine TD.no rfl (.gn rfl rfl (decide_eq_false c97)) rfl ?_
                      refine TD.no rfl (.gn rfl rfl (decide_eq_false c97)) rfl ?_
                      refine TD.noe rfl (.gn rfl rfl (decide_eq_false c97)) rfl [0, 0, 0, 0, 1, 1] rfl ?_
                      refine TD.no rfl (.gn rfl rfl (decide_eq_false c97)) rfl ?_
                      refine TD.q rfl (.g rfl rfl (bn_f (decide_eq_true c96))) (Ex.pn rfl (decide_eq_false c97) rfl) rfl ?_
                      refine TD.q rfl .u (Ex.pn rfl (bn_f (decide_eq_true c96)) rfl) rfl ?_
                      refine TD.nil (X.seq ?_)
                      refine T.no rfl rfl ?_
                      obtain ⟨x119, hx120, h⟩ := Option.bind_eq_some_iff.1 h
                      refine T.skip (X.seq (T.seq ?_))
                      refine T.join (fun e Rs => ∃ (b121 : Nat) (b122 : Nat), e = [(0, .string (bsOf a0)), (1, .int .u8 a1), (4, .bool false), (5, .int .i64 (1 + (a1 % 8))), (6, .pointer (some ⟨b10, 0, none⟩)), (7, .pointer (some ⟨b13, 0, none⟩)), (8, .pointer (some ⟨b16, 0, none⟩)), (9, .pointer (some ⟨b19, 0, none⟩)), (10, .pointer (some ⟨b24, 0, none⟩)), (11, .pointer (some ⟨b25, 0, none⟩)), (12, .pointer (some ⟨b121, 0, none⟩)), (13, .pointer (some ⟨b122, 0, none⟩)), (14, .bool x1), (15, .bool (!x1)), (16, .string (bsOf a0)), (17, .int .i64 (a0.length : Int)), (18, .bool (decide ((a0.length : Int) > 2000))), (19, .int .u8 a1), (20, .int .i64 a1), (21, .int .i64 (a1 % 8)), (22, .int .i64 (1 + (a1 % 8))), (23, .string (bsOf a0)), (24, .pointer (some ⟨b10, 0, none⟩)), (25, .string (bsOf a0)), (26, .pointer (some ⟨b13, 0, none⟩)), (27, .string (bsOf a0)), (28, .pointer (some ⟨b16, 0, none⟩)), (29, .string (bsOf a0)), (30, .pointer (some ⟨b19, 0, none⟩)), (31, .string (bsOf a0)), (32, .int .i64 (1 + (a1 % 8))), (33, .agg #[.bool x20.blob.null, .string (bsOf x20.blob.data), .int .i64 x20.many, .int .i64 x20.err]), (34, .string (bsOf a0)), (35, .agg #[.bool x22.blob.null, .string (bsOf x22.blob.data), .int .i64 x22.many, .int .i64 x22.err]), (36, .pointer (some ⟨b10, 0, none⟩)), (37, .int .i64 (1 + (a1 % 8))), (38, .agg #[.bool x26.null, .string (bsOf x26.data)]), (39, .pointer (some ⟨b24, 0, none⟩)), (40, .agg #[.bool x20.blob.null, .string (bsOf x20.blob.data)]), (41, .bool (!true)), (42, .bool (!true)), (43, .pointer (some ⟨b10, 0, none⟩)), (44, .int .i64 x31), (45, .pointer (some ⟨b24, 3, none⟩)), (46, .int .i64 x20.err), (47, .bool (!(decide (x31 = x20.err)))), (48, .bool (!(decide (x31 = x20.err)))), (49, .bool (!(decide (x31 = x20.err)))), (50, .pointer (some ⟨b24, 3, none⟩)), (51, .int .i64 x20.err), (52, .bool (decide (x20.err = 0))), (53, .bool (decide (x20.err = 0))), (59, .bool false), (60, .bool false), (61, .pointer (some ⟨b13, 0, none⟩)), (62, .agg #[.bool x88.null, .string (bsOf x88.data)]), (63, .pointer (some ⟨b25, 0, none⟩)), (64, .agg #[.bool x22.blob.null, .string (bsOf x22.blob.data)]), (65, .bool (!true)), (66, .bool (!true)), (67, .pointer (some ⟨b13, 0, none⟩)), (68, .int .i64 x93), (69, .pointer (some ⟨b25, 3, none⟩)), (70, .int .i64 x22.err), (71, .bool (!(decide (x93 = x22.err)))), (72, .bool (!(decide (x93 = x22.err)))), (73, .bool (!(decide (x93 = x22.err)))), (74, .pointer (some ⟨b25, 3, none⟩)), (75, .int .i64 x22.err), (76, .bool (decide (x22.err = 0))), (77, .bool (decide (x22.err = 0))), (83, .bool false), (84, .bool false)] ∧ Rs = [BlkR b122 99 #[.bool x22.blob.null, .string (bsOf x22.blob.data), .int .i64 x22.many, .int .i64 x22.err], BlkR b121 99 #[.bool x119.blob.null, .string (bsOf x119.blob.data), .int .i64 x119.many, .int .i64 x119.err], BlkR b25 99 #[.bool x22.blob.null, .string (bsOf x22.blob.data), .int .i64 x22.many, .int .i64 x22.err], BlkR b24 99 #[.bool x20.blob.null, .string (bsOf x20.blob.data), .int .i64 x20.many, .int .i64 x20.err], InR b19 st17, InR b16 st14, InR b13 st94, InR b10 st32, EmpR]) ?_ ?_
                      · refine T.draw (.q 0 (.q 2 (.br 1 (.br 3 (.e 4 (.e 5 (.e 6 .nil))) (.e 4 (.e 3 (.e 5 (.e 6 .nil))))) (.br 3 (.br 1 (.e 4 (.e 5 (.e 6 .nil))) (.e 4 (.e 1 (.e 5 (.e 6 .nil))))) (.e 4 (.br 1 (.e 3 (.e 5 (.e 6 .nil))) (.e 3 (.e 1 (.e 5 (.e 6 .nil)))))))))) [0, 0, 0, 0, 0, 0, 0] rfl mix_cursitorlaw04BlobReads np_jq (by kernel_rfl) ?_
                        refine TD.run ft_cursitorlaw04BlobReads_ok [0] rfl rfl ?_
                        refine TD.q rfl .u (Ex.bS (us := [.bool x22.blob.null, .string (bsOf x22.blob.data), .int .i64 x22.many, .int .i64 x22.err]) 0 rfl Try.isAgg99 Try.sizeOf99 rfl rfl rfl) rfl ?_
                        refine TD.br ?_ ?_
                        · refine TD.ce rfl .u (.fn Try.call66 rfl) (gRRFixed_spec a0 2 _ hx120) (fun _ hs => (RX.reads_triv _ _)) rfl [0, 0, 0, 0, 0, 0, 0] (rfl) ?_
                          refine TD.br ?_ ?_
                          · refine TD.alloc rfl .u Try.zeroValue99 rfl [1, 1, 1, 1, 1, 1, 1] (fun _ => rfl) (fun b121 => ?_)
                            refine TD.alloc rfl .u Try.zeroValue99 rfl [2, 2, 2, 2, 2, 2, 2] (fun _ => rfl) (fun b122 => ?_)
                            refine TD.st1 (cs' := #[.bool x119.blob.null, .string (bsOf x119.blob.data), .int .i64 x119.many, .int .i64 x119.err]) rfl .u rfl rfl Try.sizeOf99 rfl rfl rfl rfl [2, 2, 2, 2, 2, 2, 2] (rfl) ?_
                            refine TD.st0 (cs' := #[.bool x22.blob.null, .string (bsOf x22.blob.data), .int .i64 x22.many, .int .i64 x22.err]) rfl .u rfl rfl Try.sizeOf99 rfl rfl rfl rfl [2, 2, 2, 2, 2, 2, 2] (rfl) ?_
                            exact TD.nil (X.jn [0, 0, 0, 0, 0, 0, 0, 0, 0] ⟨b121, b122, rfl, rfl⟩ (by rfl) (by rfl))
                          · refine TD.alloc rfl .u Try.zeroValue99 rfl [1, 1, 1, 1, 1, 1, 1] (fun _ => rfl) (fun b122 => ?_)
                            refine TD.alloc rfl .u Try.zeroValue99 rfl [2, 2, 2, 2, 2, 2, 2] (fun _ => rfl) (fun b121 => ?_)
                            refine TD.st0 (cs' := #[.bool x119.blob.null, .string (bsOf x119.blob.data), .int .i64 x119.many, .int .i64 x119.err]) rfl .u rfl rfl Try.sizeOf99 rfl rfl rfl rfl [2, 2, 2, 2, 2, 2, 2] (rfl) ?_
                            refine TD.st1 (cs' := #[.bool x22.blob.null, .string (bsOf x22.blob.data), .int .i64 x22.many, .int .i64 x22.err]) rfl .u rfl rfl Try.sizeOf99 rfl rfl rfl rfl [2, 2, 2, 2, 2, 2, 2] (rfl) ?_
                            exact TD.nil (X.jn [1, 0, 0, 0, 0, 0, 0, 0, 0] ⟨b121, b122, rfl, rfl⟩ (by rfl) (by rfl))
                        · refine TD.br ?_ ?_
                          · refine TD.alloc rfl .u Try.zeroValue99 rfl [1, 1, 1, 1, 1, 1, 1] (fun _ => rfl) (fun b121 => ?_)
                            refine TD.br ?_ ?_
                            · refine TD.ce rfl .u (.fn Try.call66 rfl) (gRRFixed_spec a0 2 _ hx120) (fun _ hs => (RX.reads_triv _ _)) rfl [1, 1, 1, 1, 1, 1, 1] (rfl) ?_
                              refine TD.alloc rfl .u Try.zeroValue99 rfl [2, 2, 2, 2, 2, 2, 2] (fun _ => rfl) (fun b122 => ?_)
                              refine TD.st1 (cs' := #[.bool x119.blob.null, .string (bsOf x119.blob.data), .int .i64 x119.many, .int .i64 x119.err]) rfl .u rfl rfl Try.sizeOf99 rfl rfl rfl rfl [2, 2, 2, 2, 2, 2, 2] (rfl) ?_
                              refine TD.st0 (cs' := #[.bool x22.blob.null, .string (bsOf x22.blob.data), .int .i64 x22.many, .int .i64 x22.err]) rfl .u rfl rfl Try.sizeOf99 rfl rfl rfl rfl [2, 2, 2, 2, 2, 2, 2] (rfl) ?_
                              exact TD.nil (X.jn [0, 0, 0, 0, 0, 0, 0, 0, 0] ⟨b121, b122, rfl, rfl⟩ (by rfl) (by rfl))
                            · refine TD.alloc rfl .u Try.zeroValue99 rfl [2, 2, 2, 2, 2, 2, 2] (fun _ => rfl) (fun b122 => ?_)
                              refine TD.ce rfl .u (.fn Try.call66 rfl) (gRRFixed_spec a0 2 _ hx120) (fun _ hs => (RX.reads_triv _ _)) rfl [2, 2, 2, 2, 2, 2, 2] (rfl) ?_
                              refine TD.st1 (cs' := #[.bool x119.blob.null, .string (bsOf x119.blob.data), .int .i64 x119.many, .int .i64 x119.err]) rfl .u rfl rfl Try.sizeOf99 rfl rfl rfl rfl [2, 2, 2, 2, 2, 2, 2] (rfl) ?_
                              refine TD.st0 (cs' := #[.bool x22.blob.null, .string (bsOf x22.blob.data), .int .i64 x22.many, .int .i64 x22.err]) rfl .u rfl rfl Try.sizeOf99 rfl rfl rfl rfl [2, 2, 2, 2, 2, 2, 2] (rfl) ?_
                              exact TD.nil (X.jn [0, 0, 0, 0, 0, 0, 0, 0, 0] ⟨b121, b122, rfl, rfl⟩ (by rfl) (by rfl))
                          · refine TD.alloc rfl .u Try.zeroValue99 rfl [1, 1, 1, 1, 1, 1, 1] (fun _ => rfl) (fun b122 => ?_)
                            refine TD.br ?_ ?_
                            · refine TD.ce rfl .u (.fn Try.call66 rfl) (gRRFixed_spec a0 2 _ hx120) (fun _ hs => (RX.reads_triv _ _)) rfl [1, 1, 1, 1, 1, 1, 1] (rfl) ?_
                              refine TD.alloc rfl .u Try.zeroValue99 rfl [2, 2, 2, 2, 2, 2, 2] (fun _ => rfl) (fun b121 => ?_)
                              refine TD.st0 (cs' := #[.bool x119.blob.null, .string (bsOf x119.blob.data), .int .i64 x119.many, .int .i64 x119.err]) rfl .u rfl rfl Try.sizeOf99 rfl rfl rfl rfl [2, 2, 2, 2, 2, 2, 2] (rfl) ?_
                              refine TD.st1 (cs' := #[.bool x22.blob.null, .string (bsOf x22.blob.data), .int .i64 x22.many, .int .i64 x22.err]) rfl .u rfl rfl Try.sizeOf99 rfl rfl rfl rfl [2, 2, 2, 2, 2, 2, 2] (rfl) ?_
                              exact TD.nil (X.jn [1, 0, 0, 0, 0, 0, 0, 0, 0] ⟨b121, b122, rfl, rfl⟩ (by rfl) (by rfl))
                            · refine TD.alloc rfl .u Try.zeroValue99 rfl [2, 2, 2, 2, 2, 2, 2] (fun _ => rfl) (fun b121 => ?_)
                              refine TD.ce rfl .u (.fn Try.call66 rfl) (gRRFixed_spec a0 2 _ hx120) (fun _ hs => (RX.reads_triv _ _)) rfl [2, 2, 2, 2, 2, 2, 2] (rfl) ?_
                              refine TD.st0 (cs' := #[.bool x119.blob.null, .string (bsOf x119.blob.data), .int .i64 x119.many, .int .i64 x119.err]) rfl .u rfl rfl Try.sizeOf99 rfl rfl rfl rfl [2, 2, 2, 2, 2, 2, 2] (rfl) ?_
                              refine TD.st1 (cs' := #[.bool x22.blob.null, .string (bsOf x22.blob.data), .int .i64 x22.many, .int .i64 x22.err]) rfl .u rfl rfl Try.sizeOf99 rfl rfl rfl rfl [2, 2, 2, 2, 2, 2, 2] (rfl) ?_
                              exact TD.nil (X.jn [1, 0, 0, 0, 0, 0, 0, 0, 0] ⟨b121, b122, rfl, rfl⟩ (by rfl) (by rfl))
                      · rintro _ _ ⟨b121, b122, rfl, rfl⟩
                        refine X.seq (T.seq (T.draw (.q 0 (.q 1 (.q 3 (.e 2 (.e 4 (.q 5 (.q 6 (.q 7 (.q 9 (.e 8 (.e 10 (.q 11 (.q 12 .nil))))))))))))) [0, 0, 0, 0, 2, 2, 2] rfl mix_cursitorlaw04BlobReads (NoP.seq np_post) (by kernel_rfl) ?_))
                        refine TD.q rfl .u (Ex.bS (us := [.bool x119.blob.null, .string (bsOf x119.blob.data), .int .i64 x119.many, .int .i64 x119.err]) 1 rfl Try.isAgg99 Try.sizeOf99 rfl rfl rfl) rfl ?_
                        obtain ⟨⟨x123, st124⟩, hx125, h⟩ := Option.bind_eq_some_iff.1 h
                        try dsimp only at h
                        refine TD.run ft_cursitorlaw04BlobReads_ok [1, 3] rfl rfl ?_
                        refine TD.c5 rfl .u (.fn Try.call71 rfl) (gText_spec b16 st14 _ hx125) (fun _ hs => (Src.triv _)) rfl [0, 0, 0, 0, 2, 2, 2] (rfl) ?_
                        obtain ⟨⟨x126, st127⟩, hx128, h⟩ := Option.bind_eq_some_iff.1 h
                        try dsimp only at h
                        refine TD.c5 rfl .u (.fn Try.call70 rfl) (f_l04_is_spec b16 st124 x119 x123 _ hx128) (fun _ hs => (Src.triv _)) rfl [0, 0, 0, 0, 2, 2, 2] (rfl) ?_
                        by_cases c129 : x126 = true
                        · replace h := ifT c129 h
                          refine TD.run ft_cursitorlaw04BlobReads_ok [5] rfl rfl ?_
                          refine TD.q rfl (.g rfl rfl c129) (Ex.bS (us := [.bool x22.blob.null, .string (bsOf x22.blob.data), .int .i64 x22.many, .int .i64 x22.err]) 0 rfl Try.isAgg99 Try.sizeOf99 rfl rfl rfl) rfl ?_
                          refine TD.q rfl (.g rfl rfl c129) (Ex.ft ft_cursitorlaw04BlobReads_ok rfl) rfl ?_
                          refine TD.q rfl (.g rfl rfl c129) (Ex.ft ft_cursitorlaw04BlobReads_ok rfl) rfl ?_
                          obtain ⟨⟨x130, st131⟩, hx132, h⟩ := Option.bind_eq_some_iff.1 h
                          try dsimp only at h
                          refine TD.c4 rfl (.g rfl rfl c129) (.fn Try.call72 rfl) (gName_spec b19 st17 _ hx132) (fun _ hs => (Src.triv _)) rfl [0, 0, 0, 0, 2, 2, 2] (rfl) ?_
                          obtain ⟨⟨x133, st134⟩, hx135, h⟩ := Option.bind_eq_some_iff.1 h
                          try dsimp only at h
                          refine TD.c4 rfl (.g rfl rfl c129) (.fn Try.call70 rfl) (f_l04_is_spec b19 st131 x22 x130 _ hx135) (fun _ hs => (Src.triv _)) rfl [0, 0, 0, 0, 2, 2, 2] (rfl) ?_
                          refine TD.q rfl .u (Ex.py rfl c129 rfl) rfl ?_
                          refine TD.run ft_cursitorlaw04BlobReads_ok [12] rfl rfl ?_
                          obtain rfl := Option.some.inj h
                          exact TD.nil (X.seq (T.ret (X.done1 [8] Try.results12 (RV.tm rfl) ⟨rfl, rfl, rfl⟩ (by rfl) (.inl rfl))))
                        · replace h := ifF c129 h
                          replace c129 := eq_false_of_ne_true c129
                          refine TD.run ft_cursitorlaw04BlobReads_ok [5] rfl rfl ?_
                          refine TD.no rfl (.gn rfl rfl c129) rfl ?_
                          refine TD.no rfl (.gn rfl rfl c129) rfl ?_
                          refine TD.no rfl (.gn rfl rfl c129) rfl ?_
                          refine TD.noe rfl (.gn rfl rfl c129) rfl [0, 0, 0, 0, 2, 2, 2] rfl ?_
                          refine TD.noe rfl (.gn rfl rfl c129) rfl [0, 0, 0, 0, 2, 2, 2] rfl ?_
                          exact nomatch h
                  · replace h := ifF c96 h
                    refine TD.run ft_cursitorlaw04BlobReads_ok [12] rfl rfl ?_
                    refine TD.no rfl (.gn rfl rfl (bn_t (decide_eq_false c96))) rfl ?_
                    refine TD.no rfl (.gn rfl rfl (bn_t (decide_eq_false c96))) rfl ?_
                    refine TD.no rfl (.gn rfl rfl (bn_t (decide_eq_false c96))) rfl ?_
                    refine TD.no rfl (.gn rfl rfl (bn_t (decide_eq_false c96))) rfl ?_
                    refine TD.no rfl (.gu rfl rfl) rfl ?_
                    refine TD.no rfl (.gu rfl rfl) rfl ?_
                    refine TD.no rfl (.gu rfl rfl) rfl ?_
                    refine TD.noe rfl (.gu rfl rfl) rfl [0, 0, 0, 0, 1, 1] rfl ?_
                    refine TD.no rfl (.gu rfl rfl) rfl ?_
                    refine TD.no rfl (.gn rfl rfl (bn_t (decide_eq_false c96))) rfl ?_
                    exact nomatch h
                · replace h := ifF c92 h
                  refine TD.q rfl .u (Ex.aNe (us := [.bool x88.null, .string (bsOf x88.data)]) (vs := [.bool x22.blob.null, .string (bsOf x22.blob.data)]) flat_cursitorlaw04BlobReads_62 rfl Try.eqGuardType62 rfl rfl rfl rfl (eqL_t (eqV_b c91) (eqL_f (eqV_sn (l := x88.data) (m := x22.blob.data) c92)))) rfl ?_
                  exact nomatch h
              · replace h := ifF c91 h
                refine TD.q rfl .u (Ex.aNe (us := [.bool x88.null, .string (bsOf x88.data)]) (vs := [.bool x22.blob.null, .string (bsOf x22.blob.data)]) flat_cursitorlaw04BlobReads_62 rfl Try.eqGuardType62 rfl rfl rfl rfl (eqL_f (eqV_bn c91))) rfl ?_
                exact nomatch h
          · replace h := ifF c34 h
            refine TD.run ft_cursitorlaw04BlobReads_ok [13] rfl rfl ?_
            refine TD.no rfl (.gn rfl rfl (bn_t (decide_eq_false c34))) rfl ?_
            refine TD.no rfl (.gn rfl rfl (bn_t (decide_eq_false c34))) rfl ?_
            refine TD.no rfl (.gn rfl rfl (bn_t (decide_eq_false c34))) rfl ?_
            refine TD.no rfl (.gn rfl rfl (bn_t (decide_eq_false c34))) rfl ?_
            refine TD.no rfl (.gu rfl rfl) rfl ?_
            refine TD.no rfl (.gu rfl rfl) rfl ?_
            refine TD.no rfl (.gu rfl rfl) rfl ?_
            refine TD.noe rfl (.gu rfl rfl) rfl [0, 0, 0, 0, 0, 1] rfl ?_
            refine TD.no rfl (.gu rfl rfl) rfl ?_
            refine TD.no rfl (.gn rfl rfl (bn_t (decide_eq_false c34))) rfl ?_
            exact nomatch h
        · replace h := ifF c30 h
          refine TD.q rfl .u (Ex.aNe (us := [.bool x26.null, .string (bsOf x26.data)]) (vs := [.bool x20.blob.null, .string (bsOf x20.blob.data)]) flat_cursitorlaw04BlobReads_62 rfl Try.eqGuardType62 rfl rfl rfl rfl (eqL_t (eqV_b c29) (eqL_f (eqV_sn (l := x26.data) (m := x20.blob.data) c30)))) rfl ?_
          exact nomatch h
      · replace h := ifF c29 h
        refine TD.q rfl .u (Ex.aNe (us := [.bool x26.null, .string (bsOf x26.data)]) (vs := [.bool x20.blob.null, .string (bsOf x20.blob.data)]) flat_cursitorlaw04BlobReads_62 rfl Try.eqGuardType62 rfl rfl rfl rfl (eqL_f (eqV_bn c29))) rfl ?_
        exact nomatch h
  · replace h := ifF c3 h
    replace c3 := eq_false_of_ne_true c3
    refine TL.nil (X.seq ?_)
    refine T.yes rfl (bn_t c3) ?_
    exact nomatch h
end Go.Proofs.Ytchfkhdifmpbkaa.Sl
