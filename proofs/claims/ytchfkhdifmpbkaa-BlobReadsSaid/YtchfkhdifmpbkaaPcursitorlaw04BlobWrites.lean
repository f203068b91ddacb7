/- Printed by g2.py: package cursitorlaw04BlobWrites. -/
import Derived.Test.YtchfkhdifmpbkaaGb
import Derived.Test.YtchfkhdifmpbkaaNg
import Derived.Test.YtchfkhdifmpbkaaPcursitorlaw04
namespace Go.Proofs.Ytchfkhdifmpbkaa.Sl
open Go.RowKit
set_option linter.unusedVariables false
set_option linter.unusedSimpArgs false
set_option maxRecDepth 100000
def ft_cursitorlaw04BlobWrites : FTab := [(62, 0, 0), (62, 1, 1)]
theorem ft_cursitorlaw04BlobWrites_ok : (ft_cursitorlaw04BlobWrites).OK Try.prog := ⟨FOK.mk Try.runUnderlying62 rfl Try.sizeOf4 rfl, FOK.mk Try.runUnderlying62 rfl Try.sizeOf9 rfl, trivial⟩
theorem mix_cursitorlaw04BlobWrites : Try.prog.follows .mixedOrders = true := by kernel_rfl
theorem flat_cursitorlaw04BlobWrites_62 : Flat Try.prog 2 62 [.bool, .string] true := (Flat.struct Try.isAgg62 Try.sizeOf62 rfl Try.underlying62 Try.stoodInHeld62 ⟨by decide, rfl, [.bool], [.string], false, rfl, (Flat.one_ Try.isAgg4 Try.sizeOf4 Try.underlying4), ⟨by decide, rfl, [.string], [], false, rfl, (Flat.one_ Try.isAgg9 Try.sizeOf9 Try.underlying9), rfl⟩⟩)
theorem bok_cursitorlaw04BlobWrites_62 : BOK Try.prog 62 #[.bool false, .string ⟨#[]⟩] [(0, 1), (1, 1)] := BOK.mk Try.zeroValue62 Try.runUnderlying62 (by intro w; simp)
def f_l04_BlobWrites (a0 : Bl) (a1 : Int) : Option (Bool) := (f_l04_speaks).bind fun x2 => if x2 = true then (if (a0.data.length : Int) > 1000 then some true else ((gPutFixed ([], 0) a0 a1).bind fun st10 => (gPutVaried ([], 0) a0).bind fun st12 => (gPutText ([], 0) a0.data).bind fun st14 => (gPutName ([], 0) a0.data).bind fun st16 => if a0.null = true then ((gOText st10).bind fun (x19, x20, st21) => (gOText st12).bind fun (x23, x24, st25) => (gRBLen a0).bind fun x27 => (gRFits x27 a1).bind fun x29 => if x29 = true then (if a0.data = [] then (if x20 = 0 then ((gRBFixed a0 a1).bind fun x34 => if x19 = x34 then (if x24 = 0 then ((gRBVaried a0).bind fun x38 => if x23 = x38 then ((gOText st14).bind fun (x41, x42, st43) => (gOText st16).bind fun (x45, x46, st47) => if x42 = 0 then ((gRBFixed (⟨false, a0.data⟩ : Bl) 2).bind fun x51 => if x41 = x51 then (if x46 = 0 then ((gRBVaried (⟨false, a0.data⟩ : Bl)).bind fun x55 => if x45 = x55 then ((gRight a0).bind fun x58 => if x58 = true then ((gOf a0.data).bind fun x61 => if x61.null = true then none else (if x61.data = a0.data then ((gNone).bind fun x65 => if x65.null = true then (if x65.data = [] then some true else none) else none) else none)) else none) else none) else none) else none) else none) else none) else none) else none) else none) else (if x20 = 4 then (if x19 = [] then (if x24 = 4 then (if x23 = [] then ((gOText st14).bind fun (x73, x74, st75) => (gOText st16).bind fun (x77, x78, st79) => if x74 = 0 then ((gRBFixed (⟨false, a0.data⟩ : Bl) 2).bind fun x83 => if x73 = x83 then (if x78 = 0 then ((gRBVaried (⟨false, a0.data⟩ : Bl)).bind fun x87 => if x77 = x87 then ((gRight a0).bind fun x90 => if x90 = true then none else ((gOf a0.data).bind fun x93 => if x93.null = true then none else (if x93.data = a0.data then ((gNone).bind fun x97 => if x97.null = true then (if x97.data = [] then some true else none) else none) else none))) else none) else none) else none) else none) else none) else none) else none) else none)) else (if x20 = 11 then (if x19 = [] then (if a0.data = [] then (if x24 = 0 then ((gRBVaried a0).bind fun x105 => if x23 = x105 then ((gOText st14).bind fun (x108, x109, st110) => (gOText st16).bind fun (x112, x113, st114) => if x109 = 0 then ((gRBFixed (⟨false, a0.data⟩ : Bl) 2).bind fun x118 => if x108 = x118 then (if x113 = 0 then ((gRBVaried (⟨false, a0.data⟩ : Bl)).bind fun x122 => if x112 = x122 then ((gRight a0).bind fun x125 => if x125 = true then ((gOf a0.data).bind fun x128 => if x128.null = true then none else (if x128.data = a0.data then ((gNone).bind fun x132 => if x132.null = true then (if x132.data = [] then some true else none) else none) else none)) else none) else none) else none) else none) else none) else none) else none) else (if x24 = 4 then (if x23 = [] then ((gOText st14).bind fun (x138, x139, st140) => (gOText st16).bind fun (x142, x143, st144) => if x139 = 0 then ((gRBFixed (⟨false, a0.data⟩ : Bl) 2).bind fun x148 => if x138 = x148 then (if x143 = 0 then ((gRBVaried (⟨false, a0.data⟩ : Bl)).bind fun x152 => if x142 = x152 then ((gRight a0).bind fun x155 => if x155 = true then none else ((gOf a0.data).bind fun x158 => if x158.null = true then none else (if x158.data = a0.data then ((gNone).bind fun x162 => if x162.null = true then (if x162.data = [] then some true else none) else none) else none))) else none) else none) else none) else none) else none) else none)) else none) else none)) else ((gOText st10).bind fun (x166, x167, st168) => (gOText st12).bind fun (x170, x171, st172) => (gRBLen a0).bind fun x174 => (gRFits x174 a1).bind fun x176 => if x176 = true then (if x167 = 0 then ((gRBFixed a0 a1).bind fun x180 => if x166 = x180 then (if x171 = 0 then ((gRBVaried a0).bind fun x184 => if x170 = x184 then ((gOText st14).bind fun (x187, x188, st189) => (gOText st16).bind fun (x191, x192, st193) => if x188 = 0 then ((gRBFixed (⟨false, a0.data⟩ : Bl) 2).bind fun x197 => if x187 = x197 then (if x192 = 0 then ((gRBVaried (⟨false, a0.data⟩ : Bl)).bind fun x201 => if x191 = x201 then ((gRight a0).bind fun x204 => if x204 = true then ((gOf a0.data).bind fun x207 => if x207.null = true then none else (if x207.data = a0.data then ((gNone).bind fun x211 => if x211.null = true then (if x211.data = [] then some true else none) else none) else none)) else none) else none) else none) else none) else none) else none) else none) else none) else none) else (if x167 = 11 then (if x166 = [] then (if x171 = 0 then ((gRBVaried a0).bind fun x218 => if x170 = x218 then ((gOText st14).bind fun (x221, x222, st223) => (gOText st16).bind fun (x225, x226, st227) => if x222 = 0 then ((gRBFixed (⟨false, a0.data⟩ : Bl) 2).bind fun x231 => if x221 = x231 then (if x226 = 0 then ((gRBVaried (⟨false, a0.data⟩ : Bl)).bind fun x235 => if x225 = x235 then ((gRight a0).bind fun x238 => if x238 = true then ((gOf a0.data).bind fun x241 => if x241.null = true then none else (if x241.data = a0.data then ((gNone).bind fun x245 => if x245.null = true then (if x245.data = [] then some true else none) else none) else none)) else none) else none) else none) else none) else none) else none) else none) else none) else none)))) else none
set_option maxRecDepth 100000 in
set_option maxHeartbeats 4000000 in
theorem f_l04_BlobWrites_spec (a0 : Bl) (a1 : Int) (r : Bool) (h : f_l04_BlobWrites a0 a1 = some r) : SpecX Try.prog 11 #[.agg #[.bool a0.null, .string (bsOf a0.data)], .int .i64 a1] .triv (EmpR) (fun v A' N => v = .bool r ∧ A' = EmpR ∧ N = []) := by
  refine enterA Try.func11 rfl Try.ntmps11 rfl ?_
  intro F w hX
  unfold f_l04_BlobWrites at h
  refine T.seq (T.region rfl ?_)
  refine TL.box rfl .u rfl rfl (fun b1 => ?_)
  refine TL.run ft_cursitorlaw04BlobWrites_ok [1] rfl rfl ?_
  obtain ⟨x2, hx3, h⟩ := Option.bind_eq_some_iff.1 h
  refine TL.nil (X.seq (T.seq (T.seq (T.region rfl ?_))))
  refine TL.ce rfl .u (.fn Try.call55 rfl) (f_l04_speaks_spec _ hx3) (fun _ hs => (RX.reads_triv _ _)) rfl ?_
  refine TL.run ft_cursitorlaw04BlobWrites_ok [1] rfl rfl ?_
  by_cases c4 : x2 = true
  · replace h := ifT c4 h
    refine TL.nil (X.seq ?_)
    refine T.no rfl (bn_f c4) ?_
    refine T.skip (X.seq (T.seq (T.seq (T.region rfl ?_))))
    refine TL.run ft_cursitorlaw04BlobWrites_ok [0] rfl rfl ?_
    refine TL.q rfl .u (Ex.b1 0 rfl Try.isAgg9 rfl rfl) rfl ?_
    refine TL.q rfl .u (Ex.lenB rfl Try.runUnderlying9) rfl ?_
    refine TL.run ft_cursitorlaw04BlobWrites_ok [3] rfl rfl ?_
    by_cases c5 : (a0.data.length : Int) > 1000
    · replace h := ifT c5 h
      refine TL.nil (X.seq ?_)
      refine T.yes rfl (decide_eq_true c5) ?_
      refine T.seq (T.region rfl ?_)
      refine TL.run ft_cursitorlaw04BlobWrites_ok [0] rfl rfl ?_
      obtain rfl := Option.some.inj h
      exact TL.nil (X.seq (T.ret (X.rs (X.done1 [1] Try.results11 (RV.tm rfl) ⟨rfl, rfl, rfl⟩ (by rfl) (.inl rfl)))))
    · replace h := ifF c5 h
      refine TL.nil (X.seq ?_)
      refine T.no rfl (decide_eq_false c5) ?_
      refine T.skip (X.seq (T.seq (T.region rfl ?_)))
      refine TL.newout rfl .u Try.zeroValue42 rfl (fun b6 => ?_)
      refine TL.newout rfl .u Try.zeroValue42 rfl (fun b7 => ?_)
      refine TL.newout rfl .u Try.zeroValue42 rfl (fun b8 => ?_)
      refine TL.newout rfl .u Try.zeroValue42 rfl (fun b9 => ?_)
      refine TL.nil (X.seq (T.seq (T.region rfl ?_)))
      refine TL.q rfl .u (Ex.bS (us := [.bool a0.null, .string (bsOf a0.data)]) 4 rfl Try.isAgg62 Try.sizeOf62 rfl rfl rfl) rfl ?_
      obtain ⟨st10, hx11, h⟩ := Option.bind_eq_some_iff.1 h
      refine TL.run ft_cursitorlaw04BlobWrites_ok [1] rfl rfl ?_
      refine TL.c3 rfl .u (.fn Try.call56 rfl) (gPutFixed_spec b6 ([], 0) a0 a1 _ hx11) (fun _ hs => (Src.triv _)) rfl ?_
      refine TL.nil (X.seq (T.seq (T.region rfl ?_)))
      refine TL.q rfl .u (Ex.bS (us := [.bool a0.null, .string (bsOf a0.data)]) 4 rfl Try.isAgg62 Try.sizeOf62 rfl rfl rfl) rfl ?_
      obtain ⟨st12, hx13, h⟩ := Option.bind_eq_some_iff.1 h
      refine TL.c2 rfl .u (.fn Try.call57 rfl) (gPutVaried_spec b7 ([], 0) a0 _ hx13) (fun _ hs => (Src.triv _)) rfl ?_
      refine TL.nil (X.seq (T.seq (T.region rfl ?_)))
      refine TL.run ft_cursitorlaw04BlobWrites_ok [0] rfl rfl ?_
      refine TL.q rfl .u (Ex.b1 4 rfl Try.isAgg9 rfl rfl) rfl ?_
      obtain ⟨st14, hx15, h⟩ := Option.bind_eq_some_iff.1 h
      refine TL.c1 rfl .u (.fn Try.call58 rfl) (gPutText_spec b8 ([], 0) a0.data _ hx15) (fun _ hs => (Src.triv _)) rfl ?_
      refine TL.nil (X.seq (T.seq (T.region rfl ?_)))
      refine TL.run ft_cursitorlaw04BlobWrites_ok [0] rfl rfl ?_
      refine TL.q rfl .u (Ex.b1 4 rfl Try.isAgg9 rfl rfl) rfl ?_
      obtain ⟨st16, hx17, h⟩ := Option.bind_eq_some_iff.1 h
      refine TL.c0 rfl .u (.fn Try.call59 rfl) (gPutName_spec b9 ([], 0) a0.data _ hx17) (fun _ hs => (Src.triv _)) rfl ?_
      refine TL.nil (X.seq (T.seq (T.region rfl ?_)))
      refine TL.run ft_cursitorlaw04BlobWrites_ok [0] rfl rfl ?_
      refine TL.q rfl .u (Ex.b1 4 rfl Try.isAgg4 rfl rfl) rfl ?_
      by_cases c18 : a0.null = true
      · replace h := ifT c18 h
        refine TL.run ft_cursitorlaw04BlobWrites_ok [2, 3] rfl rfl ?_
        refine TL.q rfl (.g rfl rfl (bn_f c18)) (Ex.ft ft_cursitorlaw04BlobWrites_ok rfl) rfl ?_
        refine TL.q rfl (.g rfl rfl (bn_f c18)) (Ex.b1 4 rfl Try.isAgg9 rfl rfl) rfl ?_
        refine TL.q rfl (.g rfl rfl (bn_f c18)) (Ex.sEq rfl (m := []) rfl) rfl ?_
        refine TL.q rfl .u (Ex.pn rfl (bn_f c18) rfl) rfl ?_
        refine TL.run ft_cursitorlaw04BlobWrites_ok [8] rfl rfl ?_
        obtain ⟨⟨x19, x20, st21⟩, hx22, h⟩ := Option.bind_eq_some_iff.1 h
        try dsimp only at h
        refine TL.nil (X.seq (T.seq (T.region rfl ?_)))
        refine TL.c3 rfl .u (.fn Try.call24 rfl) (gOText_spec b6 st10 _ hx22) (fun _ hs => (Src.triv _)) rfl ?_
        refine TL.run ft_cursitorlaw04BlobWrites_ok [1, 2, 3, 4, 5] rfl rfl ?_
        obtain ⟨⟨x23, x24, st25⟩, hx26, h⟩ := Option.bind_eq_some_iff.1 h
        try dsimp only at h
        refine TL.nil (X.seq (T.seq (T.region rfl ?_)))
        refine TL.c2 rfl .u (.fn Try.call24 rfl) (gOText_spec b7 st12 _ hx26) (fun _ hs => (Src.triv _)) rfl ?_
        refine TL.run ft_cursitorlaw04BlobWrites_ok [1, 2, 3, 4, 5] rfl rfl ?_
        refine TL.nil (X.seq (T.seq (T.block (T.seq (T.region rfl ?_)))))
        refine TL.q rfl .u (Ex.bS (us := [.bool a0.null, .string (bsOf a0.data)]) 4 rfl Try.isAgg62 Try.sizeOf62 rfl rfl rfl) rfl ?_
        obtain ⟨x27, hx28, h⟩ := Option.bind_eq_some_iff.1 h
        refine TL.ce rfl .u (.fn Try.call60 rfl) (gRBLen_spec a0 _ hx28) (fun _ hs => (RX.reads_triv _ _)) rfl ?_
        obtain ⟨x29, hx30, h⟩ := Option.bind_eq_some_iff.1 h
        refine TL.run ft_cursitorlaw04BlobWrites_ok [2] rfl rfl ?_
        refine TL.ce rfl .u (.fn Try.call44 rfl) (gRFits_spec x27 a1 _ hx30) (fun _ hs => (RX.reads_triv _ _)) rfl ?_
        refine TL.run ft_cursitorlaw04BlobWrites_ok [4, 5] rfl rfl ?_
        by_cases c31 : x29 = true
        · replace h := ifT c31 h
          refine TL.nil (X.seq ?_)
          refine T.no rfl (bn_f c31) ?_
          refine T.seq (T.region rfl ?_)
          refine TL.run ft_cursitorlaw04BlobWrites_ok [0, 1, 2] rfl rfl ?_
          by_cases c32 : a0.data = []
          · replace h := ifT c32 h
            refine TL.nil (X.seq ?_)
            refine T.no rfl (bn_f (decide_eq_true c32)) ?_
            refine T.seq (T.region rfl ?_)
            by_cases c33 : x20 = 0
            · replace h := ifT c33 h
              refine TL.run ft_cursitorlaw04BlobWrites_ok [0, 1, 2] rfl rfl ?_
              refine TL.q rfl (.g rfl rfl (bn_f (decide_eq_true c33))) (Ex.ft ft_cursitorlaw04BlobWrites_ok rfl) rfl ?_
              refine TL.q rfl (.g rfl rfl (bn_f (decide_eq_true c33))) (Ex.bS (us := [.bool a0.null, .string (bsOf a0.data)]) 4 rfl Try.isAgg62 Try.sizeOf62 rfl rfl rfl) rfl ?_
              refine TL.q rfl (.g rfl rfl (bn_f (decide_eq_true c33))) (Ex.ft ft_cursitorlaw04BlobWrites_ok rfl) rfl ?_
              obtain ⟨x34, hx35, h⟩ := Option.bind_eq_some_iff.1 h
              refine TL.ce rfl (.g rfl rfl (bn_f (decide_eq_true c33))) (.fn Try.call61 rfl) (gRBFixed_spec a0 a1 _ hx35) (fun _ hs => (RX.reads_triv _ _)) rfl ?_
              refine TL.q rfl (.g rfl rfl (bn_f (decide_eq_true c33))) (Ex.sNe rfl rfl) rfl ?_
              refine TL.q rfl .u (Ex.pn rfl (bn_f (decide_eq_true c33)) rfl) rfl ?_
              refine TL.run ft_cursitorlaw04BlobWrites_ok [9] rfl rfl ?_
              by_cases c36 : x19 = x34
              · replace h := ifT c36 h
                refine TL.nil (X.seq ?_)
                refine T.no rfl (bn_f (decide_eq_true c36)) ?_
                refine T.skip (X.blk (X.seq (T.seq (T.seq (T.region rfl ?_)))))
                refine TL.run ft_cursitorlaw04BlobWrites_ok [0, 1, 2] rfl rfl ?_
                refine TL.no rfl (.gn rfl rfl (bn_f (decide_eq_true c32))) rfl ?_
                refine TL.no rfl (.gn rfl rfl (bn_f (decide_eq_true c32))) rfl ?_
                refine TL.no rfl (.gn rfl rfl (bn_f (decide_eq_true c32))) rfl ?_
                refine TL.no rfl (.gu rfl rfl) rfl ?_
                refine TL.no rfl (.gu rfl rfl) rfl ?_
                refine TL.no rfl (.gn rfl rfl (bn_f (decide_eq_true c32))) rfl ?_
                refine TL.q rfl .u (Ex.pn rfl (bn_f (decide_eq_true c32)) rfl) rfl ?_
                refine TL.run ft_cursitorlaw04BlobWrites_ok [10] rfl rfl ?_
                refine TL.q rfl (.g rfl rfl rfl) (Ex.ft ft_cursitorlaw04BlobWrites_ok rfl) rfl ?_
                refine TL.q rfl (.g rfl rfl rfl) (Ex.ft ft_cursitorlaw04BlobWrites_ok rfl) rfl ?_
                refine TL.q rfl (.g rfl rfl (decide_eq_true c32)) (Ex.ft ft_cursitorlaw04BlobWrites_ok rfl) rfl ?_
                refine TL.q rfl (.g rfl rfl (decide_eq_true c32)) (Ex.ft ft_cursitorlaw04BlobWrites_ok rfl) rfl ?_
                refine TL.q rfl (.g rfl rfl (decide_eq_true c32)) (Ex.ft ft_cursitorlaw04BlobWrites_ok rfl) rfl ?_
                by_cases c37 : x24 = 0
                · replace h := ifT c37 h
                  refine TL.q rfl (.g rfl rfl (bn_f (decide_eq_true c37))) (Ex.ft ft_cursitorlaw04BlobWrites_ok rfl) rfl ?_
                  refine TL.q rfl (.g rfl rfl (bn_f (decide_eq_true c37))) (Ex.bS (us := [.bool a0.null, .string (bsOf a0.data)]) 4 rfl Try.isAgg62 Try.sizeOf62 rfl rfl rfl) rfl ?_
                  obtain ⟨x38, hx39, h⟩ := Option.bind_eq_some_iff.1 h
                  refine TL.ce rfl (.g rfl rfl (bn_f (decide_eq_true c37))) (.fn Try.call62 rfl) (gRBVaried_spec a0 _ hx39) (fun _ hs => (RX.reads_triv _ _)) rfl ?_
                  refine TL.q rfl (.g rfl rfl (bn_f (decide_eq_true c37))) (Ex.sNe rfl rfl) rfl ?_
                  refine TL.q rfl (.g rfl rfl (decide_eq_true c32)) (Ex.pn rfl (bn_f (decide_eq_true c37)) rfl) rfl ?_
                  refine TL.q rfl (.g rfl rfl rfl) (Ex.py rfl (decide_eq_true c32) rfl) rfl ?_
                  refine TL.q rfl .u (Ex.pn rfl rfl rfl) rfl ?_
                  by_cases c40 : x23 = x38
                  · replace h := ifT c40 h
                    refine TL.nil (X.seq ?_)
                    refine T.no rfl (bn_f (decide_eq_true c40)) ?_
                    obtain ⟨⟨x41, x42, st43⟩, hx44, h⟩ := Option.bind_eq_some_iff.1 h
                    try dsimp only at h
                    refine T.skip (X.seq (T.seq (T.region rfl ?_)))
                    refine TL.c1 rfl .u (.fn Try.call24 rfl) (gOText_spec b8 st14 _ hx44) (fun _ hs => (Src.triv _)) rfl ?_
                    refine TL.run ft_cursitorlaw04BlobWrites_ok [1, 2, 3, 4, 5] rfl rfl ?_
                    obtain ⟨⟨x45, x46, st47⟩, hx48, h⟩ := Option.bind_eq_some_iff.1 h
                    try dsimp only at h
                    refine TL.nil (X.seq (T.seq (T.region rfl ?_)))
                    refine TL.c0 rfl .u (.fn Try.call24 rfl) (gOText_spec b9 st16 _ hx48) (fun _ hs => (Src.triv _)) rfl ?_
                    refine TL.run ft_cursitorlaw04BlobWrites_ok [1, 2, 3, 4, 5] rfl rfl ?_
                    refine TL.nil (X.seq (T.seq (T.region rfl ?_)))
                    refine TL.run ft_cursitorlaw04BlobWrites_ok [0] rfl rfl ?_
                    refine TL.q rfl .u (Ex.b1 4 rfl Try.isAgg9 rfl rfl) rfl ?_
                    refine TL.q rfl .u (Ex.bld (cells := #[.bool false, .string (bsOf a0.data)]) bok_cursitorlaw04BlobWrites_62 rfl (by rfl)) rfl ?_
                    refine TL.alloc rfl .u Try.zeroValue62 rfl (fun b49 => ?_)
                    refine TL.st0 (cs' := #[.bool false, .string (bsOf a0.data)]) rfl .u rfl rfl Try.sizeOf62 rfl rfl rfl rfl ?_
                    refine TL.nil (X.seq (T.seq (T.draw (.q 0 (.q 1 (.q 2 (.q 3 (.q 4 (.e 5 (.q 6 (.q 7 (.q 8 (.q 9 (.q 10 (.q 11 (.q 12 (.q 13 (.q 14 (.e 15 (.q 16 (.q 17 (.q 18 (.q 19 (.q 21 (.e 20 (.q 22 (.q 23 (.q 24 (.q 25 (.q 26 (.q 28 (.e 27 (.q 29 (.q 30 (.q 31 (.q 33 (.e 32 (.q 34 (.q 35 (.q 36 .nil))))))))))))))))))))))))))))))))))))) [0, 0, 0, 0, 0, 0, 0] rfl mix_cursitorlaw04BlobWrites (NoP.seq np_post) (by kernel_rfl) ?_)))
                    by_cases c50 : x42 = 0
                    · replace h := ifT c50 h
                      refine TD.run ft_cursitorlaw04BlobWrites_ok [0, 1, 2] rfl rfl ?_
                      refine TD.q rfl (.g rfl rfl (decide_eq_true c50)) (Ex.ft ft_cursitorlaw04BlobWrites_ok rfl) rfl ?_
                      refine TD.q rfl (.g rfl rfl (decide_eq_true c50)) (Ex.bS (us := [.bool false, .string (bsOf a0.data)]) 0 rfl Try.isAgg62 Try.sizeOf62 rfl rfl rfl) rfl ?_
                      obtain ⟨x51, hx52, h⟩ := Option.bind_eq_some_iff.1 h
                      refine TD.ce rfl (.g rfl rfl (decide_eq_true c50)) (.fn Try.call61 rfl) (gRBFixed_spec (⟨false, a0.data⟩ : Bl) 2 _ hx52) (fun _ hs => (RX.reads_triv _ _)) rfl [0, 0, 0, 0, 0, 0, 0] (rfl) ?_
                      refine TD.q rfl (.g rfl rfl (decide_eq_true c50)) (Ex.sEq rfl rfl) rfl ?_
                      refine TD.q rfl .u (Ex.py rfl (decide_eq_true c50) rfl) rfl ?_
                      by_cases c53 : x41 = x51
                      · replace h := ifT c53 h
                        refine TD.run ft_cursitorlaw04BlobWrites_ok [8] rfl rfl ?_
                        refine TD.q rfl (.g rfl rfl (decide_eq_true c53)) (Ex.ft ft_cursitorlaw04BlobWrites_ok rfl) rfl ?_
                        refine TD.q rfl (.g rfl rfl (decide_eq_true c53)) (Ex.ft ft_cursitorlaw04BlobWrites_ok rfl) rfl ?_
                        refine TD.q rfl .u (Ex.py rfl (decide_eq_true c53) rfl) rfl ?_
                        by_cases c54 : x46 = 0
                        · replace h := ifT c54 h
                          refine TD.run ft_cursitorlaw04BlobWrites_ok [12] rfl rfl ?_
                          refine TD.q rfl (.g rfl rfl (decide_eq_true c54)) (Ex.ft ft_cursitorlaw04BlobWrites_ok rfl) rfl ?_
                          refine TD.q rfl (.g rfl rfl (decide_eq_true c54)) (Ex.bS (us := [.bool false, .string (bsOf a0.data)]) 0 rfl Try.isAgg62 Try.sizeOf62 rfl rfl rfl) rfl ?_
                          obtain ⟨x55, hx56, h⟩ := Option.bind_eq_some_iff.1 h
                          refine TD.ce rfl (.g rfl rfl (decide_eq_true c54)) (.fn Try.call62 rfl) (gRBVaried_spec (⟨false, a0.data⟩ : Bl) _ hx56) (fun _ hs => (RX.reads_triv _ _)) rfl [0, 0, 0, 0, 0, 0, 0] (rfl) ?_
                          refine TD.q rfl (.g rfl rfl (decide_eq_true c54)) (Ex.sEq rfl rfl) rfl ?_
                          refine TD.q rfl .u (Ex.py rfl (decide_eq_true c54) rfl) rfl ?_
                          by_cases c57 : x45 = x55
                          · replace h := ifT c57 h
                            refine TD.run ft_cursitorlaw04BlobWrites_ok [18] rfl rfl ?_
                            refine TD.q rfl (.g rfl rfl (decide_eq_true c57)) (Ex.bS (us := [.bool a0.null, .string (bsOf a0.data)]) 5 rfl Try.isAgg62 Try.sizeOf62 rfl rfl rfl) rfl ?_
                            refine TD.q rfl (.g rfl rfl (decide_eq_true c57)) (Ex.ft ft_cursitorlaw04BlobWrites_ok rfl) rfl ?_
                            obtain ⟨x58, hx59, h⟩ := Option.bind_eq_some_iff.1 h
                            refine TD.ce rfl (.g rfl rfl (decide_eq_true c57)) (.fn Try.call63 rfl) (gRight_spec a0 _ hx59) (fun _ hs => (RX.reads_triv _ _)) rfl [0, 0, 0, 0, 0, 0, 0] (rfl) ?_
                            by_cases c60 : x58 = true
                            · replace h := ifT c60 h
                              refine TD.q rfl (.g rfl rfl (decide_eq_true c57)) (Ex.bEq rfl c60 rfl (decide_eq_true c32) Try.runUnderlying4) rfl ?_
                              refine TD.q rfl .u (Ex.py rfl (decide_eq_true c57) rfl) rfl ?_
                              refine TD.run ft_cursitorlaw04BlobWrites_ok [24] rfl rfl ?_
                              refine TD.q rfl (.g rfl rfl rfl) (Ex.ft ft_cursitorlaw04BlobWrites_ok rfl) rfl ?_
                              refine TD.q rfl (.g rfl rfl rfl) (Ex.b1 5 rfl Try.isAgg9 rfl rfl) rfl ?_
                              refine TD.q rfl (.g rfl rfl rfl) (Ex.bS (us := [.bool false, .string (bsOf a0.data)]) 0 rfl Try.isAgg62 Try.sizeOf62 rfl rfl rfl) rfl ?_
                              obtain ⟨x61, hx62, h⟩ := Option.bind_eq_some_iff.1 h
                              refine TD.ce rfl (.g rfl rfl rfl) (.fn Try.call64 rfl) (gOf_spec a0.data _ hx62) (fun _ hs => (RX.reads_triv _ _)) rfl [0, 0, 0, 0, 0, 0, 0] (rfl) ?_
                              by_cases c63 : x61.null = true
                              · replace h := ifT c63 h
                                refine TD.q rfl (.g rfl rfl rfl) (Ex.aEq (us := [.bool x61.null, .string (bsOf x61.data)]) (vs := [.bool false, .string (bsOf a0.data)]) flat_cursitorlaw04BlobWrites_62 rfl Try.eqGuardType62 rfl rfl rfl rfl (eqL_f (eqV_bn (fun h => absurd ((Eq.symm c63).trans (h.trans rfl)) (by decide))))) rfl ?_
                                exact nomatch h
                              · replace h := ifF c63 h
                                replace c63 := eq_false_of_ne_true c63
                                by_cases c64 : x61.data = a0.data
                                · replace h := ifT c64 h
                                  refine TD.q rfl (.g rfl rfl rfl) (Ex.aEq (us := [.bool x61.null, .string (bsOf x61.data)]) (vs := [.bool false, .string (bsOf a0.data)]) flat_cursitorlaw04BlobWrites_62 rfl Try.eqGuardType62 rfl rfl rfl rfl (eqL_t (eqV_b (c63.trans (Eq.symm rfl))) (eqL_t (eqV_s (l := x61.data) (m := a0.data) c64) rfl))) rfl ?_
                                  refine TD.q rfl .u (Ex.py rfl rfl rfl) rfl ?_
                                  refine TD.run ft_cursitorlaw04BlobWrites_ok [31] rfl rfl ?_
                                  refine TD.q rfl (.g rfl rfl rfl) (Ex.bld (cells := #[.bool true, .string ⟨#[]⟩]) bok_cursitorlaw04BlobWrites_62 rfl (by rfl)) rfl ?_
                                  obtain ⟨x65, hx66, h⟩ := Option.bind_eq_some_iff.1 h
                                  refine TD.ce rfl (.g rfl rfl rfl) (.fn Try.call65 rfl) (gNone_spec _ hx66) (fun _ hs => (RX.reads_triv _ _)) rfl [0, 0, 0, 0, 0, 0, 0] (rfl) ?_
                                  by_cases c67 : x65.null = true
                                  · replace h := ifT c67 h
                                    by_cases c68 : x65.data = []
                                    · replace h := ifT c68 h
                                      refine TD.q rfl (.g rfl rfl rfl) (Ex.aEq (us := [.bool x65.null, .string (bsOf x65.data)]) (vs := [.bool true, .string ⟨#[]⟩]) flat_cursitorlaw04BlobWrites_62 rfl Try.eqGuardType62 rfl rfl rfl rfl (eqL_t (eqV_b (c67.trans (Eq.symm rfl))) (eqL_t (eqV_s (l := x65.data) (m := []) c68) rfl))) rfl ?_
                                      refine TD.q rfl .u (Ex.py rfl rfl rfl) rfl ?_
                                      refine TD.run ft_cursitorlaw04BlobWrites_ok [36] rfl rfl ?_
                                      obtain rfl := Option.some.inj h
                                      exact TD.nil (X.seq (T.ret (X.done1 [6] Try.results11 (RV.tm rfl) ⟨rfl, rfl, rfl⟩ (by rfl) (.inl rfl))))
                                    · replace h := ifF c68 h
                                      refine TD.q rfl (.g rfl rfl rfl) (Ex.aEq (us := [.bool x65.null, .string (bsOf x65.data)]) (vs := [.bool true, .string ⟨#[]⟩]) flat_cursitorlaw04BlobWrites_62 rfl Try.eqGuardType62 rfl rfl rfl rfl (eqL_t (eqV_b (c67.trans (Eq.symm rfl))) (eqL_f (eqV_sn (l := x65.data) (m := []) c68)))) rfl ?_
                                      exact nomatch h
                                  · replace h := ifF c67 h
                                    replace c67 := eq_false_of_ne_true c67
                                    refine TD.q rfl (.g rfl rfl rfl) (Ex.aEq (us := [.bool x65.null, .string (bsOf x65.data)]) (vs := [.bool true, .string ⟨#[]⟩]) flat_cursitorlaw04BlobWrites_62 rfl Try.eqGuardType62 rfl rfl rfl rfl (eqL_f (eqV_bn (fun h => absurd ((Eq.symm c67).trans (h.trans rfl)) (by decide))))) rfl ?_
                                    exact nomatch h
                                · replace h := ifF c64 h
                                  refine TD.q rfl (.g rfl rfl rfl) (Ex.aEq (us := [.bool x61.null, .string (bsOf x61.data)]) (vs := [.bool false, .string (bsOf a0.data)]) flat_cursitorlaw04BlobWrites_62 rfl Try.eqGuardType62 rfl rfl rfl rfl (eqL_t (eqV_b (c63.trans (Eq.symm rfl))) (eqL_f (eqV_sn (l := x61.data) (m := a0.data) c64)))) rfl ?_
                                  exact nomatch h
                            · replace h := ifF c60 h
                              replace c60 := eq_false_of_ne_true c60
                              refine TD.q rfl (.g rfl rfl (decide_eq_true c57)) (Ex.bEq rfl c60 rfl (decide_eq_true c32) Try.runUnderlying4) rfl ?_
                              exact nomatch h
                          · replace h := ifF c57 h
                            refine TD.run ft_cursitorlaw04BlobWrites_ok [18] rfl rfl ?_
                            refine TD.no rfl (.gn rfl rfl (decide_eq_false c57)) rfl ?_
                            refine TD.no rfl (.gn rfl rfl (decide_eq_false c57)) rfl ?_
                            refine TD.noe rfl (.gn rfl rfl (decide_eq_false c57)) rfl [0, 0, 0, 0, 0, 0, 0] rfl ?_
                            refine TD.no rfl (.gn rfl rfl (decide_eq_false c57)) rfl ?_
                            exact nomatch h
                        · replace h := ifF c54 h
                          refine TD.run ft_cursitorlaw04BlobWrites_ok [12] rfl rfl ?_
                          refine TD.no rfl (.gn rfl rfl (decide_eq_false c54)) rfl ?_
                          refine TD.no rfl (.gn rfl rfl (decide_eq_false c54)) rfl ?_
                          refine TD.noe rfl (.gn rfl rfl (decide_eq_false c54)) rfl [0, 0, 0, 0, 0, 0, 0] rfl ?_
                          refine TD.no rfl (.gn rfl rfl (decide_eq_false c54)) rfl ?_
                          exact nomatch h
                      · replace h := ifF c53 h
                        refine TD.run ft_cursitorlaw04BlobWrites_ok [8] rfl rfl ?_
                        refine TD.no rfl (.gn rfl rfl (decide_eq_false c53)) rfl ?_
                        refine TD.no rfl (.gn rfl rfl (decide_eq_false c53)) rfl ?_
                        exact nomatch h
                    · replace h := ifF c50 h
                      refine TD.run ft_cursitorlaw04BlobWrites_ok [0, 1, 2] rfl rfl ?_
                      refine TD.no rfl (.gn rfl rfl (decide_eq_false c50)) rfl ?_
                      refine TD.no rfl (.gn rfl rfl (decide_eq_false c50)) rfl ?_
                      refine TD.noe rfl (.gn rfl rfl (decide_eq_false c50)) rfl [0, 0, 0, 0, 0, 0, 0] rfl ?_
                      refine TD.no rfl (.gn rfl rfl (decide_eq_false c50)) rfl ?_
                      exact nomatch h
                  · replace h := ifF c40 h
                    refine TL.nil (X.seq ?_)
                    refine T.yes rfl (bn_t (decide_eq_false c40)) ?_
                    exact nomatch h
                · replace h := ifF c37 h
                  refine TL.no rfl (.gn rfl rfl (bn_t (decide_eq_false c37))) rfl ?_
                  refine TL.no rfl (.gn rfl rfl (bn_t (decide_eq_false c37))) rfl ?_
                  refine TL.no rfl (.gn rfl rfl (bn_t (decide_eq_false c37))) rfl ?_
                  refine TL.no rfl (.gn rfl rfl (bn_t (decide_eq_false c37))) rfl ?_
                  exact nomatch h
              · replace h := ifF c36 h
                refine TL.nil (X.seq ?_)
                refine T.yes rfl (bn_t (decide_eq_false c36)) ?_
                exact nomatch h
            · replace h := ifF c33 h
              refine TL.run ft_cursitorlaw04BlobWrites_ok [0, 1, 2] rfl rfl ?_
              refine TL.no rfl (.gn rfl rfl (bn_t (decide_eq_false c33))) rfl ?_
              refine TL.no rfl (.gn rfl rfl (bn_t (decide_eq_false c33))) rfl ?_
              refine TL.no rfl (.gn rfl rfl (bn_t (decide_eq_false c33))) rfl ?_
              refine TL.no rfl (.gn rfl rfl (bn_t (decide_eq_false c33))) rfl ?_
              refine TL.no rfl (.gn rfl rfl (bn_t (decide_eq_false c33))) rfl ?_
              exact nomatch h
          · replace h := ifF c32 h
            refine TL.nil (X.seq ?_)
            refine T.yes rfl (bn_t (decide_eq_false c32)) ?_
            refine T.seq (T.region rfl ?_)
            by_cases c69 : x20 = 4
            · replace h := ifT c69 h
              refine TL.run ft_cursitorlaw04BlobWrites_ok [0, 1, 2] rfl rfl ?_
              refine TL.q rfl (.g rfl rfl (bn_f (decide_eq_true c69))) (Ex.ft ft_cursitorlaw04BlobWrites_ok rfl) rfl ?_
              refine TL.q rfl (.g rfl rfl (bn_f (decide_eq_true c69))) (Ex.sNe rfl (m := []) rfl) rfl ?_
              refine TL.q rfl .u (Ex.pn rfl (bn_f (decide_eq_true c69)) rfl) rfl ?_
              by_cases c70 : x19 = []
              · replace h := ifT c70 h
                refine TL.nil (X.seq ?_)
                refine T.no rfl (bn_f (decide_eq_true c70)) ?_
                refine T.skip (X.blk (X.seq (T.seq (T.seq (T.region rfl ?_)))))
                refine TL.run ft_cursitorlaw04BlobWrites_ok [0, 1, 2] rfl rfl ?_
                refine TL.q rfl (.g rfl rfl (bn_t (decide_eq_false c32))) (Ex.ft ft_cursitorlaw04BlobWrites_ok rfl) rfl ?_
                refine TL.q rfl (.g rfl rfl (bn_t (decide_eq_false c32))) (Ex.ft ft_cursitorlaw04BlobWrites_ok rfl) rfl ?_
                refine TL.q rfl (.g rfl rfl (bn_t (decide_eq_false c32))) (Ex.ft ft_cursitorlaw04BlobWrites_ok rfl) rfl ?_
                by_cases c71 : x24 = 4
                · replace h := ifT c71 h
                  refine TL.q rfl (.g rfl rfl (bn_f (decide_eq_true c71))) (Ex.ft ft_cursitorlaw04BlobWrites_ok rfl) rfl ?_
                  refine TL.q rfl (.g rfl rfl (bn_f (decide_eq_true c71))) (Ex.sNe rfl (m := []) rfl) rfl ?_
                  refine TL.q rfl (.g rfl rfl (bn_t (decide_eq_false c32))) (Ex.pn rfl (bn_f (decide_eq_true c71)) rfl) rfl ?_
                  refine TL.q rfl .u (Ex.py rfl (bn_t (decide_eq_false c32)) rfl) rfl ?_
                  by_cases c72 : x23 = []
                  · replace h := ifT c72 h
                    refine TL.run ft_cursitorlaw04BlobWrites_ok [10] rfl rfl ?_
                    refine TL.q rfl (.g rfl rfl (bn_f (decide_eq_true c72))) (Ex.ft ft_cursitorlaw04BlobWrites_ok rfl) rfl ?_
                    refine TL.q rfl (.g rfl rfl (bn_f (decide_eq_true c72))) (Ex.ft ft_cursitorlaw04BlobWrites_ok rfl) rfl ?_
                    refine TL.no rfl (.gn rfl rfl (decide_eq_false c32)) rfl ?_
                    refine TL.no rfl (.gn rfl rfl (decide_eq_false c32)) rfl ?_
                    refine TL.no rfl (.gn rfl rfl (decide_eq_false c32)) rfl ?_
                    refine TL.no rfl (.gu rfl rfl) rfl ?_
                    refine TL.no rfl (.gu rfl rfl) rfl ?_
                    refine TL.no rfl (.gu rfl rfl) rfl ?_
                    refine TL.no rfl (.gu rfl rfl) rfl ?_
                    refine TL.no rfl (.gn rfl rfl (decide_eq_false c32)) rfl ?_
                    refine TL.q rfl (.g rfl rfl (bn_f (decide_eq_true c72))) (Ex.pn rfl (decide_eq_false c32) rfl) rfl ?_
                    refine TL.q rfl .u (Ex.pn rfl (bn_f (decide_eq_true c72)) rfl) rfl ?_
                    refine TL.nil (X.seq ?_)
                    refine T.no rfl rfl ?_
                    obtain ⟨⟨x73, x74, st75⟩, hx76, h⟩ := Option.bind_eq_some_iff.1 h
                    try dsimp only at h
                    refine T.skip (X.seq (T.seq (T.region rfl ?_)))
                    refine TL.c1 rfl .u (.fn Try.call24 rfl) (gOText_spec b8 st14 _ hx76) (fun _ hs => (Src.triv _)) rfl ?_
                    refine TL.run ft_cursitorlaw04BlobWrites_ok [1, 2, 3, 4, 5] rfl rfl ?_
                    obtain ⟨⟨x77, x78, st79⟩, hx80, h⟩ := Option.bind_eq_some_iff.1 h
                    try dsimp only at h
                    refine TL.nil (X.seq (T.seq (T.region rfl ?_)))
                    refine TL.c0 rfl .u (.fn Try.call24 rfl) (gOText_spec b9 st16 _ hx80) (fun _ hs => (Src.triv _)) rfl ?_
                    refine TL.run ft_cursitorlaw04BlobWrites_ok [1, 2, 3, 4, 5] rfl rfl ?_
                    refine TL.nil (X.seq (T.seq (T.region rfl ?_)))
                    refine TL.run ft_cursitorlaw04BlobWrites_ok [0] rfl rfl ?_
                    refine TL.q rfl .u (Ex.b1 4 rfl Try.isAgg9 rfl rfl) rfl ?_
                    refine TL.q rfl .u (Ex.bld (cells := #[.bool false, .string (bsOf a0.data)]) bok_cursitorlaw04BlobWrites_62 rfl (by rfl)) rfl ?_
                    refine TL.alloc rfl .u Try.zeroValue62 rfl (fun b81 => ?_)
                    refine TL.st0 (cs' := #[.bool false, .string (bsOf a0.data)]) rfl .u rfl rfl Try.sizeOf62 rfl rfl rfl rfl ?_
                    refine TL.nil (X.seq (T.seq (T.draw (.q 0 (.q 1 (.q 2 (.q 3 (.q 4 (.e 5 (.q 6 (.q 7 (.q 8 (.q 9 (.q 10 (.q 11 (.q 12 (.q 13 (.q 14 (.e 15 (.q 16 (.q 17 (.q 18 (.q 19 (.q 21 (.e 20 (.q 22 (.q 23 (.q 24 (.q 25 (.q 26 (.q 28 (.e 27 (.q 29 (.q 30 (.q 31 (.q 33 (.e 32 (.q 34 (.q 35 (.q 36 .nil))))))))))))))))))))))))))))))))))))) [0, 0, 0, 0, 0, 0, 0] rfl mix_cursitorlaw04BlobWrites (NoP.seq np_post) (by kernel_rfl) ?_)))
                    by_cases c82 : x74 = 0
                    · replace h := ifT c82 h
                      refine TD.run ft_cursitorlaw04BlobWrites_ok [0, 1, 2] rfl rfl ?_
                      refine TD.q rfl (.g rfl rfl (decide_eq_true c82)) (Ex.ft ft_cursitorlaw04BlobWrites_ok rfl) rfl ?_
                      refine TD.q rfl (.g rfl rfl (decide_eq_true c82)) (Ex.bS (us := [.bool false, .string (bsOf a0.data)]) 0 rfl Try.isAgg62 Try.sizeOf62 rfl rfl rfl) rfl ?_
                      obtain ⟨x83, hx84, h⟩ := Option.bind_eq_some_iff.1 h
                      refine TD.ce rfl (.g rfl rfl (decide_eq_true c82)) (.fn Try.call61 rfl) (gRBFixed_spec (⟨false, a0.data⟩ : Bl) 2 _ hx84) (fun _ hs => (RX.reads_triv _ _)) rfl [0, 0, 0, 0, 0, 0, 0] (rfl) ?_
                      refine TD.q rfl (.g rfl rfl (decide_eq_true c82)) (Ex.sEq rfl rfl) rfl ?_
                      refine TD.q rfl .u (Ex.py rfl (decide_eq_true c82) rfl) rfl ?_
                      by_cases c85 : x73 = x83
                      · replace h := ifT c85 h
                        refine TD.run ft_cursitorlaw04BlobWrites_ok [8] rfl rfl ?_
                        refine TD.q rfl (.g rfl rfl (decide_eq_true c85)) (Ex.ft ft_cursitorlaw04BlobWrites_ok rfl) rfl ?_
                        refine TD.q rfl (.g rfl rfl (decide_eq_true c85)) (Ex.ft ft_cursitorlaw04BlobWrites_ok rfl) rfl ?_
                        refine TD.q rfl .u (Ex.py rfl (decide_eq_true c85) rfl) rfl ?_
                        by_cases c86 : x78 = 0
                        · replace h := ifT c86 h
                          refine TD.run ft_cursitorlaw04BlobWrites_ok [12] rfl rfl ?_
                          refine TD.q rfl (.g rfl rfl (decide_eq_true c86)) (Ex.ft ft_cursitorlaw04BlobWrites_ok rfl) rfl ?_
                          refine TD.q rfl (.g rfl rfl (decide_eq_true c86)) (Ex.bS (us := [.bool false, .string (bsOf a0.data)]) 0 rfl Try.isAgg62 Try.sizeOf62 rfl rfl rfl) rfl ?_
                          obtain ⟨x87, hx88, h⟩ := Option.bind_eq_some_iff.1 h
                          refine TD.ce rfl (.g rfl rfl (decide_eq_true c86)) (.fn Try.call62 rfl) (gRBVaried_spec (⟨false, a0.data⟩ : Bl) _ hx88) (fun _ hs => (RX.reads_triv _ _)) rfl [0, 0, 0, 0, 0, 0, 0] (rfl) ?_
                          refine TD.q rfl (.g rfl rfl (decide_eq_true c86)) (Ex.sEq rfl rfl) rfl ?_
                          refine TD.q rfl .u (Ex.py rfl (decide_eq_true c86) rfl) rfl ?_
                          by_cases c89 : x77 = x87
                          · replace h := ifT c89 h
                            refine TD.run ft_cursitorlaw04BlobWrites_ok [18] rfl rfl ?_
                            refine TD.q rfl (.g rfl rfl (decide_eq_true c89)) (Ex.bS (us := [.bool a0.null, .string (bsOf a0.data)]) 5 rfl Try.isAgg62 Try.sizeOf62 rfl rfl rfl) rfl ?_
                            refine TD.q rfl (.g rfl rfl (decide_eq_true c89)) (Ex.ft ft_cursitorlaw04BlobWrites_ok rfl) rfl ?_
                            obtain ⟨x90, hx91, h⟩ := Option.bind_eq_some_iff.1 h
                            refine TD.ce rfl (.g rfl rfl (decide_eq_true c89)) (.fn Try.call63 rfl) (gRight_spec a0 _ hx91) (fun _ hs => (RX.reads_triv _ _)) rfl [0, 0, 0, 0, 0, 0, 0] (rfl) ?_
                            by_cases c92 : x90 = true
                            · replace h := ifT c92 h
                              refine TD.q rfl (.g rfl rfl (decide_eq_true c89)) (Ex.bEq rfl c92 rfl (decide_eq_false c32) Try.runUnderlying4) rfl ?_
                              exact nomatch h
                            · replace h := ifF c92 h
                              replace c92 := eq_false_of_ne_true c92
                              refine TD.q rfl (.g rfl rfl (decide_eq_true c89)) (Ex.bEq rfl c92 rfl (decide_eq_false c32) Try.runUnderlying4) rfl ?_
                              refine TD.q rfl .u (Ex.py rfl (decide_eq_true c89) rfl) rfl ?_
                              refine TD.run ft_cursitorlaw04BlobWrites_ok [24] rfl rfl ?_
                              refine TD.q rfl (.g rfl rfl rfl) (Ex.ft ft_cursitorlaw04BlobWrites_ok rfl) rfl ?_
                              refine TD.q rfl (.g rfl rfl rfl) (Ex.b1 5 rfl Try.isAgg9 rfl rfl) rfl ?_
                              refine TD.q rfl (.g rfl rfl rfl) (Ex.bS (us := [.bool false, .string (bsOf a0.data)]) 0 rfl Try.isAgg62 Try.sizeOf62 rfl rfl rfl) rfl ?_
                              obtain ⟨x93, hx94, h⟩ := Option.bind_eq_some_iff.1 h
                              refine TD.ce rfl (.g rfl rfl rfl) (.fn Try.call64 rfl) (gOf_spec a0.data _ hx94) (fun _ hs => (RX.reads_triv _ _)) rfl [0, 0, 0, 0, 0, 0, 0] (rfl) ?_
                              by_cases c95 : x93.null = true
                              · replace h := ifT c95 h
                                refine TD.q rfl (.g rfl rfl rfl) (Ex.aEq (us := [.bool x93.null, .string (bsOf x93.data)]) (vs := [.bool false, .string (bsOf a0.data)]) flat_cursitorlaw04BlobWrites_62 rfl Try.eqGuardType62 rfl rfl rfl rfl (eqL_f (eqV_bn (fun h => absurd ((Eq.symm c95).trans (h.trans rfl)) (by decide))))) rfl ?_
                                exact nomatch h
                              · replace h := ifF c95 h
                                replace c95 := eq_false_of_ne_true c95
                                by_cases c96 : x93.data = a0.data
                                · replace h := ifT c96 h
                                  refine TD.q rfl (.g rfl rfl rfl) (Ex.aEq (us := [.bool x93.null, .string (bsOf x93.data)]) (vs := [.bool false, .string (bsOf a0.data)]) flat_cursitorlaw04BlobWrites_62 rfl Try.eqGuardType62 rfl rfl rfl rfl (eqL_t (eqV_b (c95.trans (Eq.symm rfl))) (eqL_t (eqV_s (l := x93.data) (m := a0.data) c96) rfl))) rfl ?_
                                  refine TD.q rfl .u (Ex.py rfl rfl rfl) rfl ?_
                                  refine TD.run ft_cursitorlaw04BlobWrites_ok [31] rfl rfl ?_
                                  refine TD.q rfl (.g rfl rfl rfl) (Ex.bld (cells := #[.bool true, .string ⟨#[]⟩]) bok_cursitorlaw04BlobWrites_62 rfl (by rfl)) rfl ?_
                                  obtain ⟨x97, hx98, h⟩ := Option.bind_eq_some_iff.1 h
                                  refine TD.ce rfl (.g rfl rfl rfl) (.fn Try.call65 rfl) (gNone_spec _ hx98) (fun _ hs => (RX.reads_triv _ _)) rfl [0, 0, 0, 0, 0, 0, 0] (rfl) ?_
                                  by_cases c99 : x97.null = true
                                  · replace h := ifT c99 h
                                    by_cases c100 : x97.data = []
                                    · replace h := ifT c100 h
                                      refine TD.q rfl (.g rfl rfl rfl) (Ex.aEq (us := [.bool x97.null, .string (bsOf x97.data)]) (vs := [.bool true, .string ⟨#[]⟩]) flat_cursitorlaw04BlobWrites_62 rfl Try.eqGuardType62 rfl rfl rfl rfl (eqL_t (eqV_b (c99.trans (Eq.symm rfl))) (eqL_t (eqV_s (l := x97.data) (m := []) c100) rfl))) rfl ?_
                                      refine TD.q rfl .u (Ex.py rfl rfl rfl) rfl ?_
                                      refine TD.run ft_cursitorlaw04BlobWrites_ok [36] rfl rfl ?_
                                      obtain rfl := Option.some.inj h
                                      exact TD.nil (X.seq (T.ret (X.done1 [6] Try.results11 (RV.tm rfl) ⟨rfl, rfl, rfl⟩ (by rfl) (.inl rfl))))
                                    · replace h := ifF c100 h
                                      refine TD.q rfl (.g rfl rfl rfl) (Ex.aEq (us := [.bool x97.null, .string (bsOf x97.data)]) (vs := [.bool true, .string ⟨#[]⟩]) flat_cursitorlaw04BlobWrites_62 rfl Try.eqGuardType62 rfl rfl rfl rfl (eqL_t (eqV_b (c99.trans (Eq.symm rfl))) (eqL_f (eqV_sn (l := x97.data) (m := []) c100)))) rfl ?_
                                      exact nomatch h
                                  · replace h := ifF c99 h
                                    replace c99 := eq_false_of_ne_true c99
                                    refine TD.q rfl (.g rfl rfl rfl) (Ex.aEq (us := [.bool x97.null, .string (bsOf x97.data)]) (vs := [.bool true, .string ⟨#[]⟩]) flat_cursitorlaw04BlobWrites_62 rfl Try.eqGuardType62 rfl rfl rfl rfl (eqL_f (eqV_bn (fun h => absurd ((Eq.symm c99).trans (h.trans rfl)) (by decide))))) rfl ?_
                                    exact nomatch h
                                · replace h := ifF c96 h
                                  refine TD.q rfl (.g rfl rfl rfl) (Ex.aEq (us := [.bool x93.null, .string (bsOf x93.data)]) (vs := [.bool false, .string (bsOf a0.data)]) flat_cursitorlaw04BlobWrites_62 rfl Try.eqGuardType62 rfl rfl rfl rfl (eqL_t (eqV_b (c95.trans (Eq.symm rfl))) (eqL_f (eqV_sn (l := x93.data) (m := a0.data) c96)))) rfl ?_
                                  exact nomatch h
                          · replace h := ifF c89 h
                            refine TD.run ft_cursitorlaw04BlobWrites_ok [18] rfl rfl ?_
                            refine TD.no rfl (.gn rfl rfl (decide_eq_false c89)) rfl ?_
                            refine TD.no rfl (.gn rfl rfl (decide_eq_false c89)) rfl ?_
                            refine TD.noe rfl (.gn rfl rfl (decide_eq_false c89)) rfl [0, 0, 0, 0, 0, 0, 0] rfl ?_
                            refine TD.no rfl (.gn rfl rfl (decide_eq_false c89)) rfl ?_
                            exact nomatch h
                        · replace h := ifF c86 h
                          refine TD.run ft_cursitorlaw04BlobWrites_ok [12] rfl rfl ?_
                          refine TD.no rfl (.gn rfl rfl (decide_eq_false c86)) rfl ?_
                          refine TD.no rfl (.gn rfl rfl (decide_eq_false c86)) rfl ?_
                          refine TD.noe rfl (.gn rfl rfl (decide_eq_false c86)) rfl [0, 0, 0, 0, 0, 0, 0] rfl ?_
                          refine TD.no rfl (.gn rfl rfl (decide_eq_false c86)) rfl ?_
                          exact nomatch h
                      · replace h := ifF c85 h
                        refine TD.run ft_cursitorlaw04BlobWrites_ok [8] rfl rfl ?_
                        refine TD.no rfl (.gn rfl rfl (decide_eq_false c85)) rfl ?_
                        refine TD.no rfl (.gn rfl rfl (decide_eq_false c85)) rfl ?_
                        exact nomatch h
                    · replace h := ifF c82 h
                      refine TD.run ft_cursitorlaw04BlobWrites_ok [0, 1, 2] rfl rfl ?_
                      refine TD.no rfl (.gn rfl rfl (decide_eq_false c82)) rfl ?_
                      refine TD.no rfl (.gn rfl rfl (decide_eq_false c82)) rfl ?_
                      refine TD.noe rfl (.gn rfl rfl (decide_eq_false c82)) rfl [0, 0, 0, 0, 0, 0, 0] rfl ?_
                      refine TD.no rfl (.gn rfl rfl (decide_eq_false c82)) rfl ?_
                      exact nomatch h
                  · replace h := ifF c72 h
                    refine TL.run ft_cursitorlaw04BlobWrites_ok [10] rfl rfl ?_
                    refine TL.no rfl (.gn rfl rfl (bn_t (decide_eq_false c72))) rfl ?_
                    refine TL.no rfl (.gn rfl rfl (bn_t (decide_eq_false c72))) rfl ?_
                    refine TL.no rfl (.gu rfl rfl) rfl ?_
                    refine TL.no rfl (.gu rfl rfl) rfl ?_
                    refine TL.no rfl (.gu rfl rfl) rfl ?_
                    refine TL.no rfl (.gu rfl rfl) rfl ?_
                    refine TL.no rfl (.gu rfl rfl) rfl ?_
                    refine TL.no rfl (.gu rfl rfl) rfl ?_
                    refine TL.no rfl (.gu rfl rfl) rfl ?_
                    refine TL.no rfl (.gu rfl rfl) rfl ?_
                    refine TL.no rfl (.gn rfl rfl (bn_t (decide_eq_false c72))) rfl ?_
                    exact nomatch h
                · replace h := ifF c71 h
                  refine TL.no rfl (.gn rfl rfl (bn_t (decide_eq_false c71))) rfl ?_
                  refine TL.no rfl (.gn rfl rfl (bn_t (decide_eq_false c71))) rfl ?_
                  exact nomatch h
              · replace h := ifF c70 h
                refine TL.nil (X.seq ?_)
                refine T.yes rfl (bn_t (decide_eq_false c70)) ?_
                exact nomatch h
            · replace h := ifF c69 h
              refine TL.run ft_cursitorlaw04BlobWrites_ok [0, 1, 2] rfl rfl ?_
              refine TL.no rfl (.gn rfl rfl (bn_t (decide_eq_false c69))) rfl ?_
              refine TL.no rfl (.gn rfl rfl (bn_t (decide_eq_false c69))) rfl ?_
              exact nomatch h
        · replace h := ifF c31 h
          replace c31 := eq_false_of_ne_true c31
          refine TL.nil (X.seq ?_)
          refine T.yes rfl (bn_t c31) ?_
          refine T.seq (T.region rfl ?_)
          by_cases c101 : x20 = 11
          · replace h := ifT c101 h
            refine TL.run ft_cursitorlaw04BlobWrites_ok [0, 1, 2] rfl rfl ?_
            refine TL.q rfl (.g rfl rfl (bn_f (decide_eq_true c101))) (Ex.ft ft_cursitorlaw04BlobWrites_ok rfl) rfl ?_
            refine TL.q rfl (.g rfl rfl (bn_f (decide_eq_true c101))) (Ex.sNe rfl (m := []) rfl) rfl ?_
            refine TL.q rfl .u (Ex.pn rfl (bn_f (decide_eq_true c101)) rfl) rfl ?_
            by_cases c102 : x19 = []
            · replace h := ifT c102 h
              refine TL.nil (X.seq ?_)
              refine T.no rfl (bn_f (decide_eq_true c102)) ?_
              refine T.skip (X.blk (X.seq (T.seq (T.seq (T.region rfl ?_)))))
              by_cases c103 : a0.data = []
              · replace h := ifT c103 h
                refine TL.run ft_cursitorlaw04BlobWrites_ok [0, 1, 2] rfl rfl ?_
                refine TL.no rfl (.gn rfl rfl (bn_f (decide_eq_true c103))) rfl ?_
                refine TL.no rfl (.gn rfl rfl (bn_f (decide_eq_true c103))) rfl ?_
                refine TL.no rfl (.gn rfl rfl (bn_f (decide_eq_true c103))) rfl ?_
                refine TL.no rfl (.gu rfl rfl) rfl ?_
                refine TL.no rfl (.gu rfl rfl) rfl ?_
                refine TL.no rfl (.gn rfl rfl (bn_f (decide_eq_true c103))) rfl ?_
                refine TL.q rfl .u (Ex.pn rfl (bn_f (decide_eq_true c103)) rfl) rfl ?_
                refine TL.run ft_cursitorlaw04BlobWrites_ok [10] rfl rfl ?_
                refine TL.q rfl (.g rfl rfl rfl) (Ex.ft ft_cursitorlaw04BlobWrites_ok rfl) rfl ?_
                refine TL.q rfl (.g rfl rfl rfl) (Ex.ft ft_cursitorlaw04BlobWrites_ok rfl) rfl ?_
                refine TL.q rfl (.g rfl rfl (decide_eq_true c103)) (Ex.ft ft_cursitorlaw04BlobWrites_ok rfl) rfl ?_
                refine TL.q rfl (.g rfl rfl (decide_eq_true c103)) (Ex.ft ft_cursitorlaw04BlobWrites_ok rfl) rfl ?_
                refine TL.q rfl (.g rfl rfl (decide_eq_true c103)) (Ex.ft ft_cursitorlaw04BlobWrites_ok rfl) rfl ?_
                by_cases c104 : x24 = 0
                · replace h := ifT c104 h
                  refine TL.q rfl (.g rfl rfl (bn_f (decide_eq_true c104))) (Ex.ft ft_cursitorlaw04BlobWrites_ok rfl) rfl ?_
                  refine TL.q rfl (.g rfl rfl (bn_f (decide_eq_true c104))) (Ex.bS (us := [.bool a0.null, .string (bsOf a0.data)]) 4 rfl Try.isAgg62 Try.sizeOf62 rfl rfl rfl) rfl ?_
                  obtain ⟨x105, hx106, h⟩ := Option.bind_eq_some_iff.1 h
                  refine TL.ce rfl (.g rfl rfl (bn_f (decide_eq_true c104))) (.fn Try.call62 rfl) (gRBVaried_spec a0 _ hx106) (fun _ hs => (RX.reads_triv _ _)) rfl ?_
                  refine TL.q rfl (.g rfl rfl (bn_f (decide_eq_true c104))) (Ex.sNe rfl rfl) rfl ?_
                  refine TL.q rfl (.g rfl rfl (decide_eq_true c103)) (Ex.pn rfl (bn_f (decide_eq_true c104)) rfl) rfl ?_
                  refine TL.q rfl (.g rfl rfl rfl) (Ex.py rfl (decide_eq_true c103) rfl) rfl ?_
                  refine TL.q rfl .u (Ex.pn rfl rfl rfl) rfl ?_
                  by_cases c107 : x23 = x105
                  · replace h := ifT c107 h
                    refine TL.nil (X.seq ?_)
                    refine T.no rfl (bn_f (decide_eq_true c107)) ?_
                    obtain ⟨⟨x108, x109, st110⟩, hx111, h⟩ := Option.bind_eq_some_iff.1 h
                    try dsimp only at h
                    refine T.skip (X.seq (T.seq (T.region rfl ?_)))
                    refine TL.c1 rfl .u (.fn Try.call24 rfl) (gOText_spec b8 st14 _ hx111) (fun _ hs => (Src.triv _)) rfl ?_
                    refine TL.run ft_cursitorlaw04BlobWrites_ok [1, 2, 3, 4, 5] rfl rfl ?_
                    obtain ⟨⟨x112, x113, st114⟩, hx115, h⟩ := Option.bind_eq_some_iff.1 h
                    try dsimp only at h
                    refine TL.nil (X.seq (T.seq (T.region rfl ?_)))
                    refine TL.c0 rfl .u (.fn Try.call24 rfl) (gOText_spec b9 st16 _ hx115) (fun _ hs => (Src.triv _)) rfl ?_
                    refine TL.run ft_cursitorlaw04BlobWrites_ok [1, 2, 3, 4, 5] rfl rfl ?_
                    refine TL.nil (X.seq (T.seq (T.region rfl ?_)))
                    refine TL.run ft_cursitorlaw04BlobWrites_ok [0] rfl rfl ?_
                    refine TL.q rfl .u (Ex.b1 4 rfl Try.isAgg9 rfl rfl) rfl ?_
                    refine TL.q rfl .u (Ex.bld (cells := #[.bool false, .string (bsOf a0.data)]) bok_cursitorlaw04BlobWrites_62 rfl (by rfl)) rfl ?_
                    refine TL.alloc rfl .u Try.zeroValue62 rfl (fun b116 => ?_)
                    refine TL.st0 (cs' := #[.bool false, .string (bsOf a0.data)]) rfl .u rfl rfl Try.sizeOf62 rfl rfl rfl rfl ?_
                    refine TL.nil (X.seq (T.seq (T.draw (.q 0 (.q 1 (.q 2 (.q 3 (.q 4 (.e 5 (.q 6 (.q 7 (.q 8 (.q 9 (.q 10 (.q 11 (.q 12 (.q 13 (.q 14 (.e 15 (.q 16 (.q 17 (.q 18 (.q 19 (.q 21 (.e 20 (.q 22 (.q 23 (.q 24 (.q 25 (.q 26 (.q 28 (.e 27 (.q 29 (.q 30 (.q 31 (.q 33 (.e 32 (.q 34 (.q 35 (.q 36 .nil))))))))))))))))))))))))))))))))))))) [0, 0, 0, 0, 0, 0, 0] rfl mix_cursitorlaw04BlobWrites (NoP.seq np_post) (by kernel_rfl) ?_)))
                    by_cases c117 : x109 = 0
                    · replace h := ifT c117 h
                      refine TD.run ft_cursitorlaw04BlobWrites_ok [0, 1, 2] rfl rfl ?_
                      refine TD.q rfl (.g rfl rfl (decide_eq_true c117)) (Ex.ft ft_cursitorlaw04BlobWrites_ok rfl) rfl ?_
                      refine TD.q rfl (.g rfl rfl (decide_eq_true c117)) (Ex.bS (us := [.bool false, .string (bsOf a0.data)]) 0 rfl Try.isAgg62 Try.sizeOf62 rfl rfl rfl) rfl ?_
                      obtain ⟨x118, hx119, h⟩ := Option.bind_eq_some_iff.1 h
                      refine TD.ce rfl (.g rfl rfl (decide_eq_true c117)) (.fn Try.call61 rfl) (gRBFixed_spec (⟨false, a0.data⟩ : Bl) 2 _ hx119) (fun _ hs => (RX.reads_triv _ _)) rfl [0, 0, 0, 0, 0, 0, 0] (rfl) ?_
                      refine TD.q rfl (.g rfl rfl (decide_eq_true c117)) (Ex.sEq rfl rfl) rfl ?_
                      refine TD.q rfl .u (Ex.py rfl (decide_eq_true c117) rfl) rfl ?_
                      by_cases c120 : x108 = x118
                      · replace h := ifT c120 h
                        refine TD.run ft_cursitorlaw04BlobWrites_ok [8] rfl rfl ?_
                        refine TD.q rfl (.g rfl rfl (decide_eq_true c120)) (Ex.ft ft_cursitorlaw04BlobWrites_ok rfl) rfl ?_
                        refine TD.q rfl (.g rfl rfl (decide_eq_true c120)) (Ex.ft ft_cursitorlaw04BlobWrites_ok rfl) rfl ?_
                        refine TD.q rfl .u (Ex.py rfl (decide_eq_true c120) rfl) rfl ?_
                        by_cases c121 : x113 = 0
                        · replace h := ifT c121 h
                          refine TD.run ft_cursitorlaw04BlobWrites_ok [12] rfl rfl ?_
                          refine TD.q rfl (.g rfl rfl (decide_eq_true c121)) (Ex.ft ft_cursitorlaw04BlobWrites_ok rfl) rfl ?_
                          refine TD.q rfl (.g rfl rfl (decide_eq_true c121)) (Ex.bS (us := [.bool false, .string (bsOf a0.data)]) 0 rfl Try.isAgg62 Try.sizeOf62 rfl rfl rfl) rfl ?_
                          obtain ⟨x122, hx123, h⟩ := Option.bind_eq_some_iff.1 h
                          refine TD.ce rfl (.g rfl rfl (decide_eq_true c121)) (.fn Try.call62 rfl) (gRBVaried_spec (⟨false, a0.data⟩ : Bl) _ hx123) (fun _ hs => (RX.reads_triv _ _)) rfl [0, 0, 0, 0, 0, 0, 0] (rfl) ?_
                          refine TD.q rfl (.g rfl rfl (decide_eq_true c121)) (Ex.sEq rfl rfl) rfl ?_
                          refine TD.q rfl .u (Ex.py rfl (decide_eq_true c121) rfl) rfl ?_
                          by_cases c124 : x112 = x122
                          · replace h := ifT c124 h
                            refine TD.run ft_cursitorlaw04BlobWrites_ok [18] rfl rfl ?_
                            refine TD.q rfl (.g rfl rfl (decide_eq_true c124)) (Ex.bS (us := [.bool a0.null, .string (bsOf a0.data)]) 5 rfl Try.isAgg62 Try.sizeOf62 rfl rfl rfl) rfl ?_
                            refine TD.q rfl (.g rfl rfl (decide_eq_true c124)) (Ex.ft ft_cursitorlaw04BlobWrites_ok rfl) rfl ?_
                            obtain ⟨x125, hx126, h⟩ := Option.bind_eq_some_iff.1 h
                            refine TD.ce rfl (.g rfl rfl (decide_eq_true c124)) (.fn Try.call63 rfl) (gRight_spec a0 _ hx126) (fun _ hs => (RX.reads_triv _ _)) rfl [0, 0, 0, 0, 0, 0, 0] (rfl) ?_
                            by_cases c127 : x125 = true
                            · replace h := ifT c127 h
                              refine TD.q rfl (.g rfl rfl (decide_eq_true c124)) (Ex.bEq rfl c127 rfl (decide_eq_true c103) Try.runUnderlying4) rfl ?_
                              refine TD.q rfl .u (Ex.py rfl (decide_eq_true c124) rfl) rfl ?_
                              refine TD.run ft_cursitorlaw04BlobWrites_ok [24] rfl rfl ?_
                              refine TD.q rfl (.g rfl rfl rfl) (Ex.ft ft_cursitorlaw04BlobWrites_ok rfl) rfl ?_
                              refine TD.q rfl (.g rfl rfl rfl) (Ex.b1 5 rfl Try.isAgg9 rfl rfl) rfl ?_
                              refine TD.q rfl (.g rfl rfl rfl) (Ex.bS (us := [.bool false, .string (bsOf a0.data)]) 0 rfl Try.isAgg62 Try.sizeOf62 rfl rfl rfl) rfl ?_
                              obtain ⟨x128, hx129, h⟩ := Option.bind_eq_some_iff.1 h
                              refine TD.ce rfl (.g rfl rfl rfl) (.fn Try.call64 rfl) (gOf_spec a0.data _ hx129) (fun _ hs => (RX.reads_triv _ _)) rfl [0, 0, 0, 0, 0, 0, 0] (rfl) ?_
                              by_cases c130 : x128.null = true
                              · replace h := ifT c130 h
                                refine TD.q rfl (.g rfl rfl rfl) (Ex.aEq (us := [.bool x128.null, .string (bsOf x128.data)]) (vs := [.bool false, .string (bsOf a0.data)]) flat_cursitorlaw04BlobWrites_62 rfl Try.eqGuardType62 rfl rfl rfl rfl (eqL_f (eqV_bn (fun h => absurd ((Eq.symm c130).trans (h.trans rfl)) (by decide))))) rfl ?_
                                exact nomatch h
                              · replace h := ifF c130 h
                                replace c130 := eq_false_of_ne_true c130
                                by_cases c131 : x128.data = a0.data
                                · replace h := ifT c131 h
                                  refine TD.q rfl (.g rfl rfl rfl) (Ex.aEq (us := [.bool x128.null, .string (bsOf x128.data)]) (vs := [.bool false, .string (bsOf a0.data)]) flat_cursitorlaw04BlobWrites_62 rfl Try.eqGuardType62 rfl rfl rfl rfl (eqL_t (eqV_b (c130.trans (Eq.symm rfl))) (eqL_t (eqV_s (l := x128.data) (m := a0.data) c131) rfl))) rfl ?_
                                  refine TD.q rfl .u (Ex.py rfl rfl rfl) rfl ?_
                                  refine TD.run ft_cursitorlaw04BlobWrites_ok [31] rfl rfl ?_
                                  refine TD.q rfl (.g rfl rfl rfl) (Ex.bld (cells := #[.bool true, .string ⟨#[]⟩]) bok_cursitorlaw04BlobWrites_62 rfl (by rfl)) rfl ?_
                                  obtain ⟨x132, hx133, h⟩ := Option.bind_eq_some_iff.1 h
                                  refine TD.ce rfl (.g rfl rfl rfl) (.fn Try.call65 rfl) (gNone_spec _ hx133) (fun _ hs => (RX.reads_triv _ _)) rfl [0, 0, 0, 0, 0, 0, 0] (rfl) ?_
                                  by_cases c134 : x132.null = true
                                  · replace h := ifT c134 h
                                    by_cases c135 : x132.data = []
                                    · replace h := ifT c135 h
                                      refine TD.q rfl (.g rfl rfl rfl) (Ex.aEq (us := [.bool x132.null, .string (bsOf x132.data)]) (vs := [.bool true, .string ⟨#[]⟩]) flat_cursitorlaw04BlobWrites_62 rfl Try.eqGuardType62 rfl rfl rfl rfl (eqL_t (eqV_b (c134.trans (Eq.symm rfl))) (eqL_t (eqV_s (l := x132.data) (m := []) c135) rfl))) rfl ?_
                                      refine TD.q rfl .u (Ex.py rfl rfl rfl) rfl ?_
                                      refine TD.run ft_cursitorlaw04BlobWrites_ok [36] rfl rfl ?_
                                      obtain rfl := Option.some.inj h
                                      exact TD.nil (X.seq (T.ret (X.done1 [6] Try.results11 (RV.tm rfl) ⟨rfl, rfl, rfl⟩ (by rfl) (.inl rfl))))
                                    · replace h := ifF c135 h
                                      refine TD.q rfl (.g rfl rfl rfl) (Ex.aEq (us := [.bool x132.null, .string (bsOf x132.data)]) (vs := [.bool true, .string ⟨#[]⟩]) flat_cursitorlaw04BlobWrites_62 rfl Try.eqGuardType62 rfl rfl rfl rfl (eqL_t (eqV_b (c134.trans (Eq.symm rfl))) (eqL_f (eqV_sn (l := x132.data) (m := []) c135)))) rfl ?_
                                      exact nomatch h
                                  · replace h := ifF c134 h
                                    replace c134 := eq_false_of_ne_true c134
                                    refine TD.q rfl (.g rfl rfl rfl) (Ex.aEq (us := [.bool x132.null, .string (bsOf x132.data)]) (vs := [.bool true, .string ⟨#[]⟩]) flat_cursitorlaw04BlobWrites_62 rfl Try.eqGuardType62 rfl rfl rfl rfl (eqL_f (eqV_bn (fun h => absurd ((Eq.symm c134).trans (h.trans rfl)) (by decide))))) rfl ?_
                                    exact nomatch h
                                · replace h := ifF c131 h
                                  refine TD.q rfl (.g rfl rfl rfl) (Ex.aEq (us := [.bool x128.null, .string (bsOf x128.data)]) (vs := [.bool false, .string (bsOf a0.data)]) flat_cursitorlaw04BlobWrites_62 rfl Try.eqGuardType62 rfl rfl rfl rfl (eqL_t (eqV_b (c130.trans (Eq.symm rfl))) (eqL_f (eqV_sn (l := x128.data) (m := a0.data) c131)))) rfl ?_
                                  exact nomatch h
                            · replace h := ifF c127 h
                              replace c127 := eq_false_of_ne_true c127
                              refine TD.q rfl (.g rfl rfl (decide_eq_true c124)) (Ex.bEq rfl c127 rfl (decide_eq_true c103) Try.runUnderlying4) rfl ?_
                              exact nomatch h
                          · replace h := ifF c124 h
                            refine TD.run ft_cursitorlaw04BlobWrites_ok [18] rfl rfl ?_
                            refine TD.no rfl (.gn rfl rfl (decide_eq_false c124)) rfl ?_
                            refine TD.no rfl (.gn rfl rfl (decide_eq_false c124)) rfl ?_
                            refine TD.noe rfl (.gn rfl rfl (decide_eq_false c124)) rfl [0, 0, 0, 0, 0, 0, 0] rfl ?_
                            refine TD.no rfl (.gn rfl rfl (decide_eq_false c124)) rfl ?_
                            exact nomatch h
                        · replace h := ifF c121 h
                          refine TD.run ft_cursitorlaw04BlobWrites_ok [12] rfl rfl ?_
                          refine TD.no rfl (.gn rfl rfl (decide_eq_false c121)) rfl ?_
                          refine TD.no rfl (.gn rfl rfl (decide_eq_false c121)) rfl ?_
                          refine TD.noe rfl (.gn rfl rfl (decide_eq_false c121)) rfl [0, 0, 0, 0, 0, 0, 0] rfl ?_
                          refine TD.no rfl (.gn rfl rfl (decide_eq_false c121)) rfl ?_
                          exact nomatch h
                      · replace h := ifF c120 h
                        refine TD.run ft_cursitorlaw04BlobWrites_ok [8] rfl rfl ?_
                        refine TD.no rfl (.gn rfl rfl (decide_eq_false c120)) rfl ?_
                        refine TD.no rfl (.gn rfl rfl (decide_eq_false c120)) rfl ?_
                        exact nomatch h
                    · replace h := ifF c117 h
                      refine TD.run ft_cursitorlaw04BlobWrites_ok [0, 1, 2] rfl rfl ?_
                      refine TD.no rfl (.gn rfl rfl (decide_eq_false c117)) rfl ?_
                      refine TD.no rfl (.gn rfl rfl (decide_eq_false c117)) rfl ?_
                      refine TD.noe rfl (.gn rfl rfl (decide_eq_false c117)) rfl [0, 0, 0, 0, 0, 0, 0] rfl ?_
                      refine TD.no rfl (.gn rfl rfl (decide_eq_false c117)) rfl ?_
                      exact nomatch h
                  · replace h := ifF c107 h
                    refine TL.nil (X.seq ?_)
                    refine T.yes rfl (bn_t (decide_eq_false c107)) ?_
                    exact nomatch h
                · replace h := ifF c104 h
                  refine TL.no rfl (.gn rfl rfl (bn_t (decide_eq_false c104))) rfl ?_
                  refine TL.no rfl (.gn rfl rfl (bn_t (decide_eq_false c104))) rfl ?_
                  refine TL.no rfl (.gn rfl rfl (bn_t (decide_eq_false c104))) rfl ?_
                  refine TL.no rfl (.gn rfl rfl (bn_t (decide_eq_false c104))) rfl ?_
                  exact nomatch h
              · replace h := ifF c103 h
                refine TL.run ft_cursitorlaw04BlobWrites_ok [0, 1, 2] rfl rfl ?_
                refine TL.q rfl (.g rfl rfl (bn_t (decide_eq_false c103))) (Ex.ft ft_cursitorlaw04BlobWrites_ok rfl) rfl ?_
                refine TL.q rfl (.g rfl rfl (bn_t (decide_eq_false c103))) (Ex.ft ft_cursitorlaw04BlobWrites_ok rfl) rfl ?_
                refine TL.q rfl (.g rfl rfl (bn_t (decide_eq_false c103))) (Ex.ft ft_cursitorlaw04BlobWrites_ok rfl) rfl ?_
                by_cases c136 : x24 = 4
                · replace h := ifT c136 h
                  refine TL.q rfl (.g rfl rfl (bn_f (decide_eq_true c136))) (Ex.ft ft_cursitorlaw04BlobWrites_ok rfl) rfl ?_
                  refine TL.q rfl (.g rfl rfl (bn_f (decide_eq_true c136))) (Ex.sNe rfl (m := []) rfl) rfl ?_
                  refine TL.q rfl (.g rfl rfl (bn_t (decide_eq_false c103))) (Ex.pn rfl (bn_f (decide_eq_true c136)) rfl) rfl ?_
                  refine TL.q rfl .u (Ex.py rfl (bn_t (decide_eq_false c103)) rfl) rfl ?_
                  by_cases c137 : x23 = []
                  · replace h := ifT c137 h
                    refine TL.run ft_cursitorlaw04BlobWrites_ok [10] rfl rfl ?_
                    refine TL.q rfl (.g rfl rfl (bn_f (decide_eq_true c137))) (Ex.ft ft_cursitorlaw04BlobWrites_ok rfl) rfl ?_
                    refine TL.q rfl (.g rfl rfl (bn_f (decide_eq_true c137))) (Ex.ft ft_cursitorlaw04BlobWrites_ok rfl) rfl ?_
                    refine TL.no rfl (.gn rfl rfl (decide_eq_false c103)) rfl ?_
                    refine TL.no rfl (.gn rfl rfl (decide_eq_false c103)) rfl ?_
                    refine TL.no rfl (.gn rfl rfl (decide_eq_false c103)) rfl ?_
                    refine TL.no rfl (.gu rfl rfl) rfl ?_
                    refine TL.no rfl (.gu rfl rfl) rfl ?_
                    refine TL.no rfl (.gu rfl rfl) rfl ?_
                    refine TL.no rfl (.gu rfl rfl) rfl ?_
                    refine TL.no rfl (.gn rfl rfl (decide_eq_false c103)) rfl ?_
                    refine TL.q rfl (.g rfl rfl (bn_f (decide_eq_true c137))) (Ex.pn rfl (decide_eq_false c103) rfl) rfl ?_
                    refine TL.q rfl .u (Ex.pn rfl (bn_f (decide_eq_true c137)) rfl) rfl ?_
                    refine TL.nil (X.seq ?_)
                    refine T.no rfl rfl ?_
                    obtain ⟨⟨x138, x139, st140⟩, hx141, h⟩ := Option.bind_eq_some_iff.1 h
                    try dsimp only at h
                    refine T.skip (X.seq (T.seq (T.region rfl ?_)))
                    refine TL.c1 rfl .u (.fn Try.call24 rfl) (gOText_spec b8 st14 _ hx141) (fun _ hs => (Src.triv _)) rfl ?_
                    refine TL.run ft_cursitorlaw04BlobWrites_ok [1, 2, 3, 4, 5] rfl rfl ?_
                    obtain ⟨⟨x142, x143, st144⟩, hx145, h⟩ := Option.bind_eq_some_iff.1 h
                    try dsimp only at h
                    refine TL.nil (X.seq (T.seq (T.region rfl ?_)))
                    refine TL.c0 rfl .u (.fn Try.call24 rfl) (gOText_spec b9 st16 _ hx145) (fun _ hs => (Src.triv _)) rfl ?_
                    refine TL.run ft_cursitorlaw04BlobWrites_ok [1, 2, 3, 4, 5] rfl rfl ?_
                    refine TL.nil (X.seq (T.seq (T.region rfl ?_)))
                    refine TL.run ft_cursitorlaw04BlobWrites_ok [0] rfl rfl ?_
                    refine TL.q rfl .u (Ex.b1 4 rfl Try.isAgg9 rfl rfl) rfl ?_
                    refine TL.q rfl .u (Ex.bld (cells := #[.bool false, .string (bsOf a0.data)]) bok_cursitorlaw04BlobWrites_62 rfl (by rfl)) rfl ?_
                    refine TL.alloc rfl .u Try.zeroValue62 rfl (fun b146 => ?_)
                    refine TL.st0 (cs' := #[.bool false, .string (bsOf a0.data)]) rfl .u rfl rfl Try.sizeOf62 rfl rfl rfl rfl ?_
                    refine TL.nil (X.seq (T.seq (T.draw (.q 0 (.q 1 (.q 2 (.q 3 (.q 4 (.e 5 (.q 6 (.q 7 (.q 8 (.q 9 (.q 10 (.q 11 (.q 12 (.q 13 (.q 14 (.e 15 (.q 16 (.q 17 (.q 18 (.q 19 (.q 21 (.e 20 (.q 22 (.q 23 (.q 24 (.q 25 (.q 26 (.q 28 (.e 27 (.q 29 (.q 30 (.q 31 (.q 33 (.e 32 (.q 34 (.q 35 (.q 36 .nil))))))))))))))))))))))))))))))))))))) [0, 0, 0, 0, 0, 0, 0] rfl mix_cursitorlaw04BlobWrites (NoP.seq np_post) (by kernel_rfl) ?_)))
                    by_cases c147 : x139 = 0
                    · replace h := ifT c147 h
                      refine TD.run ft_cursitorlaw04BlobWrites_ok [0, 1, 2] rfl rfl ?_
                      refine TD.q rfl (.g rfl rfl (decide_eq_true c147)) (Ex.ft ft_cursitorlaw04BlobWrites_ok rfl) rfl ?_
                      refine TD.q rfl (.g rfl rfl (decide_eq_true c147)) (Ex.bS (us := [.bool false, .string (bsOf a0.data)]) 0 rfl Try.isAgg62 Try.sizeOf62 rfl rfl rfl) rfl ?_
                      obtain ⟨x148, hx149, h⟩ := Option.bind_eq_some_iff.1 h
                      refine TD.ce rfl (.g rfl rfl (decide_eq_true c147)) (.fn Try.call61 rfl) (gRBFixed_spec (⟨false, a0.data⟩ : Bl) 2 _ hx149) (fun _ hs => (RX.reads_triv _ _)) rfl [0, 0, 0, 0, 0, 0, 0] (rfl) ?_
                      refine TD.q rfl (.g rfl rfl (decide_eq_true c147)) (Ex.sEq rfl rfl) rfl ?_
                      refine TD.q rfl .u (Ex.py rfl (decide_eq_true c147) rfl) rfl ?_
                      by_cases c150 : x138 = x148
                      · replace h := ifT c150 h
                        refine TD.run ft_cursitorlaw04BlobWrites_ok [8] rfl rfl ?_
                        refine TD.q rfl (.g rfl rfl (decide_eq_true c150)) (Ex.ft ft_cursitorlaw04BlobWrites_ok rfl) rfl ?_
                        refine TD.q rfl (.g rfl rfl (decide_eq_true c150)) (Ex.ft ft_cursitorlaw04BlobWrites_ok rfl) rfl ?_
                        refine TD.q rfl .u (Ex.py rfl (decide_eq_true c150) rfl) rfl ?_
                        by_cases c151 : x143 = 0
                        · replace h := ifT c151 h
                          refine TD.run ft_cursitorlaw04BlobWrites_ok [12] rfl rfl ?_
                          refine TD.q rfl (.g rfl rfl (decide_eq_true c151)) (Ex.ft ft_cursitorlaw04BlobWrites_ok rfl) rfl ?_
                          refine TD.q rfl (.g rfl rfl (decide_eq_true c151)) (Ex.bS (us := [.bool false, .string (bsOf a0.data)]) 0 rfl Try.isAgg62 Try.sizeOf62 rfl rfl rfl) rfl ?_
                          obtain ⟨x152, hx153, h⟩ := Option.bind_eq_some_iff.1 h
                          refine TD.ce rfl (.g rfl rfl (decide_eq_true c151)) (.fn Try.call62 rfl) (gRBVaried_spec (⟨false, a0.data⟩ : Bl) _ hx153) (fun _ hs => (RX.reads_triv _ _)) rfl [0, 0, 0, 0, 0, 0, 0] (rfl) ?_
                          refine TD.q rfl (.g rfl rfl (decide_eq_true c151)) (Ex.sEq rfl rfl) rfl ?_
                          refine TD.q rfl .u (Ex.py rfl (decide_eq_true c151) rfl) rfl ?_
                          by_cases c154 : x142 = x152
                          · replace h := ifT c154 h
                            refine TD.run ft_cursitorlaw04BlobWrites_ok [18] rfl rfl ?_
                            refine TD.q rfl (.g rfl rfl (decide_eq_true c154)) (Ex.bS (us := [.bool a0.null, .string (bsOf a0.data)]) 5 rfl Try.isAgg62 Try.sizeOf62 rfl rfl rfl) rfl ?_
                            refine TD.q rfl (.g rfl rfl (decide_eq_true c154)) (Ex.ft ft_cursitorlaw04BlobWrites_ok rfl) rfl ?_
                            obtain ⟨x155, hx156, h⟩ := Option.bind_eq_some_iff.1 h
                            refine TD.ce rfl (.g rfl rfl (decide_eq_true c154)) (.fn Try.call63 rfl) (gRight_spec a0 _ hx156) (fun _ hs => (RX.reads_triv _ _)) rfl [0, 0, 0, 0, 0, 0, 0] (rfl) ?_
                            by_cases c157 : x155 = true
                            · replace h := ifT c157 h
                              refine TD.q rfl (.g rfl rfl (decide_eq_true c154)) (Ex.bEq rfl c157 rfl (decide_eq_false c103) Try.runUnderlying4) rfl ?_
                              exact nomatch h
                            · replace h := ifF c157 h
                              replace c157 := eq_false_of_ne_true c157
                              refine TD.q rfl (.g rfl rfl (decide_eq_true c154)) (Ex.bEq rfl c157 rfl (decide_eq_false c103) Try.runUnderlying4) rfl ?_
                              refine TD.q rfl .u (Ex.py rfl (decide_eq_true c154) rfl) rfl ?_
                              refine TD.run ft_cursitorlaw04BlobWrites_ok [24] rfl rfl ?_
                              refine TD.q rfl (.g rfl rfl rfl) (Ex.ft ft_cursitorlaw04BlobWrites_ok rfl) rfl ?_
                              refine TD.q rfl (.g rfl rfl rfl) (Ex.b1 5 rfl Try.isAgg9 rfl rfl) rfl ?_
                              refine TD.q rfl (.g rfl rfl rfl) (Ex.bS (us := [.bool false, .string (bsOf a0.data)]) 0 rfl Try.isAgg62 Try.sizeOf62 rfl rfl rfl) rfl ?_
                              obtain ⟨x158, hx159, h⟩ := Option.bind_eq_some_iff.1 h
                              refine TD.ce rfl (.g rfl rfl rfl) (.fn Try.call64 rfl) (gOf_spec a0.data _ hx159) (fun _ hs => (RX.reads_triv _ _)) rfl [0, 0, 0, 0, 0, 0, 0] (rfl) ?_
                              by_cases c160 : x158.null = true
                              · replace h := ifT c160 h
                                refine TD.q rfl (.g rfl rfl rfl) (Ex.aEq (us := [.bool x158.null, .string (bsOf x158.data)]) (vs := [.bool false, .string (bsOf a0.data)]) flat_cursitorlaw04BlobWrites_62 rfl Try.eqGuardType62 rfl rfl rfl rfl (eqL_f (eqV_bn (fun h => absurd ((Eq.symm c160).trans (h.trans rfl)) (by decide))))) rfl ?_
                                exact nomatch h
                              · replace h := ifF c160 h
                                replace c160 := eq_false_of_ne_true c160
                                by_cases c161 : x158.data = a0.data
                                · replace h := ifT c161 h
                                  refine TD.q rfl (.g rfl rfl rfl) (Ex.aEq (us := [.bool x158.null, .string (bsOf x158.data)]) (vs := [.bool false, .string (bsOf a0.data)]) flat_cursitorlaw04BlobWrites_62 rfl Try.eqGuardType62 rfl rfl rfl rfl (eqL_t (eqV_b (c160.trans (Eq.symm rfl))) (eqL_t (eqV_s (l := x158.data) (m := a0.data) c161) rfl))) rfl ?_
                                  refine TD.q rfl .u (Ex.py rfl rfl rfl) rfl ?_
                                  refine TD.run ft_cursitorlaw04BlobWrites_ok [31] rfl rfl ?_
                                  refine TD.q rfl (.g rfl rfl rfl) (Ex.bld (cells := #[.bool true, .string ⟨#[]⟩]) bok_cursitorlaw04BlobWrites_62 rfl (by rfl)) rfl ?_
                                  obtain ⟨x162, hx163, h⟩ := Option.bind_eq_some_iff.1 h
                                  refine TD.ce rfl (.g rfl rfl rfl) (.fn Try.call65 rfl) (gNone_spec _ hx163) (fun _ hs => (RX.reads_triv _ _)) rfl [0, 0, 0, 0, 0, 0, 0] (rfl) ?_
                                  by_cases c164 : x162.null = true
                                  · replace h := ifT c164 h
                                    by_cases c165 : x162.data = []
                                    · replace h := ifT c165 h
                                      refine TD.q rfl (.g rfl rfl rfl) (Ex.aEq (us := [.bool x162.null, .string (bsOf x162.data)]) (vs := [.bool true, .string ⟨#[]⟩]) flat_cursitorlaw04BlobWrites_62 rfl Try.eqGuardType62 rfl rfl rfl rfl (eqL_t (eqV_b (c164.trans (Eq.symm rfl))) (eqL_t (eqV_s (l := x162.data) (m := []) c165) rfl))) rfl ?_
                                      refine TD.q rfl .u (Ex.py rfl rfl rfl) rfl ?_
                                      refine TD.run ft_cursitorlaw04BlobWrites_ok [36] rfl rfl ?_
                                      obtain rfl := Option.some.inj h
                                      exact TD.nil (X.seq (T.ret (X.done1 [6] Try.results11 (RV.tm rfl) ⟨rfl, rfl, rfl⟩ (by rfl) (.inl rfl))))
                                    · replace h := ifF c165 h
                                      refine TD.q rfl (.g rfl rfl rfl) (Ex.aEq (us := [.bool x162.null, .string (bsOf x162.data)]) (vs := [.bool true, .string ⟨#[]⟩]) flat_cursitorlaw04BlobWrites_62 rfl Try.eqGuardType62 rfl rfl rfl rfl (eqL_t (eqV_b (c164.trans (Eq.symm rfl))) (eqL_f (eqV_sn (l := x162.data) (m := []) c165)))) rfl ?_
                                      exact nomatch h
                                  · replace h := ifF c164 h
                                    replace c164 := eq_false_of_ne_true c164
                                    refine TD.q rfl (.g rfl rfl rfl) (Ex.aEq (us := [.bool x162.null, .string (bsOf x162.data)]) (vs := [.bool true, .string ⟨#[]⟩]) flat_cursitorlaw04BlobWrites_62 rfl Try.eqGuardType62 rfl rfl rfl rfl (eqL_f (eqV_bn (fun h => absurd ((Eq.symm c164).trans (h.trans rfl)) (by decide))))) rfl ?_
                                    exact nomatch h
                                · replace h := ifF c161 h
                                  refine TD.q rfl (.g rfl rfl rfl) (Ex.aEq (us := [.bool x158.null, .string (bsOf x158.data)]) (vs := [.bool false, .string (bsOf a0.data)]) flat_cursitorlaw04BlobWrites_62 rfl Try.eqGuardType62 rfl rfl rfl rfl (eqL_t (eqV_b (c160.trans (Eq.symm rfl))) (eqL_f (eqV_sn (l := x158.data) (m := a0.data) c161)))) rfl ?_
                                  exact nomatch h
                          · replace h := ifF c154 h
                            refine TD.run ft_cursitorlaw04BlobWrites_ok [18] rfl rfl ?_
                            refine TD.no rfl (.gn rfl rfl (decide_eq_false c154)) rfl ?_
                            refine TD.no rfl (.gn rfl rfl (decide_eq_false c154)) rfl ?_
                            refine TD.noe rfl (.gn rfl rfl (decide_eq_false c154)) rfl [0, 0, 0, 0, 0, 0, 0] rfl ?_
                            refine TD.no rfl (.gn rfl rfl (decide_eq_false c154)) rfl ?_
                            exact nomatch h
                        · replace h := ifF c151 h
                          refine TD.run ft_cursitorlaw04BlobWrites_ok [12] rfl rfl ?_
                          refine TD.no rfl (.gn rfl rfl (decide_eq_false c151)) rfl ?_
                          refine TD.no rfl (.gn rfl rfl (decide_eq_false c151)) rfl ?_
                          refine TD.noe rfl (.gn rfl rfl (decide_eq_false c151)) rfl [0, 0, 0, 0, 0, 0, 0] rfl ?_
                          refine TD.no rfl (.gn rfl rfl (decide_eq_false c151)) rfl ?_
                          exact nomatch h
                      · replace h := ifF c150 h
                        refine TD.run ft_cursitorlaw04BlobWrites_ok [8] rfl rfl ?_
                        refine TD.no rfl (.gn rfl rfl (decide_eq_false c150)) rfl ?_
                        refine TD.no rfl (.gn rfl rfl (decide_eq_false c150)) rfl ?_
                        exact nomatch h
                    · replace h := ifF c147 h
                      refine TD.run ft_cursitorlaw04BlobWrites_ok [0, 1, 2] rfl rfl ?_
                      refine TD.no rfl (.gn rfl rfl (decide_eq_false c147)) rfl ?_
                      refine TD.no rfl (.gn rfl rfl (decide_eq_false c147)) rfl ?_
                      refine TD.noe rfl (.gn rfl rfl (decide_eq_false c147)) rfl [0, 0, 0, 0, 0, 0, 0] rfl ?_
                      refine TD.no rfl (.gn rfl rfl (decide_eq_false c147)) rfl ?_
                      exact nomatch h
                  · replace h := ifF c137 h
                    refine TL.run ft_cursitorlaw04BlobWrites_ok [10] rfl rfl ?_
                    refine TL.no rfl (.gn rfl rfl (bn_t (decide_eq_false c137))) rfl ?_
                    refine TL.no rfl (.gn rfl rfl (bn_t (decide_eq_false c137))) rfl ?_
                    refine TL.no rfl (.gu rfl rfl) rfl ?_
                    refine TL.no rfl (.gu rfl rfl) rfl ?_
                    refine TL.no rfl (.gu rfl rfl) rfl ?_
                    refine TL.no rfl (.gu rfl rfl) rfl ?_
                    refine TL.no rfl (.gu rfl rfl) rfl ?_
                    refine TL.no rfl (.gu rfl rfl) rfl ?_
                    refine TL.no rfl (.gu rfl rfl) rfl ?_
                    refine TL.no rfl (.gu rfl rfl) rfl ?_
                    refine TL.no rfl (.gn rfl rfl (bn_t (decide_eq_false c137))) rfl ?_
                    exact nomatch h
                · replace h := ifF c136 h
                  refine TL.no rfl (.gn rfl rfl (bn_t (decide_eq_false c136))) rfl ?_
                  refine TL.no rfl (.gn rfl rfl (bn_t (decide_eq_false c136))) rfl ?_
                  exact nomatch h
            · replace h := ifF c102 h
              refine TL.nil (X.seq ?_)
              refine T.yes rfl (bn_t (decide_eq_false c102)) ?_
              exact nomatch h
          · replace h := ifF c101 h
            refine TL.run ft_cursitorlaw04BlobWrites_ok [0, 1, 2] rfl rfl ?_
            refine TL.no rfl (.gn rfl rfl (bn_t (decide_eq_false c101))) rfl ?_
            refine TL.no rfl (.gn rfl rfl (bn_t (decide_eq_false c101))) rfl ?_
            exact nomatch h
      · replace h := ifF c18 h
        replace c18 := eq_false_of_ne_true c18
        refine TL.run ft_cursitorlaw04BlobWrites_ok [2, 3] rfl rfl ?_
        refine TL.no rfl (.gn rfl rfl (bn_t c18)) rfl ?_
        refine TL.no rfl (.gn rfl rfl (bn_t c18)) rfl ?_
        refine TL.no rfl (.gn rfl rfl (bn_t c18)) rfl ?_
        refine TL.q rfl .u (Ex.py rfl (bn_t c18) rfl) rfl ?_
        refine TL.run ft_cursitorlaw04BlobWrites_ok [8] rfl rfl ?_
        obtain ⟨⟨x166, x167, st168⟩, hx169, h⟩ := Option.bind_eq_some_iff.1 h
        try dsimp only at h
        refine TL.nil (X.seq (T.seq (T.region rfl ?_)))
        refine TL.c3 rfl .u (.fn Try.call24 rfl) (gOText_spec b6 st10 _ hx169) (fun _ hs => (Src.triv _)) rfl ?_
        refine TL.run ft_cursitorlaw04BlobWrites_ok [1, 2, 3, 4, 5] rfl rfl ?_
        obtain ⟨⟨x170, x171, st172⟩, hx173, h⟩ := Option.bind_eq_some_iff.1 h
        try dsimp only at h
        refine TL.nil (X.seq (T.seq (T.region rfl ?_)))
        refine TL.c2 rfl .u (.fn Try.call24 rfl) (gOText_spec b7 st12 _ hx173) (fun _ hs => (Src.triv _)) rfl ?_
        refine TL.run ft_cursitorlaw04BlobWrites_ok [1, 2, 3, 4, 5] rfl rfl ?_
        refine TL.nil (X.seq (T.seq (T.block (T.seq (T.region rfl ?_)))))
        refine TL.q rfl .u (Ex.bS (us := [.bool a0.null, .string (bsOf a0.data)]) 4 rfl Try.isAgg62 Try.sizeOf62 rfl rfl rfl) rfl ?_
        obtain ⟨x174, hx175, h⟩ := Option.bind_eq_some_iff.1 h
        refine TL.ce rfl .u (.fn Try.call60 rfl) (gRBLen_spec a0 _ hx175) (fun _ hs => (RX.reads_triv _ _)) rfl ?_
        obtain ⟨x176, hx177, h⟩ := Option.bind_eq_some_iff.1 h
        refine TL.run ft_cursitorlaw04BlobWrites_ok [2] rfl rfl ?_
        refine TL.ce rfl .u (.fn Try.call44 rfl) (gRFits_spec x174 a1 _ hx177) (fun _ hs => (RX.reads_triv _ _)) rfl ?_
        refine TL.run ft_cursitorlaw04BlobWrites_ok [4, 5] rfl rfl ?_
        by_cases c178 : x176 = true
        · replace h := ifT c178 h
          refine TL.nil (X.seq ?_)
          refine T.no rfl (bn_f c178) ?_
          refine T.seq (T.region rfl ?_)
          refine TL.run ft_cursitorlaw04BlobWrites_ok [0, 1, 2] rfl rfl ?_
          refine TL.nil (X.seq ?_)
          refine T.no rfl rfl ?_
          refine T.seq (T.region rfl ?_)
          by_cases c179 : x167 = 0
          · replace h := ifT c179 h
            refine TL.run ft_cursitorlaw04BlobWrites_ok [0, 1, 2] rfl rfl ?_
            refine TL.q rfl (.g rfl rfl (bn_f (decide_eq_true c179))) (Ex.ft ft_cursitorlaw04BlobWrites_ok rfl) rfl ?_
            refine TL.q rfl (.g rfl rfl (bn_f (decide_eq_true c179))) (Ex.bS (us := [.bool a0.null, .string (bsOf a0.data)]) 4 rfl Try.isAgg62 Try.sizeOf62 rfl rfl rfl) rfl ?_
            refine TL.q rfl (.g rfl rfl (bn_f (decide_eq_true c179))) (Ex.ft ft_cursitorlaw04BlobWrites_ok rfl) rfl ?_
            obtain ⟨x180, hx181, h⟩ := Option.bind_eq_some_iff.1 h
            refine TL.ce rfl (.g rfl rfl (bn_f (decide_eq_true c179))) (.fn Try.call61 rfl) (gRBFixed_spec a0 a1 _ hx181) (fun _ hs => (RX.reads_triv _ _)) rfl ?_
            refine TL.q rfl (.g rfl rfl (bn_f (decide_eq_true c179))) (Ex.sNe rfl rfl) rfl ?_
            refine TL.q rfl .u (Ex.pn rfl (bn_f (decide_eq_true c179)) rfl) rfl ?_
            refine TL.run ft_cursitorlaw04BlobWrites_ok [9] rfl rfl ?_
            by_cases c182 : x166 = x180
            · replace h := ifT c182 h
              refine TL.nil (X.seq ?_)
              refine T.no rfl (bn_f (decide_eq_true c182)) ?_
              refine T.skip (X.blk (X.seq (T.seq (T.seq (T.region rfl ?_)))))
              refine TL.run ft_cursitorlaw04BlobWrites_ok [0, 1, 2] rfl rfl ?_
              refine TL.no rfl (.gn rfl rfl rfl) rfl ?_
              refine TL.no rfl (.gn rfl rfl rfl) rfl ?_
              refine TL.no rfl (.gn rfl rfl rfl) rfl ?_
              refine TL.no rfl (.gu rfl rfl) rfl ?_
              refine TL.no rfl (.gu rfl rfl) rfl ?_
              refine TL.no rfl (.gn rfl rfl rfl) rfl ?_
              refine TL.q rfl .u (Ex.pn rfl rfl rfl) rfl ?_
              refine TL.run ft_cursitorlaw04BlobWrites_ok [10] rfl rfl ?_
              refine TL.q rfl (.g rfl rfl rfl) (Ex.ft ft_cursitorlaw04BlobWrites_ok rfl) rfl ?_
              refine TL.q rfl (.g rfl rfl rfl) (Ex.ft ft_cursitorlaw04BlobWrites_ok rfl) rfl ?_
              refine TL.q rfl (.g rfl rfl rfl) (Ex.ft ft_cursitorlaw04BlobWrites_ok rfl) rfl ?_
              refine TL.q rfl (.g rfl rfl rfl) (Ex.ft ft_cursitorlaw04BlobWrites_ok rfl) rfl ?_
              refine TL.q rfl (.g rfl rfl rfl) (Ex.ft ft_cursitorlaw04BlobWrites_ok rfl) rfl ?_
              by_cases c183 : x171 = 0
              · replace h := ifT c183 h
                refine TL.q rfl (.g rfl rfl (bn_f (decide_eq_true c183))) (Ex.ft ft_cursitorlaw04BlobWrites_ok rfl) rfl ?_
                refine TL.q rfl (.g rfl rfl (bn_f (decide_eq_true c183))) (Ex.bS (us := [.bool a0.null, .string (bsOf a0.data)]) 4 rfl Try.isAgg62 Try.sizeOf62 rfl rfl rfl) rfl ?_
                obtain ⟨x184, hx185, h⟩ := Option.bind_eq_some_iff.1 h
                refine TL.ce rfl (.g rfl rfl (bn_f (decide_eq_true c183))) (.fn Try.call62 rfl) (gRBVaried_spec a0 _ hx185) (fun _ hs => (RX.reads_triv _ _)) rfl ?_
                refine TL.q rfl (.g rfl rfl (bn_f (decide_eq_true c183))) (Ex.sNe rfl rfl) rfl ?_
                refine TL.q rfl (.g rfl rfl rfl) (Ex.pn rfl (bn_f (decide_eq_true c183)) rfl) rfl ?_
                refine TL.q rfl (.g rfl rfl rfl) (Ex.py rfl rfl rfl) rfl ?_
                refine TL.q rfl .u (Ex.pn rfl rfl rfl) rfl ?_
                by_cases c186 : x170 = x184
                · replace h := ifT c186 h
                  refine TL.nil (X.seq ?_)
                  refine T.no rfl (bn_f (decide_eq_true c186)) ?_
                  obtain ⟨⟨x187, x188, st189⟩, hx190, h⟩ := Option.bind_eq_some_iff.1 h
                  try dsimp only at h
                  refine T.skip (X.seq (T.seq (T.region rfl ?_)))
                  refine TL.c1 rfl .u (.fn Try.call24 rfl) (gOText_spec b8 st14 _ hx190) (fun _ hs => (Src.triv _)) rfl ?_
                  refine TL.run ft_cursitorlaw04BlobWrites_ok [1, 2, 3, 4, 5] rfl rfl ?_
                  obtain ⟨⟨x191, x192, st193⟩, hx194, h⟩ := Option.bind_eq_some_iff.1 h
                  try dsimp only at h
                  refine TL.nil (X.seq (T.seq (T.region rfl ?_)))
                  refine TL.c0 rfl .u (.fn Try.call24 rfl) (gOText_spec b9 st16 _ hx194) (fun _ hs => (Src.triv _)) rfl ?_
                  refine TL.run ft_cursitorlaw04BlobWrites_ok [1, 2, 3, 4, 5] rfl rfl ?_
                  refine TL.nil (X.seq (T.seq (T.region rfl ?_)))
                  refine TL.run ft_cursitorlaw04BlobWrites_ok [0] rfl rfl ?_
                  refine TL.q rfl .u (Ex.b1 4 rfl Try.isAgg9 rfl rfl) rfl ?_
                  refine TL.q rfl .u (Ex.bld (cells := #[.bool false, .string (bsOf a0.data)]) bok_cursitorlaw04BlobWrites_62 rfl (by rfl)) rfl ?_
                  refine TL.alloc rfl .u Try.zeroValue62 rfl (fun b195 => ?_)
                  refine TL.st0 (cs' := #[.bool false, .string (bsOf a0.data)]) rfl .u rfl rfl Try.sizeOf62 rfl rfl rfl rfl ?_
                  refine TL.nil (X.seq (T.seq (T.draw (.q 0 (.q 1 (.q 2 (.q 3 (.q 4 (.e 5 (.q 6 (.q 7 (.q 8 (.q 9 (.q 10 (.q 11 (.q 12 (.q 13 (.q 14 (.e 15 (.q 16 (.q 17 (.q 18 (.q 19 (.q 21 (.e 20 (.q 22 (.q 23 (.q 24 (.q 25 (.q 26 (.q 28 (.e 27 (.q 29 (.q 30 (.q 31 (.q 33 (.e 32 (.q 34 (.q 35 (.q 36 .nil))))))))))))))))))))))))))))))))))))) [0, 0, 0, 0, 0, 0, 0] rfl mix_cursitorlaw04BlobWrites (NoP.seq np_post) (by kernel_rfl) ?_)))
                  by_cases c196 : x188 = 0
                  · replace h := ifT c196 h
                    refine TD.run ft_cursitorlaw04BlobWrites_ok [0, 1, 2] rfl rfl ?_
                    refine TD.q rfl (.g rfl rfl (decide_eq_true c196)) (Ex.ft ft_cursitorlaw04BlobWrites_ok rfl) rfl ?_
                    refine TD.q rfl (.g rfl rfl (decide_eq_true c196)) (Ex.bS (us := [.bool false, .string (bsOf a0.data)]) 0 rfl Try.isAgg62 Try.sizeOf62 rfl rfl rfl) rfl ?_
                    obtain ⟨x197, hx198, h⟩ := Option.bind_eq_some_iff.1 h
                    refine TD.ce rfl (.g rfl rfl (decide_eq_true c196)) (.fn Try.call61 rfl) (gRBFixed_spec (⟨false, a0.data⟩ : Bl) 2 _ hx198) (fun _ hs => (RX.reads_triv _ _)) rfl [0, 0, 0, 0, 0, 0, 0] (rfl) ?_
                    refine TD.q rfl (.g rfl rfl (decide_eq_true c196)) (Ex.sEq rfl rfl) rfl ?_
                    refine TD.q rfl .u (Ex.py rfl (decide_eq_true c196) rfl) rfl ?_
                    by_cases c199 : x187 = x197
                    · replace h := ifT c199 h
                      refine TD.run ft_cursitorlaw04BlobWrites_ok [8] rfl rfl ?_
                      refine TD.q rfl (.g rfl rfl (decide_eq_true c199)) (Ex.ft ft_cursitorlaw04BlobWrites_ok rfl) rfl ?_
                      refine TD.q rfl (.g rfl rfl (decide_eq_true c199)) (Ex.ft ft_cursitorlaw04BlobWrites_ok rfl) rfl ?_
                      refine TD.q rfl .u (Ex.py rfl (decide_eq_true c199) rfl) rfl ?_
                      by_cases c200 : x192 = 0
                      · replace h := ifT c200 h
                        refine TD.run ft_cursitorlaw04BlobWrites_ok [12] rfl rfl ?_
                        refine TD.q rfl (.g rfl rfl (decide_eq_true c200)) (Ex.ft ft_cursitorlaw04BlobWrites_ok rfl) rfl ?_
                        refine TD.q rfl (.g rfl rfl (decide_eq_true c200)) (Ex.bS (us := [.bool false, .string (bsOf a0.data)]) 0 rfl Try.isAgg62 Try.sizeOf62 rfl rfl rfl) rfl ?_
                        obtain ⟨x201, hx202, h⟩ := Option.bind_eq_some_iff.1 h
                        refine TD.ce rfl (.g rfl rfl (decide_eq_true c200)) (.fn Try.call62 rfl) (gRBVaried_spec (⟨false, a0.data⟩ : Bl) _ hx202) (fun _ hs => (RX.reads_triv _ _)) rfl [0, 0, 0, 0, 0, 0, 0] (rfl) ?_
                        refine TD.q rfl (.g rfl rfl (decide_eq_true c200)) (Ex.sEq rfl rfl) rfl ?_
                        refine TD.q rfl .u (Ex.py rfl (decide_eq_true c200) rfl) rfl ?_
                        by_cases c203 : x191 = x201
                        · replace h := ifT c203 h
                          refine TD.run ft_cursitorlaw04BlobWrites_ok [18] rfl rfl ?_
                          refine TD.q rfl (.g rfl rfl (decide_eq_true c203)) (Ex.bS (us := [.bool a0.null, .string (bsOf a0.data)]) 5 rfl Try.isAgg62 Try.sizeOf62 rfl rfl rfl) rfl ?_
                          refine TD.q rfl (.g rfl rfl (decide_eq_true c203)) (Ex.ft ft_cursitorlaw04BlobWrites_ok rfl) rfl ?_
                          obtain ⟨x204, hx205, h⟩ := Option.bind_eq_some_iff.1 h
                          refine TD.ce rfl (.g rfl rfl (decide_eq_true c203)) (.fn Try.call63 rfl) (gRight_spec a0 _ hx205) (fun _ hs => (RX.reads_triv _ _)) rfl [0, 0, 0, 0, 0, 0, 0] (rfl) ?_
                          by_cases c206 : x204 = true
                          · replace h := ifT c206 h
                            refine TD.q rfl (.g rfl rfl (decide_eq_true c203)) (Ex.bEq rfl c206 rfl rfl Try.runUnderlying4) rfl ?_
                            refine TD.q rfl .u (Ex.py rfl (decide_eq_true c203) rfl) rfl ?_
                            refine TD.run ft_cursitorlaw04BlobWrites_ok [24] rfl rfl ?_
                            refine TD.q rfl (.g rfl rfl rfl) (Ex.ft ft_cursitorlaw04BlobWrites_ok rfl) rfl ?_
                            refine TD.q rfl (.g rfl rfl rfl) (Ex.b1 5 rfl Try.isAgg9 rfl rfl) rfl ?_
                            refine TD.q rfl (.g rfl rfl rfl) (Ex.bS (us := [.bool false, .string (bsOf a0.data)]) 0 rfl Try.isAgg62 Try.sizeOf62 rfl rfl rfl) rfl ?_
                            obtain ⟨x207, hx208, h⟩ := Option.bind_eq_some_iff.1 h
                            refine TD.ce rfl (.g rfl rfl rfl) (.fn Try.call64 rfl) (gOf_spec a0.data _ hx208) (fun _ hs => (RX.reads_triv _ _)) rfl [0, 0, 0, 0, 0, 0, 0] (rfl) ?_
                            by_cases c209 : x207.null = true
                            · replace h := ifT c209 h
                              refine TD.q rfl (.g rfl rfl rfl) (Ex.aEq (us := [.bool x207.null, .string (bsOf x207.data)]) (vs := [.bool false, .string (bsOf a0.data)]) flat_cursitorlaw04BlobWrites_62 rfl Try.eqGuardType62 rfl rfl rfl rfl (eqL_f (eqV_bn (fun h => absurd ((Eq.symm c209).trans (h.trans rfl)) (by decide))))) rfl ?_
                              exact nomatch h
                            · replace h := ifF c209 h
                              replace c209 := eq_false_of_ne_true c209
                              by_cases c210 : x207.data = a0.data
                              · replace h := ifT c210 h
                                refine TD.q rfl (.g rfl rfl rfl) (Ex.aEq (us := [.bool x207.null, .string (bsOf x207.data)]) (vs := [.bool false, .string (bsOf a0.data)]) flat_cursitorlaw04BlobWrites_62 rfl Try.eqGuardType62 rfl rfl rfl rfl (eqL_t (eqV_b (c209.trans (Eq.symm rfl))) (eqL_t (eqV_s (l := x207.data) (m := a0.data) c210) rfl))) rfl ?_
                                refine TD.q rfl .u (Ex.py rfl rfl rfl) rfl ?_
                                refine TD.run ft_cursitorlaw04BlobWrites_ok [31] rfl rfl ?_
                                refine TD.q rfl (.g rfl rfl rfl) (Ex.bld (cells := #[.bool true, .string ⟨#[]⟩]) bok_cursitorlaw04BlobWrites_62 rfl (by rfl)) rfl ?_
                                obtain ⟨x211, hx212, h⟩ := Option.bind_eq_some_iff.1 h
                                refine TD.ce rfl (.g rfl rfl rfl) (.fn Try.call65 rfl) (gNone_spec _ hx212) (fun _ hs => (RX.reads_triv _ _)) rfl [0, 0, 0, 0, 0, 0, 0] (rfl) ?_
                                by_cases c213 : x211.null = true
                                · replace h := ifT c213 h
                                  by_cases c214 : x211.data = []
                                  · replace h := ifT c214 h
                                    refine TD.q rfl (.g rfl rfl rfl) (Ex.aEq (us := [.bool x211.null, .string (bsOf x211.data)]) (vs := [.bool true, .string ⟨#[]⟩]) flat_cursitorlaw04BlobWrites_62 rfl Try.eqGuardType62 rfl rfl rfl rfl (eqL_t (eqV_b (c213.trans (Eq.symm rfl))) (eqL_t (eqV_s (l := x211.data) (m := []) c214) rfl))) rfl ?_
                                    refine TD.q rfl .u (Ex.py rfl rfl rfl) rfl ?_
                                    refine TD.run ft_cursitorlaw04BlobWrites_ok [36] rfl rfl ?_
                                    obtain rfl := Option.some.inj h
                                    exact TD.nil (X.seq (T.ret (X.done1 [6] Try.results11 (RV.tm rfl) ⟨rfl, rfl, rfl⟩ (by rfl) (.inl rfl))))
                                  · replace h := ifF c214 h
                                    refine TD.q rfl (.g rfl rfl rfl) (Ex.aEq (us := [.bool x211.null, .string (bsOf x211.data)]) (vs := [.bool true, .string ⟨#[]⟩]) flat_cursitorlaw04BlobWrites_62 rfl Try.eqGuardType62 rfl rfl rfl rfl (eqL_t (eqV_b (c213.trans (Eq.symm rfl))) (eqL_f (eqV_sn (l := x211.data) (m := []) c214)))) rfl ?_
                                    exact nomatch h
                                · replace h := ifF c213 h
                                  replace c213 := eq_false_of_ne_true c213
                                  refine TD.q rfl (.g rfl rfl rfl) (Ex.aEq (us := [.bool x211.null, .string (bsOf x211.data)]) (vs := [.bool true, .string ⟨#[]⟩]) flat_cursitorlaw04BlobWrites_62 rfl Try.eqGuardType62 rfl rfl rfl rfl (eqL_f (eqV_bn (fun h => absurd ((Eq.symm c213).trans (h.trans rfl)) (by decide))))) rfl ?_
                                  exact nomatch h
                              · replace h := ifF c210 h
                                refine TD.q rfl (.g rfl rfl rfl) (Ex.aEq (us := [.bool x207.null, .string (bsOf x207.data)]) (vs := [.bool false, .string (bsOf a0.data)]) flat_cursitorlaw04BlobWrites_62 rfl Try.eqGuardType62 rfl rfl rfl rfl (eqL_t (eqV_b (c209.trans (Eq.symm rfl))) (eqL_f (eqV_sn (l := x207.data) (m := a0.data) c210)))) rfl ?_
                                exact nomatch h
                          · replace h := ifF c206 h
                            replace c206 := eq_false_of_ne_true c206
                            refine TD.q rfl (.g rfl rfl (decide_eq_true c203)) (Ex.bEq rfl c206 rfl rfl Try.runUnderlying4) rfl ?_
                            exact nomatch h
                        · replace h := ifF c203 h
                          refine TD.run ft_cursitorlaw04BlobWrites_ok [18] rfl rfl ?_
                          refine TD.no rfl (.gn rfl rfl (decide_eq_false c203)) rfl ?_
                          refine TD.no rfl (.gn rfl rfl (decide_eq_false c203)) rfl ?_
                          refine TD.noe rfl (.gn rfl rfl (decide_eq_false c203)) rfl [0, 0, 0, 0, 0, 0, 0] rfl ?_
                          refine TD.no rfl (.gn rfl rfl (decide_eq_false c203)) rfl ?_
                          exact nomatch h
                      · replace h := ifF c200 h
                        refine TD.run ft_cursitorlaw04BlobWrites_ok [12] rfl rfl ?_
                        refine TD.no rfl (.gn rfl rfl (decide_eq_false c200)) rfl ?_
                        refine TD.no rfl (.gn rfl rfl (decide_eq_false c200)) rfl ?_
                        refine TD.noe rfl (.gn rfl rfl (decide_eq_false c200)) rfl [0, 0, 0, 0, 0, 0, 0] rfl ?_
                        refine TD.no rfl (.gn rfl rfl (decide_eq_false c200)) rfl ?_
                        exact nomatch h
                    · replace h := ifF c199 h
                      refine TD.run ft_cursitorlaw04BlobWrites_ok [8] rfl rfl ?_
                      refine TD.no rfl (.gn rfl rfl (decide_eq_false c199)) rfl ?_
                      refine TD.no rfl (.gn rfl rfl (decide_eq_false c199)) rfl ?_
                      exact nomatch h
                  · replace h := ifF c196 h
                    refine TD.run ft_cursitorlaw04BlobWrites_ok [0, 1, 2] rfl rfl ?_
                    refine TD.no rfl (.gn rfl rfl (decide_eq_false c196)) rfl ?_
                    refine TD.no rfl (.gn rfl rfl (decide_eq_false c196)) rfl ?_
                    refine TD.noe rfl (.gn rfl rfl (decide_eq_false c196)) rfl [0, 0, 0, 0, 0, 0, 0] rfl ?_
                    refine TD.no rfl (.gn rfl rfl (decide_eq_false c196)) rfl ?_
                    exact nomatch h
                · replace h := ifF c186 h
                  refine TL.nil (X.seq ?_)
                  refine T.yes rfl (bn_t (decide_eq_false c186)) ?_
                  exact nomatch h
              · replace h := ifF c183 h
                refine TL.no rfl (.gn rfl rfl (bn_t (decide_eq_false c183))) rfl ?_
                refine TL.no rfl (.gn rfl rfl (bn_t (decide_eq_false c183))) rfl ?_
                refine TL.no rfl (.gn rfl rfl (bn_t (decide_eq_false c183))) rfl ?_
                refine TL.no rfl (.gn rfl rfl (bn_t (decide_eq_false c183))) rfl ?_
                exact nomatch h
            · replace h := ifF c182 h
              refine TL.nil (X.seq ?_)
              refine T.yes rfl (bn_t (decide_eq_false c182)) ?_
              exact nomatch h
          · replace h := ifF c179 h
            refine TL.run ft_cursitorlaw04BlobWrites_ok [0, 1, 2] rfl rfl ?_
            refine TL.no rfl (.gn rfl rfl (bn_t (decide_eq_false c179))) rfl ?_
            refine TL.no rfl (.gn rfl rfl (bn_t (decide_eq_false c179))) rfl ?_
            refine TL.no rfl (.gn rfl rfl (bn_t (decide_eq_false c179))) rfl ?_
            refine TL.no rfl (.gn rfl rfl (bn_t (decide_eq_false c179))) rfl ?_
            refine TL.no rfl (.gn rfl rfl (bn_t (decide_eq_false c179))) rfl ?_
            exact nomatch h
        · replace h := ifF c178 h
          replace c178 := eq_false_of_ne_true c178
          refine TL.nil (X.seq ?_)
          refine T.yes rfl (bn_t c178) ?_
          refine T.seq (T.region rfl ?_)
          by_cases c215 : x167 = 11
          · replace h := ifT c215 h
            refine TL.run ft_cursitorlaw04BlobWrites_ok [0, 1, 2] rfl rfl ?_
            refine TL.q rfl (.g rfl rfl (bn_f (decide_eq_true c215))) (Ex.ft ft_cursitorlaw04BlobWrites_ok rfl) rfl ?_
            refine TL.q rfl (.g rfl rfl (bn_f (decide_eq_true c215))) (Ex.sNe rfl (m := []) rfl) rfl ?_
            refine TL.q rfl .u (Ex.pn rfl (bn_f (decide_eq_true c215)) rfl) rfl ?_
            by_cases c216 : x166 = []
            · replace h := ifT c216 h
              refine TL.nil (X.seq ?_)
              refine T.no rfl (bn_f (decide_eq_true c216)) ?_
              refine T.skip (X.blk (X.seq (T.seq (T.seq (T.region rfl ?_)))))
              refine TL.run ft_cursitorlaw04BlobWrites_ok [0, 1, 2] rfl rfl ?_
              refine TL.no rfl (.gn rfl rfl rfl) rfl ?_
              refine TL.no rfl (.gn rfl rfl rfl) rfl ?_
              refine TL.no rfl (.gn rfl rfl rfl) rfl ?_
              refine TL.no rfl (.gu rfl rfl) rfl ?_
              refine TL.no rfl (.gu rfl rfl) rfl ?_
              refine TL.no rfl (.gn rfl rfl rfl) rfl ?_
              refine TL.q rfl .u (Ex.pn rfl rfl rfl) rfl ?_
              refine TL.run ft_cursitorlaw04BlobWrites_ok [10] rfl rfl ?_
              refine TL.q rfl (.g rfl rfl rfl) (Ex.ft ft_cursitorlaw04BlobWrites_ok rfl) rfl ?_
              refine TL.q rfl (.g rfl rfl rfl) (Ex.ft ft_cursitorlaw04BlobWrites_ok rfl) rfl ?_
              refine TL.q rfl (.g rfl rfl rfl) (Ex.ft ft_cursitorlaw04BlobWrites_ok rfl) rfl ?_
              refine TL.q rfl (.g rfl rfl rfl) (Ex.ft ft_cursitorlaw04BlobWrites_ok rfl) rfl ?_
              refine TL.q rfl (.g rfl rfl rfl) (Ex.ft ft_cursitorlaw04BlobWrites_ok rfl) rfl ?_
              by_cases c217 : x171 = 0
              · replace h := ifT c217 h
                refine TL.q rfl (.g rfl rfl (bn_f (decide_eq_true c217))) (Ex.ft ft_cursitorlaw04BlobWrites_ok rfl) rfl ?_
                refine TL.q rfl (.g rfl rfl (bn_f (decide_eq_true c217))) (Ex.bS (us := [.bool a0.null, .string (bsOf a0.data)]) 4 rfl Try.isAgg62 Try.sizeOf62 rfl rfl rfl) rfl ?_
                obtain ⟨x218, hx219, h⟩ := Option.bind_eq_some_iff.1 h
                refine TL.ce rfl (.g rfl rfl (bn_f (decide_eq_true c217))) (.fn Try.call62 rfl) (gRBVaried_spec a0 _ hx219) (fun _ hs => (RX.reads_triv _ _)) rfl ?_
                refine TL.q rfl (.g rfl rfl (bn_f (decide_eq_true c217))) (Ex.sNe rfl rfl) rfl ?_
                refine TL.q rfl (.g rfl rfl rfl) (Ex.pn rfl (bn_f (decide_eq_true c217)) rfl) rfl ?_
                refine TL.q rfl (.g rfl rfl rfl) (Ex.py rfl rfl rfl) rfl ?_
                refine TL.q rfl .u (Ex.pn rfl rfl rfl) rfl ?_
                by_cases c220 : x170 = x218
                · replace h := ifT c220 h
                  refine TL.nil (X.seq ?_)
                  refine T.no rfl (bn_f (decide_eq_true c220)) ?_
                  obtain ⟨⟨x221, x222, st223⟩, hx224, h⟩ := Option.bind_eq_some_iff.1 h
                  try dsimp only at h
                  refine T.skip (X.seq (T.seq (T.region rfl ?_)))
                  refine TL.c1 rfl .u (.fn Try.call24 rfl) (gOText_spec b8 st14 _ hx224) (fun _ hs => (Src.triv _)) rfl ?_
                  refine TL.run ft_cursitorlaw04BlobWrites_ok [1, 2, 3, 4, 5] rfl rfl ?_
                  obtain ⟨⟨x225, x226, st227⟩, hx228, h⟩ := Option.bind_eq_some_iff.1 h
                  try dsimp only at h
                  refine TL.nil (X.seq (T.seq (T.region rfl ?_)))
                  refine TL.c0 rfl .u (.fn Try.call24 rfl) (gOText_spec b9 st16 _ hx228) (fun _ hs => (Src.triv _)) rfl ?_
                  refine TL.run ft_cursitorlaw04BlobWrites_ok [1, 2, 3, 4, 5] rfl rfl ?_
                  refine TL.nil (X.seq (T.seq (T.region rfl ?_)))
                  refine TL.run ft_cursitorlaw04BlobWrites_ok [0] rfl rfl ?_
                  refine TL.q rfl .u (Ex.b1 4 rfl Try.isAgg9 rfl rfl) rfl ?_
                  refine TL.q rfl .u (Ex.bld (cells := #[.bool false, .string (bsOf a0.data)]) bok_cursitorlaw04BlobWrites_62 rfl (by rfl)) rfl ?_
                  refine TL.alloc rfl .u Try.zeroValue62 rfl (fun b229 => ?_)
                  refine TL.st0 (cs' := #[.bool false, .string (bsOf a0.data)]) rfl .u rfl rfl Try.sizeOf62 rfl rfl rfl rfl ?_
                  refine TL.nil (X.seq (T.seq (T.draw (.q 0 (.q 1 (.q 2 (.q 3 (.q 4 (.e 5 (.q 6 (.q 7 (.q 8 (.q 9 (.q 10 (.q 11 (.q 12 (.q 13 (.q 14 (.e 15 (.q 16 (.q 17 (.q 18 (.q 19 (.q 21 (.e 20 (.q 22 (.q 23 (.q 24 (.q 25 (.q 26 (.q 28 (.e 27 (.q 29 (.q 30 (.q 31 (.q 33 (.e 32 (.q 34 (.q 35 (.q 36 .nil))))))))))))))))))))))))))))))))))))) [0, 0, 0, 0, 0, 0, 0] rfl mix_cursitorlaw04BlobWrites (NoP.seq np_post) (by kernel_rfl) ?_)))
                  by_cases c230 : x222 = 0
                  · replace h := ifT c230 h
                    refine TD.run ft_cursitorlaw04BlobWrites_ok [0, 1, 2] rfl rfl ?_
                    refine TD.q rfl (.g rfl rfl (decide_eq_true c230)) (Ex.ft ft_cursitorlaw04BlobWrites_ok rfl) rfl ?_
                    refine TD.q rfl (.g rfl rfl (decide_eq_true c230)) (Ex.bS (us := [.bool false, .string (bsOf a0.data)]) 0 rfl Try.isAgg62 Try.sizeOf62 rfl rfl rfl) rfl ?_
                    obtain ⟨x231, hx232, h⟩ := Option.bind_eq_some_iff.1 h
                    refine TD.ce rfl (.g rfl rfl (decide_eq_true c230)) (.fn Try.call61 rfl) (gRBFixed_spec (⟨false, a0.data⟩ : Bl) 2 _ hx232) (fun _ hs => (RX.reads_triv _ _)) rfl [0, 0, 0, 0, 0, 0, 0] (rfl) ?_
                    refine TD.q rfl (.g rfl rfl (decide_eq_true c230)) (Ex.sEq rfl rfl) rfl ?_
                    refine TD.q rfl .u (Ex.py rfl (decide_eq_true c230) rfl) rfl ?_
                    by_cases c233 : x221 = x231
                    · replace h := ifT c233 h
                      refine TD.run ft_cursitorlaw04BlobWrites_ok [8] rfl rfl ?_
                      refine TD.q rfl (.g rfl rfl (decide_eq_true c233)) (Ex.ft ft_cursitorlaw04BlobWrites_ok rfl) rfl ?_
                      refine TD.q rfl (.g rfl rfl (decide_eq_true c233)) (Ex.ft ft_cursitorlaw04BlobWrites_ok rfl) rfl ?_
                      refine TD.q rfl .u (Ex.py rfl (decide_eq_true c233) rfl) rfl ?_
                      by_cases c234 : x226 = 0
                      · replace h := ifT c234 h
                        refine TD.run ft_cursitorlaw04BlobWrites_ok [12] rfl rfl ?_
                        refine TD.q rfl (.g rfl rfl (decide_eq_true c234)) (Ex.ft ft_cursitorlaw04BlobWrites_ok rfl) rfl ?_
                        refine TD.q rfl (.g rfl rfl (decide_eq_true c234)) (Ex.bS (us := [.bool false, .string (bsOf a0.data)]) 0 rfl Try.isAgg62 Try.sizeOf62 rfl rfl rfl) rfl ?_
                        obtain ⟨x235, hx236, h⟩ := Option.bind_eq_some_iff.1 h
                        refine TD.ce rfl (.g rfl rfl (decide_eq_true c234)) (.fn Try.call62 rfl) (gRBVaried_spec (⟨false, a0.data⟩ : Bl) _ hx236) (fun _ hs => (RX.reads_triv _ _)) rfl [0, 0, 0, 0, 0, 0, 0] (rfl) ?_
                        refine TD.q rfl (.g rfl rfl (decide_eq_true c234)) (Ex.sEq rfl rfl) rfl ?_
                        refine TD.q rfl .u (Ex.py rfl (decide_eq_true c234) rfl) rfl ?_
                        by_cases c237 : x225 = x235
                        · replace h := ifT c237 h
                          refine TD.run ft_cursitorlaw04BlobWrites_ok [18] rfl rfl ?_
                          refine TD.q rfl (.g rfl rfl (decide_eq_true c237)) (Ex.bS (us := [.bool a0.null, .string (bsOf a0.data)]) 5 rfl Try.isAgg62 Try.sizeOf62 rfl rfl rfl) rfl ?_
                          refine TD.q rfl (.g rfl rfl (decide_eq_true c237)) (Ex.ft ft_cursitorlaw04BlobWrites_ok rfl) rfl ?_
                          obtain ⟨x238, hx239, h⟩ := Option.bind_eq_some_iff.1 h
                          refine TD.ce rfl (.g rfl rfl (decide_eq_true c237)) (.fn Try.call63 rfl) (gRight_spec a0 _ hx239) (fun _ hs => (RX.reads_triv _ _)) rfl [0, 0, 0, 0, 0, 0, 0] (rfl) ?_
                          by_cases c240 : x238 = true
                          · replace h := ifT c240 h
                            refine TD.q rfl (.g rfl rfl (decide_eq_true c237)) (Ex.bEq rfl c240 rfl rfl Try.runUnderlying4) rfl ?_
                            refine TD.q rfl .u (Ex.py rfl (decide_eq_true c237) rfl) rfl ?_
                            refine TD.run ft_cursitorlaw04BlobWrites_ok [24] rfl rfl ?_
                            refine TD.q rfl (.g rfl rfl rfl) (Ex.ft ft_cursitorlaw04BlobWrites_ok rfl) rfl ?_
                            refine TD.q rfl (.g rfl rfl rfl) (Ex.b1 5 rfl Try.isAgg9 rfl rfl) rfl ?_
                            refine TD.q rfl (.g rfl rfl rfl) (Ex.bS (us := [.bool false, .string (bsOf a0.data)]) 0 rfl Try.isAgg62 Try.sizeOf62 rfl rfl rfl) rfl ?_
                            obtain ⟨x241, hx242, h⟩ := Option.bind_eq_some_iff.1 h
                            refine TD.ce rfl (.g rfl rfl rfl) (.fn Try.call64 rfl) (gOf_spec a0.data _ hx242) (fun _ hs => (RX.reads_triv _ _)) rfl [0, 0, 0, 0, 0, 0, 0] (rfl) ?_
                            by_cases c243 : x241.null = true
                            · replace h := ifT c243 h
                              refine TD.q rfl (.g rfl rfl rfl) (Ex.aEq (us := [.bool x241.null, .string (bsOf x241.data)]) (vs := [.bool false, .string (bsOf a0.data)]) flat_cursitorlaw04BlobWrites_62 rfl Try.eqGuardType62 rfl rfl rfl rfl (eqL_f (eqV_bn (fun h => absurd ((Eq.symm c243).trans (h.trans rfl)) (by decide))))) rfl ?_
                              exact nomatch h
                            · replace h := ifF c243 h
                              replace c243 := eq_false_of_ne_true c243
                              by_cases c244 : x241.data = a0.data
                              · replace h := ifT c244 h
                                refine TD.q rfl (.g rfl rfl rfl) (Ex.aEq (us := [.bool x241.null, .string (bsOf x241.data)]) (vs := [.bool false, .string (bsOf a0.data)]) flat_cursitorlaw04BlobWrites_62 rfl Try.eqGuardType62 rfl rfl rfl rfl (eqL_t (eqV_b (c243.trans (Eq.symm rfl))) (eqL_t (eqV_s (l := x241.data) (m := a0.data) c244) rfl))) rfl ?_
                                refine TD.q rfl .u (Ex.py rfl rfl rfl) rfl ?_
                                refine TD.run ft_cursitorlaw04BlobWrites_ok [31] rfl rfl ?_
                                refine TD.q rfl (.g rfl rfl rfl) (Ex.bld (cells := #[.bool true, .string ⟨#[]⟩]) bok_cursitorlaw04BlobWrites_62 rfl (by rfl)) rfl ?_
                                obtain ⟨x245, hx246, h⟩ := Option.bind_eq_some_iff.1 h
                                refine TD.ce rfl (.g rfl rfl rfl) (.fn Try.call65 rfl) (gNone_spec _ hx246) (fun _ hs => (RX.reads_triv _ _)) rfl [0, 0, 0, 0, 0, 0, 0] (rfl) ?_
                                by_cases c247 : x245.null = true
                                · replace h := ifT c247 h
                                  by_cases c248 : x245.data = []
                                  · replace h := ifT c248 h
                                    refine TD.q rfl (.g rfl rfl rfl) (Ex.aEq (us := [.bool x245.null, .string (bsOf x245.data)]) (vs := [.bool true, .string ⟨#[]⟩]) flat_cursitorlaw04BlobWrites_62 rfl Try.eqGuardType62 rfl rfl rfl rfl (eqL_t (eqV_b (c247.trans (Eq.symm rfl))) (eqL_t (eqV_s (l := x245.data) (m := []) c248) rfl))) rfl ?_
                                    refine TD.q rfl .u (Ex.py rfl rfl rfl) rfl ?_
                                    refine TD.run ft_cursitorlaw04BlobWrites_ok [36] rfl rfl ?_
                                    obtain rfl := Option.some.inj h
                                    exact TD.nil (X.seq (T.ret (X.done1 [6] Try.results11 (RV.tm rfl) ⟨rfl, rfl, rfl⟩ (by rfl) (.inl rfl))))
                                  · replace h := ifF c248 h
                                    refine TD.q rfl (.g rfl rfl rfl) (Ex.aEq (us := [.bool x245.null, .string (bsOf x245.data)]) (vs := [.bool true, .string ⟨#[]⟩]) flat_cursitorlaw04BlobWrites_62 rfl Try.eqGuardType62 rfl rfl rfl rfl (eqL_t (eqV_b (c247.trans (Eq.symm rfl))) (eqL_f (eqV_sn (l := x245.data) (m := []) c248)))) rfl ?_
                                    exact nomatch h
                                · replace h := ifF c247 h
                                  replace c247 := eq_false_of_ne_true c247
                                  refine TD.q rfl (.g rfl rfl rfl) (Ex.aEq (us := [.bool x245.null, .string (bsOf x245.data)]) (vs := [.bool true, .string ⟨#[]⟩]) flat_cursitorlaw04BlobWrites_62 rfl Try.eqGuardType62 rfl rfl rfl rfl (eqL_f (eqV_bn (fun h => absurd ((Eq.symm c247).trans (h.trans rfl)) (by decide))))) rfl ?_
                                  exact nomatch h
                              · replace h := ifF c244 h
                                refine TD.q rfl (.g rfl rfl rfl) (Ex.aEq (us := [.bool x241.null, .string (bsOf x241.data)]) (vs := [.bool false, .string (bsOf a0.data)]) flat_cursitorlaw04BlobWrites_62 rfl Try.eqGuardType62 rfl rfl rfl rfl (eqL_t (eqV_b (c243.trans (Eq.symm rfl))) (eqL_f (eqV_sn (l := x241.data) (m := a0.data) c244)))) rfl ?_
                                exact nomatch h
                          · replace h := ifF c240 h
                            replace c240 := eq_false_of_ne_true c240
                            refine TD.q rfl (.g rfl rfl (decide_eq_true c237)) (Ex.bEq rfl c240 rfl rfl Try.runUnderlying4) rfl ?_
                            exact nomatch h
                        · replace h := ifF c237 h
                          refine TD.run ft_cursitorlaw04BlobWrites_ok [18] rfl rfl ?_
                          refine TD.no rfl (.gn rfl rfl (decide_eq_false c237)) rfl ?_
                          refine TD.no rfl (.gn rfl rfl (decide_eq_false c237)) rfl ?_
                          refine TD.noe rfl (.gn rfl rfl (decide_eq_false c237)) rfl [0, 0, 0, 0, 0, 0, 0] rfl ?_
                          refine TD.no rfl (.gn rfl rfl (decide_eq_false c237)) rfl ?_
                          exact nomatch h
                      · replace h := ifF c234 h
                        refine TD.run ft_cursitorlaw04BlobWrites_ok [12] rfl rfl ?_
                        refine TD.no rfl (.gn rfl rfl (decide_eq_false c234)) rfl ?_
                        refine TD.no rfl (.gn rfl rfl (decide_eq_false c234)) rfl ?_
                        refine TD.noe rfl (.gn rfl rfl (decide_eq_false c234)) rfl [0, 0, 0, 0, 0, 0, 0] rfl ?_
                        refine TD.no rfl (.gn rfl rfl (decide_eq_false c234)) rfl ?_
                        exact nomatch h
                    · replace h := ifF c233 h
                      refine TD.run ft_cursitorlaw04BlobWrites_ok [8] rfl rfl ?_
                      refine TD.no rfl (.gn rfl rfl (decide_eq_false c233)) rfl ?_
                      refine TD.no rfl (.gn rfl rfl (decide_eq_false c233)) rfl ?_
                      exact nomatch h
                  · replace h := ifF c230 h
                    refine TD.run ft_cursitorlaw04BlobWrites_ok [0, 1, 2] rfl rfl ?_
                    refine TD.no rfl (.gn rfl rfl (decide_eq_false c230)) rfl ?_
                    refine TD.no rfl (.gn rfl rfl (decide_eq_false c230)) rfl ?_
                    refine TD.noe rfl (.gn rfl rfl (decide_eq_false c230)) rfl [0, 0, 0, 0, 0, 0, 0] rfl ?_
                    refine TD.no rfl (.gn rfl rfl (decide_eq_false c230)) rfl ?_
                    exact nomatch h
                · replace h := ifF c220 h
                  refine TL.nil (X.seq ?_)
                  refine T.yes rfl (bn_t (decide_eq_false c220)) ?_
                  exact nomatch h
              · replace h := ifF c217 h
                refine TL.no rfl (.gn rfl rfl (bn_t (decide_eq_false c217))) rfl ?_
                refine TL.no rfl (.gn rfl rfl (bn_t (decide_eq_false c217))) rfl ?_
                refine TL.no rfl (.gn rfl rfl (bn_t (decide_eq_false c217))) rfl ?_
                refine TL.no rfl (.gn rfl rfl (bn_t (decide_eq_false c217))) rfl ?_
                exact nomatch h
            · replace h := ifF c216 h
              refine TL.nil (X.seq ?_)
              refine T.yes rfl (bn_t (decide_eq_false c216)) ?_
              exact nomatch h
          · replace h := ifF c215 h
            refine TL.run ft_cursitorlaw04BlobWrites_ok [0, 1, 2] rfl rfl ?_
            refine TL.no rfl (.gn rfl rfl (bn_t (decide_eq_false c215))) rfl ?_
            refine TL.no rfl (.gn rfl rfl (bn_t (decide_eq_false c215))) rfl ?_
            exact nomatch h
  · replace h := ifF c4 h
    replace c4 := eq_false_of_ne_true c4
    refine TL.nil (X.seq ?_)
    refine T.yes rfl (bn_t c4) ?_
    exact nomatch h
end Go.Proofs.Ytchfkhdifmpbkaa.Sl
