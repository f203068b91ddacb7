/- Printed by g2.py: package cursitorlaw04. -/
import Derived.Test.YtchfkhdifmpbkaaGb
import Derived.Test.YtchfkhdifmpbkaaNg
namespace Go.Proofs.Ytchfkhdifmpbkaa.Sl
open Go.RowKit
set_option linter.unusedVariables false
set_option linter.unusedSimpArgs false
set_option maxRecDepth 100000
def ft_cursitorlaw04 : FTab := [(62, 0, 0), (62, 1, 1), (99, 0, 0), (99, 1, 2), (99, 2, 3)]
theorem ft_cursitorlaw04_ok : (ft_cursitorlaw04).OK Try.prog := ⟨FOK.mk Try.runUnderlying62 rfl Try.sizeOf4 rfl, FOK.mk Try.runUnderlying62 rfl Try.sizeOf9 rfl, FOK.mk Try.runUnderlying99 rfl Try.sizeOf62 rfl, FOK.mk Try.runUnderlying99 rfl Try.sizeOf3 rfl, FOK.mk Try.runUnderlying99 rfl Try.sizeOf3 rfl, trivial⟩
theorem mix_cursitorlaw04 : Try.prog.follows .mixedOrders = true := by kernel_rfl
theorem flat_cursitorlaw04_62 : Flat Try.prog 2 62 [.bool, .string] true := (Flat.struct Try.isAgg62 Try.sizeOf62 rfl Try.underlying62 Try.stoodInHeld62 ⟨by decide, rfl, [.bool], [.string], false, rfl, (Flat.one_ Try.isAgg4 Try.sizeOf4 Try.underlying4), ⟨by decide, rfl, [.string], [], false, rfl, (Flat.one_ Try.isAgg9 Try.sizeOf9 Try.underlying9), rfl⟩⟩)
theorem bok_cursitorlaw04_62 : BOK Try.prog 62 #[.bool false, .string ⟨#[]⟩] [(0, 1), (1, 1)] := BOK.mk Try.zeroValue62 Try.runUnderlying62 (by intro w; simp)
def f_l04_speaks  : Option (Bool) := (gNone).bind fun x2 => (gPutFixed ([], 0) x2 2).bind fun st4 => (gOf [97]).bind fun x6 => (gPutVaried st4 x6).bind fun st8 => (gOText st8).bind fun (x10, x11, st12) => (gNew x10).bind fun st14 => if x11 = 0 then (if x10 = [255, 255, 2, 97] then ((gFixed st14 2).bind fun (x19, st20) => if x19.null = true then (if x19.data = [] then ((gVaried st20).bind fun (x24, st25) => if x24.null = true then some false else (if x24.data = [97] then ((gRight (⟨true, [97]⟩ : Bl)).bind fun x29 => if x29 = true then some false else some true) else some false)) else some false) else some false) else some false) else some false
set_option maxRecDepth 100000 in
set_option maxHeartbeats 4000000 in
theorem f_l04_speaks_spec  (r : Bool) (h : f_l04_speaks  = some r) : SpecX Try.prog 55 #[] .triv (EmpR) (fun v A' N => v = .bool r ∧ A' = EmpR ∧ N = []) := by
  refine enterA Try.func55 rfl Try.ntmps55 rfl ?_
  intro F w hX
  unfold f_l04_speaks at h
  refine T.seq (T.region rfl ?_)
  refine TL.run ft_cursitorlaw04_ok [0] rfl rfl ?_
  refine TL.nil (X.seq (T.seq (T.region rfl ?_)))
  refine TL.newout rfl .u Try.zeroValue42 rfl (fun b1 => ?_)
  obtain ⟨x2, hx3, h⟩ := Option.bind_eq_some_iff.1 h
  refine TL.nil (X.seq (T.seq (T.region rfl ?_)))
  refine TL.ce rfl .u (.fn Try.call65 rfl) (gNone_spec _ hx3) (fun _ hs => (RX.reads_triv _ _)) rfl ?_
  obtain ⟨st4, hx5, h⟩ := Option.bind_eq_some_iff.1 h
  refine TL.c0 rfl .u (.fn Try.call56 rfl) (gPutFixed_spec b1 ([], 0) x2 2 _ hx5) (fun _ hs => (Src.triv _)) rfl ?_
  obtain ⟨x6, hx7, h⟩ := Option.bind_eq_some_iff.1 h
  refine TL.nil (X.seq (T.seq (T.region rfl ?_)))
  refine TL.ce rfl .u (.fn Try.call64 rfl) (gOf_spec [97] _ hx7) (fun _ hs => (RX.reads_triv _ _)) rfl ?_
  obtain ⟨st8, hx9, h⟩ := Option.bind_eq_some_iff.1 h
  refine TL.c0 rfl .u (.fn Try.call57 rfl) (gPutVaried_spec b1 st4 x6 _ hx9) (fun _ hs => (Src.triv _)) rfl ?_
  obtain ⟨⟨x10, x11, st12⟩, hx13, h⟩ := Option.bind_eq_some_iff.1 h
  try dsimp only at h
  refine TL.nil (X.seq (T.seq (T.region rfl ?_)))
  refine TL.c0 rfl .u (.fn Try.call24 rfl) (gOText_spec b1 st8 _ hx13) (fun _ hs => (Src.triv _)) rfl ?_
  refine TL.run ft_cursitorlaw04_ok [1, 2, 3, 4, 5] rfl rfl ?_
  refine TL.nil (X.seq (T.seq (T.region rfl ?_)))
  obtain ⟨st14, hx15, h⟩ := Option.bind_eq_some_iff.1 h
  refine TL.run ft_cursitorlaw04_ok [0] rfl rfl ?_
  refine TL.cge rfl .u (.fn Try.call27 rfl) (gNew_spec x10 _ hx15) (fun _ hs => (RX.reads_triv _ _)) rfl ?_
  rintro _ _ _ ⟨b16, rfl, rfl, rfl⟩
  refine TL.sel [0, 0, 0] rfl ?_
  refine TL.run ft_cursitorlaw04_ok [2] rfl rfl ?_
  refine TL.nil (X.seq (T.seq (T.region rfl ?_)))
  by_cases c17 : x11 = 0
  · replace h := ifT c17 h
    refine TL.run ft_cursitorlaw04_ok [0, 1, 2] rfl rfl ?_
    refine TL.q rfl (.g rfl rfl (decide_eq_true c17)) (Ex.ft ft_cursitorlaw04_ok rfl) rfl ?_
    refine TL.q rfl (.g rfl rfl (decide_eq_true c17)) (Ex.sEq rfl (m := [255, 255, 2, 97]) rfl) rfl ?_
    refine TL.q rfl .u (Ex.py rfl (decide_eq_true c17) rfl) rfl ?_
    by_cases c18 : x10 = [255, 255, 2, 97]
    · replace h := ifT c18 h
      refine TL.run ft_cursitorlaw04_ok [6] rfl rfl ?_
      refine TL.q rfl (.g rfl rfl (decide_eq_true c18)) (Ex.ft ft_cursitorlaw04_ok rfl) rfl ?_
      refine TL.q rfl (.g rfl rfl (decide_eq_true c18)) (Ex.pNe (.inr ⟨rfl, rfl⟩) rfl rfl Try.runUnderlying50) rfl ?_
      refine TL.q rfl .u (Ex.py rfl (decide_eq_true c18) rfl) rfl ?_
      refine TL.run ft_cursitorlaw04_ok [10] rfl rfl ?_
      refine TL.q rfl (.g rfl rfl rfl) (Ex.ft ft_cursitorlaw04_ok rfl) rfl ?_
      obtain ⟨⟨x19, st20⟩, hx21, h⟩ := Option.bind_eq_some_iff.1 h
      try dsimp only at h
      refine TL.c0 rfl (.g rfl rfl rfl) (.fn Try.call68 rfl) (gFixed_spec b16 st14 2 _ hx21) (fun _ hs => (Src.triv _)) rfl ?_
      refine TL.q rfl (.g rfl rfl rfl) (Ex.bld (cells := #[.bool true, .string ⟨#[]⟩]) bok_cursitorlaw04_62 rfl (by rfl)) rfl ?_
      by_cases c22 : x19.null = true
      · replace h := ifT c22 h
        by_cases c23 : x19.data = []
        · replace h := ifT c23 h
          refine TL.q rfl (.g rfl rfl rfl) (Ex.aEq (us := [.bool x19.null, .string (bsOf x19.data)]) (vs := [.bool true, .string ⟨#[]⟩]) flat_cursitorlaw04_62 rfl Try.eqGuardType62 rfl rfl rfl rfl (eqL_t (eqV_b (c22.trans (Eq.symm rfl))) (eqL_t (eqV_s (l := x19.data) (m := []) c23) rfl))) rfl ?_
          refine TL.q rfl .u (Ex.py rfl rfl rfl) rfl ?_
          refine TL.run ft_cursitorlaw04_ok [16] rfl rfl ?_
          refine TL.q rfl (.g rfl rfl rfl) (Ex.ft ft_cursitorlaw04_ok rfl) rfl ?_
          obtain ⟨⟨x24, st25⟩, hx26, h⟩ := Option.bind_eq_some_iff.1 h
          try dsimp only at h
          refine TL.c0 rfl (.g rfl rfl rfl) (.fn Try.call69 rfl) (gVaried_spec b16 st20 _ hx26) (fun _ hs => (Src.triv _)) rfl ?_
          refine TL.q rfl (.g rfl rfl rfl) (Ex.bld (cells := #[.bool false, .string ⟨#[97]⟩]) bok_cursitorlaw04_62 rfl (by rfl)) rfl ?_
          by_cases c27 : x24.null = true
          · replace h := ifT c27 h
            refine TL.q rfl (.g rfl rfl rfl) (Ex.aEq (us := [.bool x24.null, .string (bsOf x24.data)]) (vs := [.bool false, .string ⟨#[97]⟩]) flat_cursitorlaw04_62 rfl Try.eqGuardType62 rfl rfl rfl rfl (eqL_f (eqV_bn (fun h => absurd ((Eq.symm c27).trans (h.trans rfl)) (by decide))))) rfl ?_
            refine TL.q rfl .u (Ex.py rfl rfl rfl) rfl ?_
            refine TL.run ft_cursitorlaw04_ok [22] rfl rfl ?_
            refine TL.no rfl (.gn rfl rfl rfl) rfl ?_
            refine TL.no rfl (.gn rfl rfl rfl) rfl ?_
            refine TL.no rfl (.gn rfl rfl rfl) rfl ?_
            refine TL.q rfl .u (Ex.pn rfl rfl rfl) rfl ?_
            refine TL.run ft_cursitorlaw04_ok [27] rfl rfl ?_
            obtain rfl := Option.some.inj h
            exact TL.nil (X.seq (T.ret (X.done1 [2] Try.results55 (RV.tm rfl) ⟨rfl, rfl, rfl⟩ (by rfl) (.inl rfl))))
          · replace h := ifF c27 h
            replace c27 := eq_false_of_ne_true c27
            by_cases c28 : x24.data = [97]
            · replace h := ifT c28 h
              refine TL.q rfl (.g rfl rfl rfl) (Ex.aEq (us := [.bool x24.null, .string (bsOf x24.data)]) (vs := [.bool false, .string ⟨#[97]⟩]) flat_cursitorlaw04_62 rfl Try.eqGuardType62 rfl rfl rfl rfl (eqL_t (eqV_b (c27.trans (Eq.symm rfl))) (eqL_t (eqV_s (l := x24.data) (m := [97]) c28) rfl))) rfl ?_
              refine TL.q rfl .u (Ex.py rfl rfl rfl) rfl ?_
              refine TL.run ft_cursitorlaw04_ok [22] rfl rfl ?_
              refine TL.q rfl (.g rfl rfl rfl) (Ex.bld (cells := #[.bool true, .string ⟨#[97]⟩]) bok_cursitorlaw04_62 rfl (by rfl)) rfl ?_
              obtain ⟨x29, hx30, h⟩ := Option.bind_eq_some_iff.1 h
              refine TL.ce rfl (.g rfl rfl rfl) (.fn Try.call63 rfl) (gRight_spec (⟨true, [97]⟩ : Bl) _ hx30) (fun _ hs => (RX.reads_triv _ _)) rfl ?_
              refine TL.q rfl (.g rfl rfl rfl) (Ex.ft ft_cursitorlaw04_ok rfl) rfl ?_
              refine TL.q rfl .u (Ex.py rfl rfl rfl) rfl ?_
              refine TL.run ft_cursitorlaw04_ok [27] rfl rfl ?_
              by_cases c31 : x29 = true
              · replace h := ifT c31 h
                obtain rfl := Option.some.inj h
                exact TL.nil (X.seq (T.ret (X.done1 [2] Try.results55 (RV.tm (v := .bool false) (congrArg (fun b => some (Value.bool b)) (bn_f c31))) ⟨rfl, rfl, rfl⟩ (by rfl) (.inl rfl))))
              · replace h := ifF c31 h
                replace c31 := eq_false_of_ne_true c31
                obtain rfl := Option.some.inj h
                exact TL.nil (X.seq (T.ret (X.done1 [2] Try.results55 (RV.tm (v := .bool true) (congrArg (fun b => some (Value.bool b)) (bn_t c31))) ⟨rfl, rfl, rfl⟩ (by rfl) (.inl rfl))))
            · replace h := ifF c28 h
              refine TL.q rfl (.g rfl rfl rfl) (Ex.aEq (us := [.bool x24.null, .string (bsOf x24.data)]) (vs := [.bool false, .string ⟨#[97]⟩]) flat_cursitorlaw04_62 rfl Try.eqGuardType62 rfl rfl rfl rfl (eqL_t (eqV_b (c27.trans (Eq.symm rfl))) (eqL_f (eqV_sn (l := x24.data) (m := [97]) c28)))) rfl ?_
              refine TL.q rfl .u (Ex.py rfl rfl rfl) rfl ?_
              refine TL.run ft_cursitorlaw04_ok [22] rfl rfl ?_
              refine TL.no rfl (.gn rfl rfl rfl) rfl ?_
              refine TL.no rfl (.gn rfl rfl rfl) rfl ?_
              refine TL.no rfl (.gn rfl rfl rfl) rfl ?_
              refine TL.q rfl .u (Ex.pn rfl rfl rfl) rfl ?_
              refine TL.run ft_cursitorlaw04_ok [27] rfl rfl ?_
              obtain rfl := Option.some.inj h
              exact TL.nil (X.seq (T.ret (X.done1 [2] Try.results55 (RV.tm rfl) ⟨rfl, rfl, rfl⟩ (by rfl) (.inl rfl))))
        · replace h := ifF c23 h
          refine TL.q rfl (.g rfl rfl rfl) (Ex.aEq (us := [.bool x19.null, .string (bsOf x19.data)]) (vs := [.bool true, .string ⟨#[]⟩]) flat_cursitorlaw04_62 rfl Try.eqGuardType62 rfl rfl rfl rfl (eqL_t (eqV_b (c22.trans (Eq.symm rfl))) (eqL_f (eqV_sn (l := x19.data) (m := []) c23)))) rfl ?_
          refine TL.q rfl .u (Ex.py rfl rfl rfl) rfl ?_
          refine TL.run ft_cursitorlaw04_ok [16] rfl rfl ?_
          refine TL.no rfl (.gn rfl rfl rfl) rfl ?_
          refine TL.no rfl (.gn rfl rfl rfl) rfl ?_
          refine TL.no rfl (.gn rfl rfl rfl) rfl ?_
          refine TL.no rfl (.gn rfl rfl rfl) rfl ?_
          refine TL.q rfl .u (Ex.pn rfl rfl rfl) rfl ?_
          refine TL.run ft_cursitorlaw04_ok [22] rfl rfl ?_
          refine TL.no rfl (.gn rfl rfl rfl) rfl ?_
          refine TL.no rfl (.gn rfl rfl rfl) rfl ?_
          refine TL.no rfl (.gn rfl rfl rfl) rfl ?_
          refine TL.q rfl .u (Ex.pn rfl rfl rfl) rfl ?_
          refine TL.run ft_cursitorlaw04_ok [27] rfl rfl ?_
          obtain rfl := Option.some.inj h
          exact TL.nil (X.seq (T.ret (X.done1 [2] Try.results55 (RV.tm rfl) ⟨rfl, rfl, rfl⟩ (by rfl) (.inl rfl))))
      · replace h := ifF c22 h
        replace c22 := eq_false_of_ne_true c22
        refine TL.q rfl (.g rfl rfl rfl) (Ex.aEq (us := [.bool x19.null, .string (bsOf x19.data)]) (vs := [.bool true, .string ⟨#[]⟩]) flat_cursitorlaw04_62 rfl Try.eqGuardType62 rfl rfl rfl rfl (eqL_f (eqV_bn (fun h => absurd ((Eq.symm c22).trans (h.trans rfl)) (by decide))))) rfl ?_
        refine TL.q rfl .u (Ex.py rfl rfl rfl) rfl ?_
        refine TL.run ft_cursitorlaw04_ok [16] rfl rfl ?_
        refine TL.no rfl (.gn rfl rfl rfl) rfl ?_
        refine TL.no rfl (.gn rfl rfl rfl) rfl ?_
        refine TL.no rfl (.gn rfl rfl rfl) rfl ?_
        refine TL.no rfl (.gn rfl rfl rfl) rfl ?_
        refine TL.q rfl .u (Ex.pn rfl rfl rfl) rfl ?_
        refine TL.run ft_cursitorlaw04_ok [22] rfl rfl ?_
        refine TL.no rfl (.gn rfl rfl rfl) rfl ?_
        refine TL.no rfl (.gn rfl rfl rfl) rfl ?_
        refine TL.no rfl (.gn rfl rfl rfl) rfl ?_
        refine TL.q rfl .u (Ex.pn rfl rfl rfl) rfl ?_
        refine TL.run ft_cursitorlaw04_ok [27] rfl rfl ?_
        obtain rfl := Option.some.inj h
        exact TL.nil (X.seq (T.ret (X.done1 [2] Try.results55 (RV.tm rfl) ⟨rfl, rfl, rfl⟩ (by rfl) (.inl rfl))))
    · replace h := ifF c18 h
      refine TL.run ft_cursitorlaw04_ok [6] rfl rfl ?_
      refine TL.no rfl (.gn rfl rfl (decide_eq_false c18)) rfl ?_
      refine TL.no rfl (.gn rfl rfl (decide_eq_false c18)) rfl ?_
      refine TL.q rfl .u (Ex.pn rfl (decide_eq_false c18) rfl) rfl ?_
      refine TL.run ft_cursitorlaw04_ok [10] rfl rfl ?_
      refine TL.no rfl (.gn rfl rfl rfl) rfl ?_
      refine TL.no rfl (.gn rfl rfl rfl) rfl ?_
      refine TL.no rfl (.gn rfl rfl rfl) rfl ?_
      refine TL.no rfl (.gn rfl rfl rfl) rfl ?_
      refine TL.q rfl .u (Ex.pn rfl rfl rfl) rfl ?_
      refine TL.run ft_cursitorlaw04_ok [16] rfl rfl ?_
      refine TL.no rfl (.gn rfl rfl rfl) rfl ?_
      refine TL.no rfl (.gn rfl rfl rfl) rfl ?_
      refine TL.no rfl (.gn rfl rfl rfl) rfl ?_
      refine TL.no rfl (.gn rfl rfl rfl) rfl ?_
      refine TL.q rfl .u (Ex.pn rfl rfl rfl) rfl ?_
      refine TL.run ft_cursitorlaw04_ok [22] rfl rfl ?_
      refine TL.no rfl (.gn rfl rfl rfl) rfl ?_
      refine TL.no rfl (.gn rfl rfl rfl) rfl ?_
      refine TL.no rfl (.gn rfl rfl rfl) rfl ?_
      refine TL.q rfl .u (Ex.pn rfl rfl rfl) rfl ?_
      refine TL.run ft_cursitorlaw04_ok [27] rfl rfl ?_
      obtain rfl := Option.some.inj h
      exact TL.nil (X.seq (T.ret (X.done1 [2] Try.results55 (RV.tm rfl) ⟨rfl, rfl, rfl⟩ (by rfl) (.inl rfl))))
  · replace h := ifF c17 h
    refine TL.run ft_cursitorlaw04_ok [0, 1, 2] rfl rfl ?_
    refine TL.no rfl (.gn rfl rfl (decide_eq_false c17)) rfl ?_
    refine TL.no rfl (.gn rfl rfl (decide_eq_false c17)) rfl ?_
    refine TL.q rfl .u (Ex.pn rfl (decide_eq_false c17) rfl) rfl ?_
    refine TL.run ft_cursitorlaw04_ok [6] rfl rfl ?_
    refine TL.no rfl (.gn rfl rfl rfl) rfl ?_
    refine TL.no rfl (.gn rfl rfl rfl) rfl ?_
    refine TL.q rfl .u (Ex.pn rfl rfl rfl) rfl ?_
    refine TL.run ft_cursitorlaw04_ok [10] rfl rfl ?_
    refine TL.no rfl (.gn rfl rfl rfl) rfl ?_
    refine TL.no rfl (.gn rfl rfl rfl) rfl ?_
    refine TL.no rfl (.gn rfl rfl rfl) rfl ?_
    refine TL.no rfl (.gn rfl rfl rfl) rfl ?_
    refine TL.q rfl .u (Ex.pn rfl rfl rfl) rfl ?_
    refine TL.run ft_cursitorlaw04_ok [16] rfl rfl ?_
    refine TL.no rfl (.gn rfl rfl rfl) rfl ?_
    refine TL.no rfl (.gn rfl rfl rfl) rfl ?_
    refine TL.no rfl (.gn rfl rfl rfl) rfl ?_
    refine TL.no rfl (.gn rfl rfl rfl) rfl ?_
    refine TL.q rfl .u (Ex.pn rfl rfl rfl) rfl ?_
    refine TL.run ft_cursitorlaw04_ok [22] rfl rfl ?_
    refine TL.no rfl (.gn rfl rfl rfl) rfl ?_
    refine TL.no rfl (.gn rfl rfl rfl) rfl ?_
    refine TL.no rfl (.gn rfl rfl rfl) rfl ?_
    refine TL.q rfl .u (Ex.pn rfl rfl rfl) rfl ?_
    refine TL.run ft_cursitorlaw04_ok [27] rfl rfl ?_
    obtain rfl := Option.some.inj h
    exact TL.nil (X.seq (T.ret (X.done1 [2] Try.results55 (RV.tm rfl) ⟨rfl, rfl, rfl⟩ (by rfl) (.inl rfl))))
def f_l04_is (st : I) (a0 : Gt) (a1 : List UInt8) : Option (Bool × I) := if a0.err = 0 then (if a0.blob.null = true then (if a1 = a0.blob.data then ((gErr st).bind fun (x5, st6) => if x5 = 4 then some (true, st6) else some (false, st6)) else some (false, st)) else (if a1 = a0.blob.data then ((gErr st).bind fun (x10, st11) => if x10 = a0.err then ((gAt st11).bind fun (x14, st15) => if x14 = a0.many then some (true, st15) else some (false, st15)) else some (false, st11)) else some (false, st))) else (if a1 = a0.blob.data then ((gErr st).bind fun (x19, st20) => if x19 = a0.err then some (true, st20) else some (false, st20)) else some (false, st))
set_option maxRecDepth 100000 in
set_option maxHeartbeats 4000000 in
theorem f_l04_is_spec (g : Nat) (st : I) (a0 : Gt) (a1 : List UInt8) (r : Bool × I) (h : f_l04_is st a0 a1 = some r) : SpecX Try.prog 70 #[.agg #[.bool a0.blob.null, .string (bsOf a0.blob.data), .int .i64 a0.many, .int .i64 a0.err], .string (bsOf a1), .pointer (some ⟨g, 0, none⟩)] .triv (InR g st) (fun v A' N => v = .bool r.1 ∧ A' = InR g r.2 ∧ N = []) := by
  refine enterA Try.func70 rfl Try.ntmps70 rfl ?_
  intro F w hX
  unfold f_l04_is at h
  refine T.seq (T.region rfl ?_)
  refine TL.box rfl .u rfl rfl (fun b1 => ?_)
  refine TL.run ft_cursitorlaw04_ok [1] rfl rfl ?_
  refine TL.nil (X.seq (T.seq (T.seq (T.region rfl ?_))))
  refine TL.run ft_cursitorlaw04_ok [0] rfl rfl ?_
  refine TL.q rfl .u (Ex.b1 0 rfl Try.isAgg3 rfl rfl) rfl ?_
  by_cases c2 : a0.err = 0
  · replace h := ifT c2 h
    refine TL.run ft_cursitorlaw04_ok [2, 3] rfl rfl ?_
    refine TL.q rfl (.g rfl rfl (decide_eq_true c2)) (Ex.ft ft_cursitorlaw04_ok rfl) rfl ?_
    refine TL.q rfl (.g rfl rfl (decide_eq_true c2)) (Ex.ft ft_cursitorlaw04_ok rfl) rfl ?_
    refine TL.q rfl (.g rfl rfl (decide_eq_true c2)) (Ex.b1 0 rfl Try.isAgg4 rfl rfl) rfl ?_
    refine TL.q rfl .u (Ex.py rfl (decide_eq_true c2) rfl) rfl ?_
    by_cases c3 : a0.blob.null = true
    · replace h := ifT c3 h
      refine TL.nil (X.seq ?_)
      refine T.yes rfl c3 ?_
      refine T.region rfl ?_
      refine TL.run ft_cursitorlaw04_ok [0] rfl rfl ?_
      refine TL.st0 (cs' := #[.bool a0.blob.null, .string (bsOf a0.blob.data), .int .i64 a0.many, .int .i64 4]) rfl .u rfl rfl Try.sizeOf3 rfl rfl rfl rfl ?_
      refine TL.nil (X.seq (T.seq (T.draw (.q 0 (.q 1 (.q 2 (.q 3 (.q 4 (.q 5 (.q 6 (.q 8 (.q 9 (.e 7 (.q 10 (.q 11 (.q 12 (.q 13 (.q 14 (.q 15 (.q 16 (.q 17 (.q 19 (.q 20 (.e 18 (.q 21 (.q 22 (.q 23 (.q 24 .nil))))))))))))))))))))))))) [0] rfl mix_cursitorlaw04 (NoP.seq np_post) (by kernel_rfl) ?_)))
      refine TD.run ft_cursitorlaw04_ok [0, 1, 2] rfl rfl ?_
      refine TD.q rfl .u (Ex.b1 0 rfl Try.isAgg9 rfl rfl) rfl ?_
      refine TD.q rfl .u (Ex.sEq rfl rfl) rfl ?_
      by_cases c4 : a1 = a0.blob.data
      · replace h := ifT c4 h
        refine TD.run ft_cursitorlaw04_ok [5] rfl rfl ?_
        refine TD.q rfl (.g rfl rfl (decide_eq_true c4)) (Ex.ft ft_cursitorlaw04_ok rfl) rfl ?_
        refine TD.q rfl (.g rfl rfl (decide_eq_true c4)) (Ex.ft ft_cursitorlaw04_ok rfl) rfl ?_
        refine TD.q rfl (.g rfl rfl (decide_eq_true c4)) (Ex.b1 0 rfl Try.isAgg3 rfl rfl) rfl ?_
        obtain ⟨⟨x5, st6⟩, hx7, h⟩ := Option.bind_eq_some_iff.1 h
        try dsimp only at h
        refine TD.c1 rfl (.g rfl rfl (decide_eq_true c4)) (.fn Try.call29 rfl) (gErr_spec g st _ hx7) (fun _ hs => (Src.triv _)) rfl [0] (rfl) ?_
        refine TD.q rfl (.g rfl rfl (decide_eq_true c4)) (Ex.ft ft_cursitorlaw04_ok rfl) rfl ?_
        refine TD.q rfl .u (Ex.py rfl (decide_eq_true c4) rfl) rfl ?_
        by_cases c8 : x5 = 4
        · replace h := ifT c8 h
          refine TD.run ft_cursitorlaw04_ok [12] rfl rfl ?_
          refine TD.q rfl (.g rfl rfl (decide_eq_true c8)) (Ex.ft ft_cursitorlaw04_ok rfl) rfl ?_
          refine TD.q rfl (.g rfl rfl (decide_eq_true c8)) (Ex.b1 0 rfl Try.isAgg3 rfl rfl) rfl ?_
          refine TD.q rfl (.g rfl rfl (decide_eq_true c8)) (Ex.ft ft_cursitorlaw04_ok rfl) rfl ?_
          refine TD.q rfl (.g rfl rfl (decide_eq_true c8)) (Ex.ft ft_cursitorlaw04_ok rfl) rfl ?_
          refine TD.no rfl (.gn rfl rfl (bn_t (decide_eq_false (show ¬ (4 = 0) by omega)))) rfl ?_
          refine TD.no rfl (.gn rfl rfl (bn_t (decide_eq_false (show ¬ (4 = 0) by omega)))) rfl ?_
          refine TD.no rfl (.gn rfl rfl (bn_t (decide_eq_false (show ¬ (4 = 0) by omega)))) rfl ?_
          refine TD.noe rfl (.gn rfl rfl (bn_t (decide_eq_false (show ¬ (4 = 0) by omega)))) rfl [0] rfl ?_
          refine TD.no rfl (.gn rfl rfl (bn_t (decide_eq_false (show ¬ (4 = 0) by omega)))) rfl ?_
          refine TD.q rfl (.g rfl rfl (decide_eq_true c8)) (Ex.py rfl (bn_t (decide_eq_false (show ¬ (4 = 0) by omega))) rfl) rfl ?_
          refine TD.q rfl .u (Ex.py rfl (decide_eq_true c8) rfl) rfl ?_
          refine TD.run ft_cursitorlaw04_ok [24] rfl rfl ?_
          obtain rfl := Option.some.inj h
          exact TD.nil (X.seq (T.ret (X.done1 [1] Try.results70 (RV.tm rfl) ⟨rfl, rfl, rfl⟩ (by rfl) (.inl rfl))))
        · replace h := ifF c8 h
          refine TD.run ft_cursitorlaw04_ok [12] rfl rfl ?_
          refine TD.no rfl (.gn rfl rfl (decide_eq_false c8)) rfl ?_
          refine TD.no rfl (.gn rfl rfl (decide_eq_false c8)) rfl ?_
          refine TD.no rfl (.gn rfl rfl (decide_eq_false c8)) rfl ?_
          refine TD.no rfl (.gn rfl rfl (decide_eq_false c8)) rfl ?_
          refine TD.no rfl (.gu rfl rfl) rfl ?_
          refine TD.no rfl (.gu rfl rfl) rfl ?_
          refine TD.no rfl (.gu rfl rfl) rfl ?_
          refine TD.noe rfl (.gu rfl rfl) rfl [0] rfl ?_
          refine TD.no rfl (.gu rfl rfl) rfl ?_
          refine TD.no rfl (.gn rfl rfl (decide_eq_false c8)) rfl ?_
          refine TD.q rfl .u (Ex.pn rfl (decide_eq_false c8) rfl) rfl ?_
          refine TD.run ft_cursitorlaw04_ok [24] rfl rfl ?_
          obtain rfl := Option.some.inj h
          exact TD.nil (X.seq (T.ret (X.done1 [1] Try.results70 (RV.tm rfl) ⟨rfl, rfl, rfl⟩ (by rfl) (.inl rfl))))
      · replace h := ifF c4 h
        refine TD.run ft_cursitorlaw04_ok [5] rfl rfl ?_
        refine TD.no rfl (.gn rfl rfl (decide_eq_false c4)) rfl ?_
        refine TD.no rfl (.gn rfl rfl (decide_eq_false c4)) rfl ?_
        refine TD.no rfl (.gn rfl rfl (decide_eq_false c4)) rfl ?_
        refine TD.noe rfl (.gn rfl rfl (decide_eq_false c4)) rfl [0] rfl ?_
        refine TD.no rfl (.gn rfl rfl (decide_eq_false c4)) rfl ?_
        refine TD.q rfl .u (Ex.pn rfl (decide_eq_false c4) rfl) rfl ?_
        refine TD.run ft_cursitorlaw04_ok [12] rfl rfl ?_
        refine TD.no rfl (.gn rfl rfl rfl) rfl ?_
        refine TD.no rfl (.gn rfl rfl rfl) rfl ?_
        refine TD.no rfl (.gn rfl rfl rfl) rfl ?_
        refine TD.no rfl (.gn rfl rfl rfl) rfl ?_
        refine TD.no rfl (.gu rfl rfl) rfl ?_
        refine TD.no rfl (.gu rfl rfl) rfl ?_
        refine TD.no rfl (.gu rfl rfl) rfl ?_
        refine TD.noe rfl (.gu rfl rfl) rfl [0] rfl ?_
        refine TD.no rfl (.gu rfl rfl) rfl ?_
        refine TD.no rfl (.gn rfl rfl rfl) rfl ?_
        refine TD.q rfl .u (Ex.pn rfl rfl rfl) rfl ?_
        refine TD.run ft_cursitorlaw04_ok [24] rfl rfl ?_
        obtain rfl := Option.some.inj h
        exact TD.nil (X.seq (T.ret (X.done1 [1] Try.results70 (RV.tm rfl) ⟨rfl, rfl, rfl⟩ (by rfl) (.inl rfl))))
    · replace h := ifF c3 h
      replace c3 := eq_false_of_ne_true c3
      refine TL.nil (X.seq ?_)
      refine T.no rfl c3 ?_
      refine T.skip (X.seq (T.seq (T.draw (.q 0 (.q 1 (.q 2 (.q 3 (.q 4 (.q 5 (.q 6 (.q 8 (.q 9 (.e 7 (.q 10 (.q 11 (.q 12 (.q 13 (.q 14 (.q 15 (.q 16 (.q 17 (.q 19 (.q 20 (.e 18 (.q 21 (.q 22 (.q 23 (.q 24 .nil))))))))))))))))))))))))) [0] rfl mix_cursitorlaw04 (NoP.seq np_post) (by kernel_rfl) ?_)))
      refine TD.run ft_cursitorlaw04_ok [0, 1, 2] rfl rfl ?_
      refine TD.q rfl .u (Ex.b1 0 rfl Try.isAgg9 rfl rfl) rfl ?_
      refine TD.q rfl .u (Ex.sEq rfl rfl) rfl ?_
      by_cases c9 : a1 = a0.blob.data
      · replace h := ifT c9 h
        refine TD.run ft_cursitorlaw04_ok [5] rfl rfl ?_
        refine TD.q rfl (.g rfl rfl (decide_eq_true c9)) (Ex.ft ft_cursitorlaw04_ok rfl) rfl ?_
        refine TD.q rfl (.g rfl rfl (decide_eq_true c9)) (Ex.ft ft_cursitorlaw04_ok rfl) rfl ?_
        refine TD.q rfl (.g rfl rfl (decide_eq_true c9)) (Ex.b1 0 rfl Try.isAgg3 rfl rfl) rfl ?_
        obtain ⟨⟨x10, st11⟩, hx12, h⟩ := Option.bind_eq_some_iff.1 h
        try dsimp only at h
        refine TD.c1 rfl (.g rfl rfl (decide_eq_true c9)) (.fn Try.call29 rfl) (gErr_spec g st _ hx12) (fun _ hs => (Src.triv _)) rfl [0] (rfl) ?_
        refine TD.q rfl (.g rfl rfl (decide_eq_true c9)) (Ex.ft ft_cursitorlaw04_ok rfl) rfl ?_
        refine TD.q rfl .u (Ex.py rfl (decide_eq_true c9) rfl) rfl ?_
        by_cases c13 : x10 = a0.err
        · replace h := ifT c13 h
          refine TD.run ft_cursitorlaw04_ok [12] rfl rfl ?_
          refine TD.q rfl (.g rfl rfl (decide_eq_true c13)) (Ex.ft ft_cursitorlaw04_ok rfl) rfl ?_
          refine TD.q rfl (.g rfl rfl (decide_eq_true c13)) (Ex.b1 0 rfl Try.isAgg3 rfl rfl) rfl ?_
          refine TD.q rfl (.g rfl rfl (decide_eq_true c13)) (Ex.ft ft_cursitorlaw04_ok rfl) rfl ?_
          refine TD.q rfl (.g rfl rfl (decide_eq_true c13)) (Ex.ft ft_cursitorlaw04_ok rfl) rfl ?_
          refine TD.q rfl (.g rfl rfl (bn_f (decide_eq_true c2))) (Ex.ft ft_cursitorlaw04_ok rfl) rfl ?_
          refine TD.q rfl (.g rfl rfl (bn_f (decide_eq_true c2))) (Ex.ft ft_cursitorlaw04_ok rfl) rfl ?_
          refine TD.q rfl (.g rfl rfl (bn_f (decide_eq_true c2))) (Ex.b1 0 rfl Try.isAgg3 rfl rfl) rfl ?_
          obtain ⟨⟨x14, st15⟩, hx16, h⟩ := Option.bind_eq_some_iff.1 h
          try dsimp only at h
          refine TD.c1 rfl (.g rfl rfl (bn_f (decide_eq_true c2))) (.fn Try.call33 rfl) (gAt_spec g st11 _ hx16) (fun _ hs => (Src.triv _)) rfl [0] (rfl) ?_
          refine TD.q rfl (.g rfl rfl (bn_f (decide_eq_true c2))) (Ex.ft ft_cursitorlaw04_ok rfl) rfl ?_
          refine TD.q rfl (.g rfl rfl (decide_eq_true c13)) (Ex.pn rfl (bn_f (decide_eq_true c2)) rfl) rfl ?_
          refine TD.q rfl .u (Ex.py rfl (decide_eq_true c13) rfl) rfl ?_
          refine TD.run ft_cursitorlaw04_ok [24] rfl rfl ?_
          by_cases c17 : x14 = a0.many
          · replace h := ifT c17 h
            obtain rfl := Option.some.inj h
            exact TD.nil (X.seq (T.ret (X.done1 [1] Try.results70 (RV.tm (v := .bool true) (congrArg (fun b => some (Value.bool b)) (decide_eq_true c17))) ⟨rfl, rfl, rfl⟩ (by rfl) (.inl rfl))))
          · replace h := ifF c17 h
            obtain rfl := Option.some.inj h
            exact TD.nil (X.seq (T.ret (X.done1 [1] Try.results70 (RV.tm (v := .bool false) (congrArg (fun b => some (Value.bool b)) (decide_eq_false c17))) ⟨rfl, rfl, rfl⟩ (by rfl) (.inl rfl))))
        · replace h := ifF c13 h
          refine TD.run ft_cursitorlaw04_ok [12] rfl rfl ?_
          refine TD.no rfl (.gn rfl rfl (decide_eq_false c13)) rfl ?_
          refine TD.no rfl (.gn rfl rfl (decide_eq_false c13)) rfl ?_
          refine TD.no rfl (.gn rfl rfl (decide_eq_false c13)) rfl ?_
          refine TD.no rfl (.gn rfl rfl (decide_eq_false c13)) rfl ?_
          refine TD.no rfl (.gu rfl rfl) rfl ?_
          refine TD.no rfl (.gu rfl rfl) rfl ?_
          refine TD.no rfl (.gu rfl rfl) rfl ?_
          refine TD.noe rfl (.gu rfl rfl) rfl [0] rfl ?_
          refine TD.no rfl (.gu rfl rfl) rfl ?_
          refine TD.no rfl (.gn rfl rfl (decide_eq_false c13)) rfl ?_
          refine TD.q rfl .u (Ex.pn rfl (decide_eq_false c13) rfl) rfl ?_
          refine TD.run ft_cursitorlaw04_ok [24] rfl rfl ?_
          obtain rfl := Option.some.inj h
          exact TD.nil (X.seq (T.ret (X.done1 [1] Try.results70 (RV.tm rfl) ⟨rfl, rfl, rfl⟩ (by rfl) (.inl rfl))))
      · replace h := ifF c9 h
        refine TD.run ft_cursitorlaw04_ok [5] rfl rfl ?_
        refine TD.no rfl (.gn rfl rfl (decide_eq_false c9)) rfl ?_
        refine TD.no rfl (.gn rfl rfl (decide_eq_false c9)) rfl ?_
        refine TD.no rfl (.gn rfl rfl (decide_eq_false c9)) rfl ?_
        refine TD.noe rfl (.gn rfl rfl (decide_eq_false c9)) rfl [0] rfl ?_
        refine TD.no rfl (.gn rfl rfl (decide_eq_false c9)) rfl ?_
        refine TD.q rfl .u (Ex.pn rfl (decide_eq_false c9) rfl) rfl ?_
        refine TD.run ft_cursitorlaw04_ok [12] rfl rfl ?_
        refine TD.no rfl (.gn rfl rfl rfl) rfl ?_
        refine TD.no rfl (.gn rfl rfl rfl) rfl ?_
        refine TD.no rfl (.gn rfl rfl rfl) rfl ?_
        refine TD.no rfl (.gn rfl rfl rfl) rfl ?_
        refine TD.no rfl (.gu rfl rfl) rfl ?_
        refine TD.no rfl (.gu rfl rfl) rfl ?_
        refine TD.no rfl (.gu rfl rfl) rfl ?_
        refine TD.noe rfl (.gu rfl rfl) rfl [0] rfl ?_
        refine TD.no rfl (.gu rfl rfl) rfl ?_
        refine TD.no rfl (.gn rfl rfl rfl) rfl ?_
        refine TD.q rfl .u (Ex.pn rfl rfl rfl) rfl ?_
        refine TD.run ft_cursitorlaw04_ok [24] rfl rfl ?_
        obtain rfl := Option.some.inj h
        exact TD.nil (X.seq (T.ret (X.done1 [1] Try.results70 (RV.tm rfl) ⟨rfl, rfl, rfl⟩ (by rfl) (.inl rfl))))
  · replace h := ifF c2 h
    refine TL.run ft_cursitorlaw04_ok [2, 3] rfl rfl ?_
    refine TL.no rfl (.gn rfl rfl (decide_eq_false c2)) rfl ?_
    refine TL.no rfl (.gn rfl rfl (decide_eq_false c2)) rfl ?_
    refine TL.no rfl (.gn rfl rfl (decide_eq_false c2)) rfl ?_
    refine TL.q rfl .u (Ex.pn rfl (decide_eq_false c2) rfl) rfl ?_
    refine TL.nil (X.seq ?_)
    refine T.no rfl rfl ?_
    refine T.skip (X.seq (T.seq (T.draw (.q 0 (.q 1 (.q 2 (.q 3 (.q 4 (.q 5 (.q 6 (.q 8 (.q 9 (.e 7 (.q 10 (.q 11 (.q 12 (.q 13 (.q 14 (.q 15 (.q 16 (.q 17 (.q 19 (.q 20 (.e 18 (.q 21 (.q 22 (.q 23 (.q 24 .nil))))))))))))))))))))))))) [0] rfl mix_cursitorlaw04 (NoP.seq np_post) (by kernel_rfl) ?_)))
    refine TD.run ft_cursitorlaw04_ok [0, 1, 2] rfl rfl ?_
    refine TD.q rfl .u (Ex.b1 0 rfl Try.isAgg9 rfl rfl) rfl ?_
    refine TD.q rfl .u (Ex.sEq rfl rfl) rfl ?_
    by_cases c18 : a1 = a0.blob.data
    · replace h := ifT c18 h
      refine TD.run ft_cursitorlaw04_ok [5] rfl rfl ?_
      refine TD.q rfl (.g rfl rfl (decide_eq_true c18)) (Ex.ft ft_cursitorlaw04_ok rfl) rfl ?_
      refine TD.q rfl (.g rfl rfl (decide_eq_true c18)) (Ex.ft ft_cursitorlaw04_ok rfl) rfl ?_
      refine TD.q rfl (.g rfl rfl (decide_eq_true c18)) (Ex.b1 0 rfl Try.isAgg3 rfl rfl) rfl ?_
      obtain ⟨⟨x19, st20⟩, hx21, h⟩ := Option.bind_eq_some_iff.1 h
      try dsimp only at h
      refine TD.c1 rfl (.g rfl rfl (decide_eq_true c18)) (.fn Try.call29 rfl) (gErr_spec g st _ hx21) (fun _ hs => (Src.triv _)) rfl [0] (rfl) ?_
      refine TD.q rfl (.g rfl rfl (decide_eq_true c18)) (Ex.ft ft_cursitorlaw04_ok rfl) rfl ?_
      refine TD.q rfl .u (Ex.py rfl (decide_eq_true c18) rfl) rfl ?_
      by_cases c22 : x19 = a0.err
      · replace h := ifT c22 h
        refine TD.run ft_cursitorlaw04_ok [12] rfl rfl ?_
        refine TD.q rfl (.g rfl rfl (decide_eq_true c22)) (Ex.ft ft_cursitorlaw04_ok rfl) rfl ?_
        refine TD.q rfl (.g rfl rfl (decide_eq_true c22)) (Ex.b1 0 rfl Try.isAgg3 rfl rfl) rfl ?_
        refine TD.q rfl (.g rfl rfl (decide_eq_true c22)) (Ex.ft ft_cursitorlaw04_ok rfl) rfl ?_
        refine TD.q rfl (.g rfl rfl (decide_eq_true c22)) (Ex.ft ft_cursitorlaw04_ok rfl) rfl ?_
        refine TD.no rfl (.gn rfl rfl (bn_t (decide_eq_false c2))) rfl ?_
        refine TD.no rfl (.gn rfl rfl (bn_t (decide_eq_false c2))) rfl ?_
        refine TD.no rfl (.gn rfl rfl (bn_t (decide_eq_false c2))) rfl ?_
        refine TD.noe rfl (.gn rfl rfl (bn_t (decide_eq_false c2))) rfl [0] rfl ?_
        refine TD.no rfl (.gn rfl rfl (bn_t (decide_eq_false c2))) rfl ?_
        refine TD.q rfl (.g rfl rfl (decide_eq_true c22)) (Ex.py rfl (bn_t (decide_eq_false c2)) rfl) rfl ?_
        refine TD.q rfl .u (Ex.py rfl (decide_eq_true c22) rfl) rfl ?_
        refine TD.run ft_cursitorlaw04_ok [24] rfl rfl ?_
        obtain rfl := Option.some.inj h
        exact TD.nil (X.seq (T.ret (X.done1 [1] Try.results70 (RV.tm rfl) ⟨rfl, rfl, rfl⟩ (by rfl) (.inl rfl))))
      · replace h := ifF c22 h
        refine TD.run ft_cursitorlaw04_ok [12] rfl rfl ?_
        refine TD.no rfl (.gn rfl rfl (decide_eq_false c22)) rfl ?_
        refine TD.no rfl (.gn rfl rfl (decide_eq_false c22)) rfl ?_
        refine TD.no rfl (.gn rfl rfl (decide_eq_false c22)) rfl ?_
        refine TD.no rfl (.gn rfl rfl (decide_eq_false c22)) rfl ?_
        refine TD.no rfl (.gu rfl rfl) rfl ?_
        refine TD.no rfl (.gu rfl rfl) rfl ?_
        refine TD.no rfl (.gu rfl rfl) rfl ?_
        refine TD.noe rfl (.gu rfl rfl) rfl [0] rfl ?_
        refine TD.no rfl (.gu rfl rfl) rfl ?_
        refine TD.no rfl (.gn rfl rfl (decide_eq_false c22)) rfl ?_
        refine TD.q rfl .u (Ex.pn rfl (decide_eq_false c22) rfl) rfl ?_
        refine TD.run ft_cursitorlaw04_ok [24] rfl rfl ?_
        obtain rfl := Option.some.inj h
        exact TD.nil (X.seq (T.ret (X.done1 [1] Try.results70 (RV.tm rfl) ⟨rfl, rfl, rfl⟩ (by rfl) (.inl rfl))))
    · replace h := ifF c18 h
      refine TD.run ft_cursitorlaw04_ok [5] rfl rfl ?_
      refine TD.no rfl (.gn rfl rfl (decide_eq_false c18)) rfl ?_
      refine TD.no rfl (.gn rfl rfl (decide_eq_false c18)) rfl ?_
      refine TD.no rfl (.gn rfl rfl (decide_eq_false c18)) rfl ?_
      refine TD.noe rfl (.gn rfl rfl (decide_eq_false c18)) rfl [0] rfl ?_
      refine TD.no rfl (.gn rfl rfl (decide_eq_false c18)) rfl ?_
      refine TD.q rfl .u (Ex.pn rfl (decide_eq_false c18) rfl) rfl ?_
      refine TD.run ft_cursitorlaw04_ok [12] rfl rfl ?_
      refine TD.no rfl (.gn rfl rfl rfl) rfl ?_
      refine TD.no rfl (.gn rfl rfl rfl) rfl ?_
      refine TD.no rfl (.gn rfl rfl rfl) rfl ?_
      refine TD.no rfl (.gn rfl rfl rfl) rfl ?_
      refine TD.no rfl (.gu rfl rfl) rfl ?_
      refine TD.no rfl (.gu rfl rfl) rfl ?_
      refine TD.no rfl (.gu rfl rfl) rfl ?_
      refine TD.noe rfl (.gu rfl rfl) rfl [0] rfl ?_
      refine TD.no rfl (.gu rfl rfl) rfl ?_
      refine TD.no rfl (.gn rfl rfl rfl) rfl ?_
      refine TD.q rfl .u (Ex.pn rfl rfl rfl) rfl ?_
      refine TD.run ft_cursitorlaw04_ok [24] rfl rfl ?_
      obtain rfl := Option.some.inj h
      exact TD.nil (X.seq (T.ret (X.done1 [1] Try.results70 (RV.tm rfl) ⟨rfl, rfl, rfl⟩ (by rfl) (.inl rfl))))
end Go.Proofs.Ytchfkhdifmpbkaa.Sl
