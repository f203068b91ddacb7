/- markWrites_holds: part 2. -/
import Derived.Test.YtagbblaegdedpaaK1
namespace Go.Proofs.Ytagbblaegdedpaa.Sl
open Go.RowKit
set_option linter.unusedVariables false
set_option linter.unusedSimpArgs false
set_option maxRecDepth 100000
def ft_cursitorref01 : FTab := []
theorem ft_cursitorref01_ok : (ft_cursitorref01).OK Try.prog := trivial
theorem mix_cursitorref01 : Try.prog.follows .mixedOrders = true := by kernel_rfl
def f_r01_Same_l1 (a0 : List Int) (a1 : List Int) : Nat → Bool → Nat → Option (Lp Bool (Bool × Nat))
  | 0, _, _ => none
  | m11 + 1, y6, k7 => if (k7 : Int) < (a0.length : Int) then ((a0[k7]?).bind fun x16 => (a1[k7]?).bind fun x19 => if x16 = x19 then (if -9223372036854775808 ≤ ((k7 : Int) + 1) ∧ ((k7 : Int) + 1) ≤ 9223372036854775807 then (f_r01_Same_l1 a0 a1 m11 y6 (k7 + 1)) else none) else some (Lp.ret false)) else (some (Lp.go (y6, k7)))
def f_r01_Same (a0 : List Int) (a1 : List Int) : Option (Bool) := if (a0.length : Int) = (a1.length : Int) then ((f_r01_Same_l1 a0 a1 (((a0.length : Int)).toNat + 1) false 0).bind fun e => match e with | .ret r => some r | .go (y24, k25) => some true) else some false
set_option maxRecDepth 100000 in
set_option maxHeartbeats 4000000 in
theorem f_r01_Same_spec (a0 : List Int) (A1 : Option Addr) (c2 : Nat) (a1 : List Int) (A3 : Option Addr) (c4 : Nat) (r : Bool) (h : f_r01_Same a0 a1 = some r) : SpecX Try.prog 180 #[.slice A1 a0.length c2, .slice A3 a1.length c4] (RX.and (RX.of (sliceRd 1 intE) [.slice A1 a0.length c2] a0) (RX.of (sliceRd 1 intE) [.slice A3 a1.length c4] a1)) (EmpR) (fun v A' N => v = .bool r ∧ A' = EmpR ∧ N = []) := by
  refine enterA Try.func180 rfl Try.ntmps180 rfl ?_
  intro F w hX
  unfold f_r01_Same at h
  refine T.seq (T.region rfl ?_)
  refine TL.run ft_cursitorref01_ok [0] rfl rfl ?_
  refine TL.nil (X.seq (T.seq (T.seq (T.region rfl ?_))))
  refine TL.run ft_cursitorref01_ok [0] rfl rfl ?_
  refine TL.q rfl .u (Ex.lenS rfl Try.runUnderlying160) rfl ?_
  refine TL.run ft_cursitorref01_ok [2] rfl rfl ?_
  refine TL.q rfl .u (Ex.lenS rfl Try.runUnderlying160) rfl ?_
  refine TL.run ft_cursitorref01_ok [4] rfl rfl ?_
  by_cases c5 : (a0.length : Int) = (a1.length : Int)
  · replace h := ifT c5 h
    refine TL.nil (X.seq ?_)
    refine T.no rfl (bn_f (decide_eq_true c5)) ?_
    refine T.skip (X.seq (T.seq (T.seq (T.region rfl ?_))))
    refine TL.run ft_cursitorref01_ok [0] rfl rfl ?_
    refine TL.nil (X.seq (T.block ?_))
    obtain ⟨E8, hE9, hO10⟩ := Option.bind_eq_some_iff.1 h
    refine T.lp (fun m e Rs => ∃ (y6 : Bool) (k7 : Nat), e = [(0, .slice A1 a0.length c2), (1, .slice A3 a1.length c4), (4, .bool y6), (5, .int .i64 (k7 : Int))] ∧ Rs = [EmpR] ∧ f_r01_Same_l1 a0 a1 m y6 k7 = some E8) (((a0.length : Int)).toNat + 1) [0] ⟨false, 0, rfl, rfl, by exact hE9⟩ (by rfl) (by rfl) ?_
    rintro m11 _ _ ⟨y6, k7, rfl, rfl, hl13⟩
    clear hE9 h
    cases m11 with
    | zero =>
      rw [f_r01_Same_l1] at hl13
      cases hl13
    | succ m11 =>
      have h := hl13
      clear hl13
      rw [f_r01_Same_l1] at h
      refine T.seq (T.seq (T.region rfl ?_))
      refine TL.run ft_cursitorref01_ok [0, 1] rfl rfl ?_
      refine TL.q rfl .u (Ex.lenS rfl Try.runUnderlying160) rfl ?_
      refine TL.run ft_cursitorref01_ok [3] rfl rfl ?_
      by_cases c15 : (k7 : Int) < (a0.length : Int)
      · replace h := ifT c15 h
        refine TL.nil (X.seq ?_)
        refine T.yes rfl (decide_eq_true c15) ?_
        refine T.skip (X.seq (T.seq (T.block (T.seq (T.draw (.q 0 (.q 1 (.q 2 (.q 3 (.q 4 (.q 5 (.q 6 (.q 7 (.q 8 .nil))))))))) [0] rfl mix_cursitorref01 (NoP.seq (NoP.blk (NoP.seq (NoP.seq (NoP.blk (NoP.seq np_post)))))) (by kernel_rfl) ?_)))))
        obtain ⟨x16, hx17, h⟩ := Option.bind_eq_some_iff.1 h
        obtain ⟨gz18, oz18, rfl, z18cs, z18cl, z18cc, z18nf, z18r⟩ := RX.elem (by decide) (RX.reads_left hX) hx17
        obtain ⟨z18S, z18r, z18rr⟩ := z18r
        obtain rfl : z18cs = [.int .i64 x16] := z18r
        refine TD.run ft_cursitorref01_ok [0, 1] rfl rfl ?_
        refine TD.q rfl .u (Ex.ixS (k := k7) rfl rfl rfl Try.runUnderlying160 Try.sizeOf3 (List.getElem?_eq_some_iff.1 hx17).1) rfl ?_
        refine TD.q rfl .u (Ex.o1 0 rfl Try.isAgg3 z18nf z18cc rfl rfl) rfl ?_
        obtain ⟨x19, hx20, h⟩ := Option.bind_eq_some_iff.1 h
        obtain ⟨gz21, oz21, rfl, z21cs, z21cl, z21cc, z21nf, z21r⟩ := RX.elem (by decide) (RX.reads_right hX) hx20
        obtain ⟨z21S, z21r, z21rr⟩ := z21r
        obtain rfl : z21cs = [.int .i64 x19] := z21r
        refine TD.run ft_cursitorref01_ok [4, 5] rfl rfl ?_
        refine TD.q rfl .u (Ex.ixS (k := k7) rfl rfl rfl Try.runUnderlying160 Try.sizeOf3 (List.getElem?_eq_some_iff.1 hx20).1) rfl ?_
        refine TD.q rfl .u (Ex.o1 0 rfl Try.isAgg3 z21nf z21cc rfl rfl) rfl ?_
        refine TD.run ft_cursitorref01_ok [8] rfl rfl ?_
        by_cases c22 : x16 = x19
        · replace h := ifT c22 h
          refine TD.nil (X.seq ?_)
          refine T.no rfl (bn_f (decide_eq_true c22)) ?_
          refine T.skip (X.blk (X.seq (T.region rfl ?_)))
          replace h := guard_some h
          obtain ⟨c23, h⟩ := h
          refine TL.run ft_cursitorref01_ok [0] rfl rfl ?_
          refine TL.q rfl .u (Ex.add rfl rfl c23) rfl ?_
          refine TL.run ft_cursitorref01_ok [2] rfl rfl ?_
          exact TL.nil (X.back (m' := m11) [0] (by omega) ⟨y6, k7 + 1, rfl, rfl, h⟩ (by rfl) (by rfl))
        · replace h := ifF c22 h
          refine TD.nil (X.seq ?_)
          refine T.yes rfl (bn_t (decide_eq_false c22)) ?_
          refine T.seq (T.region rfl ?_)
          refine TL.run ft_cursitorref01_ok [0] rfl rfl ?_
          obtain rfl := Option.some.inj h
          replace h := hO10
          clear hO10
          try dsimp only at h
          obtain rfl := Option.some.inj h
          exact TL.nil (X.seq (T.ret (X.rb (X.rs (X.rs (X.rb (X.rs (X.done1 [0] Try.results180 (RV.tm rfl) ⟨rfl, rfl, rfl⟩ (by rfl) (.inl rfl)))))))))
      · replace h := ifF c15 h
        refine TL.nil (X.seq ?_)
        refine T.no rfl (decide_eq_false c15) ?_
        obtain rfl := Option.some.inj h
        replace h := hO10
        clear hO10
        try dsimp only at h
        refine T.exit (X.exs (X.exs (X.ex (X.seq (T.seq (T.region rfl ?_))))))
        refine TL.run ft_cursitorref01_ok [0] rfl rfl ?_
        obtain rfl := Option.some.inj h
        exact TL.nil (X.seq (T.ret (X.done1 [0] Try.results180 (RV.tm rfl) ⟨rfl, rfl, rfl⟩ (by rfl) (.inl rfl))))
  · replace h := ifF c5 h
    refine TL.nil (X.seq ?_)
    refine T.yes rfl (bn_t (decide_eq_false c5)) ?_
    refine T.seq (T.region rfl ?_)
    refine TL.run ft_cursitorref01_ok [0] rfl rfl ?_
    obtain rfl := Option.some.inj h
    exact TL.nil (X.seq (T.ret (X.rs (X.done1 [0] Try.results180 (RV.tm rfl) ⟨rfl, rfl, rfl⟩ (by rfl) (.inl rfl)))))
end Go.Proofs.Ytagbblaegdedpaa.Sl
namespace Go.Proofs.Ytagbblaegdedpaa.Sl
open Go.RowKit
set_option linter.unusedVariables false
set_option linter.unusedSimpArgs false
set_option maxRecDepth 100000
def ft_cursitorref14 : FTab := [(26, 0, 0), (26, 1, 1), (97, 0, 0), (97, 1, 1), (97, 2, 2), (97, 3, 3), (97, 4, 4), (97, 5, 5), (97, 6, 6), (147, 0, 0), (147, 1, 2), (147, 2, 3), (162, 0, 0), (162, 1, 1)]
theorem ft_cursitorref14_ok : (ft_cursitorref14).OK Try.prog := ⟨FOK.mk Try.runUnderlying26 rfl Try.sizeOf4 rfl, FOK.mk Try.runUnderlying26 rfl Try.sizeOf9 rfl, FOK.mk Try.runUnderlying97 rfl Try.sizeOf3 rfl, FOK.mk Try.runUnderlying97 rfl Try.sizeOf3 rfl, FOK.mk Try.runUnderlying97 rfl Try.sizeOf3 rfl, FOK.mk Try.runUnderlying97 rfl Try.sizeOf3 rfl, FOK.mk Try.runUnderlying97 rfl Try.sizeOf68 rfl, FOK.mk Try.runUnderlying97 rfl Try.sizeOf3 rfl, FOK.mk Try.runUnderlying97 rfl Try.sizeOf3 rfl, FOK.mk Try.runUnderlying147 rfl Try.sizeOf26 rfl, FOK.mk Try.runUnderlying147 rfl Try.sizeOf3 rfl, FOK.mk Try.runUnderlying147 rfl Try.sizeOf3 rfl, FOK.mk Try.runUnderlying162 rfl Try.sizeOf9 rfl, FOK.mk Try.runUnderlying162 rfl Try.sizeOf160 rfl, trivial⟩
theorem mix_cursitorref14 : Try.prog.follows .mixedOrders = true := by kernel_rfl
theorem bok_cursitorref14_26 : BOK Try.prog 26 #[.bool false, .string ⟨#[]⟩] [(0, 1), (1, 1)] := BOK.mk Try.zeroValue26 Try.runUnderlying26 (by intro w; simp)
def f_r14_less_l1 (a0 : List UInt8) (a1 : List UInt8) : Nat → Bool → Nat → Option (Lp Bool (Bool × Nat))
  | 0, _, _ => none
  | m6 + 1, y1, k2 => if (k2 : Int) < (a0.length : Int) then (if (k2 : Int) < (a1.length : Int) then ((a0[k2]?).bind fun ch12 => (a1[k2]?).bind fun ch14 => if (ch12.toNat : Int) = (ch14.toNat : Int) then (if -9223372036854775808 ≤ ((k2 : Int) + 1) ∧ ((k2 : Int) + 1) ≤ 9223372036854775807 then (f_r14_less_l1 a0 a1 m6 y1 (k2 + 1)) else none) else (if (ch12.toNat : Int) < (ch14.toNat : Int) then some (Lp.ret true) else some (Lp.ret false))) else (some (Lp.go (y1, k2)))) else (some (Lp.go (y1, k2)))
def f_r14_less (a0 : List UInt8) (a1 : List UInt8) : Option (Bool) := (f_r14_less_l1 a0 a1 (((a1.length : Int)).toNat + 1) false 0).bind fun e => match e with | .ret r => some r | .go (y21, k22) => (if (a0.length : Int) < (a1.length : Int) then some true else some false)
set_option maxRecDepth 100000 in
set_option maxHeartbeats 4000000 in
theorem f_r14_less_spec (a0 : List UInt8) (a1 : List UInt8) (r : Bool) (h : f_r14_less a0 a1 = some r) : SpecX Try.prog 184 #[.string (bsOf a0), .string (bsOf a1)] .triv (EmpR) (fun v A' N => v = .bool r ∧ A' = EmpR ∧ N = []) := by
  refine enterA Try.func184 rfl Try.ntmps184 rfl ?_
  intro F w hX
  unfold f_r14_less at h
  refine T.seq (T.region rfl ?_)
  refine TL.run ft_cursitorref14_ok [0] rfl rfl ?_
  refine TL.nil (X.seq (T.seq (T.seq (T.region rfl ?_))))
  refine TL.run ft_cursitorref14_ok [0] rfl rfl ?_
  refine TL.nil (X.seq (T.block ?_))
  obtain ⟨E3, hE4, hO5⟩ := Option.bind_eq_some_iff.1 h
  refine T.lp (fun m e Rs => ∃ (y1 : Bool) (k2 : Nat), e = [(0, .string (bsOf a0)), (1, .string (bsOf a1)), (4, .bool y1), (5, .int .i64 (k2 : Int))] ∧ Rs = [EmpR] ∧ f_r14_less_l1 a0 a1 m y1 k2 = some E3) (((a1.length : Int)).toNat + 1) [0] ⟨false, 0, rfl, rfl, by exact hE4⟩ (by rfl) (by rfl) ?_
  rintro m6 _ _ ⟨y1, k2, rfl, rfl, hl8⟩
  clear hE4 h
  cases m6 with
  | zero =>
    rw [f_r14_less_l1] at hl8
    cases hl8
  | succ m6 =>
    have h := hl8
    clear hl8
    rw [f_r14_less_l1] at h
    refine T.seq (T.seq (T.region rfl ?_))
    refine TL.run ft_cursitorref14_ok [0, 1] rfl rfl ?_
    refine TL.q rfl .u (Ex.lenB rfl Try.runUnderlying9) rfl ?_
    by_cases c10 : (k2 : Int) < (a0.length : Int)
    · replace h := ifT c10 h
      refine TL.run ft_cursitorref14_ok [3, 4] rfl rfl ?_
      refine TL.q rfl (.g rfl rfl (decide_eq_true c10)) (Ex.ft ft_cursitorref14_ok rfl) rfl ?_
      refine TL.q rfl (.g rfl rfl (decide_eq_true c10)) (Ex.ft ft_cursitorref14_ok rfl) rfl ?_
      refine TL.q rfl (.g rfl rfl (decide_eq_true c10)) (Ex.lenB rfl Try.runUnderlying9) rfl ?_
      refine TL.q rfl (.g rfl rfl (decide_eq_true c10)) (Ex.ft ft_cursitorref14_ok rfl) rfl ?_
      refine TL.q rfl .u (Ex.py rfl (decide_eq_true c10) rfl) rfl ?_
      by_cases c11 : (k2 : Int) < (a1.length : Int)
      · replace h := ifT c11 h
        refine TL.nil (X.seq ?_)
        refine T.yes rfl (decide_eq_true c11) ?_
        refine T.skip (X.seq (T.seq (T.block (T.seq (T.draw (.q 0 (.q 1 (.q 2 (.q 3 (.q 4 (.q 5 (.q 6 .nil))))))) [0] rfl mix_cursitorref14 (NoP.seq (NoP.blk (NoP.seq (NoP.seq (NoP.blk (NoP.seq np_post)))))) (by kernel_rfl) ?_)))))
        obtain ⟨ch12, hc13, h⟩ := Option.bind_eq_some_iff.1 h
        refine TD.run ft_cursitorref14_ok [0, 1] rfl rfl ?_
        refine TD.q rfl .u (Ex.sIx rfl rfl rfl Try.underlying9 hc13) rfl ?_
        obtain ⟨ch14, hc15, h⟩ := Option.bind_eq_some_iff.1 h
        refine TD.run ft_cursitorref14_ok [3, 4] rfl rfl ?_
        refine TD.q rfl .u (Ex.sIx rfl rfl rfl Try.underlying9 hc15) rfl ?_
        refine TD.run ft_cursitorref14_ok [6] rfl rfl ?_
        by_cases c16 : (ch12.toNat : Int) = (ch14.toNat : Int)
        · replace h := ifT c16 h
          refine TD.nil (X.seq ?_)
          refine T.no rfl (bn_f (decide_eq_true c16)) ?_
          refine T.skip (X.blk (X.seq (T.region rfl ?_)))
          replace h := guard_some h
          obtain ⟨c17, h⟩ := h
          refine TL.run ft_cursitorref14_ok [0] rfl rfl ?_
          refine TL.q rfl .u (Ex.add rfl rfl c17) rfl ?_
          refine TL.run ft_cursitorref14_ok [2] rfl rfl ?_
          exact TL.nil (X.back (m' := m6) [0] (by omega) ⟨y1, k2 + 1, rfl, rfl, h⟩ (by rfl) (by rfl))
        · replace h := ifF c16 h
          refine TD.nil (X.seq ?_)
          refine T.yes rfl (bn_t (decide_eq_false c16)) ?_
          refine T.seq (T.draw (.q 0 (.q 1 (.q 2 (.q 3 (.q 4 (.q 5 (.q 6 (.q 7 .nil)))))))) [0] rfl mix_cursitorref14 (NoP.seq (NoP.blk (NoP.seq (NoP.seq (NoP.blk (NoP.seq np_post)))))) (by kernel_rfl) ?_)
          refine TD.run ft_cursitorref14_ok [0, 1] rfl rfl ?_
          refine TD.q rfl .u (Ex.sIx rfl rfl rfl Try.underlying9 hc13) rfl ?_
          refine TD.run ft_cursitorref14_ok [3, 4] rfl rfl ?_
          refine TD.q rfl .u (Ex.sIx rfl rfl rfl Try.underlying9 hc15) rfl ?_
          refine TD.run ft_cursitorref14_ok [6, 7] rfl rfl ?_
          by_cases c18 : (ch12.toNat : Int) < (ch14.toNat : Int)
          · replace h := ifT c18 h
            obtain rfl := Option.some.inj h
            replace h := hO5
            clear hO5
            try dsimp only at h
            obtain rfl := Option.some.inj h
            exact TD.nil (X.seq (T.ret (X.rb (X.rs (X.rs (X.rb (X.rs (X.done1 [0] Try.results184 (RV.tm (v := .bool true) (congrArg (fun b => some (Value.bool b)) (decide_eq_true c18))) ⟨rfl, rfl, rfl⟩ (by rfl) (.inl rfl)))))))))
          · replace h := ifF c18 h
            obtain rfl := Option.some.inj h
            replace h := hO5
            clear hO5
            try dsimp only at h
            obtain rfl := Option.some.inj h
            exact TD.nil (X.seq (T.ret (X.rb (X.rs (X.rs (X.rb (X.rs (X.done1 [0] Try.results184 (RV.tm (v := .bool false) (congrArg (fun b => some (Value.bool b)) (decide_eq_false c18))) ⟨rfl, rfl, rfl⟩ (by rfl) (.inl rfl)))))))))
      · replace h := ifF c11 h
        refine TL.nil (X.seq ?_)
        refine T.no rfl (decide_eq_false c11) ?_
        obtain rfl := Option.some.inj h
        replace h := hO5
        clear hO5
        try dsimp only at h
        refine T.exit (X.exs (X.exs (X.ex (X.seq (T.seq (T.region rfl ?_))))))
        refine TL.run ft_cursitorref14_ok [0] rfl rfl ?_
        refine TL.q rfl .u (Ex.lenB rfl Try.runUnderlying9) rfl ?_
        refine TL.run ft_cursitorref14_ok [2] rfl rfl ?_
        refine TL.q rfl .u (Ex.lenB rfl Try.runUnderlying9) rfl ?_
        refine TL.run ft_cursitorref14_ok [4, 5] rfl rfl ?_
        by_cases c19 : (a0.length : Int) < (a1.length : Int)
        · replace h := ifT c19 h
          obtain rfl := Option.some.inj h
          exact TL.nil (X.seq (T.ret (X.done1 [0] Try.results184 (RV.tm (v := .bool true) (congrArg (fun b => some (Value.bool b)) (decide_eq_true c19))) ⟨rfl, rfl, rfl⟩ (by rfl) (.inl rfl))))
        · replace h := ifF c19 h
          obtain rfl := Option.some.inj h
          exact TL.nil (X.seq (T.ret (X.done1 [0] Try.results184 (RV.tm (v := .bool false) (congrArg (fun b => some (Value.bool b)) (decide_eq_false c19))) ⟨rfl, rfl, rfl⟩ (by rfl) (.inl rfl))))
    · replace h := ifF c10 h
      refine TL.run ft_cursitorref14_ok [3, 4] rfl rfl ?_
      refine TL.no rfl (.gn rfl rfl (decide_eq_false c10)) rfl ?_
      refine TL.no rfl (.gn rfl rfl (decide_eq_false c10)) rfl ?_
      refine TL.no rfl (.gn rfl rfl (decide_eq_false c10)) rfl ?_
      refine TL.no rfl (.gn rfl rfl (decide_eq_false c10)) rfl ?_
      refine TL.q rfl .u (Ex.pn rfl (decide_eq_false c10) rfl) rfl ?_
      refine TL.nil (X.seq ?_)
      refine T.no rfl rfl ?_
      obtain rfl := Option.some.inj h
      replace h := hO5
      clear hO5
      try dsimp only at h
      refine T.exit (X.exs (X.exs (X.ex (X.seq (T.seq (T.region rfl ?_))))))
      refine TL.run ft_cursitorref14_ok [0] rfl rfl ?_
      refine TL.q rfl .u (Ex.lenB rfl Try.runUnderlying9) rfl ?_
      refine TL.run ft_cursitorref14_ok [2] rfl rfl ?_
      refine TL.q rfl .u (Ex.lenB rfl Try.runUnderlying9) rfl ?_
      refine TL.run ft_cursitorref14_ok [4, 5] rfl rfl ?_
      by_cases c20 : (a0.length : Int) < (a1.length : Int)
      · replace h := ifT c20 h
        obtain rfl := Option.some.inj h
        exact TL.nil (X.seq (T.ret (X.done1 [0] Try.results184 (RV.tm (v := .bool true) (congrArg (fun b => some (Value.bool b)) (decide_eq_true c20))) ⟨rfl, rfl, rfl⟩ (by rfl) (.inl rfl))))
      · replace h := ifF c20 h
        obtain rfl := Option.some.inj h
        exact TL.nil (X.seq (T.ret (X.done1 [0] Try.results184 (RV.tm (v := .bool false) (congrArg (fun b => some (Value.bool b)) (decide_eq_false c20))) ⟨rfl, rfl, rfl⟩ (by rfl) (.inl rfl))))
def f_r14_Rise_l2 (x13 : Top) : Nat → Bool → Nat → Option (Lp Bool (Bool × Nat))
  | 0, _, _ => none
  | m39 + 1, y34, k35 => if (k35 : Int) < (x13.fParts.length : Int) then ((x13.fParts[k35]?).bind fun x44 => if x44 < 0 then some (Lp.ret false) else (if x44 > 2147483647 then some (Lp.ret false) else (if (k35 : Int) > 0 then (if -9223372036854775808 ≤ ((k35 : Int) - 1) ∧ ((k35 : Int) - 1) ≤ 9223372036854775807 then (if 0 ≤ ((k35 : Int) - 1) then ((x13.fParts[((k35 : Int) - 1).toNat]?).bind fun x52 => if x52 ≥ x44 then some (Lp.ret false) else (if -9223372036854775808 ≤ ((k35 : Int) + 1) ∧ ((k35 : Int) + 1) ≤ 9223372036854775807 then (f_r14_Rise_l2 x13 m39 y34 (k35 + 1)) else none)) else none) else none) else (if -9223372036854775808 ≤ ((k35 : Int) + 1) ∧ ((k35 : Int) + 1) ≤ 9223372036854775807 then (f_r14_Rise_l2 x13 m39 y34 (k35 + 1)) else none)))) else (some (Lp.go (y34, k35)))
def f_r14_Rise_l3 (x13 : Top) : Nat → Bool → Nat → Option (Lp Bool (Bool × Nat))
  | 0, _, _ => none
  | m67 + 1, y62, k63 => if (k63 : Int) < (x13.fParts.length : Int) then ((x13.fParts[k63]?).bind fun x72 => if x72 < 0 then some (Lp.ret false) else (if x72 > 2147483647 then some (Lp.ret false) else (if (k63 : Int) > 0 then (if -9223372036854775808 ≤ ((k63 : Int) - 1) ∧ ((k63 : Int) - 1) ≤ 9223372036854775807 then (if 0 ≤ ((k63 : Int) - 1) then ((x13.fParts[((k63 : Int) - 1).toNat]?).bind fun x80 => if x80 ≥ x72 then some (Lp.ret false) else (if -9223372036854775808 ≤ ((k63 : Int) + 1) ∧ ((k63 : Int) + 1) ≤ 9223372036854775807 then (f_r14_Rise_l3 x13 m67 y62 (k63 + 1)) else none)) else none) else none) else (if -9223372036854775808 ≤ ((k63 : Int) + 1) ∧ ((k63 : Int) + 1) ≤ 9223372036854775807 then (f_r14_Rise_l3 x13 m67 y62 (k63 + 1)) else none)))) else (some (Lp.go (y62, k63)))
def f_r14_Rise_l1 (a0 : List Top) : Nat → Bool → Nat → Option (Lp Bool (Bool × Nat))
  | 0, _, _ => none
  | m8 + 1, y3, k4 => if (k4 : Int) < (a0.length : Int) then ((a0[k4]?).bind fun x13 => if (x13.fName.length : Int) < 1 then some (Lp.ret false) else (if (x13.fName.length : Int) > 32767 then some (Lp.ret false) else (if (x13.fParts.length : Int) < 1 then some (Lp.ret false) else (if (k4 : Int) > 0 then (if -9223372036854775808 ≤ ((k4 : Int) - 1) ∧ ((k4 : Int) - 1) ≤ 9223372036854775807 then (if 0 ≤ ((k4 : Int) - 1) then ((a0[((k4 : Int) - 1).toNat]?).bind fun x25 => (f_r14_less x25.fName x13.fName).bind fun x31 => if x31 = true then ((f_r14_Rise_l2 x13 (((x13.fParts.length : Int)).toNat + 1) y3 0).bind fun e => match e with | .ret r => some (Lp.ret r) | .go (y59, k60) => (if -9223372036854775808 ≤ ((k4 : Int) + 1) ∧ ((k4 : Int) + 1) ≤ 9223372036854775807 then (f_r14_Rise_l1 a0 m8 y59 (k4 + 1)) else none)) else some (Lp.ret false)) else none) else none) else ((f_r14_Rise_l3 x13 (((x13.fParts.length : Int)).toNat + 1) y3 0).bind fun e => match e with | .ret r => some (Lp.ret r) | .go (y87, k88) => (if -9223372036854775808 ≤ ((k4 : Int) + 1) ∧ ((k4 : Int) + 1) ≤ 9223372036854775807 then (f_r14_Rise_l1 a0 m8 y87 (k4 + 1)) else none)))))) else (some (Lp.go (y3, k4)))
theorem f_r14_Rise_l1_z (a0 : List Top) (u1 : Bool) (u2 : Nat) : f_r14_Rise_l1 a0 0 u1 u2 = none := rfl
theorem f_r14_Rise_l1_s (a0 : List Top) (m8 : Nat) (y3 : Bool) (k4 : Nat) : f_r14_Rise_l1 a0 (m8 + 1) y3 k4 = (if (k4 : Int) < (a0.length : Int) then ((a0[k4]?).bind fun x13 => if (x13.fName.length : Int) < 1 then some (Lp.ret false) else (if (x13.fName.length : Int) > 32767 then some (Lp.ret false) else (if (x13.fParts.length : Int) < 1 then some (Lp.ret false) else (if (k4 : Int) > 0 then (if -9223372036854775808 ≤ ((k4 : Int) - 1) ∧ ((k4 : Int) - 1) ≤ 9223372036854775807 then (if 0 ≤ ((k4 : Int) - 1) then ((a0[((k4 : Int) - 1).toNat]?).bind fun x25 => (f_r14_less x25.fName x13.fName).bind fun x31 => if x31 = true then ((f_r14_Rise_l2 x13 (((x13.fParts.length : Int)).toNat + 1) y3 0).bind fun e => match e with | .ret r => some (Lp.ret r) | .go (y59, k60) => (if -9223372036854775808 ≤ ((k4 : Int) + 1) ∧ ((k4 : Int) + 1) ≤ 9223372036854775807 then (f_r14_Rise_l1 a0 m8 y59 (k4 + 1)) else none)) else some (Lp.ret false)) else none) else none) else ((f_r14_Rise_l3 x13 (((x13.fParts.length : Int)).toNat + 1) y3 0).bind fun e => match e with | .ret r => some (Lp.ret r) | .go (y87, k88) => (if -9223372036854775808 ≤ ((k4 : Int) + 1) ∧ ((k4 : Int) + 1) ≤ 9223372036854775807 then (f_r14_Rise_l1 a0 m8 y87 (k4 + 1)) else none)))))) else (some (Lp.go (y3, k4)))) := rfl
def f_r14_Rise (a0 : List Top) : Option (Bool) := (f_r14_Rise_l1 a0 (((a0.length : Int)).toNat + 1) false 0).bind fun e => match e with | .ret r => some r | .go (y90, k91) => some true
set_option maxRecDepth 100000 in
set_option maxHeartbeats 4000000 in
theorem f_r14_Rise_spec (a0 : List Top) (A1 : Option Addr) (c2 : Nat) (r : Bool) (h : f_r14_Rise a0 = some r) : SpecX Try.prog 127 #[.slice A1 a0.length c2] (RX.of (sliceRd 2 Top_rd) [.slice A1 a0.length c2] a0) (EmpR) (fun v A' N => v = .bool r ∧ A' = EmpR ∧ N = []) := by
  refine enterA Try.func127 rfl Try.ntmps127 rfl ?_
  intro F w hX
  unfold f_r14_Rise at h
  refine T.seq (T.region rfl ?_)
  refine TL.run ft_cursitorref14_ok [0] rfl rfl ?_
  refine TL.nil (X.seq (T.seq (T.seq (T.region rfl ?_))))
  refine TL.run ft_cursitorref14_ok [0] rfl rfl ?_
  refine TL.nil (X.seq (T.block ?_))
  obtain ⟨E5, hE6, hO7⟩ := Option.bind_eq_some_iff.1 h
  refine T.lp (fun m e Rs => ∃ (y3 : Bool) (k4 : Nat), e = [(0, .slice A1 a0.length c2), (2, .bool y3), (3, .int .i64 (k4 : Int))] ∧ Rs = [EmpR] ∧ f_r14_Rise_l1 a0 m y3 k4 = some E5) (((a0.length : Int)).toNat + 1) [0] ⟨false, 0, rfl, rfl, by exact hE6⟩ (by rfl) (by rfl) ?_
  rintro m8 _ _ ⟨y3, k4, rfl, rfl, hl10⟩
  clear hE6 h
  cases m8 with
  | zero =>
    rw [f_r14_Rise_l1_z] at hl10
    cases hl10
  | succ m8 =>
    have h := hl10
    clear hl10
    rw [f_r14_Rise_l1_s] at h
    refine T.seq (T.seq (T.region rfl ?_))
    refine TL.run ft_cursitorref14_ok [0, 1] rfl rfl ?_
    refine TL.q rfl .u (Ex.lenS rfl Try.runUnderlying68) rfl ?_
    refine TL.run ft_cursitorref14_ok [3] rfl rfl ?_
    by_cases c12 : (k4 : Int) < (a0.length : Int)
    · replace h := ifT c12 h
      refine TL.nil (X.seq ?_)
      refine T.yes rfl (decide_eq_true c12) ?_
      refine T.skip (X.seq (T.seq (T.block (T.seq (T.seq (T.region rfl ?_))))))
      obtain ⟨x13, hx14, h⟩ := Option.bind_eq_some_iff.1 h
      obtain ⟨gz15, oz15, rfl, z15cs, z15cl, z15cc, z15nf, z15r⟩ := RX.elem (by decide) hX hx14
      obtain ⟨z15S, z15r, z15rr⟩ := z15r
      obtain ⟨A16, c17, rfl, z15s0⟩ := z15r
      have hX18 : (RX.of (sliceRd 1 intE) [.slice A16 x13.fParts.length c17] x13.fParts).reads w F := ⟨z15S, z15s0, z15rr⟩
      refine TL.run ft_cursitorref14_ok [0, 1] rfl rfl ?_
      refine TL.q rfl .u (Ex.ixS (k := k4) rfl rfl rfl Try.runUnderlying68 Try.sizeOf162 (List.getElem?_eq_some_iff.1 hx14).1) rfl ?_
      refine TL.run ft_cursitorref14_ok [3] rfl rfl ?_
      refine TL.q rfl .u (Ex.o1 0 rfl Try.isAgg9 z15nf z15cc rfl rfl) rfl ?_
      refine TL.q rfl .u (Ex.lenB rfl Try.runUnderlying9) rfl ?_
      by_cases c19 : (x13.fName.length : Int) < 1
      · replace h := ifT c19 h
        refine TL.run ft_cursitorref14_ok [6, 7] rfl rfl ?_
        refine TL.no rfl (.gn rfl rfl (decide_eq_true c19)) rfl ?_
        refine TL.no rfl (.gn rfl rfl (decide_eq_true c19)) rfl ?_
        refine TL.no rfl (.gn rfl rfl (decide_eq_true c19)) rfl ?_
        refine TL.no rfl (.gn rfl rfl (decide_eq_true c19)) rfl ?_
        refine TL.no rfl (.gn rfl rfl (decide_eq_true c19)) rfl ?_
        refine TL.no rfl (.gn rfl rfl (decide_eq_true c19)) rfl ?_
        refine TL.no rfl (.gn rfl rfl (decide_eq_true c19)) rfl ?_
        refine TL.q rfl .u (Ex.py rfl (decide_eq_true c19) rfl) rfl ?_
        refine TL.run ft_cursitorref14_ok [16] rfl rfl ?_
        refine TL.no rfl (.gn rfl rfl rfl) rfl ?_
        refine TL.no rfl (.gn rfl rfl rfl) rfl ?_
        refine TL.no rfl (.gn rfl rfl rfl) rfl ?_
        refine TL.no rfl (.gn rfl rfl rfl) rfl ?_
        refine TL.no rfl (.gn rfl rfl rfl) rfl ?_
        refine TL.no rfl (.gn rfl rfl rfl) rfl ?_
        refine TL.no rfl (.gn rfl rfl rfl) rfl ?_
        refine TL.q rfl .u (Ex.py rfl rfl rfl) rfl ?_
        refine TL.nil (X.seq ?_)
        refine T.yes rfl rfl ?_
        refine T.seq (T.region rfl ?_)
        refine TL.run ft_cursitorref14_ok [0] rfl rfl ?_
        obtain rfl := Option.some.inj h
        replace h := hO7
        clear hO7
        try dsimp only at h
        obtain rfl := Option.some.inj h
        exact TL.nil (X.seq (T.ret (X.rs (X.rb (X.rs (X.rs (X.rb (X.rs (X.done1 [0] Try.results127 (RV.tm rfl) ⟨rfl, rfl, rfl⟩ (by rfl) (.inl rfl))))))))))
      · replace h := ifF c19 h
        refine TL.run ft_cursitorref14_ok [6, 7] rfl rfl ?_
        refine TL.q rfl (.g rfl rfl (decide_eq_false c19)) (Ex.ft ft_cursitorref14_ok rfl) rfl ?_
        refine TL.q rfl (.g rfl rfl (decide_eq_false c19)) (Ex.ft ft_cursitorref14_ok rfl) rfl ?_
        refine TL.q rfl (.g rfl rfl (decide_eq_false c19)) (Ex.ixS (k := k4) rfl rfl rfl Try.runUnderlying68 Try.sizeOf162 (List.getElem?_eq_some_iff.1 hx14).1) rfl ?_
        refine TL.q rfl (.g rfl rfl (decide_eq_false c19)) (Ex.ft ft_cursitorref14_ok rfl) rfl ?_
        refine TL.q rfl (.g rfl rfl (decide_eq_false c19)) (Ex.o1 0 rfl Try.isAgg9 z15nf z15cc rfl rfl) rfl ?_
        refine TL.q rfl (.g rfl rfl (decide_eq_false c19)) (Ex.lenB rfl Try.runUnderlying9) rfl ?_
        refine TL.q rfl (.g rfl rfl (decide_eq_false c19)) (Ex.ft ft_cursitorref14_ok rfl) rfl ?_
        refine TL.q rfl .u (Ex.pn rfl (decide_eq_false c19) rfl) rfl ?_
        by_cases c20 : (x13.fName.length : Int) > 32767
        · replace h := ifT c20 h
          refine TL.run ft_cursitorref14_ok [16] rfl rfl ?_
          refine TL.no rfl (.gn rfl rfl (decide_eq_true c20)) rfl ?_
          refine TL.no rfl (.gn rfl rfl (decide_eq_true c20)) rfl ?_
          refine TL.no rfl (.gn rfl rfl (decide_eq_true c20)) rfl ?_
          refine TL.no rfl (.gn rfl rfl (decide_eq_true c20)) rfl ?_
          refine TL.no rfl (.gn rfl rfl (decide_eq_true c20)) rfl ?_
          refine TL.no rfl (.gn rfl rfl (decide_eq_true c20)) rfl ?_
          refine TL.no rfl (.gn rfl rfl (decide_eq_true c20)) rfl ?_
          refine TL.q rfl .u (Ex.py rfl (decide_eq_true c20) rfl) rfl ?_
          refine TL.nil (X.seq ?_)
          refine T.yes rfl rfl ?_
          refine T.seq (T.region rfl ?_)
          refine TL.run ft_cursitorref14_ok [0] rfl rfl ?_
          obtain rfl := Option.some.inj h
          replace h := hO7
          clear hO7
          try dsimp only at h
          obtain rfl := Option.some.inj h
          exact TL.nil (X.seq (T.ret (X.rs (X.rb (X.rs (X.rs (X.rb (X.rs (X.done1 [0] Try.results127 (RV.tm rfl) ⟨rfl, rfl, rfl⟩ (by rfl) (.inl rfl))))))))))
        · replace h := ifF c20 h
          refine TL.run ft_cursitorref14_ok [16] rfl rfl ?_
          refine TL.q rfl (.g rfl rfl (decide_eq_false c20)) (Ex.ft ft_cursitorref14_ok rfl) rfl ?_
          refine TL.q rfl (.g rfl rfl (decide_eq_false c20)) (Ex.ft ft_cursitorref14_ok rfl) rfl ?_
          refine TL.q rfl (.g rfl rfl (decide_eq_false c20)) (Ex.ixS (k := k4) rfl rfl rfl Try.runUnderlying68 Try.sizeOf162 (List.getElem?_eq_some_iff.1 hx14).1) rfl ?_
          refine TL.q rfl (.g rfl rfl (decide_eq_false c20)) (Ex.ft ft_cursitorref14_ok rfl) rfl ?_
          refine TL.q rfl (.g rfl rfl (decide_eq_false c20)) (Ex.o1 1 rfl Try.isAgg160 z15nf z15cc rfl rfl) rfl ?_
          refine TL.q rfl (.g rfl rfl (decide_eq_false c20)) (Ex.lenS rfl Try.runUnderlying160) rfl ?_
          refine TL.q rfl (.g rfl rfl (decide_eq_false c20)) (Ex.ft ft_cursitorref14_ok rfl) rfl ?_
          refine TL.q rfl .u (Ex.pn rfl (decide_eq_false c20) rfl) rfl ?_
          by_cases c21 : (x13.fParts.length : Int) < 1
          · replace h := ifT c21 h
            refine TL.nil (X.seq ?_)
            refine T.yes rfl (decide_eq_true c21) ?_
            refine T.seq (T.region rfl ?_)
            refine TL.run ft_cursitorref14_ok [0] rfl rfl ?_
            obtain rfl := Option.some.inj h
            replace h := hO7
            clear hO7
            try dsimp only at h
            obtain rfl := Option.some.inj h
            exact TL.nil (X.seq (T.ret (X.rs (X.rb (X.rs (X.rs (X.rb (X.rs (X.done1 [0] Try.results127 (RV.tm rfl) ⟨rfl, rfl, rfl⟩ (by rfl) (.inl rfl))))))))))
          · replace h := ifF c21 h
            refine TL.nil (X.seq ?_)
            refine T.no rfl (decide_eq_false c21) ?_
            refine T.skip (X.seq (T.seq (T.seq (T.draw (.q 0 (.q 1 (.q 2 (.q 3 (.q 4 (.q 5 (.q 6 (.q 7 (.q 8 (.q 9 (.q 10 (.q 11 (.q 12 (.q 13 (.e 14 (.q 15 (.q 16 .nil))))))))))))))))) [0] rfl mix_cursitorref14 (NoP.seq (NoP.seq (NoP.blk (NoP.seq (NoP.seq (NoP.blk (NoP.seq np_post))))))) (by kernel_rfl) ?_))))
            by_cases c22 : (k4 : Int) > 0
            · replace h := ifT c22 h
              refine TD.run ft_cursitorref14_ok [0, 1, 2] rfl rfl ?_
              refine TD.q rfl (.g rfl rfl (decide_eq_true c22)) (Ex.ft ft_cursitorref14_ok rfl) rfl ?_
              refine TD.q rfl (.g rfl rfl (decide_eq_true c22)) (Ex.ft ft_cursitorref14_ok rfl) rfl ?_
              replace h := guard_some h
              obtain ⟨c23, h⟩ := h
              refine TD.q rfl (.g rfl rfl (decide_eq_true c22)) (Ex.sub rfl rfl c23) rfl ?_
              replace h := guard_some h
              obtain ⟨c24, h⟩ := h
              obtain ⟨x25, hx26, h⟩ := Option.bind_eq_some_iff.1 h
              obtain ⟨z27cs, z27cl, z27cc, z27nf, z27r⟩ := RX.elem' (by decide) hX hx26
              obtain ⟨z27S, z27r, z27rr⟩ := z27r
              obtain ⟨A28, c29, rfl, z27s0⟩ := z27r
              have hX30 : (RX.of (sliceRd 1 intE) [.slice A28 x25.fParts.length c29] x25.fParts).reads w F := ⟨z27S, z27s0, z27rr⟩
              refine TD.q rfl (.g rfl rfl (decide_eq_true c22)) (Ex.ixS (k := ((k4 : Int) - 1).toNat) rfl rfl ((Int.toNat_of_nonneg c24).symm) Try.runUnderlying68 Try.sizeOf162 (List.getElem?_eq_some_iff.1 hx26).1) rfl ?_
              refine TD.q rfl (.g rfl rfl (decide_eq_true c22)) (Ex.ft ft_cursitorref14_ok rfl) rfl ?_
              refine TD.q rfl (.g rfl rfl (decide_eq_true c22)) (Ex.o1 0 rfl Try.isAgg9 z27nf z27cc rfl rfl) rfl ?_
              refine TD.q rfl (.g rfl rfl (decide_eq_true c22)) (Ex.ft ft_cursitorref14_ok rfl) rfl ?_
              refine TD.q rfl (.g rfl rfl (decide_eq_true c22)) (Ex.ft ft_cursitorref14_ok rfl) rfl ?_
              refine TD.q rfl (.g rfl rfl (decide_eq_true c22)) (Ex.ixS (k := k4) rfl rfl rfl Try.runUnderlying68 Try.sizeOf162 (List.getElem?_eq_some_iff.1 hx14).1) rfl ?_
              refine TD.q rfl (.g rfl rfl (decide_eq_true c22)) (Ex.ft ft_cursitorref14_ok rfl) rfl ?_
              refine TD.q rfl (.g rfl rfl (decide_eq_true c22)) (Ex.o1 0 rfl Try.isAgg9 z15nf z15cc rfl rfl) rfl ?_
              obtain ⟨x31, hx32, h⟩ := Option.bind_eq_some_iff.1 h
              refine TD.ce rfl (.g rfl rfl (decide_eq_true c22)) (.fn Try.call184 rfl) (f_r14_less_spec x25.fName x13.fName _ hx32) (fun _ hs => (RX.reads_triv _ _)) rfl [0] (rfl) ?_
              refine TD.q rfl (.g rfl rfl (decide_eq_true c22)) (Ex.ft ft_cursitorref14_ok rfl) rfl ?_
              refine TD.q rfl .u (Ex.py rfl (decide_eq_true c22) rfl) rfl ?_
              by_cases c33 : x31 = true
              · replace h := ifT c33 h
                refine TD.nil (X.seq ?_)
                refine T.no rfl (bn_f c33) ?_
                refine T.skip (X.seq (T.seq (T.region rfl ?_)))
                refine TL.run ft_cursitorref14_ok [0] rfl rfl ?_
                refine TL.nil (X.seq (T.block ?_))
                obtain ⟨E36, hE37, hO38⟩ := Option.bind_eq_some_iff.1 h
                refine T.lp (fun m e Rs => ∃ (y34 : Bool) (k35 : Nat), e = [(0, .slice (some ⟨gz15, oz15, none⟩) a0.length c2), (2, .bool y34), (3, .int .i64 (k4 : Int)), (4, .int .i64 (k35 : Int))] ∧ Rs = [EmpR] ∧ f_r14_Rise_l2 x13 m y34 k35 = some E36) (((x13.fParts.length : Int)).toNat + 1) [0] ⟨y3, 0, rfl, rfl, by exact hE37⟩ (by rfl) (by rfl) ?_
                rintro m39 _ _ ⟨y34, k35, rfl, rfl, hl41⟩
                clear hE37 h
                cases m39 with
                | zero =>
                  rw [f_r14_Rise_l2] at hl41
                  cases hl41
                | succ m39 =>
                  have h := hl41
                  clear hl41
                  rw [f_r14_Rise_l2] at h
                  refine T.seq (T.seq (T.region rfl ?_))
                  refine TL.run ft_cursitorref14_ok [0, 1, 2] rfl rfl ?_
                  refine TL.q rfl .u (Ex.ixS (k := k4) rfl rfl rfl Try.runUnderlying68 Try.sizeOf162 (List.getElem?_eq_some_iff.1 hx14).1) rfl ?_
                  refine TL.run ft_cursitorref14_ok [4] rfl rfl ?_
                  refine TL.q rfl .u (Ex.o1 1 rfl Try.isAgg160 z15nf z15cc rfl rfl) rfl ?_
                  refine TL.q rfl .u (Ex.lenS rfl Try.runUnderlying160) rfl ?_
                  refine TL.run ft_cursitorref14_ok [7] rfl rfl ?_
                  by_cases c43 : (k35 : Int) < (x13.fParts.length : Int)
                  · replace h := ifT c43 h
                    refine TL.nil (X.seq ?_)
                    refine T.yes rfl (decide_eq_true c43) ?_
                    refine T.skip (X.seq (T.seq (T.block (T.seq (T.region rfl ?_)))))
                    refine TL.run ft_cursitorref14_ok [0, 1] rfl rfl ?_
                    refine TL.q rfl .u (Ex.ixS (k := k4) rfl rfl rfl Try.runUnderlying68 Try.sizeOf162 (List.getElem?_eq_some_iff.1 hx14).1) rfl ?_
                    refine TL.run ft_cursitorref14_ok [3] rfl rfl ?_
                    refine TL.q rfl .u (Ex.o1 1 rfl Try.isAgg160 z15nf z15cc rfl rfl) rfl ?_
                    obtain ⟨x44, hx45, h⟩ := Option.bind_eq_some_iff.1 h
                    obtain ⟨gz46, oz46, rfl, z46cs, z46cl, z46cc, z46nf, z46r⟩ := RX.elem (by decide) hX18 hx45
                    obtain ⟨z46S, z46r, z46rr⟩ := z46r
                    obtain rfl : z46cs = [.int .i64 x44] := z46r
                    refine TL.run ft_cursitorref14_ok [5] rfl rfl ?_
                    refine TL.q rfl .u (Ex.ixS (k := k35) rfl rfl rfl Try.runUnderlying160 Try.sizeOf3 (List.getElem?_eq_some_iff.1 hx45).1) rfl ?_
                    refine TL.q rfl .u (Ex.o1 0 rfl Try.isAgg3 z46nf z46cc rfl rfl) rfl ?_
                    refine TL.run ft_cursitorref14_ok [8] rfl rfl ?_
                    refine TL.nil (X.seq (T.seq (T.region rfl ?_)))
                    by_cases c47 : x44 < 0
                    · replace h := ifT c47 h
                      refine TL.run ft_cursitorref14_ok [0, 1, 2] rfl rfl ?_
                      refine TL.no rfl (.gn rfl rfl (decide_eq_true c47)) rfl ?_
                      refine TL.no rfl (.gn rfl rfl (decide_eq_true c47)) rfl ?_
                      refine TL.q rfl .u (Ex.py rfl (decide_eq_true c47) rfl) rfl ?_
                      refine TL.run ft_cursitorref14_ok [6] rfl rfl ?_
                      refine TL.no rfl (.gn rfl rfl rfl) rfl ?_
                      refine TL.no rfl (.gn rfl rfl rfl) rfl ?_
                      refine TL.no rfl (.gn rfl rfl rfl) rfl ?_
                      refine TL.no rfl (.gu rfl rfl) rfl ?_
                      refine TL.no rfl (.gu rfl rfl) rfl ?_
                      refine TL.no rfl (.gu rfl rfl) rfl ?_
                      refine TL.no rfl (.gu rfl rfl) rfl ?_
                      refine TL.no rfl (.gu rfl rfl) rfl ?_
                      refine TL.no rfl (.gu rfl rfl) rfl ?_
                      refine TL.no rfl (.gu rfl rfl) rfl ?_
                      refine TL.no rfl (.gu rfl rfl) rfl ?_
                      refine TL.no rfl (.gu rfl rfl) rfl ?_
                      refine TL.no rfl (.gu rfl rfl) rfl ?_
                      refine TL.no rfl (.gu rfl rfl) rfl ?_
                      refine TL.no rfl (.gn rfl rfl rfl) rfl ?_
                      refine TL.q rfl .u (Ex.py rfl rfl rfl) rfl ?_
                      refine TL.nil (X.seq ?_)
                      refine T.yes rfl rfl ?_
                      refine T.seq (T.region rfl ?_)
                      refine TL.run ft_cursitorref14_ok [0] rfl rfl ?_
                      obtain rfl := Option.some.inj h
                      replace h := hO38
                      clear hO38
                      try dsimp only at h
                      obtain rfl := Option.some.inj h
                      replace h := hO7
                      clear hO7
                      try dsimp only at h
                      obtain rfl := Option.some.inj h
                      exact TL.nil (X.seq (T.ret (X.rb (X.rs (X.rs (X.rb (X.rb (X.rs (X.rs (X.rb (X.rs (X.done1 [0] Try.results127 (RV.tm rfl) ⟨rfl, rfl, rfl⟩ (by rfl) (.inl rfl)))))))))))))
                    · replace h := ifF c47 h
                      refine TL.run ft_cursitorref14_ok [0, 1, 2] rfl rfl ?_
                      refine TL.q rfl (.g rfl rfl (decide_eq_false c47)) (Ex.ft ft_cursitorref14_ok rfl) rfl ?_
                      refine TL.q rfl (.g rfl rfl (decide_eq_false c47)) (Ex.ft ft_cursitorref14_ok rfl) rfl ?_
                      refine TL.q rfl .u (Ex.pn rfl (decide_eq_false c47) rfl) rfl ?_
                      by_cases c48 : x44 > 2147483647
                      · replace h := ifT c48 h
                        refine TL.run ft_cursitorref14_ok [6] rfl rfl ?_
                        refine TL.no rfl (.gn rfl rfl (decide_eq_true c48)) rfl ?_
                        refine TL.no rfl (.gn rfl rfl (decide_eq_true c48)) rfl ?_
                        refine TL.no rfl (.gn rfl rfl (decide_eq_true c48)) rfl ?_
                        refine TL.no rfl (.gu rfl rfl) rfl ?_
                        refine TL.no rfl (.gu rfl rfl) rfl ?_
                        refine TL.no rfl (.gu rfl rfl) rfl ?_
                        refine TL.no rfl (.gu rfl rfl) rfl ?_
                        refine TL.no rfl (.gu rfl rfl) rfl ?_
                        refine TL.no rfl (.gu rfl rfl) rfl ?_
                        refine TL.no rfl (.gu rfl rfl) rfl ?_
                        refine TL.no rfl (.gu rfl rfl) rfl ?_
                        refine TL.no rfl (.gu rfl rfl) rfl ?_
                        refine TL.no rfl (.gu rfl rfl) rfl ?_
                        refine TL.no rfl (.gu rfl rfl) rfl ?_
                        refine TL.no rfl (.gn rfl rfl (decide_eq_true c48)) rfl ?_
                        refine TL.q rfl .u (Ex.py rfl (decide_eq_true c48) rfl) rfl ?_
                        refine TL.nil (X.seq ?_)
                        refine T.yes rfl rfl ?_
                        refine T.seq (T.region rfl ?_)
                        refine TL.run ft_cursitorref14_ok [0] rfl rfl ?_
                        obtain rfl := Option.some.inj h
                        replace h := hO38
                        clear hO38
                        try dsimp only at h
                        obtain rfl := Option.some.inj h
                        replace h := hO7
                        clear hO7
                        try dsimp only at h
                        obtain rfl := Option.some.inj h
                        exact TL.nil (X.seq (T.ret (X.rb (X.rs (X.rs (X.rb (X.rb (X.rs (X.rs (X.rb (X.rs (X.done1 [0] Try.results127 (RV.tm rfl) ⟨rfl, rfl, rfl⟩ (by rfl) (.inl rfl)))))))))))))
                      · replace h := ifF c48 h
                        refine TL.run ft_cursitorref14_ok [6] rfl rfl ?_
                        refine TL.q rfl (.g rfl rfl (decide_eq_false c48)) (Ex.ft ft_cursitorref14_ok rfl) rfl ?_
                        refine TL.q rfl (.g rfl rfl (decide_eq_false c48)) (Ex.ft ft_cursitorref14_ok rfl) rfl ?_
                        refine TL.q rfl (.g rfl rfl (decide_eq_false c48)) (Ex.ft ft_cursitorref14_ok rfl) rfl ?_
                        by_cases c49 : (k35 : Int) > 0
                        · replace h := ifT c49 h
                          refine TL.q rfl (.g rfl rfl (decide_eq_true c49)) (Ex.ft ft_cursitorref14_ok rfl) rfl ?_
                          refine TL.q rfl (.g rfl rfl (decide_eq_true c49)) (Ex.ft ft_cursitorref14_ok rfl) rfl ?_
                          refine TL.q rfl (.g rfl rfl (decide_eq_true c49)) (Ex.ixS (k := k4) rfl rfl rfl Try.runUnderlying68 Try.sizeOf162 (List.getElem?_eq_some_iff.1 hx14).1) rfl ?_
                          refine TL.q rfl (.g rfl rfl (decide_eq_true c49)) (Ex.ft ft_cursitorref14_ok rfl) rfl ?_
                          refine TL.q rfl (.g rfl rfl (decide_eq_true c49)) (Ex.o1 1 rfl Try.isAgg160 z15nf z15cc rfl rfl) rfl ?_
                          refine TL.q rfl (.g rfl rfl (decide_eq_true c49)) (Ex.ft ft_cursitorref14_ok rfl) rfl ?_
                          replace h := guard_some h
                          obtain ⟨c50, h⟩ := h
                          refine TL.q rfl (.g rfl rfl (decide_eq_true c49)) (Ex.sub rfl rfl c50) rfl ?_
                          replace h := guard_some h
                          obtain ⟨c51, h⟩ := h
                          obtain ⟨x52, hx53, h⟩ := Option.bind_eq_some_iff.1 h
                          obtain ⟨z54cs, z54cl, z54cc, z54nf, z54r⟩ := RX.elem' (by decide) hX18 hx53
                          obtain ⟨z54S, z54r, z54rr⟩ := z54r
                          obtain rfl : z54cs = [.int .i64 x52] := z54r
                          refine TL.q rfl (.g rfl rfl (decide_eq_true c49)) (Ex.ixS (k := ((k35 : Int) - 1).toNat) rfl rfl ((Int.toNat_of_nonneg c51).symm) Try.runUnderlying160 Try.sizeOf3 (List.getElem?_eq_some_iff.1 hx53).1) rfl ?_
                          refine TL.q rfl (.g rfl rfl (decide_eq_true c49)) (Ex.o1 0 rfl Try.isAgg3 z54nf z54cc rfl rfl) rfl ?_
                          refine TL.q rfl (.g rfl rfl (decide_eq_true c49)) (Ex.ft ft_cursitorref14_ok rfl) rfl ?_
                          refine TL.q rfl (.g rfl rfl (decide_eq_true c49)) (Ex.ft ft_cursitorref14_ok rfl) rfl ?_
                          refine TL.q rfl (.g rfl rfl (decide_eq_false c48)) (Ex.py rfl (decide_eq_true c49) rfl) rfl ?_
                          refine TL.q rfl .u (Ex.pn rfl (decide_eq_false c48) rfl) rfl ?_
                          by_cases c55 : x52 ≥ x44
                          · replace h := ifT c55 h
                            refine TL.nil (X.seq ?_)
                            refine T.yes rfl (decide_eq_true c55) ?_
                            refine T.seq (T.region rfl ?_)
                            refine TL.run ft_cursitorref14_ok [0] rfl rfl ?_
                            obtain rfl := Option.some.inj h
                            replace h := hO38
                            clear hO38
                            try dsimp only at h
                            obtain rfl := Option.some.inj h
                            replace h := hO7
                            clear hO7
                            try dsimp only at h
                            obtain rfl := Option.some.inj h
                            exact TL.nil (X.seq (T.ret (X.rb (X.rs (X.rs (X.rb (X.rb (X.rs (X.rs (X.rb (X.rs (X.done1 [0] Try.results127 (RV.tm rfl) ⟨rfl, rfl, rfl⟩ (by rfl) (.inl rfl)))))))))))))
                          · replace h := ifF c55 h
                            refine TL.nil (X.seq ?_)
                            refine T.no rfl (decide_eq_false c55) ?_
                            refine T.skip (X.blk (X.seq (T.region rfl ?_)))
                            replace h := guard_some h
                            obtain ⟨c56, h⟩ := h
                            refine TL.run ft_cursitorref14_ok [0] rfl rfl ?_
                            refine TL.q rfl .u (Ex.add rfl rfl c56) rfl ?_
                            refine TL.run ft_cursitorref14_ok [2] rfl rfl ?_
                            exact TL.nil (X.back (m' := m39) [0] (by omega) ⟨y34, k35 + 1, rfl, rfl, h⟩ (by rfl) (by rfl))
                        · replace h := ifF c49 h
                          refine TL.no rfl (.gn rfl rfl (decide_eq_false c49)) rfl ?_
                          refine TL.no rfl (.gn rfl rfl (decide_eq_false c49)) rfl ?_
                          refine TL.no rfl (.gn rfl rfl (decide_eq_false c49)) rfl ?_
                          refine TL.no rfl (.gn rfl rfl (decide_eq_false c49)) rfl ?_
                          refine TL.no rfl (.gn rfl rfl (decide_eq_false c49)) rfl ?_
                          refine TL.no rfl (.gn rfl rfl (decide_eq_false c49)) rfl ?_
                          refine TL.no rfl (.gn rfl rfl (decide_eq_false c49)) rfl ?_
                          refine TL.no rfl (.gn rfl rfl (decide_eq_false c49)) rfl ?_
                          refine TL.no rfl (.gn rfl rfl (decide_eq_false c49)) rfl ?_
                          refine TL.no rfl (.gn rfl rfl (decide_eq_false c49)) rfl ?_
                          refine TL.no rfl (.gn rfl rfl (decide_eq_false c49)) rfl ?_
                          refine TL.q rfl (.g rfl rfl (decide_eq_false c48)) (Ex.pn rfl (decide_eq_false c49) rfl) rfl ?_
                          refine TL.q rfl .u (Ex.pn rfl (decide_eq_false c48) rfl) rfl ?_
                          refine TL.nil (X.seq ?_)
                          refine T.no rfl rfl ?_
                          refine T.skip (X.blk (X.seq (T.region rfl ?_)))
                          replace h := guard_some h
                          obtain ⟨c57, h⟩ := h
                          refine TL.run ft_cursitorref14_ok [0] rfl rfl ?_
                          refine TL.q rfl .u (Ex.add rfl rfl c57) rfl ?_
                          refine TL.run ft_cursitorref14_ok [2] rfl rfl ?_
                          exact TL.nil (X.back (m' := m39) [0] (by omega) ⟨y34, k35 + 1, rfl, rfl, h⟩ (by rfl) (by rfl))
                  · replace h := ifF c43 h
                    refine TL.nil (X.seq ?_)
                    refine T.no rfl (decide_eq_false c43) ?_
                    obtain rfl := Option.some.inj h
                    replace h := hO38
                    clear hO38
                    try dsimp only at h
                    refine T.exit (X.exs (X.exs (X.ex (X.blk (X.seq (T.region rfl ?_))))))
                    replace h := guard_some h
                    obtain ⟨c58, h⟩ := h
                    refine TL.run ft_cursitorref14_ok [0] rfl rfl ?_
                    refine TL.q rfl .u (Ex.add rfl rfl c58) rfl ?_
                    refine TL.run ft_cursitorref14_ok [2] rfl rfl ?_
                    exact TL.nil (X.back (m' := m8) [0] (by omega) ⟨y34, k4 + 1, rfl, rfl, h⟩ (by rfl) (by rfl))
              · replace h := ifF c33 h
                replace c33 := eq_false_of_ne_true c33
                refine TD.nil (X.seq ?_)
                refine T.yes rfl (bn_t c33) ?_
                refine T.seq (T.region rfl ?_)
                refine TL.run ft_cursitorref14_ok [0] rfl rfl ?_
                obtain rfl := Option.some.inj h
                replace h := hO7
                clear hO7
                try dsimp only at h
                obtain rfl := Option.some.inj h
                exact TL.nil (X.seq (T.ret (X.rs (X.rb (X.rs (X.rs (X.rb (X.rs (X.done1 [0] Try.results127 (RV.tm rfl) ⟨rfl, rfl, rfl⟩ (by rfl) (.inl rfl))))))))))
            · replace h := ifF c22 h
              refine TD.run ft_cursitorref14_ok [0, 1, 2] rfl rfl ?_
              refine TD.no rfl (.gn rfl rfl (decide_eq_false c22)) rfl ?_
              refine TD.no rfl (.gn rfl rfl (decide_eq_false c22)) rfl ?_
              refine TD.no rfl (.gn rfl rfl (decide_eq_false c22)) rfl ?_
              refine TD.no rfl (.gn rfl rfl (decide_eq_false c22)) rfl ?_
              refine TD.no rfl (.gn rfl rfl (decide_eq_false c22)) rfl ?_
              refine TD.no rfl (.gn rfl rfl (decide_eq_false c22)) rfl ?_
              refine TD.no rfl (.gn rfl rfl (decide_eq_false c22)) rfl ?_
              refine TD.no rfl (.gn rfl rfl (decide_eq_false c22)) rfl ?_
              refine TD.no rfl (.gn rfl rfl (decide_eq_false c22)) rfl ?_
              refine TD.no rfl (.gn rfl rfl (decide_eq_false c22)) rfl ?_
              refine TD.no rfl (.gn rfl rfl (decide_eq_false c22)) rfl ?_
              refine TD.noe rfl (.gn rfl rfl (decide_eq_false c22)) rfl [0] rfl ?_
              refine TD.no rfl (.gn rfl rfl (decide_eq_false c22)) rfl ?_
              refine TD.q rfl .u (Ex.pn rfl (decide_eq_false c22) rfl) rfl ?_
              refine TD.nil (X.seq ?_)
              refine T.no rfl rfl ?_
              refine T.skip (X.seq (T.seq (T.region rfl ?_)))
              refine TL.run ft_cursitorref14_ok [0] rfl rfl ?_
              refine TL.nil (X.seq (T.block ?_))
              obtain ⟨E64, hE65, hO66⟩ := Option.bind_eq_some_iff.1 h
              refine T.lp (fun m e Rs => ∃ (y62 : Bool) (k63 : Nat), e = [(0, .slice (some ⟨gz15, oz15, none⟩) a0.length c2), (2, .bool y62), (3, .int .i64 (k4 : Int)), (4, .int .i64 (k63 : Int))] ∧ Rs = [EmpR] ∧ f_r14_Rise_l3 x13 m y62 k63 = some E64) (((x13.fParts.length : Int)).toNat + 1) [0] ⟨y3, 0, rfl, rfl, by exact hE65⟩ (by rfl) (by rfl) ?_
              rintro m67 _ _ ⟨y62, k63, rfl, rfl, hl69⟩
              clear hE65 h
              cases m67 with
              | zero =>
                rw [f_r14_Rise_l3] at hl69
                cases hl69
              | succ m67 =>
                have h := hl69
                clear hl69
                rw [f_r14_Rise_l3] at h
                refine T.seq (T.seq (T.region rfl ?_))
                refine TL.run ft_cursitorref14_ok [0, 1, 2] rfl rfl ?_
                refine TL.q rfl .u (Ex.ixS (k := k4) rfl rfl rfl Try.runUnderlying68 Try.sizeOf162 (List.getElem?_eq_some_iff.1 hx14).1) rfl ?_
                refine TL.run ft_cursitorref14_ok [4] rfl rfl ?_
                refine TL.q rfl .u (Ex.o1 1 rfl Try.isAgg160 z15nf z15cc rfl rfl) rfl ?_
                refine TL.q rfl .u (Ex.lenS rfl Try.runUnderlying160) rfl ?_
                refine TL.run ft_cursitorref14_ok [7] rfl rfl ?_
                by_cases c71 : (k63 : Int) < (x13.fParts.length : Int)
                · replace h := ifT c71 h
                  refine TL.nil (X.seq ?_)
                  refine T.yes rfl (decide_eq_true c71) ?_
                  refine T.skip (X.seq (T.seq (T.block (T.seq (T.region rfl ?_)))))
                  refine TL.run ft_cursitorref14_ok [0, 1] rfl rfl ?_
                  refine TL.q rfl .u (Ex.ixS (k := k4) rfl rfl rfl Try.runUnderlying68 Try.sizeOf162 (List.getElem?_eq_some_iff.1 hx14).1) rfl ?_
                  refine TL.run ft_cursitorref14_ok [3] rfl rfl ?_
                  refine TL.q rfl .u (Ex.o1 1 rfl Try.isAgg160 z15nf z15cc rfl rfl) rfl ?_
                  obtain ⟨x72, hx73, h⟩ := Option.bind_eq_some_iff.1 h
                  obtain ⟨gz74, oz74, rfl, z74cs, z74cl, z74cc, z74nf, z74r⟩ := RX.elem (by decide) hX18 hx73
                  obtain ⟨z74S, z74r, z74rr⟩ := z74r
                  obtain rfl : z74cs = [.int .i64 x72] := z74r
                  refine TL.run ft_cursitorref14_ok [5] rfl rfl ?_
                  refine TL.q rfl .u (Ex.ixS (k := k63) rfl rfl rfl Try.runUnderlying160 Try.sizeOf3 (List.getElem?_eq_some_iff.1 hx73).1) rfl ?_
                  refine TL.q rfl .u (Ex.o1 0 rfl Try.isAgg3 z74nf z74cc rfl rfl) rfl ?_
                  refine TL.run ft_cursitorref14_ok [8] rfl rfl ?_
                  refine TL.nil (X.seq (T.seq (T.region rfl ?_)))
                  by_cases c75 : x72 < 0
                  · replace h := ifT c75 h
                    refine TL.run ft_cursitorref14_ok [0, 1, 2] rfl rfl ?_
                    refine TL.no rfl (.gn rfl rfl (decide_eq_true c75)) rfl ?_
                    refine TL.no rfl (.gn rfl rfl (decide_eq_true c75)) rfl ?_
                    refine TL.q rfl .u (Ex.py rfl (decide_eq_true c75) rfl) rfl ?_
                    refine TL.run ft_cursitorref14_ok [6] rfl rfl ?_
                    refine TL.no rfl (.gn rfl rfl rfl) rfl ?_
                    refine TL.no rfl (.gn rfl rfl rfl) rfl ?_
                    refine TL.no rfl (.gn rfl rfl rfl) rfl ?_
                    refine TL.no rfl (.gu rfl rfl) rfl ?_
                    refine TL.no rfl (.gu rfl rfl) rfl ?_
                    refine TL.no rfl (.gu rfl rfl) rfl ?_
                    refine TL.no rfl (.gu rfl rfl) rfl ?_
                    refine TL.no rfl (.gu rfl rfl) rfl ?_
                    refine TL.no rfl (.gu rfl rfl) rfl ?_
                    refine TL.no rfl (.gu rfl rfl) rfl ?_
                    refine TL.no rfl (.gu rfl rfl) rfl ?_
                    refine TL.no rfl (.gu rfl rfl) rfl ?_
                    refine TL.no rfl (.gu rfl rfl) rfl ?_
                    refine TL.no rfl (.gu rfl rfl) rfl ?_
                    refine TL.no rfl (.gn rfl rfl rfl) rfl ?_
                    refine TL.q rfl .u (Ex.py rfl rfl rfl) rfl ?_
                    refine TL.nil (X.seq ?_)
                    refine T.yes rfl rfl ?_
                    refine T.seq (T.region rfl ?_)
                    refine TL.run ft_cursitorref14_ok [0] rfl rfl ?_
                    obtain rfl := Option.some.inj h
                    replace h := hO66
                    clear hO66
                    try dsimp only at h
                    obtain rfl := Option.some.inj h
                    replace h := hO7
                    clear hO7
                    try dsimp only at h
                    obtain rfl := Option.some.inj h
                    exact TL.nil (X.seq (T.ret (X.rb (X.rs (X.rs (X.rb (X.rb (X.rs (X.rs (X.rb (X.rs (X.done1 [0] Try.results127 (RV.tm rfl) ⟨rfl, rfl, rfl⟩ (by rfl) (.inl rfl)))))))))))))
                  · replace h := ifF c75 h
                    refine TL.run ft_cursitorref14_ok [0, 1, 2] rfl rfl ?_
                    refine TL.q rfl (.g rfl rfl (decide_eq_false c75)) (Ex.ft ft_cursitorref14_ok rfl) rfl ?_
                    refine TL.q rfl (.g rfl rfl (decide_eq_false c75)) (Ex.ft ft_cursitorref14_ok rfl) rfl ?_
                    refine TL.q rfl .u (Ex.pn rfl (decide_eq_false c75) rfl) rfl ?_
                    by_cases c76 : x72 > 2147483647
                    · replace h := ifT c76 h
                      refine TL.run ft_cursitorref14_ok [6] rfl rfl ?_
                      refine TL.no rfl (.gn rfl rfl (decide_eq_true c76)) rfl ?_
                      refine TL.no rfl (.gn rfl rfl (decide_eq_true c76)) rfl ?_
                      refine TL.no rfl (.gn rfl rfl (decide_eq_true c76)) rfl ?_
                      refine TL.no rfl (.gu rfl rfl) rfl ?_
                      refine TL.no rfl (.gu rfl rfl) rfl ?_
                      refine TL.no rfl (.gu rfl rfl) rfl ?_
                      refine TL.no rfl (.gu rfl rfl) rfl ?_
                      refine TL.no rfl (.gu rfl rfl) rfl ?_
                      refine TL.no rfl (.gu rfl rfl) rfl ?_
                      refine TL.no rfl (.gu rfl rfl) rfl ?_
                      refine TL.no rfl (.gu rfl rfl) rfl ?_
                      refine TL.no rfl (.gu rfl rfl) rfl ?_
                      refine TL.no rfl (.gu rfl rfl) rfl ?_
                      refine TL.no rfl (.gu rfl rfl) rfl ?_
                      refine TL.no rfl (.gn rfl rfl (decide_eq_true c76)) rfl ?_
                      refine TL.q rfl .u (Ex.py rfl (decide_eq_true c76) rfl) rfl ?_
                      refine TL.nil (X.seq ?_)
                      refine T.yes rfl rfl ?_
                      refine T.seq (T.region rfl ?_)
                      refine TL.run ft_cursitorref14_ok [0] rfl rfl ?_
                      obtain rfl := Option.some.inj h
                      replace h := hO66
                      clear hO66
                      try dsimp only at h
                      obtain rfl := Option.some.inj h
                      replace h := hO7
                      clear hO7
                      try dsimp only at h
                      obtain rfl := Option.some.inj h
                      exact TL.nil (X.seq (T.ret (X.rb (X.rs (X.rs (X.rb (X.rb (X.rs (X.rs (X.rb (X.rs (X.done1 [0] Try.results127 (RV.tm rfl) ⟨rfl, rfl, rfl⟩ (by rfl) (.inl rfl)))))))))))))
                    · replace h := ifF c76 h
                      refine TL.run ft_cursitorref14_ok [6] rfl rfl ?_
                      refine TL.q rfl (.g rfl rfl (decide_eq_false c76)) (Ex.ft ft_cursitorref14_ok rfl) rfl ?_
                      refine TL.q rfl (.g rfl rfl (decide_eq_false c76)) (Ex.ft ft_cursitorref14_ok rfl) rfl ?_
                      refine TL.q rfl (.g rfl rfl (decide_eq_false c76)) (Ex.ft ft_cursitorref14_ok rfl) rfl ?_
                      by_cases c77 : (k63 : Int) > 0
                      · replace h := ifT c77 h
                        refine TL.q rfl (.g rfl rfl (decide_eq_true c77)) (Ex.ft ft_cursitorref14_ok rfl) rfl ?_
                        refine TL.q rfl (.g rfl rfl (decide_eq_true c77)) (Ex.ft ft_cursitorref14_ok rfl) rfl ?_
                        refine TL.q rfl (.g rfl rfl (decide_eq_true c77)) (Ex.ixS (k := k4) rfl rfl rfl Try.runUnderlying68 Try.sizeOf162 (List.getElem?_eq_some_iff.1 hx14).1) rfl ?_
                        refine TL.q rfl (.g rfl rfl (decide_eq_true c77)) (Ex.ft ft_cursitorref14_ok rfl) rfl ?_
                        refine TL.q rfl (.g rfl rfl (decide_eq_true c77)) (Ex.o1 1 rfl Try.isAgg160 z15nf z15cc rfl rfl) rfl ?_
                        refine TL.q rfl (.g rfl rfl (decide_eq_true c77)) (Ex.ft ft_cursitorref14_ok rfl) rfl ?_
                        replace h := guard_some h
                        obtain ⟨c78, h⟩ := h
                        refine TL.q rfl (.g rfl rfl (decide_eq_true c77)) (Ex.sub rfl rfl c78) rfl ?_
                        replace h := guard_some h
                        obtain ⟨c79, h⟩ := h
                        obtain ⟨x80, hx81, h⟩ := Option.bind_eq_some_iff.1 h
                        obtain ⟨z82cs, z82cl, z82cc, z82nf, z82r⟩ := RX.elem' (by decide) hX18 hx81
                        obtain ⟨z82S, z82r, z82rr⟩ := z82r
                        obtain rfl : z82cs = [.int .i64 x80] := z82r
                        refine TL.q rfl (.g rfl rfl (decide_eq_true c77)) (Ex.ixS (k := ((k63 : Int) - 1).toNat) rfl rfl ((Int.toNat_of_nonneg c79).symm) Try.runUnderlying160 Try.sizeOf3 (List.getElem?_eq_some_iff.1 hx81).1) rfl ?_
                        refine TL.q rfl (.g rfl rfl (decide_eq_true c77)) (Ex.o1 0 rfl Try.isAgg3 z82nf z82cc rfl rfl) rfl ?_
                        refine TL.q rfl (.g rfl rfl (decide_eq_true c77)) (Ex.ft ft_cursitorref14_ok rfl) rfl ?_
                        refine TL.q rfl (.g rfl rfl (decide_eq_true c77)) (Ex.ft ft_cursitorref14_ok rfl) rfl ?_
                        refine TL.q rfl (.g rfl rfl (decide_eq_false c76)) (Ex.py rfl (decide_eq_true c77) rfl) rfl ?_
                        refine TL.q rfl .u (Ex.pn rfl (decide_eq_false c76) rfl) rfl ?_
                        by_cases c83 : x80 ≥ x72
                        · replace h := ifT c83 h
                          refine TL.nil (X.seq ?_)
                          refine T.yes rfl (decide_eq_true c83) ?_
                          refine T.seq (T.region rfl ?_)
                          refine TL.run ft_cursitorref14_ok [0] rfl rfl ?_
                          obtain rfl := Option.some.inj h
                          replace h := hO66
                          clear hO66
                          try dsimp only at h
                          obtain rfl := Option.some.inj h
                          replace h := hO7
                          clear hO7
                          try dsimp only at h
                          obtain rfl := Option.some.inj h
                          exact TL.nil (X.seq (T.ret (X.rb (X.rs (X.rs (X.rb (X.rb (X.rs (X.rs (X.rb (X.rs (X.done1 [0] Try.results127 (RV.tm rfl) ⟨rfl, rfl, rfl⟩ (by rfl) (.inl rfl)))))))))))))
                        · replace h := ifF c83 h
                          refine TL.nil (X.seq ?_)
                          refine T.no rfl (decide_eq_false c83) ?_
                          refine T.skip (X.blk (X.seq (T.region rfl ?_)))
                          replace h := guard_some h
                          obtain ⟨c84, h⟩ := h
                          refine TL.run ft_cursitorref14_ok [0] rfl rfl ?_
                          refine TL.q rfl .u (Ex.add rfl rfl c84) rfl ?_
                          refine TL.run ft_cursitorref14_ok [2] rfl rfl ?_
                          exact TL.nil (X.back (m' := m67) [0] (by omega) ⟨y62, k63 + 1, rfl, rfl, h⟩ (by rfl) (by rfl))
                      · replace h := ifF c77 h
                        refine TL.no rfl (.gn rfl rfl (decide_eq_false c77)) rfl ?_
                        refine TL.no rfl (.gn rfl rfl (decide_eq_false c77)) rfl ?_
                        refine TL.no rfl (.gn rfl rfl (decide_eq_false c77)) rfl ?_
                        refine TL.no rfl (.gn rfl rfl (decide_eq_false c77)) rfl ?_
                        refine TL.no rfl (.gn rfl rfl (decide_eq_false c77)) rfl ?_
                        refine TL.no rfl (.gn rfl rfl (decide_eq_false c77)) rfl ?_
                        refine TL.no rfl (.gn rfl rfl (decide_eq_false c77)) rfl ?_
                        refine TL.no rfl (.gn rfl rfl (decide_eq_false c77)) rfl ?_
                        refine TL.no rfl (.gn rfl rfl (decide_eq_false c77)) rfl ?_
                        refine TL.no rfl (.gn rfl rfl (decide_eq_false c77)) rfl ?_
                        refine TL.no rfl (.gn rfl rfl (decide_eq_false c77)) rfl ?_
                        refine TL.q rfl (.g rfl rfl (decide_eq_false c76)) (Ex.pn rfl (decide_eq_false c77) rfl) rfl ?_
                        refine TL.q rfl .u (Ex.pn rfl (decide_eq_false c76) rfl) rfl ?_
                        refine TL.nil (X.seq ?_)
                        refine T.no rfl rfl ?_
                        refine T.skip (X.blk (X.seq (T.region rfl ?_)))
                        replace h := guard_some h
                        obtain ⟨c85, h⟩ := h
                        refine TL.run ft_cursitorref14_ok [0] rfl rfl ?_
                        refine TL.q rfl .u (Ex.add rfl rfl c85) rfl ?_
                        refine TL.run ft_cursitorref14_ok [2] rfl rfl ?_
                        exact TL.nil (X.back (m' := m67) [0] (by omega) ⟨y62, k63 + 1, rfl, rfl, h⟩ (by rfl) (by rfl))
                · replace h := ifF c71 h
                  refine TL.nil (X.seq ?_)
                  refine T.no rfl (decide_eq_false c71) ?_
                  obtain rfl := Option.some.inj h
                  replace h := hO66
                  clear hO66
                  try dsimp only at h
                  refine T.exit (X.exs (X.exs (X.ex (X.blk (X.seq (T.region rfl ?_))))))
                  replace h := guard_some h
                  obtain ⟨c86, h⟩ := h
                  refine TL.run ft_cursitorref14_ok [0] rfl rfl ?_
                  refine TL.q rfl .u (Ex.add rfl rfl c86) rfl ?_
                  refine TL.run ft_cursitorref14_ok [2] rfl rfl ?_
                  exact TL.nil (X.back (m' := m8) [0] (by omega) ⟨y62, k4 + 1, rfl, rfl, h⟩ (by rfl) (by rfl))
    · replace h := ifF c12 h
      refine TL.nil (X.seq ?_)
      refine T.no rfl (decide_eq_false c12) ?_
      obtain rfl := Option.some.inj h
      replace h := hO7
      clear hO7
      try dsimp only at h
      refine T.exit (X.exs (X.exs (X.ex (X.seq (T.seq (T.region rfl ?_))))))
      refine TL.run ft_cursitorref14_ok [0] rfl rfl ?_
      obtain rfl := Option.some.inj h
      exact TL.nil (X.seq (T.ret (X.done1 [0] Try.results127 (RV.tm rfl) ⟨rfl, rfl, rfl⟩ (by rfl) (.inl rfl))))
def f_r14_SameTopics_l1 (a0 : List Top) (a1 : List Top) : Nat → Bool → Nat → Option (Lp Bool (Bool × Nat))
  | 0, _, _ => none
  | m11 + 1, y6, k7 => if (k7 : Int) < (a0.length : Int) then ((a0[k7]?).bind fun x16 => (a1[k7]?).bind fun x22 => if x16.fName = x22.fName then ((f_r01_Same x16.fParts x22.fParts).bind fun x29 => if x29 = true then (if -9223372036854775808 ≤ ((k7 : Int) + 1) ∧ ((k7 : Int) + 1) ≤ 9223372036854775807 then (f_r14_SameTopics_l1 a0 a1 m11 y6 (k7 + 1)) else none) else some (Lp.ret false)) else some (Lp.ret false)) else (some (Lp.go (y6, k7)))
def f_r14_SameTopics (a0 : List Top) (a1 : List Top) : Option (Bool) := if (a0.length : Int) = (a1.length : Int) then ((f_r14_SameTopics_l1 a0 a1 (((a0.length : Int)).toNat + 1) false 0).bind fun e => match e with | .ret r => some r | .go (y33, k34) => some true) else some false
set_option maxRecDepth 100000 in
set_option maxHeartbeats 4000000 in
theorem f_r14_SameTopics_spec (a0 : List Top) (A1 : Option Addr) (c2 : Nat) (a1 : List Top) (A3 : Option Addr) (c4 : Nat) (r : Bool) (h : f_r14_SameTopics a0 a1 = some r) : SpecX Try.prog 110 #[.slice A1 a0.length c2, .slice A3 a1.length c4] (RX.and (RX.of (sliceRd 2 Top_rd) [.slice A1 a0.length c2] a0) (RX.of (sliceRd 2 Top_rd) [.slice A3 a1.length c4] a1)) (EmpR) (fun v A' N => v = .bool r ∧ A' = EmpR ∧ N = []) := by
  refine enterA Try.func110 rfl Try.ntmps110 rfl ?_
  intro F w hX
  unfold f_r14_SameTopics at h
  refine T.seq (T.region rfl ?_)
  refine TL.run ft_cursitorref14_ok [0] rfl rfl ?_
  refine TL.nil (X.seq (T.seq (T.seq (T.region rfl ?_))))
  refine TL.run ft_cursitorref14_ok [0] rfl rfl ?_
  refine TL.q rfl .u (Ex.lenS rfl Try.runUnderlying68) rfl ?_
  refine TL.run ft_cursitorref14_ok [2] rfl rfl ?_
  refine TL.q rfl .u (Ex.lenS rfl Try.runUnderlying68) rfl ?_
  refine TL.run ft_cursitorref14_ok [4] rfl rfl ?_
  by_cases c5 : (a0.length : Int) = (a1.length : Int)
  · replace h := ifT c5 h
    refine TL.nil (X.seq ?_)
    refine T.no rfl (bn_f (decide_eq_true c5)) ?_
    refine T.skip (X.seq (T.seq (T.seq (T.region rfl ?_))))
    refine TL.run ft_cursitorref14_ok [0] rfl rfl ?_
    refine TL.nil (X.seq (T.block ?_))
    obtain ⟨E8, hE9, hO10⟩ := Option.bind_eq_some_iff.1 h
    refine T.lp (fun m e Rs => ∃ (y6 : Bool) (k7 : Nat), e = [(0, .slice A1 a0.length c2), (1, .slice A3 a1.length c4), (4, .bool y6), (5, .int .i64 (k7 : Int))] ∧ Rs = [EmpR] ∧ f_r14_SameTopics_l1 a0 a1 m y6 k7 = some E8) (((a0.length : Int)).toNat + 1) [0] ⟨false, 0, rfl, rfl, by exact hE9⟩ (by rfl) (by rfl) ?_
    rintro m11 _ _ ⟨y6, k7, rfl, rfl, hl13⟩
    clear hE9 h
    cases m11 with
    | zero =>
      rw [f_r14_SameTopics_l1] at hl13
      cases hl13
    | succ m11 =>
      have h := hl13
      clear hl13
      rw [f_r14_SameTopics_l1] at h
      refine T.seq (T.seq (T.region rfl ?_))
      refine TL.run ft_cursitorref14_ok [0, 1] rfl rfl ?_
      refine TL.q rfl .u (Ex.lenS rfl Try.runUnderlying68) rfl ?_
      refine TL.run ft_cursitorref14_ok [3] rfl rfl ?_
      by_cases c15 : (k7 : Int) < (a0.length : Int)
      · replace h := ifT c15 h
        refine TL.nil (X.seq ?_)
        refine T.yes rfl (decide_eq_true c15) ?_
        refine T.skip (X.seq (T.seq (T.block (T.seq (T.draw (.q 0 (.q 1 (.q 2 (.q 3 (.q 4 (.q 5 (.q 6 (.q 7 (.q 8 (.q 9 (.q 10 (.q 11 (.q 12 (.q 13 (.q 14 (.q 15 (.q 16 (.q 17 (.q 18 (.q 19 (.q 20 (.q 21 (.e 22 (.q 23 (.q 24 .nil))))))))))))))))))))))))) [0] rfl mix_cursitorref14 (NoP.seq (NoP.blk (NoP.seq (NoP.seq (NoP.blk (NoP.seq np_post)))))) (by kernel_rfl) ?_)))))
        obtain ⟨x16, hx17, h⟩ := Option.bind_eq_some_iff.1 h
        obtain ⟨gz18, oz18, rfl, z18cs, z18cl, z18cc, z18nf, z18r⟩ := RX.elem (by decide) (RX.reads_left hX) hx17
        obtain ⟨z18S, z18r, z18rr⟩ := z18r
        obtain ⟨A19, c20, rfl, z18s0⟩ := z18r
        have hX21 : (RX.of (sliceRd 1 intE) [.slice A19 x16.fParts.length c20] x16.fParts).reads w F := ⟨z18S, z18s0, z18rr⟩
        refine TD.run ft_cursitorref14_ok [0, 1] rfl rfl ?_
        refine TD.q rfl .u (Ex.ixS (k := k7) rfl rfl rfl Try.runUnderlying68 Try.sizeOf162 (List.getElem?_eq_some_iff.1 hx17).1) rfl ?_
        refine TD.run ft_cursitorref14_ok [3] rfl rfl ?_
        refine TD.q rfl .u (Ex.o1 0 rfl Try.isAgg9 z18nf z18cc rfl rfl) rfl ?_
        obtain ⟨x22, hx23, h⟩ := Option.bind_eq_some_iff.1 h
        obtain ⟨gz24, oz24, rfl, z24cs, z24cl, z24cc, z24nf, z24r⟩ := RX.elem (by decide) (RX.reads_right hX) hx23
        obtain ⟨z24S, z24r, z24rr⟩ := z24r
        obtain ⟨A25, c26, rfl, z24s0⟩ := z24r
        have hX27 : (RX.of (sliceRd 1 intE) [.slice A25 x22.fParts.length c26] x22.fParts).reads w F := ⟨z24S, z24s0, z24rr⟩
        refine TD.run ft_cursitorref14_ok [5, 6] rfl rfl ?_
        refine TD.q rfl .u (Ex.ixS (k := k7) rfl rfl rfl Try.runUnderlying68 Try.sizeOf162 (List.getElem?_eq_some_iff.1 hx23).1) rfl ?_
        refine TD.run ft_cursitorref14_ok [8] rfl rfl ?_
        refine TD.q rfl .u (Ex.o1 0 rfl Try.isAgg9 z24nf z24cc rfl rfl) rfl ?_
        refine TD.q rfl .u (Ex.sNe rfl rfl) rfl ?_
        by_cases c28 : x16.fName = x22.fName
        · replace h := ifT c28 h
          refine TD.run ft_cursitorref14_ok [11] rfl rfl ?_
          refine TD.q rfl (.g rfl rfl (bn_f (decide_eq_true c28))) (Ex.ft ft_cursitorref14_ok rfl) rfl ?_
          refine TD.q rfl (.g rfl rfl (bn_f (decide_eq_true c28))) (Ex.ft ft_cursitorref14_ok rfl) rfl ?_
          refine TD.q rfl (.g rfl rfl (bn_f (decide_eq_true c28))) (Ex.ixS (k := k7) rfl rfl rfl Try.runUnderlying68 Try.sizeOf162 (List.getElem?_eq_some_iff.1 hx17).1) rfl ?_
          refine TD.q rfl (.g rfl rfl (bn_f (decide_eq_true c28))) (Ex.ft ft_cursitorref14_ok rfl) rfl ?_
          refine TD.q rfl (.g rfl rfl (bn_f (decide_eq_true c28))) (Ex.o1 1 rfl Try.isAgg160 z18nf z18cc rfl rfl) rfl ?_
          refine TD.q rfl (.g rfl rfl (bn_f (decide_eq_true c28))) (Ex.ft ft_cursitorref14_ok rfl) rfl ?_
          refine TD.q rfl (.g rfl rfl (bn_f (decide_eq_true c28))) (Ex.ft ft_cursitorref14_ok rfl) rfl ?_
          refine TD.q rfl (.g rfl rfl (bn_f (decide_eq_true c28))) (Ex.ixS (k := k7) rfl rfl rfl Try.runUnderlying68 Try.sizeOf162 (List.getElem?_eq_some_iff.1 hx23).1) rfl ?_
          refine TD.q rfl (.g rfl rfl (bn_f (decide_eq_true c28))) (Ex.ft ft_cursitorref14_ok rfl) rfl ?_
          refine TD.q rfl (.g rfl rfl (bn_f (decide_eq_true c28))) (Ex.o1 1 rfl Try.isAgg160 z24nf z24cc rfl rfl) rfl ?_
          obtain ⟨x29, hx30, h⟩ := Option.bind_eq_some_iff.1 h
          refine TD.ce rfl (.g rfl rfl (bn_f (decide_eq_true c28))) (.fn Try.call180 rfl) (f_r01_Same_spec x16.fParts _ _ x22.fParts _ _ _ hx30) (fun _ hs => (RX.reads_and (SrcE.old hs hX21) (SrcE.old hs hX27))) rfl [0] (rfl) ?_
          refine TD.q rfl (.g rfl rfl (bn_f (decide_eq_true c28))) (Ex.ft ft_cursitorref14_ok rfl) rfl ?_
          refine TD.q rfl .u (Ex.pn rfl (bn_f (decide_eq_true c28)) rfl) rfl ?_
          by_cases c31 : x29 = true
          · replace h := ifT c31 h
            refine TD.nil (X.seq ?_)
            refine T.no rfl (bn_f c31) ?_
            refine T.skip (X.blk (X.seq (T.region rfl ?_)))
            replace h := guard_some h
            obtain ⟨c32, h⟩ := h
            refine TL.run ft_cursitorref14_ok [0] rfl rfl ?_
            refine TL.q rfl .u (Ex.add rfl rfl c32) rfl ?_
            refine TL.run ft_cursitorref14_ok [2] rfl rfl ?_
            exact TL.nil (X.back (m' := m11) [0] (by omega) ⟨y6, k7 + 1, rfl, rfl, h⟩ (by rfl) (by rfl))
          · replace h := ifF c31 h
            replace c31 := eq_false_of_ne_true c31
            refine TD.nil (X.seq ?_)
            refine T.yes rfl (bn_t c31) ?_
            refine T.seq (T.region rfl ?_)
            refine TL.run ft_cursitorref14_ok [0] rfl rfl ?_
            obtain rfl := Option.some.inj h
            replace h := hO10
            clear hO10
            try dsimp only at h
            obtain rfl := Option.some.inj h
            exact TL.nil (X.seq (T.ret (X.rb (X.rs (X.rs (X.rb (X.rs (X.done1 [0] Try.results110 (RV.tm rfl) ⟨rfl, rfl, rfl⟩ (by rfl) (.inl rfl)))))))))
        · replace h := ifF c28 h
          refine TD.run ft_cursitorref14_ok [11] rfl rfl ?_
          refine TD.no rfl (.gn rfl rfl (bn_t (decide_eq_false c28))) rfl ?_
          refine TD.no rfl (.gn rfl rfl (bn_t (decide_eq_false c28))) rfl ?_
          refine TD.no rfl (.gn rfl rfl (bn_t (decide_eq_false c28))) rfl ?_
          refine TD.no rfl (.gn rfl rfl (bn_t (decide_eq_false c28))) rfl ?_
          refine TD.no rfl (.gn rfl rfl (bn_t (decide_eq_false c28))) rfl ?_
          refine TD.no rfl (.gn rfl rfl (bn_t (decide_eq_false c28))) rfl ?_
          refine TD.no rfl (.gn rfl rfl (bn_t (decide_eq_false c28))) rfl ?_
          refine TD.no rfl (.gn rfl rfl (bn_t (decide_eq_false c28))) rfl ?_
          refine TD.no rfl (.gn rfl rfl (bn_t (decide_eq_false c28))) rfl ?_
          refine TD.no rfl (.gn rfl rfl (bn_t (decide_eq_false c28))) rfl ?_
          refine TD.noe rfl (.gn rfl rfl (bn_t (decide_eq_false c28))) rfl [0] rfl ?_
          refine TD.no rfl (.gn rfl rfl (bn_t (decide_eq_false c28))) rfl ?_
          refine TD.q rfl .u (Ex.py rfl (bn_t (decide_eq_false c28)) rfl) rfl ?_
          refine TD.nil (X.seq ?_)
          refine T.yes rfl rfl ?_
          refine T.seq (T.region rfl ?_)
          refine TL.run ft_cursitorref14_ok [0] rfl rfl ?_
          obtain rfl := Option.some.inj h
          replace h := hO10
          clear hO10
          try dsimp only at h
          obtain rfl := Option.some.inj h
          exact TL.nil (X.seq (T.ret (X.rb (X.rs (X.rs (X.rb (X.rs (X.done1 [0] Try.results110 (RV.tm rfl) ⟨rfl, rfl, rfl⟩ (by rfl) (.inl rfl)))))))))
      · replace h := ifF c15 h
        refine TL.nil (X.seq ?_)
        refine T.no rfl (decide_eq_false c15) ?_
        obtain rfl := Option.some.inj h
        replace h := hO10
        clear hO10
        try dsimp only at h
        refine T.exit (X.exs (X.exs (X.ex (X.seq (T.seq (T.region rfl ?_))))))
        refine TL.run ft_cursitorref14_ok [0] rfl rfl ?_
        obtain rfl := Option.some.inj h
        exact TL.nil (X.seq (T.ret (X.done1 [0] Try.results110 (RV.tm rfl) ⟨rfl, rfl, rfl⟩ (by rfl) (.inl rfl))))
  · replace h := ifF c5 h
    refine TL.nil (X.seq ?_)
    refine T.yes rfl (bn_t (decide_eq_false c5)) ?_
    refine T.seq (T.region rfl ?_)
    refine TL.run ft_cursitorref14_ok [0] rfl rfl ?_
    obtain rfl := Option.some.inj h
    exact TL.nil (X.seq (T.ret (X.rs (X.done1 [0] Try.results110 (RV.tm rfl) ⟨rfl, rfl, rfl⟩ (by rfl) (.inl rfl)))))
def f_r14_Topics_l2 (x15 : Top) : Nat → List UInt8 → Nat → Option (List UInt8 × Nat)
  | 0, _, _ => none
  | m32 + 1, y27, k28 => if (k28 : Int) < (x15.fParts.length : Int) then ((x15.fParts[k28]?).bind fun x37 => (gRBytes x37 4).bind fun x40 => if y27.length + x40.length ≤ 9223372036854775807 then (if -9223372036854775808 ≤ ((k28 : Int) + 1) ∧ ((k28 : Int) + 1) ≤ 9223372036854775807 then (f_r14_Topics_l2 x15 m32 (y27 ++ x40) (k28 + 1)) else none) else none) else some (y27, k28)
def f_r14_Topics_l1 (a0 : List Top) : Nat → List UInt8 → Nat → Option (List UInt8 × Nat)
  | 0, _, _ => none
  | m10 + 1, y5, k6 => if (k6 : Int) < (a0.length : Int) then ((a0[k6]?).bind fun x15 => (gRBFixed (⟨false, x15.fName⟩ : Bl) 2).bind fun x21 => if y5.length + x21.length ≤ 9223372036854775807 then ((gRBytes (x15.fParts.length : Int) 4).bind fun x24 => if (y5 ++ x21).length + x24.length ≤ 9223372036854775807 then ((f_r14_Topics_l2 x15 (((x15.fParts.length : Int)).toNat + 1) ((y5 ++ x21) ++ x24) 0).bind fun (y45, k46) => if -9223372036854775808 ≤ ((k6 : Int) + 1) ∧ ((k6 : Int) + 1) ≤ 9223372036854775807 then (f_r14_Topics_l1 a0 m10 y45 (k6 + 1)) else none) else none) else none) else some (y5, k6)
def f_r14_Topics (a0 : List Top) : Option (List UInt8) := (gRBytes (a0.length : Int) 4).bind fun x3 => (f_r14_Topics_l1 a0 (((a0.length : Int)).toNat + 1) x3 0).bind fun (y48, k49) => some y48
set_option maxRecDepth 100000 in
set_option maxHeartbeats 4000000 in
theorem f_r14_Topics_spec (a0 : List Top) (A1 : Option Addr) (c2 : Nat) (r : List UInt8) (h : f_r14_Topics a0 = some r) : SpecX Try.prog 112 #[.slice A1 a0.length c2] (RX.of (sliceRd 2 Top_rd) [.slice A1 a0.length c2] a0) (EmpR) (fun v A' N => v = .string (bsOf r) ∧ A' = EmpR ∧ N = []) := by
  refine enterA Try.func112 rfl Try.ntmps112 rfl ?_
  intro F w hX
  unfold f_r14_Topics at h
  refine T.seq (T.region rfl ?_)
  refine TL.run ft_cursitorref14_ok [0] rfl rfl ?_
  refine TL.nil (X.seq (T.seq (T.region rfl ?_)))
  refine TL.run ft_cursitorref14_ok [0] rfl rfl ?_
  refine TL.q rfl .u (Ex.lenS rfl Try.runUnderlying68) rfl ?_
  obtain ⟨x3, hx4, h⟩ := Option.bind_eq_some_iff.1 h
  refine TL.ce rfl .u (.fn Try.call111 rfl) (gRBytes_spec (a0.length : Int) 4 _ hx4) (fun _ hs => (RX.reads_triv _ _)) rfl ?_
  refine TL.run ft_cursitorref14_ok [3] rfl rfl ?_
  refine TL.nil (X.seq (T.seq (T.seq (T.region rfl ?_))))
  refine TL.run ft_cursitorref14_ok [0] rfl rfl ?_
  refine TL.nil (X.seq (T.block ?_))
  obtain ⟨E7, hE8, hO9⟩ := Option.bind_eq_some_iff.1 h
  refine T.lp (fun m e Rs => ∃ (y5 : List UInt8) (k6 : Nat), e = [(0, .slice A1 a0.length c2), (2, .string ⟨#[]⟩), (3, .string (bsOf y5)), (4, .int .i64 (k6 : Int))] ∧ Rs = [EmpR] ∧ f_r14_Topics_l1 a0 m y5 k6 = some E7) (((a0.length : Int)).toNat + 1) [0] ⟨x3, 0, rfl, rfl, by exact hE8⟩ (by rfl) (by rfl) ?_
  rintro m10 _ _ ⟨y5, k6, rfl, rfl, hl12⟩
  clear hE8 h
  cases m10 with
  | zero =>
    rw [f_r14_Topics_l1] at hl12
    cases hl12
  | succ m10 =>
    have h := hl12
    clear hl12
    rw [f_r14_Topics_l1] at h
    refine T.seq (T.seq (T.region rfl ?_))
    refine TL.run ft_cursitorref14_ok [0, 1] rfl rfl ?_
    refine TL.q rfl .u (Ex.lenS rfl Try.runUnderlying68) rfl ?_
    refine TL.run ft_cursitorref14_ok [3] rfl rfl ?_
    by_cases c14 : (k6 : Int) < (a0.length : Int)
    · replace h := ifT c14 h
      refine TL.nil (X.seq ?_)
      refine T.yes rfl (decide_eq_true c14) ?_
      refine T.skip (X.seq (T.seq (T.block (T.seq (T.draw (.q 0 (.q 1 (.q 2 (.q 3 (.q 4 (.q 5 (.q 6 (.q 9 (.q 10 (.q 11 (.q 12 (.q 13 (.q 14 (.e 7 (.q 8 (.e 15 (.q 16 (.q 17 .nil)))))))))))))))))) [0] rfl mix_cursitorref14 (NoP.seq (NoP.blk (NoP.seq (NoP.seq (NoP.blk (NoP.seq np_post)))))) (by kernel_rfl) ?_)))))
      obtain ⟨x15, hx16, h⟩ := Option.bind_eq_some_iff.1 h
      obtain ⟨gz17, oz17, rfl, z17cs, z17cl, z17cc, z17nf, z17r⟩ := RX.elem (by decide) hX hx16
      obtain ⟨z17S, z17r, z17rr⟩ := z17r
      obtain ⟨A18, c19, rfl, z17s0⟩ := z17r
      have hX20 : (RX.of (sliceRd 1 intE) [.slice A18 x15.fParts.length c19] x15.fParts).reads w F := ⟨z17S, z17s0, z17rr⟩
      refine TD.run ft_cursitorref14_ok [0, 1, 2] rfl rfl ?_
      refine TD.q rfl .u (Ex.ixS (k := k6) rfl rfl rfl Try.runUnderlying68 Try.sizeOf162 (List.getElem?_eq_some_iff.1 hx16).1) rfl ?_
      refine TD.run ft_cursitorref14_ok [4] rfl rfl ?_
      refine TD.q rfl .u (Ex.o1 0 rfl Try.isAgg9 z17nf z17cc rfl rfl) rfl ?_
      refine TD.q rfl .u (Ex.bld (cells := #[.bool false, .string (bsOf x15.fName)]) bok_cursitorref14_26 rfl (by kernel_rfl)) rfl ?_
      refine TD.run ft_cursitorref14_ok [9, 10] rfl rfl ?_
      refine TD.q rfl .u (Ex.ixS (k := k6) rfl rfl rfl Try.runUnderlying68 Try.sizeOf162 (List.getElem?_eq_some_iff.1 hx16).1) rfl ?_
      refine TD.run ft_cursitorref14_ok [12] rfl rfl ?_
      refine TD.q rfl .u (Ex.o1 1 rfl Try.isAgg160 z17nf z17cc rfl rfl) rfl ?_
      refine TD.q rfl .u (Ex.lenS rfl Try.runUnderlying160) rfl ?_
      obtain ⟨x21, hx22, h⟩ := Option.bind_eq_some_iff.1 h
      refine TD.ce rfl .u (.fn Try.call122 rfl) (gRBFixed_spec (⟨false, x15.fName⟩ : Bl) 2 _ hx22) (fun _ hs => (RX.reads_triv _ _)) rfl [0] (rfl) ?_
      replace h := guard_some h
      obtain ⟨c23, h⟩ := h
      refine TD.q rfl .u (Ex.sAdd rfl rfl c23) rfl ?_
      obtain ⟨x24, hx25, h⟩ := Option.bind_eq_some_iff.1 h
      refine TD.ce rfl .u (.fn Try.call111 rfl) (gRBytes_spec (x15.fParts.length : Int) 4 _ hx25) (fun _ hs => (RX.reads_triv _ _)) rfl [0] (rfl) ?_
      replace h := guard_some h
      obtain ⟨c26, h⟩ := h
      refine TD.q rfl .u (Ex.sAdd rfl rfl c26) rfl ?_
      refine TD.run ft_cursitorref14_ok [17] rfl rfl ?_
      refine TD.nil (X.seq (T.seq (T.region rfl ?_)))
      refine TL.run ft_cursitorref14_ok [0] rfl rfl ?_
      refine TL.nil (X.seq (T.block ?_))
      obtain ⟨E29, hE30, hO31⟩ := Option.bind_eq_some_iff.1 h
      refine T.lp (fun m e Rs => ∃ (y27 : List UInt8) (k28 : Nat), e = [(0, .slice (some ⟨gz17, oz17, none⟩) a0.length c2), (2, .string ⟨#[]⟩), (3, .string (bsOf y27)), (4, .int .i64 (k6 : Int)), (5, .int .i64 (k28 : Int))] ∧ Rs = [EmpR] ∧ f_r14_Topics_l2 x15 m y27 k28 = some E29) (((x15.fParts.length : Int)).toNat + 1) [0] ⟨((y5 ++ x21) ++ x24), 0, rfl, rfl, by exact hE30⟩ (by rfl) (by rfl) ?_
      rintro m32 _ _ ⟨y27, k28, rfl, rfl, hl34⟩
      clear hE30 h
      cases m32 with
      | zero =>
        rw [f_r14_Topics_l2] at hl34
        cases hl34
      | succ m32 =>
        have h := hl34
        clear hl34
        rw [f_r14_Topics_l2] at h
        refine T.seq (T.seq (T.region rfl ?_))
        refine TL.run ft_cursitorref14_ok [0, 1, 2] rfl rfl ?_
        refine TL.q rfl .u (Ex.ixS (k := k6) rfl rfl rfl Try.runUnderlying68 Try.sizeOf162 (List.getElem?_eq_some_iff.1 hx16).1) rfl ?_
        refine TL.run ft_cursitorref14_ok [4] rfl rfl ?_
        refine TL.q rfl .u (Ex.o1 1 rfl Try.isAgg160 z17nf z17cc rfl rfl) rfl ?_
        refine TL.q rfl .u (Ex.lenS rfl Try.runUnderlying160) rfl ?_
        refine TL.run ft_cursitorref14_ok [7] rfl rfl ?_
        by_cases c36 : (k28 : Int) < (x15.fParts.length : Int)
        · replace h := ifT c36 h
          refine TL.nil (X.seq ?_)
          refine T.yes rfl (decide_eq_true c36) ?_
          refine T.skip (X.seq (T.seq (T.block (T.region rfl ?_))))
          refine TL.run ft_cursitorref14_ok [0, 1, 2] rfl rfl ?_
          refine TL.q rfl .u (Ex.ixS (k := k6) rfl rfl rfl Try.runUnderlying68 Try.sizeOf162 (List.getElem?_eq_some_iff.1 hx16).1) rfl ?_
          refine TL.run ft_cursitorref14_ok [4] rfl rfl ?_
          refine TL.q rfl .u (Ex.o1 1 rfl Try.isAgg160 z17nf z17cc rfl rfl) rfl ?_
          obtain ⟨x37, hx38, h⟩ := Option.bind_eq_some_iff.1 h
          obtain ⟨gz39, oz39, rfl, z39cs, z39cl, z39cc, z39nf, z39r⟩ := RX.elem (by decide) hX20 hx38
          obtain ⟨z39S, z39r, z39rr⟩ := z39r
          obtain rfl : z39cs = [.int .i64 x37] := z39r
          refine TL.run ft_cursitorref14_ok [6] rfl rfl ?_
          refine TL.q rfl .u (Ex.ixS (k := k28) rfl rfl rfl Try.runUnderlying160 Try.sizeOf3 (List.getElem?_eq_some_iff.1 hx38).1) rfl ?_
          refine TL.q rfl .u (Ex.o1 0 rfl Try.isAgg3 z39nf z39cc rfl rfl) rfl ?_
          obtain ⟨x40, hx41, h⟩ := Option.bind_eq_some_iff.1 h
          refine TL.ce rfl .u (.fn Try.call111 rfl) (gRBytes_spec x37 4 _ hx41) (fun _ hs => (RX.reads_triv _ _)) rfl ?_
          replace h := guard_some h
          obtain ⟨c42, h⟩ := h
          refine TL.q rfl .u (Ex.sAdd rfl rfl c42) rfl ?_
          refine TL.run ft_cursitorref14_ok [11] rfl rfl ?_
          refine TL.nil (X.blk (X.seq (T.region rfl ?_)))
          replace h := guard_some h
          obtain ⟨c43, h⟩ := h
          refine TL.run ft_cursitorref14_ok [0] rfl rfl ?_
          refine TL.q rfl .u (Ex.add rfl rfl c43) rfl ?_
          refine TL.run ft_cursitorref14_ok [2] rfl rfl ?_
          exact TL.nil (X.back (m' := m32) [0] (by omega) ⟨(y27 ++ x40), k28 + 1, rfl, rfl, h⟩ (by rfl) (by rfl))
        · replace h := ifF c36 h
          refine TL.nil (X.seq ?_)
          refine T.no rfl (decide_eq_false c36) ?_
          obtain rfl := Option.some.inj h
          replace h := hO31
          clear hO31
          try dsimp only at h
          refine T.exit (X.exs (X.exs (X.ex (X.blk (X.seq (T.region rfl ?_))))))
          replace h := guard_some h
          obtain ⟨c44, h⟩ := h
          refine TL.run ft_cursitorref14_ok [0] rfl rfl ?_
          refine TL.q rfl .u (Ex.add rfl rfl c44) rfl ?_
          refine TL.run ft_cursitorref14_ok [2] rfl rfl ?_
          exact TL.nil (X.back (m' := m10) [0] (by omega) ⟨y27, k6 + 1, rfl, rfl, h⟩ (by rfl) (by rfl))
    · replace h := ifF c14 h
      refine TL.nil (X.seq ?_)
      refine T.no rfl (decide_eq_false c14) ?_
      obtain rfl := Option.some.inj h
      replace h := hO9
      clear hO9
      try dsimp only at h
      refine T.exit (X.exs (X.exs (X.ex (X.seq (T.seq (T.region rfl ?_))))))
      refine TL.run ft_cursitorref14_ok [0, 1] rfl rfl ?_
      obtain rfl := Option.some.inj h
      exact TL.nil (X.seq (T.ret (X.done1 [0] Try.results112 (RV.tm rfl) ⟨rfl, rfl, rfl⟩ (by rfl) (.inl rfl))))
end Go.Proofs.Ytagbblaegdedpaa.Sl
namespace Go.Proofs.Ytagbblaegdedpaa.Sl
open Go.RowKit
set_option linter.unusedVariables false
set_option linter.unusedSimpArgs false
def pTopic : Pr Top := pText.bind fun nm => (pRow 4 4 (pInt 4)).bind fun ps => .ret ⟨nm, ps⟩
def encT (t : Top) : List UInt8 := (be (t.fName.length : Int) 2 ++ t.fName) ++ (be (t.fParts.length : Int) 4 ++ encs (fun n => be n 4) t.fParts)
def okT (t : Top) : Prop := fits (t.fName.length : Int) 2 = true ∧ fits (t.fParts.length : Int) 4 = true ∧ ∀ n, n ∈ t.fParts → fits n 4 = true
theorem Sp_parts : Sp (pRow 4 4 (pInt 4)) (fun l => be (l.length : Int) 4 ++ encs (fun n => be n 4) l) (fun l => fits (l.length : Int) 4 = true ∧ ∀ n, n ∈ l → fits n 4 = true) := Sp_row 4 4 (by decide) (by decide) (Sp_int 4 (by decide) (by decide)) (fun x _ => by rw [be_length]; decide)
theorem Sp_topic : Sp pTopic encT okT := by
  refine ⟨fun s q a r hq h => ?_, fun s t q a hq ha h => ?_⟩
  · obtain ⟨k, q1, h1, h⟩ := Pr.bind_ok h
    obtain ⟨v, q2, h2, h⟩ := Pr.bind_ok h
    injection h with h
    obtain ⟨rfl, rfl⟩ := Prod.mk.inj h
    obtain ⟨a1, a2, a3, a4, a5⟩ := Sp_text.spell _ _ _ _ hq h1
    obtain ⟨b1, b2, b3, b4, b5⟩ := Sp_parts.spell _ _ _ _ a2 h2
    exact ⟨by omega, b2, by simp only [encT, List.length_append] at *; omega, by rw [b4, a4]; simp only [encT, List.append_assoc], a5.1, b5⟩
  · obtain ⟨a1, a2, a3⟩ := ha
    have hl := congrArg List.length h
    rw [encT, List.append_assoc] at h
    have g1 := Sp_text.back _ _ _ _ hq ⟨a1, rfl⟩ h
    have h := drop_step h
    have g2 := Sp_parts.back _ _ _ _ (by simp only [encT, List.length_drop, List.length_append, be_length] at *; omega) ⟨a2, a3⟩ h
    rw [pTopic, Pr.bind_of g1, Pr.bind_of g2]
    simp only [Pr.ret, encT, List.length_append, Nat.add_assoc]
theorem encT_ge (t : Top) (h : okT t) : 6 ≤ (encT t).length := by simp only [encT, List.length_append, be_length]; omega
theorem Sp_topics : Sp (pRow 4 6 pTopic) (fun l => be (l.length : Int) 4 ++ encs encT l) (fun l => fits (l.length : Int) 4 = true ∧ ∀ t, t ∈ l → okT t) := Sp_row 4 6 (by decide) (by decide) Sp_topic encT_ge
theorem topics_l2 (n : Int) (s : List UInt8) (hn : n ≤ 1000000) : ∀ (m fuel k : Nat) (acc : List Int) (q : Nat), ((k + m : Nat) : Int) = n → m < fuel → q + 4 * m ≤ s.length → acc.length = k →
    ∃ l, pRep (pInt 4) m s q = .ok (l, q + 4 * m) ∧ f_value_Topics_l2 n fuel k acc ⟨s.drop q, q, 0⟩ = some (k + m, acc ++ l, ⟨s.drop (q + 4 * m), q + 4 * m, 0⟩)
  | 0, fuel + 1, k, acc, q, h1, h2, h3, h4 => ⟨[], rfl, by rw [f_value_Topics_l2, if_neg (by omega), List.append_nil]; rfl⟩
  | m + 1, fuel + 1, k, acc, q, h1, h2, h3, h4 => by
    rw [f_value_Topics_l2, if_pos (by omega)]
    rcases Q4.run s q (by omega) with ⟨e, st, p1, g1, x1, y1⟩ | ⟨a, r, p1, g1, n1, l1⟩
    · unfold pInt at p1
      rw [if_neg (by omega)] at p1
      exact nomatch p1
    · have hr : r = q + 4 := by
        unfold pInt at p1
        rw [if_neg (by omega)] at p1
        injection p1 with p1
        exact (Prod.mk.inj p1).2.symm
      subst hr
      rw [g1]
      simp only [Option.bind_some]
      rw [if_pos (by omega), if_pos (by omega)]
      obtain ⟨l, e1, e2⟩ := topics_l2 n s hn m fuel (k + 1) (acc ++ [a]) (q + 4) (by omega) (by omega) (by omega) (by rw [List.length_append, h4]; rfl)
      have eq : q + 4 + 4 * m = q + 4 * (m + 1) := by omega
      rw [eq] at e1 e2
      refine ⟨a :: l, ?_, ?_⟩
      · rw [pRep, Pr.bind_of p1, Pr.bind_of e1]
        rfl
      · rw [e2, List.append_assoc]
        rw [show k + 1 + m = k + (m + 1) by omega]
        rfl
theorem topics_l1 (n : Int) (s : List UInt8) (hs : s.length ≤ 1000000) (hn : n ≤ 1000000) : ∀ (m fuel k : Nat) (acc : List Top) (q : Nat), ((k + m : Nat) : Int) = n → m < fuel → q ≤ s.length → acc.length = k →
    (∃ (e : Int) (st : I), pRep pTopic m s q = .error e ∧ f_value_Topics_l1 n fuel [] acc k ⟨s.drop q, q, 0⟩ = some (.ret ([], st)) ∧ st.err = e ∧ st.err ≠ 0) ∨
    (∃ l r, pRep pTopic m s q = .ok (l, r) ∧ f_value_Topics_l1 n fuel [] acc k ⟨s.drop q, q, 0⟩ = some (.go ([], acc ++ l, k + m, ⟨s.drop r, r, 0⟩)) ∧ q ≤ r ∧ r ≤ s.length)
  | 0, fuel + 1, k, acc, q, h1, h2, h3, h4 => .inr ⟨[], q, rfl, by rw [f_value_Topics_l1, if_neg (by omega), List.append_nil]; rfl, Nat.le_refl _, h3⟩
  | m + 1, fuel + 1, k, acc, q, h1, h2, h3, h4 => by
    rw [f_value_Topics_l1, if_pos (by omega)]
    have died : ∀ (st : I) (t : List UInt8), st.err ≠ 0 → ((gCount st 4 4).bind fun (x24, st25) => (f_value_Topics_l2 x24 ((x24).toNat + 1) 0 [] st25).bind fun (k57, y58, st61) => if (acc.length + 1) * 40 ≤ 140737488355328 then ((gErr st61).bind fun (x66, st67) => if x66 = 0 then (if -9223372036854775808 ≤ ((k : Int) + 1) ∧ ((k : Int) + 1) ≤ 9223372036854775807 then (f_value_Topics_l1 n fuel [] (acc ++ [(⟨t, y58⟩ : Top)]) (k + 1) st67) else none) else (some (Lp.ret ([], st67)))) else none) = some (Lp.ret ([], st)) := by
      intro st t h
      rw [gCount_d h (by decide) (by decide)]
      simp only [Option.bind_some]
      rw [show (0 : Int).toNat + 1 = 1 from rfl, f_value_Topics_l2, if_neg (by decide)]
      simp only [Option.bind_some, gErr_eq]
      rw [if_pos (by omega), if_neg h]
    rcases QT.run s q h3 with ⟨e, st, p1, g1, x1, y1⟩ | ⟨nm, q1, p1, g1, n1, l1⟩
    · left
      refine ⟨e, st, by rw [pRep, Pr.bind_err (show pTopic s q = .error e from Pr.bind_err p1)], ?_, x1, y1⟩
      rw [g1]
      simp only [Option.bind_some]
      exact died st [] y1
    rw [g1]
    simp only [Option.bind_some]
    rcases (Q_count 4 4 (by decide) (by decide) 4 4 rfl rfl (by decide)).run s q1 l1 with ⟨e, st, p2, g2, x2, y2⟩ | ⟨c, q2, p2, g2, n2, l2⟩
    · left
      refine ⟨e, st, by rw [pRep, Pr.bind_err]; rw [pTopic, Pr.bind_of p1, Pr.bind_err]; rw [pRow, Pr.bind_err p2], ?_, x2, y2⟩
      have := died st nm y2
      rw [gCount_d y2 (by decide) (by decide)] at this
      rw [g2]
      exact this
    obtain ⟨c1, c2, c3, c4, c5, c6⟩ := pCount_ok (by decide) (by decide) l1 p2
    have c2 := c2 (by decide)
    rw [g2]
    simp only [Option.bind_some]
    obtain ⟨ps, e1, e2⟩ := topics_l2 c s (by omega) c.toNat (c.toNat + 1) 0 [] q2 (by omega) (by omega) (by omega) rfl
    rw [e2]
    simp only [Option.bind_some, gErr_eq, if_true]
    rw [if_pos (by omega), if_pos (by omega), List.nil_append]
    have ht : pTopic s q = .ok (⟨nm, ps⟩, q2 + 4 * c.toNat) := by
      rw [pTopic, Pr.bind_of p1, Pr.bind_of (a := ps) (r := q2 + 4 * c.toNat) (by rw [pRow, Pr.bind_of p2, e1])]
      rfl
    rw [pRep, Pr.bind_of ht]
    rcases topics_l1 n s hs hn m fuel (k + 1) (acc ++ [⟨nm, ps⟩]) (q2 + 4 * c.toNat) (by omega) (by omega) (by omega) (by rw [List.length_append, h4]; rfl) with ⟨e, st, r1, r2, r3, r4⟩ | ⟨l, r, r1, r2, r3, r4⟩
    · exact .inl ⟨e, st, by rw [Pr.bind_err r1], r2, r3, r4⟩
    · refine .inr ⟨⟨nm, ps⟩ :: l, r, by rw [Pr.bind_of r1]; rfl, ?_, by omega, r4⟩
      rw [r2, List.append_assoc, show k + 1 + m = k + (m + 1) by omega]
      rfl
theorem B_topics : CB f_value_Topics (pRow 4 6 pTopic) [] := by
  refine ⟨fun st h => ?_, fun s q hs hq => ?_⟩
  · unfold f_value_Topics
    rw [gCount_d h (by decide) (by decide)]
    simp only [Option.bind_some]
    rw [show (0 : Int).toNat + 1 = 1 from rfl, f_value_Topics_l1, if_neg (by decide)]
    rfl
  · unfold f_value_Topics
    rcases (Q_count 4 6 (by decide) (by decide) 4 6 rfl rfl (by decide)).run s q hq with ⟨e, st, p1, g1, x1, y1⟩ | ⟨c, q1, p1, g1, n1, l1⟩
    · refine .inl ⟨e, st, Pr.bind_err p1, ?_, x1, y1⟩
      rw [g1]
      simp only [Option.bind_some]
      rw [show (0 : Int).toNat + 1 = 1 from rfl, f_value_Topics_l1, if_neg (by decide)]
      rfl
    · obtain ⟨c1, c2, c3, c4, c5, c6⟩ := pCount_ok (by decide) (by decide) hq p1
      have c2 := c2 (by decide)
      rw [g1, pRow, Pr.bind_of p1]
      simp only [Option.bind_some]
      rcases topics_l1 c s hs (by omega) c.toNat (c.toNat + 1) 0 [] q1 (by omega) (by omega) l1 rfl with ⟨e, st, r1, r2, r3, r4⟩ | ⟨l, r, r1, r2, r3, r4⟩
      · exact .inl ⟨e, st, r1, by rw [r2]; rfl, r3, r4⟩
      · refine .inr ⟨l, r, r1, ?_, by omega, r4⟩
        rw [r2, List.nil_append]
        rfl
end Go.Proofs.Ytagbblaegdedpaa.Sl
namespace Go.Proofs.Ytagbblaegdedpaa.Sl
open Go.RowKit
set_option linter.unusedVariables false
set_option linter.unusedSimpArgs false
theorem at_drop {α : Type} {l : List α} {k : Nat} {x : α} {t : List α} (h : l.drop k = x :: t) : l[k]? = some x ∧ l.drop (k + 1) = t ∧ l.length = k + 1 + t.length := by
  have hl := congrArg List.length h
  rw [List.length_drop, List.length_cons] at hl
  refine ⟨?_, ?_, by omega⟩
  · have := congrArg (fun z => z[0]?) h
    simpa using this
  · rw [← List.drop_drop, h]
    rfl
theorem nil_drop {α : Type} {l : List α} {k : Nat} (h : l.drop k = []) : l.length ≤ k := List.drop_eq_nil_iff.1 h
def up {α : Type} (lt : α → α → Bool) : Option α → List α → Bool
  | _, [] => true
  | none, x :: t => up lt (some x) t
  | some p, x :: t => lt p x && up lt (some x) t
def ltI (a b : Int) : Bool := decide (a < b)
theorem rint_loop (a0 : List Int) (hb : a0.length ≤ 140737488355328) : ∀ (t : List Int) (p : Int) (k fuel : Nat) (y : Bool), a0.drop k = p :: t → t.length < fuel → ∃ z, f_value_risingint_l1 a0 fuel y ((k : Int) + 1) = some (if up ltI (some p) t = true then .go (y, z) else .ret false)
  | [], p, k, fuel + 1, y, h, hf => by
    obtain ⟨h1, h2, h3⟩ := at_drop h
    refine ⟨(k : Int) + 1, ?_⟩
    rw [f_value_risingint_l1, if_neg (by simp only [List.length_nil] at h3; omega)]
    rfl
  | x :: t, p, k, fuel + 1, y, h, hf => by
    obtain ⟨h1, h2, h3⟩ := at_drop h
    obtain ⟨g1, g2, g3⟩ := at_drop h2
    rw [List.length_cons] at hf h3
    obtain ⟨z, hz⟩ := rint_loop a0 hb t x (k + 1) fuel y h2 (by omega)
    rw [f_value_risingint_l1, if_pos (by omega), if_pos (by omega), if_pos (by omega), show ((k : Int) + 1 - 1).toNat = k by omega, h1]
    rw [Option.bind_some]
    rw [if_pos (by omega), show ((k : Int) + 1).toNat = k + 1 by omega, g1]
    rw [Option.bind_some]
    by_cases hc : p < x
    · rw [if_neg (by omega), if_pos (by omega)]
      refine ⟨z, ?_⟩
      rw [show ((k : Int) + 1 + 1) = ((k + 1 : Nat) : Int) + 1 by omega, hz]
      simp only [up, ltI, hc, decide_true, Bool.true_and]
    · rw [if_pos (by omega)]
      refine ⟨0, ?_⟩
      simp only [up, ltI, hc, decide_false, Bool.false_and, Bool.false_eq_true, if_false]
theorem rint_eq (a0 : List Int) (hb : a0.length ≤ 140737488355328) : f_value_risingint a0 = some (up ltI none a0) := by
  unfold f_value_risingint
  cases a0 with
  | nil => rfl
  | cons x t =>
    obtain ⟨z, hz⟩ := rint_loop (x :: t) hb t x 0 ((((x :: t).length : Int) - 1).toNat + 1) false rfl (by simp only [List.length_cons]; omega)
    rw [show (((0 : Nat) : Int) + 1) = 1 from rfl] at hz
    rw [hz]
    simp only [up]
    cases up ltI (some x) t <;> rfl
theorem rstr_loop (a0 : List (List UInt8)) (hb : a0.length ≤ 140737488355328) : ∀ (t : List (List UInt8)) (p : List UInt8) (k fuel : Nat) (y : Bool), a0.drop k = p :: t → t.length < fuel → ∃ z, f_value_risingstring_l1 a0 fuel y ((k : Int) + 1) = some (if up Op.bytesLess (some p) t = true then .go (y, z) else .ret false)
  | [], p, k, fuel + 1, y, h, hf => by
    obtain ⟨h1, h2, h3⟩ := at_drop h
    refine ⟨(k : Int) + 1, ?_⟩
    rw [f_value_risingstring_l1, if_neg (by simp only [List.length_nil] at h3; omega)]
    rfl
  | x :: t, p, k, fuel + 1, y, h, hf => by
    obtain ⟨h1, h2, h3⟩ := at_drop h
    obtain ⟨g1, g2, g3⟩ := at_drop h2
    rw [List.length_cons] at hf h3
    obtain ⟨z, hz⟩ := rstr_loop a0 hb t x (k + 1) fuel y h2 (by omega)
    rw [f_value_risingstring_l1, if_pos (by omega), if_pos (by omega), if_pos (by omega), show ((k : Int) + 1 - 1).toNat = k by omega, h1]
    simp only [Option.bind_some]
    rw [if_pos (by omega), show ((k : Int) + 1).toNat = k + 1 by omega, g1]
    simp only [Option.bind_some]
    by_cases hc : Op.bytesLess p x = true
    · rw [if_pos hc, if_pos (by omega)]
      refine ⟨z, ?_⟩
      rw [show ((k : Int) + 1 + 1) = ((k + 1 : Nat) : Int) + 1 by omega, hz]
      simp only [up, hc, Bool.true_and]
    · rw [if_neg hc]
      refine ⟨0, ?_⟩
      simp only [up, hc, Bool.false_and, Bool.false_eq_true, if_false]
theorem rstr_eq (a0 : List (List UInt8)) (hb : a0.length ≤ 140737488355328) : f_value_risingstring a0 = some (up Op.bytesLess none a0) := by
  unfold f_value_risingstring
  cases a0 with
  | nil => rfl
  | cons x t =>
    obtain ⟨z, hz⟩ := rstr_loop (x :: t) hb t x 0 ((((x :: t).length : Int) - 1).toNat + 1) false rfl (by simp only [List.length_cons]; omega)
    rw [show (((0 : Nat) : Int) + 1) = 1 from rfl] at hz
    rw [hz]
    simp only [up]
    cases up Op.bytesLess (some x) t <;> rfl
def okn (n : Int) : Bool := decide (0 ≤ n) && decide (n ≤ 2147483647)
def okps (l : List Int) : Bool := l.all okn && up ltI none l && !l.isEmpty
def oktB (t : Top) : Bool := !t.fName.isEmpty && decide (t.fName.length ≤ 32767) && okps t.fParts
def okts (l : List Top) : Bool := l.all oktB && up Op.bytesLess none (l.map (·.fName))
theorem parts_loop (y : Bool) : ∀ l : List Int, (∀ n, n ∈ l → wI n) → f_value_parts_l1 l y = some (if l.all okn = true then .go y else .ret false)
  | [], h => rfl
  | n :: l, h => by
    have hn := h n (.head _)
    rw [f_value_parts_l1, gFits_eq _ _ hn, fits_4, List.all_cons]
    by_cases h1 : n < 0
    · have : okn n = false := by unfold okn; simp; omega
      rw [if_pos h1, this]
      rfl
    · rw [if_neg h1, Option.bind_some]
      by_cases h2 : n ≤ 2147483647
      · have : okn n = true := by unfold okn; simp; omega
        rw [if_pos (by simp; omega), parts_loop y l (fun m hm => h m (.tail _ hm)), this, Bool.true_and]
      · have : okn n = false := by unfold okn; simp; omega
        rw [if_neg (by simp; omega), this]
        rfl
theorem parts_eq (l : List Int) (hw : wL wI l) : f_value_parts l = some (okps l) := by
  unfold f_value_parts okps
  rw [parts_loop false l hw.2]
  cases hall : l.all okn with
  | false => rfl
  | true =>
    simp only [if_true, Option.bind_some, Bool.true_and]
    cases l with
    | nil => rfl
    | cons x t =>
      rw [if_pos (by simp only [List.length_cons]; omega), rint_eq _ (by have := hw.1; omega)]
      simp
theorem vtopics_loop (y : Bool) : ∀ (l : List Top) (acc : List (List UInt8)), (∀ t, t ∈ l → wf_Top t) → acc.length + l.length ≤ 1000000 → f_value_topics_l1 l y acc = some (if l.all oktB = true then .go (y, acc ++ l.map (·.fName)) else .ret false)
  | [], acc, h, hl => by simp [f_value_topics_l1]
  | t :: l, acc, h, hl => by
    have ht := h t (.head _)
    rw [List.length_cons] at hl
    rw [f_value_topics_l1, parts_eq _ ht.2, List.all_cons]
    by_cases h1 : t.fName = []
    · have : oktB t = false := by simp [oktB, h1]
      rw [if_pos h1, this]
      rfl
    · rw [if_neg h1]
      by_cases h2 : (t.fName.length : Int) > 32767
      · have : oktB t = false := by simp [oktB, show ¬ t.fName.length ≤ 32767 by omega]
        rw [if_pos h2, this]
        rfl
      · rw [if_neg h2, Option.bind_some]
        have hne : t.fName.isEmpty = false := by cases hh : t.fName with | nil => exact absurd hh h1 | cons c u => rfl
        have ho : oktB t = okps t.fParts := by simp [oktB, hne, show t.fName.length ≤ 32767 by omega]
        rw [ho]
        cases hp : okps t.fParts with
        | false => rfl
        | true =>
          rw [if_pos rfl, if_pos (by omega), vtopics_loop y l _ (fun u hu => h u (.tail _ hu)) (by rw [List.length_append]; simp only [List.length_cons, List.length_nil]; omega), Bool.true_and, List.map_cons, List.append_assoc]
          rfl
theorem vtopics_eq (l : List Top) (hw : ∀ t, t ∈ l → wf_Top t) (hl : l.length ≤ 1000000) : f_value_topics l = some (okts l) := by
  unfold f_value_topics okts
  rw [vtopics_loop false l [] hw (by simpa using hl)]
  cases hall : l.all oktB with
  | false => rfl
  | true =>
    simp only [if_true, Option.bind_some, Bool.true_and, List.nil_append]
    rw [rstr_eq _ (by rw [List.length_map]; omega)]
    rfl
theorem less_loop (a b : List UInt8) (ha : a.length ≤ 1000000) (y : Bool) : ∀ (u v : List UInt8) (k fuel : Nat), a.drop k = u → b.drop k = v → v.length < fuel → k ≤ a.length → k ≤ b.length → (∃ r, f_r14_less_l1 a b fuel y k = some (.ret r) ∧ r = Op.bytesLess u v) ∨ (∃ z, f_r14_less_l1 a b fuel y k = some (.go z) ∧ Op.bytesLess u v = decide (a.length < b.length))
  | [], v, k, fuel + 1, hu, hv, hf, h1, h2 => by
    have := nil_drop hu
    right
    refine ⟨(y, k), by rw [f_r14_less_l1, if_neg (by omega)], ?_⟩
    cases v with
    | nil =>
      have := nil_drop hv
      simp [Op.bytesLess]
      omega
    | cons c v =>
      have := (at_drop hv).2.2
      simp [Op.bytesLess]
      omega
  | c :: u, [], k, fuel + 1, hu, hv, hf, h1, h2 => by
    have g1 := nil_drop hv
    have g2 := (at_drop hu).2.2
    right
    refine ⟨(y, k), by rw [f_r14_less_l1, if_pos (by omega), if_neg (by omega)], ?_⟩
    simp [Op.bytesLess]
    omega
  | c :: u, d :: v, k, fuel + 1, hu, hv, hf, h1, h2 => by
    obtain ⟨u1, u2, u3⟩ := at_drop hu
    obtain ⟨v1, v2, v3⟩ := at_drop hv
    rw [List.length_cons] at hf
    rw [f_r14_less_l1, if_pos (by omega), if_pos (by omega), u1, v1]
    simp only [Option.bind_some]
    by_cases hc : (c.toNat : Int) = (d.toNat : Int)
    · have hcd : c = d := UInt8.toNat_inj.1 (by omega)
      rw [if_pos hc, if_pos (by omega)]
      have := less_loop a b ha y u v (k + 1) fuel u2 v2 (by omega) (by omega) (by omega)
      have hb : Op.bytesLess (c :: u) (d :: v) = Op.bytesLess u v := by
        rw [hcd]
        simp [Op.bytesLess]
      rw [hb]
      exact this
    · rw [if_neg hc]
      left
      have hcd : c ≠ d := fun h => hc (by rw [h])
      by_cases hl : (c.toNat : Int) < (d.toNat : Int)
      · refine ⟨true, by rw [if_pos hl], ?_⟩
        have : c < d := UInt8.lt_iff_toNat_lt.2 (by omega)
        simp [Op.bytesLess, this]
      · refine ⟨false, by rw [if_neg hl], ?_⟩
        have : ¬ c < d := fun h => hl (by have := UInt8.lt_iff_toNat_lt.1 h; omega)
        simp [Op.bytesLess, this, hcd]
theorem less_eq (a b : List UInt8) (ha : a.length ≤ 1000000) : f_r14_less a b = some (Op.bytesLess a b) := by
  unfold f_r14_less
  rcases less_loop a b ha false a b 0 (((b.length : Int)).toNat + 1) rfl rfl (by omega) (Nat.zero_le _) (Nat.zero_le _) with ⟨r, h1, h2⟩ | ⟨z, h1, h2⟩
  · rw [show ((0 : Nat)) = 0 from rfl] at h1
    rw [h1, h2]
    rfl
  · rw [h1, h2]
    simp only [Option.bind_some]
    by_cases h : a.length < b.length
    · rw [if_pos (by omega)]
      simp [h]
    · rw [if_neg (by omega)]
      simp [h]
theorem rise_l3 (x : Top) : ∀ (fuel : Nat) (y : Bool) (k : Nat), f_r14_Rise_l3 x fuel y k = f_r14_Rise_l2 x fuel y k
  | 0, y, k => rfl
  | fuel + 1, y, k => by
    rw [f_r14_Rise_l3, f_r14_Rise_l2]
    simp only [rise_l3 x fuel]
theorem rise_l2 (x : Top) (hb : x.fParts.length ≤ 1000000) (y : Bool) : ∀ (t : List Int) (p : Option Int) (k fuel : Nat), x.fParts.drop k = t → t.length < fuel → (k = 0 → p = none) → (0 < k → x.fParts[k - 1]? = p ∧ p ≠ none) → ∃ z, f_r14_Rise_l2 x fuel y k = some (if (t.all okn && up ltI p t) = true then .go (y, z) else .ret false)
  | [], p, k, fuel + 1, h, hf, h0, h1 => by
    have := nil_drop h
    refine ⟨k, ?_⟩
    rw [f_r14_Rise_l2, if_neg (by omega)]
    cases p <;> rfl
  | n :: t, p, k, fuel + 1, h, hf, h0, h1 => by
    obtain ⟨g1, g2, g3⟩ := at_drop h
    rw [List.length_cons] at hf
    obtain ⟨z, hz⟩ := rise_l2 x hb y t (some n) (k + 1) fuel g2 (by omega) (fun h => absurd h (by omega)) (fun _ => ⟨g1, by simp⟩)
    rw [f_r14_Rise_l2, if_pos (by omega), g1]
    simp only [Option.bind_some]
    rw [List.all_cons]
    by_cases c1 : n < 0
    · refine ⟨0, ?_⟩
      rw [if_pos c1, if_neg]
      simp only [okn, Bool.and_eq_true, decide_eq_true_eq]
      omega
    by_cases c2 : n > 2147483647
    · refine ⟨0, ?_⟩
      rw [if_neg c1, if_pos c2, if_neg]
      simp only [okn, Bool.and_eq_true, decide_eq_true_eq]
      omega
    rw [if_neg c1, if_neg c2]
    have ho : okn n = true := by simp only [okn, Bool.and_eq_true, decide_eq_true_eq]; omega
    rcases Nat.eq_zero_or_pos k with hk | hk
    · obtain rfl := h0 hk
      refine ⟨z, ?_⟩
      rw [if_neg (by omega), if_pos (by omega), hz, ho, Bool.true_and, show up ltI none (n :: t) = up ltI (some n) t from rfl]
    · obtain ⟨e1, e2⟩ := h1 hk
      rw [if_pos (by omega), if_pos (by omega), if_pos (by omega), show ((k : Int) - 1).toNat = k - 1 by omega, e1]
      cases p with
      | none => exact absurd rfl e2
      | some q =>
        simp only [Option.bind_some]
        by_cases hc : q < n
        · refine ⟨z, ?_⟩
          rw [if_neg (by omega), if_pos (by omega), hz, ho, Bool.true_and]
          simp only [up, ltI, hc, decide_true, Bool.true_and]
        · refine ⟨0, ?_⟩
          rw [if_pos (by omega), if_neg]
          simp only [up, ltI, hc, decide_false, Bool.false_and, Bool.and_false, Bool.false_eq_true, not_false_eq_true]
theorem rise_l1 (a0 : List Top) (hb : a0.length ≤ 1000000) (hw : ∀ t, t ∈ a0 → t.fParts.length ≤ 1000000 ∧ t.fName.length ≤ 1000000) (y : Bool) : ∀ (t : List Top) (p : Option Top) (k fuel : Nat), a0.drop k = t → t.length < fuel → (k = 0 → p = none) → (0 < k → a0[k - 1]? = p ∧ p ≠ none) → ∃ z, f_r14_Rise_l1 a0 fuel y k = some (if (t.all oktB && up Op.bytesLess (p.map (·.fName)) (t.map (·.fName))) = true then .go (y, z) else .ret false)
  | [], p, k, fuel + 1, h, hf, h0, h1 => by
    have := nil_drop h
    refine ⟨k, ?_⟩
    rw [f_r14_Rise_l1, if_neg (by omega)]
    cases p <;> rfl
  | x :: t, p, k, fuel + 1, h, hf, h0, h1 => by
    obtain ⟨g1, g2, g3⟩ := at_drop h
    have hx := hw x (List.mem_of_getElem? g1)
    rw [List.length_cons] at hf
    obtain ⟨z, hz⟩ := rise_l1 a0 hb hw y t (some x) (k + 1) fuel g2 (by omega) (fun h => absurd h (by omega)) (fun _ => ⟨g1, by simp⟩)
    rw [f_r14_Rise_l1, if_pos (by omega), g1, Option.bind_some]
    rw [List.all_cons, List.map_cons]
    by_cases c1 : (x.fName.length : Int) < 1
    · refine ⟨0, ?_⟩
      have : x.fName = [] := List.length_eq_zero_iff.1 (by omega)
      rw [if_pos c1, if_neg]
      simp [oktB, this]
    by_cases c2 : (x.fName.length : Int) > 32767
    · refine ⟨0, ?_⟩
      rw [if_neg c1, if_pos c2, if_neg]
      simp [oktB, show ¬ x.fName.length ≤ 32767 by omega]
    by_cases c3 : (x.fParts.length : Int) < 1
    · refine ⟨0, ?_⟩
      have : x.fParts = [] := List.length_eq_zero_iff.1 (by omega)
      rw [if_neg c1, if_neg c2, if_pos c3, if_neg]
      simp [oktB, okps, this]
    rw [if_neg c1, if_neg c2, if_neg c3]
    have hne : x.fName.isEmpty = false := by cases hh : x.fName with | nil => rw [hh] at c1; simp at c1 | cons c u => rfl
    have hnp : x.fParts.isEmpty = false := by cases hh : x.fParts with | nil => rw [hh] at c3; simp at c3 | cons c u => rfl
    have ho : oktB x = (x.fParts.all okn && up ltI none x.fParts) := by
      simp [oktB, okps, hne, hnp, show x.fName.length ≤ 32767 by omega]
    obtain ⟨z2, hz2⟩ := rise_l2 x hx.1 y x.fParts none 0 (((x.fParts.length : Int)).toNat + 1) rfl (by omega) (fun _ => rfl) (fun h => absurd h (by omega))
    rw [ho]
    rcases Nat.eq_zero_or_pos k with hk | hk
    · obtain rfl := h0 hk
      rw [if_neg (by omega), rise_l3, hz2]
      cases hq : (x.fParts.all okn && up ltI none x.fParts) with
      | false => exact ⟨0, by simp⟩
      | true =>
        refine ⟨z, ?_⟩
        rw [if_pos rfl, Option.bind_some, Bool.true_and]
        simp only
        rw [if_pos (by omega), hz, show (none : Option Top).map (·.fName) = none from rfl, show up Op.bytesLess none (x.fName :: t.map (·.fName)) = up Op.bytesLess (some x.fName) (t.map (·.fName)) from rfl]
        rfl
    · obtain ⟨e1, e2⟩ := h1 hk
      rw [if_pos (by omega), if_pos (by omega), if_pos (by omega), show ((k : Int) - 1).toNat = k - 1 by omega, e1]
      cases p with
      | none => exact absurd rfl e2
      | some q =>
        rw [Option.bind_some]
        rw [less_eq _ _ (hw q (List.mem_of_getElem? e1)).2]
        rw [Option.bind_some, show (some q).map (·.fName) = some q.fName from rfl, show up Op.bytesLess (some q.fName) (x.fName :: t.map (·.fName)) = (Op.bytesLess q.fName x.fName && up Op.bytesLess (some x.fName) (t.map (·.fName))) from rfl]
        cases hc : Op.bytesLess q.fName x.fName with
        | false => exact ⟨0, by simp⟩
        | true =>
          rw [if_pos rfl, hz2]
          cases hq : (x.fParts.all okn && up ltI none x.fParts) with
          | false => exact ⟨0, by simp⟩
          | true =>
            refine ⟨z, ?_⟩
            rw [if_pos rfl, Option.bind_some, Bool.true_and]
            simp only
            rw [if_pos (by omega), hz]
            rfl
theorem rise_eq (a0 : List Top) (hb : a0.length ≤ 1000000) (hw : ∀ t, t ∈ a0 → t.fParts.length ≤ 1000000 ∧ t.fName.length ≤ 1000000) : f_r14_Rise a0 = some (okts a0) := by
  unfold f_r14_Rise okts
  obtain ⟨z, hz⟩ := rise_l1 a0 hb hw false a0 none 0 (((a0.length : Int)).toNat + 1) rfl (by omega) (fun _ => rfl) (fun h => absurd h (by omega))
  rw [show (none : Option Top).map (·.fName) = none from rfl] at hz
  rw [hz]
  cases (a0.all oktB && up Op.bytesLess none (a0.map (·.fName))) <;> rfl
end Go.Proofs.Ytagbblaegdedpaa.Sl
namespace Go.Proofs.Ytagbblaegdedpaa.Sl
open Go.RowKit
set_option linter.unusedVariables false
set_option linter.unusedSimpArgs false
theorem same_loop (a b : List Int) (ha : a.length ≤ 140737488355328) (y : Bool) : ∀ (t u : List Int) (k fuel : Nat), a.drop k = t → b.drop k = u → t.length = u.length → t.length < fuel → ∃ z, f_r01_Same_l1 a b fuel y k = some (if t = u then .go (y, z) else .ret false)
  | [], [], k, fuel + 1, ht, hu, hl, hf => by
    have := nil_drop ht
    exact ⟨k, by rw [f_r01_Same_l1, if_neg (by omega), if_pos rfl]⟩
  | [], d :: u, k, fuel, ht, hu, hl, hf => by simp at hl
  | c :: t, [], k, fuel, ht, hu, hl, hf => by simp at hl
  | c :: t, d :: u, k, fuel + 1, ht, hu, hl, hf => by
    obtain ⟨t1, t2, t3⟩ := at_drop ht
    obtain ⟨u1, u2, u3⟩ := at_drop hu
    simp only [List.length_cons] at hl hf
    obtain ⟨z, hz⟩ := same_loop a b ha y t u (k + 1) fuel t2 u2 (by omega) (by omega)
    rw [f_r01_Same_l1, if_pos (by omega), t1, Option.bind_some, u1, Option.bind_some]
    by_cases hc : c = d
    · rw [if_pos hc, if_pos (by omega), hz]
      subst hc
      refine ⟨z, ?_⟩
      by_cases h : t = u
      · rw [if_pos h, if_pos (by rw [h])]
      · rw [if_neg h, if_neg (by simpa using h)]
    · rw [if_neg hc]
      exact ⟨0, by rw [if_neg (fun h => hc (List.cons.inj h).1)]⟩
theorem same_eq (a b : List Int) (ha : a.length ≤ 140737488355328) : f_r01_Same a b = some (decide (a = b)) := by
  unfold f_r01_Same
  by_cases hl : (a.length : Int) = (b.length : Int)
  · rw [if_pos hl]
    obtain ⟨z, hz⟩ := same_loop a b ha false a b 0 (((a.length : Int)).toNat + 1) rfl rfl (by omega) (by omega)
    rw [hz]
    by_cases h : a = b
    · rw [if_pos h, decide_eq_true h]
      rfl
    · rw [if_neg h, decide_eq_false h]
      rfl
  · rw [if_neg hl, decide_eq_false (fun h => hl (by rw [h]))]
theorem sl_same : ∀ (a b : List Int) (fuel : Nat) (y : Bool) (k : Nat), f_slices_Equal_l1 a b fuel y k = f_r01_Same_l1 a b fuel y k
  | a, b, 0, y, k => rfl
  | a, b, fuel + 1, y, k => by
    rw [f_slices_Equal_l1, f_r01_Same_l1]
    simp only [sl_same a b fuel]
theorem slsame_eq (a b : List Int) (ha : a.length ≤ 140737488355328) : f_slices_Equal a b = some (decide (a = b)) := by
  rw [← same_eq a b ha]
  unfold f_slices_Equal f_r01_Same
  simp only [sl_same]
  rfl
def sameT (a b : Top) : Bool := decide (a.fName = b.fName) && decide (a.fParts = b.fParts)
def sameTs : List Top → List Top → Bool
  | [], [] => true
  | a :: l, b :: m => sameT a b && sameTs l m
  | _, _ => false
theorem topics1_eq (a b : Top) (ha : a.fParts.length ≤ 140737488355328) : f_value_SameTopics1 a b = some (sameT a b) := by
  unfold f_value_SameTopics1 sameT
  rw [slsame_eq _ _ ha]
  by_cases h : a.fName = b.fName
  · rw [if_pos h, decide_eq_true h]
    rfl
  · rw [if_neg h, decide_eq_false h]
    rfl
theorem vsame_loop (a1 : List Top) (y : Bool) : ∀ (l u : List Top) (k : Nat), (∀ t, t ∈ l → t.fParts.length ≤ 140737488355328) → a1.drop k = u → l.length = u.length → f_slices_EqualFunc_value_SameTopics1_l1 a1 l y k = some (if sameTs l u = true then .go y else .ret false)
  | [], [], k, hw, hu, hl => rfl
  | [], d :: u, k, hw, hu, hl => by simp at hl
  | c :: l, [], k, hw, hu, hl => by simp at hl
  | c :: l, d :: u, k, hw, hu, hl => by
    obtain ⟨u1, u2, u3⟩ := at_drop hu
    simp only [List.length_cons] at hl
    rw [f_slices_EqualFunc_value_SameTopics1_l1, u1, Option.bind_some, topics1_eq c d (hw c (.head _)), Option.bind_some, vsame_loop a1 y l u (k + 1) (fun t ht => hw t (.tail _ ht)) u2 (by omega), sameTs]
    cases sameT c d <;> rfl
theorem sameTs_len : ∀ (l m : List Top), sameTs l m = true → l.length = m.length
  | [], [], h => rfl
  | [], b :: m, h => nomatch h
  | a :: l, [], h => nomatch h
  | a :: l, b :: m, h => by
    rw [sameTs, Bool.and_eq_true] at h
    rw [List.length_cons, List.length_cons, sameTs_len l m h.2]
theorem vsame_eq (a b : List Top) (ha : ∀ t, t ∈ a → t.fParts.length ≤ 140737488355328) : f_value_SameTopics a b = some (sameTs a b) := by
  unfold f_value_SameTopics f_slices_EqualFunc_value_SameTopics1
  by_cases hl : (a.length : Int) = (b.length : Int)
  · rw [if_pos hl, vsame_loop b false a b 0 ha rfl (by omega)]
    cases sameTs a b <;> rfl
  · rw [if_neg hl]
    have : sameTs a b = false := by
      cases h : sameTs a b with
      | false => rfl
      | true => exact absurd (congrArg Int.ofNat (sameTs_len a b h)) hl
    rw [this]
    rfl
theorem rsame_loop (a0 a1 : List Top) (h0 : a0.length ≤ 1000000) (y : Bool) : ∀ (l u : List Top) (k fuel : Nat), (∀ t, t ∈ l → t.fParts.length ≤ 140737488355328) → a0.drop k = l → a1.drop k = u → l.length = u.length → l.length < fuel → ∃ z, f_r14_SameTopics_l1 a0 a1 fuel y k = some (if sameTs l u = true then .go (y, z) else .ret false)
  | [], [], k, fuel + 1, hw, ht, hu, hl, hf => by
    have := nil_drop ht
    exact ⟨k, by rw [f_r14_SameTopics_l1, if_neg (by omega)]; rfl⟩
  | [], d :: u, k, fuel, hw, ht, hu, hl, hf => by simp at hl
  | c :: l, [], k, fuel, hw, ht, hu, hl, hf => by simp at hl
  | c :: l, d :: u, k, fuel + 1, hw, ht, hu, hl, hf => by
    obtain ⟨t1, t2, t3⟩ := at_drop ht
    obtain ⟨u1, u2, u3⟩ := at_drop hu
    simp only [List.length_cons] at hl hf
    obtain ⟨z, hz⟩ := rsame_loop a0 a1 h0 y l u (k + 1) fuel (fun t ht => hw t (.tail _ ht)) t2 u2 (by omega) (by omega)
    rw [f_r14_SameTopics_l1, if_pos (by omega), t1, Option.bind_some, u1, Option.bind_some, sameTs, sameT, same_eq _ _ (hw c (.head _))]
    by_cases hc : c.fName = d.fName
    · rw [if_pos hc, decide_eq_true hc, Option.bind_some, Bool.true_and]
      cases decide (c.fParts = d.fParts) with
      | false => exact ⟨0, rfl⟩
      | true =>
        rw [if_pos rfl, if_pos (by omega), Bool.true_and]
        exact ⟨z, hz⟩
    · rw [if_neg hc, decide_eq_false hc]
      exact ⟨0, rfl⟩
theorem rsame_eq (a b : List Top) (h0 : a.length ≤ 1000000) (ha : ∀ t, t ∈ a → t.fParts.length ≤ 140737488355328) : f_r14_SameTopics a b = some (sameTs a b) := by
  unfold f_r14_SameTopics
  by_cases hl : (a.length : Int) = (b.length : Int)
  · obtain ⟨z, hz⟩ := rsame_loop a b h0 false a b 0 (((a.length : Int)).toNat + 1) ha rfl rfl (by omega) (by omega)
    rw [if_pos hl, hz]
    cases sameTs a b <;> rfl
  · rw [if_neg hl]
    have : sameTs a b = false := by
      cases h : sameTs a b with
      | false => rfl
      | true => exact absurd (congrArg Int.ofNat (sameTs_len a b h)) hl
    rw [this]
def wT (t : Top) : Nat := t.fName.length + 4 * t.fParts.length + 6
def wTs : List Top → Nat
  | [] => 0
  | t :: l => wT t + wTs l
theorem few_loop (y : Int) : ∀ (l : List Top) (acc : Int), (∀ t, t ∈ l → wf_Top t) → 0 ≤ acc → acc ≤ 1000 → (f_l14_Few_l1 l y acc = some (.ret 0)) ∨ (∃ z, f_l14_Few_l1 l y acc = some (.go z) ∧ acc + wTs l ≤ 1000)
  | [], acc, hw, h0, h1 => .inr ⟨_, rfl, by simp [wTs]; omega⟩
  | t :: l, acc, hw, h0, h1 => by
    have ht := hw t (.head _)
    have ht1 : t.fName.length ≤ 140737488351232 := ht.1
    have ht2 : t.fParts.length ≤ 140737488351232 := ht.2.1
    rw [f_l14_Few_l1, if_pos (by omega), if_pos (by omega), if_pos (by omega), if_pos (by omega)]
    by_cases hc : (acc + (((t.fName.length : Int) + (4 * (t.fParts.length : Int))) + 6)) > 1000
    · rw [if_pos hc]
      exact .inl rfl
    · rw [if_neg hc]
      rcases few_loop y l _ (fun u hu => hw u (.tail _ hu)) (by omega) (show acc + (((t.fName.length : Int) + (4 * (t.fParts.length : Int))) + 6) ≤ 1000 by omega) with h | ⟨z, h, h2⟩
      · exact .inl h
      · exact .inr ⟨z, h, by simp only [wTs, wT]; omega⟩
theorem few_eq (l : List Top) (hw : ∀ t, t ∈ l → wf_Top t) : (f_l14_Few l = some 0) ∨ (f_l14_Few l = some 1 ∧ wTs l ≤ 1000) := by
  unfold f_l14_Few
  rcases few_loop 0 l 0 hw (by decide) (by decide) with h | ⟨z, h, h2⟩
  · exact .inl (by rw [h]; rfl)
  · exact .inr ⟨by rw [h]; rfl, by omega⟩
theorem wTs_len : ∀ l : List Top, l.length * 6 ≤ wTs l
  | [] => by simp [wTs]
  | t :: l => by have := wTs_len l; simp only [wTs, wT, List.length_cons]; omega
theorem wTs_mem : ∀ (l : List Top) (t : Top), t ∈ l → wT t ≤ wTs l
  | u :: l, t, h => by
    rcases List.mem_cons.1 h with rfl | h
    · simp only [wTs]; omega
    · have := wTs_mem l t h; simp only [wTs]; omega
theorem encs_len4 : ∀ l : List Int, (encs (fun n => be n 4) l).length = 4 * l.length
  | [] => rfl
  | n :: l => by rw [encs, List.length_append, be_length, encs_len4 l, List.length_cons]; omega
theorem encT_len (t : Top) : (encT t).length = wT t := by
  simp only [encT, List.length_append, be_length, encs_len4, wT]
  omega
theorem encTs_len : ∀ l : List Top, (encs encT l).length = wTs l
  | [] => rfl
  | t :: l => by rw [encs, List.length_append, encT_len, encTs_len l, wTs]
theorem put_l2 : ∀ (l : List Int) (t : List UInt8), (∀ n, n ∈ l → fits n 4 = true) → t.length + 4 * l.length ≤ 1000000000 → f_value_PutTopics_l2 l (t, 0) = some (t ++ encs (fun n => be n 4) l, 0)
  | [], t, h, hl => by rw [f_value_PutTopics_l2, encs, List.append_nil]
  | n :: l, t, h, hl => by
    rw [List.length_cons] at hl
    rw [f_value_PutTopics_l2, gOInt_z (h n (.head _)) (by omega), Option.bind_some, put_l2 l _ (fun m hm => h m (.tail _ hm)) (by rw [List.length_append, be_length]; show t.length + 4 + 4 * l.length ≤ _; omega), encs, List.append_assoc]
    rfl
theorem gPutText_z {t d : List UInt8} (hf : d.length ≤ 32767) (ht : t.length ≤ 1000000000) : gPutText (t, 0) d = some (t ++ (be (d.length : Int) 2 ++ d), 0) := by
  rw [gPutText_eq _ _ (by simp only; omega)]
  have := gPutFixed_z (t := t) (b := ⟨false, d⟩) (k := 2) (fits_small (.inl rfl) (show -32768 ≤ (d.length : Int) by omega) (show (d.length : Int) ≤ 32767 by omega)) rfl (by simp only; omega)
  rw [gPutFixed_eq _ _ _ ⟨by decide, by simp only; omega⟩] at this
  exact this
theorem put_l1 : ∀ (l : List Top) (t : List UInt8), (∀ x, x ∈ l → okT x) → t.length + wTs l ≤ 1000000 → wTs l ≤ 2000 → f_value_PutTopics_l1 l (t, 0) = some (t ++ encs encT l, 0)
  | [], t, h, hl, hw => by rw [f_value_PutTopics_l1, encs, List.append_nil]
  | x :: l, t, h, hl, hw => by
    obtain ⟨h1, h2, h3⟩ := h x (.head _)
    simp only [wTs, wT] at hl hw
    rw [f_value_PutTopics_l1, gPutText_z (by omega) (by omega), Option.bind_some, gOInt_z h2 (by simp only [List.length_append, be_length]; omega), Option.bind_some, put_l2 _ _ h3 (by simp only [List.length_append, be_length]; show _ + (4 : Int).toNat + _ ≤ _; omega), Option.bind_some, put_l1 l _ (fun y hy => h y (.tail _ hy)) (by simp only [List.length_append, be_length, encs_len4]; show _ + (4 : Int).toNat + _ + _ ≤ _; omega) (by omega)]
    simp only [encs, encT, List.append_assoc]
    rfl
theorem put_topics (l : List Top) (t : List UInt8) (h : ∀ x, x ∈ l → okT x) (ht : t.length ≤ 900000) (hw : wTs l ≤ 2000) : f_value_PutTopics (t, 0) l = some (t ++ (be (l.length : Int) 4 ++ encs encT l), 0) := by
  have := wTs_len l
  unfold f_value_PutTopics
  rw [gOInt_z (fits_small (.inr (.inl rfl)) (by omega) (by omega)) (by omega), Option.bind_some, put_l1 l _ h (by simp only [List.length_append, be_length]; show _ + (4 : Int).toNat + _ ≤ _; omega) hw, List.append_assoc]
  rfl
theorem r14t_l2 (x : Top) (hb : x.fParts.length ≤ 1000000) (hx : ∀ n, n ∈ x.fParts → wI n) : ∀ (l : List Int) (t : List UInt8) (k fuel : Nat), x.fParts.drop k = l → l.length < fuel → t.length + 4 * l.length ≤ 1000000000 → ∃ z, f_r14_Topics_l2 x fuel t k = some (t ++ encs (fun n => be n 4) l, z)
  | [], t, k, fuel + 1, h, hf, hl => by
    have := nil_drop h
    exact ⟨k, by rw [f_r14_Topics_l2, if_neg (by omega), encs, List.append_nil]⟩
  | n :: l, t, k, fuel + 1, h, hf, hl => by
    obtain ⟨g1, g2, g3⟩ := at_drop h
    rw [List.length_cons] at hf hl
    obtain ⟨z, hz⟩ := r14t_l2 x hb hx l (t ++ be n 4) (k + 1) fuel g2 (by omega) (by rw [List.length_append, be_length]; omega)
    rw [f_r14_Topics_l2, if_pos (by omega), g1, Option.bind_some, gRBytes_eq _ _ ⟨hx n (List.mem_of_getElem? g1), by decide, by decide⟩, Option.bind_some, if_pos (by rw [be_length]; show t.length + (4 : Int).toNat ≤ _; omega), if_pos (by omega)]
    refine ⟨z, ?_⟩
    rw [encs, ← List.append_assoc]
    exact hz
theorem r14t_l1 (a0 : List Top) (hb : a0.length ≤ 1000000) (hx : ∀ x, x ∈ a0 → wf_Top x) : ∀ (l : List Top) (t : List UInt8) (k fuel : Nat), a0.drop k = l → l.length < fuel → t.length + wTs l ≤ 1000000 → ∃ z, f_r14_Topics_l1 a0 fuel t k = some (t ++ encs encT l, z)
  | [], t, k, fuel + 1, h, hf, hl => by
    have := nil_drop h
    exact ⟨k, by rw [f_r14_Topics_l1, if_neg (by omega), encs, List.append_nil]⟩
  | x :: l, t, k, fuel + 1, h, hf, hl => by
    obtain ⟨g1, g2, g3⟩ := at_drop h
    have hw := hx x (List.mem_of_getElem? g1)
    rw [List.length_cons] at hf
    simp only [wTs, wT] at hl
    obtain ⟨z2, hz2⟩ := r14t_l2 x (by omega) hw.2.2 x.fParts ((t ++ (be (blen ⟨false, x.fName⟩) (2 : Int).toNat ++ x.fName)) ++ be (x.fParts.length : Int) (4 : Int).toNat) 0 (((x.fParts.length : Int)).toNat + 1) rfl (by omega) (by simp only [List.length_append, be_length]; show _ + (((2 : Int).toNat + _) + (4 : Int).toNat) + _ ≤ _; omega)
    obtain ⟨z, hz⟩ := r14t_l1 a0 hb hx l (t ++ encT x) (k + 1) fuel g2 (by omega) (by rw [List.length_append, encT_len, wT]; omega)
    rw [f_r14_Topics_l1, if_pos (by omega), g1, Option.bind_some, gRBFixed_eq _ _ ⟨by decide, by decide, by simp only; omega⟩, Option.bind_some, if_pos (by simp only [List.length_append, be_length]; show _ + ((2 : Int).toNat + _) ≤ _; omega), gRBytes_eq _ _ ⟨by omega, by decide, by decide⟩, Option.bind_some, if_pos (by simp only [List.length_append, be_length]; show _ + ((2 : Int).toNat + _) + (4 : Int).toNat ≤ _; omega), hz2, Option.bind_some]
    simp only
    rw [if_pos (by omega)]
    refine ⟨z, ?_⟩
    have e : t ++ encT x = ((t ++ (be (blen ⟨false, x.fName⟩) (2 : Int).toNat ++ x.fName)) ++ be (x.fParts.length : Int) (4 : Int).toNat) ++ encs (fun n => be n 4) x.fParts := by
      simp only [encT, List.append_assoc]
      rfl
    rw [encs, (List.append_assoc t (encT x) (encs encT l)).symm, e]
    rw [e] at hz
    exact hz
theorem r14t_eq (l : List Top) (hx : ∀ x, x ∈ l → wf_Top x) (hw : wTs l ≤ 2000) : f_r14_Topics l = some (be (l.length : Int) 4 ++ encs encT l) := by
  have := wTs_len l
  unfold f_r14_Topics
  rw [gRBytes_eq _ _ ⟨by omega, by decide, by decide⟩, Option.bind_some]
  obtain ⟨z, hz⟩ := r14t_l1 l (by omega) hx l (be (l.length : Int) (4 : Int).toNat) 0 (((l.length : Int)).toNat + 1) rfl (by omega) (by rw [be_length]; show (4 : Int).toNat + _ ≤ _; omega)
  rw [hz]
  rfl
end Go.Proofs.Ytagbblaegdedpaa.Sl
namespace Go.Proofs.Ytagbblaegdedpaa.Sl
open Go.RowKit
set_option linter.unusedVariables false
set_option linter.unusedSimpArgs false
theorem fits_2 (n : Int) : fits n 2 = decide (-32768 ≤ n ∧ n ≤ 32767) := by
  rw [Bool.eq_iff_iff]
  unfold fits
  simp only [Bool.and_eq_true, decide_eq_true_eq]
  have : (2 : Int) ^ (8 * (2 : Int).toNat - 1) = 32768 := by decide
  omega
theorem fits_8 (n : Int) : fits n 8 = decide (-9223372036854775808 ≤ n ∧ n ≤ 9223372036854775807) := by
  rw [Bool.eq_iff_iff]
  unfold fits
  simp only [Bool.and_eq_true, decide_eq_true_eq]
  have : (2 : Int) ^ (8 * (8 : Int).toNat - 1) = 9223372036854775808 := by decide
  omega
def badR (v : Val) : Prop := v.fProducer < 0 ∨ v.fEpoch < 0 ∨ v.fEpoch > 32767 ∨ v.fTimeout < 0 ∨ v.fTimeout > 2147483647 ∨ v.fUpdated < 0 ∨ v.fStarted < -1
def badC (v : Val) : Prop := ¬ ((1 ≤ v.fState ∧ v.fState ≤ 3) ↔ 0 < (v.fTopics.length : Int)) ∨ ¬ (v.fState = 0 ↔ v.fStarted = -1)
open Classical in
noncomputable def chkV (v : Val) : Int := if badR v then 11 else if v.fState < 0 ∨ v.fState > 6 then 12 else if badC v then 10 else if okts v.fTopics = true then 0 else 13
set_option maxHeartbeats 4000000 in
theorem vcheck_eq (v : Val) (hw : wf_Val v) (hl : v.fTopics.length ≤ 1000000) : f_value_Check v = some (chkV v) := by
  unfold f_value_Check chkV
  rw [vtopics_eq _ hw.2.2.2.2.1.2 hl, gFits_eq _ _ hw.2.1, gFits_eq _ _ hw.2.2.1, fits_2, fits_4]
  generalize okts v.fTopics = b
  by_cases hr : badR v
  · rw [if_pos hr]
    unfold badR at hr
    by_cases c1 : v.fProducer < 0
    · rw [if_pos c1]
    rw [if_neg c1]
    by_cases c2 : v.fEpoch < 0
    · rw [if_pos c2]
    rw [if_neg c2, Option.bind_some]
    by_cases c3 : -32768 ≤ v.fEpoch ∧ v.fEpoch ≤ 32767
    · rw [if_pos (decide_eq_true c3)]
      by_cases c4 : v.fTimeout < 0
      · rw [if_pos c4]
      rw [if_neg c4, Option.bind_some]
      by_cases c5 : -2147483648 ≤ v.fTimeout ∧ v.fTimeout ≤ 2147483647
      · rw [if_pos (decide_eq_true c5)]
        by_cases c6 : v.fUpdated < 0
        · rw [if_pos c6]
        rw [if_neg c6, if_pos (by omega)]
      · rw [if_neg (by simp only [decide_eq_true_eq]; exact c5)]
    · rw [if_neg (by simp only [decide_eq_true_eq]; exact c3)]
  rw [if_neg hr]
  unfold badR at hr
  rw [if_neg (by omega), if_neg (by omega), Option.bind_some, if_pos (decide_eq_true (by omega)), if_neg (by omega), Option.bind_some, if_pos (decide_eq_true (by omega)), if_neg (by omega), if_neg (by omega)]
  unfold f_value_Idle
  by_cases hs : v.fState < 0 ∨ v.fState > 6
  · rw [if_pos hs]
    by_cases c1 : v.fState < 0
    · rw [if_pos c1]
    · rw [if_neg c1, if_pos (by omega)]
  rw [if_neg hs, if_neg (by omega), if_neg (by omega)]
  by_cases hc : badC v
  · rw [if_pos hc]
    unfold badC at hc
    by_cases c0 : v.fState = 0
    · rw [if_pos c0, Option.bind_some, if_pos rfl]
      by_cases c1 : (v.fTopics.length : Int) = 0
      · rw [if_pos c1, if_pos c0, if_neg (by omega)]
      · rw [if_neg c1]
    · rw [if_neg c0]
      by_cases c4 : v.fState ≥ 4
      · rw [if_pos c4, Option.bind_some, if_pos rfl]
        by_cases c1 : (v.fTopics.length : Int) = 0
        · rw [if_pos c1, if_neg c0, if_pos (by omega)]
        · rw [if_neg c1]
      · rw [if_neg c4, Option.bind_some, if_neg (by decide)]
        by_cases c1 : (v.fTopics.length : Int) = 0
        · rw [if_pos c1]
        · rw [if_neg c1, if_neg c0, if_pos (by omega)]
  rw [if_neg hc]
  unfold badC at hc
  by_cases c0 : v.fState = 0
  · rw [if_pos c0, Option.bind_some, if_pos rfl, if_pos (by omega), if_pos c0, if_pos (by omega)]
    cases b <;> rfl
  · rw [if_neg c0]
    by_cases c4 : v.fState ≥ 4
    · rw [if_pos c4, Option.bind_some, if_pos rfl, if_pos (by omega), if_neg c0, if_neg (by omega)]
      cases b <;> rfl
    · rw [if_neg c4, Option.bind_some, if_neg (by decide), if_neg (by omega), if_neg c0, if_neg (by omega)]
      cases b <;> rfl
theorem okts_ok {l : List Top} (h : okts l = true) (hw : wTs l ≤ 2000) : ∀ t, t ∈ l → okT t := by
  intro t ht
  unfold okts at h
  rw [Bool.and_eq_true] at h
  have h1 := List.all_eq_true.1 h.1 t ht
  unfold oktB okps at h1
  simp only [Bool.and_eq_true, decide_eq_true_eq, List.all_eq_true] at h1
  have h2 := wTs_mem l t ht
  unfold wT at h2
  refine ⟨fits_small (.inl rfl) (by omega) (by omega), fits_small (.inr (.inl rfl)) (by omega) (by omega), fun n hn => ?_⟩
  have h3 := h1.2.1.1 n hn
  unfold okn at h3
  simp only [Bool.and_eq_true, decide_eq_true_eq] at h3
  rw [fits_4]
  exact decide_eq_true (by omega)
end Go.Proofs.Ytagbblaegdedpaa.Sl
namespace Go.Proofs.Ytagbblaegdedpaa.Sl
open Go.RowKit
set_option linter.unusedVariables false
set_option linter.unusedSimpArgs false
set_option maxRecDepth 100000
def ft_txn : FTab := [(26, 0, 0), (26, 1, 1), (107, 0, 0), (107, 1, 2), (107, 2, 3), (107, 3, 4), (109, 0, 0), (109, 1, 1), (109, 2, 2), (109, 3, 3), (180, 0, 0), (180, 1, 1), (180, 2, 2), (180, 3, 3)]
theorem ft_txn_ok : (ft_txn).OK Try.prog := ⟨FOK.mk Try.runUnderlying26 rfl Try.sizeOf4 rfl, FOK.mk Try.runUnderlying26 rfl Try.sizeOf9 rfl, FOK.mk Try.runUnderlying107 rfl Try.sizeOf26 rfl, FOK.mk Try.runUnderlying107 rfl Try.sizeOf3 rfl, FOK.mk Try.runUnderlying107 rfl Try.sizeOf3 rfl, FOK.mk Try.runUnderlying107 rfl Try.sizeOf3 rfl, FOK.mk Try.runUnderlying109 rfl Try.sizeOf9 rfl, FOK.mk Try.runUnderlying109 rfl Try.sizeOf3 rfl, FOK.mk Try.runUnderlying109 rfl Try.sizeOf3 rfl, FOK.mk Try.runUnderlying109 rfl Try.sizeOf4 rfl, FOK.mk Try.runUnderlying180 rfl Try.sizeOf9 rfl, FOK.mk Try.runUnderlying180 rfl Try.sizeOf3 rfl, FOK.mk Try.runUnderlying180 rfl Try.sizeOf3 rfl, FOK.mk Try.runUnderlying180 rfl Try.sizeOf68 rfl, trivial⟩
theorem bok_txn_97 : BOK Try.prog 97 #[.int .i64 0, .int .i64 0, .int .i64 0, .int .i64 0, .slice none 0 0, .int .i64 0, .int .i64 0] [(0, 1), (1, 1), (2, 1), (3, 1), (4, 1), (5, 1), (6, 1)] := BOK.mk Try.zeroValue97 Try.runUnderlying97 (by intro w; simp)
def f_txn_Who (a0 : Int) (a1 : Int) : Option (Bool) := (if a0 ≥ 0 then (if a1 ≥ 0 then ((gFits a1 2).bind fun x9 => some x9) else some false) else some false).bind fun y5 => some y5
set_option maxRecDepth 100000 in
set_option maxHeartbeats 4000000 in
theorem f_txn_Who_spec (a0 : Int) (a1 : Int) (r : Bool) (h : f_txn_Who a0 a1 = some r) : SpecX Try.prog 117 #[.int .i64 a0, .int .i64 a1] .triv (EmpR) (fun v A' N => v = .bool r ∧ A' = EmpR ∧ N = []) := by
  refine enterA Try.func117 rfl Try.ntmps117 rfl ?_
  intro F w hX
  unfold f_txn_Who at h
  refine T.seq (T.region rfl ?_)
  refine TL.run ft_txn_ok [0] rfl rfl ?_
  refine TL.nil (X.seq (T.seq ?_))
  obtain ⟨y5, h, hk6⟩ := Option.bind_eq_some_iff.1 h
  refine T.jq (fun e Rs => e = [(4, .bool y5)] ∧ Rs = [EmpR]) ?_ ?_
  · clear hk6
    refine T.region rfl ?_
    by_cases c7 : a0 ≥ 0
    · replace h := ifT c7 h
      refine TL.run ft_txn_ok [0, 1, 2] rfl rfl ?_
      refine TL.q rfl (.g rfl rfl (decide_eq_true c7)) (Ex.ft ft_txn_ok rfl) rfl ?_
      refine TL.q rfl (.g rfl rfl (decide_eq_true c7)) (Ex.ft ft_txn_ok rfl) rfl ?_
      refine TL.q rfl .u (Ex.py rfl (decide_eq_true c7) rfl) rfl ?_
      by_cases c8 : a1 ≥ 0
      · replace h := ifT c8 h
        refine TL.run ft_txn_ok [6] rfl rfl ?_
        refine TL.q rfl (.g rfl rfl (decide_eq_true c8)) (Ex.ft ft_txn_ok rfl) rfl ?_
        obtain ⟨x9, hx10, h⟩ := Option.bind_eq_some_iff.1 h
        refine TL.ce rfl (.g rfl rfl (decide_eq_true c8)) (.fn Try.call96 rfl) (SpecX.pure (fun w => gFits_spec a1 2 _ hx10 w)) (fun _ _ => RX.reads_triv _ _) rfl ?_
        refine TL.q rfl .u (Ex.py rfl (decide_eq_true c8) rfl) rfl ?_
        refine TL.run ft_txn_ok [10] rfl rfl ?_
        cases h
        exact TL.nil (X.jq [0] ⟨rfl, rfl⟩ (by rfl) (by rfl))
      · replace h := ifF c8 h
        refine TL.run ft_txn_ok [6] rfl rfl ?_
        refine TL.no rfl (.gn rfl rfl (decide_eq_false c8)) rfl ?_
        refine TL.no rfl (.gn rfl rfl (decide_eq_false c8)) rfl ?_
        refine TL.q rfl .u (Ex.pn rfl (decide_eq_false c8) rfl) rfl ?_
        refine TL.run ft_txn_ok [10] rfl rfl ?_
        cases h
        exact TL.nil (X.jq [0] ⟨rfl, rfl⟩ (by rfl) (by rfl))
    · replace h := ifF c7 h
      refine TL.run ft_txn_ok [0, 1, 2] rfl rfl ?_
      refine TL.no rfl (.gn rfl rfl (decide_eq_false c7)) rfl ?_
      refine TL.no rfl (.gn rfl rfl (decide_eq_false c7)) rfl ?_
      refine TL.q rfl .u (Ex.pn rfl (decide_eq_false c7) rfl) rfl ?_
      refine TL.run ft_txn_ok [6] rfl rfl ?_
      refine TL.no rfl (.gn rfl rfl rfl) rfl ?_
      refine TL.no rfl (.gn rfl rfl rfl) rfl ?_
      refine TL.q rfl .u (Ex.pn rfl rfl rfl) rfl ?_
      refine TL.run ft_txn_ok [10] rfl rfl ?_
      cases h
      exact TL.nil (X.jq [0] ⟨rfl, rfl⟩ (by rfl) (by rfl))
  · rintro _ _ ⟨rfl, rfl⟩
    clear h
    have h := hk6
    clear hk6
    try dsimp only at h
    obtain rfl := Option.some.inj h
    exact X.seq (T.ret (X.done1 [0] Try.results117 (RV.tm rfl) ⟨rfl, rfl, rfl⟩ (by rfl) (.inl rfl)))
def f_txn_Rise (a0 : List Top) : Option (Int) := if (a0.length : Int) = 0 then some 10 else ((f_value_Check (⟨0, 0, 0, 1, a0, 0, 0⟩ : Val)).bind fun x5 => some x5)
set_option maxRecDepth 100000 in
set_option maxHeartbeats 4000000 in
theorem f_txn_Rise_spec (a0 : List Top) (A1 : Option Addr) (c2 : Nat) (r : Int) (h : f_txn_Rise a0 = some r) : SpecX Try.prog 118 #[.slice A1 a0.length c2] (RX.of (sliceRd 2 Top_rd) [.slice A1 a0.length c2] a0) (EmpR) (fun v A' N => v = .int .i64 r ∧ A' = EmpR ∧ N = []) := by
  refine enterA Try.func118 rfl Try.ntmps118 rfl ?_
  intro F w hX
  unfold f_txn_Rise at h
  refine T.seq (T.region rfl ?_)
  refine TL.run ft_txn_ok [0] rfl rfl ?_
  refine TL.nil (X.seq (T.seq (T.seq (T.region rfl ?_))))
  refine TL.run ft_txn_ok [0] rfl rfl ?_
  refine TL.q rfl .u (Ex.lenS rfl Try.runUnderlying68) rfl ?_
  refine TL.run ft_txn_ok [2] rfl rfl ?_
  by_cases c3 : (a0.length : Int) = 0
  · replace h := ifT c3 h
    refine TL.nil (X.seq ?_)
    refine T.yes rfl (decide_eq_true c3) ?_
    refine T.seq (T.region rfl ?_)
    refine TL.run ft_txn_ok [0] rfl rfl ?_
    obtain rfl := Option.some.inj h
    exact TL.nil (X.seq (T.ret (X.rs (X.done1 [0] Try.results118 (RV.tm rfl) ⟨rfl, rfl, rfl⟩ (by rfl) (.inl rfl)))))
  · replace h := ifF c3 h
    refine TL.nil (X.seq ?_)
    refine T.no rfl (decide_eq_false c3) ?_
    refine T.skip (X.seq (T.seq (T.region rfl ?_)))
    refine TL.run ft_txn_ok [0] rfl rfl ?_
    refine TL.q rfl .u (Ex.bld (cells := #[.int .i64 0, .int .i64 0, .int .i64 0, .int .i64 1, .slice A1 a0.length c2, .int .i64 0, .int .i64 0]) bok_txn_97 rfl (by kernel_rfl)) rfl ?_
    refine TL.alloc rfl .u Try.zeroValue97 rfl (fun b4 => ?_)
    refine TL.st0 (cs' := #[.int .i64 0, .int .i64 0, .int .i64 0, .int .i64 1, .slice A1 a0.length c2, .int .i64 0, .int .i64 0]) rfl .u rfl rfl Try.sizeOf97 rfl rfl rfl rfl ?_
    refine TL.nil (X.seq (T.seq (T.region rfl ?_)))
    refine TL.q rfl .u (Ex.bS (us := [.int .i64 0, .int .i64 0, .int .i64 0, .int .i64 1, .slice A1 a0.length c2, .int .i64 0, .int .i64 0]) 0 rfl Try.isAgg97 Try.sizeOf97 rfl rfl rfl) rfl ?_
    obtain ⟨x5, hx6, h⟩ := Option.bind_eq_some_iff.1 h
    refine TL.ce rfl .u (.fn Try.call135 rfl) (f_value_Check_spec (⟨0, 0, 0, 1, a0, 0, 0⟩ : Val) _ _ _ hx6) (fun _ hs => (SrcE.old hs hX)) rfl ?_
    refine TL.run ft_txn_ok [2] rfl rfl ?_
    obtain rfl := Option.some.inj h
    exact TL.nil (X.seq (T.ret (X.done1 [1] Try.results118 (RV.tm rfl) ⟨rfl, rfl, rfl⟩ (by rfl) (.inl rfl))))
def f_txn_PutBool (st : List UInt8 × Int) (a1 : Bool) : Option (List UInt8 × Int) := (if a1 = true then ((gOByte st 1).bind fun st9 => some st9) else ((gOByte st 0).bind fun st11 => some st11)).bind fun st6 => some st6
set_option maxRecDepth 100000 in
set_option maxHeartbeats 4000000 in
theorem f_txn_PutBool_spec (g : Nat) (st : List UInt8 × Int) (a1 : Bool) (r : List UInt8 × Int) (h : f_txn_PutBool st a1 = some r) : SpecX Try.prog 114 #[.pointer (some ⟨g, 0, none⟩), .bool a1] .triv (OutR g st) (fun v A' N => v = .tuple #[] ∧ A' = OutR g r ∧ N = []) := by
  refine enterA Try.func114 rfl Try.ntmps114 rfl ?_
  intro F w hX
  unfold f_txn_PutBool at h
  refine T.seq (T.region rfl ?_)
  refine TL.run ft_txn_ok [0] rfl rfl ?_
  refine TL.nil (X.seq ?_)
  obtain ⟨st6, h, hk7⟩ := Option.bind_eq_some_iff.1 h
  refine T.jq (fun e Rs => e = [] ∧ Rs = [OutR g st6]) ?_ ?_
  · clear hk7
    by_cases c8 : a1 = true
    · replace h := ifT c8 h
      refine T.yes rfl c8 ?_
      refine T.region rfl ?_
      obtain ⟨st9, hx10, h⟩ := Option.bind_eq_some_iff.1 h
      refine TL.run ft_txn_ok [0] rfl rfl ?_
      refine TL.c0 rfl .u (.fn Try.call174 rfl) (gOByte_spec g st 1 _ hx10) (fun _ hs => (Src.triv _)) rfl ?_
      cases h
      exact TL.nil (X.jq [0] ⟨rfl, rfl⟩ (by rfl) (by rfl))
    · replace h := ifF c8 h
      replace c8 := eq_false_of_ne_true c8
      refine T.no rfl c8 ?_
      refine T.region rfl ?_
      obtain ⟨st11, hx12, h⟩ := Option.bind_eq_some_iff.1 h
      refine TL.run ft_txn_ok [0] rfl rfl ?_
      refine TL.c0 rfl .u (.fn Try.call174 rfl) (gOByte_spec g st 0 _ hx12) (fun _ hs => (Src.triv _)) rfl ?_
      cases h
      exact TL.nil (X.jq [0] ⟨rfl, rfl⟩ (by rfl) (by rfl))
  · rintro _ _ ⟨rfl, rfl⟩
    clear h
    have h := hk7
    clear hk7
    try dsimp only at h
    obtain rfl := Option.some.inj h
    exact X.done0 [0] Try.results114 ⟨rfl, rfl, rfl⟩ (by rfl) (.inr rfl)
def f_txn_Bool (st : I)  : Option (Bool × I) := (gInt st 1).bind fun (x1, st2) => (if x1 = 0 then some false else (if x1 = 1 then some false else some true)).bind fun y5 => (if y5 = true then ((gIFail st2 11).bind fun st15 => some st15) else some st2).bind fun st12 => if x1 = 1 then some (true, st12) else some (false, st12)
set_option maxRecDepth 100000 in
set_option maxHeartbeats 4000000 in
theorem f_txn_Bool_spec (g : Nat) (st : I)  (r : Bool × I) (h : f_txn_Bool st  = some r) : SpecX Try.prog 106 #[.pointer (some ⟨g, 0, none⟩)] .triv (InR g st) (fun v A' N => v = .bool r.1 ∧ A' = InR g r.2 ∧ N = []) := by
  refine enterA Try.func106 rfl Try.ntmps106 rfl ?_
  intro F w hX
  unfold f_txn_Bool at h
  refine T.seq (T.region rfl ?_)
  refine TL.run ft_txn_ok [0] rfl rfl ?_
  refine TL.nil (X.seq (T.seq (T.region rfl ?_)))
  obtain ⟨⟨x1, st2⟩, hx3, h⟩ := Option.bind_eq_some_iff.1 h
  try dsimp only at h
  refine TL.run ft_txn_ok [0] rfl rfl ?_
  refine TL.c0 rfl .u (.fn Try.call83 rfl) (gInt_spec g st 1 _ hx3) (fun _ hs => (Src.triv _)) rfl ?_
  refine TL.run ft_txn_ok [2] rfl rfl ?_
  refine TL.nil (X.seq (T.seq (T.seq ?_)))
  obtain ⟨y5, h, hk6⟩ := Option.bind_eq_some_iff.1 h
  refine T.jq (fun e Rs => e = [(0, .pointer (some ⟨g, 0, none⟩)), (2, .bool false), (3, .int .i64 x1), (11, .bool y5)] ∧ Rs = [InR g st2]) ?_ ?_
  · clear hk6
    refine T.region rfl ?_
    by_cases c7 : x1 = 0
    · replace h := ifT c7 h
      refine TL.run ft_txn_ok [0, 1, 2] rfl rfl ?_
      refine TL.no rfl (.gn rfl rfl (bn_f (decide_eq_true c7))) rfl ?_
      refine TL.no rfl (.gn rfl rfl (bn_f (decide_eq_true c7))) rfl ?_
      refine TL.q rfl .u (Ex.pn rfl (bn_f (decide_eq_true c7)) rfl) rfl ?_
      cases h
      exact TL.nil (X.jq [0] ⟨rfl, rfl⟩ (by rfl) (by rfl))
    · replace h := ifF c7 h
      refine TL.run ft_txn_ok [0, 1, 2] rfl rfl ?_
      refine TL.q rfl (.g rfl rfl (bn_t (decide_eq_false c7))) (Ex.ft ft_txn_ok rfl) rfl ?_
      refine TL.q rfl (.g rfl rfl (bn_t (decide_eq_false c7))) (Ex.ft ft_txn_ok rfl) rfl ?_
      refine TL.q rfl .u (Ex.py rfl (bn_t (decide_eq_false c7)) rfl) rfl ?_
      by_cases c8 : x1 = 1
      · replace h := ifT c8 h
        cases h
        exact TL.nil (X.as (d := 11) (v' := .bool false) rfl (congrArg Value.bool (bn_f (decide_eq_true c8))) (X.jq [0] ⟨rfl, rfl⟩ (by rfl) (by rfl)))
      · replace h := ifF c8 h
        cases h
        exact TL.nil (X.as (d := 11) (v' := .bool true) rfl (congrArg Value.bool (bn_t (decide_eq_false c8))) (X.jq [0] ⟨rfl, rfl⟩ (by rfl) (by rfl)))
  · rintro _ _ ⟨rfl, rfl⟩
    clear h
    have h := hk6
    clear hk6
    try dsimp only at h
    refine X.seq ?_
    obtain ⟨st12, h, hk13⟩ := Option.bind_eq_some_iff.1 h
    refine T.jq (fun e Rs => e = [(2, .bool false), (3, .int .i64 x1)] ∧ Rs = [InR g st12]) ?_ ?_
    · clear hk13
      by_cases c14 : y5 = true
      · replace h := ifT c14 h
        refine T.yes rfl c14 ?_
        refine T.region rfl ?_
        obtain ⟨st15, hx16, h⟩ := Option.bind_eq_some_iff.1 h
        refine TL.run ft_txn_ok [0] rfl rfl ?_
        refine TL.c0 rfl .u (.fn Try.call84 rfl) (gIFail_spec g st2 11 _ hx16) (fun _ hs => (Src.triv _)) rfl ?_
        cases h
        exact TL.nil (X.jq [0] ⟨rfl, rfl⟩ (by rfl) (by rfl))
      · replace h := ifF c14 h
        replace c14 := eq_false_of_ne_true c14
        refine T.no rfl c14 ?_
        cases h
        exact T.skip (X.jq [0] ⟨rfl, rfl⟩ (by rfl) (by rfl))
    · rintro _ _ ⟨rfl, rfl⟩
      clear h
      have h := hk13
      clear hk13
      try dsimp only at h
      refine X.seq (T.seq (T.region rfl ?_))
      refine TL.run ft_txn_ok [0, 1, 2] rfl rfl ?_
      by_cases c17 : x1 = 1
      · replace h := ifT c17 h
        obtain rfl := Option.some.inj h
        exact TL.nil (X.seq (T.ret (X.done1 [0] Try.results106 (RV.tm (v := .bool true) (congrArg (fun b => some (Value.bool b)) (decide_eq_true c17))) ⟨rfl, rfl, rfl⟩ (by rfl) (.inl rfl))))
      · replace h := ifF c17 h
        obtain rfl := Option.some.inj h
        exact TL.nil (X.seq (T.ret (X.done1 [0] Try.results106 (RV.tm (v := .bool false) (congrArg (fun b => some (Value.bool b)) (decide_eq_false c17))) ⟨rfl, rfl, rfl⟩ (by rfl) (.inl rfl))))
end Go.Proofs.Ytagbblaegdedpaa.Sl
namespace Go.Proofs.Ytagbblaegdedpaa.Sl
open Go.RowKit
set_option linter.unusedVariables false
set_option linter.unusedSimpArgs false
theorem wi0 : wI 0 := ⟨by decide, by decide⟩
theorem wi1 : wI 1 := ⟨by decide, by decide⟩
def who (p e : Int) : Bool := decide (0 ≤ p ∧ 0 ≤ e ∧ e ≤ 32767)
theorem who_eq (p e : Int) (he : wI e) : f_txn_Who p e = some (who p e) := by
  unfold f_txn_Who who
  by_cases h1 : p ≥ 0
  · rw [if_pos h1]
    by_cases h2 : e ≥ 0
    · rw [if_pos h2, gFits_eq _ _ he, fits_2]
      simp only [Option.bind_some]
      congr 1
      by_cases h3 : e ≤ 32767
      · rw [decide_eq_true (by omega), decide_eq_true (by omega)]
      · rw [decide_eq_false (by omega), decide_eq_false (by omega)]
    · rw [if_neg h2, decide_eq_false (by omega)]
      rfl
  · rw [if_neg h1, decide_eq_false (by omega)]
    rfl
def riseV (l : List Top) : Int := if l.length = 0 then 10 else if okts l = true then 0 else 13
def wTl (l : List Top) : Prop := (∀ t, t ∈ l → wf_Top t) ∧ l.length ≤ 1000000
theorem rise_txn (l : List Top) (hw : wTl l) : f_txn_Rise l = some (riseV l) := by
  unfold f_txn_Rise riseV
  by_cases h : l.length = 0
  · rw [if_pos (by omega), if_pos h]
  · rw [if_neg (by omega), if_neg h, vcheck_eq _ ⟨wi0, wi0, wi0, wi1, ⟨by have := hw.2; simp only; omega, hw.1⟩, wi0, wi0⟩ hw.2, Option.bind_some]
    unfold chkV
    rw [if_neg (by unfold badR; simp), if_neg (by simp), if_neg (by
      unfold badC
      simp only
      rintro (h1 | h1)
      · exact h1 ⟨fun _ => by omega, fun _ => by omega⟩
      · exact h1 ⟨fun h => absurd h (by decide), fun h => absurd h (by decide)⟩)]
def tmB (t : Int) : Bool := decide (0 ≤ t ∧ t ≤ 2147483647)
theorem B_bool : CB f_txn_Bool pBool false := by
  refine ⟨fun st h => ?_, fun s q hl hq => ?_⟩
  · unfold f_txn_Bool
    rw [gInt_d h, Option.bind_some]
    rfl
  · unfold f_txn_Bool pBool
    rcases Q1.run s q hq with ⟨e, st, p1, g1, x1, y1⟩ | ⟨n, r, p1, g1, n1, l1⟩
    · refine .inl ⟨e, st, Pr.bind_err p1, ?_, x1, y1⟩
      rw [g1, Option.bind_some]
      rfl
    · rw [g1, Option.bind_some, Pr.bind_of p1]
      simp only
      by_cases h0 : n = 0
      · rw [if_pos h0, if_pos h0, Option.bind_some, if_neg (by decide), Option.bind_some, if_neg (by omega)]
        exact .inr ⟨false, r, rfl, rfl, n1, l1⟩
      · by_cases h1 : n = 1
        · rw [if_neg h0, if_pos h1, if_neg h0, if_pos h1, Option.bind_some, if_neg (by decide), Option.bind_some, if_pos h1]
          exact .inr ⟨true, r, rfl, rfl, n1, l1⟩
        · rw [if_neg h0, if_neg h1, if_neg h0, if_neg h1, Option.bind_some, if_pos rfl, gIFail_eq, Option.bind_some, Option.bind_some, if_neg h1]
          exact .inl ⟨11, _, rfl, rfl, rfl, by simp [ifail]⟩
abbrev pTops : Pr (List Top) := pRow 4 6 pTopic
theorem encs_mem_len {α : Type} {enc : α → List UInt8} : ∀ (l : List α) (x : α), x ∈ l → (enc x).length ≤ (encs enc l).length
  | y :: l, x, h => by
    rw [encs, List.length_append]
    rcases List.mem_cons.1 h with rfl | h
    · omega
    · have := encs_mem_len (enc := enc) l x h
      omega
theorem w_tops (s : List UInt8) (q : Nat) (l : List Top) (r : Nat) (hl : s.length ≤ 1000000) (hq : q ≤ s.length) (h : pTops s q = .ok (l, r)) : wTl l := by
  obtain ⟨a1, a2, a3, a4, a5, a6⟩ := Sp_topics.spell s q l r hq h
  rw [List.length_append, be_length] at a3
  have hlen := encs_ge encT_ge l a6
  refine ⟨fun t ht => ?_, by omega⟩
  have h1 := encs_mem_len (enc := encT) l t ht
  obtain ⟨b1, b2, b3⟩ := a6 t ht
  have h2 : (encT t).length = wT t := encT_len t
  unfold wT at h2
  exact ⟨by show t.fName.length ≤ _; omega, by show t.fParts.length ≤ _; omega, fun n hn => fits_rng (b3 n hn)⟩
theorem wTs_bounds {l : List Top} (h : wTs l ≤ 1000000) : l.length ≤ 1000000 ∧ ∀ t, t ∈ l → t.fParts.length ≤ 1000000 ∧ t.fName.length ≤ 1000000 := by
  have := wTs_len l
  refine ⟨by omega, fun t ht => ?_⟩
  have := wTs_mem _ _ ht
  unfold wT at this
  omega
def encTs (l : List Top) : List UInt8 := be (l.length : Int) 4 ++ encs encT l
def okTs (l : List Top) : Prop := fits (l.length : Int) 4 = true ∧ ∀ t, t ∈ l → okT t
abbrev spI (k : Nat) (h1 : 1 ≤ k := by decide) (h8 : k ≤ 8 := by decide) := Sp_int k h1 h8
end Go.Proofs.Ytagbblaegdedpaa.Sl
namespace Go.Proofs.Ytagbblaegdedpaa.Sl
open Go.RowKit
set_option linter.unusedVariables false
set_option linter.unusedSimpArgs false
theorem who_fits {p e : Int} (h : who p e = true) (hp : wI p) : fits p 8 = true ∧ fits e 2 = true := by
  unfold who at h
  have h := of_decide_eq_true h
  exact ⟨by rw [fits_8]; exact decide_eq_true hp, by rw [fits_2]; exact decide_eq_true (by omega)⟩
theorem putBool (t : List UInt8) (b : Bool) (ht : t.length ≤ 1000000) : f_txn_PutBool (t, 0) b = some (t ++ encBool b, 0) := by
  unfold f_txn_PutBool
  cases b with
  | true =>
    rw [if_pos rfl, gOByte_eq _ _ ⟨by decide, by decide, by simp only; omega⟩]
    rfl
  | false =>
    rw [if_neg (by decide), gOByte_eq _ _ ⟨by decide, by decide, by simp only; omega⟩]
    rfl
theorem rise_zero {l : List Top} (h : riseV l = 0) : l ≠ [] ∧ okts l = true := by
  unfold riseV at h
  split at h
  · exact absurd h (by decide)
  · rename_i h1
    split at h
    · rename_i h2
      exact ⟨fun h0 => h1 (by rw [h0]; rfl), h2⟩
    · exact absurd h (by decide)
def Pr.map {α β : Type} (g : α → β) (p : Pr α) : Pr β := p.bind fun x => .ret (g x)
theorem Sp.map {α β : Type} {p : Pr α} {enc : α → List UInt8} {ok : α → Prop} (g : α → β) (g' : β → α) (hg : ∀ x, g' (g x) = x) (h : Sp p enc ok) : Sp (p.map g) (fun y => enc (g' y)) (fun y => ok (g' y) ∧ g (g' y) = y) := by
  refine ⟨fun s q y r hq hp => ?_, fun s t q y hq hy hd => ?_⟩
  · obtain ⟨x, m, h1, h2⟩ := Pr.bind_ok hp
    injection h2 with h2
    obtain ⟨rfl, rfl⟩ := Prod.mk.inj h2
    obtain ⟨a1, a2, a3, a4, a5⟩ := h.spell s q x m hq h1
    rw [hg x]
    exact ⟨a1, a2, a3, a4, a5, rfl⟩
  · have := h.back s t q (g' y) hq hy.1 hd
    rw [Pr.map, Pr.bind_of this, hy.2]
    rfl
theorem CB.map {α β : Type} {op : I → Option (α × I)} {p : Pr α} {z : α} (g : α → β) (h : CB op p z) : CB (fun st => (op st).bind fun (x, st1) => some (g x, st1)) (p.map g) (g z) := by
  refine ⟨fun st hd => ?_, fun s q hl hq => ?_⟩
  · show (op st).bind _ = _
    rw [h.dead st hd]
    rfl
  · rcases h.run s q hl hq with ⟨e, st, p1, g1, x1, y1⟩ | ⟨a, r, p1, g1, n1, l1⟩
    · refine .inl ⟨e, st, Pr.bind_err p1, ?_, x1, y1⟩
      show (op _).bind _ = _
      rw [g1]
      rfl
    · refine .inr ⟨g a, r, by rw [Pr.map, Pr.bind_of p1]; rfl, ?_, n1, l1⟩
      show (op _).bind _ = _
      rw [g1]
      rfl
end Go.Proofs.Ytagbblaegdedpaa.Sl
namespace Go.Proofs.Ytagbblaegdedpaa.Sl
open Go.RowKit
set_option linter.unusedVariables false
set_option linter.unusedSimpArgs false
noncomputable instance decTop : DecidableEq Top := fun a b => Classical.propDecidable (a = b)
theorem sameTs_iff : ∀ (l m : List Top), sameTs l m = decide (l = m)
  | [], [] => rfl
  | [], b :: m => by simp [sameTs]
  | a :: l, [] => by simp [sameTs]
  | a :: l, b :: m => by
    rw [sameTs, sameTs_iff l m]
    obtain ⟨a1, a2⟩ := a
    obtain ⟨b1, b2⟩ := b
    unfold sameT
    simp only
    by_cases h1 : a1 = b1 <;> by_cases h2 : a2 = b2 <;> by_cases h3 : l = m <;> simp [h1, h2, h3]
end Go.Proofs.Ytagbblaegdedpaa.Sl
namespace Go.Proofs.Ytagbblaegdedpaa.Sl
open Go.RowKit
set_option linter.unusedVariables false
set_option linter.unusedSimpArgs false
set_option maxRecDepth 100000
def ft_mark : FTab := [(70, 0, 0), (70, 1, 1), (70, 2, 2), (70, 3, 3), (70, 4, 4)]
theorem ft_mark_ok : (ft_mark).OK Try.prog := ⟨FOK.mk Try.runUnderlying70 rfl Try.sizeOf3 rfl, FOK.mk Try.runUnderlying70 rfl Try.sizeOf3 rfl, FOK.mk Try.runUnderlying70 rfl Try.sizeOf4 rfl, FOK.mk Try.runUnderlying70 rfl Try.sizeOf68 rfl, FOK.mk Try.runUnderlying70 rfl Try.sizeOf3 rfl, trivial⟩
theorem bok_mark_70 : BOK Try.prog 70 #[.int .i64 0, .int .i64 0, .bool false, .slice none 0 0, .int .i64 0] [(0, 1), (1, 1), (2, 1), (3, 1), (4, 1)] := BOK.mk Try.zeroValue70 Try.runUnderlying70 (by intro w; simp)
theorem sok_mark_55_1 : SOK Try.prog 55 70 1 5 #[.int .i64 0, .int .i64 0, .bool false, .slice none 0 0, .int .i64 0] := SOK.mk Try.runUnderlying55 Try.sizeOf70 Try.zeroValue70 (by decide) (by kernel_rfl)
theorem inf_mark_70 : (Try.prog.info? 70).map (fun i => (i.zero, i.size, i.bytes)) = some (some (.agg #[.int .i64 0, .int .i64 0, .bool false, .slice none 0 0, .int .i64 0]), 5, 56) := by kernel_rfl
def f_mark_MarkCheck (a0 : MarkMark) (a1 : Int) : Option (Int) := ((f_txn_Who a0.fProducer a0.fEpoch).bind fun x14 => if x14 = true then (if a0.fCoordinator < 0 then some true else ((gFits a0.fCoordinator 4).bind fun x18 => if x18 = true then (if a1 = 0 then (if a0.fCoordinator > 0 then some true else some false) else some false) else some true)) else some true).bind fun y12 => if y12 = true then some 11 else ((f_txn_Rise a0.fTopics).bind fun x24 => some x24)
set_option maxRecDepth 100000 in
set_option maxHeartbeats 4000000 in
theorem f_mark_MarkCheck_spec (a0 : MarkMark) (A1 : Option Addr) (c2 : Nat) (a1 : Int) (r : Int) (h : f_mark_MarkCheck a0 a1 = some r) : SpecX Try.prog 42 #[.agg #[.int .i64 a0.fProducer, .int .i64 a0.fEpoch, .bool a0.fCommit, .slice A1 a0.fTopics.length c2, .int .i64 a0.fCoordinator], .int .i64 a1] (RX.of (sliceRd 2 Top_rd) [.slice A1 a0.fTopics.length c2] a0.fTopics) (EmpR) (fun v A' N => v = .int .i64 r ∧ A' = EmpR ∧ N = []) := by
  refine enterA Try.func42 rfl Try.ntmps42 rfl ?_
  intro F w hX
  unfold f_mark_MarkCheck at h
  refine T.seq (T.region rfl ?_)
  refine TL.box rfl .u rfl rfl (fun b3 => ?_)
  refine TL.run ft_mark_ok [1] rfl rfl ?_
  refine TL.nil (X.seq (T.seq (T.seq ?_)))
  obtain ⟨y12, h, hk13⟩ := Option.bind_eq_some_iff.1 h
  refine T.jq (fun e Rs => e = [(2, .pointer (some ⟨b3, 0, none⟩)), (4, .int .i64 0), (30, .bool y12)] ∧ Rs = [BlkR b3 70 #[.int .i64 a0.fProducer, .int .i64 a0.fEpoch, .bool a0.fCommit, .slice A1 a0.fTopics.length c2, .int .i64 a0.fCoordinator], EmpR]) ?_ ?_
  · clear hk13
    refine T.region rfl ?_
    refine TL.run ft_mark_ok [0] rfl rfl ?_
    refine TL.q rfl .u (Ex.b1 0 rfl Try.isAgg3 rfl rfl) rfl ?_
    refine TL.run ft_mark_ok [2] rfl rfl ?_
    refine TL.q rfl .u (Ex.b1 0 rfl Try.isAgg3 rfl rfl) rfl ?_
    obtain ⟨x14, hx15, h⟩ := Option.bind_eq_some_iff.1 h
    refine TL.ce rfl .u (.fn Try.call117 rfl) (f_txn_Who_spec a0.fProducer a0.fEpoch _ hx15) (fun _ hs => (RX.reads_triv _ _)) rfl ?_
    by_cases c16 : x14 = true
    · replace h := ifT c16 h
      refine TL.run ft_mark_ok [5, 6] rfl rfl ?_
      refine TL.q rfl (.g rfl rfl (bn_f c16)) (Ex.ft ft_mark_ok rfl) rfl ?_
      refine TL.q rfl (.g rfl rfl (bn_f c16)) (Ex.b1 0 rfl Try.isAgg3 rfl rfl) rfl ?_
      refine TL.q rfl (.g rfl rfl (bn_f c16)) (Ex.ft ft_mark_ok rfl) rfl ?_
      refine TL.q rfl .u (Ex.pn rfl (bn_f c16) rfl) rfl ?_
      by_cases c17 : a0.fCoordinator < 0
      · replace h := ifT c17 h
        refine TL.run ft_mark_ok [11] rfl rfl ?_
        refine TL.no rfl (.gn rfl rfl (decide_eq_true c17)) rfl ?_
        refine TL.no rfl (.gn rfl rfl (decide_eq_true c17)) rfl ?_
        refine TL.no rfl (.gn rfl rfl (decide_eq_true c17)) rfl ?_
        refine TL.no rfl (.gn rfl rfl (decide_eq_true c17)) rfl ?_
        refine TL.q rfl .u (Ex.py rfl (decide_eq_true c17) rfl) rfl ?_
        refine TL.run ft_mark_ok [17] rfl rfl ?_
        refine TL.no rfl (.gn rfl rfl rfl) rfl ?_
        refine TL.no rfl (.gn rfl rfl rfl) rfl ?_
        refine TL.no rfl (.gn rfl rfl rfl) rfl ?_
        refine TL.no rfl (.gu rfl rfl) rfl ?_
        refine TL.no rfl (.gu rfl rfl) rfl ?_
        refine TL.no rfl (.gu rfl rfl) rfl ?_
        refine TL.no rfl (.gn rfl rfl rfl) rfl ?_
        refine TL.q rfl .u (Ex.py rfl rfl rfl) rfl ?_
        cases h
        exact TL.nil (X.jq [0, 0] ⟨rfl, rfl⟩ (by rfl) (by rfl))
      · replace h := ifF c17 h
        refine TL.run ft_mark_ok [11] rfl rfl ?_
        refine TL.q rfl (.g rfl rfl (decide_eq_false c17)) (Ex.ft ft_mark_ok rfl) rfl ?_
        refine TL.q rfl (.g rfl rfl (decide_eq_false c17)) (Ex.b1 0 rfl Try.isAgg3 rfl rfl) rfl ?_
        obtain ⟨x18, hx19, h⟩ := Option.bind_eq_some_iff.1 h
        refine TL.ce rfl (.g rfl rfl (decide_eq_false c17)) (.fn Try.call96 rfl) (SpecX.pure (fun w => gFits_spec a0.fCoordinator 4 _ hx19 w)) (fun _ _ => RX.reads_triv _ _) rfl ?_
        refine TL.q rfl (.g rfl rfl (decide_eq_false c17)) (Ex.ft ft_mark_ok rfl) rfl ?_
        refine TL.q rfl .u (Ex.pn rfl (decide_eq_false c17) rfl) rfl ?_
        by_cases c20 : x18 = true
        · replace h := ifT c20 h
          refine TL.run ft_mark_ok [17] rfl rfl ?_
          refine TL.q rfl (.g rfl rfl (bn_f c20)) (Ex.ft ft_mark_ok rfl) rfl ?_
          refine TL.q rfl (.g rfl rfl (bn_f c20)) (Ex.ft ft_mark_ok rfl) rfl ?_
          refine TL.q rfl (.g rfl rfl (bn_f c20)) (Ex.ft ft_mark_ok rfl) rfl ?_
          by_cases c21 : a1 = 0
          · replace h := ifT c21 h
            refine TL.q rfl (.g rfl rfl (decide_eq_true c21)) (Ex.ft ft_mark_ok rfl) rfl ?_
            refine TL.q rfl (.g rfl rfl (decide_eq_true c21)) (Ex.b1 0 rfl Try.isAgg3 rfl rfl) rfl ?_
            refine TL.q rfl (.g rfl rfl (decide_eq_true c21)) (Ex.ft ft_mark_ok rfl) rfl ?_
            refine TL.q rfl (.g rfl rfl (bn_f c20)) (Ex.py rfl (decide_eq_true c21) rfl) rfl ?_
            refine TL.q rfl .u (Ex.pn rfl (bn_f c20) rfl) rfl ?_
            by_cases c22 : a0.fCoordinator > 0
            · replace h := ifT c22 h
              cases h
              exact TL.nil (X.as (d := 30) (v' := .bool true) rfl (congrArg Value.bool (decide_eq_true c22)) (X.jq [0, 0] ⟨rfl, rfl⟩ (by rfl) (by rfl)))
            · replace h := ifF c22 h
              cases h
              exact TL.nil (X.as (d := 30) (v' := .bool false) rfl (congrArg Value.bool (decide_eq_false c22)) (X.jq [0, 0] ⟨rfl, rfl⟩ (by rfl) (by rfl)))
          · replace h := ifF c21 h
            refine TL.no rfl (.gn rfl rfl (decide_eq_false c21)) rfl ?_
            refine TL.no rfl (.gn rfl rfl (decide_eq_false c21)) rfl ?_
            refine TL.no rfl (.gn rfl rfl (decide_eq_false c21)) rfl ?_
            refine TL.q rfl (.g rfl rfl (bn_f c20)) (Ex.pn rfl (decide_eq_false c21) rfl) rfl ?_
            refine TL.q rfl .u (Ex.pn rfl (bn_f c20) rfl) rfl ?_
            cases h
            exact TL.nil (X.jq [0, 0] ⟨rfl, rfl⟩ (by rfl) (by rfl))
        · replace h := ifF c20 h
          replace c20 := eq_false_of_ne_true c20
          refine TL.run ft_mark_ok [17] rfl rfl ?_
          refine TL.no rfl (.gn rfl rfl (bn_t c20)) rfl ?_
          refine TL.no rfl (.gn rfl rfl (bn_t c20)) rfl ?_
          refine TL.no rfl (.gn rfl rfl (bn_t c20)) rfl ?_
          refine TL.no rfl (.gu rfl rfl) rfl ?_
          refine TL.no rfl (.gu rfl rfl) rfl ?_
          refine TL.no rfl (.gu rfl rfl) rfl ?_
          refine TL.no rfl (.gn rfl rfl (bn_t c20)) rfl ?_
          refine TL.q rfl .u (Ex.py rfl (bn_t c20) rfl) rfl ?_
          cases h
          exact TL.nil (X.jq [0, 0] ⟨rfl, rfl⟩ (by rfl) (by rfl))
    · replace h := ifF c16 h
      replace c16 := eq_false_of_ne_true c16
      refine TL.run ft_mark_ok [5, 6] rfl rfl ?_
      refine TL.no rfl (.gn rfl rfl (bn_t c16)) rfl ?_
      refine TL.no rfl (.gn rfl rfl (bn_t c16)) rfl ?_
      refine TL.no rfl (.gn rfl rfl (bn_t c16)) rfl ?_
      refine TL.q rfl .u (Ex.py rfl (bn_t c16) rfl) rfl ?_
      refine TL.run ft_mark_ok [11] rfl rfl ?_
      refine TL.no rfl (.gn rfl rfl rfl) rfl ?_
      refine TL.no rfl (.gn rfl rfl rfl) rfl ?_
      refine TL.no rfl (.gn rfl rfl rfl) rfl ?_
      refine TL.no rfl (.gn rfl rfl rfl) rfl ?_
      refine TL.q rfl .u (Ex.py rfl rfl rfl) rfl ?_
      refine TL.run ft_mark_ok [17] rfl rfl ?_
      refine TL.no rfl (.gn rfl rfl rfl) rfl ?_
      refine TL.no rfl (.gn rfl rfl rfl) rfl ?_
      refine TL.no rfl (.gn rfl rfl rfl) rfl ?_
      refine TL.no rfl (.gu rfl rfl) rfl ?_
      refine TL.no rfl (.gu rfl rfl) rfl ?_
      refine TL.no rfl (.gu rfl rfl) rfl ?_
      refine TL.no rfl (.gn rfl rfl rfl) rfl ?_
      refine TL.q rfl .u (Ex.py rfl rfl rfl) rfl ?_
      cases h
      exact TL.nil (X.jq [0, 0] ⟨rfl, rfl⟩ (by rfl) (by rfl))
  · rintro _ _ ⟨rfl, rfl⟩
    clear h
    have h := hk13
    clear hk13
    try dsimp only at h
    by_cases c23 : y12 = true
    · replace h := ifT c23 h
      refine X.seq ?_
      refine T.yes rfl c23 ?_
      refine T.seq (T.region rfl ?_)
      refine TL.run ft_mark_ok [0] rfl rfl ?_
      obtain rfl := Option.some.inj h
      exact TL.nil (X.seq (T.ret (X.rs (X.done1 [1] Try.results42 (RV.tm rfl) ⟨rfl, rfl, rfl⟩ (by rfl) (.inl rfl)))))
    · replace h := ifF c23 h
      replace c23 := eq_false_of_ne_true c23
      refine X.seq ?_
      refine T.no rfl c23 ?_
      refine T.skip (X.seq (T.seq (T.region rfl ?_)))
      refine TL.run ft_mark_ok [0] rfl rfl ?_
      refine TL.q rfl .u (Ex.b1 0 rfl Try.isAgg68 rfl rfl) rfl ?_
      obtain ⟨x24, hx25, h⟩ := Option.bind_eq_some_iff.1 h
      refine TL.ce rfl .u (.fn Try.call118 rfl) (f_txn_Rise_spec a0.fTopics _ _ _ hx25) (fun _ hs => (SrcE.old hs hX)) rfl ?_
      refine TL.run ft_mark_ok [3] rfl rfl ?_
      obtain rfl := Option.some.inj h
      exact TL.nil (X.seq (T.ret (X.done1 [1] Try.results42 (RV.tm rfl) ⟨rfl, rfl, rfl⟩ (by rfl) (.inl rfl))))
def f_mark_Check_l1 (a1 : Int) : List MarkMark → Int → Option (Lp Int Int)
  | [], y4 => some (Lp.go y4)
  | x10 :: xs, y4 => (f_mark_MarkCheck x10 a1).bind fun x18 => if x18 = 0 then (f_mark_Check_l1 a1 xs y4) else some (Lp.ret x18)
def f_mark_Check (a0 : List MarkMark) (a1 : Int) : Option (Int) := if (a0.length : Int) = 0 then some 10 else ((f_mark_Check_l1 a1 a0 0).bind fun e => match e with | .ret r => some r | .go y21 => some 0)
set_option maxRecDepth 100000 in
set_option maxHeartbeats 4000000 in
theorem f_mark_Check_spec (a0 : List MarkMark) (A1 : Option Addr) (c2 : Nat) (a1 : Int) (r : Int) (h : f_mark_Check a0 a1 = some r) : SpecX Try.prog 41 #[.slice A1 a0.length c2, .int .i64 a1] (RX.of (sliceRd 5 MarkMark_rd) [.slice A1 a0.length c2] a0) (EmpR) (fun v A' N => v = .int .i64 r ∧ A' = EmpR ∧ N = []) := by
  refine enterA Try.func41 rfl Try.ntmps41 rfl ?_
  intro F w hX
  unfold f_mark_Check at h
  refine T.seq (T.region rfl ?_)
  refine TL.run ft_mark_ok [0] rfl rfl ?_
  refine TL.nil (X.seq (T.seq (T.seq (T.region rfl ?_))))
  refine TL.run ft_mark_ok [0] rfl rfl ?_
  refine TL.q rfl .u (Ex.lenS rfl Try.runUnderlying55) rfl ?_
  refine TL.run ft_mark_ok [2] rfl rfl ?_
  by_cases c3 : (a0.length : Int) = 0
  · replace h := ifT c3 h
    refine TL.nil (X.seq ?_)
    refine T.yes rfl (decide_eq_true c3) ?_
    refine T.seq (T.region rfl ?_)
    refine TL.run ft_mark_ok [0] rfl rfl ?_
    obtain rfl := Option.some.inj h
    exact TL.nil (X.seq (T.ret (X.rs (X.done1 [0] Try.results41 (RV.tm rfl) ⟨rfl, rfl, rfl⟩ (by rfl) (.inl rfl)))))
  · replace h := ifF c3 h
    refine TL.nil (X.seq ?_)
    refine T.no rfl (decide_eq_false c3) ?_
    refine T.skip (X.seq (T.seq (T.seq (T.region rfl ?_))))
    refine TL.run ft_mark_ok [0] rfl rfl ?_
    refine TL.q rfl .u (Ex.lenS rfl Try.runUnderlying55) rfl ?_
    refine TL.run ft_mark_ok [2] rfl rfl ?_
    refine TL.nil (X.seq (T.block ?_))
    obtain ⟨E6, hE7, hO8⟩ := Option.bind_eq_some_iff.1 h
    have hk12len := RX.len_le hX
    refine T.lp (fun m e Rs => ∃ (y4 : Int) (k5 : Nat), k5 + m = a0.length ∧ e = [(1, .int .i64 a1), (4, .int .i64 y4), (11, .slice A1 a0.length c2), (12, .int .i64 (a0.length : Int)), (13, .int .i64 (k5 : Int))] ∧ Rs = [EmpR] ∧ f_mark_Check_l1 a1 (a0.drop k5) y4 = some E6) (a0.length) [0] ⟨0, 0, by simp, rfl, rfl, by rw [List.drop_zero]; exact hE7⟩ (by rfl) (by rfl) ?_
    rintro m9 _ _ ⟨y4, k5, hk12, rfl, rfl, hl11⟩
    clear hE7 h
    cases m9 with
    | zero =>
      have h := hl11
      clear hl11
      rw [List.drop_of_length_le (by omega), f_mark_Check_l1] at h
      have hk12ge : ¬ ((k5 : Int) < (a0.length : Int)) := by omega
      refine T.seq (T.region rfl ?_)
      refine TL.run ft_mark_ok [0] rfl rfl ?_
      refine TL.nil (X.seq (T.seq ?_))
      refine T.no rfl (decide_eq_false hk12ge) ?_
      obtain rfl := Option.some.inj h
      replace h := hO8
      clear hO8
      try dsimp only at h
      refine T.exit (X.exs (X.exs (X.ex (X.seq (T.seq (T.region rfl ?_))))))
      refine TL.run ft_mark_ok [0] rfl rfl ?_
      obtain rfl := Option.some.inj h
      exact TL.nil (X.seq (T.ret (X.done1 [0] Try.results41 (RV.tm rfl) ⟨rfl, rfl, rfl⟩ (by rfl) (.inl rfl))))
    | succ m9 =>
      have h := hl11
      clear hl11
      obtain ⟨x10, hxx10⟩ : ∃ x, a0[k5]? = some x := ⟨_, List.getElem?_eq_getElem (by omega)⟩
      rw [drop_cons hxx10, f_mark_Check_l1] at h
      have hk12lt : (k5 : Int) < (a0.length : Int) := by omega
      refine T.seq (T.region rfl ?_)
      refine TL.run ft_mark_ok [0] rfl rfl ?_
      refine TL.nil (X.seq (T.seq ?_))
      refine T.yes rfl (decide_eq_true hk12lt) ?_
      obtain ⟨gz13, oz13, rfl, z13cs, z13cl, z13cc, z13nf, z13r⟩ := RX.elem (by decide) hX hxx10
      obtain ⟨z13S, z13r, z13rr⟩ := z13r
      obtain ⟨A14, c15, rfl, z13s0⟩ := z13r
      have hX16 : (RX.of (sliceRd 2 Top_rd) [.slice A14 x10.fTopics.length c15] x10.fTopics).reads w F := ⟨z13S, z13s0, z13rr⟩
      refine T.skip (X.seq (T.seq (T.block (T.seq (T.region rfl ?_)))))
      refine TL.q rfl .u (Ex.ixS (k := k5) rfl rfl rfl Try.runUnderlying55 Try.sizeOf70 (List.getElem?_eq_some_iff.1 hxx10).1) rfl ?_
      refine TL.q rfl .u (Ex.oS (us := [.int .i64 x10.fProducer, .int .i64 x10.fEpoch, .bool x10.fCommit, .slice A14 x10.fTopics.length c15, .int .i64 x10.fCoordinator]) 0 rfl Try.isAgg70 Try.sizeOf70 z13nf z13cc rfl rfl rfl) rfl ?_
      refine TL.alloc rfl .u Try.zeroValue70 rfl (fun b17 => ?_)
      refine TL.st0 (cs' := #[.int .i64 x10.fProducer, .int .i64 x10.fEpoch, .bool x10.fCommit, .slice A14 x10.fTopics.length c15, .int .i64 x10.fCoordinator]) rfl .u rfl rfl Try.sizeOf70 rfl rfl rfl rfl ?_
      refine TL.nil (X.seq (T.seq (T.region rfl ?_)))
      refine TL.q rfl .u (Ex.bS (us := [.int .i64 x10.fProducer, .int .i64 x10.fEpoch, .bool x10.fCommit, .slice A14 x10.fTopics.length c15, .int .i64 x10.fCoordinator]) 0 rfl Try.isAgg70 Try.sizeOf70 rfl rfl rfl) rfl ?_
      obtain ⟨x18, hx19, h⟩ := Option.bind_eq_some_iff.1 h
      refine TL.run ft_mark_ok [1] rfl rfl ?_
      refine TL.ce rfl .u (.fn Try.call42 rfl) (f_mark_MarkCheck_spec x10 _ _ a1 _ hx19) (fun _ hs => (SrcE.old hs hX16)) rfl ?_
      refine TL.run ft_mark_ok [3] rfl rfl ?_
      refine TL.nil (X.seq (T.seq (T.region rfl ?_)))
      refine TL.run ft_mark_ok [0, 1] rfl rfl ?_
      by_cases c20 : x18 = 0
      · replace h := ifT c20 h
        refine TL.nil (X.seq ?_)
        refine T.no rfl (bn_f (decide_eq_true c20)) ?_
        refine T.skip (X.blk (X.seq (T.region rfl ?_)))
        refine TL.q rfl .u (Ex.add rfl rfl (by omega)) rfl ?_
        refine TL.run ft_mark_ok [1] rfl rfl ?_
        exact TL.nil (X.back (m' := m9) [1] (by omega) ⟨y4, k5 + 1, by omega, rfl, rfl, h⟩ (by rfl) (by rfl))
      · replace h := ifF c20 h
        refine TL.nil (X.seq ?_)
        refine T.yes rfl (bn_t (decide_eq_false c20)) ?_
        refine T.seq (T.region rfl ?_)
        refine TL.run ft_mark_ok [0, 1] rfl rfl ?_
        obtain rfl := Option.some.inj h
        replace h := hO8
        clear hO8
        try dsimp only at h
        obtain rfl := Option.some.inj h
        exact TL.nil (X.seq (T.ret (X.rb (X.rs (X.rs (X.rb (X.rs (X.done1 [1] Try.results41 (RV.tm rfl) ⟨rfl, rfl, rfl⟩ (by rfl) (.inl rfl)))))))))
def f_mark_Write_l1 (a2 : Int) : List MarkMark → (List UInt8 × Int) → Option (List UInt8 × Int)
  | [], st9 => some st9
  | x14 :: xs, st9 => (gOInt st9 x14.fProducer 8).bind fun st22 => (gOInt st22 x14.fEpoch 2).bind fun st24 => (f_txn_PutBool st24 x14.fCommit).bind fun st26 => (f_value_PutTopics st26 x14.fTopics).bind fun st28 => (if a2 > 0 then ((gOInt st28 x14.fCoordinator 4).bind fun st36 => some st36) else some st28).bind fun st33 => f_mark_Write_l1 a2 xs st33
def f_mark_Write (st : List UInt8 × Int) (a1 : List MarkMark) (a2 : Int) : Option (List UInt8 × Int) := (f_mark_Check a1 a2).bind fun x3 => if x3 = 0 then ((gOInt st (a1.length : Int) 4).bind fun st6 => (f_mark_Write_l1 a2 a1 st6).bind fun st39 => some st39) else ((gOFail st x3).bind fun st40 => some st40)
set_option maxRecDepth 100000 in
set_option maxHeartbeats 4000000 in
theorem f_mark_Write_spec (g : Nat) (st : List UInt8 × Int) (a1 : List MarkMark) (A1 : Option Addr) (c2 : Nat) (a2 : Int) (r : List UInt8 × Int) (h : f_mark_Write st a1 a2 = some r) : SpecX Try.prog 39 #[.pointer (some ⟨g, 0, none⟩), .slice A1 a1.length c2, .int .i64 a2] (RX.of (sliceRd 5 MarkMark_rd) [.slice A1 a1.length c2] a1) (OutR g st) (fun v A' N => v = .tuple #[] ∧ A' = OutR g r ∧ N = []) := by
  refine enterA Try.func39 rfl Try.ntmps39 rfl ?_
  intro F w hX
  unfold f_mark_Write at h
  refine T.seq (T.seq (T.region rfl ?_))
  obtain ⟨x3, hx4, h⟩ := Option.bind_eq_some_iff.1 h
  refine TL.run ft_mark_ok [0, 1] rfl rfl ?_
  refine TL.ce rfl .u (.fn Try.call41 rfl) (f_mark_Check_spec a1 _ _ a2 _ hx4) (fun _ hs => (SrcE.old hs hX)) rfl ?_
  refine TL.run ft_mark_ok [3] rfl rfl ?_
  refine TL.nil (X.seq (T.seq (T.region rfl ?_)))
  refine TL.run ft_mark_ok [0, 1] rfl rfl ?_
  by_cases c5 : x3 = 0
  · replace h := ifT c5 h
    refine TL.nil (X.seq ?_)
    refine T.no rfl (bn_f (decide_eq_true c5)) ?_
    refine T.skip (X.seq (T.seq (T.region rfl ?_)))
    refine TL.run ft_mark_ok [0, 1] rfl rfl ?_
    refine TL.q rfl .u (Ex.lenS rfl Try.runUnderlying55) rfl ?_
    obtain ⟨st6, hx7, h⟩ := Option.bind_eq_some_iff.1 h
    refine TL.c0 rfl .u (.fn Try.call113 rfl) (gOInt_spec g st (a1.length : Int) 4 _ hx7) (fun _ hs => (Src.triv _)) rfl ?_
    refine TL.nil (X.seq (T.seq (T.region rfl ?_)))
    refine TL.run ft_mark_ok [0] rfl rfl ?_
    refine TL.q rfl .u (Ex.lenS rfl Try.runUnderlying55) rfl ?_
    refine TL.run ft_mark_ok [2] rfl rfl ?_
    refine TL.nil (X.seq (T.block ?_))
    obtain ⟨E10, hE11, hO12⟩ := Option.bind_eq_some_iff.1 h
    have hk16len := RX.len_le hX
    refine T.lp (fun m e Rs => ∃ (k8 : Nat) (st9 : List UInt8 × Int), k8 + m = a1.length ∧ e = [(0, .pointer (some ⟨g, 0, none⟩)), (2, .int .i64 a2), (21, .slice A1 a1.length c2), (22, .int .i64 (a1.length : Int)), (23, .int .i64 (k8 : Int))] ∧ Rs = [OutR g st9] ∧ f_mark_Write_l1 a2 (a1.drop k8) st9 = some E10) (a1.length) [0] ⟨0, st6, by simp, rfl, rfl, by rw [List.drop_zero]; exact hE11⟩ (by rfl) (by rfl) ?_
    rintro m13 _ _ ⟨k8, st9, hk16, rfl, rfl, hl15⟩
    clear hE11 h
    cases m13 with
    | zero =>
      have h := hl15
      clear hl15
      rw [List.drop_of_length_le (by omega), f_mark_Write_l1] at h
      have hk16ge : ¬ ((k8 : Int) < (a1.length : Int)) := by omega
      refine T.seq (T.region rfl ?_)
      refine TL.run ft_mark_ok [0] rfl rfl ?_
      refine TL.nil (X.seq (T.seq ?_))
      refine T.no rfl (decide_eq_false hk16ge) ?_
      obtain rfl := Option.some.inj h
      replace h := hO12
      clear hO12
      try dsimp only at h
      obtain rfl := Option.some.inj h
      exact T.exit (X.exs (X.exs (X.ex (X.done0 [0] Try.results39 ⟨rfl, rfl, rfl⟩ (by rfl) (.inr rfl)))))
    | succ m13 =>
      have h := hl15
      clear hl15
      obtain ⟨x14, hxx14⟩ : ∃ x, a1[k8]? = some x := ⟨_, List.getElem?_eq_getElem (by omega)⟩
      rw [drop_cons hxx14, f_mark_Write_l1] at h
      have hk16lt : (k8 : Int) < (a1.length : Int) := by omega
      refine T.seq (T.region rfl ?_)
      refine TL.run ft_mark_ok [0] rfl rfl ?_
      refine TL.nil (X.seq (T.seq ?_))
      refine T.yes rfl (decide_eq_true hk16lt) ?_
      obtain ⟨gz17, oz17, rfl, z17cs, z17cl, z17cc, z17nf, z17r⟩ := RX.elem (by decide) hX hxx14
      obtain ⟨z17S, z17r, z17rr⟩ := z17r
      obtain ⟨A18, c19, rfl, z17s0⟩ := z17r
      have hX20 : (RX.of (sliceRd 2 Top_rd) [.slice A18 x14.fTopics.length c19] x14.fTopics).reads w F := ⟨z17S, z17s0, z17rr⟩
      refine T.skip (X.seq (T.seq (T.block (T.seq (T.region rfl ?_)))))
      refine TL.q rfl .u (Ex.ixS (k := k8) rfl rfl rfl Try.runUnderlying55 Try.sizeOf70 (List.getElem?_eq_some_iff.1 hxx14).1) rfl ?_
      refine TL.q rfl .u (Ex.oS (us := [.int .i64 x14.fProducer, .int .i64 x14.fEpoch, .bool x14.fCommit, .slice A18 x14.fTopics.length c19, .int .i64 x14.fCoordinator]) 0 rfl Try.isAgg70 Try.sizeOf70 z17nf z17cc rfl rfl rfl) rfl ?_
      refine TL.alloc rfl .u Try.zeroValue70 rfl (fun b21 => ?_)
      refine TL.st0 (cs' := #[.int .i64 x14.fProducer, .int .i64 x14.fEpoch, .bool x14.fCommit, .slice A18 x14.fTopics.length c19, .int .i64 x14.fCoordinator]) rfl .u rfl rfl Try.sizeOf70 rfl rfl rfl rfl ?_
      refine TL.nil (X.seq (T.seq (T.region rfl ?_)))
      refine TL.run ft_mark_ok [0, 1] rfl rfl ?_
      refine TL.q rfl .u (Ex.b1 0 rfl Try.isAgg3 rfl rfl) rfl ?_
      obtain ⟨st22, hx23, h⟩ := Option.bind_eq_some_iff.1 h
      refine TL.c1 rfl .u (.fn Try.call113 rfl) (gOInt_spec g st9 x14.fProducer 8 _ hx23) (fun _ hs => (Src.triv _)) rfl ?_
      refine TL.nil (X.seq (T.seq (T.region rfl ?_)))
      refine TL.run ft_mark_ok [0, 1] rfl rfl ?_
      refine TL.q rfl .u (Ex.b1 0 rfl Try.isAgg3 rfl rfl) rfl ?_
      obtain ⟨st24, hx25, h⟩ := Option.bind_eq_some_iff.1 h
      refine TL.c1 rfl .u (.fn Try.call113 rfl) (gOInt_spec g st22 x14.fEpoch 2 _ hx25) (fun _ hs => (Src.triv _)) rfl ?_
      refine TL.nil (X.seq (T.seq (T.region rfl ?_)))
      refine TL.run ft_mark_ok [0, 1] rfl rfl ?_
      refine TL.q rfl .u (Ex.b1 0 rfl Try.isAgg4 rfl rfl) rfl ?_
      obtain ⟨st26, hx27, h⟩ := Option.bind_eq_some_iff.1 h
      refine TL.c1 rfl .u (.fn Try.call114 rfl) (f_txn_PutBool_spec g st24 x14.fCommit _ hx27) (fun _ hs => (Src.triv _)) rfl ?_
      refine TL.nil (X.seq (T.seq (T.region rfl ?_)))
      refine TL.run ft_mark_ok [0, 1] rfl rfl ?_
      refine TL.q rfl .u (Ex.b1 0 rfl Try.isAgg68 rfl rfl) rfl ?_
      obtain ⟨st28, hx29, h⟩ := Option.bind_eq_some_iff.1 h
      refine TL.c1 rfl .u (.fn Try.call115 rfl) (f_value_PutTopics_spec g st26 x14.fTopics _ _ _ hx29) (fun _ hs => (Src.old hs hX20)) rfl ?_
      refine TL.nil (X.seq (T.seq (T.region rfl ?_)))
      refine TL.run ft_mark_ok [0, 1] rfl rfl ?_
      refine TL.nil (X.seq ?_)
      obtain ⟨st33, h, hk34⟩ := Option.bind_eq_some_iff.1 h
      refine T.jq (fun e Rs => e = [(0, .pointer (some ⟨g, 0, none⟩)), (2, .int .i64 a2), (21, .slice (some ⟨gz17, oz17, none⟩) a1.length c2), (22, .int .i64 (a1.length : Int)), (23, .int .i64 (k8 : Int))] ∧ Rs = [BlkR b21 70 #[.int .i64 x14.fProducer, .int .i64 x14.fEpoch, .bool x14.fCommit, .slice A18 x14.fTopics.length c19, .int .i64 x14.fCoordinator], OutR g st33]) ?_ ?_
      · clear hk34
        by_cases c35 : a2 > 0
        · replace h := ifT c35 h
          refine T.yes rfl (decide_eq_true c35) ?_
          refine T.region rfl ?_
          refine TL.run ft_mark_ok [0, 1] rfl rfl ?_
          refine TL.q rfl .u (Ex.b1 0 rfl Try.isAgg3 rfl rfl) rfl ?_
          obtain ⟨st36, hx37, h⟩ := Option.bind_eq_some_iff.1 h
          refine TL.c1 rfl .u (.fn Try.call113 rfl) (gOInt_spec g st28 x14.fCoordinator 4 _ hx37) (fun _ hs => (Src.triv _)) rfl ?_
          cases h
          exact TL.nil (X.jq [0, 0] ⟨rfl, rfl⟩ (by rfl) (by rfl))
        · replace h := ifF c35 h
          refine T.no rfl (decide_eq_false c35) ?_
          cases h
          exact T.skip (X.jq [0, 0] ⟨rfl, rfl⟩ (by rfl) (by rfl))
      · rintro _ _ ⟨rfl, rfl⟩
        clear h
        have h := hk34
        clear hk34
        try dsimp only at h
        refine X.blk (X.seq (T.region rfl ?_))
        refine TL.q rfl .u (Ex.add rfl rfl (by omega)) rfl ?_
        refine TL.run ft_mark_ok [1] rfl rfl ?_
        exact TL.nil (X.back (m' := m13) [1] (by omega) ⟨k8 + 1, st33, by omega, rfl, rfl, h⟩ (by rfl) (by rfl))
  · replace h := ifF c5 h
    refine TL.nil (X.seq ?_)
    refine T.yes rfl (bn_t (decide_eq_false c5)) ?_
    refine T.seq (T.region rfl ?_)
    obtain ⟨st40, hx41, h⟩ := Option.bind_eq_some_iff.1 h
    refine TL.run ft_mark_ok [0, 1] rfl rfl ?_
    refine TL.c0 rfl .u (.fn Try.call101 rfl) (gOFail_spec g st x3 _ hx41) (fun _ hs => (Src.triv _)) rfl ?_
    obtain rfl := Option.some.inj h
    exact TL.nil (X.seq (T.ret (X.rs (X.done0 [0] Try.results39 ⟨rfl, rfl, rfl⟩ (by rfl) (.inl rfl)))))
def f_mark_Read_l1 (a1 : Int) (x1 : Int) : Nat → List MarkMark → List MarkMark → Nat → I → Option (Lp (List MarkMark × I) (List MarkMark × List MarkMark × Nat × I))
  | 0, _, _, _, _ => none
  | m15 + 1, y4, y7, k10, st11 => if (k10 : Int) < x1 then ((gInt st11 8).bind fun (x20, st21) => (gInt st21 2).bind fun (x23, st24) => (f_txn_Bool st24).bind fun (x26, st27) => (f_value_Topics st27).bind fun (x30, st33) => (if a1 > 0 then ((gInt st33 4).bind fun (x43, st44) => some (x43, st44)) else some (0, st33)).bind fun (y39, st40) => (gErr st40).bind fun (x46, st47) => if x46 = 0 then (if (y7.length + 1) * 56 ≤ 140737488355328 then (if -9223372036854775808 ≤ ((k10 : Int) + 1) ∧ ((k10 : Int) + 1) ≤ 9223372036854775807 then (f_mark_Read_l1 a1 x1 m15 y4 (y7 ++ [(⟨x20, x23, x26, x30, y39⟩ : MarkMark)]) (k10 + 1) st47) else none) else none) else (some (Lp.ret ([], st47)))) else (some (Lp.go (y4, y7, k10, st11)))
def f_mark_Read (st : I) (a1 : Int) : Option (List MarkMark × I) := (gCount st 4 15).bind fun (x1, st2) => (f_mark_Read_l1 a1 x1 ((x1).toNat + 1) [] [] 0 st2).bind fun e => match e with | .ret r => some r | .go (y64, y67, k70, st71) => ((gErr st71).bind fun (x72, st73) => if x72 = 0 then ((f_mark_Check y67 a1).bind fun x76 => if x76 = 0 then some (y67, st73) else ((gIFail st73 x76).bind fun st79 => some ([], st79))) else some ([], st73))
set_option maxRecDepth 100000 in
set_option maxHeartbeats 4000000 in
theorem f_mark_Read_spec (g : Nat) (st : I) (a1 : Int) (r : List MarkMark × I) (h : f_mark_Read st a1 = some r) : SpecX Try.prog 33 #[.pointer (some ⟨g, 0, none⟩), .int .i64 a1] .triv (InR g st) (fun v A' N => ∃ (A81 : Option Addr) (c82 : Nat), v = .slice A81 r.1.length c82 ∧ A' = InR g r.2 ∧ N = [RdR (sliceRd 5 MarkMark_rd) [.slice A81 r.1.length c82] r.1]) := by
  refine enterA Try.func33 rfl Try.ntmps33 rfl ?_
  intro F w hX
  unfold f_mark_Read at h
  refine T.seq (T.region rfl ?_)
  refine TL.run ft_mark_ok [0] rfl rfl ?_
  refine TL.nil (X.seq (T.seq (T.region rfl ?_)))
  refine TL.run ft_mark_ok [0] rfl rfl ?_
  refine TL.nil (X.seq (T.seq (T.seq (T.region rfl ?_))))
  obtain ⟨⟨x1, st2⟩, hx3, h⟩ := Option.bind_eq_some_iff.1 h
  try dsimp only at h
  refine TL.run ft_mark_ok [0] rfl rfl ?_
  refine TL.c0 rfl .u (.fn Try.call105 rfl) (gCount_spec g st 4 15 _ hx3) (fun _ hs => (Src.triv _)) rfl ?_
  refine TL.run ft_mark_ok [2] rfl rfl ?_
  refine TL.nil (X.seq (T.block ?_))
  refine T.nilrow 70 5 MarkMark_rd ?_
  refine T.nilrow 70 5 MarkMark_rd ?_
  obtain ⟨E12, hE13, hO14⟩ := Option.bind_eq_some_iff.1 h
  refine T.lp (fun m e Rs => ∃ (y4 : List MarkMark) (A5 : Option Addr) (c6 : Nat) (y7 : List MarkMark) (A8 : Option Addr) (c9 : Nat) (k10 : Nat) (st11 : I), e = [(0, .pointer (some ⟨g, 0, none⟩)), (1, .int .i64 a1), (4, .slice A5 y4.length c6), (5, .slice A8 y7.length c9), (9, .int .i64 x1), (10, .int .i64 (k10 : Int))] ∧ Rs = [OwnR 70 5 MarkMark_rd (.slice A5 y4.length c6) y4, OwnR 70 5 MarkMark_rd (.slice A8 y7.length c9) y7, InR g st11] ∧ f_mark_Read_l1 a1 x1 m y4 y7 k10 st11 = some E12) ((x1).toNat + 1) [0, 0, 0] ⟨[], none, 0, [], none, 0, 0, st2, rfl, rfl, by exact hE13⟩ (by rfl) (by rfl) ?_
  rintro m15 _ _ ⟨y4, A5, c6, y7, A8, c9, k10, st11, rfl, rfl, hl17⟩
  clear hE13 h
  cases m15 with
  | zero =>
    rw [f_mark_Read_l1] at hl17
    cases hl17
  | succ m15 =>
    have h := hl17
    clear hl17
    rw [f_mark_Read_l1] at h
    refine T.seq (T.region rfl ?_)
    refine TL.run ft_mark_ok [0] rfl rfl ?_
    by_cases c19 : (k10 : Int) < x1
    · replace h := ifT c19 h
      refine TL.nil (X.seq (T.seq ?_))
      refine T.yes rfl (decide_eq_true c19) ?_
      refine T.skip (X.seq (T.seq (T.block (T.seq (T.region rfl ?_)))))
      obtain ⟨⟨x20, st21⟩, hx22, h⟩ := Option.bind_eq_some_iff.1 h
      try dsimp only at h
      refine TL.run ft_mark_ok [0] rfl rfl ?_
      refine TL.c2 rfl .u (.fn Try.call83 rfl) (gInt_spec g st11 8 _ hx22) (fun _ hs => (Src.triv _)) rfl ?_
      obtain ⟨⟨x23, st24⟩, hx25, h⟩ := Option.bind_eq_some_iff.1 h
      try dsimp only at h
      refine TL.run ft_mark_ok [2] rfl rfl ?_
      refine TL.c2 rfl .u (.fn Try.call83 rfl) (gInt_spec g st21 2 _ hx25) (fun _ hs => (Src.triv _)) rfl ?_
      obtain ⟨⟨x26, st27⟩, hx28, h⟩ := Option.bind_eq_some_iff.1 h
      try dsimp only at h
      refine TL.run ft_mark_ok [4] rfl rfl ?_
      refine TL.c2 rfl .u (.fn Try.call106 rfl) (f_txn_Bool_spec g st24 _ hx28) (fun _ hs => (Src.triv _)) rfl ?_
      refine TL.q rfl .u (Ex.bld (cells := #[.int .i64 x20, .int .i64 x23, .bool x26, .slice none 0 0, .int .i64 0]) bok_mark_70 rfl (by kernel_rfl)) rfl ?_
      refine TL.alloc rfl .u Try.zeroValue70 rfl (fun b29 => ?_)
      refine TL.st0 (cs' := #[.int .i64 x20, .int .i64 x23, .bool x26, .slice none 0 0, .int .i64 0]) rfl .u rfl rfl Try.sizeOf70 rfl rfl rfl rfl ?_
      refine TL.nil (X.seq (T.seq (T.region rfl ?_)))
      obtain ⟨⟨x30, st33⟩, hx34, h⟩ := Option.bind_eq_some_iff.1 h
      try dsimp only at h
      refine TL.run ft_mark_ok [0] rfl rfl ?_
      refine TL.cg3 rfl .u (.fn Try.call107 rfl) (f_value_Topics_spec g st27 _ hx34) (fun _ hs => (Src.triv _)) rfl ?_
      rintro _ _ _ ⟨A31, c32, rfl, rfl, rfl⟩
      refine TL.sel [0, 0, 0, 0, 0] rfl ?_
      refine TL.run ft_mark_ok [2] rfl rfl ?_
      refine TL.st1 (cs' := #[.int .i64 x20, .int .i64 x23, .bool x26, .slice A31 x30.length c32, .int .i64 0]) rfl .u rfl rfl Try.sizeOf68 rfl rfl rfl rfl ?_
      refine TL.nil (X.seq (T.seq (T.seq (T.region rfl ?_))))
      refine TL.run ft_mark_ok [0, 1] rfl rfl ?_
      refine TL.nil (X.seq ?_)
      obtain ⟨⟨y39, st40⟩, h, hk41⟩ := Option.bind_eq_some_iff.1 h
      refine T.jq (fun e Rs => e = [(0, .pointer (some ⟨g, 0, none⟩)), (1, .int .i64 a1), (4, .slice A5 y4.length c6), (5, .slice A8 y7.length c9), (6, .pointer (some ⟨b29, 0, none⟩)), (9, .int .i64 x1), (10, .int .i64 (k10 : Int))] ∧ Rs = [RdR (sliceRd 2 Top_rd) [.slice A31 x30.length c32] x30, BlkR b29 70 #[.int .i64 x20, .int .i64 x23, .bool x26, .slice A31 x30.length c32, .int .i64 y39], OwnR 70 5 MarkMark_rd (.slice A5 y4.length c6) y4, OwnR 70 5 MarkMark_rd (.slice A8 y7.length c9) y7, InR g st40]) ?_ ?_
      · clear hk41
        by_cases c42 : a1 > 0
        · replace h := ifT c42 h
          refine T.yes rfl (decide_eq_true c42) ?_
          refine T.region rfl ?_
          obtain ⟨⟨x43, st44⟩, hx45, h⟩ := Option.bind_eq_some_iff.1 h
          try dsimp only at h
          refine TL.run ft_mark_ok [0] rfl rfl ?_
          refine TL.c4 rfl .u (.fn Try.call83 rfl) (gInt_spec g st33 4 _ hx45) (fun _ hs => (Src.triv _)) rfl ?_
          refine TL.run ft_mark_ok [2] rfl rfl ?_
          refine TL.st1 (cs' := #[.int .i64 x20, .int .i64 x23, .bool x26, .slice A31 x30.length c32, .int .i64 x43]) rfl .u rfl rfl Try.sizeOf3 rfl rfl rfl rfl ?_
          cases h
          exact TL.nil (X.jq [0, 0, 0, 0, 0] ⟨rfl, rfl⟩ (by rfl) (by rfl))
        · replace h := ifF c42 h
          refine T.no rfl (decide_eq_false c42) ?_
          cases h
          exact T.skip (X.jq [0, 0, 0, 0, 0] ⟨rfl, rfl⟩ (by rfl) (by rfl))
      · rintro _ _ ⟨rfl, rfl⟩
        clear h
        have h := hk41
        clear hk41
        try dsimp only at h
        refine X.seq (T.seq (T.seq (T.region rfl ?_)))
        obtain ⟨⟨x46, st47⟩, hx48, h⟩ := Option.bind_eq_some_iff.1 h
        try dsimp only at h
        refine TL.run ft_mark_ok [0] rfl rfl ?_
        refine TL.c4 rfl .u (.fn Try.call19 rfl) (gErr_spec g st40 _ hx48) (fun _ hs => (Src.triv _)) rfl ?_
        refine TL.run ft_mark_ok [2] rfl rfl ?_
        by_cases c49 : x46 = 0
        · replace h := ifT c49 h
          refine TL.nil (X.seq ?_)
          refine T.no rfl (bn_f (decide_eq_true c49)) ?_
          refine T.skip (X.seq (T.region rfl ?_))
          refine TL.run ft_mark_ok [0] rfl rfl ?_
          refine TL.q rfl .u (Ex.bS (us := [.int .i64 x20, .int .i64 x23, .bool x26, .slice A31 x30.length c32, .int .i64 y39]) 1 rfl Try.isAgg70 Try.sizeOf70 rfl rfl rfl) rfl ?_
          refine TL.lit (cells := #[.int .i64 x20, .int .i64 x23, .bool x26, .slice A31 x30.length c32, .int .i64 y39]) rfl .u sok_mark_55_1 rfl (by rfl) rfl (fun b50 => ?_)
          replace h := guard_some h
          obtain ⟨c51, h⟩ := h
          refine TL.app2 3 0 rfl .u (us := [.int .i64 x20, .int .i64 x23, .bool x26, .slice A31 x30.length c32, .int .i64 y39]) (u := (⟨x20, x23, x26, x30, y39⟩ : MarkMark)) (l := y7) (E := MarkMark_rd) Try.underlying55 inf_mark_70 rfl (by decide) rfl rfl rfl rfl rfl rfl rfl (fun w G hG => ⟨_, _, rfl, hG.1⟩) (by have hq := c51; omega) (by have hq := c51; omega) rfl (fun A52 c53 => ?_)
          refine TL.sel [0, 0, 0, 0] rfl ?_
          refine TL.run ft_mark_ok [4] rfl rfl ?_
          replace h := guard_some h
          obtain ⟨c54, h⟩ := h
          refine TL.nil (X.blk (X.seq (T.region rfl ?_)))
          refine TL.q rfl .u (Ex.add rfl rfl c54) rfl ?_
          refine TL.run ft_mark_ok [1] rfl rfl ?_
          exact TL.nil (X.back (m' := m15) [2, 0, 1] (by omega) ⟨y4, A5, c6, (y7 ++ [(⟨x20, x23, x26, x30, y39⟩ : MarkMark)]), A52, c53, k10 + 1, st47, rfl, rfl, h⟩ (by rfl) (by rfl))
        · replace h := ifF c49 h
          refine TL.nil (X.seq ?_)
          refine T.yes rfl (bn_t (decide_eq_false c49)) ?_
          refine T.seq (T.region rfl ?_)
          refine TL.run ft_mark_ok [0] rfl rfl ?_
          obtain rfl := Option.some.inj h
          replace h := hO14
          clear hO14
          try dsimp only at h
          obtain rfl := Option.some.inj h
          refine TL.nil (X.seq (T.ret (X.rs (X.rb (X.rs (X.rs (X.rb (X.rs ?_))))))))
          refine X.nilrd 5 MarkMark_rd ?_
          exact X.done1 [5, 0] Try.results33 (RV.tm rfl) ⟨_, _, rfl, rfl, rfl⟩ (by rfl) (.inl rfl)
    · replace h := ifF c19 h
      refine TL.nil (X.seq (T.seq ?_))
      refine T.no rfl (decide_eq_false c19) ?_
      obtain rfl := Option.some.inj h
      replace h := hO14
      clear hO14
      try dsimp only at h
      refine T.exit (X.exs (X.exs (X.ex (X.seq (T.seq (T.seq (T.region rfl ?_)))))))
      obtain ⟨⟨x55, st56⟩, hx57, h⟩ := Option.bind_eq_some_iff.1 h
      try dsimp only at h
      refine TL.run ft_mark_ok [0] rfl rfl ?_
      refine TL.c2 rfl .u (.fn Try.call19 rfl) (gErr_spec g st11 _ hx57) (fun _ hs => (Src.triv _)) rfl ?_
      refine TL.run ft_mark_ok [2] rfl rfl ?_
      by_cases c58 : x55 = 0
      · replace h := ifT c58 h
        refine TL.nil (X.seq ?_)
        refine T.no rfl (bn_f (decide_eq_true c58)) ?_
        refine T.skip (X.seq (T.seq (T.seq (T.region rfl ?_))))
        obtain ⟨x59, hx60, h⟩ := Option.bind_eq_some_iff.1 h
        refine TL.run ft_mark_ok [0, 1] rfl rfl ?_
        refine TL.ce rfl .u (.fn Try.call41 rfl) (f_mark_Check_spec y7 _ _ a1 _ hx60) (fun _ hs => (SrcE.res 1 hs rfl (fun w G h => own_reads (by decide) w G h))) rfl ?_
        refine TL.run ft_mark_ok [3] rfl rfl ?_
        refine TL.nil (X.seq (T.seq (T.region rfl ?_)))
        refine TL.run ft_mark_ok [0, 1] rfl rfl ?_
        by_cases c61 : x59 = 0
        · replace h := ifT c61 h
          refine TL.nil (X.seq ?_)
          refine T.no rfl (bn_f (decide_eq_true c61)) ?_
          refine T.skip (X.seq (T.seq (T.region rfl ?_)))
          refine TL.run ft_mark_ok [0, 1] rfl rfl ?_
          obtain rfl := Option.some.inj h
          refine TL.nil (X.seq (T.ret ?_))
          refine X.shut (by decide) 1 rfl ?_
          refine X.sel [0, 0, 0] rfl ?_
          exact X.done1 [2, 1] Try.results33 (RV.tm rfl) ⟨_, _, rfl, rfl, rfl⟩ (by rfl) (.inl rfl)
        · replace h := ifF c61 h
          refine TL.nil (X.seq ?_)
          refine T.yes rfl (bn_t (decide_eq_false c61)) ?_
          refine T.seq (T.region rfl ?_)
          obtain ⟨st62, hx63, h⟩ := Option.bind_eq_some_iff.1 h
          refine TL.run ft_mark_ok [0, 1] rfl rfl ?_
          refine TL.c2 rfl .u (.fn Try.call84 rfl) (gIFail_spec g st56 x59 _ hx63) (fun _ hs => (Src.triv _)) rfl ?_
          refine TL.nil (X.seq (T.seq (T.region rfl ?_)))
          refine TL.run ft_mark_ok [0] rfl rfl ?_
          obtain rfl := Option.some.inj h
          refine TL.nil (X.seq (T.ret (X.rs ?_)))
          refine X.nilrd 5 MarkMark_rd ?_
          exact X.done1 [3, 0] Try.results33 (RV.tm rfl) ⟨_, _, rfl, rfl, rfl⟩ (by rfl) (.inl rfl)
      · replace h := ifF c58 h
        refine TL.nil (X.seq ?_)
        refine T.yes rfl (bn_t (decide_eq_false c58)) ?_
        refine T.seq (T.region rfl ?_)
        refine TL.run ft_mark_ok [0] rfl rfl ?_
        obtain rfl := Option.some.inj h
        refine TL.nil (X.seq (T.ret (X.rs ?_)))
        refine X.nilrd 5 MarkMark_rd ?_
        exact X.done1 [3, 0] Try.results33 (RV.tm rfl) ⟨_, _, rfl, rfl, rfl⟩ (by rfl) (.inl rfl)
def f_mark_Same (a0 : MarkMark) (a1 : MarkMark) : Option (Bool) := (if a0.fProducer = a1.fProducer then (if a0.fEpoch = a1.fEpoch then (if a0.fCommit = true then (if a1.fCommit = true then (if a0.fCoordinator = a1.fCoordinator then ((f_value_SameTopics a0.fTopics a1.fTopics).bind fun x25 => some x25) else some false) else some false) else (if a1.fCommit = true then some false else (if a0.fCoordinator = a1.fCoordinator then ((f_value_SameTopics a0.fTopics a1.fTopics).bind fun x29 => some x29) else some false))) else some false) else some false).bind fun y18 => some y18
set_option maxRecDepth 100000 in
set_option maxHeartbeats 4000000 in
theorem f_mark_Same_spec (a0 : MarkMark) (A1 : Option Addr) (c2 : Nat) (a1 : MarkMark) (A3 : Option Addr) (c4 : Nat) (r : Bool) (h : f_mark_Same a0 a1 = some r) : SpecX Try.prog 43 #[.agg #[.int .i64 a0.fProducer, .int .i64 a0.fEpoch, .bool a0.fCommit, .slice A1 a0.fTopics.length c2, .int .i64 a0.fCoordinator], .agg #[.int .i64 a1.fProducer, .int .i64 a1.fEpoch, .bool a1.fCommit, .slice A3 a1.fTopics.length c4, .int .i64 a1.fCoordinator]] (RX.and (RX.of (sliceRd 2 Top_rd) [.slice A1 a0.fTopics.length c2] a0.fTopics) (RX.of (sliceRd 2 Top_rd) [.slice A3 a1.fTopics.length c4] a1.fTopics)) (EmpR) (fun v A' N => v = .bool r ∧ A' = EmpR ∧ N = []) := by
  refine enterA Try.func43 rfl Try.ntmps43 rfl ?_
  intro F w hX
  unfold f_mark_Same at h
  refine T.seq (T.region rfl ?_)
  refine TL.box rfl .u rfl rfl (fun b5 => ?_)
  refine TL.box rfl .u rfl rfl (fun b6 => ?_)
  refine TL.run ft_mark_ok [2] rfl rfl ?_
  refine TL.nil (X.seq (T.seq ?_))
  obtain ⟨y18, h, hk19⟩ := Option.bind_eq_some_iff.1 h
  refine T.jq (fun e Rs => e = [(4, .bool y18)] ∧ Rs = [BlkR b6 70 #[.int .i64 a1.fProducer, .int .i64 a1.fEpoch, .bool a1.fCommit, .slice A3 a1.fTopics.length c4, .int .i64 a1.fCoordinator], BlkR b5 70 #[.int .i64 a0.fProducer, .int .i64 a0.fEpoch, .bool a0.fCommit, .slice A1 a0.fTopics.length c2, .int .i64 a0.fCoordinator], EmpR]) ?_ ?_
  · clear hk19
    refine T.region rfl ?_
    refine TL.run ft_mark_ok [0] rfl rfl ?_
    refine TL.q rfl .u (Ex.b1 1 rfl Try.isAgg3 rfl rfl) rfl ?_
    refine TL.run ft_mark_ok [2] rfl rfl ?_
    refine TL.q rfl .u (Ex.b1 0 rfl Try.isAgg3 rfl rfl) rfl ?_
    by_cases c20 : a0.fProducer = a1.fProducer
    · replace h := ifT c20 h
      refine TL.run ft_mark_ok [4, 5] rfl rfl ?_
      refine TL.q rfl (.g rfl rfl (decide_eq_true c20)) (Ex.ft ft_mark_ok rfl) rfl ?_
      refine TL.q rfl (.g rfl rfl (decide_eq_true c20)) (Ex.b1 1 rfl Try.isAgg3 rfl rfl) rfl ?_
      refine TL.q rfl (.g rfl rfl (decide_eq_true c20)) (Ex.ft ft_mark_ok rfl) rfl ?_
      refine TL.q rfl (.g rfl rfl (decide_eq_true c20)) (Ex.b1 0 rfl Try.isAgg3 rfl rfl) rfl ?_
      refine TL.q rfl (.g rfl rfl (decide_eq_true c20)) (Ex.ft ft_mark_ok rfl) rfl ?_
      refine TL.q rfl .u (Ex.py rfl (decide_eq_true c20) rfl) rfl ?_
      by_cases c21 : a0.fEpoch = a1.fEpoch
      · replace h := ifT c21 h
        refine TL.run ft_mark_ok [12] rfl rfl ?_
        refine TL.q rfl (.g rfl rfl (decide_eq_true c21)) (Ex.ft ft_mark_ok rfl) rfl ?_
        refine TL.q rfl (.g rfl rfl (decide_eq_true c21)) (Ex.b1 1 rfl Try.isAgg4 rfl rfl) rfl ?_
        refine TL.q rfl (.g rfl rfl (decide_eq_true c21)) (Ex.ft ft_mark_ok rfl) rfl ?_
        refine TL.q rfl (.g rfl rfl (decide_eq_true c21)) (Ex.b1 0 rfl Try.isAgg4 rfl rfl) rfl ?_
        by_cases c22 : a0.fCommit = true
        · replace h := ifT c22 h
          by_cases c23 : a1.fCommit = true
          · replace h := ifT c23 h
            refine TL.q rfl (.g rfl rfl (decide_eq_true c21)) (Ex.bEq rfl c22 rfl c23 Try.runUnderlying4) rfl ?_
            refine TL.q rfl .u (Ex.py rfl (decide_eq_true c21) rfl) rfl ?_
            refine TL.run ft_mark_ok [19] rfl rfl ?_
            refine TL.q rfl (.g rfl rfl rfl) (Ex.ft ft_mark_ok rfl) rfl ?_
            refine TL.q rfl (.g rfl rfl rfl) (Ex.b1 1 rfl Try.isAgg3 rfl rfl) rfl ?_
            refine TL.q rfl (.g rfl rfl rfl) (Ex.ft ft_mark_ok rfl) rfl ?_
            refine TL.q rfl (.g rfl rfl rfl) (Ex.b1 0 rfl Try.isAgg3 rfl rfl) rfl ?_
            refine TL.q rfl (.g rfl rfl rfl) (Ex.ft ft_mark_ok rfl) rfl ?_
            refine TL.q rfl .u (Ex.py rfl rfl rfl) rfl ?_
            by_cases c24 : a0.fCoordinator = a1.fCoordinator
            · replace h := ifT c24 h
              refine TL.run ft_mark_ok [26] rfl rfl ?_
              refine TL.q rfl (.g rfl rfl (decide_eq_true c24)) (Ex.ft ft_mark_ok rfl) rfl ?_
              refine TL.q rfl (.g rfl rfl (decide_eq_true c24)) (Ex.b1 1 rfl Try.isAgg68 rfl rfl) rfl ?_
              refine TL.q rfl (.g rfl rfl (decide_eq_true c24)) (Ex.ft ft_mark_ok rfl) rfl ?_
              refine TL.q rfl (.g rfl rfl (decide_eq_true c24)) (Ex.b1 0 rfl Try.isAgg68 rfl rfl) rfl ?_
              obtain ⟨x25, hx26, h⟩ := Option.bind_eq_some_iff.1 h
              refine TL.ce rfl (.g rfl rfl (decide_eq_true c24)) (.fn Try.call119 rfl) (f_value_SameTopics_spec a0.fTopics _ _ a1.fTopics _ _ _ hx26) (fun _ hs => (RX.reads_and (SrcE.old hs (RX.reads_left hX)) (SrcE.old hs (RX.reads_right hX)))) rfl ?_
              refine TL.q rfl .u (Ex.py rfl (decide_eq_true c24) rfl) rfl ?_
              refine TL.run ft_mark_ok [33] rfl rfl ?_
              cases h
              exact TL.nil (X.jq [0, 0, 0] ⟨rfl, rfl⟩ (by rfl) (by rfl))
            · replace h := ifF c24 h
              refine TL.run ft_mark_ok [26] rfl rfl ?_
              refine TL.no rfl (.gn rfl rfl (decide_eq_false c24)) rfl ?_
              refine TL.no rfl (.gn rfl rfl (decide_eq_false c24)) rfl ?_
              refine TL.no rfl (.gn rfl rfl (decide_eq_false c24)) rfl ?_
              refine TL.no rfl (.gn rfl rfl (decide_eq_false c24)) rfl ?_
              refine TL.no rfl (.gn rfl rfl (decide_eq_false c24)) rfl ?_
              refine TL.q rfl .u (Ex.pn rfl (decide_eq_false c24) rfl) rfl ?_
              refine TL.run ft_mark_ok [33] rfl rfl ?_
              cases h
              exact TL.nil (X.jq [0, 0, 0] ⟨rfl, rfl⟩ (by rfl) (by rfl))
          · replace h := ifF c23 h
            replace c23 := eq_false_of_ne_true c23
            refine TL.q rfl (.g rfl rfl (decide_eq_true c21)) (Ex.bEq rfl c22 rfl c23 Try.runUnderlying4) rfl ?_
            refine TL.q rfl .u (Ex.py rfl (decide_eq_true c21) rfl) rfl ?_
            refine TL.run ft_mark_ok [19] rfl rfl ?_
            refine TL.no rfl (.gn rfl rfl rfl) rfl ?_
            refine TL.no rfl (.gn rfl rfl rfl) rfl ?_
            refine TL.no rfl (.gn rfl rfl rfl) rfl ?_
            refine TL.no rfl (.gn rfl rfl rfl) rfl ?_
            refine TL.no rfl (.gn rfl rfl rfl) rfl ?_
            refine TL.q rfl .u (Ex.pn rfl rfl rfl) rfl ?_
            refine TL.run ft_mark_ok [26] rfl rfl ?_
            refine TL.no rfl (.gn rfl rfl rfl) rfl ?_
            refine TL.no rfl (.gn rfl rfl rfl) rfl ?_
            refine TL.no rfl (.gn rfl rfl rfl) rfl ?_
            refine TL.no rfl (.gn rfl rfl rfl) rfl ?_
            refine TL.no rfl (.gn rfl rfl rfl) rfl ?_
            refine TL.q rfl .u (Ex.pn rfl rfl rfl) rfl ?_
            refine TL.run ft_mark_ok [33] rfl rfl ?_
            cases h
            exact TL.nil (X.jq [0, 0, 0] ⟨rfl, rfl⟩ (by rfl) (by rfl))
        · replace h := ifF c22 h
          replace c22 := eq_false_of_ne_true c22
          by_cases c27 : a1.fCommit = true
          · replace h := ifT c27 h
            refine TL.q rfl (.g rfl rfl (decide_eq_true c21)) (Ex.bEq rfl c22 rfl c27 Try.runUnderlying4) rfl ?_
            refine TL.q rfl .u (Ex.py rfl (decide_eq_true c21) rfl) rfl ?_
            refine TL.run ft_mark_ok [19] rfl rfl ?_
            refine TL.no rfl (.gn rfl rfl rfl) rfl ?_
            refine TL.no rfl (.gn rfl rfl rfl) rfl ?_
            refine TL.no rfl (.gn rfl rfl rfl) rfl ?_
            refine TL.no rfl (.gn rfl rfl rfl) rfl ?_
            refine TL.no rfl (.gn rfl rfl rfl) rfl ?_
            refine TL.q rfl .u (Ex.pn rfl rfl rfl) rfl ?_
            refine TL.run ft_mark_ok [26] rfl rfl ?_
            refine TL.no rfl (.gn rfl rfl rfl) rfl ?_
            refine TL.no rfl (.gn rfl rfl rfl) rfl ?_
            refine TL.no rfl (.gn rfl rfl rfl) rfl ?_
            refine TL.no rfl (.gn rfl rfl rfl) rfl ?_
            refine TL.no rfl (.gn rfl rfl rfl) rfl ?_
            refine TL.q rfl .u (Ex.pn rfl rfl rfl) rfl ?_
            refine TL.run ft_mark_ok [33] rfl rfl ?_
            cases h
            exact TL.nil (X.jq [0, 0, 0] ⟨rfl, rfl⟩ (by rfl) (by rfl))
          · replace h := ifF c27 h
            replace c27 := eq_false_of_ne_true c27
            refine TL.q rfl (.g rfl rfl (decide_eq_true c21)) (Ex.bEq rfl c22 rfl c27 Try.runUnderlying4) rfl ?_
            refine TL.q rfl .u (Ex.py rfl (decide_eq_true c21) rfl) rfl ?_
            refine TL.run ft_mark_ok [19] rfl rfl ?_
            refine TL.q rfl (.g rfl rfl rfl) (Ex.ft ft_mark_ok rfl) rfl ?_
            refine TL.q rfl (.g rfl rfl rfl) (Ex.b1 1 rfl Try.isAgg3 rfl rfl) rfl ?_
            refine TL.q rfl (.g rfl rfl rfl) (Ex.ft ft_mark_ok rfl) rfl ?_
            refine TL.q rfl (.g rfl rfl rfl) (Ex.b1 0 rfl Try.isAgg3 rfl rfl) rfl ?_
            refine TL.q rfl (.g rfl rfl rfl) (Ex.ft ft_mark_ok rfl) rfl ?_
            refine TL.q rfl .u (Ex.py rfl rfl rfl) rfl ?_
            by_cases c28 : a0.fCoordinator = a1.fCoordinator
            · replace h := ifT c28 h
              refine TL.run ft_mark_ok [26] rfl rfl ?_
              refine TL.q rfl (.g rfl rfl (decide_eq_true c28)) (Ex.ft ft_mark_ok rfl) rfl ?_
              refine TL.q rfl (.g rfl rfl (decide_eq_true c28)) (Ex.b1 1 rfl Try.isAgg68 rfl rfl) rfl ?_
              refine TL.q rfl (.g rfl rfl (decide_eq_true c28)) (Ex.ft ft_mark_ok rfl) rfl ?_
              refine TL.q rfl (.g rfl rfl (decide_eq_true c28)) (Ex.b1 0 rfl Try.isAgg68 rfl rfl) rfl ?_
              obtain ⟨x29, hx30, h⟩ := Option.bind_eq_some_iff.1 h
              refine TL.ce rfl (.g rfl rfl (decide_eq_true c28)) (.fn Try.call119 rfl) (f_value_SameTopics_spec a0.fTopics _ _ a1.fTopics _ _ _ hx30) (fun _ hs => (RX.reads_and (SrcE.old hs (RX.reads_left hX)) (SrcE.old hs (RX.reads_right hX)))) rfl ?_
              refine TL.q rfl .u (Ex.py rfl (decide_eq_true c28) rfl) rfl ?_
              refine TL.run ft_mark_ok [33] rfl rfl ?_
              cases h
              exact TL.nil (X.jq [0, 0, 0] ⟨rfl, rfl⟩ (by rfl) (by rfl))
            · replace h := ifF c28 h
              refine TL.run ft_mark_ok [26] rfl rfl ?_
              refine TL.no rfl (.gn rfl rfl (decide_eq_false c28)) rfl ?_
              refine TL.no rfl (.gn rfl rfl (decide_eq_false c28)) rfl ?_
              refine TL.no rfl (.gn rfl rfl (decide_eq_false c28)) rfl ?_
              refine TL.no rfl (.gn rfl rfl (decide_eq_false c28)) rfl ?_
              refine TL.no rfl (.gn rfl rfl (decide_eq_false c28)) rfl ?_
              refine TL.q rfl .u (Ex.pn rfl (decide_eq_false c28) rfl) rfl ?_
              refine TL.run ft_mark_ok [33] rfl rfl ?_
              cases h
              exact TL.nil (X.jq [0, 0, 0] ⟨rfl, rfl⟩ (by rfl) (by rfl))
      · replace h := ifF c21 h
        refine TL.run ft_mark_ok [12] rfl rfl ?_
        refine TL.no rfl (.gn rfl rfl (decide_eq_false c21)) rfl ?_
        refine TL.no rfl (.gn rfl rfl (decide_eq_false c21)) rfl ?_
        refine TL.no rfl (.gn rfl rfl (decide_eq_false c21)) rfl ?_
        refine TL.no rfl (.gn rfl rfl (decide_eq_false c21)) rfl ?_
        refine TL.no rfl (.gn rfl rfl (decide_eq_false c21)) rfl ?_
        refine TL.q rfl .u (Ex.pn rfl (decide_eq_false c21) rfl) rfl ?_
        refine TL.run ft_mark_ok [19] rfl rfl ?_
        refine TL.no rfl (.gn rfl rfl rfl) rfl ?_
        refine TL.no rfl (.gn rfl rfl rfl) rfl ?_
        refine TL.no rfl (.gn rfl rfl rfl) rfl ?_
        refine TL.no rfl (.gn rfl rfl rfl) rfl ?_
        refine TL.no rfl (.gn rfl rfl rfl) rfl ?_
        refine TL.q rfl .u (Ex.pn rfl rfl rfl) rfl ?_
        refine TL.run ft_mark_ok [26] rfl rfl ?_
        refine TL.no rfl (.gn rfl rfl rfl) rfl ?_
        refine TL.no rfl (.gn rfl rfl rfl) rfl ?_
        refine TL.no rfl (.gn rfl rfl rfl) rfl ?_
        refine TL.no rfl (.gn rfl rfl rfl) rfl ?_
        refine TL.no rfl (.gn rfl rfl rfl) rfl ?_
        refine TL.q rfl .u (Ex.pn rfl rfl rfl) rfl ?_
        refine TL.run ft_mark_ok [33] rfl rfl ?_
        cases h
        exact TL.nil (X.jq [0, 0, 0] ⟨rfl, rfl⟩ (by rfl) (by rfl))
    · replace h := ifF c20 h
      refine TL.run ft_mark_ok [4, 5] rfl rfl ?_
      refine TL.no rfl (.gn rfl rfl (decide_eq_false c20)) rfl ?_
      refine TL.no rfl (.gn rfl rfl (decide_eq_false c20)) rfl ?_
      refine TL.no rfl (.gn rfl rfl (decide_eq_false c20)) rfl ?_
      refine TL.no rfl (.gn rfl rfl (decide_eq_false c20)) rfl ?_
      refine TL.no rfl (.gn rfl rfl (decide_eq_false c20)) rfl ?_
      refine TL.q rfl .u (Ex.pn rfl (decide_eq_false c20) rfl) rfl ?_
      refine TL.run ft_mark_ok [12] rfl rfl ?_
      refine TL.no rfl (.gn rfl rfl rfl) rfl ?_
      refine TL.no rfl (.gn rfl rfl rfl) rfl ?_
      refine TL.no rfl (.gn rfl rfl rfl) rfl ?_
      refine TL.no rfl (.gn rfl rfl rfl) rfl ?_
      refine TL.no rfl (.gn rfl rfl rfl) rfl ?_
      refine TL.q rfl .u (Ex.pn rfl rfl rfl) rfl ?_
      refine TL.run ft_mark_ok [19] rfl rfl ?_
      refine TL.no rfl (.gn rfl rfl rfl) rfl ?_
      refine TL.no rfl (.gn rfl rfl rfl) rfl ?_
      refine TL.no rfl (.gn rfl rfl rfl) rfl ?_
      refine TL.no rfl (.gn rfl rfl rfl) rfl ?_
      refine TL.no rfl (.gn rfl rfl rfl) rfl ?_
      refine TL.q rfl .u (Ex.pn rfl rfl rfl) rfl ?_
      refine TL.run ft_mark_ok [26] rfl rfl ?_
      refine TL.no rfl (.gn rfl rfl rfl) rfl ?_
      refine TL.no rfl (.gn rfl rfl rfl) rfl ?_
      refine TL.no rfl (.gn rfl rfl rfl) rfl ?_
      refine TL.no rfl (.gn rfl rfl rfl) rfl ?_
      refine TL.no rfl (.gn rfl rfl rfl) rfl ?_
      refine TL.q rfl .u (Ex.pn rfl rfl rfl) rfl ?_
      refine TL.run ft_mark_ok [33] rfl rfl ?_
      cases h
      exact TL.nil (X.jq [0, 0, 0] ⟨rfl, rfl⟩ (by rfl) (by rfl))
  · rintro _ _ ⟨rfl, rfl⟩
    clear h
    have h := hk19
    clear hk19
    try dsimp only at h
    obtain rfl := Option.some.inj h
    exact X.seq (T.ret (X.done1 [2] Try.results43 (RV.tm rfl) ⟨rfl, rfl, rfl⟩ (by rfl) (.inl rfl)))
end Go.Proofs.Ytagbblaegdedpaa.Sl
