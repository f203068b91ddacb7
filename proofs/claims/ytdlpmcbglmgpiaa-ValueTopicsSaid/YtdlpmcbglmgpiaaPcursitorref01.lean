/- Printed by g2.py: package cursitorref01. -/
import Derived.Test.YtdlpmcbglmgpiaaGb
import Derived.Test.YtdlpmcbglmgpiaaNg
namespace Go.Proofs.Ytdlpmcbglmgpiaa.Sl
open Go.RowKit
set_option linter.unusedVariables false
set_option linter.unusedSimpArgs false
set_option maxRecDepth 100000
def ft_cursitorref01 : FTab := []
theorem ft_cursitorref01_ok : (ft_cursitorref01).OK Try.prog := trivial
theorem mix_cursitorref01 : Try.prog.follows .mixedOrders = true := by kernel_rfl
def f_r01_Same_l1 (a0 : List Int) (a1 : List Int) : Nat → Bool → Nat → Option (Lp Bool (Bool × Nat))
  | 0, _, _ => none
  | m11 + 1, y6, k7 => if (k7 : Int) < (a0.length : Int) then ((a0[k7]?).bind fun x16 => (a1[k7]?).bind fun x19 => if x16 = x19 then (if -9223372036854775808 ≤ ((k7 : Int) + 1) ∧ ((k7 : Int) + 1) ≤ 9223372036854775807 then (f_r01_Same_l1 a0 a1 m11 y6 (k7 + 1)) else none) else some (Lp.ret false)) else (some (Lp.go (y6, k7)))
def f_r01_Same (a0 : List Int) (a1 : List Int) : Option (Bool) := if (a0.length : Int) = (a1.length : Int) then ((f_r01_Same_l1 a0 a1 (((a0.length : Int)).toNat + 1) false 0).bind fun e => match e with | .ret r => some r | .go (y24, k25) => some true) else some false
set_option maxRecDepth 100000 in
set_option maxHeartbeats 4000000 in
theorem f_r01_Same_spec (a0 : List Int) (A1 : Option Addr) (c2 : Nat) (a1 : List Int) (A3 : Option Addr) (c4 : Nat) (r : Bool) (h : f_r01_Same a0 a1 = some r) : SpecX Try.prog 114 #[.slice A1 a0.length c2, .slice A3 a1.length c4] (RX.and (RX.of (sliceRd 1 intE) [.slice A1 a0.length c2] a0) (RX.of (sliceRd 1 intE) [.slice A3 a1.length c4] a1)) (EmpR) (fun v A' N => v = .bool r ∧ A' = EmpR ∧ N = []) := by
  refine enterA Try.func114 rfl Try.ntmps114 rfl ?_
  intro F w hX
  unfold f_r01_Same at h
  refine T.seq (T.region rfl ?_)
  refine TL.run ft_cursitorref01_ok [0] rfl rfl ?_
  refine TL.nil (X.seq (T.seq (T.seq (T.region rfl ?_))))
  refine TL.run ft_cursitorref01_ok [0] rfl rfl ?_
  refine TL.q rfl .u (Ex.lenS rfl Try.runUnderlying102) rfl ?_
  refine TL.run ft_cursitorref01_ok [2] rfl rfl ?_
  refine TL.q rfl .u (Ex.lenS rfl Try.runUnderlying102) rfl ?_
  refine TL.run ft_cursitorref01_ok [4] rfl rfl ?_
  by_cases c5 : (a0.length : Int) = (a1.length : Int)
  · replace h := ifT c5 h
    refine TL.nil (X.seq ?_)
    refine T.no rfl (bn_f (decide_eq_true c5)) ?_
    refine T.skip (X.seq (T.seq (T.seq (T.region rfl ?_))))
    refine TL.run ft_cursitorref01_ok [0] rfl rfl ?_
    refine TL.nil (X.seq (T.block ?_))
    obtain ⟨E8, hE9, hO10⟩ := Option.bind_eq_some_iff.1 h
    refine T.lp (fun m e Rs => ∃ (y6 : Bool) (k7 : Nat), e = [(0, .slice A1 a0.length c2), (1, .slice A3 a1.length c4), (4, .bool y6), (5, .int .i64 (k7 : Int))] ∧ Rs = [EmpR] ∧ f_r01_Same_l1 a0 a1 m y6 k7 = some E8) (((a0.length : Int)).toNat + 1) [0] ⟨false, 0, rfl, rfl, by exact hE9⟩ (by rfl) (by rfl) ?_
    rintro m11 _ _ ⟨y6, k7, rfl, rfl, hl13⟩
    clear hE9 h
    cases m11 with
    | zero =>
      rw [f_r01_Same_l1] at hl13
      cases hl13
    | succ m11 =>
      have h := hl13
      clear hl13
      rw [f_r01_Same_l1] at h
      refine T.seq (T.seq (T.region rfl ?_))
      refine TL.run ft_cursitorref01_ok [0, 1] rfl rfl ?_
      refine TL.q rfl .u (Ex.lenS rfl Try.runUnderlying102) rfl ?_
      refine TL.run ft_cursitorref01_ok [3] rfl rfl ?_
      by_cases c15 : (k7 : Int) < (a0.length : Int)
      · replace h := ifT c15 h
        refine TL.nil (X.seq ?_)
        refine T.yes rfl (decide_eq_true c15) ?_
        refine T.skip (X.seq (T.seq (T.block (T.seq (T.draw (.q 0 (.q 1 (.q 2 (.q 3 (.q 4 (.q 5 (.q 6 (.q 7 (.q 8 .nil))))))))) [0] rfl mix_cursitorref01 (NoP.seq (NoP.blk (NoP.seq (NoP.seq (NoP.blk (NoP.seq np_post)))))) (by kernel_rfl) ?_)))))
        obtain ⟨x16, hx17, h⟩ := Option.bind_eq_some_iff.1 h
        obtain ⟨gz18, oz18, rfl, z18cs, z18cl, z18cc, z18nf, z18r⟩ := RX.elem (by decide) (RX.reads_left hX) hx17
        obtain ⟨z18S, z18r, z18rr⟩ := z18r
        obtain rfl : z18cs = [.int .i64 x16] := z18r
        refine TD.run ft_cursitorref01_ok [0, 1] rfl rfl ?_
        refine TD.q rfl .u (Ex.ixS (k := k7) rfl rfl rfl Try.runUnderlying102 Try.sizeOf3 (List.getElem?_eq_some_iff.1 hx17).1) rfl ?_
        refine TD.q rfl .u (Ex.o1 0 rfl Try.isAgg3 z18nf z18cc rfl rfl) rfl ?_
        obtain ⟨x19, hx20, h⟩ := Option.bind_eq_some_iff.1 h
        obtain ⟨gz21, oz21, rfl, z21cs, z21cl, z21cc, z21nf, z21r⟩ := RX.elem (by decide) (RX.reads_right hX) hx20
        obtain ⟨z21S, z21r, z21rr⟩ := z21r
        obtain rfl : z21cs = [.int .i64 x19] := z21r
        refine TD.run ft_cursitorref01_ok [4, 5] rfl rfl ?_
        refine TD.q rfl .u (Ex.ixS (k := k7) rfl rfl rfl Try.runUnderlying102 Try.sizeOf3 (List.getElem?_eq_some_iff.1 hx20).1) rfl ?_
        refine TD.q rfl .u (Ex.o1 0 rfl Try.isAgg3 z21nf z21cc rfl rfl) rfl ?_
        refine TD.run ft_cursitorref01_ok [8] rfl rfl ?_
        by_cases c22 : x16 = x19
        · replace h := ifT c22 h
          refine TD.nil (X.seq ?_)
          refine T.no rfl (bn_f (decide_eq_true c22)) ?_
          refine T.skip (X.blk (X.seq (T.region rfl ?_)))
          replace h := guard_some h
          obtain ⟨c23, h⟩ := h
          refine TL.run ft_cursitorref01_ok [0] rfl rfl ?_
          refine TL.q rfl .u (Ex.add rfl rfl c23) rfl ?_
          refine TL.run ft_cursitorref01_ok [2] rfl rfl ?_
          exact TL.nil (X.back (m' := m11) [0] (by omega) ⟨y6, k7 + 1, rfl, rfl, h⟩ (by rfl) (by rfl))
        · replace h := ifF c22 h
          refine TD.nil (X.seq ?_)
          refine T.yes rfl (bn_t (decide_eq_false c22)) ?_
          refine T.seq (T.region rfl ?_)
          refine TL.run ft_cursitorref01_ok [0] rfl rfl ?_
          obtain rfl := Option.some.inj h
          replace h := hO10
          clear hO10
          try dsimp only at h
          obtain rfl := Option.some.inj h
          exact TL.nil (X.seq (T.ret (X.rb (X.rs (X.rs (X.rb (X.rs (X.done1 [0] Try.results114 (RV.tm rfl) ⟨rfl, rfl, rfl⟩ (by rfl) (.inl rfl)))))))))
      · replace h := ifF c15 h
        refine TL.nil (X.seq ?_)
        refine T.no rfl (decide_eq_false c15) ?_
        obtain rfl := Option.some.inj h
        replace h := hO10
        clear hO10
        try dsimp only at h
        refine T.exit (X.exs (X.exs (X.ex (X.seq (T.seq (T.region rfl ?_))))))
        refine TL.run ft_cursitorref01_ok [0] rfl rfl ?_
        obtain rfl := Option.some.inj h
        exact TL.nil (X.seq (T.ret (X.done1 [0] Try.results114 (RV.tm rfl) ⟨rfl, rfl, rfl⟩ (by rfl) (.inl rfl))))
  · replace h := ifF c5 h
    refine TL.nil (X.seq ?_)
    refine T.yes rfl (bn_t (decide_eq_false c5)) ?_
    refine T.seq (T.region rfl ?_)
    refine TL.run ft_cursitorref01_ok [0] rfl rfl ?_
    obtain rfl := Option.some.inj h
    exact TL.nil (X.seq (T.ret (X.rs (X.done1 [0] Try.results114 (RV.tm rfl) ⟨rfl, rfl, rfl⟩ (by rfl) (.inl rfl)))))
end Go.Proofs.Ytdlpmcbglmgpiaa.Sl
