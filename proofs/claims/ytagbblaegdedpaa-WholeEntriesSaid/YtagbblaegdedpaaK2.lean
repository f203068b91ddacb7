/- WholeEntries: for every input the law returns true, and its arguments read behind the call as they did before. -/
import Derived.OpenShut
import Derived.Test.YtagbblaegdedpaaRows
import Derived.WalkKit
import Derived.ProofKit
import Derived.ShutString
import Derived.ChangeOld
import Derived.Below
import Derived.SizedLaws
import Derived.Test.YtagbblaegdedpaaK1
namespace Go.Proofs.Ytagbblaegdedpaa.Sl
open Go.RowKit
set_option linter.unusedVariables false
set_option linter.unusedSimpArgs false
set_option maxRecDepth 100000
def ft_cursitorref14 : FTab := [(26, 0, 0), (26, 1, 1), (97, 0, 0), (97, 1, 1), (97, 2, 2), (97, 3, 3), (97, 4, 4), (97, 5, 5), (97, 6, 6), (147, 0, 0), (147, 1, 2), (147, 2, 3), (162, 0, 0), (162, 1, 1)]
theorem ft_cursitorref14_ok : (ft_cursitorref14).OK Try.prog := ⟨FOK.mk Try.runUnderlying26 rfl Try.sizeOf4 rfl, FOK.mk Try.runUnderlying26 rfl Try.sizeOf9 rfl, FOK.mk Try.runUnderlying97 rfl Try.sizeOf3 rfl, FOK.mk Try.runUnderlying97 rfl Try.sizeOf3 rfl, FOK.mk Try.runUnderlying97 rfl Try.sizeOf3 rfl, FOK.mk Try.runUnderlying97 rfl Try.sizeOf3 rfl, FOK.mk Try.runUnderlying97 rfl Try.sizeOf68 rfl, FOK.mk Try.runUnderlying97 rfl Try.sizeOf3 rfl, FOK.mk Try.runUnderlying97 rfl Try.sizeOf3 rfl, FOK.mk Try.runUnderlying147 rfl Try.sizeOf26 rfl, FOK.mk Try.runUnderlying147 rfl Try.sizeOf3 rfl, FOK.mk Try.runUnderlying147 rfl Try.sizeOf3 rfl, FOK.mk Try.runUnderlying162 rfl Try.sizeOf9 rfl, FOK.mk Try.runUnderlying162 rfl Try.sizeOf160 rfl, trivial⟩
theorem mix_cursitorref14 : Try.prog.follows .mixedOrders = true := by kernel_rfl
def f_r14_SameTopics_l1 (a0 : List Top) (a1 : List Top) : Nat → Bool → Nat → Option (Lp Bool (Bool × Nat))
  | 0, _, _ => none
  | m11 + 1, y6, k7 => if (k7 : Int) < (a0.length : Int) then ((a0[k7]?).bind fun x16 => (a1[k7]?).bind fun x22 => if x16.fName = x22.fName then ((f_r01_Same x16.fParts x22.fParts).bind fun x29 => if x29 = true then (if -9223372036854775808 ≤ ((k7 : Int) + 1) ∧ ((k7 : Int) + 1) ≤ 9223372036854775807 then (f_r14_SameTopics_l1 a0 a1 m11 y6 (k7 + 1)) else none) else some (Lp.ret false)) else some (Lp.ret false)) else (some (Lp.go (y6, k7)))
def f_r14_SameTopics (a0 : List Top) (a1 : List Top) : Option (Bool) := if (a0.length : Int) = (a1.length : Int) then ((f_r14_SameTopics_l1 a0 a1 (((a0.length : Int)).toNat + 1) false 0).bind fun e => match e with | .ret r => some r | .go (y33, k34) => some true) else some false
set_option maxRecDepth 100000 in
set_option maxHeartbeats 4000000 in
theorem f_r14_SameTopics_spec (a0 : List Top) (A1 : Option Addr) (c2 : Nat) (a1 : List Top) (A3 : Option Addr) (c4 : Nat) (r : Bool) (h : f_r14_SameTopics a0 a1 = some r) : SpecX Try.prog 110 #[.slice A1 a0.length c2, .slice A3 a1.length c4] (RX.and (RX.of (sliceRd 2 Top_rd) [.slice A1 a0.length c2] a0) (RX.of (sliceRd 2 Top_rd) [.slice A3 a1.length c4] a1)) (EmpR) (fun v A' N => v = .bool r ∧ A' = EmpR ∧ N = []) := by
  refine enterA Try.func110 rfl Try.ntmps110 rfl ?_
  intro F w hX
  unfold f_r14_SameTopics at h
  refine T.seq (T.region rfl ?_)
  refine TL.run ft_cursitorref14_ok [0] rfl rfl ?_
  refine TL.nil (X.seq (T.seq (T.seq (T.region rfl ?_))))
  refine TL.run ft_cursitorref14_ok [0] rfl rfl ?_
  refine TL.q rfl .u (Ex.lenS rfl Try.runUnderlying68) rfl ?_
  refine TL.run ft_cursitorref14_ok [2] rfl rfl ?_
  refine TL.q rfl .u (Ex.lenS rfl Try.runUnderlying68) rfl ?_
  refine TL.run ft_cursitorref14_ok [4] rfl rfl ?_
  by_cases c5 : (a0.length : Int) = (a1.length : Int)
  · replace h := ifT c5 h
    refine TL.nil (X.seq ?_)
    refine T.no rfl (bn_f (decide_eq_true c5)) ?_
    refine T.skip (X.seq (T.seq (T.seq (T.region rfl ?_))))
    refine TL.run ft_cursitorref14_ok [0] rfl rfl ?_
    refine TL.nil (X.seq (T.block ?_))
    obtain ⟨E8, hE9, hO10⟩ := Option.bind_eq_some_iff.1 h
    refine T.lp (fun m e Rs => ∃ (y6 : Bool) (k7 : Nat), e = [(0, .slice A1 a0.length c2), (1, .slice A3 a1.length c4), (4, .bool y6), (5, .int .i64 (k7 : Int))] ∧ Rs = [EmpR] ∧ f_r14_SameTopics_l1 a0 a1 m y6 k7 = some E8) (((a0.length : Int)).toNat + 1) [0] ⟨false, 0, rfl, rfl, by exact hE9⟩ (by rfl) (by rfl) ?_
    rintro m11 _ _ ⟨y6, k7, rfl, rfl, hl13⟩
    clear hE9 h
    cases m11 with
    | zero =>
      rw [f_r14_SameTopics_l1] at hl13
      cases hl13
    | succ m11 =>
      have h := hl13
      clear hl13
      rw [f_r14_SameTopics_l1] at h
      refine T.seq (T.seq (T.region rfl ?_))
      refine TL.run ft_cursitorref14_ok [0, 1] rfl rfl ?_
      refine TL.q rfl .u (Ex.lenS rfl Try.runUnderlying68) rfl ?_
      refine TL.run ft_cursitorref14_ok [3] rfl rfl ?_
      by_cases c15 : (k7 : Int) < (a0.length : Int)
      · replace h := ifT c15 h
        refine TL.nil (X.seq ?_)
        refine T.yes rfl (decide_eq_true c15) ?_
        refine T.skip (X.seq (T.seq (T.block (T.seq (T.draw (.q 0 (.q 1 (.q 2 (.q 3 (.q 4 (.q 5 (.q 6 (.q 7 (.q 8 (.q 9 (.q 10 (.q 11 (.q 12 (.q 13 (.q 14 (.q 15 (.q 16 (.q 17 (.q 18 (.q 19 (.q 20 (.q 21 (.e 22 (.q 23 (.q 24 .nil))))))))))))))))))))))))) [0] rfl mix_cursitorref14 (NoP.seq (NoP.blk (NoP.seq (NoP.seq (NoP.blk (NoP.seq np_post)))))) (by kernel_rfl) ?_)))))
        obtain ⟨x16, hx17, h⟩ := Option.bind_eq_some_iff.1 h
        obtain ⟨gz18, oz18, rfl, z18cs, z18cl, z18cc, z18nf, z18r⟩ := RX.elem (by decide) (RX.reads_left hX) hx17
        obtain ⟨z18S, z18r, z18rr⟩ := z18r
        obtain ⟨A19, c20, rfl, z18s0⟩ := z18r
        have hX21 : (RX.of (sliceRd 1 intE) [.slice A19 x16.fParts.length c20] x16.fParts).reads w F := ⟨z18S, z18s0, z18rr⟩
        refine TD.run ft_cursitorref14_ok [0, 1] rfl rfl ?_
        refine TD.q rfl .u (Ex.ixS (k := k7) rfl rfl rfl Try.runUnderlying68 Try.sizeOf162 (List.getElem?_eq_some_iff.1 hx17).1) rfl ?_
        refine TD.run ft_cursitorref14_ok [3] rfl rfl ?_
        refine TD.q rfl .u (Ex.o1 0 rfl Try.isAgg9 z18nf z18cc rfl rfl) rfl ?_
        obtain ⟨x22, hx23, h⟩ := Option.bind_eq_some_iff.1 h
        obtain ⟨gz24, oz24, rfl, z24cs, z24cl, z24cc, z24nf, z24r⟩ := RX.elem (by decide) (RX.reads_right hX) hx23
        obtain ⟨z24S, z24r, z24rr⟩ := z24r
        obtain ⟨A25, c26, rfl, z24s0⟩ := z24r
        have hX27 : (RX.of (sliceRd 1 intE) [.slice A25 x22.fParts.length c26] x22.fParts).reads w F := ⟨z24S, z24s0, z24rr⟩
        refine TD.run ft_cursitorref14_ok [5, 6] rfl rfl ?_
        refine TD.q rfl .u (Ex.ixS (k := k7) rfl rfl rfl Try.runUnderlying68 Try.sizeOf162 (List.getElem?_eq_some_iff.1 hx23).1) rfl ?_
        refine TD.run ft_cursitorref14_ok [8] rfl rfl ?_
        refine TD.q rfl .u (Ex.o1 0 rfl Try.isAgg9 z24nf z24cc rfl rfl) rfl ?_
        refine TD.q rfl .u (Ex.sNe rfl rfl) rfl ?_
        by_cases c28 : x16.fName = x22.fName
        · replace h := ifT c28 h
          refine TD.run ft_cursitorref14_ok [11] rfl rfl ?_
          refine TD.q rfl (.g rfl rfl (bn_f (decide_eq_true c28))) (Ex.ft ft_cursitorref14_ok rfl) rfl ?_
          refine TD.q rfl (.g rfl rfl (bn_f (decide_eq_true c28))) (Ex.ft ft_cursitorref14_ok rfl) rfl ?_
          refine TD.q rfl (.g rfl rfl (bn_f (decide_eq_true c28))) (Ex.ixS (k := k7) rfl rfl rfl Try.runUnderlying68 Try.sizeOf162 (List.getElem?_eq_some_iff.1 hx17).1) rfl ?_
          refine TD.q rfl (.g rfl rfl (bn_f (decide_eq_true c28))) (Ex.ft ft_cursitorref14_ok rfl) rfl ?_
          refine TD.q rfl (.g rfl rfl (bn_f (decide_eq_true c28))) (Ex.o1 1 rfl Try.isAgg160 z18nf z18cc rfl rfl) rfl ?_
          refine TD.q rfl (.g rfl rfl (bn_f (decide_eq_true c28))) (Ex.ft ft_cursitorref14_ok rfl) rfl ?_
          refine TD.q rfl (.g rfl rfl (bn_f (decide_eq_true c28))) (Ex.ft ft_cursitorref14_ok rfl) rfl ?_
          refine TD.q rfl (.g rfl rfl (bn_f (decide_eq_true c28))) (Ex.ixS (k := k7) rfl rfl rfl Try.runUnderlying68 Try.sizeOf162 (List.getElem?_eq_some_iff.1 hx23).1) rfl ?_
          refine TD.q rfl (.g rfl rfl (bn_f (decide_eq_true c28))) (Ex.ft ft_cursitorref14_ok rfl) rfl ?_
          refine TD.q rfl (.g rfl rfl (bn_f (decide_eq_true c28))) (Ex.o1 1 rfl Try.isAgg160 z24nf z24cc rfl rfl) rfl ?_
          obtain ⟨x29, hx30, h⟩ := Option.bind_eq_some_iff.1 h
          refine TD.ce rfl (.g rfl rfl (bn_f (decide_eq_true c28))) (.fn Try.call180 rfl) (f_r01_Same_spec x16.fParts _ _ x22.fParts _ _ _ hx30) (fun _ hs => (RX.reads_and (SrcE.old hs hX21) (SrcE.old hs hX27))) rfl [0] (rfl) ?_
          refine TD.q rfl (.g rfl rfl (bn_f (decide_eq_true c28))) (Ex.ft ft_cursitorref14_ok rfl) rfl ?_
          refine TD.q rfl .u (Ex.pn rfl (bn_f (decide_eq_true c28)) rfl) rfl ?_
          by_cases c31 : x29 = true
          · replace h := ifT c31 h
            refine TD.nil (X.seq ?_)
            refine T.no rfl (bn_f c31) ?_
            refine T.skip (X.blk (X.seq (T.region rfl ?_)))
            replace h := guard_some h
            obtain ⟨c32, h⟩ := h
            refine TL.run ft_cursitorref14_ok [0] rfl rfl ?_
            refine TL.q rfl .u (Ex.add rfl rfl c32) rfl ?_
            refine TL.run ft_cursitorref14_ok [2] rfl rfl ?_
            exact TL.nil (X.back (m' := m11) [0] (by omega) ⟨y6, k7 + 1, rfl, rfl, h⟩ (by rfl) (by rfl))
          · replace h := ifF c31 h
            replace c31 := eq_false_of_ne_true c31
            refine TD.nil (X.seq ?_)
            refine T.yes rfl (bn_t c31) ?_
            refine T.seq (T.region rfl ?_)
            refine TL.run ft_cursitorref14_ok [0] rfl rfl ?_
            obtain rfl := Option.some.inj h
            replace h := hO10
            clear hO10
            try dsimp only at h
            obtain rfl := Option.some.inj h
            exact TL.nil (X.seq (T.ret (X.rb (X.rs (X.rs (X.rb (X.rs (X.done1 [0] Try.results110 (RV.tm rfl) ⟨rfl, rfl, rfl⟩ (by rfl) (.inl rfl)))))))))
        · replace h := ifF c28 h
          refine TD.run ft_cursitorref14_ok [11] rfl rfl ?_
          refine TD.no rfl (.gn rfl rfl (bn_t (decide_eq_false c28))) rfl ?_
          refine TD.no rfl (.gn rfl rfl (bn_t (decide_eq_false c28))) rfl ?_
          refine TD.no rfl (.gn rfl rfl (bn_t (decide_eq_false c28))) rfl ?_
          refine TD.no rfl (.gn rfl rfl (bn_t (decide_eq_false c28))) rfl ?_
          refine TD.no rfl (.gn rfl rfl (bn_t (decide_eq_false c28))) rfl ?_
          refine TD.no rfl (.gn rfl rfl (bn_t (decide_eq_false c28))) rfl ?_
          refine TD.no rfl (.gn rfl rfl (bn_t (decide_eq_false c28))) rfl ?_
          refine TD.no rfl (.gn rfl rfl (bn_t (decide_eq_false c28))) rfl ?_
          refine TD.no rfl (.gn rfl rfl (bn_t (decide_eq_false c28))) rfl ?_
          refine TD.no rfl (.gn rfl rfl (bn_t (decide_eq_false c28))) rfl ?_
          refine TD.noe rfl (.gn rfl rfl (bn_t (decide_eq_false c28))) rfl [0] rfl ?_
          refine TD.no rfl (.gn rfl rfl (bn_t (decide_eq_false c28))) rfl ?_
          refine TD.q rfl .u (Ex.py rfl (bn_t (decide_eq_false c28)) rfl) rfl ?_
          refine TD.nil (X.seq ?_)
          refine T.yes rfl rfl ?_
          refine T.seq (T.region rfl ?_)
          refine TL.run ft_cursitorref14_ok [0] rfl rfl ?_
          obtain rfl := Option.some.inj h
          replace h := hO10
          clear hO10
          try dsimp only at h
          obtain rfl := Option.some.inj h
          exact TL.nil (X.seq (T.ret (X.rb (X.rs (X.rs (X.rb (X.rs (X.done1 [0] Try.results110 (RV.tm rfl) ⟨rfl, rfl, rfl⟩ (by rfl) (.inl rfl)))))))))
      · replace h := ifF c15 h
        refine TL.nil (X.seq ?_)
        refine T.no rfl (decide_eq_false c15) ?_
        obtain rfl := Option.some.inj h
        replace h := hO10
        clear hO10
        try dsimp only at h
        refine T.exit (X.exs (X.exs (X.ex (X.seq (T.seq (T.region rfl ?_))))))
        refine TL.run ft_cursitorref14_ok [0] rfl rfl ?_
        obtain rfl := Option.some.inj h
        exact TL.nil (X.seq (T.ret (X.done1 [0] Try.results110 (RV.tm rfl) ⟨rfl, rfl, rfl⟩ (by rfl) (.inl rfl))))
  · replace h := ifF c5 h
    refine TL.nil (X.seq ?_)
    refine T.yes rfl (bn_t (decide_eq_false c5)) ?_
    refine T.seq (T.region rfl ?_)
    refine TL.run ft_cursitorref14_ok [0] rfl rfl ?_
    obtain rfl := Option.some.inj h
    exact TL.nil (X.seq (T.ret (X.rs (X.done1 [0] Try.results110 (RV.tm rfl) ⟨rfl, rfl, rfl⟩ (by rfl) (.inl rfl)))))
def f_r14_Same (a0 : Val) (a1 : Val) : Option (Bool) := if a0.fProducer = a1.fProducer then (if a0.fEpoch = a1.fEpoch then (if a0.fTimeout = a1.fTimeout then (if a0.fState = a1.fState then (if a0.fUpdated = a1.fUpdated then (if a0.fStarted = a1.fStarted then ((f_r14_SameTopics a0.fTopics a1.fTopics).bind fun x13 => some x13) else some false) else some false) else some false) else some false) else some false) else some false
set_option maxRecDepth 100000 in
set_option maxHeartbeats 4000000 in
theorem f_r14_Same_spec (a0 : Val) (A1 : Option Addr) (c2 : Nat) (a1 : Val) (A3 : Option Addr) (c4 : Nat) (r : Bool) (h : f_r14_Same a0 a1 = some r) : SpecX Try.prog 57 #[.agg #[.int .i64 a0.fProducer, .int .i64 a0.fEpoch, .int .i64 a0.fTimeout, .int .i64 a0.fState, .slice A1 a0.fTopics.length c2, .int .i64 a0.fUpdated, .int .i64 a0.fStarted], .agg #[.int .i64 a1.fProducer, .int .i64 a1.fEpoch, .int .i64 a1.fTimeout, .int .i64 a1.fState, .slice A3 a1.fTopics.length c4, .int .i64 a1.fUpdated, .int .i64 a1.fStarted]] (RX.and (RX.of (sliceRd 2 Top_rd) [.slice A1 a0.fTopics.length c2] a0.fTopics) (RX.of (sliceRd 2 Top_rd) [.slice A3 a1.fTopics.length c4] a1.fTopics)) (EmpR) (fun v A' N => v = .bool r ∧ A' = EmpR ∧ N = []) := by
  refine enterA Try.func57 rfl Try.ntmps57 rfl ?_
  intro F w hX
  unfold f_r14_Same at h
  refine T.seq (T.region rfl ?_)
  refine TL.box rfl .u rfl rfl (fun b5 => ?_)
  refine TL.box rfl .u rfl rfl (fun b6 => ?_)
  refine TL.run ft_cursitorref14_ok [2] rfl rfl ?_
  refine TL.nil (X.seq (T.seq (T.region rfl ?_)))
  refine TL.run ft_cursitorref14_ok [0] rfl rfl ?_
  refine TL.q rfl .u (Ex.b1 1 rfl Try.isAgg3 rfl rfl) rfl ?_
  refine TL.run ft_cursitorref14_ok [2] rfl rfl ?_
  refine TL.q rfl .u (Ex.b1 0 rfl Try.isAgg3 rfl rfl) rfl ?_
  by_cases c7 : a0.fProducer = a1.fProducer
  · replace h := ifT c7 h
    refine TL.run ft_cursitorref14_ok [4, 5] rfl rfl ?_
    refine TL.q rfl (.g rfl rfl (decide_eq_true c7)) (Ex.ft ft_cursitorref14_ok rfl) rfl ?_
    refine TL.q rfl (.g rfl rfl (decide_eq_true c7)) (Ex.b1 1 rfl Try.isAgg3 rfl rfl) rfl ?_
    refine TL.q rfl (.g rfl rfl (decide_eq_true c7)) (Ex.ft ft_cursitorref14_ok rfl) rfl ?_
    refine TL.q rfl (.g rfl rfl (decide_eq_true c7)) (Ex.b1 0 rfl Try.isAgg3 rfl rfl) rfl ?_
    refine TL.q rfl (.g rfl rfl (decide_eq_true c7)) (Ex.ft ft_cursitorref14_ok rfl) rfl ?_
    refine TL.q rfl .u (Ex.py rfl (decide_eq_true c7) rfl) rfl ?_
    by_cases c8 : a0.fEpoch = a1.fEpoch
    · replace h := ifT c8 h
      refine TL.run ft_cursitorref14_ok [12] rfl rfl ?_
      refine TL.q rfl (.g rfl rfl (decide_eq_true c8)) (Ex.ft ft_cursitorref14_ok rfl) rfl ?_
      refine TL.q rfl (.g rfl rfl (decide_eq_true c8)) (Ex.b1 1 rfl Try.isAgg3 rfl rfl) rfl ?_
      refine TL.q rfl (.g rfl rfl (decide_eq_true c8)) (Ex.ft ft_cursitorref14_ok rfl) rfl ?_
      refine TL.q rfl (.g rfl rfl (decide_eq_true c8)) (Ex.b1 0 rfl Try.isAgg3 rfl rfl) rfl ?_
      refine TL.q rfl (.g rfl rfl (decide_eq_true c8)) (Ex.ft ft_cursitorref14_ok rfl) rfl ?_
      refine TL.q rfl .u (Ex.py rfl (decide_eq_true c8) rfl) rfl ?_
      by_cases c9 : a0.fTimeout = a1.fTimeout
      · replace h := ifT c9 h
        refine TL.run ft_cursitorref14_ok [19] rfl rfl ?_
        refine TL.q rfl (.g rfl rfl (decide_eq_true c9)) (Ex.ft ft_cursitorref14_ok rfl) rfl ?_
        refine TL.q rfl (.g rfl rfl (decide_eq_true c9)) (Ex.b1 1 rfl Try.isAgg3 rfl rfl) rfl ?_
        refine TL.q rfl (.g rfl rfl (decide_eq_true c9)) (Ex.ft ft_cursitorref14_ok rfl) rfl ?_
        refine TL.q rfl (.g rfl rfl (decide_eq_true c9)) (Ex.b1 0 rfl Try.isAgg3 rfl rfl) rfl ?_
        refine TL.q rfl (.g rfl rfl (decide_eq_true c9)) (Ex.ft ft_cursitorref14_ok rfl) rfl ?_
        refine TL.q rfl .u (Ex.py rfl (decide_eq_true c9) rfl) rfl ?_
        by_cases c10 : a0.fState = a1.fState
        · replace h := ifT c10 h
          refine TL.run ft_cursitorref14_ok [26] rfl rfl ?_
          refine TL.q rfl (.g rfl rfl (decide_eq_true c10)) (Ex.ft ft_cursitorref14_ok rfl) rfl ?_
          refine TL.q rfl (.g rfl rfl (decide_eq_true c10)) (Ex.b1 1 rfl Try.isAgg3 rfl rfl) rfl ?_
          refine TL.q rfl (.g rfl rfl (decide_eq_true c10)) (Ex.ft ft_cursitorref14_ok rfl) rfl ?_
          refine TL.q rfl (.g rfl rfl (decide_eq_true c10)) (Ex.b1 0 rfl Try.isAgg3 rfl rfl) rfl ?_
          refine TL.q rfl (.g rfl rfl (decide_eq_true c10)) (Ex.ft ft_cursitorref14_ok rfl) rfl ?_
          refine TL.q rfl .u (Ex.py rfl (decide_eq_true c10) rfl) rfl ?_
          by_cases c11 : a0.fUpdated = a1.fUpdated
          · replace h := ifT c11 h
            refine TL.run ft_cursitorref14_ok [33] rfl rfl ?_
            refine TL.q rfl (.g rfl rfl (decide_eq_true c11)) (Ex.ft ft_cursitorref14_ok rfl) rfl ?_
            refine TL.q rfl (.g rfl rfl (decide_eq_true c11)) (Ex.b1 1 rfl Try.isAgg3 rfl rfl) rfl ?_
            refine TL.q rfl (.g rfl rfl (decide_eq_true c11)) (Ex.ft ft_cursitorref14_ok rfl) rfl ?_
            refine TL.q rfl (.g rfl rfl (decide_eq_true c11)) (Ex.b1 0 rfl Try.isAgg3 rfl rfl) rfl ?_
            refine TL.q rfl (.g rfl rfl (decide_eq_true c11)) (Ex.ft ft_cursitorref14_ok rfl) rfl ?_
            refine TL.q rfl .u (Ex.py rfl (decide_eq_true c11) rfl) rfl ?_
            by_cases c12 : a0.fStarted = a1.fStarted
            · replace h := ifT c12 h
              refine TL.run ft_cursitorref14_ok [40] rfl rfl ?_
              refine TL.q rfl (.g rfl rfl (decide_eq_true c12)) (Ex.ft ft_cursitorref14_ok rfl) rfl ?_
              refine TL.q rfl (.g rfl rfl (decide_eq_true c12)) (Ex.b1 1 rfl Try.isAgg68 rfl rfl) rfl ?_
              refine TL.q rfl (.g rfl rfl (decide_eq_true c12)) (Ex.ft ft_cursitorref14_ok rfl) rfl ?_
              refine TL.q rfl (.g rfl rfl (decide_eq_true c12)) (Ex.b1 0 rfl Try.isAgg68 rfl rfl) rfl ?_
              obtain ⟨x13, hx14, h⟩ := Option.bind_eq_some_iff.1 h
              refine TL.ce rfl (.g rfl rfl (decide_eq_true c12)) (.fn Try.call110 rfl) (f_r14_SameTopics_spec a0.fTopics _ _ a1.fTopics _ _ _ hx14) (fun _ hs => (RX.reads_and (SrcE.old hs (RX.reads_left hX)) (SrcE.old hs (RX.reads_right hX)))) rfl ?_
              refine TL.q rfl .u (Ex.py rfl (decide_eq_true c12) rfl) rfl ?_
              refine TL.run ft_cursitorref14_ok [47] rfl rfl ?_
              obtain rfl := Option.some.inj h
              exact TL.nil (X.seq (T.ret (X.done1 [2] Try.results57 (RV.tm rfl) ⟨rfl, rfl, rfl⟩ (by rfl) (.inl rfl))))
            · replace h := ifF c12 h
              refine TL.run ft_cursitorref14_ok [40] rfl rfl ?_
              refine TL.no rfl (.gn rfl rfl (decide_eq_false c12)) rfl ?_
              refine TL.no rfl (.gn rfl rfl (decide_eq_false c12)) rfl ?_
              refine TL.no rfl (.gn rfl rfl (decide_eq_false c12)) rfl ?_
              refine TL.no rfl (.gn rfl rfl (decide_eq_false c12)) rfl ?_
              refine TL.no rfl (.gn rfl rfl (decide_eq_false c12)) rfl ?_
              refine TL.q rfl .u (Ex.pn rfl (decide_eq_false c12) rfl) rfl ?_
              refine TL.run ft_cursitorref14_ok [47] rfl rfl ?_
              obtain rfl := Option.some.inj h
              exact TL.nil (X.seq (T.ret (X.done1 [2] Try.results57 (RV.tm rfl) ⟨rfl, rfl, rfl⟩ (by rfl) (.inl rfl))))
          · replace h := ifF c11 h
            refine TL.run ft_cursitorref14_ok [33] rfl rfl ?_
            refine TL.no rfl (.gn rfl rfl (decide_eq_false c11)) rfl ?_
            refine TL.no rfl (.gn rfl rfl (decide_eq_false c11)) rfl ?_
            refine TL.no rfl (.gn rfl rfl (decide_eq_false c11)) rfl ?_
            refine TL.no rfl (.gn rfl rfl (decide_eq_false c11)) rfl ?_
            refine TL.no rfl (.gn rfl rfl (decide_eq_false c11)) rfl ?_
            refine TL.q rfl .u (Ex.pn rfl (decide_eq_false c11) rfl) rfl ?_
            refine TL.run ft_cursitorref14_ok [40] rfl rfl ?_
            refine TL.no rfl (.gn rfl rfl rfl) rfl ?_
            refine TL.no rfl (.gn rfl rfl rfl) rfl ?_
            refine TL.no rfl (.gn rfl rfl rfl) rfl ?_
            refine TL.no rfl (.gn rfl rfl rfl) rfl ?_
            refine TL.no rfl (.gn rfl rfl rfl) rfl ?_
            refine TL.q rfl .u (Ex.pn rfl rfl rfl) rfl ?_
            refine TL.run ft_cursitorref14_ok [47] rfl rfl ?_
            obtain rfl := Option.some.inj h
            exact TL.nil (X.seq (T.ret (X.done1 [2] Try.results57 (RV.tm rfl) ⟨rfl, rfl, rfl⟩ (by rfl) (.inl rfl))))
        · replace h := ifF c10 h
          refine TL.run ft_cursitorref14_ok [26] rfl rfl ?_
          refine TL.no rfl (.gn rfl rfl (decide_eq_false c10)) rfl ?_
          refine TL.no rfl (.gn rfl rfl (decide_eq_false c10)) rfl ?_
          refine TL.no rfl (.gn rfl rfl (decide_eq_false c10)) rfl ?_
          refine TL.no rfl (.gn rfl rfl (decide_eq_false c10)) rfl ?_
          refine TL.no rfl (.gn rfl rfl (decide_eq_false c10)) rfl ?_
          refine TL.q rfl .u (Ex.pn rfl (decide_eq_false c10) rfl) rfl ?_
          refine TL.run ft_cursitorref14_ok [33] rfl rfl ?_
          refine TL.no rfl (.gn rfl rfl rfl) rfl ?_
          refine TL.no rfl (.gn rfl rfl rfl) rfl ?_
          refine TL.no rfl (.gn rfl rfl rfl) rfl ?_
          refine TL.no rfl (.gn rfl rfl rfl) rfl ?_
          refine TL.no rfl (.gn rfl rfl rfl) rfl ?_
          refine TL.q rfl .u (Ex.pn rfl rfl rfl) rfl ?_
          refine TL.run ft_cursitorref14_ok [40] rfl rfl ?_
          refine TL.no rfl (.gn rfl rfl rfl) rfl ?_
          refine TL.no rfl (.gn rfl rfl rfl) rfl ?_
          refine TL.no rfl (.gn rfl rfl rfl) rfl ?_
          refine TL.no rfl (.gn rfl rfl rfl) rfl ?_
          refine TL.no rfl (.gn rfl rfl rfl) rfl ?_
          refine TL.q rfl .u (Ex.pn rfl rfl rfl) rfl ?_
          refine TL.run ft_cursitorref14_ok [47] rfl rfl ?_
          obtain rfl := Option.some.inj h
          exact TL.nil (X.seq (T.ret (X.done1 [2] Try.results57 (RV.tm rfl) ⟨rfl, rfl, rfl⟩ (by rfl) (.inl rfl))))
      · replace h := ifF c9 h
        refine TL.run ft_cursitorref14_ok [19] rfl rfl ?_
        refine TL.no rfl (.gn rfl rfl (decide_eq_false c9)) rfl ?_
        refine TL.no rfl (.gn rfl rfl (decide_eq_false c9)) rfl ?_
        refine TL.no rfl (.gn rfl rfl (decide_eq_false c9)) rfl ?_
        refine TL.no rfl (.gn rfl rfl (decide_eq_false c9)) rfl ?_
        refine TL.no rfl (.gn rfl rfl (decide_eq_false c9)) rfl ?_
        refine TL.q rfl .u (Ex.pn rfl (decide_eq_false c9) rfl) rfl ?_
        refine TL.run ft_cursitorref14_ok [26] rfl rfl ?_
        refine TL.no rfl (.gn rfl rfl rfl) rfl ?_
        refine TL.no rfl (.gn rfl rfl rfl) rfl ?_
        refine TL.no rfl (.gn rfl rfl rfl) rfl ?_
        refine TL.no rfl (.gn rfl rfl rfl) rfl ?_
        refine TL.no rfl (.gn rfl rfl rfl) rfl ?_
        refine TL.q rfl .u (Ex.pn rfl rfl rfl) rfl ?_
        refine TL.run ft_cursitorref14_ok [33] rfl rfl ?_
        refine TL.no rfl (.gn rfl rfl rfl) rfl ?_
        refine TL.no rfl (.gn rfl rfl rfl) rfl ?_
        refine TL.no rfl (.gn rfl rfl rfl) rfl ?_
        refine TL.no rfl (.gn rfl rfl rfl) rfl ?_
        refine TL.no rfl (.gn rfl rfl rfl) rfl ?_
        refine TL.q rfl .u (Ex.pn rfl rfl rfl) rfl ?_
        refine TL.run ft_cursitorref14_ok [40] rfl rfl ?_
        refine TL.no rfl (.gn rfl rfl rfl) rfl ?_
        refine TL.no rfl (.gn rfl rfl rfl) rfl ?_
        refine TL.no rfl (.gn rfl rfl rfl) rfl ?_
        refine TL.no rfl (.gn rfl rfl rfl) rfl ?_
        refine TL.no rfl (.gn rfl rfl rfl) rfl ?_
        refine TL.q rfl .u (Ex.pn rfl rfl rfl) rfl ?_
        refine TL.run ft_cursitorref14_ok [47] rfl rfl ?_
        obtain rfl := Option.some.inj h
        exact TL.nil (X.seq (T.ret (X.done1 [2] Try.results57 (RV.tm rfl) ⟨rfl, rfl, rfl⟩ (by rfl) (.inl rfl))))
    · replace h := ifF c8 h
      refine TL.run ft_cursitorref14_ok [12] rfl rfl ?_
      refine TL.no rfl (.gn rfl rfl (decide_eq_false c8)) rfl ?_
      refine TL.no rfl (.gn rfl rfl (decide_eq_false c8)) rfl ?_
      refine TL.no rfl (.gn rfl rfl (decide_eq_false c8)) rfl ?_
      refine TL.no rfl (.gn rfl rfl (decide_eq_false c8)) rfl ?_
      refine TL.no rfl (.gn rfl rfl (decide_eq_false c8)) rfl ?_
      refine TL.q rfl .u (Ex.pn rfl (decide_eq_false c8) rfl) rfl ?_
      refine TL.run ft_cursitorref14_ok [19] rfl rfl ?_
      refine TL.no rfl (.gn rfl rfl rfl) rfl ?_
      refine TL.no rfl (.gn rfl rfl rfl) rfl ?_
      refine TL.no rfl (.gn rfl rfl rfl) rfl ?_
      refine TL.no rfl (.gn rfl rfl rfl) rfl ?_
      refine TL.no rfl (.gn rfl rfl rfl) rfl ?_
      refine TL.q rfl .u (Ex.pn rfl rfl rfl) rfl ?_
      refine TL.run ft_cursitorref14_ok [26] rfl rfl ?_
      refine TL.no rfl (.gn rfl rfl rfl) rfl ?_
      refine TL.no rfl (.gn rfl rfl rfl) rfl ?_
      refine TL.no rfl (.gn rfl rfl rfl) rfl ?_
      refine TL.no rfl (.gn rfl rfl rfl) rfl ?_
      refine TL.no rfl (.gn rfl rfl rfl) rfl ?_
      refine TL.q rfl .u (Ex.pn rfl rfl rfl) rfl ?_
      refine TL.run ft_cursitorref14_ok [33] rfl rfl ?_
      refine TL.no rfl (.gn rfl rfl rfl) rfl ?_
      refine TL.no rfl (.gn rfl rfl rfl) rfl ?_
      refine TL.no rfl (.gn rfl rfl rfl) rfl ?_
      refine TL.no rfl (.gn rfl rfl rfl) rfl ?_
      refine TL.no rfl (.gn rfl rfl rfl) rfl ?_
      refine TL.q rfl .u (Ex.pn rfl rfl rfl) rfl ?_
      refine TL.run ft_cursitorref14_ok [40] rfl rfl ?_
      refine TL.no rfl (.gn rfl rfl rfl) rfl ?_
      refine TL.no rfl (.gn rfl rfl rfl) rfl ?_
      refine TL.no rfl (.gn rfl rfl rfl) rfl ?_
      refine TL.no rfl (.gn rfl rfl rfl) rfl ?_
      refine TL.no rfl (.gn rfl rfl rfl) rfl ?_
      refine TL.q rfl .u (Ex.pn rfl rfl rfl) rfl ?_
      refine TL.run ft_cursitorref14_ok [47] rfl rfl ?_
      obtain rfl := Option.some.inj h
      exact TL.nil (X.seq (T.ret (X.done1 [2] Try.results57 (RV.tm rfl) ⟨rfl, rfl, rfl⟩ (by rfl) (.inl rfl))))
  · replace h := ifF c7 h
    refine TL.run ft_cursitorref14_ok [4, 5] rfl rfl ?_
    refine TL.no rfl (.gn rfl rfl (decide_eq_false c7)) rfl ?_
    refine TL.no rfl (.gn rfl rfl (decide_eq_false c7)) rfl ?_
    refine TL.no rfl (.gn rfl rfl (decide_eq_false c7)) rfl ?_
    refine TL.no rfl (.gn rfl rfl (decide_eq_false c7)) rfl ?_
    refine TL.no rfl (.gn rfl rfl (decide_eq_false c7)) rfl ?_
    refine TL.q rfl .u (Ex.pn rfl (decide_eq_false c7) rfl) rfl ?_
    refine TL.run ft_cursitorref14_ok [12] rfl rfl ?_
    refine TL.no rfl (.gn rfl rfl rfl) rfl ?_
    refine TL.no rfl (.gn rfl rfl rfl) rfl ?_
    refine TL.no rfl (.gn rfl rfl rfl) rfl ?_
    refine TL.no rfl (.gn rfl rfl rfl) rfl ?_
    refine TL.no rfl (.gn rfl rfl rfl) rfl ?_
    refine TL.q rfl .u (Ex.pn rfl rfl rfl) rfl ?_
    refine TL.run ft_cursitorref14_ok [19] rfl rfl ?_
    refine TL.no rfl (.gn rfl rfl rfl) rfl ?_
    refine TL.no rfl (.gn rfl rfl rfl) rfl ?_
    refine TL.no rfl (.gn rfl rfl rfl) rfl ?_
    refine TL.no rfl (.gn rfl rfl rfl) rfl ?_
    refine TL.no rfl (.gn rfl rfl rfl) rfl ?_
    refine TL.q rfl .u (Ex.pn rfl rfl rfl) rfl ?_
    refine TL.run ft_cursitorref14_ok [26] rfl rfl ?_
    refine TL.no rfl (.gn rfl rfl rfl) rfl ?_
    refine TL.no rfl (.gn rfl rfl rfl) rfl ?_
    refine TL.no rfl (.gn rfl rfl rfl) rfl ?_
    refine TL.no rfl (.gn rfl rfl rfl) rfl ?_
    refine TL.no rfl (.gn rfl rfl rfl) rfl ?_
    refine TL.q rfl .u (Ex.pn rfl rfl rfl) rfl ?_
    refine TL.run ft_cursitorref14_ok [33] rfl rfl ?_
    refine TL.no rfl (.gn rfl rfl rfl) rfl ?_
    refine TL.no rfl (.gn rfl rfl rfl) rfl ?_
    refine TL.no rfl (.gn rfl rfl rfl) rfl ?_
    refine TL.no rfl (.gn rfl rfl rfl) rfl ?_
    refine TL.no rfl (.gn rfl rfl rfl) rfl ?_
    refine TL.q rfl .u (Ex.pn rfl rfl rfl) rfl ?_
    refine TL.run ft_cursitorref14_ok [40] rfl rfl ?_
    refine TL.no rfl (.gn rfl rfl rfl) rfl ?_
    refine TL.no rfl (.gn rfl rfl rfl) rfl ?_
    refine TL.no rfl (.gn rfl rfl rfl) rfl ?_
    refine TL.no rfl (.gn rfl rfl rfl) rfl ?_
    refine TL.no rfl (.gn rfl rfl rfl) rfl ?_
    refine TL.q rfl .u (Ex.pn rfl rfl rfl) rfl ?_
    refine TL.run ft_cursitorref14_ok [47] rfl rfl ?_
    obtain rfl := Option.some.inj h
    exact TL.nil (X.seq (T.ret (X.done1 [2] Try.results57 (RV.tm rfl) ⟨rfl, rfl, rfl⟩ (by rfl) (.inl rfl))))
end Go.Proofs.Ytagbblaegdedpaa.Sl
namespace Go.Proofs.Ytagbblaegdedpaa.Sl
open Go.RowKit
set_option linter.unusedVariables false
set_option linter.unusedSimpArgs false
def pTopic : Pr Top := pText.bind fun nm => (pRow 4 4 (pInt 4)).bind fun ps => .ret ⟨nm, ps⟩
def encT (t : Top) : List UInt8 := (be (t.fName.length : Int) 2 ++ t.fName) ++ (be (t.fParts.length : Int) 4 ++ encs (fun n => be n 4) t.fParts)
def okT (t : Top) : Prop := fits (t.fName.length : Int) 2 = true ∧ fits (t.fParts.length : Int) 4 = true ∧ ∀ n, n ∈ t.fParts → fits n 4 = true
theorem Sp_parts : Sp (pRow 4 4 (pInt 4)) (fun l => be (l.length : Int) 4 ++ encs (fun n => be n 4) l) (fun l => fits (l.length : Int) 4 = true ∧ ∀ n, n ∈ l → fits n 4 = true) := Sp_row 4 4 (by decide) (by decide) (Sp_int 4 (by decide) (by decide)) (fun x _ => by rw [be_length]; decide)
theorem Sp_topic : Sp pTopic encT okT := by
  refine ⟨fun s q a r hq h => ?_, fun s t q a hq ha h => ?_⟩
  · obtain ⟨k, q1, h1, h⟩ := Pr.bind_ok h
    obtain ⟨v, q2, h2, h⟩ := Pr.bind_ok h
    injection h with h
    obtain ⟨rfl, rfl⟩ := Prod.mk.inj h
    obtain ⟨a1, a2, a3, a4, a5⟩ := Sp_text.spell _ _ _ _ hq h1
    obtain ⟨b1, b2, b3, b4, b5⟩ := Sp_parts.spell _ _ _ _ a2 h2
    exact ⟨by omega, b2, by simp only [encT, List.length_append] at *; omega, by rw [b4, a4]; simp only [encT, List.append_assoc], a5.1, b5⟩
  · obtain ⟨a1, a2, a3⟩ := ha
    have hl := congrArg List.length h
    rw [encT, List.append_assoc] at h
    have g1 := Sp_text.back _ _ _ _ hq ⟨a1, rfl⟩ h
    have h := drop_step h
    have g2 := Sp_parts.back _ _ _ _ (by simp only [encT, List.length_drop, List.length_append, be_length] at *; omega) ⟨a2, a3⟩ h
    rw [pTopic, Pr.bind_of g1, Pr.bind_of g2]
    simp only [Pr.ret, encT, List.length_append, Nat.add_assoc]
theorem encT_ge (t : Top) (h : okT t) : 6 ≤ (encT t).length := by simp only [encT, List.length_append, be_length]; omega
theorem Sp_topics : Sp (pRow 4 6 pTopic) (fun l => be (l.length : Int) 4 ++ encs encT l) (fun l => fits (l.length : Int) 4 = true ∧ ∀ t, t ∈ l → okT t) := Sp_row 4 6 (by decide) (by decide) Sp_topic encT_ge
theorem topics_l2 (n : Int) (s : List UInt8) (hn : n ≤ 1000000) : ∀ (m fuel k : Nat) (acc : List Int) (q : Nat), ((k + m : Nat) : Int) = n → m < fuel → q + 4 * m ≤ s.length → acc.length = k →
    ∃ l, pRep (pInt 4) m s q = .ok (l, q + 4 * m) ∧ f_value_Topics_l2 n fuel k acc ⟨s.drop q, q, 0⟩ = some (k + m, acc ++ l, ⟨s.drop (q + 4 * m), q + 4 * m, 0⟩)
  | 0, fuel + 1, k, acc, q, h1, h2, h3, h4 => ⟨[], rfl, by rw [f_value_Topics_l2, if_neg (by omega), List.append_nil]; rfl⟩
  | m + 1, fuel + 1, k, acc, q, h1, h2, h3, h4 => by
    rw [f_value_Topics_l2, if_pos (by omega)]
    rcases Q4.run s q (by omega) with ⟨e, st, p1, g1, x1, y1⟩ | ⟨a, r, p1, g1, n1, l1⟩
    · unfold pInt at p1
      rw [if_neg (by omega)] at p1
      exact nomatch p1
    · have hr : r = q + 4 := by
        unfold pInt at p1
        rw [if_neg (by omega)] at p1
        injection p1 with p1
        exact (Prod.mk.inj p1).2.symm
      subst hr
      rw [g1]
      simp only [Option.bind_some]
      rw [if_pos (by omega), if_pos (by omega)]
      obtain ⟨l, e1, e2⟩ := topics_l2 n s hn m fuel (k + 1) (acc ++ [a]) (q + 4) (by omega) (by omega) (by omega) (by rw [List.length_append, h4]; rfl)
      have eq : q + 4 + 4 * m = q + 4 * (m + 1) := by omega
      rw [eq] at e1 e2
      refine ⟨a :: l, ?_, ?_⟩
      · rw [pRep, Pr.bind_of p1, Pr.bind_of e1]
        rfl
      · rw [e2, List.append_assoc]
        rw [show k + 1 + m = k + (m + 1) by omega]
        rfl
theorem topics_l1 (n : Int) (s : List UInt8) (hs : s.length ≤ 1000000) (hn : n ≤ 1000000) : ∀ (m fuel k : Nat) (acc : List Top) (q : Nat), ((k + m : Nat) : Int) = n → m < fuel → q ≤ s.length → acc.length = k →
    (∃ (e : Int) (st : I), pRep pTopic m s q = .error e ∧ f_value_Topics_l1 n fuel [] acc k ⟨s.drop q, q, 0⟩ = some (.ret ([], st)) ∧ st.err = e ∧ st.err ≠ 0) ∨
    (∃ l r, pRep pTopic m s q = .ok (l, r) ∧ f_value_Topics_l1 n fuel [] acc k ⟨s.drop q, q, 0⟩ = some (.go ([], acc ++ l, k + m, ⟨s.drop r, r, 0⟩)) ∧ q ≤ r ∧ r ≤ s.length)
  | 0, fuel + 1, k, acc, q, h1, h2, h3, h4 => .inr ⟨[], q, rfl, by rw [f_value_Topics_l1, if_neg (by omega), List.append_nil]; rfl, Nat.le_refl _, h3⟩
  | m + 1, fuel + 1, k, acc, q, h1, h2, h3, h4 => by
    rw [f_value_Topics_l1, if_pos (by omega)]
    have died : ∀ (st : I) (t : List UInt8), st.err ≠ 0 → ((gCount st 4 4).bind fun (x24, st25) => (f_value_Topics_l2 x24 ((x24).toNat + 1) 0 [] st25).bind fun (k57, y58, st61) => if (acc.length + 1) * 40 ≤ 140737488355328 then ((gErr st61).bind fun (x66, st67) => if x66 = 0 then (if -9223372036854775808 ≤ ((k : Int) + 1) ∧ ((k : Int) + 1) ≤ 9223372036854775807 then (f_value_Topics_l1 n fuel [] (acc ++ [(⟨t, y58⟩ : Top)]) (k + 1) st67) else none) else (some (Lp.ret ([], st67)))) else none) = some (Lp.ret ([], st)) := by
      intro st t h
      rw [gCount_d h (by decide) (by decide)]
      simp only [Option.bind_some]
      rw [show (0 : Int).toNat + 1 = 1 from rfl, f_value_Topics_l2, if_neg (by decide)]
      simp only [Option.bind_some, gErr_eq]
      rw [if_pos (by omega), if_neg h]
    rcases QT.run s q h3 with ⟨e, st, p1, g1, x1, y1⟩ | ⟨nm, q1, p1, g1, n1, l1⟩
    · left
      refine ⟨e, st, by rw [pRep, Pr.bind_err (show pTopic s q = .error e from Pr.bind_err p1)], ?_, x1, y1⟩
      rw [g1]
      simp only [Option.bind_some]
      exact died st [] y1
    rw [g1]
    simp only [Option.bind_some]
    rcases (Q_count 4 4 (by decide) (by decide) 4 4 rfl rfl (by decide)).run s q1 l1 with ⟨e, st, p2, g2, x2, y2⟩ | ⟨c, q2, p2, g2, n2, l2⟩
    · left
      refine ⟨e, st, by rw [pRep, Pr.bind_err]; rw [pTopic, Pr.bind_of p1, Pr.bind_err]; rw [pRow, Pr.bind_err p2], ?_, x2, y2⟩
      have := died st nm y2
      rw [gCount_d y2 (by decide) (by decide)] at this
      rw [g2]
      exact this
    obtain ⟨c1, c2, c3, c4, c5, c6⟩ := pCount_ok (by decide) (by decide) l1 p2
    have c2 := c2 (by decide)
    rw [g2]
    simp only [Option.bind_some]
    obtain ⟨ps, e1, e2⟩ := topics_l2 c s (by omega) c.toNat (c.toNat + 1) 0 [] q2 (by omega) (by omega) (by omega) rfl
    rw [e2]
    simp only [Option.bind_some, gErr_eq, if_true]
    rw [if_pos (by omega), if_pos (by omega), List.nil_append]
    have ht : pTopic s q = .ok (⟨nm, ps⟩, q2 + 4 * c.toNat) := by
      rw [pTopic, Pr.bind_of p1, Pr.bind_of (a := ps) (r := q2 + 4 * c.toNat) (by rw [pRow, Pr.bind_of p2, e1])]
      rfl
    rw [pRep, Pr.bind_of ht]
    rcases topics_l1 n s hs hn m fuel (k + 1) (acc ++ [⟨nm, ps⟩]) (q2 + 4 * c.toNat) (by omega) (by omega) (by omega) (by rw [List.length_append, h4]; rfl) with ⟨e, st, r1, r2, r3, r4⟩ | ⟨l, r, r1, r2, r3, r4⟩
    · exact .inl ⟨e, st, by rw [Pr.bind_err r1], r2, r3, r4⟩
    · refine .inr ⟨⟨nm, ps⟩ :: l, r, by rw [Pr.bind_of r1]; rfl, ?_, by omega, r4⟩
      rw [r2, List.append_assoc, show k + 1 + m = k + (m + 1) by omega]
      rfl
theorem B_topics : CB f_value_Topics (pRow 4 6 pTopic) [] := by
  refine ⟨fun st h => ?_, fun s q hs hq => ?_⟩
  · unfold f_value_Topics
    rw [gCount_d h (by decide) (by decide)]
    simp only [Option.bind_some]
    rw [show (0 : Int).toNat + 1 = 1 from rfl, f_value_Topics_l1, if_neg (by decide)]
    rfl
  · unfold f_value_Topics
    rcases (Q_count 4 6 (by decide) (by decide) 4 6 rfl rfl (by decide)).run s q hq with ⟨e, st, p1, g1, x1, y1⟩ | ⟨c, q1, p1, g1, n1, l1⟩
    · refine .inl ⟨e, st, Pr.bind_err p1, ?_, x1, y1⟩
      rw [g1]
      simp only [Option.bind_some]
      rw [show (0 : Int).toNat + 1 = 1 from rfl, f_value_Topics_l1, if_neg (by decide)]
      rfl
    · obtain ⟨c1, c2, c3, c4, c5, c6⟩ := pCount_ok (by decide) (by decide) hq p1
      have c2 := c2 (by decide)
      rw [g1, pRow, Pr.bind_of p1]
      simp only [Option.bind_some]
      rcases topics_l1 c s hs (by omega) c.toNat (c.toNat + 1) 0 [] q1 (by omega) (by omega) l1 rfl with ⟨e, st, r1, r2, r3, r4⟩ | ⟨l, r, r1, r2, r3, r4⟩
      · exact .inl ⟨e, st, r1, by rw [r2]; rfl, r3, r4⟩
      · refine .inr ⟨l, r, r1, ?_, by omega, r4⟩
        rw [r2, List.nil_append]
        rfl
end Go.Proofs.Ytagbblaegdedpaa.Sl
namespace Go.Proofs.Ytagbblaegdedpaa.Sl
open Go.RowKit
set_option linter.unusedVariables false
set_option linter.unusedSimpArgs false
theorem at_drop {α : Type} {l : List α} {k : Nat} {x : α} {t : List α} (h : l.drop k = x :: t) : l[k]? = some x ∧ l.drop (k + 1) = t ∧ l.length = k + 1 + t.length := by
  have hl := congrArg List.length h
  rw [List.length_drop, List.length_cons] at hl
  refine ⟨?_, ?_, by omega⟩
  · have := congrArg (fun z => z[0]?) h
    simpa using this
  · rw [← List.drop_drop, h]
    rfl
theorem nil_drop {α : Type} {l : List α} {k : Nat} (h : l.drop k = []) : l.length ≤ k := List.drop_eq_nil_iff.1 h
def up {α : Type} (lt : α → α → Bool) : Option α → List α → Bool
  | _, [] => true
  | none, x :: t => up lt (some x) t
  | some p, x :: t => lt p x && up lt (some x) t
def ltI (a b : Int) : Bool := decide (a < b)
theorem rint_loop (a0 : List Int) (hb : a0.length ≤ 140737488355328) : ∀ (t : List Int) (p : Int) (k fuel : Nat) (y : Bool), a0.drop k = p :: t → t.length < fuel → ∃ z, f_value_risingint_l1 a0 fuel y ((k : Int) + 1) = some (if up ltI (some p) t = true then .go (y, z) else .ret false)
  | [], p, k, fuel + 1, y, h, hf => by
    obtain ⟨h1, h2, h3⟩ := at_drop h
    refine ⟨(k : Int) + 1, ?_⟩
    rw [f_value_risingint_l1, if_neg (by simp only [List.length_nil] at h3; omega)]
    rfl
  | x :: t, p, k, fuel + 1, y, h, hf => by
    obtain ⟨h1, h2, h3⟩ := at_drop h
    obtain ⟨g1, g2, g3⟩ := at_drop h2
    rw [List.length_cons] at hf h3
    obtain ⟨z, hz⟩ := rint_loop a0 hb t x (k + 1) fuel y h2 (by omega)
    rw [f_value_risingint_l1, if_pos (by omega), if_pos (by omega), if_pos (by omega), show ((k : Int) + 1 - 1).toNat = k by omega, h1]
    rw [Option.bind_some]
    rw [if_pos (by omega), show ((k : Int) + 1).toNat = k + 1 by omega, g1]
    rw [Option.bind_some]
    by_cases hc : p < x
    · rw [if_neg (by omega), if_pos (by omega)]
      refine ⟨z, ?_⟩
      rw [show ((k : Int) + 1 + 1) = ((k + 1 : Nat) : Int) + 1 by omega, hz]
      simp only [up, ltI, hc, decide_true, Bool.true_and]
    · rw [if_pos (by omega)]
      refine ⟨0, ?_⟩
      simp only [up, ltI, hc, decide_false, Bool.false_and, Bool.false_eq_true, if_false]
theorem rint_eq (a0 : List Int) (hb : a0.length ≤ 140737488355328) : f_value_risingint a0 = some (up ltI none a0) := by
  unfold f_value_risingint
  cases a0 with
  | nil => rfl
  | cons x t =>
    obtain ⟨z, hz⟩ := rint_loop (x :: t) hb t x 0 ((((x :: t).length : Int) - 1).toNat + 1) false rfl (by simp only [List.length_cons]; omega)
    rw [show (((0 : Nat) : Int) + 1) = 1 from rfl] at hz
    rw [hz]
    simp only [up]
    cases up ltI (some x) t <;> rfl
theorem rstr_loop (a0 : List (List UInt8)) (hb : a0.length ≤ 140737488355328) : ∀ (t : List (List UInt8)) (p : List UInt8) (k fuel : Nat) (y : Bool), a0.drop k = p :: t → t.length < fuel → ∃ z, f_value_risingstring_l1 a0 fuel y ((k : Int) + 1) = some (if up Op.bytesLess (some p) t = true then .go (y, z) else .ret false)
  | [], p, k, fuel + 1, y, h, hf => by
    obtain ⟨h1, h2, h3⟩ := at_drop h
    refine ⟨(k : Int) + 1, ?_⟩
    rw [f_value_risingstring_l1, if_neg (by simp only [List.length_nil] at h3; omega)]
    rfl
  | x :: t, p, k, fuel + 1, y, h, hf => by
    obtain ⟨h1, h2, h3⟩ := at_drop h
    obtain ⟨g1, g2, g3⟩ := at_drop h2
    rw [List.length_cons] at hf h3
    obtain ⟨z, hz⟩ := rstr_loop a0 hb t x (k + 1) fuel y h2 (by omega)
    rw [f_value_risingstring_l1, if_pos (by omega), if_pos (by omega), if_pos (by omega), show ((k : Int) + 1 - 1).toNat = k by omega, h1]
    simp only [Option.bind_some]
    rw [if_pos (by omega), show ((k : Int) + 1).toNat = k + 1 by omega, g1]
    simp only [Option.bind_some]
    by_cases hc : Op.bytesLess p x = true
    · rw [if_pos hc, if_pos (by omega)]
      refine ⟨z, ?_⟩
      rw [show ((k : Int) + 1 + 1) = ((k + 1 : Nat) : Int) + 1 by omega, hz]
      simp only [up, hc, Bool.true_and]
    · rw [if_neg hc]
      refine ⟨0, ?_⟩
      simp only [up, hc, Bool.false_and, Bool.false_eq_true, if_false]
theorem rstr_eq (a0 : List (List UInt8)) (hb : a0.length ≤ 140737488355328) : f_value_risingstring a0 = some (up Op.bytesLess none a0) := by
  unfold f_value_risingstring
  cases a0 with
  | nil => rfl
  | cons x t =>
    obtain ⟨z, hz⟩ := rstr_loop (x :: t) hb t x 0 ((((x :: t).length : Int) - 1).toNat + 1) false rfl (by simp only [List.length_cons]; omega)
    rw [show (((0 : Nat) : Int) + 1) = 1 from rfl] at hz
    rw [hz]
    simp only [up]
    cases up Op.bytesLess (some x) t <;> rfl
def okn (n : Int) : Bool := decide (0 ≤ n) && decide (n ≤ 2147483647)
def okps (l : List Int) : Bool := l.all okn && up ltI none l && !l.isEmpty
def oktB (t : Top) : Bool := !t.fName.isEmpty && decide (t.fName.length ≤ 32767) && okps t.fParts
def okts (l : List Top) : Bool := l.all oktB && up Op.bytesLess none (l.map (·.fName))
theorem parts_loop (y : Bool) : ∀ l : List Int, (∀ n, n ∈ l → wI n) → f_value_parts_l1 l y = some (if l.all okn = true then .go y else .ret false)
  | [], h => rfl
  | n :: l, h => by
    have hn := h n (.head _)
    rw [f_value_parts_l1, gFits_eq _ _ hn, fits_4, List.all_cons]
    by_cases h1 : n < 0
    · have : okn n = false := by unfold okn; simp; omega
      rw [if_pos h1, this]
      rfl
    · rw [if_neg h1, Option.bind_some]
      by_cases h2 : n ≤ 2147483647
      · have : okn n = true := by unfold okn; simp; omega
        rw [if_pos (by simp; omega), parts_loop y l (fun m hm => h m (.tail _ hm)), this, Bool.true_and]
      · have : okn n = false := by unfold okn; simp; omega
        rw [if_neg (by simp; omega), this]
        rfl
theorem parts_eq (l : List Int) (hw : wL wI l) : f_value_parts l = some (okps l) := by
  unfold f_value_parts okps
  rw [parts_loop false l hw.2]
  cases hall : l.all okn with
  | false => rfl
  | true =>
    simp only [if_true, Option.bind_some, Bool.true_and]
    cases l with
    | nil => rfl
    | cons x t =>
      rw [if_pos (by simp only [List.length_cons]; omega), rint_eq _ (by have := hw.1; omega)]
      simp
theorem vtopics_loop (y : Bool) : ∀ (l : List Top) (acc : List (List UInt8)), (∀ t, t ∈ l → wf_Top t) → acc.length + l.length ≤ 1000000 → f_value_topics_l1 l y acc = some (if l.all oktB = true then .go (y, acc ++ l.map (·.fName)) else .ret false)
  | [], acc, h, hl => by simp [f_value_topics_l1]
  | t :: l, acc, h, hl => by
    have ht := h t (.head _)
    rw [List.length_cons] at hl
    rw [f_value_topics_l1, parts_eq _ ht.2, List.all_cons]
    by_cases h1 : t.fName = []
    · have : oktB t = false := by simp [oktB, h1]
      rw [if_pos h1, this]
      rfl
    · rw [if_neg h1]
      by_cases h2 : (t.fName.length : Int) > 32767
      · have : oktB t = false := by simp [oktB, show ¬ t.fName.length ≤ 32767 by omega]
        rw [if_pos h2, this]
        rfl
      · rw [if_neg h2, Option.bind_some]
        have hne : t.fName.isEmpty = false := by cases hh : t.fName with | nil => exact absurd hh h1 | cons c u => rfl
        have ho : oktB t = okps t.fParts := by simp [oktB, hne, show t.fName.length ≤ 32767 by omega]
        rw [ho]
        cases hp : okps t.fParts with
        | false => rfl
        | true =>
          rw [if_pos rfl, if_pos (by omega), vtopics_loop y l _ (fun u hu => h u (.tail _ hu)) (by rw [List.length_append]; simp only [List.length_cons, List.length_nil]; omega), Bool.true_and, List.map_cons, List.append_assoc]
          rfl
theorem vtopics_eq (l : List Top) (hw : ∀ t, t ∈ l → wf_Top t) (hl : l.length ≤ 1000000) : f_value_topics l = some (okts l) := by
  unfold f_value_topics okts
  rw [vtopics_loop false l [] hw (by simpa using hl)]
  cases hall : l.all oktB with
  | false => rfl
  | true =>
    simp only [if_true, Option.bind_some, Bool.true_and, List.nil_append]
    rw [rstr_eq _ (by rw [List.length_map]; omega)]
    rfl
end Go.Proofs.Ytagbblaegdedpaa.Sl
namespace Go.Proofs.Ytagbblaegdedpaa.Sl
open Go.RowKit
set_option linter.unusedVariables false
set_option linter.unusedSimpArgs false
theorem same_loop (a b : List Int) (ha : a.length ≤ 140737488355328) (y : Bool) : ∀ (t u : List Int) (k fuel : Nat), a.drop k = t → b.drop k = u → t.length = u.length → t.length < fuel → ∃ z, f_r01_Same_l1 a b fuel y k = some (if t = u then .go (y, z) else .ret false)
  | [], [], k, fuel + 1, ht, hu, hl, hf => by
    have := nil_drop ht
    exact ⟨k, by rw [f_r01_Same_l1, if_neg (by omega), if_pos rfl]⟩
  | [], d :: u, k, fuel, ht, hu, hl, hf => by simp at hl
  | c :: t, [], k, fuel, ht, hu, hl, hf => by simp at hl
  | c :: t, d :: u, k, fuel + 1, ht, hu, hl, hf => by
    obtain ⟨t1, t2, t3⟩ := at_drop ht
    obtain ⟨u1, u2, u3⟩ := at_drop hu
    simp only [List.length_cons] at hl hf
    obtain ⟨z, hz⟩ := same_loop a b ha y t u (k + 1) fuel t2 u2 (by omega) (by omega)
    rw [f_r01_Same_l1, if_pos (by omega), t1, Option.bind_some, u1, Option.bind_some]
    by_cases hc : c = d
    · rw [if_pos hc, if_pos (by omega), hz]
      subst hc
      refine ⟨z, ?_⟩
      by_cases h : t = u
      · rw [if_pos h, if_pos (by rw [h])]
      · rw [if_neg h, if_neg (by simpa using h)]
    · rw [if_neg hc]
      exact ⟨0, by rw [if_neg (fun h => hc (List.cons.inj h).1)]⟩
theorem same_eq (a b : List Int) (ha : a.length ≤ 140737488355328) : f_r01_Same a b = some (decide (a = b)) := by
  unfold f_r01_Same
  by_cases hl : (a.length : Int) = (b.length : Int)
  · rw [if_pos hl]
    obtain ⟨z, hz⟩ := same_loop a b ha false a b 0 (((a.length : Int)).toNat + 1) rfl rfl (by omega) (by omega)
    rw [hz]
    by_cases h : a = b
    · rw [if_pos h, decide_eq_true h]
      rfl
    · rw [if_neg h, decide_eq_false h]
      rfl
  · rw [if_neg hl, decide_eq_false (fun h => hl (by rw [h]))]
def sameT (a b : Top) : Bool := decide (a.fName = b.fName) && decide (a.fParts = b.fParts)
def sameTs : List Top → List Top → Bool
  | [], [] => true
  | a :: l, b :: m => sameT a b && sameTs l m
  | _, _ => false
theorem sameTs_len : ∀ (l m : List Top), sameTs l m = true → l.length = m.length
  | [], [], h => rfl
  | [], b :: m, h => nomatch h
  | a :: l, [], h => nomatch h
  | a :: l, b :: m, h => by
    rw [sameTs, Bool.and_eq_true] at h
    rw [List.length_cons, List.length_cons, sameTs_len l m h.2]
theorem rsame_loop (a0 a1 : List Top) (h0 : a0.length ≤ 1000000) (y : Bool) : ∀ (l u : List Top) (k fuel : Nat), (∀ t, t ∈ l → t.fParts.length ≤ 140737488355328) → a0.drop k = l → a1.drop k = u → l.length = u.length → l.length < fuel → ∃ z, f_r14_SameTopics_l1 a0 a1 fuel y k = some (if sameTs l u = true then .go (y, z) else .ret false)
  | [], [], k, fuel + 1, hw, ht, hu, hl, hf => by
    have := nil_drop ht
    exact ⟨k, by rw [f_r14_SameTopics_l1, if_neg (by omega)]; rfl⟩
  | [], d :: u, k, fuel, hw, ht, hu, hl, hf => by simp at hl
  | c :: l, [], k, fuel, hw, ht, hu, hl, hf => by simp at hl
  | c :: l, d :: u, k, fuel + 1, hw, ht, hu, hl, hf => by
    obtain ⟨t1, t2, t3⟩ := at_drop ht
    obtain ⟨u1, u2, u3⟩ := at_drop hu
    simp only [List.length_cons] at hl hf
    obtain ⟨z, hz⟩ := rsame_loop a0 a1 h0 y l u (k + 1) fuel (fun t ht => hw t (.tail _ ht)) t2 u2 (by omega) (by omega)
    rw [f_r14_SameTopics_l1, if_pos (by omega), t1, Option.bind_some, u1, Option.bind_some, sameTs, sameT, same_eq _ _ (hw c (.head _))]
    by_cases hc : c.fName = d.fName
    · rw [if_pos hc, decide_eq_true hc, Option.bind_some, Bool.true_and]
      cases decide (c.fParts = d.fParts) with
      | false => exact ⟨0, rfl⟩
      | true =>
        rw [if_pos rfl, if_pos (by omega), Bool.true_and]
        exact ⟨z, hz⟩
    · rw [if_neg hc, decide_eq_false hc]
      exact ⟨0, rfl⟩
theorem rsame_eq (a b : List Top) (h0 : a.length ≤ 1000000) (ha : ∀ t, t ∈ a → t.fParts.length ≤ 140737488355328) : f_r14_SameTopics a b = some (sameTs a b) := by
  unfold f_r14_SameTopics
  by_cases hl : (a.length : Int) = (b.length : Int)
  · obtain ⟨z, hz⟩ := rsame_loop a b h0 false a b 0 (((a.length : Int)).toNat + 1) ha rfl rfl (by omega) (by omega)
    rw [if_pos hl, hz]
    cases sameTs a b <;> rfl
  · rw [if_neg hl]
    have : sameTs a b = false := by
      cases h : sameTs a b with
      | false => rfl
      | true => exact absurd (congrArg Int.ofNat (sameTs_len a b h)) hl
    rw [this]
def wT (t : Top) : Nat := t.fName.length + 4 * t.fParts.length + 6
def wTs : List Top → Nat
  | [] => 0
  | t :: l => wT t + wTs l
theorem few_loop (y : Int) : ∀ (l : List Top) (acc : Int), (∀ t, t ∈ l → wf_Top t) → 0 ≤ acc → acc ≤ 1000 → (f_l14_Few_l1 l y acc = some (.ret 0)) ∨ (∃ z, f_l14_Few_l1 l y acc = some (.go z) ∧ acc + wTs l ≤ 1000)
  | [], acc, hw, h0, h1 => .inr ⟨_, rfl, by simp [wTs]; omega⟩
  | t :: l, acc, hw, h0, h1 => by
    have ht := hw t (.head _)
    have ht1 : t.fName.length ≤ 140737488351232 := ht.1
    have ht2 : t.fParts.length ≤ 140737488351232 := ht.2.1
    rw [f_l14_Few_l1, if_pos (by omega), if_pos (by omega), if_pos (by omega), if_pos (by omega)]
    by_cases hc : (acc + (((t.fName.length : Int) + (4 * (t.fParts.length : Int))) + 6)) > 1000
    · rw [if_pos hc]
      exact .inl rfl
    · rw [if_neg hc]
      rcases few_loop y l _ (fun u hu => hw u (.tail _ hu)) (by omega) (show acc + (((t.fName.length : Int) + (4 * (t.fParts.length : Int))) + 6) ≤ 1000 by omega) with h | ⟨z, h, h2⟩
      · exact .inl h
      · exact .inr ⟨z, h, by simp only [wTs, wT]; omega⟩
theorem few_eq (l : List Top) (hw : ∀ t, t ∈ l → wf_Top t) : (f_l14_Few l = some 0) ∨ (f_l14_Few l = some 1 ∧ wTs l ≤ 1000) := by
  unfold f_l14_Few
  rcases few_loop 0 l 0 hw (by decide) (by decide) with h | ⟨z, h, h2⟩
  · exact .inl (by rw [h]; rfl)
  · exact .inr ⟨by rw [h]; rfl, by omega⟩
theorem wTs_len : ∀ l : List Top, l.length * 6 ≤ wTs l
  | [] => by simp [wTs]
  | t :: l => by have := wTs_len l; simp only [wTs, wT, List.length_cons]; omega
theorem wTs_mem : ∀ (l : List Top) (t : Top), t ∈ l → wT t ≤ wTs l
  | u :: l, t, h => by
    rcases List.mem_cons.1 h with rfl | h
    · simp only [wTs]; omega
    · have := wTs_mem l t h; simp only [wTs]; omega
theorem encs_len4 : ∀ l : List Int, (encs (fun n => be n 4) l).length = 4 * l.length
  | [] => rfl
  | n :: l => by rw [encs, List.length_append, be_length, encs_len4 l, List.length_cons]; omega
theorem encT_len (t : Top) : (encT t).length = wT t := by
  simp only [encT, List.length_append, be_length, encs_len4, wT]
  omega
theorem encTs_len : ∀ l : List Top, (encs encT l).length = wTs l
  | [] => rfl
  | t :: l => by rw [encs, List.length_append, encT_len, encTs_len l, wTs]
theorem put_l2 : ∀ (l : List Int) (t : List UInt8), (∀ n, n ∈ l → fits n 4 = true) → t.length + 4 * l.length ≤ 1000000000 → f_value_PutTopics_l2 l (t, 0) = some (t ++ encs (fun n => be n 4) l, 0)
  | [], t, h, hl => by rw [f_value_PutTopics_l2, encs, List.append_nil]
  | n :: l, t, h, hl => by
    rw [List.length_cons] at hl
    rw [f_value_PutTopics_l2, gOInt_z (h n (.head _)) (by omega), Option.bind_some, put_l2 l _ (fun m hm => h m (.tail _ hm)) (by rw [List.length_append, be_length]; show t.length + 4 + 4 * l.length ≤ _; omega), encs, List.append_assoc]
    rfl
theorem gPutText_z {t d : List UInt8} (hf : d.length ≤ 32767) (ht : t.length ≤ 1000000000) : gPutText (t, 0) d = some (t ++ (be (d.length : Int) 2 ++ d), 0) := by
  rw [gPutText_eq _ _ (by simp only; omega)]
  have := gPutFixed_z (t := t) (b := ⟨false, d⟩) (k := 2) (fits_small (.inl rfl) (show -32768 ≤ (d.length : Int) by omega) (show (d.length : Int) ≤ 32767 by omega)) rfl (by simp only; omega)
  rw [gPutFixed_eq _ _ _ ⟨by decide, by simp only; omega⟩] at this
  exact this
theorem put_l1 : ∀ (l : List Top) (t : List UInt8), (∀ x, x ∈ l → okT x) → t.length + wTs l ≤ 1000000 → wTs l ≤ 2000 → f_value_PutTopics_l1 l (t, 0) = some (t ++ encs encT l, 0)
  | [], t, h, hl, hw => by rw [f_value_PutTopics_l1, encs, List.append_nil]
  | x :: l, t, h, hl, hw => by
    obtain ⟨h1, h2, h3⟩ := h x (.head _)
    simp only [wTs, wT] at hl hw
    rw [f_value_PutTopics_l1, gPutText_z (by omega) (by omega), Option.bind_some, gOInt_z h2 (by simp only [List.length_append, be_length]; omega), Option.bind_some, put_l2 _ _ h3 (by simp only [List.length_append, be_length]; show _ + (4 : Int).toNat + _ ≤ _; omega), Option.bind_some, put_l1 l _ (fun y hy => h y (.tail _ hy)) (by simp only [List.length_append, be_length, encs_len4]; show _ + (4 : Int).toNat + _ + _ ≤ _; omega) (by omega)]
    simp only [encs, encT, List.append_assoc]
    rfl
theorem put_topics (l : List Top) (t : List UInt8) (h : ∀ x, x ∈ l → okT x) (ht : t.length ≤ 900000) (hw : wTs l ≤ 2000) : f_value_PutTopics (t, 0) l = some (t ++ (be (l.length : Int) 4 ++ encs encT l), 0) := by
  have := wTs_len l
  unfold f_value_PutTopics
  rw [gOInt_z (fits_small (.inr (.inl rfl)) (by omega) (by omega)) (by omega), Option.bind_some, put_l1 l _ h (by simp only [List.length_append, be_length]; show _ + (4 : Int).toNat + _ ≤ _; omega) hw, List.append_assoc]
  rfl
end Go.Proofs.Ytagbblaegdedpaa.Sl
namespace Go.Proofs.Ytagbblaegdedpaa.Sl
open Go.RowKit
set_option linter.unusedVariables false
set_option linter.unusedSimpArgs false
theorem fits_2 (n : Int) : fits n 2 = decide (-32768 ≤ n ∧ n ≤ 32767) := by
  rw [Bool.eq_iff_iff]
  unfold fits
  simp only [Bool.and_eq_true, decide_eq_true_eq]
  have : (2 : Int) ^ (8 * (2 : Int).toNat - 1) = 32768 := by decide
  omega
theorem fits_8 (n : Int) : fits n 8 = decide (-9223372036854775808 ≤ n ∧ n ≤ 9223372036854775807) := by
  rw [Bool.eq_iff_iff]
  unfold fits
  simp only [Bool.and_eq_true, decide_eq_true_eq]
  have : (2 : Int) ^ (8 * (8 : Int).toNat - 1) = 9223372036854775808 := by decide
  omega
theorem fits_1 (n : Int) : fits n 1 = decide (-128 ≤ n ∧ n ≤ 127) := by
  rw [Bool.eq_iff_iff]
  unfold fits
  simp only [Bool.and_eq_true, decide_eq_true_eq]
  have : (2 : Int) ^ (8 * (1 : Int).toNat - 1) = 128 := by decide
  omega
def badR (v : Val) : Prop := v.fProducer < 0 ∨ v.fEpoch < 0 ∨ v.fEpoch > 32767 ∨ v.fTimeout < 0 ∨ v.fTimeout > 2147483647 ∨ v.fUpdated < 0 ∨ v.fStarted < -1
def badC (v : Val) : Prop := ¬ ((1 ≤ v.fState ∧ v.fState ≤ 3) ↔ 0 < (v.fTopics.length : Int)) ∨ ¬ (v.fState = 0 ↔ v.fStarted = -1)
open Classical in
noncomputable def chkV (v : Val) : Int := if badR v then 11 else if v.fState < 0 ∨ v.fState > 6 then 12 else if badC v then 10 else if okts v.fTopics = true then 0 else 13
set_option maxHeartbeats 4000000 in
theorem vcheck_eq (v : Val) (hw : wf_Val v) (hl : v.fTopics.length ≤ 1000000) : f_value_Check v = some (chkV v) := by
  unfold f_value_Check chkV
  rw [vtopics_eq _ hw.2.2.2.2.1.2 hl, gFits_eq _ _ hw.2.1, gFits_eq _ _ hw.2.2.1, fits_2, fits_4]
  generalize okts v.fTopics = b
  by_cases hr : badR v
  · rw [if_pos hr]
    unfold badR at hr
    by_cases c1 : v.fProducer < 0
    · rw [if_pos c1]
    rw [if_neg c1]
    by_cases c2 : v.fEpoch < 0
    · rw [if_pos c2]
    rw [if_neg c2, Option.bind_some]
    by_cases c3 : -32768 ≤ v.fEpoch ∧ v.fEpoch ≤ 32767
    · rw [if_pos (decide_eq_true c3)]
      by_cases c4 : v.fTimeout < 0
      · rw [if_pos c4]
      rw [if_neg c4, Option.bind_some]
      by_cases c5 : -2147483648 ≤ v.fTimeout ∧ v.fTimeout ≤ 2147483647
      · rw [if_pos (decide_eq_true c5)]
        by_cases c6 : v.fUpdated < 0
        · rw [if_pos c6]
        rw [if_neg c6, if_pos (by omega)]
      · rw [if_neg (by simp only [decide_eq_true_eq]; exact c5)]
    · rw [if_neg (by simp only [decide_eq_true_eq]; exact c3)]
  rw [if_neg hr]
  unfold badR at hr
  rw [if_neg (by omega), if_neg (by omega), Option.bind_some, if_pos (decide_eq_true (by omega)), if_neg (by omega), Option.bind_some, if_pos (decide_eq_true (by omega)), if_neg (by omega), if_neg (by omega)]
  unfold f_value_Idle
  by_cases hs : v.fState < 0 ∨ v.fState > 6
  · rw [if_pos hs]
    by_cases c1 : v.fState < 0
    · rw [if_pos c1]
    · rw [if_neg c1, if_pos (by omega)]
  rw [if_neg hs, if_neg (by omega), if_neg (by omega)]
  by_cases hc : badC v
  · rw [if_pos hc]
    unfold badC at hc
    by_cases c0 : v.fState = 0
    · rw [if_pos c0, Option.bind_some, if_pos rfl]
      by_cases c1 : (v.fTopics.length : Int) = 0
      · rw [if_pos c1, if_pos c0, if_neg (by omega)]
      · rw [if_neg c1]
    · rw [if_neg c0]
      by_cases c4 : v.fState ≥ 4
      · rw [if_pos c4, Option.bind_some, if_pos rfl]
        by_cases c1 : (v.fTopics.length : Int) = 0
        · rw [if_pos c1, if_neg c0, if_pos (by omega)]
        · rw [if_neg c1]
      · rw [if_neg c4, Option.bind_some, if_neg (by decide)]
        by_cases c1 : (v.fTopics.length : Int) = 0
        · rw [if_pos c1]
        · rw [if_neg c1, if_neg c0, if_pos (by omega)]
  rw [if_neg hc]
  unfold badC at hc
  by_cases c0 : v.fState = 0
  · rw [if_pos c0, Option.bind_some, if_pos rfl, if_pos (by omega), if_pos c0, if_pos (by omega)]
    cases b <;> rfl
  · rw [if_neg c0]
    by_cases c4 : v.fState ≥ 4
    · rw [if_pos c4, Option.bind_some, if_pos rfl, if_pos (by omega), if_neg c0, if_neg (by omega)]
      cases b <;> rfl
    · rw [if_neg c4, Option.bind_some, if_neg (by decide), if_neg (by omega), if_neg c0, if_neg (by omega)]
      cases b <;> rfl
theorem chk_zero {v : Val} (h : chkV v = 0) : ¬ badR v ∧ ¬ (v.fState < 0 ∨ v.fState > 6) ∧ ¬ badC v ∧ okts v.fTopics = true := by
  unfold chkV at h
  split at h
  · exact absurd h (by decide)
  · rename_i h1
    split at h
    · exact absurd h (by decide)
    · rename_i h2
      split at h
      · exact absurd h (by decide)
      · rename_i h3
        split at h
        · rename_i h4
          exact ⟨h1, h2, h3, h4⟩
        · exact absurd h (by decide)
theorem okts_ok {l : List Top} (h : okts l = true) (hw : wTs l ≤ 2000) : ∀ t, t ∈ l → okT t := by
  intro t ht
  unfold okts at h
  rw [Bool.and_eq_true] at h
  have h1 := List.all_eq_true.1 h.1 t ht
  unfold oktB okps at h1
  simp only [Bool.and_eq_true, decide_eq_true_eq, List.all_eq_true] at h1
  have h2 := wTs_mem l t ht
  unfold wT at h2
  refine ⟨fits_small (.inl rfl) (by omega) (by omega), fits_small (.inr (.inl rfl)) (by omega) (by omega), fun n hn => ?_⟩
  have h3 := h1.2.1.1 n hn
  unfold okn at h3
  simp only [Bool.and_eq_true, decide_eq_true_eq] at h3
  rw [fits_4]
  exact decide_eq_true (by omega)
def encV (v : Val) : List UInt8 := be 0 2 ++ (be v.fProducer 8 ++ (be v.fEpoch 2 ++ (be v.fTimeout 4 ++ (be v.fState 1 ++ ((be (v.fTopics.length : Int) 4 ++ encs encT v.fTopics) ++ (be v.fUpdated 8 ++ be v.fStarted 8))))))
def pEnd : Pr Unit := fun s q => if q = s.length then .ok ((), q) else .error 2
def pVal0 : Pr Val := (pInt 2).bind fun z => if z = 0 then (pInt 8).bind fun a => (pInt 2).bind fun b => (pInt 4).bind fun c => (pInt 1).bind fun d => (pRow 4 6 pTopic).bind fun l => (pInt 8).bind fun e => (pInt 8).bind fun f => pEnd.bind fun _ => .ret ⟨a, b, c, d, l, e, f⟩ else .err 7
def okV (v : Val) : Prop := fits v.fProducer 8 = true ∧ fits v.fEpoch 2 = true ∧ fits v.fTimeout 4 = true ∧ fits v.fState 1 = true ∧ (fits (v.fTopics.length : Int) 4 = true ∧ ∀ t, t ∈ v.fTopics → okT t) ∧ fits v.fUpdated 8 = true ∧ fits v.fStarted 8 = true
theorem val_spell {s : List UInt8} {v : Val} {r : Nat} (h : pVal0 s 0 = .ok (v, r)) : s = encV v ∧ okV v := by
  obtain ⟨z, q0, h0, h⟩ := Pr.bind_ok h
  split at h
  · rename_i hz
    subst hz
    obtain ⟨a, q1, h1, h⟩ := Pr.bind_ok h
    obtain ⟨b, q2, h2, h⟩ := Pr.bind_ok h
    obtain ⟨c, q3, h3, h⟩ := Pr.bind_ok h
    obtain ⟨d, q4, h4, h⟩ := Pr.bind_ok h
    obtain ⟨l, q5, h5, h⟩ := Pr.bind_ok h
    obtain ⟨e, q6, h6, h⟩ := Pr.bind_ok h
    obtain ⟨f, q7, h7, h⟩ := Pr.bind_ok h
    obtain ⟨u, q8, h8, h⟩ := Pr.bind_ok h
    injection h with h
    obtain ⟨rfl, rfl⟩ := Prod.mk.inj h
    have I2 := Sp_int 2 (by decide) (by decide)
    have I8 := Sp_int 8 (by decide) (by decide)
    obtain ⟨-, a2, -, a4, a5⟩ := I2.spell _ _ _ _ (Nat.zero_le _) h0
    obtain ⟨-, b2, -, b4, b5⟩ := I8.spell _ _ _ _ a2 h1
    obtain ⟨-, c2, -, c4, c5⟩ := I2.spell _ _ _ _ b2 h2
    obtain ⟨-, d2, -, d4, d5⟩ := (Sp_int 4 (by decide) (by decide)).spell _ _ _ _ c2 h3
    obtain ⟨-, e2, -, e4, e5⟩ := (Sp_int 1 (by decide) (by decide)).spell _ _ _ _ d2 h4
    obtain ⟨-, f2, -, f4, f5⟩ := Sp_topics.spell _ _ _ _ e2 h5
    obtain ⟨-, g2, -, g4, g5⟩ := I8.spell _ _ _ _ f2 h6
    obtain ⟨-, i2, -, i4, i5⟩ := I8.spell _ _ _ _ g2 h7
    have hq : q7 = s.length := by
      unfold pEnd at h8
      split at h8
      · rename_i hh; exact hh
      · exact nomatch h8
    refine ⟨?_, b5, c5, d5, e5, f5, g5, i5⟩
    have hs : s = s.take q7 := by rw [hq, List.take_length]
    rw [hs, i4, g4, f4, e4, d4, c4, b4, a4]
    simp only [encV, List.append_assoc, List.take_zero, List.nil_append]
  · exact nomatch h
theorem val_back {v : Val} (h : okV v) : ∃ r, pVal0 (encV v) 0 = .ok (v, r) := by
  obtain ⟨h1, h2, h3, h4, h5, h6, h7⟩ := h
  have I2 := Sp_int 2 (by decide) (by decide)
  have I8 := Sp_int 8 (by decide) (by decide)
  have hlen : (encV v).length = 37 + (encs encT v.fTopics).length := by
    simp only [encV, List.length_append, be_length]
    omega
  have hd : (encV v).drop 0 = encV v := rfl
  generalize hE : encV v = E at hd hlen ⊢
  have hh : E.drop 0 = be 0 2 ++ (be v.fProducer 8 ++ (be v.fEpoch 2 ++ (be v.fTimeout 4 ++ (be v.fState 1 ++ ((be (v.fTopics.length : Int) 4 ++ encs encT v.fTopics) ++ (be v.fUpdated 8 ++ (be v.fStarted 8 ++ []))))))) := by
    rw [hd, ← hE]
    simp only [encV, List.append_nil]
  have g0 := I2.back _ _ _ 0 (Nat.zero_le _) (fits_small (.inl rfl) (by decide) (by decide)) hh
  have hh := drop_step hh
  rw [be_length] at hh g0
  have g1 := I8.back _ _ _ _ (by omega) h1 hh
  have hh := drop_step hh
  rw [be_length] at hh g1
  have g2 := I2.back _ _ _ _ (by omega) h2 hh
  have hh := drop_step hh
  rw [be_length] at hh g2
  have g3 := (Sp_int 4 (by decide) (by decide)).back _ _ _ _ (by omega) h3 hh
  have hh := drop_step hh
  rw [be_length] at hh g3
  have g4 := (Sp_int 1 (by decide) (by decide)).back _ _ _ _ (by omega) h4 hh
  have hh := drop_step hh
  rw [be_length] at hh g4
  have g5 := Sp_topics.back _ _ _ _ (by omega) h5 hh
  have hh := drop_step hh
  rw [List.length_append, be_length] at hh g5
  have g6 := I8.back _ _ _ _ (by omega) h6 hh
  have hh := drop_step hh
  rw [be_length] at hh g6
  have g7 := I8.back _ _ _ _ (by omega) h7 hh
  rw [be_length] at g7
  refine ⟨E.length, ?_⟩
  rw [pVal0, Pr.bind_of g0, if_pos rfl, Pr.bind_of g1, Pr.bind_of g2, Pr.bind_of g3, Pr.bind_of g4, Pr.bind_of g5, Pr.bind_of g6, Pr.bind_of g7]
  have he : 0 + 2 + 8 + 2 + 4 + 1 + (4 + (encs encT v.fTopics).length) + 8 + 8 = E.length := by omega
  rw [he, Pr.bind_of (a := ()) (r := E.length) (by unfold pEnd; rw [if_pos rfl])]
  rfl
def zVal : Val := ⟨0, 0, 0, 0, [], 0, 0⟩
theorem gClose_d {st : I} (h : st.err ≠ 0) : gClose st = some (st.err, st) := by rw [gClose_eq, iclose_err h]
theorem okV_wf {v : Val} (h : okV v) (hl : wTs v.fTopics ≤ 1000000) : wf_Val v := by
  obtain ⟨h1, h2, h3, h4, h5, h6, h7⟩ := h
  have hn := wTs_len v.fTopics
  refine ⟨fits_rng h1, fits_rng h2, fits_rng h3, fits_rng h4, ⟨by omega, fun t ht => ?_⟩, fits_rng h6, fits_rng h7⟩
  have hw := wTs_mem _ _ ht
  unfold wT at hw
  exact ⟨show t.fName.length ≤ _ by omega, by omega, fun n hn => fits_rng ((h5.2 t ht).2.2 n hn)⟩
open Classical in
noncomputable def decV (s : List UInt8) : Val × Int := match pVal0 s 0 with
  | .error e => (zVal, e)
  | .ok (v, _) => if chkV v = 0 then (v, 0) else (zVal, chkV v)
theorem encV_len (v : Val) : (encV v).length = 37 + wTs v.fTopics := by
  simp only [encV, List.length_append, be_length, encTs_len]
  omega
theorem vdecode_eq (s : List UInt8) (hs : s.length ≤ 2000) : f_value_Decode s = some (decV s) := by
  unfold f_value_Decode decV
  rw [gNew_eq _ (by omega), Option.bind_some]
  have Q1' := Q1
  have hB := B_topics
  have r0 := Q2.run s 0 (Nat.zero_le _)
  rw [List.drop_zero] at r0
  rcases r0 with ⟨e, st, p0, g0, x0, y0⟩ | ⟨z, q0, p0, g0, n0, l0⟩
  · rw [show pVal0 s 0 = .error e from Pr.bind_err p0, g0]
    simp only [Option.bind_some, if_true, gInt_d y0, hB.dead _ y0, gClose_d y0, if_neg y0, x0]
    rw [if_neg (by rw [← x0]; exact y0)]
    rfl
  rw [g0, Option.bind_some]
  simp only
  by_cases hz : z = 0
  · have hp : pVal0 s 0 = ((pInt 8).bind fun a => (pInt 2).bind fun b => (pInt 4).bind fun c => (pInt 1).bind fun d => (pRow 4 6 pTopic).bind fun l => (pInt 8).bind fun e => (pInt 8).bind fun f => pEnd.bind fun _ => .ret (⟨a, b, c, d, l, e, f⟩ : Val)) s q0 := by rw [pVal0, Pr.bind_of p0, if_pos hz]
    rw [if_pos hz]
    have hval := fun v r (h : pVal0 s 0 = .ok (v, r)) => val_spell h
    rw [hp] at hval ⊢
    clear hp
    rcases Q8.run s q0 l0 with ⟨e, st, p1, g1, x1, y1⟩ | ⟨a, q1, p1, g1, n1, l1⟩
    · rw [Pr.bind_err p1, g1]
      simp only [Option.bind_some, gInt_d y1, hB.dead _ y1, gClose_d y1, x1]
      rw [if_neg (by rw [← x1]; exact y1)]
      rfl
    rw [g1, Option.bind_some]
    simp only
    rw [Pr.bind_of p1] at hval ⊢
    rcases Q2.run s q1 l1 with ⟨e, st, p2, g2, x2, y2⟩ | ⟨b, q2, p2, g2, n2, l2⟩
    · rw [Pr.bind_err p2, g2]
      simp only [Option.bind_some, gInt_d y2, hB.dead _ y2, gClose_d y2, x2]
      rw [if_neg (by rw [← x2]; exact y2)]
      rfl
    rw [g2, Option.bind_some]
    simp only
    rw [Pr.bind_of p2] at hval ⊢
    rcases Q4.run s q2 l2 with ⟨e, st, p3, g3, x3, y3⟩ | ⟨c, q3, p3, g3, n3, l3⟩
    · rw [Pr.bind_err p3, g3]
      simp only [Option.bind_some, gInt_d y3, hB.dead _ y3, gClose_d y3, x3]
      rw [if_neg (by rw [← x3]; exact y3)]
      rfl
    rw [g3, Option.bind_some]
    simp only
    rw [Pr.bind_of p3] at hval ⊢
    rcases Q1.run s q3 l3 with ⟨e, st, p4, g4, x4, y4⟩ | ⟨d, q4, p4, g4, n4, l4⟩
    · rw [Pr.bind_err p4, g4]
      simp only [Option.bind_some, gInt_d y4, hB.dead _ y4, gClose_d y4, x4]
      rw [if_neg (by rw [← x4]; exact y4)]
      rfl
    rw [g4, Option.bind_some]
    simp only
    rw [Pr.bind_of p4] at hval ⊢
    rcases hB.run s q4 (by omega) l4 with ⟨e, st, p5, g5, x5, y5⟩ | ⟨l, q5, p5, g5, n5, l5⟩
    · rw [Pr.bind_err p5, g5]
      simp only [Option.bind_some, gInt_d y5, hB.dead _ y5, gClose_d y5, x5]
      rw [if_neg (by rw [← x5]; exact y5)]
      rfl
    rw [g5, Option.bind_some]
    simp only
    rw [Pr.bind_of p5] at hval ⊢
    rcases Q8.run s q5 l5 with ⟨e, st, p6, g6, x6, y6⟩ | ⟨e', q6, p6, g6, n6, l6⟩
    · rw [Pr.bind_err p6, g6]
      simp only [Option.bind_some, gInt_d y6, hB.dead _ y6, gClose_d y6, x6]
      rw [if_neg (by rw [← x6]; exact y6)]
      rfl
    rw [g6, Option.bind_some]
    simp only
    rw [Pr.bind_of p6] at hval ⊢
    rcases Q8.run s q6 l6 with ⟨e, st, p7, g7, x7, y7⟩ | ⟨f, q7, p7, g7, n7, l7⟩
    · rw [Pr.bind_err p7, g7]
      simp only [Option.bind_some, gInt_d y7, hB.dead _ y7, gClose_d y7, x7]
      rw [if_neg (by rw [← x7]; exact y7)]
      rfl
    rw [g7, Option.bind_some]
    simp only
    rw [Pr.bind_of p7] at hval ⊢
    rw [gClose_eq, Option.bind_some]
    simp only
    by_cases hq : q7 = s.length
    · have he : pEnd s q7 = .ok ((), q7) := by unfold pEnd; rw [if_pos hq]
      rw [Pr.bind_of he] at hval ⊢
      have hv := hval _ _ rfl
      have hlen := congrArg List.length hv.1
      rw [encV_len] at hlen
      have hi : (iclose ⟨s.drop q7, q7, 0⟩).err = 0 := by rw [hq, List.drop_length]; rfl
      rw [hi, if_pos rfl, vcheck_eq _ (okV_wf hv.2 (by omega)) (show l.length ≤ 1000000 by have := wTs_len l; simp only at hlen; omega), Option.bind_some]
      show (if _ then _ else _) = some (if _ then _ else _)
      split <;> rfl
    · have he : pEnd s q7 = .error 2 := by unfold pEnd; rw [if_neg hq]
      have hi : (iclose ⟨s.drop q7, q7, 0⟩).err = 2 := by
        unfold iclose
        rw [if_neg]
        · rfl
        · intro h0
          have := List.drop_eq_nil_iff.1 h0
          omega
      rw [Pr.bind_err he, hi, if_neg (by decide)]
      rfl
  · have hp : pVal0 s 0 = .error 7 := by rw [pVal0, Pr.bind_of p0, if_neg hz]; rfl
    rw [if_neg hz, hp, gIFail_eq, Option.bind_some, ifail_z]
    have y : (⟨s.drop q0, q0, 7⟩ : I).err ≠ 0 := by simp
    simp only [Option.bind_some, gInt_d y, hB.dead _ y, gClose_d y]
    rfl
theorem encode_eq (v : Val) (hw : wf_Val v) (hl : wTs v.fTopics ≤ 2000) : f_value_Encode v = some (if chkV v = 0 then (encV v, 0) else ([], chkV v)) := by
  have hn := wTs_len v.fTopics
  unfold f_value_Encode
  rw [vcheck_eq v hw (by omega), Option.bind_some]
  by_cases hc : chkV v = 0
  · obtain ⟨h1, h2, h3, h4⟩ := chk_zero hc
    have hok := okts_ok h4 hl
    unfold badR at h1
    obtain ⟨w1, w2, w3, w4, w5, w6, w7⟩ := hw
    have f8 : ∀ n : Int, wI n → fits n 8 = true := fun n h => by rw [fits_8]; exact decide_eq_true h
    rw [if_pos hc, if_pos hc, gOInt_z (fits_small (.inl rfl) (by decide) (by decide)) (by simp), Option.bind_some, gOInt_z (f8 _ w1) (by simp only [List.length_append, be_length]; decide), Option.bind_some]
    rw [gOInt_z (by rw [fits_2]; exact decide_eq_true (by omega)) (by simp only [List.length_append, be_length]; decide), Option.bind_some]
    rw [gOInt_z (by rw [fits_4]; exact decide_eq_true (by omega)) (by simp only [List.length_append, be_length]; decide), Option.bind_some]
    rw [gOInt_z (by rw [fits_1]; exact decide_eq_true (by omega)) (by simp only [List.length_append, be_length]; decide), Option.bind_some]
    rw [put_topics _ _ hok (by simp only [List.length_append, be_length]; decide) hl, Option.bind_some]
    have hx : (2 : Int).toNat = 2 ∧ (8 : Int).toNat = 8 ∧ (4 : Int).toNat = 4 ∧ (1 : Int).toNat = 1 := ⟨rfl, rfl, rfl, rfl⟩
    rw [gOInt_z (f8 _ w6) (by simp only [List.length_append, be_length, encTs_len, hx, List.length_nil]; omega), Option.bind_some, gOInt_z (f8 _ w7) (by simp only [List.length_append, be_length, encTs_len, hx, List.length_nil]; omega), Option.bind_some, gOText_eq, otx_z, Option.bind_some]
    simp only [encV, List.append_assoc, List.nil_append, hx]
  · rw [if_neg hc, if_neg hc]
end Go.Proofs.Ytagbblaegdedpaa.Sl
namespace Go.Proofs.Ytagbblaegdedpaa.Sl
open Go.RowKit
set_option linter.unusedVariables false
set_option linter.unusedSimpArgs false
def encK (l : List UInt8) : List UInt8 := be 0 2 ++ (be (l.length : Int) 2 ++ l)
theorem kr_fits {l : List UInt8} (h : kright l = true) : fits (l.length : Int) 2 = true ∧ l.length ≤ 32767 ∧ l ≠ [] := by
  unfold kright at h
  simp only [Bool.and_eq_true, decide_eq_true_eq, Bool.not_eq_true'] at h
  refine ⟨fits_small (.inl rfl) (by omega) (by omega), by omega, fun h0 => ?_⟩
  rw [h0] at h
  exact absurd h.1 (by decide)
theorem kenc_good {l : List UInt8} (h : kright l = true) : kenc l = (encK l, 0) := by
  obtain ⟨h1, h2, h3⟩ := kr_fits h
  have hb : bright ⟨false, l⟩ = true := rfl
  have hbl : blen ⟨false, l⟩ = (l.length : Int) := by simp [blen]
  unfold kenc
  rw [if_pos h]
  unfold bputText bputFixed bwrite oint
  rw [if_pos hb, hbl, if_pos h1, if_pos (show fits 0 2 = true by decide), oput_z, oput_z, oput_z, otx_z]
  simp only [encK, List.nil_append, List.append_assoc]
  rfl
theorem kenc_bad {l : List UInt8} (h : kright l = false) : kenc l = ([], 4) := by
  unfold kenc
  rw [h]
  rfl
theorem kdec_enc {l : List UInt8} (h : kright l = true) : kdec (encK l) = (l, 0) := by
  obtain ⟨h1, h2, h3⟩ := kr_fits h
  have hlen : (encK l).length = 2 + (2 + l.length) := by simp only [encK, List.length_append, be_length]
  have ha : kdA (encK l) = ⟨(encK l).drop 2, 2, 0⟩ := by
    unfold kdA
    have := iint_ok (encK l) 0 2 (by decide) (by decide) (by omega)
    have e : beInt ((encK l).take 2) = 0 := by
      unfold encK
      rw [List.take_append_of_le_length (by rw [be_length]; omega), List.take_of_length_le (by rw [be_length]; omega)]
      decide
    rw [show (2 : Int) = ((2 : Nat) : Int) from rfl, this, e]
    rfl
  have hd : (encK l).drop 2 = (be (l.length : Int) 2 ++ l) ++ [] := by
    unfold encK
    rw [List.append_nil, List.drop_append_of_le_length (by rw [be_length]; omega), List.drop_of_length_le (by rw [be_length]; omega), List.nil_append]
  have hb := Sp_text.back (encK l) [] 2 l (by omega) ⟨h1, rfl⟩ hd
  have ht : btext ⟨(encK l).drop 2, 2, 0⟩ = (l, ⟨[], 2 + (2 + l.length), 0⟩) := by
    rcases QT.run (encK l) 2 (by omega) with ⟨e, st, p1, g1, x1, y1⟩ | ⟨b, r, p1, g1, n1, l1⟩
    · rw [hb] at p1
      exact nomatch p1
    · rw [hb] at p1
      injection p1 with p1
      obtain ⟨rfl, rfl⟩ := Prod.mk.inj p1
      rw [gText_eq] at g1
      have g1 := Option.some.inj g1
      have : 2 + (be (l.length : Int) 2 ++ l).length = (encK l).length := by rw [hlen, List.length_append, be_length]
      rw [this, List.drop_length, hlen] at g1
      exact g1
  unfold kdec
  rw [ha, ht]
  unfold kdB
  simp only
  rw [if_neg h3]
  rfl
end Go.Proofs.Ytagbblaegdedpaa.Sl
namespace Go.Proofs.Ytagbblaegdedpaa.Sl
open Go.RowKit
set_option linter.unusedVariables false
set_option linter.unusedSimpArgs false
set_option maxRecDepth 100000
def ft_cursitortop : FTab := [(26, 1, 1), (29, 0, 0), (29, 2, 2), (29, 4, 6), (97, 4, 4), (105, 0, 0), (105, 1, 1), (105, 3, 3), (107, 0, 0), (109, 0, 0)]
theorem ft_cursitortop_ok : (ft_cursitortop).OK Try.prog := ⟨FOK.mk Try.runUnderlying26 rfl Try.sizeOf9 rfl, FOK.mk Try.runUnderlying29 rfl Try.sizeOf3 rfl, FOK.mk Try.runUnderlying29 rfl Try.sizeOf26 rfl, FOK.mk Try.runUnderlying29 rfl Try.sizeOf27 rfl, FOK.mk Try.runUnderlying97 rfl Try.sizeOf68 rfl, FOK.mk Try.runUnderlying105 rfl Try.sizeOf3 rfl, FOK.mk Try.runUnderlying105 rfl Try.sizeOf3 rfl, FOK.mk Try.runUnderlying105 rfl Try.sizeOf26 rfl, FOK.mk Try.runUnderlying107 rfl Try.sizeOf26 rfl, FOK.mk Try.runUnderlying109 rfl Try.sizeOf9 rfl, trivial⟩
def f_top_WholeEntries (a0 : List UInt8 × List UInt8) (a1 : Val) (a2 : Val) : Option (Bool) := (gKEncode [97]).bind fun (x8, x9) => (if x9 = 0 then (if (x8.length : Int) = 5 then some false else some true) else some true).bind fun y12 => if y12 = true then none else ((if (a0.1.length : Int) > 500 then some true else (if (a0.2.length : Int) > 500 then some true else ((f_l14_Few a1.fTopics).bind fun x28 => if x28 = 0 then some true else ((f_l14_Few a2.fTopics).bind fun x31 => if x31 = 0 then some true else some false)))).bind fun y24 => if y24 = true then some true else ((gKEncode a0.1).bind fun (x35, x36) => (gKEncode a0.2).bind fun (x38, x39) => (if x36 = 0 then (if x39 = 0 then (if x35 = x38 then (if a0.1 = a0.2 then some false else some true) else (if a0.1 = a0.2 then some true else some false)) else some false) else some false).bind fun y46 => if y46 = true then none else ((f_value_Encode a1).bind fun (x54, x55) => (f_value_Encode a2).bind fun (x57, x58) => (if x55 = 0 then (if x58 = 0 then ((f_r14_Same a1 a2).bind fun x71 => if x54 = x57 then (if x71 = true then some false else some true) else (if x71 = true then some true else some false)) else some false) else some false).bind fun y67 => if y67 = true then none else (if x36 = 0 then ((gKDecode x35).bind fun (x78, x79) => (if x79 = 0 then (if x78 = a0.1 then some false else some true) else some true).bind fun y82 => if y82 = true then none else (if x55 = 0 then ((f_value_Decode x54).bind fun (x88, x91) => (if x91 = 0 then ((f_r14_Same x88 a1).bind fun x100 => if x100 = true then some false else some true) else some true).bind fun y97 => if y97 = true then none else some true) else some true)) else (if x55 = 0 then ((f_value_Decode x54).bind fun (x105, x108) => (if x108 = 0 then ((f_r14_Same x105 a1).bind fun x117 => if x117 = true then some false else some true) else some true).bind fun y114 => if y114 = true then none else some true) else some true)))))
set_option maxRecDepth 100000 in
set_option maxHeartbeats 4000000 in
theorem f_top_WholeEntries_spec (a0 : List UInt8 × List UInt8) (a1 : Val) (A1 : Option Addr) (c2 : Nat) (a2 : Val) (A3 : Option Addr) (c4 : Nat) (r : Bool) (h : f_top_WholeEntries a0 a1 a2 = some r) : SpecX Try.prog 11 #[.agg #[.string (bsOf a0.1), .string (bsOf a0.2)], .agg #[.int .i64 a1.fProducer, .int .i64 a1.fEpoch, .int .i64 a1.fTimeout, .int .i64 a1.fState, .slice A1 a1.fTopics.length c2, .int .i64 a1.fUpdated, .int .i64 a1.fStarted], .agg #[.int .i64 a2.fProducer, .int .i64 a2.fEpoch, .int .i64 a2.fTimeout, .int .i64 a2.fState, .slice A3 a2.fTopics.length c4, .int .i64 a2.fUpdated, .int .i64 a2.fStarted]] (RX.and (RX.of (sliceRd 2 Top_rd) [.slice A1 a1.fTopics.length c2] a1.fTopics) (RX.of (sliceRd 2 Top_rd) [.slice A3 a2.fTopics.length c4] a2.fTopics)) (EmpR) (fun v A' N => v = .bool r ∧ A' = EmpR ∧ N = []) := by
  refine enterA Try.func11 rfl Try.ntmps11 rfl ?_
  intro F w hX
  unfold f_top_WholeEntries at h
  refine T.seq (T.region rfl ?_)
  refine TL.box rfl .u rfl rfl (fun b5 => ?_)
  refine TL.box rfl .u rfl rfl (fun b6 => ?_)
  refine TL.box rfl .u rfl rfl (fun b7 => ?_)
  refine TL.run ft_cursitortop_ok [3] rfl rfl ?_
  obtain ⟨⟨x8, x9⟩, hx10, h⟩ := Option.bind_eq_some_iff.1 h
  try dsimp only at h
  refine TL.nil (X.seq (T.seq (T.seq (T.region rfl ?_))))
  refine TL.ce rfl .u (.fn Try.call55 rfl) (gKEncode_spec [97] _ hx10) (fun _ hs => (RX.reads_triv _ _)) rfl ?_
  refine TL.run ft_cursitortop_ok [1, 2, 3, 4, 5] rfl rfl ?_
  refine TL.nil (X.seq (T.seq ?_))
  obtain ⟨y12, h, hk13⟩ := Option.bind_eq_some_iff.1 h
  refine T.jq (fun e Rs => e = [(3, .pointer (some ⟨b5, 0, none⟩)), (4, .pointer (some ⟨b6, 0, none⟩)), (5, .pointer (some ⟨b7, 0, none⟩)), (6, .bool false), (31, .bool y12)] ∧ Rs = [BlkR b7 97 #[.int .i64 a2.fProducer, .int .i64 a2.fEpoch, .int .i64 a2.fTimeout, .int .i64 a2.fState, .slice A3 a2.fTopics.length c4, .int .i64 a2.fUpdated, .int .i64 a2.fStarted], BlkR b6 97 #[.int .i64 a1.fProducer, .int .i64 a1.fEpoch, .int .i64 a1.fTimeout, .int .i64 a1.fState, .slice A1 a1.fTopics.length c2, .int .i64 a1.fUpdated, .int .i64 a1.fStarted], BlkR b5 95 #[.string (bsOf a0.1), .string (bsOf a0.2)], EmpR]) ?_ ?_
  · clear hk13
    refine T.region rfl ?_
    by_cases c14 : x9 = 0
    · replace h := ifT c14 h
      refine TL.run ft_cursitortop_ok [0, 1, 2] rfl rfl ?_
      refine TL.q rfl (.g rfl rfl (bn_f (decide_eq_true c14))) (Ex.ft ft_cursitortop_ok rfl) rfl ?_
      refine TL.q rfl (.g rfl rfl (bn_f (decide_eq_true c14))) (Ex.lenB rfl Try.runUnderlying9) rfl ?_
      refine TL.q rfl (.g rfl rfl (bn_f (decide_eq_true c14))) (Ex.ft ft_cursitortop_ok rfl) rfl ?_
      refine TL.q rfl .u (Ex.pn rfl (bn_f (decide_eq_true c14)) rfl) rfl ?_
      by_cases c15 : (x8.length : Int) = 5
      · replace h := ifT c15 h
        cases h
        exact TL.nil (X.as (d := 31) (v' := .bool false) rfl (congrArg Value.bool (bn_f (decide_eq_true c15))) (X.jq [0, 0, 0, 0] ⟨rfl, rfl⟩ (by rfl) (by rfl)))
      · replace h := ifF c15 h
        cases h
        exact TL.nil (X.as (d := 31) (v' := .bool true) rfl (congrArg Value.bool (bn_t (decide_eq_false c15))) (X.jq [0, 0, 0, 0] ⟨rfl, rfl⟩ (by rfl) (by rfl)))
    · replace h := ifF c14 h
      refine TL.run ft_cursitortop_ok [0, 1, 2] rfl rfl ?_
      refine TL.no rfl (.gn rfl rfl (bn_t (decide_eq_false c14))) rfl ?_
      refine TL.no rfl (.gn rfl rfl (bn_t (decide_eq_false c14))) rfl ?_
      refine TL.no rfl (.gn rfl rfl (bn_t (decide_eq_false c14))) rfl ?_
      refine TL.q rfl .u (Ex.py rfl (bn_t (decide_eq_false c14)) rfl) rfl ?_
      cases h
      exact TL.nil (X.jq [0, 0, 0, 0] ⟨rfl, rfl⟩ (by rfl) (by rfl))
  · rintro _ _ ⟨rfl, rfl⟩
    clear h
    have h := hk13
    clear hk13
    try dsimp only at h
    by_cases c16 : y12 = true
    · replace h := ifT c16 h
      refine X.seq ?_
      refine T.yes rfl c16 ?_
      exact nomatch h
    · replace h := ifF c16 h
      replace c16 := eq_false_of_ne_true c16
      refine X.seq ?_
      refine T.no rfl c16 ?_
      refine T.skip (X.seq (T.seq (T.seq ?_)))
      obtain ⟨y24, h, hk25⟩ := Option.bind_eq_some_iff.1 h
      refine T.jq (fun e Rs => e = [(3, .pointer (some ⟨b5, 0, none⟩)), (4, .pointer (some ⟨b6, 0, none⟩)), (5, .pointer (some ⟨b7, 0, none⟩)), (6, .bool false), (53, .bool y24)] ∧ Rs = [BlkR b7 97 #[.int .i64 a2.fProducer, .int .i64 a2.fEpoch, .int .i64 a2.fTimeout, .int .i64 a2.fState, .slice A3 a2.fTopics.length c4, .int .i64 a2.fUpdated, .int .i64 a2.fStarted], BlkR b6 97 #[.int .i64 a1.fProducer, .int .i64 a1.fEpoch, .int .i64 a1.fTimeout, .int .i64 a1.fState, .slice A1 a1.fTopics.length c2, .int .i64 a1.fUpdated, .int .i64 a1.fStarted], BlkR b5 95 #[.string (bsOf a0.1), .string (bsOf a0.2)], EmpR]) ?_ ?_
      · clear hk25
        refine T.region rfl ?_
        refine TL.q rfl .u (Ex.ixP (k := 0) rfl rfl rfl Try.runUnderlying95 Try.sizeOf9 (by decide)) rfl ?_
        refine TL.q rfl .u (Ex.b1 2 rfl Try.isAgg9 rfl rfl) rfl ?_
        refine TL.q rfl .u (Ex.lenB rfl Try.runUnderlying9) rfl ?_
        by_cases c26 : (a0.1.length : Int) > 500
        · replace h := ifT c26 h
          refine TL.run ft_cursitortop_ok [3, 4] rfl rfl ?_
          refine TL.no rfl (.gn rfl rfl (decide_eq_true c26)) rfl ?_
          refine TL.no rfl (.gn rfl rfl (decide_eq_true c26)) rfl ?_
          refine TL.no rfl (.gn rfl rfl (decide_eq_true c26)) rfl ?_
          refine TL.no rfl (.gn rfl rfl (decide_eq_true c26)) rfl ?_
          refine TL.q rfl .u (Ex.py rfl (decide_eq_true c26) rfl) rfl ?_
          refine TL.run ft_cursitortop_ok [10] rfl rfl ?_
          refine TL.no rfl (.gn rfl rfl rfl) rfl ?_
          refine TL.no rfl (.gn rfl rfl rfl) rfl ?_
          refine TL.no rfl (.gn rfl rfl rfl) rfl ?_
          refine TL.no rfl (.gn rfl rfl rfl) rfl ?_
          refine TL.q rfl .u (Ex.py rfl rfl rfl) rfl ?_
          refine TL.run ft_cursitortop_ok [16] rfl rfl ?_
          refine TL.no rfl (.gn rfl rfl rfl) rfl ?_
          refine TL.no rfl (.gn rfl rfl rfl) rfl ?_
          refine TL.no rfl (.gn rfl rfl rfl) rfl ?_
          refine TL.no rfl (.gn rfl rfl rfl) rfl ?_
          refine TL.q rfl .u (Ex.py rfl rfl rfl) rfl ?_
          cases h
          exact TL.nil (X.jq [0, 0, 0, 0] ⟨rfl, rfl⟩ (by rfl) (by rfl))
        · replace h := ifF c26 h
          refine TL.run ft_cursitortop_ok [3, 4] rfl rfl ?_
          refine TL.q rfl (.g rfl rfl (decide_eq_false c26)) (Ex.ixP (k := 1) rfl rfl rfl Try.runUnderlying95 Try.sizeOf9 (by decide)) rfl ?_
          refine TL.q rfl (.g rfl rfl (decide_eq_false c26)) (Ex.b1 2 rfl Try.isAgg9 rfl rfl) rfl ?_
          refine TL.q rfl (.g rfl rfl (decide_eq_false c26)) (Ex.lenB rfl Try.runUnderlying9) rfl ?_
          refine TL.q rfl (.g rfl rfl (decide_eq_false c26)) (Ex.ft ft_cursitortop_ok rfl) rfl ?_
          refine TL.q rfl .u (Ex.pn rfl (decide_eq_false c26) rfl) rfl ?_
          by_cases c27 : (a0.2.length : Int) > 500
          · replace h := ifT c27 h
            refine TL.run ft_cursitortop_ok [10] rfl rfl ?_
            refine TL.no rfl (.gn rfl rfl (decide_eq_true c27)) rfl ?_
            refine TL.no rfl (.gn rfl rfl (decide_eq_true c27)) rfl ?_
            refine TL.no rfl (.gn rfl rfl (decide_eq_true c27)) rfl ?_
            refine TL.no rfl (.gn rfl rfl (decide_eq_true c27)) rfl ?_
            refine TL.q rfl .u (Ex.py rfl (decide_eq_true c27) rfl) rfl ?_
            refine TL.run ft_cursitortop_ok [16] rfl rfl ?_
            refine TL.no rfl (.gn rfl rfl rfl) rfl ?_
            refine TL.no rfl (.gn rfl rfl rfl) rfl ?_
            refine TL.no rfl (.gn rfl rfl rfl) rfl ?_
            refine TL.no rfl (.gn rfl rfl rfl) rfl ?_
            refine TL.q rfl .u (Ex.py rfl rfl rfl) rfl ?_
            cases h
            exact TL.nil (X.jq [0, 0, 0, 0] ⟨rfl, rfl⟩ (by rfl) (by rfl))
          · replace h := ifF c27 h
            refine TL.run ft_cursitortop_ok [10] rfl rfl ?_
            refine TL.q rfl (.g rfl rfl (decide_eq_false c27)) (Ex.ft ft_cursitortop_ok rfl) rfl ?_
            refine TL.q rfl (.g rfl rfl (decide_eq_false c27)) (Ex.b1 1 rfl Try.isAgg68 rfl rfl) rfl ?_
            obtain ⟨x28, hx29, h⟩ := Option.bind_eq_some_iff.1 h
            refine TL.ce rfl (.g rfl rfl (decide_eq_false c27)) (.fn Try.call50 rfl) (f_l14_Few_spec a1.fTopics _ _ _ hx29) (fun _ hs => (SrcE.old hs (RX.reads_left hX))) rfl ?_
            refine TL.q rfl (.g rfl rfl (decide_eq_false c27)) (Ex.ft ft_cursitortop_ok rfl) rfl ?_
            refine TL.q rfl .u (Ex.pn rfl (decide_eq_false c27) rfl) rfl ?_
            by_cases c30 : x28 = 0
            · replace h := ifT c30 h
              refine TL.run ft_cursitortop_ok [16] rfl rfl ?_
              refine TL.no rfl (.gn rfl rfl (decide_eq_true c30)) rfl ?_
              refine TL.no rfl (.gn rfl rfl (decide_eq_true c30)) rfl ?_
              refine TL.no rfl (.gn rfl rfl (decide_eq_true c30)) rfl ?_
              refine TL.no rfl (.gn rfl rfl (decide_eq_true c30)) rfl ?_
              refine TL.q rfl .u (Ex.py rfl (decide_eq_true c30) rfl) rfl ?_
              cases h
              exact TL.nil (X.jq [0, 0, 0, 0] ⟨rfl, rfl⟩ (by rfl) (by rfl))
            · replace h := ifF c30 h
              refine TL.run ft_cursitortop_ok [16] rfl rfl ?_
              refine TL.q rfl (.g rfl rfl (decide_eq_false c30)) (Ex.ft ft_cursitortop_ok rfl) rfl ?_
              refine TL.q rfl (.g rfl rfl (decide_eq_false c30)) (Ex.b1 0 rfl Try.isAgg68 rfl rfl) rfl ?_
              obtain ⟨x31, hx32, h⟩ := Option.bind_eq_some_iff.1 h
              refine TL.ce rfl (.g rfl rfl (decide_eq_false c30)) (.fn Try.call50 rfl) (f_l14_Few_spec a2.fTopics _ _ _ hx32) (fun _ hs => (SrcE.old hs (RX.reads_right hX))) rfl ?_
              refine TL.q rfl (.g rfl rfl (decide_eq_false c30)) (Ex.ft ft_cursitortop_ok rfl) rfl ?_
              refine TL.q rfl .u (Ex.pn rfl (decide_eq_false c30) rfl) rfl ?_
              by_cases c33 : x31 = 0
              · replace h := ifT c33 h
                cases h
                exact TL.nil (X.as (d := 53) (v' := .bool true) rfl (congrArg Value.bool (decide_eq_true c33)) (X.jq [0, 0, 0, 0] ⟨rfl, rfl⟩ (by rfl) (by rfl)))
              · replace h := ifF c33 h
                cases h
                exact TL.nil (X.as (d := 53) (v' := .bool false) rfl (congrArg Value.bool (decide_eq_false c33)) (X.jq [0, 0, 0, 0] ⟨rfl, rfl⟩ (by rfl) (by rfl)))
      · rintro _ _ ⟨rfl, rfl⟩
        clear h
        have h := hk25
        clear hk25
        try dsimp only at h
        by_cases c34 : y24 = true
        · replace h := ifT c34 h
          refine X.seq ?_
          refine T.yes rfl c34 ?_
          refine T.seq (T.region rfl ?_)
          refine TL.run ft_cursitortop_ok [0] rfl rfl ?_
          obtain rfl := Option.some.inj h
          exact TL.nil (X.seq (T.ret (X.rs (X.done1 [3] Try.results11 (RV.tm rfl) ⟨rfl, rfl, rfl⟩ (by rfl) (.inl rfl)))))
        · replace h := ifF c34 h
          replace c34 := eq_false_of_ne_true c34
          refine X.seq ?_
          refine T.no rfl c34 ?_
          refine T.skip (X.seq (T.seq (T.region rfl ?_)))
          refine TL.q rfl .u (Ex.ixP (k := 0) rfl rfl rfl Try.runUnderlying95 Try.sizeOf9 (by decide)) rfl ?_
          refine TL.q rfl .u (Ex.b1 2 rfl Try.isAgg9 rfl rfl) rfl ?_
          obtain ⟨⟨x35, x36⟩, hx37, h⟩ := Option.bind_eq_some_iff.1 h
          try dsimp only at h
          refine TL.ce rfl .u (.fn Try.call55 rfl) (gKEncode_spec a0.1 _ hx37) (fun _ hs => (RX.reads_triv _ _)) rfl ?_
          refine TL.run ft_cursitortop_ok [3, 4, 5, 6, 7] rfl rfl ?_
          refine TL.nil (X.seq (T.seq (T.region rfl ?_)))
          refine TL.q rfl .u (Ex.ixP (k := 1) rfl rfl rfl Try.runUnderlying95 Try.sizeOf9 (by decide)) rfl ?_
          refine TL.q rfl .u (Ex.b1 2 rfl Try.isAgg9 rfl rfl) rfl ?_
          obtain ⟨⟨x38, x39⟩, hx40, h⟩ := Option.bind_eq_some_iff.1 h
          try dsimp only at h
          refine TL.ce rfl .u (.fn Try.call55 rfl) (gKEncode_spec a0.2 _ hx40) (fun _ hs => (RX.reads_triv _ _)) rfl ?_
          refine TL.run ft_cursitortop_ok [3, 4, 5, 6, 7] rfl rfl ?_
          refine TL.nil (X.seq (T.seq (T.seq ?_)))
          obtain ⟨y46, h, hk47⟩ := Option.bind_eq_some_iff.1 h
          refine T.jq (fun e Rs => e = [(3, .pointer (some ⟨b5, 0, none⟩)), (4, .pointer (some ⟨b6, 0, none⟩)), (5, .pointer (some ⟨b7, 0, none⟩)), (6, .bool false), (9, .string (bsOf x35)), (10, .int .i64 x36), (82, .bool y46)] ∧ Rs = [BlkR b7 97 #[.int .i64 a2.fProducer, .int .i64 a2.fEpoch, .int .i64 a2.fTimeout, .int .i64 a2.fState, .slice A3 a2.fTopics.length c4, .int .i64 a2.fUpdated, .int .i64 a2.fStarted], BlkR b6 97 #[.int .i64 a1.fProducer, .int .i64 a1.fEpoch, .int .i64 a1.fTimeout, .int .i64 a1.fState, .slice A1 a1.fTopics.length c2, .int .i64 a1.fUpdated, .int .i64 a1.fStarted], BlkR b5 95 #[.string (bsOf a0.1), .string (bsOf a0.2)], EmpR]) ?_ ?_
          · clear hk47
            refine T.region rfl ?_
            by_cases c48 : x36 = 0
            · replace h := ifT c48 h
              refine TL.run ft_cursitortop_ok [0, 1, 2] rfl rfl ?_
              refine TL.q rfl (.g rfl rfl (decide_eq_true c48)) (Ex.ft ft_cursitortop_ok rfl) rfl ?_
              refine TL.q rfl (.g rfl rfl (decide_eq_true c48)) (Ex.ft ft_cursitortop_ok rfl) rfl ?_
              refine TL.q rfl .u (Ex.py rfl (decide_eq_true c48) rfl) rfl ?_
              by_cases c49 : x39 = 0
              · replace h := ifT c49 h
                refine TL.run ft_cursitortop_ok [6] rfl rfl ?_
                refine TL.q rfl (.g rfl rfl (decide_eq_true c49)) (Ex.ft ft_cursitortop_ok rfl) rfl ?_
                refine TL.q rfl (.g rfl rfl (decide_eq_true c49)) (Ex.ft ft_cursitortop_ok rfl) rfl ?_
                refine TL.q rfl (.g rfl rfl (decide_eq_true c49)) (Ex.sEq rfl rfl) rfl ?_
                refine TL.q rfl (.g rfl rfl (decide_eq_true c49)) (Ex.ixP (k := 0) rfl rfl rfl Try.runUnderlying95 Try.sizeOf9 (by decide)) rfl ?_
                refine TL.q rfl (.g rfl rfl (decide_eq_true c49)) (Ex.b1 2 rfl Try.isAgg9 rfl rfl) rfl ?_
                refine TL.q rfl (.g rfl rfl (decide_eq_true c49)) (Ex.ixP (k := 1) rfl rfl rfl Try.runUnderlying95 Try.sizeOf9 (by decide)) rfl ?_
                refine TL.q rfl (.g rfl rfl (decide_eq_true c49)) (Ex.b1 2 rfl Try.isAgg9 rfl rfl) rfl ?_
                refine TL.q rfl (.g rfl rfl (decide_eq_true c49)) (Ex.sEq rfl rfl) rfl ?_
                by_cases c50 : x35 = x38
                · replace h := ifT c50 h
                  by_cases c51 : a0.1 = a0.2
                  · replace h := ifT c51 h
                    refine TL.q rfl (.g rfl rfl (decide_eq_true c49)) (Ex.bNe rfl (decide_eq_true c50) rfl (decide_eq_true c51) Try.runUnderlying4) rfl ?_
                    refine TL.q rfl .u (Ex.py rfl (decide_eq_true c49) rfl) rfl ?_
                    cases h
                    exact TL.nil (X.jq [0, 0, 0, 0] ⟨rfl, rfl⟩ (by rfl) (by rfl))
                  · replace h := ifF c51 h
                    refine TL.q rfl (.g rfl rfl (decide_eq_true c49)) (Ex.bNe rfl (decide_eq_true c50) rfl (decide_eq_false c51) Try.runUnderlying4) rfl ?_
                    refine TL.q rfl .u (Ex.py rfl (decide_eq_true c49) rfl) rfl ?_
                    cases h
                    exact TL.nil (X.jq [0, 0, 0, 0] ⟨rfl, rfl⟩ (by rfl) (by rfl))
                · replace h := ifF c50 h
                  by_cases c52 : a0.1 = a0.2
                  · replace h := ifT c52 h
                    refine TL.q rfl (.g rfl rfl (decide_eq_true c49)) (Ex.bNe rfl (decide_eq_false c50) rfl (decide_eq_true c52) Try.runUnderlying4) rfl ?_
                    refine TL.q rfl .u (Ex.py rfl (decide_eq_true c49) rfl) rfl ?_
                    cases h
                    exact TL.nil (X.jq [0, 0, 0, 0] ⟨rfl, rfl⟩ (by rfl) (by rfl))
                  · replace h := ifF c52 h
                    refine TL.q rfl (.g rfl rfl (decide_eq_true c49)) (Ex.bNe rfl (decide_eq_false c50) rfl (decide_eq_false c52) Try.runUnderlying4) rfl ?_
                    refine TL.q rfl .u (Ex.py rfl (decide_eq_true c49) rfl) rfl ?_
                    cases h
                    exact TL.nil (X.jq [0, 0, 0, 0] ⟨rfl, rfl⟩ (by rfl) (by rfl))
              · replace h := ifF c49 h
                refine TL.run ft_cursitortop_ok [6] rfl rfl ?_
                refine TL.no rfl (.gn rfl rfl (decide_eq_false c49)) rfl ?_
                refine TL.no rfl (.gn rfl rfl (decide_eq_false c49)) rfl ?_
                refine TL.no rfl (.gn rfl rfl (decide_eq_false c49)) rfl ?_
                refine TL.no rfl (.gn rfl rfl (decide_eq_false c49)) rfl ?_
                refine TL.no rfl (.gn rfl rfl (decide_eq_false c49)) rfl ?_
                refine TL.no rfl (.gn rfl rfl (decide_eq_false c49)) rfl ?_
                refine TL.no rfl (.gn rfl rfl (decide_eq_false c49)) rfl ?_
                refine TL.no rfl (.gn rfl rfl (decide_eq_false c49)) rfl ?_
                refine TL.no rfl (.gn rfl rfl (decide_eq_false c49)) rfl ?_
                refine TL.q rfl .u (Ex.pn rfl (decide_eq_false c49) rfl) rfl ?_
                cases h
                exact TL.nil (X.jq [0, 0, 0, 0] ⟨rfl, rfl⟩ (by rfl) (by rfl))
            · replace h := ifF c48 h
              refine TL.run ft_cursitortop_ok [0, 1, 2] rfl rfl ?_
              refine TL.no rfl (.gn rfl rfl (decide_eq_false c48)) rfl ?_
              refine TL.no rfl (.gn rfl rfl (decide_eq_false c48)) rfl ?_
              refine TL.q rfl .u (Ex.pn rfl (decide_eq_false c48) rfl) rfl ?_
              refine TL.run ft_cursitortop_ok [6] rfl rfl ?_
              refine TL.no rfl (.gn rfl rfl rfl) rfl ?_
              refine TL.no rfl (.gn rfl rfl rfl) rfl ?_
              refine TL.no rfl (.gn rfl rfl rfl) rfl ?_
              refine TL.no rfl (.gn rfl rfl rfl) rfl ?_
              refine TL.no rfl (.gn rfl rfl rfl) rfl ?_
              refine TL.no rfl (.gn rfl rfl rfl) rfl ?_
              refine TL.no rfl (.gn rfl rfl rfl) rfl ?_
              refine TL.no rfl (.gn rfl rfl rfl) rfl ?_
              refine TL.no rfl (.gn rfl rfl rfl) rfl ?_
              refine TL.q rfl .u (Ex.pn rfl rfl rfl) rfl ?_
              cases h
              exact TL.nil (X.jq [0, 0, 0, 0] ⟨rfl, rfl⟩ (by rfl) (by rfl))
          · rintro _ _ ⟨rfl, rfl⟩
            clear h
            have h := hk47
            clear hk47
            try dsimp only at h
            by_cases c53 : y46 = true
            · replace h := ifT c53 h
              refine X.seq ?_
              refine T.yes rfl c53 ?_
              exact nomatch h
            · replace h := ifF c53 h
              replace c53 := eq_false_of_ne_true c53
              refine X.seq ?_
              refine T.no rfl c53 ?_
              refine T.skip (X.seq (T.seq (T.region rfl ?_)))
              refine TL.q rfl .u (Ex.bS (us := [.int .i64 a1.fProducer, .int .i64 a1.fEpoch, .int .i64 a1.fTimeout, .int .i64 a1.fState, .slice A1 a1.fTopics.length c2, .int .i64 a1.fUpdated, .int .i64 a1.fStarted]) 1 rfl Try.isAgg97 Try.sizeOf97 rfl rfl rfl) rfl ?_
              obtain ⟨⟨x54, x55⟩, hx56, h⟩ := Option.bind_eq_some_iff.1 h
              try dsimp only at h
              refine TL.ce rfl .u (.fn Try.call56 rfl) (f_value_Encode_spec a1 _ _ _ hx56) (fun _ hs => (SrcE.old hs (RX.reads_left hX))) rfl ?_
              refine TL.run ft_cursitortop_ok [2, 3, 4, 5, 6] rfl rfl ?_
              refine TL.nil (X.seq (T.seq (T.region rfl ?_)))
              refine TL.q rfl .u (Ex.bS (us := [.int .i64 a2.fProducer, .int .i64 a2.fEpoch, .int .i64 a2.fTimeout, .int .i64 a2.fState, .slice A3 a2.fTopics.length c4, .int .i64 a2.fUpdated, .int .i64 a2.fStarted]) 0 rfl Try.isAgg97 Try.sizeOf97 rfl rfl rfl) rfl ?_
              obtain ⟨⟨x57, x58⟩, hx59, h⟩ := Option.bind_eq_some_iff.1 h
              try dsimp only at h
              refine TL.ce rfl .u (.fn Try.call56 rfl) (f_value_Encode_spec a2 _ _ _ hx59) (fun _ hs => (SrcE.old hs (RX.reads_right hX))) rfl ?_
              refine TL.run ft_cursitortop_ok [2, 3, 4, 5, 6] rfl rfl ?_
              refine TL.nil (X.seq (T.seq (T.seq ?_)))
              obtain ⟨y67, h, hk68⟩ := Option.bind_eq_some_iff.1 h
              refine T.jq (fun e Rs => e = [(3, .pointer (some ⟨b5, 0, none⟩)), (4, .pointer (some ⟨b6, 0, none⟩)), (6, .bool false), (9, .string (bsOf x35)), (10, .int .i64 x36), (13, .string (bsOf x54)), (14, .int .i64 x55), (107, .bool y67)] ∧ Rs = [BlkR b7 97 #[.int .i64 a2.fProducer, .int .i64 a2.fEpoch, .int .i64 a2.fTimeout, .int .i64 a2.fState, .slice A3 a2.fTopics.length c4, .int .i64 a2.fUpdated, .int .i64 a2.fStarted], BlkR b6 97 #[.int .i64 a1.fProducer, .int .i64 a1.fEpoch, .int .i64 a1.fTimeout, .int .i64 a1.fState, .slice A1 a1.fTopics.length c2, .int .i64 a1.fUpdated, .int .i64 a1.fStarted], BlkR b5 95 #[.string (bsOf a0.1), .string (bsOf a0.2)], EmpR]) ?_ ?_
              · clear hk68
                refine T.region rfl ?_
                by_cases c69 : x55 = 0
                · replace h := ifT c69 h
                  refine TL.run ft_cursitortop_ok [0, 1, 2] rfl rfl ?_
                  refine TL.q rfl (.g rfl rfl (decide_eq_true c69)) (Ex.ft ft_cursitortop_ok rfl) rfl ?_
                  refine TL.q rfl (.g rfl rfl (decide_eq_true c69)) (Ex.ft ft_cursitortop_ok rfl) rfl ?_
                  refine TL.q rfl .u (Ex.py rfl (decide_eq_true c69) rfl) rfl ?_
                  by_cases c70 : x58 = 0
                  · replace h := ifT c70 h
                    refine TL.run ft_cursitortop_ok [6] rfl rfl ?_
                    refine TL.q rfl (.g rfl rfl (decide_eq_true c70)) (Ex.ft ft_cursitortop_ok rfl) rfl ?_
                    refine TL.q rfl (.g rfl rfl (decide_eq_true c70)) (Ex.ft ft_cursitortop_ok rfl) rfl ?_
                    refine TL.q rfl (.g rfl rfl (decide_eq_true c70)) (Ex.sEq rfl rfl) rfl ?_
                    refine TL.q rfl (.g rfl rfl (decide_eq_true c70)) (Ex.bS (us := [.int .i64 a1.fProducer, .int .i64 a1.fEpoch, .int .i64 a1.fTimeout, .int .i64 a1.fState, .slice A1 a1.fTopics.length c2, .int .i64 a1.fUpdated, .int .i64 a1.fStarted]) 1 rfl Try.isAgg97 Try.sizeOf97 rfl rfl rfl) rfl ?_
                    refine TL.q rfl (.g rfl rfl (decide_eq_true c70)) (Ex.bS (us := [.int .i64 a2.fProducer, .int .i64 a2.fEpoch, .int .i64 a2.fTimeout, .int .i64 a2.fState, .slice A3 a2.fTopics.length c4, .int .i64 a2.fUpdated, .int .i64 a2.fStarted]) 0 rfl Try.isAgg97 Try.sizeOf97 rfl rfl rfl) rfl ?_
                    obtain ⟨x71, hx72, h⟩ := Option.bind_eq_some_iff.1 h
                    refine TL.ce rfl (.g rfl rfl (decide_eq_true c70)) (.fn Try.call57 rfl) (f_r14_Same_spec a1 _ _ a2 _ _ _ hx72) (fun _ hs => (RX.reads_and (SrcE.old hs (RX.reads_left hX)) (SrcE.old hs (RX.reads_right hX)))) rfl ?_
                    by_cases c73 : x54 = x57
                    · replace h := ifT c73 h
                      by_cases c74 : x71 = true
                      · replace h := ifT c74 h
                        refine TL.q rfl (.g rfl rfl (decide_eq_true c70)) (Ex.bNe rfl (decide_eq_true c73) rfl c74 Try.runUnderlying4) rfl ?_
                        refine TL.q rfl .u (Ex.py rfl (decide_eq_true c70) rfl) rfl ?_
                        cases h
                        exact TL.nil (X.jq [0, 0, 0, 0] ⟨rfl, rfl⟩ (by rfl) (by rfl))
                      · replace h := ifF c74 h
                        replace c74 := eq_false_of_ne_true c74
                        refine TL.q rfl (.g rfl rfl (decide_eq_true c70)) (Ex.bNe rfl (decide_eq_true c73) rfl c74 Try.runUnderlying4) rfl ?_
                        refine TL.q rfl .u (Ex.py rfl (decide_eq_true c70) rfl) rfl ?_
                        cases h
                        exact TL.nil (X.jq [0, 0, 0, 0] ⟨rfl, rfl⟩ (by rfl) (by rfl))
                    · replace h := ifF c73 h
                      by_cases c75 : x71 = true
                      · replace h := ifT c75 h
                        refine TL.q rfl (.g rfl rfl (decide_eq_true c70)) (Ex.bNe rfl (decide_eq_false c73) rfl c75 Try.runUnderlying4) rfl ?_
                        refine TL.q rfl .u (Ex.py rfl (decide_eq_true c70) rfl) rfl ?_
                        cases h
                        exact TL.nil (X.jq [0, 0, 0, 0] ⟨rfl, rfl⟩ (by rfl) (by rfl))
                      · replace h := ifF c75 h
                        replace c75 := eq_false_of_ne_true c75
                        refine TL.q rfl (.g rfl rfl (decide_eq_true c70)) (Ex.bNe rfl (decide_eq_false c73) rfl c75 Try.runUnderlying4) rfl ?_
                        refine TL.q rfl .u (Ex.py rfl (decide_eq_true c70) rfl) rfl ?_
                        cases h
                        exact TL.nil (X.jq [0, 0, 0, 0] ⟨rfl, rfl⟩ (by rfl) (by rfl))
                  · replace h := ifF c70 h
                    refine TL.run ft_cursitortop_ok [6] rfl rfl ?_
                    refine TL.no rfl (.gn rfl rfl (decide_eq_false c70)) rfl ?_
                    refine TL.no rfl (.gn rfl rfl (decide_eq_false c70)) rfl ?_
                    refine TL.no rfl (.gn rfl rfl (decide_eq_false c70)) rfl ?_
                    refine TL.no rfl (.gn rfl rfl (decide_eq_false c70)) rfl ?_
                    refine TL.no rfl (.gn rfl rfl (decide_eq_false c70)) rfl ?_
                    refine TL.no rfl (.gn rfl rfl (decide_eq_false c70)) rfl ?_
                    refine TL.no rfl (.gn rfl rfl (decide_eq_false c70)) rfl ?_
                    refine TL.q rfl .u (Ex.pn rfl (decide_eq_false c70) rfl) rfl ?_
                    cases h
                    exact TL.nil (X.jq [0, 0, 0, 0] ⟨rfl, rfl⟩ (by rfl) (by rfl))
                · replace h := ifF c69 h
                  refine TL.run ft_cursitortop_ok [0, 1, 2] rfl rfl ?_
                  refine TL.no rfl (.gn rfl rfl (decide_eq_false c69)) rfl ?_
                  refine TL.no rfl (.gn rfl rfl (decide_eq_false c69)) rfl ?_
                  refine TL.q rfl .u (Ex.pn rfl (decide_eq_false c69) rfl) rfl ?_
                  refine TL.run ft_cursitortop_ok [6] rfl rfl ?_
                  refine TL.no rfl (.gn rfl rfl rfl) rfl ?_
                  refine TL.no rfl (.gn rfl rfl rfl) rfl ?_
                  refine TL.no rfl (.gn rfl rfl rfl) rfl ?_
                  refine TL.no rfl (.gn rfl rfl rfl) rfl ?_
                  refine TL.no rfl (.gn rfl rfl rfl) rfl ?_
                  refine TL.no rfl (.gn rfl rfl rfl) rfl ?_
                  refine TL.no rfl (.gn rfl rfl rfl) rfl ?_
                  refine TL.q rfl .u (Ex.pn rfl rfl rfl) rfl ?_
                  cases h
                  exact TL.nil (X.jq [0, 0, 0, 0] ⟨rfl, rfl⟩ (by rfl) (by rfl))
              · rintro _ _ ⟨rfl, rfl⟩
                clear h
                have h := hk68
                clear hk68
                try dsimp only at h
                by_cases c76 : y67 = true
                · replace h := ifT c76 h
                  refine X.seq ?_
                  refine T.yes rfl c76 ?_
                  exact nomatch h
                · replace h := ifF c76 h
                  replace c76 := eq_false_of_ne_true c76
                  refine X.seq ?_
                  refine T.no rfl c76 ?_
                  refine T.skip (X.seq (T.seq (T.seq (T.region rfl ?_))))
                  refine TL.run ft_cursitortop_ok [0, 1] rfl rfl ?_
                  by_cases c77 : x36 = 0
                  · replace h := ifT c77 h
                    refine TL.nil (X.seq ?_)
                    refine T.yes rfl (decide_eq_true c77) ?_
                    refine T.seq (T.region rfl ?_)
                    obtain ⟨⟨x78, x79⟩, hx80, h⟩ := Option.bind_eq_some_iff.1 h
                    try dsimp only at h
                    refine TL.run ft_cursitortop_ok [0] rfl rfl ?_
                    refine TL.ce rfl .u (.fn Try.call58 rfl) (gKDecode_spec x35 _ hx80) (fun _ hs => (RX.reads_triv _ _)) rfl ?_
                    refine TL.run ft_cursitortop_ok [2, 3, 4, 5, 6] rfl rfl ?_
                    refine TL.nil (X.seq (T.seq ?_))
                    obtain ⟨y82, h, hk83⟩ := Option.bind_eq_some_iff.1 h
                    refine T.jq (fun e Rs => e = [(4, .pointer (some ⟨b6, 0, none⟩)), (6, .bool false), (13, .string (bsOf x54)), (14, .int .i64 x55), (122, .bool y82)] ∧ Rs = [BlkR b7 97 #[.int .i64 a2.fProducer, .int .i64 a2.fEpoch, .int .i64 a2.fTimeout, .int .i64 a2.fState, .slice A3 a2.fTopics.length c4, .int .i64 a2.fUpdated, .int .i64 a2.fStarted], BlkR b6 97 #[.int .i64 a1.fProducer, .int .i64 a1.fEpoch, .int .i64 a1.fTimeout, .int .i64 a1.fState, .slice A1 a1.fTopics.length c2, .int .i64 a1.fUpdated, .int .i64 a1.fStarted], BlkR b5 95 #[.string (bsOf a0.1), .string (bsOf a0.2)], EmpR]) ?_ ?_
                    · clear hk83
                      refine T.region rfl ?_
                      by_cases c84 : x79 = 0
                      · replace h := ifT c84 h
                        refine TL.run ft_cursitortop_ok [0, 1, 2] rfl rfl ?_
                        refine TL.q rfl (.g rfl rfl (bn_f (decide_eq_true c84))) (Ex.ft ft_cursitortop_ok rfl) rfl ?_
                        refine TL.q rfl (.g rfl rfl (bn_f (decide_eq_true c84))) (Ex.ixP (k := 0) rfl rfl rfl Try.runUnderlying95 Try.sizeOf9 (by decide)) rfl ?_
                        refine TL.q rfl (.g rfl rfl (bn_f (decide_eq_true c84))) (Ex.b1 2 rfl Try.isAgg9 rfl rfl) rfl ?_
                        refine TL.q rfl (.g rfl rfl (bn_f (decide_eq_true c84))) (Ex.sNe rfl rfl) rfl ?_
                        refine TL.q rfl .u (Ex.pn rfl (bn_f (decide_eq_true c84)) rfl) rfl ?_
                        by_cases c85 : x78 = a0.1
                        · replace h := ifT c85 h
                          cases h
                          exact TL.nil (X.as (d := 122) (v' := .bool false) rfl (congrArg Value.bool (bn_f (decide_eq_true c85))) (X.jq [0, 0, 0, 0] ⟨rfl, rfl⟩ (by rfl) (by rfl)))
                        · replace h := ifF c85 h
                          cases h
                          exact TL.nil (X.as (d := 122) (v' := .bool true) rfl (congrArg Value.bool (bn_t (decide_eq_false c85))) (X.jq [0, 0, 0, 0] ⟨rfl, rfl⟩ (by rfl) (by rfl)))
                      · replace h := ifF c84 h
                        refine TL.run ft_cursitortop_ok [0, 1, 2] rfl rfl ?_
                        refine TL.no rfl (.gn rfl rfl (bn_t (decide_eq_false c84))) rfl ?_
                        refine TL.no rfl (.gn rfl rfl (bn_t (decide_eq_false c84))) rfl ?_
                        refine TL.no rfl (.gn rfl rfl (bn_t (decide_eq_false c84))) rfl ?_
                        refine TL.no rfl (.gn rfl rfl (bn_t (decide_eq_false c84))) rfl ?_
                        refine TL.q rfl .u (Ex.py rfl (bn_t (decide_eq_false c84)) rfl) rfl ?_
                        cases h
                        exact TL.nil (X.jq [0, 0, 0, 0] ⟨rfl, rfl⟩ (by rfl) (by rfl))
                    · rintro _ _ ⟨rfl, rfl⟩
                      clear h
                      have h := hk83
                      clear hk83
                      try dsimp only at h
                      by_cases c86 : y82 = true
                      · replace h := ifT c86 h
                        refine X.seq ?_
                        refine T.yes rfl c86 ?_
                        exact nomatch h
                      · replace h := ifF c86 h
                        replace c86 := eq_false_of_ne_true c86
                        refine X.seq ?_
                        refine T.no rfl c86 ?_
                        refine T.skip (X.seq (T.seq (T.seq (T.region rfl ?_))))
                        refine TL.run ft_cursitortop_ok [0, 1] rfl rfl ?_
                        by_cases c87 : x55 = 0
                        · replace h := ifT c87 h
                          refine TL.nil (X.seq ?_)
                          refine T.yes rfl (decide_eq_true c87) ?_
                          refine T.seq (T.region rfl ?_)
                          obtain ⟨⟨x88, x91⟩, hx92, h⟩ := Option.bind_eq_some_iff.1 h
                          try dsimp only at h
                          refine TL.run ft_cursitortop_ok [0] rfl rfl ?_
                          refine TL.cge rfl .u (.fn Try.call59 rfl) (f_value_Decode_spec x54 _ hx92) (fun _ hs => (RX.reads_triv _ _)) rfl ?_
                          rintro _ _ _ ⟨A89, c90, rfl, rfl, rfl⟩
                          refine TL.sel [0, 0, 0, 0, 0] rfl ?_
                          refine TL.run ft_cursitortop_ok [2, 3, 4] rfl rfl ?_
                          refine TL.alloc rfl .u Try.zeroValue97 rfl (fun b93 => ?_)
                          refine TL.st0 (cs' := #[.int .i64 x88.fProducer, .int .i64 x88.fEpoch, .int .i64 x88.fTimeout, .int .i64 x88.fState, .slice A89 x88.fTopics.length c90, .int .i64 x88.fUpdated, .int .i64 x88.fStarted]) rfl .u rfl rfl Try.sizeOf97 rfl rfl rfl rfl ?_
                          refine TL.run ft_cursitortop_ok [7] rfl rfl ?_
                          refine TL.nil (X.seq (T.seq ?_))
                          obtain ⟨y97, h, hk98⟩ := Option.bind_eq_some_iff.1 h
                          refine T.jq (fun e Rs => e = [(6, .bool false), (137, .bool y97)] ∧ Rs = [BlkR b93 97 #[.int .i64 x88.fProducer, .int .i64 x88.fEpoch, .int .i64 x88.fTimeout, .int .i64 x88.fState, .slice A89 x88.fTopics.length c90, .int .i64 x88.fUpdated, .int .i64 x88.fStarted], RdR (sliceRd 2 Top_rd) [.slice A89 x88.fTopics.length c90] x88.fTopics, BlkR b7 97 #[.int .i64 a2.fProducer, .int .i64 a2.fEpoch, .int .i64 a2.fTimeout, .int .i64 a2.fState, .slice A3 a2.fTopics.length c4, .int .i64 a2.fUpdated, .int .i64 a2.fStarted], BlkR b6 97 #[.int .i64 a1.fProducer, .int .i64 a1.fEpoch, .int .i64 a1.fTimeout, .int .i64 a1.fState, .slice A1 a1.fTopics.length c2, .int .i64 a1.fUpdated, .int .i64 a1.fStarted], BlkR b5 95 #[.string (bsOf a0.1), .string (bsOf a0.2)], EmpR]) ?_ ?_
                          · clear hk98
                            refine T.region rfl ?_
                            by_cases c99 : x91 = 0
                            · replace h := ifT c99 h
                              refine TL.run ft_cursitortop_ok [0, 1, 2] rfl rfl ?_
                              refine TL.q rfl (.g rfl rfl (bn_f (decide_eq_true c99))) (Ex.bS (us := [.int .i64 x88.fProducer, .int .i64 x88.fEpoch, .int .i64 x88.fTimeout, .int .i64 x88.fState, .slice A89 x88.fTopics.length c90, .int .i64 x88.fUpdated, .int .i64 x88.fStarted]) 0 rfl Try.isAgg97 Try.sizeOf97 rfl rfl rfl) rfl ?_
                              refine TL.q rfl (.g rfl rfl (bn_f (decide_eq_true c99))) (Ex.bS (us := [.int .i64 a1.fProducer, .int .i64 a1.fEpoch, .int .i64 a1.fTimeout, .int .i64 a1.fState, .slice A1 a1.fTopics.length c2, .int .i64 a1.fUpdated, .int .i64 a1.fStarted]) 3 rfl Try.isAgg97 Try.sizeOf97 rfl rfl rfl) rfl ?_
                              obtain ⟨x100, hx101, h⟩ := Option.bind_eq_some_iff.1 h
                              refine TL.ce rfl (.g rfl rfl (bn_f (decide_eq_true c99))) (.fn Try.call57 rfl) (f_r14_Same_spec x88 _ _ a1 _ _ _ hx101) (fun _ hs => (RX.reads_and (SrcE.res 1 hs rfl (fun w G h => rd_reads w G h)) (SrcE.old hs (RX.reads_left hX)))) rfl ?_
                              refine TL.q rfl (.g rfl rfl (bn_f (decide_eq_true c99))) (Ex.ft ft_cursitortop_ok rfl) rfl ?_
                              refine TL.q rfl .u (Ex.pn rfl (bn_f (decide_eq_true c99)) rfl) rfl ?_
                              by_cases c102 : x100 = true
                              · replace h := ifT c102 h
                                cases h
                                exact TL.nil (X.as (d := 137) (v' := .bool false) rfl (congrArg Value.bool (bn_f c102)) (X.jq [0, 0, 0, 0, 0, 0] ⟨rfl, rfl⟩ (by rfl) (by rfl)))
                              · replace h := ifF c102 h
                                replace c102 := eq_false_of_ne_true c102
                                cases h
                                exact TL.nil (X.as (d := 137) (v' := .bool true) rfl (congrArg Value.bool (bn_t c102)) (X.jq [0, 0, 0, 0, 0, 0] ⟨rfl, rfl⟩ (by rfl) (by rfl)))
                            · replace h := ifF c99 h
                              refine TL.run ft_cursitortop_ok [0, 1, 2] rfl rfl ?_
                              refine TL.no rfl (.gn rfl rfl (bn_t (decide_eq_false c99))) rfl ?_
                              refine TL.no rfl (.gn rfl rfl (bn_t (decide_eq_false c99))) rfl ?_
                              refine TL.no rfl (.gn rfl rfl (bn_t (decide_eq_false c99))) rfl ?_
                              refine TL.no rfl (.gn rfl rfl (bn_t (decide_eq_false c99))) rfl ?_
                              refine TL.q rfl .u (Ex.py rfl (bn_t (decide_eq_false c99)) rfl) rfl ?_
                              cases h
                              exact TL.nil (X.jq [0, 0, 0, 0, 0, 0] ⟨rfl, rfl⟩ (by rfl) (by rfl))
                          · rintro _ _ ⟨rfl, rfl⟩
                            clear h
                            have h := hk98
                            clear hk98
                            try dsimp only at h
                            by_cases c103 : y97 = true
                            · replace h := ifT c103 h
                              refine X.seq ?_
                              refine T.yes rfl c103 ?_
                              exact nomatch h
                            · replace h := ifF c103 h
                              replace c103 := eq_false_of_ne_true c103
                              refine X.seq ?_
                              refine T.no rfl c103 ?_
                              refine T.skip (X.seq (T.seq (T.region rfl ?_)))
                              refine TL.run ft_cursitortop_ok [0] rfl rfl ?_
                              obtain rfl := Option.some.inj h
                              exact TL.nil (X.seq (T.ret (X.done1 [5] Try.results11 (RV.tm rfl) ⟨rfl, rfl, rfl⟩ (by rfl) (.inl rfl))))
                        · replace h := ifF c87 h
                          refine TL.nil (X.seq ?_)
                          refine T.no rfl (decide_eq_false c87) ?_
                          refine T.skip (X.seq (T.seq (T.region rfl ?_)))
                          refine TL.run ft_cursitortop_ok [0] rfl rfl ?_
                          obtain rfl := Option.some.inj h
                          exact TL.nil (X.seq (T.ret (X.done1 [3] Try.results11 (RV.tm rfl) ⟨rfl, rfl, rfl⟩ (by rfl) (.inl rfl))))
                  · replace h := ifF c77 h
                    refine TL.nil (X.seq ?_)
                    refine T.no rfl (decide_eq_false c77) ?_
                    refine T.skip (X.seq (T.seq (T.seq (T.region rfl ?_))))
                    refine TL.run ft_cursitortop_ok [0, 1] rfl rfl ?_
                    by_cases c104 : x55 = 0
                    · replace h := ifT c104 h
                      refine TL.nil (X.seq ?_)
                      refine T.yes rfl (decide_eq_true c104) ?_
                      refine T.seq (T.region rfl ?_)
                      obtain ⟨⟨x105, x108⟩, hx109, h⟩ := Option.bind_eq_some_iff.1 h
                      try dsimp only at h
                      refine TL.run ft_cursitortop_ok [0] rfl rfl ?_
                      refine TL.cge rfl .u (.fn Try.call59 rfl) (f_value_Decode_spec x54 _ hx109) (fun _ hs => (RX.reads_triv _ _)) rfl ?_
                      rintro _ _ _ ⟨A106, c107, rfl, rfl, rfl⟩
                      refine TL.sel [0, 0, 0, 0, 0] rfl ?_
                      refine TL.run ft_cursitortop_ok [2, 3, 4] rfl rfl ?_
                      refine TL.alloc rfl .u Try.zeroValue97 rfl (fun b110 => ?_)
                      refine TL.st0 (cs' := #[.int .i64 x105.fProducer, .int .i64 x105.fEpoch, .int .i64 x105.fTimeout, .int .i64 x105.fState, .slice A106 x105.fTopics.length c107, .int .i64 x105.fUpdated, .int .i64 x105.fStarted]) rfl .u rfl rfl Try.sizeOf97 rfl rfl rfl rfl ?_
                      refine TL.run ft_cursitortop_ok [7] rfl rfl ?_
                      refine TL.nil (X.seq (T.seq ?_))
                      obtain ⟨y114, h, hk115⟩ := Option.bind_eq_some_iff.1 h
                      refine T.jq (fun e Rs => e = [(6, .bool false), (137, .bool y114)] ∧ Rs = [BlkR b110 97 #[.int .i64 x105.fProducer, .int .i64 x105.fEpoch, .int .i64 x105.fTimeout, .int .i64 x105.fState, .slice A106 x105.fTopics.length c107, .int .i64 x105.fUpdated, .int .i64 x105.fStarted], RdR (sliceRd 2 Top_rd) [.slice A106 x105.fTopics.length c107] x105.fTopics, BlkR b7 97 #[.int .i64 a2.fProducer, .int .i64 a2.fEpoch, .int .i64 a2.fTimeout, .int .i64 a2.fState, .slice A3 a2.fTopics.length c4, .int .i64 a2.fUpdated, .int .i64 a2.fStarted], BlkR b6 97 #[.int .i64 a1.fProducer, .int .i64 a1.fEpoch, .int .i64 a1.fTimeout, .int .i64 a1.fState, .slice A1 a1.fTopics.length c2, .int .i64 a1.fUpdated, .int .i64 a1.fStarted], BlkR b5 95 #[.string (bsOf a0.1), .string (bsOf a0.2)], EmpR]) ?_ ?_
                      · clear hk115
                        refine T.region rfl ?_
                        by_cases c116 : x108 = 0
                        · replace h := ifT c116 h
                          refine TL.run ft_cursitortop_ok [0, 1, 2] rfl rfl ?_
                          refine TL.q rfl (.g rfl rfl (bn_f (decide_eq_true c116))) (Ex.bS (us := [.int .i64 x105.fProducer, .int .i64 x105.fEpoch, .int .i64 x105.fTimeout, .int .i64 x105.fState, .slice A106 x105.fTopics.length c107, .int .i64 x105.fUpdated, .int .i64 x105.fStarted]) 0 rfl Try.isAgg97 Try.sizeOf97 rfl rfl rfl) rfl ?_
                          refine TL.q rfl (.g rfl rfl (bn_f (decide_eq_true c116))) (Ex.bS (us := [.int .i64 a1.fProducer, .int .i64 a1.fEpoch, .int .i64 a1.fTimeout, .int .i64 a1.fState, .slice A1 a1.fTopics.length c2, .int .i64 a1.fUpdated, .int .i64 a1.fStarted]) 3 rfl Try.isAgg97 Try.sizeOf97 rfl rfl rfl) rfl ?_
                          obtain ⟨x117, hx118, h⟩ := Option.bind_eq_some_iff.1 h
                          refine TL.ce rfl (.g rfl rfl (bn_f (decide_eq_true c116))) (.fn Try.call57 rfl) (f_r14_Same_spec x105 _ _ a1 _ _ _ hx118) (fun _ hs => (RX.reads_and (SrcE.res 1 hs rfl (fun w G h => rd_reads w G h)) (SrcE.old hs (RX.reads_left hX)))) rfl ?_
                          refine TL.q rfl (.g rfl rfl (bn_f (decide_eq_true c116))) (Ex.ft ft_cursitortop_ok rfl) rfl ?_
                          refine TL.q rfl .u (Ex.pn rfl (bn_f (decide_eq_true c116)) rfl) rfl ?_
                          by_cases c119 : x117 = true
                          · replace h := ifT c119 h
                            cases h
                            exact TL.nil (X.as (d := 137) (v' := .bool false) rfl (congrArg Value.bool (bn_f c119)) (X.jq [0, 0, 0, 0, 0, 0] ⟨rfl, rfl⟩ (by rfl) (by rfl)))
                          · replace h := ifF c119 h
                            replace c119 := eq_false_of_ne_true c119
                            cases h
                            exact TL.nil (X.as (d := 137) (v' := .bool true) rfl (congrArg Value.bool (bn_t c119)) (X.jq [0, 0, 0, 0, 0, 0] ⟨rfl, rfl⟩ (by rfl) (by rfl)))
                        · replace h := ifF c116 h
                          refine TL.run ft_cursitortop_ok [0, 1, 2] rfl rfl ?_
                          refine TL.no rfl (.gn rfl rfl (bn_t (decide_eq_false c116))) rfl ?_
                          refine TL.no rfl (.gn rfl rfl (bn_t (decide_eq_false c116))) rfl ?_
                          refine TL.no rfl (.gn rfl rfl (bn_t (decide_eq_false c116))) rfl ?_
                          refine TL.no rfl (.gn rfl rfl (bn_t (decide_eq_false c116))) rfl ?_
                          refine TL.q rfl .u (Ex.py rfl (bn_t (decide_eq_false c116)) rfl) rfl ?_
                          cases h
                          exact TL.nil (X.jq [0, 0, 0, 0, 0, 0] ⟨rfl, rfl⟩ (by rfl) (by rfl))
                      · rintro _ _ ⟨rfl, rfl⟩
                        clear h
                        have h := hk115
                        clear hk115
                        try dsimp only at h
                        by_cases c120 : y114 = true
                        · replace h := ifT c120 h
                          refine X.seq ?_
                          refine T.yes rfl c120 ?_
                          exact nomatch h
                        · replace h := ifF c120 h
                          replace c120 := eq_false_of_ne_true c120
                          refine X.seq ?_
                          refine T.no rfl c120 ?_
                          refine T.skip (X.seq (T.seq (T.region rfl ?_)))
                          refine TL.run ft_cursitortop_ok [0] rfl rfl ?_
                          obtain rfl := Option.some.inj h
                          exact TL.nil (X.seq (T.ret (X.done1 [5] Try.results11 (RV.tm rfl) ⟨rfl, rfl, rfl⟩ (by rfl) (.inl rfl))))
                    · replace h := ifF c104 h
                      refine TL.nil (X.seq ?_)
                      refine T.no rfl (decide_eq_false c104) ?_
                      refine T.skip (X.seq (T.seq (T.region rfl ?_)))
                      refine TL.run ft_cursitortop_ok [0] rfl rfl ?_
                      obtain rfl := Option.some.inj h
                      exact TL.nil (X.seq (T.ret (X.done1 [3] Try.results11 (RV.tm rfl) ⟨rfl, rfl, rfl⟩ (by rfl) (.inl rfl))))
end Go.Proofs.Ytagbblaegdedpaa.Sl
namespace Go.Proofs.Ytagbblaegdedpaa.Sl
open Go.RowKit
set_option linter.unusedVariables false
set_option linter.unusedSimpArgs false
noncomputable instance decTop : DecidableEq Top := fun a b => Classical.propDecidable (a = b)
noncomputable instance decVal : DecidableEq Val := fun a b => Classical.propDecidable (a = b)
theorem sameTs_iff : ∀ (l m : List Top), sameTs l m = decide (l = m)
  | [], [] => rfl
  | [], b :: m => by simp [sameTs]
  | a :: l, [] => by simp [sameTs]
  | a :: l, b :: m => by
    rw [sameTs, sameTs_iff l m]
    obtain ⟨a1, a2⟩ := a
    obtain ⟨b1, b2⟩ := b
    unfold sameT
    simp only
    by_cases h1 : a1 = b1 <;> by_cases h2 : a2 = b2 <;> by_cases h3 : l = m <;> simp [h1, h2, h3]
theorem r14same_eq (a b : Val) (h0 : a.fTopics.length ≤ 1000000) (ha : ∀ t, t ∈ a.fTopics → t.fParts.length ≤ 140737488355328) : f_r14_Same a b = some (decide (a = b)) := by
  unfold f_r14_Same
  rw [rsame_eq _ _ h0 ha, sameTs_iff]
  obtain ⟨a1, a2, a3, a4, a5, a6, a7⟩ := a
  obtain ⟨b1, b2, b3, b4, b5, b6, b7⟩ := b
  simp only [Val.mk.injEq, Option.bind_some]
  by_cases h1 : a1 = b1 <;> by_cases h2 : a2 = b2 <;> by_cases h3 : a3 = b3 <;> by_cases h4 : a4 = b4 <;> by_cases h5 : a5 = b5 <;> by_cases h6 : a6 = b6 <;> by_cases h7 : a7 = b7 <;> simp [h1, h2, h3, h4, h5, h6, h7]
theorem val_ok {a : Val} (w : wf_Val a) (hw : wTs a.fTopics ≤ 2000) (hc : chkV a = 0) : okV a ∧ decV (encV a) = (a, 0) := by
  obtain ⟨h1, h2, h3, h4⟩ := chk_zero hc
  obtain ⟨w1, w2, w3, w4, w5, w6, w7⟩ := id w
  have hn := wTs_len a.fTopics
  have f8 : ∀ n : Int, wI n → fits n 8 = true := fun n h => by rw [fits_8]; exact decide_eq_true h
  have hok : okV a := by
    unfold badR at h1
    exact ⟨f8 _ w1, by rw [fits_2]; exact decide_eq_true (by omega), by rw [fits_4]; exact decide_eq_true (by omega), by rw [fits_1]; exact decide_eq_true (by omega), ⟨fits_small (.inr (.inl rfl)) (by omega) (by omega), okts_ok h4 (by omega)⟩, f8 _ w6, f8 _ w7⟩
  refine ⟨hok, ?_⟩
  obtain ⟨r, hr⟩ := val_back hok
  unfold decV
  rw [hr]
  simp only [if_pos hc]
theorem encV_inj {a b : Val} (ha : okV a) (hb : okV b) (h : encV a = encV b) : a = b := by
  obtain ⟨r, hr⟩ := val_back ha
  obtain ⟨r', hr'⟩ := val_back hb
  rw [h, hr'] at hr
  injection hr with hr
  exact (Prod.mk.inj hr).1.symm
theorem k97 : gKEncode [97] = some ([0, 0, 0, 1, 97], 0) := by kernel_rfl
theorem pure_WholeEntries (a0 : List UInt8 × List UInt8) (a1 : Val) (a2 : Val) (w0 : (fun a : List UInt8 × List UInt8 => wS a.1 ∧ wS a.2) a0) (w1 : wf_Val a1) (w2 : wf_Val a2) : f_top_WholeEntries a0 a1 a2 = some true := by
  obtain ⟨i1, i2⟩ := a0
  unfold f_top_WholeEntries
  rw [k97, Option.bind_some]
  simp only [if_true]
  rw [if_pos (by decide), Option.bind_some, if_neg (by decide)]
  by_cases c1 : (i1.length : Int) > 500
  · rw [if_pos c1]; rfl
  rw [if_neg c1]
  by_cases c2 : (i2.length : Int) > 500
  · rw [if_pos c2]; rfl
  rw [if_neg c2]
  rcases few_eq a1.fTopics w1.2.2.2.2.1.2 with h1 | ⟨h1, hw1⟩
  · rw [h1]; rfl
  rcases few_eq a2.fTopics w2.2.2.2.2.1.2 with h2 | ⟨h2, hw2⟩
  · rw [h1, h2]; rfl
  have hn1 := wTs_len a1.fTopics
  have hm1 : ∀ t, t ∈ a1.fTopics → t.fParts.length ≤ 140737488355328 := fun t ht => by
    have := wTs_mem _ t ht
    unfold wT at this
    omega
  rw [h1, h2, Option.bind_some, if_neg (by decide), Option.bind_some, if_neg (by decide), Option.bind_some, if_neg (by decide), gKEncode_eq, Option.bind_some, gKEncode_eq, Option.bind_some]
  simp only
  have hk : (if (kenc i1).2 = 0 then (if (kenc i2).2 = 0 then (if (kenc i1).1 = (kenc i2).1 then (if i1 = i2 then some false else some true) else (if i1 = i2 then some true else some false)) else some false) else some false) = some false := by
    cases k1 : kright i1 with
    | false => rw [kenc_bad k1, if_neg (by decide)]
    | true =>
      cases k2 : kright i2 with
      | false => rw [kenc_good k1, kenc_bad k2, if_pos rfl, if_neg (by decide)]
      | true =>
        rw [kenc_good k1, kenc_good k2, if_pos rfl, if_pos rfl]
        simp only
        by_cases he : i1 = i2
        · rw [if_pos (by rw [he]), if_pos he]
        · rw [if_neg, if_neg he]
          intro h
          apply he
          have h3 := kdec_enc k1
          rw [h, kdec_enc k2] at h3
          exact (Prod.mk.inj h3).1.symm
  rw [hk, Option.bind_some, if_neg (by decide), encode_eq _ w1 (by omega), Option.bind_some, encode_eq _ w2 (by omega), Option.bind_some, r14same_eq a1 a2 (by omega) hm1]
  have hv : ((if (if chkV a1 = 0 then (encV a1, (0 : Int)) else ([], chkV a1)).2 = 0 then (if (if chkV a2 = 0 then (encV a2, (0 : Int)) else ([], chkV a2)).2 = 0 then ((some (decide (a1 = a2))).bind fun x71 => if (if chkV a1 = 0 then (encV a1, (0 : Int)) else ([], chkV a1)).1 = (if chkV a2 = 0 then (encV a2, (0 : Int)) else ([], chkV a2)).1 then (if x71 = true then some false else some true) else (if x71 = true then some true else some false)) else some false) else some false)) = some false := by
    by_cases hc1 : chkV a1 = 0
    · by_cases hc2 : chkV a2 = 0
      · rw [if_pos hc1, if_pos hc2, if_pos rfl, if_pos rfl, Option.bind_some]
        simp only
        by_cases he : a1 = a2
        · rw [if_pos (by rw [he]), if_pos (decide_eq_true he)]
        · rw [if_neg (fun h => he (encV_inj (val_ok w1 (by omega) hc1).1 (val_ok w2 (by omega) hc2).1 h)), if_neg (by simp [he])]
      · rw [if_pos hc1, if_neg hc2, if_pos rfl, if_neg hc2]
    · rw [if_neg hc1, if_neg hc1]
  try simp only at hv
  rw [hv, Option.bind_some, if_neg (by decide)]
  have hd : (if (if chkV a1 = 0 then (encV a1, (0 : Int)) else ([], chkV a1)).2 = 0 then ((f_value_Decode (if chkV a1 = 0 then (encV a1, (0 : Int)) else ([], chkV a1)).1).bind fun (x88, x91) => (if x91 = 0 then ((f_r14_Same x88 a1).bind fun x100 => if x100 = true then some false else some true) else some true).bind fun y97 => if y97 = true then none else some true) else some true) = some true := by
    by_cases hc1 : chkV a1 = 0
    · rw [if_pos hc1, if_pos rfl]
      simp only
      rw [vdecode_eq _ (by rw [encV_len]; omega), (val_ok w1 (by omega) hc1).2, Option.bind_some]
      simp only [if_true]
      rw [r14same_eq a1 a1 (by omega) hm1, decide_eq_true rfl]
      rfl
    · rw [if_neg hc1, if_neg hc1]
  try simp only at hd
  rw [hd]
  cases k1 : kright i1 with
  | false => rw [kenc_bad k1, if_neg (by decide)]
  | true =>
    rw [kenc_good k1, if_pos rfl]
    simp only
    rw [gKDecode_eq _ (by simp only [encK, List.length_append, be_length]; omega), kdec_enc k1, Option.bind_some]
    simp only [if_true]
    rfl
end Go.Proofs.Ytagbblaegdedpaa.Sl
namespace Go.Proofs.Ytagbblaegdedpaa.Sl
open Go.RowKit Go.Deep Go.ChangeShapes
set_option linter.unusedVariables false
def eqRd {α : Type} (f : α → List Value) : Rd α := ⟨fun _ _ cs a => cs = f a, fun h _ => h, fun h _ => h⟩
section
variable {H : Type} {enc : TypeId × Value → H} {P : Program} {α β : Type}
theorem op_arr {t e : TypeId} {E : Rd α} {W : α → Prop} (n : Nat) (g : α → Value) (mk : (Nat → α) → β) (cells : β → List Value) (Wb : β → Prop) (hn : 0 < n) (ht : P.underlying t = some (.array n e)) (hc : P.cellsOf e = 1) (hct : P.cellsOf t = n) (he : OpensW enc P e (andRd E W))
    (hE : ∀ w S cs x, E.P w S cs x → cs = [g x]) (hm : ∀ f, cells (mk f) = (List.range n).map (fun i => g (f i))) (hw : ∀ f, (∀ i, i < n → W (f i)) → Wb (mk f)) : OpensW enc P t (andRd (eqRd cells) Wb) := by
  intro w fuel cs x hx hwt
  obtain ⟨xs, m, rfl, rfl, hl, hxl, hf⟩ := DataW.trod_array ht hx
  have each : ∀ i : Fin n, ∃ y : α, (andRd E W).P w (fun k => k < w.heap.size) ((cs.drop i.val).take 1) y := by
    intro i
    have h1 := hf i.val i.isLt
    rw [hc, Nat.mul_one, List.getElem?_eq_getElem (by omega)] at h1
    refine he _ _ _ _ h1 (fun z hz => hwt z ?_)
    simp only [DataW.weights, ht]
    exact weightsAll_mem (d := xs[i.val].1) (List.mem_map.2 ⟨_, List.getElem_mem _, rfl⟩) hz
  obtain ⟨f, hff⟩ := Classical.axiomOfChoice each
  let f' : Nat → α := fun i => if h : i < n then f ⟨i, h⟩ else f ⟨0, hn⟩
  have hf' : ∀ i, i < n → (andRd E W).P w (fun k => k < w.heap.size) ((cs.drop i).take 1) (f' i) := by
    intro i hi
    have := hff ⟨i, hi⟩
    show (andRd E W).P _ _ _ (if h : i < n then f ⟨i, h⟩ else f ⟨0, hn⟩)
    rw [dif_pos hi]
    exact this
  refine ⟨mk f', ?_, hw f' (fun i hi => (hf' i hi).2)⟩
  show cs = cells (mk f')
  rw [hm]
  apply List.ext_getElem?
  intro i
  by_cases hi : i < n
  · have h1 := hE _ _ _ _ (hf' i hi).1
    have h2 : cs[i]? = ((cs.drop i).take 1)[0]? := by simp
    rw [h2, h1]
    simp [hi]
  · rw [List.getElem?_eq_none (by omega), List.getElem?_eq_none (by simp; omega)]
theorem opens_arg3 {t e : TypeId} {n : Nat} {E : Rd α} {r : Reach} {b0 : Nat} {w : World} {v : Value} {d : DataW H} {p : List MemPlace} (ht : P.underlying t = some (.array n e)) (hval : Value.okWide P w r b0 t v) (h : OpensW enc P t E)
    (hv : DataW.Trod enc P w 0 (fun _ => true) true t v d p) (hw : ∀ m, m ∈ d.weights P t → m ≤ reachBytes) : ∃ a cs, v = .agg cs ∧ E.P w (fun k => k < w.heap.size) cs.toList a := by
  have hv0 : ∃ cs, v = .agg cs := by
    simp only [Value.okWide, ht] at hval
    obtain ⟨cs, h1, _⟩ := hval
    exact ⟨cs, h1⟩
  obtain ⟨cs, rfl⟩ := hv0
  obtain ⟨fuel, hf⟩ := hv
  obtain ⟨a, ha⟩ := h _ _ _ _ hf hw
  exact ⟨a, cs, rfl, ha⟩
end
end Go.Proofs.Ytagbblaegdedpaa.Sl
namespace Go.Proofs.Ytagbblaegdedpaa.Sl
open Go.RowKit Go.Deep Go.ChangeShapes
set_option linter.unusedVariables false
theorem op_ar95 {H : Type} {enc : TypeId × Value → H} : OpensW enc Try.prog 95 (andRd (eqRd (fun a : List UInt8 × List UInt8 => [.string (bsOf a.1), .string (bsOf a.2)])) (fun a : List UInt8 × List UInt8 => wS a.1 ∧ wS a.2)) :=
  op_arr 2 (fun x => .string (bsOf x)) (fun f => (f 0, f 1)) _ _ (by decide) Try.underlying95 (by kernel_rfl) (by kernel_rfl) (op_str Try.underlying9) (fun _ _ _ _ h => h) (fun f => rfl) (fun f h => ⟨h 0 (by decide), h 1 (by decide)⟩)
theorem op_Top {H : Type} {enc : TypeId × Value → H} : OpensW enc Try.prog 162 (andRd Top_rd wf_Top) :=
  opensW_weak (fun x => ⟨x.1, x.2.1⟩) (opensW_struct Try.underlying162 (by kernel_rfl) (opensWFs_cons 1 (by kernel_rfl) (by kernel_rfl) (op_str Try.underlying9) (opensWFs_cons 1 (by kernel_rfl) (by kernel_rfl) (op_slice 1 8 Try.underlying160 (by kernel_rfl) (by kernel_rfl) (by decide) (by decide) (op_i64 Try.underlying3)) (opensWFs_nil _)))) (by
    rintro w S cs ⟨x0, x1, _⟩ ⟨_, _, rfl, ⟨p0, q0⟩, _, _, rfl, ⟨p1, q1⟩, rfl⟩
    obtain rfl := p0
    obtain ⟨A1, c1, rfl⟩ := slice_cells p1
    exact ⟨⟨A1, c1, rfl, p1⟩, q0, q1⟩)
theorem op_Val {H : Type} {enc : TypeId × Value → H} : OpensW enc Try.prog 97 (andRd Val_rd wf_Val) :=
  opensW_weak (fun x => ⟨x.1, x.2.1, x.2.2.1, x.2.2.2.1, x.2.2.2.2.1, x.2.2.2.2.2.1, x.2.2.2.2.2.2.1⟩) (opensW_struct Try.underlying97 (by kernel_rfl) (opensWFs_cons 1 (by kernel_rfl) (by kernel_rfl) (op_i64 Try.underlying3) (opensWFs_cons 1 (by kernel_rfl) (by kernel_rfl) (op_i64 Try.underlying3) (opensWFs_cons 1 (by kernel_rfl) (by kernel_rfl) (op_i64 Try.underlying3) (opensWFs_cons 1 (by kernel_rfl) (by kernel_rfl) (op_i64 Try.underlying3) (opensWFs_cons 1 (by kernel_rfl) (by kernel_rfl) (op_slice 2 40 Try.underlying68 (by kernel_rfl) (by kernel_rfl) (by decide) (by decide) op_Top) (opensWFs_cons 1 (by kernel_rfl) (by kernel_rfl) (op_i64 Try.underlying3) (opensWFs_cons 1 (by kernel_rfl) (by kernel_rfl) (op_i64 Try.underlying3) (opensWFs_nil _))))))))) (by
    rintro w S cs ⟨x0, x1, x2, x3, x4, x5, x6, _⟩ ⟨_, _, rfl, ⟨p0, q0⟩, _, _, rfl, ⟨p1, q1⟩, _, _, rfl, ⟨p2, q2⟩, _, _, rfl, ⟨p3, q3⟩, _, _, rfl, ⟨p4, q4⟩, _, _, rfl, ⟨p5, q5⟩, _, _, rfl, ⟨p6, q6⟩, rfl⟩
    obtain rfl := p0
    obtain rfl := p1
    obtain rfl := p2
    obtain rfl := p3
    obtain ⟨A4, c4, rfl⟩ := slice_cells p4
    obtain rfl := p5
    obtain rfl := p6
    exact ⟨⟨A4, c4, rfl, p4⟩, q0, q1, q2, q3, q4, q5, q6⟩)
end Go.Proofs.Ytagbblaegdedpaa.Sl
namespace Go.Proofs.Ytagbblaegdedpaa.wholeEntries
open Go.ChangeShapes Go.WideShapes Go.ChangeAt Go.RowKit
open Go.ChangeMaps (open_string shut_string)
set_option linter.unusedVariables false
theorem own : ownKnob Try.prog.godebug = none := by kernel_rfl
theorem laidOut : laidOutB Try.prog = true := by kernel_rfl
set_option maxRecDepth 100000 in
set_option maxHeartbeats 1000000 in
theorem lifted (os : Os) (started : os.Started) (H : Type) (enc : TypeId × Value → H) :
    ReturnsInHanded {} Try.checked os 11 .any (Rows.wholeEntriesSpec.pre6 enc Try.prog Try.f11 Rows.wholeEntriesRow.domain false) (Rows.wholeEntriesSpec.post enc Try.prog Try.f11 false true false false) := by
  refine returnsInHanded_of_change_sized (C := Try.checked) own started (by kernel_rfl) Try.func11
    (ChangeSpec.witness6 (enc := enc) (C := Try.checked) false ⟨#[], #[.agg #[.string ByteArray.empty, .string ByteArray.empty], .agg #[.int .i64 0, .int .i64 0, .int .i64 0, .int .i64 0, .slice none 0 0, .int .i64 0, .int .i64 0], .agg #[.int .i64 0, .int .i64 0, .int .i64 0, .int .i64 0, .slice none 0 0, .int .i64 0, .int .i64 0]], []⟩ 8 (by kernel_rfl) (by kernel_rfl) (by kernel_rfl) (by kernel_rfl)) ?_
  intro W base args ds gs before hval0 hW hcnd hsz0 _
  have hsz : (DataW.weightsEach Try.prog (Try.f11.params.toList ++ Rows.wholeEntriesSpec.plain.varTypes Try.prog) (ds ++ gs)).all (· ≤ reachBytes) = true := hsz0
  have hval : ∀ (j : Nat) t v, Try.f11.params[j]? = some t → args[j]? = some v → Value.okWide Try.prog W .any base t v := hval0
  have hW' := hW
  obtain ⟨p, q, hA0, hV, rfl, hfz, hnd⟩ := hW
  have hA : DataW.TrodAll enc Try.prog W 0 (fun _ => true) true Try.f11.params.toList args.toList ds p := hA0
  rw [Try.params11] at hA hval hsz
  obtain ⟨v0, vs0, d0, ds0, p0, q0, hargs, rfl, rfl, h0, r0⟩ := trodAll_cons hA
  obtain ⟨v1, vs1, d1, ds1, p1, q1, rfl, rfl, rfl, h1, r1⟩ := trodAll_cons r0
  obtain ⟨v2, vs2, d2, ds2, p2, q2, rfl, rfl, rfl, h2, r2⟩ := trodAll_cons r1
  obtain ⟨rfl, rfl, rfl⟩ := trodAll_nil r2
  obtain rfl : args = #[v0, v1, v2] := by cases args; simp_all
  obtain ⟨rfl, rfl⟩ := trodVars_none hV
  have k0 := h0
  have lt0 : ∀ x ∈ p0, x.block < W.heap.size := by obtain ⟨m, hm⟩ := k0; exact DataW.trod_lt m _ _ _ hm
  obtain ⟨a0, cs0, rfl, r_0, w0⟩ := Sl.opens_arg3 Try.underlying95 (hval 0 95 v0 rfl rfl) Sl.op_ar95 h0 (fun x hx => of_decide_eq_true (List.all_eq_true.1 hsz x (Sl.weights_in 0 rfl rfl hx)))
  have e0 : cs0.toList = _ := r_0
  obtain rfl : cs0 = #[.string (Sl.bsOf a0.1), .string (Sl.bsOf a0.2)] := by apply Array.toList_inj.1; exact e0
  have k1 := h1
  have lt1 : ∀ x ∈ p1, x.block < W.heap.size := by obtain ⟨m, hm⟩ := k1; exact DataW.trod_lt m _ _ _ hm
  obtain ⟨a1, cs1, rfl, r_1, w1⟩ := Sl.opens_arg2 Try.underlying97 (hval 1 97 v1 rfl rfl) Sl.op_Val h1 (fun x hx => of_decide_eq_true (List.all_eq_true.1 hsz x (Sl.weights_in 1 rfl rfl hx)))
  obtain ⟨A1_0, c1_0, e1, r1_0⟩ := r_1
  obtain rfl : cs1 = #[.int .i64 a1.fProducer, .int .i64 a1.fEpoch, .int .i64 a1.fTimeout, .int .i64 a1.fState, .slice A1_0 a1.fTopics.length c1_0, .int .i64 a1.fUpdated, .int .i64 a1.fStarted] := by apply Array.toList_inj.1; exact e1
  have k2 := h2
  have lt2 : ∀ x ∈ p2, x.block < W.heap.size := by obtain ⟨m, hm⟩ := k2; exact DataW.trod_lt m _ _ _ hm
  obtain ⟨a2, cs2, rfl, r_2, w2⟩ := Sl.opens_arg2 Try.underlying97 (hval 2 97 v2 rfl rfl) Sl.op_Val h2 (fun x hx => of_decide_eq_true (List.all_eq_true.1 hsz x (Sl.weights_in 2 rfl rfl hx)))
  obtain ⟨A2_0, c2_0, e2, r2_0⟩ := r_2
  obtain rfl : cs2 = #[.int .i64 a2.fProducer, .int .i64 a2.fEpoch, .int .i64 a2.fTimeout, .int .i64 a2.fState, .slice A2_0 a2.fTopics.length c2_0, .int .i64 a2.fUpdated, .int .i64 a2.fStarted] := by apply Array.toList_inj.1; exact e2
  clear hA0 hval0 hsz0 hsz
  refine (Sl.f_top_WholeEntries_spec a0 a1 A1_0 c1_0 a2 A2_0 c2_0 true (Sl.pure_WholeEntries a0 a1 a2 w0 w1 w2) (fun _ => False) W (fun _ h => h) (Sl.RX.reads_and (Sl.RX.reads_all r1_0) (Sl.RX.reads_all r2_0))).mono fun e W' hP => ?_
  obtain ⟨v, A', Ns, rfl, ⟨rfl, rfl, rfl⟩, hst⟩ := hP
  have bel := Sl.St.below hst
  exact ⟨_, rfl, _, _, _, [], _, [], hW', trodAll_mk1 (shut_bool Try.underlying4 _), (trodAll_cons_mk (Below.trod laidOut (by kernel_rfl) (of_decide_eq_true (by kernel_rfl)) k0 bel lt0) (trodAll_cons_mk (Below.trod laidOut (by kernel_rfl) (of_decide_eq_true (by kernel_rfl)) k1 bel lt1) (trodAll_cons_mk (Below.trod laidOut (by kernel_rfl) (of_decide_eq_true (by kernel_rfl)) k2 bel lt2) trodAll_mk0))), rfl, bel.frame _, fun h => by cases h⟩
theorem over : Rows.wholeEntriesRow.holds Try.pinned (OpenSpec.ofChange Rows.wholeEntriesSpec) :=
  OpenClaim.holds_of_wide 11 Try.f11 rfl rfl rfl rfl rfl rfl rfl ⟨rfl, rfl, rfl, rfl, rfl⟩ rfl rfl rfl rfl rfl (by kernel_rfl) Try.func11 (by kernel_rfl)
    (of_decide_eq_true (by kernel_rfl)) (by unfold Func.isWrapper; first | (rw [if_pos (by decide +kernel)]; kernel_rfl) | (rw [if_neg (by decide +kernel)]; exact ⟨rfl, rfl⟩))
    (fun os started H enc _ => lifted os started H enc)
theorem proved : Rows.WholeEntriesSaid := over
end Go.Proofs.Ytagbblaegdedpaa.wholeEntries
namespace Go.Proofs.Ytagbblaegdedpaa
theorem wholeEntries_holds : Rows.WholeEntriesSaid := wholeEntries.proved
end Go.Proofs.Ytagbblaegdedpaa
