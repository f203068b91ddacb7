/- produceSame_holds: part 4. -/
import Derived.Test.YtcoppaggpbfcmaaK3
namespace Go.Proofs.Ytcoppaggpbfcmaa.Sl
open Go.RowKit
set_option linter.unusedVariables false
set_option linter.unusedSimpArgs false
set_option maxRecDepth 100000
def ft_produce : FTab := [(25, 3, 3), (25, 4, 4), (30, 0, 0), (30, 1, 1), (65, 0, 0), (65, 1, 2), (65, 2, 3), (65, 3, 4), (76, 0, 0), (76, 1, 1), (78, 0, 0), (78, 1, 1)]
theorem ft_produce_ok : (ft_produce).OK Try.prog := ⟨FOK.mk Try.runUnderlying25 rfl Try.sizeOf4 rfl, FOK.mk Try.runUnderlying25 rfl Try.sizeOf4 rfl, FOK.mk Try.runUnderlying30 rfl Try.sizeOf4 rfl, FOK.mk Try.runUnderlying30 rfl Try.sizeOf9 rfl, FOK.mk Try.runUnderlying65 rfl Try.sizeOf30 rfl, FOK.mk Try.runUnderlying65 rfl Try.sizeOf3 rfl, FOK.mk Try.runUnderlying65 rfl Try.sizeOf3 rfl, FOK.mk Try.runUnderlying65 rfl Try.sizeOf63 rfl, FOK.mk Try.runUnderlying76 rfl Try.sizeOf9 rfl, FOK.mk Try.runUnderlying76 rfl Try.sizeOf74 rfl, FOK.mk Try.runUnderlying78 rfl Try.sizeOf3 rfl, FOK.mk Try.runUnderlying78 rfl Try.sizeOf46 rfl, trivial⟩
theorem mix_produce : Try.prog.follows .mixedOrders = true := by kernel_rfl
theorem flat_produce_30 : Flat Try.prog 2 30 [.bool, .string] true := (Flat.struct Try.isAgg30 Try.sizeOf30 rfl Try.underlying30 Try.stoodInHeld30 ⟨by decide, rfl, [.bool], [.string], false, rfl, (Flat.one_ Try.isAgg4 Try.sizeOf4 Try.underlying4), ⟨by decide, rfl, [.string], [], false, rfl, (Flat.one_ Try.isAgg9 Try.sizeOf9 Try.underlying9), rfl⟩⟩)
def f_produce_rise_l3 (x10 : ProduceTopic) : List ProducePart → Int → Nat → Option (Lp Int Int)
  | [], y158, k159 => some (Lp.go y158)
  | x164 :: xs, y158, k159 => (if x164.fIndex < 0 then some true else ((gFits x164.fIndex 4).bind fun x223 => if x223 = true then (if (k159 : Int) > 0 then (if -9223372036854775808 ≤ ((k159 : Int) - 1) ∧ ((k159 : Int) - 1) ≤ 9223372036854775807 then (if 0 ≤ ((k159 : Int) - 1) then ((x10.fParts[((k159 : Int) - 1).toNat]?).bind fun x229 => if x229.fIndex ≥ x164.fIndex then some true else some false) else none) else none) else some false) else some true)).bind fun y220 => if y220 = true then some (Lp.ret 13) else (f_produce_rise_l3 x10 xs y158 (k159 + 1))
def f_produce_rise_l1 (a0 : List ProduceTopic) : List ProduceTopic → Int → Nat → Option (Lp Int Int)
  | [], y4, k5 => some (Lp.go y4)
  | x10 :: xs, y4, k5 => if (x10.fParts.length : Int) = 0 then some (Lp.ret 10) else ((if x10.fName = [] then some true else (if (x10.fName.length : Int) > 32767 then some true else (if (k5 : Int) > 0 then (if -9223372036854775808 ≤ ((k5 : Int) - 1) ∧ ((k5 : Int) - 1) ≤ 9223372036854775807 then (if 0 ≤ ((k5 : Int) - 1) then ((a0[((k5 : Int) - 1).toNat]?).bind fun x150 => if (Op.bytesLess x150.fName x10.fName) = true then some false else some true) else none) else none) else some false))).bind fun y143 => if y143 = true then some (Lp.ret 13) else ((f_produce_rise_l3 x10 x10.fParts y4 0).bind fun e => match e with | .ret r => some (Lp.ret r) | .go y237 => (f_produce_rise_l1 a0 xs y237 (k5 + 1))))
theorem f_produce_rise_l1_z (a0 : List ProduceTopic) (y4 : Int) (k5 : Nat) : f_produce_rise_l1 a0 [] y4 k5 = (some (Lp.go y4)) := rfl
theorem f_produce_rise_l1_s (a0 : List ProduceTopic) (x10 : ProduceTopic) (xs : List ProduceTopic) (y4 : Int) (k5 : Nat) : f_produce_rise_l1 a0 (x10 :: xs) y4 k5 = (if (x10.fParts.length : Int) = 0 then some (Lp.ret 10) else ((if x10.fName = [] then some true else (if (x10.fName.length : Int) > 32767 then some true else (if (k5 : Int) > 0 then (if -9223372036854775808 ≤ ((k5 : Int) - 1) ∧ ((k5 : Int) - 1) ≤ 9223372036854775807 then (if 0 ≤ ((k5 : Int) - 1) then ((a0[((k5 : Int) - 1).toNat]?).bind fun x150 => if (Op.bytesLess x150.fName x10.fName) = true then some false else some true) else none) else none) else some false))).bind fun y143 => if y143 = true then some (Lp.ret 13) else ((f_produce_rise_l3 x10 x10.fParts y4 0).bind fun e => match e with | .ret r => some (Lp.ret r) | .go y237 => (f_produce_rise_l1 a0 xs y237 (k5 + 1))))) := rfl
def f_produce_rise (a0 : List ProduceTopic) : Option (Int) := if (a0.length : Int) = 0 then some 10 else ((f_produce_rise_l1 a0 a0 0 0).bind fun e => match e with | .ret r => some r | .go y239 => some 0)
set_option maxRecDepth 100000 in
set_option maxHeartbeats 4000000 in
theorem f_produce_rise_spec (a0 : List ProduceTopic) (A1 : Option Addr) (c2 : Nat) (r : Int) (h : f_produce_rise a0 = some r) : SpecX Try.prog 110 #[.slice A1 a0.length c2] (RX.of (sliceRd 2 ProduceTopic_rd) [.slice A1 a0.length c2] a0) (EmpR) (fun v A' N => v = .int .i64 r ∧ A' = EmpR ∧ N = []) := by
  refine enterA Try.func110 rfl Try.ntmps110 rfl ?_
  intro F w hX
  unfold f_produce_rise at h
  refine T.seq (T.region rfl ?_)
  refine TL.run ft_produce_ok [0] rfl rfl ?_
  refine TL.nil (X.seq (T.seq (T.seq (T.region rfl ?_))))
  refine TL.run ft_produce_ok [0] rfl rfl ?_
  refine TL.q rfl .u (Ex.lenS rfl Try.runUnderlying63) rfl ?_
  refine TL.run ft_produce_ok [2] rfl rfl ?_
  by_cases c3 : (a0.length : Int) = 0
  · replace h := ifT c3 h
    refine TL.nil (X.seq ?_)
    refine T.yes rfl (decide_eq_true c3) ?_
    refine T.seq (T.region rfl ?_)
    refine TL.run ft_produce_ok [0] rfl rfl ?_
    obtain rfl := Option.some.inj h
    exact TL.nil (X.seq (T.ret (X.rs (X.done1 [0] Try.results110 (RV.tm rfl) ⟨rfl, rfl, rfl⟩ (by rfl) (.inl rfl)))))
  · replace h := ifF c3 h
    refine TL.nil (X.seq ?_)
    refine T.no rfl (decide_eq_false c3) ?_
    refine T.skip (X.seq (T.seq (T.seq (T.region rfl ?_))))
    refine TL.run ft_produce_ok [0] rfl rfl ?_
    refine TL.q rfl .u (Ex.lenS rfl Try.runUnderlying63) rfl ?_
    refine TL.run ft_produce_ok [2] rfl rfl ?_
    refine TL.nil (X.seq (T.block ?_))
    obtain ⟨E6, hE7, hO8⟩ := Option.bind_eq_some_iff.1 h
    have hk12len := RX.len_le hX
    refine T.lp (fun m e Rs => ∃ (y4 : Int) (k5 : Nat), k5 + m = a0.length ∧ e = [(0, .slice A1 a0.length c2), (2, .int .i64 y4), (10, .slice A1 a0.length c2), (11, .int .i64 (a0.length : Int)), (12, .int .i64 (k5 : Int))] ∧ Rs = [EmpR] ∧ f_produce_rise_l1 a0 (a0.drop k5) y4 k5 = some E6) (a0.length) [0] ⟨0, 0, by simp, rfl, rfl, by rw [List.drop_zero]; exact hE7⟩ (by rfl) (by rfl) ?_
    rintro m9 _ _ ⟨y4, k5, hk12, rfl, rfl, hl11⟩
    clear hE7 h
    cases m9 with
    | zero =>
      have h := hl11
      clear hl11
      rw [List.drop_of_length_le (by omega), f_produce_rise_l1_z] at h
      have hk12ge : ¬ ((k5 : Int) < (a0.length : Int)) := by omega
      refine T.seq (T.region rfl ?_)
      refine TL.run ft_produce_ok [0] rfl rfl ?_
      refine TL.nil (X.seq (T.seq ?_))
      refine T.no rfl (decide_eq_false hk12ge) ?_
      obtain rfl := Option.some.inj h
      replace h := hO8
      clear hO8
      try dsimp only at h
      refine T.exit (X.exs (X.exs (X.ex (X.seq (T.seq (T.region rfl ?_))))))
      refine TL.run ft_produce_ok [0] rfl rfl ?_
      obtain rfl := Option.some.inj h
      exact TL.nil (X.seq (T.ret (X.done1 [0] Try.results110 (RV.tm rfl) ⟨rfl, rfl, rfl⟩ (by rfl) (.inl rfl))))
    | succ m9 =>
      have h := hl11
      clear hl11
      obtain ⟨x10, hxx10⟩ : ∃ x, a0[k5]? = some x := ⟨_, List.getElem?_eq_getElem (by omega)⟩
      rw [drop_cons hxx10, f_produce_rise_l1_s] at h
      have hk12lt : (k5 : Int) < (a0.length : Int) := by omega
      refine T.seq (T.region rfl ?_)
      refine TL.run ft_produce_ok [0] rfl rfl ?_
      refine TL.nil (X.seq (T.seq ?_))
      refine T.yes rfl (decide_eq_true hk12lt) ?_
      refine T.skip (X.seq (T.seq (T.block (T.seq (T.region rfl ?_)))))
      obtain ⟨gz126, oz126, rfl, z126cs, z126cl, z126cc, z126nf, z126r⟩ := RX.elem (by decide) hX hxx10
      obtain ⟨z126S, z126r, z126rr⟩ := z126r
      obtain ⟨A127, c128, rfl, z126s0⟩ := z126r
      have hX129 : (RX.of (sliceRd 2 ProducePart_rd) [.slice A127 x10.fParts.length c128] x10.fParts).reads w F := ⟨z126S, z126s0, z126rr⟩
      refine TL.run ft_produce_ok [0] rfl rfl ?_
      refine TL.q rfl .u (Ex.ixS (k := k5) rfl rfl rfl Try.runUnderlying63 Try.sizeOf76 (List.getElem?_eq_some_iff.1 hxx10).1) rfl ?_
      refine TL.q rfl .u (Ex.oS (us := [.string (bsOf x10.fName), .slice A127 x10.fParts.length c128]) 0 rfl Try.isAgg76 Try.sizeOf76 z126nf z126cc rfl rfl rfl) rfl ?_
      refine TL.alloc rfl .u Try.zeroValue76 rfl (fun b130 => ?_)
      refine TL.run ft_produce_ok [4] rfl rfl ?_
      refine TL.st0 (cs' := #[.string (bsOf x10.fName), .slice A127 x10.fParts.length c128]) rfl .u rfl rfl Try.sizeOf76 rfl rfl rfl rfl ?_
      refine TL.nil (X.seq (T.seq (T.seq (T.region rfl ?_))))
      refine TL.run ft_produce_ok [0] rfl rfl ?_
      refine TL.q rfl .u (Ex.b1 0 rfl Try.isAgg74 rfl rfl) rfl ?_
      refine TL.q rfl .u (Ex.lenS rfl Try.runUnderlying74) rfl ?_
      refine TL.run ft_produce_ok [3] rfl rfl ?_
      by_cases c131 : (x10.fParts.length : Int) = 0
      · replace h := ifT c131 h
        refine TL.nil (X.seq ?_)
        refine T.yes rfl (decide_eq_true c131) ?_
        refine T.seq (T.region rfl ?_)
        refine TL.run ft_produce_ok [0] rfl rfl ?_
        obtain rfl := Option.some.inj h
        replace h := hO8
        clear hO8
        try dsimp only at h
        obtain rfl := Option.some.inj h
        exact TL.nil (X.seq (T.ret (X.rs (X.rb (X.rs (X.rs (X.rb (X.rs (X.done1 [1] Try.results110 (RV.tm rfl) ⟨rfl, rfl, rfl⟩ (by rfl) (.inl rfl))))))))))
      · replace h := ifF c131 h
        refine TL.nil (X.seq ?_)
        refine T.no rfl (decide_eq_false c131) ?_
        refine T.skip (X.seq (T.seq (T.seq ?_)))
        obtain ⟨y143, h, hk144⟩ := Option.bind_eq_some_iff.1 h
        refine T.jq (fun e Rs => e = [(0, .slice (some ⟨gz126, oz126, none⟩) a0.length c2), (2, .int .i64 y4), (4, .pointer (some ⟨b130, 0, none⟩)), (10, .slice (some ⟨gz126, oz126, none⟩) a0.length c2), (11, .int .i64 (a0.length : Int)), (12, .int .i64 (k5 : Int)), (44, .bool y143)] ∧ Rs = [BlkR b130 76 #[.string (bsOf x10.fName), .slice A127 x10.fParts.length c128], EmpR]) ?_ ?_
        · clear hk144
          refine T.draw (.q 0 (.q 1 (.q 2 (.q 3 (.q 4 (.q 5 (.q 6 (.q 7 (.q 8 (.q 9 (.q 10 (.q 11 (.q 12 (.q 13 (.q 14 (.q 15 (.q 16 (.q 17 (.q 18 (.q 19 (.q 20 (.q 21 (.q 22 (.q 23 .nil)))))))))))))))))))))))) [0, 0] rfl mix_produce (NoP.seq (NoP.seq (NoP.seq (NoP.blk (NoP.seq (NoP.seq (NoP.blk (NoP.seq np_post)))))))) (by kernel_rfl) ?_
          refine TD.run ft_produce_ok [0] rfl rfl ?_
          refine TD.q rfl .u (Ex.b1 0 rfl Try.isAgg9 rfl rfl) rfl ?_
          refine TD.q rfl .u (Ex.sEq rfl (m := []) rfl) rfl ?_
          by_cases c145 : x10.fName = []
          · replace h := ifT c145 h
            refine TD.run ft_produce_ok [3] rfl rfl ?_
            refine TD.no rfl (.gn rfl rfl (decide_eq_true c145)) rfl ?_
            refine TD.no rfl (.gn rfl rfl (decide_eq_true c145)) rfl ?_
            refine TD.no rfl (.gn rfl rfl (decide_eq_true c145)) rfl ?_
            refine TD.no rfl (.gn rfl rfl (decide_eq_true c145)) rfl ?_
            refine TD.q rfl .u (Ex.py rfl (decide_eq_true c145) rfl) rfl ?_
            refine TD.run ft_produce_ok [9] rfl rfl ?_
            refine TD.no rfl (.gn rfl rfl rfl) rfl ?_
            refine TD.no rfl (.gn rfl rfl rfl) rfl ?_
            refine TD.no rfl (.gn rfl rfl rfl) rfl ?_
            refine TD.no rfl (.gu rfl rfl) rfl ?_
            refine TD.no rfl (.gu rfl rfl) rfl ?_
            refine TD.no rfl (.gu rfl rfl) rfl ?_
            refine TD.no rfl (.gu rfl rfl) rfl ?_
            refine TD.no rfl (.gu rfl rfl) rfl ?_
            refine TD.no rfl (.gu rfl rfl) rfl ?_
            refine TD.no rfl (.gu rfl rfl) rfl ?_
            refine TD.no rfl (.gu rfl rfl) rfl ?_
            refine TD.no rfl (.gu rfl rfl) rfl ?_
            refine TD.no rfl (.gn rfl rfl rfl) rfl ?_
            refine TD.q rfl .u (Ex.py rfl rfl rfl) rfl ?_
            cases h
            exact TD.nil (X.jq [0, 0] ⟨rfl, rfl⟩ (by rfl) (by rfl))
          · replace h := ifF c145 h
            refine TD.run ft_produce_ok [3] rfl rfl ?_
            refine TD.q rfl (.g rfl rfl (decide_eq_false c145)) (Ex.ft ft_produce_ok rfl) rfl ?_
            refine TD.q rfl (.g rfl rfl (decide_eq_false c145)) (Ex.b1 0 rfl Try.isAgg9 rfl rfl) rfl ?_
            refine TD.q rfl (.g rfl rfl (decide_eq_false c145)) (Ex.lenB rfl Try.runUnderlying9) rfl ?_
            refine TD.q rfl (.g rfl rfl (decide_eq_false c145)) (Ex.ft ft_produce_ok rfl) rfl ?_
            refine TD.q rfl .u (Ex.pn rfl (decide_eq_false c145) rfl) rfl ?_
            by_cases c146 : (x10.fName.length : Int) > 32767
            · replace h := ifT c146 h
              refine TD.run ft_produce_ok [9] rfl rfl ?_
              refine TD.no rfl (.gn rfl rfl (decide_eq_true c146)) rfl ?_
              refine TD.no rfl (.gn rfl rfl (decide_eq_true c146)) rfl ?_
              refine TD.no rfl (.gn rfl rfl (decide_eq_true c146)) rfl ?_
              refine TD.no rfl (.gu rfl rfl) rfl ?_
              refine TD.no rfl (.gu rfl rfl) rfl ?_
              refine TD.no rfl (.gu rfl rfl) rfl ?_
              refine TD.no rfl (.gu rfl rfl) rfl ?_
              refine TD.no rfl (.gu rfl rfl) rfl ?_
              refine TD.no rfl (.gu rfl rfl) rfl ?_
              refine TD.no rfl (.gu rfl rfl) rfl ?_
              refine TD.no rfl (.gu rfl rfl) rfl ?_
              refine TD.no rfl (.gu rfl rfl) rfl ?_
              refine TD.no rfl (.gn rfl rfl (decide_eq_true c146)) rfl ?_
              refine TD.q rfl .u (Ex.py rfl (decide_eq_true c146) rfl) rfl ?_
              cases h
              exact TD.nil (X.jq [0, 0] ⟨rfl, rfl⟩ (by rfl) (by rfl))
            · replace h := ifF c146 h
              refine TD.run ft_produce_ok [9] rfl rfl ?_
              refine TD.q rfl (.g rfl rfl (decide_eq_false c146)) (Ex.ft ft_produce_ok rfl) rfl ?_
              refine TD.q rfl (.g rfl rfl (decide_eq_false c146)) (Ex.ft ft_produce_ok rfl) rfl ?_
              refine TD.q rfl (.g rfl rfl (decide_eq_false c146)) (Ex.ft ft_produce_ok rfl) rfl ?_
              by_cases c147 : (k5 : Int) > 0
              · replace h := ifT c147 h
                refine TD.q rfl (.g rfl rfl (decide_eq_true c147)) (Ex.ft ft_produce_ok rfl) rfl ?_
                refine TD.q rfl (.g rfl rfl (decide_eq_true c147)) (Ex.ft ft_produce_ok rfl) rfl ?_
                replace h := guard_some h
                obtain ⟨c148, h⟩ := h
                refine TD.q rfl (.g rfl rfl (decide_eq_true c147)) (Ex.sub rfl rfl c148) rfl ?_
                replace h := guard_some h
                obtain ⟨c149, h⟩ := h
                obtain ⟨x150, hx151, h⟩ := Option.bind_eq_some_iff.1 h
                obtain ⟨z152cs, z152cl, z152cc, z152nf, z152r⟩ := RX.elem' (by decide) hX hx151
                obtain ⟨z152S, z152r, z152rr⟩ := z152r
                obtain ⟨A153, c154, rfl, z152s0⟩ := z152r
                have hX155 : (RX.of (sliceRd 2 ProducePart_rd) [.slice A153 x150.fParts.length c154] x150.fParts).reads w F := ⟨z152S, z152s0, z152rr⟩
                refine TD.q rfl (.g rfl rfl (decide_eq_true c147)) (Ex.ixS (k := ((k5 : Int) - 1).toNat) rfl rfl ((Int.toNat_of_nonneg c149).symm) Try.runUnderlying63 Try.sizeOf76 (List.getElem?_eq_some_iff.1 hx151).1) rfl ?_
                refine TD.q rfl (.g rfl rfl (decide_eq_true c147)) (Ex.ft ft_produce_ok rfl) rfl ?_
                refine TD.q rfl (.g rfl rfl (decide_eq_true c147)) (Ex.o1 0 rfl Try.isAgg9 z152nf z152cc rfl rfl) rfl ?_
                refine TD.q rfl (.g rfl rfl (decide_eq_true c147)) (Ex.ft ft_produce_ok rfl) rfl ?_
                refine TD.q rfl (.g rfl rfl (decide_eq_true c147)) (Ex.b1 0 rfl Try.isAgg9 rfl rfl) rfl ?_
                refine TD.q rfl (.g rfl rfl (decide_eq_true c147)) (Ex.sGe rfl rfl) rfl ?_
                refine TD.q rfl (.g rfl rfl (decide_eq_false c146)) (Ex.py rfl (decide_eq_true c147) rfl) rfl ?_
                refine TD.q rfl .u (Ex.pn rfl (decide_eq_false c146) rfl) rfl ?_
                by_cases c156 : (Op.bytesLess x150.fName x10.fName) = true
                · replace h := ifT c156 h
                  cases h
                  exact TD.nil (X.as (d := 44) (v' := .bool false) rfl (congrArg Value.bool (bn_f c156)) (X.jq [0, 0] ⟨rfl, rfl⟩ (by rfl) (by rfl)))
                · replace h := ifF c156 h
                  replace c156 := eq_false_of_ne_true c156
                  cases h
                  exact TD.nil (X.as (d := 44) (v' := .bool true) rfl (congrArg Value.bool (bn_t c156)) (X.jq [0, 0] ⟨rfl, rfl⟩ (by rfl) (by rfl)))
              · replace h := ifF c147 h
                refine TD.no rfl (.gn rfl rfl (decide_eq_false c147)) rfl ?_
                refine TD.no rfl (.gn rfl rfl (decide_eq_false c147)) rfl ?_
                refine TD.no rfl (.gn rfl rfl (decide_eq_false c147)) rfl ?_
                refine TD.no rfl (.gn rfl rfl (decide_eq_false c147)) rfl ?_
                refine TD.no rfl (.gn rfl rfl (decide_eq_false c147)) rfl ?_
                refine TD.no rfl (.gn rfl rfl (decide_eq_false c147)) rfl ?_
                refine TD.no rfl (.gn rfl rfl (decide_eq_false c147)) rfl ?_
                refine TD.no rfl (.gn rfl rfl (decide_eq_false c147)) rfl ?_
                refine TD.no rfl (.gn rfl rfl (decide_eq_false c147)) rfl ?_
                refine TD.q rfl (.g rfl rfl (decide_eq_false c146)) (Ex.pn rfl (decide_eq_false c147) rfl) rfl ?_
                refine TD.q rfl .u (Ex.pn rfl (decide_eq_false c146) rfl) rfl ?_
                cases h
                exact TD.nil (X.jq [0, 0] ⟨rfl, rfl⟩ (by rfl) (by rfl))
        · rintro _ _ ⟨rfl, rfl⟩
          clear h
          have h := hk144
          clear hk144
          try dsimp only at h
          by_cases c157 : y143 = true
          · replace h := ifT c157 h
            refine X.seq ?_
            refine T.yes rfl c157 ?_
            refine T.seq (T.region rfl ?_)
            refine TL.run ft_produce_ok [0] rfl rfl ?_
            obtain rfl := Option.some.inj h
            replace h := hO8
            clear hO8
            try dsimp only at h
            obtain rfl := Option.some.inj h
            exact TL.nil (X.seq (T.ret (X.rs (X.rb (X.rs (X.rs (X.rb (X.rs (X.done1 [1] Try.results110 (RV.tm rfl) ⟨rfl, rfl, rfl⟩ (by rfl) (.inl rfl))))))))))
          · replace h := ifF c157 h
            replace c157 := eq_false_of_ne_true c157
            refine X.seq ?_
            refine T.no rfl c157 ?_
            refine T.skip (X.seq (T.seq (T.region rfl ?_)))
            refine TL.run ft_produce_ok [0] rfl rfl ?_
            refine TL.q rfl .u (Ex.b1 0 rfl Try.isAgg74 rfl rfl) rfl ?_
            refine TL.q rfl .u (Ex.lenS rfl Try.runUnderlying74) rfl ?_
            refine TL.run ft_produce_ok [3] rfl rfl ?_
            refine TL.nil (X.seq (T.block ?_))
            obtain ⟨E160, hE161, hO162⟩ := Option.bind_eq_some_iff.1 h
            have hk166len := RX.len_le hX129
            refine T.lp (fun m e Rs => ∃ (y158 : Int) (k159 : Nat), k159 + m = x10.fParts.length ∧ e = [(0, .slice (some ⟨gz126, oz126, none⟩) a0.length c2), (2, .int .i64 y158), (4, .pointer (some ⟨b130, 0, none⟩)), (10, .slice (some ⟨gz126, oz126, none⟩) a0.length c2), (11, .int .i64 (a0.length : Int)), (12, .int .i64 (k5 : Int)), (46, .slice A127 x10.fParts.length c128), (47, .int .i64 (x10.fParts.length : Int)), (48, .int .i64 (k159 : Int))] ∧ Rs = [BlkR b130 76 #[.string (bsOf x10.fName), .slice A127 x10.fParts.length c128], EmpR] ∧ f_produce_rise_l3 x10 (x10.fParts.drop k159) y158 k159 = some E160) (x10.fParts.length) [0, 0] ⟨y4, 0, by simp, rfl, rfl, by rw [List.drop_zero]; exact hE161⟩ (by rfl) (by rfl) ?_
            rintro m163 _ _ ⟨y158, k159, hk166, rfl, rfl, hl165⟩
            clear hE161 h
            cases m163 with
            | zero =>
              have h := hl165
              clear hl165
              rw [List.drop_of_length_le (by omega), f_produce_rise_l3] at h
              have hk166ge : ¬ ((k159 : Int) < (x10.fParts.length : Int)) := by omega
              refine T.seq (T.region rfl ?_)
              refine TL.run ft_produce_ok [0] rfl rfl ?_
              refine TL.nil (X.seq (T.seq ?_))
              refine T.no rfl (decide_eq_false hk166ge) ?_
              obtain rfl := Option.some.inj h
              replace h := hO162
              clear hO162
              try dsimp only at h
              refine T.exit (X.exs (X.exs (X.ex (X.blk (X.seq (T.region rfl ?_))))))
              refine TL.q rfl .u (Ex.add rfl rfl (by omega)) rfl ?_
              refine TL.run ft_produce_ok [1] rfl rfl ?_
              exact TL.nil (X.back (m' := m9) [1] (by omega) ⟨y158, k5 + 1, by omega, rfl, rfl, h⟩ (by rfl) (by rfl))
            | succ m163 =>
              have h := hl165
              clear hl165
              obtain ⟨x164, hxx164⟩ : ∃ x, x10.fParts[k159]? = some x := ⟨_, List.getElem?_eq_getElem (by omega)⟩
              rw [drop_cons hxx164, f_produce_rise_l3] at h
              have hk166lt : (k159 : Int) < (x10.fParts.length : Int) := by omega
              refine T.seq (T.region rfl ?_)
              refine TL.run ft_produce_ok [0] rfl rfl ?_
              refine TL.nil (X.seq (T.seq ?_))
              refine T.yes rfl (decide_eq_true hk166lt) ?_
              refine T.skip (X.seq (T.seq (T.block (T.seq (T.region rfl ?_)))))
              obtain ⟨gz202, oz202, rfl, z202cs, z202cl, z202cc, z202nf, z202r⟩ := RX.elem (by decide) hX129 hxx164
              obtain ⟨z202S, z202r, z202rr⟩ := z202r
              obtain ⟨A203, c204, rfl, z202s0⟩ := z202r
              have hX205 : (RX.of (sliceRd 12 Bat_rd) [.slice A203 x164.fBatches.length c204] x164.fBatches).reads w F := ⟨z202S, z202s0, z202rr⟩
              refine TL.run ft_produce_ok [0] rfl rfl ?_
              refine TL.q rfl .u (Ex.ixS (k := k159) rfl rfl rfl Try.runUnderlying74 Try.sizeOf78 (List.getElem?_eq_some_iff.1 hxx164).1) rfl ?_
              refine TL.q rfl .u (Ex.oS (us := [.int .i64 x164.fIndex, .slice A203 x164.fBatches.length c204]) 0 rfl Try.isAgg78 Try.sizeOf78 z202nf z202cc rfl rfl rfl) rfl ?_
              refine TL.alloc rfl .u Try.zeroValue78 rfl (fun b206 => ?_)
              refine TL.run ft_produce_ok [4] rfl rfl ?_
              refine TL.st0 (cs' := #[.int .i64 x164.fIndex, .slice A203 x164.fBatches.length c204]) rfl .u rfl rfl Try.sizeOf78 rfl rfl rfl rfl ?_
              refine TL.nil (X.seq (T.seq ?_))
              obtain ⟨y220, h, hk221⟩ := Option.bind_eq_some_iff.1 h
              refine T.jq (fun e Rs => e = [(0, .slice (some ⟨gz126, oz126, none⟩) a0.length c2), (2, .int .i64 y158), (4, .pointer (some ⟨b130, 0, none⟩)), (10, .slice (some ⟨gz126, oz126, none⟩) a0.length c2), (11, .int .i64 (a0.length : Int)), (12, .int .i64 (k5 : Int)), (46, .slice (some ⟨gz202, oz202, none⟩) x10.fParts.length c128), (47, .int .i64 (x10.fParts.length : Int)), (48, .int .i64 (k159 : Int)), (77, .bool y220)] ∧ Rs = [BlkR b206 78 #[.int .i64 x164.fIndex, .slice A203 x164.fBatches.length c204], BlkR b130 76 #[.string (bsOf x10.fName), .slice (some ⟨gz202, oz202, none⟩) x10.fParts.length c128], EmpR]) ?_ ?_
              · clear hk221
                refine T.draw (.q 0 (.q 1 (.q 2 (.q 3 (.q 4 (.q 5 (.e 6 (.q 7 (.q 8 (.q 9 (.q 10 (.q 11 (.q 12 (.q 13 (.q 14 (.q 15 (.q 16 (.q 17 (.q 18 (.q 19 (.q 20 (.q 21 (.q 22 (.q 23 (.q 24 .nil))))))))))))))))))))))))) [0, 0, 0] rfl mix_produce (NoP.seq (NoP.seq (NoP.blk (NoP.seq (NoP.seq (NoP.blk (NoP.blk (NoP.seq (NoP.seq (NoP.blk (NoP.seq np_post))))))))))) (by kernel_rfl) ?_
                refine TD.run ft_produce_ok [0] rfl rfl ?_
                refine TD.q rfl .u (Ex.b1 0 rfl Try.isAgg3 rfl rfl) rfl ?_
                by_cases c222 : x164.fIndex < 0
                · replace h := ifT c222 h
                  refine TD.run ft_produce_ok [2, 3] rfl rfl ?_
                  refine TD.no rfl (.gn rfl rfl (decide_eq_true c222)) rfl ?_
                  refine TD.no rfl (.gn rfl rfl (decide_eq_true c222)) rfl ?_
                  refine TD.noe rfl (.gn rfl rfl (decide_eq_true c222)) rfl [0, 0, 0] rfl ?_
                  refine TD.no rfl (.gn rfl rfl (decide_eq_true c222)) rfl ?_
                  refine TD.q rfl .u (Ex.py rfl (decide_eq_true c222) rfl) rfl ?_
                  refine TD.run ft_produce_ok [9] rfl rfl ?_
                  refine TD.no rfl (.gn rfl rfl rfl) rfl ?_
                  refine TD.no rfl (.gn rfl rfl rfl) rfl ?_
                  refine TD.no rfl (.gn rfl rfl rfl) rfl ?_
                  refine TD.no rfl (.gu rfl rfl) rfl ?_
                  refine TD.no rfl (.gu rfl rfl) rfl ?_
                  refine TD.no rfl (.gu rfl rfl) rfl ?_
                  refine TD.no rfl (.gu rfl rfl) rfl ?_
                  refine TD.no rfl (.gu rfl rfl) rfl ?_
                  refine TD.no rfl (.gu rfl rfl) rfl ?_
                  refine TD.no rfl (.gu rfl rfl) rfl ?_
                  refine TD.no rfl (.gu rfl rfl) rfl ?_
                  refine TD.no rfl (.gu rfl rfl) rfl ?_
                  refine TD.no rfl (.gu rfl rfl) rfl ?_
                  refine TD.no rfl (.gn rfl rfl rfl) rfl ?_
                  refine TD.q rfl .u (Ex.py rfl rfl rfl) rfl ?_
                  cases h
                  exact TD.nil (X.jq [0, 0, 0] ⟨rfl, rfl⟩ (by rfl) (by rfl))
                · replace h := ifF c222 h
                  refine TD.run ft_produce_ok [2, 3] rfl rfl ?_
                  refine TD.q rfl (.g rfl rfl (decide_eq_false c222)) (Ex.ft ft_produce_ok rfl) rfl ?_
                  refine TD.q rfl (.g rfl rfl (decide_eq_false c222)) (Ex.b1 0 rfl Try.isAgg3 rfl rfl) rfl ?_
                  obtain ⟨x223, hx224, h⟩ := Option.bind_eq_some_iff.1 h
                  refine TD.ce rfl (.g rfl rfl (decide_eq_false c222)) (.fn Try.call86 rfl) (SpecX.pure (fun w => gFits_spec x164.fIndex 4 _ hx224 w)) (fun _ _ => RX.reads_triv _ _) rfl [0, 0, 0] (rfl) ?_
                  refine TD.q rfl (.g rfl rfl (decide_eq_false c222)) (Ex.ft ft_produce_ok rfl) rfl ?_
                  refine TD.q rfl .u (Ex.pn rfl (decide_eq_false c222) rfl) rfl ?_
                  by_cases c225 : x223 = true
                  · replace h := ifT c225 h
                    refine TD.run ft_produce_ok [9] rfl rfl ?_
                    refine TD.q rfl (.g rfl rfl (bn_f c225)) (Ex.ft ft_produce_ok rfl) rfl ?_
                    refine TD.q rfl (.g rfl rfl (bn_f c225)) (Ex.ft ft_produce_ok rfl) rfl ?_
                    refine TD.q rfl (.g rfl rfl (bn_f c225)) (Ex.ft ft_produce_ok rfl) rfl ?_
                    by_cases c226 : (k159 : Int) > 0
                    · replace h := ifT c226 h
                      refine TD.q rfl (.g rfl rfl (decide_eq_true c226)) (Ex.ft ft_produce_ok rfl) rfl ?_
                      refine TD.q rfl (.g rfl rfl (decide_eq_true c226)) (Ex.b1 1 rfl Try.isAgg74 rfl rfl) rfl ?_
                      refine TD.q rfl (.g rfl rfl (decide_eq_true c226)) (Ex.ft ft_produce_ok rfl) rfl ?_
                      replace h := guard_some h
                      obtain ⟨c227, h⟩ := h
                      refine TD.q rfl (.g rfl rfl (decide_eq_true c226)) (Ex.sub rfl rfl c227) rfl ?_
                      replace h := guard_some h
                      obtain ⟨c228, h⟩ := h
                      obtain ⟨x229, hx230, h⟩ := Option.bind_eq_some_iff.1 h
                      obtain ⟨z231cs, z231cl, z231cc, z231nf, z231r⟩ := RX.elem' (by decide) hX129 hx230
                      obtain ⟨z231S, z231r, z231rr⟩ := z231r
                      obtain ⟨A232, c233, rfl, z231s0⟩ := z231r
                      have hX234 : (RX.of (sliceRd 12 Bat_rd) [.slice A232 x229.fBatches.length c233] x229.fBatches).reads w F := ⟨z231S, z231s0, z231rr⟩
                      refine TD.q rfl (.g rfl rfl (decide_eq_true c226)) (Ex.ixS (k := ((k159 : Int) - 1).toNat) rfl rfl ((Int.toNat_of_nonneg c228).symm) Try.runUnderlying74 Try.sizeOf78 (List.getElem?_eq_some_iff.1 hx230).1) rfl ?_
                      refine TD.q rfl (.g rfl rfl (decide_eq_true c226)) (Ex.ft ft_produce_ok rfl) rfl ?_
                      refine TD.q rfl (.g rfl rfl (decide_eq_true c226)) (Ex.o1 0 rfl Try.isAgg3 z231nf z231cc rfl rfl) rfl ?_
                      refine TD.q rfl (.g rfl rfl (decide_eq_true c226)) (Ex.ft ft_produce_ok rfl) rfl ?_
                      refine TD.q rfl (.g rfl rfl (decide_eq_true c226)) (Ex.b1 0 rfl Try.isAgg3 rfl rfl) rfl ?_
                      refine TD.q rfl (.g rfl rfl (decide_eq_true c226)) (Ex.ft ft_produce_ok rfl) rfl ?_
                      refine TD.q rfl (.g rfl rfl (bn_f c225)) (Ex.py rfl (decide_eq_true c226) rfl) rfl ?_
                      refine TD.q rfl .u (Ex.pn rfl (bn_f c225) rfl) rfl ?_
                      by_cases c235 : x229.fIndex ≥ x164.fIndex
                      · replace h := ifT c235 h
                        cases h
                        exact TD.nil (X.as (d := 77) (v' := .bool true) rfl (congrArg Value.bool (decide_eq_true c235)) (X.jq [0, 0, 0] ⟨rfl, rfl⟩ (by rfl) (by rfl)))
                      · replace h := ifF c235 h
                        cases h
                        exact TD.nil (X.as (d := 77) (v' := .bool false) rfl (congrArg Value.bool (decide_eq_false c235)) (X.jq [0, 0, 0] ⟨rfl, rfl⟩ (by rfl) (by rfl)))
                    · replace h := ifF c226 h
                      refine TD.no rfl (.gn rfl rfl (decide_eq_false c226)) rfl ?_
                      refine TD.no rfl (.gn rfl rfl (decide_eq_false c226)) rfl ?_
                      refine TD.no rfl (.gn rfl rfl (decide_eq_false c226)) rfl ?_
                      refine TD.no rfl (.gn rfl rfl (decide_eq_false c226)) rfl ?_
                      refine TD.no rfl (.gn rfl rfl (decide_eq_false c226)) rfl ?_
                      refine TD.no rfl (.gn rfl rfl (decide_eq_false c226)) rfl ?_
                      refine TD.no rfl (.gn rfl rfl (decide_eq_false c226)) rfl ?_
                      refine TD.no rfl (.gn rfl rfl (decide_eq_false c226)) rfl ?_
                      refine TD.no rfl (.gn rfl rfl (decide_eq_false c226)) rfl ?_
                      refine TD.no rfl (.gn rfl rfl (decide_eq_false c226)) rfl ?_
                      refine TD.q rfl (.g rfl rfl (bn_f c225)) (Ex.pn rfl (decide_eq_false c226) rfl) rfl ?_
                      refine TD.q rfl .u (Ex.pn rfl (bn_f c225) rfl) rfl ?_
                      cases h
                      exact TD.nil (X.jq [0, 0, 0] ⟨rfl, rfl⟩ (by rfl) (by rfl))
                  · replace h := ifF c225 h
                    replace c225 := eq_false_of_ne_true c225
                    refine TD.run ft_produce_ok [9] rfl rfl ?_
                    refine TD.no rfl (.gn rfl rfl (bn_t c225)) rfl ?_
                    refine TD.no rfl (.gn rfl rfl (bn_t c225)) rfl ?_
                    refine TD.no rfl (.gn rfl rfl (bn_t c225)) rfl ?_
                    refine TD.no rfl (.gu rfl rfl) rfl ?_
                    refine TD.no rfl (.gu rfl rfl) rfl ?_
                    refine TD.no rfl (.gu rfl rfl) rfl ?_
                    refine TD.no rfl (.gu rfl rfl) rfl ?_
                    refine TD.no rfl (.gu rfl rfl) rfl ?_
                    refine TD.no rfl (.gu rfl rfl) rfl ?_
                    refine TD.no rfl (.gu rfl rfl) rfl ?_
                    refine TD.no rfl (.gu rfl rfl) rfl ?_
                    refine TD.no rfl (.gu rfl rfl) rfl ?_
                    refine TD.no rfl (.gu rfl rfl) rfl ?_
                    refine TD.no rfl (.gn rfl rfl (bn_t c225)) rfl ?_
                    refine TD.q rfl .u (Ex.py rfl (bn_t c225) rfl) rfl ?_
                    cases h
                    exact TD.nil (X.jq [0, 0, 0] ⟨rfl, rfl⟩ (by rfl) (by rfl))
              · rintro _ _ ⟨rfl, rfl⟩
                clear h
                have h := hk221
                clear hk221
                try dsimp only at h
                by_cases c236 : y220 = true
                · replace h := ifT c236 h
                  refine X.seq ?_
                  refine T.yes rfl c236 ?_
                  refine T.seq (T.region rfl ?_)
                  refine TL.run ft_produce_ok [0] rfl rfl ?_
                  obtain rfl := Option.some.inj h
                  replace h := hO162
                  clear hO162
                  try dsimp only at h
                  obtain rfl := Option.some.inj h
                  replace h := hO8
                  clear hO8
                  try dsimp only at h
                  obtain rfl := Option.some.inj h
                  exact TL.nil (X.seq (T.ret (X.rb (X.rs (X.rs (X.rb (X.rb (X.rs (X.rs (X.rb (X.rs (X.done1 [2] Try.results110 (RV.tm rfl) ⟨rfl, rfl, rfl⟩ (by rfl) (.inl rfl)))))))))))))
                · replace h := ifF c236 h
                  replace c236 := eq_false_of_ne_true c236
                  refine X.seq ?_
                  refine T.no rfl c236 ?_
                  refine T.skip (X.blk (X.seq (T.region rfl ?_)))
                  refine TL.q rfl .u (Ex.add rfl rfl (by omega)) rfl ?_
                  refine TL.run ft_produce_ok [1] rfl rfl ?_
                  exact TL.nil (X.back (m' := m163) [1, 1] (by omega) ⟨y158, k159 + 1, by omega, rfl, rfl, h⟩ (by rfl) (by rfl))
def f_produce_RequestBatches_l1 (a0 : ProduceRequest) : List Bat → Int → Option (Lp Int Int)
  | [], y14 => some (Lp.go y14)
  | x20 :: xs, y14 => (f_batch_Check x20).bind fun x28 => if x28 = 0 then (if x20.fControl = true then some (Lp.ret 12) else (if (x20.fTxn == a0.fID.null) = true then some (Lp.ret 8) else (f_produce_RequestBatches_l1 a0 xs y14))) else some (Lp.ret x28)
def f_produce_RequestBatches (a0 : ProduceRequest) (a1 : List Bat) (a2 : Int) : Option (Int) := (if (a1.length : Int) = 0 then some true else (if a2 < 4 then (if (a1.length : Int) > 1 then some true else some false) else some false)).bind fun y8 => if y8 = true then some 10 else ((f_produce_RequestBatches_l1 a0 a1 0).bind fun e => match e with | .ret r => some r | .go y33 => some 0)
set_option maxRecDepth 100000 in
set_option maxHeartbeats 4000000 in
theorem f_produce_RequestBatches_spec (a0 : ProduceRequest) (A1 : Option Addr) (c2 : Nat) (a1 : List Bat) (A3 : Option Addr) (c4 : Nat) (a2 : Int) (r : Int) (h : f_produce_RequestBatches a0 a1 a2 = some r) : SpecX Try.prog 111 #[.agg #[.bool a0.fID.null, .string (bsOf a0.fID.data), .int .i64 a0.fAcks, .int .i64 a0.fTimeout, .slice A1 a0.fTopics.length c2], .slice A3 a1.length c4, .int .i64 a2] (RX.and (RX.of (sliceRd 2 ProduceTopic_rd) [.slice A1 a0.fTopics.length c2] a0.fTopics) (RX.of (sliceRd 12 Bat_rd) [.slice A3 a1.length c4] a1)) (EmpR) (fun v A' N => v = .int .i64 r ∧ A' = EmpR ∧ N = []) := by
  refine enterA Try.func111 rfl Try.ntmps111 rfl ?_
  intro F w hX
  unfold f_produce_RequestBatches at h
  refine T.seq (T.region rfl ?_)
  refine TL.box rfl .u rfl rfl (fun b5 => ?_)
  refine TL.run ft_produce_ok [1] rfl rfl ?_
  refine TL.nil (X.seq (T.seq (T.seq ?_)))
  obtain ⟨y8, h, hk9⟩ := Option.bind_eq_some_iff.1 h
  refine T.jq (fun e Rs => e = [(1, .slice A3 a1.length c4), (3, .pointer (some ⟨b5, 0, none⟩)), (6, .int .i64 0), (21, .bool y8)] ∧ Rs = [BlkR b5 65 #[.bool a0.fID.null, .string (bsOf a0.fID.data), .int .i64 a0.fAcks, .int .i64 a0.fTimeout, .slice A1 a0.fTopics.length c2], EmpR]) ?_ ?_
  · clear hk9
    refine T.region rfl ?_
    refine TL.run ft_produce_ok [0] rfl rfl ?_
    refine TL.q rfl .u (Ex.lenS rfl Try.runUnderlying46) rfl ?_
    by_cases c10 : (a1.length : Int) = 0
    · replace h := ifT c10 h
      refine TL.run ft_produce_ok [2, 3] rfl rfl ?_
      refine TL.no rfl (.gn rfl rfl (decide_eq_true c10)) rfl ?_
      refine TL.no rfl (.gn rfl rfl (decide_eq_true c10)) rfl ?_
      refine TL.no rfl (.gn rfl rfl (decide_eq_true c10)) rfl ?_
      refine TL.no rfl (.gu rfl rfl) rfl ?_
      refine TL.no rfl (.gu rfl rfl) rfl ?_
      refine TL.no rfl (.gu rfl rfl) rfl ?_
      refine TL.no rfl (.gn rfl rfl (decide_eq_true c10)) rfl ?_
      refine TL.q rfl .u (Ex.py rfl (decide_eq_true c10) rfl) rfl ?_
      cases h
      exact TL.nil (X.jq [0, 0] ⟨rfl, rfl⟩ (by rfl) (by rfl))
    · replace h := ifF c10 h
      refine TL.run ft_produce_ok [2, 3] rfl rfl ?_
      refine TL.q rfl (.g rfl rfl (decide_eq_false c10)) (Ex.ft ft_produce_ok rfl) rfl ?_
      refine TL.q rfl (.g rfl rfl (decide_eq_false c10)) (Ex.ft ft_produce_ok rfl) rfl ?_
      refine TL.q rfl (.g rfl rfl (decide_eq_false c10)) (Ex.ft ft_produce_ok rfl) rfl ?_
      by_cases c11 : a2 < 4
      · replace h := ifT c11 h
        refine TL.q rfl (.g rfl rfl (decide_eq_true c11)) (Ex.ft ft_produce_ok rfl) rfl ?_
        refine TL.q rfl (.g rfl rfl (decide_eq_true c11)) (Ex.lenS rfl Try.runUnderlying46) rfl ?_
        refine TL.q rfl (.g rfl rfl (decide_eq_true c11)) (Ex.ft ft_produce_ok rfl) rfl ?_
        refine TL.q rfl (.g rfl rfl (decide_eq_false c10)) (Ex.py rfl (decide_eq_true c11) rfl) rfl ?_
        refine TL.q rfl .u (Ex.pn rfl (decide_eq_false c10) rfl) rfl ?_
        by_cases c12 : (a1.length : Int) > 1
        · replace h := ifT c12 h
          cases h
          exact TL.nil (X.as (d := 21) (v' := .bool true) rfl (congrArg Value.bool (decide_eq_true c12)) (X.jq [0, 0] ⟨rfl, rfl⟩ (by rfl) (by rfl)))
        · replace h := ifF c12 h
          cases h
          exact TL.nil (X.as (d := 21) (v' := .bool false) rfl (congrArg Value.bool (decide_eq_false c12)) (X.jq [0, 0] ⟨rfl, rfl⟩ (by rfl) (by rfl)))
      · replace h := ifF c11 h
        refine TL.no rfl (.gn rfl rfl (decide_eq_false c11)) rfl ?_
        refine TL.no rfl (.gn rfl rfl (decide_eq_false c11)) rfl ?_
        refine TL.no rfl (.gn rfl rfl (decide_eq_false c11)) rfl ?_
        refine TL.q rfl (.g rfl rfl (decide_eq_false c10)) (Ex.pn rfl (decide_eq_false c11) rfl) rfl ?_
        refine TL.q rfl .u (Ex.pn rfl (decide_eq_false c10) rfl) rfl ?_
        cases h
        exact TL.nil (X.jq [0, 0] ⟨rfl, rfl⟩ (by rfl) (by rfl))
  · rintro _ _ ⟨rfl, rfl⟩
    clear h
    have h := hk9
    clear hk9
    try dsimp only at h
    by_cases c13 : y8 = true
    · replace h := ifT c13 h
      refine X.seq ?_
      refine T.yes rfl c13 ?_
      refine T.seq (T.region rfl ?_)
      refine TL.run ft_produce_ok [0] rfl rfl ?_
      obtain rfl := Option.some.inj h
      exact TL.nil (X.seq (T.ret (X.rs (X.done1 [1] Try.results111 (RV.tm rfl) ⟨rfl, rfl, rfl⟩ (by rfl) (.inl rfl)))))
    · replace h := ifF c13 h
      replace c13 := eq_false_of_ne_true c13
      refine X.seq ?_
      refine T.no rfl c13 ?_
      refine T.skip (X.seq (T.seq (T.seq (T.region rfl ?_))))
      refine TL.run ft_produce_ok [0] rfl rfl ?_
      refine TL.q rfl .u (Ex.lenS rfl Try.runUnderlying46) rfl ?_
      refine TL.run ft_produce_ok [2] rfl rfl ?_
      refine TL.nil (X.seq (T.block ?_))
      obtain ⟨E16, hE17, hO18⟩ := Option.bind_eq_some_iff.1 h
      have hk22len := RX.len_le (RX.reads_right hX)
      refine T.lp (fun m e Rs => ∃ (y14 : Int) (k15 : Nat), k15 + m = a1.length ∧ e = [(3, .pointer (some ⟨b5, 0, none⟩)), (6, .int .i64 y14), (22, .slice A3 a1.length c4), (23, .int .i64 (a1.length : Int)), (24, .int .i64 (k15 : Int))] ∧ Rs = [BlkR b5 65 #[.bool a0.fID.null, .string (bsOf a0.fID.data), .int .i64 a0.fAcks, .int .i64 a0.fTimeout, .slice A1 a0.fTopics.length c2], EmpR] ∧ f_produce_RequestBatches_l1 a0 (a1.drop k15) y14 = some E16) (a1.length) [0, 0] ⟨0, 0, by simp, rfl, rfl, by rw [List.drop_zero]; exact hE17⟩ (by rfl) (by rfl) ?_
      rintro m19 _ _ ⟨y14, k15, hk22, rfl, rfl, hl21⟩
      clear hE17 h
      cases m19 with
      | zero =>
        have h := hl21
        clear hl21
        rw [List.drop_of_length_le (by omega), f_produce_RequestBatches_l1] at h
        have hk22ge : ¬ ((k15 : Int) < (a1.length : Int)) := by omega
        refine T.seq (T.region rfl ?_)
        refine TL.run ft_produce_ok [0] rfl rfl ?_
        refine TL.nil (X.seq (T.seq ?_))
        refine T.no rfl (decide_eq_false hk22ge) ?_
        obtain rfl := Option.some.inj h
        replace h := hO18
        clear hO18
        try dsimp only at h
        refine T.exit (X.exs (X.exs (X.ex (X.seq (T.seq (T.region rfl ?_))))))
        refine TL.run ft_produce_ok [0] rfl rfl ?_
        obtain rfl := Option.some.inj h
        exact TL.nil (X.seq (T.ret (X.done1 [1] Try.results111 (RV.tm rfl) ⟨rfl, rfl, rfl⟩ (by rfl) (.inl rfl))))
      | succ m19 =>
        have h := hl21
        clear hl21
        obtain ⟨x20, hxx20⟩ : ∃ x, a1[k15]? = some x := ⟨_, List.getElem?_eq_getElem (by omega)⟩
        rw [drop_cons hxx20, f_produce_RequestBatches_l1] at h
        have hk22lt : (k15 : Int) < (a1.length : Int) := by omega
        refine T.seq (T.region rfl ?_)
        refine TL.run ft_produce_ok [0] rfl rfl ?_
        refine TL.nil (X.seq (T.seq ?_))
        refine T.yes rfl (decide_eq_true hk22lt) ?_
        obtain ⟨gz23, oz23, rfl, z23cs, z23cl, z23cc, z23nf, z23r⟩ := RX.elem (by decide) (RX.reads_right hX) hxx20
        obtain ⟨z23S, z23r, z23rr⟩ := z23r
        obtain ⟨A24, c25, rfl, z23s0⟩ := z23r
        have hX26 : (RX.of (sliceRd 7 Rec_rd) [.slice A24 x20.fRecords.length c25] x20.fRecords).reads w F := ⟨z23S, z23s0, z23rr⟩
        refine T.skip (X.seq (T.seq (T.block (T.seq (T.region rfl ?_)))))
        refine TL.q rfl .u (Ex.ixS (k := k15) rfl rfl rfl Try.runUnderlying46 Try.sizeOf25 (List.getElem?_eq_some_iff.1 hxx20).1) rfl ?_
        refine TL.q rfl .u (Ex.oS (us := [.int .i64 x20.fBase, .int .i64 x20.fLeader, .bool x20.fAppend, .bool x20.fTxn, .bool x20.fControl, .int .i64 x20.fLast, .int .i64 x20.fFirst, .int .i64 x20.fMax, .int .i64 x20.fProducer, .int .i64 x20.fEpoch, .int .i64 x20.fSequence, .slice A24 x20.fRecords.length c25]) 0 rfl Try.isAgg25 Try.sizeOf25 z23nf z23cc rfl rfl rfl) rfl ?_
        refine TL.alloc rfl .u Try.zeroValue25 rfl (fun b27 => ?_)
        refine TL.st0 (cs' := #[.int .i64 x20.fBase, .int .i64 x20.fLeader, .bool x20.fAppend, .bool x20.fTxn, .bool x20.fControl, .int .i64 x20.fLast, .int .i64 x20.fFirst, .int .i64 x20.fMax, .int .i64 x20.fProducer, .int .i64 x20.fEpoch, .int .i64 x20.fSequence, .slice A24 x20.fRecords.length c25]) rfl .u rfl rfl Try.sizeOf25 rfl rfl rfl rfl ?_
        refine TL.nil (X.seq (T.seq (T.seq (T.region rfl ?_))))
        refine TL.q rfl .u (Ex.bS (us := [.int .i64 x20.fBase, .int .i64 x20.fLeader, .bool x20.fAppend, .bool x20.fTxn, .bool x20.fControl, .int .i64 x20.fLast, .int .i64 x20.fFirst, .int .i64 x20.fMax, .int .i64 x20.fProducer, .int .i64 x20.fEpoch, .int .i64 x20.fSequence, .slice A24 x20.fRecords.length c25]) 0 rfl Try.isAgg25 Try.sizeOf25 rfl rfl rfl) rfl ?_
        obtain ⟨x28, hx29, h⟩ := Option.bind_eq_some_iff.1 h
        refine TL.ce rfl .u (.fn Try.call15 rfl) (f_batch_Check_spec x20 _ _ _ hx29) (fun _ hs => (SrcE.old hs hX26)) rfl ?_
        refine TL.run ft_produce_ok [2] rfl rfl ?_
        refine TL.nil (X.seq (T.seq (T.region rfl ?_)))
        refine TL.run ft_produce_ok [0, 1] rfl rfl ?_
        by_cases c30 : x28 = 0
        · replace h := ifT c30 h
          refine TL.nil (X.seq ?_)
          refine T.no rfl (bn_f (decide_eq_true c30)) ?_
          refine T.skip (X.seq (T.block (T.seq (T.region rfl ?_))))
          refine TL.run ft_produce_ok [0] rfl rfl ?_
          refine TL.q rfl .u (Ex.b1 0 rfl Try.isAgg4 rfl rfl) rfl ?_
          refine TL.run ft_produce_ok [2] rfl rfl ?_
          by_cases c31 : x20.fControl = true
          · replace h := ifT c31 h
            refine TL.nil (X.seq ?_)
            refine T.yes rfl c31 ?_
            refine T.seq (T.region rfl ?_)
            refine TL.run ft_produce_ok [0] rfl rfl ?_
            obtain rfl := Option.some.inj h
            replace h := hO18
            clear hO18
            try dsimp only at h
            obtain rfl := Option.some.inj h
            exact TL.nil (X.seq (T.ret (X.rb (X.rb (X.rs (X.rs (X.rb (X.rs (X.done1 [2] Try.results111 (RV.tm rfl) ⟨rfl, rfl, rfl⟩ (by rfl) (.inl rfl))))))))))
          · replace h := ifF c31 h
            replace c31 := eq_false_of_ne_true c31
            refine TL.nil (X.seq ?_)
            refine T.no rfl c31 ?_
            refine T.seq (T.region rfl ?_)
            refine TL.run ft_produce_ok [0] rfl rfl ?_
            refine TL.q rfl .u (Ex.b1 0 rfl Try.isAgg4 rfl rfl) rfl ?_
            refine TL.run ft_produce_ok [2, 3] rfl rfl ?_
            refine TL.q rfl .u (Ex.b1 1 rfl Try.isAgg4 rfl rfl) rfl ?_
            refine TL.q rfl .u (Ex.bEq rfl rfl rfl rfl Try.runUnderlying4) rfl ?_
            refine TL.run ft_produce_ok [6] rfl rfl ?_
            by_cases c32 : (x20.fTxn == a0.fID.null) = true
            · replace h := ifT c32 h
              refine TL.nil (X.seq ?_)
              refine T.yes rfl c32 ?_
              refine T.seq (T.region rfl ?_)
              refine TL.run ft_produce_ok [0] rfl rfl ?_
              obtain rfl := Option.some.inj h
              replace h := hO18
              clear hO18
              try dsimp only at h
              obtain rfl := Option.some.inj h
              exact TL.nil (X.seq (T.ret (X.rb (X.rb (X.rs (X.rs (X.rb (X.rs (X.done1 [2] Try.results111 (RV.tm rfl) ⟨rfl, rfl, rfl⟩ (by rfl) (.inl rfl))))))))))
            · replace h := ifF c32 h
              replace c32 := eq_false_of_ne_true c32
              refine TL.nil (X.seq ?_)
              refine T.no rfl c32 ?_
              refine T.skip (X.blk (X.blk (X.seq (T.region rfl ?_))))
              refine TL.q rfl .u (Ex.add rfl rfl (by omega)) rfl ?_
              refine TL.run ft_produce_ok [1] rfl rfl ?_
              exact TL.nil (X.back (m' := m19) [1, 1] (by omega) ⟨y14, k15 + 1, by omega, rfl, rfl, h⟩ (by rfl) (by rfl))
        · replace h := ifF c30 h
          refine TL.nil (X.seq ?_)
          refine T.yes rfl (bn_t (decide_eq_false c30)) ?_
          refine T.seq (T.region rfl ?_)
          refine TL.run ft_produce_ok [0, 1] rfl rfl ?_
          obtain rfl := Option.some.inj h
          replace h := hO18
          clear hO18
          try dsimp only at h
          obtain rfl := Option.some.inj h
          exact TL.nil (X.seq (T.ret (X.rs (X.rb (X.rs (X.rs (X.rb (X.rs (X.done1 [2] Try.results111 (RV.tm rfl) ⟨rfl, rfl, rfl⟩ (by rfl) (.inl rfl))))))))))
def f_produce_RequestCheck_l2 (a0 : ProduceRequest) (a1 : Int) : List ProducePart → Int → Option (Lp Int Int)
  | [], y51 => some (Lp.go y51)
  | x57 :: xs, y51 => (f_produce_RequestBatches a0 x57.fBatches a1).bind fun x65 => if x65 = 0 then (f_produce_RequestCheck_l2 a0 a1 xs y51) else some (Lp.ret x65)
def f_produce_RequestCheck_l1 (a0 : ProduceRequest) (a1 : Int) : List ProduceTopic → Int → Option (Lp Int Int)
  | [], y37 => some (Lp.go y37)
  | x43 :: xs, y37 => (f_produce_RequestCheck_l2 a0 a1 x43.fParts y37).bind fun e => match e with | .ret r => some (Lp.ret r) | .go y68 => (f_produce_RequestCheck_l1 a0 a1 xs y68)
def f_produce_RequestCheck (a0 : ProduceRequest) (a1 : Int) : Option (Int) := ((gRight a0.fID).bind fun x12 => if x12 = true then (if a0.fID.null = true then some false else ((gKRight a0.fID.data).bind fun x16 => if x16 = true then some false else some true)) else some true).bind fun y10 => if y10 = true then some 4 else ((if a0.fAcks < (-1) then some true else (if a0.fAcks > 1 then some true else (if a0.fTimeout < 0 then some true else ((gFits a0.fTimeout 4).bind fun x30 => if x30 = true then some false else some true)))).bind fun y25 => if y25 = true then some 11 else ((f_produce_rise a0.fTopics).bind fun x34 => if x34 = 0 then ((f_produce_RequestCheck_l1 a0 a1 a0.fTopics 0).bind fun e => match e with | .ret r => some r | .go y70 => some 0) else some x34))
set_option maxRecDepth 100000 in
set_option maxHeartbeats 4000000 in
theorem f_produce_RequestCheck_spec (a0 : ProduceRequest) (A1 : Option Addr) (c2 : Nat) (a1 : Int) (r : Int) (h : f_produce_RequestCheck a0 a1 = some r) : SpecX Try.prog 68 #[.agg #[.bool a0.fID.null, .string (bsOf a0.fID.data), .int .i64 a0.fAcks, .int .i64 a0.fTimeout, .slice A1 a0.fTopics.length c2], .int .i64 a1] (RX.of (sliceRd 2 ProduceTopic_rd) [.slice A1 a0.fTopics.length c2] a0.fTopics) (EmpR) (fun v A' N => v = .int .i64 r ∧ A' = EmpR ∧ N = []) := by
  refine enterA Try.func68 rfl Try.ntmps68 rfl ?_
  intro F w hX
  unfold f_produce_RequestCheck at h
  refine T.seq (T.region rfl ?_)
  refine TL.box rfl .u rfl rfl (fun b3 => ?_)
  refine TL.run ft_produce_ok [1] rfl rfl ?_
  refine TL.nil (X.seq (T.seq (T.block (T.seq ?_))))
  obtain ⟨y10, h, hk11⟩ := Option.bind_eq_some_iff.1 h
  refine T.jq (fun e Rs => e = [(1, .int .i64 a1), (2, .pointer (some ⟨b3, 0, none⟩)), (4, .int .i64 0), (11, .bool y10)] ∧ Rs = [BlkR b3 65 #[.bool a0.fID.null, .string (bsOf a0.fID.data), .int .i64 a0.fAcks, .int .i64 a0.fTimeout, .slice A1 a0.fTopics.length c2], EmpR]) ?_ ?_
  · clear hk11
    refine T.region rfl ?_
    refine TL.run ft_produce_ok [0] rfl rfl ?_
    refine TL.q rfl .u (Ex.bS (us := [.bool a0.fID.null, .string (bsOf a0.fID.data)]) 0 rfl Try.isAgg30 Try.sizeOf30 rfl rfl rfl) rfl ?_
    obtain ⟨x12, hx13, h⟩ := Option.bind_eq_some_iff.1 h
    refine TL.ce rfl .u (.fn Try.call108 rfl) (gRight_spec a0.fID _ hx13) (fun _ hs => (RX.reads_triv _ _)) rfl ?_
    by_cases c14 : x12 = true
    · replace h := ifT c14 h
      refine TL.run ft_produce_ok [3, 4] rfl rfl ?_
      refine TL.q rfl (.g rfl rfl (bn_f c14)) (Ex.ft ft_produce_ok rfl) rfl ?_
      refine TL.q rfl (.g rfl rfl (bn_f c14)) (Ex.ft ft_produce_ok rfl) rfl ?_
      refine TL.q rfl (.g rfl rfl (bn_f c14)) (Ex.b1 0 rfl Try.isAgg4 rfl rfl) rfl ?_
      refine TL.q rfl (.g rfl rfl (bn_f c14)) (Ex.ft ft_produce_ok rfl) rfl ?_
      refine TL.q rfl (.g rfl rfl (bn_f c14)) (Ex.ft ft_produce_ok rfl) rfl ?_
      by_cases c15 : a0.fID.null = true
      · replace h := ifT c15 h
        refine TL.no rfl (.gn rfl rfl (bn_f c15)) rfl ?_
        refine TL.no rfl (.gn rfl rfl (bn_f c15)) rfl ?_
        refine TL.no rfl (.gn rfl rfl (bn_f c15)) rfl ?_
        refine TL.no rfl (.gn rfl rfl (bn_f c15)) rfl ?_
        refine TL.no rfl (.gn rfl rfl (bn_f c15)) rfl ?_
        refine TL.q rfl (.g rfl rfl (bn_f c14)) (Ex.pn rfl (bn_f c15) rfl) rfl ?_
        refine TL.q rfl .u (Ex.pn rfl (bn_f c14) rfl) rfl ?_
        refine TL.run ft_produce_ok [17] rfl rfl ?_
        cases h
        exact TL.nil (X.jq [0, 0] ⟨rfl, rfl⟩ (by rfl) (by rfl))
      · replace h := ifF c15 h
        replace c15 := eq_false_of_ne_true c15
        refine TL.q rfl (.g rfl rfl (bn_t c15)) (Ex.ft ft_produce_ok rfl) rfl ?_
        refine TL.q rfl (.g rfl rfl (bn_t c15)) (Ex.ft ft_produce_ok rfl) rfl ?_
        refine TL.q rfl (.g rfl rfl (bn_t c15)) (Ex.b1 0 rfl Try.isAgg9 rfl rfl) rfl ?_
        obtain ⟨x16, hx17, h⟩ := Option.bind_eq_some_iff.1 h
        refine TL.ce rfl (.g rfl rfl (bn_t c15)) (.fn Try.call109 rfl) (SpecX.pure (fun w => gKRight_spec a0.fID.data _ hx17 w)) (fun _ _ => RX.reads_triv _ _) rfl ?_
        refine TL.q rfl (.g rfl rfl (bn_t c15)) (Ex.ft ft_produce_ok rfl) rfl ?_
        refine TL.q rfl (.g rfl rfl (bn_f c14)) (Ex.py rfl (bn_t c15) rfl) rfl ?_
        refine TL.q rfl .u (Ex.pn rfl (bn_f c14) rfl) rfl ?_
        refine TL.run ft_produce_ok [17] rfl rfl ?_
        by_cases c18 : x16 = true
        · replace h := ifT c18 h
          cases h
          exact TL.nil (X.as (d := 11) (v' := .bool false) rfl (congrArg Value.bool (bn_f c18)) (X.jq [0, 0] ⟨rfl, rfl⟩ (by rfl) (by rfl)))
        · replace h := ifF c18 h
          replace c18 := eq_false_of_ne_true c18
          cases h
          exact TL.nil (X.as (d := 11) (v' := .bool true) rfl (congrArg Value.bool (bn_t c18)) (X.jq [0, 0] ⟨rfl, rfl⟩ (by rfl) (by rfl)))
    · replace h := ifF c14 h
      replace c14 := eq_false_of_ne_true c14
      refine TL.run ft_produce_ok [3, 4] rfl rfl ?_
      refine TL.no rfl (.gn rfl rfl (bn_t c14)) rfl ?_
      refine TL.no rfl (.gn rfl rfl (bn_t c14)) rfl ?_
      refine TL.no rfl (.gn rfl rfl (bn_t c14)) rfl ?_
      refine TL.no rfl (.gn rfl rfl (bn_t c14)) rfl ?_
      refine TL.no rfl (.gn rfl rfl (bn_t c14)) rfl ?_
      refine TL.no rfl (.gu rfl rfl) rfl ?_
      refine TL.no rfl (.gu rfl rfl) rfl ?_
      refine TL.no rfl (.gu rfl rfl) rfl ?_
      refine TL.no rfl (.gu rfl rfl) rfl ?_
      refine TL.no rfl (.gu rfl rfl) rfl ?_
      refine TL.no rfl (.gn rfl rfl (bn_t c14)) rfl ?_
      refine TL.q rfl .u (Ex.py rfl (bn_t c14) rfl) rfl ?_
      refine TL.run ft_produce_ok [17] rfl rfl ?_
      cases h
      exact TL.nil (X.jq [0, 0] ⟨rfl, rfl⟩ (by rfl) (by rfl))
  · rintro _ _ ⟨rfl, rfl⟩
    clear h
    have h := hk11
    clear hk11
    try dsimp only at h
    by_cases c19 : y10 = true
    · replace h := ifT c19 h
      refine X.seq ?_
      refine T.yes rfl c19 ?_
      refine T.seq (T.region rfl ?_)
      refine TL.run ft_produce_ok [0] rfl rfl ?_
      obtain rfl := Option.some.inj h
      exact TL.nil (X.seq (T.ret (X.rb (X.rs (X.done1 [1] Try.results68 (RV.tm rfl) ⟨rfl, rfl, rfl⟩ (by rfl) (.inl rfl))))))
    · replace h := ifF c19 h
      replace c19 := eq_false_of_ne_true c19
      refine X.seq ?_
      refine T.no rfl c19 ?_
      refine T.seq ?_
      obtain ⟨y25, h, hk26⟩ := Option.bind_eq_some_iff.1 h
      refine T.jq (fun e Rs => e = [(1, .int .i64 a1), (2, .pointer (some ⟨b3, 0, none⟩)), (4, .int .i64 0), (29, .bool y25)] ∧ Rs = [BlkR b3 65 #[.bool a0.fID.null, .string (bsOf a0.fID.data), .int .i64 a0.fAcks, .int .i64 a0.fTimeout, .slice A1 a0.fTopics.length c2], EmpR]) ?_ ?_
      · clear hk26
        refine T.region rfl ?_
        refine TL.run ft_produce_ok [0] rfl rfl ?_
        refine TL.q rfl .u (Ex.b1 0 rfl Try.isAgg3 rfl rfl) rfl ?_
        by_cases c27 : a0.fAcks < (-1)
        · replace h := ifT c27 h
          refine TL.run ft_produce_ok [2, 3] rfl rfl ?_
          refine TL.no rfl (.gn rfl rfl (decide_eq_true c27)) rfl ?_
          refine TL.no rfl (.gn rfl rfl (decide_eq_true c27)) rfl ?_
          refine TL.no rfl (.gn rfl rfl (decide_eq_true c27)) rfl ?_
          refine TL.q rfl .u (Ex.py rfl (decide_eq_true c27) rfl) rfl ?_
          refine TL.run ft_produce_ok [8] rfl rfl ?_
          refine TL.no rfl (.gn rfl rfl rfl) rfl ?_
          refine TL.no rfl (.gn rfl rfl rfl) rfl ?_
          refine TL.no rfl (.gn rfl rfl rfl) rfl ?_
          refine TL.q rfl .u (Ex.py rfl rfl rfl) rfl ?_
          refine TL.run ft_produce_ok [13] rfl rfl ?_
          refine TL.no rfl (.gn rfl rfl rfl) rfl ?_
          refine TL.no rfl (.gn rfl rfl rfl) rfl ?_
          refine TL.no rfl (.gn rfl rfl rfl) rfl ?_
          refine TL.no rfl (.gn rfl rfl rfl) rfl ?_
          refine TL.q rfl .u (Ex.py rfl rfl rfl) rfl ?_
          refine TL.run ft_produce_ok [19] rfl rfl ?_
          cases h
          exact TL.nil (X.jq [0, 0] ⟨rfl, rfl⟩ (by rfl) (by rfl))
        · replace h := ifF c27 h
          refine TL.run ft_produce_ok [2, 3] rfl rfl ?_
          refine TL.q rfl (.g rfl rfl (decide_eq_false c27)) (Ex.ft ft_produce_ok rfl) rfl ?_
          refine TL.q rfl (.g rfl rfl (decide_eq_false c27)) (Ex.b1 0 rfl Try.isAgg3 rfl rfl) rfl ?_
          refine TL.q rfl (.g rfl rfl (decide_eq_false c27)) (Ex.ft ft_produce_ok rfl) rfl ?_
          refine TL.q rfl .u (Ex.pn rfl (decide_eq_false c27) rfl) rfl ?_
          by_cases c28 : a0.fAcks > 1
          · replace h := ifT c28 h
            refine TL.run ft_produce_ok [8] rfl rfl ?_
            refine TL.no rfl (.gn rfl rfl (decide_eq_true c28)) rfl ?_
            refine TL.no rfl (.gn rfl rfl (decide_eq_true c28)) rfl ?_
            refine TL.no rfl (.gn rfl rfl (decide_eq_true c28)) rfl ?_
            refine TL.q rfl .u (Ex.py rfl (decide_eq_true c28) rfl) rfl ?_
            refine TL.run ft_produce_ok [13] rfl rfl ?_
            refine TL.no rfl (.gn rfl rfl rfl) rfl ?_
            refine TL.no rfl (.gn rfl rfl rfl) rfl ?_
            refine TL.no rfl (.gn rfl rfl rfl) rfl ?_
            refine TL.no rfl (.gn rfl rfl rfl) rfl ?_
            refine TL.q rfl .u (Ex.py rfl rfl rfl) rfl ?_
            refine TL.run ft_produce_ok [19] rfl rfl ?_
            cases h
            exact TL.nil (X.jq [0, 0] ⟨rfl, rfl⟩ (by rfl) (by rfl))
          · replace h := ifF c28 h
            refine TL.run ft_produce_ok [8] rfl rfl ?_
            refine TL.q rfl (.g rfl rfl (decide_eq_false c28)) (Ex.ft ft_produce_ok rfl) rfl ?_
            refine TL.q rfl (.g rfl rfl (decide_eq_false c28)) (Ex.b1 0 rfl Try.isAgg3 rfl rfl) rfl ?_
            refine TL.q rfl (.g rfl rfl (decide_eq_false c28)) (Ex.ft ft_produce_ok rfl) rfl ?_
            refine TL.q rfl .u (Ex.pn rfl (decide_eq_false c28) rfl) rfl ?_
            by_cases c29 : a0.fTimeout < 0
            · replace h := ifT c29 h
              refine TL.run ft_produce_ok [13] rfl rfl ?_
              refine TL.no rfl (.gn rfl rfl (decide_eq_true c29)) rfl ?_
              refine TL.no rfl (.gn rfl rfl (decide_eq_true c29)) rfl ?_
              refine TL.no rfl (.gn rfl rfl (decide_eq_true c29)) rfl ?_
              refine TL.no rfl (.gn rfl rfl (decide_eq_true c29)) rfl ?_
              refine TL.q rfl .u (Ex.py rfl (decide_eq_true c29) rfl) rfl ?_
              refine TL.run ft_produce_ok [19] rfl rfl ?_
              cases h
              exact TL.nil (X.jq [0, 0] ⟨rfl, rfl⟩ (by rfl) (by rfl))
            · replace h := ifF c29 h
              refine TL.run ft_produce_ok [13] rfl rfl ?_
              refine TL.q rfl (.g rfl rfl (decide_eq_false c29)) (Ex.ft ft_produce_ok rfl) rfl ?_
              refine TL.q rfl (.g rfl rfl (decide_eq_false c29)) (Ex.b1 0 rfl Try.isAgg3 rfl rfl) rfl ?_
              obtain ⟨x30, hx31, h⟩ := Option.bind_eq_some_iff.1 h
              refine TL.ce rfl (.g rfl rfl (decide_eq_false c29)) (.fn Try.call86 rfl) (SpecX.pure (fun w => gFits_spec a0.fTimeout 4 _ hx31 w)) (fun _ _ => RX.reads_triv _ _) rfl ?_
              refine TL.q rfl (.g rfl rfl (decide_eq_false c29)) (Ex.ft ft_produce_ok rfl) rfl ?_
              refine TL.q rfl .u (Ex.pn rfl (decide_eq_false c29) rfl) rfl ?_
              refine TL.run ft_produce_ok [19] rfl rfl ?_
              by_cases c32 : x30 = true
              · replace h := ifT c32 h
                cases h
                exact TL.nil (X.as (d := 29) (v' := .bool false) rfl (congrArg Value.bool (bn_f c32)) (X.jq [0, 0] ⟨rfl, rfl⟩ (by rfl) (by rfl)))
              · replace h := ifF c32 h
                replace c32 := eq_false_of_ne_true c32
                cases h
                exact TL.nil (X.as (d := 29) (v' := .bool true) rfl (congrArg Value.bool (bn_t c32)) (X.jq [0, 0] ⟨rfl, rfl⟩ (by rfl) (by rfl)))
      · rintro _ _ ⟨rfl, rfl⟩
        clear h
        have h := hk26
        clear hk26
        try dsimp only at h
        by_cases c33 : y25 = true
        · replace h := ifT c33 h
          refine X.seq ?_
          refine T.yes rfl c33 ?_
          refine T.seq (T.region rfl ?_)
          refine TL.run ft_produce_ok [0] rfl rfl ?_
          obtain rfl := Option.some.inj h
          exact TL.nil (X.seq (T.ret (X.rb (X.rs (X.done1 [1] Try.results68 (RV.tm rfl) ⟨rfl, rfl, rfl⟩ (by rfl) (.inl rfl))))))
        · replace h := ifF c33 h
          replace c33 := eq_false_of_ne_true c33
          refine X.seq ?_
          refine T.no rfl c33 ?_
          refine T.skip (X.blk (X.seq (T.seq (T.seq (T.region rfl ?_)))))
          refine TL.run ft_produce_ok [0] rfl rfl ?_
          refine TL.q rfl .u (Ex.b1 0 rfl Try.isAgg63 rfl rfl) rfl ?_
          obtain ⟨x34, hx35, h⟩ := Option.bind_eq_some_iff.1 h
          refine TL.ce rfl .u (.fn Try.call110 rfl) (f_produce_rise_spec a0.fTopics _ _ _ hx35) (fun _ hs => (SrcE.old hs hX)) rfl ?_
          refine TL.run ft_produce_ok [3] rfl rfl ?_
          refine TL.nil (X.seq (T.seq (T.region rfl ?_)))
          refine TL.run ft_produce_ok [0, 1] rfl rfl ?_
          by_cases c36 : x34 = 0
          · replace h := ifT c36 h
            refine TL.nil (X.seq ?_)
            refine T.no rfl (bn_f (decide_eq_true c36)) ?_
            refine T.skip (X.seq (T.seq (T.seq (T.region rfl ?_))))
            refine TL.run ft_produce_ok [0] rfl rfl ?_
            refine TL.q rfl .u (Ex.b1 0 rfl Try.isAgg63 rfl rfl) rfl ?_
            refine TL.q rfl .u (Ex.lenS rfl Try.runUnderlying63) rfl ?_
            refine TL.run ft_produce_ok [3] rfl rfl ?_
            refine TL.nil (X.seq (T.block ?_))
            obtain ⟨E39, hE40, hO41⟩ := Option.bind_eq_some_iff.1 h
            have hk45len := RX.len_le hX
            refine T.lp (fun m e Rs => ∃ (y37 : Int) (k38 : Nat), k38 + m = a0.fTopics.length ∧ e = [(1, .int .i64 a1), (2, .pointer (some ⟨b3, 0, none⟩)), (4, .int .i64 y37), (56, .slice A1 a0.fTopics.length c2), (57, .int .i64 (a0.fTopics.length : Int)), (58, .int .i64 (k38 : Int))] ∧ Rs = [BlkR b3 65 #[.bool a0.fID.null, .string (bsOf a0.fID.data), .int .i64 a0.fAcks, .int .i64 a0.fTimeout, .slice A1 a0.fTopics.length c2], EmpR] ∧ f_produce_RequestCheck_l1 a0 a1 (a0.fTopics.drop k38) y37 = some E39) (a0.fTopics.length) [0, 0] ⟨0, 0, by simp, rfl, rfl, by rw [List.drop_zero]; exact hE40⟩ (by rfl) (by rfl) ?_
            rintro m42 _ _ ⟨y37, k38, hk45, rfl, rfl, hl44⟩
            clear hE40 h
            cases m42 with
            | zero =>
              have h := hl44
              clear hl44
              rw [List.drop_of_length_le (by omega), f_produce_RequestCheck_l1] at h
              have hk45ge : ¬ ((k38 : Int) < (a0.fTopics.length : Int)) := by omega
              refine T.seq (T.region rfl ?_)
              refine TL.run ft_produce_ok [0] rfl rfl ?_
              refine TL.nil (X.seq (T.seq ?_))
              refine T.no rfl (decide_eq_false hk45ge) ?_
              obtain rfl := Option.some.inj h
              replace h := hO41
              clear hO41
              try dsimp only at h
              refine T.exit (X.exs (X.exs (X.ex (X.seq (T.seq (T.region rfl ?_))))))
              refine TL.run ft_produce_ok [0] rfl rfl ?_
              obtain rfl := Option.some.inj h
              exact TL.nil (X.seq (T.ret (X.done1 [1] Try.results68 (RV.tm rfl) ⟨rfl, rfl, rfl⟩ (by rfl) (.inl rfl))))
            | succ m42 =>
              have h := hl44
              clear hl44
              obtain ⟨x43, hxx43⟩ : ∃ x, a0.fTopics[k38]? = some x := ⟨_, List.getElem?_eq_getElem (by omega)⟩
              rw [drop_cons hxx43, f_produce_RequestCheck_l1] at h
              have hk45lt : (k38 : Int) < (a0.fTopics.length : Int) := by omega
              refine T.seq (T.region rfl ?_)
              refine TL.run ft_produce_ok [0] rfl rfl ?_
              refine TL.nil (X.seq (T.seq ?_))
              refine T.yes rfl (decide_eq_true hk45lt) ?_
              obtain ⟨gz46, oz46, rfl, z46cs, z46cl, z46cc, z46nf, z46r⟩ := RX.elem (by decide) hX hxx43
              obtain ⟨z46S, z46r, z46rr⟩ := z46r
              obtain ⟨A47, c48, rfl, z46s0⟩ := z46r
              have hX49 : (RX.of (sliceRd 2 ProducePart_rd) [.slice A47 x43.fParts.length c48] x43.fParts).reads w F := ⟨z46S, z46s0, z46rr⟩
              refine T.skip (X.seq (T.seq (T.block (T.seq (T.region rfl ?_)))))
              refine TL.q rfl .u (Ex.ixS (k := k38) rfl rfl rfl Try.runUnderlying63 Try.sizeOf76 (List.getElem?_eq_some_iff.1 hxx43).1) rfl ?_
              refine TL.q rfl .u (Ex.oS (us := [.string (bsOf x43.fName), .slice A47 x43.fParts.length c48]) 0 rfl Try.isAgg76 Try.sizeOf76 z46nf z46cc rfl rfl rfl) rfl ?_
              refine TL.alloc rfl .u Try.zeroValue76 rfl (fun b50 => ?_)
              refine TL.st0 (cs' := #[.string (bsOf x43.fName), .slice A47 x43.fParts.length c48]) rfl .u rfl rfl Try.sizeOf76 rfl rfl rfl rfl ?_
              refine TL.nil (X.seq (T.seq (T.region rfl ?_)))
              refine TL.run ft_produce_ok [0] rfl rfl ?_
              refine TL.q rfl .u (Ex.b1 0 rfl Try.isAgg74 rfl rfl) rfl ?_
              refine TL.q rfl .u (Ex.lenS rfl Try.runUnderlying74) rfl ?_
              refine TL.run ft_produce_ok [3] rfl rfl ?_
              refine TL.nil (X.seq (T.block ?_))
              obtain ⟨E53, hE54, hO55⟩ := Option.bind_eq_some_iff.1 h
              have hk59len := RX.len_le hX49
              refine T.lp (fun m e Rs => ∃ (y51 : Int) (k52 : Nat), k52 + m = x43.fParts.length ∧ e = [(1, .int .i64 a1), (2, .pointer (some ⟨b3, 0, none⟩)), (4, .int .i64 y51), (56, .slice (some ⟨gz46, oz46, none⟩) a0.fTopics.length c2), (57, .int .i64 (a0.fTopics.length : Int)), (58, .int .i64 (k38 : Int)), (63, .slice A47 x43.fParts.length c48), (64, .int .i64 (x43.fParts.length : Int)), (65, .int .i64 (k52 : Int))] ∧ Rs = [BlkR b50 76 #[.string (bsOf x43.fName), .slice A47 x43.fParts.length c48], BlkR b3 65 #[.bool a0.fID.null, .string (bsOf a0.fID.data), .int .i64 a0.fAcks, .int .i64 a0.fTimeout, .slice (some ⟨gz46, oz46, none⟩) a0.fTopics.length c2], EmpR] ∧ f_produce_RequestCheck_l2 a0 a1 (x43.fParts.drop k52) y51 = some E53) (x43.fParts.length) [0, 0, 0] ⟨y37, 0, by simp, rfl, rfl, by rw [List.drop_zero]; exact hE54⟩ (by rfl) (by rfl) ?_
              rintro m56 _ _ ⟨y51, k52, hk59, rfl, rfl, hl58⟩
              clear hE54 h
              cases m56 with
              | zero =>
                have h := hl58
                clear hl58
                rw [List.drop_of_length_le (by omega), f_produce_RequestCheck_l2] at h
                have hk59ge : ¬ ((k52 : Int) < (x43.fParts.length : Int)) := by omega
                refine T.seq (T.region rfl ?_)
                refine TL.run ft_produce_ok [0] rfl rfl ?_
                refine TL.nil (X.seq (T.seq ?_))
                refine T.no rfl (decide_eq_false hk59ge) ?_
                obtain rfl := Option.some.inj h
                replace h := hO55
                clear hO55
                try dsimp only at h
                refine T.exit (X.exs (X.exs (X.ex (X.blk (X.seq (T.region rfl ?_))))))
                refine TL.q rfl .u (Ex.add rfl rfl (by omega)) rfl ?_
                refine TL.run ft_produce_ok [1] rfl rfl ?_
                exact TL.nil (X.back (m' := m42) [1, 1] (by omega) ⟨y51, k38 + 1, by omega, rfl, rfl, h⟩ (by rfl) (by rfl))
              | succ m56 =>
                have h := hl58
                clear hl58
                obtain ⟨x57, hxx57⟩ : ∃ x, x43.fParts[k52]? = some x := ⟨_, List.getElem?_eq_getElem (by omega)⟩
                rw [drop_cons hxx57, f_produce_RequestCheck_l2] at h
                have hk59lt : (k52 : Int) < (x43.fParts.length : Int) := by omega
                refine T.seq (T.region rfl ?_)
                refine TL.run ft_produce_ok [0] rfl rfl ?_
                refine TL.nil (X.seq (T.seq ?_))
                refine T.yes rfl (decide_eq_true hk59lt) ?_
                obtain ⟨gz60, oz60, rfl, z60cs, z60cl, z60cc, z60nf, z60r⟩ := RX.elem (by decide) hX49 hxx57
                obtain ⟨z60S, z60r, z60rr⟩ := z60r
                obtain ⟨A61, c62, rfl, z60s0⟩ := z60r
                have hX63 : (RX.of (sliceRd 12 Bat_rd) [.slice A61 x57.fBatches.length c62] x57.fBatches).reads w F := ⟨z60S, z60s0, z60rr⟩
                refine T.skip (X.seq (T.seq (T.block (T.seq (T.region rfl ?_)))))
                refine TL.q rfl .u (Ex.ixS (k := k52) rfl rfl rfl Try.runUnderlying74 Try.sizeOf78 (List.getElem?_eq_some_iff.1 hxx57).1) rfl ?_
                refine TL.q rfl .u (Ex.oS (us := [.int .i64 x57.fIndex, .slice A61 x57.fBatches.length c62]) 0 rfl Try.isAgg78 Try.sizeOf78 z60nf z60cc rfl rfl rfl) rfl ?_
                refine TL.alloc rfl .u Try.zeroValue78 rfl (fun b64 => ?_)
                refine TL.st0 (cs' := #[.int .i64 x57.fIndex, .slice A61 x57.fBatches.length c62]) rfl .u rfl rfl Try.sizeOf78 rfl rfl rfl rfl ?_
                refine TL.nil (X.seq (T.seq (T.region rfl ?_)))
                refine TL.q rfl .u (Ex.bS (us := [.bool a0.fID.null, .string (bsOf a0.fID.data), .int .i64 a0.fAcks, .int .i64 a0.fTimeout, .slice (some ⟨gz46, oz46, none⟩) a0.fTopics.length c2]) 2 rfl Try.isAgg65 Try.sizeOf65 rfl rfl rfl) rfl ?_
                refine TL.run ft_produce_ok [1] rfl rfl ?_
                refine TL.q rfl .u (Ex.b1 0 rfl Try.isAgg46 rfl rfl) rfl ?_
                obtain ⟨x65, hx66, h⟩ := Option.bind_eq_some_iff.1 h
                refine TL.run ft_produce_ok [3] rfl rfl ?_
                refine TL.ce rfl .u (.fn Try.call111 rfl) (f_produce_RequestBatches_spec a0 _ _ x57.fBatches _ _ a1 _ hx66) (fun _ hs => (RX.reads_and (SrcE.old hs hX) (SrcE.old hs hX63))) rfl ?_
                refine TL.run ft_produce_ok [5] rfl rfl ?_
                refine TL.nil (X.seq (T.seq (T.region rfl ?_)))
                refine TL.run ft_produce_ok [0, 1] rfl rfl ?_
                by_cases c67 : x65 = 0
                · replace h := ifT c67 h
                  refine TL.nil (X.seq ?_)
                  refine T.no rfl (bn_f (decide_eq_true c67)) ?_
                  refine T.skip (X.blk (X.seq (T.region rfl ?_)))
                  refine TL.q rfl .u (Ex.add rfl rfl (by omega)) rfl ?_
                  refine TL.run ft_produce_ok [1] rfl rfl ?_
                  exact TL.nil (X.back (m' := m56) [1, 1, 1] (by omega) ⟨y51, k52 + 1, by omega, rfl, rfl, h⟩ (by rfl) (by rfl))
                · replace h := ifF c67 h
                  refine TL.nil (X.seq ?_)
                  refine T.yes rfl (bn_t (decide_eq_false c67)) ?_
                  refine T.seq (T.region rfl ?_)
                  refine TL.run ft_produce_ok [0, 1] rfl rfl ?_
                  obtain rfl := Option.some.inj h
                  replace h := hO55
                  clear hO55
                  try dsimp only at h
                  obtain rfl := Option.some.inj h
                  replace h := hO41
                  clear hO41
                  try dsimp only at h
                  obtain rfl := Option.some.inj h
                  exact TL.nil (X.seq (T.ret (X.rb (X.rs (X.rs (X.rb (X.rb (X.rs (X.rs (X.rb (X.rs (X.done1 [3] Try.results68 (RV.tm rfl) ⟨rfl, rfl, rfl⟩ (by rfl) (.inl rfl)))))))))))))
          · replace h := ifF c36 h
            refine TL.nil (X.seq ?_)
            refine T.yes rfl (bn_t (decide_eq_false c36)) ?_
            refine T.seq (T.region rfl ?_)
            refine TL.run ft_produce_ok [0, 1] rfl rfl ?_
            obtain rfl := Option.some.inj h
            exact TL.nil (X.seq (T.ret (X.rs (X.done1 [1] Try.results68 (RV.tm rfl) ⟨rfl, rfl, rfl⟩ (by rfl) (.inl rfl)))))
def f_produce_RequestWrite_l2 : List ProducePart → (List UInt8 × Int) → Option (List UInt8 × Int)
  | [], st78 => some st78
  | x83 :: xs, st78 => (f_batch_All x83.fBatches).bind fun (x91, x92) => (if x92 = 0 then some st78 else ((gOFail st78 x92).bind fun st100 => some st100)).bind fun st97 => (gOInt st97 x83.fIndex 4).bind fun st102 => (gOf x91).bind fun x104 => (gPutFixed st102 x104 4).bind fun st106 => f_produce_RequestWrite_l2 xs st106
def f_produce_RequestWrite_l1 : List ProduceTopic → (List UInt8 × Int) → Option (List UInt8 × Int)
  | [], st16 => some st16
  | x21 :: xs, st16 => ((gPutText st16 x21.fName).bind fun st73 => (gOInt st73 (x21.fParts.length : Int) 4).bind fun st75 => (f_produce_RequestWrite_l2 x21.fParts st75).bind fun st109 => some st109).bind fun st66 => f_produce_RequestWrite_l1 xs st66
def f_produce_RequestWrite (st : List UInt8 × Int) (a0 : ProduceRequest) (a2 : Int) : Option (List UInt8 × Int) := (f_produce_RequestCheck a0 a2).bind fun x4 => if x4 = 0 then ((gPutFixed st a0.fID 2).bind fun st7 => (gOInt st7 a0.fAcks 2).bind fun st9 => (gOInt st9 a0.fTimeout 4).bind fun st11 => (gOInt st11 (a0.fTopics.length : Int) 4).bind fun st13 => (f_produce_RequestWrite_l1 a0.fTopics st13).bind fun st111 => some st111) else ((gOFail st x4).bind fun st112 => some st112)
set_option maxRecDepth 100000 in
set_option maxHeartbeats 4000000 in
theorem f_produce_RequestWrite_spec (g : Nat) (st : List UInt8 × Int) (a0 : ProduceRequest) (A1 : Option Addr) (c2 : Nat) (a2 : Int) (r : List UInt8 × Int) (h : f_produce_RequestWrite st a0 a2 = some r) : SpecX Try.prog 67 #[.agg #[.bool a0.fID.null, .string (bsOf a0.fID.data), .int .i64 a0.fAcks, .int .i64 a0.fTimeout, .slice A1 a0.fTopics.length c2], .pointer (some ⟨g, 0, none⟩), .int .i64 a2] (RX.of (sliceRd 2 ProduceTopic_rd) [.slice A1 a0.fTopics.length c2] a0.fTopics) (OutR g st) (fun v A' N => v = .tuple #[] ∧ A' = OutR g r ∧ N = []) := by
  refine enterA Try.func67 rfl Try.ntmps67 rfl ?_
  intro F w hX
  unfold f_produce_RequestWrite at h
  refine T.seq (T.region rfl ?_)
  refine TL.box rfl .u rfl rfl (fun b3 => ?_)
  refine TL.nil (X.seq (T.seq (T.seq (T.region rfl ?_))))
  refine TL.q rfl .u (Ex.bS (us := [.bool a0.fID.null, .string (bsOf a0.fID.data), .int .i64 a0.fAcks, .int .i64 a0.fTimeout, .slice A1 a0.fTopics.length c2]) 0 rfl Try.isAgg65 Try.sizeOf65 rfl rfl rfl) rfl ?_
  obtain ⟨x4, hx5, h⟩ := Option.bind_eq_some_iff.1 h
  refine TL.run ft_produce_ok [1] rfl rfl ?_
  refine TL.ce rfl .u (.fn Try.call68 rfl) (f_produce_RequestCheck_spec a0 _ _ a2 _ hx5) (fun _ hs => (SrcE.old hs hX)) rfl ?_
  refine TL.run ft_produce_ok [3] rfl rfl ?_
  refine TL.nil (X.seq (T.seq (T.region rfl ?_)))
  refine TL.run ft_produce_ok [0, 1] rfl rfl ?_
  by_cases c6 : x4 = 0
  · replace h := ifT c6 h
    refine TL.nil (X.seq ?_)
    refine T.no rfl (bn_f (decide_eq_true c6)) ?_
    refine T.skip (X.seq (T.seq (T.region rfl ?_)))
    refine TL.run ft_produce_ok [0, 1] rfl rfl ?_
    refine TL.q rfl .u (Ex.bS (us := [.bool a0.fID.null, .string (bsOf a0.fID.data)]) 0 rfl Try.isAgg30 Try.sizeOf30 rfl rfl rfl) rfl ?_
    obtain ⟨st7, hx8, h⟩ := Option.bind_eq_some_iff.1 h
    refine TL.c1 rfl .u (.fn Try.call106 rfl) (gPutFixed_spec g st a0.fID 2 _ hx8) (fun _ hs => (Src.triv _)) rfl ?_
    refine TL.nil (X.seq (T.seq (T.region rfl ?_)))
    refine TL.run ft_produce_ok [0, 1] rfl rfl ?_
    refine TL.q rfl .u (Ex.b1 0 rfl Try.isAgg3 rfl rfl) rfl ?_
    obtain ⟨st9, hx10, h⟩ := Option.bind_eq_some_iff.1 h
    refine TL.c1 rfl .u (.fn Try.call84 rfl) (gOInt_spec g st7 a0.fAcks 2 _ hx10) (fun _ hs => (Src.triv _)) rfl ?_
    refine TL.nil (X.seq (T.seq (T.region rfl ?_)))
    refine TL.run ft_produce_ok [0, 1] rfl rfl ?_
    refine TL.q rfl .u (Ex.b1 0 rfl Try.isAgg3 rfl rfl) rfl ?_
    obtain ⟨st11, hx12, h⟩ := Option.bind_eq_some_iff.1 h
    refine TL.c1 rfl .u (.fn Try.call84 rfl) (gOInt_spec g st9 a0.fTimeout 4 _ hx12) (fun _ hs => (Src.triv _)) rfl ?_
    refine TL.nil (X.seq (T.seq (T.region rfl ?_)))
    refine TL.run ft_produce_ok [0, 1] rfl rfl ?_
    refine TL.q rfl .u (Ex.b1 0 rfl Try.isAgg63 rfl rfl) rfl ?_
    refine TL.q rfl .u (Ex.lenS rfl Try.runUnderlying63) rfl ?_
    obtain ⟨st13, hx14, h⟩ := Option.bind_eq_some_iff.1 h
    refine TL.c1 rfl .u (.fn Try.call84 rfl) (gOInt_spec g st11 (a0.fTopics.length : Int) 4 _ hx14) (fun _ hs => (Src.triv _)) rfl ?_
    refine TL.nil (X.seq (T.seq (T.region rfl ?_)))
    refine TL.run ft_produce_ok [0] rfl rfl ?_
    refine TL.q rfl .u (Ex.b1 0 rfl Try.isAgg63 rfl rfl) rfl ?_
    refine TL.q rfl .u (Ex.lenS rfl Try.runUnderlying63) rfl ?_
    refine TL.run ft_produce_ok [3] rfl rfl ?_
    refine TL.nil (X.seq (T.block ?_))
    obtain ⟨E17, hE18, hO19⟩ := Option.bind_eq_some_iff.1 h
    have hk23len := RX.len_le hX
    refine T.lp (fun m e Rs => ∃ (k15 : Nat) (st16 : List UInt8 × Int), k15 + m = a0.fTopics.length ∧ e = [(1, .pointer (some ⟨g, 0, none⟩)), (39, .slice A1 a0.fTopics.length c2), (40, .int .i64 (a0.fTopics.length : Int)), (41, .int .i64 (k15 : Int))] ∧ Rs = [BlkR b3 65 #[.bool a0.fID.null, .string (bsOf a0.fID.data), .int .i64 a0.fAcks, .int .i64 a0.fTimeout, .slice A1 a0.fTopics.length c2], OutR g st16] ∧ f_produce_RequestWrite_l1 (a0.fTopics.drop k15) st16 = some E17) (a0.fTopics.length) [0, 0] ⟨0, st13, by simp, rfl, rfl, by rw [List.drop_zero]; exact hE18⟩ (by rfl) (by rfl) ?_
    rintro m20 _ _ ⟨k15, st16, hk23, rfl, rfl, hl22⟩
    clear hE18 h
    cases m20 with
    | zero =>
      have h := hl22
      clear hl22
      rw [List.drop_of_length_le (by omega), f_produce_RequestWrite_l1] at h
      have hk23ge : ¬ ((k15 : Int) < (a0.fTopics.length : Int)) := by omega
      refine T.seq (T.region rfl ?_)
      refine TL.run ft_produce_ok [0] rfl rfl ?_
      refine TL.nil (X.seq (T.seq ?_))
      refine T.no rfl (decide_eq_false hk23ge) ?_
      obtain rfl := Option.some.inj h
      replace h := hO19
      clear hO19
      try dsimp only at h
      obtain rfl := Option.some.inj h
      exact T.exit (X.exs (X.exs (X.ex (X.done0 [1] Try.results67 ⟨rfl, rfl, rfl⟩ (by rfl) (.inr rfl)))))
    | succ m20 =>
      have h := hl22
      clear hl22
      obtain ⟨x21, hxx21⟩ : ∃ x, a0.fTopics[k15]? = some x := ⟨_, List.getElem?_eq_getElem (by omega)⟩
      rw [drop_cons hxx21, f_produce_RequestWrite_l1] at h
      have hk23lt : (k15 : Int) < (a0.fTopics.length : Int) := by omega
      refine T.seq (T.region rfl ?_)
      refine TL.run ft_produce_ok [0] rfl rfl ?_
      refine TL.nil (X.seq (T.seq ?_))
      refine T.yes rfl (decide_eq_true hk23lt) ?_
      refine T.skip (X.seq (T.seq ?_))
      obtain ⟨st66, h, hk67⟩ := Option.bind_eq_some_iff.1 h
      refine T.jq (fun e Rs => e = [(1, .pointer (some ⟨g, 0, none⟩)), (39, .slice A1 a0.fTopics.length c2), (40, .int .i64 (a0.fTopics.length : Int)), (41, .int .i64 (k15 : Int))] ∧ Rs = [BlkR b3 65 #[.bool a0.fID.null, .string (bsOf a0.fID.data), .int .i64 a0.fAcks, .int .i64 a0.fTimeout, .slice A1 a0.fTopics.length c2], OutR g st66]) ?_ ?_
      · clear hk67
        obtain ⟨gz68, oz68, rfl, z68cs, z68cl, z68cc, z68nf, z68r⟩ := RX.elem (by decide) hX hxx21
        obtain ⟨z68S, z68r, z68rr⟩ := z68r
        obtain ⟨A69, c70, rfl, z68s0⟩ := z68r
        have hX71 : (RX.of (sliceRd 2 ProducePart_rd) [.slice A69 x21.fParts.length c70] x21.fParts).reads w F := ⟨z68S, z68s0, z68rr⟩
        refine T.block (T.seq (T.region rfl ?_))
        refine TL.q rfl .u (Ex.ixS (k := k15) rfl rfl rfl Try.runUnderlying63 Try.sizeOf76 (List.getElem?_eq_some_iff.1 hxx21).1) rfl ?_
        refine TL.q rfl .u (Ex.oS (us := [.string (bsOf x21.fName), .slice A69 x21.fParts.length c70]) 0 rfl Try.isAgg76 Try.sizeOf76 z68nf z68cc rfl rfl rfl) rfl ?_
        refine TL.alloc rfl .u Try.zeroValue76 rfl (fun b72 => ?_)
        refine TL.st0 (cs' := #[.string (bsOf x21.fName), .slice A69 x21.fParts.length c70]) rfl .u rfl rfl Try.sizeOf76 rfl rfl rfl rfl ?_
        refine TL.nil (X.seq (T.seq (T.region rfl ?_)))
        refine TL.run ft_produce_ok [0, 1] rfl rfl ?_
        refine TL.q rfl .u (Ex.b1 0 rfl Try.isAgg9 rfl rfl) rfl ?_
        obtain ⟨st73, hx74, h⟩ := Option.bind_eq_some_iff.1 h
        refine TL.c2 rfl .u (.fn Try.call107 rfl) (gPutText_spec g st16 x21.fName _ hx74) (fun _ hs => (Src.triv _)) rfl ?_
        refine TL.nil (X.seq (T.seq (T.region rfl ?_)))
        refine TL.run ft_produce_ok [0, 1] rfl rfl ?_
        refine TL.q rfl .u (Ex.b1 0 rfl Try.isAgg74 rfl rfl) rfl ?_
        refine TL.q rfl .u (Ex.lenS rfl Try.runUnderlying74) rfl ?_
        obtain ⟨st75, hx76, h⟩ := Option.bind_eq_some_iff.1 h
        refine TL.c2 rfl .u (.fn Try.call84 rfl) (gOInt_spec g st73 (x21.fParts.length : Int) 4 _ hx76) (fun _ hs => (Src.triv _)) rfl ?_
        refine TL.nil (X.seq (T.seq (T.region rfl ?_)))
        refine TL.run ft_produce_ok [0] rfl rfl ?_
        refine TL.q rfl .u (Ex.b1 0 rfl Try.isAgg74 rfl rfl) rfl ?_
        refine TL.q rfl .u (Ex.lenS rfl Try.runUnderlying74) rfl ?_
        refine TL.run ft_produce_ok [3] rfl rfl ?_
        refine TL.nil (X.seq (T.block ?_))
        obtain ⟨E79, hE80, hO81⟩ := Option.bind_eq_some_iff.1 h
        have hk85len := RX.len_le hX71
        refine T.lp (fun m e Rs => ∃ (k77 : Nat) (st78 : List UInt8 × Int), k77 + m = x21.fParts.length ∧ e = [(1, .pointer (some ⟨g, 0, none⟩)), (39, .slice (some ⟨gz68, oz68, none⟩) a0.fTopics.length c2), (40, .int .i64 (a0.fTopics.length : Int)), (41, .int .i64 (k15 : Int)), (55, .slice A69 x21.fParts.length c70), (56, .int .i64 (x21.fParts.length : Int)), (57, .int .i64 (k77 : Int))] ∧ Rs = [BlkR b72 76 #[.string (bsOf x21.fName), .slice A69 x21.fParts.length c70], BlkR b3 65 #[.bool a0.fID.null, .string (bsOf a0.fID.data), .int .i64 a0.fAcks, .int .i64 a0.fTimeout, .slice (some ⟨gz68, oz68, none⟩) a0.fTopics.length c2], OutR g st78] ∧ f_produce_RequestWrite_l2 (x21.fParts.drop k77) st78 = some E79) (x21.fParts.length) [0, 0, 0] ⟨0, st75, by simp, rfl, rfl, by rw [List.drop_zero]; exact hE80⟩ (by rfl) (by rfl) ?_
        rintro m82 _ _ ⟨k77, st78, hk85, rfl, rfl, hl84⟩
        clear hE80 h
        cases m82 with
        | zero =>
          have h := hl84
          clear hl84
          rw [List.drop_of_length_le (by omega), f_produce_RequestWrite_l2] at h
          have hk85ge : ¬ ((k77 : Int) < (x21.fParts.length : Int)) := by omega
          refine T.seq (T.region rfl ?_)
          refine TL.run ft_produce_ok [0] rfl rfl ?_
          refine TL.nil (X.seq (T.seq ?_))
          refine T.no rfl (decide_eq_false hk85ge) ?_
          obtain rfl := Option.some.inj h
          replace h := hO81
          clear hO81
          try dsimp only at h
          cases h
          exact T.exit (X.exs (X.exs (X.ex (X.blk (X.jq [1, 1] ⟨rfl, rfl⟩ (by rfl) (by rfl))))))
        | succ m82 =>
          have h := hl84
          clear hl84
          obtain ⟨x83, hxx83⟩ : ∃ x, x21.fParts[k77]? = some x := ⟨_, List.getElem?_eq_getElem (by omega)⟩
          rw [drop_cons hxx83, f_produce_RequestWrite_l2] at h
          have hk85lt : (k77 : Int) < (x21.fParts.length : Int) := by omega
          refine T.seq (T.region rfl ?_)
          refine TL.run ft_produce_ok [0] rfl rfl ?_
          refine TL.nil (X.seq (T.seq ?_))
          refine T.yes rfl (decide_eq_true hk85lt) ?_
          obtain ⟨gz86, oz86, rfl, z86cs, z86cl, z86cc, z86nf, z86r⟩ := RX.elem (by decide) hX71 hxx83
          obtain ⟨z86S, z86r, z86rr⟩ := z86r
          obtain ⟨A87, c88, rfl, z86s0⟩ := z86r
          have hX89 : (RX.of (sliceRd 12 Bat_rd) [.slice A87 x83.fBatches.length c88] x83.fBatches).reads w F := ⟨z86S, z86s0, z86rr⟩
          refine T.skip (X.seq (T.seq (T.block (T.seq (T.region rfl ?_)))))
          refine TL.q rfl .u (Ex.ixS (k := k77) rfl rfl rfl Try.runUnderlying74 Try.sizeOf78 (List.getElem?_eq_some_iff.1 hxx83).1) rfl ?_
          refine TL.q rfl .u (Ex.oS (us := [.int .i64 x83.fIndex, .slice A87 x83.fBatches.length c88]) 0 rfl Try.isAgg78 Try.sizeOf78 z86nf z86cc rfl rfl rfl) rfl ?_
          refine TL.alloc rfl .u Try.zeroValue78 rfl (fun b90 => ?_)
          refine TL.st0 (cs' := #[.int .i64 x83.fIndex, .slice A87 x83.fBatches.length c88]) rfl .u rfl rfl Try.sizeOf78 rfl rfl rfl rfl ?_
          refine TL.nil (X.seq (T.seq (T.region rfl ?_)))
          refine TL.run ft_produce_ok [0] rfl rfl ?_
          refine TL.q rfl .u (Ex.b1 0 rfl Try.isAgg46 rfl rfl) rfl ?_
          obtain ⟨⟨x91, x92⟩, hx93, h⟩ := Option.bind_eq_some_iff.1 h
          try dsimp only at h
          refine TL.ce rfl .u (.fn Try.call19 rfl) (f_batch_All_spec x83.fBatches _ _ _ hx93) (fun _ hs => (SrcE.old hs hX89)) rfl ?_
          refine TL.run ft_produce_ok [3, 4, 5, 6, 7] rfl rfl ?_
          refine TL.nil (X.seq (T.seq (T.seq (T.region rfl ?_))))
          refine TL.run ft_produce_ok [0, 1] rfl rfl ?_
          refine TL.nil (X.seq ?_)
          obtain ⟨st97, h, hk98⟩ := Option.bind_eq_some_iff.1 h
          refine T.jq (fun e Rs => e = [(1, .pointer (some ⟨g, 0, none⟩)), (10, .pointer (some ⟨b90, 0, none⟩)), (11, .string (bsOf x91)), (39, .slice (some ⟨gz68, oz68, none⟩) a0.fTopics.length c2), (40, .int .i64 (a0.fTopics.length : Int)), (41, .int .i64 (k15 : Int)), (55, .slice (some ⟨gz86, oz86, none⟩) x21.fParts.length c70), (56, .int .i64 (x21.fParts.length : Int)), (57, .int .i64 (k77 : Int))] ∧ Rs = [BlkR b90 78 #[.int .i64 x83.fIndex, .slice A87 x83.fBatches.length c88], BlkR b72 76 #[.string (bsOf x21.fName), .slice (some ⟨gz86, oz86, none⟩) x21.fParts.length c70], BlkR b3 65 #[.bool a0.fID.null, .string (bsOf a0.fID.data), .int .i64 a0.fAcks, .int .i64 a0.fTimeout, .slice (some ⟨gz68, oz68, none⟩) a0.fTopics.length c2], OutR g st97]) ?_ ?_
          · clear hk98
            by_cases c99 : x92 = 0
            · replace h := ifT c99 h
              refine T.no rfl (bn_f (decide_eq_true c99)) ?_
              cases h
              exact T.skip (X.jq [0, 0, 0, 0] ⟨rfl, rfl⟩ (by rfl) (by rfl))
            · replace h := ifF c99 h
              refine T.yes rfl (bn_t (decide_eq_false c99)) ?_
              refine T.region rfl ?_
              obtain ⟨st100, hx101, h⟩ := Option.bind_eq_some_iff.1 h
              refine TL.run ft_produce_ok [0, 1] rfl rfl ?_
              refine TL.c3 rfl .u (.fn Try.call80 rfl) (gOFail_spec g st78 x92 _ hx101) (fun _ hs => (Src.triv _)) rfl ?_
              cases h
              exact TL.nil (X.jq [0, 0, 0, 0] ⟨rfl, rfl⟩ (by rfl) (by rfl))
          · rintro _ _ ⟨rfl, rfl⟩
            clear h
            have h := hk98
            clear hk98
            try dsimp only at h
            refine X.seq (T.seq (T.region rfl ?_))
            refine TL.run ft_produce_ok [0, 1] rfl rfl ?_
            refine TL.q rfl .u (Ex.b1 0 rfl Try.isAgg3 rfl rfl) rfl ?_
            obtain ⟨st102, hx103, h⟩ := Option.bind_eq_some_iff.1 h
            refine TL.c3 rfl .u (.fn Try.call84 rfl) (gOInt_spec g st97 x83.fIndex 4 _ hx103) (fun _ hs => (Src.triv _)) rfl ?_
            refine TL.nil (X.seq (T.region rfl ?_))
            obtain ⟨x104, hx105, h⟩ := Option.bind_eq_some_iff.1 h
            refine TL.run ft_produce_ok [0, 1] rfl rfl ?_
            refine TL.ce rfl .u (.fn Try.call105 rfl) (gOf_spec x91 _ hx105) (fun _ hs => (RX.reads_triv _ _)) rfl ?_
            obtain ⟨st106, hx107, h⟩ := Option.bind_eq_some_iff.1 h
            refine TL.c3 rfl .u (.fn Try.call106 rfl) (gPutFixed_spec g st102 x104 4 _ hx107) (fun _ hs => (Src.triv _)) rfl ?_
            refine TL.nil (X.blk (X.seq (T.region rfl ?_)))
            refine TL.q rfl .u (Ex.add rfl rfl (by omega)) rfl ?_
            refine TL.run ft_produce_ok [1] rfl rfl ?_
            exact TL.nil (X.back (m' := m82) [1, 1, 1] (by omega) ⟨k77 + 1, st106, by omega, rfl, rfl, h⟩ (by rfl) (by rfl))
      · rintro _ _ ⟨rfl, rfl⟩
        clear h
        have h := hk67
        clear hk67
        try dsimp only at h
        refine X.seq (T.region rfl ?_)
        refine TL.q rfl .u (Ex.add rfl rfl (by omega)) rfl ?_
        refine TL.run ft_produce_ok [1] rfl rfl ?_
        exact TL.nil (X.back (m' := m20) [0, 0] (by omega) ⟨k15 + 1, st66, by omega, rfl, rfl, h⟩ (by rfl) (by rfl))
  · replace h := ifF c6 h
    refine TL.nil (X.seq ?_)
    refine T.yes rfl (bn_t (decide_eq_false c6)) ?_
    refine T.seq (T.region rfl ?_)
    obtain ⟨st112, hx113, h⟩ := Option.bind_eq_some_iff.1 h
    refine TL.run ft_produce_ok [0, 1] rfl rfl ?_
    refine TL.c1 rfl .u (.fn Try.call80 rfl) (gOFail_spec g st x4 _ hx113) (fun _ hs => (Src.triv _)) rfl ?_
    obtain rfl := Option.some.inj h
    exact TL.nil (X.seq (T.ret (X.rs (X.done0 [1] Try.results67 ⟨rfl, rfl, rfl⟩ (by rfl) (.inl rfl)))))
def f_produce_Same_l7 (x260 : ProducePart) : List Bat → Bool → Nat → Option (Lp Bool Bool)
  | [], y273, k274 => some (Lp.go y273)
  | x279 :: xs, y273, k274 => (x260.fBatches[k274]?).bind fun x301 => (f_batch_Same x279 x301).bind fun x307 => if x307 = true then (f_produce_Same_l7 x260 xs y273 (k274 + 1)) else some (Lp.ret false)
def f_produce_Same_l5 (x176 : ProduceTopic) : List ProducePart → Bool → Nat → Option (Lp Bool Bool)
  | [], y189, k190 => some (Lp.go y189)
  | x195 :: xs, y189, k190 => (x176.fParts[k190]?).bind fun x260 => (if x195.fIndex = x260.fIndex then (if (x195.fBatches.length : Int) = (x260.fBatches.length : Int) then some false else some true) else some true).bind fun y268 => if y268 = true then some (Lp.ret false) else ((f_produce_Same_l7 x260 x195.fBatches y189 0).bind fun e => match e with | .ret r => some (Lp.ret r) | .go y310 => (f_produce_Same_l5 x176 xs y310 (k190 + 1)))
def f_produce_Same_l1 (a1 : ProduceRequest) : List ProduceTopic → Bool → Nat → Option (Lp Bool Bool)
  | [], y19, k20 => some (Lp.go y19)
  | x25 :: xs, y19, k20 => (a1.fTopics[k20]?).bind fun x176 => (if x25.fName = x176.fName then (if (x25.fParts.length : Int) = (x176.fParts.length : Int) then some false else some true) else some true).bind fun y184 => if y184 = true then some (Lp.ret false) else ((f_produce_Same_l5 x176 x25.fParts y19 0).bind fun e => match e with | .ret r => some (Lp.ret r) | .go y312 => (f_produce_Same_l1 a1 xs y312 (k20 + 1)))
def f_produce_Same (a0 : ProduceRequest) (a1 : ProduceRequest) : Option (Bool) := (if a0.fID.null = a1.fID.null then (if a0.fID.data = a1.fID.data then (if a0.fAcks = a1.fAcks then (if a0.fTimeout = a1.fTimeout then (if (a0.fTopics.length : Int) = (a1.fTopics.length : Int) then some false else some true) else some true) else some true) else some true) else some true).bind fun y11 => if y11 = true then some false else ((f_produce_Same_l1 a1 a0.fTopics false 0).bind fun e => match e with | .ret r => some r | .go y314 => some true)
set_option maxRecDepth 100000 in
set_option maxHeartbeats 4000000 in
theorem f_produce_Same_spec (a0 : ProduceRequest) (A1 : Option Addr) (c2 : Nat) (a1 : ProduceRequest) (A3 : Option Addr) (c4 : Nat) (r : Bool) (h : f_produce_Same a0 a1 = some r) : SpecX Try.prog 29 #[.agg #[.bool a0.fID.null, .string (bsOf a0.fID.data), .int .i64 a0.fAcks, .int .i64 a0.fTimeout, .slice A1 a0.fTopics.length c2], .agg #[.bool a1.fID.null, .string (bsOf a1.fID.data), .int .i64 a1.fAcks, .int .i64 a1.fTimeout, .slice A3 a1.fTopics.length c4]] (RX.and (RX.of (sliceRd 2 ProduceTopic_rd) [.slice A1 a0.fTopics.length c2] a0.fTopics) (RX.of (sliceRd 2 ProduceTopic_rd) [.slice A3 a1.fTopics.length c4] a1.fTopics)) (EmpR) (fun v A' N => v = .bool r ∧ A' = EmpR ∧ N = []) := by
  refine enterA Try.func29 rfl Try.ntmps29 rfl ?_
  intro F w hX
  unfold f_produce_Same at h
  refine T.seq (T.region rfl ?_)
  refine TL.box rfl .u rfl rfl (fun b5 => ?_)
  refine TL.box rfl .u rfl rfl (fun b6 => ?_)
  refine TL.run ft_produce_ok [2] rfl rfl ?_
  refine TL.nil (X.seq (T.seq (T.seq ?_)))
  obtain ⟨y11, h, hk12⟩ := Option.bind_eq_some_iff.1 h
  refine T.jq (fun e Rs => e = [(2, .pointer (some ⟨b5, 0, none⟩)), (3, .pointer (some ⟨b6, 0, none⟩)), (4, .bool false), (40, .bool y11)] ∧ Rs = [BlkR b6 65 #[.bool a1.fID.null, .string (bsOf a1.fID.data), .int .i64 a1.fAcks, .int .i64 a1.fTimeout, .slice A3 a1.fTopics.length c4], BlkR b5 65 #[.bool a0.fID.null, .string (bsOf a0.fID.data), .int .i64 a0.fAcks, .int .i64 a0.fTimeout, .slice A1 a0.fTopics.length c2], EmpR]) ?_ ?_
  · clear hk12
    refine T.region rfl ?_
    refine TL.run ft_produce_ok [0] rfl rfl ?_
    refine TL.q rfl .u (Ex.bS (us := [.bool a0.fID.null, .string (bsOf a0.fID.data)]) 1 rfl Try.isAgg30 Try.sizeOf30 rfl rfl rfl) rfl ?_
    refine TL.run ft_produce_ok [2] rfl rfl ?_
    refine TL.q rfl .u (Ex.bS (us := [.bool a1.fID.null, .string (bsOf a1.fID.data)]) 0 rfl Try.isAgg30 Try.sizeOf30 rfl rfl rfl) rfl ?_
    by_cases c13 : a0.fID.null = a1.fID.null
    · replace h := ifT c13 h
      by_cases c14 : a0.fID.data = a1.fID.data
      · replace h := ifT c14 h
        refine TL.q rfl .u (Ex.aNe (us := [.bool a0.fID.null, .string (bsOf a0.fID.data)]) (vs := [.bool a1.fID.null, .string (bsOf a1.fID.data)]) flat_produce_30 rfl Try.eqGuardType30 rfl rfl rfl rfl (eqL_t (eqV_b c13) (eqL_t (eqV_s (l := a0.fID.data) (m := a1.fID.data) c14) rfl))) rfl ?_
        refine TL.run ft_produce_ok [5] rfl rfl ?_
        refine TL.q rfl (.g rfl rfl rfl) (Ex.ft ft_produce_ok rfl) rfl ?_
        refine TL.q rfl (.g rfl rfl rfl) (Ex.b1 1 rfl Try.isAgg3 rfl rfl) rfl ?_
        refine TL.q rfl (.g rfl rfl rfl) (Ex.ft ft_produce_ok rfl) rfl ?_
        refine TL.q rfl (.g rfl rfl rfl) (Ex.b1 0 rfl Try.isAgg3 rfl rfl) rfl ?_
        refine TL.q rfl (.g rfl rfl rfl) (Ex.ft ft_produce_ok rfl) rfl ?_
        refine TL.q rfl .u (Ex.pn rfl rfl rfl) rfl ?_
        by_cases c15 : a0.fAcks = a1.fAcks
        · replace h := ifT c15 h
          refine TL.run ft_produce_ok [12] rfl rfl ?_
          refine TL.q rfl (.g rfl rfl (bn_f (decide_eq_true c15))) (Ex.ft ft_produce_ok rfl) rfl ?_
          refine TL.q rfl (.g rfl rfl (bn_f (decide_eq_true c15))) (Ex.b1 1 rfl Try.isAgg3 rfl rfl) rfl ?_
          refine TL.q rfl (.g rfl rfl (bn_f (decide_eq_true c15))) (Ex.ft ft_produce_ok rfl) rfl ?_
          refine TL.q rfl (.g rfl rfl (bn_f (decide_eq_true c15))) (Ex.b1 0 rfl Try.isAgg3 rfl rfl) rfl ?_
          refine TL.q rfl (.g rfl rfl (bn_f (decide_eq_true c15))) (Ex.ft ft_produce_ok rfl) rfl ?_
          refine TL.q rfl .u (Ex.pn rfl (bn_f (decide_eq_true c15)) rfl) rfl ?_
          by_cases c16 : a0.fTimeout = a1.fTimeout
          · replace h := ifT c16 h
            refine TL.run ft_produce_ok [19] rfl rfl ?_
            refine TL.q rfl (.g rfl rfl (bn_f (decide_eq_true c16))) (Ex.ft ft_produce_ok rfl) rfl ?_
            refine TL.q rfl (.g rfl rfl (bn_f (decide_eq_true c16))) (Ex.b1 1 rfl Try.isAgg63 rfl rfl) rfl ?_
            refine TL.q rfl (.g rfl rfl (bn_f (decide_eq_true c16))) (Ex.lenS rfl Try.runUnderlying63) rfl ?_
            refine TL.q rfl (.g rfl rfl (bn_f (decide_eq_true c16))) (Ex.ft ft_produce_ok rfl) rfl ?_
            refine TL.q rfl (.g rfl rfl (bn_f (decide_eq_true c16))) (Ex.b1 0 rfl Try.isAgg63 rfl rfl) rfl ?_
            refine TL.q rfl (.g rfl rfl (bn_f (decide_eq_true c16))) (Ex.lenS rfl Try.runUnderlying63) rfl ?_
            refine TL.q rfl (.g rfl rfl (bn_f (decide_eq_true c16))) (Ex.ft ft_produce_ok rfl) rfl ?_
            refine TL.q rfl .u (Ex.pn rfl (bn_f (decide_eq_true c16)) rfl) rfl ?_
            by_cases c17 : (a0.fTopics.length : Int) = (a1.fTopics.length : Int)
            · replace h := ifT c17 h
              cases h
              exact TL.nil (X.as (d := 40) (v' := .bool false) rfl (congrArg Value.bool (bn_f (decide_eq_true c17))) (X.jq [0, 0, 0] ⟨rfl, rfl⟩ (by rfl) (by rfl)))
            · replace h := ifF c17 h
              cases h
              exact TL.nil (X.as (d := 40) (v' := .bool true) rfl (congrArg Value.bool (bn_t (decide_eq_false c17))) (X.jq [0, 0, 0] ⟨rfl, rfl⟩ (by rfl) (by rfl)))
          · replace h := ifF c16 h
            refine TL.run ft_produce_ok [19] rfl rfl ?_
            refine TL.no rfl (.gn rfl rfl (bn_t (decide_eq_false c16))) rfl ?_
            refine TL.no rfl (.gn rfl rfl (bn_t (decide_eq_false c16))) rfl ?_
            refine TL.no rfl (.gn rfl rfl (bn_t (decide_eq_false c16))) rfl ?_
            refine TL.no rfl (.gn rfl rfl (bn_t (decide_eq_false c16))) rfl ?_
            refine TL.no rfl (.gn rfl rfl (bn_t (decide_eq_false c16))) rfl ?_
            refine TL.no rfl (.gn rfl rfl (bn_t (decide_eq_false c16))) rfl ?_
            refine TL.no rfl (.gn rfl rfl (bn_t (decide_eq_false c16))) rfl ?_
            refine TL.q rfl .u (Ex.py rfl (bn_t (decide_eq_false c16)) rfl) rfl ?_
            cases h
            exact TL.nil (X.jq [0, 0, 0] ⟨rfl, rfl⟩ (by rfl) (by rfl))
        · replace h := ifF c15 h
          refine TL.run ft_produce_ok [12] rfl rfl ?_
          refine TL.no rfl (.gn rfl rfl (bn_t (decide_eq_false c15))) rfl ?_
          refine TL.no rfl (.gn rfl rfl (bn_t (decide_eq_false c15))) rfl ?_
          refine TL.no rfl (.gn rfl rfl (bn_t (decide_eq_false c15))) rfl ?_
          refine TL.no rfl (.gn rfl rfl (bn_t (decide_eq_false c15))) rfl ?_
          refine TL.no rfl (.gn rfl rfl (bn_t (decide_eq_false c15))) rfl ?_
          refine TL.q rfl .u (Ex.py rfl (bn_t (decide_eq_false c15)) rfl) rfl ?_
          refine TL.run ft_produce_ok [19] rfl rfl ?_
          refine TL.no rfl (.gn rfl rfl rfl) rfl ?_
          refine TL.no rfl (.gn rfl rfl rfl) rfl ?_
          refine TL.no rfl (.gn rfl rfl rfl) rfl ?_
          refine TL.no rfl (.gn rfl rfl rfl) rfl ?_
          refine TL.no rfl (.gn rfl rfl rfl) rfl ?_
          refine TL.no rfl (.gn rfl rfl rfl) rfl ?_
          refine TL.no rfl (.gn rfl rfl rfl) rfl ?_
          refine TL.q rfl .u (Ex.py rfl rfl rfl) rfl ?_
          cases h
          exact TL.nil (X.jq [0, 0, 0] ⟨rfl, rfl⟩ (by rfl) (by rfl))
      · replace h := ifF c14 h
        refine TL.q rfl .u (Ex.aNe (us := [.bool a0.fID.null, .string (bsOf a0.fID.data)]) (vs := [.bool a1.fID.null, .string (bsOf a1.fID.data)]) flat_produce_30 rfl Try.eqGuardType30 rfl rfl rfl rfl (eqL_t (eqV_b c13) (eqL_f (eqV_sn (l := a0.fID.data) (m := a1.fID.data) c14)))) rfl ?_
        refine TL.run ft_produce_ok [5] rfl rfl ?_
        refine TL.no rfl (.gn rfl rfl rfl) rfl ?_
        refine TL.no rfl (.gn rfl rfl rfl) rfl ?_
        refine TL.no rfl (.gn rfl rfl rfl) rfl ?_
        refine TL.no rfl (.gn rfl rfl rfl) rfl ?_
        refine TL.no rfl (.gn rfl rfl rfl) rfl ?_
        refine TL.q rfl .u (Ex.py rfl rfl rfl) rfl ?_
        refine TL.run ft_produce_ok [12] rfl rfl ?_
        refine TL.no rfl (.gn rfl rfl rfl) rfl ?_
        refine TL.no rfl (.gn rfl rfl rfl) rfl ?_
        refine TL.no rfl (.gn rfl rfl rfl) rfl ?_
        refine TL.no rfl (.gn rfl rfl rfl) rfl ?_
        refine TL.no rfl (.gn rfl rfl rfl) rfl ?_
        refine TL.q rfl .u (Ex.py rfl rfl rfl) rfl ?_
        refine TL.run ft_produce_ok [19] rfl rfl ?_
        refine TL.no rfl (.gn rfl rfl rfl) rfl ?_
        refine TL.no rfl (.gn rfl rfl rfl) rfl ?_
        refine TL.no rfl (.gn rfl rfl rfl) rfl ?_
        refine TL.no rfl (.gn rfl rfl rfl) rfl ?_
        refine TL.no rfl (.gn rfl rfl rfl) rfl ?_
        refine TL.no rfl (.gn rfl rfl rfl) rfl ?_
        refine TL.no rfl (.gn rfl rfl rfl) rfl ?_
        refine TL.q rfl .u (Ex.py rfl rfl rfl) rfl ?_
        cases h
        exact TL.nil (X.jq [0, 0, 0] ⟨rfl, rfl⟩ (by rfl) (by rfl))
    · replace h := ifF c13 h
      refine TL.q rfl .u (Ex.aNe (us := [.bool a0.fID.null, .string (bsOf a0.fID.data)]) (vs := [.bool a1.fID.null, .string (bsOf a1.fID.data)]) flat_produce_30 rfl Try.eqGuardType30 rfl rfl rfl rfl (eqL_f (eqV_bn c13))) rfl ?_
      refine TL.run ft_produce_ok [5] rfl rfl ?_
      refine TL.no rfl (.gn rfl rfl rfl) rfl ?_
      refine TL.no rfl (.gn rfl rfl rfl) rfl ?_
      refine TL.no rfl (.gn rfl rfl rfl) rfl ?_
      refine TL.no rfl (.gn rfl rfl rfl) rfl ?_
      refine TL.no rfl (.gn rfl rfl rfl) rfl ?_
      refine TL.q rfl .u (Ex.py rfl rfl rfl) rfl ?_
      refine TL.run ft_produce_ok [12] rfl rfl ?_
      refine TL.no rfl (.gn rfl rfl rfl) rfl ?_
      refine TL.no rfl (.gn rfl rfl rfl) rfl ?_
      refine TL.no rfl (.gn rfl rfl rfl) rfl ?_
      refine TL.no rfl (.gn rfl rfl rfl) rfl ?_
      refine TL.no rfl (.gn rfl rfl rfl) rfl ?_
      refine TL.q rfl .u (Ex.py rfl rfl rfl) rfl ?_
      refine TL.run ft_produce_ok [19] rfl rfl ?_
      refine TL.no rfl (.gn rfl rfl rfl) rfl ?_
      refine TL.no rfl (.gn rfl rfl rfl) rfl ?_
      refine TL.no rfl (.gn rfl rfl rfl) rfl ?_
      refine TL.no rfl (.gn rfl rfl rfl) rfl ?_
      refine TL.no rfl (.gn rfl rfl rfl) rfl ?_
      refine TL.no rfl (.gn rfl rfl rfl) rfl ?_
      refine TL.no rfl (.gn rfl rfl rfl) rfl ?_
      refine TL.q rfl .u (Ex.py rfl rfl rfl) rfl ?_
      cases h
      exact TL.nil (X.jq [0, 0, 0] ⟨rfl, rfl⟩ (by rfl) (by rfl))
  · rintro _ _ ⟨rfl, rfl⟩
    clear h
    have h := hk12
    clear hk12
    try dsimp only at h
    by_cases c18 : y11 = true
    · replace h := ifT c18 h
      refine X.seq ?_
      refine T.yes rfl c18 ?_
      refine T.seq (T.region rfl ?_)
      refine TL.run ft_produce_ok [0] rfl rfl ?_
      obtain rfl := Option.some.inj h
      exact TL.nil (X.seq (T.ret (X.rs (X.done1 [2] Try.results29 (RV.tm rfl) ⟨rfl, rfl, rfl⟩ (by rfl) (.inl rfl)))))
    · replace h := ifF c18 h
      replace c18 := eq_false_of_ne_true c18
      refine X.seq ?_
      refine T.no rfl c18 ?_
      refine T.skip (X.seq (T.seq (T.seq (T.region rfl ?_))))
      refine TL.run ft_produce_ok [0] rfl rfl ?_
      refine TL.q rfl .u (Ex.b1 1 rfl Try.isAgg63 rfl rfl) rfl ?_
      refine TL.q rfl .u (Ex.lenS rfl Try.runUnderlying63) rfl ?_
      refine TL.run ft_produce_ok [3] rfl rfl ?_
      refine TL.nil (X.seq (T.block ?_))
      obtain ⟨E21, hE22, hO23⟩ := Option.bind_eq_some_iff.1 h
      have hk27len := RX.len_le (RX.reads_left hX)
      refine T.lp (fun m e Rs => ∃ (y19 : Bool) (k20 : Nat), k20 + m = a0.fTopics.length ∧ e = [(3, .pointer (some ⟨b6, 0, none⟩)), (4, .bool y19), (42, .slice A1 a0.fTopics.length c2), (43, .int .i64 (a0.fTopics.length : Int)), (44, .int .i64 (k20 : Int))] ∧ Rs = [BlkR b6 65 #[.bool a1.fID.null, .string (bsOf a1.fID.data), .int .i64 a1.fAcks, .int .i64 a1.fTimeout, .slice A3 a1.fTopics.length c4], BlkR b5 65 #[.bool a0.fID.null, .string (bsOf a0.fID.data), .int .i64 a0.fAcks, .int .i64 a0.fTimeout, .slice A1 a0.fTopics.length c2], EmpR] ∧ f_produce_Same_l1 a1 (a0.fTopics.drop k20) y19 k20 = some E21) (a0.fTopics.length) [0, 0, 0] ⟨false, 0, by simp, rfl, rfl, by rw [List.drop_zero]; exact hE22⟩ (by rfl) (by rfl) ?_
      rintro m24 _ _ ⟨y19, k20, hk27, rfl, rfl, hl26⟩
      clear hE22 h
      cases m24 with
      | zero =>
        have h := hl26
        clear hl26
        rw [List.drop_of_length_le (by omega), f_produce_Same_l1] at h
        have hk27ge : ¬ ((k20 : Int) < (a0.fTopics.length : Int)) := by omega
        refine T.seq (T.region rfl ?_)
        refine TL.run ft_produce_ok [0] rfl rfl ?_
        refine TL.nil (X.seq (T.seq ?_))
        refine T.no rfl (decide_eq_false hk27ge) ?_
        obtain rfl := Option.some.inj h
        replace h := hO23
        clear hO23
        try dsimp only at h
        refine T.exit (X.exs (X.exs (X.ex (X.seq (T.seq (T.region rfl ?_))))))
        refine TL.run ft_produce_ok [0] rfl rfl ?_
        obtain rfl := Option.some.inj h
        exact TL.nil (X.seq (T.ret (X.done1 [2] Try.results29 (RV.tm rfl) ⟨rfl, rfl, rfl⟩ (by rfl) (.inl rfl))))
      | succ m24 =>
        have h := hl26
        clear hl26
        obtain ⟨x25, hxx25⟩ : ∃ x, a0.fTopics[k20]? = some x := ⟨_, List.getElem?_eq_getElem (by omega)⟩
        rw [drop_cons hxx25, f_produce_Same_l1] at h
        have hk27lt : (k20 : Int) < (a0.fTopics.length : Int) := by omega
        refine T.seq (T.region rfl ?_)
        refine TL.run ft_produce_ok [0] rfl rfl ?_
        refine TL.nil (X.seq (T.seq ?_))
        refine T.yes rfl (decide_eq_true hk27lt) ?_
        refine T.skip (X.seq (T.seq (T.block (T.seq (T.region rfl ?_)))))
        obtain ⟨gz171, oz171, rfl, z171cs, z171cl, z171cc, z171nf, z171r⟩ := RX.elem (by decide) (RX.reads_left hX) hxx25
        obtain ⟨z171S, z171r, z171rr⟩ := z171r
        obtain ⟨A172, c173, rfl, z171s0⟩ := z171r
        have hX174 : (RX.of (sliceRd 2 ProducePart_rd) [.slice A172 x25.fParts.length c173] x25.fParts).reads w F := ⟨z171S, z171s0, z171rr⟩
        refine TL.run ft_produce_ok [0] rfl rfl ?_
        refine TL.q rfl .u (Ex.ixS (k := k20) rfl rfl rfl Try.runUnderlying63 Try.sizeOf76 (List.getElem?_eq_some_iff.1 hxx25).1) rfl ?_
        refine TL.q rfl .u (Ex.oS (us := [.string (bsOf x25.fName), .slice A172 x25.fParts.length c173]) 0 rfl Try.isAgg76 Try.sizeOf76 z171nf z171cc rfl rfl rfl) rfl ?_
        refine TL.alloc rfl .u Try.zeroValue76 rfl (fun b175 => ?_)
        refine TL.run ft_produce_ok [4] rfl rfl ?_
        refine TL.st0 (cs' := #[.string (bsOf x25.fName), .slice A172 x25.fParts.length c173]) rfl .u rfl rfl Try.sizeOf76 rfl rfl rfl rfl ?_
        refine TL.nil (X.seq (T.seq (T.region rfl ?_)))
        refine TL.run ft_produce_ok [0] rfl rfl ?_
        refine TL.q rfl .u (Ex.b1 1 rfl Try.isAgg63 rfl rfl) rfl ?_
        obtain ⟨x176, hx177, h⟩ := Option.bind_eq_some_iff.1 h
        obtain ⟨gz178, oz178, rfl, z178cs, z178cl, z178cc, z178nf, z178r⟩ := RX.elem (by decide) (RX.reads_right hX) hx177
        obtain ⟨z178S, z178r, z178rr⟩ := z178r
        obtain ⟨A179, c180, rfl, z178s0⟩ := z178r
        have hX181 : (RX.of (sliceRd 2 ProducePart_rd) [.slice A179 x176.fParts.length c180] x176.fParts).reads w F := ⟨z178S, z178s0, z178rr⟩
        refine TL.run ft_produce_ok [2] rfl rfl ?_
        refine TL.q rfl .u (Ex.ixS (k := k20) rfl rfl rfl Try.runUnderlying63 Try.sizeOf76 (List.getElem?_eq_some_iff.1 hx177).1) rfl ?_
        refine TL.q rfl .u (Ex.oS (us := [.string (bsOf x176.fName), .slice A179 x176.fParts.length c180]) 0 rfl Try.isAgg76 Try.sizeOf76 z178nf z178cc rfl rfl rfl) rfl ?_
        refine TL.alloc rfl .u Try.zeroValue76 rfl (fun b182 => ?_)
        refine TL.st0 (cs' := #[.string (bsOf x176.fName), .slice A179 x176.fParts.length c180]) rfl .u rfl rfl Try.sizeOf76 rfl rfl rfl rfl ?_
        refine TL.nil (X.seq (T.seq (T.seq ?_)))
        obtain ⟨y184, h, hk185⟩ := Option.bind_eq_some_iff.1 h
        refine T.jq (fun e Rs => e = [(3, .pointer (some ⟨b6, 0, none⟩)), (4, .bool y19), (6, .pointer (some ⟨b175, 0, none⟩)), (7, .pointer (some ⟨b182, 0, none⟩)), (42, .slice (some ⟨gz171, oz171, none⟩) a0.fTopics.length c2), (43, .int .i64 (a0.fTopics.length : Int)), (44, .int .i64 (k20 : Int)), (67, .bool y184)] ∧ Rs = [BlkR b182 76 #[.string (bsOf x176.fName), .slice A179 x176.fParts.length c180], BlkR b175 76 #[.string (bsOf x25.fName), .slice A172 x25.fParts.length c173], BlkR b6 65 #[.bool a1.fID.null, .string (bsOf a1.fID.data), .int .i64 a1.fAcks, .int .i64 a1.fTimeout, .slice (some ⟨gz178, oz178, none⟩) a1.fTopics.length c4], BlkR b5 65 #[.bool a0.fID.null, .string (bsOf a0.fID.data), .int .i64 a0.fAcks, .int .i64 a0.fTimeout, .slice (some ⟨gz171, oz171, none⟩) a0.fTopics.length c2], EmpR]) ?_ ?_
        · clear hk185
          refine T.region rfl ?_
          refine TL.run ft_produce_ok [0] rfl rfl ?_
          refine TL.q rfl .u (Ex.b1 1 rfl Try.isAgg9 rfl rfl) rfl ?_
          refine TL.run ft_produce_ok [2] rfl rfl ?_
          refine TL.q rfl .u (Ex.b1 0 rfl Try.isAgg9 rfl rfl) rfl ?_
          refine TL.q rfl .u (Ex.sNe rfl rfl) rfl ?_
          by_cases c186 : x25.fName = x176.fName
          · replace h := ifT c186 h
            refine TL.run ft_produce_ok [5] rfl rfl ?_
            refine TL.q rfl (.g rfl rfl (bn_f (decide_eq_true c186))) (Ex.ft ft_produce_ok rfl) rfl ?_
            refine TL.q rfl (.g rfl rfl (bn_f (decide_eq_true c186))) (Ex.b1 1 rfl Try.isAgg74 rfl rfl) rfl ?_
            refine TL.q rfl (.g rfl rfl (bn_f (decide_eq_true c186))) (Ex.lenS rfl Try.runUnderlying74) rfl ?_
            refine TL.q rfl (.g rfl rfl (bn_f (decide_eq_true c186))) (Ex.ft ft_produce_ok rfl) rfl ?_
            refine TL.q rfl (.g rfl rfl (bn_f (decide_eq_true c186))) (Ex.b1 0 rfl Try.isAgg74 rfl rfl) rfl ?_
            refine TL.q rfl (.g rfl rfl (bn_f (decide_eq_true c186))) (Ex.lenS rfl Try.runUnderlying74) rfl ?_
            refine TL.q rfl (.g rfl rfl (bn_f (decide_eq_true c186))) (Ex.ft ft_produce_ok rfl) rfl ?_
            refine TL.q rfl .u (Ex.pn rfl (bn_f (decide_eq_true c186)) rfl) rfl ?_
            by_cases c187 : (x25.fParts.length : Int) = (x176.fParts.length : Int)
            · replace h := ifT c187 h
              cases h
              exact TL.nil (X.as (d := 67) (v' := .bool false) rfl (congrArg Value.bool (bn_f (decide_eq_true c187))) (X.jq [0, 0, 0, 0, 0] ⟨rfl, rfl⟩ (by rfl) (by rfl)))
            · replace h := ifF c187 h
              cases h
              exact TL.nil (X.as (d := 67) (v' := .bool true) rfl (congrArg Value.bool (bn_t (decide_eq_false c187))) (X.jq [0, 0, 0, 0, 0] ⟨rfl, rfl⟩ (by rfl) (by rfl)))
          · replace h := ifF c186 h
            refine TL.run ft_produce_ok [5] rfl rfl ?_
            refine TL.no rfl (.gn rfl rfl (bn_t (decide_eq_false c186))) rfl ?_
            refine TL.no rfl (.gn rfl rfl (bn_t (decide_eq_false c186))) rfl ?_
            refine TL.no rfl (.gn rfl rfl (bn_t (decide_eq_false c186))) rfl ?_
            refine TL.no rfl (.gn rfl rfl (bn_t (decide_eq_false c186))) rfl ?_
            refine TL.no rfl (.gn rfl rfl (bn_t (decide_eq_false c186))) rfl ?_
            refine TL.no rfl (.gn rfl rfl (bn_t (decide_eq_false c186))) rfl ?_
            refine TL.no rfl (.gn rfl rfl (bn_t (decide_eq_false c186))) rfl ?_
            refine TL.q rfl .u (Ex.py rfl (bn_t (decide_eq_false c186)) rfl) rfl ?_
            cases h
            exact TL.nil (X.jq [0, 0, 0, 0, 0] ⟨rfl, rfl⟩ (by rfl) (by rfl))
        · rintro _ _ ⟨rfl, rfl⟩
          clear h
          have h := hk185
          clear hk185
          try dsimp only at h
          by_cases c188 : y184 = true
          · replace h := ifT c188 h
            refine X.seq ?_
            refine T.yes rfl c188 ?_
            refine T.seq (T.region rfl ?_)
            refine TL.run ft_produce_ok [0] rfl rfl ?_
            obtain rfl := Option.some.inj h
            replace h := hO23
            clear hO23
            try dsimp only at h
            obtain rfl := Option.some.inj h
            exact TL.nil (X.seq (T.ret (X.rs (X.rb (X.rs (X.rs (X.rb (X.rs (X.done1 [4] Try.results29 (RV.tm rfl) ⟨rfl, rfl, rfl⟩ (by rfl) (.inl rfl))))))))))
          · replace h := ifF c188 h
            replace c188 := eq_false_of_ne_true c188
            refine X.seq ?_
            refine T.no rfl c188 ?_
            refine T.skip (X.seq (T.seq (T.region rfl ?_)))
            refine TL.run ft_produce_ok [0] rfl rfl ?_
            refine TL.q rfl .u (Ex.b1 1 rfl Try.isAgg74 rfl rfl) rfl ?_
            refine TL.q rfl .u (Ex.lenS rfl Try.runUnderlying74) rfl ?_
            refine TL.run ft_produce_ok [3] rfl rfl ?_
            refine TL.nil (X.seq (T.block ?_))
            obtain ⟨E191, hE192, hO193⟩ := Option.bind_eq_some_iff.1 h
            have hk197len := RX.len_le hX174
            refine T.lp (fun m e Rs => ∃ (y189 : Bool) (k190 : Nat), k190 + m = x25.fParts.length ∧ e = [(3, .pointer (some ⟨b6, 0, none⟩)), (4, .bool y189), (7, .pointer (some ⟨b182, 0, none⟩)), (42, .slice (some ⟨gz171, oz171, none⟩) a0.fTopics.length c2), (43, .int .i64 (a0.fTopics.length : Int)), (44, .int .i64 (k20 : Int)), (69, .slice A172 x25.fParts.length c173), (70, .int .i64 (x25.fParts.length : Int)), (71, .int .i64 (k190 : Int))] ∧ Rs = [BlkR b182 76 #[.string (bsOf x176.fName), .slice A179 x176.fParts.length c180], BlkR b175 76 #[.string (bsOf x25.fName), .slice A172 x25.fParts.length c173], BlkR b6 65 #[.bool a1.fID.null, .string (bsOf a1.fID.data), .int .i64 a1.fAcks, .int .i64 a1.fTimeout, .slice (some ⟨gz178, oz178, none⟩) a1.fTopics.length c4], BlkR b5 65 #[.bool a0.fID.null, .string (bsOf a0.fID.data), .int .i64 a0.fAcks, .int .i64 a0.fTimeout, .slice (some ⟨gz171, oz171, none⟩) a0.fTopics.length c2], EmpR] ∧ f_produce_Same_l5 x176 (x25.fParts.drop k190) y189 k190 = some E191) (x25.fParts.length) [0, 0, 0, 0, 0] ⟨y19, 0, by simp, rfl, rfl, by rw [List.drop_zero]; exact hE192⟩ (by rfl) (by rfl) ?_
            rintro m194 _ _ ⟨y189, k190, hk197, rfl, rfl, hl196⟩
            clear hE192 h
            cases m194 with
            | zero =>
              have h := hl196
              clear hl196
              rw [List.drop_of_length_le (by omega), f_produce_Same_l5] at h
              have hk197ge : ¬ ((k190 : Int) < (x25.fParts.length : Int)) := by omega
              refine T.seq (T.region rfl ?_)
              refine TL.run ft_produce_ok [0] rfl rfl ?_
              refine TL.nil (X.seq (T.seq ?_))
              refine T.no rfl (decide_eq_false hk197ge) ?_
              obtain rfl := Option.some.inj h
              replace h := hO193
              clear hO193
              try dsimp only at h
              refine T.exit (X.exs (X.exs (X.ex (X.blk (X.seq (T.region rfl ?_))))))
              refine TL.q rfl .u (Ex.add rfl rfl (by omega)) rfl ?_
              refine TL.run ft_produce_ok [1] rfl rfl ?_
              exact TL.nil (X.back (m' := m24) [2, 2, 2] (by omega) ⟨y189, k20 + 1, by omega, rfl, rfl, h⟩ (by rfl) (by rfl))
            | succ m194 =>
              have h := hl196
              clear hl196
              obtain ⟨x195, hxx195⟩ : ∃ x, x25.fParts[k190]? = some x := ⟨_, List.getElem?_eq_getElem (by omega)⟩
              rw [drop_cons hxx195, f_produce_Same_l5] at h
              have hk197lt : (k190 : Int) < (x25.fParts.length : Int) := by omega
              refine T.seq (T.region rfl ?_)
              refine TL.run ft_produce_ok [0] rfl rfl ?_
              refine TL.nil (X.seq (T.seq ?_))
              refine T.yes rfl (decide_eq_true hk197lt) ?_
              refine T.skip (X.seq (T.seq (T.block (T.seq (T.region rfl ?_)))))
              obtain ⟨gz255, oz255, rfl, z255cs, z255cl, z255cc, z255nf, z255r⟩ := RX.elem (by decide) hX174 hxx195
              obtain ⟨z255S, z255r, z255rr⟩ := z255r
              obtain ⟨A256, c257, rfl, z255s0⟩ := z255r
              have hX258 : (RX.of (sliceRd 12 Bat_rd) [.slice A256 x195.fBatches.length c257] x195.fBatches).reads w F := ⟨z255S, z255s0, z255rr⟩
              refine TL.run ft_produce_ok [0] rfl rfl ?_
              refine TL.q rfl .u (Ex.ixS (k := k190) rfl rfl rfl Try.runUnderlying74 Try.sizeOf78 (List.getElem?_eq_some_iff.1 hxx195).1) rfl ?_
              refine TL.q rfl .u (Ex.oS (us := [.int .i64 x195.fIndex, .slice A256 x195.fBatches.length c257]) 0 rfl Try.isAgg78 Try.sizeOf78 z255nf z255cc rfl rfl rfl) rfl ?_
              refine TL.alloc rfl .u Try.zeroValue78 rfl (fun b259 => ?_)
              refine TL.run ft_produce_ok [4] rfl rfl ?_
              refine TL.st0 (cs' := #[.int .i64 x195.fIndex, .slice A256 x195.fBatches.length c257]) rfl .u rfl rfl Try.sizeOf78 rfl rfl rfl rfl ?_
              refine TL.nil (X.seq (T.seq (T.region rfl ?_)))
              refine TL.run ft_produce_ok [0] rfl rfl ?_
              refine TL.q rfl .u (Ex.b1 1 rfl Try.isAgg74 rfl rfl) rfl ?_
              obtain ⟨x260, hx261, h⟩ := Option.bind_eq_some_iff.1 h
              obtain ⟨gz262, oz262, rfl, z262cs, z262cl, z262cc, z262nf, z262r⟩ := RX.elem (by decide) hX181 hx261
              obtain ⟨z262S, z262r, z262rr⟩ := z262r
              obtain ⟨A263, c264, rfl, z262s0⟩ := z262r
              have hX265 : (RX.of (sliceRd 12 Bat_rd) [.slice A263 x260.fBatches.length c264] x260.fBatches).reads w F := ⟨z262S, z262s0, z262rr⟩
              refine TL.run ft_produce_ok [2] rfl rfl ?_
              refine TL.q rfl .u (Ex.ixS (k := k190) rfl rfl rfl Try.runUnderlying74 Try.sizeOf78 (List.getElem?_eq_some_iff.1 hx261).1) rfl ?_
              refine TL.q rfl .u (Ex.oS (us := [.int .i64 x260.fIndex, .slice A263 x260.fBatches.length c264]) 0 rfl Try.isAgg78 Try.sizeOf78 z262nf z262cc rfl rfl rfl) rfl ?_
              refine TL.alloc rfl .u Try.zeroValue78 rfl (fun b266 => ?_)
              refine TL.st0 (cs' := #[.int .i64 x260.fIndex, .slice A263 x260.fBatches.length c264]) rfl .u rfl rfl Try.sizeOf78 rfl rfl rfl rfl ?_
              refine TL.nil (X.seq (T.seq (T.seq ?_)))
              obtain ⟨y268, h, hk269⟩ := Option.bind_eq_some_iff.1 h
              refine T.jq (fun e Rs => e = [(3, .pointer (some ⟨b6, 0, none⟩)), (4, .bool y189), (7, .pointer (some ⟨b182, 0, none⟩)), (9, .pointer (some ⟨b259, 0, none⟩)), (10, .pointer (some ⟨b266, 0, none⟩)), (42, .slice (some ⟨gz171, oz171, none⟩) a0.fTopics.length c2), (43, .int .i64 (a0.fTopics.length : Int)), (44, .int .i64 (k20 : Int)), (69, .slice (some ⟨gz255, oz255, none⟩) x25.fParts.length c173), (70, .int .i64 (x25.fParts.length : Int)), (71, .int .i64 (k190 : Int)), (94, .bool y268)] ∧ Rs = [BlkR b266 78 #[.int .i64 x260.fIndex, .slice A263 x260.fBatches.length c264], BlkR b259 78 #[.int .i64 x195.fIndex, .slice A256 x195.fBatches.length c257], BlkR b182 76 #[.string (bsOf x176.fName), .slice (some ⟨gz262, oz262, none⟩) x176.fParts.length c180], BlkR b175 76 #[.string (bsOf x25.fName), .slice (some ⟨gz255, oz255, none⟩) x25.fParts.length c173], BlkR b6 65 #[.bool a1.fID.null, .string (bsOf a1.fID.data), .int .i64 a1.fAcks, .int .i64 a1.fTimeout, .slice (some ⟨gz178, oz178, none⟩) a1.fTopics.length c4], BlkR b5 65 #[.bool a0.fID.null, .string (bsOf a0.fID.data), .int .i64 a0.fAcks, .int .i64 a0.fTimeout, .slice (some ⟨gz171, oz171, none⟩) a0.fTopics.length c2], EmpR]) ?_ ?_
              · clear hk269
                refine T.region rfl ?_
                refine TL.run ft_produce_ok [0] rfl rfl ?_
                refine TL.q rfl .u (Ex.b1 1 rfl Try.isAgg3 rfl rfl) rfl ?_
                refine TL.run ft_produce_ok [2] rfl rfl ?_
                refine TL.q rfl .u (Ex.b1 0 rfl Try.isAgg3 rfl rfl) rfl ?_
                by_cases c270 : x195.fIndex = x260.fIndex
                · replace h := ifT c270 h
                  refine TL.run ft_produce_ok [4, 5] rfl rfl ?_
                  refine TL.q rfl (.g rfl rfl (bn_f (decide_eq_true c270))) (Ex.ft ft_produce_ok rfl) rfl ?_
                  refine TL.q rfl (.g rfl rfl (bn_f (decide_eq_true c270))) (Ex.b1 1 rfl Try.isAgg46 rfl rfl) rfl ?_
                  refine TL.q rfl (.g rfl rfl (bn_f (decide_eq_true c270))) (Ex.lenS rfl Try.runUnderlying46) rfl ?_
                  refine TL.q rfl (.g rfl rfl (bn_f (decide_eq_true c270))) (Ex.ft ft_produce_ok rfl) rfl ?_
                  refine TL.q rfl (.g rfl rfl (bn_f (decide_eq_true c270))) (Ex.b1 0 rfl Try.isAgg46 rfl rfl) rfl ?_
                  refine TL.q rfl (.g rfl rfl (bn_f (decide_eq_true c270))) (Ex.lenS rfl Try.runUnderlying46) rfl ?_
                  refine TL.q rfl (.g rfl rfl (bn_f (decide_eq_true c270))) (Ex.ft ft_produce_ok rfl) rfl ?_
                  refine TL.q rfl .u (Ex.pn rfl (bn_f (decide_eq_true c270)) rfl) rfl ?_
                  by_cases c271 : (x195.fBatches.length : Int) = (x260.fBatches.length : Int)
                  · replace h := ifT c271 h
                    cases h
                    exact TL.nil (X.as (d := 94) (v' := .bool false) rfl (congrArg Value.bool (bn_f (decide_eq_true c271))) (X.jq [0, 0, 0, 0, 0, 0, 0] ⟨rfl, rfl⟩ (by rfl) (by rfl)))
                  · replace h := ifF c271 h
                    cases h
                    exact TL.nil (X.as (d := 94) (v' := .bool true) rfl (congrArg Value.bool (bn_t (decide_eq_false c271))) (X.jq [0, 0, 0, 0, 0, 0, 0] ⟨rfl, rfl⟩ (by rfl) (by rfl)))
                · replace h := ifF c270 h
                  refine TL.run ft_produce_ok [4, 5] rfl rfl ?_
                  refine TL.no rfl (.gn rfl rfl (bn_t (decide_eq_false c270))) rfl ?_
                  refine TL.no rfl (.gn rfl rfl (bn_t (decide_eq_false c270))) rfl ?_
                  refine TL.no rfl (.gn rfl rfl (bn_t (decide_eq_false c270))) rfl ?_
                  refine TL.no rfl (.gn rfl rfl (bn_t (decide_eq_false c270))) rfl ?_
                  refine TL.no rfl (.gn rfl rfl (bn_t (decide_eq_false c270))) rfl ?_
                  refine TL.no rfl (.gn rfl rfl (bn_t (decide_eq_false c270))) rfl ?_
                  refine TL.no rfl (.gn rfl rfl (bn_t (decide_eq_false c270))) rfl ?_
                  refine TL.q rfl .u (Ex.py rfl (bn_t (decide_eq_false c270)) rfl) rfl ?_
                  cases h
                  exact TL.nil (X.jq [0, 0, 0, 0, 0, 0, 0] ⟨rfl, rfl⟩ (by rfl) (by rfl))
              · rintro _ _ ⟨rfl, rfl⟩
                clear h
                have h := hk269
                clear hk269
                try dsimp only at h
                by_cases c272 : y268 = true
                · replace h := ifT c272 h
                  refine X.seq ?_
                  refine T.yes rfl c272 ?_
                  refine T.seq (T.region rfl ?_)
                  refine TL.run ft_produce_ok [0] rfl rfl ?_
                  obtain rfl := Option.some.inj h
                  replace h := hO193
                  clear hO193
                  try dsimp only at h
                  obtain rfl := Option.some.inj h
                  replace h := hO23
                  clear hO23
                  try dsimp only at h
                  obtain rfl := Option.some.inj h
                  exact TL.nil (X.seq (T.ret (X.rs (X.rb (X.rs (X.rs (X.rb (X.rb (X.rs (X.rs (X.rb (X.rs (X.done1 [6] Try.results29 (RV.tm rfl) ⟨rfl, rfl, rfl⟩ (by rfl) (.inl rfl))))))))))))))
                · replace h := ifF c272 h
                  replace c272 := eq_false_of_ne_true c272
                  refine X.seq ?_
                  refine T.no rfl c272 ?_
                  refine T.skip (X.seq (T.seq (T.region rfl ?_)))
                  refine TL.run ft_produce_ok [0] rfl rfl ?_
                  refine TL.q rfl .u (Ex.b1 1 rfl Try.isAgg46 rfl rfl) rfl ?_
                  refine TL.q rfl .u (Ex.lenS rfl Try.runUnderlying46) rfl ?_
                  refine TL.run ft_produce_ok [3] rfl rfl ?_
                  refine TL.nil (X.seq (T.block ?_))
                  obtain ⟨E275, hE276, hO277⟩ := Option.bind_eq_some_iff.1 h
                  have hk281len := RX.len_le hX258
                  refine T.lp (fun m e Rs => ∃ (y273 : Bool) (k274 : Nat), k274 + m = x195.fBatches.length ∧ e = [(3, .pointer (some ⟨b6, 0, none⟩)), (4, .bool y273), (7, .pointer (some ⟨b182, 0, none⟩)), (10, .pointer (some ⟨b266, 0, none⟩)), (42, .slice (some ⟨gz171, oz171, none⟩) a0.fTopics.length c2), (43, .int .i64 (a0.fTopics.length : Int)), (44, .int .i64 (k20 : Int)), (69, .slice (some ⟨gz255, oz255, none⟩) x25.fParts.length c173), (70, .int .i64 (x25.fParts.length : Int)), (71, .int .i64 (k190 : Int)), (96, .slice A256 x195.fBatches.length c257), (97, .int .i64 (x195.fBatches.length : Int)), (98, .int .i64 (k274 : Int))] ∧ Rs = [BlkR b266 78 #[.int .i64 x260.fIndex, .slice A263 x260.fBatches.length c264], BlkR b259 78 #[.int .i64 x195.fIndex, .slice A256 x195.fBatches.length c257], BlkR b182 76 #[.string (bsOf x176.fName), .slice (some ⟨gz262, oz262, none⟩) x176.fParts.length c180], BlkR b175 76 #[.string (bsOf x25.fName), .slice (some ⟨gz255, oz255, none⟩) x25.fParts.length c173], BlkR b6 65 #[.bool a1.fID.null, .string (bsOf a1.fID.data), .int .i64 a1.fAcks, .int .i64 a1.fTimeout, .slice (some ⟨gz178, oz178, none⟩) a1.fTopics.length c4], BlkR b5 65 #[.bool a0.fID.null, .string (bsOf a0.fID.data), .int .i64 a0.fAcks, .int .i64 a0.fTimeout, .slice (some ⟨gz171, oz171, none⟩) a0.fTopics.length c2], EmpR] ∧ f_produce_Same_l7 x260 (x195.fBatches.drop k274) y273 k274 = some E275) (x195.fBatches.length) [0, 0, 0, 0, 0, 0, 0] ⟨y189, 0, by simp, rfl, rfl, by rw [List.drop_zero]; exact hE276⟩ (by rfl) (by rfl) ?_
                  rintro m278 _ _ ⟨y273, k274, hk281, rfl, rfl, hl280⟩
                  clear hE276 h
                  cases m278 with
                  | zero =>
                    have h := hl280
                    clear hl280
                    rw [List.drop_of_length_le (by omega), f_produce_Same_l7] at h
                    have hk281ge : ¬ ((k274 : Int) < (x195.fBatches.length : Int)) := by omega
                    refine T.seq (T.region rfl ?_)
                    refine TL.run ft_produce_ok [0] rfl rfl ?_
                    refine TL.nil (X.seq (T.seq ?_))
                    refine T.no rfl (decide_eq_false hk281ge) ?_
                    obtain rfl := Option.some.inj h
                    replace h := hO277
                    clear hO277
                    try dsimp only at h
                    refine T.exit (X.exs (X.exs (X.ex (X.blk (X.seq (T.region rfl ?_))))))
                    refine TL.q rfl .u (Ex.add rfl rfl (by omega)) rfl ?_
                    refine TL.run ft_produce_ok [1] rfl rfl ?_
                    exact TL.nil (X.back (m' := m194) [2, 2, 2, 2, 2] (by omega) ⟨y273, k190 + 1, by omega, rfl, rfl, h⟩ (by rfl) (by rfl))
                  | succ m278 =>
                    have h := hl280
                    clear hl280
                    obtain ⟨x279, hxx279⟩ : ∃ x, x195.fBatches[k274]? = some x := ⟨_, List.getElem?_eq_getElem (by omega)⟩
                    rw [drop_cons hxx279, f_produce_Same_l7] at h
                    have hk281lt : (k274 : Int) < (x195.fBatches.length : Int) := by omega
                    refine T.seq (T.region rfl ?_)
                    refine TL.run ft_produce_ok [0] rfl rfl ?_
                    refine TL.nil (X.seq (T.seq ?_))
                    refine T.yes rfl (decide_eq_true hk281lt) ?_
                    refine T.skip (X.seq (T.seq (T.block (T.seq (T.region rfl ?_)))))
                    obtain ⟨gz296, oz296, rfl, z296cs, z296cl, z296cc, z296nf, z296r⟩ := RX.elem (by decide) hX258 hxx279
                    obtain ⟨z296S, z296r, z296rr⟩ := z296r
                    obtain ⟨A297, c298, rfl, z296s0⟩ := z296r
                    have hX299 : (RX.of (sliceRd 7 Rec_rd) [.slice A297 x279.fRecords.length c298] x279.fRecords).reads w F := ⟨z296S, z296s0, z296rr⟩
                    refine TL.run ft_produce_ok [0] rfl rfl ?_
                    refine TL.q rfl .u (Ex.ixS (k := k274) rfl rfl rfl Try.runUnderlying46 Try.sizeOf25 (List.getElem?_eq_some_iff.1 hxx279).1) rfl ?_
                    refine TL.q rfl .u (Ex.oS (us := [.int .i64 x279.fBase, .int .i64 x279.fLeader, .bool x279.fAppend, .bool x279.fTxn, .bool x279.fControl, .int .i64 x279.fLast, .int .i64 x279.fFirst, .int .i64 x279.fMax, .int .i64 x279.fProducer, .int .i64 x279.fEpoch, .int .i64 x279.fSequence, .slice A297 x279.fRecords.length c298]) 0 rfl Try.isAgg25 Try.sizeOf25 z296nf z296cc rfl rfl rfl) rfl ?_
                    refine TL.alloc rfl .u Try.zeroValue25 rfl (fun b300 => ?_)
                    refine TL.run ft_produce_ok [4] rfl rfl ?_
                    refine TL.st0 (cs' := #[.int .i64 x279.fBase, .int .i64 x279.fLeader, .bool x279.fAppend, .bool x279.fTxn, .bool x279.fControl, .int .i64 x279.fLast, .int .i64 x279.fFirst, .int .i64 x279.fMax, .int .i64 x279.fProducer, .int .i64 x279.fEpoch, .int .i64 x279.fSequence, .slice A297 x279.fRecords.length c298]) rfl .u rfl rfl Try.sizeOf25 rfl rfl rfl rfl ?_
                    refine TL.nil (X.seq (T.seq (T.draw (.q 0 (.q 1 (.q 2 (.q 3 (.q 4 (.q 5 (.e 6 (.q 7 .nil)))))))) [0, 0, 0, 0, 0, 0, 0, 0] rfl mix_produce (NoP.seq (NoP.blk (NoP.seq (NoP.seq (NoP.blk (NoP.blk (NoP.seq (NoP.seq (NoP.blk (NoP.blk (NoP.seq (NoP.seq (NoP.blk (NoP.seq np_post)))))))))))))) (by kernel_rfl) ?_)))
                    refine TD.q rfl .u (Ex.bS (us := [.int .i64 x279.fBase, .int .i64 x279.fLeader, .bool x279.fAppend, .bool x279.fTxn, .bool x279.fControl, .int .i64 x279.fLast, .int .i64 x279.fFirst, .int .i64 x279.fMax, .int .i64 x279.fProducer, .int .i64 x279.fEpoch, .int .i64 x279.fSequence, .slice A297 x279.fRecords.length c298]) 0 rfl Try.isAgg25 Try.sizeOf25 rfl rfl rfl) rfl ?_
                    refine TD.run ft_produce_ok [1] rfl rfl ?_
                    refine TD.q rfl .u (Ex.b1 1 rfl Try.isAgg46 rfl rfl) rfl ?_
                    obtain ⟨x301, hx302, h⟩ := Option.bind_eq_some_iff.1 h
                    obtain ⟨gz303, oz303, rfl, z303cs, z303cl, z303cc, z303nf, z303r⟩ := RX.elem (by decide) hX265 hx302
                    obtain ⟨z303S, z303r, z303rr⟩ := z303r
                    obtain ⟨A304, c305, rfl, z303s0⟩ := z303r
                    have hX306 : (RX.of (sliceRd 7 Rec_rd) [.slice A304 x301.fRecords.length c305] x301.fRecords).reads w F := ⟨z303S, z303s0, z303rr⟩
                    refine TD.run ft_produce_ok [3] rfl rfl ?_
                    refine TD.q rfl .u (Ex.ixS (k := k274) rfl rfl rfl Try.runUnderlying46 Try.sizeOf25 (List.getElem?_eq_some_iff.1 hx302).1) rfl ?_
                    refine TD.q rfl .u (Ex.oS (us := [.int .i64 x301.fBase, .int .i64 x301.fLeader, .bool x301.fAppend, .bool x301.fTxn, .bool x301.fControl, .int .i64 x301.fLast, .int .i64 x301.fFirst, .int .i64 x301.fMax, .int .i64 x301.fProducer, .int .i64 x301.fEpoch, .int .i64 x301.fSequence, .slice A304 x301.fRecords.length c305]) 0 rfl Try.isAgg25 Try.sizeOf25 z303nf z303cc rfl rfl rfl) rfl ?_
                    obtain ⟨x307, hx308, h⟩ := Option.bind_eq_some_iff.1 h
                    refine TD.ce rfl .u (.fn Try.call18 rfl) (f_batch_Same_spec x279 _ _ x301 _ _ _ hx308) (fun _ hs => (RX.reads_and (SrcE.old hs hX299) (SrcE.old hs hX306))) rfl [0, 0, 0, 0, 0, 0, 0, 0] (rfl) ?_
                    refine TD.run ft_produce_ok [7] rfl rfl ?_
                    by_cases c309 : x307 = true
                    · replace h := ifT c309 h
                      refine TD.nil (X.seq ?_)
                      refine T.no rfl (bn_f c309) ?_
                      refine T.skip (X.blk (X.seq (T.region rfl ?_)))
                      refine TL.q rfl .u (Ex.add rfl rfl (by omega)) rfl ?_
                      refine TL.run ft_produce_ok [1] rfl rfl ?_
                      exact TL.nil (X.back (m' := m278) [1, 1, 1, 1, 1, 1, 1] (by omega) ⟨y273, k274 + 1, by omega, rfl, rfl, h⟩ (by rfl) (by rfl))
                    · replace h := ifF c309 h
                      replace c309 := eq_false_of_ne_true c309
                      refine TD.nil (X.seq ?_)
                      refine T.yes rfl (bn_t c309) ?_
                      refine T.seq (T.region rfl ?_)
                      refine TL.run ft_produce_ok [0] rfl rfl ?_
                      obtain rfl := Option.some.inj h
                      replace h := hO277
                      clear hO277
                      try dsimp only at h
                      obtain rfl := Option.some.inj h
                      replace h := hO193
                      clear hO193
                      try dsimp only at h
                      obtain rfl := Option.some.inj h
                      replace h := hO23
                      clear hO23
                      try dsimp only at h
                      obtain rfl := Option.some.inj h
                      exact TL.nil (X.seq (T.ret (X.rb (X.rs (X.rs (X.rb (X.rb (X.rs (X.rs (X.rb (X.rb (X.rs (X.rs (X.rb (X.rs (X.done1 [7] Try.results29 (RV.tm rfl) ⟨rfl, rfl, rfl⟩ (by rfl) (.inl rfl)))))))))))))))))
end Go.Proofs.Ytcoppaggpbfcmaa.Sl
namespace Go.Proofs.Ytcoppaggpbfcmaa.Sl
open Go.RowKit
set_option linter.unusedVariables false
set_option linter.unusedSimpArgs false
set_option maxRecDepth 100000
def ft_cursitorref20 : FTab := [(71, 0, 0), (71, 1, 2), (71, 2, 3), (71, 3, 4), (129, 0, 0), (129, 1, 1), (130, 0, 0), (130, 1, 1)]
theorem ft_cursitorref20_ok : (ft_cursitorref20).OK Try.prog := ⟨FOK.mk Try.runUnderlying71 rfl Try.sizeOf30 rfl, FOK.mk Try.runUnderlying71 rfl Try.sizeOf3 rfl, FOK.mk Try.runUnderlying71 rfl Try.sizeOf3 rfl, FOK.mk Try.runUnderlying71 rfl Try.sizeOf69 rfl, FOK.mk Try.runUnderlying129 rfl Try.sizeOf9 rfl, FOK.mk Try.runUnderlying129 rfl Try.sizeOf127 rfl, FOK.mk Try.runUnderlying130 rfl Try.sizeOf3 rfl, FOK.mk Try.runUnderlying130 rfl Try.sizeOf46 rfl, trivial⟩
theorem mix_cursitorref20 : Try.prog.follows .mixedOrders = true := by kernel_rfl
theorem flat_cursitorref20_30 : Flat Try.prog 2 30 [.bool, .string] true := (Flat.struct Try.isAgg30 Try.sizeOf30 rfl Try.underlying30 Try.stoodInHeld30 ⟨by decide, rfl, [.bool], [.string], false, rfl, (Flat.one_ Try.isAgg4 Try.sizeOf4 Try.underlying4), ⟨by decide, rfl, [.string], [], false, rfl, (Flat.one_ Try.isAgg9 Try.sizeOf9 Try.underlying9), rfl⟩⟩)
def f_r20_Same_l2 (x29 : R20Topic) (x36 : R20Topic) : Nat → Bool → Nat → Option (Lp Bool (Bool × Nat))
  | 0, _, _ => none
  | m54 + 1, y49, k50 => if (k50 : Int) < (x29.fParts.length : Int) then (((x29.fParts[k50]?).bind fun x76 => (x36.fParts[k50]?).bind fun x82 => if x76.fIndex = x82.fIndex then ((f_r11_Rows x76.fBatches x82.fBatches).bind fun x89 => if x89 = true then some false else some true) else some true).bind fun y74 => if y74 = true then some (Lp.ret false) else (if -9223372036854775808 ≤ ((k50 : Int) + 1) ∧ ((k50 : Int) + 1) ≤ 9223372036854775807 then (f_r20_Same_l2 x29 x36 m54 y49 (k50 + 1)) else none)) else (some (Lp.go (y49, k50)))
def f_r20_Same_l1 (a0 : R20Request) (a1 : R20Request) : Nat → Bool → Nat → Option (Lp Bool (Bool × Nat))
  | 0, _, _ => none
  | m24 + 1, y19, k20 => if (k20 : Int) < (a0.fTopics.length : Int) then ((a0.fTopics[k20]?).bind fun x29 => (a1.fTopics[k20]?).bind fun x36 => (if x29.fName = x36.fName then (if (x29.fParts.length : Int) = (x36.fParts.length : Int) then some false else some true) else some true).bind fun y44 => if y44 = true then some (Lp.ret false) else ((f_r20_Same_l2 x29 x36 (((x29.fParts.length : Int)).toNat + 1) y19 0).bind fun e => match e with | .ret r => some (Lp.ret r) | .go (y95, k96) => (if -9223372036854775808 ≤ ((k20 : Int) + 1) ∧ ((k20 : Int) + 1) ≤ 9223372036854775807 then (f_r20_Same_l1 a0 a1 m24 y95 (k20 + 1)) else none))) else (some (Lp.go (y19, k20)))
theorem f_r20_Same_l1_z (a0 : R20Request) (a1 : R20Request) (u1 : Bool) (u2 : Nat) : f_r20_Same_l1 a0 a1 0 u1 u2 = none := rfl
theorem f_r20_Same_l1_s (a0 : R20Request) (a1 : R20Request) (m24 : Nat) (y19 : Bool) (k20 : Nat) : f_r20_Same_l1 a0 a1 (m24 + 1) y19 k20 = (if (k20 : Int) < (a0.fTopics.length : Int) then ((a0.fTopics[k20]?).bind fun x29 => (a1.fTopics[k20]?).bind fun x36 => (if x29.fName = x36.fName then (if (x29.fParts.length : Int) = (x36.fParts.length : Int) then some false else some true) else some true).bind fun y44 => if y44 = true then some (Lp.ret false) else ((f_r20_Same_l2 x29 x36 (((x29.fParts.length : Int)).toNat + 1) y19 0).bind fun e => match e with | .ret r => some (Lp.ret r) | .go (y95, k96) => (if -9223372036854775808 ≤ ((k20 : Int) + 1) ∧ ((k20 : Int) + 1) ≤ 9223372036854775807 then (f_r20_Same_l1 a0 a1 m24 y95 (k20 + 1)) else none))) else (some (Lp.go (y19, k20)))) := rfl
def f_r20_Same (a0 : R20Request) (a1 : R20Request) : Option (Bool) := (if a0.fID.null = a1.fID.null then (if a0.fID.data = a1.fID.data then (if a0.fAcks = a1.fAcks then (if a0.fTimeout = a1.fTimeout then (if (a0.fTopics.length : Int) = (a1.fTopics.length : Int) then some false else some true) else some true) else some true) else some true) else some true).bind fun y11 => if y11 = true then some false else ((f_r20_Same_l1 a0 a1 (((a0.fTopics.length : Int)).toNat + 1) false 0).bind fun e => match e with | .ret r => some r | .go (y98, k99) => some true)
set_option maxRecDepth 100000 in
set_option maxHeartbeats 4000000 in
theorem f_r20_Same_spec (a0 : R20Request) (A1 : Option Addr) (c2 : Nat) (a1 : R20Request) (A3 : Option Addr) (c4 : Nat) (r : Bool) (h : f_r20_Same a0 a1 = some r) : SpecX Try.prog 30 #[.agg #[.bool a0.fID.null, .string (bsOf a0.fID.data), .int .i64 a0.fAcks, .int .i64 a0.fTimeout, .slice A1 a0.fTopics.length c2], .agg #[.bool a1.fID.null, .string (bsOf a1.fID.data), .int .i64 a1.fAcks, .int .i64 a1.fTimeout, .slice A3 a1.fTopics.length c4]] (RX.and (RX.of (sliceRd 2 R20Topic_rd) [.slice A1 a0.fTopics.length c2] a0.fTopics) (RX.of (sliceRd 2 R20Topic_rd) [.slice A3 a1.fTopics.length c4] a1.fTopics)) (EmpR) (fun v A' N => v = .bool r ∧ A' = EmpR ∧ N = []) := by
  refine enterA Try.func30 rfl Try.ntmps30 rfl ?_
  intro F w hX
  unfold f_r20_Same at h
  refine T.seq (T.region rfl ?_)
  refine TL.box rfl .u rfl rfl (fun b5 => ?_)
  refine TL.box rfl .u rfl rfl (fun b6 => ?_)
  refine TL.run ft_cursitorref20_ok [2] rfl rfl ?_
  refine TL.nil (X.seq (T.seq (T.seq ?_)))
  obtain ⟨y11, h, hk12⟩ := Option.bind_eq_some_iff.1 h
  refine T.jq (fun e Rs => e = [(2, .pointer (some ⟨b5, 0, none⟩)), (3, .pointer (some ⟨b6, 0, none⟩)), (4, .bool false), (36, .bool y11)] ∧ Rs = [BlkR b6 71 #[.bool a1.fID.null, .string (bsOf a1.fID.data), .int .i64 a1.fAcks, .int .i64 a1.fTimeout, .slice A3 a1.fTopics.length c4], BlkR b5 71 #[.bool a0.fID.null, .string (bsOf a0.fID.data), .int .i64 a0.fAcks, .int .i64 a0.fTimeout, .slice A1 a0.fTopics.length c2], EmpR]) ?_ ?_
  · clear hk12
    refine T.region rfl ?_
    refine TL.run ft_cursitorref20_ok [0] rfl rfl ?_
    refine TL.q rfl .u (Ex.bS (us := [.bool a0.fID.null, .string (bsOf a0.fID.data)]) 1 rfl Try.isAgg30 Try.sizeOf30 rfl rfl rfl) rfl ?_
    refine TL.run ft_cursitorref20_ok [2] rfl rfl ?_
    refine TL.q rfl .u (Ex.bS (us := [.bool a1.fID.null, .string (bsOf a1.fID.data)]) 0 rfl Try.isAgg30 Try.sizeOf30 rfl rfl rfl) rfl ?_
    by_cases c13 : a0.fID.null = a1.fID.null
    · replace h := ifT c13 h
      by_cases c14 : a0.fID.data = a1.fID.data
      · replace h := ifT c14 h
        refine TL.q rfl .u (Ex.aNe (us := [.bool a0.fID.null, .string (bsOf a0.fID.data)]) (vs := [.bool a1.fID.null, .string (bsOf a1.fID.data)]) flat_cursitorref20_30 rfl Try.eqGuardType30 rfl rfl rfl rfl (eqL_t (eqV_b c13) (eqL_t (eqV_s (l := a0.fID.data) (m := a1.fID.data) c14) rfl))) rfl ?_
        refine TL.run ft_cursitorref20_ok [5] rfl rfl ?_
        refine TL.q rfl (.g rfl rfl rfl) (Ex.ft ft_cursitorref20_ok rfl) rfl ?_
        refine TL.q rfl (.g rfl rfl rfl) (Ex.b1 1 rfl Try.isAgg3 rfl rfl) rfl ?_
        refine TL.q rfl (.g rfl rfl rfl) (Ex.ft ft_cursitorref20_ok rfl) rfl ?_
        refine TL.q rfl (.g rfl rfl rfl) (Ex.b1 0 rfl Try.isAgg3 rfl rfl) rfl ?_
        refine TL.q rfl (.g rfl rfl rfl) (Ex.ft ft_cursitorref20_ok rfl) rfl ?_
        refine TL.q rfl .u (Ex.pn rfl rfl rfl) rfl ?_
        by_cases c15 : a0.fAcks = a1.fAcks
        · replace h := ifT c15 h
          refine TL.run ft_cursitorref20_ok [12] rfl rfl ?_
          refine TL.q rfl (.g rfl rfl (bn_f (decide_eq_true c15))) (Ex.ft ft_cursitorref20_ok rfl) rfl ?_
          refine TL.q rfl (.g rfl rfl (bn_f (decide_eq_true c15))) (Ex.b1 1 rfl Try.isAgg3 rfl rfl) rfl ?_
          refine TL.q rfl (.g rfl rfl (bn_f (decide_eq_true c15))) (Ex.ft ft_cursitorref20_ok rfl) rfl ?_
          refine TL.q rfl (.g rfl rfl (bn_f (decide_eq_true c15))) (Ex.b1 0 rfl Try.isAgg3 rfl rfl) rfl ?_
          refine TL.q rfl (.g rfl rfl (bn_f (decide_eq_true c15))) (Ex.ft ft_cursitorref20_ok rfl) rfl ?_
          refine TL.q rfl .u (Ex.pn rfl (bn_f (decide_eq_true c15)) rfl) rfl ?_
          by_cases c16 : a0.fTimeout = a1.fTimeout
          · replace h := ifT c16 h
            refine TL.run ft_cursitorref20_ok [19] rfl rfl ?_
            refine TL.q rfl (.g rfl rfl (bn_f (decide_eq_true c16))) (Ex.ft ft_cursitorref20_ok rfl) rfl ?_
            refine TL.q rfl (.g rfl rfl (bn_f (decide_eq_true c16))) (Ex.b1 1 rfl Try.isAgg69 rfl rfl) rfl ?_
            refine TL.q rfl (.g rfl rfl (bn_f (decide_eq_true c16))) (Ex.lenS rfl Try.runUnderlying69) rfl ?_
            refine TL.q rfl (.g rfl rfl (bn_f (decide_eq_true c16))) (Ex.ft ft_cursitorref20_ok rfl) rfl ?_
            refine TL.q rfl (.g rfl rfl (bn_f (decide_eq_true c16))) (Ex.b1 0 rfl Try.isAgg69 rfl rfl) rfl ?_
            refine TL.q rfl (.g rfl rfl (bn_f (decide_eq_true c16))) (Ex.lenS rfl Try.runUnderlying69) rfl ?_
            refine TL.q rfl (.g rfl rfl (bn_f (decide_eq_true c16))) (Ex.ft ft_cursitorref20_ok rfl) rfl ?_
            refine TL.q rfl .u (Ex.pn rfl (bn_f (decide_eq_true c16)) rfl) rfl ?_
            by_cases c17 : (a0.fTopics.length : Int) = (a1.fTopics.length : Int)
            · replace h := ifT c17 h
              cases h
              exact TL.nil (X.as (d := 36) (v' := .bool false) rfl (congrArg Value.bool (bn_f (decide_eq_true c17))) (X.jq [0, 0, 0] ⟨rfl, rfl⟩ (by rfl) (by rfl)))
            · replace h := ifF c17 h
              cases h
              exact TL.nil (X.as (d := 36) (v' := .bool true) rfl (congrArg Value.bool (bn_t (decide_eq_false c17))) (X.jq [0, 0, 0] ⟨rfl, rfl⟩ (by rfl) (by rfl)))
          · replace h := ifF c16 h
            refine TL.run ft_cursitorref20_ok [19] rfl rfl ?_
            refine TL.no rfl (.gn rfl rfl (bn_t (decide_eq_false c16))) rfl ?_
            refine TL.no rfl (.gn rfl rfl (bn_t (decide_eq_false c16))) rfl ?_
            refine TL.no rfl (.gn rfl rfl (bn_t (decide_eq_false c16))) rfl ?_
            refine TL.no rfl (.gn rfl rfl (bn_t (decide_eq_false c16))) rfl ?_
            refine TL.no rfl (.gn rfl rfl (bn_t (decide_eq_false c16))) rfl ?_
            refine TL.no rfl (.gn rfl rfl (bn_t (decide_eq_false c16))) rfl ?_
            refine TL.no rfl (.gn rfl rfl (bn_t (decide_eq_false c16))) rfl ?_
            refine TL.q rfl .u (Ex.py rfl (bn_t (decide_eq_false c16)) rfl) rfl ?_
            cases h
            exact TL.nil (X.jq [0, 0, 0] ⟨rfl, rfl⟩ (by rfl) (by rfl))
        · replace h := ifF c15 h
          refine TL.run ft_cursitorref20_ok [12] rfl rfl ?_
          refine TL.no rfl (.gn rfl rfl (bn_t (decide_eq_false c15))) rfl ?_
          refine TL.no rfl (.gn rfl rfl (bn_t (decide_eq_false c15))) rfl ?_
          refine TL.no rfl (.gn rfl rfl (bn_t (decide_eq_false c15))) rfl ?_
          refine TL.no rfl (.gn rfl rfl (bn_t (decide_eq_false c15))) rfl ?_
          refine TL.no rfl (.gn rfl rfl (bn_t (decide_eq_false c15))) rfl ?_
          refine TL.q rfl .u (Ex.py rfl (bn_t (decide_eq_false c15)) rfl) rfl ?_
          refine TL.run ft_cursitorref20_ok [19] rfl rfl ?_
          refine TL.no rfl (.gn rfl rfl rfl) rfl ?_
          refine TL.no rfl (.gn rfl rfl rfl) rfl ?_
          refine TL.no rfl (.gn rfl rfl rfl) rfl ?_
          refine TL.no rfl (.gn rfl rfl rfl) rfl ?_
          refine TL.no rfl (.gn rfl rfl rfl) rfl ?_
          refine TL.no rfl (.gn rfl rfl rfl) rfl ?_
          refine TL.no rfl (.gn rfl rfl rfl) rfl ?_
          refine TL.q rfl .u (Ex.py rfl rfl rfl) rfl ?_
          cases h
          exact TL.nil (X.jq [0, 0, 0] ⟨rfl, rfl⟩ (by rfl) (by rfl))
      · replace h := ifF c14 h
        refine TL.q rfl .u (Ex.aNe (us := [.bool a0.fID.null, .string (bsOf a0.fID.data)]) (vs := [.bool a1.fID.null, .string (bsOf a1.fID.data)]) flat_cursitorref20_30 rfl Try.eqGuardType30 rfl rfl rfl rfl (eqL_t (eqV_b c13) (eqL_f (eqV_sn (l := a0.fID.data) (m := a1.fID.data) c14)))) rfl ?_
        refine TL.run ft_cursitorref20_ok [5] rfl rfl ?_
        refine TL.no rfl (.gn rfl rfl rfl) rfl ?_
        refine TL.no rfl (.gn rfl rfl rfl) rfl ?_
        refine TL.no rfl (.gn rfl rfl rfl) rfl ?_
        refine TL.no rfl (.gn rfl rfl rfl) rfl ?_
        refine TL.no rfl (.gn rfl rfl rfl) rfl ?_
        refine TL.q rfl .u (Ex.py rfl rfl rfl) rfl ?_
        refine TL.run ft_cursitorref20_ok [12] rfl rfl ?_
        refine TL.no rfl (.gn rfl rfl rfl) rfl ?_
        refine TL.no rfl (.gn rfl rfl rfl) rfl ?_
        refine TL.no rfl (.gn rfl rfl rfl) rfl ?_
        refine TL.no rfl (.gn rfl rfl rfl) rfl ?_
        refine TL.no rfl (.gn rfl rfl rfl) rfl ?_
        refine TL.q rfl .u (Ex.py rfl rfl rfl) rfl ?_
        refine TL.run ft_cursitorref20_ok [19] rfl rfl ?_
        refine TL.no rfl (.gn rfl rfl rfl) rfl ?_
        refine TL.no rfl (.gn rfl rfl rfl) rfl ?_
        refine TL.no rfl (.gn rfl rfl rfl) rfl ?_
        refine TL.no rfl (.gn rfl rfl rfl) rfl ?_
        refine TL.no rfl (.gn rfl rfl rfl) rfl ?_
        refine TL.no rfl (.gn rfl rfl rfl) rfl ?_
        refine TL.no rfl (.gn rfl rfl rfl) rfl ?_
        refine TL.q rfl .u (Ex.py rfl rfl rfl) rfl ?_
        cases h
        exact TL.nil (X.jq [0, 0, 0] ⟨rfl, rfl⟩ (by rfl) (by rfl))
    · replace h := ifF c13 h
      refine TL.q rfl .u (Ex.aNe (us := [.bool a0.fID.null, .string (bsOf a0.fID.data)]) (vs := [.bool a1.fID.null, .string (bsOf a1.fID.data)]) flat_cursitorref20_30 rfl Try.eqGuardType30 rfl rfl rfl rfl (eqL_f (eqV_bn c13))) rfl ?_
      refine TL.run ft_cursitorref20_ok [5] rfl rfl ?_
      refine TL.no rfl (.gn rfl rfl rfl) rfl ?_
      refine TL.no rfl (.gn rfl rfl rfl) rfl ?_
      refine TL.no rfl (.gn rfl rfl rfl) rfl ?_
      refine TL.no rfl (.gn rfl rfl rfl) rfl ?_
      refine TL.no rfl (.gn rfl rfl rfl) rfl ?_
      refine TL.q rfl .u (Ex.py rfl rfl rfl) rfl ?_
      refine TL.run ft_cursitorref20_ok [12] rfl rfl ?_
      refine TL.no rfl (.gn rfl rfl rfl) rfl ?_
      refine TL.no rfl (.gn rfl rfl rfl) rfl ?_
      refine TL.no rfl (.gn rfl rfl rfl) rfl ?_
      refine TL.no rfl (.gn rfl rfl rfl) rfl ?_
      refine TL.no rfl (.gn rfl rfl rfl) rfl ?_
      refine TL.q rfl .u (Ex.py rfl rfl rfl) rfl ?_
      refine TL.run ft_cursitorref20_ok [19] rfl rfl ?_
      refine TL.no rfl (.gn rfl rfl rfl) rfl ?_
      refine TL.no rfl (.gn rfl rfl rfl) rfl ?_
      refine TL.no rfl (.gn rfl rfl rfl) rfl ?_
      refine TL.no rfl (.gn rfl rfl rfl) rfl ?_
      refine TL.no rfl (.gn rfl rfl rfl) rfl ?_
      refine TL.no rfl (.gn rfl rfl rfl) rfl ?_
      refine TL.no rfl (.gn rfl rfl rfl) rfl ?_
      refine TL.q rfl .u (Ex.py rfl rfl rfl) rfl ?_
      cases h
      exact TL.nil (X.jq [0, 0, 0] ⟨rfl, rfl⟩ (by rfl) (by rfl))
  · rintro _ _ ⟨rfl, rfl⟩
    clear h
    have h := hk12
    clear hk12
    try dsimp only at h
    by_cases c18 : y11 = true
    · replace h := ifT c18 h
      refine X.seq ?_
      refine T.yes rfl c18 ?_
      refine T.seq (T.region rfl ?_)
      refine TL.run ft_cursitorref20_ok [0] rfl rfl ?_
      obtain rfl := Option.some.inj h
      exact TL.nil (X.seq (T.ret (X.rs (X.done1 [2] Try.results30 (RV.tm rfl) ⟨rfl, rfl, rfl⟩ (by rfl) (.inl rfl)))))
    · replace h := ifF c18 h
      replace c18 := eq_false_of_ne_true c18
      refine X.seq ?_
      refine T.no rfl c18 ?_
      refine T.skip (X.seq (T.seq (T.seq (T.region rfl ?_))))
      refine TL.run ft_cursitorref20_ok [0] rfl rfl ?_
      refine TL.nil (X.seq (T.block ?_))
      obtain ⟨E21, hE22, hO23⟩ := Option.bind_eq_some_iff.1 h
      refine T.lp (fun m e Rs => ∃ (y19 : Bool) (k20 : Nat), e = [(2, .pointer (some ⟨b5, 0, none⟩)), (3, .pointer (some ⟨b6, 0, none⟩)), (4, .bool y19), (5, .int .i64 (k20 : Int))] ∧ Rs = [BlkR b6 71 #[.bool a1.fID.null, .string (bsOf a1.fID.data), .int .i64 a1.fAcks, .int .i64 a1.fTimeout, .slice A3 a1.fTopics.length c4], BlkR b5 71 #[.bool a0.fID.null, .string (bsOf a0.fID.data), .int .i64 a0.fAcks, .int .i64 a0.fTimeout, .slice A1 a0.fTopics.length c2], EmpR] ∧ f_r20_Same_l1 a0 a1 m y19 k20 = some E21) (((a0.fTopics.length : Int)).toNat + 1) [0, 0, 0] ⟨false, 0, rfl, rfl, by exact hE22⟩ (by rfl) (by rfl) ?_
      rintro m24 _ _ ⟨y19, k20, rfl, rfl, hl26⟩
      clear hE22 h
      cases m24 with
      | zero =>
        rw [f_r20_Same_l1_z] at hl26
        cases hl26
      | succ m24 =>
        have h := hl26
        clear hl26
        rw [f_r20_Same_l1_s] at h
        refine T.seq (T.seq (T.region rfl ?_))
        refine TL.run ft_cursitorref20_ok [0, 1] rfl rfl ?_
        refine TL.q rfl .u (Ex.b1 1 rfl Try.isAgg69 rfl rfl) rfl ?_
        refine TL.q rfl .u (Ex.lenS rfl Try.runUnderlying69) rfl ?_
        refine TL.run ft_cursitorref20_ok [4] rfl rfl ?_
        by_cases c28 : (k20 : Int) < (a0.fTopics.length : Int)
        · replace h := ifT c28 h
          refine TL.nil (X.seq ?_)
          refine T.yes rfl (decide_eq_true c28) ?_
          refine T.skip (X.seq (T.seq (T.block (T.seq (T.region rfl ?_)))))
          refine TL.run ft_cursitorref20_ok [0] rfl rfl ?_
          refine TL.q rfl .u (Ex.b1 1 rfl Try.isAgg69 rfl rfl) rfl ?_
          obtain ⟨x29, hx30, h⟩ := Option.bind_eq_some_iff.1 h
          obtain ⟨gz31, oz31, rfl, z31cs, z31cl, z31cc, z31nf, z31r⟩ := RX.elem (by decide) (RX.reads_left hX) hx30
          obtain ⟨z31S, z31r, z31rr⟩ := z31r
          obtain ⟨A32, c33, rfl, z31s0⟩ := z31r
          have hX34 : (RX.of (sliceRd 2 R20Part_rd) [.slice A32 x29.fParts.length c33] x29.fParts).reads w F := ⟨z31S, z31s0, z31rr⟩
          refine TL.run ft_cursitorref20_ok [2] rfl rfl ?_
          refine TL.q rfl .u (Ex.ixS (k := k20) rfl rfl rfl Try.runUnderlying69 Try.sizeOf129 (List.getElem?_eq_some_iff.1 hx30).1) rfl ?_
          refine TL.q rfl .u (Ex.oS (us := [.string (bsOf x29.fName), .slice A32 x29.fParts.length c33]) 0 rfl Try.isAgg129 Try.sizeOf129 z31nf z31cc rfl rfl rfl) rfl ?_
          refine TL.alloc rfl .u Try.zeroValue129 rfl (fun b35 => ?_)
          refine TL.st0 (cs' := #[.string (bsOf x29.fName), .slice A32 x29.fParts.length c33]) rfl .u rfl rfl Try.sizeOf129 rfl rfl rfl rfl ?_
          refine TL.nil (X.seq (T.seq (T.region rfl ?_)))
          refine TL.run ft_cursitorref20_ok [0] rfl rfl ?_
          refine TL.q rfl .u (Ex.b1 1 rfl Try.isAgg69 rfl rfl) rfl ?_
          obtain ⟨x36, hx37, h⟩ := Option.bind_eq_some_iff.1 h
          obtain ⟨gz38, oz38, rfl, z38cs, z38cl, z38cc, z38nf, z38r⟩ := RX.elem (by decide) (RX.reads_right hX) hx37
          obtain ⟨z38S, z38r, z38rr⟩ := z38r
          obtain ⟨A39, c40, rfl, z38s0⟩ := z38r
          have hX41 : (RX.of (sliceRd 2 R20Part_rd) [.slice A39 x36.fParts.length c40] x36.fParts).reads w F := ⟨z38S, z38s0, z38rr⟩
          refine TL.run ft_cursitorref20_ok [2] rfl rfl ?_
          refine TL.q rfl .u (Ex.ixS (k := k20) rfl rfl rfl Try.runUnderlying69 Try.sizeOf129 (List.getElem?_eq_some_iff.1 hx37).1) rfl ?_
          refine TL.q rfl .u (Ex.oS (us := [.string (bsOf x36.fName), .slice A39 x36.fParts.length c40]) 0 rfl Try.isAgg129 Try.sizeOf129 z38nf z38cc rfl rfl rfl) rfl ?_
          refine TL.alloc rfl .u Try.zeroValue129 rfl (fun b42 => ?_)
          refine TL.st0 (cs' := #[.string (bsOf x36.fName), .slice A39 x36.fParts.length c40]) rfl .u rfl rfl Try.sizeOf129 rfl rfl rfl rfl ?_
          refine TL.nil (X.seq (T.seq (T.seq ?_)))
          obtain ⟨y44, h, hk45⟩ := Option.bind_eq_some_iff.1 h
          refine T.jq (fun e Rs => e = [(2, .pointer (some ⟨b5, 0, none⟩)), (3, .pointer (some ⟨b6, 0, none⟩)), (4, .bool y19), (5, .int .i64 (k20 : Int)), (6, .pointer (some ⟨b35, 0, none⟩)), (7, .pointer (some ⟨b42, 0, none⟩)), (67, .bool y44)] ∧ Rs = [BlkR b42 129 #[.string (bsOf x36.fName), .slice A39 x36.fParts.length c40], BlkR b35 129 #[.string (bsOf x29.fName), .slice A32 x29.fParts.length c33], BlkR b6 71 #[.bool a1.fID.null, .string (bsOf a1.fID.data), .int .i64 a1.fAcks, .int .i64 a1.fTimeout, .slice (some ⟨gz38, oz38, none⟩) a1.fTopics.length c4], BlkR b5 71 #[.bool a0.fID.null, .string (bsOf a0.fID.data), .int .i64 a0.fAcks, .int .i64 a0.fTimeout, .slice (some ⟨gz31, oz31, none⟩) a0.fTopics.length c2], EmpR]) ?_ ?_
          · clear hk45
            refine T.region rfl ?_
            refine TL.run ft_cursitorref20_ok [0] rfl rfl ?_
            refine TL.q rfl .u (Ex.b1 1 rfl Try.isAgg9 rfl rfl) rfl ?_
            refine TL.run ft_cursitorref20_ok [2] rfl rfl ?_
            refine TL.q rfl .u (Ex.b1 0 rfl Try.isAgg9 rfl rfl) rfl ?_
            refine TL.q rfl .u (Ex.sNe rfl rfl) rfl ?_
            by_cases c46 : x29.fName = x36.fName
            · replace h := ifT c46 h
              refine TL.run ft_cursitorref20_ok [5] rfl rfl ?_
              refine TL.q rfl (.g rfl rfl (bn_f (decide_eq_true c46))) (Ex.ft ft_cursitorref20_ok rfl) rfl ?_
              refine TL.q rfl (.g rfl rfl (bn_f (decide_eq_true c46))) (Ex.b1 1 rfl Try.isAgg127 rfl rfl) rfl ?_
              refine TL.q rfl (.g rfl rfl (bn_f (decide_eq_true c46))) (Ex.lenS rfl Try.runUnderlying127) rfl ?_
              refine TL.q rfl (.g rfl rfl (bn_f (decide_eq_true c46))) (Ex.ft ft_cursitorref20_ok rfl) rfl ?_
              refine TL.q rfl (.g rfl rfl (bn_f (decide_eq_true c46))) (Ex.b1 0 rfl Try.isAgg127 rfl rfl) rfl ?_
              refine TL.q rfl (.g rfl rfl (bn_f (decide_eq_true c46))) (Ex.lenS rfl Try.runUnderlying127) rfl ?_
              refine TL.q rfl (.g rfl rfl (bn_f (decide_eq_true c46))) (Ex.ft ft_cursitorref20_ok rfl) rfl ?_
              refine TL.q rfl .u (Ex.pn rfl (bn_f (decide_eq_true c46)) rfl) rfl ?_
              by_cases c47 : (x29.fParts.length : Int) = (x36.fParts.length : Int)
              · replace h := ifT c47 h
                cases h
                exact TL.nil (X.as (d := 67) (v' := .bool false) rfl (congrArg Value.bool (bn_f (decide_eq_true c47))) (X.jq [0, 0, 0, 0, 0] ⟨rfl, rfl⟩ (by rfl) (by rfl)))
              · replace h := ifF c47 h
                cases h
                exact TL.nil (X.as (d := 67) (v' := .bool true) rfl (congrArg Value.bool (bn_t (decide_eq_false c47))) (X.jq [0, 0, 0, 0, 0] ⟨rfl, rfl⟩ (by rfl) (by rfl)))
            · replace h := ifF c46 h
              refine TL.run ft_cursitorref20_ok [5] rfl rfl ?_
              refine TL.no rfl (.gn rfl rfl (bn_t (decide_eq_false c46))) rfl ?_
              refine TL.no rfl (.gn rfl rfl (bn_t (decide_eq_false c46))) rfl ?_
              refine TL.no rfl (.gn rfl rfl (bn_t (decide_eq_false c46))) rfl ?_
              refine TL.no rfl (.gn rfl rfl (bn_t (decide_eq_false c46))) rfl ?_
              refine TL.no rfl (.gn rfl rfl (bn_t (decide_eq_false c46))) rfl ?_
              refine TL.no rfl (.gn rfl rfl (bn_t (decide_eq_false c46))) rfl ?_
              refine TL.no rfl (.gn rfl rfl (bn_t (decide_eq_false c46))) rfl ?_
              refine TL.q rfl .u (Ex.py rfl (bn_t (decide_eq_false c46)) rfl) rfl ?_
              cases h
              exact TL.nil (X.jq [0, 0, 0, 0, 0] ⟨rfl, rfl⟩ (by rfl) (by rfl))
          · rintro _ _ ⟨rfl, rfl⟩
            clear h
            have h := hk45
            clear hk45
            try dsimp only at h
            by_cases c48 : y44 = true
            · replace h := ifT c48 h
              refine X.seq ?_
              refine T.yes rfl c48 ?_
              refine T.seq (T.region rfl ?_)
              refine TL.run ft_cursitorref20_ok [0] rfl rfl ?_
              obtain rfl := Option.some.inj h
              replace h := hO23
              clear hO23
              try dsimp only at h
              obtain rfl := Option.some.inj h
              exact TL.nil (X.seq (T.ret (X.rs (X.rb (X.rs (X.rs (X.rb (X.rs (X.done1 [4] Try.results30 (RV.tm rfl) ⟨rfl, rfl, rfl⟩ (by rfl) (.inl rfl))))))))))
            · replace h := ifF c48 h
              replace c48 := eq_false_of_ne_true c48
              refine X.seq ?_
              refine T.no rfl c48 ?_
              refine T.skip (X.seq (T.seq (T.region rfl ?_)))
              refine TL.run ft_cursitorref20_ok [0] rfl rfl ?_
              refine TL.nil (X.seq (T.block ?_))
              obtain ⟨E51, hE52, hO53⟩ := Option.bind_eq_some_iff.1 h
              refine T.lp (fun m e Rs => ∃ (y49 : Bool) (k50 : Nat), e = [(2, .pointer (some ⟨b5, 0, none⟩)), (3, .pointer (some ⟨b6, 0, none⟩)), (4, .bool y49), (5, .int .i64 (k20 : Int)), (6, .pointer (some ⟨b35, 0, none⟩)), (7, .pointer (some ⟨b42, 0, none⟩)), (8, .int .i64 (k50 : Int))] ∧ Rs = [BlkR b42 129 #[.string (bsOf x36.fName), .slice A39 x36.fParts.length c40], BlkR b35 129 #[.string (bsOf x29.fName), .slice A32 x29.fParts.length c33], BlkR b6 71 #[.bool a1.fID.null, .string (bsOf a1.fID.data), .int .i64 a1.fAcks, .int .i64 a1.fTimeout, .slice (some ⟨gz38, oz38, none⟩) a1.fTopics.length c4], BlkR b5 71 #[.bool a0.fID.null, .string (bsOf a0.fID.data), .int .i64 a0.fAcks, .int .i64 a0.fTimeout, .slice (some ⟨gz31, oz31, none⟩) a0.fTopics.length c2], EmpR] ∧ f_r20_Same_l2 x29 x36 m y49 k50 = some E51) (((x29.fParts.length : Int)).toNat + 1) [0, 0, 0, 0, 0] ⟨y19, 0, rfl, rfl, by exact hE52⟩ (by rfl) (by rfl) ?_
              rintro m54 _ _ ⟨y49, k50, rfl, rfl, hl56⟩
              clear hE52 h
              cases m54 with
              | zero =>
                rw [f_r20_Same_l2] at hl56
                cases hl56
              | succ m54 =>
                have h := hl56
                clear hl56
                rw [f_r20_Same_l2] at h
                refine T.seq (T.seq (T.region rfl ?_))
                refine TL.run ft_cursitorref20_ok [0, 1] rfl rfl ?_
                refine TL.q rfl .u (Ex.b1 1 rfl Try.isAgg127 rfl rfl) rfl ?_
                refine TL.q rfl .u (Ex.lenS rfl Try.runUnderlying127) rfl ?_
                refine TL.run ft_cursitorref20_ok [4] rfl rfl ?_
                by_cases c58 : (k50 : Int) < (x29.fParts.length : Int)
                · replace h := ifT c58 h
                  refine TL.nil (X.seq ?_)
                  refine T.yes rfl (decide_eq_true c58) ?_
                  refine T.skip (X.seq (T.seq (T.block (T.seq ?_))))
                  obtain ⟨y74, h, hk75⟩ := Option.bind_eq_some_iff.1 h
                  refine T.jq (fun e Rs => e = [(2, .pointer (some ⟨b5, 0, none⟩)), (3, .pointer (some ⟨b6, 0, none⟩)), (4, .bool y49), (5, .int .i64 (k20 : Int)), (6, .pointer (some ⟨b35, 0, none⟩)), (7, .pointer (some ⟨b42, 0, none⟩)), (8, .int .i64 (k50 : Int)), (103, .bool y74)] ∧ Rs = [BlkR b42 129 #[.string (bsOf x36.fName), .slice A39 x36.fParts.length c40], BlkR b35 129 #[.string (bsOf x29.fName), .slice A32 x29.fParts.length c33], BlkR b6 71 #[.bool a1.fID.null, .string (bsOf a1.fID.data), .int .i64 a1.fAcks, .int .i64 a1.fTimeout, .slice (some ⟨gz38, oz38, none⟩) a1.fTopics.length c4], BlkR b5 71 #[.bool a0.fID.null, .string (bsOf a0.fID.data), .int .i64 a0.fAcks, .int .i64 a0.fTimeout, .slice (some ⟨gz31, oz31, none⟩) a0.fTopics.length c2], EmpR]) ?_ ?_
                  · clear hk75
                    refine T.draw (.q 0 (.q 1 (.q 2 (.q 3 (.q 4 (.q 5 (.q 6 (.q 7 (.q 8 (.q 9 (.q 10 (.q 11 (.q 12 (.q 13 (.q 14 (.q 15 (.q 16 (.q 17 (.q 18 (.q 19 (.q 20 (.q 21 (.q 22 (.q 23 (.q 24 (.q 25 (.e 26 (.q 27 (.q 28 .nil))))))))))))))))))))))))))))) [0, 0, 0, 0, 0] rfl mix_cursitorref20 (NoP.seq (NoP.seq (NoP.blk (NoP.seq (NoP.seq (NoP.blk (NoP.blk (NoP.seq (NoP.seq (NoP.blk (NoP.seq np_post))))))))))) (by kernel_rfl) ?_
                    refine TD.run ft_cursitorref20_ok [0] rfl rfl ?_
                    refine TD.q rfl .u (Ex.b1 1 rfl Try.isAgg127 rfl rfl) rfl ?_
                    obtain ⟨x76, hx77, h⟩ := Option.bind_eq_some_iff.1 h
                    obtain ⟨gz78, oz78, rfl, z78cs, z78cl, z78cc, z78nf, z78r⟩ := RX.elem (by decide) hX34 hx77
                    obtain ⟨z78S, z78r, z78rr⟩ := z78r
                    obtain ⟨A79, c80, rfl, z78s0⟩ := z78r
                    have hX81 : (RX.of (sliceRd 12 Bat_rd) [.slice A79 x76.fBatches.length c80] x76.fBatches).reads w F := ⟨z78S, z78s0, z78rr⟩
                    refine TD.run ft_cursitorref20_ok [2] rfl rfl ?_
                    refine TD.q rfl .u (Ex.ixS (k := k50) rfl rfl rfl Try.runUnderlying127 Try.sizeOf130 (List.getElem?_eq_some_iff.1 hx77).1) rfl ?_
                    refine TD.run ft_cursitorref20_ok [4] rfl rfl ?_
                    refine TD.q rfl .u (Ex.o1 0 rfl Try.isAgg3 z78nf z78cc rfl rfl) rfl ?_
                    refine TD.run ft_cursitorref20_ok [6] rfl rfl ?_
                    refine TD.q rfl .u (Ex.b1 0 rfl Try.isAgg127 rfl rfl) rfl ?_
                    obtain ⟨x82, hx83, h⟩ := Option.bind_eq_some_iff.1 h
                    obtain ⟨gz84, oz84, rfl, z84cs, z84cl, z84cc, z84nf, z84r⟩ := RX.elem (by decide) hX41 hx83
                    obtain ⟨z84S, z84r, z84rr⟩ := z84r
                    obtain ⟨A85, c86, rfl, z84s0⟩ := z84r
                    have hX87 : (RX.of (sliceRd 12 Bat_rd) [.slice A85 x82.fBatches.length c86] x82.fBatches).reads w F := ⟨z84S, z84s0, z84rr⟩
                    refine TD.run ft_cursitorref20_ok [8] rfl rfl ?_
                    refine TD.q rfl .u (Ex.ixS (k := k50) rfl rfl rfl Try.runUnderlying127 Try.sizeOf130 (List.getElem?_eq_some_iff.1 hx83).1) rfl ?_
                    refine TD.run ft_cursitorref20_ok [10] rfl rfl ?_
                    refine TD.q rfl .u (Ex.o1 0 rfl Try.isAgg3 z84nf z84cc rfl rfl) rfl ?_
                    by_cases c88 : x76.fIndex = x82.fIndex
                    · replace h := ifT c88 h
                      refine TD.run ft_cursitorref20_ok [12, 13] rfl rfl ?_
                      refine TD.q rfl (.g rfl rfl (bn_f (decide_eq_true c88))) (Ex.ft ft_cursitorref20_ok rfl) rfl ?_
                      refine TD.q rfl (.g rfl rfl (bn_f (decide_eq_true c88))) (Ex.b1 1 rfl Try.isAgg127 rfl rfl) rfl ?_
                      refine TD.q rfl (.g rfl rfl (bn_f (decide_eq_true c88))) (Ex.ft ft_cursitorref20_ok rfl) rfl ?_
                      refine TD.q rfl (.g rfl rfl (bn_f (decide_eq_true c88))) (Ex.ixS (k := k50) rfl rfl rfl Try.runUnderlying127 Try.sizeOf130 (List.getElem?_eq_some_iff.1 hx77).1) rfl ?_
                      refine TD.q rfl (.g rfl rfl (bn_f (decide_eq_true c88))) (Ex.ft ft_cursitorref20_ok rfl) rfl ?_
                      refine TD.q rfl (.g rfl rfl (bn_f (decide_eq_true c88))) (Ex.o1 1 rfl Try.isAgg46 z78nf z78cc rfl rfl) rfl ?_
                      refine TD.q rfl (.g rfl rfl (bn_f (decide_eq_true c88))) (Ex.ft ft_cursitorref20_ok rfl) rfl ?_
                      refine TD.q rfl (.g rfl rfl (bn_f (decide_eq_true c88))) (Ex.b1 0 rfl Try.isAgg127 rfl rfl) rfl ?_
                      refine TD.q rfl (.g rfl rfl (bn_f (decide_eq_true c88))) (Ex.ft ft_cursitorref20_ok rfl) rfl ?_
                      refine TD.q rfl (.g rfl rfl (bn_f (decide_eq_true c88))) (Ex.ixS (k := k50) rfl rfl rfl Try.runUnderlying127 Try.sizeOf130 (List.getElem?_eq_some_iff.1 hx83).1) rfl ?_
                      refine TD.q rfl (.g rfl rfl (bn_f (decide_eq_true c88))) (Ex.ft ft_cursitorref20_ok rfl) rfl ?_
                      refine TD.q rfl (.g rfl rfl (bn_f (decide_eq_true c88))) (Ex.o1 1 rfl Try.isAgg46 z84nf z84cc rfl rfl) rfl ?_
                      obtain ⟨x89, hx90, h⟩ := Option.bind_eq_some_iff.1 h
                      refine TD.ce rfl (.g rfl rfl (bn_f (decide_eq_true c88))) (.fn Try.call69 rfl) (f_r11_Rows_spec x76.fBatches _ _ x82.fBatches _ _ _ hx90) (fun _ hs => (RX.reads_and (SrcE.old hs hX81) (SrcE.old hs hX87))) rfl [0, 0, 0, 0, 0] (rfl) ?_
                      refine TD.q rfl (.g rfl rfl (bn_f (decide_eq_true c88))) (Ex.ft ft_cursitorref20_ok rfl) rfl ?_
                      refine TD.q rfl .u (Ex.pn rfl (bn_f (decide_eq_true c88)) rfl) rfl ?_
                      by_cases c91 : x89 = true
                      · replace h := ifT c91 h
                        cases h
                        exact TD.nil (X.as (d := 103) (v' := .bool false) rfl (congrArg Value.bool (bn_f c91)) (X.jq [0, 0, 0, 0, 0] ⟨rfl, rfl⟩ (by rfl) (by rfl)))
                      · replace h := ifF c91 h
                        replace c91 := eq_false_of_ne_true c91
                        cases h
                        exact TD.nil (X.as (d := 103) (v' := .bool true) rfl (congrArg Value.bool (bn_t c91)) (X.jq [0, 0, 0, 0, 0] ⟨rfl, rfl⟩ (by rfl) (by rfl)))
                    · replace h := ifF c88 h
                      refine TD.run ft_cursitorref20_ok [12, 13] rfl rfl ?_
                      refine TD.no rfl (.gn rfl rfl (bn_t (decide_eq_false c88))) rfl ?_
                      refine TD.no rfl (.gn rfl rfl (bn_t (decide_eq_false c88))) rfl ?_
                      refine TD.no rfl (.gn rfl rfl (bn_t (decide_eq_false c88))) rfl ?_
                      refine TD.no rfl (.gn rfl rfl (bn_t (decide_eq_false c88))) rfl ?_
                      refine TD.no rfl (.gn rfl rfl (bn_t (decide_eq_false c88))) rfl ?_
                      refine TD.no rfl (.gn rfl rfl (bn_t (decide_eq_false c88))) rfl ?_
                      refine TD.no rfl (.gn rfl rfl (bn_t (decide_eq_false c88))) rfl ?_
                      refine TD.no rfl (.gn rfl rfl (bn_t (decide_eq_false c88))) rfl ?_
                      refine TD.no rfl (.gn rfl rfl (bn_t (decide_eq_false c88))) rfl ?_
                      refine TD.no rfl (.gn rfl rfl (bn_t (decide_eq_false c88))) rfl ?_
                      refine TD.no rfl (.gn rfl rfl (bn_t (decide_eq_false c88))) rfl ?_
                      refine TD.no rfl (.gn rfl rfl (bn_t (decide_eq_false c88))) rfl ?_
                      refine TD.noe rfl (.gn rfl rfl (bn_t (decide_eq_false c88))) rfl [0, 0, 0, 0, 0] rfl ?_
                      refine TD.no rfl (.gn rfl rfl (bn_t (decide_eq_false c88))) rfl ?_
                      refine TD.q rfl .u (Ex.py rfl (bn_t (decide_eq_false c88)) rfl) rfl ?_
                      cases h
                      exact TD.nil (X.jq [0, 0, 0, 0, 0] ⟨rfl, rfl⟩ (by rfl) (by rfl))
                  · rintro _ _ ⟨rfl, rfl⟩
                    clear h
                    have h := hk75
                    clear hk75
                    try dsimp only at h
                    by_cases c92 : y74 = true
                    · replace h := ifT c92 h
                      refine X.seq ?_
                      refine T.yes rfl c92 ?_
                      refine T.seq (T.region rfl ?_)
                      refine TL.run ft_cursitorref20_ok [0] rfl rfl ?_
                      obtain rfl := Option.some.inj h
                      replace h := hO53
                      clear hO53
                      try dsimp only at h
                      obtain rfl := Option.some.inj h
                      replace h := hO23
                      clear hO23
                      try dsimp only at h
                      obtain rfl := Option.some.inj h
                      exact TL.nil (X.seq (T.ret (X.rb (X.rs (X.rs (X.rb (X.rb (X.rs (X.rs (X.rb (X.rs (X.done1 [4] Try.results30 (RV.tm rfl) ⟨rfl, rfl, rfl⟩ (by rfl) (.inl rfl)))))))))))))
                    · replace h := ifF c92 h
                      replace c92 := eq_false_of_ne_true c92
                      refine X.seq ?_
                      refine T.no rfl c92 ?_
                      refine T.skip (X.blk (X.seq (T.region rfl ?_)))
                      replace h := guard_some h
                      obtain ⟨c93, h⟩ := h
                      refine TL.run ft_cursitorref20_ok [0] rfl rfl ?_
                      refine TL.q rfl .u (Ex.add rfl rfl c93) rfl ?_
                      refine TL.run ft_cursitorref20_ok [2] rfl rfl ?_
                      exact TL.nil (X.back (m' := m54) [0, 0, 0, 0, 0] (by omega) ⟨y49, k50 + 1, rfl, rfl, h⟩ (by rfl) (by rfl))
                · replace h := ifF c58 h
                  refine TL.nil (X.seq ?_)
                  refine T.no rfl (decide_eq_false c58) ?_
                  obtain rfl := Option.some.inj h
                  replace h := hO53
                  clear hO53
                  try dsimp only at h
                  refine T.exit (X.exs (X.exs (X.ex (X.blk (X.seq (T.region rfl ?_))))))
                  replace h := guard_some h
                  obtain ⟨c94, h⟩ := h
                  refine TL.run ft_cursitorref20_ok [0] rfl rfl ?_
                  refine TL.q rfl .u (Ex.add rfl rfl c94) rfl ?_
                  refine TL.run ft_cursitorref20_ok [2] rfl rfl ?_
                  exact TL.nil (X.back (m' := m24) [2, 2, 2] (by omega) ⟨y49, k20 + 1, rfl, rfl, h⟩ (by rfl) (by rfl))
        · replace h := ifF c28 h
          refine TL.nil (X.seq ?_)
          refine T.no rfl (decide_eq_false c28) ?_
          obtain rfl := Option.some.inj h
          replace h := hO23
          clear hO23
          try dsimp only at h
          refine T.exit (X.exs (X.exs (X.ex (X.seq (T.seq (T.region rfl ?_))))))
          refine TL.run ft_cursitorref20_ok [0] rfl rfl ?_
          obtain rfl := Option.some.inj h
          exact TL.nil (X.seq (T.ret (X.done1 [2] Try.results30 (RV.tm rfl) ⟨rfl, rfl, rfl⟩ (by rfl) (.inl rfl))))
end Go.Proofs.Ytcoppaggpbfcmaa.Sl
namespace Go.Proofs.Ytcoppaggpbfcmaa.Sl
open Go.RowKit
set_option linter.unusedVariables false
set_option linter.unusedSimpArgs false
set_option maxRecDepth 100000
def ft_cursitorlaw20 : FTab := [(25, 3, 3), (25, 4, 4), (30, 0, 0), (30, 1, 1), (65, 0, 0), (65, 1, 2), (65, 2, 3), (65, 3, 4), (71, 3, 4), (76, 0, 0), (76, 1, 1), (78, 1, 1), (129, 1, 1)]
theorem ft_cursitorlaw20_ok : (ft_cursitorlaw20).OK Try.prog := ⟨FOK.mk Try.runUnderlying25 rfl Try.sizeOf4 rfl, FOK.mk Try.runUnderlying25 rfl Try.sizeOf4 rfl, FOK.mk Try.runUnderlying30 rfl Try.sizeOf4 rfl, FOK.mk Try.runUnderlying30 rfl Try.sizeOf9 rfl, FOK.mk Try.runUnderlying65 rfl Try.sizeOf30 rfl, FOK.mk Try.runUnderlying65 rfl Try.sizeOf3 rfl, FOK.mk Try.runUnderlying65 rfl Try.sizeOf3 rfl, FOK.mk Try.runUnderlying65 rfl Try.sizeOf63 rfl, FOK.mk Try.runUnderlying71 rfl Try.sizeOf69 rfl, FOK.mk Try.runUnderlying76 rfl Try.sizeOf9 rfl, FOK.mk Try.runUnderlying76 rfl Try.sizeOf74 rfl, FOK.mk Try.runUnderlying78 rfl Try.sizeOf46 rfl, FOK.mk Try.runUnderlying129 rfl Try.sizeOf127 rfl, trivial⟩
theorem mix_cursitorlaw20 : Try.prog.follows .mixedOrders = true := by kernel_rfl
theorem bok_cursitorlaw20_25 : BOK Try.prog 25 #[.int .i64 0, .int .i64 0, .bool false, .bool false, .bool false, .int .i64 0, .int .i64 0, .int .i64 0, .int .i64 0, .int .i64 0, .int .i64 0, .slice none 0 0] [(0, 1), (1, 1), (2, 1), (3, 1), (4, 1), (5, 1), (6, 1), (7, 1), (8, 1), (9, 1), (10, 1), (11, 1)] := BOK.mk Try.zeroValue25 Try.runUnderlying25 (by intro w; simp)
theorem bok_cursitorlaw20_30 : BOK Try.prog 30 #[.bool false, .string ⟨#[]⟩] [(0, 1), (1, 1)] := BOK.mk Try.zeroValue30 Try.runUnderlying30 (by intro w; simp)
theorem bok_cursitorlaw20_65 : BOK Try.prog 65 #[.bool false, .string ⟨#[]⟩, .int .i64 0, .int .i64 0, .slice none 0 0] [(0, 2), (2, 1), (3, 1), (4, 1)] := BOK.mk Try.zeroValue65 Try.runUnderlying65 (by intro w; simp)
theorem bok_cursitorlaw20_71 : BOK Try.prog 71 #[.bool false, .string ⟨#[]⟩, .int .i64 0, .int .i64 0, .slice none 0 0] [(0, 2), (2, 1), (3, 1), (4, 1)] := BOK.mk Try.zeroValue71 Try.runUnderlying71 (by intro w; simp)
theorem bok_cursitorlaw20_76 : BOK Try.prog 76 #[.string ⟨#[]⟩, .slice none 0 0] [(0, 1), (1, 1)] := BOK.mk Try.zeroValue76 Try.runUnderlying76 (by intro w; simp)
theorem bok_cursitorlaw20_78 : BOK Try.prog 78 #[.int .i64 0, .slice none 0 0] [(0, 1), (1, 1)] := BOK.mk Try.zeroValue78 Try.runUnderlying78 (by intro w; simp)
theorem bok_cursitorlaw20_129 : BOK Try.prog 129 #[.string ⟨#[]⟩, .slice none 0 0] [(0, 1), (1, 1)] := BOK.mk Try.zeroValue129 Try.runUnderlying129 (by intro w; simp)
theorem sok_cursitorlaw20_46_1 : SOK Try.prog 46 25 1 12 #[.int .i64 0, .int .i64 0, .bool false, .bool false, .bool false, .int .i64 0, .int .i64 0, .int .i64 0, .int .i64 0, .int .i64 0, .int .i64 0, .slice none 0 0] := SOK.mk Try.runUnderlying46 Try.sizeOf25 Try.zeroValue25 (by decide) (by kernel_rfl)
theorem sok_cursitorlaw20_46_2 : SOK Try.prog 46 25 2 12 #[.int .i64 0, .int .i64 0, .bool false, .bool false, .bool false, .int .i64 0, .int .i64 0, .int .i64 0, .int .i64 0, .int .i64 0, .int .i64 0, .slice none 0 0, .int .i64 0, .int .i64 0, .bool false, .bool false, .bool false, .int .i64 0, .int .i64 0, .int .i64 0, .int .i64 0, .int .i64 0, .int .i64 0, .slice none 0 0] := SOK.mk Try.runUnderlying46 Try.sizeOf25 Try.zeroValue25 (by decide) (by kernel_rfl)
theorem sok_cursitorlaw20_63_1 : SOK Try.prog 63 76 1 2 #[.string ⟨#[]⟩, .slice none 0 0] := SOK.mk Try.runUnderlying63 Try.sizeOf76 Try.zeroValue76 (by decide) (by kernel_rfl)
theorem sok_cursitorlaw20_69_1 : SOK Try.prog 69 129 1 2 #[.string ⟨#[]⟩, .slice none 0 0] := SOK.mk Try.runUnderlying69 Try.sizeOf129 Try.zeroValue129 (by decide) (by kernel_rfl)
theorem sok_cursitorlaw20_74_1 : SOK Try.prog 74 78 1 2 #[.int .i64 0, .slice none 0 0] := SOK.mk Try.runUnderlying74 Try.sizeOf78 Try.zeroValue78 (by decide) (by kernel_rfl)
theorem sok_cursitorlaw20_127_1 : SOK Try.prog 127 130 1 2 #[.int .i64 0, .slice none 0 0] := SOK.mk Try.runUnderlying127 Try.sizeOf130 Try.zeroValue130 (by decide) (by kernel_rfl)
theorem inf_cursitorlaw20_129 : (Try.prog.info? 129).map (fun i => (i.zero, i.size, i.bytes)) = some (some (.agg #[.string ⟨#[]⟩, .slice none 0 0]), 2, 40) := by kernel_rfl
theorem inf_cursitorlaw20_130 : (Try.prog.info? 130).map (fun i => (i.zero, i.size, i.bytes)) = some (some (.agg #[.int .i64 0, .slice none 0 0]), 2, 32) := by kernel_rfl
def f_l20_nobody  : Option (Bat) := some (⟨0, 0, false, false, false, 0, 0, 0, -1, -1, -1, []⟩ : Bat)
set_option maxRecDepth 100000 in
set_option maxHeartbeats 4000000 in
theorem f_l20_nobody_spec  (r : Bat) (h : f_l20_nobody  = some r) : SpecX Try.prog 66 #[] .triv (EmpR) (fun v A' N => ∃ (A2 : Option Addr) (c3 : Nat), v = .agg #[.int .i64 r.fBase, .int .i64 r.fLeader, .bool r.fAppend, .bool r.fTxn, .bool r.fControl, .int .i64 r.fLast, .int .i64 r.fFirst, .int .i64 r.fMax, .int .i64 r.fProducer, .int .i64 r.fEpoch, .int .i64 r.fSequence, .slice A2 r.fRecords.length c3] ∧ A' = EmpR ∧ N = [RdR (sliceRd 7 Rec_rd) [.slice A2 r.fRecords.length c3] r.fRecords]) := by
  refine enterA Try.func66 rfl Try.ntmps66 rfl ?_
  intro F w hX
  unfold f_l20_nobody at h
  refine T.seq (T.region rfl ?_)
  refine TL.alloc rfl .u Try.zeroValue25 rfl (fun b1 => ?_)
  refine TL.nil (X.seq (T.seq (T.region rfl ?_)))
  refine TL.q rfl .u (Ex.bld (cells := #[.int .i64 0, .int .i64 0, .bool false, .bool false, .bool false, .int .i64 0, .int .i64 0, .int .i64 0, .int .i64 (-1), .int .i64 (-1), .int .i64 (-1), .slice none 0 0]) bok_cursitorlaw20_25 rfl (by kernel_rfl)) rfl ?_
  refine TL.st0 (cs' := #[.int .i64 0, .int .i64 0, .bool false, .bool false, .bool false, .int .i64 0, .int .i64 0, .int .i64 0, .int .i64 (-1), .int .i64 (-1), .int .i64 (-1), .slice none 0 0]) rfl .u rfl rfl Try.sizeOf25 rfl rfl rfl rfl ?_
  obtain rfl := Option.some.inj h
  refine TL.nil (X.seq (T.ret ?_))
  refine X.nilrd 7 Rec_rd ?_
  exact X.done1 [2, 0] Try.results66 (RV.cS (us := #[.int .i64 0, .int .i64 0, .bool false, .bool false, .bool false, .int .i64 0, .int .i64 0, .int .i64 0, .int .i64 (-1), .int .i64 (-1), .int .i64 (-1), .slice none 0 0]) 1 rfl Try.isAgg25 Try.sizeOf25 rfl rfl) ⟨_, _, rfl, rfl, rfl⟩ (by rfl) (.inl rfl)
def f_l20_speaks  : Option (Bool) := (f_l20_nobody).bind fun x1 => (f_produce_RequestWrite ([], 0) (⟨(⟨true, []⟩ : Bl), 0, 0, [(⟨[97], [(⟨0, [x1]⟩ : ProducePart)]⟩ : ProduceTopic)]⟩ : ProduceRequest) 3).bind fun st10 => (gOText st10).bind fun (x12, x13, st14) => (f_l20_nobody).bind fun x16 => (f_l20_nobody).bind fun x20 => (if x13 = 0 then (if (x12.length : Int) = 88 then ((f_produce_RequestCheck (⟨(⟨true, []⟩ : Bl), 0, 0, [(⟨[97], [(⟨0, [x16, x20]⟩ : ProducePart)]⟩ : ProduceTopic)]⟩ : ProduceRequest) 3).bind fun x36 => if x36 = 10 then ((f_produce_RequestCheck (⟨(⟨true, []⟩ : Bl), 0, 0, [(⟨[97], [(⟨0, [x16, x20]⟩ : ProducePart)]⟩ : ProduceTopic)]⟩ : ProduceRequest) 4).bind fun x39 => if x39 = 0 then some true else some false) else some false) else some false) else some false).bind fun y32 => some y32
set_option maxRecDepth 100000 in
set_option maxHeartbeats 4000000 in
theorem f_l20_speaks_spec  (r : Bool) (h : f_l20_speaks  = some r) : SpecX Try.prog 27 #[] .triv (EmpR) (fun v A' N => v = .bool r ∧ A' = EmpR ∧ N = []) := by
  refine enterA Try.func27 rfl Try.ntmps27 rfl ?_
  intro F w hX
  unfold f_l20_speaks at h
  refine T.seq (T.region rfl ?_)
  refine TL.run ft_cursitorlaw20_ok [0] rfl rfl ?_
  refine TL.nil (X.seq (T.seq (T.region rfl ?_)))
  refine TL.q rfl .u (Ex.bld (cells := #[.bool true, .string ⟨#[]⟩]) bok_cursitorlaw20_30 rfl (by kernel_rfl)) rfl ?_
  obtain ⟨x1, hx4, h⟩ := Option.bind_eq_some_iff.1 h
  refine TL.cge rfl .u (.fn Try.call66 rfl) (f_l20_nobody_spec _ hx4) (fun _ hs => (RX.reads_triv _ _)) rfl ?_
  rintro _ _ _ ⟨A2, c3, rfl, rfl, rfl⟩
  refine TL.sel [0, 0] rfl ?_
  refine TL.lit (cells := #[.int .i64 x1.fBase, .int .i64 x1.fLeader, .bool x1.fAppend, .bool x1.fTxn, .bool x1.fControl, .int .i64 x1.fLast, .int .i64 x1.fFirst, .int .i64 x1.fMax, .int .i64 x1.fProducer, .int .i64 x1.fEpoch, .int .i64 x1.fSequence, .slice A2 x1.fRecords.length c3]) rfl .u sok_cursitorlaw20_46_1 rfl (by kernel_rfl) rfl (fun b5 => ?_)
  refine TL.q rfl .u (Ex.bld (cells := #[.int .i64 0, .slice (some ⟨b5, 0, none⟩) 1 1]) bok_cursitorlaw20_78 rfl (by kernel_rfl)) rfl ?_
  refine TL.lit (cells := #[.int .i64 0, .slice (some ⟨b5, 0, none⟩) 1 1]) rfl .u sok_cursitorlaw20_74_1 rfl (by kernel_rfl) rfl (fun b6 => ?_)
  refine TL.q rfl .u (Ex.bld (cells := #[.string ⟨#[97]⟩, .slice (some ⟨b6, 0, none⟩) 1 1]) bok_cursitorlaw20_76 rfl (by kernel_rfl)) rfl ?_
  refine TL.lit (cells := #[.string ⟨#[97]⟩, .slice (some ⟨b6, 0, none⟩) 1 1]) rfl .u sok_cursitorlaw20_63_1 rfl (by kernel_rfl) rfl (fun b7 => ?_)
  refine TL.q rfl .u (Ex.bld (cells := #[.bool true, .string ⟨#[]⟩, .int .i64 0, .int .i64 0, .slice (some ⟨b7, 0, none⟩) 1 1]) bok_cursitorlaw20_65 rfl (by kernel_rfl)) rfl ?_
  refine TL.alloc rfl .u Try.zeroValue65 rfl (fun b8 => ?_)
  refine TL.st0 (cs' := #[.bool true, .string ⟨#[]⟩, .int .i64 0, .int .i64 0, .slice (some ⟨b7, 0, none⟩) 1 1]) rfl .u rfl rfl Try.sizeOf65 rfl rfl rfl rfl ?_
  refine TL.nil (X.seq (T.seq (T.region rfl ?_)))
  refine TL.newout rfl .u Try.zeroValue87 rfl (fun b9 => ?_)
  refine TL.nil (X.seq (T.seq (T.region rfl ?_)))
  refine TL.q rfl .u (Ex.bS (us := [.bool true, .string ⟨#[]⟩, .int .i64 0, .int .i64 0, .slice (some ⟨b7, 0, none⟩) 1 1]) 1 rfl Try.isAgg65 Try.sizeOf65 rfl rfl rfl) rfl ?_
  obtain ⟨st10, hx11, h⟩ := Option.bind_eq_some_iff.1 h
  refine TL.c0 rfl .u (.fn Try.call67 rfl) (f_produce_RequestWrite_spec b9 ([], 0) (⟨(⟨true, []⟩ : Bl), 0, 0, [(⟨[97], [(⟨0, [x1]⟩ : ProducePart)]⟩ : ProduceTopic)]⟩ : ProduceRequest) _ _ 3 _ hx11) (fun _ hs => (Src.many [1, 1, 1, 1] rfl (fun w G hS => by obtain ⟨⟨G0, ⟨h0, i0⟩, j0⟩, ⟨⟨G1, ⟨h1, i1⟩, j1⟩, ⟨⟨G2, ⟨h2, i2⟩, j2⟩, ⟨⟨G3, ⟨h3, i3⟩, j3⟩, _⟩⟩⟩⟩ := hS; exact (sl_of_blk (us := [.string ⟨#[97]⟩, .slice (some ⟨b6, 0, none⟩) 1 1]) h0 (j0 _ ((i0 _).2 rfl)) rfl (Nat.le_of_ble_eq_true rfl) ⟨rfl, ⟨_, _, rfl, (sl_of_blk (us := [.int .i64 0, .slice (some ⟨b5, 0, none⟩) 1 1]) h1 (j1 _ ((i1 _).2 rfl)) rfl (Nat.le_of_ble_eq_true rfl) ⟨rfl, ⟨_, _, rfl, (sl_of_blk (us := [.int .i64 x1.fBase, .int .i64 x1.fLeader, .bool x1.fAppend, .bool x1.fTxn, .bool x1.fControl, .int .i64 x1.fLast, .int .i64 x1.fFirst, .int .i64 x1.fMax, .int .i64 x1.fProducer, .int .i64 x1.fEpoch, .int .i64 x1.fSequence, .slice A2 x1.fRecords.length c3]) h2 (j2 _ ((i2 _).2 rfl)) rfl (Nat.le_of_ble_eq_true rfl) ⟨rfl, ⟨_, _, rfl, ((sliceRd 7 Rec_rd).mono h3 j3)⟩, rfl⟩)⟩, rfl⟩)⟩, rfl⟩)))) rfl ?_
  obtain ⟨⟨x12, x13, st14⟩, hx15, h⟩ := Option.bind_eq_some_iff.1 h
  try dsimp only at h
  refine TL.nil (X.seq (T.seq (T.region rfl ?_)))
  refine TL.c0 rfl .u (.fn Try.call39 rfl) (gOText_spec b9 st10 _ hx15) (fun _ hs => (Src.triv _)) rfl ?_
  refine TL.run ft_cursitorlaw20_ok [1, 2, 3, 4, 5] rfl rfl ?_
  refine TL.nil (X.seq (T.seq (T.draw (.q 0 (.q 1 (.q 2 (.q 3 (.q 4 (.e 5 (.e 6 (.e 7 (.q 8 (.q 9 (.e 10 .nil))))))))))) [0, 0, 0, 1, 1, 1] rfl mix_cursitorlaw20 (NoP.seq np_post) (by kernel_rfl) ?_)))
  refine TD.run ft_cursitorlaw20_ok [0] rfl rfl ?_
  refine TD.q rfl .u (Ex.b1 1 rfl Try.isAgg63 rfl rfl) rfl ?_
  refine TD.q rfl .u (Ex.ixL (k := 0) (r := 0) rfl rfl rfl Try.runUnderlying63 Try.sizeOf76 (by decide) rfl) rfl ?_
  refine TD.run ft_cursitorlaw20_ok [3] rfl rfl ?_
  refine TD.q rfl .u (Ex.b1 2 rfl Try.isAgg74 rfl rfl) rfl ?_
  obtain ⟨x16, hx19, h⟩ := Option.bind_eq_some_iff.1 h
  refine TD.cge rfl .u (.fn Try.call66 rfl) (f_l20_nobody_spec _ hx19) (fun _ hs => (RX.reads_triv _ _)) rfl [1, 1, 1, 2, 2, 2] ?_ ?_
  · rintro _ _ _ ⟨A17, c18, rfl, rfl, rfl⟩
    rfl
  rintro _ _ _ ⟨A17, c18, rfl, rfl, rfl⟩
  refine TD.sel [0, 0, 0, 0, 0, 0, 0, 0] rfl ?_
  obtain ⟨x20, hx23, h⟩ := Option.bind_eq_some_iff.1 h
  refine TD.cge rfl .u (.fn Try.call66 rfl) (f_l20_nobody_spec _ hx23) (fun _ hs => (RX.reads_triv _ _)) rfl [2, 2, 2, 3, 3, 3] ?_ ?_
  · rintro _ _ _ ⟨A21, c22, rfl, rfl, rfl⟩
    rfl
  rintro _ _ _ ⟨A21, c22, rfl, rfl, rfl⟩
  refine TD.sel [0, 0, 0, 0, 0, 0, 0, 0, 0] rfl ?_
  refine TD.lit (cells := #[.int .i64 x16.fBase, .int .i64 x16.fLeader, .bool x16.fAppend, .bool x16.fTxn, .bool x16.fControl, .int .i64 x16.fLast, .int .i64 x16.fFirst, .int .i64 x16.fMax, .int .i64 x16.fProducer, .int .i64 x16.fEpoch, .int .i64 x16.fSequence, .slice A17 x16.fRecords.length c18, .int .i64 x20.fBase, .int .i64 x20.fLeader, .bool x20.fAppend, .bool x20.fTxn, .bool x20.fControl, .int .i64 x20.fLast, .int .i64 x20.fFirst, .int .i64 x20.fMax, .int .i64 x20.fProducer, .int .i64 x20.fEpoch, .int .i64 x20.fSequence, .slice A21 x20.fRecords.length c22]) rfl .u sok_cursitorlaw20_46_2 rfl (by kernel_rfl) rfl [3, 3, 3, 4, 4, 4] (fun _ => rfl) (fun b24 => ?_)
  refine TD.q rfl .u (Ex.ixL (k := 0) (r := 0) rfl rfl rfl Try.runUnderlying74 Try.sizeOf78 (by decide) rfl) rfl ?_
  refine TD.run ft_cursitorlaw20_ok [9] rfl rfl ?_
  refine TD.st6 (cs' := #[.int .i64 0, .slice (some ⟨b24, 0, none⟩) 2 2]) rfl .u rfl rfl Try.sizeOf46 rfl rfl rfl rfl [3, 3, 3, 4, 4, 4] (rfl) ?_
  refine TD.nil (X.seq (T.seq ?_))
  obtain ⟨y32, h, hk33⟩ := Option.bind_eq_some_iff.1 h
  refine T.jq (fun e Rs => e = [(0, .bool y32)] ∧ Rs = [BlkR b24 25 #[.int .i64 x16.fBase, .int .i64 x16.fLeader, .bool x16.fAppend, .bool x16.fTxn, .bool x16.fControl, .int .i64 x16.fLast, .int .i64 x16.fFirst, .int .i64 x16.fMax, .int .i64 x16.fProducer, .int .i64 x16.fEpoch, .int .i64 x16.fSequence, .slice A17 x16.fRecords.length c18, .int .i64 x20.fBase, .int .i64 x20.fLeader, .bool x20.fAppend, .bool x20.fTxn, .bool x20.fControl, .int .i64 x20.fLast, .int .i64 x20.fFirst, .int .i64 x20.fMax, .int .i64 x20.fProducer, .int .i64 x20.fEpoch, .int .i64 x20.fSequence, .slice A21 x20.fRecords.length c22], RdR (sliceRd 7 Rec_rd) [.slice A21 x20.fRecords.length c22] x20.fRecords, RdR (sliceRd 7 Rec_rd) [.slice A17 x16.fRecords.length c18] x16.fRecords, OutR b9 st14, BlkR b8 65 #[.bool true, .string ⟨#[]⟩, .int .i64 0, .int .i64 0, .slice (some ⟨b7, 0, none⟩) 1 1], BlkR b7 76 #[.string ⟨#[97]⟩, .slice (some ⟨b6, 0, none⟩) 1 1], BlkR b6 78 #[.int .i64 0, .slice (some ⟨b24, 0, none⟩) 2 2], BlkR b5 25 #[.int .i64 x1.fBase, .int .i64 x1.fLeader, .bool x1.fAppend, .bool x1.fTxn, .bool x1.fControl, .int .i64 x1.fLast, .int .i64 x1.fFirst, .int .i64 x1.fMax, .int .i64 x1.fProducer, .int .i64 x1.fEpoch, .int .i64 x1.fSequence, .slice A2 x1.fRecords.length c3], RdR (sliceRd 7 Rec_rd) [.slice A2 x1.fRecords.length c3] x1.fRecords, EmpR]) ?_ ?_
  · clear hk33
    refine T.region rfl ?_
    by_cases c34 : x13 = 0
    · replace h := ifT c34 h
      refine TL.run ft_cursitorlaw20_ok [0, 1, 2] rfl rfl ?_
      refine TL.q rfl (.g rfl rfl (decide_eq_true c34)) (Ex.ft ft_cursitorlaw20_ok rfl) rfl ?_
      refine TL.q rfl (.g rfl rfl (decide_eq_true c34)) (Ex.lenB rfl Try.runUnderlying9) rfl ?_
      refine TL.q rfl (.g rfl rfl (decide_eq_true c34)) (Ex.ft ft_cursitorlaw20_ok rfl) rfl ?_
      refine TL.q rfl .u (Ex.py rfl (decide_eq_true c34) rfl) rfl ?_
      by_cases c35 : (x12.length : Int) = 88
      · replace h := ifT c35 h
        refine TL.run ft_cursitorlaw20_ok [7] rfl rfl ?_
        refine TL.q rfl (.g rfl rfl (decide_eq_true c35)) (Ex.bS (us := [.bool true, .string ⟨#[]⟩, .int .i64 0, .int .i64 0, .slice (some ⟨b7, 0, none⟩) 1 1]) 4 rfl Try.isAgg65 Try.sizeOf65 rfl rfl rfl) rfl ?_
        obtain ⟨x36, hx37, h⟩ := Option.bind_eq_some_iff.1 h
        refine TL.ce rfl (.g rfl rfl (decide_eq_true c35)) (.fn Try.call68 rfl) (f_produce_RequestCheck_spec (⟨(⟨true, []⟩ : Bl), 0, 0, [(⟨[97], [(⟨0, [x16, x20]⟩ : ProducePart)]⟩ : ProduceTopic)]⟩ : ProduceRequest) _ _ 3 _ hx37) (fun _ hs => (SrcE.many [5, 5, 0, 1, 0] hs rfl (fun w G hS => by obtain ⟨⟨G0, ⟨h0, i0⟩, j0⟩, ⟨⟨G1, ⟨h1, i1⟩, j1⟩, ⟨⟨G2, ⟨h2, i2⟩, j2⟩, ⟨⟨G3, ⟨h3, i3⟩, j3⟩, ⟨⟨G4, ⟨h4, i4⟩, j4⟩, _⟩⟩⟩⟩⟩ := hS; exact (sl_of_blk (us := [.string ⟨#[97]⟩, .slice (some ⟨b6, 0, none⟩) 1 1]) h0 (j0 _ ((i0 _).2 rfl)) rfl (Nat.le_of_ble_eq_true rfl) ⟨rfl, ⟨_, _, rfl, (sl_of_blk (us := [.int .i64 0, .slice (some ⟨b24, 0, none⟩) 2 2]) h1 (j1 _ ((i1 _).2 rfl)) rfl (Nat.le_of_ble_eq_true rfl) ⟨rfl, ⟨_, _, rfl, (sl_of_blk (us := [.int .i64 x16.fBase, .int .i64 x16.fLeader, .bool x16.fAppend, .bool x16.fTxn, .bool x16.fControl, .int .i64 x16.fLast, .int .i64 x16.fFirst, .int .i64 x16.fMax, .int .i64 x16.fProducer, .int .i64 x16.fEpoch, .int .i64 x16.fSequence, .slice A17 x16.fRecords.length c18, .int .i64 x20.fBase, .int .i64 x20.fLeader, .bool x20.fAppend, .bool x20.fTxn, .bool x20.fControl, .int .i64 x20.fLast, .int .i64 x20.fFirst, .int .i64 x20.fMax, .int .i64 x20.fProducer, .int .i64 x20.fEpoch, .int .i64 x20.fSequence, .slice A21 x20.fRecords.length c22]) h2 (j2 _ ((i2 _).2 rfl)) rfl (Nat.le_of_ble_eq_true rfl) ⟨rfl, ⟨_, _, rfl, ((sliceRd 7 Rec_rd).mono h3 j3)⟩, ⟨rfl, ⟨_, _, rfl, ((sliceRd 7 Rec_rd).mono h4 j4)⟩, rfl⟩⟩)⟩, rfl⟩)⟩, rfl⟩)))) rfl ?_
        refine TL.q rfl (.g rfl rfl (decide_eq_true c35)) (Ex.ft ft_cursitorlaw20_ok rfl) rfl ?_
        refine TL.q rfl .u (Ex.py rfl (decide_eq_true c35) rfl) rfl ?_
        by_cases c38 : x36 = 10
        · replace h := ifT c38 h
          refine TL.run ft_cursitorlaw20_ok [12] rfl rfl ?_
          refine TL.q rfl (.g rfl rfl (decide_eq_true c38)) (Ex.bS (us := [.bool true, .string ⟨#[]⟩, .int .i64 0, .int .i64 0, .slice (some ⟨b7, 0, none⟩) 1 1]) 4 rfl Try.isAgg65 Try.sizeOf65 rfl rfl rfl) rfl ?_
          obtain ⟨x39, hx40, h⟩ := Option.bind_eq_some_iff.1 h
          refine TL.ce rfl (.g rfl rfl (decide_eq_true c38)) (.fn Try.call68 rfl) (f_produce_RequestCheck_spec (⟨(⟨true, []⟩ : Bl), 0, 0, [(⟨[97], [(⟨0, [x16, x20]⟩ : ProducePart)]⟩ : ProduceTopic)]⟩ : ProduceRequest) _ _ 4 _ hx40) (fun _ hs => (SrcE.many [5, 5, 0, 1, 0] hs rfl (fun w G hS => by obtain ⟨⟨G0, ⟨h0, i0⟩, j0⟩, ⟨⟨G1, ⟨h1, i1⟩, j1⟩, ⟨⟨G2, ⟨h2, i2⟩, j2⟩, ⟨⟨G3, ⟨h3, i3⟩, j3⟩, ⟨⟨G4, ⟨h4, i4⟩, j4⟩, _⟩⟩⟩⟩⟩ := hS; exact (sl_of_blk (us := [.string ⟨#[97]⟩, .slice (some ⟨b6, 0, none⟩) 1 1]) h0 (j0 _ ((i0 _).2 rfl)) rfl (Nat.le_of_ble_eq_true rfl) ⟨rfl, ⟨_, _, rfl, (sl_of_blk (us := [.int .i64 0, .slice (some ⟨b24, 0, none⟩) 2 2]) h1 (j1 _ ((i1 _).2 rfl)) rfl (Nat.le_of_ble_eq_true rfl) ⟨rfl, ⟨_, _, rfl, (sl_of_blk (us := [.int .i64 x16.fBase, .int .i64 x16.fLeader, .bool x16.fAppend, .bool x16.fTxn, .bool x16.fControl, .int .i64 x16.fLast, .int .i64 x16.fFirst, .int .i64 x16.fMax, .int .i64 x16.fProducer, .int .i64 x16.fEpoch, .int .i64 x16.fSequence, .slice A17 x16.fRecords.length c18, .int .i64 x20.fBase, .int .i64 x20.fLeader, .bool x20.fAppend, .bool x20.fTxn, .bool x20.fControl, .int .i64 x20.fLast, .int .i64 x20.fFirst, .int .i64 x20.fMax, .int .i64 x20.fProducer, .int .i64 x20.fEpoch, .int .i64 x20.fSequence, .slice A21 x20.fRecords.length c22]) h2 (j2 _ ((i2 _).2 rfl)) rfl (Nat.le_of_ble_eq_true rfl) ⟨rfl, ⟨_, _, rfl, ((sliceRd 7 Rec_rd).mono h3 j3)⟩, ⟨rfl, ⟨_, _, rfl, ((sliceRd 7 Rec_rd).mono h4 j4)⟩, rfl⟩⟩)⟩, rfl⟩)⟩, rfl⟩)))) rfl ?_
          refine TL.q rfl (.g rfl rfl (decide_eq_true c38)) (Ex.ft ft_cursitorlaw20_ok rfl) rfl ?_
          refine TL.q rfl .u (Ex.py rfl (decide_eq_true c38) rfl) rfl ?_
          refine TL.run ft_cursitorlaw20_ok [17] rfl rfl ?_
          by_cases c41 : x39 = 0
          · replace h := ifT c41 h
            cases h
            exact TL.nil (X.as (d := 0) (v' := .bool true) rfl (congrArg Value.bool (decide_eq_true c41)) (X.jq [0, 0, 0, 0, 0, 0, 0, 0, 0, 0] ⟨rfl, rfl⟩ (by rfl) (by rfl)))
          · replace h := ifF c41 h
            cases h
            exact TL.nil (X.as (d := 0) (v' := .bool false) rfl (congrArg Value.bool (decide_eq_false c41)) (X.jq [0, 0, 0, 0, 0, 0, 0, 0, 0, 0] ⟨rfl, rfl⟩ (by rfl) (by rfl)))
        · replace h := ifF c38 h
          refine TL.run ft_cursitorlaw20_ok [12] rfl rfl ?_
          refine TL.no rfl (.gn rfl rfl (decide_eq_false c38)) rfl ?_
          refine TL.no rfl (.gn rfl rfl (decide_eq_false c38)) rfl ?_
          refine TL.no rfl (.gn rfl rfl (decide_eq_false c38)) rfl ?_
          refine TL.q rfl .u (Ex.pn rfl (decide_eq_false c38) rfl) rfl ?_
          refine TL.run ft_cursitorlaw20_ok [17] rfl rfl ?_
          cases h
          exact TL.nil (X.jq [0, 0, 0, 0, 0, 0, 0, 0, 0, 0] ⟨rfl, rfl⟩ (by rfl) (by rfl))
      · replace h := ifF c35 h
        refine TL.run ft_cursitorlaw20_ok [7] rfl rfl ?_
        refine TL.no rfl (.gn rfl rfl (decide_eq_false c35)) rfl ?_
        refine TL.no rfl (.gn rfl rfl (decide_eq_false c35)) rfl ?_
        refine TL.no rfl (.gn rfl rfl (decide_eq_false c35)) rfl ?_
        refine TL.q rfl .u (Ex.pn rfl (decide_eq_false c35) rfl) rfl ?_
        refine TL.run ft_cursitorlaw20_ok [12] rfl rfl ?_
        refine TL.no rfl (.gn rfl rfl rfl) rfl ?_
        refine TL.no rfl (.gn rfl rfl rfl) rfl ?_
        refine TL.no rfl (.gn rfl rfl rfl) rfl ?_
        refine TL.q rfl .u (Ex.pn rfl rfl rfl) rfl ?_
        refine TL.run ft_cursitorlaw20_ok [17] rfl rfl ?_
        cases h
        exact TL.nil (X.jq [0, 0, 0, 0, 0, 0, 0, 0, 0, 0] ⟨rfl, rfl⟩ (by rfl) (by rfl))
    · replace h := ifF c34 h
      refine TL.run ft_cursitorlaw20_ok [0, 1, 2] rfl rfl ?_
      refine TL.no rfl (.gn rfl rfl (decide_eq_false c34)) rfl ?_
      refine TL.no rfl (.gn rfl rfl (decide_eq_false c34)) rfl ?_
      refine TL.no rfl (.gn rfl rfl (decide_eq_false c34)) rfl ?_
      refine TL.q rfl .u (Ex.pn rfl (decide_eq_false c34) rfl) rfl ?_
      refine TL.run ft_cursitorlaw20_ok [7] rfl rfl ?_
      refine TL.no rfl (.gn rfl rfl rfl) rfl ?_
      refine TL.no rfl (.gn rfl rfl rfl) rfl ?_
      refine TL.no rfl (.gn rfl rfl rfl) rfl ?_
      refine TL.q rfl .u (Ex.pn rfl rfl rfl) rfl ?_
      refine TL.run ft_cursitorlaw20_ok [12] rfl rfl ?_
      refine TL.no rfl (.gn rfl rfl rfl) rfl ?_
      refine TL.no rfl (.gn rfl rfl rfl) rfl ?_
      refine TL.no rfl (.gn rfl rfl rfl) rfl ?_
      refine TL.q rfl .u (Ex.pn rfl rfl rfl) rfl ?_
      refine TL.run ft_cursitorlaw20_ok [17] rfl rfl ?_
      cases h
      exact TL.nil (X.jq [0, 0, 0, 0, 0, 0, 0, 0, 0, 0] ⟨rfl, rfl⟩ (by rfl) (by rfl))
  · rintro _ _ ⟨rfl, rfl⟩
    clear h
    have h := hk33
    clear hk33
    try dsimp only at h
    obtain rfl := Option.some.inj h
    exact X.seq (T.ret (X.done1 [9] Try.results27 (RV.tm rfl) ⟨rfl, rfl, rfl⟩ (by rfl) (.inl rfl)))
def f_l20_Few_l3 : List Bat → Int → Option (Lp Int Int)
  | [], y35 => some (Lp.go y35)
  | x41 :: xs, y35 => (f_l11_Small x41).bind fun x49 => if x49 = 0 then some (Lp.ret 0) else (f_l20_Few_l3 xs y35)
def f_l20_Few_l2 : List ProducePart → Int → Int → Option (Lp Int (Int × Int))
  | [], y19, y20 => some (Lp.go (y19, y20))
  | x26 :: xs, y19, y20 => if (IntKind.i64.wrap (y20 + (IntKind.i64.wrap (10 + (IntKind.i64.wrap (100 * (x26.fBatches.length : Int))))))) > 2000 then some (Lp.ret 0) else ((f_l20_Few_l3 x26.fBatches y19).bind fun e => match e with | .ret r => some (Lp.ret r) | .go y52 => (f_l20_Few_l2 xs y52 (IntKind.i64.wrap (y20 + (IntKind.i64.wrap (10 + (IntKind.i64.wrap (100 * (x26.fBatches.length : Int)))))))))
def f_l20_Few_l1 : List ProduceTopic → Int → Int → Option (Lp Int (Int × Int))
  | [], y4, y5 => some (Lp.go (y4, y5))
  | x11 :: xs, y4, y5 => (f_l20_Few_l2 x11.fParts y4 (IntKind.i64.wrap (y5 + (IntKind.i64.wrap ((x11.fName.length : Int) + 10))))).bind fun e => match e with | .ret r => some (Lp.ret r) | .go (y54, y55) => (f_l20_Few_l1 xs y54 y55)
def f_l20_Few (a0 : ProduceRequest) : Option (Int) := (f_l20_Few_l1 a0.fTopics 0 (a0.fID.data.length : Int)).bind fun e => match e with | .ret r => some r | .go (y57, y58) => (if y58 > 2000 then some 0 else some 1)
set_option maxRecDepth 100000 in
set_option maxHeartbeats 4000000 in
theorem f_l20_Few_spec (a0 : ProduceRequest) (A1 : Option Addr) (c2 : Nat) (r : Int) (h : f_l20_Few a0 = some r) : SpecX Try.prog 28 #[.agg #[.bool a0.fID.null, .string (bsOf a0.fID.data), .int .i64 a0.fAcks, .int .i64 a0.fTimeout, .slice A1 a0.fTopics.length c2]] (RX.of (sliceRd 2 ProduceTopic_rd) [.slice A1 a0.fTopics.length c2] a0.fTopics) (EmpR) (fun v A' N => v = .int .i64 r ∧ A' = EmpR ∧ N = []) := by
  refine enterA Try.func28 rfl Try.ntmps28 rfl ?_
  intro F w hX
  unfold f_l20_Few at h
  refine T.seq (T.region rfl ?_)
  refine TL.box rfl .u rfl rfl (fun b3 => ?_)
  refine TL.run ft_cursitorlaw20_ok [1] rfl rfl ?_
  refine TL.nil (X.seq (T.seq (T.region rfl ?_)))
  refine TL.run ft_cursitorlaw20_ok [0, 1] rfl rfl ?_
  refine TL.q rfl .u (Ex.b1 0 rfl Try.isAgg9 rfl rfl) rfl ?_
  refine TL.q rfl .u (Ex.lenB rfl Try.runUnderlying9) rfl ?_
  refine TL.run ft_cursitorlaw20_ok [4] rfl rfl ?_
  refine TL.nil (X.seq (T.seq (T.seq (T.region rfl ?_))))
  refine TL.run ft_cursitorlaw20_ok [0] rfl rfl ?_
  refine TL.q rfl .u (Ex.b1 0 rfl Try.isAgg63 rfl rfl) rfl ?_
  refine TL.q rfl .u (Ex.lenS rfl Try.runUnderlying63) rfl ?_
  refine TL.run ft_cursitorlaw20_ok [3] rfl rfl ?_
  refine TL.nil (X.seq (T.block ?_))
  obtain ⟨E7, hE8, hO9⟩ := Option.bind_eq_some_iff.1 h
  have hk13len := RX.len_le hX
  refine T.lp (fun m e Rs => ∃ (y4 : Int) (y5 : Int) (k6 : Nat), k6 + m = a0.fTopics.length ∧ e = [(2, .int .i64 y4), (3, .int .i64 y5), (15, .slice A1 a0.fTopics.length c2), (16, .int .i64 (a0.fTopics.length : Int)), (17, .int .i64 (k6 : Int))] ∧ Rs = [BlkR b3 65 #[.bool a0.fID.null, .string (bsOf a0.fID.data), .int .i64 a0.fAcks, .int .i64 a0.fTimeout, .slice A1 a0.fTopics.length c2], EmpR] ∧ f_l20_Few_l1 (a0.fTopics.drop k6) y4 y5 = some E7) (a0.fTopics.length) [0, 0] ⟨0, (a0.fID.data.length : Int), 0, by simp, rfl, rfl, by rw [List.drop_zero]; exact hE8⟩ (by rfl) (by rfl) ?_
  rintro m10 _ _ ⟨y4, y5, k6, hk13, rfl, rfl, hl12⟩
  clear hE8 h
  cases m10 with
  | zero =>
    have h := hl12
    clear hl12
    rw [List.drop_of_length_le (by omega), f_l20_Few_l1] at h
    have hk13ge : ¬ ((k6 : Int) < (a0.fTopics.length : Int)) := by omega
    refine T.seq (T.region rfl ?_)
    refine TL.run ft_cursitorlaw20_ok [0] rfl rfl ?_
    refine TL.nil (X.seq (T.seq ?_))
    refine T.no rfl (decide_eq_false hk13ge) ?_
    obtain rfl := Option.some.inj h
    replace h := hO9
    clear hO9
    try dsimp only at h
    refine T.exit (X.exs (X.exs (X.ex (X.seq (T.seq (T.seq (T.region rfl ?_)))))))
    refine TL.run ft_cursitorlaw20_ok [0, 1] rfl rfl ?_
    by_cases c61 : y5 > 2000
    · replace h := ifT c61 h
      refine TL.nil (X.seq ?_)
      refine T.yes rfl (decide_eq_true c61) ?_
      refine T.seq (T.region rfl ?_)
      refine TL.run ft_cursitorlaw20_ok [0] rfl rfl ?_
      obtain rfl := Option.some.inj h
      exact TL.nil (X.seq (T.ret (X.rs (X.done1 [1] Try.results28 (RV.tm rfl) ⟨rfl, rfl, rfl⟩ (by rfl) (.inl rfl)))))
    · replace h := ifF c61 h
      refine TL.nil (X.seq ?_)
      refine T.no rfl (decide_eq_false c61) ?_
      refine T.skip (X.seq (T.seq (T.region rfl ?_)))
      refine TL.run ft_cursitorlaw20_ok [0] rfl rfl ?_
      obtain rfl := Option.some.inj h
      exact TL.nil (X.seq (T.ret (X.done1 [1] Try.results28 (RV.tm rfl) ⟨rfl, rfl, rfl⟩ (by rfl) (.inl rfl))))
  | succ m10 =>
    have h := hl12
    clear hl12
    obtain ⟨x11, hxx11⟩ : ∃ x, a0.fTopics[k6]? = some x := ⟨_, List.getElem?_eq_getElem (by omega)⟩
    rw [drop_cons hxx11, f_l20_Few_l1] at h
    have hk13lt : (k6 : Int) < (a0.fTopics.length : Int) := by omega
    refine T.seq (T.region rfl ?_)
    refine TL.run ft_cursitorlaw20_ok [0] rfl rfl ?_
    refine TL.nil (X.seq (T.seq ?_))
    refine T.yes rfl (decide_eq_true hk13lt) ?_
    obtain ⟨gz14, oz14, rfl, z14cs, z14cl, z14cc, z14nf, z14r⟩ := RX.elem (by decide) hX hxx11
    obtain ⟨z14S, z14r, z14rr⟩ := z14r
    obtain ⟨A15, c16, rfl, z14s0⟩ := z14r
    have hX17 : (RX.of (sliceRd 2 ProducePart_rd) [.slice A15 x11.fParts.length c16] x11.fParts).reads w F := ⟨z14S, z14s0, z14rr⟩
    refine T.skip (X.seq (T.seq (T.block (T.seq (T.region rfl ?_)))))
    refine TL.q rfl .u (Ex.ixS (k := k6) rfl rfl rfl Try.runUnderlying63 Try.sizeOf76 (List.getElem?_eq_some_iff.1 hxx11).1) rfl ?_
    refine TL.q rfl .u (Ex.oS (us := [.string (bsOf x11.fName), .slice A15 x11.fParts.length c16]) 0 rfl Try.isAgg76 Try.sizeOf76 z14nf z14cc rfl rfl rfl) rfl ?_
    refine TL.alloc rfl .u Try.zeroValue76 rfl (fun b18 => ?_)
    refine TL.st0 (cs' := #[.string (bsOf x11.fName), .slice A15 x11.fParts.length c16]) rfl .u rfl rfl Try.sizeOf76 rfl rfl rfl rfl ?_
    refine TL.nil (X.seq (T.seq (T.region rfl ?_)))
    refine TL.run ft_cursitorlaw20_ok [0, 1] rfl rfl ?_
    refine TL.q rfl .u (Ex.b1 0 rfl Try.isAgg9 rfl rfl) rfl ?_
    refine TL.q rfl .u (Ex.lenB rfl Try.runUnderlying9) rfl ?_
    refine TL.q rfl .u (Ex.addw rfl rfl) rfl ?_
    refine TL.q rfl .u (Ex.addw rfl rfl) rfl ?_
    refine TL.run ft_cursitorlaw20_ok [6] rfl rfl ?_
    refine TL.nil (X.seq (T.seq (T.region rfl ?_)))
    refine TL.run ft_cursitorlaw20_ok [0] rfl rfl ?_
    refine TL.q rfl .u (Ex.b1 0 rfl Try.isAgg74 rfl rfl) rfl ?_
    refine TL.q rfl .u (Ex.lenS rfl Try.runUnderlying74) rfl ?_
    refine TL.run ft_cursitorlaw20_ok [3] rfl rfl ?_
    refine TL.nil (X.seq (T.block ?_))
    obtain ⟨E22, hE23, hO24⟩ := Option.bind_eq_some_iff.1 h
    have hk28len := RX.len_le hX17
    refine T.lp (fun m e Rs => ∃ (y19 : Int) (y20 : Int) (k21 : Nat), k21 + m = x11.fParts.length ∧ e = [(2, .int .i64 y19), (3, .int .i64 y20), (15, .slice (some ⟨gz14, oz14, none⟩) a0.fTopics.length c2), (16, .int .i64 (a0.fTopics.length : Int)), (17, .int .i64 (k6 : Int)), (28, .slice A15 x11.fParts.length c16), (29, .int .i64 (x11.fParts.length : Int)), (30, .int .i64 (k21 : Int))] ∧ Rs = [BlkR b18 76 #[.string (bsOf x11.fName), .slice A15 x11.fParts.length c16], BlkR b3 65 #[.bool a0.fID.null, .string (bsOf a0.fID.data), .int .i64 a0.fAcks, .int .i64 a0.fTimeout, .slice (some ⟨gz14, oz14, none⟩) a0.fTopics.length c2], EmpR] ∧ f_l20_Few_l2 (x11.fParts.drop k21) y19 y20 = some E22) (x11.fParts.length) [0, 0, 0] ⟨y4, (IntKind.i64.wrap (y5 + (IntKind.i64.wrap ((x11.fName.length : Int) + 10)))), 0, by simp, rfl, rfl, by rw [List.drop_zero]; exact hE23⟩ (by rfl) (by rfl) ?_
    rintro m25 _ _ ⟨y19, y20, k21, hk28, rfl, rfl, hl27⟩
    clear hE23 h
    cases m25 with
    | zero =>
      have h := hl27
      clear hl27
      rw [List.drop_of_length_le (by omega), f_l20_Few_l2] at h
      have hk28ge : ¬ ((k21 : Int) < (x11.fParts.length : Int)) := by omega
      refine T.seq (T.region rfl ?_)
      refine TL.run ft_cursitorlaw20_ok [0] rfl rfl ?_
      refine TL.nil (X.seq (T.seq ?_))
      refine T.no rfl (decide_eq_false hk28ge) ?_
      obtain rfl := Option.some.inj h
      replace h := hO24
      clear hO24
      try dsimp only at h
      refine T.exit (X.exs (X.exs (X.ex (X.blk (X.seq (T.region rfl ?_))))))
      refine TL.q rfl .u (Ex.add rfl rfl (by omega)) rfl ?_
      refine TL.run ft_cursitorlaw20_ok [1] rfl rfl ?_
      exact TL.nil (X.back (m' := m10) [1, 1] (by omega) ⟨y19, y20, k6 + 1, by omega, rfl, rfl, h⟩ (by rfl) (by rfl))
    | succ m25 =>
      have h := hl27
      clear hl27
      obtain ⟨x26, hxx26⟩ : ∃ x, x11.fParts[k21]? = some x := ⟨_, List.getElem?_eq_getElem (by omega)⟩
      rw [drop_cons hxx26, f_l20_Few_l2] at h
      have hk28lt : (k21 : Int) < (x11.fParts.length : Int) := by omega
      refine T.seq (T.region rfl ?_)
      refine TL.run ft_cursitorlaw20_ok [0] rfl rfl ?_
      refine TL.nil (X.seq (T.seq ?_))
      refine T.yes rfl (decide_eq_true hk28lt) ?_
      obtain ⟨gz29, oz29, rfl, z29cs, z29cl, z29cc, z29nf, z29r⟩ := RX.elem (by decide) hX17 hxx26
      obtain ⟨z29S, z29r, z29rr⟩ := z29r
      obtain ⟨A30, c31, rfl, z29s0⟩ := z29r
      have hX32 : (RX.of (sliceRd 12 Bat_rd) [.slice A30 x26.fBatches.length c31] x26.fBatches).reads w F := ⟨z29S, z29s0, z29rr⟩
      refine T.skip (X.seq (T.seq (T.block (T.seq (T.region rfl ?_)))))
      refine TL.q rfl .u (Ex.ixS (k := k21) rfl rfl rfl Try.runUnderlying74 Try.sizeOf78 (List.getElem?_eq_some_iff.1 hxx26).1) rfl ?_
      refine TL.q rfl .u (Ex.oS (us := [.int .i64 x26.fIndex, .slice A30 x26.fBatches.length c31]) 0 rfl Try.isAgg78 Try.sizeOf78 z29nf z29cc rfl rfl rfl) rfl ?_
      refine TL.alloc rfl .u Try.zeroValue78 rfl (fun b33 => ?_)
      refine TL.st0 (cs' := #[.int .i64 x26.fIndex, .slice A30 x26.fBatches.length c31]) rfl .u rfl rfl Try.sizeOf78 rfl rfl rfl rfl ?_
      refine TL.nil (X.seq (T.seq (T.seq (T.region rfl ?_))))
      refine TL.run ft_cursitorlaw20_ok [0, 1] rfl rfl ?_
      refine TL.q rfl .u (Ex.b1 0 rfl Try.isAgg46 rfl rfl) rfl ?_
      refine TL.q rfl .u (Ex.lenS rfl Try.runUnderlying46) rfl ?_
      refine TL.q rfl .u (Ex.mulw rfl rfl) rfl ?_
      refine TL.q rfl .u (Ex.addw rfl rfl) rfl ?_
      refine TL.q rfl .u (Ex.addw rfl rfl) rfl ?_
      refine TL.run ft_cursitorlaw20_ok [7] rfl rfl ?_
      refine TL.nil (X.seq (T.seq (T.region rfl ?_)))
      refine TL.run ft_cursitorlaw20_ok [0, 1] rfl rfl ?_
      by_cases c34 : (IntKind.i64.wrap (y20 + (IntKind.i64.wrap (10 + (IntKind.i64.wrap (100 * (x26.fBatches.length : Int))))))) > 2000
      · replace h := ifT c34 h
        refine TL.nil (X.seq ?_)
        refine T.yes rfl (decide_eq_true c34) ?_
        refine T.seq (T.region rfl ?_)
        refine TL.run ft_cursitorlaw20_ok [0] rfl rfl ?_
        obtain rfl := Option.some.inj h
        replace h := hO24
        clear hO24
        try dsimp only at h
        obtain rfl := Option.some.inj h
        replace h := hO9
        clear hO9
        try dsimp only at h
        obtain rfl := Option.some.inj h
        exact TL.nil (X.seq (T.ret (X.rs (X.rb (X.rs (X.rs (X.rb (X.rb (X.rs (X.rs (X.rb (X.rs (X.done1 [3] Try.results28 (RV.tm rfl) ⟨rfl, rfl, rfl⟩ (by rfl) (.inl rfl))))))))))))))
      · replace h := ifF c34 h
        refine TL.nil (X.seq ?_)
        refine T.no rfl (decide_eq_false c34) ?_
        refine T.skip (X.seq (T.seq (T.region rfl ?_)))
        refine TL.run ft_cursitorlaw20_ok [0] rfl rfl ?_
        refine TL.q rfl .u (Ex.b1 0 rfl Try.isAgg46 rfl rfl) rfl ?_
        refine TL.q rfl .u (Ex.lenS rfl Try.runUnderlying46) rfl ?_
        refine TL.run ft_cursitorlaw20_ok [3] rfl rfl ?_
        refine TL.nil (X.seq (T.block ?_))
        obtain ⟨E37, hE38, hO39⟩ := Option.bind_eq_some_iff.1 h
        have hk43len := RX.len_le hX32
        refine T.lp (fun m e Rs => ∃ (y35 : Int) (k36 : Nat), k36 + m = x26.fBatches.length ∧ e = [(2, .int .i64 y35), (3, .int .i64 (IntKind.i64.wrap (y20 + (IntKind.i64.wrap (10 + (IntKind.i64.wrap (100 * (x26.fBatches.length : Int)))))))), (15, .slice (some ⟨gz14, oz14, none⟩) a0.fTopics.length c2), (16, .int .i64 (a0.fTopics.length : Int)), (17, .int .i64 (k6 : Int)), (28, .slice (some ⟨gz29, oz29, none⟩) x11.fParts.length c16), (29, .int .i64 (x11.fParts.length : Int)), (30, .int .i64 (k21 : Int)), (44, .slice A30 x26.fBatches.length c31), (45, .int .i64 (x26.fBatches.length : Int)), (46, .int .i64 (k36 : Int))] ∧ Rs = [BlkR b33 78 #[.int .i64 x26.fIndex, .slice A30 x26.fBatches.length c31], BlkR b18 76 #[.string (bsOf x11.fName), .slice (some ⟨gz29, oz29, none⟩) x11.fParts.length c16], BlkR b3 65 #[.bool a0.fID.null, .string (bsOf a0.fID.data), .int .i64 a0.fAcks, .int .i64 a0.fTimeout, .slice (some ⟨gz14, oz14, none⟩) a0.fTopics.length c2], EmpR] ∧ f_l20_Few_l3 (x26.fBatches.drop k36) y35 = some E37) (x26.fBatches.length) [0, 0, 0, 0] ⟨y19, 0, by simp, rfl, rfl, by rw [List.drop_zero]; exact hE38⟩ (by rfl) (by rfl) ?_
        rintro m40 _ _ ⟨y35, k36, hk43, rfl, rfl, hl42⟩
        clear hE38 h
        cases m40 with
        | zero =>
          have h := hl42
          clear hl42
          rw [List.drop_of_length_le (by omega), f_l20_Few_l3] at h
          have hk43ge : ¬ ((k36 : Int) < (x26.fBatches.length : Int)) := by omega
          refine T.seq (T.region rfl ?_)
          refine TL.run ft_cursitorlaw20_ok [0] rfl rfl ?_
          refine TL.nil (X.seq (T.seq ?_))
          refine T.no rfl (decide_eq_false hk43ge) ?_
          obtain rfl := Option.some.inj h
          replace h := hO39
          clear hO39
          try dsimp only at h
          refine T.exit (X.exs (X.exs (X.ex (X.blk (X.seq (T.region rfl ?_))))))
          refine TL.q rfl .u (Ex.add rfl rfl (by omega)) rfl ?_
          refine TL.run ft_cursitorlaw20_ok [1] rfl rfl ?_
          exact TL.nil (X.back (m' := m25) [1, 1, 1] (by omega) ⟨y35, (IntKind.i64.wrap (y20 + (IntKind.i64.wrap (10 + (IntKind.i64.wrap (100 * (x26.fBatches.length : Int))))))), k21 + 1, by omega, rfl, rfl, h⟩ (by rfl) (by rfl))
        | succ m40 =>
          have h := hl42
          clear hl42
          obtain ⟨x41, hxx41⟩ : ∃ x, x26.fBatches[k36]? = some x := ⟨_, List.getElem?_eq_getElem (by omega)⟩
          rw [drop_cons hxx41, f_l20_Few_l3] at h
          have hk43lt : (k36 : Int) < (x26.fBatches.length : Int) := by omega
          refine T.seq (T.region rfl ?_)
          refine TL.run ft_cursitorlaw20_ok [0] rfl rfl ?_
          refine TL.nil (X.seq (T.seq ?_))
          refine T.yes rfl (decide_eq_true hk43lt) ?_
          obtain ⟨gz44, oz44, rfl, z44cs, z44cl, z44cc, z44nf, z44r⟩ := RX.elem (by decide) hX32 hxx41
          obtain ⟨z44S, z44r, z44rr⟩ := z44r
          obtain ⟨A45, c46, rfl, z44s0⟩ := z44r
          have hX47 : (RX.of (sliceRd 7 Rec_rd) [.slice A45 x41.fRecords.length c46] x41.fRecords).reads w F := ⟨z44S, z44s0, z44rr⟩
          refine T.skip (X.seq (T.seq (T.block (T.seq (T.region rfl ?_)))))
          refine TL.q rfl .u (Ex.ixS (k := k36) rfl rfl rfl Try.runUnderlying46 Try.sizeOf25 (List.getElem?_eq_some_iff.1 hxx41).1) rfl ?_
          refine TL.q rfl .u (Ex.oS (us := [.int .i64 x41.fBase, .int .i64 x41.fLeader, .bool x41.fAppend, .bool x41.fTxn, .bool x41.fControl, .int .i64 x41.fLast, .int .i64 x41.fFirst, .int .i64 x41.fMax, .int .i64 x41.fProducer, .int .i64 x41.fEpoch, .int .i64 x41.fSequence, .slice A45 x41.fRecords.length c46]) 0 rfl Try.isAgg25 Try.sizeOf25 z44nf z44cc rfl rfl rfl) rfl ?_
          refine TL.alloc rfl .u Try.zeroValue25 rfl (fun b48 => ?_)
          refine TL.st0 (cs' := #[.int .i64 x41.fBase, .int .i64 x41.fLeader, .bool x41.fAppend, .bool x41.fTxn, .bool x41.fControl, .int .i64 x41.fLast, .int .i64 x41.fFirst, .int .i64 x41.fMax, .int .i64 x41.fProducer, .int .i64 x41.fEpoch, .int .i64 x41.fSequence, .slice A45 x41.fRecords.length c46]) rfl .u rfl rfl Try.sizeOf25 rfl rfl rfl rfl ?_
          refine TL.nil (X.seq (T.seq (T.region rfl ?_)))
          refine TL.q rfl .u (Ex.bS (us := [.int .i64 x41.fBase, .int .i64 x41.fLeader, .bool x41.fAppend, .bool x41.fTxn, .bool x41.fControl, .int .i64 x41.fLast, .int .i64 x41.fFirst, .int .i64 x41.fMax, .int .i64 x41.fProducer, .int .i64 x41.fEpoch, .int .i64 x41.fSequence, .slice A45 x41.fRecords.length c46]) 0 rfl Try.isAgg25 Try.sizeOf25 rfl rfl rfl) rfl ?_
          obtain ⟨x49, hx50, h⟩ := Option.bind_eq_some_iff.1 h
          refine TL.ce rfl .u (.fn Try.call12 rfl) (f_l11_Small_spec x41 _ _ _ hx50) (fun _ hs => (SrcE.old hs hX47)) rfl ?_
          refine TL.run ft_cursitorlaw20_ok [2] rfl rfl ?_
          by_cases c51 : x49 = 0
          · replace h := ifT c51 h
            refine TL.nil (X.seq ?_)
            refine T.yes rfl (decide_eq_true c51) ?_
            refine T.seq (T.region rfl ?_)
            refine TL.run ft_cursitorlaw20_ok [0] rfl rfl ?_
            obtain rfl := Option.some.inj h
            replace h := hO39
            clear hO39
            try dsimp only at h
            obtain rfl := Option.some.inj h
            replace h := hO24
            clear hO24
            try dsimp only at h
            obtain rfl := Option.some.inj h
            replace h := hO9
            clear hO9
            try dsimp only at h
            obtain rfl := Option.some.inj h
            exact TL.nil (X.seq (T.ret (X.rb (X.rs (X.rs (X.rb (X.rb (X.rs (X.rs (X.rb (X.rb (X.rs (X.rs (X.rb (X.rs (X.done1 [4] Try.results28 (RV.tm rfl) ⟨rfl, rfl, rfl⟩ (by rfl) (.inl rfl)))))))))))))))))
          · replace h := ifF c51 h
            refine TL.nil (X.seq ?_)
            refine T.no rfl (decide_eq_false c51) ?_
            refine T.skip (X.blk (X.seq (T.region rfl ?_)))
            refine TL.q rfl .u (Ex.add rfl rfl (by omega)) rfl ?_
            refine TL.run ft_cursitorlaw20_ok [1] rfl rfl ?_
            exact TL.nil (X.back (m' := m40) [1, 1, 1, 1] (by omega) ⟨y35, k36 + 1, by omega, rfl, rfl, h⟩ (by rfl) (by rfl))
def f_l20_Of_l2 : List ProducePart → List R20Part → Option (List R20Part)
  | [], y24 => some y24
  | x31 :: xs, y24 => if (y24.length + 1) * 32 ≤ 140737488355328 then (f_l20_Of_l2 xs (y24 ++ [(⟨x31.fIndex, x31.fBatches⟩ : R20Part)])) else none
def f_l20_Of_l1 : List ProduceTopic → List R20Topic → Option (List R20Topic)
  | [], y7 => some y7
  | x14 :: xs, y7 => (f_l20_Of_l2 x14.fParts []).bind fun y44 => if (y7.length + 1) * 40 ≤ 140737488355328 then (f_l20_Of_l1 xs (y7 ++ [(⟨x14.fName, y44⟩ : R20Topic)])) else none
def f_l20_Of (a0 : ProduceRequest) : Option (R20Request) := (f_l20_Of_l1 a0.fTopics []).bind fun y56 => some (⟨a0.fID, a0.fAcks, a0.fTimeout, y56⟩ : R20Request)
set_option maxRecDepth 100000 in
set_option maxHeartbeats 4000000 in
theorem f_l20_Of_spec (a0 : ProduceRequest) (A1 : Option Addr) (c2 : Nat) (r : R20Request) (h : f_l20_Of a0 = some r) : SpecS Try.prog 31 #[.agg #[.bool a0.fID.null, .string (bsOf a0.fID.data), .int .i64 a0.fAcks, .int .i64 a0.fTimeout, .slice A1 a0.fTopics.length c2]] (RX.of (sliceRd 2 ProduceTopic_rd) [.slice A1 a0.fTopics.length c2] a0.fTopics) EmpR (fun v A' L => ∃ (A59 : Option Addr) (c60 : Nat), v = .agg #[.bool r.fID.null, .string (bsOf r.fID.data), .int .i64 r.fAcks, .int .i64 r.fTimeout, .slice A59 r.fTopics.length c60] ∧ A' = EmpR ∧ L = [(⟨_, sliceRd 2 R20Topic_rd, [.slice A59 r.fTopics.length c60], r.fTopics⟩ : RO)]) := by
  refine enterS Try.func31 rfl Try.ntmps31 rfl ?_
  intro F w S hS hSF
  have hX : (RX.of (sliceRd 2 ProduceTopic_rd) [.slice A1 a0.fTopics.length c2] a0.fTopics).reads w F := ⟨S, hS, hSF⟩
  unfold f_l20_Of at h
  refine T.seq (T.region rfl ?_)
  refine TL.box rfl .u rfl rfl (fun b3 => ?_)
  refine TL.alloc rfl .u Try.zeroValue71 rfl (fun b4 => ?_)
  refine TL.nil (X.seq (T.seq (T.region rfl ?_)))
  refine TL.run ft_cursitorlaw20_ok [0] rfl rfl ?_
  refine TL.q rfl .u (Ex.bS (us := [.bool a0.fID.null, .string (bsOf a0.fID.data)]) 1 rfl Try.isAgg30 Try.sizeOf30 rfl rfl rfl) rfl ?_
  refine TL.run ft_cursitorlaw20_ok [2] rfl rfl ?_
  refine TL.q rfl .u (Ex.b1 1 rfl Try.isAgg3 rfl rfl) rfl ?_
  refine TL.run ft_cursitorlaw20_ok [4] rfl rfl ?_
  refine TL.q rfl .u (Ex.b1 1 rfl Try.isAgg3 rfl rfl) rfl ?_
  refine TL.q rfl .u (Ex.bld (cells := #[.bool a0.fID.null, .string (bsOf a0.fID.data), .int .i64 a0.fAcks, .int .i64 a0.fTimeout, .slice none 0 0]) bok_cursitorlaw20_71 rfl (by kernel_rfl)) rfl ?_
  refine TL.alloc rfl .u Try.zeroValue71 rfl (fun b5 => ?_)
  refine TL.st0 (cs' := #[.bool a0.fID.null, .string (bsOf a0.fID.data), .int .i64 a0.fAcks, .int .i64 a0.fTimeout, .slice none 0 0]) rfl .u rfl rfl Try.sizeOf71 rfl rfl rfl rfl ?_
  refine TL.nil (X.seq (T.seq (T.seq (T.region rfl ?_))))
  refine TL.run ft_cursitorlaw20_ok [0] rfl rfl ?_
  refine TL.q rfl .u (Ex.b1 2 rfl Try.isAgg63 rfl rfl) rfl ?_
  refine TL.q rfl .u (Ex.lenS rfl Try.runUnderlying63) rfl ?_
  refine TL.run ft_cursitorlaw20_ok [3] rfl rfl ?_
  refine TL.nil (X.seq (T.block ?_))
  refine T.nilrow 129 2 (oldRd w S R20Topic_rd) ?_
  obtain ⟨E10, hE11, hO12⟩ := Option.bind_eq_some_iff.1 h
  have hk16len := RX.len_le hX
  refine T.lp (fun m e Rs => ∃ (k6 : Nat) (y7 : List R20Topic) (A8 : Option Addr) (c9 : Nat), k6 + m = a0.fTopics.length ∧ e = [(2, .pointer (some ⟨b4, 0, none⟩)), (3, .pointer (some ⟨b5, 0, none⟩)), (17, .slice A1 a0.fTopics.length c2), (18, .int .i64 (a0.fTopics.length : Int)), (19, .int .i64 (k6 : Int))] ∧ Rs = [OwnR 129 2 (oldRd w S R20Topic_rd) (.slice A8 y7.length c9) y7, BlkR b5 71 #[.bool a0.fID.null, .string (bsOf a0.fID.data), .int .i64 a0.fAcks, .int .i64 a0.fTimeout, .slice A8 y7.length c9], BlkR b4 71 #[.bool false, .string ⟨#[]⟩, .int .i64 0, .int .i64 0, .slice none 0 0], BlkR b3 65 #[.bool a0.fID.null, .string (bsOf a0.fID.data), .int .i64 a0.fAcks, .int .i64 a0.fTimeout, .slice A1 a0.fTopics.length c2], EmpR] ∧ f_l20_Of_l1 (a0.fTopics.drop k6) y7 = some E10) (a0.fTopics.length) [0, 0, 0, 0, 0] ⟨0, [], none, 0, by simp, rfl, rfl, by rw [List.drop_zero]; exact hE11⟩ (by rfl) (by rfl) ?_
  rintro m13 _ _ ⟨k6, y7, A8, c9, hk16, rfl, rfl, hl15⟩
  clear hE11 h
  cases m13 with
  | zero =>
    have h := hl15
    clear hl15
    rw [List.drop_of_length_le (by omega), f_l20_Of_l1] at h
    have hk16ge : ¬ ((k6 : Int) < (a0.fTopics.length : Int)) := by omega
    refine T.seq (T.region rfl ?_)
    refine TL.run ft_cursitorlaw20_ok [0] rfl rfl ?_
    refine TL.nil (X.seq (T.seq ?_))
    refine T.no rfl (decide_eq_false hk16ge) ?_
    obtain rfl := Option.some.inj h
    replace h := hO12
    clear hO12
    try dsimp only at h
    refine T.exit (X.exs (X.exs (X.ex (X.seq (T.seq (T.region rfl ?_))))))
    refine TL.q rfl .u (Ex.bS (us := [.bool a0.fID.null, .string (bsOf a0.fID.data), .int .i64 a0.fAcks, .int .i64 a0.fTimeout, .slice A8 y7.length c9]) 1 rfl Try.isAgg71 Try.sizeOf71 rfl rfl rfl) rfl ?_
    refine TL.st2 (cs' := #[.bool a0.fID.null, .string (bsOf a0.fID.data), .int .i64 a0.fAcks, .int .i64 a0.fTimeout, .slice A8 y7.length c9]) rfl .u rfl rfl Try.sizeOf71 rfl rfl rfl rfl ?_
    obtain rfl := Option.some.inj h
    refine TL.nil (X.seq (T.ret ?_))
    refine X.shutO (by decide) 0 rfl ?_
    refine X.sel [0, 0, 0, 0, 0] rfl ?_
    exact X.done1 [4, 0] Try.results31 (RV.cS (us := #[.bool a0.fID.null, .string (bsOf a0.fID.data), .int .i64 a0.fAcks, .int .i64 a0.fTimeout, .slice A8 y7.length c9]) 2 rfl Try.isAgg71 Try.sizeOf71 rfl rfl) ⟨_, ⟨_, _, rfl, rfl, rfl⟩, rfl⟩ (by rfl) (.inl rfl)
  | succ m13 =>
    have h := hl15
    clear hl15
    obtain ⟨x14, hxx14⟩ : ∃ x, a0.fTopics[k6]? = some x := ⟨_, List.getElem?_eq_getElem (by omega)⟩
    rw [drop_cons hxx14, f_l20_Of_l1] at h
    have hk16lt : (k6 : Int) < (a0.fTopics.length : Int) := by omega
    refine T.seq (T.region rfl ?_)
    refine TL.run ft_cursitorlaw20_ok [0] rfl rfl ?_
    refine TL.nil (X.seq (T.seq ?_))
    refine T.yes rfl (decide_eq_true hk16lt) ?_
    obtain ⟨gz17, oz17, rfl, z17cs, z17cl, z17cc, z17nf, z17r⟩ := RX.elemS (by decide) hS hSF hxx14
    obtain ⟨A18, c19, rfl, z17s0⟩ := z17r
    have hX20 : (RX.of (sliceRd 2 ProducePart_rd) [.slice A18 x14.fParts.length c19] x14.fParts).reads w F := ⟨S, z17s0, hSF⟩
    refine T.skip (X.seq (T.seq (T.block (T.seq (T.region rfl ?_)))))
    refine TL.q rfl .u (Ex.ixS (k := k6) rfl rfl rfl Try.runUnderlying63 Try.sizeOf76 (List.getElem?_eq_some_iff.1 hxx14).1) rfl ?_
    refine TL.q rfl .u (Ex.oS (us := [.string (bsOf x14.fName), .slice A18 x14.fParts.length c19]) 0 rfl Try.isAgg76 Try.sizeOf76 z17nf z17cc rfl rfl rfl) rfl ?_
    refine TL.alloc rfl .u Try.zeroValue76 rfl (fun b21 => ?_)
    refine TL.st0 (cs' := #[.string (bsOf x14.fName), .slice A18 x14.fParts.length c19]) rfl .u rfl rfl Try.sizeOf76 rfl rfl rfl rfl ?_
    refine TL.nil (X.seq (T.seq (T.region rfl ?_)))
    refine TL.run ft_cursitorlaw20_ok [0] rfl rfl ?_
    refine TL.q rfl .u (Ex.b1 0 rfl Try.isAgg9 rfl rfl) rfl ?_
    refine TL.q rfl .u (Ex.bld (cells := #[.string (bsOf x14.fName), .slice none 0 0]) bok_cursitorlaw20_129 rfl (by kernel_rfl)) rfl ?_
    refine TL.alloc rfl .u Try.zeroValue129 rfl (fun b22 => ?_)
    refine TL.st0 (cs' := #[.string (bsOf x14.fName), .slice none 0 0]) rfl .u rfl rfl Try.sizeOf129 rfl rfl rfl rfl ?_
    refine TL.nil (X.seq (T.seq (T.seq (T.region rfl ?_))))
    refine TL.run ft_cursitorlaw20_ok [0] rfl rfl ?_
    refine TL.q rfl .u (Ex.b1 1 rfl Try.isAgg74 rfl rfl) rfl ?_
    refine TL.q rfl .u (Ex.lenS rfl Try.runUnderlying74) rfl ?_
    refine TL.run ft_cursitorlaw20_ok [3] rfl rfl ?_
    refine TL.nil (X.seq (T.block ?_))
    refine T.nilrow 130 2 (oldRd w S R20Part_rd) ?_
    obtain ⟨E27, hE28, hO29⟩ := Option.bind_eq_some_iff.1 h
    have hk33len := RX.len_le hX20
    refine T.lp (fun m e Rs => ∃ (k23 : Nat) (y24 : List R20Part) (A25 : Option Addr) (c26 : Nat), k23 + m = x14.fParts.length ∧ e = [(2, .pointer (some ⟨b4, 0, none⟩)), (3, .pointer (some ⟨b5, 0, none⟩)), (6, .pointer (some ⟨b22, 0, none⟩)), (17, .slice (some ⟨gz17, oz17, none⟩) a0.fTopics.length c2), (18, .int .i64 (a0.fTopics.length : Int)), (19, .int .i64 (k6 : Int)), (27, .slice A18 x14.fParts.length c19), (28, .int .i64 (x14.fParts.length : Int)), (29, .int .i64 (k23 : Int))] ∧ Rs = [OwnR 130 2 (oldRd w S R20Part_rd) (.slice A25 y24.length c26) y24, BlkR b22 129 #[.string (bsOf x14.fName), .slice A25 y24.length c26], BlkR b21 76 #[.string (bsOf x14.fName), .slice A18 x14.fParts.length c19], OwnR 129 2 (oldRd w S R20Topic_rd) (.slice A8 y7.length c9) y7, BlkR b5 71 #[.bool a0.fID.null, .string (bsOf a0.fID.data), .int .i64 a0.fAcks, .int .i64 a0.fTimeout, .slice A8 y7.length c9], BlkR b4 71 #[.bool false, .string ⟨#[]⟩, .int .i64 0, .int .i64 0, .slice none 0 0], BlkR b3 65 #[.bool a0.fID.null, .string (bsOf a0.fID.data), .int .i64 a0.fAcks, .int .i64 a0.fTimeout, .slice (some ⟨gz17, oz17, none⟩) a0.fTopics.length c2], EmpR] ∧ f_l20_Of_l2 (x14.fParts.drop k23) y24 = some E27) (x14.fParts.length) [0, 0, 0, 0, 0, 0, 0, 0] ⟨0, [], none, 0, by simp, rfl, rfl, by rw [List.drop_zero]; exact hE28⟩ (by rfl) (by rfl) ?_
    rintro m30 _ _ ⟨k23, y24, A25, c26, hk33, rfl, rfl, hl32⟩
    clear hE28 h
    cases m30 with
    | zero =>
      have h := hl32
      clear hl32
      rw [List.drop_of_length_le (by omega), f_l20_Of_l2] at h
      have hk33ge : ¬ ((k23 : Int) < (x14.fParts.length : Int)) := by omega
      refine T.seq (T.region rfl ?_)
      refine TL.run ft_cursitorlaw20_ok [0] rfl rfl ?_
      refine TL.nil (X.seq (T.seq ?_))
      refine T.no rfl (decide_eq_false hk33ge) ?_
      obtain rfl := Option.some.inj h
      replace h := hO29
      clear hO29
      try dsimp only at h
      refine T.exit (X.exs (X.exs (X.ex (X.seq (T.region rfl ?_)))))
      refine TL.run ft_cursitorlaw20_ok [0] rfl rfl ?_
      refine TL.q rfl .u (Ex.b1 4 rfl Try.isAgg69 rfl rfl) rfl ?_
      refine TL.q rfl .u (Ex.bS (us := [.string (bsOf x14.fName), .slice A25 y24.length c26]) 1 rfl Try.isAgg129 Try.sizeOf129 rfl rfl rfl) rfl ?_
      refine TL.lit (cells := #[.string (bsOf x14.fName), .slice A25 y24.length c26]) rfl .u sok_cursitorlaw20_69_1 rfl (by rfl) rfl (fun b51 => ?_)
      replace h := guard_some h
      obtain ⟨c52, h⟩ := h
      refine TL.app2 3 0 rfl .u (us := [.string (bsOf x14.fName), .slice A25 y24.length c26]) (u := (⟨x14.fName, y24⟩ : R20Topic)) (l := y7) (E := (oldRd w S R20Topic_rd)) Try.underlying69 inf_cursitorlaw20_129 rfl (by decide) rfl rfl rfl rfl rfl rfl rfl (fun w1 G1 hG W h1 h2 => ⟨_, _, rfl, (fun w G h => xold_own (by decide) w G h) w1 G1 hG W h1 h2⟩) (by have hq := c52; omega) (by have hq := c52; omega) rfl (fun A53 c54 => ?_)
      refine TL.sel [0, 0, 0, 0, 0, 0, 0] rfl ?_
      refine TL.run ft_cursitorlaw20_ok [5] rfl rfl ?_
      refine TL.st3 (cs' := #[.bool a0.fID.null, .string (bsOf a0.fID.data), .int .i64 a0.fAcks, .int .i64 a0.fTimeout, .slice A53 (y7 ++ [(⟨x14.fName, y24⟩ : R20Topic)]).length c54]) rfl .u rfl rfl Try.sizeOf69 rfl rfl rfl rfl ?_
      refine TL.nil (X.blk (X.seq (T.region rfl ?_)))
      refine TL.q rfl .u (Ex.add rfl rfl (by omega)) rfl ?_
      refine TL.run ft_cursitorlaw20_ok [1] rfl rfl ?_
      exact TL.nil (X.back (m' := m13) [0, 2, 2, 2, 2] (by omega) ⟨k6 + 1, (y7 ++ [(⟨x14.fName, y24⟩ : R20Topic)]), A53, c54, by omega, rfl, rfl, h⟩ (by rfl) (by rfl))
    | succ m30 =>
      have h := hl32
      clear hl32
      obtain ⟨x31, hxx31⟩ : ∃ x, x14.fParts[k23]? = some x := ⟨_, List.getElem?_eq_getElem (by omega)⟩
      rw [drop_cons hxx31, f_l20_Of_l2] at h
      have hk33lt : (k23 : Int) < (x14.fParts.length : Int) := by omega
      refine T.seq (T.region rfl ?_)
      refine TL.run ft_cursitorlaw20_ok [0] rfl rfl ?_
      refine TL.nil (X.seq (T.seq ?_))
      refine T.yes rfl (decide_eq_true hk33lt) ?_
      obtain ⟨gz34, oz34, rfl, z34cs, z34cl, z34cc, z34nf, z34r⟩ := RX.elemS (by decide) z17s0 hSF hxx31
      obtain ⟨A35, c36, rfl, z34s0⟩ := z34r
      have hX37 : (RX.of (sliceRd 12 Bat_rd) [.slice A35 x31.fBatches.length c36] x31.fBatches).reads w F := ⟨S, z34s0, hSF⟩
      refine T.skip (X.seq (T.seq (T.block (T.seq (T.region rfl ?_)))))
      refine TL.q rfl .u (Ex.ixS (k := k23) rfl rfl rfl Try.runUnderlying74 Try.sizeOf78 (List.getElem?_eq_some_iff.1 hxx31).1) rfl ?_
      refine TL.q rfl .u (Ex.oS (us := [.int .i64 x31.fIndex, .slice A35 x31.fBatches.length c36]) 0 rfl Try.isAgg78 Try.sizeOf78 z34nf z34cc rfl rfl rfl) rfl ?_
      refine TL.alloc rfl .u Try.zeroValue78 rfl (fun b38 => ?_)
      refine TL.st0 (cs' := #[.int .i64 x31.fIndex, .slice A35 x31.fBatches.length c36]) rfl .u rfl rfl Try.sizeOf78 rfl rfl rfl rfl ?_
      refine TL.nil (X.seq (T.region rfl ?_))
      refine TL.run ft_cursitorlaw20_ok [0] rfl rfl ?_
      refine TL.q rfl .u (Ex.b1 2 rfl Try.isAgg127 rfl rfl) rfl ?_
      refine TL.q rfl .u (Ex.bS (us := [.int .i64 x31.fIndex, .slice A35 x31.fBatches.length c36]) 0 rfl Try.isAgg78 Try.sizeOf78 rfl rfl rfl) rfl ?_
      refine TL.lit (cells := #[.int .i64 x31.fIndex, .slice A35 x31.fBatches.length c36]) rfl .u sok_cursitorlaw20_127_1 rfl (by rfl) rfl (fun b39 => ?_)
      replace h := guard_some h
      obtain ⟨c40, h⟩ := h
      refine TL.app1 1 rfl .u (us := [.int .i64 x31.fIndex, .slice A35 x31.fBatches.length c36]) (u := (⟨x31.fIndex, x31.fBatches⟩ : R20Part)) (l := y24) (E := (oldRd w S R20Part_rd)) Try.underlying127 inf_cursitorlaw20_130 rfl (by decide) rfl rfl rfl rfl rfl rfl (fun _ _ => old_in ⟨_, _, rfl, z34s0⟩) (by have hq := c40; omega) (by have hq := c40; omega) rfl (fun A41 c42 => ?_)
      refine TL.sel [0, 0, 0, 0, 0, 0, 0, 0, 0] rfl ?_
      refine TL.run ft_cursitorlaw20_ok [5] rfl rfl ?_
      refine TL.st2 (cs' := #[.string (bsOf x14.fName), .slice A41 (y24 ++ [(⟨x31.fIndex, x31.fBatches⟩ : R20Part)]).length c42]) rfl .u rfl rfl Try.sizeOf127 rfl rfl rfl rfl ?_
      refine TL.nil (X.blk (X.seq (T.region rfl ?_)))
      refine TL.q rfl .u (Ex.add rfl rfl (by omega)) rfl ?_
      refine TL.run ft_cursitorlaw20_ok [1] rfl rfl ?_
      exact TL.nil (X.back (m' := m30) [1, 1, 1, 1, 1, 1, 1, 1] (by omega) ⟨k23 + 1, (y24 ++ [(⟨x31.fIndex, x31.fBatches⟩ : R20Part)]), A41, c42, by omega, rfl, rfl, h⟩ (by rfl) (by rfl))
def f_l20_ProduceSame (a0 : ProduceRequest) (a1 : ProduceRequest) : Option (Bool) := (f_l20_speaks).bind fun x7 => if x7 = true then (((f_l20_Few a0).bind fun x30 => if x30 = 0 then some true else ((f_l20_Few a1).bind fun x33 => if x33 = 0 then some true else ((f_produce_Same a0 a1).bind fun x36 => (f_l20_Of a0).bind fun x38 => (f_l20_Of a1).bind fun x42 => (f_r20_Same x38 x42).bind fun x46 => some (x36 == x46)))).bind fun y28 => some y28) else none
set_option maxRecDepth 100000 in
set_option maxHeartbeats 4000000 in
theorem f_l20_ProduceSame_spec (a0 : ProduceRequest) (A1 : Option Addr) (c2 : Nat) (a1 : ProduceRequest) (A3 : Option Addr) (c4 : Nat) (r : Bool) (h : f_l20_ProduceSame a0 a1 = some r) : SpecX Try.prog 8 #[.agg #[.bool a0.fID.null, .string (bsOf a0.fID.data), .int .i64 a0.fAcks, .int .i64 a0.fTimeout, .slice A1 a0.fTopics.length c2], .agg #[.bool a1.fID.null, .string (bsOf a1.fID.data), .int .i64 a1.fAcks, .int .i64 a1.fTimeout, .slice A3 a1.fTopics.length c4]] (RX.and (RX.of (sliceRd 2 ProduceTopic_rd) [.slice A1 a0.fTopics.length c2] a0.fTopics) (RX.of (sliceRd 2 ProduceTopic_rd) [.slice A3 a1.fTopics.length c4] a1.fTopics)) (EmpR) (fun v A' N => v = .bool r ∧ A' = EmpR ∧ N = []) := by
  refine enterA Try.func8 rfl Try.ntmps8 rfl ?_
  intro F w hX
  obtain ⟨S, hS, hSF⟩ := hX
  have hX : (RX.and (RX.of (sliceRd 2 ProduceTopic_rd) [.slice A1 a0.fTopics.length c2] a0.fTopics) (RX.of (sliceRd 2 ProduceTopic_rd) [.slice A3 a1.fTopics.length c4] a1.fTopics)).reads w F := ⟨S, hS, hSF⟩
  unfold f_l20_ProduceSame at h
  refine T.seq (T.region rfl ?_)
  refine TL.box rfl .u rfl rfl (fun b5 => ?_)
  refine TL.box rfl .u rfl rfl (fun b6 => ?_)
  refine TL.run ft_cursitorlaw20_ok [2] rfl rfl ?_
  obtain ⟨x7, hx8, h⟩ := Option.bind_eq_some_iff.1 h
  refine TL.nil (X.seq (T.seq (T.seq (T.region rfl ?_))))
  refine TL.ce rfl .u (.fn Try.call27 rfl) (f_l20_speaks_spec _ hx8) (fun _ hs => (RX.reads_triv _ _)) rfl ?_
  refine TL.run ft_cursitorlaw20_ok [1] rfl rfl ?_
  by_cases c9 : x7 = true
  · replace h := ifT c9 h
    refine TL.nil (X.seq ?_)
    refine T.no rfl (bn_f c9) ?_
    refine T.skip (X.seq (T.seq ?_))
    obtain ⟨y28, h, hk29⟩ := Option.bind_eq_some_iff.1 h
    refine T.jq (fun e Rs => e = [(4, .bool y28)] ∧ Rs = [BlkR b6 65 #[.bool a1.fID.null, .string (bsOf a1.fID.data), .int .i64 a1.fAcks, .int .i64 a1.fTimeout, .slice A3 a1.fTopics.length c4], BlkR b5 65 #[.bool a0.fID.null, .string (bsOf a0.fID.data), .int .i64 a0.fAcks, .int .i64 a0.fTimeout, .slice A1 a0.fTopics.length c2], EmpR]) ?_ ?_
    · clear hk29
      refine T.draw (.q 0 (.e 1 (.q 2 (.q 3 (.q 4 (.e 5 (.q 6 (.q 7 (.q 8 (.q 9 (.q 10 (.q 12 (.q 14 (.e 11 (.e 13 (.e 15 (.e 16 (.q 17 (.q 18 (.q 19 .nil)))))))))))))))))))) [0, 0, 0] rfl mix_cursitorlaw20 (NoP.seq (NoP.seq np_post)) (by kernel_rfl) ?_
      refine TD.q rfl .u (Ex.bS (us := [.bool a0.fID.null, .string (bsOf a0.fID.data), .int .i64 a0.fAcks, .int .i64 a0.fTimeout, .slice A1 a0.fTopics.length c2]) 1 rfl Try.isAgg65 Try.sizeOf65 rfl rfl rfl) rfl ?_
      obtain ⟨x30, hx31, h⟩ := Option.bind_eq_some_iff.1 h
      refine TD.ce rfl .u (.fn Try.call28 rfl) (f_l20_Few_spec a0 _ _ _ hx31) (fun _ hs => (SrcE.old hs (RX.reads_left hX))) rfl [0, 0, 0] (rfl) ?_
      by_cases c32 : x30 = 0
      · replace h := ifT c32 h
        refine TD.run ft_cursitorlaw20_ok [2, 3] rfl rfl ?_
        refine TD.no rfl (.gn rfl rfl (decide_eq_true c32)) rfl ?_
        refine TD.noe rfl (.gn rfl rfl (decide_eq_true c32)) rfl [0, 0, 0] rfl ?_
        refine TD.no rfl (.gn rfl rfl (decide_eq_true c32)) rfl ?_
        refine TD.q rfl .u (Ex.py rfl (decide_eq_true c32) rfl) rfl ?_
        refine TD.run ft_cursitorlaw20_ok [8] rfl rfl ?_
        refine TD.no rfl (.gn rfl rfl rfl) rfl ?_
        refine TD.no rfl (.gn rfl rfl rfl) rfl ?_
        refine TD.no rfl (.gn rfl rfl rfl) rfl ?_
        refine TD.no rfl (.gn rfl rfl rfl) rfl ?_
        refine TD.noe rfl (.gn rfl rfl rfl) rfl [0, 0, 0] rfl ?_
        refine TD.noe rfl (.gn rfl rfl rfl) rfl [0, 0, 0] rfl ?_
        refine TD.noe rfl (.gn rfl rfl rfl) rfl [0, 0, 0] rfl ?_
        refine TD.noe rfl (.gn rfl rfl rfl) rfl [0, 0, 0] rfl ?_
        refine TD.no rfl (.gn rfl rfl rfl) rfl ?_
        refine TD.q rfl .u (Ex.py rfl rfl rfl) rfl ?_
        refine TD.run ft_cursitorlaw20_ok [19] rfl rfl ?_
        cases h
        exact TD.nil (X.jq [0, 0, 0] ⟨rfl, rfl⟩ (by rfl) (by rfl))
      · replace h := ifF c32 h
        refine TD.run ft_cursitorlaw20_ok [2, 3] rfl rfl ?_
        refine TD.q rfl (.g rfl rfl (decide_eq_false c32)) (Ex.bS (us := [.bool a1.fID.null, .string (bsOf a1.fID.data), .int .i64 a1.fAcks, .int .i64 a1.fTimeout, .slice A3 a1.fTopics.length c4]) 0 rfl Try.isAgg65 Try.sizeOf65 rfl rfl rfl) rfl ?_
        obtain ⟨x33, hx34, h⟩ := Option.bind_eq_some_iff.1 h
        refine TD.ce rfl (.g rfl rfl (decide_eq_false c32)) (.fn Try.call28 rfl) (f_l20_Few_spec a1 _ _ _ hx34) (fun _ hs => (SrcE.old hs (RX.reads_right hX))) rfl [0, 0, 0] (rfl) ?_
        refine TD.q rfl (.g rfl rfl (decide_eq_false c32)) (Ex.ft ft_cursitorlaw20_ok rfl) rfl ?_
        refine TD.q rfl .u (Ex.pn rfl (decide_eq_false c32) rfl) rfl ?_
        by_cases c35 : x33 = 0
        · replace h := ifT c35 h
          refine TD.run ft_cursitorlaw20_ok [8] rfl rfl ?_
          refine TD.no rfl (.gn rfl rfl (decide_eq_true c35)) rfl ?_
          refine TD.no rfl (.gn rfl rfl (decide_eq_true c35)) rfl ?_
          refine TD.no rfl (.gn rfl rfl (decide_eq_true c35)) rfl ?_
          refine TD.no rfl (.gn rfl rfl (decide_eq_true c35)) rfl ?_
          refine TD.noe rfl (.gn rfl rfl (decide_eq_true c35)) rfl [0, 0, 0] rfl ?_
          refine TD.noe rfl (.gn rfl rfl (decide_eq_true c35)) rfl [0, 0, 0] rfl ?_
          refine TD.noe rfl (.gn rfl rfl (decide_eq_true c35)) rfl [0, 0, 0] rfl ?_
          refine TD.noe rfl (.gn rfl rfl (decide_eq_true c35)) rfl [0, 0, 0] rfl ?_
          refine TD.no rfl (.gn rfl rfl (decide_eq_true c35)) rfl ?_
          refine TD.q rfl .u (Ex.py rfl (decide_eq_true c35) rfl) rfl ?_
          refine TD.run ft_cursitorlaw20_ok [19] rfl rfl ?_
          cases h
          exact TD.nil (X.jq [0, 0, 0] ⟨rfl, rfl⟩ (by rfl) (by rfl))
        · replace h := ifF c35 h
          refine TD.run ft_cursitorlaw20_ok [8] rfl rfl ?_
          refine TD.q rfl (.g rfl rfl (decide_eq_false c35)) (Ex.bS (us := [.bool a0.fID.null, .string (bsOf a0.fID.data), .int .i64 a0.fAcks, .int .i64 a0.fTimeout, .slice A1 a0.fTopics.length c2]) 1 rfl Try.isAgg65 Try.sizeOf65 rfl rfl rfl) rfl ?_
          refine TD.q rfl (.g rfl rfl (decide_eq_false c35)) (Ex.bS (us := [.bool a1.fID.null, .string (bsOf a1.fID.data), .int .i64 a1.fAcks, .int .i64 a1.fTimeout, .slice A3 a1.fTopics.length c4]) 0 rfl Try.isAgg65 Try.sizeOf65 rfl rfl rfl) rfl ?_
          refine TD.q rfl (.g rfl rfl (decide_eq_false c35)) (Ex.bS (us := [.bool a0.fID.null, .string (bsOf a0.fID.data), .int .i64 a0.fAcks, .int .i64 a0.fTimeout, .slice A1 a0.fTopics.length c2]) 1 rfl Try.isAgg65 Try.sizeOf65 rfl rfl rfl) rfl ?_
          refine TD.q rfl (.g rfl rfl (decide_eq_false c35)) (Ex.bS (us := [.bool a1.fID.null, .string (bsOf a1.fID.data), .int .i64 a1.fAcks, .int .i64 a1.fTimeout, .slice A3 a1.fTopics.length c4]) 0 rfl Try.isAgg65 Try.sizeOf65 rfl rfl rfl) rfl ?_
          obtain ⟨x36, hx37, h⟩ := Option.bind_eq_some_iff.1 h
          refine TD.ce rfl (.g rfl rfl (decide_eq_false c35)) (.fn Try.call29 rfl) (f_produce_Same_spec a0 _ _ a1 _ _ _ hx37) (fun _ hs => (RX.reads_and (SrcE.old hs (RX.reads_left hX)) (SrcE.old hs (RX.reads_right hX)))) rfl [0, 0, 0] (rfl) ?_
          obtain ⟨x38, hx41, h⟩ := Option.bind_eq_some_iff.1 h
          refine TD.cso  rfl (.g rfl rfl (decide_eq_false c35)) (.fn Try.call31 rfl) (f_l20_Of_spec a0 _ _ _ hx41) hS.1 hSF rfl [1, 1, 1] ?_ ?_
          · rintro _ _ _ ⟨A39, c40, rfl, rfl, rfl⟩
            rfl
          rintro _ _ _ ⟨A39, c40, rfl, rfl, rfl⟩
          refine TD.sel [0, 0, 0, 0] rfl ?_
          obtain ⟨x42, hx45, h⟩ := Option.bind_eq_some_iff.1 h
          refine TD.cso  rfl (.g rfl rfl (decide_eq_false c35)) (.fn Try.call31 rfl) (f_l20_Of_spec a1 _ _ _ hx45) hS.2 hSF rfl [2, 2, 2] ?_ ?_
          · rintro _ _ _ ⟨A43, c44, rfl, rfl, rfl⟩
            rfl
          rintro _ _ _ ⟨A43, c44, rfl, rfl, rfl⟩
          refine TD.sel [0, 0, 0, 0, 0] rfl ?_
          obtain ⟨x46, hx47, h⟩ := Option.bind_eq_some_iff.1 h
          refine TD.ce rfl (.g rfl rfl (decide_eq_false c35)) (.fn Try.call30 rfl) (f_r20_Same_spec x38 _ _ x42 _ _ _ hx47) (fun _ hs => (RX.reads_and (SrcE.oldres 1 hs rfl xold_rd hSF) (SrcE.oldres 0 hs rfl xold_rd hSF))) rfl [2, 2, 2] (rfl) ?_
          refine TD.q rfl (.g rfl rfl (decide_eq_false c35)) (Ex.bEq rfl rfl rfl rfl Try.runUnderlying4) rfl ?_
          refine TD.q rfl .u (Ex.pn rfl (decide_eq_false c35) rfl) rfl ?_
          refine TD.run ft_cursitorlaw20_ok [19] rfl rfl ?_
          cases h
          exact TD.nil (X.jq [2, 2, 2] ⟨rfl, rfl⟩ (by rfl) (by rfl))
    · rintro _ _ ⟨rfl, rfl⟩
      clear h
      have h := hk29
      clear hk29
      try dsimp only at h
      obtain rfl := Option.some.inj h
      exact X.seq (T.ret (X.done1 [2] Try.results8 (RV.tm rfl) ⟨rfl, rfl, rfl⟩ (by rfl) (.inl rfl)))
  · replace h := ifF c9 h
    replace c9 := eq_false_of_ne_true c9
    refine TL.nil (X.seq ?_)
    refine T.yes rfl (bn_t c9) ?_
    exact nomatch h
end Go.Proofs.Ytcoppaggpbfcmaa.Sl
