/- ProduceBatches: for every input the law returns true, and its arguments read behind the call as they did before. -/
import Derived.Test.YtcoppaggpbfcmaaRows
import Derived.WalkKit
import Derived.ProofKit
import Derived.OpenShut
import Derived.ShutString
import Derived.ChangeOld
import Derived.Below
import Derived.SizedLaws
import Derived.Test.YtcoppaggpbfcmaaK4
namespace Go.Proofs.Ytcoppaggpbfcmaa.Sl
open Go.RowKit
set_option linter.unusedVariables false
set_option linter.unusedSimpArgs false
set_option maxRecDepth 100000
def ft_produce : FTab := [(25, 3, 3), (25, 4, 4), (30, 0, 0), (30, 1, 1), (65, 0, 0), (65, 1, 2), (65, 2, 3), (65, 3, 4), (76, 0, 0), (76, 1, 1), (78, 0, 0), (78, 1, 1)]
theorem ft_produce_ok : (ft_produce).OK Try.prog := ⟨FOK.mk Try.runUnderlying25 rfl Try.sizeOf4 rfl, FOK.mk Try.runUnderlying25 rfl Try.sizeOf4 rfl, FOK.mk Try.runUnderlying30 rfl Try.sizeOf4 rfl, FOK.mk Try.runUnderlying30 rfl Try.sizeOf9 rfl, FOK.mk Try.runUnderlying65 rfl Try.sizeOf30 rfl, FOK.mk Try.runUnderlying65 rfl Try.sizeOf3 rfl, FOK.mk Try.runUnderlying65 rfl Try.sizeOf3 rfl, FOK.mk Try.runUnderlying65 rfl Try.sizeOf63 rfl, FOK.mk Try.runUnderlying76 rfl Try.sizeOf9 rfl, FOK.mk Try.runUnderlying76 rfl Try.sizeOf74 rfl, FOK.mk Try.runUnderlying78 rfl Try.sizeOf3 rfl, FOK.mk Try.runUnderlying78 rfl Try.sizeOf46 rfl, trivial⟩
theorem mix_produce : Try.prog.follows .mixedOrders = true := by kernel_rfl
theorem bok_produce_65 : BOK Try.prog 65 #[.bool false, .string ⟨#[]⟩, .int .i64 0, .int .i64 0, .slice none 0 0] [(0, 2), (2, 1), (3, 1), (4, 1)] := BOK.mk Try.zeroValue65 Try.runUnderlying65 (by intro w; simp)
theorem bok_produce_76 : BOK Try.prog 76 #[.string ⟨#[]⟩, .slice none 0 0] [(0, 1), (1, 1)] := BOK.mk Try.zeroValue76 Try.runUnderlying76 (by intro w; simp)
theorem bok_produce_78 : BOK Try.prog 78 #[.int .i64 0, .slice none 0 0] [(0, 1), (1, 1)] := BOK.mk Try.zeroValue78 Try.runUnderlying78 (by intro w; simp)
theorem sok_produce_46_1 : SOK Try.prog 46 25 1 12 #[.int .i64 0, .int .i64 0, .bool false, .bool false, .bool false, .int .i64 0, .int .i64 0, .int .i64 0, .int .i64 0, .int .i64 0, .int .i64 0, .slice none 0 0] := SOK.mk Try.runUnderlying46 Try.sizeOf25 Try.zeroValue25 (by decide) (by kernel_rfl)
theorem sok_produce_63_1 : SOK Try.prog 63 76 1 2 #[.string ⟨#[]⟩, .slice none 0 0] := SOK.mk Try.runUnderlying63 Try.sizeOf76 Try.zeroValue76 (by decide) (by kernel_rfl)
theorem sok_produce_74_1 : SOK Try.prog 74 78 1 2 #[.int .i64 0, .slice none 0 0] := SOK.mk Try.runUnderlying74 Try.sizeOf78 Try.zeroValue78 (by decide) (by kernel_rfl)
theorem inf_produce_25 : (Try.prog.info? 25).map (fun i => (i.zero, i.size, i.bytes)) = some (some (.agg #[.int .i64 0, .int .i64 0, .bool false, .bool false, .bool false, .int .i64 0, .int .i64 0, .int .i64 0, .int .i64 0, .int .i64 0, .int .i64 0, .slice none 0 0]), 12, 96) := by kernel_rfl
theorem inf_produce_76 : (Try.prog.info? 76).map (fun i => (i.zero, i.size, i.bytes)) = some (some (.agg #[.string ⟨#[]⟩, .slice none 0 0]), 2, 40) := by kernel_rfl
theorem inf_produce_78 : (Try.prog.info? 78).map (fun i => (i.zero, i.size, i.bytes)) = some (some (.agg #[.int .i64 0, .slice none 0 0]), 2, 32) := by kernel_rfl
def f_produce_rise_l3 (x10 : ProduceTopic) : List ProducePart → Int → Nat → Option (Lp Int Int)
  | [], y158, k159 => some (Lp.go y158)
  | x164 :: xs, y158, k159 => (if x164.fIndex < 0 then some true else ((gFits x164.fIndex 4).bind fun x223 => if x223 = true then (if (k159 : Int) > 0 then (if -9223372036854775808 ≤ ((k159 : Int) - 1) ∧ ((k159 : Int) - 1) ≤ 9223372036854775807 then (if 0 ≤ ((k159 : Int) - 1) then ((x10.fParts[((k159 : Int) - 1).toNat]?).bind fun x229 => if x229.fIndex ≥ x164.fIndex then some true else some false) else none) else none) else some false) else some true)).bind fun y220 => if y220 = true then some (Lp.ret 13) else (f_produce_rise_l3 x10 xs y158 (k159 + 1))
def f_produce_rise_l1 (a0 : List ProduceTopic) : List ProduceTopic → Int → Nat → Option (Lp Int Int)
  | [], y4, k5 => some (Lp.go y4)
  | x10 :: xs, y4, k5 => if (x10.fParts.length : Int) = 0 then some (Lp.ret 10) else ((if x10.fName = [] then some true else (if (x10.fName.length : Int) > 32767 then some true else (if (k5 : Int) > 0 then (if -9223372036854775808 ≤ ((k5 : Int) - 1) ∧ ((k5 : Int) - 1) ≤ 9223372036854775807 then (if 0 ≤ ((k5 : Int) - 1) then ((a0[((k5 : Int) - 1).toNat]?).bind fun x150 => if (Op.bytesLess x150.fName x10.fName) = true then some false else some true) else none) else none) else some false))).bind fun y143 => if y143 = true then some (Lp.ret 13) else ((f_produce_rise_l3 x10 x10.fParts y4 0).bind fun e => match e with | .ret r => some (Lp.ret r) | .go y237 => (f_produce_rise_l1 a0 xs y237 (k5 + 1))))
theorem f_produce_rise_l1_z (a0 : List ProduceTopic) (y4 : Int) (k5 : Nat) : f_produce_rise_l1 a0 [] y4 k5 = (some (Lp.go y4)) := rfl
theorem f_produce_rise_l1_s (a0 : List ProduceTopic) (x10 : ProduceTopic) (xs : List ProduceTopic) (y4 : Int) (k5 : Nat) : f_produce_rise_l1 a0 (x10 :: xs) y4 k5 = (if (x10.fParts.length : Int) = 0 then some (Lp.ret 10) else ((if x10.fName = [] then some true else (if (x10.fName.length : Int) > 32767 then some true else (if (k5 : Int) > 0 then (if -9223372036854775808 ≤ ((k5 : Int) - 1) ∧ ((k5 : Int) - 1) ≤ 9223372036854775807 then (if 0 ≤ ((k5 : Int) - 1) then ((a0[((k5 : Int) - 1).toNat]?).bind fun x150 => if (Op.bytesLess x150.fName x10.fName) = true then some false else some true) else none) else none) else some false))).bind fun y143 => if y143 = true then some (Lp.ret 13) else ((f_produce_rise_l3 x10 x10.fParts y4 0).bind fun e => match e with | .ret r => some (Lp.ret r) | .go y237 => (f_produce_rise_l1 a0 xs y237 (k5 + 1))))) := rfl
def f_produce_rise (a0 : List ProduceTopic) : Option (Int) := if (a0.length : Int) = 0 then some 10 else ((f_produce_rise_l1 a0 a0 0 0).bind fun e => match e with | .ret r => some r | .go y239 => some 0)
set_option maxRecDepth 100000 in
set_option maxHeartbeats 4000000 in
theorem f_produce_rise_spec (a0 : List ProduceTopic) (A1 : Option Addr) (c2 : Nat) (r : Int) (h : f_produce_rise a0 = some r) : SpecX Try.prog 110 #[.slice A1 a0.length c2] (RX.of (sliceRd 2 ProduceTopic_rd) [.slice A1 a0.length c2] a0) (EmpR) (fun v A' N => v = .int .i64 r ∧ A' = EmpR ∧ N = []) := by
  refine enterA Try.func110 rfl Try.ntmps110 rfl ?_
  intro F w hX
  unfold f_produce_rise at h
  refine T.seq (T.region rfl ?_)
  refine TL.run ft_produce_ok [0] rfl rfl ?_
  refine TL.nil (X.seq (T.seq (T.seq (T.region rfl ?_))))
  refine TL.run ft_produce_ok [0] rfl rfl ?_
  refine TL.q rfl .u (Ex.lenS rfl Try.runUnderlying63) rfl ?_
  refine TL.run ft_produce_ok [2] rfl rfl ?_
  by_cases c3 : (a0.length : Int) = 0
  · replace h := ifT c3 h
    refine TL.nil (X.seq ?_)
    refine T.yes rfl (decide_eq_true c3) ?_
    refine T.seq (T.region rfl ?_)
    refine TL.run ft_produce_ok [0] rfl rfl ?_
    obtain rfl := Option.some.inj h
    exact TL.nil (X.seq (T.ret (X.rs (X.done1 [0] Try.results110 (RV.tm rfl) ⟨rfl, rfl, rfl⟩ (by rfl) (.inl rfl)))))
  · replace h := ifF c3 h
    refine TL.nil (X.seq ?_)
    refine T.no rfl (decide_eq_false c3) ?_
    refine T.skip (X.seq (T.seq (T.seq (T.region rfl ?_))))
    refine TL.run ft_produce_ok [0] rfl rfl ?_
    refine TL.q rfl .u (Ex.lenS rfl Try.runUnderlying63) rfl ?_
    refine TL.run ft_produce_ok [2] rfl rfl ?_
    refine TL.nil (X.seq (T.block ?_))
    obtain ⟨E6, hE7, hO8⟩ := Option.bind_eq_some_iff.1 h
    have hk12len := RX.len_le hX
    refine T.lp (fun m e Rs => ∃ (y4 : Int) (k5 : Nat), k5 + m = a0.length ∧ e = [(0, .slice A1 a0.length c2), (2, .int .i64 y4), (10, .slice A1 a0.length c2), (11, .int .i64 (a0.length : Int)), (12, .int .i64 (k5 : Int))] ∧ Rs = [EmpR] ∧ f_produce_rise_l1 a0 (a0.drop k5) y4 k5 = some E6) (a0.length) [0] ⟨0, 0, by simp, rfl, rfl, by rw [List.drop_zero]; exact hE7⟩ (by rfl) (by rfl) ?_
    rintro m9 _ _ ⟨y4, k5, hk12, rfl, rfl, hl11⟩
    clear hE7 h
    cases m9 with
    | zero =>
      have h := hl11
      clear hl11
      rw [List.drop_of_length_le (by omega), f_produce_rise_l1_z] at h
      have hk12ge : ¬ ((k5 : Int) < (a0.length : Int)) := by omega
      refine T.seq (T.region rfl ?_)
      refine TL.run ft_produce_ok [0] rfl rfl ?_
      refine TL.nil (X.seq (T.seq ?_))
      refine T.no rfl (decide_eq_false hk12ge) ?_
      obtain rfl := Option.some.inj h
      replace h := hO8
      clear hO8
      try dsimp only at h
      refine T.exit (X.exs (X.exs (X.ex (X.seq (T.seq (T.region rfl ?_))))))
      refine TL.run ft_produce_ok [0] rfl rfl ?_
      obtain rfl := Option.some.inj h
      exact TL.nil (X.seq (T.ret (X.done1 [0] Try.results110 (RV.tm rfl) ⟨rfl, rfl, rfl⟩ (by rfl) (.inl rfl))))
    | succ m9 =>
      have h := hl11
      clear hl11
      obtain ⟨x10, hxx10⟩ : ∃ x, a0[k5]? = some x := ⟨_, List.getElem?_eq_getElem (by omega)⟩
      rw [drop_cons hxx10, f_produce_rise_l1_s] at h
      have hk12lt : (k5 : Int) < (a0.length : Int) := by omega
      refine T.seq (T.region rfl ?_)
      refine TL.run ft_produce_ok [0] rfl rfl ?_
      refine TL.nil (X.seq (T.seq ?_))
      refine T.yes rfl (decide_eq_true hk12lt) ?_
      refine T.skip (X.seq (T.seq (T.block (T.seq (T.region rfl ?_)))))
      obtain ⟨gz126, oz126, rfl, z126cs, z126cl, z126cc, z126nf, z126r⟩ := RX.elem (by decide) hX hxx10
      obtain ⟨z126S, z126r, z126rr⟩ := z126r
      obtain ⟨A127, c128, rfl, z126s0⟩ := z126r
      have hX129 : (RX.of (sliceRd 2 ProducePart_rd) [.slice A127 x10.fParts.length c128] x10.fParts).reads w F := ⟨z126S, z126s0, z126rr⟩
      refine TL.run ft_produce_ok [0] rfl rfl ?_
      refine TL.q rfl .u (Ex.ixS (k := k5) rfl rfl rfl Try.runUnderlying63 Try.sizeOf76 (List.getElem?_eq_some_iff.1 hxx10).1) rfl ?_
      refine TL.q rfl .u (Ex.oS (us := [.string (bsOf x10.fName), .slice A127 x10.fParts.length c128]) 0 rfl Try.isAgg76 Try.sizeOf76 z126nf z126cc rfl rfl rfl) rfl ?_
      refine TL.alloc rfl .u Try.zeroValue76 rfl (fun b130 => ?_)
      refine TL.run ft_produce_ok [4] rfl rfl ?_
      refine TL.st0 (cs' := #[.string (bsOf x10.fName), .slice A127 x10.fParts.length c128]) rfl .u rfl rfl Try.sizeOf76 rfl rfl rfl rfl ?_
      refine TL.nil (X.seq (T.seq (T.seq (T.region rfl ?_))))
      refine TL.run ft_produce_ok [0] rfl rfl ?_
      refine TL.q rfl .u (Ex.b1 0 rfl Try.isAgg74 rfl rfl) rfl ?_
      refine TL.q rfl .u (Ex.lenS rfl Try.runUnderlying74) rfl ?_
      refine TL.run ft_produce_ok [3] rfl rfl ?_
      by_cases c131 : (x10.fParts.length : Int) = 0
      · replace h := ifT c131 h
        refine TL.nil (X.seq ?_)
        refine T.yes rfl (decide_eq_true c131) ?_
        refine T.seq (T.region rfl ?_)
        refine TL.run ft_produce_ok [0] rfl rfl ?_
        obtain rfl := Option.some.inj h
        replace h := hO8
        clear hO8
        try dsimp only at h
        obtain rfl := Option.some.inj h
        exact TL.nil (X.seq (T.ret (X.rs (X.rb (X.rs (X.rs (X.rb (X.rs (X.done1 [1] Try.results110 (RV.tm rfl) ⟨rfl, rfl, rfl⟩ (by rfl) (.inl rfl))))))))))
      · replace h := ifF c131 h
        refine TL.nil (X.seq ?_)
        refine T.no rfl (decide_eq_false c131) ?_
        refine T.skip (X.seq (T.seq (T.seq ?_)))
        obtain ⟨y143, h, hk144⟩ := Option.bind_eq_some_iff.1 h
        refine T.jq (fun e Rs => e = [(0, .slice (some ⟨gz126, oz126, none⟩) a0.length c2), (2, .int .i64 y4), (4, .pointer (some ⟨b130, 0, none⟩)), (10, .slice (some ⟨gz126, oz126, none⟩) a0.length c2), (11, .int .i64 (a0.length : Int)), (12, .int .i64 (k5 : Int)), (44, .bool y143)] ∧ Rs = [BlkR b130 76 #[.string (bsOf x10.fName), .slice A127 x10.fParts.length c128], EmpR]) ?_ ?_
        · clear hk144
          refine T.draw (.q 0 (.q 1 (.q 2 (.q 3 (.q 4 (.q 5 (.q 6 (.q 7 (.q 8 (.q 9 (.q 10 (.q 11 (.q 12 (.q 13 (.q 14 (.q 15 (.q 16 (.q 17 (.q 18 (.q 19 (.q 20 (.q 21 (.q 22 (.q 23 .nil)))))))))))))))))))))))) [0, 0] rfl mix_produce (NoP.seq (NoP.seq (NoP.seq (NoP.blk (NoP.seq (NoP.seq (NoP.blk (NoP.seq np_post)))))))) (by kernel_rfl) ?_
          refine TD.run ft_produce_ok [0] rfl rfl ?_
          refine TD.q rfl .u (Ex.b1 0 rfl Try.isAgg9 rfl rfl) rfl ?_
          refine TD.q rfl .u (Ex.sEq rfl (m := []) rfl) rfl ?_
          by_cases c145 : x10.fName = []
          · replace h := ifT c145 h
            refine TD.run ft_produce_ok [3] rfl rfl ?_
            refine TD.no rfl (.gn rfl rfl (decide_eq_true c145)) rfl ?_
            refine TD.no rfl (.gn rfl rfl (decide_eq_true c145)) rfl ?_
            refine TD.no rfl (.gn rfl rfl (decide_eq_true c145)) rfl ?_
            refine TD.no rfl (.gn rfl rfl (decide_eq_true c145)) rfl ?_
            refine TD.q rfl .u (Ex.py rfl (decide_eq_true c145) rfl) rfl ?_
            refine TD.run ft_produce_ok [9] rfl rfl ?_
            refine TD.no rfl (.gn rfl rfl rfl) rfl ?_
            refine TD.no rfl (.gn rfl rfl rfl) rfl ?_
            refine TD.no rfl (.gn rfl rfl rfl) rfl ?_
            refine TD.no rfl (.gu rfl rfl) rfl ?_
            refine TD.no rfl (.gu rfl rfl) rfl ?_
            refine TD.no rfl (.gu rfl rfl) rfl ?_
            refine TD.no rfl (.gu rfl rfl) rfl ?_
            refine TD.no rfl (.gu rfl rfl) rfl ?_
            refine TD.no rfl (.gu rfl rfl) rfl ?_
            refine TD.no rfl (.gu rfl rfl) rfl ?_
            refine TD.no rfl (.gu rfl rfl) rfl ?_
            refine TD.no rfl (.gu rfl rfl) rfl ?_
            refine TD.no rfl (.gn rfl rfl rfl) rfl ?_
            refine TD.q rfl .u (Ex.py rfl rfl rfl) rfl ?_
            cases h
            exact TD.nil (X.jq [0, 0] ⟨rfl, rfl⟩ (by rfl) (by rfl))
          · replace h := ifF c145 h
            refine TD.run ft_produce_ok [3] rfl rfl ?_
            refine TD.q rfl (.g rfl rfl (decide_eq_false c145)) (Ex.ft ft_produce_ok rfl) rfl ?_
            refine TD.q rfl (.g rfl rfl (decide_eq_false c145)) (Ex.b1 0 rfl Try.isAgg9 rfl rfl) rfl ?_
            refine TD.q rfl (.g rfl rfl (decide_eq_false c145)) (Ex.lenB rfl Try.runUnderlying9) rfl ?_
            refine TD.q rfl (.g rfl rfl (decide_eq_false c145)) (Ex.ft ft_produce_ok rfl) rfl ?_
            refine TD.q rfl .u (Ex.pn rfl (decide_eq_false c145) rfl) rfl ?_
            by_cases c146 : (x10.fName.length : Int) > 32767
            · replace h := ifT c146 h
              refine TD.run ft_produce_ok [9] rfl rfl ?_
              refine TD.no rfl (.gn rfl rfl (decide_eq_true c146)) rfl ?_
              refine TD.no rfl (.gn rfl rfl (decide_eq_true c146)) rfl ?_
              refine TD.no rfl (.gn rfl rfl (decide_eq_true c146)) rfl ?_
              refine TD.no rfl (.gu rfl rfl) rfl ?_
              refine TD.no rfl (.gu rfl rfl) rfl ?_
              refine TD.no rfl (.gu rfl rfl) rfl ?_
              refine TD.no rfl (.gu rfl rfl) rfl ?_
              refine TD.no rfl (.gu rfl rfl) rfl ?_
              refine TD.no rfl (.gu rfl rfl) rfl ?_
              refine TD.no rfl (.gu rfl rfl) rfl ?_
              refine TD.no rfl (.gu rfl rfl) rfl ?_
              refine TD.no rfl (.gu rfl rfl) rfl ?_
              refine TD.no rfl (.gn rfl rfl (decide_eq_true c146)) rfl ?_
              refine TD.q rfl .u (Ex.py rfl (decide_eq_true c146) rfl) rfl ?_
              cases h
              exact TD.nil (X.jq [0, 0] ⟨rfl, rfl⟩ (by rfl) (by rfl))
            · replace h := ifF c146 h
              refine TD.run ft_produce_ok [9] rfl rfl ?_
              refine TD.q rfl (.g rfl rfl (decide_eq_false c146)) (Ex.ft ft_produce_ok rfl) rfl ?_
              refine TD.q rfl (.g rfl rfl (decide_eq_false c146)) (Ex.ft ft_produce_ok rfl) rfl ?_
              refine TD.q rfl (.g rfl rfl (decide_eq_false c146)) (Ex.ft ft_produce_ok rfl) rfl ?_
              by_cases c147 : (k5 : Int) > 0
              · replace h := ifT c147 h
                refine TD.q rfl (.g rfl rfl (decide_eq_true c147)) (Ex.ft ft_produce_ok rfl) rfl ?_
                refine TD.q rfl (.g rfl rfl (decide_eq_true c147)) (Ex.ft ft_produce_ok rfl) rfl ?_
                replace h := guard_some h
                obtain ⟨c148, h⟩ := h
                refine TD.q rfl (.g rfl rfl (decide_eq_true c147)) (Ex.sub rfl rfl c148) rfl ?_
                replace h := guard_some h
                obtain ⟨c149, h⟩ := h
                obtain ⟨x150, hx151, h⟩ := Option.bind_eq_some_iff.1 h
                obtain ⟨z152cs, z152cl, z152cc, z152nf, z152r⟩ := RX.elem' (by decide) hX hx151
                obtain ⟨z152S, z152r, z152rr⟩ := z152r
                obtain ⟨A153, c154, rfl, z152s0⟩ := z152r
                have hX155 : (RX.of (sliceRd 2 ProducePart_rd) [.slice A153 x150.fParts.length c154] x150.fParts).reads w F := ⟨z152S, z152s0, z152rr⟩
                refine TD.q rfl (.g rfl rfl (decide_eq_true c147)) (Ex.ixS (k := ((k5 : Int) - 1).toNat) rfl rfl ((Int.toNat_of_nonneg c149).symm) Try.runUnderlying63 Try.sizeOf76 (List.getElem?_eq_some_iff.1 hx151).1) rfl ?_
                refine TD.q rfl (.g rfl rfl (decide_eq_true c147)) (Ex.ft ft_produce_ok rfl) rfl ?_
                refine TD.q rfl (.g rfl rfl (decide_eq_true c147)) (Ex.o1 0 rfl Try.isAgg9 z152nf z152cc rfl rfl) rfl ?_
                refine TD.q rfl (.g rfl rfl (decide_eq_true c147)) (Ex.ft ft_produce_ok rfl) rfl ?_
                refine TD.q rfl (.g rfl rfl (decide_eq_true c147)) (Ex.b1 0 rfl Try.isAgg9 rfl rfl) rfl ?_
                refine TD.q rfl (.g rfl rfl (decide_eq_true c147)) (Ex.sGe rfl rfl) rfl ?_
                refine TD.q rfl (.g rfl rfl (decide_eq_false c146)) (Ex.py rfl (decide_eq_true c147) rfl) rfl ?_
                refine TD.q rfl .u (Ex.pn rfl (decide_eq_false c146) rfl) rfl ?_
                by_cases c156 : (Op.bytesLess x150.fName x10.fName) = true
                · replace h := ifT c156 h
                  cases h
                  exact TD.nil (X.as (d := 44) (v' := .bool false) rfl (congrArg Value.bool (bn_f c156)) (X.jq [0, 0] ⟨rfl, rfl⟩ (by rfl) (by rfl)))
                · replace h := ifF c156 h
                  replace c156 := eq_false_of_ne_true c156
                  cases h
                  exact TD.nil (X.as (d := 44) (v' := .bool true) rfl (congrArg Value.bool (bn_t c156)) (X.jq [0, 0] ⟨rfl, rfl⟩ (by rfl) (by rfl)))
              · replace h := ifF c147 h
                refine TD.no rfl (.gn rfl rfl (decide_eq_false c147)) rfl ?_
                refine TD.no rfl (.gn rfl rfl (decide_eq_false c147)) rfl ?_
                refine TD.no rfl (.gn rfl rfl (decide_eq_false c147)) rfl ?_
                refine TD.no rfl (.gn rfl rfl (decide_eq_false c147)) rfl ?_
                refine TD.no rfl (.gn rfl rfl (decide_eq_false c147)) rfl ?_
                refine TD.no rfl (.gn rfl rfl (decide_eq_false c147)) rfl ?_
                refine TD.no rfl (.gn rfl rfl (decide_eq_false c147)) rfl ?_
                refine TD.no rfl (.gn rfl rfl (decide_eq_false c147)) rfl ?_
                refine TD.no rfl (.gn rfl rfl (decide_eq_false c147)) rfl ?_
                refine TD.q rfl (.g rfl rfl (decide_eq_false c146)) (Ex.pn rfl (decide_eq_false c147) rfl) rfl ?_
                refine TD.q rfl .u (Ex.pn rfl (decide_eq_false c146) rfl) rfl ?_
                cases h
                exact TD.nil (X.jq [0, 0] ⟨rfl, rfl⟩ (by rfl) (by rfl))
        · rintro _ _ ⟨rfl, rfl⟩
          clear h
          have h := hk144
          clear hk144
          try dsimp only at h
          by_cases c157 : y143 = true
          · replace h := ifT c157 h
            refine X.seq ?_
            refine T.yes rfl c157 ?_
            refine T.seq (T.region rfl ?_)
            refine TL.run ft_produce_ok [0] rfl rfl ?_
            obtain rfl := Option.some.inj h
            replace h := hO8
            clear hO8
            try dsimp only at h
            obtain rfl := Option.some.inj h
            exact TL.nil (X.seq (T.ret (X.rs (X.rb (X.rs (X.rs (X.rb (X.rs (X.done1 [1] Try.results110 (RV.tm rfl) ⟨rfl, rfl, rfl⟩ (by rfl) (.inl rfl))))))))))
          · replace h := ifF c157 h
            replace c157 := eq_false_of_ne_true c157
            refine X.seq ?_
            refine T.no rfl c157 ?_
            refine T.skip (X.seq (T.seq (T.region rfl ?_)))
            refine TL.run ft_produce_ok [0] rfl rfl ?_
            refine TL.q rfl .u (Ex.b1 0 rfl Try.isAgg74 rfl rfl) rfl ?_
            refine TL.q rfl .u (Ex.lenS rfl Try.runUnderlying74) rfl ?_
            refine TL.run ft_produce_ok [3] rfl rfl ?_
            refine TL.nil (X.seq (T.block ?_))
            obtain ⟨E160, hE161, hO162⟩ := Option.bind_eq_some_iff.1 h
            have hk166len := RX.len_le hX129
            refine T.lp (fun m e Rs => ∃ (y158 : Int) (k159 : Nat), k159 + m = x10.fParts.length ∧ e = [(0, .slice (some ⟨gz126, oz126, none⟩) a0.length c2), (2, .int .i64 y158), (4, .pointer (some ⟨b130, 0, none⟩)), (10, .slice (some ⟨gz126, oz126, none⟩) a0.length c2), (11, .int .i64 (a0.length : Int)), (12, .int .i64 (k5 : Int)), (46, .slice A127 x10.fParts.length c128), (47, .int .i64 (x10.fParts.length : Int)), (48, .int .i64 (k159 : Int))] ∧ Rs = [BlkR b130 76 #[.string (bsOf x10.fName), .slice A127 x10.fParts.length c128], EmpR] ∧ f_produce_rise_l3 x10 (x10.fParts.drop k159) y158 k159 = some E160) (x10.fParts.length) [0, 0] ⟨y4, 0, by simp, rfl, rfl, by rw [List.drop_zero]; exact hE161⟩ (by rfl) (by rfl) ?_
            rintro m163 _ _ ⟨y158, k159, hk166, rfl, rfl, hl165⟩
            clear hE161 h
            cases m163 with
            | zero =>
              have h := hl165
              clear hl165
              rw [List.drop_of_length_le (by omega), f_produce_rise_l3] at h
              have hk166ge : ¬ ((k159 : Int) < (x10.fParts.length : Int)) := by omega
              refine T.seq (T.region rfl ?_)
              refine TL.run ft_produce_ok [0] rfl rfl ?_
              refine TL.nil (X.seq (T.seq ?_))
              refine T.no rfl (decide_eq_false hk166ge) ?_
              obtain rfl := Option.some.inj h
              replace h := hO162
              clear hO162
              try dsimp only at h
              refine T.exit (X.exs (X.exs (X.ex (X.blk (X.seq (T.region rfl ?_))))))
              refine TL.q rfl .u (Ex.add rfl rfl (by omega)) rfl ?_
              refine TL.run ft_produce_ok [1] rfl rfl ?_
              exact TL.nil (X.back (m' := m9) [1] (by omega) ⟨y158, k5 + 1, by omega, rfl, rfl, h⟩ (by rfl) (by rfl))
            | succ m163 =>
              have h := hl165
              clear hl165
              obtain ⟨x164, hxx164⟩ : ∃ x, x10.fParts[k159]? = some x := ⟨_, List.getElem?_eq_getElem (by omega)⟩
              rw [drop_cons hxx164, f_produce_rise_l3] at h
              have hk166lt : (k159 : Int) < (x10.fParts.length : Int) := by omega
              refine T.seq (T.region rfl ?_)
              refine TL.run ft_produce_ok [0] rfl rfl ?_
              refine TL.nil (X.seq (T.seq ?_))
              refine T.yes rfl (decide_eq_true hk166lt) ?_
              refine T.skip (X.seq (T.seq (T.block (T.seq (T.region rfl ?_)))))
              obtain ⟨gz202, oz202, rfl, z202cs, z202cl, z202cc, z202nf, z202r⟩ := RX.elem (by decide) hX129 hxx164
              obtain ⟨z202S, z202r, z202rr⟩ := z202r
              obtain ⟨A203, c204, rfl, z202s0⟩ := z202r
              have hX205 : (RX.of (sliceRd 12 Bat_rd) [.slice A203 x164.fBatches.length c204] x164.fBatches).reads w F := ⟨z202S, z202s0, z202rr⟩
              refine TL.run ft_produce_ok [0] rfl rfl ?_
              refine TL.q rfl .u (Ex.ixS (k := k159) rfl rfl rfl Try.runUnderlying74 Try.sizeOf78 (List.getElem?_eq_some_iff.1 hxx164).1) rfl ?_
              refine TL.q rfl .u (Ex.oS (us := [.int .i64 x164.fIndex, .slice A203 x164.fBatches.length c204]) 0 rfl Try.isAgg78 Try.sizeOf78 z202nf z202cc rfl rfl rfl) rfl ?_
              refine TL.alloc rfl .u Try.zeroValue78 rfl (fun b206 => ?_)
              refine TL.run ft_produce_ok [4] rfl rfl ?_
              refine TL.st0 (cs' := #[.int .i64 x164.fIndex, .slice A203 x164.fBatches.length c204]) rfl .u rfl rfl Try.sizeOf78 rfl rfl rfl rfl ?_
              refine TL.nil (X.seq (T.seq ?_))
              obtain ⟨y220, h, hk221⟩ := Option.bind_eq_some_iff.1 h
              refine T.jq (fun e Rs => e = [(0, .slice (some ⟨gz126, oz126, none⟩) a0.length c2), (2, .int .i64 y158), (4, .pointer (some ⟨b130, 0, none⟩)), (10, .slice (some ⟨gz126, oz126, none⟩) a0.length c2), (11, .int .i64 (a0.length : Int)), (12, .int .i64 (k5 : Int)), (46, .slice (some ⟨gz202, oz202, none⟩) x10.fParts.length c128), (47, .int .i64 (x10.fParts.length : Int)), (48, .int .i64 (k159 : Int)), (77, .bool y220)] ∧ Rs = [BlkR b206 78 #[.int .i64 x164.fIndex, .slice A203 x164.fBatches.length c204], BlkR b130 76 #[.string (bsOf x10.fName), .slice (some ⟨gz202, oz202, none⟩) x10.fParts.length c128], EmpR]) ?_ ?_
              · clear hk221
                refine T.draw (.q 0 (.q 1 (.q 2 (.q 3 (.q 4 (.q 5 (.e 6 (.q 7 (.q 8 (.q 9 (.q 10 (.q 11 (.q 12 (.q 13 (.q 14 (.q 15 (.q 16 (.q 17 (.q 18 (.q 19 (.q 20 (.q 21 (.q 22 (.q 23 (.q 24 .nil))))))))))))))))))))))))) [0, 0, 0] rfl mix_produce (NoP.seq (NoP.seq (NoP.blk (NoP.seq (NoP.seq (NoP.blk (NoP.blk (NoP.seq (NoP.seq (NoP.blk (NoP.seq np_post))))))))))) (by kernel_rfl) ?_
                refine TD.run ft_produce_ok [0] rfl rfl ?_
                refine TD.q rfl .u (Ex.b1 0 rfl Try.isAgg3 rfl rfl) rfl ?_
                by_cases c222 : x164.fIndex < 0
                · replace h := ifT c222 h
                  refine TD.run ft_produce_ok [2, 3] rfl rfl ?_
                  refine TD.no rfl (.gn rfl rfl (decide_eq_true c222)) rfl ?_
                  refine TD.no rfl (.gn rfl rfl (decide_eq_true c222)) rfl ?_
                  refine TD.noe rfl (.gn rfl rfl (decide_eq_true c222)) rfl [0, 0, 0] rfl ?_
                  refine TD.no rfl (.gn rfl rfl (decide_eq_true c222)) rfl ?_
                  refine TD.q rfl .u (Ex.py rfl (decide_eq_true c222) rfl) rfl ?_
                  refine TD.run ft_produce_ok [9] rfl rfl ?_
                  refine TD.no rfl (.gn rfl rfl rfl) rfl ?_
                  refine TD.no rfl (.gn rfl rfl rfl) rfl ?_
                  refine TD.no rfl (.gn rfl rfl rfl) rfl ?_
                  refine TD.no rfl (.gu rfl rfl) rfl ?_
                  refine TD.no rfl (.gu rfl rfl) rfl ?_
                  refine TD.no rfl (.gu rfl rfl) rfl ?_
                  refine TD.no rfl (.gu rfl rfl) rfl ?_
                  refine TD.no rfl (.gu rfl rfl) rfl ?_
                  refine TD.no rfl (.gu rfl rfl) rfl ?_
                  refine TD.no rfl (.gu rfl rfl) rfl ?_
                  refine TD.no rfl (.gu rfl rfl) rfl ?_
                  refine TD.no rfl (.gu rfl rfl) rfl ?_
                  refine TD.no rfl (.gu rfl rfl) rfl ?_
                  refine TD.no rfl (.gn rfl rfl rfl) rfl ?_
                  refine TD.q rfl .u (Ex.py rfl rfl rfl) rfl ?_
                  cases h
                  exact TD.nil (X.jq [0, 0, 0] ⟨rfl, rfl⟩ (by rfl) (by rfl))
                · replace h := ifF c222 h
                  refine TD.run ft_produce_ok [2, 3] rfl rfl ?_
                  refine TD.q rfl (.g rfl rfl (decide_eq_false c222)) (Ex.ft ft_produce_ok rfl) rfl ?_
                  refine TD.q rfl (.g rfl rfl (decide_eq_false c222)) (Ex.b1 0 rfl Try.isAgg3 rfl rfl) rfl ?_
                  obtain ⟨x223, hx224, h⟩ := Option.bind_eq_some_iff.1 h
                  refine TD.ce rfl (.g rfl rfl (decide_eq_false c222)) (.fn Try.call86 rfl) (SpecX.pure (fun w => gFits_spec x164.fIndex 4 _ hx224 w)) (fun _ _ => RX.reads_triv _ _) rfl [0, 0, 0] (rfl) ?_
                  refine TD.q rfl (.g rfl rfl (decide_eq_false c222)) (Ex.ft ft_produce_ok rfl) rfl ?_
                  refine TD.q rfl .u (Ex.pn rfl (decide_eq_false c222) rfl) rfl ?_
                  by_cases c225 : x223 = true
                  · replace h := ifT c225 h
                    refine TD.run ft_produce_ok [9] rfl rfl ?_
                    refine TD.q rfl (.g rfl rfl (bn_f c225)) (Ex.ft ft_produce_ok rfl) rfl ?_
                    refine TD.q rfl (.g rfl rfl (bn_f c225)) (Ex.ft ft_produce_ok rfl) rfl ?_
                    refine TD.q rfl (.g rfl rfl (bn_f c225)) (Ex.ft ft_produce_ok rfl) rfl ?_
                    by_cases c226 : (k159 : Int) > 0
                    · replace h := ifT c226 h
                      refine TD.q rfl (.g rfl rfl (decide_eq_true c226)) (Ex.ft ft_produce_ok rfl) rfl ?_
                      refine TD.q rfl (.g rfl rfl (decide_eq_true c226)) (Ex.b1 1 rfl Try.isAgg74 rfl rfl) rfl ?_
                      refine TD.q rfl (.g rfl rfl (decide_eq_true c226)) (Ex.ft ft_produce_ok rfl) rfl ?_
                      replace h := guard_some h
                      obtain ⟨c227, h⟩ := h
                      refine TD.q rfl (.g rfl rfl (decide_eq_true c226)) (Ex.sub rfl rfl c227) rfl ?_
                      replace h := guard_some h
                      obtain ⟨c228, h⟩ := h
                      obtain ⟨x229, hx230, h⟩ := Option.bind_eq_some_iff.1 h
                      obtain ⟨z231cs, z231cl, z231cc, z231nf, z231r⟩ := RX.elem' (by decide) hX129 hx230
                      obtain ⟨z231S, z231r, z231rr⟩ := z231r
                      obtain ⟨A232, c233, rfl, z231s0⟩ := z231r
                      have hX234 : (RX.of (sliceRd 12 Bat_rd) [.slice A232 x229.fBatches.length c233] x229.fBatches).reads w F := ⟨z231S, z231s0, z231rr⟩
                      refine TD.q rfl (.g rfl rfl (decide_eq_true c226)) (Ex.ixS (k := ((k159 : Int) - 1).toNat) rfl rfl ((Int.toNat_of_nonneg c228).symm) Try.runUnderlying74 Try.sizeOf78 (List.getElem?_eq_some_iff.1 hx230).1) rfl ?_
                      refine TD.q rfl (.g rfl rfl (decide_eq_true c226)) (Ex.ft ft_produce_ok rfl) rfl ?_
                      refine TD.q rfl (.g rfl rfl (decide_eq_true c226)) (Ex.o1 0 rfl Try.isAgg3 z231nf z231cc rfl rfl) rfl ?_
                      refine TD.q rfl (.g rfl rfl (decide_eq_true c226)) (Ex.ft ft_produce_ok rfl) rfl ?_
                      refine TD.q rfl (.g rfl rfl (decide_eq_true c226)) (Ex.b1 0 rfl Try.isAgg3 rfl rfl) rfl ?_
                      refine TD.q rfl (.g rfl rfl (decide_eq_true c226)) (Ex.ft ft_produce_ok rfl) rfl ?_
                      refine TD.q rfl (.g rfl rfl (bn_f c225)) (Ex.py rfl (decide_eq_true c226) rfl) rfl ?_
                      refine TD.q rfl .u (Ex.pn rfl (bn_f c225) rfl) rfl ?_
                      by_cases c235 : x229.fIndex ≥ x164.fIndex
                      · replace h := ifT c235 h
                        cases h
                        exact TD.nil (X.as (d := 77) (v' := .bool true) rfl (congrArg Value.bool (decide_eq_true c235)) (X.jq [0, 0, 0] ⟨rfl, rfl⟩ (by rfl) (by rfl)))
                      · replace h := ifF c235 h
                        cases h
                        exact TD.nil (X.as (d := 77) (v' := .bool false) rfl (congrArg Value.bool (decide_eq_false c235)) (X.jq [0, 0, 0] ⟨rfl, rfl⟩ (by rfl) (by rfl)))
                    · replace h := ifF c226 h
                      refine TD.no rfl (.gn rfl rfl (decide_eq_false c226)) rfl ?_
                      refine TD.no rfl (.gn rfl rfl (decide_eq_false c226)) rfl ?_
                      refine TD.no rfl (.gn rfl rfl (decide_eq_false c226)) rfl ?_
                      refine TD.no rfl (.gn rfl rfl (decide_eq_false c226)) rfl ?_
                      refine TD.no rfl (.gn rfl rfl (decide_eq_false c226)) rfl ?_
                      refine TD.no rfl (.gn rfl rfl (decide_eq_false c226)) rfl ?_
                      refine TD.no rfl (.gn rfl rfl (decide_eq_false c226)) rfl ?_
                      refine TD.no rfl (.gn rfl rfl (decide_eq_false c226)) rfl ?_
                      refine TD.no rfl (.gn rfl rfl (decide_eq_false c226)) rfl ?_
                      refine TD.no rfl (.gn rfl rfl (decide_eq_false c226)) rfl ?_
                      refine TD.q rfl (.g rfl rfl (bn_f c225)) (Ex.pn rfl (decide_eq_false c226) rfl) rfl ?_
                      refine TD.q rfl .u (Ex.pn rfl (bn_f c225) rfl) rfl ?_
                      cases h
                      exact TD.nil (X.jq [0, 0, 0] ⟨rfl, rfl⟩ (by rfl) (by rfl))
                  · replace h := ifF c225 h
                    replace c225 := eq_false_of_ne_true c225
                    refine TD.run ft_produce_ok [9] rfl rfl ?_
                    refine TD.no rfl (.gn rfl rfl (bn_t c225)) rfl ?_
                    refine TD.no rfl (.gn rfl rfl (bn_t c225)) rfl ?_
                    refine TD.no rfl (.gn rfl rfl (bn_t c225)) rfl ?_
                    refine TD.no rfl (.gu rfl rfl) rfl ?_
                    refine TD.no rfl (.gu rfl rfl) rfl ?_
                    refine TD.no rfl (.gu rfl rfl) rfl ?_
                    refine TD.no rfl (.gu rfl rfl) rfl ?_
                    refine TD.no rfl (.gu rfl rfl) rfl ?_
                    refine TD.no rfl (.gu rfl rfl) rfl ?_
                    refine TD.no rfl (.gu rfl rfl) rfl ?_
                    refine TD.no rfl (.gu rfl rfl) rfl ?_
                    refine TD.no rfl (.gu rfl rfl) rfl ?_
                    refine TD.no rfl (.gu rfl rfl) rfl ?_
                    refine TD.no rfl (.gn rfl rfl (bn_t c225)) rfl ?_
                    refine TD.q rfl .u (Ex.py rfl (bn_t c225) rfl) rfl ?_
                    cases h
                    exact TD.nil (X.jq [0, 0, 0] ⟨rfl, rfl⟩ (by rfl) (by rfl))
              · rintro _ _ ⟨rfl, rfl⟩
                clear h
                have h := hk221
                clear hk221
                try dsimp only at h
                by_cases c236 : y220 = true
                · replace h := ifT c236 h
                  refine X.seq ?_
                  refine T.yes rfl c236 ?_
                  refine T.seq (T.region rfl ?_)
                  refine TL.run ft_produce_ok [0] rfl rfl ?_
                  obtain rfl := Option.some.inj h
                  replace h := hO162
                  clear hO162
                  try dsimp only at h
                  obtain rfl := Option.some.inj h
                  replace h := hO8
                  clear hO8
                  try dsimp only at h
                  obtain rfl := Option.some.inj h
                  exact TL.nil (X.seq (T.ret (X.rb (X.rs (X.rs (X.rb (X.rb (X.rs (X.rs (X.rb (X.rs (X.done1 [2] Try.results110 (RV.tm rfl) ⟨rfl, rfl, rfl⟩ (by rfl) (.inl rfl)))))))))))))
                · replace h := ifF c236 h
                  replace c236 := eq_false_of_ne_true c236
                  refine X.seq ?_
                  refine T.no rfl c236 ?_
                  refine T.skip (X.blk (X.seq (T.region rfl ?_)))
                  refine TL.q rfl .u (Ex.add rfl rfl (by omega)) rfl ?_
                  refine TL.run ft_produce_ok [1] rfl rfl ?_
                  exact TL.nil (X.back (m' := m163) [1, 1] (by omega) ⟨y158, k159 + 1, by omega, rfl, rfl, h⟩ (by rfl) (by rfl))
def f_produce_RequestBatches_l1 (a0 : ProduceRequest) : List Bat → Int → Option (Lp Int Int)
  | [], y14 => some (Lp.go y14)
  | x20 :: xs, y14 => (f_batch_Check x20).bind fun x28 => if x28 = 0 then (if x20.fControl = true then some (Lp.ret 12) else (if (x20.fTxn == a0.fID.null) = true then some (Lp.ret 8) else (f_produce_RequestBatches_l1 a0 xs y14))) else some (Lp.ret x28)
def f_produce_RequestBatches (a0 : ProduceRequest) (a1 : List Bat) (a2 : Int) : Option (Int) := (if (a1.length : Int) = 0 then some true else (if a2 < 4 then (if (a1.length : Int) > 1 then some true else some false) else some false)).bind fun y8 => if y8 = true then some 10 else ((f_produce_RequestBatches_l1 a0 a1 0).bind fun e => match e with | .ret r => some r | .go y33 => some 0)
set_option maxRecDepth 100000 in
set_option maxHeartbeats 4000000 in
theorem f_produce_RequestBatches_spec (a0 : ProduceRequest) (A1 : Option Addr) (c2 : Nat) (a1 : List Bat) (A3 : Option Addr) (c4 : Nat) (a2 : Int) (r : Int) (h : f_produce_RequestBatches a0 a1 a2 = some r) : SpecX Try.prog 111 #[.agg #[.bool a0.fID.null, .string (bsOf a0.fID.data), .int .i64 a0.fAcks, .int .i64 a0.fTimeout, .slice A1 a0.fTopics.length c2], .slice A3 a1.length c4, .int .i64 a2] (RX.and (RX.of (sliceRd 2 ProduceTopic_rd) [.slice A1 a0.fTopics.length c2] a0.fTopics) (RX.of (sliceRd 12 Bat_rd) [.slice A3 a1.length c4] a1)) (EmpR) (fun v A' N => v = .int .i64 r ∧ A' = EmpR ∧ N = []) := by
  refine enterA Try.func111 rfl Try.ntmps111 rfl ?_
  intro F w hX
  unfold f_produce_RequestBatches at h
  refine T.seq (T.region rfl ?_)
  refine TL.box rfl .u rfl rfl (fun b5 => ?_)
  refine TL.run ft_produce_ok [1] rfl rfl ?_
  refine TL.nil (X.seq (T.seq (T.seq ?_)))
  obtain ⟨y8, h, hk9⟩ := Option.bind_eq_some_iff.1 h
  refine T.jq (fun e Rs => e = [(1, .slice A3 a1.length c4), (3, .pointer (some ⟨b5, 0, none⟩)), (6, .int .i64 0), (21, .bool y8)] ∧ Rs = [BlkR b5 65 #[.bool a0.fID.null, .string (bsOf a0.fID.data), .int .i64 a0.fAcks, .int .i64 a0.fTimeout, .slice A1 a0.fTopics.length c2], EmpR]) ?_ ?_
  · clear hk9
    refine T.region rfl ?_
    refine TL.run ft_produce_ok [0] rfl rfl ?_
    refine TL.q rfl .u (Ex.lenS rfl Try.runUnderlying46) rfl ?_
    by_cases c10 : (a1.length : Int) = 0
    · replace h := ifT c10 h
      refine TL.run ft_produce_ok [2, 3] rfl rfl ?_
      refine TL.no rfl (.gn rfl rfl (decide_eq_true c10)) rfl ?_
      refine TL.no rfl (.gn rfl rfl (decide_eq_true c10)) rfl ?_
      refine TL.no rfl (.gn rfl rfl (decide_eq_true c10)) rfl ?_
      refine TL.no rfl (.gu rfl rfl) rfl ?_
      refine TL.no rfl (.gu rfl rfl) rfl ?_
      refine TL.no rfl (.gu rfl rfl) rfl ?_
      refine TL.no rfl (.gn rfl rfl (decide_eq_true c10)) rfl ?_
      refine TL.q rfl .u (Ex.py rfl (decide_eq_true c10) rfl) rfl ?_
      cases h
      exact TL.nil (X.jq [0, 0] ⟨rfl, rfl⟩ (by rfl) (by rfl))
    · replace h := ifF c10 h
      refine TL.run ft_produce_ok [2, 3] rfl rfl ?_
      refine TL.q rfl (.g rfl rfl (decide_eq_false c10)) (Ex.ft ft_produce_ok rfl) rfl ?_
      refine TL.q rfl (.g rfl rfl (decide_eq_false c10)) (Ex.ft ft_produce_ok rfl) rfl ?_
      refine TL.q rfl (.g rfl rfl (decide_eq_false c10)) (Ex.ft ft_produce_ok rfl) rfl ?_
      by_cases c11 : a2 < 4
      · replace h := ifT c11 h
        refine TL.q rfl (.g rfl rfl (decide_eq_true c11)) (Ex.ft ft_produce_ok rfl) rfl ?_
        refine TL.q rfl (.g rfl rfl (decide_eq_true c11)) (Ex.lenS rfl Try.runUnderlying46) rfl ?_
        refine TL.q rfl (.g rfl rfl (decide_eq_true c11)) (Ex.ft ft_produce_ok rfl) rfl ?_
        refine TL.q rfl (.g rfl rfl (decide_eq_false c10)) (Ex.py rfl (decide_eq_true c11) rfl) rfl ?_
        refine TL.q rfl .u (Ex.pn rfl (decide_eq_false c10) rfl) rfl ?_
        by_cases c12 : (a1.length : Int) > 1
        · replace h := ifT c12 h
          cases h
          exact TL.nil (X.as (d := 21) (v' := .bool true) rfl (congrArg Value.bool (decide_eq_true c12)) (X.jq [0, 0] ⟨rfl, rfl⟩ (by rfl) (by rfl)))
        · replace h := ifF c12 h
          cases h
          exact TL.nil (X.as (d := 21) (v' := .bool false) rfl (congrArg Value.bool (decide_eq_false c12)) (X.jq [0, 0] ⟨rfl, rfl⟩ (by rfl) (by rfl)))
      · replace h := ifF c11 h
        refine TL.no rfl (.gn rfl rfl (decide_eq_false c11)) rfl ?_
        refine TL.no rfl (.gn rfl rfl (decide_eq_false c11)) rfl ?_
        refine TL.no rfl (.gn rfl rfl (decide_eq_false c11)) rfl ?_
        refine TL.q rfl (.g rfl rfl (decide_eq_false c10)) (Ex.pn rfl (decide_eq_false c11) rfl) rfl ?_
        refine TL.q rfl .u (Ex.pn rfl (decide_eq_false c10) rfl) rfl ?_
        cases h
        exact TL.nil (X.jq [0, 0] ⟨rfl, rfl⟩ (by rfl) (by rfl))
  · rintro _ _ ⟨rfl, rfl⟩
    clear h
    have h := hk9
    clear hk9
    try dsimp only at h
    by_cases c13 : y8 = true
    · replace h := ifT c13 h
      refine X.seq ?_
      refine T.yes rfl c13 ?_
      refine T.seq (T.region rfl ?_)
      refine TL.run ft_produce_ok [0] rfl rfl ?_
      obtain rfl := Option.some.inj h
      exact TL.nil (X.seq (T.ret (X.rs (X.done1 [1] Try.results111 (RV.tm rfl) ⟨rfl, rfl, rfl⟩ (by rfl) (.inl rfl)))))
    · replace h := ifF c13 h
      replace c13 := eq_false_of_ne_true c13
      refine X.seq ?_
      refine T.no rfl c13 ?_
      refine T.skip (X.seq (T.seq (T.seq (T.region rfl ?_))))
      refine TL.run ft_produce_ok [0] rfl rfl ?_
      refine TL.q rfl .u (Ex.lenS rfl Try.runUnderlying46) rfl ?_
      refine TL.run ft_produce_ok [2] rfl rfl ?_
      refine TL.nil (X.seq (T.block ?_))
      obtain ⟨E16, hE17, hO18⟩ := Option.bind_eq_some_iff.1 h
      have hk22len := RX.len_le (RX.reads_right hX)
      refine T.lp (fun m e Rs => ∃ (y14 : Int) (k15 : Nat), k15 + m = a1.length ∧ e = [(3, .pointer (some ⟨b5, 0, none⟩)), (6, .int .i64 y14), (22, .slice A3 a1.length c4), (23, .int .i64 (a1.length : Int)), (24, .int .i64 (k15 : Int))] ∧ Rs = [BlkR b5 65 #[.bool a0.fID.null, .string (bsOf a0.fID.data), .int .i64 a0.fAcks, .int .i64 a0.fTimeout, .slice A1 a0.fTopics.length c2], EmpR] ∧ f_produce_RequestBatches_l1 a0 (a1.drop k15) y14 = some E16) (a1.length) [0, 0] ⟨0, 0, by simp, rfl, rfl, by rw [List.drop_zero]; exact hE17⟩ (by rfl) (by rfl) ?_
      rintro m19 _ _ ⟨y14, k15, hk22, rfl, rfl, hl21⟩
      clear hE17 h
      cases m19 with
      | zero =>
        have h := hl21
        clear hl21
        rw [List.drop_of_length_le (by omega), f_produce_RequestBatches_l1] at h
        have hk22ge : ¬ ((k15 : Int) < (a1.length : Int)) := by omega
        refine T.seq (T.region rfl ?_)
        refine TL.run ft_produce_ok [0] rfl rfl ?_
        refine TL.nil (X.seq (T.seq ?_))
        refine T.no rfl (decide_eq_false hk22ge) ?_
        obtain rfl := Option.some.inj h
        replace h := hO18
        clear hO18
        try dsimp only at h
        refine T.exit (X.exs (X.exs (X.ex (X.seq (T.seq (T.region rfl ?_))))))
        refine TL.run ft_produce_ok [0] rfl rfl ?_
        obtain rfl := Option.some.inj h
        exact TL.nil (X.seq (T.ret (X.done1 [1] Try.results111 (RV.tm rfl) ⟨rfl, rfl, rfl⟩ (by rfl) (.inl rfl))))
      | succ m19 =>
        have h := hl21
        clear hl21
        obtain ⟨x20, hxx20⟩ : ∃ x, a1[k15]? = some x := ⟨_, List.getElem?_eq_getElem (by omega)⟩
        rw [drop_cons hxx20, f_produce_RequestBatches_l1] at h
        have hk22lt : (k15 : Int) < (a1.length : Int) := by omega
        refine T.seq (T.region rfl ?_)
        refine TL.run ft_produce_ok [0] rfl rfl ?_
        refine TL.nil (X.seq (T.seq ?_))
        refine T.yes rfl (decide_eq_true hk22lt) ?_
        obtain ⟨gz23, oz23, rfl, z23cs, z23cl, z23cc, z23nf, z23r⟩ := RX.elem (by decide) (RX.reads_right hX) hxx20
        obtain ⟨z23S, z23r, z23rr⟩ := z23r
        obtain ⟨A24, c25, rfl, z23s0⟩ := z23r
        have hX26 : (RX.of (sliceRd 7 Rec_rd) [.slice A24 x20.fRecords.length c25] x20.fRecords).reads w F := ⟨z23S, z23s0, z23rr⟩
        refine T.skip (X.seq (T.seq (T.block (T.seq (T.region rfl ?_)))))
        refine TL.q rfl .u (Ex.ixS (k := k15) rfl rfl rfl Try.runUnderlying46 Try.sizeOf25 (List.getElem?_eq_some_iff.1 hxx20).1) rfl ?_
        refine TL.q rfl .u (Ex.oS (us := [.int .i64 x20.fBase, .int .i64 x20.fLeader, .bool x20.fAppend, .bool x20.fTxn, .bool x20.fControl, .int .i64 x20.fLast, .int .i64 x20.fFirst, .int .i64 x20.fMax, .int .i64 x20.fProducer, .int .i64 x20.fEpoch, .int .i64 x20.fSequence, .slice A24 x20.fRecords.length c25]) 0 rfl Try.isAgg25 Try.sizeOf25 z23nf z23cc rfl rfl rfl) rfl ?_
        refine TL.alloc rfl .u Try.zeroValue25 rfl (fun b27 => ?_)
        refine TL.st0 (cs' := #[.int .i64 x20.fBase, .int .i64 x20.fLeader, .bool x20.fAppend, .bool x20.fTxn, .bool x20.fControl, .int .i64 x20.fLast, .int .i64 x20.fFirst, .int .i64 x20.fMax, .int .i64 x20.fProducer, .int .i64 x20.fEpoch, .int .i64 x20.fSequence, .slice A24 x20.fRecords.length c25]) rfl .u rfl rfl Try.sizeOf25 rfl rfl rfl rfl ?_
        refine TL.nil (X.seq (T.seq (T.seq (T.region rfl ?_))))
        refine TL.q rfl .u (Ex.bS (us := [.int .i64 x20.fBase, .int .i64 x20.fLeader, .bool x20.fAppend, .bool x20.fTxn, .bool x20.fControl, .int .i64 x20.fLast, .int .i64 x20.fFirst, .int .i64 x20.fMax, .int .i64 x20.fProducer, .int .i64 x20.fEpoch, .int .i64 x20.fSequence, .slice A24 x20.fRecords.length c25]) 0 rfl Try.isAgg25 Try.sizeOf25 rfl rfl rfl) rfl ?_
        obtain ⟨x28, hx29, h⟩ := Option.bind_eq_some_iff.1 h
        refine TL.ce rfl .u (.fn Try.call15 rfl) (f_batch_Check_spec x20 _ _ _ hx29) (fun _ hs => (SrcE.old hs hX26)) rfl ?_
        refine TL.run ft_produce_ok [2] rfl rfl ?_
        refine TL.nil (X.seq (T.seq (T.region rfl ?_)))
        refine TL.run ft_produce_ok [0, 1] rfl rfl ?_
        by_cases c30 : x28 = 0
        · replace h := ifT c30 h
          refine TL.nil (X.seq ?_)
          refine T.no rfl (bn_f (decide_eq_true c30)) ?_
          refine T.skip (X.seq (T.block (T.seq (T.region rfl ?_))))
          refine TL.run ft_produce_ok [0] rfl rfl ?_
          refine TL.q rfl .u (Ex.b1 0 rfl Try.isAgg4 rfl rfl) rfl ?_
          refine TL.run ft_produce_ok [2] rfl rfl ?_
          by_cases c31 : x20.fControl = true
          · replace h := ifT c31 h
            refine TL.nil (X.seq ?_)
            refine T.yes rfl c31 ?_
            refine T.seq (T.region rfl ?_)
            refine TL.run ft_produce_ok [0] rfl rfl ?_
            obtain rfl := Option.some.inj h
            replace h := hO18
            clear hO18
            try dsimp only at h
            obtain rfl := Option.some.inj h
            exact TL.nil (X.seq (T.ret (X.rb (X.rb (X.rs (X.rs (X.rb (X.rs (X.done1 [2] Try.results111 (RV.tm rfl) ⟨rfl, rfl, rfl⟩ (by rfl) (.inl rfl))))))))))
          · replace h := ifF c31 h
            replace c31 := eq_false_of_ne_true c31
            refine TL.nil (X.seq ?_)
            refine T.no rfl c31 ?_
            refine T.seq (T.region rfl ?_)
            refine TL.run ft_produce_ok [0] rfl rfl ?_
            refine TL.q rfl .u (Ex.b1 0 rfl Try.isAgg4 rfl rfl) rfl ?_
            refine TL.run ft_produce_ok [2, 3] rfl rfl ?_
            refine TL.q rfl .u (Ex.b1 1 rfl Try.isAgg4 rfl rfl) rfl ?_
            refine TL.q rfl .u (Ex.bEq rfl rfl rfl rfl Try.runUnderlying4) rfl ?_
            refine TL.run ft_produce_ok [6] rfl rfl ?_
            by_cases c32 : (x20.fTxn == a0.fID.null) = true
            · replace h := ifT c32 h
              refine TL.nil (X.seq ?_)
              refine T.yes rfl c32 ?_
              refine T.seq (T.region rfl ?_)
              refine TL.run ft_produce_ok [0] rfl rfl ?_
              obtain rfl := Option.some.inj h
              replace h := hO18
              clear hO18
              try dsimp only at h
              obtain rfl := Option.some.inj h
              exact TL.nil (X.seq (T.ret (X.rb (X.rb (X.rs (X.rs (X.rb (X.rs (X.done1 [2] Try.results111 (RV.tm rfl) ⟨rfl, rfl, rfl⟩ (by rfl) (.inl rfl))))))))))
            · replace h := ifF c32 h
              replace c32 := eq_false_of_ne_true c32
              refine TL.nil (X.seq ?_)
              refine T.no rfl c32 ?_
              refine T.skip (X.blk (X.blk (X.seq (T.region rfl ?_))))
              refine TL.q rfl .u (Ex.add rfl rfl (by omega)) rfl ?_
              refine TL.run ft_produce_ok [1] rfl rfl ?_
              exact TL.nil (X.back (m' := m19) [1, 1] (by omega) ⟨y14, k15 + 1, by omega, rfl, rfl, h⟩ (by rfl) (by rfl))
        · replace h := ifF c30 h
          refine TL.nil (X.seq ?_)
          refine T.yes rfl (bn_t (decide_eq_false c30)) ?_
          refine T.seq (T.region rfl ?_)
          refine TL.run ft_produce_ok [0, 1] rfl rfl ?_
          obtain rfl := Option.some.inj h
          replace h := hO18
          clear hO18
          try dsimp only at h
          obtain rfl := Option.some.inj h
          exact TL.nil (X.seq (T.ret (X.rs (X.rb (X.rs (X.rs (X.rb (X.rs (X.done1 [2] Try.results111 (RV.tm rfl) ⟨rfl, rfl, rfl⟩ (by rfl) (.inl rfl))))))))))
def f_produce_RequestCheck_l2 (a0 : ProduceRequest) (a1 : Int) : List ProducePart → Int → Option (Lp Int Int)
  | [], y51 => some (Lp.go y51)
  | x57 :: xs, y51 => (f_produce_RequestBatches a0 x57.fBatches a1).bind fun x65 => if x65 = 0 then (f_produce_RequestCheck_l2 a0 a1 xs y51) else some (Lp.ret x65)
def f_produce_RequestCheck_l1 (a0 : ProduceRequest) (a1 : Int) : List ProduceTopic → Int → Option (Lp Int Int)
  | [], y37 => some (Lp.go y37)
  | x43 :: xs, y37 => (f_produce_RequestCheck_l2 a0 a1 x43.fParts y37).bind fun e => match e with | .ret r => some (Lp.ret r) | .go y68 => (f_produce_RequestCheck_l1 a0 a1 xs y68)
def f_produce_RequestCheck (a0 : ProduceRequest) (a1 : Int) : Option (Int) := ((gRight a0.fID).bind fun x12 => if x12 = true then (if a0.fID.null = true then some false else ((gKRight a0.fID.data).bind fun x16 => if x16 = true then some false else some true)) else some true).bind fun y10 => if y10 = true then some 4 else ((if a0.fAcks < (-1) then some true else (if a0.fAcks > 1 then some true else (if a0.fTimeout < 0 then some true else ((gFits a0.fTimeout 4).bind fun x30 => if x30 = true then some false else some true)))).bind fun y25 => if y25 = true then some 11 else ((f_produce_rise a0.fTopics).bind fun x34 => if x34 = 0 then ((f_produce_RequestCheck_l1 a0 a1 a0.fTopics 0).bind fun e => match e with | .ret r => some r | .go y70 => some 0) else some x34))
set_option maxRecDepth 100000 in
set_option maxHeartbeats 4000000 in
theorem f_produce_RequestCheck_spec (a0 : ProduceRequest) (A1 : Option Addr) (c2 : Nat) (a1 : Int) (r : Int) (h : f_produce_RequestCheck a0 a1 = some r) : SpecX Try.prog 68 #[.agg #[.bool a0.fID.null, .string (bsOf a0.fID.data), .int .i64 a0.fAcks, .int .i64 a0.fTimeout, .slice A1 a0.fTopics.length c2], .int .i64 a1] (RX.of (sliceRd 2 ProduceTopic_rd) [.slice A1 a0.fTopics.length c2] a0.fTopics) (EmpR) (fun v A' N => v = .int .i64 r ∧ A' = EmpR ∧ N = []) := by
  refine enterA Try.func68 rfl Try.ntmps68 rfl ?_
  intro F w hX
  unfold f_produce_RequestCheck at h
  refine T.seq (T.region rfl ?_)
  refine TL.box rfl .u rfl rfl (fun b3 => ?_)
  refine TL.run ft_produce_ok [1] rfl rfl ?_
  refine TL.nil (X.seq (T.seq (T.block (T.seq ?_))))
  obtain ⟨y10, h, hk11⟩ := Option.bind_eq_some_iff.1 h
  refine T.jq (fun e Rs => e = [(1, .int .i64 a1), (2, .pointer (some ⟨b3, 0, none⟩)), (4, .int .i64 0), (11, .bool y10)] ∧ Rs = [BlkR b3 65 #[.bool a0.fID.null, .string (bsOf a0.fID.data), .int .i64 a0.fAcks, .int .i64 a0.fTimeout, .slice A1 a0.fTopics.length c2], EmpR]) ?_ ?_
  · clear hk11
    refine T.region rfl ?_
    refine TL.run ft_produce_ok [0] rfl rfl ?_
    refine TL.q rfl .u (Ex.bS (us := [.bool a0.fID.null, .string (bsOf a0.fID.data)]) 0 rfl Try.isAgg30 Try.sizeOf30 rfl rfl rfl) rfl ?_
    obtain ⟨x12, hx13, h⟩ := Option.bind_eq_some_iff.1 h
    refine TL.ce rfl .u (.fn Try.call108 rfl) (gRight_spec a0.fID _ hx13) (fun _ hs => (RX.reads_triv _ _)) rfl ?_
    by_cases c14 : x12 = true
    · replace h := ifT c14 h
      refine TL.run ft_produce_ok [3, 4] rfl rfl ?_
      refine TL.q rfl (.g rfl rfl (bn_f c14)) (Ex.ft ft_produce_ok rfl) rfl ?_
      refine TL.q rfl (.g rfl rfl (bn_f c14)) (Ex.ft ft_produce_ok rfl) rfl ?_
      refine TL.q rfl (.g rfl rfl (bn_f c14)) (Ex.b1 0 rfl Try.isAgg4 rfl rfl) rfl ?_
      refine TL.q rfl (.g rfl rfl (bn_f c14)) (Ex.ft ft_produce_ok rfl) rfl ?_
      refine TL.q rfl (.g rfl rfl (bn_f c14)) (Ex.ft ft_produce_ok rfl) rfl ?_
      by_cases c15 : a0.fID.null = true
      · replace h := ifT c15 h
        refine TL.no rfl (.gn rfl rfl (bn_f c15)) rfl ?_
        refine TL.no rfl (.gn rfl rfl (bn_f c15)) rfl ?_
        refine TL.no rfl (.gn rfl rfl (bn_f c15)) rfl ?_
        refine TL.no rfl (.gn rfl rfl (bn_f c15)) rfl ?_
        refine TL.no rfl (.gn rfl rfl (bn_f c15)) rfl ?_
        refine TL.q rfl (.g rfl rfl (bn_f c14)) (Ex.pn rfl (bn_f c15) rfl) rfl ?_
        refine TL.q rfl .u (Ex.pn rfl (bn_f c14) rfl) rfl ?_
        refine TL.run ft_produce_ok [17] rfl rfl ?_
        cases h
        exact TL.nil (X.jq [0, 0] ⟨rfl, rfl⟩ (by rfl) (by rfl))
      · replace h := ifF c15 h
        replace c15 := eq_false_of_ne_true c15
        refine TL.q rfl (.g rfl rfl (bn_t c15)) (Ex.ft ft_produce_ok rfl) rfl ?_
        refine TL.q rfl (.g rfl rfl (bn_t c15)) (Ex.ft ft_produce_ok rfl) rfl ?_
        refine TL.q rfl (.g rfl rfl (bn_t c15)) (Ex.b1 0 rfl Try.isAgg9 rfl rfl) rfl ?_
        obtain ⟨x16, hx17, h⟩ := Option.bind_eq_some_iff.1 h
        refine TL.ce rfl (.g rfl rfl (bn_t c15)) (.fn Try.call109 rfl) (SpecX.pure (fun w => gKRight_spec a0.fID.data _ hx17 w)) (fun _ _ => RX.reads_triv _ _) rfl ?_
        refine TL.q rfl (.g rfl rfl (bn_t c15)) (Ex.ft ft_produce_ok rfl) rfl ?_
        refine TL.q rfl (.g rfl rfl (bn_f c14)) (Ex.py rfl (bn_t c15) rfl) rfl ?_
        refine TL.q rfl .u (Ex.pn rfl (bn_f c14) rfl) rfl ?_
        refine TL.run ft_produce_ok [17] rfl rfl ?_
        by_cases c18 : x16 = true
        · replace h := ifT c18 h
          cases h
          exact TL.nil (X.as (d := 11) (v' := .bool false) rfl (congrArg Value.bool (bn_f c18)) (X.jq [0, 0] ⟨rfl, rfl⟩ (by rfl) (by rfl)))
        · replace h := ifF c18 h
          replace c18 := eq_false_of_ne_true c18
          cases h
          exact TL.nil (X.as (d := 11) (v' := .bool true) rfl (congrArg Value.bool (bn_t c18)) (X.jq [0, 0] ⟨rfl, rfl⟩ (by rfl) (by rfl)))
    · replace h := ifF c14 h
      replace c14 := eq_false_of_ne_true c14
      refine TL.run ft_produce_ok [3, 4] rfl rfl ?_
      refine TL.no rfl (.gn rfl rfl (bn_t c14)) rfl ?_
      refine TL.no rfl (.gn rfl rfl (bn_t c14)) rfl ?_
      refine TL.no rfl (.gn rfl rfl (bn_t c14)) rfl ?_
      refine TL.no rfl (.gn rfl rfl (bn_t c14)) rfl ?_
      refine TL.no rfl (.gn rfl rfl (bn_t c14)) rfl ?_
      refine TL.no rfl (.gu rfl rfl) rfl ?_
      refine TL.no rfl (.gu rfl rfl) rfl ?_
      refine TL.no rfl (.gu rfl rfl) rfl ?_
      refine TL.no rfl (.gu rfl rfl) rfl ?_
      refine TL.no rfl (.gu rfl rfl) rfl ?_
      refine TL.no rfl (.gn rfl rfl (bn_t c14)) rfl ?_
      refine TL.q rfl .u (Ex.py rfl (bn_t c14) rfl) rfl ?_
      refine TL.run ft_produce_ok [17] rfl rfl ?_
      cases h
      exact TL.nil (X.jq [0, 0] ⟨rfl, rfl⟩ (by rfl) (by rfl))
  · rintro _ _ ⟨rfl, rfl⟩
    clear h
    have h := hk11
    clear hk11
    try dsimp only at h
    by_cases c19 : y10 = true
    · replace h := ifT c19 h
      refine X.seq ?_
      refine T.yes rfl c19 ?_
      refine T.seq (T.region rfl ?_)
      refine TL.run ft_produce_ok [0] rfl rfl ?_
      obtain rfl := Option.some.inj h
      exact TL.nil (X.seq (T.ret (X.rb (X.rs (X.done1 [1] Try.results68 (RV.tm rfl) ⟨rfl, rfl, rfl⟩ (by rfl) (.inl rfl))))))
    · replace h := ifF c19 h
      replace c19 := eq_false_of_ne_true c19
      refine X.seq ?_
      refine T.no rfl c19 ?_
      refine T.seq ?_
      obtain ⟨y25, h, hk26⟩ := Option.bind_eq_some_iff.1 h
      refine T.jq (fun e Rs => e = [(1, .int .i64 a1), (2, .pointer (some ⟨b3, 0, none⟩)), (4, .int .i64 0), (29, .bool y25)] ∧ Rs = [BlkR b3 65 #[.bool a0.fID.null, .string (bsOf a0.fID.data), .int .i64 a0.fAcks, .int .i64 a0.fTimeout, .slice A1 a0.fTopics.length c2], EmpR]) ?_ ?_
      · clear hk26
        refine T.region rfl ?_
        refine TL.run ft_produce_ok [0] rfl rfl ?_
        refine TL.q rfl .u (Ex.b1 0 rfl Try.isAgg3 rfl rfl) rfl ?_
        by_cases c27 : a0.fAcks < (-1)
        · replace h := ifT c27 h
          refine TL.run ft_produce_ok [2, 3] rfl rfl ?_
          refine TL.no rfl (.gn rfl rfl (decide_eq_true c27)) rfl ?_
          refine TL.no rfl (.gn rfl rfl (decide_eq_true c27)) rfl ?_
          refine TL.no rfl (.gn rfl rfl (decide_eq_true c27)) rfl ?_
          refine TL.q rfl .u (Ex.py rfl (decide_eq_true c27) rfl) rfl ?_
          refine TL.run ft_produce_ok [8] rfl rfl ?_
          refine TL.no rfl (.gn rfl rfl rfl) rfl ?_
          refine TL.no rfl (.gn rfl rfl rfl) rfl ?_
          refine TL.no rfl (.gn rfl rfl rfl) rfl ?_
          refine TL.q rfl .u (Ex.py rfl rfl rfl) rfl ?_
          refine TL.run ft_produce_ok [13] rfl rfl ?_
          refine TL.no rfl (.gn rfl rfl rfl) rfl ?_
          refine TL.no rfl (.gn rfl rfl rfl) rfl ?_
          refine TL.no rfl (.gn rfl rfl rfl) rfl ?_
          refine TL.no rfl (.gn rfl rfl rfl) rfl ?_
          refine TL.q rfl .u (Ex.py rfl rfl rfl) rfl ?_
          refine TL.run ft_produce_ok [19] rfl rfl ?_
          cases h
          exact TL.nil (X.jq [0, 0] ⟨rfl, rfl⟩ (by rfl) (by rfl))
        · replace h := ifF c27 h
          refine TL.run ft_produce_ok [2, 3] rfl rfl ?_
          refine TL.q rfl (.g rfl rfl (decide_eq_false c27)) (Ex.ft ft_produce_ok rfl) rfl ?_
          refine TL.q rfl (.g rfl rfl (decide_eq_false c27)) (Ex.b1 0 rfl Try.isAgg3 rfl rfl) rfl ?_
          refine TL.q rfl (.g rfl rfl (decide_eq_false c27)) (Ex.ft ft_produce_ok rfl) rfl ?_
          refine TL.q rfl .u (Ex.pn rfl (decide_eq_false c27) rfl) rfl ?_
          by_cases c28 : a0.fAcks > 1
          · replace h := ifT c28 h
            refine TL.run ft_produce_ok [8] rfl rfl ?_
            refine TL.no rfl (.gn rfl rfl (decide_eq_true c28)) rfl ?_
            refine TL.no rfl (.gn rfl rfl (decide_eq_true c28)) rfl ?_
            refine TL.no rfl (.gn rfl rfl (decide_eq_true c28)) rfl ?_
            refine TL.q rfl .u (Ex.py rfl (decide_eq_true c28) rfl) rfl ?_
            refine TL.run ft_produce_ok [13] rfl rfl ?_
            refine TL.no rfl (.gn rfl rfl rfl) rfl ?_
            refine TL.no rfl (.gn rfl rfl rfl) rfl ?_
            refine TL.no rfl (.gn rfl rfl rfl) rfl ?_
            refine TL.no rfl (.gn rfl rfl rfl) rfl ?_
            refine TL.q rfl .u (Ex.py rfl rfl rfl) rfl ?_
            refine TL.run ft_produce_ok [19] rfl rfl ?_
            cases h
            exact TL.nil (X.jq [0, 0] ⟨rfl, rfl⟩ (by rfl) (by rfl))
          · replace h := ifF c28 h
            refine TL.run ft_produce_ok [8] rfl rfl ?_
            refine TL.q rfl (.g rfl rfl (decide_eq_false c28)) (Ex.ft ft_produce_ok rfl) rfl ?_
            refine TL.q rfl (.g rfl rfl (decide_eq_false c28)) (Ex.b1 0 rfl Try.isAgg3 rfl rfl) rfl ?_
            refine TL.q rfl (.g rfl rfl (decide_eq_false c28)) (Ex.ft ft_produce_ok rfl) rfl ?_
            refine TL.q rfl .u (Ex.pn rfl (decide_eq_false c28) rfl) rfl ?_
            by_cases c29 : a0.fTimeout < 0
            · replace h := ifT c29 h
              refine TL.run ft_produce_ok [13] rfl rfl ?_
              refine TL.no rfl (.gn rfl rfl (decide_eq_true c29)) rfl ?_
              refine TL.no rfl (.gn rfl rfl (decide_eq_true c29)) rfl ?_
              refine TL.no rfl (.gn rfl rfl (decide_eq_true c29)) rfl ?_
              refine TL.no rfl (.gn rfl rfl (decide_eq_true c29)) rfl ?_
              refine TL.q rfl .u (Ex.py rfl (decide_eq_true c29) rfl) rfl ?_
              refine TL.run ft_produce_ok [19] rfl rfl ?_
              cases h
              exact TL.nil (X.jq [0, 0] ⟨rfl, rfl⟩ (by rfl) (by rfl))
            · replace h := ifF c29 h
              refine TL.run ft_produce_ok [13] rfl rfl ?_
              refine TL.q rfl (.g rfl rfl (decide_eq_false c29)) (Ex.ft ft_produce_ok rfl) rfl ?_
              refine TL.q rfl (.g rfl rfl (decide_eq_false c29)) (Ex.b1 0 rfl Try.isAgg3 rfl rfl) rfl ?_
              obtain ⟨x30, hx31, h⟩ := Option.bind_eq_some_iff.1 h
              refine TL.ce rfl (.g rfl rfl (decide_eq_false c29)) (.fn Try.call86 rfl) (SpecX.pure (fun w => gFits_spec a0.fTimeout 4 _ hx31 w)) (fun _ _ => RX.reads_triv _ _) rfl ?_
              refine TL.q rfl (.g rfl rfl (decide_eq_false c29)) (Ex.ft ft_produce_ok rfl) rfl ?_
              refine TL.q rfl .u (Ex.pn rfl (decide_eq_false c29) rfl) rfl ?_
              refine TL.run ft_produce_ok [19] rfl rfl ?_
              by_cases c32 : x30 = true
              · replace h := ifT c32 h
                cases h
                exact TL.nil (X.as (d := 29) (v' := .bool false) rfl (congrArg Value.bool (bn_f c32)) (X.jq [0, 0] ⟨rfl, rfl⟩ (by rfl) (by rfl)))
              · replace h := ifF c32 h
                replace c32 := eq_false_of_ne_true c32
                cases h
                exact TL.nil (X.as (d := 29) (v' := .bool true) rfl (congrArg Value.bool (bn_t c32)) (X.jq [0, 0] ⟨rfl, rfl⟩ (by rfl) (by rfl)))
      · rintro _ _ ⟨rfl, rfl⟩
        clear h
        have h := hk26
        clear hk26
        try dsimp only at h
        by_cases c33 : y25 = true
        · replace h := ifT c33 h
          refine X.seq ?_
          refine T.yes rfl c33 ?_
          refine T.seq (T.region rfl ?_)
          refine TL.run ft_produce_ok [0] rfl rfl ?_
          obtain rfl := Option.some.inj h
          exact TL.nil (X.seq (T.ret (X.rb (X.rs (X.done1 [1] Try.results68 (RV.tm rfl) ⟨rfl, rfl, rfl⟩ (by rfl) (.inl rfl))))))
        · replace h := ifF c33 h
          replace c33 := eq_false_of_ne_true c33
          refine X.seq ?_
          refine T.no rfl c33 ?_
          refine T.skip (X.blk (X.seq (T.seq (T.seq (T.region rfl ?_)))))
          refine TL.run ft_produce_ok [0] rfl rfl ?_
          refine TL.q rfl .u (Ex.b1 0 rfl Try.isAgg63 rfl rfl) rfl ?_
          obtain ⟨x34, hx35, h⟩ := Option.bind_eq_some_iff.1 h
          refine TL.ce rfl .u (.fn Try.call110 rfl) (f_produce_rise_spec a0.fTopics _ _ _ hx35) (fun _ hs => (SrcE.old hs hX)) rfl ?_
          refine TL.run ft_produce_ok [3] rfl rfl ?_
          refine TL.nil (X.seq (T.seq (T.region rfl ?_)))
          refine TL.run ft_produce_ok [0, 1] rfl rfl ?_
          by_cases c36 : x34 = 0
          · replace h := ifT c36 h
            refine TL.nil (X.seq ?_)
            refine T.no rfl (bn_f (decide_eq_true c36)) ?_
            refine T.skip (X.seq (T.seq (T.seq (T.region rfl ?_))))
            refine TL.run ft_produce_ok [0] rfl rfl ?_
            refine TL.q rfl .u (Ex.b1 0 rfl Try.isAgg63 rfl rfl) rfl ?_
            refine TL.q rfl .u (Ex.lenS rfl Try.runUnderlying63) rfl ?_
            refine TL.run ft_produce_ok [3] rfl rfl ?_
            refine TL.nil (X.seq (T.block ?_))
            obtain ⟨E39, hE40, hO41⟩ := Option.bind_eq_some_iff.1 h
            have hk45len := RX.len_le hX
            refine T.lp (fun m e Rs => ∃ (y37 : Int) (k38 : Nat), k38 + m = a0.fTopics.length ∧ e = [(1, .int .i64 a1), (2, .pointer (some ⟨b3, 0, none⟩)), (4, .int .i64 y37), (56, .slice A1 a0.fTopics.length c2), (57, .int .i64 (a0.fTopics.length : Int)), (58, .int .i64 (k38 : Int))] ∧ Rs = [BlkR b3 65 #[.bool a0.fID.null, .string (bsOf a0.fID.data), .int .i64 a0.fAcks, .int .i64 a0.fTimeout, .slice A1 a0.fTopics.length c2], EmpR] ∧ f_produce_RequestCheck_l1 a0 a1 (a0.fTopics.drop k38) y37 = some E39) (a0.fTopics.length) [0, 0] ⟨0, 0, by simp, rfl, rfl, by rw [List.drop_zero]; exact hE40⟩ (by rfl) (by rfl) ?_
            rintro m42 _ _ ⟨y37, k38, hk45, rfl, rfl, hl44⟩
            clear hE40 h
            cases m42 with
            | zero =>
              have h := hl44
              clear hl44
              rw [List.drop_of_length_le (by omega), f_produce_RequestCheck_l1] at h
              have hk45ge : ¬ ((k38 : Int) < (a0.fTopics.length : Int)) := by omega
              refine T.seq (T.region rfl ?_)
              refine TL.run ft_produce_ok [0] rfl rfl ?_
              refine TL.nil (X.seq (T.seq ?_))
              refine T.no rfl (decide_eq_false hk45ge) ?_
              obtain rfl := Option.some.inj h
              replace h := hO41
              clear hO41
              try dsimp only at h
              refine T.exit (X.exs (X.exs (X.ex (X.seq (T.seq (T.region rfl ?_))))))
              refine TL.run ft_produce_ok [0] rfl rfl ?_
              obtain rfl := Option.some.inj h
              exact TL.nil (X.seq (T.ret (X.done1 [1] Try.results68 (RV.tm rfl) ⟨rfl, rfl, rfl⟩ (by rfl) (.inl rfl))))
            | succ m42 =>
              have h := hl44
              clear hl44
              obtain ⟨x43, hxx43⟩ : ∃ x, a0.fTopics[k38]? = some x := ⟨_, List.getElem?_eq_getElem (by omega)⟩
              rw [drop_cons hxx43, f_produce_RequestCheck_l1] at h
              have hk45lt : (k38 : Int) < (a0.fTopics.length : Int) := by omega
              refine T.seq (T.region rfl ?_)
              refine TL.run ft_produce_ok [0] rfl rfl ?_
              refine TL.nil (X.seq (T.seq ?_))
              refine T.yes rfl (decide_eq_true hk45lt) ?_
              obtain ⟨gz46, oz46, rfl, z46cs, z46cl, z46cc, z46nf, z46r⟩ := RX.elem (by decide) hX hxx43
              obtain ⟨z46S, z46r, z46rr⟩ := z46r
              obtain ⟨A47, c48, rfl, z46s0⟩ := z46r
              have hX49 : (RX.of (sliceRd 2 ProducePart_rd) [.slice A47 x43.fParts.length c48] x43.fParts).reads w F := ⟨z46S, z46s0, z46rr⟩
              refine T.skip (X.seq (T.seq (T.block (T.seq (T.region rfl ?_)))))
              refine TL.q rfl .u (Ex.ixS (k := k38) rfl rfl rfl Try.runUnderlying63 Try.sizeOf76 (List.getElem?_eq_some_iff.1 hxx43).1) rfl ?_
              refine TL.q rfl .u (Ex.oS (us := [.string (bsOf x43.fName), .slice A47 x43.fParts.length c48]) 0 rfl Try.isAgg76 Try.sizeOf76 z46nf z46cc rfl rfl rfl) rfl ?_
              refine TL.alloc rfl .u Try.zeroValue76 rfl (fun b50 => ?_)
              refine TL.st0 (cs' := #[.string (bsOf x43.fName), .slice A47 x43.fParts.length c48]) rfl .u rfl rfl Try.sizeOf76 rfl rfl rfl rfl ?_
              refine TL.nil (X.seq (T.seq (T.region rfl ?_)))
              refine TL.run ft_produce_ok [0] rfl rfl ?_
              refine TL.q rfl .u (Ex.b1 0 rfl Try.isAgg74 rfl rfl) rfl ?_
              refine TL.q rfl .u (Ex.lenS rfl Try.runUnderlying74) rfl ?_
              refine TL.run ft_produce_ok [3] rfl rfl ?_
              refine TL.nil (X.seq (T.block ?_))
              obtain ⟨E53, hE54, hO55⟩ := Option.bind_eq_some_iff.1 h
              have hk59len := RX.len_le hX49
              refine T.lp (fun m e Rs => ∃ (y51 : Int) (k52 : Nat), k52 + m = x43.fParts.length ∧ e = [(1, .int .i64 a1), (2, .pointer (some ⟨b3, 0, none⟩)), (4, .int .i64 y51), (56, .slice (some ⟨gz46, oz46, none⟩) a0.fTopics.length c2), (57, .int .i64 (a0.fTopics.length : Int)), (58, .int .i64 (k38 : Int)), (63, .slice A47 x43.fParts.length c48), (64, .int .i64 (x43.fParts.length : Int)), (65, .int .i64 (k52 : Int))] ∧ Rs = [BlkR b50 76 #[.string (bsOf x43.fName), .slice A47 x43.fParts.length c48], BlkR b3 65 #[.bool a0.fID.null, .string (bsOf a0.fID.data), .int .i64 a0.fAcks, .int .i64 a0.fTimeout, .slice (some ⟨gz46, oz46, none⟩) a0.fTopics.length c2], EmpR] ∧ f_produce_RequestCheck_l2 a0 a1 (x43.fParts.drop k52) y51 = some E53) (x43.fParts.length) [0, 0, 0] ⟨y37, 0, by simp, rfl, rfl, by rw [List.drop_zero]; exact hE54⟩ (by rfl) (by rfl) ?_
              rintro m56 _ _ ⟨y51, k52, hk59, rfl, rfl, hl58⟩
              clear hE54 h
              cases m56 with
              | zero =>
                have h := hl58
                clear hl58
                rw [List.drop_of_length_le (by omega), f_produce_RequestCheck_l2] at h
                have hk59ge : ¬ ((k52 : Int) < (x43.fParts.length : Int)) := by omega
                refine T.seq (T.region rfl ?_)
                refine TL.run ft_produce_ok [0] rfl rfl ?_
                refine TL.nil (X.seq (T.seq ?_))
                refine T.no rfl (decide_eq_false hk59ge) ?_
                obtain rfl := Option.some.inj h
                replace h := hO55
                clear hO55
                try dsimp only at h
                refine T.exit (X.exs (X.exs (X.ex (X.blk (X.seq (T.region rfl ?_))))))
                refine TL.q rfl .u (Ex.add rfl rfl (by omega)) rfl ?_
                refine TL.run ft_produce_ok [1] rfl rfl ?_
                exact TL.nil (X.back (m' := m42) [1, 1] (by omega) ⟨y51, k38 + 1, by omega, rfl, rfl, h⟩ (by rfl) (by rfl))
              | succ m56 =>
                have h := hl58
                clear hl58
                obtain ⟨x57, hxx57⟩ : ∃ x, x43.fParts[k52]? = some x := ⟨_, List.getElem?_eq_getElem (by omega)⟩
                rw [drop_cons hxx57, f_produce_RequestCheck_l2] at h
                have hk59lt : (k52 : Int) < (x43.fParts.length : Int) := by omega
                refine T.seq (T.region rfl ?_)
                refine TL.run ft_produce_ok [0] rfl rfl ?_
                refine TL.nil (X.seq (T.seq ?_))
                refine T.yes rfl (decide_eq_true hk59lt) ?_
                obtain ⟨gz60, oz60, rfl, z60cs, z60cl, z60cc, z60nf, z60r⟩ := RX.elem (by decide) hX49 hxx57
                obtain ⟨z60S, z60r, z60rr⟩ := z60r
                obtain ⟨A61, c62, rfl, z60s0⟩ := z60r
                have hX63 : (RX.of (sliceRd 12 Bat_rd) [.slice A61 x57.fBatches.length c62] x57.fBatches).reads w F := ⟨z60S, z60s0, z60rr⟩
                refine T.skip (X.seq (T.seq (T.block (T.seq (T.region rfl ?_)))))
                refine TL.q rfl .u (Ex.ixS (k := k52) rfl rfl rfl Try.runUnderlying74 Try.sizeOf78 (List.getElem?_eq_some_iff.1 hxx57).1) rfl ?_
                refine TL.q rfl .u (Ex.oS (us := [.int .i64 x57.fIndex, .slice A61 x57.fBatches.length c62]) 0 rfl Try.isAgg78 Try.sizeOf78 z60nf z60cc rfl rfl rfl) rfl ?_
                refine TL.alloc rfl .u Try.zeroValue78 rfl (fun b64 => ?_)
                refine TL.st0 (cs' := #[.int .i64 x57.fIndex, .slice A61 x57.fBatches.length c62]) rfl .u rfl rfl Try.sizeOf78 rfl rfl rfl rfl ?_
                refine TL.nil (X.seq (T.seq (T.region rfl ?_)))
                refine TL.q rfl .u (Ex.bS (us := [.bool a0.fID.null, .string (bsOf a0.fID.data), .int .i64 a0.fAcks, .int .i64 a0.fTimeout, .slice (some ⟨gz46, oz46, none⟩) a0.fTopics.length c2]) 2 rfl Try.isAgg65 Try.sizeOf65 rfl rfl rfl) rfl ?_
                refine TL.run ft_produce_ok [1] rfl rfl ?_
                refine TL.q rfl .u (Ex.b1 0 rfl Try.isAgg46 rfl rfl) rfl ?_
                obtain ⟨x65, hx66, h⟩ := Option.bind_eq_some_iff.1 h
                refine TL.run ft_produce_ok [3] rfl rfl ?_
                refine TL.ce rfl .u (.fn Try.call111 rfl) (f_produce_RequestBatches_spec a0 _ _ x57.fBatches _ _ a1 _ hx66) (fun _ hs => (RX.reads_and (SrcE.old hs hX) (SrcE.old hs hX63))) rfl ?_
                refine TL.run ft_produce_ok [5] rfl rfl ?_
                refine TL.nil (X.seq (T.seq (T.region rfl ?_)))
                refine TL.run ft_produce_ok [0, 1] rfl rfl ?_
                by_cases c67 : x65 = 0
                · replace h := ifT c67 h
                  refine TL.nil (X.seq ?_)
                  refine T.no rfl (bn_f (decide_eq_true c67)) ?_
                  refine T.skip (X.blk (X.seq (T.region rfl ?_)))
                  refine TL.q rfl .u (Ex.add rfl rfl (by omega)) rfl ?_
                  refine TL.run ft_produce_ok [1] rfl rfl ?_
                  exact TL.nil (X.back (m' := m56) [1, 1, 1] (by omega) ⟨y51, k52 + 1, by omega, rfl, rfl, h⟩ (by rfl) (by rfl))
                · replace h := ifF c67 h
                  refine TL.nil (X.seq ?_)
                  refine T.yes rfl (bn_t (decide_eq_false c67)) ?_
                  refine T.seq (T.region rfl ?_)
                  refine TL.run ft_produce_ok [0, 1] rfl rfl ?_
                  obtain rfl := Option.some.inj h
                  replace h := hO55
                  clear hO55
                  try dsimp only at h
                  obtain rfl := Option.some.inj h
                  replace h := hO41
                  clear hO41
                  try dsimp only at h
                  obtain rfl := Option.some.inj h
                  exact TL.nil (X.seq (T.ret (X.rb (X.rs (X.rs (X.rb (X.rb (X.rs (X.rs (X.rb (X.rs (X.done1 [3] Try.results68 (RV.tm rfl) ⟨rfl, rfl, rfl⟩ (by rfl) (.inl rfl)))))))))))))
          · replace h := ifF c36 h
            refine TL.nil (X.seq ?_)
            refine T.yes rfl (bn_t (decide_eq_false c36)) ?_
            refine T.seq (T.region rfl ?_)
            refine TL.run ft_produce_ok [0, 1] rfl rfl ?_
            obtain rfl := Option.some.inj h
            exact TL.nil (X.seq (T.ret (X.rs (X.done1 [1] Try.results68 (RV.tm rfl) ⟨rfl, rfl, rfl⟩ (by rfl) (.inl rfl)))))
def f_produce_RequestWrite_l2 : List ProducePart → (List UInt8 × Int) → Option (List UInt8 × Int)
  | [], st78 => some st78
  | x83 :: xs, st78 => (f_batch_All x83.fBatches).bind fun (x91, x92) => (if x92 = 0 then some st78 else ((gOFail st78 x92).bind fun st100 => some st100)).bind fun st97 => (gOInt st97 x83.fIndex 4).bind fun st102 => (gOf x91).bind fun x104 => (gPutFixed st102 x104 4).bind fun st106 => f_produce_RequestWrite_l2 xs st106
def f_produce_RequestWrite_l1 : List ProduceTopic → (List UInt8 × Int) → Option (List UInt8 × Int)
  | [], st16 => some st16
  | x21 :: xs, st16 => ((gPutText st16 x21.fName).bind fun st73 => (gOInt st73 (x21.fParts.length : Int) 4).bind fun st75 => (f_produce_RequestWrite_l2 x21.fParts st75).bind fun st109 => some st109).bind fun st66 => f_produce_RequestWrite_l1 xs st66
def f_produce_RequestWrite (st : List UInt8 × Int) (a0 : ProduceRequest) (a2 : Int) : Option (List UInt8 × Int) := (f_produce_RequestCheck a0 a2).bind fun x4 => if x4 = 0 then ((gPutFixed st a0.fID 2).bind fun st7 => (gOInt st7 a0.fAcks 2).bind fun st9 => (gOInt st9 a0.fTimeout 4).bind fun st11 => (gOInt st11 (a0.fTopics.length : Int) 4).bind fun st13 => (f_produce_RequestWrite_l1 a0.fTopics st13).bind fun st111 => some st111) else ((gOFail st x4).bind fun st112 => some st112)
set_option maxRecDepth 100000 in
set_option maxHeartbeats 4000000 in
theorem f_produce_RequestWrite_spec (g : Nat) (st : List UInt8 × Int) (a0 : ProduceRequest) (A1 : Option Addr) (c2 : Nat) (a2 : Int) (r : List UInt8 × Int) (h : f_produce_RequestWrite st a0 a2 = some r) : SpecX Try.prog 67 #[.agg #[.bool a0.fID.null, .string (bsOf a0.fID.data), .int .i64 a0.fAcks, .int .i64 a0.fTimeout, .slice A1 a0.fTopics.length c2], .pointer (some ⟨g, 0, none⟩), .int .i64 a2] (RX.of (sliceRd 2 ProduceTopic_rd) [.slice A1 a0.fTopics.length c2] a0.fTopics) (OutR g st) (fun v A' N => v = .tuple #[] ∧ A' = OutR g r ∧ N = []) := by
  refine enterA Try.func67 rfl Try.ntmps67 rfl ?_
  intro F w hX
  unfold f_produce_RequestWrite at h
  refine T.seq (T.region rfl ?_)
  refine TL.box rfl .u rfl rfl (fun b3 => ?_)
  refine TL.nil (X.seq (T.seq (T.seq (T.region rfl ?_))))
  refine TL.q rfl .u (Ex.bS (us := [.bool a0.fID.null, .string (bsOf a0.fID.data), .int .i64 a0.fAcks, .int .i64 a0.fTimeout, .slice A1 a0.fTopics.length c2]) 0 rfl Try.isAgg65 Try.sizeOf65 rfl rfl rfl) rfl ?_
  obtain ⟨x4, hx5, h⟩ := Option.bind_eq_some_iff.1 h
  refine TL.run ft_produce_ok [1] rfl rfl ?_
  refine TL.ce rfl .u (.fn Try.call68 rfl) (f_produce_RequestCheck_spec a0 _ _ a2 _ hx5) (fun _ hs => (SrcE.old hs hX)) rfl ?_
  refine TL.run ft_produce_ok [3] rfl rfl ?_
  refine TL.nil (X.seq (T.seq (T.region rfl ?_)))
  refine TL.run ft_produce_ok [0, 1] rfl rfl ?_
  by_cases c6 : x4 = 0
  · replace h := ifT c6 h
    refine TL.nil (X.seq ?_)
    refine T.no rfl (bn_f (decide_eq_true c6)) ?_
    refine T.skip (X.seq (T.seq (T.region rfl ?_)))
    refine TL.run ft_produce_ok [0, 1] rfl rfl ?_
    refine TL.q rfl .u (Ex.bS (us := [.bool a0.fID.null, .string (bsOf a0.fID.data)]) 0 rfl Try.isAgg30 Try.sizeOf30 rfl rfl rfl) rfl ?_
    obtain ⟨st7, hx8, h⟩ := Option.bind_eq_some_iff.1 h
    refine TL.c1 rfl .u (.fn Try.call106 rfl) (gPutFixed_spec g st a0.fID 2 _ hx8) (fun _ hs => (Src.triv _)) rfl ?_
    refine TL.nil (X.seq (T.seq (T.region rfl ?_)))
    refine TL.run ft_produce_ok [0, 1] rfl rfl ?_
    refine TL.q rfl .u (Ex.b1 0 rfl Try.isAgg3 rfl rfl) rfl ?_
    obtain ⟨st9, hx10, h⟩ := Option.bind_eq_some_iff.1 h
    refine TL.c1 rfl .u (.fn Try.call84 rfl) (gOInt_spec g st7 a0.fAcks 2 _ hx10) (fun _ hs => (Src.triv _)) rfl ?_
    refine TL.nil (X.seq (T.seq (T.region rfl ?_)))
    refine TL.run ft_produce_ok [0, 1] rfl rfl ?_
    refine TL.q rfl .u (Ex.b1 0 rfl Try.isAgg3 rfl rfl) rfl ?_
    obtain ⟨st11, hx12, h⟩ := Option.bind_eq_some_iff.1 h
    refine TL.c1 rfl .u (.fn Try.call84 rfl) (gOInt_spec g st9 a0.fTimeout 4 _ hx12) (fun _ hs => (Src.triv _)) rfl ?_
    refine TL.nil (X.seq (T.seq (T.region rfl ?_)))
    refine TL.run ft_produce_ok [0, 1] rfl rfl ?_
    refine TL.q rfl .u (Ex.b1 0 rfl Try.isAgg63 rfl rfl) rfl ?_
    refine TL.q rfl .u (Ex.lenS rfl Try.runUnderlying63) rfl ?_
    obtain ⟨st13, hx14, h⟩ := Option.bind_eq_some_iff.1 h
    refine TL.c1 rfl .u (.fn Try.call84 rfl) (gOInt_spec g st11 (a0.fTopics.length : Int) 4 _ hx14) (fun _ hs => (Src.triv _)) rfl ?_
    refine TL.nil (X.seq (T.seq (T.region rfl ?_)))
    refine TL.run ft_produce_ok [0] rfl rfl ?_
    refine TL.q rfl .u (Ex.b1 0 rfl Try.isAgg63 rfl rfl) rfl ?_
    refine TL.q rfl .u (Ex.lenS rfl Try.runUnderlying63) rfl ?_
    refine TL.run ft_produce_ok [3] rfl rfl ?_
    refine TL.nil (X.seq (T.block ?_))
    obtain ⟨E17, hE18, hO19⟩ := Option.bind_eq_some_iff.1 h
    have hk23len := RX.len_le hX
    refine T.lp (fun m e Rs => ∃ (k15 : Nat) (st16 : List UInt8 × Int), k15 + m = a0.fTopics.length ∧ e = [(1, .pointer (some ⟨g, 0, none⟩)), (39, .slice A1 a0.fTopics.length c2), (40, .int .i64 (a0.fTopics.length : Int)), (41, .int .i64 (k15 : Int))] ∧ Rs = [BlkR b3 65 #[.bool a0.fID.null, .string (bsOf a0.fID.data), .int .i64 a0.fAcks, .int .i64 a0.fTimeout, .slice A1 a0.fTopics.length c2], OutR g st16] ∧ f_produce_RequestWrite_l1 (a0.fTopics.drop k15) st16 = some E17) (a0.fTopics.length) [0, 0] ⟨0, st13, by simp, rfl, rfl, by rw [List.drop_zero]; exact hE18⟩ (by rfl) (by rfl) ?_
    rintro m20 _ _ ⟨k15, st16, hk23, rfl, rfl, hl22⟩
    clear hE18 h
    cases m20 with
    | zero =>
      have h := hl22
      clear hl22
      rw [List.drop_of_length_le (by omega), f_produce_RequestWrite_l1] at h
      have hk23ge : ¬ ((k15 : Int) < (a0.fTopics.length : Int)) := by omega
      refine T.seq (T.region rfl ?_)
      refine TL.run ft_produce_ok [0] rfl rfl ?_
      refine TL.nil (X.seq (T.seq ?_))
      refine T.no rfl (decide_eq_false hk23ge) ?_
      obtain rfl := Option.some.inj h
      replace h := hO19
      clear hO19
      try dsimp only at h
      obtain rfl := Option.some.inj h
      exact T.exit (X.exs (X.exs (X.ex (X.done0 [1] Try.results67 ⟨rfl, rfl, rfl⟩ (by rfl) (.inr rfl)))))
    | succ m20 =>
      have h := hl22
      clear hl22
      obtain ⟨x21, hxx21⟩ : ∃ x, a0.fTopics[k15]? = some x := ⟨_, List.getElem?_eq_getElem (by omega)⟩
      rw [drop_cons hxx21, f_produce_RequestWrite_l1] at h
      have hk23lt : (k15 : Int) < (a0.fTopics.length : Int) := by omega
      refine T.seq (T.region rfl ?_)
      refine TL.run ft_produce_ok [0] rfl rfl ?_
      refine TL.nil (X.seq (T.seq ?_))
      refine T.yes rfl (decide_eq_true hk23lt) ?_
      refine T.skip (X.seq (T.seq ?_))
      obtain ⟨st66, h, hk67⟩ := Option.bind_eq_some_iff.1 h
      refine T.jq (fun e Rs => e = [(1, .pointer (some ⟨g, 0, none⟩)), (39, .slice A1 a0.fTopics.length c2), (40, .int .i64 (a0.fTopics.length : Int)), (41, .int .i64 (k15 : Int))] ∧ Rs = [BlkR b3 65 #[.bool a0.fID.null, .string (bsOf a0.fID.data), .int .i64 a0.fAcks, .int .i64 a0.fTimeout, .slice A1 a0.fTopics.length c2], OutR g st66]) ?_ ?_
      · clear hk67
        obtain ⟨gz68, oz68, rfl, z68cs, z68cl, z68cc, z68nf, z68r⟩ := RX.elem (by decide) hX hxx21
        obtain ⟨z68S, z68r, z68rr⟩ := z68r
        obtain ⟨A69, c70, rfl, z68s0⟩ := z68r
        have hX71 : (RX.of (sliceRd 2 ProducePart_rd) [.slice A69 x21.fParts.length c70] x21.fParts).reads w F := ⟨z68S, z68s0, z68rr⟩
        refine T.block (T.seq (T.region rfl ?_))
        refine TL.q rfl .u (Ex.ixS (k := k15) rfl rfl rfl Try.runUnderlying63 Try.sizeOf76 (List.getElem?_eq_some_iff.1 hxx21).1) rfl ?_
        refine TL.q rfl .u (Ex.oS (us := [.string (bsOf x21.fName), .slice A69 x21.fParts.length c70]) 0 rfl Try.isAgg76 Try.sizeOf76 z68nf z68cc rfl rfl rfl) rfl ?_
        refine TL.alloc rfl .u Try.zeroValue76 rfl (fun b72 => ?_)
        refine TL.st0 (cs' := #[.string (bsOf x21.fName), .slice A69 x21.fParts.length c70]) rfl .u rfl rfl Try.sizeOf76 rfl rfl rfl rfl ?_
        refine TL.nil (X.seq (T.seq (T.region rfl ?_)))
        refine TL.run ft_produce_ok [0, 1] rfl rfl ?_
        refine TL.q rfl .u (Ex.b1 0 rfl Try.isAgg9 rfl rfl) rfl ?_
        obtain ⟨st73, hx74, h⟩ := Option.bind_eq_some_iff.1 h
        refine TL.c2 rfl .u (.fn Try.call107 rfl) (gPutText_spec g st16 x21.fName _ hx74) (fun _ hs => (Src.triv _)) rfl ?_
        refine TL.nil (X.seq (T.seq (T.region rfl ?_)))
        refine TL.run ft_produce_ok [0, 1] rfl rfl ?_
        refine TL.q rfl .u (Ex.b1 0 rfl Try.isAgg74 rfl rfl) rfl ?_
        refine TL.q rfl .u (Ex.lenS rfl Try.runUnderlying74) rfl ?_
        obtain ⟨st75, hx76, h⟩ := Option.bind_eq_some_iff.1 h
        refine TL.c2 rfl .u (.fn Try.call84 rfl) (gOInt_spec g st73 (x21.fParts.length : Int) 4 _ hx76) (fun _ hs => (Src.triv _)) rfl ?_
        refine TL.nil (X.seq (T.seq (T.region rfl ?_)))
        refine TL.run ft_produce_ok [0] rfl rfl ?_
        refine TL.q rfl .u (Ex.b1 0 rfl Try.isAgg74 rfl rfl) rfl ?_
        refine TL.q rfl .u (Ex.lenS rfl Try.runUnderlying74) rfl ?_
        refine TL.run ft_produce_ok [3] rfl rfl ?_
        refine TL.nil (X.seq (T.block ?_))
        obtain ⟨E79, hE80, hO81⟩ := Option.bind_eq_some_iff.1 h
        have hk85len := RX.len_le hX71
        refine T.lp (fun m e Rs => ∃ (k77 : Nat) (st78 : List UInt8 × Int), k77 + m = x21.fParts.length ∧ e = [(1, .pointer (some ⟨g, 0, none⟩)), (39, .slice (some ⟨gz68, oz68, none⟩) a0.fTopics.length c2), (40, .int .i64 (a0.fTopics.length : Int)), (41, .int .i64 (k15 : Int)), (55, .slice A69 x21.fParts.length c70), (56, .int .i64 (x21.fParts.length : Int)), (57, .int .i64 (k77 : Int))] ∧ Rs = [BlkR b72 76 #[.string (bsOf x21.fName), .slice A69 x21.fParts.length c70], BlkR b3 65 #[.bool a0.fID.null, .string (bsOf a0.fID.data), .int .i64 a0.fAcks, .int .i64 a0.fTimeout, .slice (some ⟨gz68, oz68, none⟩) a0.fTopics.length c2], OutR g st78] ∧ f_produce_RequestWrite_l2 (x21.fParts.drop k77) st78 = some E79) (x21.fParts.length) [0, 0, 0] ⟨0, st75, by simp, rfl, rfl, by rw [List.drop_zero]; exact hE80⟩ (by rfl) (by rfl) ?_
        rintro m82 _ _ ⟨k77, st78, hk85, rfl, rfl, hl84⟩
        clear hE80 h
        cases m82 with
        | zero =>
          have h := hl84
          clear hl84
          rw [List.drop_of_length_le (by omega), f_produce_RequestWrite_l2] at h
          have hk85ge : ¬ ((k77 : Int) < (x21.fParts.length : Int)) := by omega
          refine T.seq (T.region rfl ?_)
          refine TL.run ft_produce_ok [0] rfl rfl ?_
          refine TL.nil (X.seq (T.seq ?_))
          refine T.no rfl (decide_eq_false hk85ge) ?_
          obtain rfl := Option.some.inj h
          replace h := hO81
          clear hO81
          try dsimp only at h
          cases h
          exact T.exit (X.exs (X.exs (X.ex (X.blk (X.jq [1, 1] ⟨rfl, rfl⟩ (by rfl) (by rfl))))))
        | succ m82 =>
          have h := hl84
          clear hl84
          obtain ⟨x83, hxx83⟩ : ∃ x, x21.fParts[k77]? = some x := ⟨_, List.getElem?_eq_getElem (by omega)⟩
          rw [drop_cons hxx83, f_produce_RequestWrite_l2] at h
          have hk85lt : (k77 : Int) < (x21.fParts.length : Int) := by omega
          refine T.seq (T.region rfl ?_)
          refine TL.run ft_produce_ok [0] rfl rfl ?_
          refine TL.nil (X.seq (T.seq ?_))
          refine T.yes rfl (decide_eq_true hk85lt) ?_
          obtain ⟨gz86, oz86, rfl, z86cs, z86cl, z86cc, z86nf, z86r⟩ := RX.elem (by decide) hX71 hxx83
          obtain ⟨z86S, z86r, z86rr⟩ := z86r
          obtain ⟨A87, c88, rfl, z86s0⟩ := z86r
          have hX89 : (RX.of (sliceRd 12 Bat_rd) [.slice A87 x83.fBatches.length c88] x83.fBatches).reads w F := ⟨z86S, z86s0, z86rr⟩
          refine T.skip (X.seq (T.seq (T.block (T.seq (T.region rfl ?_)))))
          refine TL.q rfl .u (Ex.ixS (k := k77) rfl rfl rfl Try.runUnderlying74 Try.sizeOf78 (List.getElem?_eq_some_iff.1 hxx83).1) rfl ?_
          refine TL.q rfl .u (Ex.oS (us := [.int .i64 x83.fIndex, .slice A87 x83.fBatches.length c88]) 0 rfl Try.isAgg78 Try.sizeOf78 z86nf z86cc rfl rfl rfl) rfl ?_
          refine TL.alloc rfl .u Try.zeroValue78 rfl (fun b90 => ?_)
          refine TL.st0 (cs' := #[.int .i64 x83.fIndex, .slice A87 x83.fBatches.length c88]) rfl .u rfl rfl Try.sizeOf78 rfl rfl rfl rfl ?_
          refine TL.nil (X.seq (T.seq (T.region rfl ?_)))
          refine TL.run ft_produce_ok [0] rfl rfl ?_
          refine TL.q rfl .u (Ex.b1 0 rfl Try.isAgg46 rfl rfl) rfl ?_
          obtain ⟨⟨x91, x92⟩, hx93, h⟩ := Option.bind_eq_some_iff.1 h
          try dsimp only at h
          refine TL.ce rfl .u (.fn Try.call19 rfl) (f_batch_All_spec x83.fBatches _ _ _ hx93) (fun _ hs => (SrcE.old hs hX89)) rfl ?_
          refine TL.run ft_produce_ok [3, 4, 5, 6, 7] rfl rfl ?_
          refine TL.nil (X.seq (T.seq (T.seq (T.region rfl ?_))))
          refine TL.run ft_produce_ok [0, 1] rfl rfl ?_
          refine TL.nil (X.seq ?_)
          obtain ⟨st97, h, hk98⟩ := Option.bind_eq_some_iff.1 h
          refine T.jq (fun e Rs => e = [(1, .pointer (some ⟨g, 0, none⟩)), (10, .pointer (some ⟨b90, 0, none⟩)), (11, .string (bsOf x91)), (39, .slice (some ⟨gz68, oz68, none⟩) a0.fTopics.length c2), (40, .int .i64 (a0.fTopics.length : Int)), (41, .int .i64 (k15 : Int)), (55, .slice (some ⟨gz86, oz86, none⟩) x21.fParts.length c70), (56, .int .i64 (x21.fParts.length : Int)), (57, .int .i64 (k77 : Int))] ∧ Rs = [BlkR b90 78 #[.int .i64 x83.fIndex, .slice A87 x83.fBatches.length c88], BlkR b72 76 #[.string (bsOf x21.fName), .slice (some ⟨gz86, oz86, none⟩) x21.fParts.length c70], BlkR b3 65 #[.bool a0.fID.null, .string (bsOf a0.fID.data), .int .i64 a0.fAcks, .int .i64 a0.fTimeout, .slice (some ⟨gz68, oz68, none⟩) a0.fTopics.length c2], OutR g st97]) ?_ ?_
          · clear hk98
            by_cases c99 : x92 = 0
            · replace h := ifT c99 h
              refine T.no rfl (bn_f (decide_eq_true c99)) ?_
              cases h
              exact T.skip (X.jq [0, 0, 0, 0] ⟨rfl, rfl⟩ (by rfl) (by rfl))
            · replace h := ifF c99 h
              refine T.yes rfl (bn_t (decide_eq_false c99)) ?_
              refine T.region rfl ?_
              obtain ⟨st100, hx101, h⟩ := Option.bind_eq_some_iff.1 h
              refine TL.run ft_produce_ok [0, 1] rfl rfl ?_
              refine TL.c3 rfl .u (.fn Try.call80 rfl) (gOFail_spec g st78 x92 _ hx101) (fun _ hs => (Src.triv _)) rfl ?_
              cases h
              exact TL.nil (X.jq [0, 0, 0, 0] ⟨rfl, rfl⟩ (by rfl) (by rfl))
          · rintro _ _ ⟨rfl, rfl⟩
            clear h
            have h := hk98
            clear hk98
            try dsimp only at h
            refine X.seq (T.seq (T.region rfl ?_))
            refine TL.run ft_produce_ok [0, 1] rfl rfl ?_
            refine TL.q rfl .u (Ex.b1 0 rfl Try.isAgg3 rfl rfl) rfl ?_
            obtain ⟨st102, hx103, h⟩ := Option.bind_eq_some_iff.1 h
            refine TL.c3 rfl .u (.fn Try.call84 rfl) (gOInt_spec g st97 x83.fIndex 4 _ hx103) (fun _ hs => (Src.triv _)) rfl ?_
            refine TL.nil (X.seq (T.region rfl ?_))
            obtain ⟨x104, hx105, h⟩ := Option.bind_eq_some_iff.1 h
            refine TL.run ft_produce_ok [0, 1] rfl rfl ?_
            refine TL.ce rfl .u (.fn Try.call105 rfl) (gOf_spec x91 _ hx105) (fun _ hs => (RX.reads_triv _ _)) rfl ?_
            obtain ⟨st106, hx107, h⟩ := Option.bind_eq_some_iff.1 h
            refine TL.c3 rfl .u (.fn Try.call106 rfl) (gPutFixed_spec g st102 x104 4 _ hx107) (fun _ hs => (Src.triv _)) rfl ?_
            refine TL.nil (X.blk (X.seq (T.region rfl ?_)))
            refine TL.q rfl .u (Ex.add rfl rfl (by omega)) rfl ?_
            refine TL.run ft_produce_ok [1] rfl rfl ?_
            exact TL.nil (X.back (m' := m82) [1, 1, 1] (by omega) ⟨k77 + 1, st106, by omega, rfl, rfl, h⟩ (by rfl) (by rfl))
      · rintro _ _ ⟨rfl, rfl⟩
        clear h
        have h := hk67
        clear hk67
        try dsimp only at h
        refine X.seq (T.region rfl ?_)
        refine TL.q rfl .u (Ex.add rfl rfl (by omega)) rfl ?_
        refine TL.run ft_produce_ok [1] rfl rfl ?_
        exact TL.nil (X.back (m' := m20) [0, 0] (by omega) ⟨k15 + 1, st66, by omega, rfl, rfl, h⟩ (by rfl) (by rfl))
  · replace h := ifF c6 h
    refine TL.nil (X.seq ?_)
    refine T.yes rfl (bn_t (decide_eq_false c6)) ?_
    refine T.seq (T.region rfl ?_)
    obtain ⟨st112, hx113, h⟩ := Option.bind_eq_some_iff.1 h
    refine TL.run ft_produce_ok [0, 1] rfl rfl ?_
    refine TL.c1 rfl .u (.fn Try.call80 rfl) (gOFail_spec g st x4 _ hx113) (fun _ hs => (Src.triv _)) rfl ?_
    obtain rfl := Option.some.inj h
    exact TL.nil (X.seq (T.ret (X.rs (X.done0 [1] Try.results67 ⟨rfl, rfl, rfl⟩ (by rfl) (.inl rfl)))))
def f_produce_part_l1 : Nat → List Bat → I → I → Option (List Bat × I × I)
  | 0, _, _, _ => none
  | m29 + 1, y21, st24, st25 => ((gErr st25).bind fun (x44, st45) => if x44 = 0 then ((gLeft st24).bind fun (x48, st49) => if x48 > 0 then some (true, st49, st45) else some (false, st49, st45)) else some (false, st24, st45)).bind fun (y40, st41, st42) => if y40 = true then ((f_batch_Read st41).bind fun (x53, st56) => if (y21.length + 1) * 96 ≤ 140737488355328 then ((gErr st56).bind fun (x62, st63) => (if x62 = 0 then some st42 else ((gIFail st42 x62).bind fun st71 => some st71)).bind fun st68 => f_produce_part_l1 m29 (y21 ++ [x53]) st63 st68) else none) else some (y21, st41, st42)
def f_produce_part (st : I)  : Option (ProducePart × I) := (gInt st 4).bind fun (x2, st3) => (gFixed st3 4).bind fun (x6, st7) => (if x6.null = true then ((gIFail st7 4).bind fun st16 => some st16) else some st7).bind fun st13 => (gNew x6.data).bind fun st18 => (f_produce_part_l1 (((st18.rest.length : Int) + (st13.rest.length : Int) + 1).toNat + 1) [] st18 st13).bind fun (y73, st76, st77) => some ((⟨x2, y73⟩ : ProducePart), st77)
set_option maxRecDepth 100000 in
set_option maxHeartbeats 4000000 in
theorem f_produce_part_spec (g : Nat) (st : I)  (r : ProducePart × I) (h : f_produce_part st  = some r) : SpecX Try.prog 74 #[.pointer (some ⟨g, 0, none⟩)] .triv (InR g st) (fun v A' N => ∃ (A78 : Option Addr) (c79 : Nat), v = .agg #[.int .i64 r.1.fIndex, .slice A78 r.1.fBatches.length c79] ∧ A' = InR g r.2 ∧ N = [RdR (sliceRd 12 Bat_rd) [.slice A78 r.1.fBatches.length c79] r.1.fBatches]) := by
  refine enterA Try.func74 rfl Try.ntmps74 rfl ?_
  intro F w hX
  unfold f_produce_part at h
  refine T.seq (T.region rfl ?_)
  refine TL.alloc rfl .u Try.zeroValue78 rfl (fun b1 => ?_)
  refine TL.nil (X.seq (T.seq (T.region rfl ?_)))
  obtain ⟨⟨x2, st3⟩, hx4, h⟩ := Option.bind_eq_some_iff.1 h
  try dsimp only at h
  refine TL.run ft_produce_ok [0] rfl rfl ?_
  refine TL.c1 rfl .u (.fn Try.call71 rfl) (gInt_spec g st 4 _ hx4) (fun _ hs => (Src.triv _)) rfl ?_
  refine TL.q rfl .u (Ex.bld (cells := #[.int .i64 x2, .slice none 0 0]) bok_produce_78 rfl (by kernel_rfl)) rfl ?_
  refine TL.alloc rfl .u Try.zeroValue78 rfl (fun b5 => ?_)
  refine TL.st0 (cs' := #[.int .i64 x2, .slice none 0 0]) rfl .u rfl rfl Try.sizeOf78 rfl rfl rfl rfl ?_
  refine TL.nil (X.seq (T.seq (T.region rfl ?_)))
  obtain ⟨⟨x6, st7⟩, hx8, h⟩ := Option.bind_eq_some_iff.1 h
  try dsimp only at h
  refine TL.run ft_produce_ok [0] rfl rfl ?_
  refine TL.c2 rfl .u (.fn Try.call70 rfl) (gFixed_spec g st3 4 _ hx8) (fun _ hs => (Src.triv _)) rfl ?_
  refine TL.alloc rfl .u Try.zeroValue30 rfl (fun b9 => ?_)
  refine TL.st0 (cs' := #[.bool x6.null, .string (bsOf x6.data)]) rfl .u rfl rfl Try.sizeOf30 rfl rfl rfl rfl ?_
  refine TL.nil (X.seq (T.seq (T.seq (T.region rfl ?_))))
  refine TL.run ft_produce_ok [0] rfl rfl ?_
  refine TL.q rfl .u (Ex.b1 0 rfl Try.isAgg4 rfl rfl) rfl ?_
  refine TL.nil (X.seq ?_)
  obtain ⟨st13, h, hk14⟩ := Option.bind_eq_some_iff.1 h
  refine T.jq (fun e Rs => e = [(0, .pointer (some ⟨g, 0, none⟩)), (2, .pointer (some ⟨b1, 0, none⟩)), (3, .pointer (some ⟨b5, 0, none⟩)), (4, .pointer (some ⟨b9, 0, none⟩))] ∧ Rs = [BlkR b9 30 #[.bool x6.null, .string (bsOf x6.data)], BlkR b5 78 #[.int .i64 x2, .slice none 0 0], BlkR b1 78 #[.int .i64 0, .slice none 0 0], InR g st13]) ?_ ?_
  · clear hk14
    by_cases c15 : x6.null = true
    · replace h := ifT c15 h
      refine T.yes rfl c15 ?_
      refine T.region rfl ?_
      obtain ⟨st16, hx17, h⟩ := Option.bind_eq_some_iff.1 h
      refine TL.run ft_produce_ok [0] rfl rfl ?_
      refine TL.c3 rfl .u (.fn Try.call62 rfl) (gIFail_spec g st7 4 _ hx17) (fun _ hs => (Src.triv _)) rfl ?_
      cases h
      exact TL.nil (X.jq [0, 0, 0, 0] ⟨rfl, rfl⟩ (by rfl) (by rfl))
    · replace h := ifF c15 h
      replace c15 := eq_false_of_ne_true c15
      refine T.no rfl c15 ?_
      cases h
      exact T.skip (X.jq [0, 0, 0, 0] ⟨rfl, rfl⟩ (by rfl) (by rfl))
  · rintro _ _ ⟨rfl, rfl⟩
    clear h
    have h := hk14
    clear hk14
    try dsimp only at h
    refine X.seq (T.seq (T.region rfl ?_))
    refine TL.run ft_produce_ok [0] rfl rfl ?_
    refine TL.q rfl .u (Ex.b1 0 rfl Try.isAgg9 rfl rfl) rfl ?_
    obtain ⟨st18, hx19, h⟩ := Option.bind_eq_some_iff.1 h
    refine TL.cge rfl .u (.fn Try.call20 rfl) (gNew_spec x6.data _ hx19) (fun _ hs => (RX.reads_triv _ _)) rfl ?_
    rintro _ _ _ ⟨b20, rfl, rfl, rfl⟩
    refine TL.sel [0, 0, 0, 0, 0] rfl ?_
    refine TL.run ft_produce_ok [3] rfl rfl ?_
    refine TL.nil (X.seq (T.seq (T.block ?_)))
    refine T.nilrow 25 12 Bat_rd ?_
    obtain ⟨E26, hE27, hO28⟩ := Option.bind_eq_some_iff.1 h
    refine T.lp (fun m e Rs => ∃ (y21 : List Bat) (A22 : Option Addr) (c23 : Nat) (st24 : I) (st25 : I), e = [(0, .pointer (some ⟨g, 0, none⟩)), (2, .pointer (some ⟨b1, 0, none⟩)), (3, .pointer (some ⟨b5, 0, none⟩)), (5, .pointer (some ⟨b20, 0, none⟩))] ∧ Rs = [OwnR 25 12 Bat_rd (.slice A22 y21.length c23) y21, InR b20 st24, BlkR b9 30 #[.bool x6.null, .string (bsOf x6.data)], BlkR b5 78 #[.int .i64 x2, .slice A22 y21.length c23], BlkR b1 78 #[.int .i64 0, .slice none 0 0], InR g st25] ∧ f_produce_part_l1 m y21 st24 st25 = some E26) (((st18.rest.length : Int) + (st13.rest.length : Int) + 1).toNat + 1) [0, 0, 0, 0, 0, 0] ⟨[], none, 0, st18, st13, rfl, rfl, by exact hE27⟩ (by rfl) (by rfl) ?_
    rintro m29 _ _ ⟨y21, A22, c23, st24, st25, rfl, rfl, hl31⟩
    clear hE27 h
    cases m29 with
    | zero =>
      rw [f_produce_part_l1] at hl31
      cases hl31
    | succ m29 =>
      have h := hl31
      clear hl31
      rw [f_produce_part_l1] at h
      refine T.seq (T.seq ?_)
      obtain ⟨⟨y40, st41, st42⟩, h, hk43⟩ := Option.bind_eq_some_iff.1 h
      refine T.jq (fun e Rs => e = [(0, .pointer (some ⟨g, 0, none⟩)), (2, .pointer (some ⟨b1, 0, none⟩)), (3, .pointer (some ⟨b5, 0, none⟩)), (5, .pointer (some ⟨b20, 0, none⟩)), (26, .bool y40)] ∧ Rs = [OwnR 25 12 Bat_rd (.slice A22 y21.length c23) y21, InR b20 st41, BlkR b9 30 #[.bool x6.null, .string (bsOf x6.data)], BlkR b5 78 #[.int .i64 x2, .slice A22 y21.length c23], BlkR b1 78 #[.int .i64 0, .slice none 0 0], InR g st42]) ?_ ?_
      · clear hk43
        refine T.region rfl ?_
        obtain ⟨⟨x44, st45⟩, hx46, h⟩ := Option.bind_eq_some_iff.1 h
        try dsimp only at h
        refine TL.run ft_produce_ok [0] rfl rfl ?_
        refine TL.c5 rfl .u (.fn Try.call61 rfl) (gErr_spec g st25 _ hx46) (fun _ hs => (Src.triv _)) rfl ?_
        by_cases c47 : x44 = 0
        · replace h := ifT c47 h
          refine TL.run ft_produce_ok [2, 3] rfl rfl ?_
          refine TL.q rfl (.g rfl rfl (decide_eq_true c47)) (Ex.ft ft_produce_ok rfl) rfl ?_
          obtain ⟨⟨x48, st49⟩, hx50, h⟩ := Option.bind_eq_some_iff.1 h
          try dsimp only at h
          refine TL.c1 rfl (.g rfl rfl (decide_eq_true c47)) (.fn Try.call64 rfl) (gLeft_spec b20 st24 _ hx50) (fun _ hs => (Src.triv _)) rfl ?_
          refine TL.q rfl (.g rfl rfl (decide_eq_true c47)) (Ex.ft ft_produce_ok rfl) rfl ?_
          refine TL.q rfl .u (Ex.py rfl (decide_eq_true c47) rfl) rfl ?_
          by_cases c51 : x48 > 0
          · replace h := ifT c51 h
            cases h
            exact TL.nil (X.as (d := 26) (v' := .bool true) rfl (congrArg Value.bool (decide_eq_true c51)) (X.jq [0, 0, 0, 0, 0, 0] ⟨rfl, rfl⟩ (by rfl) (by rfl)))
          · replace h := ifF c51 h
            cases h
            exact TL.nil (X.as (d := 26) (v' := .bool false) rfl (congrArg Value.bool (decide_eq_false c51)) (X.jq [0, 0, 0, 0, 0, 0] ⟨rfl, rfl⟩ (by rfl) (by rfl)))
        · replace h := ifF c47 h
          refine TL.run ft_produce_ok [2, 3] rfl rfl ?_
          refine TL.no rfl (.gn rfl rfl (decide_eq_false c47)) rfl ?_
          refine TL.no rfl (.gn rfl rfl (decide_eq_false c47)) rfl ?_
          refine TL.no rfl (.gn rfl rfl (decide_eq_false c47)) rfl ?_
          refine TL.q rfl .u (Ex.pn rfl (decide_eq_false c47) rfl) rfl ?_
          cases h
          exact TL.nil (X.jq [0, 0, 0, 0, 0, 0] ⟨rfl, rfl⟩ (by rfl) (by rfl))
      · rintro _ _ ⟨rfl, rfl⟩
        clear h
        have h := hk43
        clear hk43
        try dsimp only at h
        by_cases c52 : y40 = true
        · replace h := ifT c52 h
          refine X.seq ?_
          refine T.yes rfl c52 ?_
          obtain ⟨⟨x53, st56⟩, hx57, h⟩ := Option.bind_eq_some_iff.1 h
          try dsimp only at h
          replace h := guard_some h
          obtain ⟨c59, h⟩ := h
          refine T.skip (X.seq (T.block (T.seq ?_)))
          refine T.join (fun e Rs => ∃ (A54 : Option Addr) (c55 : Nat) (b58 : Nat) (A60 : Option Addr) (c61 : Nat), e = [(0, .pointer (some ⟨g, 0, none⟩)), (2, .pointer (some ⟨b1, 0, none⟩)), (3, .pointer (some ⟨b5, 0, none⟩)), (5, .pointer (some ⟨b20, 0, none⟩))] ∧ Rs = [OwnR 25 12 Bat_rd (.slice A60 (y21 ++ [x53]).length c61) (y21 ++ [x53]), InR b20 st56, BlkR b9 30 #[.bool x6.null, .string (bsOf x6.data)], BlkR b5 78 #[.int .i64 x2, .slice A60 (y21 ++ [x53]).length c61], BlkR b1 78 #[.int .i64 0, .slice none 0 0], InR g st42]) ?_ ?_
          · refine T.draw (.q 0 (.q 2 (.br 1 (.e 3 (.e 4 (.e 5 (.q 6 (.e 7 .nil))))) (.e 3 (.br 1 (.e 4 (.e 5 (.q 6 (.e 7 .nil)))) (.e 4 (.e 1 (.e 5 (.q 6 (.e 7 .nil)))))))))) [2, 3, 3] rfl mix_produce np_jq (by kernel_rfl) ?_
            refine TD.run ft_produce_ok [0, 2] rfl rfl ?_
            refine TD.br ?_ ?_
            · refine TD.ny rfl .u (Ex.b1 3 rfl Try.isAgg46 rfl rfl) rfl [2, 3, 3] rfl ?_
              refine TD.cg1 rfl .u (.fn Try.call21 rfl) (f_batch_Read_spec b20 st41 _ hx57) (fun _ hs => (Src.triv _)) rfl [3, 4, 4] ?_ ?_
              · rintro _ _ _ ⟨A54, c55, rfl, rfl, rfl⟩
                rfl
              rintro _ _ _ ⟨A54, c55, rfl, rfl, rfl⟩
              refine TD.sel [0, 0, 0, 0, 0, 0, 0] rfl ?_
              refine TD.lit (cells := #[.int .i64 x53.fBase, .int .i64 x53.fLeader, .bool x53.fAppend, .bool x53.fTxn, .bool x53.fControl, .int .i64 x53.fLast, .int .i64 x53.fFirst, .int .i64 x53.fMax, .int .i64 x53.fProducer, .int .i64 x53.fEpoch, .int .i64 x53.fSequence, .slice A54 x53.fRecords.length c55]) rfl .u sok_produce_46_1 rfl (by kernel_rfl) rfl [4, 5, 5] (fun _ => rfl) (fun b58 => ?_)
              refine TD.app2 1 0 rfl .u (us := [.int .i64 x53.fBase, .int .i64 x53.fLeader, .bool x53.fAppend, .bool x53.fTxn, .bool x53.fControl, .int .i64 x53.fLast, .int .i64 x53.fFirst, .int .i64 x53.fMax, .int .i64 x53.fProducer, .int .i64 x53.fEpoch, .int .i64 x53.fSequence, .slice A54 x53.fRecords.length c55]) (u := x53) (l := y21) (E := Bat_rd) Try.underlying46 inf_produce_25 rfl (by decide) rfl rfl rfl rfl rfl rfl rfl (fun w G hG => ⟨_, _, rfl, hG.1⟩) (by have hq := c59; omega) (by have hq := c59; omega) rfl [2, 3, 3] (fun _ _ => rfl) (fun A60 c61 => ?_)
              refine TD.sel [0, 0, 0, 0, 0, 0] rfl ?_
              refine TD.run ft_produce_ok [6] rfl rfl ?_
              refine TD.st3 (cs' := #[.int .i64 x2, .slice A60 (y21 ++ [x53]).length c61]) rfl .u rfl rfl Try.sizeOf46 rfl rfl rfl rfl [2, 3, 3] (rfl) ?_
              exact TD.nil (X.jn [0, 0, 0, 0, 0, 0] ⟨A54, c55, b58, A60, c61, rfl, rfl⟩ (by rfl) (by rfl))
            · refine TD.cg1 rfl .u (.fn Try.call21 rfl) (f_batch_Read_spec b20 st41 _ hx57) (fun _ hs => (Src.triv _)) rfl [3, 4, 4] ?_ ?_
              · rintro _ _ _ ⟨A54, c55, rfl, rfl, rfl⟩
                rfl
              rintro _ _ _ ⟨A54, c55, rfl, rfl, rfl⟩
              refine TD.sel [0, 0, 0, 0, 0, 0, 0] rfl ?_
              refine TD.br ?_ ?_
              · refine TD.ny rfl .u (Ex.b1 4 rfl Try.isAgg46 rfl rfl) rfl [3, 4, 4] rfl ?_
                refine TD.lit (cells := #[.int .i64 x53.fBase, .int .i64 x53.fLeader, .bool x53.fAppend, .bool x53.fTxn, .bool x53.fControl, .int .i64 x53.fLast, .int .i64 x53.fFirst, .int .i64 x53.fMax, .int .i64 x53.fProducer, .int .i64 x53.fEpoch, .int .i64 x53.fSequence, .slice A54 x53.fRecords.length c55]) rfl .u sok_produce_46_1 rfl (by kernel_rfl) rfl [4, 5, 5] (fun _ => rfl) (fun b58 => ?_)
                refine TD.app2 1 0 rfl .u (us := [.int .i64 x53.fBase, .int .i64 x53.fLeader, .bool x53.fAppend, .bool x53.fTxn, .bool x53.fControl, .int .i64 x53.fLast, .int .i64 x53.fFirst, .int .i64 x53.fMax, .int .i64 x53.fProducer, .int .i64 x53.fEpoch, .int .i64 x53.fSequence, .slice A54 x53.fRecords.length c55]) (u := x53) (l := y21) (E := Bat_rd) Try.underlying46 inf_produce_25 rfl (by decide) rfl rfl rfl rfl rfl rfl rfl (fun w G hG => ⟨_, _, rfl, hG.1⟩) (by have hq := c59; omega) (by have hq := c59; omega) rfl [2, 3, 3] (fun _ _ => rfl) (fun A60 c61 => ?_)
                refine TD.sel [0, 0, 0, 0, 0, 0] rfl ?_
                refine TD.run ft_produce_ok [6] rfl rfl ?_
                refine TD.st3 (cs' := #[.int .i64 x2, .slice A60 (y21 ++ [x53]).length c61]) rfl .u rfl rfl Try.sizeOf46 rfl rfl rfl rfl [2, 3, 3] (rfl) ?_
                exact TD.nil (X.jn [0, 0, 0, 0, 0, 0] ⟨A54, c55, b58, A60, c61, rfl, rfl⟩ (by rfl) (by rfl))
              · refine TD.lit (cells := #[.int .i64 x53.fBase, .int .i64 x53.fLeader, .bool x53.fAppend, .bool x53.fTxn, .bool x53.fControl, .int .i64 x53.fLast, .int .i64 x53.fFirst, .int .i64 x53.fMax, .int .i64 x53.fProducer, .int .i64 x53.fEpoch, .int .i64 x53.fSequence, .slice A54 x53.fRecords.length c55]) rfl .u sok_produce_46_1 rfl (by kernel_rfl) rfl [4, 5, 5] (fun _ => rfl) (fun b58 => ?_)
                refine TD.ny rfl .u (Ex.b1 5 rfl Try.isAgg46 rfl rfl) rfl [4, 5, 5] rfl ?_
                refine TD.app2 1 0 rfl .u (us := [.int .i64 x53.fBase, .int .i64 x53.fLeader, .bool x53.fAppend, .bool x53.fTxn, .bool x53.fControl, .int .i64 x53.fLast, .int .i64 x53.fFirst, .int .i64 x53.fMax, .int .i64 x53.fProducer, .int .i64 x53.fEpoch, .int .i64 x53.fSequence, .slice A54 x53.fRecords.length c55]) (u := x53) (l := y21) (E := Bat_rd) Try.underlying46 inf_produce_25 rfl (by decide) rfl rfl rfl rfl rfl rfl rfl (fun w G hG => ⟨_, _, rfl, hG.1⟩) (by have hq := c59; omega) (by have hq := c59; omega) rfl [2, 3, 3] (fun _ _ => rfl) (fun A60 c61 => ?_)
                refine TD.sel [0, 0, 0, 0, 0, 0] rfl ?_
                refine TD.run ft_produce_ok [6] rfl rfl ?_
                refine TD.st3 (cs' := #[.int .i64 x2, .slice A60 (y21 ++ [x53]).length c61]) rfl .u rfl rfl Try.sizeOf46 rfl rfl rfl rfl [2, 3, 3] (rfl) ?_
                exact TD.nil (X.jn [0, 0, 0, 0, 0, 0] ⟨A54, c55, b58, A60, c61, rfl, rfl⟩ (by rfl) (by rfl))
          · rintro _ _ ⟨A54, c55, b58, A60, c61, rfl, rfl⟩
            refine X.seq (T.seq (T.region rfl ?_))
            obtain ⟨⟨x62, st63⟩, hx64, h⟩ := Option.bind_eq_some_iff.1 h
            try dsimp only at h
            refine TL.run ft_produce_ok [0] rfl rfl ?_
            refine TL.c1 rfl .u (.fn Try.call61 rfl) (gErr_spec b20 st56 _ hx64) (fun _ hs => (Src.triv _)) rfl ?_
            refine TL.run ft_produce_ok [2] rfl rfl ?_
            refine TL.nil (X.seq (T.seq (T.region rfl ?_)))
            refine TL.run ft_produce_ok [0, 1] rfl rfl ?_
            refine TL.nil (X.seq ?_)
            obtain ⟨st68, h, hk69⟩ := Option.bind_eq_some_iff.1 h
            refine T.jq (fun e Rs => e = [(0, .pointer (some ⟨g, 0, none⟩)), (2, .pointer (some ⟨b1, 0, none⟩)), (3, .pointer (some ⟨b5, 0, none⟩)), (5, .pointer (some ⟨b20, 0, none⟩))] ∧ Rs = [OwnR 25 12 Bat_rd (.slice A60 (y21 ++ [x53]).length c61) (y21 ++ [x53]), InR b20 st63, BlkR b9 30 #[.bool x6.null, .string (bsOf x6.data)], BlkR b5 78 #[.int .i64 x2, .slice A60 (y21 ++ [x53]).length c61], BlkR b1 78 #[.int .i64 0, .slice none 0 0], InR g st68]) ?_ ?_
            · clear hk69
              by_cases c70 : x62 = 0
              · replace h := ifT c70 h
                refine T.no rfl (bn_f (decide_eq_true c70)) ?_
                cases h
                exact T.skip (X.jq [0, 0, 0, 0, 0, 0] ⟨rfl, rfl⟩ (by rfl) (by rfl))
              · replace h := ifF c70 h
                refine T.yes rfl (bn_t (decide_eq_false c70)) ?_
                refine T.region rfl ?_
                obtain ⟨st71, hx72, h⟩ := Option.bind_eq_some_iff.1 h
                refine TL.run ft_produce_ok [0, 1] rfl rfl ?_
                refine TL.c5 rfl .u (.fn Try.call62 rfl) (gIFail_spec g st42 x62 _ hx72) (fun _ hs => (Src.triv _)) rfl ?_
                cases h
                exact TL.nil (X.jq [0, 0, 0, 0, 0, 0] ⟨rfl, rfl⟩ (by rfl) (by rfl))
            · rintro _ _ ⟨rfl, rfl⟩
              clear h
              have h := hk69
              clear hk69
              try dsimp only at h
              exact X.blk (X.back (m' := m29) [0, 0, 0, 0, 0, 0] (by omega) ⟨(y21 ++ [x53]), A60, c61, st63, st68, rfl, rfl, h⟩ (by rfl) (by rfl))
        · replace h := ifF c52 h
          replace c52 := eq_false_of_ne_true c52
          refine X.seq ?_
          refine T.no rfl c52 ?_
          obtain rfl := Option.some.inj h
          replace h := hO28
          clear hO28
          try dsimp only at h
          refine T.exit (X.exs (X.exs (X.ex (X.seq (T.seq (T.region rfl ?_))))))
          refine TL.q rfl .u (Ex.bS (us := [.int .i64 x2, .slice A22 y21.length c23]) 3 rfl Try.isAgg78 Try.sizeOf78 rfl rfl rfl) rfl ?_
          refine TL.st4 (cs' := #[.int .i64 x2, .slice A22 y21.length c23]) rfl .u rfl rfl Try.sizeOf78 rfl rfl rfl rfl ?_
          obtain rfl := Option.some.inj h
          refine TL.nil (X.seq (T.ret ?_))
          refine X.shut (by decide) 0 rfl ?_
          refine X.sel [0, 0, 0, 0, 0, 0] rfl ?_
          exact X.done1 [5, 0] Try.results74 (RV.cS (us := #[.int .i64 x2, .slice A22 y21.length c23]) 4 rfl Try.isAgg78 Try.sizeOf78 rfl rfl) ⟨_, _, rfl, rfl, rfl⟩ (by rfl) (.inl rfl)
def f_produce_Read_l2 (x32 : Int) : Nat → Nat → List ProducePart → I → Option (Lp (ProduceRequest × I) (Nat × List ProducePart × I))
  | 0, _, _, _ => none
  | m43 + 1, k35, y36, st39 => if (k35 : Int) < x32 then ((f_produce_part st39).bind fun (x48, st51) => if (y36.length + 1) * 32 ≤ 140737488355328 then ((gErr st51).bind fun (x57, st58) => if x57 = 0 then (if -9223372036854775808 ≤ ((k35 : Int) + 1) ∧ ((k35 : Int) + 1) ≤ 9223372036854775807 then (f_produce_Read_l2 x32 m43 (k35 + 1) (y36 ++ [x48]) st58) else none) else (some (Lp.ret ((⟨(⟨false, []⟩ : Bl), 0, 0, []⟩ : ProduceRequest), st58)))) else none) else (some (Lp.go (k35, y36, st39)))
def f_produce_Read_l1 (x12 : Int) : Nat → Nat → List ProduceTopic → I → Option (Lp (ProduceRequest × I) (Nat × List ProduceTopic × I))
  | 0, _, _, _ => none
  | m23 + 1, k15, y16, st19 => if (k15 : Int) < x12 then ((gText st19).bind fun (x28, st29) => (gCount st29 4 8).bind fun (x32, st33) => (f_produce_Read_l2 x32 ((x32).toNat + 1) 0 [] st33).bind fun e => match e with | .ret r => some (Lp.ret r) | .go (k71, y72, st75) => ((gErr st75).bind fun (x76, st77) => if x76 = 0 then (if (y16.length + 1) * 40 ≤ 140737488355328 then (if -9223372036854775808 ≤ ((k15 : Int) + 1) ∧ ((k15 : Int) + 1) ≤ 9223372036854775807 then (f_produce_Read_l1 x12 m23 (k15 + 1) (y16 ++ [(⟨x28, y72⟩ : ProduceTopic)]) st77) else none) else none) else (some (Lp.ret ((⟨(⟨false, []⟩ : Bl), 0, 0, []⟩ : ProduceRequest), st77))))) else (some (Lp.go (k15, y16, st19)))
theorem f_produce_Read_l1_z (x12 : Int) (u1 : Nat) (u2 : List ProduceTopic) (u3 : I) : f_produce_Read_l1 x12 0 u1 u2 u3 = none := rfl
theorem f_produce_Read_l1_s (x12 : Int) (m23 : Nat) (k15 : Nat) (y16 : List ProduceTopic) (st19 : I) : f_produce_Read_l1 x12 (m23 + 1) k15 y16 st19 = (if (k15 : Int) < x12 then ((gText st19).bind fun (x28, st29) => (gCount st29 4 8).bind fun (x32, st33) => (f_produce_Read_l2 x32 ((x32).toNat + 1) 0 [] st33).bind fun e => match e with | .ret r => some (Lp.ret r) | .go (k71, y72, st75) => ((gErr st75).bind fun (x76, st77) => if x76 = 0 then (if (y16.length + 1) * 40 ≤ 140737488355328 then (if -9223372036854775808 ≤ ((k15 : Int) + 1) ∧ ((k15 : Int) + 1) ≤ 9223372036854775807 then (f_produce_Read_l1 x12 m23 (k15 + 1) (y16 ++ [(⟨x28, y72⟩ : ProduceTopic)]) st77) else none) else none) else (some (Lp.ret ((⟨(⟨false, []⟩ : Bl), 0, 0, []⟩ : ProduceRequest), st77))))) else (some (Lp.go (k15, y16, st19)))) := rfl
def f_produce_Read (st : I) (a1 : Int) : Option (ProduceRequest × I) := (gFixed st 2).bind fun (x2, st3) => (gInt st3 2).bind fun (x5, st6) => (gInt st6 4).bind fun (x8, st9) => (gCount st9 4 6).bind fun (x12, st13) => (f_produce_Read_l1 x12 ((x12).toNat + 1) 0 [] st13).bind fun e => match e with | .ret r => some r | .go (k116, y117, st120) => ((gErr st120).bind fun (x121, st122) => (if x121 = 0 then ((f_produce_RequestCheck (⟨x2, x5, x8, y117⟩ : ProduceRequest) a1).bind fun x138 => (if x138 = 0 then some st122 else ((gIFail st122 x138).bind fun st146 => some st146)).bind fun st143 => some st143) else some st122).bind fun st135 => (gErr st135).bind fun (x148, st149) => if x148 = 0 then (some ((⟨x2, x5, x8, y117⟩ : ProduceRequest), st149)) else (some ((⟨(⟨false, []⟩ : Bl), 0, 0, []⟩ : ProduceRequest), st149)))
set_option maxRecDepth 100000 in
set_option maxHeartbeats 4000000 in
theorem f_produce_Read_spec (g : Nat) (st : I) (a1 : Int) (r : ProduceRequest × I) (h : f_produce_Read st a1 = some r) : SpecX Try.prog 32 #[.pointer (some ⟨g, 0, none⟩), .int .i64 a1] .triv (InR g st) (fun v A' N => ∃ (A152 : Option Addr) (c153 : Nat), v = .agg #[.bool r.1.fID.null, .string (bsOf r.1.fID.data), .int .i64 r.1.fAcks, .int .i64 r.1.fTimeout, .slice A152 r.1.fTopics.length c153] ∧ A' = InR g r.2 ∧ N = [RdR (sliceRd 2 ProduceTopic_rd) [.slice A152 r.1.fTopics.length c153] r.1.fTopics]) := by
  refine enterA Try.func32 rfl Try.ntmps32 rfl ?_
  intro F w hX
  unfold f_produce_Read at h
  refine T.seq (T.region rfl ?_)
  refine TL.alloc rfl .u Try.zeroValue65 rfl (fun b1 => ?_)
  refine TL.nil (X.seq (T.seq (T.region rfl ?_)))
  obtain ⟨⟨x2, st3⟩, hx4, h⟩ := Option.bind_eq_some_iff.1 h
  try dsimp only at h
  refine TL.run ft_produce_ok [0] rfl rfl ?_
  refine TL.c1 rfl .u (.fn Try.call70 rfl) (gFixed_spec g st 2 _ hx4) (fun _ hs => (Src.triv _)) rfl ?_
  obtain ⟨⟨x5, st6⟩, hx7, h⟩ := Option.bind_eq_some_iff.1 h
  try dsimp only at h
  refine TL.run ft_produce_ok [2] rfl rfl ?_
  refine TL.c1 rfl .u (.fn Try.call71 rfl) (gInt_spec g st3 2 _ hx7) (fun _ hs => (Src.triv _)) rfl ?_
  obtain ⟨⟨x8, st9⟩, hx10, h⟩ := Option.bind_eq_some_iff.1 h
  try dsimp only at h
  refine TL.run ft_produce_ok [4] rfl rfl ?_
  refine TL.c1 rfl .u (.fn Try.call71 rfl) (gInt_spec g st6 4 _ hx10) (fun _ hs => (Src.triv _)) rfl ?_
  refine TL.q rfl .u (Ex.bld (cells := #[.bool x2.null, .string (bsOf x2.data), .int .i64 x5, .int .i64 x8, .slice none 0 0]) bok_produce_65 rfl (by kernel_rfl)) rfl ?_
  refine TL.alloc rfl .u Try.zeroValue65 rfl (fun b11 => ?_)
  refine TL.st0 (cs' := #[.bool x2.null, .string (bsOf x2.data), .int .i64 x5, .int .i64 x8, .slice none 0 0]) rfl .u rfl rfl Try.sizeOf65 rfl rfl rfl rfl ?_
  refine TL.nil (X.seq (T.seq (T.seq (T.region rfl ?_))))
  obtain ⟨⟨x12, st13⟩, hx14, h⟩ := Option.bind_eq_some_iff.1 h
  try dsimp only at h
  refine TL.run ft_produce_ok [0] rfl rfl ?_
  refine TL.c2 rfl .u (.fn Try.call72 rfl) (gCount_spec g st9 4 6 _ hx14) (fun _ hs => (Src.triv _)) rfl ?_
  refine TL.run ft_produce_ok [2] rfl rfl ?_
  refine TL.nil (X.seq (T.block ?_))
  refine T.nilrow 76 2 ProduceTopic_rd ?_
  obtain ⟨E20, hE21, hO22⟩ := Option.bind_eq_some_iff.1 h
  refine T.lp (fun m e Rs => ∃ (k15 : Nat) (y16 : List ProduceTopic) (A17 : Option Addr) (c18 : Nat) (st19 : I), e = [(0, .pointer (some ⟨g, 0, none⟩)), (1, .int .i64 a1), (4, .pointer (some ⟨b1, 0, none⟩)), (5, .pointer (some ⟨b11, 0, none⟩)), (16, .int .i64 x12), (17, .int .i64 (k15 : Int))] ∧ Rs = [OwnR 76 2 ProduceTopic_rd (.slice A17 y16.length c18) y16, BlkR b11 65 #[.bool x2.null, .string (bsOf x2.data), .int .i64 x5, .int .i64 x8, .slice A17 y16.length c18], BlkR b1 65 #[.bool false, .string ⟨#[]⟩, .int .i64 0, .int .i64 0, .slice none 0 0], InR g st19] ∧ f_produce_Read_l1 x12 m k15 y16 st19 = some E20) ((x12).toNat + 1) [0, 0, 0, 0] ⟨0, [], none, 0, st13, rfl, rfl, by exact hE21⟩ (by rfl) (by rfl) ?_
  rintro m23 _ _ ⟨k15, y16, A17, c18, st19, rfl, rfl, hl25⟩
  clear hE21 h
  cases m23 with
  | zero =>
    rw [f_produce_Read_l1_z] at hl25
    cases hl25
  | succ m23 =>
    have h := hl25
    clear hl25
    rw [f_produce_Read_l1_s] at h
    refine T.seq (T.region rfl ?_)
    refine TL.run ft_produce_ok [0] rfl rfl ?_
    by_cases c27 : (k15 : Int) < x12
    · replace h := ifT c27 h
      refine TL.nil (X.seq (T.seq ?_))
      refine T.yes rfl (decide_eq_true c27) ?_
      refine T.skip (X.seq (T.seq (T.block (T.seq (T.region rfl ?_)))))
      obtain ⟨⟨x28, st29⟩, hx30, h⟩ := Option.bind_eq_some_iff.1 h
      try dsimp only at h
      refine TL.run ft_produce_ok [0] rfl rfl ?_
      refine TL.c3 rfl .u (.fn Try.call73 rfl) (gText_spec g st19 _ hx30) (fun _ hs => (Src.triv _)) rfl ?_
      refine TL.q rfl .u (Ex.bld (cells := #[.string (bsOf x28), .slice none 0 0]) bok_produce_76 rfl (by kernel_rfl)) rfl ?_
      refine TL.alloc rfl .u Try.zeroValue76 rfl (fun b31 => ?_)
      refine TL.st0 (cs' := #[.string (bsOf x28), .slice none 0 0]) rfl .u rfl rfl Try.sizeOf76 rfl rfl rfl rfl ?_
      refine TL.nil (X.seq (T.seq (T.seq (T.region rfl ?_))))
      obtain ⟨⟨x32, st33⟩, hx34, h⟩ := Option.bind_eq_some_iff.1 h
      try dsimp only at h
      refine TL.run ft_produce_ok [0] rfl rfl ?_
      refine TL.c4 rfl .u (.fn Try.call72 rfl) (gCount_spec g st29 4 8 _ hx34) (fun _ hs => (Src.triv _)) rfl ?_
      refine TL.run ft_produce_ok [2] rfl rfl ?_
      refine TL.nil (X.seq (T.block ?_))
      refine T.nilrow 78 2 ProducePart_rd ?_
      obtain ⟨E40, hE41, hO42⟩ := Option.bind_eq_some_iff.1 h
      refine T.lp (fun m e Rs => ∃ (k35 : Nat) (y36 : List ProducePart) (A37 : Option Addr) (c38 : Nat) (st39 : I), e = [(0, .pointer (some ⟨g, 0, none⟩)), (1, .int .i64 a1), (4, .pointer (some ⟨b1, 0, none⟩)), (5, .pointer (some ⟨b11, 0, none⟩)), (6, .pointer (some ⟨b31, 0, none⟩)), (16, .int .i64 x12), (17, .int .i64 (k15 : Int)), (23, .int .i64 x32), (24, .int .i64 (k35 : Int))] ∧ Rs = [OwnR 78 2 ProducePart_rd (.slice A37 y36.length c38) y36, BlkR b31 76 #[.string (bsOf x28), .slice A37 y36.length c38], OwnR 76 2 ProduceTopic_rd (.slice A17 y16.length c18) y16, BlkR b11 65 #[.bool x2.null, .string (bsOf x2.data), .int .i64 x5, .int .i64 x8, .slice A17 y16.length c18], BlkR b1 65 #[.bool false, .string ⟨#[]⟩, .int .i64 0, .int .i64 0, .slice none 0 0], InR g st39] ∧ f_produce_Read_l2 x32 m k35 y36 st39 = some E40) ((x32).toNat + 1) [0, 0, 0, 0, 0, 0] ⟨0, [], none, 0, st33, rfl, rfl, by exact hE41⟩ (by rfl) (by rfl) ?_
      rintro m43 _ _ ⟨k35, y36, A37, c38, st39, rfl, rfl, hl45⟩
      clear hE41 h
      cases m43 with
      | zero =>
        rw [f_produce_Read_l2] at hl45
        cases hl45
      | succ m43 =>
        have h := hl45
        clear hl45
        rw [f_produce_Read_l2] at h
        refine T.seq (T.region rfl ?_)
        refine TL.run ft_produce_ok [0] rfl rfl ?_
        by_cases c47 : (k35 : Int) < x32
        · replace h := ifT c47 h
          refine TL.nil (X.seq (T.seq ?_))
          refine T.yes rfl (decide_eq_true c47) ?_
          obtain ⟨⟨x48, st51⟩, hx52, h⟩ := Option.bind_eq_some_iff.1 h
          try dsimp only at h
          replace h := guard_some h
          obtain ⟨c54, h⟩ := h
          refine T.skip (X.seq (T.seq (T.block (T.seq ?_))))
          refine T.join (fun e Rs => ∃ (A49 : Option Addr) (c50 : Nat) (b53 : Nat) (A55 : Option Addr) (c56 : Nat), e = [(0, .pointer (some ⟨g, 0, none⟩)), (1, .int .i64 a1), (4, .pointer (some ⟨b1, 0, none⟩)), (5, .pointer (some ⟨b11, 0, none⟩)), (6, .pointer (some ⟨b31, 0, none⟩)), (16, .int .i64 x12), (17, .int .i64 (k15 : Int)), (23, .int .i64 x32), (24, .int .i64 (k35 : Int))] ∧ Rs = [OwnR 78 2 ProducePart_rd (.slice A55 (y36 ++ [x48]).length c56) (y36 ++ [x48]), BlkR b31 76 #[.string (bsOf x28), .slice A55 (y36 ++ [x48]).length c56], OwnR 76 2 ProduceTopic_rd (.slice A17 y16.length c18) y16, BlkR b11 65 #[.bool x2.null, .string (bsOf x2.data), .int .i64 x5, .int .i64 x8, .slice A17 y16.length c18], BlkR b1 65 #[.bool false, .string ⟨#[]⟩, .int .i64 0, .int .i64 0, .slice none 0 0], InR g st51]) ?_ ?_
          · refine T.draw (.q 0 (.q 2 (.br 1 (.e 3 (.e 4 (.e 5 (.q 6 (.e 7 .nil))))) (.e 3 (.br 1 (.e 4 (.e 5 (.q 6 (.e 7 .nil)))) (.e 4 (.e 1 (.e 5 (.q 6 (.e 7 .nil)))))))))) [2, 2, 2] rfl mix_produce np_jq (by kernel_rfl) ?_
            refine TD.run ft_produce_ok [0, 2] rfl rfl ?_
            refine TD.br ?_ ?_
            · refine TD.ny rfl .u (Ex.b1 1 rfl Try.isAgg74 rfl rfl) rfl [2, 2, 2] rfl ?_
              refine TD.cg5 rfl .u (.fn Try.call74 rfl) (f_produce_part_spec g st39 _ hx52) (fun _ hs => (Src.triv _)) rfl [3, 3, 3] ?_ ?_
              · rintro _ _ _ ⟨A49, c50, rfl, rfl, rfl⟩
                rfl
              rintro _ _ _ ⟨A49, c50, rfl, rfl, rfl⟩
              refine TD.sel [0, 0, 0, 0, 0, 0, 0] rfl ?_
              refine TD.lit (cells := #[.int .i64 x48.fIndex, .slice A49 x48.fBatches.length c50]) rfl .u sok_produce_74_1 rfl (by rfl) rfl [4, 4, 4] (fun _ => rfl) (fun b53 => ?_)
              refine TD.app2 1 0 rfl .u (us := [.int .i64 x48.fIndex, .slice A49 x48.fBatches.length c50]) (u := x48) (l := y36) (E := ProducePart_rd) Try.underlying74 inf_produce_78 rfl (by decide) rfl rfl rfl rfl rfl rfl rfl (fun w G hG => ⟨_, _, rfl, hG.1⟩) (by have hq := c54; omega) (by have hq := c54; omega) rfl [2, 2, 2] (fun _ _ => rfl) (fun A55 c56 => ?_)
              refine TD.sel [0, 0, 0, 0, 0, 0] rfl ?_
              refine TD.run ft_produce_ok [6] rfl rfl ?_
              refine TD.st1 (cs' := #[.string (bsOf x28), .slice A55 (y36 ++ [x48]).length c56]) rfl .u rfl rfl Try.sizeOf74 rfl rfl rfl rfl [2, 2, 2] (rfl) ?_
              exact TD.nil (X.jn [0, 0, 0, 0, 0, 0] ⟨A49, c50, b53, A55, c56, rfl, rfl⟩ (by rfl) (by rfl))
            · refine TD.cg5 rfl .u (.fn Try.call74 rfl) (f_produce_part_spec g st39 _ hx52) (fun _ hs => (Src.triv _)) rfl [3, 3, 3] ?_ ?_
              · rintro _ _ _ ⟨A49, c50, rfl, rfl, rfl⟩
                rfl
              rintro _ _ _ ⟨A49, c50, rfl, rfl, rfl⟩
              refine TD.sel [0, 0, 0, 0, 0, 0, 0] rfl ?_
              refine TD.br ?_ ?_
              · refine TD.ny rfl .u (Ex.b1 2 rfl Try.isAgg74 rfl rfl) rfl [3, 3, 3] rfl ?_
                refine TD.lit (cells := #[.int .i64 x48.fIndex, .slice A49 x48.fBatches.length c50]) rfl .u sok_produce_74_1 rfl (by rfl) rfl [4, 4, 4] (fun _ => rfl) (fun b53 => ?_)
                refine TD.app2 1 0 rfl .u (us := [.int .i64 x48.fIndex, .slice A49 x48.fBatches.length c50]) (u := x48) (l := y36) (E := ProducePart_rd) Try.underlying74 inf_produce_78 rfl (by decide) rfl rfl rfl rfl rfl rfl rfl (fun w G hG => ⟨_, _, rfl, hG.1⟩) (by have hq := c54; omega) (by have hq := c54; omega) rfl [2, 2, 2] (fun _ _ => rfl) (fun A55 c56 => ?_)
                refine TD.sel [0, 0, 0, 0, 0, 0] rfl ?_
                refine TD.run ft_produce_ok [6] rfl rfl ?_
                refine TD.st1 (cs' := #[.string (bsOf x28), .slice A55 (y36 ++ [x48]).length c56]) rfl .u rfl rfl Try.sizeOf74 rfl rfl rfl rfl [2, 2, 2] (rfl) ?_
                exact TD.nil (X.jn [0, 0, 0, 0, 0, 0] ⟨A49, c50, b53, A55, c56, rfl, rfl⟩ (by rfl) (by rfl))
              · refine TD.lit (cells := #[.int .i64 x48.fIndex, .slice A49 x48.fBatches.length c50]) rfl .u sok_produce_74_1 rfl (by rfl) rfl [4, 4, 4] (fun _ => rfl) (fun b53 => ?_)
                refine TD.ny rfl .u (Ex.b1 3 rfl Try.isAgg74 rfl rfl) rfl [4, 4, 4] rfl ?_
                refine TD.app2 1 0 rfl .u (us := [.int .i64 x48.fIndex, .slice A49 x48.fBatches.length c50]) (u := x48) (l := y36) (E := ProducePart_rd) Try.underlying74 inf_produce_78 rfl (by decide) rfl rfl rfl rfl rfl rfl rfl (fun w G hG => ⟨_, _, rfl, hG.1⟩) (by have hq := c54; omega) (by have hq := c54; omega) rfl [2, 2, 2] (fun _ _ => rfl) (fun A55 c56 => ?_)
                refine TD.sel [0, 0, 0, 0, 0, 0] rfl ?_
                refine TD.run ft_produce_ok [6] rfl rfl ?_
                refine TD.st1 (cs' := #[.string (bsOf x28), .slice A55 (y36 ++ [x48]).length c56]) rfl .u rfl rfl Try.sizeOf74 rfl rfl rfl rfl [2, 2, 2] (rfl) ?_
                exact TD.nil (X.jn [0, 0, 0, 0, 0, 0] ⟨A49, c50, b53, A55, c56, rfl, rfl⟩ (by rfl) (by rfl))
          · rintro _ _ ⟨A49, c50, b53, A55, c56, rfl, rfl⟩
            refine X.seq (T.seq (T.region rfl ?_))
            obtain ⟨⟨x57, st58⟩, hx59, h⟩ := Option.bind_eq_some_iff.1 h
            try dsimp only at h
            refine TL.run ft_produce_ok [0] rfl rfl ?_
            refine TL.c5 rfl .u (.fn Try.call61 rfl) (gErr_spec g st51 _ hx59) (fun _ hs => (Src.triv _)) rfl ?_
            refine TL.run ft_produce_ok [2] rfl rfl ?_
            by_cases c60 : x57 = 0
            · replace h := ifT c60 h
              refine TL.nil (X.seq ?_)
              refine T.no rfl (bn_f (decide_eq_true c60)) ?_
              replace h := guard_some h
              obtain ⟨c61, h⟩ := h
              refine T.skip (X.blk (X.seq (T.region rfl ?_)))
              refine TL.q rfl .u (Ex.add rfl rfl c61) rfl ?_
              refine TL.run ft_produce_ok [1] rfl rfl ?_
              exact TL.nil (X.back (m' := m43) [0, 0, 0, 0, 0, 0] (by omega) ⟨k35 + 1, (y36 ++ [x48]), A55, c56, st58, rfl, rfl, h⟩ (by rfl) (by rfl))
            · replace h := ifF c60 h
              refine TL.nil (X.seq ?_)
              refine T.yes rfl (bn_t (decide_eq_false c60)) ?_
              refine T.seq (T.region rfl ?_)
              refine TL.q rfl .u (Ex.bld (cells := #[.bool false, .string ⟨#[]⟩, .int .i64 0, .int .i64 0, .slice none 0 0]) bok_produce_65 rfl (by kernel_rfl)) rfl ?_
              refine TL.st4 (cs' := #[.bool false, .string ⟨#[]⟩, .int .i64 0, .int .i64 0, .slice none 0 0]) rfl .u rfl rfl Try.sizeOf65 rfl rfl rfl rfl ?_
              obtain rfl := Option.some.inj h
              replace h := hO42
              clear hO42
              try dsimp only at h
              obtain rfl := Option.some.inj h
              replace h := hO22
              clear hO22
              try dsimp only at h
              obtain rfl := Option.some.inj h
              refine TL.nil (X.seq (T.ret (X.rb (X.rs (X.rs (X.rb (X.rs (X.rb (X.rs (X.rs (X.rb (X.rs ?_))))))))))))
              refine X.nilrd 2 ProduceTopic_rd ?_
              exact X.done1 [6, 0] Try.results32 (RV.cS (us := #[.bool false, .string ⟨#[]⟩, .int .i64 0, .int .i64 0, .slice none 0 0]) 5 rfl Try.isAgg65 Try.sizeOf65 rfl rfl) ⟨_, _, rfl, rfl, rfl⟩ (by rfl) (.inl rfl)
        · replace h := ifF c47 h
          refine TL.nil (X.seq (T.seq ?_))
          refine T.no rfl (decide_eq_false c47) ?_
          obtain rfl := Option.some.inj h
          replace h := hO42
          clear hO42
          try dsimp only at h
          refine T.exit (X.exs (X.exs (X.ex (X.seq (T.seq (T.seq (T.region rfl ?_)))))))
          obtain ⟨⟨x62, st63⟩, hx64, h⟩ := Option.bind_eq_some_iff.1 h
          try dsimp only at h
          refine TL.run ft_produce_ok [0] rfl rfl ?_
          refine TL.c5 rfl .u (.fn Try.call61 rfl) (gErr_spec g st39 _ hx64) (fun _ hs => (Src.triv _)) rfl ?_
          refine TL.run ft_produce_ok [2] rfl rfl ?_
          by_cases c65 : x62 = 0
          · replace h := ifT c65 h
            refine TL.nil (X.seq ?_)
            refine T.no rfl (bn_f (decide_eq_true c65)) ?_
            refine T.skip (X.seq (T.region rfl ?_))
            refine TL.run ft_produce_ok [0] rfl rfl ?_
            refine TL.q rfl .u (Ex.b1 3 rfl Try.isAgg63 rfl rfl) rfl ?_
            refine TL.q rfl .u (Ex.bS (us := [.string (bsOf x28), .slice A37 y36.length c38]) 1 rfl Try.isAgg76 Try.sizeOf76 rfl rfl rfl) rfl ?_
            refine TL.lit (cells := #[.string (bsOf x28), .slice A37 y36.length c38]) rfl .u sok_produce_63_1 rfl (by rfl) rfl (fun b66 => ?_)
            replace h := guard_some h
            obtain ⟨c67, h⟩ := h
            refine TL.app2 2 0 rfl .u (us := [.string (bsOf x28), .slice A37 y36.length c38]) (u := (⟨x28, y36⟩ : ProduceTopic)) (l := y16) (E := ProduceTopic_rd) Try.underlying63 inf_produce_76 rfl (by decide) rfl rfl rfl rfl rfl rfl rfl (fun w G hG => ⟨_, _, rfl, own_reads (by decide) _ _ hG⟩) (by have hq := c67; omega) (by have hq := c67; omega) rfl (fun A68 c69 => ?_)
            refine TL.sel [0, 0, 0, 0, 0] rfl ?_
            refine TL.run ft_produce_ok [5] rfl rfl ?_
            refine TL.st2 (cs' := #[.bool x2.null, .string (bsOf x2.data), .int .i64 x5, .int .i64 x8, .slice A68 (y16 ++ [(⟨x28, y36⟩ : ProduceTopic)]).length c69]) rfl .u rfl rfl Try.sizeOf63 rfl rfl rfl rfl ?_
            replace h := guard_some h
            obtain ⟨c70, h⟩ := h
            refine TL.nil (X.blk (X.seq (T.region rfl ?_)))
            refine TL.q rfl .u (Ex.add rfl rfl c70) rfl ?_
            refine TL.run ft_produce_ok [1] rfl rfl ?_
            exact TL.nil (X.back (m' := m23) [0, 1, 1, 1] (by omega) ⟨k15 + 1, (y16 ++ [(⟨x28, y36⟩ : ProduceTopic)]), A68, c69, st63, rfl, rfl, h⟩ (by rfl) (by rfl))
          · replace h := ifF c65 h
            refine TL.nil (X.seq ?_)
            refine T.yes rfl (bn_t (decide_eq_false c65)) ?_
            refine T.seq (T.region rfl ?_)
            refine TL.q rfl .u (Ex.bld (cells := #[.bool false, .string ⟨#[]⟩, .int .i64 0, .int .i64 0, .slice none 0 0]) bok_produce_65 rfl (by kernel_rfl)) rfl ?_
            refine TL.st4 (cs' := #[.bool false, .string ⟨#[]⟩, .int .i64 0, .int .i64 0, .slice none 0 0]) rfl .u rfl rfl Try.sizeOf65 rfl rfl rfl rfl ?_
            obtain rfl := Option.some.inj h
            replace h := hO22
            clear hO22
            try dsimp only at h
            obtain rfl := Option.some.inj h
            refine TL.nil (X.seq (T.ret (X.rs (X.rb (X.rs (X.rs (X.rb (X.rs ?_))))))))
            refine X.nilrd 2 ProduceTopic_rd ?_
            exact X.done1 [6, 0] Try.results32 (RV.cS (us := #[.bool false, .string ⟨#[]⟩, .int .i64 0, .int .i64 0, .slice none 0 0]) 5 rfl Try.isAgg65 Try.sizeOf65 rfl rfl) ⟨_, _, rfl, rfl, rfl⟩ (by rfl) (.inl rfl)
    · replace h := ifF c27 h
      refine TL.nil (X.seq (T.seq ?_))
      refine T.no rfl (decide_eq_false c27) ?_
      obtain rfl := Option.some.inj h
      replace h := hO22
      clear hO22
      try dsimp only at h
      refine T.exit (X.exs (X.exs (X.ex (X.seq (T.seq (T.seq (T.region rfl ?_)))))))
      obtain ⟨⟨x85, st86⟩, hx87, h⟩ := Option.bind_eq_some_iff.1 h
      try dsimp only at h
      refine TL.run ft_produce_ok [0] rfl rfl ?_
      refine TL.c3 rfl .u (.fn Try.call61 rfl) (gErr_spec g st19 _ hx87) (fun _ hs => (Src.triv _)) rfl ?_
      refine TL.run ft_produce_ok [2] rfl rfl ?_
      refine TL.nil (X.seq ?_)
      obtain ⟨st99, h, hk100⟩ := Option.bind_eq_some_iff.1 h
      refine T.jq (fun e Rs => e = [(0, .pointer (some ⟨g, 0, none⟩)), (4, .pointer (some ⟨b1, 0, none⟩)), (5, .pointer (some ⟨b11, 0, none⟩))] ∧ Rs = [OwnR 76 2 ProduceTopic_rd (.slice A17 y16.length c18) y16, BlkR b11 65 #[.bool x2.null, .string (bsOf x2.data), .int .i64 x5, .int .i64 x8, .slice A17 y16.length c18], BlkR b1 65 #[.bool false, .string ⟨#[]⟩, .int .i64 0, .int .i64 0, .slice none 0 0], InR g st99]) ?_ ?_
      · clear hk100
        by_cases c101 : x85 = 0
        · replace h := ifT c101 h
          refine T.yes rfl (decide_eq_true c101) ?_
          refine T.seq (T.region rfl ?_)
          refine TL.q rfl .u (Ex.bS (us := [.bool x2.null, .string (bsOf x2.data), .int .i64 x5, .int .i64 x8, .slice A17 y16.length c18]) 1 rfl Try.isAgg65 Try.sizeOf65 rfl rfl rfl) rfl ?_
          obtain ⟨x102, hx103, h⟩ := Option.bind_eq_some_iff.1 h
          refine TL.run ft_produce_ok [1] rfl rfl ?_
          refine TL.ce rfl .u (.fn Try.call68 rfl) (f_produce_RequestCheck_spec (⟨x2, x5, x8, y16⟩ : ProduceRequest) _ _ a1 _ hx103) (fun _ hs => (SrcE.res 0 hs rfl (fun w G h => own_reads (by decide) w G h))) rfl ?_
          refine TL.run ft_produce_ok [3] rfl rfl ?_
          refine TL.nil (X.seq (T.seq (T.region rfl ?_)))
          refine TL.run ft_produce_ok [0, 1] rfl rfl ?_
          refine TL.nil (X.seq ?_)
          obtain ⟨st107, h, hk108⟩ := Option.bind_eq_some_iff.1 h
          refine T.jq (fun e Rs => e = [(0, .pointer (some ⟨g, 0, none⟩)), (4, .pointer (some ⟨b1, 0, none⟩)), (5, .pointer (some ⟨b11, 0, none⟩))] ∧ Rs = [OwnR 76 2 ProduceTopic_rd (.slice A17 y16.length c18) y16, BlkR b11 65 #[.bool x2.null, .string (bsOf x2.data), .int .i64 x5, .int .i64 x8, .slice A17 y16.length c18], BlkR b1 65 #[.bool false, .string ⟨#[]⟩, .int .i64 0, .int .i64 0, .slice none 0 0], InR g st107]) ?_ ?_
          · clear hk108
            by_cases c109 : x102 = 0
            · replace h := ifT c109 h
              refine T.no rfl (bn_f (decide_eq_true c109)) ?_
              cases h
              exact T.skip (X.jq [0, 0, 0, 0] ⟨rfl, rfl⟩ (by rfl) (by rfl))
            · replace h := ifF c109 h
              refine T.yes rfl (bn_t (decide_eq_false c109)) ?_
              refine T.region rfl ?_
              obtain ⟨st110, hx111, h⟩ := Option.bind_eq_some_iff.1 h
              refine TL.run ft_produce_ok [0, 1] rfl rfl ?_
              refine TL.c3 rfl .u (.fn Try.call62 rfl) (gIFail_spec g st86 x102 _ hx111) (fun _ hs => (Src.triv _)) rfl ?_
              cases h
              exact TL.nil (X.jq [0, 0, 0, 0] ⟨rfl, rfl⟩ (by rfl) (by rfl))
          · rintro _ _ ⟨rfl, rfl⟩
            clear h
            have h := hk108
            clear hk108
            try dsimp only at h
            cases h
            exact X.jq [0, 0, 0, 0] ⟨rfl, rfl⟩ (by rfl) (by rfl)
        · replace h := ifF c101 h
          refine T.no rfl (decide_eq_false c101) ?_
          cases h
          exact T.skip (X.jq [0, 0, 0, 0] ⟨rfl, rfl⟩ (by rfl) (by rfl))
      · rintro _ _ ⟨rfl, rfl⟩
        clear h
        have h := hk100
        clear hk100
        try dsimp only at h
        refine X.seq (T.seq (T.seq (T.region rfl ?_)))
        obtain ⟨⟨x112, st113⟩, hx114, h⟩ := Option.bind_eq_some_iff.1 h
        try dsimp only at h
        refine TL.run ft_produce_ok [0] rfl rfl ?_
        refine TL.c3 rfl .u (.fn Try.call61 rfl) (gErr_spec g st99 _ hx114) (fun _ hs => (Src.triv _)) rfl ?_
        refine TL.run ft_produce_ok [2] rfl rfl ?_
        by_cases c115 : x112 = 0
        · replace h := ifT c115 h
          refine TL.nil (X.seq ?_)
          refine T.no rfl (bn_f (decide_eq_true c115)) ?_
          refine T.skip (X.seq (T.seq (T.region rfl ?_)))
          refine TL.q rfl .u (Ex.bS (us := [.bool x2.null, .string (bsOf x2.data), .int .i64 x5, .int .i64 x8, .slice A17 y16.length c18]) 1 rfl Try.isAgg65 Try.sizeOf65 rfl rfl rfl) rfl ?_
          refine TL.st2 (cs' := #[.bool x2.null, .string (bsOf x2.data), .int .i64 x5, .int .i64 x8, .slice A17 y16.length c18]) rfl .u rfl rfl Try.sizeOf65 rfl rfl rfl rfl ?_
          obtain rfl := Option.some.inj h
          refine TL.nil (X.seq (T.ret ?_))
          refine X.shut (by decide) 0 rfl ?_
          refine X.sel [0, 0, 0, 0] rfl ?_
          exact X.done1 [3, 0] Try.results32 (RV.cS (us := #[.bool x2.null, .string (bsOf x2.data), .int .i64 x5, .int .i64 x8, .slice A17 y16.length c18]) 2 rfl Try.isAgg65 Try.sizeOf65 rfl rfl) ⟨_, _, rfl, rfl, rfl⟩ (by rfl) (.inl rfl)
        · replace h := ifF c115 h
          refine TL.nil (X.seq ?_)
          refine T.yes rfl (bn_t (decide_eq_false c115)) ?_
          refine T.seq (T.region rfl ?_)
          refine TL.q rfl .u (Ex.bld (cells := #[.bool false, .string ⟨#[]⟩, .int .i64 0, .int .i64 0, .slice none 0 0]) bok_produce_65 rfl (by kernel_rfl)) rfl ?_
          refine TL.st2 (cs' := #[.bool false, .string ⟨#[]⟩, .int .i64 0, .int .i64 0, .slice none 0 0]) rfl .u rfl rfl Try.sizeOf65 rfl rfl rfl rfl ?_
          obtain rfl := Option.some.inj h
          refine TL.nil (X.seq (T.ret (X.rs ?_)))
          refine X.nilrd 2 ProduceTopic_rd ?_
          exact X.done1 [4, 0] Try.results32 (RV.cS (us := #[.bool false, .string ⟨#[]⟩, .int .i64 0, .int .i64 0, .slice none 0 0]) 3 rfl Try.isAgg65 Try.sizeOf65 rfl rfl) ⟨_, _, rfl, rfl, rfl⟩ (by rfl) (.inl rfl)
end Go.Proofs.Ytcoppaggpbfcmaa.Sl
namespace Go.Proofs.Ytcoppaggpbfcmaa.Sl
open Go.RowKit
set_option linter.unusedVariables false
set_option linter.unusedSimpArgs false
set_option maxRecDepth 100000
def ft_cursitorlaw20 : FTab := [(25, 3, 3), (25, 4, 4), (30, 0, 0), (30, 1, 1), (65, 0, 0), (65, 1, 2), (65, 2, 3), (65, 3, 4), (71, 3, 4), (76, 0, 0), (76, 1, 1), (78, 1, 1), (129, 1, 1)]
theorem ft_cursitorlaw20_ok : (ft_cursitorlaw20).OK Try.prog := ⟨FOK.mk Try.runUnderlying25 rfl Try.sizeOf4 rfl, FOK.mk Try.runUnderlying25 rfl Try.sizeOf4 rfl, FOK.mk Try.runUnderlying30 rfl Try.sizeOf4 rfl, FOK.mk Try.runUnderlying30 rfl Try.sizeOf9 rfl, FOK.mk Try.runUnderlying65 rfl Try.sizeOf30 rfl, FOK.mk Try.runUnderlying65 rfl Try.sizeOf3 rfl, FOK.mk Try.runUnderlying65 rfl Try.sizeOf3 rfl, FOK.mk Try.runUnderlying65 rfl Try.sizeOf63 rfl, FOK.mk Try.runUnderlying71 rfl Try.sizeOf69 rfl, FOK.mk Try.runUnderlying76 rfl Try.sizeOf9 rfl, FOK.mk Try.runUnderlying76 rfl Try.sizeOf74 rfl, FOK.mk Try.runUnderlying78 rfl Try.sizeOf46 rfl, FOK.mk Try.runUnderlying129 rfl Try.sizeOf127 rfl, trivial⟩
theorem mix_cursitorlaw20 : Try.prog.follows .mixedOrders = true := by kernel_rfl
theorem bok_cursitorlaw20_25 : BOK Try.prog 25 #[.int .i64 0, .int .i64 0, .bool false, .bool false, .bool false, .int .i64 0, .int .i64 0, .int .i64 0, .int .i64 0, .int .i64 0, .int .i64 0, .slice none 0 0] [(0, 1), (1, 1), (2, 1), (3, 1), (4, 1), (5, 1), (6, 1), (7, 1), (8, 1), (9, 1), (10, 1), (11, 1)] := BOK.mk Try.zeroValue25 Try.runUnderlying25 (by intro w; simp)
theorem bok_cursitorlaw20_30 : BOK Try.prog 30 #[.bool false, .string ⟨#[]⟩] [(0, 1), (1, 1)] := BOK.mk Try.zeroValue30 Try.runUnderlying30 (by intro w; simp)
theorem bok_cursitorlaw20_65 : BOK Try.prog 65 #[.bool false, .string ⟨#[]⟩, .int .i64 0, .int .i64 0, .slice none 0 0] [(0, 2), (2, 1), (3, 1), (4, 1)] := BOK.mk Try.zeroValue65 Try.runUnderlying65 (by intro w; simp)
theorem bok_cursitorlaw20_76 : BOK Try.prog 76 #[.string ⟨#[]⟩, .slice none 0 0] [(0, 1), (1, 1)] := BOK.mk Try.zeroValue76 Try.runUnderlying76 (by intro w; simp)
theorem bok_cursitorlaw20_78 : BOK Try.prog 78 #[.int .i64 0, .slice none 0 0] [(0, 1), (1, 1)] := BOK.mk Try.zeroValue78 Try.runUnderlying78 (by intro w; simp)
theorem sok_cursitorlaw20_46_1 : SOK Try.prog 46 25 1 12 #[.int .i64 0, .int .i64 0, .bool false, .bool false, .bool false, .int .i64 0, .int .i64 0, .int .i64 0, .int .i64 0, .int .i64 0, .int .i64 0, .slice none 0 0] := SOK.mk Try.runUnderlying46 Try.sizeOf25 Try.zeroValue25 (by decide) (by kernel_rfl)
theorem sok_cursitorlaw20_46_2 : SOK Try.prog 46 25 2 12 #[.int .i64 0, .int .i64 0, .bool false, .bool false, .bool false, .int .i64 0, .int .i64 0, .int .i64 0, .int .i64 0, .int .i64 0, .int .i64 0, .slice none 0 0, .int .i64 0, .int .i64 0, .bool false, .bool false, .bool false, .int .i64 0, .int .i64 0, .int .i64 0, .int .i64 0, .int .i64 0, .int .i64 0, .slice none 0 0] := SOK.mk Try.runUnderlying46 Try.sizeOf25 Try.zeroValue25 (by decide) (by kernel_rfl)
theorem sok_cursitorlaw20_63_1 : SOK Try.prog 63 76 1 2 #[.string ⟨#[]⟩, .slice none 0 0] := SOK.mk Try.runUnderlying63 Try.sizeOf76 Try.zeroValue76 (by decide) (by kernel_rfl)
theorem sok_cursitorlaw20_74_1 : SOK Try.prog 74 78 1 2 #[.int .i64 0, .slice none 0 0] := SOK.mk Try.runUnderlying74 Try.sizeOf78 Try.zeroValue78 (by decide) (by kernel_rfl)
def f_l20_nobody  : Option (Bat) := some (⟨0, 0, false, false, false, 0, 0, 0, -1, -1, -1, []⟩ : Bat)
set_option maxRecDepth 100000 in
set_option maxHeartbeats 4000000 in
theorem f_l20_nobody_spec  (r : Bat) (h : f_l20_nobody  = some r) : SpecX Try.prog 66 #[] .triv (EmpR) (fun v A' N => ∃ (A2 : Option Addr) (c3 : Nat), v = .agg #[.int .i64 r.fBase, .int .i64 r.fLeader, .bool r.fAppend, .bool r.fTxn, .bool r.fControl, .int .i64 r.fLast, .int .i64 r.fFirst, .int .i64 r.fMax, .int .i64 r.fProducer, .int .i64 r.fEpoch, .int .i64 r.fSequence, .slice A2 r.fRecords.length c3] ∧ A' = EmpR ∧ N = [RdR (sliceRd 7 Rec_rd) [.slice A2 r.fRecords.length c3] r.fRecords]) := by
  refine enterA Try.func66 rfl Try.ntmps66 rfl ?_
  intro F w hX
  unfold f_l20_nobody at h
  refine T.seq (T.region rfl ?_)
  refine TL.alloc rfl .u Try.zeroValue25 rfl (fun b1 => ?_)
  refine TL.nil (X.seq (T.seq (T.region rfl ?_)))
  refine TL.q rfl .u (Ex.bld (cells := #[.int .i64 0, .int .i64 0, .bool false, .bool false, .bool false, .int .i64 0, .int .i64 0, .int .i64 0, .int .i64 (-1), .int .i64 (-1), .int .i64 (-1), .slice none 0 0]) bok_cursitorlaw20_25 rfl (by kernel_rfl)) rfl ?_
  refine TL.st0 (cs' := #[.int .i64 0, .int .i64 0, .bool false, .bool false, .bool false, .int .i64 0, .int .i64 0, .int .i64 0, .int .i64 (-1), .int .i64 (-1), .int .i64 (-1), .slice none 0 0]) rfl .u rfl rfl Try.sizeOf25 rfl rfl rfl rfl ?_
  obtain rfl := Option.some.inj h
  refine TL.nil (X.seq (T.ret ?_))
  refine X.nilrd 7 Rec_rd ?_
  exact X.done1 [2, 0] Try.results66 (RV.cS (us := #[.int .i64 0, .int .i64 0, .bool false, .bool false, .bool false, .int .i64 0, .int .i64 0, .int .i64 0, .int .i64 (-1), .int .i64 (-1), .int .i64 (-1), .slice none 0 0]) 1 rfl Try.isAgg25 Try.sizeOf25 rfl rfl) ⟨_, _, rfl, rfl, rfl⟩ (by rfl) (.inl rfl)
def f_l20_speaks  : Option (Bool) := (f_l20_nobody).bind fun x1 => (f_produce_RequestWrite ([], 0) (⟨(⟨true, []⟩ : Bl), 0, 0, [(⟨[97], [(⟨0, [x1]⟩ : ProducePart)]⟩ : ProduceTopic)]⟩ : ProduceRequest) 3).bind fun st10 => (gOText st10).bind fun (x12, x13, st14) => (f_l20_nobody).bind fun x16 => (f_l20_nobody).bind fun x20 => (if x13 = 0 then (if (x12.length : Int) = 88 then ((f_produce_RequestCheck (⟨(⟨true, []⟩ : Bl), 0, 0, [(⟨[97], [(⟨0, [x16, x20]⟩ : ProducePart)]⟩ : ProduceTopic)]⟩ : ProduceRequest) 3).bind fun x36 => if x36 = 10 then ((f_produce_RequestCheck (⟨(⟨true, []⟩ : Bl), 0, 0, [(⟨[97], [(⟨0, [x16, x20]⟩ : ProducePart)]⟩ : ProduceTopic)]⟩ : ProduceRequest) 4).bind fun x39 => if x39 = 0 then some true else some false) else some false) else some false) else some false).bind fun y32 => some y32
set_option maxRecDepth 100000 in
set_option maxHeartbeats 4000000 in
theorem f_l20_speaks_spec  (r : Bool) (h : f_l20_speaks  = some r) : SpecX Try.prog 27 #[] .triv (EmpR) (fun v A' N => v = .bool r ∧ A' = EmpR ∧ N = []) := by
  refine enterA Try.func27 rfl Try.ntmps27 rfl ?_
  intro F w hX
  unfold f_l20_speaks at h
  refine T.seq (T.region rfl ?_)
  refine TL.run ft_cursitorlaw20_ok [0] rfl rfl ?_
  refine TL.nil (X.seq (T.seq (T.region rfl ?_)))
  refine TL.q rfl .u (Ex.bld (cells := #[.bool true, .string ⟨#[]⟩]) bok_cursitorlaw20_30 rfl (by kernel_rfl)) rfl ?_
  obtain ⟨x1, hx4, h⟩ := Option.bind_eq_some_iff.1 h
  refine TL.cge rfl .u (.fn Try.call66 rfl) (f_l20_nobody_spec _ hx4) (fun _ hs => (RX.reads_triv _ _)) rfl ?_
  rintro _ _ _ ⟨A2, c3, rfl, rfl, rfl⟩
  refine TL.sel [0, 0] rfl ?_
  refine TL.lit (cells := #[.int .i64 x1.fBase, .int .i64 x1.fLeader, .bool x1.fAppend, .bool x1.fTxn, .bool x1.fControl, .int .i64 x1.fLast, .int .i64 x1.fFirst, .int .i64 x1.fMax, .int .i64 x1.fProducer, .int .i64 x1.fEpoch, .int .i64 x1.fSequence, .slice A2 x1.fRecords.length c3]) rfl .u sok_cursitorlaw20_46_1 rfl (by kernel_rfl) rfl (fun b5 => ?_)
  refine TL.q rfl .u (Ex.bld (cells := #[.int .i64 0, .slice (some ⟨b5, 0, none⟩) 1 1]) bok_cursitorlaw20_78 rfl (by kernel_rfl)) rfl ?_
  refine TL.lit (cells := #[.int .i64 0, .slice (some ⟨b5, 0, none⟩) 1 1]) rfl .u sok_cursitorlaw20_74_1 rfl (by kernel_rfl) rfl (fun b6 => ?_)
  refine TL.q rfl .u (Ex.bld (cells := #[.string ⟨#[97]⟩, .slice (some ⟨b6, 0, none⟩) 1 1]) bok_cursitorlaw20_76 rfl (by kernel_rfl)) rfl ?_
  refine TL.lit (cells := #[.string ⟨#[97]⟩, .slice (some ⟨b6, 0, none⟩) 1 1]) rfl .u sok_cursitorlaw20_63_1 rfl (by kernel_rfl) rfl (fun b7 => ?_)
  refine TL.q rfl .u (Ex.bld (cells := #[.bool true, .string ⟨#[]⟩, .int .i64 0, .int .i64 0, .slice (some ⟨b7, 0, none⟩) 1 1]) bok_cursitorlaw20_65 rfl (by kernel_rfl)) rfl ?_
  refine TL.alloc rfl .u Try.zeroValue65 rfl (fun b8 => ?_)
  refine TL.st0 (cs' := #[.bool true, .string ⟨#[]⟩, .int .i64 0, .int .i64 0, .slice (some ⟨b7, 0, none⟩) 1 1]) rfl .u rfl rfl Try.sizeOf65 rfl rfl rfl rfl ?_
  refine TL.nil (X.seq (T.seq (T.region rfl ?_)))
  refine TL.newout rfl .u Try.zeroValue87 rfl (fun b9 => ?_)
  refine TL.nil (X.seq (T.seq (T.region rfl ?_)))
  refine TL.q rfl .u (Ex.bS (us := [.bool true, .string ⟨#[]⟩, .int .i64 0, .int .i64 0, .slice (some ⟨b7, 0, none⟩) 1 1]) 1 rfl Try.isAgg65 Try.sizeOf65 rfl rfl rfl) rfl ?_
  obtain ⟨st10, hx11, h⟩ := Option.bind_eq_some_iff.1 h
  refine TL.c0 rfl .u (.fn Try.call67 rfl) (f_produce_RequestWrite_spec b9 ([], 0) (⟨(⟨true, []⟩ : Bl), 0, 0, [(⟨[97], [(⟨0, [x1]⟩ : ProducePart)]⟩ : ProduceTopic)]⟩ : ProduceRequest) _ _ 3 _ hx11) (fun _ hs => (Src.many [1, 1, 1, 1] rfl (fun w G hS => by obtain ⟨⟨G0, ⟨h0, i0⟩, j0⟩, ⟨⟨G1, ⟨h1, i1⟩, j1⟩, ⟨⟨G2, ⟨h2, i2⟩, j2⟩, ⟨⟨G3, ⟨h3, i3⟩, j3⟩, _⟩⟩⟩⟩ := hS; exact (sl_of_blk (us := [.string ⟨#[97]⟩, .slice (some ⟨b6, 0, none⟩) 1 1]) h0 (j0 _ ((i0 _).2 rfl)) rfl (Nat.le_of_ble_eq_true rfl) ⟨rfl, ⟨_, _, rfl, (sl_of_blk (us := [.int .i64 0, .slice (some ⟨b5, 0, none⟩) 1 1]) h1 (j1 _ ((i1 _).2 rfl)) rfl (Nat.le_of_ble_eq_true rfl) ⟨rfl, ⟨_, _, rfl, (sl_of_blk (us := [.int .i64 x1.fBase, .int .i64 x1.fLeader, .bool x1.fAppend, .bool x1.fTxn, .bool x1.fControl, .int .i64 x1.fLast, .int .i64 x1.fFirst, .int .i64 x1.fMax, .int .i64 x1.fProducer, .int .i64 x1.fEpoch, .int .i64 x1.fSequence, .slice A2 x1.fRecords.length c3]) h2 (j2 _ ((i2 _).2 rfl)) rfl (Nat.le_of_ble_eq_true rfl) ⟨rfl, ⟨_, _, rfl, ((sliceRd 7 Rec_rd).mono h3 j3)⟩, rfl⟩)⟩, rfl⟩)⟩, rfl⟩)))) rfl ?_
  obtain ⟨⟨x12, x13, st14⟩, hx15, h⟩ := Option.bind_eq_some_iff.1 h
  try dsimp only at h
  refine TL.nil (X.seq (T.seq (T.region rfl ?_)))
  refine TL.c0 rfl .u (.fn Try.call39 rfl) (gOText_spec b9 st10 _ hx15) (fun _ hs => (Src.triv _)) rfl ?_
  refine TL.run ft_cursitorlaw20_ok [1, 2, 3, 4, 5] rfl rfl ?_
  refine TL.nil (X.seq (T.seq (T.draw (.q 0 (.q 1 (.q 2 (.q 3 (.q 4 (.e 5 (.e 6 (.e 7 (.q 8 (.q 9 (.e 10 .nil))))))))))) [0, 0, 0, 1, 1, 1] rfl mix_cursitorlaw20 (NoP.seq np_post) (by kernel_rfl) ?_)))
  refine TD.run ft_cursitorlaw20_ok [0] rfl rfl ?_
  refine TD.q rfl .u (Ex.b1 1 rfl Try.isAgg63 rfl rfl) rfl ?_
  refine TD.q rfl .u (Ex.ixL (k := 0) (r := 0) rfl rfl rfl Try.runUnderlying63 Try.sizeOf76 (by decide) rfl) rfl ?_
  refine TD.run ft_cursitorlaw20_ok [3] rfl rfl ?_
  refine TD.q rfl .u (Ex.b1 2 rfl Try.isAgg74 rfl rfl) rfl ?_
  obtain ⟨x16, hx19, h⟩ := Option.bind_eq_some_iff.1 h
  refine TD.cge rfl .u (.fn Try.call66 rfl) (f_l20_nobody_spec _ hx19) (fun _ hs => (RX.reads_triv _ _)) rfl [1, 1, 1, 2, 2, 2] ?_ ?_
  · rintro _ _ _ ⟨A17, c18, rfl, rfl, rfl⟩
    rfl
  rintro _ _ _ ⟨A17, c18, rfl, rfl, rfl⟩
  refine TD.sel [0, 0, 0, 0, 0, 0, 0, 0] rfl ?_
  obtain ⟨x20, hx23, h⟩ := Option.bind_eq_some_iff.1 h
  refine TD.cge rfl .u (.fn Try.call66 rfl) (f_l20_nobody_spec _ hx23) (fun _ hs => (RX.reads_triv _ _)) rfl [2, 2, 2, 3, 3, 3] ?_ ?_
  · rintro _ _ _ ⟨A21, c22, rfl, rfl, rfl⟩
    rfl
  rintro _ _ _ ⟨A21, c22, rfl, rfl, rfl⟩
  refine TD.sel [0, 0, 0, 0, 0, 0, 0, 0, 0] rfl ?_
  refine TD.lit (cells := #[.int .i64 x16.fBase, .int .i64 x16.fLeader, .bool x16.fAppend, .bool x16.fTxn, .bool x16.fControl, .int .i64 x16.fLast, .int .i64 x16.fFirst, .int .i64 x16.fMax, .int .i64 x16.fProducer, .int .i64 x16.fEpoch, .int .i64 x16.fSequence, .slice A17 x16.fRecords.length c18, .int .i64 x20.fBase, .int .i64 x20.fLeader, .bool x20.fAppend, .bool x20.fTxn, .bool x20.fControl, .int .i64 x20.fLast, .int .i64 x20.fFirst, .int .i64 x20.fMax, .int .i64 x20.fProducer, .int .i64 x20.fEpoch, .int .i64 x20.fSequence, .slice A21 x20.fRecords.length c22]) rfl .u sok_cursitorlaw20_46_2 rfl (by kernel_rfl) rfl [3, 3, 3, 4, 4, 4] (fun _ => rfl) (fun b24 => ?_)
  refine TD.q rfl .u (Ex.ixL (k := 0) (r := 0) rfl rfl rfl Try.runUnderlying74 Try.sizeOf78 (by decide) rfl) rfl ?_
  refine TD.run ft_cursitorlaw20_ok [9] rfl rfl ?_
  refine TD.st6 (cs' := #[.int .i64 0, .slice (some ⟨b24, 0, none⟩) 2 2]) rfl .u rfl rfl Try.sizeOf46 rfl rfl rfl rfl [3, 3, 3, 4, 4, 4] (rfl) ?_
  refine TD.nil (X.seq (T.seq ?_))
  obtain ⟨y32, h, hk33⟩ := Option.bind_eq_some_iff.1 h
  refine T.jq (fun e Rs => e = [(0, .bool y32)] ∧ Rs = [BlkR b24 25 #[.int .i64 x16.fBase, .int .i64 x16.fLeader, .bool x16.fAppend, .bool x16.fTxn, .bool x16.fControl, .int .i64 x16.fLast, .int .i64 x16.fFirst, .int .i64 x16.fMax, .int .i64 x16.fProducer, .int .i64 x16.fEpoch, .int .i64 x16.fSequence, .slice A17 x16.fRecords.length c18, .int .i64 x20.fBase, .int .i64 x20.fLeader, .bool x20.fAppend, .bool x20.fTxn, .bool x20.fControl, .int .i64 x20.fLast, .int .i64 x20.fFirst, .int .i64 x20.fMax, .int .i64 x20.fProducer, .int .i64 x20.fEpoch, .int .i64 x20.fSequence, .slice A21 x20.fRecords.length c22], RdR (sliceRd 7 Rec_rd) [.slice A21 x20.fRecords.length c22] x20.fRecords, RdR (sliceRd 7 Rec_rd) [.slice A17 x16.fRecords.length c18] x16.fRecords, OutR b9 st14, BlkR b8 65 #[.bool true, .string ⟨#[]⟩, .int .i64 0, .int .i64 0, .slice (some ⟨b7, 0, none⟩) 1 1], BlkR b7 76 #[.string ⟨#[97]⟩, .slice (some ⟨b6, 0, none⟩) 1 1], BlkR b6 78 #[.int .i64 0, .slice (some ⟨b24, 0, none⟩) 2 2], BlkR b5 25 #[.int .i64 x1.fBase, .int .i64 x1.fLeader, .bool x1.fAppend, .bool x1.fTxn, .bool x1.fControl, .int .i64 x1.fLast, .int .i64 x1.fFirst, .int .i64 x1.fMax, .int .i64 x1.fProducer, .int .i64 x1.fEpoch, .int .i64 x1.fSequence, .slice A2 x1.fRecords.length c3], RdR (sliceRd 7 Rec_rd) [.slice A2 x1.fRecords.length c3] x1.fRecords, EmpR]) ?_ ?_
  · clear hk33
    refine T.region rfl ?_
    by_cases c34 : x13 = 0
    · replace h := ifT c34 h
      refine TL.run ft_cursitorlaw20_ok [0, 1, 2] rfl rfl ?_
      refine TL.q rfl (.g rfl rfl (decide_eq_true c34)) (Ex.ft ft_cursitorlaw20_ok rfl) rfl ?_
      refine TL.q rfl (.g rfl rfl (decide_eq_true c34)) (Ex.lenB rfl Try.runUnderlying9) rfl ?_
      refine TL.q rfl (.g rfl rfl (decide_eq_true c34)) (Ex.ft ft_cursitorlaw20_ok rfl) rfl ?_
      refine TL.q rfl .u (Ex.py rfl (decide_eq_true c34) rfl) rfl ?_
      by_cases c35 : (x12.length : Int) = 88
      · replace h := ifT c35 h
        refine TL.run ft_cursitorlaw20_ok [7] rfl rfl ?_
        refine TL.q rfl (.g rfl rfl (decide_eq_true c35)) (Ex.bS (us := [.bool true, .string ⟨#[]⟩, .int .i64 0, .int .i64 0, .slice (some ⟨b7, 0, none⟩) 1 1]) 4 rfl Try.isAgg65 Try.sizeOf65 rfl rfl rfl) rfl ?_
        obtain ⟨x36, hx37, h⟩ := Option.bind_eq_some_iff.1 h
        refine TL.ce rfl (.g rfl rfl (decide_eq_true c35)) (.fn Try.call68 rfl) (f_produce_RequestCheck_spec (⟨(⟨true, []⟩ : Bl), 0, 0, [(⟨[97], [(⟨0, [x16, x20]⟩ : ProducePart)]⟩ : ProduceTopic)]⟩ : ProduceRequest) _ _ 3 _ hx37) (fun _ hs => (SrcE.many [5, 5, 0, 1, 0] hs rfl (fun w G hS => by obtain ⟨⟨G0, ⟨h0, i0⟩, j0⟩, ⟨⟨G1, ⟨h1, i1⟩, j1⟩, ⟨⟨G2, ⟨h2, i2⟩, j2⟩, ⟨⟨G3, ⟨h3, i3⟩, j3⟩, ⟨⟨G4, ⟨h4, i4⟩, j4⟩, _⟩⟩⟩⟩⟩ := hS; exact (sl_of_blk (us := [.string ⟨#[97]⟩, .slice (some ⟨b6, 0, none⟩) 1 1]) h0 (j0 _ ((i0 _).2 rfl)) rfl (Nat.le_of_ble_eq_true rfl) ⟨rfl, ⟨_, _, rfl, (sl_of_blk (us := [.int .i64 0, .slice (some ⟨b24, 0, none⟩) 2 2]) h1 (j1 _ ((i1 _).2 rfl)) rfl (Nat.le_of_ble_eq_true rfl) ⟨rfl, ⟨_, _, rfl, (sl_of_blk (us := [.int .i64 x16.fBase, .int .i64 x16.fLeader, .bool x16.fAppend, .bool x16.fTxn, .bool x16.fControl, .int .i64 x16.fLast, .int .i64 x16.fFirst, .int .i64 x16.fMax, .int .i64 x16.fProducer, .int .i64 x16.fEpoch, .int .i64 x16.fSequence, .slice A17 x16.fRecords.length c18, .int .i64 x20.fBase, .int .i64 x20.fLeader, .bool x20.fAppend, .bool x20.fTxn, .bool x20.fControl, .int .i64 x20.fLast, .int .i64 x20.fFirst, .int .i64 x20.fMax, .int .i64 x20.fProducer, .int .i64 x20.fEpoch, .int .i64 x20.fSequence, .slice A21 x20.fRecords.length c22]) h2 (j2 _ ((i2 _).2 rfl)) rfl (Nat.le_of_ble_eq_true rfl) ⟨rfl, ⟨_, _, rfl, ((sliceRd 7 Rec_rd).mono h3 j3)⟩, ⟨rfl, ⟨_, _, rfl, ((sliceRd 7 Rec_rd).mono h4 j4)⟩, rfl⟩⟩)⟩, rfl⟩)⟩, rfl⟩)))) rfl ?_
        refine TL.q rfl (.g rfl rfl (decide_eq_true c35)) (Ex.ft ft_cursitorlaw20_ok rfl) rfl ?_
        refine TL.q rfl .u (Ex.py rfl (decide_eq_true c35) rfl) rfl ?_
        by_cases c38 : x36 = 10
        · replace h := ifT c38 h
          refine TL.run ft_cursitorlaw20_ok [12] rfl rfl ?_
          refine TL.q rfl (.g rfl rfl (decide_eq_true c38)) (Ex.bS (us := [.bool true, .string ⟨#[]⟩, .int .i64 0, .int .i64 0, .slice (some ⟨b7, 0, none⟩) 1 1]) 4 rfl Try.isAgg65 Try.sizeOf65 rfl rfl rfl) rfl ?_
          obtain ⟨x39, hx40, h⟩ := Option.bind_eq_some_iff.1 h
          refine TL.ce rfl (.g rfl rfl (decide_eq_true c38)) (.fn Try.call68 rfl) (f_produce_RequestCheck_spec (⟨(⟨true, []⟩ : Bl), 0, 0, [(⟨[97], [(⟨0, [x16, x20]⟩ : ProducePart)]⟩ : ProduceTopic)]⟩ : ProduceRequest) _ _ 4 _ hx40) (fun _ hs => (SrcE.many [5, 5, 0, 1, 0] hs rfl (fun w G hS => by obtain ⟨⟨G0, ⟨h0, i0⟩, j0⟩, ⟨⟨G1, ⟨h1, i1⟩, j1⟩, ⟨⟨G2, ⟨h2, i2⟩, j2⟩, ⟨⟨G3, ⟨h3, i3⟩, j3⟩, ⟨⟨G4, ⟨h4, i4⟩, j4⟩, _⟩⟩⟩⟩⟩ := hS; exact (sl_of_blk (us := [.string ⟨#[97]⟩, .slice (some ⟨b6, 0, none⟩) 1 1]) h0 (j0 _ ((i0 _).2 rfl)) rfl (Nat.le_of_ble_eq_true rfl) ⟨rfl, ⟨_, _, rfl, (sl_of_blk (us := [.int .i64 0, .slice (some ⟨b24, 0, none⟩) 2 2]) h1 (j1 _ ((i1 _).2 rfl)) rfl (Nat.le_of_ble_eq_true rfl) ⟨rfl, ⟨_, _, rfl, (sl_of_blk (us := [.int .i64 x16.fBase, .int .i64 x16.fLeader, .bool x16.fAppend, .bool x16.fTxn, .bool x16.fControl, .int .i64 x16.fLast, .int .i64 x16.fFirst, .int .i64 x16.fMax, .int .i64 x16.fProducer, .int .i64 x16.fEpoch, .int .i64 x16.fSequence, .slice A17 x16.fRecords.length c18, .int .i64 x20.fBase, .int .i64 x20.fLeader, .bool x20.fAppend, .bool x20.fTxn, .bool x20.fControl, .int .i64 x20.fLast, .int .i64 x20.fFirst, .int .i64 x20.fMax, .int .i64 x20.fProducer, .int .i64 x20.fEpoch, .int .i64 x20.fSequence, .slice A21 x20.fRecords.length c22]) h2 (j2 _ ((i2 _).2 rfl)) rfl (Nat.le_of_ble_eq_true rfl) ⟨rfl, ⟨_, _, rfl, ((sliceRd 7 Rec_rd).mono h3 j3)⟩, ⟨rfl, ⟨_, _, rfl, ((sliceRd 7 Rec_rd).mono h4 j4)⟩, rfl⟩⟩)⟩, rfl⟩)⟩, rfl⟩)))) rfl ?_
          refine TL.q rfl (.g rfl rfl (decide_eq_true c38)) (Ex.ft ft_cursitorlaw20_ok rfl) rfl ?_
          refine TL.q rfl .u (Ex.py rfl (decide_eq_true c38) rfl) rfl ?_
          refine TL.run ft_cursitorlaw20_ok [17] rfl rfl ?_
          by_cases c41 : x39 = 0
          · replace h := ifT c41 h
            cases h
            exact TL.nil (X.as (d := 0) (v' := .bool true) rfl (congrArg Value.bool (decide_eq_true c41)) (X.jq [0, 0, 0, 0, 0, 0, 0, 0, 0, 0] ⟨rfl, rfl⟩ (by rfl) (by rfl)))
          · replace h := ifF c41 h
            cases h
            exact TL.nil (X.as (d := 0) (v' := .bool false) rfl (congrArg Value.bool (decide_eq_false c41)) (X.jq [0, 0, 0, 0, 0, 0, 0, 0, 0, 0] ⟨rfl, rfl⟩ (by rfl) (by rfl)))
        · replace h := ifF c38 h
          refine TL.run ft_cursitorlaw20_ok [12] rfl rfl ?_
          refine TL.no rfl (.gn rfl rfl (decide_eq_false c38)) rfl ?_
          refine TL.no rfl (.gn rfl rfl (decide_eq_false c38)) rfl ?_
          refine TL.no rfl (.gn rfl rfl (decide_eq_false c38)) rfl ?_
          refine TL.q rfl .u (Ex.pn rfl (decide_eq_false c38) rfl) rfl ?_
          refine TL.run ft_cursitorlaw20_ok [17] rfl rfl ?_
          cases h
          exact TL.nil (X.jq [0, 0, 0, 0, 0, 0, 0, 0, 0, 0] ⟨rfl, rfl⟩ (by rfl) (by rfl))
      · replace h := ifF c35 h
        refine TL.run ft_cursitorlaw20_ok [7] rfl rfl ?_
        refine TL.no rfl (.gn rfl rfl (decide_eq_false c35)) rfl ?_
        refine TL.no rfl (.gn rfl rfl (decide_eq_false c35)) rfl ?_
        refine TL.no rfl (.gn rfl rfl (decide_eq_false c35)) rfl ?_
        refine TL.q rfl .u (Ex.pn rfl (decide_eq_false c35) rfl) rfl ?_
        refine TL.run ft_cursitorlaw20_ok [12] rfl rfl ?_
        refine TL.no rfl (.gn rfl rfl rfl) rfl ?_
        refine TL.no rfl (.gn rfl rfl rfl) rfl ?_
        refine TL.no rfl (.gn rfl rfl rfl) rfl ?_
        refine TL.q rfl .u (Ex.pn rfl rfl rfl) rfl ?_
        refine TL.run ft_cursitorlaw20_ok [17] rfl rfl ?_
        cases h
        exact TL.nil (X.jq [0, 0, 0, 0, 0, 0, 0, 0, 0, 0] ⟨rfl, rfl⟩ (by rfl) (by rfl))
    · replace h := ifF c34 h
      refine TL.run ft_cursitorlaw20_ok [0, 1, 2] rfl rfl ?_
      refine TL.no rfl (.gn rfl rfl (decide_eq_false c34)) rfl ?_
      refine TL.no rfl (.gn rfl rfl (decide_eq_false c34)) rfl ?_
      refine TL.no rfl (.gn rfl rfl (decide_eq_false c34)) rfl ?_
      refine TL.q rfl .u (Ex.pn rfl (decide_eq_false c34) rfl) rfl ?_
      refine TL.run ft_cursitorlaw20_ok [7] rfl rfl ?_
      refine TL.no rfl (.gn rfl rfl rfl) rfl ?_
      refine TL.no rfl (.gn rfl rfl rfl) rfl ?_
      refine TL.no rfl (.gn rfl rfl rfl) rfl ?_
      refine TL.q rfl .u (Ex.pn rfl rfl rfl) rfl ?_
      refine TL.run ft_cursitorlaw20_ok [12] rfl rfl ?_
      refine TL.no rfl (.gn rfl rfl rfl) rfl ?_
      refine TL.no rfl (.gn rfl rfl rfl) rfl ?_
      refine TL.no rfl (.gn rfl rfl rfl) rfl ?_
      refine TL.q rfl .u (Ex.pn rfl rfl rfl) rfl ?_
      refine TL.run ft_cursitorlaw20_ok [17] rfl rfl ?_
      cases h
      exact TL.nil (X.jq [0, 0, 0, 0, 0, 0, 0, 0, 0, 0] ⟨rfl, rfl⟩ (by rfl) (by rfl))
  · rintro _ _ ⟨rfl, rfl⟩
    clear h
    have h := hk33
    clear hk33
    try dsimp only at h
    obtain rfl := Option.some.inj h
    exact X.seq (T.ret (X.done1 [9] Try.results27 (RV.tm rfl) ⟨rfl, rfl, rfl⟩ (by rfl) (.inl rfl)))
def f_l20_ProduceBatches_l3 (x11 : ProduceRequest) : List Bat → Bool → Option (Lp Bool Bool)
  | [], y43 => some (Lp.go y43)
  | x49 :: xs, y43 => (f_batch_Encode x49).bind fun (x56, x57) => (f_batch_Decode x56).bind fun (x59, x62) => (if x57 = 0 then (if x62 = 0 then ((f_r11_Same x59 x49).bind fun x75 => if x75 = true then (if x49.fControl = true then some true else some (x49.fTxn == x11.fID.null)) else some true) else some true) else some true).bind fun y71 => if y71 = true then none else (f_l20_ProduceBatches_l3 x11 xs y43)
def f_l20_ProduceBatches_l2 (x11 : ProduceRequest) : List ProducePart → Bool → Option (Lp Bool Bool)
  | [], y30 => some (Lp.go y30)
  | x36 :: xs, y30 => (f_l20_ProduceBatches_l3 x11 x36.fBatches y30).bind fun e => match e with | .ret r => some (Lp.ret r) | .go y80 => (f_l20_ProduceBatches_l2 x11 xs y80)
def f_l20_ProduceBatches_l1 (x11 : ProduceRequest) : List ProduceTopic → Bool → Option (Lp Bool Bool)
  | [], y17 => some (Lp.go y17)
  | x23 :: xs, y17 => (f_l20_ProduceBatches_l2 x11 x23.fParts y17).bind fun e => match e with | .ret r => some (Lp.ret r) | .go y82 => (f_l20_ProduceBatches_l1 x11 xs y82)
def f_l20_ProduceBatches (a0 : List UInt8) (a1 : Int) : Option (Bool) := (f_l20_speaks).bind fun x1 => if x1 = true then (if (a0.length : Int) > 2000 then some true else ((gNew a0).bind fun st5 => if 0 ≤ a1 then (if -9223372036854775808 ≤ (a1 % 2) ∧ (a1 % 2) ≤ 9223372036854775807 then (if -9223372036854775808 ≤ (3 + (a1 % 2)) ∧ (3 + (a1 % 2)) ≤ 9223372036854775807 then ((f_produce_Read st5 (3 + (a1 % 2))).bind fun (x11, st14) => (f_l20_ProduceBatches_l1 x11 x11.fTopics false).bind fun e => match e with | .ret r => some r | .go y84 => some true) else none) else none) else none)) else none
set_option maxRecDepth 100000 in
set_option maxHeartbeats 4000000 in
theorem f_l20_ProduceBatches_spec (a0 : List UInt8) (a1 : Int) (r : Bool) (h : f_l20_ProduceBatches a0 a1 = some r) : SpecX Try.prog 9 #[.string (bsOf a0), .int .u8 a1] .triv (EmpR) (fun v A' N => v = .bool r ∧ A' = EmpR ∧ N = []) := by
  refine enterA Try.func9 rfl Try.ntmps9 rfl ?_
  intro F w hX
  unfold f_l20_ProduceBatches at h
  refine T.seq (T.region rfl ?_)
  refine TL.run ft_cursitorlaw20_ok [0] rfl rfl ?_
  obtain ⟨x1, hx2, h⟩ := Option.bind_eq_some_iff.1 h
  refine TL.nil (X.seq (T.seq (T.seq (T.region rfl ?_))))
  refine TL.ce rfl .u (.fn Try.call27 rfl) (f_l20_speaks_spec _ hx2) (fun _ hs => (RX.reads_triv _ _)) rfl ?_
  refine TL.run ft_cursitorlaw20_ok [1] rfl rfl ?_
  by_cases c3 : x1 = true
  · replace h := ifT c3 h
    refine TL.nil (X.seq ?_)
    refine T.no rfl (bn_f c3) ?_
    refine T.skip (X.seq (T.seq (T.seq (T.region rfl ?_))))
    refine TL.run ft_cursitorlaw20_ok [0] rfl rfl ?_
    refine TL.q rfl .u (Ex.lenB rfl Try.runUnderlying9) rfl ?_
    refine TL.run ft_cursitorlaw20_ok [2] rfl rfl ?_
    by_cases c4 : (a0.length : Int) > 2000
    · replace h := ifT c4 h
      refine TL.nil (X.seq ?_)
      refine T.yes rfl (decide_eq_true c4) ?_
      refine T.seq (T.region rfl ?_)
      refine TL.run ft_cursitorlaw20_ok [0] rfl rfl ?_
      obtain rfl := Option.some.inj h
      exact TL.nil (X.seq (T.ret (X.rs (X.done1 [0] Try.results9 (RV.tm rfl) ⟨rfl, rfl, rfl⟩ (by rfl) (.inl rfl)))))
    · replace h := ifF c4 h
      refine TL.nil (X.seq ?_)
      refine T.no rfl (decide_eq_false c4) ?_
      refine T.skip (X.seq (T.seq (T.region rfl ?_)))
      obtain ⟨st5, hx6, h⟩ := Option.bind_eq_some_iff.1 h
      refine TL.run ft_cursitorlaw20_ok [0] rfl rfl ?_
      refine TL.cge rfl .u (.fn Try.call20 rfl) (gNew_spec a0 _ hx6) (fun _ hs => (RX.reads_triv _ _)) rfl ?_
      rintro _ _ _ ⟨b7, rfl, rfl, rfl⟩
      refine TL.sel [0, 0] rfl ?_
      refine TL.run ft_cursitorlaw20_ok [2] rfl rfl ?_
      refine TL.nil (X.seq (T.seq (T.region rfl ?_)))
      replace h := guard_some h
      obtain ⟨c8, h⟩ := h
      refine TL.run ft_cursitorlaw20_ok [0, 1] rfl rfl ?_
      refine TL.q rfl .u (Ex.remK rfl rfl (by omega) c8) rfl ?_
      replace h := guard_some h
      obtain ⟨c9, h⟩ := h
      refine TL.q rfl .u (Ex.conv64 rfl Try.runUnderlying5 Try.runUnderlying3 c9) rfl ?_
      replace h := guard_some h
      obtain ⟨c10, h⟩ := h
      refine TL.q rfl .u (Ex.add rfl rfl c10) rfl ?_
      obtain ⟨⟨x11, st14⟩, hx15, h⟩ := Option.bind_eq_some_iff.1 h
      try dsimp only at h
      refine TL.cg0 rfl .u (.fn Try.call32 rfl) (f_produce_Read_spec b7 st5 (3 + (a1 % 2)) _ hx15) (fun _ hs => (Src.triv _)) rfl ?_
      rintro _ _ _ ⟨A12, c13, rfl, rfl, rfl⟩
      refine TL.sel [0, 0, 0] rfl ?_
      refine TL.alloc rfl .u Try.zeroValue65 rfl (fun b16 => ?_)
      refine TL.st0 (cs' := #[.bool x11.fID.null, .string (bsOf x11.fID.data), .int .i64 x11.fAcks, .int .i64 x11.fTimeout, .slice A12 x11.fTopics.length c13]) rfl .u rfl rfl Try.sizeOf65 rfl rfl rfl rfl ?_
      refine TL.nil (X.seq (T.seq (T.seq (T.region rfl ?_))))
      refine TL.run ft_cursitorlaw20_ok [0] rfl rfl ?_
      refine TL.q rfl .u (Ex.b1 0 rfl Try.isAgg63 rfl rfl) rfl ?_
      refine TL.q rfl .u (Ex.lenS rfl Try.runUnderlying63) rfl ?_
      refine TL.run ft_cursitorlaw20_ok [3] rfl rfl ?_
      refine TL.nil (X.seq (T.block ?_))
      obtain ⟨E19, hE20, hO21⟩ := Option.bind_eq_some_iff.1 h
      refine T.blen 1 rfl (fun w G h => rd_reads w G h) (fun hk25len => ?_)
      try dsimp only at hk25len
      refine T.lp (fun m e Rs => ∃ (y17 : Bool) (k18 : Nat), k18 + m = x11.fTopics.length ∧ e = [(4, .bool y17), (6, .pointer (some ⟨b16, 0, none⟩)), (31, .slice A12 x11.fTopics.length c13), (32, .int .i64 (x11.fTopics.length : Int)), (33, .int .i64 (k18 : Int))] ∧ Rs = [BlkR b16 65 #[.bool x11.fID.null, .string (bsOf x11.fID.data), .int .i64 x11.fAcks, .int .i64 x11.fTimeout, .slice A12 x11.fTopics.length c13], RdR (sliceRd 2 ProduceTopic_rd) [.slice A12 x11.fTopics.length c13] x11.fTopics, InR b7 st14, EmpR] ∧ f_l20_ProduceBatches_l1 x11 (x11.fTopics.drop k18) y17 = some E19) (x11.fTopics.length) [0, 0, 0, 0] ⟨false, 0, by simp, rfl, rfl, by rw [List.drop_zero]; exact hE20⟩ (by rfl) (by rfl) ?_
      rintro m22 _ _ ⟨y17, k18, hk25, rfl, rfl, hl24⟩
      clear hE20 h
      cases m22 with
      | zero =>
        have h := hl24
        clear hl24
        rw [List.drop_of_length_le (by omega), f_l20_ProduceBatches_l1] at h
        have hk25ge : ¬ ((k18 : Int) < (x11.fTopics.length : Int)) := by omega
        refine T.seq (T.region rfl ?_)
        refine TL.run ft_cursitorlaw20_ok [0] rfl rfl ?_
        refine TL.nil (X.seq (T.seq ?_))
        refine T.no rfl (decide_eq_false hk25ge) ?_
        obtain rfl := Option.some.inj h
        replace h := hO21
        clear hO21
        try dsimp only at h
        refine T.exit (X.exs (X.exs (X.ex (X.seq (T.seq (T.region rfl ?_))))))
        refine TL.run ft_cursitorlaw20_ok [0] rfl rfl ?_
        obtain rfl := Option.some.inj h
        exact TL.nil (X.seq (T.ret (X.done1 [3] Try.results9 (RV.tm rfl) ⟨rfl, rfl, rfl⟩ (by rfl) (.inl rfl))))
      | succ m22 =>
        have h := hl24
        clear hl24
        obtain ⟨x23, hxx23⟩ : ∃ x, x11.fTopics[k18]? = some x := ⟨_, List.getElem?_eq_getElem (by omega)⟩
        rw [drop_cons hxx23, f_l20_ProduceBatches_l1] at h
        have hk25lt : (k18 : Int) < (x11.fTopics.length : Int) := by omega
        refine T.seq (T.region rfl ?_)
        refine TL.run ft_cursitorlaw20_ok [0] rfl rfl ?_
        refine TL.nil (X.seq (T.seq ?_))
        refine T.yes rfl (decide_eq_true hk25lt) ?_
        refine T.skip (X.seq (T.seq (T.block (T.seq (T.region rfl ?_)))))
        refine TL.foc (E := ProduceTopic_rd) (k := k18) 1 rfl (fun w G h => rd_reads w G h) (by decide) hxx23 ?_
        rintro gz26 oz26 z26cs hA z26cl ⟨_, _, z26r⟩
        cases hA
        obtain ⟨A27, c28, rfl, _⟩ := z26r
        clear z26cl
        refine TL.sel [0, 0, 0, 0] rfl ?_
        refine TL.q rfl .u (Ex.ixS (k := k18) rfl rfl rfl Try.runUnderlying63 Try.sizeOf76 (List.getElem?_eq_some_iff.1 hxx23).1) rfl ?_
        refine TL.q rfl .u (Ex.kS (cs := [.string (bsOf x23.fName), .slice A27 x23.fParts.length c28]) (us := [.string (bsOf x23.fName), .slice A27 x23.fParts.length c28]) 1 0 rfl Try.isAgg76 Try.sizeOf76 rfl (fun _ _ h => h.2.2.1) rfl rfl) rfl ?_
        refine TL.alloc rfl .u Try.zeroValue76 rfl (fun b29 => ?_)
        refine TL.st0 (cs' := #[.string (bsOf x23.fName), .slice A27 x23.fParts.length c28]) rfl .u rfl rfl Try.sizeOf76 rfl rfl rfl rfl ?_
        refine TL.nil (X.seq (T.seq (T.region rfl ?_)))
        refine TL.run ft_cursitorlaw20_ok [0] rfl rfl ?_
        refine TL.q rfl .u (Ex.b1 0 rfl Try.isAgg74 rfl rfl) rfl ?_
        refine TL.q rfl .u (Ex.lenS rfl Try.runUnderlying74) rfl ?_
        refine TL.run ft_cursitorlaw20_ok [3] rfl rfl ?_
        refine TL.nil (X.seq (T.block ?_))
        obtain ⟨E32, hE33, hO34⟩ := Option.bind_eq_some_iff.1 h
        refine T.blen 2 rfl (fun _ _ h => by obtain ⟨_, _, hc, hs⟩ := h.2.2.2; cases hc; exact hs) (fun hk38len => ?_)
        try dsimp only at hk38len
        refine T.lp (fun m e Rs => ∃ (y30 : Bool) (k31 : Nat), k31 + m = x23.fParts.length ∧ e = [(4, .bool y30), (6, .pointer (some ⟨b16, 0, none⟩)), (31, .slice (some ⟨gz26, oz26, none⟩) x11.fTopics.length c13), (32, .int .i64 (x11.fTopics.length : Int)), (33, .int .i64 (k18 : Int)), (38, .slice A27 x23.fParts.length c28), (39, .int .i64 (x23.fParts.length : Int)), (40, .int .i64 (k31 : Int))] ∧ Rs = [BlkR b29 76 #[.string (bsOf x23.fName), .slice A27 x23.fParts.length c28], BlkR b16 65 #[.bool x11.fID.null, .string (bsOf x11.fID.data), .int .i64 x11.fAcks, .int .i64 x11.fTimeout, .slice (some ⟨gz26, oz26, none⟩) x11.fTopics.length c13], RowK (RdR (sliceRd 2 ProduceTopic_rd) [.slice (some ⟨gz26, oz26, none⟩) x11.fTopics.length c13] x11.fTopics) ProduceTopic_rd gz26 (oz26 + k18 * 2) [.string (bsOf x23.fName), .slice A27 x23.fParts.length c28] x23, InR b7 st14, EmpR] ∧ f_l20_ProduceBatches_l2 x11 (x23.fParts.drop k31) y30 = some E32) (x23.fParts.length) [0, 0, 0, 0, 0] ⟨y17, 0, by simp, rfl, rfl, by rw [List.drop_zero]; exact hE33⟩ (by rfl) (by rfl) ?_
        rintro m35 _ _ ⟨y30, k31, hk38, rfl, rfl, hl37⟩
        clear hE33 h
        cases m35 with
        | zero =>
          have h := hl37
          clear hl37
          rw [List.drop_of_length_le (by omega), f_l20_ProduceBatches_l2] at h
          have hk38ge : ¬ ((k31 : Int) < (x23.fParts.length : Int)) := by omega
          refine T.seq (T.region rfl ?_)
          refine TL.run ft_cursitorlaw20_ok [0] rfl rfl ?_
          refine TL.nil (X.seq (T.seq ?_))
          refine T.no rfl (decide_eq_false hk38ge) ?_
          obtain rfl := Option.some.inj h
          replace h := hO34
          clear hO34
          try dsimp only at h
          refine T.exit (X.exs (X.exs (X.ex (X.blk (X.seq (T.region rfl ?_))))))
          refine TL.q rfl .u (Ex.add rfl rfl (by omega)) rfl ?_
          refine TL.run ft_cursitorlaw20_ok [1] rfl rfl ?_
          refine TL.nil ?_
          refine X.unf 2 rfl ?_
          refine X.sel [0, 0, 0, 0, 0] rfl ?_
          exact X.back (m' := m22) [1, 1, 1, 1] (by omega) ⟨y30, k18 + 1, by omega, rfl, rfl, h⟩ (by rfl) (by rfl)
        | succ m35 =>
          have h := hl37
          clear hl37
          obtain ⟨x36, hxx36⟩ : ∃ x, x23.fParts[k31]? = some x := ⟨_, List.getElem?_eq_getElem (by omega)⟩
          rw [drop_cons hxx36, f_l20_ProduceBatches_l2] at h
          have hk38lt : (k31 : Int) < (x23.fParts.length : Int) := by omega
          refine T.seq (T.region rfl ?_)
          refine TL.run ft_cursitorlaw20_ok [0] rfl rfl ?_
          refine TL.nil (X.seq (T.seq ?_))
          refine T.yes rfl (decide_eq_true hk38lt) ?_
          refine T.skip (X.seq (T.seq (T.block (T.seq (T.region rfl ?_)))))
          refine TL.foc (E := ProducePart_rd) (k := k31) 2 rfl (fun _ _ h => by obtain ⟨_, _, hc, hs⟩ := h.2.2.2; cases hc; exact hs) (by decide) hxx36 ?_
          rintro gz39 oz39 z39cs hA z39cl ⟨_, _, z39r⟩
          cases hA
          obtain ⟨A40, c41, rfl, _⟩ := z39r
          clear z39cl
          refine TL.sel [0, 0, 0, 0, 0] rfl ?_
          refine TL.q rfl .u (Ex.ixS (k := k31) rfl rfl rfl Try.runUnderlying74 Try.sizeOf78 (List.getElem?_eq_some_iff.1 hxx36).1) rfl ?_
          refine TL.q rfl .u (Ex.kS (cs := [.int .i64 x36.fIndex, .slice A40 x36.fBatches.length c41]) (us := [.int .i64 x36.fIndex, .slice A40 x36.fBatches.length c41]) 2 0 rfl Try.isAgg78 Try.sizeOf78 rfl (fun _ _ h => h.2.2.1) rfl rfl) rfl ?_
          refine TL.alloc rfl .u Try.zeroValue78 rfl (fun b42 => ?_)
          refine TL.st0 (cs' := #[.int .i64 x36.fIndex, .slice A40 x36.fBatches.length c41]) rfl .u rfl rfl Try.sizeOf78 rfl rfl rfl rfl ?_
          refine TL.nil (X.seq (T.seq (T.region rfl ?_)))
          refine TL.run ft_cursitorlaw20_ok [0] rfl rfl ?_
          refine TL.q rfl .u (Ex.b1 0 rfl Try.isAgg46 rfl rfl) rfl ?_
          refine TL.q rfl .u (Ex.lenS rfl Try.runUnderlying46) rfl ?_
          refine TL.run ft_cursitorlaw20_ok [3] rfl rfl ?_
          refine TL.nil (X.seq (T.block ?_))
          obtain ⟨E45, hE46, hO47⟩ := Option.bind_eq_some_iff.1 h
          refine T.blen 3 rfl (fun _ _ h => by obtain ⟨_, _, hc, hs⟩ := h.2.2.2; cases hc; exact hs) (fun hk51len => ?_)
          try dsimp only at hk51len
          refine T.lp (fun m e Rs => ∃ (y43 : Bool) (k44 : Nat), k44 + m = x36.fBatches.length ∧ e = [(4, .bool y43), (6, .pointer (some ⟨b16, 0, none⟩)), (31, .slice (some ⟨gz26, oz26, none⟩) x11.fTopics.length c13), (32, .int .i64 (x11.fTopics.length : Int)), (33, .int .i64 (k18 : Int)), (38, .slice (some ⟨gz39, oz39, none⟩) x23.fParts.length c28), (39, .int .i64 (x23.fParts.length : Int)), (40, .int .i64 (k31 : Int)), (45, .slice A40 x36.fBatches.length c41), (46, .int .i64 (x36.fBatches.length : Int)), (47, .int .i64 (k44 : Int))] ∧ Rs = [BlkR b42 78 #[.int .i64 x36.fIndex, .slice A40 x36.fBatches.length c41], BlkR b29 76 #[.string (bsOf x23.fName), .slice (some ⟨gz39, oz39, none⟩) x23.fParts.length c28], BlkR b16 65 #[.bool x11.fID.null, .string (bsOf x11.fID.data), .int .i64 x11.fAcks, .int .i64 x11.fTimeout, .slice (some ⟨gz26, oz26, none⟩) x11.fTopics.length c13], RowK (RowK (RdR (sliceRd 2 ProduceTopic_rd) [.slice (some ⟨gz26, oz26, none⟩) x11.fTopics.length c13] x11.fTopics) ProduceTopic_rd gz26 (oz26 + k18 * 2) [.string (bsOf x23.fName), .slice (some ⟨gz39, oz39, none⟩) x23.fParts.length c28] x23) ProducePart_rd gz39 (oz39 + k31 * 2) [.int .i64 x36.fIndex, .slice A40 x36.fBatches.length c41] x36, InR b7 st14, EmpR] ∧ f_l20_ProduceBatches_l3 x11 (x36.fBatches.drop k44) y43 = some E45) (x36.fBatches.length) [0, 0, 0, 0, 0, 0] ⟨y30, 0, by simp, rfl, rfl, by rw [List.drop_zero]; exact hE46⟩ (by rfl) (by rfl) ?_
          rintro m48 _ _ ⟨y43, k44, hk51, rfl, rfl, hl50⟩
          clear hE46 h
          cases m48 with
          | zero =>
            have h := hl50
            clear hl50
            rw [List.drop_of_length_le (by omega), f_l20_ProduceBatches_l3] at h
            have hk51ge : ¬ ((k44 : Int) < (x36.fBatches.length : Int)) := by omega
            refine T.seq (T.region rfl ?_)
            refine TL.run ft_cursitorlaw20_ok [0] rfl rfl ?_
            refine TL.nil (X.seq (T.seq ?_))
            refine T.no rfl (decide_eq_false hk51ge) ?_
            obtain rfl := Option.some.inj h
            replace h := hO47
            clear hO47
            try dsimp only at h
            refine T.exit (X.exs (X.exs (X.ex (X.blk (X.seq (T.region rfl ?_))))))
            refine TL.q rfl .u (Ex.add rfl rfl (by omega)) rfl ?_
            refine TL.run ft_cursitorlaw20_ok [1] rfl rfl ?_
            refine TL.nil ?_
            refine X.unf 3 rfl ?_
            refine X.sel [0, 0, 0, 0, 0, 0] rfl ?_
            exact X.back (m' := m35) [1, 1, 1, 1, 1] (by omega) ⟨y43, k31 + 1, by omega, rfl, rfl, h⟩ (by rfl) (by rfl)
          | succ m48 =>
            have h := hl50
            clear hl50
            obtain ⟨x49, hxx49⟩ : ∃ x, x36.fBatches[k44]? = some x := ⟨_, List.getElem?_eq_getElem (by omega)⟩
            rw [drop_cons hxx49, f_l20_ProduceBatches_l3] at h
            have hk51lt : (k44 : Int) < (x36.fBatches.length : Int) := by omega
            refine T.seq (T.region rfl ?_)
            refine TL.run ft_cursitorlaw20_ok [0] rfl rfl ?_
            refine TL.nil (X.seq (T.seq ?_))
            refine T.yes rfl (decide_eq_true hk51lt) ?_
            refine T.skip (X.seq (T.seq (T.block (T.seq (T.region rfl ?_)))))
            refine TL.foc (E := Bat_rd) (k := k44) 3 rfl (fun _ _ h => by obtain ⟨_, _, hc, hs⟩ := h.2.2.2; cases hc; exact hs) (by decide) hxx49 ?_
            rintro gz52 oz52 z52cs hA z52cl ⟨_, _, z52r⟩
            cases hA
            obtain ⟨A53, c54, rfl, _⟩ := z52r
            clear z52cl
            refine TL.sel [0, 0, 0, 0, 0, 0] rfl ?_
            refine TL.q rfl .u (Ex.ixS (k := k44) rfl rfl rfl Try.runUnderlying46 Try.sizeOf25 (List.getElem?_eq_some_iff.1 hxx49).1) rfl ?_
            refine TL.q rfl .u (Ex.kS (cs := [.int .i64 x49.fBase, .int .i64 x49.fLeader, .bool x49.fAppend, .bool x49.fTxn, .bool x49.fControl, .int .i64 x49.fLast, .int .i64 x49.fFirst, .int .i64 x49.fMax, .int .i64 x49.fProducer, .int .i64 x49.fEpoch, .int .i64 x49.fSequence, .slice A53 x49.fRecords.length c54]) (us := [.int .i64 x49.fBase, .int .i64 x49.fLeader, .bool x49.fAppend, .bool x49.fTxn, .bool x49.fControl, .int .i64 x49.fLast, .int .i64 x49.fFirst, .int .i64 x49.fMax, .int .i64 x49.fProducer, .int .i64 x49.fEpoch, .int .i64 x49.fSequence, .slice A53 x49.fRecords.length c54]) 3 0 rfl Try.isAgg25 Try.sizeOf25 rfl (fun _ _ h => h.2.2.1) rfl rfl) rfl ?_
            refine TL.alloc rfl .u Try.zeroValue25 rfl (fun b55 => ?_)
            refine TL.st0 (cs' := #[.int .i64 x49.fBase, .int .i64 x49.fLeader, .bool x49.fAppend, .bool x49.fTxn, .bool x49.fControl, .int .i64 x49.fLast, .int .i64 x49.fFirst, .int .i64 x49.fMax, .int .i64 x49.fProducer, .int .i64 x49.fEpoch, .int .i64 x49.fSequence, .slice A53 x49.fRecords.length c54]) rfl .u rfl rfl Try.sizeOf25 rfl rfl rfl rfl ?_
            refine TL.nil (X.seq (T.seq (T.region rfl ?_)))
            refine TL.q rfl .u (Ex.bS (us := [.int .i64 x49.fBase, .int .i64 x49.fLeader, .bool x49.fAppend, .bool x49.fTxn, .bool x49.fControl, .int .i64 x49.fLast, .int .i64 x49.fFirst, .int .i64 x49.fMax, .int .i64 x49.fProducer, .int .i64 x49.fEpoch, .int .i64 x49.fSequence, .slice A53 x49.fRecords.length c54]) 0 rfl Try.isAgg25 Try.sizeOf25 rfl rfl rfl) rfl ?_
            obtain ⟨⟨x56, x57⟩, hx58, h⟩ := Option.bind_eq_some_iff.1 h
            try dsimp only at h
            refine TL.ce rfl .u (.fn Try.call14 rfl) (f_batch_Encode_spec x49 _ _ _ hx58) (fun _ hs => (SrcE.res 4 hs rfl (fun _ _ h => by obtain ⟨_, _, hc, hs⟩ := h.2.2.2; cases hc; exact hs))) rfl ?_
            refine TL.run ft_cursitorlaw20_ok [2, 3, 4, 5, 6] rfl rfl ?_
            refine TL.nil (X.seq (T.seq (T.region rfl ?_)))
            obtain ⟨⟨x59, x62⟩, hx63, h⟩ := Option.bind_eq_some_iff.1 h
            try dsimp only at h
            refine TL.run ft_cursitorlaw20_ok [0] rfl rfl ?_
            refine TL.cge rfl .u (.fn Try.call11 rfl) (f_batch_Decode_spec x56 _ hx63) (fun _ hs => (RX.reads_triv _ _)) rfl ?_
            rintro _ _ _ ⟨A60, c61, rfl, rfl, rfl⟩
            refine TL.sel [0, 0, 0, 0, 0, 0, 0, 0] rfl ?_
            refine TL.run ft_cursitorlaw20_ok [2, 3, 4] rfl rfl ?_
            refine TL.alloc rfl .u Try.zeroValue25 rfl (fun b64 => ?_)
            refine TL.st0 (cs' := #[.int .i64 x59.fBase, .int .i64 x59.fLeader, .bool x59.fAppend, .bool x59.fTxn, .bool x59.fControl, .int .i64 x59.fLast, .int .i64 x59.fFirst, .int .i64 x59.fMax, .int .i64 x59.fProducer, .int .i64 x59.fEpoch, .int .i64 x59.fSequence, .slice A60 x59.fRecords.length c61]) rfl .u rfl rfl Try.sizeOf25 rfl rfl rfl rfl ?_
            refine TL.run ft_cursitorlaw20_ok [7] rfl rfl ?_
            refine TL.nil (X.seq (T.seq ?_))
            obtain ⟨y71, h, hk72⟩ := Option.bind_eq_some_iff.1 h
            refine T.jq (fun e Rs => e = [(4, .bool y43), (6, .pointer (some ⟨b16, 0, none⟩)), (31, .slice (some ⟨gz26, oz26, none⟩) x11.fTopics.length c13), (32, .int .i64 (x11.fTopics.length : Int)), (33, .int .i64 (k18 : Int)), (38, .slice (some ⟨gz39, oz39, none⟩) x23.fParts.length c28), (39, .int .i64 (x23.fParts.length : Int)), (40, .int .i64 (k31 : Int)), (45, .slice (some ⟨gz52, oz52, none⟩) x36.fBatches.length c41), (46, .int .i64 (x36.fBatches.length : Int)), (47, .int .i64 (k44 : Int)), (84, .bool y71)] ∧ Rs = [BlkR b64 25 #[.int .i64 x59.fBase, .int .i64 x59.fLeader, .bool x59.fAppend, .bool x59.fTxn, .bool x59.fControl, .int .i64 x59.fLast, .int .i64 x59.fFirst, .int .i64 x59.fMax, .int .i64 x59.fProducer, .int .i64 x59.fEpoch, .int .i64 x59.fSequence, .slice A60 x59.fRecords.length c61], RdR (sliceRd 7 Rec_rd) [.slice A60 x59.fRecords.length c61] x59.fRecords, BlkR b55 25 #[.int .i64 x49.fBase, .int .i64 x49.fLeader, .bool x49.fAppend, .bool x49.fTxn, .bool x49.fControl, .int .i64 x49.fLast, .int .i64 x49.fFirst, .int .i64 x49.fMax, .int .i64 x49.fProducer, .int .i64 x49.fEpoch, .int .i64 x49.fSequence, .slice A53 x49.fRecords.length c54], BlkR b42 78 #[.int .i64 x36.fIndex, .slice (some ⟨gz52, oz52, none⟩) x36.fBatches.length c41], BlkR b29 76 #[.string (bsOf x23.fName), .slice (some ⟨gz39, oz39, none⟩) x23.fParts.length c28], BlkR b16 65 #[.bool x11.fID.null, .string (bsOf x11.fID.data), .int .i64 x11.fAcks, .int .i64 x11.fTimeout, .slice (some ⟨gz26, oz26, none⟩) x11.fTopics.length c13], RowK (RowK (RowK (RdR (sliceRd 2 ProduceTopic_rd) [.slice (some ⟨gz26, oz26, none⟩) x11.fTopics.length c13] x11.fTopics) ProduceTopic_rd gz26 (oz26 + k18 * 2) [.string (bsOf x23.fName), .slice (some ⟨gz39, oz39, none⟩) x23.fParts.length c28] x23) ProducePart_rd gz39 (oz39 + k31 * 2) [.int .i64 x36.fIndex, .slice (some ⟨gz52, oz52, none⟩) x36.fBatches.length c41] x36) Bat_rd gz52 (oz52 + k44 * 12) [.int .i64 x49.fBase, .int .i64 x49.fLeader, .bool x49.fAppend, .bool x49.fTxn, .bool x49.fControl, .int .i64 x49.fLast, .int .i64 x49.fFirst, .int .i64 x49.fMax, .int .i64 x49.fProducer, .int .i64 x49.fEpoch, .int .i64 x49.fSequence, .slice A53 x49.fRecords.length c54] x49, InR b7 st14, EmpR]) ?_ ?_
            · clear hk72
              refine T.region rfl ?_
              by_cases c73 : x57 = 0
              · replace h := ifT c73 h
                refine TL.run ft_cursitorlaw20_ok [0, 1, 2] rfl rfl ?_
                refine TL.q rfl (.g rfl rfl (bn_f (decide_eq_true c73))) (Ex.ft ft_cursitorlaw20_ok rfl) rfl ?_
                refine TL.q rfl (.g rfl rfl (bn_f (decide_eq_true c73))) (Ex.ft ft_cursitorlaw20_ok rfl) rfl ?_
                refine TL.q rfl .u (Ex.pn rfl (bn_f (decide_eq_true c73)) rfl) rfl ?_
                by_cases c74 : x62 = 0
                · replace h := ifT c74 h
                  refine TL.run ft_cursitorlaw20_ok [6] rfl rfl ?_
                  refine TL.q rfl (.g rfl rfl (bn_f (decide_eq_true c74))) (Ex.bS (us := [.int .i64 x59.fBase, .int .i64 x59.fLeader, .bool x59.fAppend, .bool x59.fTxn, .bool x59.fControl, .int .i64 x59.fLast, .int .i64 x59.fFirst, .int .i64 x59.fMax, .int .i64 x59.fProducer, .int .i64 x59.fEpoch, .int .i64 x59.fSequence, .slice A60 x59.fRecords.length c61]) 0 rfl Try.isAgg25 Try.sizeOf25 rfl rfl rfl) rfl ?_
                  refine TL.q rfl (.g rfl rfl (bn_f (decide_eq_true c74))) (Ex.bS (us := [.int .i64 x49.fBase, .int .i64 x49.fLeader, .bool x49.fAppend, .bool x49.fTxn, .bool x49.fControl, .int .i64 x49.fLast, .int .i64 x49.fFirst, .int .i64 x49.fMax, .int .i64 x49.fProducer, .int .i64 x49.fEpoch, .int .i64 x49.fSequence, .slice A53 x49.fRecords.length c54]) 2 rfl Try.isAgg25 Try.sizeOf25 rfl rfl rfl) rfl ?_
                  obtain ⟨x75, hx76, h⟩ := Option.bind_eq_some_iff.1 h
                  refine TL.ce rfl (.g rfl rfl (bn_f (decide_eq_true c74))) (.fn Try.call17 rfl) (f_r11_Same_spec x59 _ _ x49 _ _ _ hx76) (fun _ hs => (RX.reads_and (SrcE.res 1 hs rfl (fun w G h => rd_reads w G h)) (SrcE.res 6 hs rfl (fun _ _ h => by obtain ⟨_, _, hc, hs⟩ := h.2.2.2; cases hc; exact hs)))) rfl ?_
                  refine TL.q rfl (.g rfl rfl (bn_f (decide_eq_true c74))) (Ex.ft ft_cursitorlaw20_ok rfl) rfl ?_
                  refine TL.q rfl .u (Ex.pn rfl (bn_f (decide_eq_true c74)) rfl) rfl ?_
                  by_cases c77 : x75 = true
                  · replace h := ifT c77 h
                    refine TL.run ft_cursitorlaw20_ok [12] rfl rfl ?_
                    refine TL.q rfl (.g rfl rfl (bn_f c77)) (Ex.ft ft_cursitorlaw20_ok rfl) rfl ?_
                    refine TL.q rfl (.g rfl rfl (bn_f c77)) (Ex.b1 2 rfl Try.isAgg4 rfl rfl) rfl ?_
                    refine TL.q rfl .u (Ex.pn rfl (bn_f c77) rfl) rfl ?_
                    by_cases c78 : x49.fControl = true
                    · replace h := ifT c78 h
                      refine TL.run ft_cursitorlaw20_ok [16] rfl rfl ?_
                      refine TL.no rfl (.gn rfl rfl c78) rfl ?_
                      refine TL.no rfl (.gn rfl rfl c78) rfl ?_
                      refine TL.no rfl (.gn rfl rfl c78) rfl ?_
                      refine TL.no rfl (.gn rfl rfl c78) rfl ?_
                      refine TL.no rfl (.gn rfl rfl c78) rfl ?_
                      refine TL.no rfl (.gn rfl rfl c78) rfl ?_
                      refine TL.q rfl .u (Ex.py rfl c78 rfl) rfl ?_
                      cases h
                      exact TL.nil (X.jq [0, 0, 0, 0, 0, 0, 0, 0, 0] ⟨rfl, rfl⟩ (by rfl) (by rfl))
                    · replace h := ifF c78 h
                      replace c78 := eq_false_of_ne_true c78
                      refine TL.run ft_cursitorlaw20_ok [16] rfl rfl ?_
                      refine TL.q rfl (.g rfl rfl c78) (Ex.ft ft_cursitorlaw20_ok rfl) rfl ?_
                      refine TL.q rfl (.g rfl rfl c78) (Ex.b1 2 rfl Try.isAgg4 rfl rfl) rfl ?_
                      refine TL.q rfl (.g rfl rfl c78) (Ex.ft ft_cursitorlaw20_ok rfl) rfl ?_
                      refine TL.q rfl (.g rfl rfl c78) (Ex.ft ft_cursitorlaw20_ok rfl) rfl ?_
                      refine TL.q rfl (.g rfl rfl c78) (Ex.b1 5 rfl Try.isAgg4 rfl rfl) rfl ?_
                      refine TL.q rfl (.g rfl rfl c78) (Ex.bEq rfl rfl rfl rfl Try.runUnderlying4) rfl ?_
                      refine TL.q rfl .u (Ex.pn rfl c78 rfl) rfl ?_
                      cases h
                      exact TL.nil (X.jq [0, 0, 0, 0, 0, 0, 0, 0, 0] ⟨rfl, rfl⟩ (by rfl) (by rfl))
                  · replace h := ifF c77 h
                    replace c77 := eq_false_of_ne_true c77
                    refine TL.run ft_cursitorlaw20_ok [12] rfl rfl ?_
                    refine TL.no rfl (.gn rfl rfl (bn_t c77)) rfl ?_
                    refine TL.no rfl (.gn rfl rfl (bn_t c77)) rfl ?_
                    refine TL.q rfl .u (Ex.py rfl (bn_t c77) rfl) rfl ?_
                    refine TL.run ft_cursitorlaw20_ok [16] rfl rfl ?_
                    refine TL.no rfl (.gn rfl rfl rfl) rfl ?_
                    refine TL.no rfl (.gn rfl rfl rfl) rfl ?_
                    refine TL.no rfl (.gn rfl rfl rfl) rfl ?_
                    refine TL.no rfl (.gn rfl rfl rfl) rfl ?_
                    refine TL.no rfl (.gn rfl rfl rfl) rfl ?_
                    refine TL.no rfl (.gn rfl rfl rfl) rfl ?_
                    refine TL.q rfl .u (Ex.py rfl rfl rfl) rfl ?_
                    cases h
                    exact TL.nil (X.jq [0, 0, 0, 0, 0, 0, 0, 0, 0] ⟨rfl, rfl⟩ (by rfl) (by rfl))
                · replace h := ifF c74 h
                  refine TL.run ft_cursitorlaw20_ok [6] rfl rfl ?_
                  refine TL.no rfl (.gn rfl rfl (bn_t (decide_eq_false c74))) rfl ?_
                  refine TL.no rfl (.gn rfl rfl (bn_t (decide_eq_false c74))) rfl ?_
                  refine TL.no rfl (.gn rfl rfl (bn_t (decide_eq_false c74))) rfl ?_
                  refine TL.no rfl (.gn rfl rfl (bn_t (decide_eq_false c74))) rfl ?_
                  refine TL.q rfl .u (Ex.py rfl (bn_t (decide_eq_false c74)) rfl) rfl ?_
                  refine TL.run ft_cursitorlaw20_ok [12] rfl rfl ?_
                  refine TL.no rfl (.gn rfl rfl rfl) rfl ?_
                  refine TL.no rfl (.gn rfl rfl rfl) rfl ?_
                  refine TL.q rfl .u (Ex.py rfl rfl rfl) rfl ?_
                  refine TL.run ft_cursitorlaw20_ok [16] rfl rfl ?_
                  refine TL.no rfl (.gn rfl rfl rfl) rfl ?_
                  refine TL.no rfl (.gn rfl rfl rfl) rfl ?_
                  refine TL.no rfl (.gn rfl rfl rfl) rfl ?_
                  refine TL.no rfl (.gn rfl rfl rfl) rfl ?_
                  refine TL.no rfl (.gn rfl rfl rfl) rfl ?_
                  refine TL.no rfl (.gn rfl rfl rfl) rfl ?_
                  refine TL.q rfl .u (Ex.py rfl rfl rfl) rfl ?_
                  cases h
                  exact TL.nil (X.jq [0, 0, 0, 0, 0, 0, 0, 0, 0] ⟨rfl, rfl⟩ (by rfl) (by rfl))
              · replace h := ifF c73 h
                refine TL.run ft_cursitorlaw20_ok [0, 1, 2] rfl rfl ?_
                refine TL.no rfl (.gn rfl rfl (bn_t (decide_eq_false c73))) rfl ?_
                refine TL.no rfl (.gn rfl rfl (bn_t (decide_eq_false c73))) rfl ?_
                refine TL.q rfl .u (Ex.py rfl (bn_t (decide_eq_false c73)) rfl) rfl ?_
                refine TL.run ft_cursitorlaw20_ok [6] rfl rfl ?_
                refine TL.no rfl (.gn rfl rfl rfl) rfl ?_
                refine TL.no rfl (.gn rfl rfl rfl) rfl ?_
                refine TL.no rfl (.gn rfl rfl rfl) rfl ?_
                refine TL.no rfl (.gn rfl rfl rfl) rfl ?_
                refine TL.q rfl .u (Ex.py rfl rfl rfl) rfl ?_
                refine TL.run ft_cursitorlaw20_ok [12] rfl rfl ?_
                refine TL.no rfl (.gn rfl rfl rfl) rfl ?_
                refine TL.no rfl (.gn rfl rfl rfl) rfl ?_
                refine TL.q rfl .u (Ex.py rfl rfl rfl) rfl ?_
                refine TL.run ft_cursitorlaw20_ok [16] rfl rfl ?_
                refine TL.no rfl (.gn rfl rfl rfl) rfl ?_
                refine TL.no rfl (.gn rfl rfl rfl) rfl ?_
                refine TL.no rfl (.gn rfl rfl rfl) rfl ?_
                refine TL.no rfl (.gn rfl rfl rfl) rfl ?_
                refine TL.no rfl (.gn rfl rfl rfl) rfl ?_
                refine TL.no rfl (.gn rfl rfl rfl) rfl ?_
                refine TL.q rfl .u (Ex.py rfl rfl rfl) rfl ?_
                cases h
                exact TL.nil (X.jq [0, 0, 0, 0, 0, 0, 0, 0, 0] ⟨rfl, rfl⟩ (by rfl) (by rfl))
            · rintro _ _ ⟨rfl, rfl⟩
              clear h
              have h := hk72
              clear hk72
              try dsimp only at h
              by_cases c79 : y71 = true
              · replace h := ifT c79 h
                refine X.seq ?_
                refine T.yes rfl c79 ?_
                exact nomatch h
              · replace h := ifF c79 h
                replace c79 := eq_false_of_ne_true c79
                refine X.seq ?_
                refine T.no rfl c79 ?_
                refine T.skip (X.blk (X.seq (T.region rfl ?_)))
                refine TL.q rfl .u (Ex.add rfl rfl (by omega)) rfl ?_
                refine TL.run ft_cursitorlaw20_ok [1] rfl rfl ?_
                refine TL.nil ?_
                refine X.unf 6 rfl ?_
                refine X.sel [0, 0, 0, 0, 0, 0, 0, 0, 0] rfl ?_
                exact X.back (m' := m48) [3, 3, 3, 3, 3, 3] (by omega) ⟨y43, k44 + 1, by omega, rfl, rfl, h⟩ (by rfl) (by rfl)
  · replace h := ifF c3 h
    replace c3 := eq_false_of_ne_true c3
    refine TL.nil (X.seq ?_)
    refine T.yes rfl (bn_t c3) ?_
    exact nomatch h
end Go.Proofs.Ytcoppaggpbfcmaa.Sl
namespace Go.Proofs.Ytcoppaggpbfcmaa.Sl
open Go.RowKit
set_option linter.unusedVariables false
set_option linter.unusedSimpArgs false
theorem speaks20 : f_l20_speaks = some true := by kernel_rfl
end Go.Proofs.Ytcoppaggpbfcmaa.Sl
namespace Go.Proofs.Ytcoppaggpbfcmaa.Sl
open Go.RowKit
set_option linter.unusedVariables false
set_option linter.unusedSimpArgs false
def okn (n : Int) : Bool := decide (0 ≤ n) && decide (n ≤ 2147483647)
end Go.Proofs.Ytcoppaggpbfcmaa.Sl
namespace Go.Proofs.Ytcoppaggpbfcmaa.Sl
open Go.RowKit
set_option linter.unusedVariables false
set_option linter.unusedSimpArgs false
def gdP (p : ProducePart) : Prop := wI p.fIndex ∧ p.fBatches.length ≤ 140737488351232 ∧ ∀ b, b ∈ p.fBatches → bnB b
def gdT (t : ProduceTopic) : Prop := t.fName.length ≤ 140737488351232 ∧ t.fParts.length * 32 ≤ 140737488351232 ∧ ∀ p, p ∈ t.fParts → gdP p
def gdQ (r : ProduceRequest) : Prop := wI r.fTimeout ∧ r.fTopics.length * 40 ≤ 140737488351232 ∧ ∀ t, t ∈ r.fTopics → gdT t
def firstBt (nul : Bool) : List Bat → Int
  | [] => 0
  | b :: l => if chk b = 0 then (if b.fControl = true then 12 else if b.fTxn = nul then 8 else firstBt nul l) else chk b
def chkBs (v : Int) (nul : Bool) (l : List Bat) : Int := if l.length = 0 ∨ (v < 4 ∧ 1 < l.length) then 10 else firstBt nul l
theorem pb_l1 (r : ProduceRequest) (y : Int) : ∀ l : List Bat, (∀ b, b ∈ l → bnB b) → f_produce_RequestBatches_l1 r l y = some (if firstBt r.fID.null l = 0 then .go y else .ret (firstBt r.fID.null l))
  | [], _ => rfl
  | b :: l, h => by
    rw [f_produce_RequestBatches_l1, (chk_eq (h b (.head _))).1, Option.bind_some, firstBt, pb_l1 r y l (fun x hx => h x (.tail _ hx))]
    by_cases c1 : chk b = 0
    · rw [if_pos c1, if_pos c1]
      by_cases c2 : b.fControl = true
      · rw [if_pos c2, if_pos c2]; rfl
      · rw [if_neg c2, if_neg c2]
        by_cases c3 : b.fTxn = r.fID.null
        · rw [if_pos (by rw [c3]; exact beq_self_eq_true _), if_pos c3]; rfl
        · rw [if_neg (by simpa using c3), if_neg c3]
    · rw [if_neg c1, if_neg c1, if_neg c1]
theorem pbatches (r : ProduceRequest) (l : List Bat) (v : Int) (h : ∀ b, b ∈ l → bnB b) : f_produce_RequestBatches r l v = some (chkBs v r.fID.null l) := by
  unfold f_produce_RequestBatches chkBs
  by_cases c0 : l.length = 0
  · rw [if_pos (by omega), Option.bind_some, if_pos rfl, if_pos (.inl c0)]
  rw [if_neg (by omega)]
  by_cases c1 : v < 4
  · rw [if_pos c1]
    by_cases c2 : 1 < l.length
    · rw [if_pos (by omega), Option.bind_some, if_pos rfl, if_pos (.inr ⟨c1, c2⟩)]
    · rw [if_neg (by omega), Option.bind_some, if_neg (by decide), pb_l1 r 0 l h, if_neg (show ¬ (l.length = 0 ∨ (v < 4 ∧ 1 < l.length)) from fun hh => by rcases hh with hh | hh; exact c0 hh; exact c2 hh.2)]
      by_cases c3 : firstBt r.fID.null l = 0
      · rw [if_pos c3, c3]; rfl
      · rw [if_neg c3]; rfl
  · rw [if_neg c1, Option.bind_some, if_neg (by decide), pb_l1 r 0 l h, if_neg (show ¬ (l.length = 0 ∨ (v < 4 ∧ 1 < l.length)) from fun hh => by rcases hh with hh | hh; exact c0 hh; exact c1 hh.1)]
    by_cases c3 : firstBt r.fID.null l = 0
    · rw [if_pos c3, c3]; rfl
    · rw [if_neg c3]; rfl
def aheadP : Option Int → Int → Bool
  | none, _ => true
  | some q, n => decide (q < n)
def rqP : Option Int → List ProducePart → Bool
  | _, [] => true
  | p, x :: l => okn x.fIndex && aheadP p x.fIndex && rqP (some x.fIndex) l
def aheadT : Option (List UInt8) → List UInt8 → Bool
  | none, _ => true
  | some q, d => Op.bytesLess q d
def okTp (p : Option (List UInt8)) (t : ProduceTopic) : Bool := !t.fName.isEmpty && decide (t.fName.length ≤ 32767) && aheadT p t.fName && rqP none t.fParts
def rqT : Option (List UInt8) → List ProduceTopic → Int
  | _, [] => 0
  | p, t :: l => if t.fParts.length = 0 then 10 else if okTp p t = true then rqT (some t.fName) l else 13
def riseQ (l : List ProduceTopic) : Int := if l.length = 0 then 10 else rqT none l
theorem rise_l3' (t : ProduceTopic) (hn : t.fParts.length ≤ 140737488351232) (y : Int) : ∀ (l : List ProducePart) (p : Option Int) (k : Nat), t.fParts.drop k = l → (∀ q, q ∈ l → wI q.fIndex) → (k = 0 → p = none) → (0 < k → ∃ u, t.fParts[k - 1]? = some u ∧ p = some u.fIndex) → f_produce_rise_l3 t l y k = some (if rqP p l = true then .go y else .ret 13)
  | [], p, k, _, _, _, _ => rfl
  | x :: l, p, k, h, hw, h0, h1 => by
    obtain ⟨g1, g2, g3⟩ := b_at_drop h
    have hx := hw x (.head _)
    have ih := rise_l3' t hn y l (some x.fIndex) (k + 1) g2 (fun q hq => hw q (.tail _ hq)) (fun h => absurd h (by omega)) (fun _ => ⟨x, g1, rfl⟩)
    rw [f_produce_rise_l3, gFits_eq _ _ hx, Option.bind_some, fits_4, rqP]
    by_cases c1 : x.fIndex < 0
    · have : okn x.fIndex = false := by unfold okn; simp; omega
      rw [if_pos c1, Option.bind_some, if_pos rfl, this]; rfl
    rw [if_neg c1]
    by_cases c2 : x.fIndex ≤ 2147483647
    rotate_left
    · have : okn x.fIndex = false := by unfold okn; simp; omega
      rw [if_neg (by simp; omega), Option.bind_some, if_pos rfl, this]; rfl
    have hok : okn x.fIndex = true := by unfold okn; simp; omega
    rw [if_pos (by simp; omega), hok]
    rcases Nat.eq_zero_or_pos k with hk | hk
    · rw [h0 hk, if_neg (by omega), Option.bind_some, if_neg (by decide), ih]; rfl
    · obtain ⟨u, u1, rfl⟩ := h1 hk
      rw [if_pos (by omega), if_pos (by omega), if_pos (by omega), show ((k : Int) - 1).toNat = k - 1 by omega, u1, Option.bind_some]
      by_cases c3 : u.fIndex < x.fIndex
      · rw [if_neg (by omega), Option.bind_some, if_neg (by decide), ih]
        rw [aheadP, decide_eq_true c3]; rfl
      · rw [if_pos (by omega), Option.bind_some, if_pos rfl]
        rw [aheadP, decide_eq_false c3]; rfl
theorem prise_l1 (a : List ProduceTopic) (y : Int) : ∀ (l : List ProduceTopic) (p : Option (List UInt8)) (k : Nat), a.drop k = l → a.length ≤ 140737488351232 → (∀ t, t ∈ l → gdT t) → (k = 0 → p = none) → (0 < k → ∃ u, a[k - 1]? = some u ∧ p = some u.fName) → f_produce_rise_l1 a l y k = some (if rqT p l = 0 then .go y else .ret (rqT p l))
  | [], p, k, _, _, _, _, _ => rfl
  | t :: l, p, k, h, hn, hw, h0, h1 => by
    obtain ⟨g1, g2, g3⟩ := b_at_drop h
    have ht := hw t (.head _)
    have ih := prise_l1 a y l (some t.fName) (k + 1) g2 hn (fun q hq => hw q (.tail _ hq)) (fun h => absurd h (by omega)) (fun _ => ⟨t, g1, rfl⟩)
    rw [f_produce_rise_l1, rqT]
    by_cases c0 : t.fParts.length = 0
    · rw [if_pos (by omega), if_pos c0]; rfl
    rw [if_neg (by omega), if_neg c0]
    have hl3 := rise_l3' t (by have := ht.2.1; omega) y t.fParts none 0 rfl (fun q hq => (ht.2.2 q hq).1) (fun _ => rfl) (fun h => absurd h (by omega))
    rw [hl3]
    have bad : ∀ {b : Bool}, okTp p t = false → b = true → ((some b).bind fun y143 => if y143 = true then some (Lp.ret 13 : Lp Int Int) else ((some (if rqP none t.fParts = true then (.go y : Lp Int Int) else .ret 13)).bind fun e => match e with | .ret r => some (Lp.ret r) | .go y237 => (f_produce_rise_l1 a l y237 (k + 1)))) = some (if (if okTp p t = true then rqT (some t.fName) l else 13) = 0 then .go y else .ret (if okTp p t = true then rqT (some t.fName) l else 13)) := by
      intro b hb hb2
      rw [hb2, Option.bind_some, if_pos rfl, hb]; rfl
    have good : ∀ {b : Bool}, (!t.fName.isEmpty && decide (t.fName.length ≤ 32767) && aheadT p t.fName) = true → b = false → ((some b).bind fun y143 => if y143 = true then some (Lp.ret 13 : Lp Int Int) else ((some (if rqP none t.fParts = true then (.go y : Lp Int Int) else .ret 13)).bind fun e => match e with | .ret r => some (Lp.ret r) | .go y237 => (f_produce_rise_l1 a l y237 (k + 1)))) = some (if (if okTp p t = true then rqT (some t.fName) l else 13) = 0 then .go y else .ret (if okTp p t = true then rqT (some t.fName) l else 13)) := by
      intro b hb hb2
      rw [hb2, Option.bind_some, if_neg (by decide), Option.bind_some]
      unfold okTp
      rw [hb, Bool.true_and]
      cases rqP none t.fParts
      · rfl
      · exact ih
    by_cases c1 : t.fName = []
    · rw [if_pos c1]
      exact bad (by unfold okTp; rw [c1]; rfl) rfl
    rw [if_neg c1]
    have hne : t.fName.isEmpty = false := by cases hh : t.fName with | nil => exact absurd hh c1 | cons c u => rfl
    by_cases c2 : (t.fName.length : Int) > 32767
    · rw [if_pos c2]
      exact bad (by unfold okTp; rw [decide_eq_false (by omega)]; simp) rfl
    rw [if_neg c2]
    rcases Nat.eq_zero_or_pos k with hk | hk
    · rw [if_neg (by omega)]
      exact good (by rw [h0 hk, hne, decide_eq_true (by omega)]; rfl) rfl
    · obtain ⟨u, u1, rfl⟩ := h1 hk
      rw [if_pos (by omega), if_pos (by omega), if_pos (by omega), show ((k : Int) - 1).toNat = k - 1 by omega, u1, Option.bind_some]
      by_cases c3 : Op.bytesLess u.fName t.fName = true
      · rw [if_pos c3]
        exact good (by rw [hne, decide_eq_true (by omega)]; exact c3) rfl
      · rw [if_neg c3]
        exact bad (by unfold okTp aheadT; simp only [c3]; simp) rfl
theorem prise_eq (l : List ProduceTopic) (hn : l.length ≤ 140737488351232) (hw : ∀ t, t ∈ l → gdT t) : f_produce_rise l = some (riseQ l) := by
  unfold f_produce_rise riseQ
  by_cases c0 : l.length = 0
  · rw [if_pos (by omega), if_pos c0]
  · rw [if_neg (by omega), if_neg c0, prise_l1 l 0 l none 0 rfl hn hw (fun _ => rfl) (fun h => absurd h (by omega))]
    by_cases c : rqT none l = 0
    · rw [if_pos c, c]; rfl
    · rw [if_neg c]; rfl
def firstPs (v : Int) (nul : Bool) : List ProducePart → Int
  | [] => 0
  | p :: l => if chkBs v nul p.fBatches = 0 then firstPs v nul l else chkBs v nul p.fBatches
def firstTs (v : Int) (nul : Bool) : List ProduceTopic → Int
  | [] => 0
  | t :: l => if firstPs v nul t.fParts = 0 then firstTs v nul l else firstPs v nul t.fParts
def idOk (r : ProduceRequest) : Prop := bright r.fID = true ∧ (r.fID.null = true ∨ kright r.fID.data = true)
def numQ (r : ProduceRequest) : Prop := -1 ≤ r.fAcks ∧ r.fAcks ≤ 1 ∧ 0 ≤ r.fTimeout ∧ r.fTimeout ≤ 2147483647
instance (r : ProduceRequest) : Decidable (idOk r) := by unfold idOk; infer_instance
instance (r : ProduceRequest) : Decidable (numQ r) := by unfold numQ; infer_instance
def chkQ (v : Int) (r : ProduceRequest) : Int := if idOk r then (if numQ r then (if riseQ r.fTopics = 0 then firstTs v r.fID.null r.fTopics else riseQ r.fTopics) else 11) else 4
theorem pc_l2 (r : ProduceRequest) (v y : Int) : ∀ l : List ProducePart, (∀ p, p ∈ l → gdP p) → f_produce_RequestCheck_l2 r v l y = some (if firstPs v r.fID.null l = 0 then .go y else .ret (firstPs v r.fID.null l))
  | [], _ => rfl
  | p :: l, h => by
    rw [f_produce_RequestCheck_l2, pbatches r p.fBatches v (h p (.head _)).2.2, Option.bind_some, firstPs, pc_l2 r v y l (fun q hq => h q (.tail _ hq))]
    by_cases c : chkBs v r.fID.null p.fBatches = 0
    · rw [if_pos c, if_pos c]
    · rw [if_neg c, if_neg c, if_neg c]
theorem pc_l1 (r : ProduceRequest) (v y : Int) : ∀ l : List ProduceTopic, (∀ t, t ∈ l → gdT t) → f_produce_RequestCheck_l1 r v l y = some (if firstTs v r.fID.null l = 0 then .go y else .ret (firstTs v r.fID.null l))
  | [], _ => rfl
  | t :: l, h => by
    rw [f_produce_RequestCheck_l1, pc_l2 r v y t.fParts (h t (.head _)).2.2, Option.bind_some, firstTs]
    by_cases c : firstPs v r.fID.null t.fParts = 0
    · rw [if_pos c, if_pos c]
      dsimp only
      rw [pc_l1 r v y l (fun q hq => h q (.tail _ hq))]
    · rw [if_neg c, if_neg c, if_neg c]
theorem pcheck (r : ProduceRequest) (v : Int) (h : gdQ r) : f_produce_RequestCheck r v = some (chkQ v r) := by
  unfold f_produce_RequestCheck chkQ
  have h1 : (((gRight r.fID).bind fun x12 => if x12 = true then (if r.fID.null = true then some false else ((gKRight r.fID.data).bind fun x16 => if x16 = true then some false else some true)) else some true) : Option Bool) = some (decide (¬ idOk r)) := by
    rw [gRight_eq, Option.bind_some, gKRight_eq]
    by_cases c1 : bright r.fID = true
    · rw [if_pos c1]
      by_cases c2 : r.fID.null = true
      · rw [if_pos c2]; exact congrArg some (Eq.symm (decide_eq_false (fun hh => hh ⟨c1, .inl c2⟩)))
      · rw [if_neg c2, Option.bind_some]
        by_cases c3 : kright r.fID.data = true
        · rw [if_pos c3]; exact congrArg some (Eq.symm (decide_eq_false (fun hh => hh ⟨c1, .inr c3⟩)))
        · rw [if_neg c3]; exact congrArg some (Eq.symm (decide_eq_true (fun hh => hh.2.elim c2 c3)))
    · rw [if_neg c1]; exact congrArg some (Eq.symm (decide_eq_true (fun hh => c1 hh.1)))
  have h2 : ((if r.fAcks < (-1) then some true else (if r.fAcks > 1 then some true else (if r.fTimeout < 0 then some true else ((gFits r.fTimeout 4).bind fun x30 => if x30 = true then some false else some true)))) : Option Bool) = some (decide (¬ numQ r)) := by
    rw [gFits_eq _ _ h.1, Option.bind_some, fits_4]
    unfold numQ
    by_cases c1 : r.fAcks < -1
    · rw [if_pos c1, decide_eq_true (by omega)]
    rw [if_neg c1]
    by_cases c2 : r.fAcks > 1
    · rw [if_pos c2, decide_eq_true (by omega)]
    rw [if_neg c2]
    by_cases c3 : r.fTimeout < 0
    · rw [if_pos c3, decide_eq_true (by omega)]
    rw [if_neg c3]
    by_cases c4 : r.fTimeout ≤ 2147483647
    · rw [if_pos (decide_eq_true (by omega)), decide_eq_false (by omega)]
    · rw [if_neg (by rw [decide_eq_true_eq]; omega), decide_eq_true (by omega)]
  rw [h1, Option.bind_some]
  by_cases c1 : idOk r
  rotate_left
  · rw [decide_eq_true c1, if_pos rfl, if_neg c1]
  rw [decide_eq_false (fun hh => hh c1), if_neg (by decide), if_pos c1, h2, Option.bind_some]
  by_cases c2 : numQ r
  rotate_left
  · rw [decide_eq_true c2, if_pos rfl, if_neg c2]
  rw [decide_eq_false (fun hh => hh c2), if_neg (by decide), if_pos c2, prise_eq _ (by have := h.2.1; omega) h.2.2, Option.bind_some]
  by_cases c3 : riseQ r.fTopics = 0
  · rw [if_pos c3, if_pos c3, pc_l1 r v 0 _ h.2.2]
    by_cases c4 : firstTs v r.fID.null r.fTopics = 0
    · rw [if_pos c4, c4]; rfl
    · rw [if_neg c4]; rfl
  · rw [if_neg c3, if_neg c3]
end Go.Proofs.Ytcoppaggpbfcmaa.Sl
namespace Go.Proofs.Ytcoppaggpbfcmaa.Sl
open Go.RowKit
set_option linter.unusedVariables false
set_option linter.unusedSimpArgs false
def pAllB : Nat → Pr (List Bat)
  | 0 => .ret []
  | n + 1 => fun s q => if q = s.length then .ok ([], q) else (pBat.bind fun b => (pAllB n).bind fun l => .ret (b :: l)) s q
theorem encBt_pos {b : Bat} (h : okB b) : 61 ≤ (encBt b).length := by rw [encBt_len h]; omega
theorem all_spell : ∀ (n : Nat) (s : List UInt8) (q : Nat) (l : List Bat) (r : Nat), q ≤ s.length → s.length - q ≤ n → pAllB n s q = .ok (l, r) → r = s.length ∧ s.drop q = encs encBt l ∧ ∀ b, b ∈ l → okB b
  | 0, s, q, l, r, hq, hn, h => by
    injection h with h
    obtain ⟨rfl, rfl⟩ := Prod.mk.inj h
    exact ⟨by omega, by rw [List.drop_eq_nil_of_le (by omega)]; rfl, fun b h => nomatch h⟩
  | n + 1, s, q, l, r, hq, hn, h => by
    unfold pAllB at h
    by_cases he : q = s.length
    · rw [if_pos he] at h
      injection h with h
      obtain ⟨rfl, rfl⟩ := Prod.mk.inj h
      exact ⟨he, by rw [List.drop_eq_nil_of_le (by omega)]; rfl, fun b h => nomatch h⟩
    rw [if_neg he] at h
    obtain ⟨b, m, h1, h2⟩ := Pr.bind_ok h
    obtain ⟨bs, m2, h3, h4⟩ := Pr.bind_ok h2
    injection h4 with h4
    obtain ⟨rfl, rfl⟩ := Prod.mk.inj h4
    obtain ⟨a1, a2, a3, a4, a5⟩ := Sp_bat.spell s q b m hq h1
    have hp := encBt_pos a5
    obtain ⟨b1, b2, b3⟩ := all_spell n s m bs m2 a2 (by omega) h3
    refine ⟨b1, ?_, fun y hy => ?_⟩
    · have e : s.drop q = encBt b ++ s.drop m := by
        have e1 : s = s.take q ++ encBt b ++ s.drop m := by rw [← a4, List.take_append_drop]
        conv => lhs; rw [e1, List.append_assoc, List.drop_left' (by rw [List.length_take]; omega)]
      rw [e, b2, encs]
    · rcases List.mem_cons.1 hy with rfl | hy
      · exact a5
      · exact b3 y hy
theorem all_back : ∀ (l : List Bat) (n : Nat) (s : List UInt8) (q : Nat), q ≤ s.length → s.length - q ≤ n → (∀ b, b ∈ l → okB b) → s.drop q = encs encBt l → pAllB n s q = .ok (l, s.length)
  | [], n, s, q, hq, hn, _, hd => by
    have hl := congrArg List.length hd
    rw [List.length_drop] at hl
    have hl : s.length - q = 0 := hl
    have : q = s.length := by omega
    subst this
    cases n with
    | zero => rfl
    | succ n => exact if_pos rfl
  | b :: l, n, s, q, hq, hn, ho, hd => by
    have hl := congrArg List.length hd
    rw [encs] at hd
    rw [List.length_drop, encs, List.length_append] at hl
    have hp := encBt_pos (ho b (.head _))
    cases n with
    | zero => omega
    | succ n =>
      have h1 := Sp_bat.back s _ q b hq (ho b (.head _)) hd
      have h2 := all_back l n s (q + (encBt b).length) (by omega) (by omega) (fun y hy => ho y (.tail _ hy)) (drop_step hd)
      show (if q = s.length then _ else _) = _
      rw [if_neg (by omega), Pr.bind_of h1, Pr.bind_of h2]
      rfl
theorem encs_mem_q {α : Type} {enc : α → List UInt8} : ∀ (l : List α) (x : α), x ∈ l → (enc x).length ≤ (encs enc l).length
  | c :: l, x, h => by
    rw [encs, List.length_append]
    rcases List.mem_cons.1 h with rfl | h
    · omega
    · have := encs_mem_q (enc := enc) l x h; omega
theorem all_count {l : List Bat} (h : ∀ b, b ∈ l → okB b) : l.length * 61 ≤ (encs encBt l).length := encs_ge (ok := okB) (fun x hx => encBt_pos hx) l h
def pBlob4 : Pr (List UInt8) := pMust (pFixed 4)
theorem Sp_blob4 : Sp pBlob4 (fun d => be (d.length : Int) 4 ++ d) (fun d => fits (d.length : Int) 4 = true ∧ bright ⟨false, d⟩ = true) := Sp_must (Sp_fixed 4 (by decide) (by decide))
def openA (i : Int) (d : List UInt8) : Pr ProducePart := match pAllB d.length d 0 with | .error e => .err e | .ok (l, _) => .ret ⟨i, l⟩
def pPart : Pr ProducePart := (pInt 4).bind fun i => pBlob4.bind fun d => openA i d
def encQp (p : ProducePart) : List UInt8 := be p.fIndex 4 ++ (be ((encs encBt p.fBatches).length : Int) 4 ++ encs encBt p.fBatches)
def okQp (p : ProducePart) : Prop := fits p.fIndex 4 = true ∧ fits ((encs encBt p.fBatches).length : Int) 4 = true ∧ ∀ b, b ∈ p.fBatches → okB b
theorem openA_ok {i : Int} {d s : List UInt8} {q r : Nat} {p : ProducePart} (h : openA i d s q = .ok (p, r)) : r = q ∧ p.fIndex = i ∧ d = encs encBt p.fBatches ∧ ∀ b, b ∈ p.fBatches → okB b := by
  unfold openA at h
  cases ha : pAllB d.length d 0 with
  | error e => rw [ha] at h; exact nomatch h
  | ok x =>
    rw [ha] at h
    injection h with h
    obtain ⟨rfl, rfl⟩ := Prod.mk.inj h
    obtain ⟨a1, a2, a3⟩ := all_spell _ d 0 x.1 x.2 (Nat.zero_le _) (by omega) ha
    rw [List.drop_zero] at a2
    exact ⟨rfl, rfl, a2, a3⟩
theorem openA_of (i : Int) {l : List Bat} (h : ∀ b, b ∈ l → okB b) (s : List UInt8) (q : Nat) : openA i (encs encBt l) s q = .ok (⟨i, l⟩, q) := by
  unfold openA
  rw [all_back l _ (encs encBt l) 0 (Nat.zero_le _) (by omega) h List.drop_zero]
  rfl
theorem Sp_qpart : Sp pPart encQp okQp := by
  refine ⟨fun s q a r hq h => ?_, fun s t q a hq ha h => ?_⟩
  · obtain ⟨i, q1, h1, h⟩ := Pr.bind_ok h
    obtain ⟨d, q2, h2, h⟩ := Pr.bind_ok h
    obtain ⟨rfl, c2, rfl, c4⟩ := openA_ok h
    obtain ⟨a1, a2, a3, a4, a5⟩ := (Sp_int 4 (by decide) (by decide)).spell _ _ _ _ hq h1
    obtain ⟨b1, b2, b3, b4, b5⟩ := Sp_blob4.spell _ _ _ _ a2 h2
    refine ⟨by omega, b2, by simp only [encQp, List.length_append, be_length] at *; omega, by rw [b4, a4]; simp only [encQp, c2, List.append_assoc], by rw [c2]; exact a5, b5.1, c4⟩
  · obtain ⟨a1, a2, a3⟩ := ha
    have hl := congrArg List.length h
    rw [encQp, List.append_assoc] at h
    have g1 := (Sp_int 4 (by decide) (by decide)).back _ _ _ _ hq a1 h
    have h := drop_step h
    have g2 := Sp_blob4.back _ _ _ _ (by simp only [encQp, List.length_drop, List.length_append, be_length] at *; omega) ⟨a2, rfl⟩ h
    rw [pPart, Pr.bind_of g1, Pr.bind_of g2, openA_of _ a3]
    simp only [encQp, List.length_append, Nat.add_assoc]
theorem encQp_ge (p : ProducePart) (h : okQp p) : 8 ≤ (encQp p).length := by simp only [encQp, List.length_append, be_length]; omega
def pQTopic : Pr ProduceTopic := pText.bind fun nm => (pRow 4 8 pPart).bind fun ps => .ret ⟨nm, ps⟩
def encQt (t : ProduceTopic) : List UInt8 := (be (t.fName.length : Int) 2 ++ t.fName) ++ (be (t.fParts.length : Int) 4 ++ encs encQp t.fParts)
def okQt (t : ProduceTopic) : Prop := fits (t.fName.length : Int) 2 = true ∧ fits (t.fParts.length : Int) 4 = true ∧ ∀ p, p ∈ t.fParts → okQp p
theorem Sp_qparts : Sp (pRow 4 8 pPart) (fun l => be (l.length : Int) 4 ++ encs encQp l) (fun l => fits (l.length : Int) 4 = true ∧ ∀ p, p ∈ l → okQp p) := Sp_row 4 8 (by decide) (by decide) Sp_qpart encQp_ge
theorem Sp_qtopic : Sp pQTopic encQt okQt := by
  refine ⟨fun s q a r hq h => ?_, fun s t q a hq ha h => ?_⟩
  · obtain ⟨k, q1, h1, h⟩ := Pr.bind_ok h
    obtain ⟨v, q2, h2, h⟩ := Pr.bind_ok h
    injection h with h
    obtain ⟨rfl, rfl⟩ := Prod.mk.inj h
    obtain ⟨a1, a2, a3, a4, a5⟩ := Sp_text.spell _ _ _ _ hq h1
    obtain ⟨b1, b2, b3, b4, b5⟩ := Sp_qparts.spell _ _ _ _ a2 h2
    exact ⟨by omega, b2, by simp only [encQt, List.length_append] at *; omega, by rw [b4, a4]; simp only [encQt, List.append_assoc], a5.1, b5⟩
  · obtain ⟨a1, a2, a3⟩ := ha
    have hl := congrArg List.length h
    rw [encQt, List.append_assoc] at h
    have g1 := Sp_text.back _ _ _ _ hq ⟨a1, rfl⟩ h
    have h := drop_step h
    have g2 := Sp_qparts.back _ _ _ _ (by simp only [encQt, List.length_drop, List.length_append, be_length] at *; omega) ⟨a2, a3⟩ h
    rw [pQTopic, Pr.bind_of g1, Pr.bind_of g2]
    simp only [Pr.ret, encQt, List.length_append, Nat.add_assoc]
theorem encQt_ge (t : ProduceTopic) (h : okQt t) : 6 ≤ (encQt t).length := by simp only [encQt, List.length_append, be_length]; omega
theorem Sp_qtopics : Sp (pRow 4 6 pQTopic) (fun l => be (l.length : Int) 4 ++ encs encQt l) (fun l => fits (l.length : Int) 4 = true ∧ ∀ t, t ∈ l → okQt t) := Sp_row 4 6 (by decide) (by decide) Sp_qtopic encQt_ge
def pPrq (v : Int) : Pr ProduceRequest := (pFixed 2).bind fun id => (pInt 2).bind fun a => (pInt 4).bind fun t => (pRow 4 6 pQTopic).bind fun l => if chkQ v ⟨id, a, t, l⟩ = 0 then .ret ⟨id, a, t, l⟩ else .err (chkQ v ⟨id, a, t, l⟩)
def encQ (r : ProduceRequest) : List UInt8 := (be (blen r.fID) 2 ++ r.fID.data) ++ (be r.fAcks 2 ++ (be r.fTimeout 4 ++ (be (r.fTopics.length : Int) 4 ++ encs encQt r.fTopics)))
def okQ (v : Int) (r : ProduceRequest) : Prop := (fits (blen r.fID) 2 = true ∧ bright r.fID = true) ∧ fits r.fAcks 2 = true ∧ fits r.fTimeout 4 = true ∧ (fits (r.fTopics.length : Int) 4 = true ∧ ∀ t, t ∈ r.fTopics → okQt t) ∧ chkQ v r = 0
theorem Sp_prq (v : Int) : Sp (pPrq v) encQ (okQ v) := by
  refine ⟨fun s q a r hq h => ?_, fun s t q a hq ha h => ?_⟩
  · obtain ⟨id, q1, h1, h⟩ := Pr.bind_ok h
    obtain ⟨ac, q2, h2, h⟩ := Pr.bind_ok h
    obtain ⟨tm, q3, h3, h⟩ := Pr.bind_ok h
    obtain ⟨l, q4, h4, h⟩ := Pr.bind_ok h
    by_cases hc : chkQ v ⟨id, ac, tm, l⟩ = 0
    rotate_left
    · rw [if_neg hc] at h
      exact nomatch h
    rw [if_pos hc] at h
    injection h with h
    obtain ⟨rfl, rfl⟩ := Prod.mk.inj h
    obtain ⟨a1, a2, a3, a4, a5⟩ := (Sp_fixed 2 (by decide) (by decide)).spell _ _ _ _ hq h1
    obtain ⟨b1, b2, b3, b4, b5⟩ := (Sp_int 2 (by decide) (by decide)).spell _ _ _ _ a2 h2
    obtain ⟨c1, c2, c3, c4, c5⟩ := (Sp_int 4 (by decide) (by decide)).spell _ _ _ _ b2 h3
    obtain ⟨d1, d2, d3, d4, d5⟩ := Sp_qtopics.spell _ _ _ _ c2 h4
    exact ⟨by omega, d2, by simp only [encQ, List.length_append] at *; omega, by rw [d4, c4, b4, a4]; simp only [encQ, List.append_assoc], a5, b5, c5, d5, hc⟩
  · obtain ⟨a1, a2, a3, a4, a5⟩ := ha
    have hl := congrArg List.length h
    simp only [encQ, List.append_assoc] at h
    rw [← List.append_assoc] at h
    simp only [encQ, List.length_drop, List.length_append, be_length] at hl
    have g1 := (Sp_fixed 2 (by decide) (by decide)).back _ _ _ _ hq a1 h
    have h := drop_step h
    have g2 := (Sp_int 2 (by decide) (by decide)).back _ _ _ _ (by simp only [List.length_append, be_length] at *; omega) a2 h
    have h := drop_step h
    have g3 := (Sp_int 4 (by decide) (by decide)).back _ _ _ _ (by simp only [List.length_append, be_length] at *; omega) a3 h
    have h := drop_step h
    rw [← List.append_assoc] at h
    have g4 := Sp_qtopics.back _ _ _ _ (by simp only [List.length_append, be_length] at *; omega) a4 h
    rw [pPrq, Pr.bind_of g1, Pr.bind_of g2, Pr.bind_of g3, Pr.bind_of g4, if_pos a5]
    simp only [Pr.ret, encQ, List.length_append, Nat.add_assoc]
theorem pp_dead (n : Nat) (acc : List Bat) (x st : I) (h : st.err ≠ 0) : f_produce_part_l1 (n + 1) acc x st = some (acc, x, st) := by
  rw [f_produce_part_l1, gErr_eq, Option.bind_some]
  dsimp only
  rw [if_neg h]
  rfl
theorem pp_l1 (s : List UInt8) (hs : s.length ≤ 1000000) (st : I) (h0 : st.err = 0) : ∀ (n fuel : Nat) (acc : List Bat) (q : Nat), q ≤ s.length → s.length - q ≤ n → s.length - q + 1 < fuel → acc.length + (s.length - q) ≤ 1000000 →
    (∃ e acc' x, pAllB n s q = .error e ∧ e ≠ 0 ∧ f_produce_part_l1 fuel acc ⟨s.drop q, q, 0⟩ st = some (acc', x, ifail st e)) ∨ (∃ l x, pAllB n s q = .ok (l, s.length) ∧ f_produce_part_l1 fuel acc ⟨s.drop q, q, 0⟩ st = some (acc ++ l, x, st))
  | n, 0, acc, q, hq, hn, hf, _ => absurd hf (by omega)
  | n, fuel + 1, acc, q, hq, hn, hf, ha => by
    have hd : (s.drop q).length = s.length - q := List.length_drop
    rw [f_produce_part_l1, gErr_eq, Option.bind_some]
    dsimp only
    rw [if_pos h0, gLeft_eq, Option.bind_some]
    dsimp only
    by_cases he : q = s.length
    · rw [if_neg (by omega), Option.bind_some]
      dsimp only
      rw [if_neg (by decide)]
      refine .inr ⟨[], _, ?_, by rw [List.append_nil]⟩
      cases n with
      | zero => rw [he]; rfl
      | succ n => rw [he]; exact if_pos rfl
    rw [if_pos (by omega), Option.bind_some]
    dsimp only
    rw [if_pos rfl]
    cases n with
    | zero => omega
    | succ n =>
    unfold pAllB
    rw [if_neg he]
    rcases B_bat.run s q hs hq with ⟨e, st2, p1, g1, x1, y1⟩ | ⟨b, r, p1, g1, n1, l1⟩
    · refine .inl ⟨e, acc ++ [zBat], st2, by rw [Pr.bind_err p1], by rw [← x1]; exact y1, ?_⟩
      rw [g1, Option.bind_some]
      dsimp only
      rw [if_pos (by omega), gErr_eq, Option.bind_some]
      dsimp only
      rw [if_neg y1, gIFail_eq, Option.bind_some, Option.bind_some, x1]
      have hfl : fuel = (fuel - 1) + 1 := by omega
      rw [hfl]
      refine pp_dead _ _ _ _ ?_
      rw [ifail, if_pos h0]
      show e ≠ 0
      rw [← x1]; exact y1
    · have a3 := (Sp_bat.spell s q b r hq p1)
      have hp := encBt_pos a3.2.2.2.2
      have a4 := a3.2.2.1
      rw [g1, Option.bind_some]
      dsimp only
      rw [if_pos (by omega), gErr_eq, Option.bind_some]
      dsimp only
      rw [if_pos rfl, Option.bind_some]
      rcases pp_l1 s hs st h0 n fuel (acc ++ [b]) r l1 (by omega) (by omega) (by rw [List.length_append, List.length_singleton]; omega) with ⟨e, acc', x, q1, q2, q3⟩ | ⟨l, x, q1, q2⟩
      · exact .inl ⟨e, acc', x, by rw [Pr.bind_of p1, Pr.bind_err q1], q2, q3⟩
      · exact .inr ⟨b :: l, x, by rw [Pr.bind_of p1, Pr.bind_of q1]; rfl, by rw [q2, List.append_assoc]; rfl⟩
theorem qpart_run (s : List UInt8) (hs : s.length ≤ 1000000) (q : Nat) (hq : q ≤ s.length) :
    (∃ e p st, pPart s q = .error e ∧ f_produce_part ⟨s.drop q, q, 0⟩ = some (p, st) ∧ st.err = e ∧ e ≠ 0) ∨ (∃ p r, pPart s q = .ok (p, r) ∧ f_produce_part ⟨s.drop q, q, 0⟩ = some (p, ⟨s.drop r, r, 0⟩) ∧ q ≤ r ∧ r ≤ s.length) := by
  have dead : ∀ (i : Int) (d : List UInt8) (st : I), d.length ≤ 1000000 → st.err ≠ 0 → ((gNew d).bind fun st18 => (f_produce_part_l1 (((st18.rest.length : Int) + (st.rest.length : Int) + 1).toNat + 1) [] st18 st).bind fun (y73, st76, st77) => some ((⟨i, y73⟩ : ProducePart), st77)) = some (⟨i, []⟩, st) := by
    intro i d st hd h
    rw [gNew_eq _ (by omega), Option.bind_some, pp_dead _ _ _ _ h]
    rfl
  unfold f_produce_part
  rcases Q4.run s q hq with ⟨e, st, p1, g1, x1, y1⟩ | ⟨i, q1, p1, g1, n1, l1⟩
  · refine .inl ⟨e, ⟨0, []⟩, st, Pr.bind_err p1, ?_, x1, by rw [← x1]; exact y1⟩
    rw [g1, Option.bind_some]
    dsimp only
    rw [gFixed_d y1, Option.bind_some]
    dsimp only
    rw [if_neg (by decide), Option.bind_some]
    exact dead 0 [] st (by decide) y1
  rw [g1, Option.bind_some]
  dsimp only
  rcases QF4.run s q1 l1 with ⟨e, st, p2, g2, x2, y2⟩ | ⟨b, q2, p2, g2, n2, l2⟩
  · refine .inl ⟨e, ⟨i, []⟩, st, by rw [pPart, Pr.bind_of p1, Pr.bind_err]; rw [pBlob4, pMust, Pr.bind_err p2], ?_, x2, by rw [← x2]; exact y2⟩
    rw [g2, Option.bind_some]
    dsimp only
    rw [if_neg (by decide), Option.bind_some]
    exact dead i [] st (by decide) y2
  have h2 := (Sp_fixed 4 (by decide) (by decide)).spell _ _ _ _ l1 p2
  have hbl : b.data.length ≤ 1000000 := by
    have := h2.2.2.1
    rw [List.length_append] at this
    omega
  rw [g2, Option.bind_some]
  dsimp only
  by_cases hb : b.null = true
  · refine .inl ⟨4, ⟨i, []⟩, ⟨s.drop q2, q2, 4⟩, by rw [pPart, Pr.bind_of p1, Pr.bind_err]; rw [pBlob4, pMust, Pr.bind_of p2, if_pos hb]; rfl, ?_, rfl, by decide⟩
    rw [if_pos hb, gIFail_eq, Option.bind_some, Option.bind_some, ifail_z]
    exact dead i b.data _ hbl (show (4 : Int) ≠ 0 by decide)
  have hx : pBlob4 s q1 = .ok (b.data, q2) := by
    rw [pBlob4, pMust, Pr.bind_of p2, if_neg hb]
    rfl
  rw [if_neg hb, Option.bind_some, gNew_eq _ (by omega), Option.bind_some]
  rcases pp_l1 b.data hbl ⟨s.drop q2, q2, 0⟩ rfl b.data.length ((((b.data.length : Int)) + ((s.drop q2).length : Int) + 1).toNat + 1) [] 0 (Nat.zero_le _) (by omega) (by omega) (by rw [List.length_nil]; omega) with ⟨e, acc', x, r1, r2, r3⟩ | ⟨l, x, r1, r2⟩
  · rw [List.drop_zero] at r3
    refine .inl ⟨e, ⟨i, acc'⟩, ⟨s.drop q2, q2, e⟩, ?_, ?_, rfl, r2⟩
    · rw [pPart, Pr.bind_of p1, Pr.bind_of hx, openA, r1]
      rfl
    · rw [r3]
      rfl
  · rw [List.drop_zero] at r2
    refine .inr ⟨⟨i, l⟩, q2, ?_, ?_, by omega, l2⟩
    · rw [pPart, Pr.bind_of p1, Pr.bind_of hx, openA, r1]
      rfl
    · rw [r2]
      rfl
end Go.Proofs.Ytcoppaggpbfcmaa.Sl
namespace Go.Proofs.Ytcoppaggpbfcmaa.Sl
open Go.RowKit
set_option linter.unusedVariables false
set_option linter.unusedSimpArgs false
def zQ : ProduceRequest := ⟨⟨false, []⟩, 0, 0, []⟩
theorem okQp_gd {p : ProducePart} (h : okQp p) (hl : (encQp p).length ≤ 1000000) : gdP p := by
  have h1 := all_count h.2.2
  simp only [encQp, List.length_append, be_length] at hl
  refine ⟨fits_rng h.1, by omega, fun b hb => bnB_of_okB (h.2.2 b hb) ?_⟩
  have := encs_mem_q (enc := encBt) _ b hb
  omega
theorem okQt_gd {t : ProduceTopic} (h : okQt t) (hl : (encQt t).length ≤ 1000000) : gdT t := by
  have h1 := encs_ge (ok := okQp) encQp_ge t.fParts h.2.2
  simp only [encQt, List.length_append, be_length] at hl
  refine ⟨by omega, by omega, fun p hp => okQp_gd (h.2.2 p hp) ?_⟩
  have := encs_mem_q (enc := encQp) t.fParts p hp
  omega
theorem okQ_gd {a : Bl} {k t : Int} {l : List ProduceTopic} (ht : fits t 4 = true) (h : ∀ x, x ∈ l → okQt x) (hl : (encs encQt l).length ≤ 1000000) : gdQ ⟨a, k, t, l⟩ := by
  have h1 := encs_ge (ok := okQt) encQt_ge l h
  refine ⟨fits_rng ht, by show l.length * 40 ≤ _; omega, fun x hx => okQt_gd (h x hx) ?_⟩
  have := encs_mem_q (enc := encQt) l x hx
  omega
theorem qr_l2 (n : Int) (s : List UInt8) (hs : s.length ≤ 1000000) (hn : n ≤ 1000000) : ∀ (m fuel k : Nat) (acc : List ProducePart) (q : Nat), ((k + m : Nat) : Int) = n → m < fuel → q ≤ s.length → acc.length = k →
    (∃ (e : Int) (st : I), pRep pPart m s q = .error e ∧ f_produce_Read_l2 n fuel k acc ⟨s.drop q, q, 0⟩ = some (.ret (zQ, st)) ∧ st.err = e ∧ e ≠ 0) ∨
    (∃ l r, pRep pPart m s q = .ok (l, r) ∧ f_produce_Read_l2 n fuel k acc ⟨s.drop q, q, 0⟩ = some (.go (k + m, acc ++ l, ⟨s.drop r, r, 0⟩)) ∧ q ≤ r ∧ r ≤ s.length)
  | 0, fuel + 1, k, acc, q, h1, h2, h3, h4 => .inr ⟨[], q, rfl, by rw [f_produce_Read_l2, if_neg (by omega), List.append_nil]; rfl, Nat.le_refl _, h3⟩
  | m + 1, fuel + 1, k, acc, q, h1, h2, h3, h4 => by
    rw [f_produce_Read_l2, if_pos (by omega)]
    rcases qpart_run s hs q h3 with ⟨e, p, st, p1, g1, x1, y1⟩ | ⟨p, r, p1, g1, n1, l1⟩
    · refine .inl ⟨e, st, by rw [pRep, Pr.bind_err p1], ?_, x1, y1⟩
      rw [g1, Option.bind_some]
      dsimp only
      rw [if_pos (by omega), gErr_eq, Option.bind_some]
      dsimp only
      rw [if_neg (by rw [x1]; exact y1)]
      rfl
    · rw [g1, Option.bind_some]
      dsimp only
      rw [if_pos (by omega), gErr_eq, Option.bind_some]
      dsimp only
      rw [if_pos rfl, if_pos (by omega), pRep, Pr.bind_of p1]
      rcases qr_l2 n s hs hn m fuel (k + 1) (acc ++ [p]) r (by omega) (by omega) l1 (by rw [List.length_append, h4]; rfl) with ⟨e, st, r1, r2, r3, r4⟩ | ⟨l, r', r1, r2, r3, r4⟩
      · exact .inl ⟨e, st, by rw [Pr.bind_err r1], r2, r3, r4⟩
      · refine .inr ⟨p :: l, r', by rw [Pr.bind_of r1]; rfl, ?_, by omega, r4⟩
        rw [r2, List.append_assoc, show k + 1 + m = k + (m + 1) by omega]
        rfl
theorem qr_l1 (n : Int) (s : List UInt8) (hs : s.length ≤ 1000000) (hn : n ≤ 1000000) : ∀ (m fuel k : Nat) (acc : List ProduceTopic) (q : Nat), ((k + m : Nat) : Int) = n → m < fuel → q ≤ s.length → acc.length = k →
    (∃ (e : Int) (st : I), pRep pQTopic m s q = .error e ∧ f_produce_Read_l1 n fuel k acc ⟨s.drop q, q, 0⟩ = some (.ret (zQ, st)) ∧ st.err = e ∧ e ≠ 0) ∨
    (∃ l r, pRep pQTopic m s q = .ok (l, r) ∧ f_produce_Read_l1 n fuel k acc ⟨s.drop q, q, 0⟩ = some (.go (k + m, acc ++ l, ⟨s.drop r, r, 0⟩)) ∧ q ≤ r ∧ r ≤ s.length)
  | 0, fuel + 1, k, acc, q, h1, h2, h3, h4 => .inr ⟨[], q, rfl, by rw [f_produce_Read_l1_s, if_neg (by omega), List.append_nil]; rfl, Nat.le_refl _, h3⟩
  | m + 1, fuel + 1, k, acc, q, h1, h2, h3, h4 => by
    rw [f_produce_Read_l1_s, if_pos (by omega)]
    rcases QT.run s q h3 with ⟨e, st, p1, g1, x1, y1⟩ | ⟨nm, q1, p1, g1, n1, l1⟩
    · refine .inl ⟨e, st, by rw [pRep, Pr.bind_err (show pQTopic s q = .error e from Pr.bind_err p1)], ?_, x1, by rw [← x1]; exact y1⟩
      rw [g1, Option.bind_some]
      dsimp only
      rw [gCount_d y1 (by decide) (by decide), Option.bind_some]
      dsimp only
      rw [show (0 : Int).toNat + 1 = 0 + 1 from rfl, f_produce_Read_l2, if_neg (by decide), Option.bind_some]
      dsimp only
      rw [gErr_eq, Option.bind_some]
      dsimp only
      rw [if_neg y1]
      rfl
    rw [g1, Option.bind_some]
    dsimp only
    rcases (Q_count 4 8 (by decide) (by decide) 4 8 rfl rfl (by decide)).run s q1 l1 with ⟨e, st, p2, g2, x2, y2⟩ | ⟨c, q2, p2, g2, n2, l2⟩
    · refine .inl ⟨e, st, by rw [pRep, Pr.bind_err]; rw [pQTopic, Pr.bind_of p1, Pr.bind_err]; rw [pRow, Pr.bind_err p2], ?_, x2, by rw [← x2]; exact y2⟩
      rw [g2, Option.bind_some]
      dsimp only
      rw [show (0 : Int).toNat + 1 = 0 + 1 from rfl, f_produce_Read_l2, if_neg (by decide), Option.bind_some]
      dsimp only
      rw [gErr_eq, Option.bind_some]
      dsimp only
      rw [if_neg y2]
      rfl
    obtain ⟨c1, c2, c3, c4, c5, c6⟩ := pCount_ok (by decide) (by decide) l1 p2
    have c2 := c2 (by decide)
    rw [g2, Option.bind_some]
    dsimp only
    rcases qr_l2 c s hs (by omega) c.toNat (c.toNat + 1) 0 [] q2 (by omega) (by omega) l2 rfl with ⟨e, st, r1, r2, r3, r4⟩ | ⟨ps, q3, r1, r2, r3, r4⟩
    · refine .inl ⟨e, st, by rw [pRep, Pr.bind_err]; rw [pQTopic, Pr.bind_of p1, Pr.bind_err]; rw [pRow, Pr.bind_of p2, r1], ?_, r3, r4⟩
      rw [r2]
      rfl
    have ht : pQTopic s q = .ok (⟨nm, ps⟩, q3) := by
      rw [pQTopic, Pr.bind_of p1, Pr.bind_of (a := ps) (r := q3) (by rw [pRow, Pr.bind_of p2, r1])]
      rfl
    rw [r2, Option.bind_some]
    dsimp only
    rw [gErr_eq, Option.bind_some]
    dsimp only
    rw [if_pos rfl, if_pos (by omega), if_pos (by omega), List.nil_append, pRep, Pr.bind_of ht]
    rcases qr_l1 n s hs hn m fuel (k + 1) (acc ++ [⟨nm, ps⟩]) q3 (by omega) (by omega) r4 (by rw [List.length_append, h4]; rfl) with ⟨e, st, s1, s2, s3, s4⟩ | ⟨l, r', s1, s2, s3, s4⟩
    · exact .inl ⟨e, st, by rw [Pr.bind_err s1], s2, s3, s4⟩
    · refine .inr ⟨⟨nm, ps⟩ :: l, r', by rw [Pr.bind_of s1]; rfl, ?_, by omega, s4⟩
      rw [s2, List.append_assoc, show k + 1 + m = k + (m + 1) by omega]
      rfl
theorem B_prq (v : Int) : CB (fun st => f_produce_Read st v) (pPrq v) zQ := by
  have tail : ∀ (b : Bl) (a t : Int) (st : I), st.err ≠ 0 → ((gErr st).bind fun (x121, st122) => (if x121 = 0 then ((f_produce_RequestCheck (⟨b, a, t, []⟩ : ProduceRequest) v).bind fun x138 => (if x138 = 0 then some st122 else ((gIFail st122 x138).bind fun st146 => some st146)).bind fun st143 => some st143) else some st122).bind fun st135 => (gErr st135).bind fun (x148, st149) => if x148 = 0 then (some ((⟨b, a, t, []⟩ : ProduceRequest), st149)) else (some ((⟨(⟨false, []⟩ : Bl), 0, 0, []⟩ : ProduceRequest), st149))) = some (zQ, st) := by
    intro b a t st h
    rw [gErr_eq, Option.bind_some]
    dsimp only
    rw [if_neg h, Option.bind_some, gErr_eq, Option.bind_some]
    dsimp only
    rw [if_neg h]
    rfl
  have dead : ∀ (b : Bl) (a t : Int) (st : I), st.err ≠ 0 → ((gCount st 4 6).bind fun (x12, st13) => (f_produce_Read_l1 x12 ((x12).toNat + 1) 0 [] st13).bind fun e => match e with | .ret r => some r | .go (k116, y117, st120) => ((gErr st120).bind fun (x121, st122) => (if x121 = 0 then ((f_produce_RequestCheck (⟨b, a, t, y117⟩ : ProduceRequest) v).bind fun x138 => (if x138 = 0 then some st122 else ((gIFail st122 x138).bind fun st146 => some st146)).bind fun st143 => some st143) else some st122).bind fun st135 => (gErr st135).bind fun (x148, st149) => if x148 = 0 then (some ((⟨b, a, t, y117⟩ : ProduceRequest), st149)) else (some ((⟨(⟨false, []⟩ : Bl), 0, 0, []⟩ : ProduceRequest), st149)))) = some (zQ, st) := by
    intro b a t st h
    rw [gCount_d h (by decide) (by decide), Option.bind_some]
    dsimp only
    rw [show (0 : Int).toNat + 1 = 0 + 1 from rfl, f_produce_Read_l1_s, if_neg (by decide), Option.bind_some]
    exact tail b a t st h
  refine ⟨fun st h => ?_, fun s q hs hq => ?_⟩
  · show f_produce_Read st v = _
    unfold f_produce_Read
    rw [gFixed_d h, Option.bind_some]
    dsimp only
    rw [gInt_d h, Option.bind_some]
    dsimp only
    rw [gInt_d h, Option.bind_some]
    exact dead _ _ _ st h
  · show (∃ e st, pPrq v s q = _ ∧ f_produce_Read _ v = _ ∧ _ ∧ _) ∨ (∃ a r, pPrq v s q = _ ∧ f_produce_Read _ v = _ ∧ _ ∧ _)
    unfold f_produce_Read
    rcases QF2.run s q hq with ⟨e, st, p1, g1, x1, y1⟩ | ⟨b, q1, p1, g1, n1, l1⟩
    · refine .inl ⟨e, st, Pr.bind_err p1, ?_, x1, y1⟩
      rw [g1, Option.bind_some]
      dsimp only
      rw [gInt_d y1, Option.bind_some]
      dsimp only
      rw [gInt_d y1, Option.bind_some]
      exact dead _ _ _ st y1
    rw [g1, Option.bind_some]
    dsimp only
    rcases Q2.run s q1 l1 with ⟨e, st, p2, g2, x2, y2⟩ | ⟨a, q2, p2, g2, n2, l2⟩
    · refine .inl ⟨e, st, by rw [pPrq, Pr.bind_of p1, Pr.bind_err p2], ?_, x2, y2⟩
      rw [g2, Option.bind_some]
      dsimp only
      rw [gInt_d y2, Option.bind_some]
      exact dead _ _ _ st y2
    rw [g2, Option.bind_some]
    dsimp only
    rcases Q4.run s q2 l2 with ⟨e, st, p3, g3, x3, y3⟩ | ⟨t, q3, p3, g3, n3, l3⟩
    · refine .inl ⟨e, st, by rw [pPrq, Pr.bind_of p1, Pr.bind_of p2, Pr.bind_err p3], ?_, x3, y3⟩
      rw [g3, Option.bind_some]
      exact dead _ _ _ st y3
    rw [g3, Option.bind_some]
    dsimp only
    rcases (Q_count 4 6 (by decide) (by decide) 4 6 rfl rfl (by decide)).run s q3 l3 with ⟨e, st, p4, g4, x4, y4⟩ | ⟨c, q4, p4, g4, n4, l4⟩
    · refine .inl ⟨e, st, by rw [pPrq, Pr.bind_of p1, Pr.bind_of p2, Pr.bind_of p3, Pr.bind_err]; rw [pRow, Pr.bind_err p4], ?_, x4, y4⟩
      have := dead b a t st y4
      rw [gCount_d y4 (by decide) (by decide)] at this
      rw [g4]
      exact this
    obtain ⟨c1, c2, c3, c4, c5, c6⟩ := pCount_ok (by decide) (by decide) l3 p4
    have c2 := c2 (by decide)
    rw [g4, Option.bind_some]
    dsimp only
    rcases qr_l1 c s hs (by omega) c.toNat (c.toNat + 1) 0 [] q4 (by omega) (by omega) l4 rfl with ⟨e, st, r1, r2, r3, r4⟩ | ⟨l, q5, r1, r2, r3, r4⟩
    · refine .inl ⟨e, st, by rw [pPrq, Pr.bind_of p1, Pr.bind_of p2, Pr.bind_of p3, Pr.bind_err]; rw [pRow, Pr.bind_of p4, r1], ?_, r3, by rw [r3]; exact r4⟩
      rw [r2]
      rfl
    have hl : pRow 4 6 pQTopic s q3 = .ok (l, q5) := by rw [pRow, Pr.bind_of p4, r1]
    obtain ⟨d1, d2, d3, d4, d5⟩ := Sp_qtopics.spell _ _ _ _ l3 hl
    obtain ⟨t1, t2, t3, t4, t5⟩ := (Sp_int 4 (by decide) (by decide)).spell _ _ _ _ l2 p3
    rw [List.length_append, be_length] at d3
    have hg : gdQ ⟨b, a, t, l⟩ := okQ_gd t5 d5.2 (by omega)
    rw [r2, Option.bind_some]
    dsimp only
    rw [gErr_eq, Option.bind_some]
    dsimp only
    rw [if_pos rfl, List.nil_append, pcheck _ v hg, Option.bind_some, pPrq, Pr.bind_of p1, Pr.bind_of p2, Pr.bind_of p3, Pr.bind_of hl]
    by_cases hc : chkQ v ⟨b, a, t, l⟩ = 0
    · rw [if_pos hc, if_pos hc]
      exact .inr ⟨_, q5, rfl, rfl, by omega, r4⟩
    · rw [if_neg hc, if_neg hc, gIFail_eq, ifail_z]
      refine .inl ⟨_, ⟨s.drop q5, q5, chkQ v ⟨b, a, t, l⟩⟩, rfl, ?_, rfl, hc⟩
      rw [Option.bind_some, Option.bind_some, Option.bind_some, gErr_eq, Option.bind_some]
      dsimp only
      rw [if_neg hc]
      rfl
end Go.Proofs.Ytcoppaggpbfcmaa.Sl
namespace Go.Proofs.Ytcoppaggpbfcmaa.Sl
open Go.RowKit
set_option linter.unusedVariables false
set_option linter.unusedSimpArgs false
theorem g_smB_of_okB {b : Bat} (h : okB b) (hl : (encBt b).length ≤ 80000) : smB b := by
  have h1 := encBt_len h
  refine ⟨bnB_of_okB h (by omega), fun r hr => ?_, by omega⟩
  have h2 := encs_mem_q (enc := encRec) b.fRecords r hr
  have h3 := encBody_ge r
  have h4 : (encBody r).length ≤ (encRec r).length := by
    unfold encRec
    rw [List.length_append]
    omega
  unfold body at h1
  omega
theorem chkBs_zero {v : Int} {nul : Bool} {l : List Bat} (h : chkBs v nul l = 0) : ∀ b, b ∈ l → chk b = 0 ∧ b.fControl = false ∧ b.fTxn ≠ nul := by
  have h2 : firstBt nul l = 0 := by
    unfold chkBs at h
    split at h
    · exact absurd h (by decide)
    · exact h
  clear h
  induction l with
  | nil => exact fun b h => nomatch h
  | cons c l ih =>
    rw [firstBt] at h2
    by_cases c1 : chk c = 0
    rotate_left
    · rw [if_neg c1] at h2; exact absurd h2 c1
    rw [if_pos c1] at h2
    by_cases c2 : c.fControl = true
    · rw [if_pos c2] at h2; exact absurd h2 (by decide)
    rw [if_neg c2] at h2
    by_cases c3 : c.fTxn = nul
    · rw [if_pos c3] at h2; exact absurd h2 (by decide)
    rw [if_neg c3] at h2
    intro b hb
    rcases List.mem_cons.1 hb with rfl | hb
    · exact ⟨c1, by simpa using c2, c3⟩
    · exact ih h2 b hb
theorem firstPs_zero {v : Int} {nul : Bool} : ∀ {l : List ProducePart}, firstPs v nul l = 0 → ∀ p, p ∈ l → chkBs v nul p.fBatches = 0
  | c :: l, h, p, hp => by
    rw [firstPs] at h
    by_cases c1 : chkBs v nul c.fBatches = 0
    rotate_left
    · rw [if_neg c1] at h; exact absurd h c1
    rw [if_pos c1] at h
    rcases List.mem_cons.1 hp with rfl | hp
    · exact c1
    · exact firstPs_zero h p hp
theorem firstTs_zero {v : Int} {nul : Bool} : ∀ {l : List ProduceTopic}, firstTs v nul l = 0 → ∀ t, t ∈ l → firstPs v nul t.fParts = 0
  | c :: l, h, t, ht => by
    rw [firstTs] at h
    by_cases c1 : firstPs v nul c.fParts = 0
    rotate_left
    · rw [if_neg c1] at h; exact absurd h c1
    rw [if_pos c1] at h
    rcases List.mem_cons.1 ht with rfl | ht
    · exact c1
    · exact firstTs_zero h t ht
theorem chkQ_zero {v : Int} {r : ProduceRequest} (h : chkQ v r = 0) : idOk r ∧ numQ r ∧ riseQ r.fTopics = 0 ∧ firstTs v r.fID.null r.fTopics = 0 := by
  unfold chkQ at h
  by_cases c1 : idOk r
  rotate_left
  · rw [if_neg c1] at h; exact absurd h (by decide)
  rw [if_pos c1] at h
  by_cases c2 : numQ r
  rotate_left
  · rw [if_neg c2] at h; exact absurd h (by decide)
  rw [if_pos c2] at h
  by_cases c3 : riseQ r.fTopics = 0
  rotate_left
  · rw [if_neg c3] at h; exact absurd h c3
  rw [if_pos c3] at h
  exact ⟨c1, c2, c3, h⟩
theorem qb_l3 (r : ProduceRequest) (y : Bool) : ∀ l : List Bat, (∀ b, b ∈ l → okB b ∧ (encBt b).length ≤ 80000 ∧ b.fControl = false ∧ b.fTxn ≠ r.fID.null) → f_l20_ProduceBatches_l3 r l y = some (.go y)
  | [], _ => rfl
  | b :: l, h => by
    obtain ⟨h1, h2, h3, h4⟩ := h b (.head _)
    have hs := g_smB_of_okB h1 h2
    rw [f_l20_ProduceBatches_l3, benc hs, if_pos h1.2.2.2, Option.bind_some]
    dsimp only
    rw [decode_enc h1 (by omega), Option.bind_some]
    dsimp only
    rw [if_pos rfl, if_pos rfl, r11_same hs.1.2.1 (fun z hz => (hs.1.2.2 z hz).1), sameB_refl, Option.bind_some, if_pos rfl, if_neg (by rw [h3]; decide), Option.bind_some, if_neg (by simpa using h4)]
    exact qb_l3 r y l (fun x hx => h x (.tail _ hx))
theorem qb_l2 (r : ProduceRequest) (y : Bool) : ∀ l : List ProducePart, (∀ p, p ∈ l → ∀ b, b ∈ p.fBatches → okB b ∧ (encBt b).length ≤ 80000 ∧ b.fControl = false ∧ b.fTxn ≠ r.fID.null) → f_l20_ProduceBatches_l2 r l y = some (.go y)
  | [], _ => rfl
  | p :: l, h => by
    rw [f_l20_ProduceBatches_l2, qb_l3 r y p.fBatches (h p (.head _)), Option.bind_some]
    exact qb_l2 r y l (fun x hx => h x (.tail _ hx))
theorem qb_l1 (r : ProduceRequest) (y : Bool) : ∀ l : List ProduceTopic, (∀ t, t ∈ l → ∀ p, p ∈ t.fParts → ∀ b, b ∈ p.fBatches → okB b ∧ (encBt b).length ≤ 80000 ∧ b.fControl = false ∧ b.fTxn ≠ r.fID.null) → f_l20_ProduceBatches_l1 r l y = some (.go y)
  | [], _ => rfl
  | t :: l, h => by
    rw [f_l20_ProduceBatches_l1, qb_l2 r y t.fParts (h t (.head _)), Option.bind_some]
    exact qb_l1 r y l (fun x hx => h x (.tail _ hx))
theorem pure_ProduceBatches (a0 : List UInt8) (a1 : Int) (w0 : a0.length ≤ 140737488351232) (w1 : 0 ≤ a1 ∧ a1 ≤ 255) : f_l20_ProduceBatches a0 a1 = some true := by
  unfold f_l20_ProduceBatches
  rw [speaks20, Option.bind_some, if_pos rfl]
  by_cases h : (a0.length : Int) > 2000
  · rw [if_pos h]
  have hs : a0.length ≤ 1000000 := by omega
  rw [if_neg h, gNew_eq _ (by omega), Option.bind_some, if_pos w1.1, if_pos (by omega), if_pos (by omega)]
  generalize 3 + a1 % 2 = v
  have hB := (B_prq v).run a0 0 hs (Nat.zero_le _)
  rw [List.drop_zero] at hB
  rcases hB with ⟨e, st, p1, g1, x1, y1⟩ | ⟨r, n, p1, g1, n1, l1⟩
  · try dsimp only at g1
    rw [g1, Option.bind_some]
    rfl
  · obtain ⟨s1, s2, s3, s4, s5⟩ := (Sp_prq v).spell a0 0 r n (Nat.zero_le _) p1
    try dsimp only at g1
    rw [g1, Option.bind_some]
    dsimp only
    obtain ⟨k1, k2, k3, k4⟩ := chkQ_zero s5.2.2.2.2
    rw [qb_l1 r false r.fTopics (fun t ht p hp b hb => ?_), Option.bind_some]
    have hz := chkBs_zero (firstPs_zero (firstTs_zero k4 t ht) p hp) b hb
    have hto := s5.2.2.2.1.2 t ht
    have hpo := hto.2.2 p hp
    refine ⟨hpo.2.2 b hb, ?_, hz.2.1, hz.2.2⟩
    have n2 := encs_mem_q (enc := encQt) r.fTopics t ht
    have n3 := encs_mem_q (enc := encQp) t.fParts p hp
    have n4 := encs_mem_q (enc := encBt) p.fBatches b hb
    simp only [encQt, List.length_append, be_length] at n2
    simp only [encQp, List.length_append, be_length] at n3
    simp only [encQ, List.length_append, be_length] at s3
    omega
end Go.Proofs.Ytcoppaggpbfcmaa.Sl
namespace Go.Proofs.Ytcoppaggpbfcmaa.produceBatches
open Go.ChangeShapes Go.WideShapes Go.ChangeAt Go.RowKit
open Go.ChangeMaps (open_string shut_string)
set_option linter.unusedVariables false
theorem own : ownKnob Try.prog.godebug = none := by kernel_rfl
set_option maxRecDepth 100000 in
set_option maxHeartbeats 1000000 in
theorem lifted (os : Os) (started : os.Started) (H : Type) (enc : TypeId × Value → H) :
    ReturnsInHanded {} Try.checked os 9 .any (Rows.produceBatchesSpec.pre6 enc Try.prog Try.f9 Rows.produceBatchesRow.domain false) (Rows.produceBatchesSpec.post enc Try.prog Try.f9 false true false false) := by
  refine returnsInHanded_of_change_sized (C := Try.checked) own started (by kernel_rfl) Try.func9
    (ChangeSpec.witness6 (enc := enc) (C := Try.checked) false ⟨#[], #[.string ByteArray.empty, .int .u8 0], []⟩ 8 (by kernel_rfl) (by kernel_rfl) (by kernel_rfl) (by kernel_rfl)) ?_
  intro W base args ds gs before hval0 hW hcnd hsz0 _
  have hsz : (DataW.weightsEach Try.prog (Try.f9.params.toList ++ Rows.produceBatchesSpec.plain.varTypes Try.prog) (ds ++ gs)).all (· ≤ reachBytes) = true := hsz0
  have hval : ∀ (j : Nat) t v, Try.f9.params[j]? = some t → args[j]? = some v → Value.okWide Try.prog W .any base t v := hval0
  have hW' := hW
  obtain ⟨p, q, hA0, hV, rfl, hfz, hnd⟩ := hW
  have hA : DataW.TrodAll enc Try.prog W 0 (fun _ => true) true Try.f9.params.toList args.toList ds p := hA0
  rw [Try.params9] at hA hval hsz
  obtain ⟨v0, vs0, d0, ds0, p0, q0, hargs, rfl, rfl, h0, r0⟩ := trodAll_cons hA
  obtain ⟨v1, vs1, d1, ds1, p1, q1, rfl, rfl, rfl, h1, r1⟩ := trodAll_cons r0
  obtain ⟨rfl, rfl, rfl⟩ := trodAll_nil r1
  obtain rfl : args = #[v0, v1] := by cases args; simp_all
  obtain ⟨rfl, rfl⟩ := trodVars_none hV
  obtain ⟨s0, rfl, rfl, rfl, y0⟩ := open_string Try.underlying9 (hval 0 9 v0 rfl rfl) h0
  have z0 : s0.size ≤ 140737488351232 := by
    have z := sized_string hsz (j := 0) (t := 9) rfl rfl
    rw [Array.length_toList] at z
    exact z
  obtain ⟨a0, rfl⟩ := Sl.bsOf_of s0
  have w0 : a0.length ≤ 140737488351232 := by rwa [Sl.bsOf_size] at z0
  obtain ⟨a1, rfl, rfl, rfl, u1⟩ := open_int Try.underlying5 (hval 1 5 v1 rfl rfl) h1
  have w1 := Go.bounds_u8 u1
  clear hA0 hval0 hsz0 hsz
  refine (Sl.f_l20_ProduceBatches_spec a0 a1 true (Sl.pure_ProduceBatches a0 a1 w0 w1) (fun _ => False) W (fun _ h => h) (Sl.RX.reads_triv _ _)).mono fun e W' hP => ?_
  obtain ⟨v, A', Ns, rfl, ⟨rfl, rfl, rfl⟩, hst⟩ := hP
  have bel := Sl.St.below hst
  exact ⟨_, rfl, _, _, _, [], _, [], hW', trodAll_mk1 (shut_bool Try.underlying4 _), (trodAll_cons_mk (shut_string Try.underlying9 y0) (trodAll_cons_mk (shut_int Try.underlying5 u1) trodAll_mk0)), rfl, bel.frame _, fun h => by cases h⟩
theorem over : Rows.produceBatchesRow.holds Try.pinned (OpenSpec.ofChange Rows.produceBatchesSpec) :=
  OpenClaim.holds_of_wide 9 Try.f9 rfl rfl rfl rfl rfl rfl rfl ⟨rfl, rfl, rfl, rfl, rfl⟩ rfl rfl rfl rfl rfl (by kernel_rfl) Try.func9 (by kernel_rfl)
    (of_decide_eq_true (by kernel_rfl)) (by unfold Func.isWrapper; first | (rw [if_pos (by decide +kernel)]; kernel_rfl) | (rw [if_neg (by decide +kernel)]; exact ⟨rfl, rfl⟩))
    (fun os started H enc _ => lifted os started H enc)
theorem proved : Rows.ProduceBatchesSaid := over
end Go.Proofs.Ytcoppaggpbfcmaa.produceBatches
namespace Go.Proofs.Ytcoppaggpbfcmaa
theorem produceBatches_holds : Rows.ProduceBatchesSaid := produceBatches.proved
end Go.Proofs.Ytcoppaggpbfcmaa
