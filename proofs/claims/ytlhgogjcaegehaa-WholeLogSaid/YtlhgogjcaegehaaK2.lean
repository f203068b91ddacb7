/- wholeLog_holds: part 2. -/
import Derived.Maps.OwnSet
import Derived.StringKeys
import Derived.Lib.SliceRun
import Derived.Shelf.SlIter.Nil
import Derived.Shelf.SortM.Plain
import Derived.Shelf.SortM.SortNone
import Derived.Ground.GgzProg
import Derived.Ground.SlgmProg
import Derived.Test.YtlhgogjcaegehaaProg
import Derived.Sort.KeysCollected
import Derived.Test.YtlhgogjcaegehaaK1
namespace Go.Proofs.Ytlhgogjcaegehaa.Sl
open Go.RowKit
set_option linter.unusedVariables false
set_option linter.unusedSimpArgs false
set_option maxRecDepth 100000
def ft_value : FTab := [(24, 0, 0), (24, 1, 1), (24, 2, 2), (24, 3, 3), (24, 4, 4), (24, 5, 5), (24, 6, 6), (46, 0, 0), (46, 1, 1)]
theorem ft_value_ok : (ft_value).OK Try.prog := ⟨FOK.mk Try.runUnderlying24 rfl Try.sizeOf3 rfl, FOK.mk Try.runUnderlying24 rfl Try.sizeOf3 rfl, FOK.mk Try.runUnderlying24 rfl Try.sizeOf3 rfl, FOK.mk Try.runUnderlying24 rfl Try.sizeOf3 rfl, FOK.mk Try.runUnderlying24 rfl Try.sizeOf22 rfl, FOK.mk Try.runUnderlying24 rfl Try.sizeOf3 rfl, FOK.mk Try.runUnderlying24 rfl Try.sizeOf3 rfl, FOK.mk Try.runUnderlying46 rfl Try.sizeOf9 rfl, FOK.mk Try.runUnderlying46 rfl Try.sizeOf44 rfl, trivial⟩
def nt_value : List Nat := [3, 9, 22, 44]
theorem nt_value_ok : NOK Try.prog nt_value := ⟨Try.isAgg3, Try.isAgg9, Try.isAgg22, Try.isAgg44, trivial⟩
theorem mix_value : Try.prog.follows .mixedOrders = true := by kernel_rfl
theorem bok_value_24 : BOK Try.prog 24 #[.int .i64 0, .int .i64 0, .int .i64 0, .int .i64 0, .slice none 0 0, .int .i64 0, .int .i64 0] [(0, 1), (1, 1), (2, 1), (3, 1), (4, 1), (5, 1), (6, 1)] := BOK.mk Try.zeroValue24 Try.runUnderlying24 (by intro w; simp)
theorem bok_value_46 : BOK Try.prog 46 #[.string ⟨#[]⟩, .slice none 0 0] [(0, 1), (1, 1)] := BOK.mk Try.zeroValue46 Try.runUnderlying46 (by intro w; simp)
theorem sok_value_22_1 : SOK Try.prog 22 46 1 2 #[.string ⟨#[]⟩, .slice none 0 0] := SOK.mk Try.runUnderlying22 Try.sizeOf46 Try.zeroValue46 (by decide) (by kernel_rfl)
theorem sok_value_44_1 : SOK Try.prog 44 3 1 1 #[.int .i64 0] := SOK.mk Try.runUnderlying44 Try.sizeOf3 Try.zeroValue3 (by decide) (by kernel_rfl)
theorem sok_value_48_1 : SOK Try.prog 48 9 1 1 #[.string ⟨#[]⟩] := SOK.mk Try.runUnderlying48 Try.sizeOf9 Try.zeroValue9 (by decide) (by kernel_rfl)
theorem inf_value_3 : (Try.prog.info? 3).map (fun i => (i.zero, i.size, i.bytes)) = some (some (.int .i64 0), 1, 8) := by kernel_rfl
theorem inf_value_9 : (Try.prog.info? 9).map (fun i => (i.zero, i.size, i.bytes)) = some (some (.string ⟨#[]⟩), 1, 16) := by kernel_rfl
theorem inf_value_46 : (Try.prog.info? 46).map (fun i => (i.zero, i.size, i.bytes)) = some (some (.agg #[.string ⟨#[]⟩, .slice none 0 0]), 2, 40) := by kernel_rfl
def f_value_Idle (a0 : Int) : Option (Bool) := if a0 = 0 then some true else (if a0 ≥ 4 then some true else some false)
set_option maxRecDepth 100000 in
set_option maxHeartbeats 4000000 in
theorem f_value_Idle_spec (a0 : Int) (r : Bool) (h : f_value_Idle a0 = some r) : SpecX Try.prog 68 #[.int .i64 a0] .triv (EmpR) (fun v A' N => v = .bool r ∧ A' = EmpR ∧ N = []) := by
  refine enterA Try.func68 rfl Try.ntmps68 rfl ?_
  intro F w hX
  unfold f_value_Idle at h
  refine T.seq (T.region rfl ?_)
  refine TL.run ft_value_ok [0] rfl rfl ?_
  refine TL.nil (X.seq (T.seq (T.region rfl ?_)))
  by_cases c1 : a0 = 0
  · replace h := ifT c1 h
    refine TL.run ft_value_ok [0, 1, 2] rfl rfl ?_
    refine TL.hv 5 rfl (decide_eq_true c1) ?_
    refine TL.rw ft_value_ok 4 rfl ?_
    obtain rfl := Option.some.inj h
    exact TL.nil (X.seq (T.ret (X.done1 [0] Try.results68 (RV.tm rfl) ⟨rfl, rfl, rfl⟩ (by rfl) (.inl rfl))))
  · replace h := ifF c1 h
    refine TL.run ft_value_ok [0, 1, 2] rfl rfl ?_
    refine TL.hv 5 rfl (decide_eq_false c1) ?_
    refine TL.rw ft_value_ok 4 rfl ?_
    by_cases c2 : a0 ≥ 4
    · replace h := ifT c2 h
      obtain rfl := Option.some.inj h
      exact TL.nil (X.seq (T.ret (X.done1 [0] Try.results68 (RV.tm (v := .bool true) (congrArg (fun b => some (Value.bool b)) (decide_eq_true c2))) ⟨rfl, rfl, rfl⟩ (by rfl) (.inl rfl))))
    · replace h := ifF c2 h
      obtain rfl := Option.some.inj h
      exact TL.nil (X.seq (T.ret (X.done1 [0] Try.results68 (RV.tm (v := .bool false) (congrArg (fun b => some (Value.bool b)) (decide_eq_false c2))) ⟨rfl, rfl, rfl⟩ (by rfl) (.inl rfl))))
def f_value_risingint_l1 (a0 : List Int) : Nat → Bool → Int → Option (Lp Bool (Bool × Int))
  | 0, _, _ => none
  | m8 + 1, y3, y4 => if y4 < (a0.length : Int) then (if -9223372036854775808 ≤ (y4 - 1) ∧ (y4 - 1) ≤ 9223372036854775807 then (if 0 ≤ (y4 - 1) then ((a0[(y4 - 1).toNat]?).bind fun x15 => if 0 ≤ y4 then ((a0[y4.toNat]?).bind fun x19 => if x15 ≥ x19 then some (Lp.ret false) else (if -9223372036854775808 ≤ (y4 + 1) ∧ (y4 + 1) ≤ 9223372036854775807 then (f_value_risingint_l1 a0 m8 y3 (y4 + 1)) else none)) else none) else none) else none) else (some (Lp.go (y3, y4)))
def f_value_risingint (a0 : List Int) : Option (Bool) := (f_value_risingint_l1 a0 ((((a0.length : Int)) - (1)).toNat + 1) false 1).bind fun e => match e with | .ret r => some r | .go (y24, y25) => some true
set_option maxRecDepth 100000 in
set_option maxHeartbeats 4000000 in
theorem f_value_risingint_spec (a0 : List Int) (A1 : Option Addr) (c2 : Nat) (r : Bool) (h : f_value_risingint a0 = some r) : SpecX Try.prog 92 #[.slice A1 a0.length c2] (RX.of (sliceRd 1 intE) [.slice A1 a0.length c2] a0) (EmpR) (fun v A' N => v = .bool r ∧ A' = EmpR ∧ N = []) := by
  refine enterA Try.func92 rfl Try.ntmps92 rfl ?_
  intro F w hX
  unfold f_value_risingint at h
  refine T.seq (T.region rfl ?_)
  refine TL.run ft_value_ok [0] rfl rfl ?_
  refine TL.nil (X.seq (T.seq (T.seq (T.region rfl ?_))))
  refine TL.run ft_value_ok [0] rfl rfl ?_
  refine TL.nil (X.seq (T.block ?_))
  obtain ⟨E5, hE6, hO7⟩ := Option.bind_eq_some_iff.1 h
  refine T.lp (fun m e Rs => ∃ (y3 : Bool) (y4 : Int), e = [(0, .slice A1 a0.length c2), (2, .bool y3), (3, .int .i64 y4)] ∧ Rs = [EmpR] ∧ f_value_risingint_l1 a0 m y3 y4 = some E5) ((((a0.length : Int)) - (1)).toNat + 1) [0] ⟨false, 1, rfl, rfl, by exact hE6⟩ (by rfl) (by rfl) ?_
  rintro m8 _ _ ⟨y3, y4, rfl, rfl, hl10⟩
  clear hE6 h
  cases m8 with
  | zero =>
    rw [f_value_risingint_l1] at hl10
    cases hl10
  | succ m8 =>
    have h := hl10
    clear hl10
    rw [f_value_risingint_l1] at h
    refine T.seq (T.seq (T.region rfl ?_))
    refine TL.run ft_value_ok [0, 1] rfl rfl ?_
    refine TL.q rfl .u (Ex.lenS rfl Try.runUnderlying44) rfl ?_
    refine TL.run ft_value_ok [3] rfl rfl ?_
    by_cases c12 : y4 < (a0.length : Int)
    · replace h := ifT c12 h
      refine TL.nil (X.seq ?_)
      refine T.yes rfl (decide_eq_true c12) ?_
      refine T.skip (X.seq (T.seq (T.block (T.seq (T.draw (.q 0 (.q 1 (.q 2 (.q 3 (.q 4 (.q 5 (.q 6 (.q 7 (.q 8 (.q 9 .nil)))))))))) [0] rfl mix_value (NoP.seq (NoP.blk (NoP.seq (NoP.seq (NoP.blk (NoP.seq np_post)))))) (by kernel_rfl) ?_)))))
      replace h := guard_some h
      obtain ⟨c13, h⟩ := h
      refine TD.run ft_value_ok [0, 1] rfl rfl ?_
      refine TD.q rfl .u (Ex.sub rfl rfl c13) rfl ?_
      replace h := guard_some h
      obtain ⟨c14, h⟩ := h
      obtain ⟨x15, hx16, h⟩ := Option.bind_eq_some_iff.1 h
      obtain ⟨gz17, oz17, rfl, z17cs, z17cl, z17cc, z17nf, z17r⟩ := RX.elem (by decide) hX hx16
      obtain ⟨z17S, z17r, z17rr⟩ := z17r
      obtain rfl : z17cs = [.int .i64 x15] := z17r
      refine TD.q rfl .u (Ex.ixS (k := (y4 - 1).toNat) rfl rfl ((Int.toNat_of_nonneg c14).symm) Try.runUnderlying44 Try.sizeOf3 (List.getElem?_eq_some_iff.1 hx16).1) rfl ?_
      refine TD.q rfl .u (Ex.o1 0 rfl Try.isAgg3 z17nf z17cc rfl rfl) rfl ?_
      replace h := guard_some h
      obtain ⟨c18, h⟩ := h
      obtain ⟨x19, hx20, h⟩ := Option.bind_eq_some_iff.1 h
      obtain ⟨z21cs, z21cl, z21cc, z21nf, z21r⟩ := RX.elem' (by decide) hX hx20
      obtain ⟨z21S, z21r, z21rr⟩ := z21r
      obtain rfl : z21cs = [.int .i64 x19] := z21r
      refine TD.run ft_value_ok [5, 6] rfl rfl ?_
      refine TD.q rfl .u (Ex.ixS (k := y4.toNat) rfl rfl ((Int.toNat_of_nonneg c18).symm) Try.runUnderlying44 Try.sizeOf3 (List.getElem?_eq_some_iff.1 hx20).1) rfl ?_
      refine TD.q rfl .u (Ex.o1 0 rfl Try.isAgg3 z21nf z21cc rfl rfl) rfl ?_
      refine TD.run ft_value_ok [9] rfl rfl ?_
      by_cases c22 : x15 ≥ x19
      · replace h := ifT c22 h
        refine TD.nil (X.seq ?_)
        refine T.yes rfl (decide_eq_true c22) ?_
        refine T.seq (T.region rfl ?_)
        refine TL.run ft_value_ok [0] rfl rfl ?_
        obtain rfl := Option.some.inj h
        replace h := hO7
        clear hO7
        try dsimp only at h
        obtain rfl := Option.some.inj h
        exact TL.nil (X.seq (T.ret (X.rb (X.rs (X.rs (X.rb (X.rs (X.done1 [0] Try.results92 (RV.tm rfl) ⟨rfl, rfl, rfl⟩ (by rfl) (.inl rfl)))))))))
      · replace h := ifF c22 h
        refine TD.nil (X.seq ?_)
        refine T.no rfl (decide_eq_false c22) ?_
        refine T.skip (X.blk (X.seq (T.region rfl ?_)))
        replace h := guard_some h
        obtain ⟨c23, h⟩ := h
        refine TL.run ft_value_ok [0] rfl rfl ?_
        refine TL.q rfl .u (Ex.add rfl rfl c23) rfl ?_
        refine TL.run ft_value_ok [2] rfl rfl ?_
        exact TL.nil (X.back (m' := m8) [0] (by omega) ⟨y3, (y4 + 1), rfl, rfl, h⟩ (by rfl) (by rfl))
    · replace h := ifF c12 h
      refine TL.nil (X.seq ?_)
      refine T.no rfl (decide_eq_false c12) ?_
      obtain rfl := Option.some.inj h
      replace h := hO7
      clear hO7
      try dsimp only at h
      refine T.exit (X.exs (X.exs (X.ex (X.seq (T.seq (T.region rfl ?_))))))
      refine TL.run ft_value_ok [0] rfl rfl ?_
      obtain rfl := Option.some.inj h
      exact TL.nil (X.seq (T.ret (X.done1 [0] Try.results92 (RV.tm rfl) ⟨rfl, rfl, rfl⟩ (by rfl) (.inl rfl))))
def f_value_parts_l1 : List Int → Bool → Option (Lp Bool Bool)
  | [], y3 => some (Lp.go y3)
  | x9 :: xs, y3 => if x9 < 0 then some (Lp.ret false) else ((gFits x9 4).bind fun x14 => if x14 = true then (f_value_parts_l1 xs y3) else some (Lp.ret false))
def f_value_parts (a0 : List Int) : Option (Bool) := (f_value_parts_l1 a0 false).bind fun e => match e with | .ret r => some r | .go y17 => (if (a0.length : Int) > 0 then ((f_value_risingint a0).bind fun x20 => some x20) else some false)
set_option maxRecDepth 100000 in
set_option maxHeartbeats 4000000 in
theorem f_value_parts_spec (a0 : List Int) (A1 : Option Addr) (c2 : Nat) (r : Bool) (h : f_value_parts a0 = some r) : SpecX Try.prog 78 #[.slice A1 a0.length c2] (RX.of (sliceRd 1 intE) [.slice A1 a0.length c2] a0) (EmpR) (fun v A' N => v = .bool r ∧ A' = EmpR ∧ N = []) := by
  refine enterA Try.func78 rfl Try.ntmps78 rfl ?_
  intro F w hX
  unfold f_value_parts at h
  refine T.seq (T.region rfl ?_)
  refine TL.run ft_value_ok [0] rfl rfl ?_
  refine TL.nil (X.seq (T.seq (T.seq (T.region rfl ?_))))
  refine TL.run ft_value_ok [0] rfl rfl ?_
  refine TL.q rfl .u (Ex.lenS rfl Try.runUnderlying44) rfl ?_
  refine TL.run ft_value_ok [2] rfl rfl ?_
  refine TL.nil (X.seq (T.block ?_))
  obtain ⟨E5, hE6, hO7⟩ := Option.bind_eq_some_iff.1 h
  have hk11len := RX.len_le hX
  refine T.lp (fun m e Rs => ∃ (y3 : Bool) (k4 : Nat), k4 + m = a0.length ∧ e = [(0, .slice A1 a0.length c2), (2, .bool y3), (5, .slice A1 a0.length c2), (6, .int .i64 (a0.length : Int)), (7, .int .i64 (k4 : Int))] ∧ Rs = [EmpR] ∧ f_value_parts_l1 (a0.drop k4) y3 = some E5) (a0.length) [0] ⟨false, 0, by simp, rfl, rfl, by rw [List.drop_zero]; exact hE6⟩ (by rfl) (by rfl) ?_
  rintro m8 _ _ ⟨y3, k4, hk11, rfl, rfl, hl10⟩
  clear hE6 h
  cases m8 with
  | zero =>
    have h := hl10
    clear hl10
    rw [List.drop_of_length_le (by omega), f_value_parts_l1] at h
    have hk11ge : ¬ ((k4 : Int) < (a0.length : Int)) := by omega
    refine T.seq (T.region rfl ?_)
    refine TL.run ft_value_ok [0] rfl rfl ?_
    refine TL.nil (X.seq (T.seq ?_))
    refine T.no rfl (decide_eq_false hk11ge) ?_
    obtain rfl := Option.some.inj h
    replace h := hO7
    clear hO7
    try dsimp only at h
    refine T.exit (X.exs (X.exs (X.ex (X.seq (T.seq (T.region rfl ?_))))))
    refine TL.run ft_value_ok [0] rfl rfl ?_
    refine TL.q rfl .u (Ex.lenS rfl Try.runUnderlying44) rfl ?_
    by_cases c22 : (a0.length : Int) > 0
    · replace h := ifT c22 h
      refine TL.run ft_value_ok [2, 3] rfl rfl ?_
      refine TL.hv 22 rfl (decide_eq_true c22) ?_
      obtain ⟨x23, hx24, h⟩ := Option.bind_eq_some_iff.1 h
      refine TL.rw ft_value_ok 1 rfl ?_
      refine TL.ce rfl (.g rfl rfl rfl) (.fn Try.call92 rfl) (f_value_risingint_spec a0 _ _ _ hx24) (fun _ hs => (SrcE.old hs hX)) rfl ?_
      refine TL.rw ft_value_ok 2 rfl ?_
      obtain rfl := Option.some.inj h
      exact TL.nil (X.seq (T.ret (X.done1 [0] Try.results78 (RV.tm rfl) ⟨rfl, rfl, rfl⟩ (by rfl) (.inl rfl))))
    · replace h := ifF c22 h
      refine TL.run ft_value_ok [2, 3] rfl rfl ?_
      refine TL.hv 22 rfl (decide_eq_false c22) ?_
      refine TL.rw ft_value_ok 4 rfl ?_
      obtain rfl := Option.some.inj h
      exact TL.nil (X.seq (T.ret (X.done1 [0] Try.results78 (RV.tm rfl) ⟨rfl, rfl, rfl⟩ (by rfl) (.inl rfl))))
  | succ m8 =>
    have h := hl10
    clear hl10
    obtain ⟨x9, hxx9⟩ : ∃ x, a0[k4]? = some x := ⟨_, List.getElem?_eq_getElem (by omega)⟩
    rw [drop_cons hxx9, f_value_parts_l1] at h
    have hk11lt : (k4 : Int) < (a0.length : Int) := by omega
    refine T.seq (T.region rfl ?_)
    refine TL.run ft_value_ok [0] rfl rfl ?_
    refine TL.nil (X.seq (T.seq ?_))
    refine T.yes rfl (decide_eq_true hk11lt) ?_
    obtain ⟨gz12, oz12, rfl, z12cs, z12cl, z12cc, z12nf, z12r⟩ := RX.elem (by decide) hX hxx9
    obtain ⟨z12S, z12r, z12rr⟩ := z12r
    obtain rfl : z12cs = [.int .i64 x9] := z12r
    refine T.skip (X.seq (T.seq (T.block (T.seq (T.region rfl ?_)))))
    refine TL.q rfl .u (Ex.ixS (k := k4) rfl rfl rfl Try.runUnderlying44 Try.sizeOf3 (List.getElem?_eq_some_iff.1 hxx9).1) rfl ?_
    refine TL.q rfl .u (Ex.o1 0 rfl Try.isAgg3 z12nf z12cc rfl rfl) rfl ?_
    refine TL.run ft_value_ok [2] rfl rfl ?_
    refine TL.nil (X.seq (T.seq (T.region rfl ?_)))
    by_cases c13 : x9 < 0
    · replace h := ifT c13 h
      refine TL.run ft_value_ok [0, 1, 2] rfl rfl ?_
      refine TL.hv 13 rfl (decide_eq_true c13) ?_
      refine TL.rw ft_value_ok 4 rfl ?_
      refine TL.nil (X.seq ?_)
      refine T.yes rfl rfl ?_
      refine T.seq (T.region rfl ?_)
      refine TL.run ft_value_ok [0] rfl rfl ?_
      obtain rfl := Option.some.inj h
      replace h := hO7
      clear hO7
      try dsimp only at h
      obtain rfl := Option.some.inj h
      exact TL.nil (X.seq (T.ret (X.rb (X.rs (X.rs (X.rb (X.rs (X.done1 [0] Try.results78 (RV.tm rfl) ⟨rfl, rfl, rfl⟩ (by rfl) (.inl rfl)))))))))
    · replace h := ifF c13 h
      refine TL.run ft_value_ok [0, 1, 2] rfl rfl ?_
      refine TL.hv 13 rfl (decide_eq_false c13) ?_
      obtain ⟨x14, hx15, h⟩ := Option.bind_eq_some_iff.1 h
      refine TL.rw ft_value_ok 1 rfl ?_
      refine TL.ce rfl (.g rfl rfl rfl) (.fn Try.call51 rfl) (SpecX.pure (fun w => gFits_spec x9 4 _ hx15 w)) (fun _ _ => RX.reads_triv _ _) rfl ?_
      refine TL.rw ft_value_ok 2 rfl ?_
      by_cases c16 : x14 = true
      · replace h := ifT c16 h
        refine TL.nil (X.seq ?_)
        refine T.no rfl (bn_f c16) ?_
        refine T.skip (X.blk (X.seq (T.region rfl ?_)))
        refine TL.q rfl .u (Ex.add rfl rfl (by omega)) rfl ?_
        refine TL.run ft_value_ok [1] rfl rfl ?_
        exact TL.nil (X.back (m' := m8) [0] (by omega) ⟨y3, k4 + 1, by omega, rfl, rfl, h⟩ (by rfl) (by rfl))
      · replace h := ifF c16 h
        replace c16 := eq_false_of_ne_true c16
        refine TL.nil (X.seq ?_)
        refine T.yes rfl (bn_t c16) ?_
        refine T.seq (T.region rfl ?_)
        refine TL.run ft_value_ok [0] rfl rfl ?_
        obtain rfl := Option.some.inj h
        replace h := hO7
        clear hO7
        try dsimp only at h
        obtain rfl := Option.some.inj h
        exact TL.nil (X.seq (T.ret (X.rb (X.rs (X.rs (X.rb (X.rs (X.done1 [0] Try.results78 (RV.tm rfl) ⟨rfl, rfl, rfl⟩ (by rfl) (.inl rfl)))))))))
def f_value_risingstring_l1 (a0 : List (List UInt8)) : Nat → Bool → Int → Option (Lp Bool (Bool × Int))
  | 0, _, _ => none
  | m8 + 1, y3, y4 => if y4 < (a0.length : Int) then (if -9223372036854775808 ≤ (y4 - 1) ∧ (y4 - 1) ≤ 9223372036854775807 then (if 0 ≤ (y4 - 1) then ((a0[(y4 - 1).toNat]?).bind fun x15 => if 0 ≤ y4 then ((a0[y4.toNat]?).bind fun x19 => if (Op.bytesLess x15 x19) = true then (if -9223372036854775808 ≤ (y4 + 1) ∧ (y4 + 1) ≤ 9223372036854775807 then (f_value_risingstring_l1 a0 m8 y3 (y4 + 1)) else none) else some (Lp.ret false)) else none) else none) else none) else (some (Lp.go (y3, y4)))
def f_value_risingstring (a0 : List (List UInt8)) : Option (Bool) := (f_value_risingstring_l1 a0 ((((a0.length : Int)) - (1)).toNat + 1) false 1).bind fun e => match e with | .ret r => some r | .go (y24, y25) => some true
set_option maxRecDepth 100000 in
set_option maxHeartbeats 4000000 in
theorem f_value_risingstring_spec (a0 : List (List UInt8)) (A1 : Option Addr) (c2 : Nat) (r : Bool) (h : f_value_risingstring a0 = some r) : SpecX Try.prog 79 #[.slice A1 a0.length c2] (RX.of (sliceRd 1 strE) [.slice A1 a0.length c2] a0) (EmpR) (fun v A' N => v = .bool r ∧ A' = EmpR ∧ N = []) := by
  refine enterA Try.func79 rfl Try.ntmps79 rfl ?_
  intro F w hX
  unfold f_value_risingstring at h
  refine T.seq (T.region rfl ?_)
  refine TL.run ft_value_ok [0] rfl rfl ?_
  refine TL.nil (X.seq (T.seq (T.seq (T.region rfl ?_))))
  refine TL.run ft_value_ok [0] rfl rfl ?_
  refine TL.nil (X.seq (T.block ?_))
  obtain ⟨E5, hE6, hO7⟩ := Option.bind_eq_some_iff.1 h
  refine T.lp (fun m e Rs => ∃ (y3 : Bool) (y4 : Int), e = [(0, .slice A1 a0.length c2), (2, .bool y3), (3, .int .i64 y4)] ∧ Rs = [EmpR] ∧ f_value_risingstring_l1 a0 m y3 y4 = some E5) ((((a0.length : Int)) - (1)).toNat + 1) [0] ⟨false, 1, rfl, rfl, by exact hE6⟩ (by rfl) (by rfl) ?_
  rintro m8 _ _ ⟨y3, y4, rfl, rfl, hl10⟩
  clear hE6 h
  cases m8 with
  | zero =>
    rw [f_value_risingstring_l1] at hl10
    cases hl10
  | succ m8 =>
    have h := hl10
    clear hl10
    rw [f_value_risingstring_l1] at h
    refine T.seq (T.seq (T.region rfl ?_))
    refine TL.run ft_value_ok [0, 1] rfl rfl ?_
    refine TL.q rfl .u (Ex.lenS rfl Try.runUnderlying48) rfl ?_
    refine TL.run ft_value_ok [3] rfl rfl ?_
    by_cases c12 : y4 < (a0.length : Int)
    · replace h := ifT c12 h
      refine TL.nil (X.seq ?_)
      refine T.yes rfl (decide_eq_true c12) ?_
      refine T.skip (X.seq (T.seq (T.block (T.seq (T.draw (.q 0 (.q 1 (.q 2 (.q 3 (.q 4 (.q 5 (.q 6 (.q 7 (.q 8 (.q 9 .nil)))))))))) [0] rfl mix_value (NoP.seq (NoP.blk (NoP.seq (NoP.seq (NoP.blk (NoP.seq np_post)))))) (by kernel_rfl) ?_)))))
      replace h := guard_some h
      obtain ⟨c13, h⟩ := h
      refine TD.run ft_value_ok [0, 1] rfl rfl ?_
      refine TD.q rfl .u (Ex.sub rfl rfl c13) rfl ?_
      replace h := guard_some h
      obtain ⟨c14, h⟩ := h
      obtain ⟨x15, hx16, h⟩ := Option.bind_eq_some_iff.1 h
      obtain ⟨gz17, oz17, rfl, z17cs, z17cl, z17cc, z17nf, z17r⟩ := RX.elem (by decide) hX hx16
      obtain ⟨z17S, z17r, z17rr⟩ := z17r
      obtain rfl : z17cs = [.string (bsOf x15)] := z17r
      refine TD.q rfl .u (Ex.ixS (k := (y4 - 1).toNat) rfl rfl ((Int.toNat_of_nonneg c14).symm) Try.runUnderlying48 Try.sizeOf9 (List.getElem?_eq_some_iff.1 hx16).1) rfl ?_
      refine TD.q rfl .u (Ex.o1 0 rfl Try.isAgg9 z17nf z17cc rfl rfl) rfl ?_
      replace h := guard_some h
      obtain ⟨c18, h⟩ := h
      obtain ⟨x19, hx20, h⟩ := Option.bind_eq_some_iff.1 h
      obtain ⟨z21cs, z21cl, z21cc, z21nf, z21r⟩ := RX.elem' (by decide) hX hx20
      obtain ⟨z21S, z21r, z21rr⟩ := z21r
      obtain rfl : z21cs = [.string (bsOf x19)] := z21r
      refine TD.run ft_value_ok [5, 6] rfl rfl ?_
      refine TD.q rfl .u (Ex.ixS (k := y4.toNat) rfl rfl ((Int.toNat_of_nonneg c18).symm) Try.runUnderlying48 Try.sizeOf9 (List.getElem?_eq_some_iff.1 hx20).1) rfl ?_
      refine TD.q rfl .u (Ex.o1 0 rfl Try.isAgg9 z21nf z21cc rfl rfl) rfl ?_
      refine TD.q rfl .u (Ex.sGe rfl rfl) rfl ?_
      by_cases c22 : (Op.bytesLess x15 x19) = true
      · replace h := ifT c22 h
        refine TD.nil (X.seq ?_)
        refine T.no rfl (bn_f c22) ?_
        refine T.skip (X.blk (X.seq (T.region rfl ?_)))
        replace h := guard_some h
        obtain ⟨c23, h⟩ := h
        refine TL.run ft_value_ok [0] rfl rfl ?_
        refine TL.q rfl .u (Ex.add rfl rfl c23) rfl ?_
        refine TL.run ft_value_ok [2] rfl rfl ?_
        exact TL.nil (X.back (m' := m8) [0] (by omega) ⟨y3, (y4 + 1), rfl, rfl, h⟩ (by rfl) (by rfl))
      · replace h := ifF c22 h
        replace c22 := eq_false_of_ne_true c22
        refine TD.nil (X.seq ?_)
        refine T.yes rfl (bn_t c22) ?_
        refine T.seq (T.region rfl ?_)
        refine TL.run ft_value_ok [0] rfl rfl ?_
        obtain rfl := Option.some.inj h
        replace h := hO7
        clear hO7
        try dsimp only at h
        obtain rfl := Option.some.inj h
        exact TL.nil (X.seq (T.ret (X.rb (X.rs (X.rs (X.rb (X.rs (X.done1 [0] Try.results79 (RV.tm rfl) ⟨rfl, rfl, rfl⟩ (by rfl) (.inl rfl)))))))))
    · replace h := ifF c12 h
      refine TL.nil (X.seq ?_)
      refine T.no rfl (decide_eq_false c12) ?_
      obtain rfl := Option.some.inj h
      replace h := hO7
      clear hO7
      try dsimp only at h
      refine T.exit (X.exs (X.exs (X.ex (X.seq (T.seq (T.region rfl ?_))))))
      refine TL.run ft_value_ok [0] rfl rfl ?_
      obtain rfl := Option.some.inj h
      exact TL.nil (X.seq (T.ret (X.done1 [0] Try.results79 (RV.tm rfl) ⟨rfl, rfl, rfl⟩ (by rfl) (.inl rfl))))
def f_value_topics_l1 : List Top → Bool → List (List UInt8) → Option (Lp Bool (Bool × List (List UInt8)))
  | [], y3, y4 => some (Lp.go (y3, y4))
  | x12 :: xs, y3, y4 => if x12.fName = [] then some (Lp.ret false) else (if (x12.fName.length : Int) > 32767 then some (Lp.ret false) else ((f_value_parts x12.fParts).bind fun x22 => if x22 = true then (if (y4.length + 1) * 16 ≤ 140737488355328 then (f_value_topics_l1 xs y3 (y4 ++ [x12.fName])) else none) else some (Lp.ret false)))
def f_value_topics (a0 : List Top) : Option (Bool) := (f_value_topics_l1 a0 false []).bind fun e => match e with | .ret r => some r | .go (y29, y30) => ((f_value_risingstring y30).bind fun x34 => some x34)
set_option maxRecDepth 100000 in
set_option maxHeartbeats 4000000 in
theorem f_value_topics_spec (a0 : List Top) (A1 : Option Addr) (c2 : Nat) (r : Bool) (h : f_value_topics a0 = some r) : SpecX Try.prog 69 #[.slice A1 a0.length c2] (RX.of (sliceRd 2 Top_rd) [.slice A1 a0.length c2] a0) (EmpR) (fun v A' N => v = .bool r ∧ A' = EmpR ∧ N = []) := by
  refine enterA Try.func69 rfl Try.ntmps69 rfl ?_
  intro F w hX
  unfold f_value_topics at h
  refine T.seq (T.region rfl ?_)
  refine TL.run ft_value_ok [0] rfl rfl ?_
  refine TL.nil (X.seq (T.seq (T.region rfl ?_)))
  refine TL.run ft_value_ok [0] rfl rfl ?_
  refine TL.nil (X.seq (T.seq (T.seq (T.region rfl ?_))))
  refine TL.run ft_value_ok [0] rfl rfl ?_
  refine TL.q rfl .u (Ex.lenS rfl Try.runUnderlying22) rfl ?_
  refine TL.run ft_value_ok [2] rfl rfl ?_
  refine TL.nil (X.seq (T.block ?_))
  refine T.nilrow 9 1 strE ?_
  obtain ⟨E8, hE9, hO10⟩ := Option.bind_eq_some_iff.1 h
  have hk14len := RX.len_le hX
  refine T.lp (fun m e Rs => ∃ (y3 : Bool) (y4 : List (List UInt8)) (A5 : Option Addr) (c6 : Nat) (k7 : Nat), k7 + m = a0.length ∧ e = [(2, .bool y3), (3, .slice A5 y4.length c6), (6, .slice A1 a0.length c2), (7, .int .i64 (a0.length : Int)), (8, .int .i64 (k7 : Int))] ∧ Rs = [OwnR 9 1 strE (.slice A5 y4.length c6) y4, EmpR] ∧ f_value_topics_l1 (a0.drop k7) y3 y4 = some E8) (a0.length) [0, 0] ⟨false, [], none, 0, 0, by simp, rfl, rfl, by rw [List.drop_zero]; exact hE9⟩ (by rfl) (by rfl) ?_
  rintro m11 _ _ ⟨y3, y4, A5, c6, k7, hk14, rfl, rfl, hl13⟩
  clear hE9 h
  cases m11 with
  | zero =>
    have h := hl13
    clear hl13
    rw [List.drop_of_length_le (by omega), f_value_topics_l1] at h
    have hk14ge : ¬ ((k7 : Int) < (a0.length : Int)) := by omega
    refine T.seq (T.region rfl ?_)
    refine TL.run ft_value_ok [0] rfl rfl ?_
    refine TL.nil (X.seq (T.seq ?_))
    refine T.no rfl (decide_eq_false hk14ge) ?_
    obtain rfl := Option.some.inj h
    replace h := hO10
    clear hO10
    try dsimp only at h
    refine T.exit (X.exs (X.exs (X.ex (X.seq (T.seq (T.region rfl ?_))))))
    obtain ⟨x36, hx37, h⟩ := Option.bind_eq_some_iff.1 h
    refine TL.run ft_value_ok [0] rfl rfl ?_
    refine TL.ce rfl .u (.fn Try.call79 rfl) (f_value_risingstring_spec y4 _ _ _ hx37) (fun _ hs => (SrcE.res 0 hs rfl (fun w G h => own_reads (by decide) w G h))) rfl ?_
    refine TL.run ft_value_ok [2] rfl rfl ?_
    obtain rfl := Option.some.inj h
    exact TL.nil (X.seq (T.ret (X.done1 [1] Try.results69 (RV.tm rfl) ⟨rfl, rfl, rfl⟩ (by rfl) (.inl rfl))))
  | succ m11 =>
    have h := hl13
    clear hl13
    obtain ⟨x12, hxx12⟩ : ∃ x, a0[k7]? = some x := ⟨_, List.getElem?_eq_getElem (by omega)⟩
    rw [drop_cons hxx12, f_value_topics_l1] at h
    have hk14lt : (k7 : Int) < (a0.length : Int) := by omega
    refine T.seq (T.region rfl ?_)
    refine TL.run ft_value_ok [0] rfl rfl ?_
    refine TL.nil (X.seq (T.seq ?_))
    refine T.yes rfl (decide_eq_true hk14lt) ?_
    obtain ⟨gz15, oz15, rfl, z15cs, z15cl, z15cc, z15nf, z15r⟩ := RX.elem (by decide) hX hxx12
    obtain ⟨z15S, z15r, z15rr⟩ := z15r
    obtain ⟨A16, c17, rfl, z15s0⟩ := z15r
    have hX18 : (RX.of (sliceRd 1 intE) [.slice A16 x12.fParts.length c17] x12.fParts).reads w F := ⟨z15S, z15s0, z15rr⟩
    refine T.skip (X.seq (T.seq (T.block (T.seq (T.region rfl ?_)))))
    refine TL.q rfl .u (Ex.ixS (k := k7) rfl rfl rfl Try.runUnderlying22 Try.sizeOf46 (List.getElem?_eq_some_iff.1 hxx12).1) rfl ?_
    refine TL.q rfl .u (Ex.oS (us := [.string (bsOf x12.fName), .slice A16 x12.fParts.length c17]) 0 rfl Try.isAgg46 Try.sizeOf46 z15nf z15cc rfl rfl rfl) rfl ?_
    refine TL.alloc rfl .u Try.zeroValue46 rfl (fun b19 => ?_)
    refine TL.st0 (cs' := #[.string (bsOf x12.fName), .slice A16 x12.fParts.length c17]) rfl .u rfl rfl Try.sizeOf46 rfl rfl rfl rfl ?_
    refine TL.nil (X.seq (T.seq (T.seq (T.region rfl ?_))))
    refine TL.rb ft_value_ok nt_value_ok 0 rfl 2 rfl rfl ?_
    refine TL.q rfl .u (Ex.sEq rfl (m := []) rfl) rfl ?_
    by_cases c20 : x12.fName = []
    · replace h := ifT c20 h
      refine TL.run ft_value_ok [3] rfl rfl ?_
      refine TL.hv 15 rfl (decide_eq_true c20) ?_
      refine TL.rw ft_value_ok 11 rfl ?_
      refine TL.nil (X.seq ?_)
      refine T.yes rfl rfl ?_
      refine T.seq (T.region rfl ?_)
      refine TL.run ft_value_ok [0] rfl rfl ?_
      obtain rfl := Option.some.inj h
      replace h := hO10
      clear hO10
      try dsimp only at h
      obtain rfl := Option.some.inj h
      exact TL.nil (X.seq (T.ret (X.rs (X.rb (X.rs (X.rs (X.rb (X.rs (X.done1 [2] Try.results69 (RV.tm rfl) ⟨rfl, rfl, rfl⟩ (by rfl) (.inl rfl))))))))))
    · replace h := ifF c20 h
      refine TL.run ft_value_ok [3] rfl rfl ?_
      refine TL.hv 15 rfl (decide_eq_false c20) ?_
      refine TL.rb ft_value_ok nt_value_ok 0 rfl 2 rfl rfl ?_
      refine TL.q rfl (.g rfl rfl rfl) (Ex.lenB rfl Try.runUnderlying9) rfl ?_
      by_cases c21 : (x12.fName.length : Int) > 32767
      · replace h := ifT c21 h
        refine TL.rw ft_value_ok 3 rfl ?_
        refine TL.hv 21 rfl (decide_eq_true c21) ?_
        refine TL.rw ft_value_ok 5 rfl ?_
        refine TL.nil (X.seq ?_)
        refine T.yes rfl rfl ?_
        refine T.seq (T.region rfl ?_)
        refine TL.run ft_value_ok [0] rfl rfl ?_
        obtain rfl := Option.some.inj h
        replace h := hO10
        clear hO10
        try dsimp only at h
        obtain rfl := Option.some.inj h
        exact TL.nil (X.seq (T.ret (X.rs (X.rb (X.rs (X.rs (X.rb (X.rs (X.done1 [2] Try.results69 (RV.tm rfl) ⟨rfl, rfl, rfl⟩ (by rfl) (.inl rfl))))))))))
      · replace h := ifF c21 h
        refine TL.rw ft_value_ok 3 rfl ?_
        refine TL.hv 21 rfl (decide_eq_false c21) ?_
        obtain ⟨x22, hx23, h⟩ := Option.bind_eq_some_iff.1 h
        refine TL.rb ft_value_ok nt_value_ok 0 rfl 2 rfl rfl ?_
        refine TL.ce rfl (.g rfl rfl rfl) (.fn Try.call78 rfl) (f_value_parts_spec x12.fParts _ _ _ hx23) (fun _ hs => (SrcE.old hs hX18)) rfl ?_
        refine TL.rw ft_value_ok 2 rfl ?_
        by_cases c24 : x22 = true
        · replace h := ifT c24 h
          refine TL.nil (X.seq ?_)
          refine T.no rfl (bn_f c24) ?_
          refine T.skip (X.seq (T.region rfl ?_))
          refine TL.rb ft_value_ok nt_value_ok 0 rfl 3 rfl rfl ?_
          refine TL.lit (cells := #[.string (bsOf x12.fName)]) rfl .u sok_value_48_1 rfl (by rfl) rfl (fun b25 => ?_)
          replace h := guard_some h
          obtain ⟨c26, h⟩ := h
          refine TL.app1 1 rfl .u (us := [.string (bsOf x12.fName)]) (u := x12.fName) (l := y4) (E := strE) Try.underlying48 inf_value_9 rfl (by decide) rfl rfl rfl rfl rfl rfl (fun _ _ => rfl) (by have hq := c26; omega) (by have hq := c26; omega) rfl (fun A27 c28 => ?_)
          refine TL.sel [0, 0, 0] rfl ?_
          refine TL.run ft_value_ok [5] rfl rfl ?_
          refine TL.nil (X.blk (X.seq (T.region rfl ?_)))
          refine TL.q rfl .u (Ex.add rfl rfl (by omega)) rfl ?_
          refine TL.run ft_value_ok [1] rfl rfl ?_
          exact TL.nil (X.back (m' := m11) [1, 1] (by omega) ⟨y3, (y4 ++ [x12.fName]), A27, c28, k7 + 1, by omega, rfl, rfl, h⟩ (by rfl) (by rfl))
        · replace h := ifF c24 h
          replace c24 := eq_false_of_ne_true c24
          refine TL.nil (X.seq ?_)
          refine T.yes rfl (bn_t c24) ?_
          refine T.seq (T.region rfl ?_)
          refine TL.run ft_value_ok [0] rfl rfl ?_
          obtain rfl := Option.some.inj h
          replace h := hO10
          clear hO10
          try dsimp only at h
          obtain rfl := Option.some.inj h
          exact TL.nil (X.seq (T.ret (X.rs (X.rb (X.rs (X.rs (X.rb (X.rs (X.done1 [2] Try.results69 (RV.tm rfl) ⟨rfl, rfl, rfl⟩ (by rfl) (.inl rfl))))))))))
def f_value_Check (a0 : Val) : Option (Int) := if a0.fProducer < 0 then some 11 else (if a0.fEpoch < 0 then some 11 else ((gFits a0.fEpoch 2).bind fun x6 => if x6 = true then (if a0.fTimeout < 0 then some 11 else ((gFits a0.fTimeout 4).bind fun x10 => if x10 = true then (if a0.fUpdated < 0 then some 11 else (if a0.fStarted < (-1) then some 11 else (if a0.fState < 0 then some 12 else (if a0.fState ≥ 7 then some 12 else ((f_value_Idle a0.fState).bind fun x17 => if x17 = true then (if (a0.fTopics.length : Int) = 0 then (if a0.fState = 0 then (if a0.fStarted = (-1) then ((f_value_topics a0.fTopics).bind fun x23 => if x23 = true then some 0 else some 13) else some 10) else (if a0.fStarted = (-1) then some 10 else ((f_value_topics a0.fTopics).bind fun x27 => if x27 = true then some 0 else some 13))) else some 10) else (if (a0.fTopics.length : Int) = 0 then some 10 else (if a0.fState = 0 then (if a0.fStarted = (-1) then ((f_value_topics a0.fTopics).bind fun x33 => if x33 = true then some 0 else some 13) else some 10) else (if a0.fStarted = (-1) then some 10 else ((f_value_topics a0.fTopics).bind fun x37 => if x37 = true then some 0 else some 13))))))))) else some 11)) else some 11))
set_option maxRecDepth 100000 in
set_option maxHeartbeats 4000000 in
theorem f_value_Check_spec (a0 : Val) (A1 : Option Addr) (c2 : Nat) (r : Int) (h : f_value_Check a0 = some r) : SpecX Try.prog 47 #[.agg #[.int .i64 a0.fProducer, .int .i64 a0.fEpoch, .int .i64 a0.fTimeout, .int .i64 a0.fState, .slice A1 a0.fTopics.length c2, .int .i64 a0.fUpdated, .int .i64 a0.fStarted]] (RX.of (sliceRd 2 Top_rd) [.slice A1 a0.fTopics.length c2] a0.fTopics) (EmpR) (fun v A' N => v = .int .i64 r ∧ A' = EmpR ∧ N = []) := by
  refine enterA Try.func47 rfl Try.ntmps47 rfl ?_
  intro F w hX
  unfold f_value_Check at h
  refine T.seq (T.region rfl ?_)
  refine TL.box rfl .u rfl rfl (fun b3 => ?_)
  refine TL.run ft_value_ok [1] rfl rfl ?_
  refine TL.nil (X.seq (T.seq (T.block (T.seq (T.region rfl ?_)))))
  by_cases c4 : a0.fProducer < 0
  · replace h := ifT c4 h
    refine TL.rb ft_value_ok nt_value_ok 0 rfl 4 rfl rfl ?_
    refine TL.hv 7 rfl (decide_eq_true c4) ?_
    refine TL.rw ft_value_ok 32 rfl ?_
    refine TL.nil (X.seq ?_)
    refine T.yes rfl rfl ?_
    refine T.seq (T.region rfl ?_)
    refine TL.run ft_value_ok [0] rfl rfl ?_
    obtain rfl := Option.some.inj h
    exact TL.nil (X.seq (T.ret (X.rb (X.rs (X.done1 [1] Try.results47 (RV.tm rfl) ⟨rfl, rfl, rfl⟩ (by rfl) (.inl rfl))))))
  · replace h := ifF c4 h
    refine TL.rb ft_value_ok nt_value_ok 0 rfl 4 rfl rfl ?_
    refine TL.hv 7 rfl (decide_eq_false c4) ?_
    by_cases c5 : a0.fEpoch < 0
    · replace h := ifT c5 h
      refine TL.rb ft_value_ok nt_value_ok 0 rfl 5 rfl rfl ?_
      refine TL.hv 12 rfl (decide_eq_true c5) ?_
      refine TL.rw ft_value_ok 27 rfl ?_
      refine TL.nil (X.seq ?_)
      refine T.yes rfl rfl ?_
      refine T.seq (T.region rfl ?_)
      refine TL.run ft_value_ok [0] rfl rfl ?_
      obtain rfl := Option.some.inj h
      exact TL.nil (X.seq (T.ret (X.rb (X.rs (X.done1 [1] Try.results47 (RV.tm rfl) ⟨rfl, rfl, rfl⟩ (by rfl) (.inl rfl))))))
    · replace h := ifF c5 h
      refine TL.rb ft_value_ok nt_value_ok 0 rfl 5 rfl rfl ?_
      refine TL.hv 12 rfl (decide_eq_false c5) ?_
      obtain ⟨x6, hx7, h⟩ := Option.bind_eq_some_iff.1 h
      refine TL.rb ft_value_ok nt_value_ok 0 rfl 2 rfl rfl ?_
      refine TL.ce rfl (.g rfl rfl rfl) (.fn Try.call51 rfl) (SpecX.pure (fun w => gFits_spec a0.fEpoch 2 _ hx7 w)) (fun _ _ => RX.reads_triv _ _) rfl ?_
      by_cases c8 : x6 = true
      · replace h := ifT c8 h
        refine TL.rw ft_value_ok 3 rfl ?_
        refine TL.hv 18 rfl (bn_f c8) ?_
        by_cases c9 : a0.fTimeout < 0
        · replace h := ifT c9 h
          refine TL.rb ft_value_ok nt_value_ok 0 rfl 5 rfl rfl ?_
          refine TL.hv 23 rfl (decide_eq_true c9) ?_
          refine TL.rw ft_value_ok 16 rfl ?_
          refine TL.nil (X.seq ?_)
          refine T.yes rfl rfl ?_
          refine T.seq (T.region rfl ?_)
          refine TL.run ft_value_ok [0] rfl rfl ?_
          obtain rfl := Option.some.inj h
          exact TL.nil (X.seq (T.ret (X.rb (X.rs (X.done1 [1] Try.results47 (RV.tm rfl) ⟨rfl, rfl, rfl⟩ (by rfl) (.inl rfl))))))
        · replace h := ifF c9 h
          refine TL.rb ft_value_ok nt_value_ok 0 rfl 5 rfl rfl ?_
          refine TL.hv 23 rfl (decide_eq_false c9) ?_
          obtain ⟨x10, hx11, h⟩ := Option.bind_eq_some_iff.1 h
          refine TL.rb ft_value_ok nt_value_ok 0 rfl 2 rfl rfl ?_
          refine TL.ce rfl (.g rfl rfl rfl) (.fn Try.call51 rfl) (SpecX.pure (fun w => gFits_spec a0.fTimeout 4 _ hx11 w)) (fun _ _ => RX.reads_triv _ _) rfl ?_
          by_cases c12 : x10 = true
          · replace h := ifT c12 h
            refine TL.rw ft_value_ok 3 rfl ?_
            refine TL.hv 29 rfl (bn_f c12) ?_
            by_cases c13 : a0.fUpdated < 0
            · replace h := ifT c13 h
              refine TL.rb ft_value_ok nt_value_ok 0 rfl 5 rfl rfl ?_
              refine TL.hv 34 rfl (decide_eq_true c13) ?_
              refine TL.rw ft_value_ok 5 rfl ?_
              refine TL.nil (X.seq ?_)
              refine T.yes rfl rfl ?_
              refine T.seq (T.region rfl ?_)
              refine TL.run ft_value_ok [0] rfl rfl ?_
              obtain rfl := Option.some.inj h
              exact TL.nil (X.seq (T.ret (X.rb (X.rs (X.done1 [1] Try.results47 (RV.tm rfl) ⟨rfl, rfl, rfl⟩ (by rfl) (.inl rfl))))))
            · replace h := ifF c13 h
              refine TL.rb ft_value_ok nt_value_ok 0 rfl 5 rfl rfl ?_
              refine TL.hv 34 rfl (decide_eq_false c13) ?_
              refine TL.rb ft_value_ok nt_value_ok 0 rfl 5 rfl rfl ?_
              by_cases c14 : a0.fStarted < (-1)
              · replace h := ifT c14 h
                refine TL.nil (X.seq ?_)
                refine T.yes rfl (decide_eq_true c14) ?_
                refine T.seq (T.region rfl ?_)
                refine TL.run ft_value_ok [0] rfl rfl ?_
                obtain rfl := Option.some.inj h
                exact TL.nil (X.seq (T.ret (X.rb (X.rs (X.done1 [1] Try.results47 (RV.tm rfl) ⟨rfl, rfl, rfl⟩ (by rfl) (.inl rfl))))))
              · replace h := ifF c14 h
                refine TL.nil (X.seq ?_)
                refine T.no rfl (decide_eq_false c14) ?_
                refine T.seq (T.region rfl ?_)
                by_cases c15 : a0.fState < 0
                · replace h := ifT c15 h
                  refine TL.rb ft_value_ok nt_value_ok 0 rfl 4 rfl rfl ?_
                  refine TL.hv 43 rfl (decide_eq_true c15) ?_
                  refine TL.rw ft_value_ok 5 rfl ?_
                  refine TL.nil (X.seq ?_)
                  refine T.yes rfl rfl ?_
                  refine T.seq (T.region rfl ?_)
                  refine TL.run ft_value_ok [0] rfl rfl ?_
                  obtain rfl := Option.some.inj h
                  exact TL.nil (X.seq (T.ret (X.rb (X.rs (X.done1 [1] Try.results47 (RV.tm rfl) ⟨rfl, rfl, rfl⟩ (by rfl) (.inl rfl))))))
                · replace h := ifF c15 h
                  refine TL.rb ft_value_ok nt_value_ok 0 rfl 4 rfl rfl ?_
                  refine TL.hv 43 rfl (decide_eq_false c15) ?_
                  refine TL.rb ft_value_ok nt_value_ok 0 rfl 5 rfl rfl ?_
                  by_cases c16 : a0.fState ≥ 7
                  · replace h := ifT c16 h
                    refine TL.nil (X.seq ?_)
                    refine T.yes rfl (decide_eq_true c16) ?_
                    refine T.seq (T.region rfl ?_)
                    refine TL.run ft_value_ok [0] rfl rfl ?_
                    obtain rfl := Option.some.inj h
                    exact TL.nil (X.seq (T.ret (X.rb (X.rs (X.done1 [1] Try.results47 (RV.tm rfl) ⟨rfl, rfl, rfl⟩ (by rfl) (.inl rfl))))))
                  · replace h := ifF c16 h
                    refine TL.nil (X.seq ?_)
                    refine T.no rfl (decide_eq_false c16) ?_
                    refine T.seq (T.draw (.q 0 (.q 1 (.q 3 (.q 4 (.q 5 (.q 6 (.e 2 (.q 7 (.q 8 (.q 9 (.q 10 (.q 11 (.q 12 (.q 13 (.q 14 (.q 15 (.q 16 (.q 17 .nil)))))))))))))))))) [0, 0] rfl mix_value (NoP.seq (NoP.blk (NoP.seq np_post))) (by kernel_rfl) ?_)
                    refine TD.run ft_value_ok [0] rfl rfl ?_
                    refine TD.q rfl .u (Ex.b1 0 rfl Try.isAgg3 rfl rfl) rfl ?_
                    refine TD.run ft_value_ok [3] rfl rfl ?_
                    refine TD.q rfl .u (Ex.b1 0 rfl Try.isAgg22 rfl rfl) rfl ?_
                    refine TD.q rfl .u (Ex.lenS rfl Try.runUnderlying22) rfl ?_
                    obtain ⟨x17, hx18, h⟩ := Option.bind_eq_some_iff.1 h
                    refine TD.run ft_value_ok [6] rfl rfl ?_
                    refine TD.ce rfl .u (.fn Try.call68 rfl) (f_value_Idle_spec a0.fState _ hx18) (fun _ hs => (RX.reads_triv _ _)) rfl [0, 0] (rfl) ?_
                    by_cases c19 : x17 = true
                    · replace h := ifT c19 h
                      by_cases c20 : (a0.fTopics.length : Int) = 0
                      · replace h := ifT c20 h
                        refine TD.q rfl .u (Ex.bNe rfl c19 rfl (decide_eq_true c20) Try.runUnderlying4) rfl ?_
                        refine TD.run ft_value_ok [8] rfl rfl ?_
                        refine TD.q rfl (.g rfl rfl rfl) (Ex.ft ft_value_ok rfl) rfl ?_
                        refine TD.q rfl (.g rfl rfl rfl) (Ex.b1 0 rfl Try.isAgg3 rfl rfl) rfl ?_
                        refine TD.q rfl (.g rfl rfl rfl) (Ex.ft ft_value_ok rfl) rfl ?_
                        refine TD.q rfl (.g rfl rfl rfl) (Ex.ft ft_value_ok rfl) rfl ?_
                        refine TD.q rfl (.g rfl rfl rfl) (Ex.b1 0 rfl Try.isAgg3 rfl rfl) rfl ?_
                        refine TD.q rfl (.g rfl rfl rfl) (Ex.ft ft_value_ok rfl) rfl ?_
                        by_cases c21 : a0.fState = 0
                        · replace h := ifT c21 h
                          by_cases c22 : a0.fStarted = (-1)
                          · replace h := ifT c22 h
                            refine TD.q rfl (.g rfl rfl rfl) (Ex.bNe rfl (decide_eq_true c21) rfl (decide_eq_true c22) Try.runUnderlying4) rfl ?_
                            refine TD.q rfl .u (Ex.pn rfl rfl rfl) rfl ?_
                            refine TD.run ft_value_ok [17] rfl rfl ?_
                            refine TD.nil (X.seq ?_)
                            refine T.no rfl rfl ?_
                            refine T.seq (T.region rfl ?_)
                            obtain ⟨x23, hx24, h⟩ := Option.bind_eq_some_iff.1 h
                            refine TL.rb ft_value_ok nt_value_ok 0 rfl 2 rfl rfl ?_
                            refine TL.ce rfl .u (.fn Try.call69 rfl) (f_value_topics_spec a0.fTopics _ _ _ hx24) (fun _ hs => (SrcE.old hs hX)) rfl ?_
                            refine TL.run ft_value_ok [3, 4] rfl rfl ?_
                            by_cases c25 : x23 = true
                            · replace h := ifT c25 h
                              refine TL.nil (X.seq ?_)
                              refine T.no rfl (bn_f c25) ?_
                              refine T.skip (X.blk (X.seq (T.seq (T.region rfl ?_))))
                              refine TL.run ft_value_ok [0] rfl rfl ?_
                              obtain rfl := Option.some.inj h
                              exact TL.nil (X.seq (T.ret (X.done1 [1] Try.results47 (RV.tm rfl) ⟨rfl, rfl, rfl⟩ (by rfl) (.inl rfl))))
                            · replace h := ifF c25 h
                              replace c25 := eq_false_of_ne_true c25
                              refine TL.nil (X.seq ?_)
                              refine T.yes rfl (bn_t c25) ?_
                              refine T.seq (T.region rfl ?_)
                              refine TL.run ft_value_ok [0] rfl rfl ?_
                              obtain rfl := Option.some.inj h
                              exact TL.nil (X.seq (T.ret (X.rb (X.rs (X.done1 [1] Try.results47 (RV.tm rfl) ⟨rfl, rfl, rfl⟩ (by rfl) (.inl rfl))))))
                          · replace h := ifF c22 h
                            refine TD.q rfl (.g rfl rfl rfl) (Ex.bNe rfl (decide_eq_true c21) rfl (decide_eq_false c22) Try.runUnderlying4) rfl ?_
                            refine TD.q rfl .u (Ex.pn rfl rfl rfl) rfl ?_
                            refine TD.run ft_value_ok [17] rfl rfl ?_
                            refine TD.nil (X.seq ?_)
                            refine T.yes rfl rfl ?_
                            refine T.seq (T.region rfl ?_)
                            refine TL.run ft_value_ok [0] rfl rfl ?_
                            obtain rfl := Option.some.inj h
                            exact TL.nil (X.seq (T.ret (X.rb (X.rs (X.done1 [1] Try.results47 (RV.tm rfl) ⟨rfl, rfl, rfl⟩ (by rfl) (.inl rfl))))))
                        · replace h := ifF c21 h
                          by_cases c26 : a0.fStarted = (-1)
                          · replace h := ifT c26 h
                            refine TD.q rfl (.g rfl rfl rfl) (Ex.bNe rfl (decide_eq_false c21) rfl (decide_eq_true c26) Try.runUnderlying4) rfl ?_
                            refine TD.q rfl .u (Ex.pn rfl rfl rfl) rfl ?_
                            refine TD.run ft_value_ok [17] rfl rfl ?_
                            refine TD.nil (X.seq ?_)
                            refine T.yes rfl rfl ?_
                            refine T.seq (T.region rfl ?_)
                            refine TL.run ft_value_ok [0] rfl rfl ?_
                            obtain rfl := Option.some.inj h
                            exact TL.nil (X.seq (T.ret (X.rb (X.rs (X.done1 [1] Try.results47 (RV.tm rfl) ⟨rfl, rfl, rfl⟩ (by rfl) (.inl rfl))))))
                          · replace h := ifF c26 h
                            refine TD.q rfl (.g rfl rfl rfl) (Ex.bNe rfl (decide_eq_false c21) rfl (decide_eq_false c26) Try.runUnderlying4) rfl ?_
                            refine TD.q rfl .u (Ex.pn rfl rfl rfl) rfl ?_
                            refine TD.run ft_value_ok [17] rfl rfl ?_
                            refine TD.nil (X.seq ?_)
                            refine T.no rfl rfl ?_
                            refine T.seq (T.region rfl ?_)
                            obtain ⟨x27, hx28, h⟩ := Option.bind_eq_some_iff.1 h
                            refine TL.rb ft_value_ok nt_value_ok 0 rfl 2 rfl rfl ?_
                            refine TL.ce rfl .u (.fn Try.call69 rfl) (f_value_topics_spec a0.fTopics _ _ _ hx28) (fun _ hs => (SrcE.old hs hX)) rfl ?_
                            refine TL.run ft_value_ok [3, 4] rfl rfl ?_
                            by_cases c29 : x27 = true
                            · replace h := ifT c29 h
                              refine TL.nil (X.seq ?_)
                              refine T.no rfl (bn_f c29) ?_
                              refine T.skip (X.blk (X.seq (T.seq (T.region rfl ?_))))
                              refine TL.run ft_value_ok [0] rfl rfl ?_
                              obtain rfl := Option.some.inj h
                              exact TL.nil (X.seq (T.ret (X.done1 [1] Try.results47 (RV.tm rfl) ⟨rfl, rfl, rfl⟩ (by rfl) (.inl rfl))))
                            · replace h := ifF c29 h
                              replace c29 := eq_false_of_ne_true c29
                              refine TL.nil (X.seq ?_)
                              refine T.yes rfl (bn_t c29) ?_
                              refine T.seq (T.region rfl ?_)
                              refine TL.run ft_value_ok [0] rfl rfl ?_
                              obtain rfl := Option.some.inj h
                              exact TL.nil (X.seq (T.ret (X.rb (X.rs (X.done1 [1] Try.results47 (RV.tm rfl) ⟨rfl, rfl, rfl⟩ (by rfl) (.inl rfl))))))
                      · replace h := ifF c20 h
                        refine TD.q rfl .u (Ex.bNe rfl c19 rfl (decide_eq_false c20) Try.runUnderlying4) rfl ?_
                        refine TD.run ft_value_ok [8] rfl rfl ?_
                        refine TD.no rfl (.gn rfl rfl rfl) rfl ?_
                        refine TD.no rfl (.gn rfl rfl rfl) rfl ?_
                        refine TD.no rfl (.gn rfl rfl rfl) rfl ?_
                        refine TD.no rfl (.gn rfl rfl rfl) rfl ?_
                        refine TD.no rfl (.gn rfl rfl rfl) rfl ?_
                        refine TD.no rfl (.gn rfl rfl rfl) rfl ?_
                        refine TD.no rfl (.gn rfl rfl rfl) rfl ?_
                        refine TD.q rfl .u (Ex.py rfl rfl rfl) rfl ?_
                        refine TD.run ft_value_ok [17] rfl rfl ?_
                        refine TD.nil (X.seq ?_)
                        refine T.yes rfl rfl ?_
                        refine T.seq (T.region rfl ?_)
                        refine TL.run ft_value_ok [0] rfl rfl ?_
                        obtain rfl := Option.some.inj h
                        exact TL.nil (X.seq (T.ret (X.rb (X.rs (X.done1 [1] Try.results47 (RV.tm rfl) ⟨rfl, rfl, rfl⟩ (by rfl) (.inl rfl))))))
                    · replace h := ifF c19 h
                      replace c19 := eq_false_of_ne_true c19
                      by_cases c30 : (a0.fTopics.length : Int) = 0
                      · replace h := ifT c30 h
                        refine TD.q rfl .u (Ex.bNe rfl c19 rfl (decide_eq_true c30) Try.runUnderlying4) rfl ?_
                        refine TD.run ft_value_ok [8] rfl rfl ?_
                        refine TD.no rfl (.gn rfl rfl rfl) rfl ?_
                        refine TD.no rfl (.gn rfl rfl rfl) rfl ?_
                        refine TD.no rfl (.gn rfl rfl rfl) rfl ?_
                        refine TD.no rfl (.gn rfl rfl rfl) rfl ?_
                        refine TD.no rfl (.gn rfl rfl rfl) rfl ?_
                        refine TD.no rfl (.gn rfl rfl rfl) rfl ?_
                        refine TD.no rfl (.gn rfl rfl rfl) rfl ?_
                        refine TD.q rfl .u (Ex.py rfl rfl rfl) rfl ?_
                        refine TD.run ft_value_ok [17] rfl rfl ?_
                        refine TD.nil (X.seq ?_)
                        refine T.yes rfl rfl ?_
                        refine T.seq (T.region rfl ?_)
                        refine TL.run ft_value_ok [0] rfl rfl ?_
                        obtain rfl := Option.some.inj h
                        exact TL.nil (X.seq (T.ret (X.rb (X.rs (X.done1 [1] Try.results47 (RV.tm rfl) ⟨rfl, rfl, rfl⟩ (by rfl) (.inl rfl))))))
                      · replace h := ifF c30 h
                        refine TD.q rfl .u (Ex.bNe rfl c19 rfl (decide_eq_false c30) Try.runUnderlying4) rfl ?_
                        refine TD.run ft_value_ok [8] rfl rfl ?_
                        refine TD.q rfl (.g rfl rfl rfl) (Ex.ft ft_value_ok rfl) rfl ?_
                        refine TD.q rfl (.g rfl rfl rfl) (Ex.b1 0 rfl Try.isAgg3 rfl rfl) rfl ?_
                        refine TD.q rfl (.g rfl rfl rfl) (Ex.ft ft_value_ok rfl) rfl ?_
                        refine TD.q rfl (.g rfl rfl rfl) (Ex.ft ft_value_ok rfl) rfl ?_
                        refine TD.q rfl (.g rfl rfl rfl) (Ex.b1 0 rfl Try.isAgg3 rfl rfl) rfl ?_
                        refine TD.q rfl (.g rfl rfl rfl) (Ex.ft ft_value_ok rfl) rfl ?_
                        by_cases c31 : a0.fState = 0
                        · replace h := ifT c31 h
                          by_cases c32 : a0.fStarted = (-1)
                          · replace h := ifT c32 h
                            refine TD.q rfl (.g rfl rfl rfl) (Ex.bNe rfl (decide_eq_true c31) rfl (decide_eq_true c32) Try.runUnderlying4) rfl ?_
                            refine TD.q rfl .u (Ex.pn rfl rfl rfl) rfl ?_
                            refine TD.run ft_value_ok [17] rfl rfl ?_
                            refine TD.nil (X.seq ?_)
                            refine T.no rfl rfl ?_
                            refine T.seq (T.region rfl ?_)
                            obtain ⟨x33, hx34, h⟩ := Option.bind_eq_some_iff.1 h
                            refine TL.rb ft_value_ok nt_value_ok 0 rfl 2 rfl rfl ?_
                            refine TL.ce rfl .u (.fn Try.call69 rfl) (f_value_topics_spec a0.fTopics _ _ _ hx34) (fun _ hs => (SrcE.old hs hX)) rfl ?_
                            refine TL.run ft_value_ok [3, 4] rfl rfl ?_
                            by_cases c35 : x33 = true
                            · replace h := ifT c35 h
                              refine TL.nil (X.seq ?_)
                              refine T.no rfl (bn_f c35) ?_
                              refine T.skip (X.blk (X.seq (T.seq (T.region rfl ?_))))
                              refine TL.run ft_value_ok [0] rfl rfl ?_
                              obtain rfl := Option.some.inj h
                              exact TL.nil (X.seq (T.ret (X.done1 [1] Try.results47 (RV.tm rfl) ⟨rfl, rfl, rfl⟩ (by rfl) (.inl rfl))))
                            · replace h := ifF c35 h
                              replace c35 := eq_false_of_ne_true c35
                              refine TL.nil (X.seq ?_)
                              refine T.yes rfl (bn_t c35) ?_
                              refine T.seq (T.region rfl ?_)
                              refine TL.run ft_value_ok [0] rfl rfl ?_
                              obtain rfl := Option.some.inj h
                              exact TL.nil (X.seq (T.ret (X.rb (X.rs (X.done1 [1] Try.results47 (RV.tm rfl) ⟨rfl, rfl, rfl⟩ (by rfl) (.inl rfl))))))
                          · replace h := ifF c32 h
                            refine TD.q rfl (.g rfl rfl rfl) (Ex.bNe rfl (decide_eq_true c31) rfl (decide_eq_false c32) Try.runUnderlying4) rfl ?_
                            refine TD.q rfl .u (Ex.pn rfl rfl rfl) rfl ?_
                            refine TD.run ft_value_ok [17] rfl rfl ?_
                            refine TD.nil (X.seq ?_)
                            refine T.yes rfl rfl ?_
                            refine T.seq (T.region rfl ?_)
                            refine TL.run ft_value_ok [0] rfl rfl ?_
                            obtain rfl := Option.some.inj h
                            exact TL.nil (X.seq (T.ret (X.rb (X.rs (X.done1 [1] Try.results47 (RV.tm rfl) ⟨rfl, rfl, rfl⟩ (by rfl) (.inl rfl))))))
                        · replace h := ifF c31 h
                          by_cases c36 : a0.fStarted = (-1)
                          · replace h := ifT c36 h
                            refine TD.q rfl (.g rfl rfl rfl) (Ex.bNe rfl (decide_eq_false c31) rfl (decide_eq_true c36) Try.runUnderlying4) rfl ?_
                            refine TD.q rfl .u (Ex.pn rfl rfl rfl) rfl ?_
                            refine TD.run ft_value_ok [17] rfl rfl ?_
                            refine TD.nil (X.seq ?_)
                            refine T.yes rfl rfl ?_
                            refine T.seq (T.region rfl ?_)
                            refine TL.run ft_value_ok [0] rfl rfl ?_
                            obtain rfl := Option.some.inj h
                            exact TL.nil (X.seq (T.ret (X.rb (X.rs (X.done1 [1] Try.results47 (RV.tm rfl) ⟨rfl, rfl, rfl⟩ (by rfl) (.inl rfl))))))
                          · replace h := ifF c36 h
                            refine TD.q rfl (.g rfl rfl rfl) (Ex.bNe rfl (decide_eq_false c31) rfl (decide_eq_false c36) Try.runUnderlying4) rfl ?_
                            refine TD.q rfl .u (Ex.pn rfl rfl rfl) rfl ?_
                            refine TD.run ft_value_ok [17] rfl rfl ?_
                            refine TD.nil (X.seq ?_)
                            refine T.no rfl rfl ?_
                            refine T.seq (T.region rfl ?_)
                            obtain ⟨x37, hx38, h⟩ := Option.bind_eq_some_iff.1 h
                            refine TL.rb ft_value_ok nt_value_ok 0 rfl 2 rfl rfl ?_
                            refine TL.ce rfl .u (.fn Try.call69 rfl) (f_value_topics_spec a0.fTopics _ _ _ hx38) (fun _ hs => (SrcE.old hs hX)) rfl ?_
                            refine TL.run ft_value_ok [3, 4] rfl rfl ?_
                            by_cases c39 : x37 = true
                            · replace h := ifT c39 h
                              refine TL.nil (X.seq ?_)
                              refine T.no rfl (bn_f c39) ?_
                              refine T.skip (X.blk (X.seq (T.seq (T.region rfl ?_))))
                              refine TL.run ft_value_ok [0] rfl rfl ?_
                              obtain rfl := Option.some.inj h
                              exact TL.nil (X.seq (T.ret (X.done1 [1] Try.results47 (RV.tm rfl) ⟨rfl, rfl, rfl⟩ (by rfl) (.inl rfl))))
                            · replace h := ifF c39 h
                              replace c39 := eq_false_of_ne_true c39
                              refine TL.nil (X.seq ?_)
                              refine T.yes rfl (bn_t c39) ?_
                              refine T.seq (T.region rfl ?_)
                              refine TL.run ft_value_ok [0] rfl rfl ?_
                              obtain rfl := Option.some.inj h
                              exact TL.nil (X.seq (T.ret (X.rb (X.rs (X.done1 [1] Try.results47 (RV.tm rfl) ⟨rfl, rfl, rfl⟩ (by rfl) (.inl rfl))))))
          · replace h := ifF c12 h
            replace c12 := eq_false_of_ne_true c12
            refine TL.rw ft_value_ok 3 rfl ?_
            refine TL.hv 29 rfl (bn_t c12) ?_
            refine TL.rw ft_value_ok 10 rfl ?_
            refine TL.nil (X.seq ?_)
            refine T.yes rfl rfl ?_
            refine T.seq (T.region rfl ?_)
            refine TL.run ft_value_ok [0] rfl rfl ?_
            obtain rfl := Option.some.inj h
            exact TL.nil (X.seq (T.ret (X.rb (X.rs (X.done1 [1] Try.results47 (RV.tm rfl) ⟨rfl, rfl, rfl⟩ (by rfl) (.inl rfl))))))
      · replace h := ifF c8 h
        replace c8 := eq_false_of_ne_true c8
        refine TL.rw ft_value_ok 3 rfl ?_
        refine TL.hv 18 rfl (bn_t c8) ?_
        refine TL.rw ft_value_ok 21 rfl ?_
        refine TL.nil (X.seq ?_)
        refine T.yes rfl rfl ?_
        refine T.seq (T.region rfl ?_)
        refine TL.run ft_value_ok [0] rfl rfl ?_
        obtain rfl := Option.some.inj h
        exact TL.nil (X.seq (T.ret (X.rb (X.rs (X.done1 [1] Try.results47 (RV.tm rfl) ⟨rfl, rfl, rfl⟩ (by rfl) (.inl rfl))))))
def f_value_PutTopics_l2 : List Int → (List UInt8 × Int) → Option (List UInt8 × Int)
  | [], st24 => some st24
  | x29 :: xs, st24 => (gOInt st24 x29 4).bind fun st33 => f_value_PutTopics_l2 xs st33
def f_value_PutTopics_l1 : List Top → (List UInt8 × Int) → Option (List UInt8 × Int)
  | [], st6 => some st6
  | x11 :: xs, st6 => (gPutText st6 x11.fName).bind fun st19 => (gOInt st19 (x11.fParts.length : Int) 4).bind fun st21 => (f_value_PutTopics_l2 x11.fParts st21).bind fun st36 => f_value_PutTopics_l1 xs st36
def f_value_PutTopics (st : List UInt8 × Int) (a1 : List Top) : Option (List UInt8 × Int) := (gOInt st (a1.length : Int) 4).bind fun st3 => (f_value_PutTopics_l1 a1 st3).bind fun st38 => some st38
set_option maxRecDepth 100000 in
set_option maxHeartbeats 4000000 in
theorem f_value_PutTopics_spec (g : Nat) (st : List UInt8 × Int) (a1 : List Top) (A1 : Option Addr) (c2 : Nat) (r : List UInt8 × Int) (h : f_value_PutTopics st a1 = some r) : SpecX Try.prog 50 #[.pointer (some ⟨g, 0, none⟩), .slice A1 a1.length c2] (RX.of (sliceRd 2 Top_rd) [.slice A1 a1.length c2] a1) (OutR g st) (fun v A' N => v = .tuple #[] ∧ A' = OutR g r ∧ N = []) := by
  refine enterA Try.func50 rfl Try.ntmps50 rfl ?_
  intro F w hX
  unfold f_value_PutTopics at h
  refine T.seq (T.region rfl ?_)
  refine TL.run ft_value_ok [0, 1] rfl rfl ?_
  refine TL.q rfl .u (Ex.lenS rfl Try.runUnderlying22) rfl ?_
  obtain ⟨st3, hx4, h⟩ := Option.bind_eq_some_iff.1 h
  refine TL.c0 rfl .u (.fn Try.call30 rfl) (gOInt_spec g st (a1.length : Int) 4 _ hx4) (fun _ hs => (Src.triv _)) rfl ?_
  refine TL.nil (X.seq (T.seq (T.region rfl ?_)))
  refine TL.run ft_value_ok [0] rfl rfl ?_
  refine TL.q rfl .u (Ex.lenS rfl Try.runUnderlying22) rfl ?_
  refine TL.run ft_value_ok [2] rfl rfl ?_
  refine TL.nil (X.seq (T.block ?_))
  obtain ⟨E7, hE8, hO9⟩ := Option.bind_eq_some_iff.1 h
  have hk13len := RX.len_le hX
  refine T.lp (fun m e Rs => ∃ (k5 : Nat) (st6 : List UInt8 × Int), k5 + m = a1.length ∧ e = [(0, .pointer (some ⟨g, 0, none⟩)), (12, .slice A1 a1.length c2), (13, .int .i64 (a1.length : Int)), (14, .int .i64 (k5 : Int))] ∧ Rs = [OutR g st6] ∧ f_value_PutTopics_l1 (a1.drop k5) st6 = some E7) (a1.length) [0] ⟨0, st3, by simp, rfl, rfl, by rw [List.drop_zero]; exact hE8⟩ (by rfl) (by rfl) ?_
  rintro m10 _ _ ⟨k5, st6, hk13, rfl, rfl, hl12⟩
  clear hE8 h
  cases m10 with
  | zero =>
    have h := hl12
    clear hl12
    rw [List.drop_of_length_le (by omega), f_value_PutTopics_l1] at h
    have hk13ge : ¬ ((k5 : Int) < (a1.length : Int)) := by omega
    refine T.seq (T.region rfl ?_)
    refine TL.run ft_value_ok [0] rfl rfl ?_
    refine TL.nil (X.seq (T.seq ?_))
    refine T.no rfl (decide_eq_false hk13ge) ?_
    obtain rfl := Option.some.inj h
    replace h := hO9
    clear hO9
    try dsimp only at h
    obtain rfl := Option.some.inj h
    exact T.exit (X.exs (X.exs (X.ex (X.done0 [0] Try.results50 ⟨rfl, rfl, rfl⟩ (by rfl) (.inr rfl)))))
  | succ m10 =>
    have h := hl12
    clear hl12
    obtain ⟨x11, hxx11⟩ : ∃ x, a1[k5]? = some x := ⟨_, List.getElem?_eq_getElem (by omega)⟩
    rw [drop_cons hxx11, f_value_PutTopics_l1] at h
    have hk13lt : (k5 : Int) < (a1.length : Int) := by omega
    refine T.seq (T.region rfl ?_)
    refine TL.run ft_value_ok [0] rfl rfl ?_
    refine TL.nil (X.seq (T.seq ?_))
    refine T.yes rfl (decide_eq_true hk13lt) ?_
    obtain ⟨gz14, oz14, rfl, z14cs, z14cl, z14cc, z14nf, z14r⟩ := RX.elem (by decide) hX hxx11
    obtain ⟨z14S, z14r, z14rr⟩ := z14r
    obtain ⟨A15, c16, rfl, z14s0⟩ := z14r
    have hX17 : (RX.of (sliceRd 1 intE) [.slice A15 x11.fParts.length c16] x11.fParts).reads w F := ⟨z14S, z14s0, z14rr⟩
    refine T.skip (X.seq (T.seq (T.block (T.seq (T.region rfl ?_)))))
    refine TL.q rfl .u (Ex.ixS (k := k5) rfl rfl rfl Try.runUnderlying22 Try.sizeOf46 (List.getElem?_eq_some_iff.1 hxx11).1) rfl ?_
    refine TL.q rfl .u (Ex.oS (us := [.string (bsOf x11.fName), .slice A15 x11.fParts.length c16]) 0 rfl Try.isAgg46 Try.sizeOf46 z14nf z14cc rfl rfl rfl) rfl ?_
    refine TL.alloc rfl .u Try.zeroValue46 rfl (fun b18 => ?_)
    refine TL.st0 (cs' := #[.string (bsOf x11.fName), .slice A15 x11.fParts.length c16]) rfl .u rfl rfl Try.sizeOf46 rfl rfl rfl rfl ?_
    refine TL.nil (X.seq (T.seq (T.region rfl ?_)))
    obtain ⟨st19, hx20, h⟩ := Option.bind_eq_some_iff.1 h
    refine TL.rb ft_value_ok nt_value_ok 0 rfl 3 rfl rfl ?_
    refine TL.c1 rfl .u (.fn Try.call31 rfl) (gPutText_spec g st6 x11.fName _ hx20) (fun _ hs => (Src.triv _)) rfl ?_
    refine TL.nil (X.seq (T.seq (T.region rfl ?_)))
    refine TL.rb ft_value_ok nt_value_ok 0 rfl 3 rfl rfl ?_
    refine TL.q rfl .u (Ex.lenS rfl Try.runUnderlying44) rfl ?_
    obtain ⟨st21, hx22, h⟩ := Option.bind_eq_some_iff.1 h
    refine TL.c1 rfl .u (.fn Try.call30 rfl) (gOInt_spec g st19 (x11.fParts.length : Int) 4 _ hx22) (fun _ hs => (Src.triv _)) rfl ?_
    refine TL.nil (X.seq (T.seq (T.region rfl ?_)))
    refine TL.rb ft_value_ok nt_value_ok 0 rfl 2 rfl rfl ?_
    refine TL.q rfl .u (Ex.lenS rfl Try.runUnderlying44) rfl ?_
    refine TL.run ft_value_ok [3] rfl rfl ?_
    refine TL.nil (X.seq (T.block ?_))
    obtain ⟨E25, hE26, hO27⟩ := Option.bind_eq_some_iff.1 h
    have hk31len := RX.len_le hX17
    refine T.lp (fun m e Rs => ∃ (k23 : Nat) (st24 : List UInt8 × Int), k23 + m = x11.fParts.length ∧ e = [(0, .pointer (some ⟨g, 0, none⟩)), (12, .slice (some ⟨gz14, oz14, none⟩) a1.length c2), (13, .int .i64 (a1.length : Int)), (14, .int .i64 (k5 : Int)), (28, .slice A15 x11.fParts.length c16), (29, .int .i64 (x11.fParts.length : Int)), (30, .int .i64 (k23 : Int))] ∧ Rs = [BlkR b18 46 #[.string (bsOf x11.fName), .slice A15 x11.fParts.length c16], OutR g st24] ∧ f_value_PutTopics_l2 (x11.fParts.drop k23) st24 = some E25) (x11.fParts.length) [0, 0] ⟨0, st21, by simp, rfl, rfl, by rw [List.drop_zero]; exact hE26⟩ (by rfl) (by rfl) ?_
    rintro m28 _ _ ⟨k23, st24, hk31, rfl, rfl, hl30⟩
    clear hE26 h
    cases m28 with
    | zero =>
      have h := hl30
      clear hl30
      rw [List.drop_of_length_le (by omega), f_value_PutTopics_l2] at h
      have hk31ge : ¬ ((k23 : Int) < (x11.fParts.length : Int)) := by omega
      refine T.seq (T.region rfl ?_)
      refine TL.run ft_value_ok [0] rfl rfl ?_
      refine TL.nil (X.seq (T.seq ?_))
      refine T.no rfl (decide_eq_false hk31ge) ?_
      obtain rfl := Option.some.inj h
      replace h := hO27
      clear hO27
      try dsimp only at h
      refine T.exit (X.exs (X.exs (X.ex (X.blk (X.seq (T.region rfl ?_))))))
      refine TL.q rfl .u (Ex.add rfl rfl (by omega)) rfl ?_
      refine TL.run ft_value_ok [1] rfl rfl ?_
      exact TL.nil (X.back (m' := m10) [1] (by omega) ⟨k5 + 1, st24, by omega, rfl, rfl, h⟩ (by rfl) (by rfl))
    | succ m28 =>
      have h := hl30
      clear hl30
      obtain ⟨x29, hxx29⟩ : ∃ x, x11.fParts[k23]? = some x := ⟨_, List.getElem?_eq_getElem (by omega)⟩
      rw [drop_cons hxx29, f_value_PutTopics_l2] at h
      have hk31lt : (k23 : Int) < (x11.fParts.length : Int) := by omega
      refine T.seq (T.region rfl ?_)
      refine TL.run ft_value_ok [0] rfl rfl ?_
      refine TL.nil (X.seq (T.seq ?_))
      refine T.yes rfl (decide_eq_true hk31lt) ?_
      obtain ⟨gz32, oz32, rfl, z32cs, z32cl, z32cc, z32nf, z32r⟩ := RX.elem (by decide) hX17 hxx29
      obtain ⟨z32S, z32r, z32rr⟩ := z32r
      obtain rfl : z32cs = [.int .i64 x29] := z32r
      refine T.skip (X.seq (T.seq (T.block (T.seq (T.region rfl ?_)))))
      refine TL.q rfl .u (Ex.ixS (k := k23) rfl rfl rfl Try.runUnderlying44 Try.sizeOf3 (List.getElem?_eq_some_iff.1 hxx29).1) rfl ?_
      refine TL.q rfl .u (Ex.o1 0 rfl Try.isAgg3 z32nf z32cc rfl rfl) rfl ?_
      refine TL.run ft_value_ok [2] rfl rfl ?_
      refine TL.nil (X.seq (T.region rfl ?_))
      obtain ⟨st33, hx34, h⟩ := Option.bind_eq_some_iff.1 h
      refine TL.run ft_value_ok [0, 1] rfl rfl ?_
      refine TL.c1 rfl .u (.fn Try.call30 rfl) (gOInt_spec g st24 x29 4 _ hx34) (fun _ hs => (Src.triv _)) rfl ?_
      refine TL.nil (X.blk (X.seq (T.region rfl ?_)))
      refine TL.q rfl .u (Ex.add rfl rfl (by omega)) rfl ?_
      refine TL.run ft_value_ok [1] rfl rfl ?_
      exact TL.nil (X.back (m' := m28) [0, 0] (by omega) ⟨k23 + 1, st33, by omega, rfl, rfl, h⟩ (by rfl) (by rfl))
def f_value_Encode (a0 : Val) : Option (List UInt8 × Int) := (f_value_Check a0).bind fun x4 => if x4 = 0 then ((gOInt ([], 0) 0 2).bind fun st8 => (gOInt st8 a0.fProducer 8).bind fun st10 => (gOInt st10 a0.fEpoch 2).bind fun st12 => (gOInt st12 a0.fTimeout 4).bind fun st14 => (gOInt st14 a0.fState 1).bind fun st16 => (f_value_PutTopics st16 a0.fTopics).bind fun st18 => (gOInt st18 a0.fUpdated 8).bind fun st20 => (gOInt st20 a0.fStarted 8).bind fun st22 => (gOText st22).bind fun (x24, x25, st26) => some (x24, x25)) else some ([], x4)
set_option maxRecDepth 100000 in
set_option maxHeartbeats 4000000 in
theorem f_value_Encode_spec (a0 : Val) (A1 : Option Addr) (c2 : Nat) (r : List UInt8 × Int) (h : f_value_Encode a0 = some r) : SpecX Try.prog 26 #[.agg #[.int .i64 a0.fProducer, .int .i64 a0.fEpoch, .int .i64 a0.fTimeout, .int .i64 a0.fState, .slice A1 a0.fTopics.length c2, .int .i64 a0.fUpdated, .int .i64 a0.fStarted]] (RX.of (sliceRd 2 Top_rd) [.slice A1 a0.fTopics.length c2] a0.fTopics) (EmpR) (fun v A' N => v = .tuple #[.string (bsOf r.1), .int .i64 r.2] ∧ A' = EmpR ∧ N = []) := by
  refine enterA Try.func26 rfl Try.ntmps26 rfl ?_
  intro F w hX
  unfold f_value_Encode at h
  refine T.seq (T.region rfl ?_)
  refine TL.box rfl .u rfl rfl (fun b3 => ?_)
  refine TL.run ft_value_ok [1, 2] rfl rfl ?_
  refine TL.nil (X.seq (T.seq (T.seq (T.region rfl ?_))))
  refine TL.q rfl .u (Ex.bS (us := [.int .i64 a0.fProducer, .int .i64 a0.fEpoch, .int .i64 a0.fTimeout, .int .i64 a0.fState, .slice A1 a0.fTopics.length c2, .int .i64 a0.fUpdated, .int .i64 a0.fStarted]) 0 rfl Try.isAgg24 Try.sizeOf24 rfl rfl rfl) rfl ?_
  obtain ⟨x4, hx5, h⟩ := Option.bind_eq_some_iff.1 h
  refine TL.ce rfl .u (.fn Try.call47 rfl) (f_value_Check_spec a0 _ _ _ hx5) (fun _ hs => (SrcE.old hs hX)) rfl ?_
  refine TL.run ft_value_ok [2] rfl rfl ?_
  refine TL.nil (X.seq (T.seq (T.region rfl ?_)))
  refine TL.run ft_value_ok [0, 1] rfl rfl ?_
  by_cases c6 : x4 = 0
  · replace h := ifT c6 h
    refine TL.nil (X.seq ?_)
    refine T.no rfl (bn_f (decide_eq_true c6)) ?_
    refine T.skip (X.seq (T.seq (T.region rfl ?_)))
    refine TL.newout rfl .u Try.zeroValue73 rfl (fun b7 => ?_)
    obtain ⟨st8, hx9, h⟩ := Option.bind_eq_some_iff.1 h
    refine TL.nil (X.seq (T.seq (T.region rfl ?_)))
    refine TL.c0 rfl .u (.fn Try.call30 rfl) (gOInt_spec b7 ([], 0) 0 2 _ hx9) (fun _ hs => (Src.triv _)) rfl ?_
    refine TL.nil (X.seq (T.seq (T.region rfl ?_)))
    obtain ⟨st10, hx11, h⟩ := Option.bind_eq_some_iff.1 h
    refine TL.rb ft_value_ok nt_value_ok 1 rfl 2 rfl rfl ?_
    refine TL.c0 rfl .u (.fn Try.call30 rfl) (gOInt_spec b7 st8 a0.fProducer 8 _ hx11) (fun _ hs => (Src.triv _)) rfl ?_
    refine TL.nil (X.seq (T.seq (T.region rfl ?_)))
    obtain ⟨st12, hx13, h⟩ := Option.bind_eq_some_iff.1 h
    refine TL.rb ft_value_ok nt_value_ok 1 rfl 2 rfl rfl ?_
    refine TL.c0 rfl .u (.fn Try.call30 rfl) (gOInt_spec b7 st10 a0.fEpoch 2 _ hx13) (fun _ hs => (Src.triv _)) rfl ?_
    refine TL.nil (X.seq (T.seq (T.region rfl ?_)))
    obtain ⟨st14, hx15, h⟩ := Option.bind_eq_some_iff.1 h
    refine TL.rb ft_value_ok nt_value_ok 1 rfl 2 rfl rfl ?_
    refine TL.c0 rfl .u (.fn Try.call30 rfl) (gOInt_spec b7 st12 a0.fTimeout 4 _ hx15) (fun _ hs => (Src.triv _)) rfl ?_
    refine TL.nil (X.seq (T.seq (T.region rfl ?_)))
    obtain ⟨st16, hx17, h⟩ := Option.bind_eq_some_iff.1 h
    refine TL.rb ft_value_ok nt_value_ok 1 rfl 2 rfl rfl ?_
    refine TL.c0 rfl .u (.fn Try.call30 rfl) (gOInt_spec b7 st14 a0.fState 1 _ hx17) (fun _ hs => (Src.triv _)) rfl ?_
    refine TL.nil (X.seq (T.seq (T.region rfl ?_)))
    obtain ⟨st18, hx19, h⟩ := Option.bind_eq_some_iff.1 h
    refine TL.rb ft_value_ok nt_value_ok 1 rfl 2 rfl rfl ?_
    refine TL.c0 rfl .u (.fn Try.call50 rfl) (f_value_PutTopics_spec b7 st16 a0.fTopics _ _ _ hx19) (fun _ hs => (Src.old hs hX)) rfl ?_
    refine TL.nil (X.seq (T.seq (T.region rfl ?_)))
    obtain ⟨st20, hx21, h⟩ := Option.bind_eq_some_iff.1 h
    refine TL.rb ft_value_ok nt_value_ok 1 rfl 2 rfl rfl ?_
    refine TL.c0 rfl .u (.fn Try.call30 rfl) (gOInt_spec b7 st18 a0.fUpdated 8 _ hx21) (fun _ hs => (Src.triv _)) rfl ?_
    refine TL.nil (X.seq (T.seq (T.region rfl ?_)))
    obtain ⟨st22, hx23, h⟩ := Option.bind_eq_some_iff.1 h
    refine TL.rb ft_value_ok nt_value_ok 1 rfl 2 rfl rfl ?_
    refine TL.c0 rfl .u (.fn Try.call30 rfl) (gOInt_spec b7 st20 a0.fStarted 8 _ hx23) (fun _ hs => (Src.triv _)) rfl ?_
    obtain ⟨⟨x24, x25, st26⟩, hx27, h⟩ := Option.bind_eq_some_iff.1 h
    try dsimp only at h
    refine TL.nil (X.seq (T.seq (T.region rfl ?_)))
    refine TL.c0 rfl .u (.fn Try.call32 rfl) (gOText_spec b7 st22 _ hx27) (fun _ hs => (Src.triv _)) rfl ?_
    refine TL.run ft_value_ok [1, 2, 3, 4] rfl rfl ?_
    obtain rfl := Option.some.inj h
    exact TL.nil (X.seq (T.ret (X.done2 [2] Try.results26 (RV.tm rfl) (RV.tm rfl) ⟨rfl, rfl, rfl⟩ (by rfl) (.inl rfl))))
  · replace h := ifF c6 h
    refine TL.nil (X.seq ?_)
    refine T.yes rfl (bn_t (decide_eq_false c6)) ?_
    refine T.seq (T.region rfl ?_)
    refine TL.run ft_value_ok [0, 1, 2] rfl rfl ?_
    obtain rfl := Option.some.inj h
    exact TL.nil (X.seq (T.ret (X.rs (X.done2 [1] Try.results26 (RV.tm rfl) (RV.tm rfl) ⟨rfl, rfl, rfl⟩ (by rfl) (.inl rfl)))))
def f_value_Topics_l2 (x24 : Int) : Nat → Nat → List Int → I → Option (Nat × List Int × I)
  | 0, _, _, _ => none
  | m35 + 1, k27, y28, st31 => if (k27 : Int) < x24 then ((gInt st31 4).bind fun (x40, st41) => if (y28.length + 1) * 8 ≤ 140737488355328 then (if -9223372036854775808 ≤ ((k27 : Int) + 1) ∧ ((k27 : Int) + 1) ≤ 9223372036854775807 then (f_value_Topics_l2 x24 m35 (k27 + 1) (y28 ++ [x40]) st41) else none) else none) else some (k27, y28, st31)
def f_value_Topics_l1 (x1 : Int) : Nat → List Top → List Top → Nat → I → Option (Lp (List Top × I) (List Top × List Top × Nat × I))
  | 0, _, _, _, _ => none
  | m15 + 1, y4, y7, k10, st11 => if (k10 : Int) < x1 then ((gText st11).bind fun (x20, st21) => (gCount st21 4 4).bind fun (x24, st25) => (f_value_Topics_l2 x24 ((x24).toNat + 1) 0 [] st25).bind fun (k57, y58, st61) => if (y7.length + 1) * 40 ≤ 140737488355328 then ((gErr st61).bind fun (x66, st67) => if x66 = 0 then (if -9223372036854775808 ≤ ((k10 : Int) + 1) ∧ ((k10 : Int) + 1) ≤ 9223372036854775807 then (f_value_Topics_l1 x1 m15 y4 (y7 ++ [(⟨x20, y58⟩ : Top)]) (k10 + 1) st67) else none) else (some (Lp.ret ([], st67)))) else none) else (some (Lp.go (y4, y7, k10, st11)))
def f_value_Topics (st : I)  : Option (List Top × I) := (gCount st 4 6).bind fun (x1, st2) => (f_value_Topics_l1 x1 ((x1).toNat + 1) [] [] 0 st2).bind fun e => match e with | .ret r => some r | .go (y71, y74, k77, st78) => some (y74, st78)
set_option maxRecDepth 100000 in
set_option maxHeartbeats 4000000 in
theorem f_value_Topics_spec (g : Nat) (st : I)  (r : List Top × I) (h : f_value_Topics st  = some r) : SpecX Try.prog 46 #[.pointer (some ⟨g, 0, none⟩)] .triv (InR g st) (fun v A' N => ∃ (A79 : Option Addr) (c80 : Nat), v = .slice A79 r.1.length c80 ∧ A' = InR g r.2 ∧ N = [RdR (sliceRd 2 Top_rd) [.slice A79 r.1.length c80] r.1]) := by
  refine enterA Try.func46 rfl Try.ntmps46 rfl ?_
  intro F w hX
  unfold f_value_Topics at h
  refine T.seq (T.region rfl ?_)
  refine TL.run ft_value_ok [0] rfl rfl ?_
  refine TL.nil (X.seq (T.seq (T.region rfl ?_)))
  refine TL.run ft_value_ok [0] rfl rfl ?_
  refine TL.nil (X.seq (T.seq (T.seq (T.region rfl ?_))))
  obtain ⟨⟨x1, st2⟩, hx3, h⟩ := Option.bind_eq_some_iff.1 h
  try dsimp only at h
  refine TL.run ft_value_ok [0] rfl rfl ?_
  refine TL.c0 rfl .u (.fn Try.call66 rfl) (gCount_spec g st 4 6 _ hx3) (fun _ hs => (Src.triv _)) rfl ?_
  refine TL.run ft_value_ok [2] rfl rfl ?_
  refine TL.nil (X.seq (T.block ?_))
  refine T.nilrow 46 2 Top_rd ?_
  refine T.nilrow 46 2 Top_rd ?_
  obtain ⟨E12, hE13, hO14⟩ := Option.bind_eq_some_iff.1 h
  refine T.lp (fun m e Rs => ∃ (y4 : List Top) (A5 : Option Addr) (c6 : Nat) (y7 : List Top) (A8 : Option Addr) (c9 : Nat) (k10 : Nat) (st11 : I), e = [(0, .pointer (some ⟨g, 0, none⟩)), (2, .slice A5 y4.length c6), (3, .slice A8 y7.length c9), (6, .int .i64 x1), (7, .int .i64 (k10 : Int))] ∧ Rs = [OwnR 46 2 Top_rd (.slice A5 y4.length c6) y4, OwnR 46 2 Top_rd (.slice A8 y7.length c9) y7, InR g st11] ∧ f_value_Topics_l1 x1 m y4 y7 k10 st11 = some E12) ((x1).toNat + 1) [0, 0, 0] ⟨[], none, 0, [], none, 0, 0, st2, rfl, rfl, by exact hE13⟩ (by rfl) (by rfl) ?_
  rintro m15 _ _ ⟨y4, A5, c6, y7, A8, c9, k10, st11, rfl, rfl, hl17⟩
  clear hE13 h
  cases m15 with
  | zero =>
    rw [f_value_Topics_l1] at hl17
    cases hl17
  | succ m15 =>
    have h := hl17
    clear hl17
    rw [f_value_Topics_l1] at h
    refine T.seq (T.region rfl ?_)
    refine TL.run ft_value_ok [0] rfl rfl ?_
    by_cases c19 : (k10 : Int) < x1
    · replace h := ifT c19 h
      refine TL.nil (X.seq (T.seq ?_))
      refine T.yes rfl (decide_eq_true c19) ?_
      refine T.skip (X.seq (T.seq (T.block (T.seq (T.region rfl ?_)))))
      obtain ⟨⟨x20, st21⟩, hx22, h⟩ := Option.bind_eq_some_iff.1 h
      try dsimp only at h
      refine TL.run ft_value_ok [0] rfl rfl ?_
      refine TL.c2 rfl .u (.fn Try.call44 rfl) (gText_spec g st11 _ hx22) (fun _ hs => (Src.triv _)) rfl ?_
      refine TL.q rfl .u (Ex.bld (cells := #[.string (bsOf x20), .slice none 0 0]) bok_value_46 rfl (by kernel_rfl)) rfl ?_
      refine TL.alloc rfl .u Try.zeroValue46 rfl (fun b23 => ?_)
      refine TL.st0 (cs' := #[.string (bsOf x20), .slice none 0 0]) rfl .u rfl rfl Try.sizeOf46 rfl rfl rfl rfl ?_
      refine TL.nil (X.seq (T.seq (T.seq (T.region rfl ?_))))
      obtain ⟨⟨x24, st25⟩, hx26, h⟩ := Option.bind_eq_some_iff.1 h
      try dsimp only at h
      refine TL.run ft_value_ok [0] rfl rfl ?_
      refine TL.c3 rfl .u (.fn Try.call66 rfl) (gCount_spec g st21 4 4 _ hx26) (fun _ hs => (Src.triv _)) rfl ?_
      refine TL.run ft_value_ok [2] rfl rfl ?_
      refine TL.nil (X.seq (T.block ?_))
      refine T.nilrow 3 1 intE ?_
      obtain ⟨E32, hE33, hO34⟩ := Option.bind_eq_some_iff.1 h
      refine T.lp (fun m e Rs => ∃ (k27 : Nat) (y28 : List Int) (A29 : Option Addr) (c30 : Nat) (st31 : I), e = [(0, .pointer (some ⟨g, 0, none⟩)), (2, .slice A5 y4.length c6), (3, .slice A8 y7.length c9), (4, .pointer (some ⟨b23, 0, none⟩)), (6, .int .i64 x1), (7, .int .i64 (k10 : Int)), (13, .int .i64 x24), (14, .int .i64 (k27 : Int))] ∧ Rs = [OwnR 3 1 intE (.slice A29 y28.length c30) y28, BlkR b23 46 #[.string (bsOf x20), .slice A29 y28.length c30], OwnR 46 2 Top_rd (.slice A5 y4.length c6) y4, OwnR 46 2 Top_rd (.slice A8 y7.length c9) y7, InR g st31] ∧ f_value_Topics_l2 x24 m k27 y28 st31 = some E32) ((x24).toNat + 1) [0, 0, 0, 0, 0] ⟨0, [], none, 0, st25, rfl, rfl, by exact hE33⟩ (by rfl) (by rfl) ?_
      rintro m35 _ _ ⟨k27, y28, A29, c30, st31, rfl, rfl, hl37⟩
      clear hE33 h
      cases m35 with
      | zero =>
        rw [f_value_Topics_l2] at hl37
        cases hl37
      | succ m35 =>
        have h := hl37
        clear hl37
        rw [f_value_Topics_l2] at h
        refine T.seq (T.region rfl ?_)
        refine TL.run ft_value_ok [0] rfl rfl ?_
        by_cases c39 : (k27 : Int) < x24
        · replace h := ifT c39 h
          refine TL.nil (X.seq (T.seq ?_))
          refine T.yes rfl (decide_eq_true c39) ?_
          obtain ⟨⟨x40, st41⟩, hx42, h⟩ := Option.bind_eq_some_iff.1 h
          try dsimp only at h
          replace h := guard_some h
          obtain ⟨c44, h⟩ := h
          refine T.skip (X.seq (T.seq (T.block ?_)))
          refine T.join (fun e Rs => ∃ (b43 : Nat) (A45 : Option Addr) (c46 : Nat), e = [(0, .pointer (some ⟨g, 0, none⟩)), (2, .slice A5 y4.length c6), (3, .slice A8 y7.length c9), (4, .pointer (some ⟨b23, 0, none⟩)), (6, .int .i64 x1), (7, .int .i64 (k10 : Int)), (13, .int .i64 x24), (14, .int .i64 (k27 : Int))] ∧ Rs = [OwnR 3 1 intE (.slice A45 (y28 ++ [x40]).length c46) (y28 ++ [x40]), BlkR b23 46 #[.string (bsOf x20), .slice A45 (y28 ++ [x40]).length c46], OwnR 46 2 Top_rd (.slice A5 y4.length c6) y4, OwnR 46 2 Top_rd (.slice A8 y7.length c9) y7, InR g st41]) ?_ ?_
          · refine T.draw (.q 0 (.q 2 (.br 1 (.e 3 (.e 4 (.e 5 (.q 6 (.e 7 .nil))))) (.e 3 (.br 1 (.e 4 (.e 5 (.q 6 (.e 7 .nil)))) (.e 4 (.e 1 (.e 5 (.q 6 (.e 7 .nil)))))))))) [2, 2] rfl mix_value np_jq (by kernel_rfl) ?_
            refine TD.run ft_value_ok [0, 2] rfl rfl ?_
            refine TD.br ?_ ?_
            · refine TD.ny rfl .u (Ex.b1 1 rfl Try.isAgg44 rfl rfl) rfl [2, 2] rfl ?_
              refine TD.c4 rfl .u (.fn Try.call42 rfl) (gInt_spec g st31 4 _ hx42) (fun _ hs => (Src.triv _)) rfl [2, 2] (rfl) ?_
              refine TD.lit (cells := #[.int .i64 x40]) rfl .u sok_value_44_1 rfl (by rfl) rfl [3, 3] (fun _ => rfl) (fun b43 => ?_)
              refine TD.app1 0 rfl .u (us := [.int .i64 x40]) (u := x40) (l := y28) (E := intE) Try.underlying44 inf_value_3 rfl (by decide) rfl rfl rfl rfl rfl rfl (fun _ _ => rfl) (by have hq := c44; omega) (by have hq := c44; omega) rfl [2, 2] (fun _ _ => rfl) (fun A45 c46 => ?_)
              refine TD.sel [0, 0, 0, 0, 0] rfl ?_
              refine TD.run ft_value_ok [6] rfl rfl ?_
              refine TD.st1 (cs' := #[.string (bsOf x20), .slice A45 (y28 ++ [x40]).length c46]) rfl .u rfl rfl Try.sizeOf44 rfl rfl rfl rfl [2, 2] (rfl) ?_
              exact TD.nil (X.jn [0, 0, 0, 0, 0] ⟨b43, A45, c46, rfl, rfl⟩ (by rfl) (by rfl))
            · refine TD.c4 rfl .u (.fn Try.call42 rfl) (gInt_spec g st31 4 _ hx42) (fun _ hs => (Src.triv _)) rfl [2, 2] (rfl) ?_
              refine TD.br ?_ ?_
              · refine TD.ny rfl .u (Ex.b1 1 rfl Try.isAgg44 rfl rfl) rfl [2, 2] rfl ?_
                refine TD.lit (cells := #[.int .i64 x40]) rfl .u sok_value_44_1 rfl (by rfl) rfl [3, 3] (fun _ => rfl) (fun b43 => ?_)
                refine TD.app1 0 rfl .u (us := [.int .i64 x40]) (u := x40) (l := y28) (E := intE) Try.underlying44 inf_value_3 rfl (by decide) rfl rfl rfl rfl rfl rfl (fun _ _ => rfl) (by have hq := c44; omega) (by have hq := c44; omega) rfl [2, 2] (fun _ _ => rfl) (fun A45 c46 => ?_)
                refine TD.sel [0, 0, 0, 0, 0] rfl ?_
                refine TD.run ft_value_ok [6] rfl rfl ?_
                refine TD.st1 (cs' := #[.string (bsOf x20), .slice A45 (y28 ++ [x40]).length c46]) rfl .u rfl rfl Try.sizeOf44 rfl rfl rfl rfl [2, 2] (rfl) ?_
                exact TD.nil (X.jn [0, 0, 0, 0, 0] ⟨b43, A45, c46, rfl, rfl⟩ (by rfl) (by rfl))
              · refine TD.lit (cells := #[.int .i64 x40]) rfl .u sok_value_44_1 rfl (by rfl) rfl [3, 3] (fun _ => rfl) (fun b43 => ?_)
                refine TD.ny rfl .u (Ex.b1 2 rfl Try.isAgg44 rfl rfl) rfl [3, 3] rfl ?_
                refine TD.app1 0 rfl .u (us := [.int .i64 x40]) (u := x40) (l := y28) (E := intE) Try.underlying44 inf_value_3 rfl (by decide) rfl rfl rfl rfl rfl rfl (fun _ _ => rfl) (by have hq := c44; omega) (by have hq := c44; omega) rfl [2, 2] (fun _ _ => rfl) (fun A45 c46 => ?_)
                refine TD.sel [0, 0, 0, 0, 0] rfl ?_
                refine TD.run ft_value_ok [6] rfl rfl ?_
                refine TD.st1 (cs' := #[.string (bsOf x20), .slice A45 (y28 ++ [x40]).length c46]) rfl .u rfl rfl Try.sizeOf44 rfl rfl rfl rfl [2, 2] (rfl) ?_
                exact TD.nil (X.jn [0, 0, 0, 0, 0] ⟨b43, A45, c46, rfl, rfl⟩ (by rfl) (by rfl))
          · rintro _ _ ⟨b43, A45, c46, rfl, rfl⟩
            replace h := guard_some h
            obtain ⟨c47, h⟩ := h
            refine X.blk (X.seq (T.region rfl ?_))
            refine TL.q rfl .u (Ex.add rfl rfl c47) rfl ?_
            refine TL.run ft_value_ok [1] rfl rfl ?_
            exact TL.nil (X.back (m' := m35) [0, 0, 0, 0, 0] (by omega) ⟨k27 + 1, (y28 ++ [x40]), A45, c46, st41, rfl, rfl, h⟩ (by rfl) (by rfl))
        · replace h := ifF c39 h
          refine TL.nil (X.seq (T.seq ?_))
          refine T.no rfl (decide_eq_false c39) ?_
          obtain rfl := Option.some.inj h
          replace h := hO34
          clear hO34
          try dsimp only at h
          refine T.exit (X.exs (X.exs (X.ex (X.seq (T.seq (T.region rfl ?_))))))
          refine TL.run ft_value_ok [0] rfl rfl ?_
          refine TL.q rfl .u (Ex.bS (us := [.string (bsOf x20), .slice A29 y28.length c30]) 1 rfl Try.isAgg46 Try.sizeOf46 rfl rfl rfl) rfl ?_
          refine TL.lit (cells := #[.string (bsOf x20), .slice A29 y28.length c30]) rfl .u sok_value_22_1 rfl (by rfl) rfl (fun b48 => ?_)
          replace h := guard_some h
          obtain ⟨c49, h⟩ := h
          refine TL.app2 3 0 rfl .u (us := [.string (bsOf x20), .slice A29 y28.length c30]) (u := (⟨x20, y28⟩ : Top)) (l := y7) (E := Top_rd) Try.underlying22 inf_value_46 rfl (by decide) rfl rfl rfl rfl rfl rfl rfl (fun w G hG => ⟨_, _, rfl, own_reads (by decide) _ _ hG⟩) (by have hq := c49; omega) (by have hq := c49; omega) rfl (fun A50 c51 => ?_)
          refine TL.sel [0, 0, 0, 0] rfl ?_
          refine TL.run ft_value_ok [4] rfl rfl ?_
          refine TL.nil (X.seq (T.seq (T.region rfl ?_)))
          obtain ⟨⟨x52, st53⟩, hx54, h⟩ := Option.bind_eq_some_iff.1 h
          try dsimp only at h
          refine TL.run ft_value_ok [0] rfl rfl ?_
          refine TL.c3 rfl .u (.fn Try.call67 rfl) (gErr_spec g st31 _ hx54) (fun _ hs => (Src.triv _)) rfl ?_
          refine TL.run ft_value_ok [2] rfl rfl ?_
          by_cases c55 : x52 = 0
          · replace h := ifT c55 h
            refine TL.nil (X.seq ?_)
            refine T.no rfl (bn_f (decide_eq_true c55)) ?_
            replace h := guard_some h
            obtain ⟨c56, h⟩ := h
            refine T.skip (X.blk (X.seq (T.region rfl ?_)))
            refine TL.q rfl .u (Ex.add rfl rfl c56) rfl ?_
            refine TL.run ft_value_ok [1] rfl rfl ?_
            exact TL.nil (X.back (m' := m15) [2, 0, 1] (by omega) ⟨y4, A5, c6, (y7 ++ [(⟨x20, y28⟩ : Top)]), A50, c51, k10 + 1, st53, rfl, rfl, h⟩ (by rfl) (by rfl))
          · replace h := ifF c55 h
            refine TL.nil (X.seq ?_)
            refine T.yes rfl (bn_t (decide_eq_false c55)) ?_
            refine T.seq (T.region rfl ?_)
            refine TL.run ft_value_ok [0] rfl rfl ?_
            obtain rfl := Option.some.inj h
            replace h := hO14
            clear hO14
            try dsimp only at h
            obtain rfl := Option.some.inj h
            refine TL.nil (X.seq (T.ret (X.rb (X.rs (X.rs (X.rb (X.rs ?_)))))))
            refine X.nilrd 2 Top_rd ?_
            exact X.done1 [4, 0] Try.results46 (RV.tm rfl) ⟨_, _, rfl, rfl, rfl⟩ (by rfl) (.inl rfl)
    · replace h := ifF c19 h
      refine TL.nil (X.seq (T.seq ?_))
      refine T.no rfl (decide_eq_false c19) ?_
      obtain rfl := Option.some.inj h
      replace h := hO14
      clear hO14
      try dsimp only at h
      refine T.exit (X.exs (X.exs (X.ex (X.seq (T.seq (T.region rfl ?_))))))
      refine TL.run ft_value_ok [0, 1] rfl rfl ?_
      obtain rfl := Option.some.inj h
      refine TL.nil (X.seq (T.ret ?_))
      refine X.shut (by decide) 1 rfl ?_
      refine X.sel [0, 0, 0] rfl ?_
      exact X.done1 [2, 1] Try.results46 (RV.tm rfl) ⟨_, _, rfl, rfl, rfl⟩ (by rfl) (.inl rfl)
def f_value_Decode (a0 : List UInt8) : Option (Val × Int) := (gNew a0).bind fun st2 => (gInt st2 2).bind fun (x5, st6) => if x5 = 0 then ((gInt st6 8).bind fun (x9, st10) => (gInt st10 2).bind fun (x12, st13) => (gInt st13 4).bind fun (x15, st16) => (gInt st16 1).bind fun (x18, st19) => (f_value_Topics st19).bind fun (x22, st25) => (gInt st25 8).bind fun (x27, st28) => (gInt st28 8).bind fun (x30, st31) => (gClose st31).bind fun (x33, st34) => if x33 = 0 then ((f_value_Check (⟨x9, x12, x15, x18, x22, x27, x30⟩ : Val)).bind fun x37 => if x37 = 0 then (some ((⟨x9, x12, x15, x18, x22, x27, x30⟩ : Val), 0)) else (some ((⟨0, 0, 0, 0, [], 0, 0⟩ : Val), x37))) else (some ((⟨0, 0, 0, 0, [], 0, 0⟩ : Val), x33))) else ((gIFail st6 7).bind fun st40 => (gInt st40 8).bind fun (x42, st43) => (gInt st43 2).bind fun (x45, st46) => (gInt st46 4).bind fun (x48, st49) => (gInt st49 1).bind fun (x51, st52) => (f_value_Topics st52).bind fun (x55, st58) => (gInt st58 8).bind fun (x60, st61) => (gInt st61 8).bind fun (x63, st64) => (gClose st64).bind fun (x66, st67) => if x66 = 0 then ((f_value_Check (⟨x42, x45, x48, x51, x55, x60, x63⟩ : Val)).bind fun x70 => if x70 = 0 then (some ((⟨x42, x45, x48, x51, x55, x60, x63⟩ : Val), 0)) else (some ((⟨0, 0, 0, 0, [], 0, 0⟩ : Val), x70))) else (some ((⟨0, 0, 0, 0, [], 0, 0⟩ : Val), x66)))
set_option maxRecDepth 100000 in
set_option maxHeartbeats 4000000 in
theorem f_value_Decode_spec (a0 : List UInt8) (r : Val × Int) (h : f_value_Decode a0 = some r) : SpecX Try.prog 20 #[.string (bsOf a0)] .triv (EmpR) (fun v A' N => ∃ (A73 : Option Addr) (c74 : Nat), v = .tuple #[.agg #[.int .i64 r.1.fProducer, .int .i64 r.1.fEpoch, .int .i64 r.1.fTimeout, .int .i64 r.1.fState, .slice A73 r.1.fTopics.length c74, .int .i64 r.1.fUpdated, .int .i64 r.1.fStarted], .int .i64 r.2] ∧ A' = EmpR ∧ N = [RdR (sliceRd 2 Top_rd) [.slice A73 r.1.fTopics.length c74] r.1.fTopics]) := by
  refine enterA Try.func20 rfl Try.ntmps20 rfl ?_
  intro F w hX
  unfold f_value_Decode at h
  refine T.seq (T.region rfl ?_)
  refine TL.alloc rfl .u Try.zeroValue24 rfl (fun b1 => ?_)
  refine TL.run ft_value_ok [1] rfl rfl ?_
  refine TL.nil (X.seq (T.seq (T.region rfl ?_)))
  obtain ⟨st2, hx3, h⟩ := Option.bind_eq_some_iff.1 h
  refine TL.run ft_value_ok [0] rfl rfl ?_
  refine TL.cge rfl .u (.fn Try.call41 rfl) (gNew_spec a0 _ hx3) (fun _ hs => (RX.reads_triv _ _)) rfl ?_
  rintro _ _ _ ⟨b4, rfl, rfl, rfl⟩
  refine TL.sel [0, 0, 0] rfl ?_
  refine TL.run ft_value_ok [2] rfl rfl ?_
  refine TL.nil (X.seq (T.seq (T.seq (T.region rfl ?_))))
  obtain ⟨⟨x5, st6⟩, hx7, h⟩ := Option.bind_eq_some_iff.1 h
  try dsimp only at h
  refine TL.run ft_value_ok [0] rfl rfl ?_
  refine TL.c0 rfl .u (.fn Try.call42 rfl) (gInt_spec b4 st2 2 _ hx7) (fun _ hs => (Src.triv _)) rfl ?_
  refine TL.run ft_value_ok [2] rfl rfl ?_
  by_cases c8 : x5 = 0
  · replace h := ifT c8 h
    refine TL.nil (X.seq ?_)
    refine T.no rfl (bn_f (decide_eq_true c8)) ?_
    refine T.skip (X.seq (T.seq (T.region rfl ?_)))
    obtain ⟨⟨x9, st10⟩, hx11, h⟩ := Option.bind_eq_some_iff.1 h
    try dsimp only at h
    refine TL.run ft_value_ok [0] rfl rfl ?_
    refine TL.c0 rfl .u (.fn Try.call42 rfl) (gInt_spec b4 st6 8 _ hx11) (fun _ hs => (Src.triv _)) rfl ?_
    obtain ⟨⟨x12, st13⟩, hx14, h⟩ := Option.bind_eq_some_iff.1 h
    try dsimp only at h
    refine TL.run ft_value_ok [2] rfl rfl ?_
    refine TL.c0 rfl .u (.fn Try.call42 rfl) (gInt_spec b4 st10 2 _ hx14) (fun _ hs => (Src.triv _)) rfl ?_
    obtain ⟨⟨x15, st16⟩, hx17, h⟩ := Option.bind_eq_some_iff.1 h
    try dsimp only at h
    refine TL.run ft_value_ok [4] rfl rfl ?_
    refine TL.c0 rfl .u (.fn Try.call42 rfl) (gInt_spec b4 st13 4 _ hx17) (fun _ hs => (Src.triv _)) rfl ?_
    obtain ⟨⟨x18, st19⟩, hx20, h⟩ := Option.bind_eq_some_iff.1 h
    try dsimp only at h
    refine TL.run ft_value_ok [6] rfl rfl ?_
    refine TL.c0 rfl .u (.fn Try.call42 rfl) (gInt_spec b4 st16 1 _ hx20) (fun _ hs => (Src.triv _)) rfl ?_
    refine TL.q rfl .u (Ex.bld (cells := #[.int .i64 x9, .int .i64 x12, .int .i64 x15, .int .i64 x18, .slice none 0 0, .int .i64 0, .int .i64 0]) bok_value_24 rfl (by kernel_rfl)) rfl ?_
    refine TL.alloc rfl .u Try.zeroValue24 rfl (fun b21 => ?_)
    refine TL.st0 (cs' := #[.int .i64 x9, .int .i64 x12, .int .i64 x15, .int .i64 x18, .slice none 0 0, .int .i64 0, .int .i64 0]) rfl .u rfl rfl Try.sizeOf24 rfl rfl rfl rfl ?_
    refine TL.nil (X.seq (T.seq (T.region rfl ?_)))
    obtain ⟨⟨x22, st25⟩, hx26, h⟩ := Option.bind_eq_some_iff.1 h
    try dsimp only at h
    refine TL.run ft_value_ok [0] rfl rfl ?_
    refine TL.cg1 rfl .u (.fn Try.call46 rfl) (f_value_Topics_spec b4 st19 _ hx26) (fun _ hs => (Src.triv _)) rfl ?_
    rintro _ _ _ ⟨A23, c24, rfl, rfl, rfl⟩
    refine TL.sel [0, 0, 0, 0, 0] rfl ?_
    refine TL.run ft_value_ok [2] rfl rfl ?_
    refine TL.st1 (cs' := #[.int .i64 x9, .int .i64 x12, .int .i64 x15, .int .i64 x18, .slice A23 x22.length c24, .int .i64 0, .int .i64 0]) rfl .u rfl rfl Try.sizeOf22 rfl rfl rfl rfl ?_
    refine TL.nil (X.seq (T.seq (T.region rfl ?_)))
    obtain ⟨⟨x27, st28⟩, hx29, h⟩ := Option.bind_eq_some_iff.1 h
    try dsimp only at h
    refine TL.run ft_value_ok [0] rfl rfl ?_
    refine TL.c2 rfl .u (.fn Try.call42 rfl) (gInt_spec b4 st25 8 _ hx29) (fun _ hs => (Src.triv _)) rfl ?_
    refine TL.run ft_value_ok [2] rfl rfl ?_
    refine TL.st1 (cs' := #[.int .i64 x9, .int .i64 x12, .int .i64 x15, .int .i64 x18, .slice A23 x22.length c24, .int .i64 x27, .int .i64 0]) rfl .u rfl rfl Try.sizeOf3 rfl rfl rfl rfl ?_
    refine TL.nil (X.seq (T.seq (T.region rfl ?_)))
    obtain ⟨⟨x30, st31⟩, hx32, h⟩ := Option.bind_eq_some_iff.1 h
    try dsimp only at h
    refine TL.run ft_value_ok [0] rfl rfl ?_
    refine TL.c2 rfl .u (.fn Try.call42 rfl) (gInt_spec b4 st28 8 _ hx32) (fun _ hs => (Src.triv _)) rfl ?_
    refine TL.run ft_value_ok [2] rfl rfl ?_
    refine TL.st1 (cs' := #[.int .i64 x9, .int .i64 x12, .int .i64 x15, .int .i64 x18, .slice A23 x22.length c24, .int .i64 x27, .int .i64 x30]) rfl .u rfl rfl Try.sizeOf3 rfl rfl rfl rfl ?_
    refine TL.nil (X.seq (T.seq (T.region rfl ?_)))
    obtain ⟨⟨x33, st34⟩, hx35, h⟩ := Option.bind_eq_some_iff.1 h
    try dsimp only at h
    refine TL.run ft_value_ok [0] rfl rfl ?_
    refine TL.c2 rfl .u (.fn Try.call45 rfl) (gClose_spec b4 st31 _ hx35) (fun _ hs => (Src.triv _)) rfl ?_
    refine TL.run ft_value_ok [2] rfl rfl ?_
    refine TL.nil (X.seq (T.seq (T.seq (T.region rfl ?_))))
    refine TL.run ft_value_ok [0, 1] rfl rfl ?_
    by_cases c36 : x33 = 0
    · replace h := ifT c36 h
      refine TL.nil (X.seq ?_)
      refine T.yes rfl (decide_eq_true c36) ?_
      refine T.region rfl ?_
      refine TL.q rfl .u (Ex.bS (us := [.int .i64 x9, .int .i64 x12, .int .i64 x15, .int .i64 x18, .slice A23 x22.length c24, .int .i64 x27, .int .i64 x30]) 1 rfl Try.isAgg24 Try.sizeOf24 rfl rfl rfl) rfl ?_
      obtain ⟨x37, hx38, h⟩ := Option.bind_eq_some_iff.1 h
      refine TL.ce rfl .u (.fn Try.call47 rfl) (f_value_Check_spec (⟨x9, x12, x15, x18, x22, x27, x30⟩ : Val) _ _ _ hx38) (fun _ hs => (SrcE.res 0 hs rfl (fun w G h => rd_reads w G h))) rfl ?_
      refine TL.run ft_value_ok [2] rfl rfl ?_
      refine TL.nil (X.seq (T.seq (T.seq (T.region rfl ?_))))
      refine TL.run ft_value_ok [0, 1] rfl rfl ?_
      by_cases c39 : x37 = 0
      · replace h := ifT c39 h
        refine TL.nil (X.seq ?_)
        refine T.no rfl (bn_f (decide_eq_true c39)) ?_
        refine T.skip (X.seq (T.seq (T.region rfl ?_)))
        refine TL.q rfl .u (Ex.bS (us := [.int .i64 x9, .int .i64 x12, .int .i64 x15, .int .i64 x18, .slice A23 x22.length c24, .int .i64 x27, .int .i64 x30]) 1 rfl Try.isAgg24 Try.sizeOf24 rfl rfl rfl) rfl ?_
        refine TL.st3 (cs' := #[.int .i64 x9, .int .i64 x12, .int .i64 x15, .int .i64 x18, .slice A23 x22.length c24, .int .i64 x27, .int .i64 x30]) rfl .u rfl rfl Try.sizeOf24 rfl rfl rfl rfl ?_
        refine TL.run ft_value_ok [2] rfl rfl ?_
        obtain rfl := Option.some.inj h
        exact TL.nil (X.seq (T.ret (X.done2 [4, 0] Try.results20 (RV.cS (us := #[.int .i64 x9, .int .i64 x12, .int .i64 x15, .int .i64 x18, .slice A23 x22.length c24, .int .i64 x27, .int .i64 x30]) 3 rfl Try.isAgg24 Try.sizeOf24 rfl rfl) (RV.tm rfl) ⟨_, _, rfl, rfl, rfl⟩ (by rfl) (.inl rfl))))
      · replace h := ifF c39 h
        refine TL.nil (X.seq ?_)
        refine T.yes rfl (bn_t (decide_eq_false c39)) ?_
        refine T.seq (T.region rfl ?_)
        refine TL.q rfl .u (Ex.bld (cells := #[.int .i64 0, .int .i64 0, .int .i64 0, .int .i64 0, .slice none 0 0, .int .i64 0, .int .i64 0]) bok_value_24 rfl (by kernel_rfl)) rfl ?_
        refine TL.run ft_value_ok [1] rfl rfl ?_
        refine TL.st3 (cs' := #[.int .i64 0, .int .i64 0, .int .i64 0, .int .i64 0, .slice none 0 0, .int .i64 0, .int .i64 0]) rfl .u rfl rfl Try.sizeOf24 rfl rfl rfl rfl ?_
        refine TL.run ft_value_ok [3] rfl rfl ?_
        obtain rfl := Option.some.inj h
        refine TL.nil (X.seq (T.ret (X.rs ?_)))
        refine X.nilrd 2 Top_rd ?_
        exact X.done2 [5, 0] Try.results20 (RV.cS (us := #[.int .i64 0, .int .i64 0, .int .i64 0, .int .i64 0, .slice none 0 0, .int .i64 0, .int .i64 0]) 4 rfl Try.isAgg24 Try.sizeOf24 rfl rfl) (RV.tm rfl) ⟨_, _, rfl, rfl, rfl⟩ (by rfl) (.inl rfl)
    · replace h := ifF c36 h
      refine TL.nil (X.seq ?_)
      refine T.no rfl (decide_eq_false c36) ?_
      refine T.skip (X.seq (T.seq (T.seq (T.region rfl ?_))))
      refine TL.run ft_value_ok [0, 1] rfl rfl ?_
      refine TL.nil (X.seq ?_)
      refine T.yes rfl (bn_t (decide_eq_false c36)) ?_
      refine T.seq (T.region rfl ?_)
      refine TL.q rfl .u (Ex.bld (cells := #[.int .i64 0, .int .i64 0, .int .i64 0, .int .i64 0, .slice none 0 0, .int .i64 0, .int .i64 0]) bok_value_24 rfl (by kernel_rfl)) rfl ?_
      refine TL.run ft_value_ok [1] rfl rfl ?_
      refine TL.st3 (cs' := #[.int .i64 0, .int .i64 0, .int .i64 0, .int .i64 0, .slice none 0 0, .int .i64 0, .int .i64 0]) rfl .u rfl rfl Try.sizeOf24 rfl rfl rfl rfl ?_
      refine TL.run ft_value_ok [3] rfl rfl ?_
      obtain rfl := Option.some.inj h
      refine TL.nil (X.seq (T.ret (X.rs ?_)))
      refine X.nilrd 2 Top_rd ?_
      exact X.done2 [5, 0] Try.results20 (RV.cS (us := #[.int .i64 0, .int .i64 0, .int .i64 0, .int .i64 0, .slice none 0 0, .int .i64 0, .int .i64 0]) 4 rfl Try.isAgg24 Try.sizeOf24 rfl rfl) (RV.tm rfl) ⟨_, _, rfl, rfl, rfl⟩ (by rfl) (.inl rfl)
  · replace h := ifF c8 h
    refine TL.nil (X.seq ?_)
    refine T.yes rfl (bn_t (decide_eq_false c8)) ?_
    refine T.region rfl ?_
    obtain ⟨st40, hx41, h⟩ := Option.bind_eq_some_iff.1 h
    refine TL.run ft_value_ok [0] rfl rfl ?_
    refine TL.c0 rfl .u (.fn Try.call43 rfl) (gIFail_spec b4 st6 7 _ hx41) (fun _ hs => (Src.triv _)) rfl ?_
    refine TL.nil (X.seq (T.seq (T.region rfl ?_)))
    obtain ⟨⟨x42, st43⟩, hx44, h⟩ := Option.bind_eq_some_iff.1 h
    try dsimp only at h
    refine TL.run ft_value_ok [0] rfl rfl ?_
    refine TL.c0 rfl .u (.fn Try.call42 rfl) (gInt_spec b4 st40 8 _ hx44) (fun _ hs => (Src.triv _)) rfl ?_
    obtain ⟨⟨x45, st46⟩, hx47, h⟩ := Option.bind_eq_some_iff.1 h
    try dsimp only at h
    refine TL.run ft_value_ok [2] rfl rfl ?_
    refine TL.c0 rfl .u (.fn Try.call42 rfl) (gInt_spec b4 st43 2 _ hx47) (fun _ hs => (Src.triv _)) rfl ?_
    obtain ⟨⟨x48, st49⟩, hx50, h⟩ := Option.bind_eq_some_iff.1 h
    try dsimp only at h
    refine TL.run ft_value_ok [4] rfl rfl ?_
    refine TL.c0 rfl .u (.fn Try.call42 rfl) (gInt_spec b4 st46 4 _ hx50) (fun _ hs => (Src.triv _)) rfl ?_
    obtain ⟨⟨x51, st52⟩, hx53, h⟩ := Option.bind_eq_some_iff.1 h
    try dsimp only at h
    refine TL.run ft_value_ok [6] rfl rfl ?_
    refine TL.c0 rfl .u (.fn Try.call42 rfl) (gInt_spec b4 st49 1 _ hx53) (fun _ hs => (Src.triv _)) rfl ?_
    refine TL.q rfl .u (Ex.bld (cells := #[.int .i64 x42, .int .i64 x45, .int .i64 x48, .int .i64 x51, .slice none 0 0, .int .i64 0, .int .i64 0]) bok_value_24 rfl (by kernel_rfl)) rfl ?_
    refine TL.alloc rfl .u Try.zeroValue24 rfl (fun b54 => ?_)
    refine TL.st0 (cs' := #[.int .i64 x42, .int .i64 x45, .int .i64 x48, .int .i64 x51, .slice none 0 0, .int .i64 0, .int .i64 0]) rfl .u rfl rfl Try.sizeOf24 rfl rfl rfl rfl ?_
    refine TL.nil (X.seq (T.seq (T.region rfl ?_)))
    obtain ⟨⟨x55, st58⟩, hx59, h⟩ := Option.bind_eq_some_iff.1 h
    try dsimp only at h
    refine TL.run ft_value_ok [0] rfl rfl ?_
    refine TL.cg1 rfl .u (.fn Try.call46 rfl) (f_value_Topics_spec b4 st52 _ hx59) (fun _ hs => (Src.triv _)) rfl ?_
    rintro _ _ _ ⟨A56, c57, rfl, rfl, rfl⟩
    refine TL.sel [0, 0, 0, 0, 0] rfl ?_
    refine TL.run ft_value_ok [2] rfl rfl ?_
    refine TL.st1 (cs' := #[.int .i64 x42, .int .i64 x45, .int .i64 x48, .int .i64 x51, .slice A56 x55.length c57, .int .i64 0, .int .i64 0]) rfl .u rfl rfl Try.sizeOf22 rfl rfl rfl rfl ?_
    refine TL.nil (X.seq (T.seq (T.region rfl ?_)))
    obtain ⟨⟨x60, st61⟩, hx62, h⟩ := Option.bind_eq_some_iff.1 h
    try dsimp only at h
    refine TL.run ft_value_ok [0] rfl rfl ?_
    refine TL.c2 rfl .u (.fn Try.call42 rfl) (gInt_spec b4 st58 8 _ hx62) (fun _ hs => (Src.triv _)) rfl ?_
    refine TL.run ft_value_ok [2] rfl rfl ?_
    refine TL.st1 (cs' := #[.int .i64 x42, .int .i64 x45, .int .i64 x48, .int .i64 x51, .slice A56 x55.length c57, .int .i64 x60, .int .i64 0]) rfl .u rfl rfl Try.sizeOf3 rfl rfl rfl rfl ?_
    refine TL.nil (X.seq (T.seq (T.region rfl ?_)))
    obtain ⟨⟨x63, st64⟩, hx65, h⟩ := Option.bind_eq_some_iff.1 h
    try dsimp only at h
    refine TL.run ft_value_ok [0] rfl rfl ?_
    refine TL.c2 rfl .u (.fn Try.call42 rfl) (gInt_spec b4 st61 8 _ hx65) (fun _ hs => (Src.triv _)) rfl ?_
    refine TL.run ft_value_ok [2] rfl rfl ?_
    refine TL.st1 (cs' := #[.int .i64 x42, .int .i64 x45, .int .i64 x48, .int .i64 x51, .slice A56 x55.length c57, .int .i64 x60, .int .i64 x63]) rfl .u rfl rfl Try.sizeOf3 rfl rfl rfl rfl ?_
    refine TL.nil (X.seq (T.seq (T.region rfl ?_)))
    obtain ⟨⟨x66, st67⟩, hx68, h⟩ := Option.bind_eq_some_iff.1 h
    try dsimp only at h
    refine TL.run ft_value_ok [0] rfl rfl ?_
    refine TL.c2 rfl .u (.fn Try.call45 rfl) (gClose_spec b4 st64 _ hx68) (fun _ hs => (Src.triv _)) rfl ?_
    refine TL.run ft_value_ok [2] rfl rfl ?_
    refine TL.nil (X.seq (T.seq (T.seq (T.region rfl ?_))))
    refine TL.run ft_value_ok [0, 1] rfl rfl ?_
    by_cases c69 : x66 = 0
    · replace h := ifT c69 h
      refine TL.nil (X.seq ?_)
      refine T.yes rfl (decide_eq_true c69) ?_
      refine T.region rfl ?_
      refine TL.q rfl .u (Ex.bS (us := [.int .i64 x42, .int .i64 x45, .int .i64 x48, .int .i64 x51, .slice A56 x55.length c57, .int .i64 x60, .int .i64 x63]) 1 rfl Try.isAgg24 Try.sizeOf24 rfl rfl rfl) rfl ?_
      obtain ⟨x70, hx71, h⟩ := Option.bind_eq_some_iff.1 h
      refine TL.ce rfl .u (.fn Try.call47 rfl) (f_value_Check_spec (⟨x42, x45, x48, x51, x55, x60, x63⟩ : Val) _ _ _ hx71) (fun _ hs => (SrcE.res 0 hs rfl (fun w G h => rd_reads w G h))) rfl ?_
      refine TL.run ft_value_ok [2] rfl rfl ?_
      refine TL.nil (X.seq (T.seq (T.seq (T.region rfl ?_))))
      refine TL.run ft_value_ok [0, 1] rfl rfl ?_
      by_cases c72 : x70 = 0
      · replace h := ifT c72 h
        refine TL.nil (X.seq ?_)
        refine T.no rfl (bn_f (decide_eq_true c72)) ?_
        refine T.skip (X.seq (T.seq (T.region rfl ?_)))
        refine TL.q rfl .u (Ex.bS (us := [.int .i64 x42, .int .i64 x45, .int .i64 x48, .int .i64 x51, .slice A56 x55.length c57, .int .i64 x60, .int .i64 x63]) 1 rfl Try.isAgg24 Try.sizeOf24 rfl rfl rfl) rfl ?_
        refine TL.st3 (cs' := #[.int .i64 x42, .int .i64 x45, .int .i64 x48, .int .i64 x51, .slice A56 x55.length c57, .int .i64 x60, .int .i64 x63]) rfl .u rfl rfl Try.sizeOf24 rfl rfl rfl rfl ?_
        refine TL.run ft_value_ok [2] rfl rfl ?_
        obtain rfl := Option.some.inj h
        exact TL.nil (X.seq (T.ret (X.done2 [4, 0] Try.results20 (RV.cS (us := #[.int .i64 x42, .int .i64 x45, .int .i64 x48, .int .i64 x51, .slice A56 x55.length c57, .int .i64 x60, .int .i64 x63]) 3 rfl Try.isAgg24 Try.sizeOf24 rfl rfl) (RV.tm rfl) ⟨_, _, rfl, rfl, rfl⟩ (by rfl) (.inl rfl))))
      · replace h := ifF c72 h
        refine TL.nil (X.seq ?_)
        refine T.yes rfl (bn_t (decide_eq_false c72)) ?_
        refine T.seq (T.region rfl ?_)
        refine TL.q rfl .u (Ex.bld (cells := #[.int .i64 0, .int .i64 0, .int .i64 0, .int .i64 0, .slice none 0 0, .int .i64 0, .int .i64 0]) bok_value_24 rfl (by kernel_rfl)) rfl ?_
        refine TL.run ft_value_ok [1] rfl rfl ?_
        refine TL.st3 (cs' := #[.int .i64 0, .int .i64 0, .int .i64 0, .int .i64 0, .slice none 0 0, .int .i64 0, .int .i64 0]) rfl .u rfl rfl Try.sizeOf24 rfl rfl rfl rfl ?_
        refine TL.run ft_value_ok [3] rfl rfl ?_
        obtain rfl := Option.some.inj h
        refine TL.nil (X.seq (T.ret (X.rs ?_)))
        refine X.nilrd 2 Top_rd ?_
        exact X.done2 [5, 0] Try.results20 (RV.cS (us := #[.int .i64 0, .int .i64 0, .int .i64 0, .int .i64 0, .slice none 0 0, .int .i64 0, .int .i64 0]) 4 rfl Try.isAgg24 Try.sizeOf24 rfl rfl) (RV.tm rfl) ⟨_, _, rfl, rfl, rfl⟩ (by rfl) (.inl rfl)
    · replace h := ifF c69 h
      refine TL.nil (X.seq ?_)
      refine T.no rfl (decide_eq_false c69) ?_
      refine T.skip (X.seq (T.seq (T.seq (T.region rfl ?_))))
      refine TL.run ft_value_ok [0, 1] rfl rfl ?_
      refine TL.nil (X.seq ?_)
      refine T.yes rfl (bn_t (decide_eq_false c69)) ?_
      refine T.seq (T.region rfl ?_)
      refine TL.q rfl .u (Ex.bld (cells := #[.int .i64 0, .int .i64 0, .int .i64 0, .int .i64 0, .slice none 0 0, .int .i64 0, .int .i64 0]) bok_value_24 rfl (by kernel_rfl)) rfl ?_
      refine TL.run ft_value_ok [1] rfl rfl ?_
      refine TL.st3 (cs' := #[.int .i64 0, .int .i64 0, .int .i64 0, .int .i64 0, .slice none 0 0, .int .i64 0, .int .i64 0]) rfl .u rfl rfl Try.sizeOf24 rfl rfl rfl rfl ?_
      refine TL.run ft_value_ok [3] rfl rfl ?_
      obtain rfl := Option.some.inj h
      refine TL.nil (X.seq (T.ret (X.rs ?_)))
      refine X.nilrd 2 Top_rd ?_
      exact X.done2 [5, 0] Try.results20 (RV.cS (us := #[.int .i64 0, .int .i64 0, .int .i64 0, .int .i64 0, .slice none 0 0, .int .i64 0, .int .i64 0]) 4 rfl Try.isAgg24 Try.sizeOf24 rfl rfl) (RV.tm rfl) ⟨_, _, rfl, rfl, rfl⟩ (by rfl) (.inl rfl)
end Go.Proofs.Ytlhgogjcaegehaa.Sl
namespace Go.Proofs.Ytlhgogjcaegehaa.Sl
open Go.RowKit
set_option linter.unusedVariables false
set_option linter.unusedSimpArgs false
set_option maxRecDepth 100000
def ft_cursitorref01 : FTab := []
theorem ft_cursitorref01_ok : (ft_cursitorref01).OK Try.prog := trivial
theorem mix_cursitorref01 : Try.prog.follows .mixedOrders = true := by kernel_rfl
def f_r01_Same_l1 (a0 : List Int) (a1 : List Int) : Nat → Bool → Nat → Option (Lp Bool (Bool × Nat))
  | 0, _, _ => none
  | m11 + 1, y6, k7 => if (k7 : Int) < (a0.length : Int) then ((a0[k7]?).bind fun x16 => (a1[k7]?).bind fun x19 => if x16 = x19 then (if -9223372036854775808 ≤ ((k7 : Int) + 1) ∧ ((k7 : Int) + 1) ≤ 9223372036854775807 then (f_r01_Same_l1 a0 a1 m11 y6 (k7 + 1)) else none) else some (Lp.ret false)) else (some (Lp.go (y6, k7)))
def f_r01_Same (a0 : List Int) (a1 : List Int) : Option (Bool) := if (a0.length : Int) = (a1.length : Int) then ((f_r01_Same_l1 a0 a1 (((a0.length : Int)).toNat + 1) false 0).bind fun e => match e with | .ret r => some r | .go (y24, k25) => some true) else some false
set_option maxRecDepth 100000 in
set_option maxHeartbeats 4000000 in
theorem f_r01_Same_spec (a0 : List Int) (A1 : Option Addr) (c2 : Nat) (a1 : List Int) (A3 : Option Addr) (c4 : Nat) (r : Bool) (h : f_r01_Same a0 a1 = some r) : SpecX Try.prog 58 #[.slice A1 a0.length c2, .slice A3 a1.length c4] (RX.and (RX.of (sliceRd 1 intE) [.slice A1 a0.length c2] a0) (RX.of (sliceRd 1 intE) [.slice A3 a1.length c4] a1)) (EmpR) (fun v A' N => v = .bool r ∧ A' = EmpR ∧ N = []) := by
  refine enterA Try.func58 rfl Try.ntmps58 rfl ?_
  intro F w hX
  unfold f_r01_Same at h
  refine T.seq (T.region rfl ?_)
  refine TL.run ft_cursitorref01_ok [0] rfl rfl ?_
  refine TL.nil (X.seq (T.seq (T.seq (T.region rfl ?_))))
  refine TL.run ft_cursitorref01_ok [0] rfl rfl ?_
  refine TL.q rfl .u (Ex.lenS rfl Try.runUnderlying44) rfl ?_
  refine TL.run ft_cursitorref01_ok [2] rfl rfl ?_
  refine TL.q rfl .u (Ex.lenS rfl Try.runUnderlying44) rfl ?_
  refine TL.run ft_cursitorref01_ok [4] rfl rfl ?_
  by_cases c5 : (a0.length : Int) = (a1.length : Int)
  · replace h := ifT c5 h
    refine TL.nil (X.seq ?_)
    refine T.no rfl (bn_f (decide_eq_true c5)) ?_
    refine T.skip (X.seq (T.seq (T.seq (T.region rfl ?_))))
    refine TL.run ft_cursitorref01_ok [0] rfl rfl ?_
    refine TL.nil (X.seq (T.block ?_))
    obtain ⟨E8, hE9, hO10⟩ := Option.bind_eq_some_iff.1 h
    refine T.lp (fun m e Rs => ∃ (y6 : Bool) (k7 : Nat), e = [(0, .slice A1 a0.length c2), (1, .slice A3 a1.length c4), (4, .bool y6), (5, .int .i64 (k7 : Int))] ∧ Rs = [EmpR] ∧ f_r01_Same_l1 a0 a1 m y6 k7 = some E8) (((a0.length : Int)).toNat + 1) [0] ⟨false, 0, rfl, rfl, by exact hE9⟩ (by rfl) (by rfl) ?_
    rintro m11 _ _ ⟨y6, k7, rfl, rfl, hl13⟩
    clear hE9 h
    cases m11 with
    | zero =>
      rw [f_r01_Same_l1] at hl13
      cases hl13
    | succ m11 =>
      have h := hl13
      clear hl13
      rw [f_r01_Same_l1] at h
      refine T.seq (T.seq (T.region rfl ?_))
      refine TL.run ft_cursitorref01_ok [0, 1] rfl rfl ?_
      refine TL.q rfl .u (Ex.lenS rfl Try.runUnderlying44) rfl ?_
      refine TL.run ft_cursitorref01_ok [3] rfl rfl ?_
      by_cases c15 : (k7 : Int) < (a0.length : Int)
      · replace h := ifT c15 h
        refine TL.nil (X.seq ?_)
        refine T.yes rfl (decide_eq_true c15) ?_
        refine T.skip (X.seq (T.seq (T.block (T.seq (T.draw (.q 0 (.q 1 (.q 2 (.q 3 (.q 4 (.q 5 (.q 6 (.q 7 (.q 8 .nil))))))))) [0] rfl mix_cursitorref01 (NoP.seq (NoP.blk (NoP.seq (NoP.seq (NoP.blk (NoP.seq np_post)))))) (by kernel_rfl) ?_)))))
        obtain ⟨x16, hx17, h⟩ := Option.bind_eq_some_iff.1 h
        obtain ⟨gz18, oz18, rfl, z18cs, z18cl, z18cc, z18nf, z18r⟩ := RX.elem (by decide) (RX.reads_left hX) hx17
        obtain ⟨z18S, z18r, z18rr⟩ := z18r
        obtain rfl : z18cs = [.int .i64 x16] := z18r
        refine TD.run ft_cursitorref01_ok [0, 1] rfl rfl ?_
        refine TD.q rfl .u (Ex.ixS (k := k7) rfl rfl rfl Try.runUnderlying44 Try.sizeOf3 (List.getElem?_eq_some_iff.1 hx17).1) rfl ?_
        refine TD.q rfl .u (Ex.o1 0 rfl Try.isAgg3 z18nf z18cc rfl rfl) rfl ?_
        obtain ⟨x19, hx20, h⟩ := Option.bind_eq_some_iff.1 h
        obtain ⟨gz21, oz21, rfl, z21cs, z21cl, z21cc, z21nf, z21r⟩ := RX.elem (by decide) (RX.reads_right hX) hx20
        obtain ⟨z21S, z21r, z21rr⟩ := z21r
        obtain rfl : z21cs = [.int .i64 x19] := z21r
        refine TD.run ft_cursitorref01_ok [4, 5] rfl rfl ?_
        refine TD.q rfl .u (Ex.ixS (k := k7) rfl rfl rfl Try.runUnderlying44 Try.sizeOf3 (List.getElem?_eq_some_iff.1 hx20).1) rfl ?_
        refine TD.q rfl .u (Ex.o1 0 rfl Try.isAgg3 z21nf z21cc rfl rfl) rfl ?_
        refine TD.run ft_cursitorref01_ok [8] rfl rfl ?_
        by_cases c22 : x16 = x19
        · replace h := ifT c22 h
          refine TD.nil (X.seq ?_)
          refine T.no rfl (bn_f (decide_eq_true c22)) ?_
          refine T.skip (X.blk (X.seq (T.region rfl ?_)))
          replace h := guard_some h
          obtain ⟨c23, h⟩ := h
          refine TL.run ft_cursitorref01_ok [0] rfl rfl ?_
          refine TL.q rfl .u (Ex.add rfl rfl c23) rfl ?_
          refine TL.run ft_cursitorref01_ok [2] rfl rfl ?_
          exact TL.nil (X.back (m' := m11) [0] (by omega) ⟨y6, k7 + 1, rfl, rfl, h⟩ (by rfl) (by rfl))
        · replace h := ifF c22 h
          refine TD.nil (X.seq ?_)
          refine T.yes rfl (bn_t (decide_eq_false c22)) ?_
          refine T.seq (T.region rfl ?_)
          refine TL.run ft_cursitorref01_ok [0] rfl rfl ?_
          obtain rfl := Option.some.inj h
          replace h := hO10
          clear hO10
          try dsimp only at h
          obtain rfl := Option.some.inj h
          exact TL.nil (X.seq (T.ret (X.rb (X.rs (X.rs (X.rb (X.rs (X.done1 [0] Try.results58 (RV.tm rfl) ⟨rfl, rfl, rfl⟩ (by rfl) (.inl rfl)))))))))
      · replace h := ifF c15 h
        refine TL.nil (X.seq ?_)
        refine T.no rfl (decide_eq_false c15) ?_
        obtain rfl := Option.some.inj h
        replace h := hO10
        clear hO10
        try dsimp only at h
        refine T.exit (X.exs (X.exs (X.ex (X.seq (T.seq (T.region rfl ?_))))))
        refine TL.run ft_cursitorref01_ok [0] rfl rfl ?_
        obtain rfl := Option.some.inj h
        exact TL.nil (X.seq (T.ret (X.done1 [0] Try.results58 (RV.tm rfl) ⟨rfl, rfl, rfl⟩ (by rfl) (.inl rfl))))
  · replace h := ifF c5 h
    refine TL.nil (X.seq ?_)
    refine T.yes rfl (bn_t (decide_eq_false c5)) ?_
    refine T.seq (T.region rfl ?_)
    refine TL.run ft_cursitorref01_ok [0] rfl rfl ?_
    obtain rfl := Option.some.inj h
    exact TL.nil (X.seq (T.ret (X.rs (X.done1 [0] Try.results58 (RV.tm rfl) ⟨rfl, rfl, rfl⟩ (by rfl) (.inl rfl)))))
end Go.Proofs.Ytlhgogjcaegehaa.Sl
namespace Go.Proofs.Ytlhgogjcaegehaa.Sl
open Go.RowKit
set_option linter.unusedVariables false
set_option linter.unusedSimpArgs false
set_option maxRecDepth 100000
def ft_cursitorref14 : FTab := [(24, 0, 0), (24, 1, 1), (24, 2, 2), (24, 3, 3), (24, 4, 4), (24, 5, 5), (24, 6, 6), (46, 0, 0), (46, 1, 1)]
theorem ft_cursitorref14_ok : (ft_cursitorref14).OK Try.prog := ⟨FOK.mk Try.runUnderlying24 rfl Try.sizeOf3 rfl, FOK.mk Try.runUnderlying24 rfl Try.sizeOf3 rfl, FOK.mk Try.runUnderlying24 rfl Try.sizeOf3 rfl, FOK.mk Try.runUnderlying24 rfl Try.sizeOf3 rfl, FOK.mk Try.runUnderlying24 rfl Try.sizeOf22 rfl, FOK.mk Try.runUnderlying24 rfl Try.sizeOf3 rfl, FOK.mk Try.runUnderlying24 rfl Try.sizeOf3 rfl, FOK.mk Try.runUnderlying46 rfl Try.sizeOf9 rfl, FOK.mk Try.runUnderlying46 rfl Try.sizeOf44 rfl, trivial⟩
def nt_cursitorref14 : List Nat := [3, 22]
theorem nt_cursitorref14_ok : NOK Try.prog nt_cursitorref14 := ⟨Try.isAgg3, Try.isAgg22, trivial⟩
theorem mix_cursitorref14 : Try.prog.follows .mixedOrders = true := by kernel_rfl
def f_r14_SameTopics_l1 (a0 : List Top) (a1 : List Top) : Nat → Bool → Nat → Option (Lp Bool (Bool × Nat))
  | 0, _, _ => none
  | m11 + 1, y6, k7 => if (k7 : Int) < (a0.length : Int) then ((a0[k7]?).bind fun x16 => (a1[k7]?).bind fun x22 => if x16.fName = x22.fName then ((f_r01_Same x16.fParts x22.fParts).bind fun x29 => if x29 = true then (if -9223372036854775808 ≤ ((k7 : Int) + 1) ∧ ((k7 : Int) + 1) ≤ 9223372036854775807 then (f_r14_SameTopics_l1 a0 a1 m11 y6 (k7 + 1)) else none) else some (Lp.ret false)) else some (Lp.ret false)) else (some (Lp.go (y6, k7)))
def f_r14_SameTopics (a0 : List Top) (a1 : List Top) : Option (Bool) := if (a0.length : Int) = (a1.length : Int) then ((f_r14_SameTopics_l1 a0 a1 (((a0.length : Int)).toNat + 1) false 0).bind fun e => match e with | .ret r => some r | .go (y33, k34) => some true) else some false
set_option maxRecDepth 100000 in
set_option maxHeartbeats 4000000 in
theorem f_r14_SameTopics_spec (a0 : List Top) (A1 : Option Addr) (c2 : Nat) (a1 : List Top) (A3 : Option Addr) (c4 : Nat) (r : Bool) (h : f_r14_SameTopics a0 a1 = some r) : SpecX Try.prog 38 #[.slice A1 a0.length c2, .slice A3 a1.length c4] (RX.and (RX.of (sliceRd 2 Top_rd) [.slice A1 a0.length c2] a0) (RX.of (sliceRd 2 Top_rd) [.slice A3 a1.length c4] a1)) (EmpR) (fun v A' N => v = .bool r ∧ A' = EmpR ∧ N = []) := by
  refine enterA Try.func38 rfl Try.ntmps38 rfl ?_
  intro F w hX
  unfold f_r14_SameTopics at h
  refine T.seq (T.region rfl ?_)
  refine TL.run ft_cursitorref14_ok [0] rfl rfl ?_
  refine TL.nil (X.seq (T.seq (T.seq (T.region rfl ?_))))
  refine TL.run ft_cursitorref14_ok [0] rfl rfl ?_
  refine TL.q rfl .u (Ex.lenS rfl Try.runUnderlying22) rfl ?_
  refine TL.run ft_cursitorref14_ok [2] rfl rfl ?_
  refine TL.q rfl .u (Ex.lenS rfl Try.runUnderlying22) rfl ?_
  refine TL.run ft_cursitorref14_ok [4] rfl rfl ?_
  by_cases c5 : (a0.length : Int) = (a1.length : Int)
  · replace h := ifT c5 h
    refine TL.nil (X.seq ?_)
    refine T.no rfl (bn_f (decide_eq_true c5)) ?_
    refine T.skip (X.seq (T.seq (T.seq (T.region rfl ?_))))
    refine TL.run ft_cursitorref14_ok [0] rfl rfl ?_
    refine TL.nil (X.seq (T.block ?_))
    obtain ⟨E8, hE9, hO10⟩ := Option.bind_eq_some_iff.1 h
    refine T.lp (fun m e Rs => ∃ (y6 : Bool) (k7 : Nat), e = [(0, .slice A1 a0.length c2), (1, .slice A3 a1.length c4), (4, .bool y6), (5, .int .i64 (k7 : Int))] ∧ Rs = [EmpR] ∧ f_r14_SameTopics_l1 a0 a1 m y6 k7 = some E8) (((a0.length : Int)).toNat + 1) [0] ⟨false, 0, rfl, rfl, by exact hE9⟩ (by rfl) (by rfl) ?_
    rintro m11 _ _ ⟨y6, k7, rfl, rfl, hl13⟩
    clear hE9 h
    cases m11 with
    | zero =>
      rw [f_r14_SameTopics_l1] at hl13
      cases hl13
    | succ m11 =>
      have h := hl13
      clear hl13
      rw [f_r14_SameTopics_l1] at h
      refine T.seq (T.seq (T.region rfl ?_))
      refine TL.run ft_cursitorref14_ok [0, 1] rfl rfl ?_
      refine TL.q rfl .u (Ex.lenS rfl Try.runUnderlying22) rfl ?_
      refine TL.run ft_cursitorref14_ok [3] rfl rfl ?_
      by_cases c15 : (k7 : Int) < (a0.length : Int)
      · replace h := ifT c15 h
        refine TL.nil (X.seq ?_)
        refine T.yes rfl (decide_eq_true c15) ?_
        refine T.skip (X.seq (T.seq (T.block (T.seq (T.draw (.q 0 (.q 1 (.q 2 (.q 3 (.q 4 (.q 5 (.q 6 (.q 7 (.q 8 (.q 9 (.q 10 (.q 11 (.q 12 (.q 13 (.q 14 (.q 15 (.q 16 (.q 17 (.q 18 (.q 19 (.q 20 (.q 21 (.e 22 (.q 23 (.q 24 .nil))))))))))))))))))))))))) [0] rfl mix_cursitorref14 (NoP.seq (NoP.blk (NoP.seq (NoP.seq (NoP.blk (NoP.seq np_post)))))) (by kernel_rfl) ?_)))))
        obtain ⟨x16, hx17, h⟩ := Option.bind_eq_some_iff.1 h
        obtain ⟨gz18, oz18, rfl, z18cs, z18cl, z18cc, z18nf, z18r⟩ := RX.elem (by decide) (RX.reads_left hX) hx17
        obtain ⟨z18S, z18r, z18rr⟩ := z18r
        obtain ⟨A19, c20, rfl, z18s0⟩ := z18r
        have hX21 : (RX.of (sliceRd 1 intE) [.slice A19 x16.fParts.length c20] x16.fParts).reads w F := ⟨z18S, z18s0, z18rr⟩
        refine TD.run ft_cursitorref14_ok [0, 1] rfl rfl ?_
        refine TD.q rfl .u (Ex.ixS (k := k7) rfl rfl rfl Try.runUnderlying22 Try.sizeOf46 (List.getElem?_eq_some_iff.1 hx17).1) rfl ?_
        refine TD.run ft_cursitorref14_ok [3] rfl rfl ?_
        refine TD.q rfl .u (Ex.o1 0 rfl Try.isAgg9 z18nf z18cc rfl rfl) rfl ?_
        obtain ⟨x22, hx23, h⟩ := Option.bind_eq_some_iff.1 h
        obtain ⟨gz24, oz24, rfl, z24cs, z24cl, z24cc, z24nf, z24r⟩ := RX.elem (by decide) (RX.reads_right hX) hx23
        obtain ⟨z24S, z24r, z24rr⟩ := z24r
        obtain ⟨A25, c26, rfl, z24s0⟩ := z24r
        have hX27 : (RX.of (sliceRd 1 intE) [.slice A25 x22.fParts.length c26] x22.fParts).reads w F := ⟨z24S, z24s0, z24rr⟩
        refine TD.run ft_cursitorref14_ok [5, 6] rfl rfl ?_
        refine TD.q rfl .u (Ex.ixS (k := k7) rfl rfl rfl Try.runUnderlying22 Try.sizeOf46 (List.getElem?_eq_some_iff.1 hx23).1) rfl ?_
        refine TD.run ft_cursitorref14_ok [8] rfl rfl ?_
        refine TD.q rfl .u (Ex.o1 0 rfl Try.isAgg9 z24nf z24cc rfl rfl) rfl ?_
        refine TD.q rfl .u (Ex.sNe rfl rfl) rfl ?_
        by_cases c28 : x16.fName = x22.fName
        · replace h := ifT c28 h
          refine TD.run ft_cursitorref14_ok [11] rfl rfl ?_
          refine TD.q rfl (.g rfl rfl (bn_f (decide_eq_true c28))) (Ex.ft ft_cursitorref14_ok rfl) rfl ?_
          refine TD.q rfl (.g rfl rfl (bn_f (decide_eq_true c28))) (Ex.ft ft_cursitorref14_ok rfl) rfl ?_
          refine TD.q rfl (.g rfl rfl (bn_f (decide_eq_true c28))) (Ex.ixS (k := k7) rfl rfl rfl Try.runUnderlying22 Try.sizeOf46 (List.getElem?_eq_some_iff.1 hx17).1) rfl ?_
          refine TD.q rfl (.g rfl rfl (bn_f (decide_eq_true c28))) (Ex.ft ft_cursitorref14_ok rfl) rfl ?_
          refine TD.q rfl (.g rfl rfl (bn_f (decide_eq_true c28))) (Ex.o1 1 rfl Try.isAgg44 z18nf z18cc rfl rfl) rfl ?_
          refine TD.q rfl (.g rfl rfl (bn_f (decide_eq_true c28))) (Ex.ft ft_cursitorref14_ok rfl) rfl ?_
          refine TD.q rfl (.g rfl rfl (bn_f (decide_eq_true c28))) (Ex.ft ft_cursitorref14_ok rfl) rfl ?_
          refine TD.q rfl (.g rfl rfl (bn_f (decide_eq_true c28))) (Ex.ixS (k := k7) rfl rfl rfl Try.runUnderlying22 Try.sizeOf46 (List.getElem?_eq_some_iff.1 hx23).1) rfl ?_
          refine TD.q rfl (.g rfl rfl (bn_f (decide_eq_true c28))) (Ex.ft ft_cursitorref14_ok rfl) rfl ?_
          refine TD.q rfl (.g rfl rfl (bn_f (decide_eq_true c28))) (Ex.o1 1 rfl Try.isAgg44 z24nf z24cc rfl rfl) rfl ?_
          obtain ⟨x29, hx30, h⟩ := Option.bind_eq_some_iff.1 h
          refine TD.ce rfl (.g rfl rfl (bn_f (decide_eq_true c28))) (.fn Try.call58 rfl) (f_r01_Same_spec x16.fParts _ _ x22.fParts _ _ _ hx30) (fun _ hs => (RX.reads_and (SrcE.old hs hX21) (SrcE.old hs hX27))) rfl [0] (rfl) ?_
          refine TD.q rfl (.g rfl rfl (bn_f (decide_eq_true c28))) (Ex.ft ft_cursitorref14_ok rfl) rfl ?_
          refine TD.q rfl .u (Ex.pn rfl (bn_f (decide_eq_true c28)) rfl) rfl ?_
          by_cases c31 : x29 = true
          · replace h := ifT c31 h
            refine TD.nil (X.seq ?_)
            refine T.no rfl (bn_f c31) ?_
            refine T.skip (X.blk (X.seq (T.region rfl ?_)))
            replace h := guard_some h
            obtain ⟨c32, h⟩ := h
            refine TL.run ft_cursitorref14_ok [0] rfl rfl ?_
            refine TL.q rfl .u (Ex.add rfl rfl c32) rfl ?_
            refine TL.run ft_cursitorref14_ok [2] rfl rfl ?_
            exact TL.nil (X.back (m' := m11) [0] (by omega) ⟨y6, k7 + 1, rfl, rfl, h⟩ (by rfl) (by rfl))
          · replace h := ifF c31 h
            replace c31 := eq_false_of_ne_true c31
            refine TD.nil (X.seq ?_)
            refine T.yes rfl (bn_t c31) ?_
            refine T.seq (T.region rfl ?_)
            refine TL.run ft_cursitorref14_ok [0] rfl rfl ?_
            obtain rfl := Option.some.inj h
            replace h := hO10
            clear hO10
            try dsimp only at h
            obtain rfl := Option.some.inj h
            exact TL.nil (X.seq (T.ret (X.rb (X.rs (X.rs (X.rb (X.rs (X.done1 [0] Try.results38 (RV.tm rfl) ⟨rfl, rfl, rfl⟩ (by rfl) (.inl rfl)))))))))
        · replace h := ifF c28 h
          refine TD.run ft_cursitorref14_ok [11] rfl rfl ?_
          refine TD.no rfl (.gn rfl rfl (bn_t (decide_eq_false c28))) rfl ?_
          refine TD.no rfl (.gn rfl rfl (bn_t (decide_eq_false c28))) rfl ?_
          refine TD.no rfl (.gn rfl rfl (bn_t (decide_eq_false c28))) rfl ?_
          refine TD.no rfl (.gn rfl rfl (bn_t (decide_eq_false c28))) rfl ?_
          refine TD.no rfl (.gn rfl rfl (bn_t (decide_eq_false c28))) rfl ?_
          refine TD.no rfl (.gn rfl rfl (bn_t (decide_eq_false c28))) rfl ?_
          refine TD.no rfl (.gn rfl rfl (bn_t (decide_eq_false c28))) rfl ?_
          refine TD.no rfl (.gn rfl rfl (bn_t (decide_eq_false c28))) rfl ?_
          refine TD.no rfl (.gn rfl rfl (bn_t (decide_eq_false c28))) rfl ?_
          refine TD.no rfl (.gn rfl rfl (bn_t (decide_eq_false c28))) rfl ?_
          refine TD.noe rfl (.gn rfl rfl (bn_t (decide_eq_false c28))) rfl [0] rfl ?_
          refine TD.no rfl (.gn rfl rfl (bn_t (decide_eq_false c28))) rfl ?_
          refine TD.q rfl .u (Ex.py rfl (bn_t (decide_eq_false c28)) rfl) rfl ?_
          refine TD.nil (X.seq ?_)
          refine T.yes rfl rfl ?_
          refine T.seq (T.region rfl ?_)
          refine TL.run ft_cursitorref14_ok [0] rfl rfl ?_
          obtain rfl := Option.some.inj h
          replace h := hO10
          clear hO10
          try dsimp only at h
          obtain rfl := Option.some.inj h
          exact TL.nil (X.seq (T.ret (X.rb (X.rs (X.rs (X.rb (X.rs (X.done1 [0] Try.results38 (RV.tm rfl) ⟨rfl, rfl, rfl⟩ (by rfl) (.inl rfl)))))))))
      · replace h := ifF c15 h
        refine TL.nil (X.seq ?_)
        refine T.no rfl (decide_eq_false c15) ?_
        obtain rfl := Option.some.inj h
        replace h := hO10
        clear hO10
        try dsimp only at h
        refine T.exit (X.exs (X.exs (X.ex (X.seq (T.seq (T.region rfl ?_))))))
        refine TL.run ft_cursitorref14_ok [0] rfl rfl ?_
        obtain rfl := Option.some.inj h
        exact TL.nil (X.seq (T.ret (X.done1 [0] Try.results38 (RV.tm rfl) ⟨rfl, rfl, rfl⟩ (by rfl) (.inl rfl))))
  · replace h := ifF c5 h
    refine TL.nil (X.seq ?_)
    refine T.yes rfl (bn_t (decide_eq_false c5)) ?_
    refine T.seq (T.region rfl ?_)
    refine TL.run ft_cursitorref14_ok [0] rfl rfl ?_
    obtain rfl := Option.some.inj h
    exact TL.nil (X.seq (T.ret (X.rs (X.done1 [0] Try.results38 (RV.tm rfl) ⟨rfl, rfl, rfl⟩ (by rfl) (.inl rfl)))))
def f_r14_Same (a0 : Val) (a1 : Val) : Option (Bool) := if a0.fProducer = a1.fProducer then (if a0.fEpoch = a1.fEpoch then (if a0.fTimeout = a1.fTimeout then (if a0.fState = a1.fState then (if a0.fUpdated = a1.fUpdated then (if a0.fStarted = a1.fStarted then ((f_r14_SameTopics a0.fTopics a1.fTopics).bind fun x13 => some x13) else some false) else some false) else some false) else some false) else some false) else some false
set_option maxRecDepth 100000 in
set_option maxHeartbeats 4000000 in
theorem f_r14_Same_spec (a0 : Val) (A1 : Option Addr) (c2 : Nat) (a1 : Val) (A3 : Option Addr) (c4 : Nat) (r : Bool) (h : f_r14_Same a0 a1 = some r) : SpecX Try.prog 16 #[.agg #[.int .i64 a0.fProducer, .int .i64 a0.fEpoch, .int .i64 a0.fTimeout, .int .i64 a0.fState, .slice A1 a0.fTopics.length c2, .int .i64 a0.fUpdated, .int .i64 a0.fStarted], .agg #[.int .i64 a1.fProducer, .int .i64 a1.fEpoch, .int .i64 a1.fTimeout, .int .i64 a1.fState, .slice A3 a1.fTopics.length c4, .int .i64 a1.fUpdated, .int .i64 a1.fStarted]] (RX.and (RX.of (sliceRd 2 Top_rd) [.slice A1 a0.fTopics.length c2] a0.fTopics) (RX.of (sliceRd 2 Top_rd) [.slice A3 a1.fTopics.length c4] a1.fTopics)) (EmpR) (fun v A' N => v = .bool r ∧ A' = EmpR ∧ N = []) := by
  refine enterA Try.func16 rfl Try.ntmps16 rfl ?_
  intro F w hX
  unfold f_r14_Same at h
  refine T.seq (T.region rfl ?_)
  refine TL.box rfl .u rfl rfl (fun b5 => ?_)
  refine TL.box rfl .u rfl rfl (fun b6 => ?_)
  refine TL.run ft_cursitorref14_ok [2] rfl rfl ?_
  refine TL.nil (X.seq (T.seq (T.region rfl ?_)))
  refine TL.rb ft_cursitorref14_ok nt_cursitorref14_ok 1 rfl 3 rfl rfl ?_
  by_cases c7 : a0.fProducer = a1.fProducer
  · replace h := ifT c7 h
    refine TL.rb ft_cursitorref14_ok nt_cursitorref14_ok 0 rfl 3 rfl rfl ?_
    refine TL.hv 10 rfl (decide_eq_true c7) ?_
    refine TL.rb ft_cursitorref14_ok nt_cursitorref14_ok 1 rfl 3 rfl rfl ?_
    by_cases c8 : a0.fEpoch = a1.fEpoch
    · replace h := ifT c8 h
      refine TL.rb ft_cursitorref14_ok nt_cursitorref14_ok 0 rfl 4 rfl rfl ?_
      refine TL.hv 17 rfl (decide_eq_true c8) ?_
      refine TL.rb ft_cursitorref14_ok nt_cursitorref14_ok 1 rfl 3 rfl rfl ?_
      by_cases c9 : a0.fTimeout = a1.fTimeout
      · replace h := ifT c9 h
        refine TL.rb ft_cursitorref14_ok nt_cursitorref14_ok 0 rfl 4 rfl rfl ?_
        refine TL.hv 24 rfl (decide_eq_true c9) ?_
        refine TL.rb ft_cursitorref14_ok nt_cursitorref14_ok 1 rfl 3 rfl rfl ?_
        by_cases c10 : a0.fState = a1.fState
        · replace h := ifT c10 h
          refine TL.rb ft_cursitorref14_ok nt_cursitorref14_ok 0 rfl 4 rfl rfl ?_
          refine TL.hv 31 rfl (decide_eq_true c10) ?_
          refine TL.rb ft_cursitorref14_ok nt_cursitorref14_ok 1 rfl 3 rfl rfl ?_
          by_cases c11 : a0.fUpdated = a1.fUpdated
          · replace h := ifT c11 h
            refine TL.rb ft_cursitorref14_ok nt_cursitorref14_ok 0 rfl 4 rfl rfl ?_
            refine TL.hv 38 rfl (decide_eq_true c11) ?_
            refine TL.rb ft_cursitorref14_ok nt_cursitorref14_ok 1 rfl 3 rfl rfl ?_
            by_cases c12 : a0.fStarted = a1.fStarted
            · replace h := ifT c12 h
              refine TL.rb ft_cursitorref14_ok nt_cursitorref14_ok 0 rfl 4 rfl rfl ?_
              refine TL.hv 45 rfl (decide_eq_true c12) ?_
              refine TL.rb ft_cursitorref14_ok nt_cursitorref14_ok 1 rfl 3 rfl rfl ?_
              obtain ⟨x13, hx14, h⟩ := Option.bind_eq_some_iff.1 h
              refine TL.rb ft_cursitorref14_ok nt_cursitorref14_ok 0 rfl 1 rfl rfl ?_
              refine TL.ce rfl (.g rfl rfl rfl) (.fn Try.call38 rfl) (f_r14_SameTopics_spec a0.fTopics _ _ a1.fTopics _ _ _ hx14) (fun _ hs => (RX.reads_and (SrcE.old hs (RX.reads_left hX)) (SrcE.old hs (RX.reads_right hX)))) rfl ?_
              refine TL.rw ft_cursitorref14_ok 2 rfl ?_
              obtain rfl := Option.some.inj h
              exact TL.nil (X.seq (T.ret (X.done1 [2] Try.results16 (RV.tm rfl) ⟨rfl, rfl, rfl⟩ (by rfl) (.inl rfl))))
            · replace h := ifF c12 h
              refine TL.rb ft_cursitorref14_ok nt_cursitorref14_ok 0 rfl 4 rfl rfl ?_
              refine TL.hv 45 rfl (decide_eq_false c12) ?_
              refine TL.rw ft_cursitorref14_ok 7 rfl ?_
              obtain rfl := Option.some.inj h
              exact TL.nil (X.seq (T.ret (X.done1 [2] Try.results16 (RV.tm rfl) ⟨rfl, rfl, rfl⟩ (by rfl) (.inl rfl))))
          · replace h := ifF c11 h
            refine TL.rb ft_cursitorref14_ok nt_cursitorref14_ok 0 rfl 4 rfl rfl ?_
            refine TL.hv 38 rfl (decide_eq_false c11) ?_
            refine TL.rw ft_cursitorref14_ok 14 rfl ?_
            obtain rfl := Option.some.inj h
            exact TL.nil (X.seq (T.ret (X.done1 [2] Try.results16 (RV.tm rfl) ⟨rfl, rfl, rfl⟩ (by rfl) (.inl rfl))))
        · replace h := ifF c10 h
          refine TL.rb ft_cursitorref14_ok nt_cursitorref14_ok 0 rfl 4 rfl rfl ?_
          refine TL.hv 31 rfl (decide_eq_false c10) ?_
          refine TL.rw ft_cursitorref14_ok 21 rfl ?_
          obtain rfl := Option.some.inj h
          exact TL.nil (X.seq (T.ret (X.done1 [2] Try.results16 (RV.tm rfl) ⟨rfl, rfl, rfl⟩ (by rfl) (.inl rfl))))
      · replace h := ifF c9 h
        refine TL.rb ft_cursitorref14_ok nt_cursitorref14_ok 0 rfl 4 rfl rfl ?_
        refine TL.hv 24 rfl (decide_eq_false c9) ?_
        refine TL.rw ft_cursitorref14_ok 28 rfl ?_
        obtain rfl := Option.some.inj h
        exact TL.nil (X.seq (T.ret (X.done1 [2] Try.results16 (RV.tm rfl) ⟨rfl, rfl, rfl⟩ (by rfl) (.inl rfl))))
    · replace h := ifF c8 h
      refine TL.rb ft_cursitorref14_ok nt_cursitorref14_ok 0 rfl 4 rfl rfl ?_
      refine TL.hv 17 rfl (decide_eq_false c8) ?_
      refine TL.rw ft_cursitorref14_ok 35 rfl ?_
      obtain rfl := Option.some.inj h
      exact TL.nil (X.seq (T.ret (X.done1 [2] Try.results16 (RV.tm rfl) ⟨rfl, rfl, rfl⟩ (by rfl) (.inl rfl))))
  · replace h := ifF c7 h
    refine TL.rb ft_cursitorref14_ok nt_cursitorref14_ok 0 rfl 3 rfl rfl ?_
    refine TL.hv 10 rfl (decide_eq_false c7) ?_
    refine TL.rw ft_cursitorref14_ok 42 rfl ?_
    obtain rfl := Option.some.inj h
    exact TL.nil (X.seq (T.ret (X.done1 [2] Try.results16 (RV.tm rfl) ⟨rfl, rfl, rfl⟩ (by rfl) (.inl rfl))))
end Go.Proofs.Ytlhgogjcaegehaa.Sl
namespace Go.Proofs.Ytlhgogjcaegehaa.Sl
open Go.RowKit
set_option linter.unusedVariables false
set_option linter.unusedSimpArgs false
def pTopic : Pr Top := pText.bind fun nm => (pRow 4 4 (pInt 4)).bind fun ps => .ret ⟨nm, ps⟩
def encT (t : Top) : List UInt8 := (be (t.fName.length : Int) 2 ++ t.fName) ++ (be (t.fParts.length : Int) 4 ++ encs (fun n => be n 4) t.fParts)
def okT (t : Top) : Prop := fits (t.fName.length : Int) 2 = true ∧ fits (t.fParts.length : Int) 4 = true ∧ ∀ n, n ∈ t.fParts → fits n 4 = true
theorem Sp_parts : Sp (pRow 4 4 (pInt 4)) (fun l => be (l.length : Int) 4 ++ encs (fun n => be n 4) l) (fun l => fits (l.length : Int) 4 = true ∧ ∀ n, n ∈ l → fits n 4 = true) := Sp_row 4 4 (by decide) (by decide) (Sp_int 4 (by decide) (by decide)) (fun x _ => by rw [be_length]; decide)
theorem Sp_topic : Sp pTopic encT okT := by
  refine ⟨fun s q a r hq h => ?_, fun s t q a hq ha h => ?_⟩
  · obtain ⟨k, q1, h1, h⟩ := Pr.bind_ok h
    obtain ⟨v, q2, h2, h⟩ := Pr.bind_ok h
    injection h with h
    obtain ⟨rfl, rfl⟩ := Prod.mk.inj h
    obtain ⟨a1, a2, a3, a4, a5⟩ := Sp_text.spell _ _ _ _ hq h1
    obtain ⟨b1, b2, b3, b4, b5⟩ := Sp_parts.spell _ _ _ _ a2 h2
    exact ⟨by omega, b2, by simp only [encT, List.length_append] at *; omega, by rw [b4, a4]; simp only [encT, List.append_assoc], a5.1, b5⟩
  · obtain ⟨a1, a2, a3⟩ := ha
    have hl := congrArg List.length h
    rw [encT, List.append_assoc] at h
    have g1 := Sp_text.back _ _ _ _ hq ⟨a1, rfl⟩ h
    have h := drop_step h
    have g2 := Sp_parts.back _ _ _ _ (by simp only [encT, List.length_drop, List.length_append, be_length] at *; omega) ⟨a2, a3⟩ h
    rw [pTopic, Pr.bind_of g1, Pr.bind_of g2]
    simp only [Pr.ret, encT, List.length_append, Nat.add_assoc]
theorem encT_ge (t : Top) (h : okT t) : 6 ≤ (encT t).length := by simp only [encT, List.length_append, be_length]; omega
theorem Sp_topics : Sp (pRow 4 6 pTopic) (fun l => be (l.length : Int) 4 ++ encs encT l) (fun l => fits (l.length : Int) 4 = true ∧ ∀ t, t ∈ l → okT t) := Sp_row 4 6 (by decide) (by decide) Sp_topic encT_ge
theorem topics_l2 (n : Int) (s : List UInt8) (hn : n ≤ 1000000) : ∀ (m fuel k : Nat) (acc : List Int) (q : Nat), ((k + m : Nat) : Int) = n → m < fuel → q + 4 * m ≤ s.length → acc.length = k →
    ∃ l, pRep (pInt 4) m s q = .ok (l, q + 4 * m) ∧ f_value_Topics_l2 n fuel k acc ⟨s.drop q, q, 0⟩ = some (k + m, acc ++ l, ⟨s.drop (q + 4 * m), q + 4 * m, 0⟩)
  | 0, fuel + 1, k, acc, q, h1, h2, h3, h4 => ⟨[], rfl, by rw [f_value_Topics_l2, if_neg (by omega), List.append_nil]; rfl⟩
  | m + 1, fuel + 1, k, acc, q, h1, h2, h3, h4 => by
    rw [f_value_Topics_l2, if_pos (by omega)]
    rcases Q4.run s q (by omega) with ⟨e, st, p1, g1, x1, y1⟩ | ⟨a, r, p1, g1, n1, l1⟩
    · unfold pInt at p1
      rw [if_neg (by omega)] at p1
      exact nomatch p1
    · have hr : r = q + 4 := by
        unfold pInt at p1
        rw [if_neg (by omega)] at p1
        injection p1 with p1
        exact (Prod.mk.inj p1).2.symm
      subst hr
      rw [g1]
      simp only [Option.bind_some]
      rw [if_pos (by omega), if_pos (by omega)]
      obtain ⟨l, e1, e2⟩ := topics_l2 n s hn m fuel (k + 1) (acc ++ [a]) (q + 4) (by omega) (by omega) (by omega) (by rw [List.length_append, h4]; rfl)
      have eq : q + 4 + 4 * m = q + 4 * (m + 1) := by omega
      rw [eq] at e1 e2
      refine ⟨a :: l, ?_, ?_⟩
      · rw [pRep, Pr.bind_of p1, Pr.bind_of e1]
        rfl
      · rw [e2, List.append_assoc]
        rw [show k + 1 + m = k + (m + 1) by omega]
        rfl
theorem topics_l1 (n : Int) (s : List UInt8) (hs : s.length ≤ 1000000) (hn : n ≤ 1000000) : ∀ (m fuel k : Nat) (acc : List Top) (q : Nat), ((k + m : Nat) : Int) = n → m < fuel → q ≤ s.length → acc.length = k →
    (∃ (e : Int) (st : I), pRep pTopic m s q = .error e ∧ f_value_Topics_l1 n fuel [] acc k ⟨s.drop q, q, 0⟩ = some (.ret ([], st)) ∧ st.err = e ∧ st.err ≠ 0) ∨
    (∃ l r, pRep pTopic m s q = .ok (l, r) ∧ f_value_Topics_l1 n fuel [] acc k ⟨s.drop q, q, 0⟩ = some (.go ([], acc ++ l, k + m, ⟨s.drop r, r, 0⟩)) ∧ q ≤ r ∧ r ≤ s.length)
  | 0, fuel + 1, k, acc, q, h1, h2, h3, h4 => .inr ⟨[], q, rfl, by rw [f_value_Topics_l1, if_neg (by omega), List.append_nil]; rfl, Nat.le_refl _, h3⟩
  | m + 1, fuel + 1, k, acc, q, h1, h2, h3, h4 => by
    rw [f_value_Topics_l1, if_pos (by omega)]
    have died : ∀ (st : I) (t : List UInt8), st.err ≠ 0 → ((gCount st 4 4).bind fun (x24, st25) => (f_value_Topics_l2 x24 ((x24).toNat + 1) 0 [] st25).bind fun (k57, y58, st61) => if (acc.length + 1) * 40 ≤ 140737488355328 then ((gErr st61).bind fun (x66, st67) => if x66 = 0 then (if -9223372036854775808 ≤ ((k : Int) + 1) ∧ ((k : Int) + 1) ≤ 9223372036854775807 then (f_value_Topics_l1 n fuel [] (acc ++ [(⟨t, y58⟩ : Top)]) (k + 1) st67) else none) else (some (Lp.ret ([], st67)))) else none) = some (Lp.ret ([], st)) := by
      intro st t h
      rw [gCount_d h (by decide) (by decide)]
      simp only [Option.bind_some]
      rw [show (0 : Int).toNat + 1 = 1 from rfl, f_value_Topics_l2, if_neg (by decide)]
      simp only [Option.bind_some, gErr_eq]
      rw [if_pos (by omega), if_neg h]
    rcases QT.run s q h3 with ⟨e, st, p1, g1, x1, y1⟩ | ⟨nm, q1, p1, g1, n1, l1⟩
    · left
      refine ⟨e, st, by rw [pRep, Pr.bind_err (show pTopic s q = .error e from Pr.bind_err p1)], ?_, x1, y1⟩
      rw [g1]
      simp only [Option.bind_some]
      exact died st [] y1
    rw [g1]
    simp only [Option.bind_some]
    rcases (Q_count 4 4 (by decide) (by decide) 4 4 rfl rfl (by decide)).run s q1 l1 with ⟨e, st, p2, g2, x2, y2⟩ | ⟨c, q2, p2, g2, n2, l2⟩
    · left
      refine ⟨e, st, by rw [pRep, Pr.bind_err]; rw [pTopic, Pr.bind_of p1, Pr.bind_err]; rw [pRow, Pr.bind_err p2], ?_, x2, y2⟩
      have := died st nm y2
      rw [gCount_d y2 (by decide) (by decide)] at this
      rw [g2]
      exact this
    obtain ⟨c1, c2, c3, c4, c5, c6⟩ := pCount_ok (by decide) (by decide) l1 p2
    have c2 := c2 (by decide)
    rw [g2]
    simp only [Option.bind_some]
    obtain ⟨ps, e1, e2⟩ := topics_l2 c s (by omega) c.toNat (c.toNat + 1) 0 [] q2 (by omega) (by omega) (by omega) rfl
    rw [e2]
    simp only [Option.bind_some, gErr_eq, if_true]
    rw [if_pos (by omega), if_pos (by omega), List.nil_append]
    have ht : pTopic s q = .ok (⟨nm, ps⟩, q2 + 4 * c.toNat) := by
      rw [pTopic, Pr.bind_of p1, Pr.bind_of (a := ps) (r := q2 + 4 * c.toNat) (by rw [pRow, Pr.bind_of p2, e1])]
      rfl
    rw [pRep, Pr.bind_of ht]
    rcases topics_l1 n s hs hn m fuel (k + 1) (acc ++ [⟨nm, ps⟩]) (q2 + 4 * c.toNat) (by omega) (by omega) (by omega) (by rw [List.length_append, h4]; rfl) with ⟨e, st, r1, r2, r3, r4⟩ | ⟨l, r, r1, r2, r3, r4⟩
    · exact .inl ⟨e, st, by rw [Pr.bind_err r1], r2, r3, r4⟩
    · refine .inr ⟨⟨nm, ps⟩ :: l, r, by rw [Pr.bind_of r1]; rfl, ?_, by omega, r4⟩
      rw [r2, List.append_assoc, show k + 1 + m = k + (m + 1) by omega]
      rfl
theorem B_topics : CB f_value_Topics (pRow 4 6 pTopic) [] := by
  refine ⟨fun st h => ?_, fun s q hs hq => ?_⟩
  · unfold f_value_Topics
    rw [gCount_d h (by decide) (by decide)]
    simp only [Option.bind_some]
    rw [show (0 : Int).toNat + 1 = 1 from rfl, f_value_Topics_l1, if_neg (by decide)]
    rfl
  · unfold f_value_Topics
    rcases (Q_count 4 6 (by decide) (by decide) 4 6 rfl rfl (by decide)).run s q hq with ⟨e, st, p1, g1, x1, y1⟩ | ⟨c, q1, p1, g1, n1, l1⟩
    · refine .inl ⟨e, st, Pr.bind_err p1, ?_, x1, y1⟩
      rw [g1]
      simp only [Option.bind_some]
      rw [show (0 : Int).toNat + 1 = 1 from rfl, f_value_Topics_l1, if_neg (by decide)]
      rfl
    · obtain ⟨c1, c2, c3, c4, c5, c6⟩ := pCount_ok (by decide) (by decide) hq p1
      have c2 := c2 (by decide)
      rw [g1, pRow, Pr.bind_of p1]
      simp only [Option.bind_some]
      rcases topics_l1 c s hs (by omega) c.toNat (c.toNat + 1) 0 [] q1 (by omega) (by omega) l1 rfl with ⟨e, st, r1, r2, r3, r4⟩ | ⟨l, r, r1, r2, r3, r4⟩
      · exact .inl ⟨e, st, r1, by rw [r2]; rfl, r3, r4⟩
      · refine .inr ⟨l, r, r1, ?_, by omega, r4⟩
        rw [r2, List.nil_append]
        rfl
end Go.Proofs.Ytlhgogjcaegehaa.Sl
namespace Go.Proofs.Ytlhgogjcaegehaa.Sl
open Go.RowKit
set_option linter.unusedVariables false
set_option linter.unusedSimpArgs false
theorem at_drop {α : Type} {l : List α} {k : Nat} {x : α} {t : List α} (h : l.drop k = x :: t) : l[k]? = some x ∧ l.drop (k + 1) = t ∧ l.length = k + 1 + t.length := by
  have hl := congrArg List.length h
  rw [List.length_drop, List.length_cons] at hl
  refine ⟨?_, ?_, by omega⟩
  · have := congrArg (fun z => z[0]?) h
    simpa using this
  · rw [← List.drop_drop, h]
    rfl
theorem nil_drop {α : Type} {l : List α} {k : Nat} (h : l.drop k = []) : l.length ≤ k := List.drop_eq_nil_iff.1 h
def up {α : Type} (lt : α → α → Bool) : Option α → List α → Bool
  | _, [] => true
  | none, x :: t => up lt (some x) t
  | some p, x :: t => lt p x && up lt (some x) t
def ltI (a b : Int) : Bool := decide (a < b)
theorem rint_loop (a0 : List Int) (hb : a0.length ≤ 140737488355328) : ∀ (t : List Int) (p : Int) (k fuel : Nat) (y : Bool), a0.drop k = p :: t → t.length < fuel → ∃ z, f_value_risingint_l1 a0 fuel y ((k : Int) + 1) = some (if up ltI (some p) t = true then .go (y, z) else .ret false)
  | [], p, k, fuel + 1, y, h, hf => by
    obtain ⟨h1, h2, h3⟩ := at_drop h
    refine ⟨(k : Int) + 1, ?_⟩
    rw [f_value_risingint_l1, if_neg (by simp only [List.length_nil] at h3; omega)]
    rfl
  | x :: t, p, k, fuel + 1, y, h, hf => by
    obtain ⟨h1, h2, h3⟩ := at_drop h
    obtain ⟨g1, g2, g3⟩ := at_drop h2
    rw [List.length_cons] at hf h3
    obtain ⟨z, hz⟩ := rint_loop a0 hb t x (k + 1) fuel y h2 (by omega)
    rw [f_value_risingint_l1, if_pos (by omega), if_pos (by omega), if_pos (by omega), show ((k : Int) + 1 - 1).toNat = k by omega, h1]
    rw [Option.bind_some]
    rw [if_pos (by omega), show ((k : Int) + 1).toNat = k + 1 by omega, g1]
    rw [Option.bind_some]
    by_cases hc : p < x
    · rw [if_neg (by omega), if_pos (by omega)]
      refine ⟨z, ?_⟩
      rw [show ((k : Int) + 1 + 1) = ((k + 1 : Nat) : Int) + 1 by omega, hz]
      simp only [up, ltI, hc, decide_true, Bool.true_and]
    · rw [if_pos (by omega)]
      refine ⟨0, ?_⟩
      simp only [up, ltI, hc, decide_false, Bool.false_and, Bool.false_eq_true, if_false]
theorem rint_eq (a0 : List Int) (hb : a0.length ≤ 140737488355328) : f_value_risingint a0 = some (up ltI none a0) := by
  unfold f_value_risingint
  cases a0 with
  | nil => rfl
  | cons x t =>
    obtain ⟨z, hz⟩ := rint_loop (x :: t) hb t x 0 ((((x :: t).length : Int) - 1).toNat + 1) false rfl (by simp only [List.length_cons]; omega)
    rw [show (((0 : Nat) : Int) + 1) = 1 from rfl] at hz
    rw [hz]
    simp only [up]
    cases up ltI (some x) t <;> rfl
theorem rstr_loop (a0 : List (List UInt8)) (hb : a0.length ≤ 140737488355328) : ∀ (t : List (List UInt8)) (p : List UInt8) (k fuel : Nat) (y : Bool), a0.drop k = p :: t → t.length < fuel → ∃ z, f_value_risingstring_l1 a0 fuel y ((k : Int) + 1) = some (if up Op.bytesLess (some p) t = true then .go (y, z) else .ret false)
  | [], p, k, fuel + 1, y, h, hf => by
    obtain ⟨h1, h2, h3⟩ := at_drop h
    refine ⟨(k : Int) + 1, ?_⟩
    rw [f_value_risingstring_l1, if_neg (by simp only [List.length_nil] at h3; omega)]
    rfl
  | x :: t, p, k, fuel + 1, y, h, hf => by
    obtain ⟨h1, h2, h3⟩ := at_drop h
    obtain ⟨g1, g2, g3⟩ := at_drop h2
    rw [List.length_cons] at hf h3
    obtain ⟨z, hz⟩ := rstr_loop a0 hb t x (k + 1) fuel y h2 (by omega)
    rw [f_value_risingstring_l1, if_pos (by omega), if_pos (by omega), if_pos (by omega), show ((k : Int) + 1 - 1).toNat = k by omega, h1]
    simp only [Option.bind_some]
    rw [if_pos (by omega), show ((k : Int) + 1).toNat = k + 1 by omega, g1]
    simp only [Option.bind_some]
    by_cases hc : Op.bytesLess p x = true
    · rw [if_pos hc, if_pos (by omega)]
      refine ⟨z, ?_⟩
      rw [show ((k : Int) + 1 + 1) = ((k + 1 : Nat) : Int) + 1 by omega, hz]
      simp only [up, hc, Bool.true_and]
    · rw [if_neg hc]
      refine ⟨0, ?_⟩
      simp only [up, hc, Bool.false_and, Bool.false_eq_true, if_false]
theorem rstr_eq (a0 : List (List UInt8)) (hb : a0.length ≤ 140737488355328) : f_value_risingstring a0 = some (up Op.bytesLess none a0) := by
  unfold f_value_risingstring
  cases a0 with
  | nil => rfl
  | cons x t =>
    obtain ⟨z, hz⟩ := rstr_loop (x :: t) hb t x 0 ((((x :: t).length : Int) - 1).toNat + 1) false rfl (by simp only [List.length_cons]; omega)
    rw [show (((0 : Nat) : Int) + 1) = 1 from rfl] at hz
    rw [hz]
    simp only [up]
    cases up Op.bytesLess (some x) t <;> rfl
def okn (n : Int) : Bool := decide (0 ≤ n) && decide (n ≤ 2147483647)
def okps (l : List Int) : Bool := l.all okn && up ltI none l && !l.isEmpty
def oktB (t : Top) : Bool := !t.fName.isEmpty && decide (t.fName.length ≤ 32767) && okps t.fParts
def okts (l : List Top) : Bool := l.all oktB && up Op.bytesLess none (l.map (·.fName))
theorem parts_loop (y : Bool) : ∀ l : List Int, (∀ n, n ∈ l → wI n) → f_value_parts_l1 l y = some (if l.all okn = true then .go y else .ret false)
  | [], h => rfl
  | n :: l, h => by
    have hn := h n (.head _)
    rw [f_value_parts_l1, gFits_eq _ _ hn, fits_4, List.all_cons]
    by_cases h1 : n < 0
    · have : okn n = false := by unfold okn; simp; omega
      rw [if_pos h1, this]
      rfl
    · rw [if_neg h1, Option.bind_some]
      by_cases h2 : n ≤ 2147483647
      · have : okn n = true := by unfold okn; simp; omega
        rw [if_pos (by simp; omega), parts_loop y l (fun m hm => h m (.tail _ hm)), this, Bool.true_and]
      · have : okn n = false := by unfold okn; simp; omega
        rw [if_neg (by simp; omega), this]
        rfl
theorem parts_eq (l : List Int) (hw : wL wI l) : f_value_parts l = some (okps l) := by
  unfold f_value_parts okps
  rw [parts_loop false l hw.2]
  cases hall : l.all okn with
  | false => rfl
  | true =>
    simp only [if_true, Option.bind_some, Bool.true_and]
    cases l with
    | nil => rfl
    | cons x t =>
      rw [if_pos (by simp only [List.length_cons]; omega), rint_eq _ (by have := hw.1; omega)]
      simp
theorem vtopics_loop (y : Bool) : ∀ (l : List Top) (acc : List (List UInt8)), (∀ t, t ∈ l → wf_Top t) → acc.length + l.length ≤ 1000000 → f_value_topics_l1 l y acc = some (if l.all oktB = true then .go (y, acc ++ l.map (·.fName)) else .ret false)
  | [], acc, h, hl => by simp [f_value_topics_l1]
  | t :: l, acc, h, hl => by
    have ht := h t (.head _)
    rw [List.length_cons] at hl
    rw [f_value_topics_l1, parts_eq _ ht.2, List.all_cons]
    by_cases h1 : t.fName = []
    · have : oktB t = false := by simp [oktB, h1]
      rw [if_pos h1, this]
      rfl
    · rw [if_neg h1]
      by_cases h2 : (t.fName.length : Int) > 32767
      · have : oktB t = false := by simp [oktB, show ¬ t.fName.length ≤ 32767 by omega]
        rw [if_pos h2, this]
        rfl
      · rw [if_neg h2, Option.bind_some]
        have hne : t.fName.isEmpty = false := by cases hh : t.fName with | nil => exact absurd hh h1 | cons c u => rfl
        have ho : oktB t = okps t.fParts := by simp [oktB, hne, show t.fName.length ≤ 32767 by omega]
        rw [ho]
        cases hp : okps t.fParts with
        | false => rfl
        | true =>
          rw [if_pos rfl, if_pos (by omega), vtopics_loop y l _ (fun u hu => h u (.tail _ hu)) (by rw [List.length_append]; simp only [List.length_cons, List.length_nil]; omega), Bool.true_and, List.map_cons, List.append_assoc]
          rfl
theorem vtopics_eq (l : List Top) (hw : ∀ t, t ∈ l → wf_Top t) (hl : l.length ≤ 1000000) : f_value_topics l = some (okts l) := by
  unfold f_value_topics okts
  rw [vtopics_loop false l [] hw (by simpa using hl)]
  cases hall : l.all oktB with
  | false => rfl
  | true =>
    simp only [if_true, Option.bind_some, Bool.true_and, List.nil_append]
    rw [rstr_eq _ (by rw [List.length_map]; omega)]
    rfl
end Go.Proofs.Ytlhgogjcaegehaa.Sl
namespace Go.Proofs.Ytlhgogjcaegehaa.Sl
open Go.RowKit
set_option linter.unusedVariables false
set_option linter.unusedSimpArgs false
theorem same_loop (a b : List Int) (ha : a.length ≤ 140737488355328) (y : Bool) : ∀ (t u : List Int) (k fuel : Nat), a.drop k = t → b.drop k = u → t.length = u.length → t.length < fuel → ∃ z, f_r01_Same_l1 a b fuel y k = some (if t = u then .go (y, z) else .ret false)
  | [], [], k, fuel + 1, ht, hu, hl, hf => by
    have := nil_drop ht
    exact ⟨k, by rw [f_r01_Same_l1, if_neg (by omega), if_pos rfl]⟩
  | [], d :: u, k, fuel, ht, hu, hl, hf => by simp at hl
  | c :: t, [], k, fuel, ht, hu, hl, hf => by simp at hl
  | c :: t, d :: u, k, fuel + 1, ht, hu, hl, hf => by
    obtain ⟨t1, t2, t3⟩ := at_drop ht
    obtain ⟨u1, u2, u3⟩ := at_drop hu
    simp only [List.length_cons] at hl hf
    obtain ⟨z, hz⟩ := same_loop a b ha y t u (k + 1) fuel t2 u2 (by omega) (by omega)
    rw [f_r01_Same_l1, if_pos (by omega), t1, Option.bind_some, u1, Option.bind_some]
    by_cases hc : c = d
    · rw [if_pos hc, if_pos (by omega), hz]
      subst hc
      refine ⟨z, ?_⟩
      by_cases h : t = u
      · rw [if_pos h, if_pos (by rw [h])]
      · rw [if_neg h, if_neg (by simpa using h)]
    · rw [if_neg hc]
      exact ⟨0, by rw [if_neg (fun h => hc (List.cons.inj h).1)]⟩
theorem same_eq (a b : List Int) (ha : a.length ≤ 140737488355328) : f_r01_Same a b = some (decide (a = b)) := by
  unfold f_r01_Same
  by_cases hl : (a.length : Int) = (b.length : Int)
  · rw [if_pos hl]
    obtain ⟨z, hz⟩ := same_loop a b ha false a b 0 (((a.length : Int)).toNat + 1) rfl rfl (by omega) (by omega)
    rw [hz]
    by_cases h : a = b
    · rw [if_pos h, decide_eq_true h]
      rfl
    · rw [if_neg h, decide_eq_false h]
      rfl
  · rw [if_neg hl, decide_eq_false (fun h => hl (by rw [h]))]
def sameT (a b : Top) : Bool := decide (a.fName = b.fName) && decide (a.fParts = b.fParts)
def sameTs : List Top → List Top → Bool
  | [], [] => true
  | a :: l, b :: m => sameT a b && sameTs l m
  | _, _ => false
theorem sameT_refl (a : Top) : sameT a a = true := by simp [sameT]
theorem sameTs_refl : ∀ l : List Top, sameTs l l = true
  | [] => rfl
  | a :: l => by rw [sameTs, sameT_refl, sameTs_refl l]; rfl
theorem sameTs_len : ∀ (l m : List Top), sameTs l m = true → l.length = m.length
  | [], [], h => rfl
  | [], b :: m, h => nomatch h
  | a :: l, [], h => nomatch h
  | a :: l, b :: m, h => by
    rw [sameTs, Bool.and_eq_true] at h
    rw [List.length_cons, List.length_cons, sameTs_len l m h.2]
theorem rsame_loop (a0 a1 : List Top) (h0 : a0.length ≤ 1000000) (y : Bool) : ∀ (l u : List Top) (k fuel : Nat), (∀ t, t ∈ l → t.fParts.length ≤ 140737488355328) → a0.drop k = l → a1.drop k = u → l.length = u.length → l.length < fuel → ∃ z, f_r14_SameTopics_l1 a0 a1 fuel y k = some (if sameTs l u = true then .go (y, z) else .ret false)
  | [], [], k, fuel + 1, hw, ht, hu, hl, hf => by
    have := nil_drop ht
    exact ⟨k, by rw [f_r14_SameTopics_l1, if_neg (by omega)]; rfl⟩
  | [], d :: u, k, fuel, hw, ht, hu, hl, hf => by simp at hl
  | c :: l, [], k, fuel, hw, ht, hu, hl, hf => by simp at hl
  | c :: l, d :: u, k, fuel + 1, hw, ht, hu, hl, hf => by
    obtain ⟨t1, t2, t3⟩ := at_drop ht
    obtain ⟨u1, u2, u3⟩ := at_drop hu
    simp only [List.length_cons] at hl hf
    obtain ⟨z, hz⟩ := rsame_loop a0 a1 h0 y l u (k + 1) fuel (fun t ht => hw t (.tail _ ht)) t2 u2 (by omega) (by omega)
    rw [f_r14_SameTopics_l1, if_pos (by omega), t1, Option.bind_some, u1, Option.bind_some, sameTs, sameT, same_eq _ _ (hw c (.head _))]
    by_cases hc : c.fName = d.fName
    · rw [if_pos hc, decide_eq_true hc, Option.bind_some, Bool.true_and]
      cases decide (c.fParts = d.fParts) with
      | false => exact ⟨0, rfl⟩
      | true =>
        rw [if_pos rfl, if_pos (by omega), Bool.true_and]
        exact ⟨z, hz⟩
    · rw [if_neg hc, decide_eq_false hc]
      exact ⟨0, rfl⟩
theorem rsame_eq (a b : List Top) (h0 : a.length ≤ 1000000) (ha : ∀ t, t ∈ a → t.fParts.length ≤ 140737488355328) : f_r14_SameTopics a b = some (sameTs a b) := by
  unfold f_r14_SameTopics
  by_cases hl : (a.length : Int) = (b.length : Int)
  · obtain ⟨z, hz⟩ := rsame_loop a b h0 false a b 0 (((a.length : Int)).toNat + 1) ha rfl rfl (by omega) (by omega)
    rw [if_pos hl, hz]
    cases sameTs a b <;> rfl
  · rw [if_neg hl]
    have : sameTs a b = false := by
      cases h : sameTs a b with
      | false => rfl
      | true => exact absurd (congrArg Int.ofNat (sameTs_len a b h)) hl
    rw [this]
def wT (t : Top) : Nat := t.fName.length + 4 * t.fParts.length + 6
def wTs : List Top → Nat
  | [] => 0
  | t :: l => wT t + wTs l
theorem few_loop (y : Int) : ∀ (l : List Top) (acc : Int), (∀ t, t ∈ l → wf_Top t) → 0 ≤ acc → acc ≤ 1000 → (f_l14_Few_l1 l y acc = some (.ret 0)) ∨ (∃ z, f_l14_Few_l1 l y acc = some (.go z) ∧ acc + wTs l ≤ 1000)
  | [], acc, hw, h0, h1 => .inr ⟨_, rfl, by simp [wTs]; omega⟩
  | t :: l, acc, hw, h0, h1 => by
    have ht := hw t (.head _)
    have ht1 : t.fName.length ≤ 140737488351232 := ht.1
    have ht2 : t.fParts.length ≤ 140737488351232 := ht.2.1
    rw [f_l14_Few_l1, if_pos (by omega), if_pos (by omega), if_pos (by omega), if_pos (by omega)]
    by_cases hc : (acc + (((t.fName.length : Int) + (4 * (t.fParts.length : Int))) + 6)) > 1000
    · rw [if_pos hc]
      exact .inl rfl
    · rw [if_neg hc]
      rcases few_loop y l _ (fun u hu => hw u (.tail _ hu)) (by omega) (show acc + (((t.fName.length : Int) + (4 * (t.fParts.length : Int))) + 6) ≤ 1000 by omega) with h | ⟨z, h, h2⟩
      · exact .inl h
      · exact .inr ⟨z, h, by simp only [wTs, wT]; omega⟩
theorem few_eq (l : List Top) (hw : ∀ t, t ∈ l → wf_Top t) : (f_l14_Few l = some 0) ∨ (f_l14_Few l = some 1 ∧ wTs l ≤ 1000) := by
  unfold f_l14_Few
  rcases few_loop 0 l 0 hw (by decide) (by decide) with h | ⟨z, h, h2⟩
  · exact .inl (by rw [h]; rfl)
  · exact .inr ⟨by rw [h]; rfl, by omega⟩
theorem wTs_len : ∀ l : List Top, l.length * 6 ≤ wTs l
  | [] => by simp [wTs]
  | t :: l => by have := wTs_len l; simp only [wTs, wT, List.length_cons]; omega
theorem wTs_mem : ∀ (l : List Top) (t : Top), t ∈ l → wT t ≤ wTs l
  | u :: l, t, h => by
    rcases List.mem_cons.1 h with rfl | h
    · simp only [wTs]; omega
    · have := wTs_mem l t h; simp only [wTs]; omega
theorem encs_len4 : ∀ l : List Int, (encs (fun n => be n 4) l).length = 4 * l.length
  | [] => rfl
  | n :: l => by rw [encs, List.length_append, be_length, encs_len4 l, List.length_cons]; omega
theorem encT_len (t : Top) : (encT t).length = wT t := by
  simp only [encT, List.length_append, be_length, encs_len4, wT]
  omega
theorem encTs_len : ∀ l : List Top, (encs encT l).length = wTs l
  | [] => rfl
  | t :: l => by rw [encs, List.length_append, encT_len, encTs_len l, wTs]
theorem put_l2 : ∀ (l : List Int) (t : List UInt8), (∀ n, n ∈ l → fits n 4 = true) → t.length + 4 * l.length ≤ 1000000000 → f_value_PutTopics_l2 l (t, 0) = some (t ++ encs (fun n => be n 4) l, 0)
  | [], t, h, hl => by rw [f_value_PutTopics_l2, encs, List.append_nil]
  | n :: l, t, h, hl => by
    rw [List.length_cons] at hl
    rw [f_value_PutTopics_l2, gOInt_z (h n (.head _)) (by omega), Option.bind_some, put_l2 l _ (fun m hm => h m (.tail _ hm)) (by rw [List.length_append, be_length]; show t.length + 4 + 4 * l.length ≤ _; omega), encs, List.append_assoc]
    rfl
theorem gPutText_z {t d : List UInt8} (hf : d.length ≤ 32767) (ht : t.length ≤ 1000000000) : gPutText (t, 0) d = some (t ++ (be (d.length : Int) 2 ++ d), 0) := by
  rw [gPutText_eq _ _ (by simp only; omega)]
  have := gPutFixed_z (t := t) (b := ⟨false, d⟩) (k := 2) (fits_small (.inl rfl) (show -32768 ≤ (d.length : Int) by omega) (show (d.length : Int) ≤ 32767 by omega)) rfl (by simp only; omega)
  rw [gPutFixed_eq _ _ _ ⟨by decide, by simp only; omega⟩] at this
  exact this
theorem put_l1 : ∀ (l : List Top) (t : List UInt8), (∀ x, x ∈ l → okT x) → t.length + wTs l ≤ 1000000 → wTs l ≤ 2000 → f_value_PutTopics_l1 l (t, 0) = some (t ++ encs encT l, 0)
  | [], t, h, hl, hw => by rw [f_value_PutTopics_l1, encs, List.append_nil]
  | x :: l, t, h, hl, hw => by
    obtain ⟨h1, h2, h3⟩ := h x (.head _)
    simp only [wTs, wT] at hl hw
    rw [f_value_PutTopics_l1, gPutText_z (by omega) (by omega), Option.bind_some, gOInt_z h2 (by simp only [List.length_append, be_length]; omega), Option.bind_some, put_l2 _ _ h3 (by simp only [List.length_append, be_length]; show _ + (4 : Int).toNat + _ ≤ _; omega), Option.bind_some, put_l1 l _ (fun y hy => h y (.tail _ hy)) (by simp only [List.length_append, be_length, encs_len4]; show _ + (4 : Int).toNat + _ + _ ≤ _; omega) (by omega)]
    simp only [encs, encT, List.append_assoc]
    rfl
theorem put_topics (l : List Top) (t : List UInt8) (h : ∀ x, x ∈ l → okT x) (ht : t.length ≤ 900000) (hw : wTs l ≤ 2000) : f_value_PutTopics (t, 0) l = some (t ++ (be (l.length : Int) 4 ++ encs encT l), 0) := by
  have := wTs_len l
  unfold f_value_PutTopics
  rw [gOInt_z (fits_small (.inr (.inl rfl)) (by omega) (by omega)) (by omega), Option.bind_some, put_l1 l _ h (by simp only [List.length_append, be_length]; show _ + (4 : Int).toNat + _ ≤ _; omega) hw, List.append_assoc]
  rfl
end Go.Proofs.Ytlhgogjcaegehaa.Sl
namespace Go.Proofs.Ytlhgogjcaegehaa.Sl
open Go.RowKit
set_option linter.unusedVariables false
set_option linter.unusedSimpArgs false
theorem fits_2 (n : Int) : fits n 2 = decide (-32768 ≤ n ∧ n ≤ 32767) := by
  rw [Bool.eq_iff_iff]
  unfold fits
  simp only [Bool.and_eq_true, decide_eq_true_eq]
  have : (2 : Int) ^ (8 * (2 : Int).toNat - 1) = 32768 := by decide
  omega
theorem fits_8 (n : Int) : fits n 8 = decide (-9223372036854775808 ≤ n ∧ n ≤ 9223372036854775807) := by
  rw [Bool.eq_iff_iff]
  unfold fits
  simp only [Bool.and_eq_true, decide_eq_true_eq]
  have : (2 : Int) ^ (8 * (8 : Int).toNat - 1) = 9223372036854775808 := by decide
  omega
theorem fits_1 (n : Int) : fits n 1 = decide (-128 ≤ n ∧ n ≤ 127) := by
  rw [Bool.eq_iff_iff]
  unfold fits
  simp only [Bool.and_eq_true, decide_eq_true_eq]
  have : (2 : Int) ^ (8 * (1 : Int).toNat - 1) = 128 := by decide
  omega
def badR (v : Val) : Prop := v.fProducer < 0 ∨ v.fEpoch < 0 ∨ v.fEpoch > 32767 ∨ v.fTimeout < 0 ∨ v.fTimeout > 2147483647 ∨ v.fUpdated < 0 ∨ v.fStarted < -1
def badC (v : Val) : Prop := ¬ ((1 ≤ v.fState ∧ v.fState ≤ 3) ↔ 0 < (v.fTopics.length : Int)) ∨ ¬ (v.fState = 0 ↔ v.fStarted = -1)
open Classical in
noncomputable def chkV (v : Val) : Int := if badR v then 11 else if v.fState < 0 ∨ v.fState > 6 then 12 else if badC v then 10 else if okts v.fTopics = true then 0 else 13
set_option maxHeartbeats 4000000 in
theorem vcheck_eq (v : Val) (hw : wf_Val v) (hl : v.fTopics.length ≤ 1000000) : f_value_Check v = some (chkV v) := by
  unfold f_value_Check chkV
  rw [vtopics_eq _ hw.2.2.2.2.1.2 hl, gFits_eq _ _ hw.2.1, gFits_eq _ _ hw.2.2.1, fits_2, fits_4]
  generalize okts v.fTopics = b
  by_cases hr : badR v
  · rw [if_pos hr]
    unfold badR at hr
    by_cases c1 : v.fProducer < 0
    · rw [if_pos c1]
    rw [if_neg c1]
    by_cases c2 : v.fEpoch < 0
    · rw [if_pos c2]
    rw [if_neg c2, Option.bind_some]
    by_cases c3 : -32768 ≤ v.fEpoch ∧ v.fEpoch ≤ 32767
    · rw [if_pos (decide_eq_true c3)]
      by_cases c4 : v.fTimeout < 0
      · rw [if_pos c4]
      rw [if_neg c4, Option.bind_some]
      by_cases c5 : -2147483648 ≤ v.fTimeout ∧ v.fTimeout ≤ 2147483647
      · rw [if_pos (decide_eq_true c5)]
        by_cases c6 : v.fUpdated < 0
        · rw [if_pos c6]
        rw [if_neg c6, if_pos (by omega)]
      · rw [if_neg (by simp only [decide_eq_true_eq]; exact c5)]
    · rw [if_neg (by simp only [decide_eq_true_eq]; exact c3)]
  rw [if_neg hr]
  unfold badR at hr
  rw [if_neg (by omega), if_neg (by omega), Option.bind_some, if_pos (decide_eq_true (by omega)), if_neg (by omega), Option.bind_some, if_pos (decide_eq_true (by omega)), if_neg (by omega), if_neg (by omega)]
  unfold f_value_Idle
  by_cases hs : v.fState < 0 ∨ v.fState > 6
  · rw [if_pos hs]
    by_cases c1 : v.fState < 0
    · rw [if_pos c1]
    · rw [if_neg c1, if_pos (by omega)]
  rw [if_neg hs, if_neg (by omega), if_neg (by omega)]
  by_cases hc : badC v
  · rw [if_pos hc]
    unfold badC at hc
    by_cases c0 : v.fState = 0
    · rw [if_pos c0, Option.bind_some, if_pos rfl]
      by_cases c1 : (v.fTopics.length : Int) = 0
      · rw [if_pos c1, if_pos c0, if_neg (by omega)]
      · rw [if_neg c1]
    · rw [if_neg c0]
      by_cases c4 : v.fState ≥ 4
      · rw [if_pos c4, Option.bind_some, if_pos rfl]
        by_cases c1 : (v.fTopics.length : Int) = 0
        · rw [if_pos c1, if_neg c0, if_pos (by omega)]
        · rw [if_neg c1]
      · rw [if_neg c4, Option.bind_some, if_neg (by decide)]
        by_cases c1 : (v.fTopics.length : Int) = 0
        · rw [if_pos c1]
        · rw [if_neg c1, if_neg c0, if_pos (by omega)]
  rw [if_neg hc]
  unfold badC at hc
  by_cases c0 : v.fState = 0
  · rw [if_pos c0, Option.bind_some, if_pos rfl, if_pos (by omega), if_pos c0, if_pos (by omega)]
    cases b <;> rfl
  · rw [if_neg c0]
    by_cases c4 : v.fState ≥ 4
    · rw [if_pos c4, Option.bind_some, if_pos rfl, if_pos (by omega), if_neg c0, if_neg (by omega)]
      cases b <;> rfl
    · rw [if_neg c4, Option.bind_some, if_neg (by decide), if_neg (by omega), if_neg c0, if_neg (by omega)]
      cases b <;> rfl
theorem chk_zero {v : Val} (h : chkV v = 0) : ¬ badR v ∧ ¬ (v.fState < 0 ∨ v.fState > 6) ∧ ¬ badC v ∧ okts v.fTopics = true := by
  unfold chkV at h
  split at h
  · exact absurd h (by decide)
  · rename_i h1
    split at h
    · exact absurd h (by decide)
    · rename_i h2
      split at h
      · exact absurd h (by decide)
      · rename_i h3
        split at h
        · rename_i h4
          exact ⟨h1, h2, h3, h4⟩
        · exact absurd h (by decide)
theorem okts_ok {l : List Top} (h : okts l = true) (hw : wTs l ≤ 2000) : ∀ t, t ∈ l → okT t := by
  intro t ht
  unfold okts at h
  rw [Bool.and_eq_true] at h
  have h1 := List.all_eq_true.1 h.1 t ht
  unfold oktB okps at h1
  simp only [Bool.and_eq_true, decide_eq_true_eq, List.all_eq_true] at h1
  have h2 := wTs_mem l t ht
  unfold wT at h2
  refine ⟨fits_small (.inl rfl) (by omega) (by omega), fits_small (.inr (.inl rfl)) (by omega) (by omega), fun n hn => ?_⟩
  have h3 := h1.2.1.1 n hn
  unfold okn at h3
  simp only [Bool.and_eq_true, decide_eq_true_eq] at h3
  rw [fits_4]
  exact decide_eq_true (by omega)
def encV (v : Val) : List UInt8 := be 0 2 ++ (be v.fProducer 8 ++ (be v.fEpoch 2 ++ (be v.fTimeout 4 ++ (be v.fState 1 ++ ((be (v.fTopics.length : Int) 4 ++ encs encT v.fTopics) ++ (be v.fUpdated 8 ++ be v.fStarted 8))))))
def pEnd : Pr Unit := fun s q => if q = s.length then .ok ((), q) else .error 2
def pVal0 : Pr Val := (pInt 2).bind fun z => if z = 0 then (pInt 8).bind fun a => (pInt 2).bind fun b => (pInt 4).bind fun c => (pInt 1).bind fun d => (pRow 4 6 pTopic).bind fun l => (pInt 8).bind fun e => (pInt 8).bind fun f => pEnd.bind fun _ => .ret ⟨a, b, c, d, l, e, f⟩ else .err 7
def okV (v : Val) : Prop := fits v.fProducer 8 = true ∧ fits v.fEpoch 2 = true ∧ fits v.fTimeout 4 = true ∧ fits v.fState 1 = true ∧ (fits (v.fTopics.length : Int) 4 = true ∧ ∀ t, t ∈ v.fTopics → okT t) ∧ fits v.fUpdated 8 = true ∧ fits v.fStarted 8 = true
theorem val_spell {s : List UInt8} {v : Val} {r : Nat} (h : pVal0 s 0 = .ok (v, r)) : s = encV v ∧ okV v := by
  obtain ⟨z, q0, h0, h⟩ := Pr.bind_ok h
  split at h
  · rename_i hz
    subst hz
    obtain ⟨a, q1, h1, h⟩ := Pr.bind_ok h
    obtain ⟨b, q2, h2, h⟩ := Pr.bind_ok h
    obtain ⟨c, q3, h3, h⟩ := Pr.bind_ok h
    obtain ⟨d, q4, h4, h⟩ := Pr.bind_ok h
    obtain ⟨l, q5, h5, h⟩ := Pr.bind_ok h
    obtain ⟨e, q6, h6, h⟩ := Pr.bind_ok h
    obtain ⟨f, q7, h7, h⟩ := Pr.bind_ok h
    obtain ⟨u, q8, h8, h⟩ := Pr.bind_ok h
    injection h with h
    obtain ⟨rfl, rfl⟩ := Prod.mk.inj h
    have I2 := Sp_int 2 (by decide) (by decide)
    have I8 := Sp_int 8 (by decide) (by decide)
    obtain ⟨-, a2, -, a4, a5⟩ := I2.spell _ _ _ _ (Nat.zero_le _) h0
    obtain ⟨-, b2, -, b4, b5⟩ := I8.spell _ _ _ _ a2 h1
    obtain ⟨-, c2, -, c4, c5⟩ := I2.spell _ _ _ _ b2 h2
    obtain ⟨-, d2, -, d4, d5⟩ := (Sp_int 4 (by decide) (by decide)).spell _ _ _ _ c2 h3
    obtain ⟨-, e2, -, e4, e5⟩ := (Sp_int 1 (by decide) (by decide)).spell _ _ _ _ d2 h4
    obtain ⟨-, f2, -, f4, f5⟩ := Sp_topics.spell _ _ _ _ e2 h5
    obtain ⟨-, g2, -, g4, g5⟩ := I8.spell _ _ _ _ f2 h6
    obtain ⟨-, i2, -, i4, i5⟩ := I8.spell _ _ _ _ g2 h7
    have hq : q7 = s.length := by
      unfold pEnd at h8
      split at h8
      · rename_i hh; exact hh
      · exact nomatch h8
    refine ⟨?_, b5, c5, d5, e5, f5, g5, i5⟩
    have hs : s = s.take q7 := by rw [hq, List.take_length]
    rw [hs, i4, g4, f4, e4, d4, c4, b4, a4]
    simp only [encV, List.append_assoc, List.take_zero, List.nil_append]
  · exact nomatch h
theorem val_back {v : Val} (h : okV v) : ∃ r, pVal0 (encV v) 0 = .ok (v, r) := by
  obtain ⟨h1, h2, h3, h4, h5, h6, h7⟩ := h
  have I2 := Sp_int 2 (by decide) (by decide)
  have I8 := Sp_int 8 (by decide) (by decide)
  have hlen : (encV v).length = 37 + (encs encT v.fTopics).length := by
    simp only [encV, List.length_append, be_length]
    omega
  have hd : (encV v).drop 0 = encV v := rfl
  generalize hE : encV v = E at hd hlen ⊢
  have hh : E.drop 0 = be 0 2 ++ (be v.fProducer 8 ++ (be v.fEpoch 2 ++ (be v.fTimeout 4 ++ (be v.fState 1 ++ ((be (v.fTopics.length : Int) 4 ++ encs encT v.fTopics) ++ (be v.fUpdated 8 ++ (be v.fStarted 8 ++ []))))))) := by
    rw [hd, ← hE]
    simp only [encV, List.append_nil]
  have g0 := I2.back _ _ _ 0 (Nat.zero_le _) (fits_small (.inl rfl) (by decide) (by decide)) hh
  have hh := drop_step hh
  rw [be_length] at hh g0
  have g1 := I8.back _ _ _ _ (by omega) h1 hh
  have hh := drop_step hh
  rw [be_length] at hh g1
  have g2 := I2.back _ _ _ _ (by omega) h2 hh
  have hh := drop_step hh
  rw [be_length] at hh g2
  have g3 := (Sp_int 4 (by decide) (by decide)).back _ _ _ _ (by omega) h3 hh
  have hh := drop_step hh
  rw [be_length] at hh g3
  have g4 := (Sp_int 1 (by decide) (by decide)).back _ _ _ _ (by omega) h4 hh
  have hh := drop_step hh
  rw [be_length] at hh g4
  have g5 := Sp_topics.back _ _ _ _ (by omega) h5 hh
  have hh := drop_step hh
  rw [List.length_append, be_length] at hh g5
  have g6 := I8.back _ _ _ _ (by omega) h6 hh
  have hh := drop_step hh
  rw [be_length] at hh g6
  have g7 := I8.back _ _ _ _ (by omega) h7 hh
  rw [be_length] at g7
  refine ⟨E.length, ?_⟩
  rw [pVal0, Pr.bind_of g0, if_pos rfl, Pr.bind_of g1, Pr.bind_of g2, Pr.bind_of g3, Pr.bind_of g4, Pr.bind_of g5, Pr.bind_of g6, Pr.bind_of g7]
  have he : 0 + 2 + 8 + 2 + 4 + 1 + (4 + (encs encT v.fTopics).length) + 8 + 8 = E.length := by omega
  rw [he, Pr.bind_of (a := ()) (r := E.length) (by unfold pEnd; rw [if_pos rfl])]
  rfl
def zVal : Val := ⟨0, 0, 0, 0, [], 0, 0⟩
theorem gClose_d {st : I} (h : st.err ≠ 0) : gClose st = some (st.err, st) := by rw [gClose_eq, iclose_err h]
theorem okV_wf {v : Val} (h : okV v) (hl : wTs v.fTopics ≤ 1000000) : wf_Val v := by
  obtain ⟨h1, h2, h3, h4, h5, h6, h7⟩ := h
  have hn := wTs_len v.fTopics
  refine ⟨fits_rng h1, fits_rng h2, fits_rng h3, fits_rng h4, ⟨by omega, fun t ht => ?_⟩, fits_rng h6, fits_rng h7⟩
  have hw := wTs_mem _ _ ht
  unfold wT at hw
  exact ⟨show t.fName.length ≤ _ by omega, by omega, fun n hn => fits_rng ((h5.2 t ht).2.2 n hn)⟩
open Classical in
noncomputable def decV (s : List UInt8) : Val × Int := match pVal0 s 0 with
  | .error e => (zVal, e)
  | .ok (v, _) => if chkV v = 0 then (v, 0) else (zVal, chkV v)
theorem encV_len (v : Val) : (encV v).length = 37 + wTs v.fTopics := by
  simp only [encV, List.length_append, be_length, encTs_len]
  omega
theorem vdecode_eq (s : List UInt8) (hs : s.length ≤ 2000) : f_value_Decode s = some (decV s) := by
  unfold f_value_Decode decV
  rw [gNew_eq _ (by omega), Option.bind_some]
  have Q1' := Q1
  have hB := B_topics
  have r0 := Q2.run s 0 (Nat.zero_le _)
  rw [List.drop_zero] at r0
  rcases r0 with ⟨e, st, p0, g0, x0, y0⟩ | ⟨z, q0, p0, g0, n0, l0⟩
  · rw [show pVal0 s 0 = .error e from Pr.bind_err p0, g0]
    simp only [Option.bind_some, if_true, gInt_d y0, hB.dead _ y0, gClose_d y0, if_neg y0, x0]
    rw [if_neg (by rw [← x0]; exact y0)]
    rfl
  rw [g0, Option.bind_some]
  simp only
  by_cases hz : z = 0
  · have hp : pVal0 s 0 = ((pInt 8).bind fun a => (pInt 2).bind fun b => (pInt 4).bind fun c => (pInt 1).bind fun d => (pRow 4 6 pTopic).bind fun l => (pInt 8).bind fun e => (pInt 8).bind fun f => pEnd.bind fun _ => .ret (⟨a, b, c, d, l, e, f⟩ : Val)) s q0 := by rw [pVal0, Pr.bind_of p0, if_pos hz]
    rw [if_pos hz]
    have hval := fun v r (h : pVal0 s 0 = .ok (v, r)) => val_spell h
    rw [hp] at hval ⊢
    clear hp
    rcases Q8.run s q0 l0 with ⟨e, st, p1, g1, x1, y1⟩ | ⟨a, q1, p1, g1, n1, l1⟩
    · rw [Pr.bind_err p1, g1]
      simp only [Option.bind_some, gInt_d y1, hB.dead _ y1, gClose_d y1, x1]
      rw [if_neg (by rw [← x1]; exact y1)]
      rfl
    rw [g1, Option.bind_some]
    simp only
    rw [Pr.bind_of p1] at hval ⊢
    rcases Q2.run s q1 l1 with ⟨e, st, p2, g2, x2, y2⟩ | ⟨b, q2, p2, g2, n2, l2⟩
    · rw [Pr.bind_err p2, g2]
      simp only [Option.bind_some, gInt_d y2, hB.dead _ y2, gClose_d y2, x2]
      rw [if_neg (by rw [← x2]; exact y2)]
      rfl
    rw [g2, Option.bind_some]
    simp only
    rw [Pr.bind_of p2] at hval ⊢
    rcases Q4.run s q2 l2 with ⟨e, st, p3, g3, x3, y3⟩ | ⟨c, q3, p3, g3, n3, l3⟩
    · rw [Pr.bind_err p3, g3]
      simp only [Option.bind_some, gInt_d y3, hB.dead _ y3, gClose_d y3, x3]
      rw [if_neg (by rw [← x3]; exact y3)]
      rfl
    rw [g3, Option.bind_some]
    simp only
    rw [Pr.bind_of p3] at hval ⊢
    rcases Q1.run s q3 l3 with ⟨e, st, p4, g4, x4, y4⟩ | ⟨d, q4, p4, g4, n4, l4⟩
    · rw [Pr.bind_err p4, g4]
      simp only [Option.bind_some, gInt_d y4, hB.dead _ y4, gClose_d y4, x4]
      rw [if_neg (by rw [← x4]; exact y4)]
      rfl
    rw [g4, Option.bind_some]
    simp only
    rw [Pr.bind_of p4] at hval ⊢
    rcases hB.run s q4 (by omega) l4 with ⟨e, st, p5, g5, x5, y5⟩ | ⟨l, q5, p5, g5, n5, l5⟩
    · rw [Pr.bind_err p5, g5]
      simp only [Option.bind_some, gInt_d y5, hB.dead _ y5, gClose_d y5, x5]
      rw [if_neg (by rw [← x5]; exact y5)]
      rfl
    rw [g5, Option.bind_some]
    simp only
    rw [Pr.bind_of p5] at hval ⊢
    rcases Q8.run s q5 l5 with ⟨e, st, p6, g6, x6, y6⟩ | ⟨e', q6, p6, g6, n6, l6⟩
    · rw [Pr.bind_err p6, g6]
      simp only [Option.bind_some, gInt_d y6, hB.dead _ y6, gClose_d y6, x6]
      rw [if_neg (by rw [← x6]; exact y6)]
      rfl
    rw [g6, Option.bind_some]
    simp only
    rw [Pr.bind_of p6] at hval ⊢
    rcases Q8.run s q6 l6 with ⟨e, st, p7, g7, x7, y7⟩ | ⟨f, q7, p7, g7, n7, l7⟩
    · rw [Pr.bind_err p7, g7]
      simp only [Option.bind_some, gInt_d y7, hB.dead _ y7, gClose_d y7, x7]
      rw [if_neg (by rw [← x7]; exact y7)]
      rfl
    rw [g7, Option.bind_some]
    simp only
    rw [Pr.bind_of p7] at hval ⊢
    rw [gClose_eq, Option.bind_some]
    simp only
    by_cases hq : q7 = s.length
    · have he : pEnd s q7 = .ok ((), q7) := by unfold pEnd; rw [if_pos hq]
      rw [Pr.bind_of he] at hval ⊢
      have hv := hval _ _ rfl
      have hlen := congrArg List.length hv.1
      rw [encV_len] at hlen
      have hi : (iclose ⟨s.drop q7, q7, 0⟩).err = 0 := by rw [hq, List.drop_length]; rfl
      rw [hi, if_pos rfl, vcheck_eq _ (okV_wf hv.2 (by omega)) (show l.length ≤ 1000000 by have := wTs_len l; simp only at hlen; omega), Option.bind_some]
      show (if _ then _ else _) = some (if _ then _ else _)
      split <;> rfl
    · have he : pEnd s q7 = .error 2 := by unfold pEnd; rw [if_neg hq]
      have hi : (iclose ⟨s.drop q7, q7, 0⟩).err = 2 := by
        unfold iclose
        rw [if_neg]
        · rfl
        · intro h0
          have := List.drop_eq_nil_iff.1 h0
          omega
      rw [Pr.bind_err he, hi, if_neg (by decide)]
      rfl
  · have hp : pVal0 s 0 = .error 7 := by rw [pVal0, Pr.bind_of p0, if_neg hz]; rfl
    rw [if_neg hz, hp, gIFail_eq, Option.bind_some, ifail_z]
    have y : (⟨s.drop q0, q0, 7⟩ : I).err ≠ 0 := by simp
    simp only [Option.bind_some, gInt_d y, hB.dead _ y, gClose_d y]
    rfl
theorem encode_eq (v : Val) (hw : wf_Val v) (hl : wTs v.fTopics ≤ 2000) : f_value_Encode v = some (if chkV v = 0 then (encV v, 0) else ([], chkV v)) := by
  have hn := wTs_len v.fTopics
  unfold f_value_Encode
  rw [vcheck_eq v hw (by omega), Option.bind_some]
  by_cases hc : chkV v = 0
  · obtain ⟨h1, h2, h3, h4⟩ := chk_zero hc
    have hok := okts_ok h4 hl
    unfold badR at h1
    obtain ⟨w1, w2, w3, w4, w5, w6, w7⟩ := hw
    have f8 : ∀ n : Int, wI n → fits n 8 = true := fun n h => by rw [fits_8]; exact decide_eq_true h
    rw [if_pos hc, if_pos hc, gOInt_z (fits_small (.inl rfl) (by decide) (by decide)) (by simp), Option.bind_some, gOInt_z (f8 _ w1) (by simp only [List.length_append, be_length]; decide), Option.bind_some]
    rw [gOInt_z (by rw [fits_2]; exact decide_eq_true (by omega)) (by simp only [List.length_append, be_length]; decide), Option.bind_some]
    rw [gOInt_z (by rw [fits_4]; exact decide_eq_true (by omega)) (by simp only [List.length_append, be_length]; decide), Option.bind_some]
    rw [gOInt_z (by rw [fits_1]; exact decide_eq_true (by omega)) (by simp only [List.length_append, be_length]; decide), Option.bind_some]
    rw [put_topics _ _ hok (by simp only [List.length_append, be_length]; decide) hl, Option.bind_some]
    have hx : (2 : Int).toNat = 2 ∧ (8 : Int).toNat = 8 ∧ (4 : Int).toNat = 4 ∧ (1 : Int).toNat = 1 := ⟨rfl, rfl, rfl, rfl⟩
    rw [gOInt_z (f8 _ w6) (by simp only [List.length_append, be_length, encTs_len, hx, List.length_nil]; omega), Option.bind_some, gOInt_z (f8 _ w7) (by simp only [List.length_append, be_length, encTs_len, hx, List.length_nil]; omega), Option.bind_some, gOText_eq, otx_z, Option.bind_some]
    simp only [encV, List.append_assoc, List.nil_append, hx]
  · rw [if_neg hc, if_neg hc]
end Go.Proofs.Ytlhgogjcaegehaa.Sl
namespace Go.Proofs.Ytlhgogjcaegehaa.Sl
open Go.RowKit
set_option linter.unusedVariables false
set_option linter.unusedSimpArgs false
def encK (l : List UInt8) : List UInt8 := be 0 2 ++ (be (l.length : Int) 2 ++ l)
theorem kr_fits {l : List UInt8} (h : kright l = true) : fits (l.length : Int) 2 = true ∧ l.length ≤ 32767 ∧ l ≠ [] := by
  unfold kright at h
  simp only [Bool.and_eq_true, decide_eq_true_eq, Bool.not_eq_true'] at h
  refine ⟨fits_small (.inl rfl) (by omega) (by omega), by omega, fun h0 => ?_⟩
  rw [h0] at h
  exact absurd h.1 (by decide)
theorem kenc_good {l : List UInt8} (h : kright l = true) : kenc l = (encK l, 0) := by
  obtain ⟨h1, h2, h3⟩ := kr_fits h
  have hb : bright ⟨false, l⟩ = true := rfl
  have hbl : blen ⟨false, l⟩ = (l.length : Int) := by simp [blen]
  unfold kenc
  rw [if_pos h]
  unfold bputText bputFixed bwrite oint
  rw [if_pos hb, hbl, if_pos h1, if_pos (show fits 0 2 = true by decide), oput_z, oput_z, oput_z, otx_z]
  simp only [encK, List.nil_append, List.append_assoc]
  rfl
theorem kenc_bad {l : List UInt8} (h : kright l = false) : kenc l = ([], 4) := by
  unfold kenc
  rw [h]
  rfl
theorem kdec_enc {l : List UInt8} (h : kright l = true) : kdec (encK l) = (l, 0) := by
  obtain ⟨h1, h2, h3⟩ := kr_fits h
  have hlen : (encK l).length = 2 + (2 + l.length) := by simp only [encK, List.length_append, be_length]
  have ha : kdA (encK l) = ⟨(encK l).drop 2, 2, 0⟩ := by
    unfold kdA
    have := iint_ok (encK l) 0 2 (by decide) (by decide) (by omega)
    have e : beInt ((encK l).take 2) = 0 := by
      unfold encK
      rw [List.take_append_of_le_length (by rw [be_length]; omega), List.take_of_length_le (by rw [be_length]; omega)]
      decide
    rw [show (2 : Int) = ((2 : Nat) : Int) from rfl, this, e]
    rfl
  have hd : (encK l).drop 2 = (be (l.length : Int) 2 ++ l) ++ [] := by
    unfold encK
    rw [List.append_nil, List.drop_append_of_le_length (by rw [be_length]; omega), List.drop_of_length_le (by rw [be_length]; omega), List.nil_append]
  have hb := Sp_text.back (encK l) [] 2 l (by omega) ⟨h1, rfl⟩ hd
  have ht : btext ⟨(encK l).drop 2, 2, 0⟩ = (l, ⟨[], 2 + (2 + l.length), 0⟩) := by
    rcases QT.run (encK l) 2 (by omega) with ⟨e, st, p1, g1, x1, y1⟩ | ⟨b, r, p1, g1, n1, l1⟩
    · rw [hb] at p1
      exact nomatch p1
    · rw [hb] at p1
      injection p1 with p1
      obtain ⟨rfl, rfl⟩ := Prod.mk.inj p1
      rw [gText_eq] at g1
      have g1 := Option.some.inj g1
      have : 2 + (be (l.length : Int) 2 ++ l).length = (encK l).length := by rw [hlen, List.length_append, be_length]
      rw [this, List.drop_length, hlen] at g1
      exact g1
  unfold kdec
  rw [ha, ht]
  unfold kdB
  simp only
  rw [if_neg h3]
  rfl
end Go.Proofs.Ytlhgogjcaegehaa.Sl
namespace Go.Proofs.Ytlhgogjcaegehaa.Sl
open Go.RowKit Go.Maps Go.WideMaps
set_option linter.unusedVariables false
set_option linter.unusedSimpArgs false
def mins {α : Type} (k : List UInt8) (x : α) : List (List UInt8 × α) → List (List UInt8 × α)
  | [] => [(k, x)]
  | y :: r => if bytesBefore k y.1 = true then (k, x) :: y :: r else y :: mins k x r
def mrem {α : Type} (k : List UInt8) : List (List UInt8 × α) → List (List UInt8 × α)
  | [] => []
  | y :: r => if y.1 == k then mrem k r else y :: mrem k r
def mput {α : Type} (k : List UInt8) (x : α) (l : List (List UInt8 × α)) : List (List UInt8 × α) := mins k x (mrem k l)
def mget {α : Type} (k : List UInt8) : List (List UInt8 × α) → Option α
  | [] => none
  | y :: r => if y.1 == k then some y.2 else mget k r
def mhas {α : Type} (k : List UInt8) (l : List (List UInt8 × α)) : Bool := (mget k l).isSome
def tokR : Value → Option (DataW Value × List MemPlace) := fun v => some (.held v, [])
section
variable {α : Type} {E : Rd α} {w w' : World} {S S' : Nat → Prop} {k : List UInt8} {x : α}
def Ents (E : Rd α) (w : World) (S : Nat → Prop) : List (Lit × DataW Value) → List (List UInt8 × α) → Prop
  | [], [] => True
  | p :: es, y :: l => p.1 = .string y.1 ∧ (∃ cs : List Value, p.2 = .held (.agg cs.toArray) ∧ E.P w S cs y.2) ∧ Ents E w S es l
  | [], _ :: _ => False
  | _ :: _, [] => False
theorem Ents.mono : ∀ {es : List (Lit × DataW Value)} {l : List (List UInt8 × α)}, Ents E w S es l → (∀ k, S k → S' k) → Ents E w S' es l
  | [], [], _, _ => trivial
  | _ :: _, _ :: _, ⟨h1, ⟨cs, h2, h3⟩, h4⟩, k => ⟨h1, ⟨cs, h2, E.mono h3 k⟩, h4.mono k⟩
  | [], _ :: _, h, _ => h.elim
  | _ :: _, [], h, _ => h.elim
theorem Ents.move : ∀ {es : List (Lit × DataW Value)} {l : List (List UInt8 × α)}, Ents E w S es l → (∀ k, S k → w'.heap[k]? = w.heap[k]?) → Ents E w' S es l
  | [], [], _, _ => trivial
  | _ :: _, _ :: _, ⟨h1, ⟨cs, h2, h3⟩, h4⟩, k => ⟨h1, ⟨cs, h2, E.move h3 k⟩, h4.move k⟩
  | [], _ :: _, h, _ => h.elim
  | _ :: _, [], h, _ => h.elim
theorem Ents.length : ∀ {es : List (Lit × DataW Value)} {l : List (List UInt8 × α)}, Ents E w S es l → es.length = l.length
  | [], [], _ => rfl
  | _ :: _, _ :: _, ⟨_, _, h4⟩ => congrArg (· + 1) h4.length
  | [], _ :: _, h => h.elim
  | _ :: _, [], h => h.elim
theorem Ents.ins {cs : List Value} (hx : E.P w S cs x) : ∀ {es : List (Lit × DataW Value)} {l : List (List UInt8 × α)}, Ents E w S es l → Ents E w S (DataW.insert (.string k, .held (.agg cs.toArray)) es) (mins k x l)
  | [], [], _ => ⟨rfl, ⟨cs, rfl, hx⟩, trivial⟩
  | p :: es, y :: l, ⟨h1, h2, h3⟩ => by
    have e : (Lit.string k).before p.1 = bytesBefore k y.1 := by rw [h1]; rfl
    unfold DataW.insert mins
    show Ents E w S (if (Lit.string k).before p.1 = true then _ else _) _
    rw [e]
    split
    · exact ⟨rfl, ⟨cs, rfl, hx⟩, h1, h2, h3⟩
    · exact ⟨h1, h2, Ents.ins hx h3⟩
  | [], _ :: _, h => h.elim
  | _ :: _, [], h => h.elim
theorem notKey_str {p : Lit × DataW Value} {q : List UInt8} (h : p.1 = .string q) : p.1.sameKey (.string k) = (q == k) := by rw [h]; rfl
theorem Ents.del : ∀ {es : List (Lit × DataW Value)} {l : List (List UInt8 × α)}, Ents E w S es l → Ents E w S (es.filter fun p => !p.1.sameKey (.string k)) (mrem k l)
  | [], [], _ => trivial
  | p :: es, y :: l, ⟨h1, h2, h3⟩ => by
    have ih := Ents.del h3
    have e := notKey_str (k := k) h1
    unfold mrem
    rw [List.filter_cons]
    cases hq : (y.1 == k) with
    | true =>
      rw [hq] at e
      rw [e]
      exact ih
    | false =>
      rw [hq] at e
      rw [e]
      exact ⟨h1, h2, ih⟩
  | [], _ :: _, h => h.elim
  | _ :: _, [], h => h.elim
theorem atKey_cons (p : Lit × DataW Value) (es : List (Lit × DataW Value)) (kl : Lit) (z : DataW Value) : (DataW.map (p :: es)).atKey kl z = if p.1.sameKey kl = true then p.2 else (DataW.map es).atKey kl z := by
  simp only [DataW.atKey, List.find?_cons]
  cases p.1.sameKey kl <;> rfl
theorem Ents.find : ∀ {es : List (Lit × DataW Value)} {l : List (List UInt8 × α)}, Ents E w S es l →
    (mget k l = none ∧ (∀ z, (DataW.map es).atKey (.string k) z = z) ∧ has (.map es) (.string k) = false) ∨
    ∃ (cs : List Value) (x : α), mget k l = some x ∧ (∀ z, (DataW.map es).atKey (.string k) z = .held (.agg cs.toArray)) ∧ has (.map es) (.string k) = true ∧ E.P w S cs x
  | [], [], _ => .inl ⟨rfl, fun _ => rfl, rfl⟩
  | p :: es, y :: l, ⟨h1, ⟨cs, h2, h2'⟩, h3⟩ => by
    have e := notKey_str (k := k) h1
    have eh : has (.map (p :: es)) (.string k) = (p.1.sameKey (.string k) || has (.map es) (.string k)) := rfl
    rw [eh]
    unfold mget
    cases hq : (y.1 == k) with
    | true =>
      rw [hq] at e
      refine .inr ⟨cs, y.2, if_pos rfl, fun z => ?_, by rw [e]; rfl, h2'⟩
      rw [atKey_cons, e, if_pos rfl, h2]
    | false =>
      rw [hq] at e
      rw [if_neg (by decide), e]
      rcases Ents.find h3 with ⟨i1, i2, i3⟩ | ⟨cs', x', i1, i2, i3, i4⟩
      · refine .inl ⟨i1, fun z => ?_, by rw [i3]; rfl⟩
        rw [atKey_cons, e, if_neg (by decide), i2]
      · refine .inr ⟨cs', x', i1, fun z => ?_, by rw [i3]; rfl, i4⟩
        rw [atKey_cons, e, if_neg (by decide), i2]
  | [], _ :: _, h => h.elim
  | _ :: _, [], h => h.elim
end
theorem owns_fit {P : Program} {kt : TypeId} {w : World} {b n : Nat} {es : List (Lit × DataW Value)} (h : w.ownsMap P kt tokR b n (.map es)) : w.ownsMap P kt tokR b es.length (.map es) := by
  obtain ⟨es', clock, hb, F, hs, hD⟩ := h
  refine ⟨es', clock, hb, F, ?_, hD⟩
  injection hD with hD
  rw [hD, length_sorted]
  simp
theorem owns_move {P : Program} {kt : TypeId} {w w' : World} {b n : Nat} {D : DataW Value} (h : w.ownsMap P kt tokR b n D) (hm : w'.heap[b]? = w.heap[b]?) : w'.ownsMap P kt tokR b n D := by
  obtain ⟨es', clock, hb, F, hs, hD⟩ := h
  exact ⟨es', clock, hm.trans hb, F, hs, hD⟩
def MapR {α : Type} (P : Program) (kt : TypeId) (E : Rd α) (b : Nat) (l : List (List UInt8 × α)) : Res where
  P := fun w G => ∃ es S, w.ownsMap P kt tokR b l.length (.map es) ∧ Ents E w S es l ∧ (∀ k, S k → k < w.heap.size) ∧ ¬ S b ∧ ∀ k, G k ↔ k = b ∨ S k
  lt := by
    rintro w G ⟨es, S, h1, h2, h3, h4, h5⟩ k hk
    rcases (h5 k).1 hk with rfl | h
    · exact h1.lt
    · exact h3 k h
  move := by
    rintro w w' G ⟨es, S, h1, h2, h3, h4, h5⟩ hm
    refine ⟨es, S, owns_move h1 (hm b ((h5 b).2 (.inl rfl))), h2.move (fun k hk => hm k ((h5 k).2 (.inr hk))), fun k hk => ?_, h4, h5⟩
    have h6 := h3 k hk
    have h7 := hm k ((h5 k).2 (.inr hk))
    rw [Array.getElem?_eq_getElem h6] at h7
    exact (Array.getElem?_eq_some_iff.1 h7).1
def MapAt (P : Program) (kt : TypeId) (w : World) (b : Nat) (k : List UInt8) (cs : List Value) : Prop := ∃ es n, w.ownsMap P kt tokR b n (.map es) ∧ (∀ z, (DataW.map es).atKey (.string k) z = .held (.agg cs.toArray)) ∧ has (.map es) (.string k) = true
def EntK {α : Type} (B : Res) (P : Program) (kt : TypeId) (b : Nat) (E : Rd α) (k : List UInt8) (cs : List Value) (x : α) : Res where
  P := fun w G => B.P w G ∧ G b ∧ MapAt P kt w b k cs ∧ E.P w G cs x
  lt := fun h => B.lt h.1
  move := fun {w w' G} h hm => ⟨B.move h.1 hm, h.2.1, let ⟨es, n, k1, k2⟩ := h.2.2.1; ⟨es, n, owns_move k1 (hm b h.2.1), k2⟩, E.move h.2.2.2 hm⟩
section
variable {α : Type} {P : Program} {n : Nat} {F0 : Nat → Prop} {w0 w : World} {e : Env} {Rs Rf : List Res} {Q : Exit → Act → World → Prop} {ops : Array Oper} {d : Option Tmp} {i dd : Nat} {ty t kt et b : Nat} {pos : String} {af : Array Edge} {gd : Option (Nat × Bool)} {x y m : Operand} {lr : List Nat} {lo : Sch} {c : Code} {E : Rd α} {l : List (List UInt8 × α)} {k : List UInt8} {u : α} {B : Res} {cs : List Value} {zv : Value}
theorem mkey (hk : P.underlying kt = some .string) (hl : k.length ≤ 140737488355328) : keyOf P kt (.string (bsOf k)) = some (.string k) := by
  have h1 := keyOf_string_mk (s := bsOf k) hk (by rw [bsOf_size]; have : maxLen = 9223372036854775807 := rfl; omega)
  rwa [bsOf_list] at h1
theorem St.focM (j : Nat) (h : St F0 w0 Rs w) (hi : Rs[j]? = some (MapR P kt E b l)) (hx : mget k l = some u) : ∃ cs, (∃ w S, E.P w S cs u) ∧ St F0 w0 (Rs.set j (EntK (MapR P kt E b l) P kt b E k cs u)) w := by
  obtain ⟨f, hs⟩ := h
  obtain ⟨G, hG, h2, h3⟩ := Sep.pick j hi hs
  have hG' := hG
  obtain ⟨es, S, k1, k2, k3, k4, k5⟩ := hG
  rcases k2.find (k := k) with ⟨i1, _⟩ | ⟨cs, x', i1, i2, i3, i4⟩
  · rw [hx] at i1; cases i1
  · rw [hx] at i1
    injection i1 with i1
    subst i1
    exact ⟨cs, ⟨w, S, i4⟩, f, Sep.back j hi ⟨hG', (k5 b).2 (.inl rfl), ⟨es, _, k1, i2, i3⟩, E.mono i4 (fun q hq => (k5 q).2 (.inr hq))⟩ h2 h3⟩
theorem TL.focM (j : Nat) (hi : Rs[j]? = some (MapR P kt E b l)) (hx : mget k l = some u) (h : ∀ cs, (∃ w S, E.P w S cs u) → TL P n F0 w0 ops lr e (Rs.set j (EntK (MapR P kt E b l) P kt b E k cs u)) Q) : TL P n F0 w0 ops lr e Rs Q := by
  intro a w ha hs
  obtain ⟨cs, k1, k2⟩ := hs.focM j hi hx
  exact h cs k1 a w ha k2
theorem T.focM (j : Nat) (hi : Rs[j]? = some (MapR P kt E b l)) (hx : mget k l = some u) (h : ∀ cs, (∃ w S, E.P w S cs u) → T P n F0 w0 e (Rs.set j (EntK (MapR P kt E b l) P kt b E k cs u)) c Q) : T P n F0 w0 e Rs c Q := by
  intro a w ha hs
  obtain ⟨cs, k1, k2⟩ := hs.focM j hi hx
  exact h cs k1 a w ha k2
theorem St.unfM (j : Nat) (h : St F0 w0 Rs w) (hi : Rs[j]? = some (EntK B P kt b E k cs u)) : St F0 w0 (Rs.set j B) w := h.weaken j hi (fun G hG => hG.1)
theorem T.unfM (j : Nat) (hi : Rs[j]? = some (EntK B P kt b E k cs u)) (h : T P n F0 w0 e (Rs.set j B) c Q) : T P n F0 w0 e Rs c Q := fun a w ha hs => h a w ha (hs.unfM j hi)
theorem TL.unfM (j : Nat) (hi : Rs[j]? = some (EntK B P kt b E k cs u)) (h : TL P n F0 w0 ops lr e (Rs.set j B) Q) : TL P n F0 w0 ops lr e Rs Q := fun a w ha hs => h a w ha (hs.unfM j hi)
theorem X.unfM {z : Exit} (j : Nat) (hi : Rs[j]? = some (EntK B P kt b E k cs u)) (h : X n F0 w0 e (Rs.set j B) z Q) : X n F0 w0 e Rs z Q := fun a w ha hs => h a w ha (hs.unfM j hi)
theorem Ex.lookT (j : Nat) (hm : e.ev m = some (.map (some b))) (hy : e.ev y = some (.string (bsOf k))) (ht : P.underlying t = some (.map kt et)) (hk : P.underlying kt = some .string) (hz : ∀ w, (zeroValue et).run P w = .ok zv w) (hl : k.length ≤ 140737488355328) (hi : Rs[j]? = some B) (hB : ∀ w G, B.P w G → MapAt P kt w b k cs) :
    Ex P n e (St F0 w0 Rs) ⟨d, .lookup t m y true, ty, pos, af, gd⟩ (.tuple #[.agg cs.toArray, .bool true]) := by
  intro a w ha hs
  obtain ⟨G, hG, _⟩ := hs.get j hi
  obtain ⟨es, nn, k1, k2, k3⟩ := hB w G hG
  obtain ⟨v, ps, r1, r2⟩ := k1.look_ok (string_keyed hk) ht (hz w) (zd := .held zv) (zp := []) rfl (mkey hk hl)
  have e1 := congrArg Prod.fst (Option.some.inj r2)
  have e2 : (DataW.held v : DataW Value) = .held (.agg cs.toArray) := e1.trans (k2 _)
  injection e2 with e2
  rw [e2, k3] at r1
  simp [execOp, ha.ev hm, ha.ev hy, r1]
theorem Ex.look1 (j : Nat) (hm : e.ev m = some (.map (some b))) (hy : e.ev y = some (.string (bsOf k))) (ht : P.underlying t = some (.map kt et)) (hk : P.underlying kt = some .string) (hz : ∀ w, (zeroValue et).run P w = .ok zv w) (hl : k.length ≤ 140737488355328) (hi : Rs[j]? = some B) (hB : ∀ w G, B.P w G → MapAt P kt w b k cs) :
    Ex P n e (St F0 w0 Rs) ⟨d, .lookup t m y false, ty, pos, af, gd⟩ (.agg cs.toArray) := by
  intro a w ha hs
  obtain ⟨G, hG, _⟩ := hs.get j hi
  obtain ⟨es, nn, k1, k2, k3⟩ := hB w G hG
  obtain ⟨v, ps, r1, r2⟩ := k1.lookup (string_keyed hk) ht (hz w) (zd := .held zv) (zp := []) rfl (mkey hk hl)
  have e1 := congrArg Prod.fst (Option.some.inj r2)
  have e2 : (DataW.held v : DataW Value) = .held (.agg cs.toArray) := e1.trans (k2 _)
  injection e2 with e2
  rw [e2] at r1
  simp [execOp, ha.ev hm, ha.ev hy, r1]
theorem Ex.lookF (j : Nat) (hm : e.ev m = some (.map (some b))) (hy : e.ev y = some (.string (bsOf k))) (ht : P.underlying t = some (.map kt et)) (hk : P.underlying kt = some .string) (hz : ∀ w, (zeroValue et).run P w = .ok zv w) (hl : k.length ≤ 140737488355328) (hi : Rs[j]? = some (MapR P kt E b l)) (hx : mhas k l = false) :
    Ex P n e (St F0 w0 Rs) ⟨d, .lookup t m y true, ty, pos, af, gd⟩ (.tuple #[zv, .bool false]) := by
  intro a w ha hs
  obtain ⟨G, ⟨es, S, k1, k2, k3, k4, k5⟩, _⟩ := hs.get j hi
  obtain ⟨v, ps, r1, r2⟩ := k1.look_ok (string_keyed hk) ht (hz w) (zd := .held zv) (zp := []) rfl (mkey hk hl)
  rcases k2.find (k := k) with ⟨i1, i2, i3⟩ | ⟨cs, x', i1, _⟩
  · have e1 := congrArg Prod.fst (Option.some.inj r2)
    have e2 : (DataW.held v : DataW Value) = .held zv := e1.trans (i2 _)
    injection e2 with e2
    rw [e2, i3] at r1
    simp [execOp, ha.ev hm, ha.ev hy, r1]
  · unfold mhas at hx
    rw [i1] at hx
    cases hx
theorem Ef.mkmap (hd : okd d n = true) (E : Rd α) : Ef P n F0 w0 e Rs ⟨d, .makeMap t none, ty, pos, af, gd⟩ (fun e' Rs' => ∃ b, e' = envput d (.map (some b)) e ∧ Rs' = MapR P kt E b ([] : List (List UInt8 × α)) :: Rs) := by
  intro a w K Q ha hs hk
  have h1 : (execOp a.eval ⟨d, .makeMap t none, ty, pos, af, gd⟩).run P w = .ok (.value (.map (some w.heap.size))) (w.alloc (.map #[] 0)) := by
    simp [execOp, run_makeMap]
  unfold Oper.wp
  rw [h1]
  refine hk _ _ ⟨_, rfl, rfl⟩ _ _ (ha.putd hd) (hs.grow (Ns := [MapR P kt E w.heap.size ([] : List (List UInt8 × α))]) (Fr.of_below ((Below.refl _ _).alloc (Nat.le_refl _) _)) ⟨fun k => k = w.heap.size, ⟨[], fun _ => False, World.ownsMap_made w P kt tokR, trivial, fun _ h => h.elim, fun h => h, fun k => by simp⟩, fun k hk => by omega, trivial⟩)
theorem Ef.mset (j q : Nat) (hm : e.ev m = some (.map (some b))) (hx : e.ev x = some (.string (bsOf k))) (hy : e.ev y = some (.agg cs.toArray)) (ht : P.underlying t = some (.map kt et)) (hk : P.underlying kt = some .string) (hl : l.length + 1 ≤ 140737488355328 ∧ k.length ≤ 140737488355328)
    (hi : Rs[j]? = some (MapR P kt E b l)) (hq : (Rs.eraseIdx j)[q]? = some B) (hE : ∀ w G, B.P w G → E.P w G cs u) :
    Ef P n F0 w0 e Rs ⟨none, .mapUpdate t m x y, ty, pos, af, gd⟩ (fun e' Rs' => e' = e ∧ Rs' = MapR P kt E b (mput k u l) :: (Rs.eraseIdx j).eraseIdx q) := by
  intro a w K Q ha hst hk'
  obtain ⟨f, hs⟩ := hst
  obtain ⟨G, ⟨es, S, k1, k2, k3, k4, k5⟩, g2, g3⟩ := Sep.pick j hi hs
  obtain ⟨G2, b1, b2, b3⟩ := Sep.pick q hq g3
  have hn : l.length < maxLen := by have : maxLen = 9223372036854775807 := rfl; omega
  obtain ⟨w', r1, r2, r3⟩ := k1.store (string_keyed hk) ht hn (mkey hk hl.2) (val := .agg cs.toArray) (d := .held (.agg cs.toArray)) (ps := []) rfl
  have hg := r3.grown
  have h1 : (execOp a.eval ⟨none, .mapUpdate t m x y, ty, pos, af, gd⟩).run P w = .ok .skip w' := by
    simp [execOp, ha.ev hm, ha.ev hx, ha.ev hy, r1]
  unfold Oper.wp
  rw [h1]
  have hGb : G b := (k5 b).2 (.inl rfl)
  have hS : ∀ z, S z → w'.heap[z]? = w.heap[z]? := fun z hz => hg.block z (k3 z hz) (fun h => k4 (by injection h with h; exact h ▸ hz))
  have hB2 : ∀ z, G2 z → w'.heap[z]? = w.heap[z]? := fun z hz => hg.block z (B.lt b1 z hz) (fun h => (b2 z hz).2 (by injection h with h; exact h ▸ hGb))
  have f2 : Fr G w w' := Fr.of_grown hg (fun z hz => by injection hz with hz; exact hz ▸ hGb)
  have hents : Ents E w' (fun z => S z ∨ G2 z) (DataW.insert (.string k, .held (.agg cs.toArray)) (es.filter fun p => !p.1.sameKey (.string k))) (mput k u l) :=
    Ents.ins (E.mono (E.move (hE w G2 b1) hB2) (fun _ h => .inr h)) (((k2.move hS).mono (fun _ h => .inl h)).del)
  refine hk' _ _ ⟨rfl, rfl⟩ _ _ ha.put0 ⟨f.trans f2 g2, fun z => z = b ∨ (S z ∨ G2 z), ⟨_, _, ?_, hents, ?_, ?_, fun _ => Iff.rfl⟩, ?_, ?_⟩
  · rw [← hents.length]
    exact owns_fit r2
  · rintro z (hz | hz)
    · exact Nat.lt_of_lt_of_le (k3 z hz) hg.size
    · exact Nat.lt_of_lt_of_le (B.lt b1 z hz) hg.size
  · rintro (h | h)
    · exact k4 h
    · exact (b2 b h).2 hGb
  · rintro z (rfl | hz | hz)
    · exact g2 z hGb
    · exact g2 z ((k5 z).2 (.inr hz))
    · exact (b2 z hz).1
  · refine (b3.inside.move (fun z hz _ => hg.block z hz.2 (fun h => hz.1.1.2 (by injection h with h; exact h ▸ hGb)))).mono (fun z hz => ⟨hz.1.1.1, ?_⟩)
    rintro (rfl | h | h)
    · exact hz.1.1.2 hGb
    · exact hz.1.1.2 ((k5 z).2 (.inr h))
    · exact hz.1.2 h
theorem Ef.mset0 (j : Nat) (hm : e.ev m = some (.map (some b))) (hx : e.ev x = some (.string (bsOf k))) (hy : e.ev y = some (.agg cs.toArray)) (ht : P.underlying t = some (.map kt et)) (hk : P.underlying kt = some .string) (hl : l.length + 1 ≤ 140737488355328 ∧ k.length ≤ 140737488355328)
    (hi : Rs[j]? = some (MapR P kt E b l)) (hE : ∀ w G, E.P w G cs u) :
    Ef P n F0 w0 e Rs ⟨none, .mapUpdate t m x y, ty, pos, af, gd⟩ (fun e' Rs' => e' = e ∧ Rs' = MapR P kt E b (mput k u l) :: Rs.eraseIdx j) := by
  intro a w K Q ha hst hk'
  have hst' := hst.emp
  have h1 := Ef.mset (P := P) (n := n) (ty := ty) (pos := pos) (af := af) (gd := gd) (F0 := F0) (w0 := w0) (Rs := EmpR :: Rs) (B := EmpR) (j + 1) 0 hm hx hy ht hk hl (by simpa using hi) (by simp) (fun w G _ => hE w G)
  refine h1 a w K Q ha hst' ?_
  rintro e' Rs' ⟨rfl, rfl⟩ a' w' ha' hs'
  exact hk' _ _ ⟨rfl, rfl⟩ a' w' ha' (by simpa using hs')
theorem Ef.mdel (j : Nat) (hm : e.ev m = some (.map (some b))) (hx : e.ev x = some (.string (bsOf k))) (ht : P.underlying t = some (.map kt et)) (hk : P.underlying kt = some .string) (hl : k.length ≤ 140737488355328)
    (hi : Rs[j]? = some (MapR P kt E b l)) (hd : okd d n = true) :
    Ef P n F0 w0 e Rs ⟨d, .call ⟨.builtin .delete, #[m, x], #[t, kt]⟩, ty, pos, af, gd⟩ (fun e' Rs' => e' = envput d (.tuple #[]) e ∧ Rs' = Rs.set j (MapR P kt E b (mrem k l))) := by
  intro a w K Q ha hst hk'
  obtain ⟨f, hs⟩ := hst
  obtain ⟨G, ⟨es, S, k1, k2, k3, k4, k5⟩, g2, g3⟩ := Sep.pick j hi hs
  obtain ⟨w', r1, r2, r3⟩ := k1.drop (string_keyed hk) ht (mkey hk hl) ty
  have hg := r3.grown
  have h1 : (execOp a.eval ⟨d, .call ⟨.builtin .delete, #[m, x], #[t, kt]⟩, ty, pos, af, gd⟩).run P w = .ok (.value (.tuple #[])) w' := by
    simp [execOp, resolve, invoke, builtin, ha.ev hm, ha.ev hx, r1]
  unfold Oper.wp
  rw [h1]
  have hGb : G b := (k5 b).2 (.inl rfl)
  have hS : ∀ z, S z → w'.heap[z]? = w.heap[z]? := fun z hz => hg.block z (k3 z hz) (fun h => k4 (by injection h with h; exact h ▸ hz))
  have f2 : Fr G w w' := Fr.of_grown hg (fun z hz => by injection hz with hz; exact hz ▸ hGb)
  have hents : Ents E w' S (es.filter fun p => !p.1.sameKey (.string k)) (mrem k l) := (k2.move hS).del
  refine hk' _ _ ⟨rfl, rfl⟩ _ _ (ha.putd hd) ⟨f.trans f2 g2, Sep.back j hi ⟨_, S, ?_, hents, fun z hz => Nat.lt_of_lt_of_le (k3 z hz) hg.size, k4, k5⟩ g2 ?_⟩
  · rw [← hents.length]
    exact owns_fit r2
  · exact (g3.inside.move (fun z hz _ => hg.block z hz.2 (fun h => hz.1.2 (by injection h with h; exact h ▸ hGb)))).mono (fun z hz => hz.1)
theorem TL.mkmap (E : Rd α) (ho : ops[i]? = some ⟨some dd, .makeMap t none, ty, pos, af, gd⟩) (hw : Wd n ops e ⟨some dd, .makeMap t none, ty, pos, af, gd⟩ true) (hd : Nat.blt dd n = true) (h : ∀ b, TL P n F0 w0 ops lr ((dd, .map (some b)) :: e) (MapR P kt E b ([] : List (List UInt8 × α)) :: Rs) Q) : TL P n F0 w0 ops (i :: lr) e Rs Q := by
  refine TL.ef ho hw (Ef.mkmap (P := P) (kt := kt) (d := some dd) hd E) ?_
  rintro _ _ ⟨b, rfl, rfl⟩
  exact h b
theorem TL.mset (j q : Nat) {u : α} (ho : ops[i]? = some ⟨none, .mapUpdate t m x y, ty, pos, af, gd⟩) (hw : Wd n ops e ⟨none, .mapUpdate t m x y, ty, pos, af, gd⟩ true) (hm : e.ev m = some (.map (some b))) (hx : e.ev x = some (.string (bsOf k))) (hy : e.ev y = some (.agg cs.toArray)) (ht : P.underlying t = some (.map kt et)) (hk : P.underlying kt = some .string) (hl : l.length + 1 ≤ 140737488355328 ∧ k.length ≤ 140737488355328)
    (hi : Rs[j]? = some (MapR P kt E b l)) (hq : (Rs.eraseIdx j)[q]? = some B) (hE : ∀ w G, B.P w G → E.P w G cs u) (h : TL P n F0 w0 ops lr e (MapR P kt E b (mput k u l) :: (Rs.eraseIdx j).eraseIdx q) Q) : TL P n F0 w0 ops (i :: lr) e Rs Q := by
  refine TL.ef ho hw (Ef.mset j q hm hx hy ht hk hl hi hq hE) ?_
  rintro _ _ ⟨rfl, rfl⟩
  exact h
theorem TL.mset0 (j : Nat) {u : α} (ho : ops[i]? = some ⟨none, .mapUpdate t m x y, ty, pos, af, gd⟩) (hw : Wd n ops e ⟨none, .mapUpdate t m x y, ty, pos, af, gd⟩ true) (hm : e.ev m = some (.map (some b))) (hx : e.ev x = some (.string (bsOf k))) (hy : e.ev y = some (.agg cs.toArray)) (ht : P.underlying t = some (.map kt et)) (hk : P.underlying kt = some .string) (hl : l.length + 1 ≤ 140737488355328 ∧ k.length ≤ 140737488355328)
    (hi : Rs[j]? = some (MapR P kt E b l)) (hE : ∀ w G, E.P w G cs u) (h : TL P n F0 w0 ops lr e (MapR P kt E b (mput k u l) :: Rs.eraseIdx j) Q) : TL P n F0 w0 ops (i :: lr) e Rs Q := by
  refine TL.ef ho hw (Ef.mset0 j hm hx hy ht hk hl hi hE) ?_
  rintro _ _ ⟨rfl, rfl⟩
  exact h
theorem TD.mset (j q : Nat) {u : α} (ho : ops[i]? = some ⟨none, .mapUpdate t m x y, ty, pos, af, gd⟩) (hw : Wd n ops e ⟨none, .mapUpdate t m x y, ty, pos, af, gd⟩ true) (hm : e.ev m = some (.map (some b))) (hx : e.ev x = some (.string (bsOf k))) (hy : e.ev y = some (.agg cs.toArray)) (ht : P.underlying t = some (.map kt et)) (hk : P.underlying kt = some .string) (hl : l.length + 1 ≤ 140737488355328 ∧ k.length ≤ 140737488355328)
    (hi : Rs[j]? = some (MapR P kt E b l)) (hq : (Rs.eraseIdx j)[q]? = some B) (hE : ∀ w G, B.P w G → E.P w G cs u) (is : List Nat) (hf : Sel (MapR P kt E b (mput k u l) :: (Rs.eraseIdx j).eraseIdx q) is Rf) (h : TD P n F0 w0 ops lo Rf e (MapR P kt E b (mput k u l) :: (Rs.eraseIdx j).eraseIdx q) Q) : TD P n F0 w0 ops (.e i lo) Rf e Rs Q := by
  refine TD.ef ho hw (Ef.mset j q hm hx hy ht hk hl hi hq hE) ?_
  rintro _ _ ⟨rfl, rfl⟩
  exact ⟨Rf, fun w hw => hw.sel is hf, fun _ h => h, h⟩
theorem TD.mset0 (j : Nat) {u : α} (ho : ops[i]? = some ⟨none, .mapUpdate t m x y, ty, pos, af, gd⟩) (hw : Wd n ops e ⟨none, .mapUpdate t m x y, ty, pos, af, gd⟩ true) (hm : e.ev m = some (.map (some b))) (hx : e.ev x = some (.string (bsOf k))) (hy : e.ev y = some (.agg cs.toArray)) (ht : P.underlying t = some (.map kt et)) (hk : P.underlying kt = some .string) (hl : l.length + 1 ≤ 140737488355328 ∧ k.length ≤ 140737488355328)
    (hi : Rs[j]? = some (MapR P kt E b l)) (hE : ∀ w G, E.P w G cs u) (is : List Nat) (hf : Sel (MapR P kt E b (mput k u l) :: Rs.eraseIdx j) is Rf) (h : TD P n F0 w0 ops lo Rf e (MapR P kt E b (mput k u l) :: Rs.eraseIdx j) Q) : TD P n F0 w0 ops (.e i lo) Rf e Rs Q := by
  refine TD.ef ho hw (Ef.mset0 j hm hx hy ht hk hl hi hE) ?_
  rintro _ _ ⟨rfl, rfl⟩
  exact ⟨Rf, fun w hw => hw.sel is hf, fun _ h => h, h⟩
theorem TL.mdel (j : Nat) (ho : ops[i]? = some ⟨d, .call ⟨.builtin .delete, #[m, x], #[t, kt]⟩, ty, pos, af, gd⟩) (hw : Wd n ops e ⟨d, .call ⟨.builtin .delete, #[m, x], #[t, kt]⟩, ty, pos, af, gd⟩ true) (hm : e.ev m = some (.map (some b))) (hx : e.ev x = some (.string (bsOf k))) (ht : P.underlying t = some (.map kt et)) (hk : P.underlying kt = some .string) (hl : k.length ≤ 140737488355328)
    (hi : Rs[j]? = some (MapR P kt E b l)) (hd : okd d n = true) (h : TL P n F0 w0 ops lr (envput d (.tuple #[]) e) (Rs.set j (MapR P kt E b (mrem k l))) Q) : TL P n F0 w0 ops (i :: lr) e Rs Q := by
  refine TL.ef ho hw (Ef.mdel j hm hx ht hk hl hi hd) ?_
  rintro _ _ ⟨rfl, rfl⟩
  exact h
end
end Go.Proofs.Ytlhgogjcaegehaa.Sl
namespace Go.Proofs.Ytlhgogjcaegehaa.Sl
open Go.RowKit
set_option linter.unusedVariables false
set_option linter.unusedSimpArgs false
structure JournalJournal where
  fknown : List (List UInt8 × Val)
  fmany : Int
def MbR_JournalJournal (g : Nat) (st : JournalJournal) : Res := PakR (fun x : Nat => [BlkR g 81 #[.map (some x), .int .i64 st.fmany], MapR Try.prog 9 Val_rd x st.fknown])
theorem MbR_JournalJournal_shut {n : Nat} {F0 : Nat → Prop} {w0 : World} {e : Env} {Rs Rs' : List Res} {Q : Exit → Act → World → Prop} {z : Exit} (g : Nat) (st : JournalJournal) (b0 : Nat) (hR : Rs = [BlkR g 81 #[.map (some b0), .int .i64 st.fmany], MapR Try.prog 9 Val_rd b0 st.fknown] ++ Rs') (h : X n F0 w0 e (MbR_JournalJournal g st :: Rs') z Q) : X n F0 w0 e Rs z Q := X.pakShut (b0) hR h
theorem MbR_JournalJournal_shutL {P : Program} {n : Nat} {F0 : Nat → Prop} {w0 : World} {e : Env} {Rs Rs' : List Res} {Q : Exit → Act → World → Prop} {ops : Array Oper} {l : List Nat} (g : Nat) (st : JournalJournal) (b0 : Nat) (hR : Rs = [BlkR g 81 #[.map (some b0), .int .i64 st.fmany], MapR Try.prog 9 Val_rd b0 st.fknown] ++ Rs') (h : TL P n F0 w0 ops l e (MbR_JournalJournal g st :: Rs') Q) : TL P n F0 w0 ops l e Rs Q := TL.pakShut (b0) hR h
def Top_cop : Rd Top where
  P := fun w S cs x => ∃ (A0 : Option Addr) (c0 : Nat), cs = [.string (bsOf x.fName), .slice A0 x.fParts.length c0] ∧ ∃ H, (OwnR 3 1 intE (.slice A0 x.fParts.length c0) x.fParts).P w H ∧ ∀ k, H k → S k
  mono := fun ⟨A0, c0, e, H, h0, h1⟩ k => ⟨A0, c0, e, H, h0, fun q hq => k q (h1 q hq)⟩
  move := fun ⟨A0, c0, e, H, h0, h1⟩ k => ⟨A0, c0, e, H, (OwnR 3 1 intE _ _).move h0 (fun q hq => k q (h1 q hq)), h1⟩
theorem cop_top {w : World} {S : Nat → Prop} {cs : List Value} {x : Top} (h : Top_cop.P w S cs x) : Top_rd.P w S cs x := by
  obtain ⟨A0, c0, e, H, h0, h1⟩ := h
  exact ⟨A0, c0, e, (sliceRd 1 intE).mono (own_reads (by decide) _ _ h0) h1⟩
theorem cop_slice {w : World} {S : Nat → Prop} {v : Value} {xs : List Top} (h : (sliceRd 2 Top_cop).P w S [v] xs) : (sliceRd 2 Top_rd).P w S [v] xs := by
  rcases h with h | ⟨a, cap, e1, e2, e3, hb, hr⟩
  · exact .inl h
  · refine .inr ⟨a, cap, e1, e2, e3, hb, fun i x hx => ?_⟩
    obtain ⟨cs, k1, k2, k3⟩ := hr i x hx
    exact ⟨cs, k1, k2, cop_top k3⟩
section
variable {P : Program} {n : Nat} {F0 : Nat → Prop} {w0 w : World} {e : Env} {Rs Rf : List Res} {Q : Exit → Act → World → Prop} {ops : Array Oper} {d : Option Tmp} {i dd : Nat} {ty t t' el T : TypeId} {pos : String} {af : Array Edge} {gd : Option (Nat × Bool)} {x y : Operand} {lr : List Nat} {lo : Sch} {S : World → Prop} {v : Value} {xs : List Top}
theorem St.copRd (j : Nat) (h : St F0 w0 Rs w) (hi : Rs[j]? = some (OwnR T 2 Top_cop v xs)) : St F0 w0 (Rs.set j (RdR (sliceRd 2 Top_rd) [v] xs)) w :=
  h.weaken j hi (fun G hG => ⟨cop_slice (own_reads (by decide) _ _ hG), fun k hk => (OwnR T 2 Top_cop v xs).lt hG k hk⟩)
theorem TL.copRd (j : Nat) (hi : Rs[j]? = some (OwnR T 2 Top_cop v xs)) (h : TL P n F0 w0 ops lr e (Rs.set j (RdR (sliceRd 2 Top_rd) [v] xs)) Q) : TL P n F0 w0 ops lr e Rs Q := fun a w ha hs => h a w ha (hs.copRd j hi)
theorem Ex.slN {A : Option Addr} {m c : Nat} (hx : e.ev x = some (.slice A m c)) (hy : e.ev y = some (.slice none 0 0)) (hu : P.underlying t = some (.slice el)) : Ex P n e S ⟨d, .binOp .eql t x y t', ty, pos, af, gd⟩ (.bool A.isNone) := by
  intro a w ha _
  simp [execOp, ha.ev hx, ha.ev hy, eqGuard, Lib.run_eql_slice_nil w t el A m c 0 0 hu]
variable {A : Option Addr} {c Tt Ti : Nat}
end
theorem ft_jr_ok : FTab.OK Try.prog [] := trivial
theorem sok_jr : SOK Try.prog 44 3 0 1 #[] := SOK.mk0 Try.runUnderlying44 Try.sizeOf3
theorem inf_jr : (Try.prog.info? 3).map (fun i => (i.zero, i.size, i.bytes)) = some (some (.int .i64 0), 1, 8) := by kernel_rfl
def gClone (a0 : List Int) : Option (List Int) := if a0.length * 8 ≤ 140737488355328 then some a0 else none
set_option maxRecDepth 100000 in
set_option maxHeartbeats 4000000 in
theorem gClone_spec (a0 : List Int) (A1 : Option Addr) (c2 : Nat) (r : List Int) (h : gClone a0 = some r) : SpecX Try.prog 57 #[.slice A1 a0.length c2] (RX.of (sliceRd 1 intE) [.slice A1 a0.length c2] a0) (EmpR) (fun v A' N => ∃ (A7 : Option Addr) (c8 : Nat), v = .slice A7 r.length c8 ∧ A' = EmpR ∧ N = [OwnR 3 1 intE (.slice A7 r.length c8) r]) := by
  unfold gClone at h
  obtain ⟨c4, h⟩ := guard_some h
  obtain rfl := Option.some.inj h
  refine enterA Try.func57 rfl Try.ntmps57 rfl ?_
  intro F w hX
  refine T.seq (T.region rfl ?_)
  refine TL.run ft_jr_ok [0] rfl rfl ?_
  refine TL.nil (X.seq (T.seq (T.seq (T.region rfl ?_))))
  refine TL.run ft_jr_ok [0] rfl rfl ?_
  refine TL.q rfl .u (Ex.slN rfl rfl Try.underlying44) rfl ?_
  refine TL.nil (X.seq ?_)
  rcases A1 with _ | A1
  · have hn : a0 = [] := by
      obtain ⟨S, hS, _⟩ := hX
      rcases hS with ⟨_, h⟩ | ⟨a, cap, h, _⟩
      · exact h
      · injection h with h
        injection h with h
        cases h
    subst hn
    refine T.yes rfl rfl ?_
    refine T.seq (T.region rfl ?_)
    refine TL.run ft_jr_ok [0] rfl rfl ?_
    refine TL.nil (X.seq (T.ret (X.rs ?_)))
    refine X.nilrow 3 1 intE ?_
    exact X.done1 [1, 0] Try.results57 (RV.tm rfl) ⟨none, 0, rfl, rfl, rfl⟩ (by rfl) (.inl rfl)
  refine T.no rfl rfl ?_
  refine T.skip (X.seq (T.seq (T.region rfl ?_)))
  refine TL.lit (cells := #[]) rfl .u sok_jr rfl (by rfl) rfl (fun b3 => ?_)
  refine TL.rowOf (us := []) (xs := ([] : List Int)) (E := intE) (z := 1) rfl (Nat.le_of_ble_eq_true rfl) (fun _ => rfl) ?_
  refine TL.run ft_jr_ok [1] rfl rfl ?_
  refine TL.appX (cf := fun x : Int => [.int .i64 x]) (l := ([] : List Int)) (l2 := a0) (E := intE) 0 rfl .u ⟨fun _ _ _ _ h => h, fun _ => rfl, fun _ _ _ => rfl, fun _ => rfl⟩ Try.underlying44 inf_jr rfl (by decide) rfl rfl hX rfl (by simpa using c4) (by simp only [List.length_nil]; omega) rfl (fun A5 c6 => ?_)
  refine TL.sel [0, 0] rfl ?_
  refine TL.run ft_jr_ok [3] rfl rfl ?_
  refine TL.nil (X.seq (T.ret ?_))
  exact X.done1 [1, 0] Try.results57 (RV.tm rfl) ⟨_, _, rfl, rfl, rfl⟩ (by rfl) (.inl rfl)
end Go.Proofs.Ytlhgogjcaegehaa.Sl
namespace Go.Proofs
open Go.RowKit Go.Maps Go.Sort Go.Shelf
def Try.keys40_ren : Go.Shelf.Ren := ⟨fun | 7 => 40 | 10 => 61 | n => n, fun | 23 => 79 | 26 => 9 | 3 => 24 | 28 => 89 | 0 => 0 | 27 => 88 | 33 => 70 | 4 => 4 | n => n, fun | n => n⟩
theorem Try.keys40 : Go.Proofs.SlLaysZ.n7 Try.prog Try.keys40_ren := {
  mixed := by kernel_rfl
  f7 := ⟨Try.f40.name, by decide, Try.func40.trans (congrArg some (by kernel_rfl))⟩
  f10 := ⟨Try.f61.name, by decide, Try.func61.trans (congrArg some (by kernel_rfl))⟩
  t0 := Try.underlying0
  a0 := Try.isAgg0
  z0 := Try.sizeOf0
  v0 := Try.zeroValue0
  t4 := Try.underlying4
  a4 := Try.isAgg4
  z4 := Try.sizeOf4
  v4 := Try.zeroValue4
  t23 := Try.underlying79
  a23 := Try.isAgg79
  z23 := Try.sizeOf79
  v23 := Try.zeroValue79
  t26 := Try.underlying9
  a26 := Try.isAgg9
  z26 := Try.sizeOf9
  v26 := Try.zeroValue9
  t27 := Try.underlying88
  a27 := Try.isAgg88
  z27 := Try.sizeOf88
  v27 := Try.zeroValue88
  t28 := Try.underlying89
  a28 := Try.isAgg89
  z28 := Try.sizeOf89
  v28 := Try.zeroValue89
  t33 := Try.underlying70
  a33 := Try.isAgg70
  z33 := Try.sizeOf70
  v33 := Try.zeroValue70 }
def Try.sorted39_ren : Go.Shelf.Ren := ⟨fun | 6 => 39 | 8 => 59 | 9 => 60 | 11 => 74 | 13 => 76 | 12 => 75 | 23 => 90 | 24 => 91 | 14 => 81 | 15 => 82 | 16 => 83 | 17 => 84 | 18 => 85 | 19 => 86 | 20 => 87 | 21 => 88 | 22 => 89 | 25 => 93 | 26 => 94 | 27 => 95 | 28 => 96 | 29 => 97 | 30 => 98 | 31 => 99 | n => n, fun | 26 => 9 | 28 => 89 | 24 => 48 | 0 => 0 | 3 => 3 | 37 => 109 | 48 => 142 | 50 => 144 | 4 => 4 | 40 => 135 | 39 => 134 | 45 => 139 | 5 => 5 | 9 => 9 | 51 => 145 | 55 => 149 | 57 => 151 | 58 => 152 | 33 => 70 | n => n, fun | n => n⟩
theorem Try.sorted39 : Go.Proofs.SlLaysZ.n6 Try.prog Try.sorted39_ren := {
  mixed := by kernel_rfl
  f6 := ⟨Try.f39.name, by decide, Try.func39.trans (congrArg some (by kernel_rfl))⟩
  f8 := ⟨Try.f59.name, by decide, Try.func59.trans (congrArg some (by kernel_rfl))⟩
  f11 := ⟨Try.f74.name, by decide, Try.func74.trans (congrArg some (by kernel_rfl))⟩
  t0 := Try.underlying0
  a0 := Try.isAgg0
  z0 := Try.sizeOf0
  v0 := Try.zeroValue0
  t24 := Try.underlying48
  a24 := Try.isAgg48
  z24 := Try.sizeOf48
  v24 := Try.zeroValue48
  t26 := Try.underlying9
  a26 := Try.isAgg9
  z26 := Try.sizeOf9
  v26 := Try.zeroValue9
  t28 := Try.underlying89
  a28 := Try.isAgg89
  z28 := Try.sizeOf89
  v28 := Try.zeroValue89
  i26 := by kernel_rfl }
def Try.sort60_ren : Go.Shelf.Ren := ⟨fun | 6 => 60 | 8 => 76 | 9 => 75 | 19 => 90 | 20 => 91 | 21 => 81 | 22 => 82 | 23 => 83 | 24 => 84 | 25 => 85 | 26 => 86 | 27 => 87 | 28 => 88 | 29 => 89 | 36 => 93 | 31 => 94 | 32 => 95 | 37 => 96 | 38 => 97 | 39 => 98 | 41 => 99 | n => n, fun | 27 => 48 | 29 => 9 | 3 => 3 | 32 => 109 | 26 => 48 | 0 => 0 | 44 => 142 | 46 => 144 | 4 => 4 | 36 => 135 | 35 => 134 | 41 => 139 | 5 => 5 | 9 => 9 | 53 => 145 | 57 => 149 | 63 => 151 | 64 => 152 | n => n, fun | n => n⟩
theorem Try.sort60 : Go.Proofs.SlLaysM.n6 Try.prog Try.sort60_ren := {
  mixed := by kernel_rfl
  f6 := ⟨Try.f60.name, by decide, Try.func60.trans (congrArg some (by kernel_rfl))⟩
  f8 := Try.func76.trans (congrArg some (by kernel_rfl))
  f9 := ⟨Try.f75.name, by decide, Try.func75.trans (congrArg some (by kernel_rfl))⟩
  f19 := Try.func90.trans (congrArg some (by kernel_rfl))
  f20 := Try.func91.trans (congrArg some (by kernel_rfl))
  f21 := ⟨Try.f81.name, by decide, Try.func81.trans (congrArg some (by kernel_rfl))⟩
  f22 := ⟨Try.f82.name, by decide, Try.func82.trans (congrArg some (by kernel_rfl))⟩
  f23 := ⟨Try.f83.name, by decide, Try.func83.trans (congrArg some (by kernel_rfl))⟩
  f24 := ⟨Try.f84.name, by decide, Try.func84.trans (congrArg some (by kernel_rfl))⟩
  f25 := ⟨Try.f85.name, by decide, Try.func85.trans (congrArg some (by kernel_rfl))⟩
  f26 := ⟨Try.f86.name, by decide, Try.func86.trans (congrArg some (by kernel_rfl))⟩
  f27 := ⟨Try.f87.name, by decide, Try.func87.trans (congrArg some (by kernel_rfl))⟩
  f28 := ⟨Try.f88.name, by decide, Try.func88.trans (congrArg some (by kernel_rfl))⟩
  f29 := ⟨Try.f89.name, by decide, Try.func89.trans (congrArg some (by kernel_rfl))⟩
  f31 := Try.func94.trans (congrArg some (by kernel_rfl))
  f32 := Try.func95.trans (congrArg some (by kernel_rfl))
  f36 := ⟨Try.f93.name, by decide, Try.func93.trans (congrArg some (by kernel_rfl))⟩
  f37 := ⟨Try.f96.name, by decide, Try.func96.trans (congrArg some (by kernel_rfl))⟩
  f38 := ⟨Try.f97.name, by decide, Try.func97.trans (congrArg some (by kernel_rfl))⟩
  f39 := ⟨Try.f98.name, by decide, Try.func98.trans (congrArg some (by kernel_rfl))⟩
  f41 := ⟨Try.f99.name, by decide, Try.func99.trans (congrArg some (by kernel_rfl))⟩
  t0 := Try.underlying0
  a0 := Try.isAgg0
  z0 := Try.sizeOf0
  v0 := Try.zeroValue0
  t3 := Try.underlying3
  a3 := Try.isAgg3
  z3 := Try.sizeOf3
  v3 := Try.zeroValue3
  t4 := Try.underlying4
  a4 := Try.isAgg4
  z4 := Try.sizeOf4
  v4 := Try.zeroValue4
  t5 := Try.underlying5
  a5 := Try.isAgg5
  z5 := Try.sizeOf5
  v5 := Try.zeroValue5
  t9 := Try.underlying9
  a9 := Try.isAgg9
  z9 := Try.sizeOf9
  v9 := Try.zeroValue9
  t26 := Try.underlying48
  a26 := Try.isAgg48
  z26 := Try.sizeOf48
  v26 := Try.zeroValue48
  t27 := Try.underlying48
  a27 := Try.isAgg48
  z27 := Try.sizeOf48
  v27 := Try.zeroValue48
  t29 := Try.underlying9
  a29 := Try.isAgg9
  z29 := Try.sizeOf9
  v29 := Try.zeroValue9
  t32 := Try.underlying109
  a32 := Try.isAgg109
  z32 := Try.sizeOf109
  v32 := Try.zeroValue109
  t35 := Try.underlying134
  a35 := Try.isAgg134
  z35 := Try.sizeOf134
  v35 := Try.zeroValue134
  t36 := Try.underlying135
  a36 := Try.isAgg135
  z36 := Try.sizeOf135
  v36 := Try.zeroValue135
  t41 := Try.underlying139
  a41 := Try.isAgg139
  z41 := Try.sizeOf139
  v41 := Try.zeroValue139
  t44 := Try.underlying142
  a44 := Try.isAgg142
  z44 := Try.sizeOf142
  v44 := Try.zeroValue142
  t46 := Try.underlying144
  a46 := Try.isAgg144
  z46 := Try.sizeOf144
  v46 := Try.zeroValue144
  t53 := Try.underlying145
  a53 := Try.isAgg145
  z53 := Try.sizeOf145
  v53 := Try.zeroValue145
  t57 := Try.underlying149
  a57 := Try.isAgg149
  z57 := Try.sizeOf149
  v57 := Try.zeroValue149
  t63 := Try.underlying151
  a63 := Try.isAgg151
  z63 := Try.sizeOf151
  v63 := Try.zeroValue151
  t64 := Try.underlying152
  a64 := Try.isAgg152
  z64 := Try.sizeOf152
  v64 := Try.zeroValue152 }
theorem Try.sorts39 (m : Nat) : AnyZ.SortsIn Try.prog Try.sorted39_ren Fence.wide m :=
  ⟨fun blk off cap ss W hH hblk hsz => callsIn_wide.2 (AnyM.slices_Sort_string Try.sort60 blk off cap ss W hH hblk hsz),
   fun p cap W => callsIn_wide.2 (AnyM.slices_Sort_string_none Try.sort60 p cap W)⟩
theorem Try.maps_Keys_40 (mb : Option Nat) (W : World) : CallsIn Fence.wide 5 Try.prog 40 #[.map mb] W fun e w' => e = .returned (.func (.func 61) #[] #[.pointer (some ⟨W.heap.size, 0, none⟩)]) ∧ w' = W.alloc (.cells #[.map mb] 79) :=
  AnyZ.keys_in Try.keys40 Fence.wide 5 trivial rfl mb W
end Go.Proofs
namespace Go.Proofs.Ytlhgogjcaegehaa.Sl
open Go.RowKit Go.Maps Go.Sort
set_option linter.unusedVariables false
set_option linter.unusedSimpArgs false
theorem before_lt : ∀ {a b : List UInt8}, bytesBefore a b = true → a < b
  | [], [], h => by cases h
  | [], _ :: _, _ => List.nil_lt_cons _ _
  | _ :: _, [], h => by cases h
  | x :: a, y :: b, h => by
    have h' : (decide (x < y) || (x == y && bytesBefore a b)) = true := h
    rw [List.cons_lt_cons_iff]
    rcases Bool.or_eq_true_iff.1 h' with h1 | h1
    · exact .inl (of_decide_eq_true h1)
    · obtain ⟨h2, h3⟩ := Bool.and_eq_true_iff.1 h1
      exact .inr ⟨by simpa using h2, before_lt h3⟩
def Rise {α : Type} (l : List (List UInt8 × α)) : Prop := (l.map Prod.fst).Pairwise (fun a b => bytesBefore a b = true)
theorem ents_keys {α : Type} {E : Rd α} {w : World} {S : Nat → Prop} : ∀ {es : List (Lit × DataW Value)} {l : List (List UInt8 × α)}, Ents E w S es l → es.map Prod.fst = (l.map Prod.fst).map Lit.string
  | [], [], _ => rfl
  | p :: es, y :: l, ⟨h1, _, h4⟩ => by rw [List.map_cons, List.map_cons, List.map_cons, h1, ents_keys h4]
  | [], _ :: _, h => h.elim
  | _ :: _, [], h => h.elim
theorem strKeys_ents {α : Type} {E : Rd α} {w : World} {S : Nat → Prop} {es : List (Lit × DataW Value)} {l : List (List UInt8 × α)} (h : Ents E w S es l) : strKeys (DataW.map es) = l.map Prod.fst := by
  have e : strKeys (DataW.map es) = (es.map Prod.fst).map strOf := by
    show es.map (fun p => strOf p.1) = _
    rw [List.map_map]
    rfl
  rw [e, ents_keys h, List.map_map]
  conv => rhs; rw [← List.map_id (l.map Prod.fst)]
  rfl
theorem owns_rise {α : Type} {P : Program} {kt : TypeId} {E : Rd α} {w : World} {S : Nat → Prop} {b n : Nat} {es : List (Lit × DataW Value)} {l : List (List UInt8 × α)} (hk : P.underlying kt = some .string) (h : w.ownsMap P kt tokR b n (.map es)) (he : Ents E w S es l) : Rise l := by
  obtain ⟨es', clock, hb, F, hs, hD⟩ := h
  injection hD with hD
  have h1 := sorted_sorted (string_keyed hk).one _ (fit_keys F) (fit_apart (string_keyed hk) F)
  rw [← hD] at h1
  have h2 : (es.map Prod.fst).Pairwise (fun a b => a.before b = true) := List.pairwise_map.2 h1
  rw [ents_keys he] at h2
  exact List.pairwise_map.1 h2
theorem sort_rise {α : Type} {l : List (List UInt8 × α)} (h : Rise l) : (l.map Prod.fst).mergeSort leB = l.map Prod.fst := by
  refine List.mergeSort_of_pairwise ?_
  exact h.imp (fun {a b} hab => decide_eq_true (List.le_of_lt (before_lt hab)))
def RX.res (R : Res) : RX := ⟨fun w S => ∃ G, R.P w G ∧ ∀ k, G k → S k, fun ⟨G, h1, h2⟩ h => ⟨G, h1, fun k hk => h k (h2 k hk)⟩, fun ⟨G, h1, h2⟩ h => ⟨G, R.move h1 (fun k hk => h k (h2 k hk)), h2⟩⟩
theorem res_reads {R : Res} : ∀ w G, R.P w G → (RX.res R).P w G := fun w G h => ⟨G, h, fun _ h => h⟩
theorem jkeys_spec (b : Nat) : SpecX Try.prog 40 #[.map (some b)] .triv EmpR (fun v A' N => ∃ q : Nat, v = .func (.func 61) #[] #[.pointer (some ⟨q, 0, none⟩)] ∧ A' = EmpR ∧ N = [BlkR q 79 #[.map (some b)]]) := by
  intro F w hA _
  refine (callsIn_wide.1 (Try.maps_Keys_40 (some b) w)).mono ?_
  rintro e w' ⟨rfl, rfl⟩
  exact ⟨_, _, _, rfl, ⟨_, rfl, rfl, rfl⟩, ((SpecX.start hA).alloc #[.map (some b)] 79).sel [1, 0] rfl⟩
theorem blk_cell {b T : Nat} {cs : Array Value} {w : World} {G : Nat → Prop} (h : (BlkR b T cs).P w G) (i : Nat) : w.cell? ⟨b, i, none⟩ = cs[i]? := heap_at h.1 i
theorem jsorted_spec {α : Type} (E : Rd α) (b q : Nat) (l : List (List UInt8 × α)) (hl : l.length ≤ 8796093022208) : SpecX Try.prog 39 #[.func (.func 61) #[] #[.pointer (some ⟨q, 0, none⟩)]] (RX.and (RX.res (BlkR q 79 #[.map (some b)])) (RX.res (MapR Try.prog 9 E b l))) EmpR
    (fun v A' N => ∃ (A : Option Addr) (c : Nat), v = .slice A (l.map Prod.fst).length c ∧ A' = EmpR ∧ N = [OwnR 9 1 strE (.slice A (l.map Prod.fst).length c) (l.map Prod.fst)]) := by
  intro F w hA hX
  obtain ⟨S, ⟨⟨G1, h1, h2⟩, ⟨G2, h3, h4⟩⟩, hS⟩ := hX
  obtain ⟨es, S2, k1, k2, k3, k4, k5⟩ := h3
  have hk : Try.prog.underlying 9 = some .string := Try.underlying9
  have hsz : Maps.size (DataW.map es) = l.length := k2.length
  have hmax : Maps.size (DataW.map es) ≤ maxLen := by rw [hsz]; have : maxLen = 9223372036854775807 := rfl; omega
  have hbytes : Maps.size (DataW.map es) * 16 ≤ 140737488355328 := by rw [hsz]; omega
  have hc : w.cell? ⟨q, 0, none⟩ = some (.map (some b)) := (blk_cell h1 0).trans rfl
  have hseq : SeqGives Fence.wide 2 Try.prog 61 #[.pointer (some ⟨q, 0, none⟩)] encStr (fun ss => ss.Perm (strKeys (DataW.map es))) (Maps.size (DataW.map es)) w :=
    AnyZ.keys_gives (ρ := Try.keys40_ren) { Try.keys40 with } Fence.wide _ trivial rfl (by omega) q b _ (DataW.map es) w (heap_lt h1.1) hc k1
  refine (callsIn_wide.1 (AnyZ.sorted_in Try.sorted39 Fence.wide 5 trivial trivial trivial trivial rfl (by omega) (Try.sorts39 _) (enters_of Try.func60 (by kernel_rfl) rfl) 61 #[.pointer (some ⟨q, 0, none⟩)] trivial (enters_of Try.func61 (by kernel_rfl) rfl) _ _ hmax hbytes w hseq)).mono ?_
  rintro e w' ⟨v, ss, rfl, hperm, hrow, hnil, hb⟩
  rw [strKeys_ents k2] at hperm
  have hsort : ss.mergeSort leB = l.map Prod.fst := (mergeSort_of_perm hperm).trans (sort_rise (owns_rise hk k1 k2))
  have hlen : ss.length = (l.map Prod.fst).length := hperm.length_eq
  rw [show (ss.mergeSort (fun x y => decide (x ≤ y))) = l.map Prod.fst from hsort, hlen] at hrow
  have hrow0 : w'.ownsRow 0 9 1 v (l.map Prod.fst).length ((l.map Prod.fst).map encStr) := ownsRow_base_a hrow (Nat.zero_le _)
  obtain ⟨A, c, rfl⟩ := row_slice hrow0
  refine ⟨_, _, _, rfl, ⟨A, c, rfl, rfl, rfl⟩, Fr.of_below hb, fun _ => False, fun _ h => h, fun _ h => h.elim, fun k => (Value.slice A (l.map Prod.fst).length c).ownBlock = some k, ⟨_, fun _ => False, hrow0, ?_, fun _ h => h.elim, fun _ _ h => h, fun k => by simp⟩, fun k hk => ?_, trivial⟩
  · generalize l.map Prod.fst = ks
    clear hrow hrow0 hperm hsort hlen
    induction ks with
    | nil => rfl
    | cons k ks ih => exact ⟨rfl, rfl, ih⟩
  · have := (hrow.lt k hk).1
    exact ⟨.inr this, fun h => h⟩
def gJIDs (st : JournalJournal) : Option (List (List UInt8) × JournalJournal) := if st.fknown.length ≤ 8796093022208 then some (st.fknown.map Prod.fst, st) else none
def ft_ji : FTab := [(81, 0, 0)]
set_option maxRecDepth 100000 in
theorem ft_ji_ok : (ft_ji).OK Try.prog := ⟨FOK.mk Try.runUnderlying81 rfl Try.sizeOf79 rfl, trivial⟩
set_option maxRecDepth 100000 in
set_option maxHeartbeats 4000000 in
theorem gJIDs_spec (g : Nat) (st : JournalJournal) (r : List (List UInt8) × JournalJournal) (h : gJIDs st = some r) : SpecX Try.prog 17 #[.pointer (some ⟨g, 0, none⟩)] .triv (MbR_JournalJournal g st) (fun v A' N => ∃ (A : Option Addr) (c : Nat), v = .slice A r.1.length c ∧ A' = MbR_JournalJournal g r.2 ∧ N = [OwnR 9 1 strE (.slice A r.1.length c) r.1]) := by
  unfold gJIDs at h
  obtain ⟨hl, h⟩ := guard_some h
  obtain rfl := Option.some.inj h
  refine enterA Try.func17 rfl Try.ntmps17 rfl ?_
  intro F w hX
  refine T.pakOpen 0 rfl ?_
  rintro b1
  refine T.sel [0, 0] rfl ?_
  refine T.seq (T.region rfl ?_)
  refine TL.run ft_ji_ok [0] rfl rfl ?_
  refine TL.nil (X.seq (T.seq (T.region rfl ?_)))
  refine TL.run ft_ji_ok [0, 1, 2] rfl rfl ?_
  refine TL.q rfl .u (Ex.b1 0 rfl Try.isAgg79 rfl rfl) rfl ?_
  refine TL.cge rfl .u (.fn Try.call40 rfl) (jkeys_spec b1) (fun _ hs => RX.reads_triv _ _) rfl ?_
  rintro _ _ _ ⟨q, rfl, rfl, rfl⟩
  refine TL.sel [0, 0, 0] rfl ?_
  refine TL.cge rfl .u (.fn Try.call39 rfl) (jsorted_spec Val_rd b1 q st.fknown hl) (fun _ hs => RX.reads_and (SrcE.res 0 hs rfl res_reads) (SrcE.res 2 hs rfl res_reads)) rfl ?_
  rintro _ _ _ ⟨A, c, rfl, rfl, rfl⟩
  refine TL.sel [0, 0, 0, 0] rfl ?_
  refine TL.run ft_ji_ok [6] rfl rfl ?_
  refine TL.nil (X.seq (T.ret ?_))
  refine X.sel [2, 2, 0] rfl ?_
  refine MbR_JournalJournal_shut g st b1 rfl ?_
  exact X.done1 [0, 0] Try.results17 (RV.tm rfl) ⟨_, _, rfl, rfl, rfl⟩ (by rfl) (.inl rfl)
end Go.Proofs.Ytlhgogjcaegehaa.Sl
