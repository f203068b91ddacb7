/- journalPuts_holds: part 2. -/
import Derived.Test.YtlhgogjcaegehaaK1
namespace Go.Proofs.Ytlhgogjcaegehaa.Sl
open Go.RowKit
set_option linter.unusedVariables false
set_option linter.unusedSimpArgs false
set_option maxRecDepth 100000
def ft_value : FTab := [(24, 0, 0), (24, 1, 1), (24, 2, 2), (24, 3, 3), (24, 4, 4), (24, 5, 5), (24, 6, 6), (46, 0, 0), (46, 1, 1)]
theorem ft_value_ok : (ft_value).OK Try.prog := ⟨FOK.mk Try.runUnderlying24 rfl Try.sizeOf3 rfl, FOK.mk Try.runUnderlying24 rfl Try.sizeOf3 rfl, FOK.mk Try.runUnderlying24 rfl Try.sizeOf3 rfl, FOK.mk Try.runUnderlying24 rfl Try.sizeOf3 rfl, FOK.mk Try.runUnderlying24 rfl Try.sizeOf22 rfl, FOK.mk Try.runUnderlying24 rfl Try.sizeOf3 rfl, FOK.mk Try.runUnderlying24 rfl Try.sizeOf3 rfl, FOK.mk Try.runUnderlying46 rfl Try.sizeOf9 rfl, FOK.mk Try.runUnderlying46 rfl Try.sizeOf44 rfl, trivial⟩
def nt_value : List Nat := [3, 9, 22, 44]
theorem nt_value_ok : NOK Try.prog nt_value := ⟨Try.isAgg3, Try.isAgg9, Try.isAgg22, Try.isAgg44, trivial⟩
theorem mix_value : Try.prog.follows .mixedOrders = true := by kernel_rfl
theorem bok_value_24 : BOK Try.prog 24 #[.int .i64 0, .int .i64 0, .int .i64 0, .int .i64 0, .slice none 0 0, .int .i64 0, .int .i64 0] [(0, 1), (1, 1), (2, 1), (3, 1), (4, 1), (5, 1), (6, 1)] := BOK.mk Try.zeroValue24 Try.runUnderlying24 (by intro w; simp)
theorem bok_value_46 : BOK Try.prog 46 #[.string ⟨#[]⟩, .slice none 0 0] [(0, 1), (1, 1)] := BOK.mk Try.zeroValue46 Try.runUnderlying46 (by intro w; simp)
theorem sok_value_22_1 : SOK Try.prog 22 46 1 2 #[.string ⟨#[]⟩, .slice none 0 0] := SOK.mk Try.runUnderlying22 Try.sizeOf46 Try.zeroValue46 (by decide) (by kernel_rfl)
theorem sok_value_44_1 : SOK Try.prog 44 3 1 1 #[.int .i64 0] := SOK.mk Try.runUnderlying44 Try.sizeOf3 Try.zeroValue3 (by decide) (by kernel_rfl)
theorem sok_value_48_1 : SOK Try.prog 48 9 1 1 #[.string ⟨#[]⟩] := SOK.mk Try.runUnderlying48 Try.sizeOf9 Try.zeroValue9 (by decide) (by kernel_rfl)
theorem inf_value_3 : (Try.prog.info? 3).map (fun i => (i.zero, i.size, i.bytes)) = some (some (.int .i64 0), 1, 8) := by kernel_rfl
theorem inf_value_9 : (Try.prog.info? 9).map (fun i => (i.zero, i.size, i.bytes)) = some (some (.string ⟨#[]⟩), 1, 16) := by kernel_rfl
theorem inf_value_46 : (Try.prog.info? 46).map (fun i => (i.zero, i.size, i.bytes)) = some (some (.agg #[.string ⟨#[]⟩, .slice none 0 0]), 2, 40) := by kernel_rfl
def f_value_Idle (a0 : Int) : Option (Bool) := if a0 = 0 then some true else (if a0 ≥ 4 then some true else some false)
set_option maxRecDepth 100000 in
set_option maxHeartbeats 4000000 in
theorem f_value_Idle_spec (a0 : Int) (r : Bool) (h : f_value_Idle a0 = some r) : SpecX Try.prog 68 #[.int .i64 a0] .triv (EmpR) (fun v A' N => v = .bool r ∧ A' = EmpR ∧ N = []) := by
  refine enterA Try.func68 rfl Try.ntmps68 rfl ?_
  intro F w hX
  unfold f_value_Idle at h
  refine T.seq (T.region rfl ?_)
  refine TL.run ft_value_ok [0] rfl rfl ?_
  refine TL.nil (X.seq (T.seq (T.region rfl ?_)))
  by_cases c1 : a0 = 0
  · replace h := ifT c1 h
    refine TL.run ft_value_ok [0, 1, 2] rfl rfl ?_
    refine TL.hv 5 rfl (decide_eq_true c1) ?_
    refine TL.rw ft_value_ok 4 rfl ?_
    obtain rfl := Option.some.inj h
    exact TL.nil (X.seq (T.ret (X.done1 [0] Try.results68 (RV.tm rfl) ⟨rfl, rfl, rfl⟩ (by rfl) (.inl rfl))))
  · replace h := ifF c1 h
    refine TL.run ft_value_ok [0, 1, 2] rfl rfl ?_
    refine TL.hv 5 rfl (decide_eq_false c1) ?_
    refine TL.rw ft_value_ok 4 rfl ?_
    by_cases c2 : a0 ≥ 4
    · replace h := ifT c2 h
      obtain rfl := Option.some.inj h
      exact TL.nil (X.seq (T.ret (X.done1 [0] Try.results68 (RV.tm (v := .bool true) (congrArg (fun b => some (Value.bool b)) (decide_eq_true c2))) ⟨rfl, rfl, rfl⟩ (by rfl) (.inl rfl))))
    · replace h := ifF c2 h
      obtain rfl := Option.some.inj h
      exact TL.nil (X.seq (T.ret (X.done1 [0] Try.results68 (RV.tm (v := .bool false) (congrArg (fun b => some (Value.bool b)) (decide_eq_false c2))) ⟨rfl, rfl, rfl⟩ (by rfl) (.inl rfl))))
def f_value_risingint_l1 (a0 : List Int) : Nat → Bool → Int → Option (Lp Bool (Bool × Int))
  | 0, _, _ => none
  | m8 + 1, y3, y4 => if y4 < (a0.length : Int) then (if -9223372036854775808 ≤ (y4 - 1) ∧ (y4 - 1) ≤ 9223372036854775807 then (if 0 ≤ (y4 - 1) then ((a0[(y4 - 1).toNat]?).bind fun x15 => if 0 ≤ y4 then ((a0[y4.toNat]?).bind fun x19 => if x15 ≥ x19 then some (Lp.ret false) else (if -9223372036854775808 ≤ (y4 + 1) ∧ (y4 + 1) ≤ 9223372036854775807 then (f_value_risingint_l1 a0 m8 y3 (y4 + 1)) else none)) else none) else none) else none) else (some (Lp.go (y3, y4)))
def f_value_risingint (a0 : List Int) : Option (Bool) := (f_value_risingint_l1 a0 ((((a0.length : Int)) - (1)).toNat + 1) false 1).bind fun e => match e with | .ret r => some r | .go (y24, y25) => some true
set_option maxRecDepth 100000 in
set_option maxHeartbeats 4000000 in
theorem f_value_risingint_spec (a0 : List Int) (A1 : Option Addr) (c2 : Nat) (r : Bool) (h : f_value_risingint a0 = some r) : SpecX Try.prog 92 #[.slice A1 a0.length c2] (RX.of (sliceRd 1 intE) [.slice A1 a0.length c2] a0) (EmpR) (fun v A' N => v = .bool r ∧ A' = EmpR ∧ N = []) := by
  refine enterA Try.func92 rfl Try.ntmps92 rfl ?_
  intro F w hX
  unfold f_value_risingint at h
  refine T.seq (T.region rfl ?_)
  refine TL.run ft_value_ok [0] rfl rfl ?_
  refine TL.nil (X.seq (T.seq (T.seq (T.region rfl ?_))))
  refine TL.run ft_value_ok [0] rfl rfl ?_
  refine TL.nil (X.seq (T.block ?_))
  obtain ⟨E5, hE6, hO7⟩ := Option.bind_eq_some_iff.1 h
  refine T.lp (fun m e Rs => ∃ (y3 : Bool) (y4 : Int), e = [(0, .slice A1 a0.length c2), (2, .bool y3), (3, .int .i64 y4)] ∧ Rs = [EmpR] ∧ f_value_risingint_l1 a0 m y3 y4 = some E5) ((((a0.length : Int)) - (1)).toNat + 1) [0] ⟨false, 1, rfl, rfl, by exact hE6⟩ (by rfl) (by rfl) ?_
  rintro m8 _ _ ⟨y3, y4, rfl, rfl, hl10⟩
  clear hE6 h
  cases m8 with
  | zero =>
    rw [f_value_risingint_l1] at hl10
    cases hl10
  | succ m8 =>
    have h := hl10
    clear hl10
    rw [f_value_risingint_l1] at h
    refine T.seq (T.seq (T.region rfl ?_))
    refine TL.run ft_value_ok [0, 1] rfl rfl ?_
    refine TL.q rfl .u (Ex.lenS rfl Try.runUnderlying44) rfl ?_
    refine TL.run ft_value_ok [3] rfl rfl ?_
    by_cases c12 : y4 < (a0.length : Int)
    · replace h := ifT c12 h
      refine TL.nil (X.seq ?_)
      refine T.yes rfl (decide_eq_true c12) ?_
      refine T.skip (X.seq (T.seq (T.block (T.seq (T.draw (.q 0 (.q 1 (.q 2 (.q 3 (.q 4 (.q 5 (.q 6 (.q 7 (.q 8 (.q 9 .nil)))))))))) [0] rfl mix_value (NoP.seq (NoP.blk (NoP.seq (NoP.seq (NoP.blk (NoP.seq np_post)))))) (by kernel_rfl) ?_)))))
      replace h := guard_some h
      obtain ⟨c13, h⟩ := h
      refine TD.run ft_value_ok [0, 1] rfl rfl ?_
      refine TD.q rfl .u (Ex.sub rfl rfl c13) rfl ?_
      replace h := guard_some h
      obtain ⟨c14, h⟩ := h
      obtain ⟨x15, hx16, h⟩ := Option.bind_eq_some_iff.1 h
      obtain ⟨gz17, oz17, rfl, z17cs, z17cl, z17cc, z17nf, z17r⟩ := RX.elem (by decide) hX hx16
      obtain ⟨z17S, z17r, z17rr⟩ := z17r
      obtain rfl : z17cs = [.int .i64 x15] := z17r
      refine TD.q rfl .u (Ex.ixS (k := (y4 - 1).toNat) rfl rfl ((Int.toNat_of_nonneg c14).symm) Try.runUnderlying44 Try.sizeOf3 (List.getElem?_eq_some_iff.1 hx16).1) rfl ?_
      refine TD.q rfl .u (Ex.o1 0 rfl Try.isAgg3 z17nf z17cc rfl rfl) rfl ?_
      replace h := guard_some h
      obtain ⟨c18, h⟩ := h
      obtain ⟨x19, hx20, h⟩ := Option.bind_eq_some_iff.1 h
      obtain ⟨z21cs, z21cl, z21cc, z21nf, z21r⟩ := RX.elem' (by decide) hX hx20
      obtain ⟨z21S, z21r, z21rr⟩ := z21r
      obtain rfl : z21cs = [.int .i64 x19] := z21r
      refine TD.run ft_value_ok [5, 6] rfl rfl ?_
      refine TD.q rfl .u (Ex.ixS (k := y4.toNat) rfl rfl ((Int.toNat_of_nonneg c18).symm) Try.runUnderlying44 Try.sizeOf3 (List.getElem?_eq_some_iff.1 hx20).1) rfl ?_
      refine TD.q rfl .u (Ex.o1 0 rfl Try.isAgg3 z21nf z21cc rfl rfl) rfl ?_
      refine TD.run ft_value_ok [9] rfl rfl ?_
      by_cases c22 : x15 ≥ x19
      · replace h := ifT c22 h
        refine TD.nil (X.seq ?_)
        refine T.yes rfl (decide_eq_true c22) ?_
        refine T.seq (T.region rfl ?_)
        refine TL.run ft_value_ok [0] rfl rfl ?_
        obtain rfl := Option.some.inj h
        replace h := hO7
        clear hO7
        try dsimp only at h
        obtain rfl := Option.some.inj h
        exact TL.nil (X.seq (T.ret (X.rb (X.rs (X.rs (X.rb (X.rs (X.done1 [0] Try.results92 (RV.tm rfl) ⟨rfl, rfl, rfl⟩ (by rfl) (.inl rfl)))))))))
      · replace h := ifF c22 h
        refine TD.nil (X.seq ?_)
        refine T.no rfl (decide_eq_false c22) ?_
        refine T.skip (X.blk (X.seq (T.region rfl ?_)))
        replace h := guard_some h
        obtain ⟨c23, h⟩ := h
        refine TL.run ft_value_ok [0] rfl rfl ?_
        refine TL.q rfl .u (Ex.add rfl rfl c23) rfl ?_
        refine TL.run ft_value_ok [2] rfl rfl ?_
        exact TL.nil (X.back (m' := m8) [0] (by omega) ⟨y3, (y4 + 1), rfl, rfl, h⟩ (by rfl) (by rfl))
    · replace h := ifF c12 h
      refine TL.nil (X.seq ?_)
      refine T.no rfl (decide_eq_false c12) ?_
      obtain rfl := Option.some.inj h
      replace h := hO7
      clear hO7
      try dsimp only at h
      refine T.exit (X.exs (X.exs (X.ex (X.seq (T.seq (T.region rfl ?_))))))
      refine TL.run ft_value_ok [0] rfl rfl ?_
      obtain rfl := Option.some.inj h
      exact TL.nil (X.seq (T.ret (X.done1 [0] Try.results92 (RV.tm rfl) ⟨rfl, rfl, rfl⟩ (by rfl) (.inl rfl))))
def f_value_parts_l1 : List Int → Bool → Option (Lp Bool Bool)
  | [], y3 => some (Lp.go y3)
  | x9 :: xs, y3 => if x9 < 0 then some (Lp.ret false) else ((gFits x9 4).bind fun x14 => if x14 = true then (f_value_parts_l1 xs y3) else some (Lp.ret false))
def f_value_parts (a0 : List Int) : Option (Bool) := (f_value_parts_l1 a0 false).bind fun e => match e with | .ret r => some r | .go y17 => (if (a0.length : Int) > 0 then ((f_value_risingint a0).bind fun x20 => some x20) else some false)
set_option maxRecDepth 100000 in
set_option maxHeartbeats 4000000 in
theorem f_value_parts_spec (a0 : List Int) (A1 : Option Addr) (c2 : Nat) (r : Bool) (h : f_value_parts a0 = some r) : SpecX Try.prog 78 #[.slice A1 a0.length c2] (RX.of (sliceRd 1 intE) [.slice A1 a0.length c2] a0) (EmpR) (fun v A' N => v = .bool r ∧ A' = EmpR ∧ N = []) := by
  refine enterA Try.func78 rfl Try.ntmps78 rfl ?_
  intro F w hX
  unfold f_value_parts at h
  refine T.seq (T.region rfl ?_)
  refine TL.run ft_value_ok [0] rfl rfl ?_
  refine TL.nil (X.seq (T.seq (T.seq (T.region rfl ?_))))
  refine TL.run ft_value_ok [0] rfl rfl ?_
  refine TL.q rfl .u (Ex.lenS rfl Try.runUnderlying44) rfl ?_
  refine TL.run ft_value_ok [2] rfl rfl ?_
  refine TL.nil (X.seq (T.block ?_))
  obtain ⟨E5, hE6, hO7⟩ := Option.bind_eq_some_iff.1 h
  have hk11len := RX.len_le hX
  refine T.lp (fun m e Rs => ∃ (y3 : Bool) (k4 : Nat), k4 + m = a0.length ∧ e = [(0, .slice A1 a0.length c2), (2, .bool y3), (5, .slice A1 a0.length c2), (6, .int .i64 (a0.length : Int)), (7, .int .i64 (k4 : Int))] ∧ Rs = [EmpR] ∧ f_value_parts_l1 (a0.drop k4) y3 = some E5) (a0.length) [0] ⟨false, 0, by simp, rfl, rfl, by rw [List.drop_zero]; exact hE6⟩ (by rfl) (by rfl) ?_
  rintro m8 _ _ ⟨y3, k4, hk11, rfl, rfl, hl10⟩
  clear hE6 h
  cases m8 with
  | zero =>
    have h := hl10
    clear hl10
    rw [List.drop_of_length_le (by omega), f_value_parts_l1] at h
    have hk11ge : ¬ ((k4 : Int) < (a0.length : Int)) := by omega
    refine T.seq (T.region rfl ?_)
    refine TL.run ft_value_ok [0] rfl rfl ?_
    refine TL.nil (X.seq (T.seq ?_))
    refine T.no rfl (decide_eq_false hk11ge) ?_
    obtain rfl := Option.some.inj h
    replace h := hO7
    clear hO7
    try dsimp only at h
    refine T.exit (X.exs (X.exs (X.ex (X.seq (T.seq (T.region rfl ?_))))))
    refine TL.run ft_value_ok [0] rfl rfl ?_
    refine TL.q rfl .u (Ex.lenS rfl Try.runUnderlying44) rfl ?_
    by_cases c22 : (a0.length : Int) > 0
    · replace h := ifT c22 h
      refine TL.run ft_value_ok [2, 3] rfl rfl ?_
      refine TL.hv 22 rfl (decide_eq_true c22) ?_
      obtain ⟨x23, hx24, h⟩ := Option.bind_eq_some_iff.1 h
      refine TL.rw ft_value_ok 1 rfl ?_
      refine TL.ce rfl (.g rfl rfl rfl) (.fn Try.call92 rfl) (f_value_risingint_spec a0 _ _ _ hx24) (fun _ hs => (SrcE.old hs hX)) rfl ?_
      refine TL.rw ft_value_ok 2 rfl ?_
      obtain rfl := Option.some.inj h
      exact TL.nil (X.seq (T.ret (X.done1 [0] Try.results78 (RV.tm rfl) ⟨rfl, rfl, rfl⟩ (by rfl) (.inl rfl))))
    · replace h := ifF c22 h
      refine TL.run ft_value_ok [2, 3] rfl rfl ?_
      refine TL.hv 22 rfl (decide_eq_false c22) ?_
      refine TL.rw ft_value_ok 4 rfl ?_
      obtain rfl := Option.some.inj h
      exact TL.nil (X.seq (T.ret (X.done1 [0] Try.results78 (RV.tm rfl) ⟨rfl, rfl, rfl⟩ (by rfl) (.inl rfl))))
  | succ m8 =>
    have h := hl10
    clear hl10
    obtain ⟨x9, hxx9⟩ : ∃ x, a0[k4]? = some x := ⟨_, List.getElem?_eq_getElem (by omega)⟩
    rw [drop_cons hxx9, f_value_parts_l1] at h
    have hk11lt : (k4 : Int) < (a0.length : Int) := by omega
    refine T.seq (T.region rfl ?_)
    refine TL.run ft_value_ok [0] rfl rfl ?_
    refine TL.nil (X.seq (T.seq ?_))
    refine T.yes rfl (decide_eq_true hk11lt) ?_
    obtain ⟨gz12, oz12, rfl, z12cs, z12cl, z12cc, z12nf, z12r⟩ := RX.elem (by decide) hX hxx9
    obtain ⟨z12S, z12r, z12rr⟩ := z12r
    obtain rfl : z12cs = [.int .i64 x9] := z12r
    refine T.skip (X.seq (T.seq (T.block (T.seq (T.region rfl ?_)))))
    refine TL.q rfl .u (Ex.ixS (k := k4) rfl rfl rfl Try.runUnderlying44 Try.sizeOf3 (List.getElem?_eq_some_iff.1 hxx9).1) rfl ?_
    refine TL.q rfl .u (Ex.o1 0 rfl Try.isAgg3 z12nf z12cc rfl rfl) rfl ?_
    refine TL.run ft_value_ok [2] rfl rfl ?_
    refine TL.nil (X.seq (T.seq (T.region rfl ?_)))
    by_cases c13 : x9 < 0
    · replace h := ifT c13 h
      refine TL.run ft_value_ok [0, 1, 2] rfl rfl ?_
      refine TL.hv 13 rfl (decide_eq_true c13) ?_
      refine TL.rw ft_value_ok 4 rfl ?_
      refine TL.nil (X.seq ?_)
      refine T.yes rfl rfl ?_
      refine T.seq (T.region rfl ?_)
      refine TL.run ft_value_ok [0] rfl rfl ?_
      obtain rfl := Option.some.inj h
      replace h := hO7
      clear hO7
      try dsimp only at h
      obtain rfl := Option.some.inj h
      exact TL.nil (X.seq (T.ret (X.rb (X.rs (X.rs (X.rb (X.rs (X.done1 [0] Try.results78 (RV.tm rfl) ⟨rfl, rfl, rfl⟩ (by rfl) (.inl rfl)))))))))
    · replace h := ifF c13 h
      refine TL.run ft_value_ok [0, 1, 2] rfl rfl ?_
      refine TL.hv 13 rfl (decide_eq_false c13) ?_
      obtain ⟨x14, hx15, h⟩ := Option.bind_eq_some_iff.1 h
      refine TL.rw ft_value_ok 1 rfl ?_
      refine TL.ce rfl (.g rfl rfl rfl) (.fn Try.call51 rfl) (SpecX.pure (fun w => gFits_spec x9 4 _ hx15 w)) (fun _ _ => RX.reads_triv _ _) rfl ?_
      refine TL.rw ft_value_ok 2 rfl ?_
      by_cases c16 : x14 = true
      · replace h := ifT c16 h
        refine TL.nil (X.seq ?_)
        refine T.no rfl (bn_f c16) ?_
        refine T.skip (X.blk (X.seq (T.region rfl ?_)))
        refine TL.q rfl .u (Ex.add rfl rfl (by omega)) rfl ?_
        refine TL.run ft_value_ok [1] rfl rfl ?_
        exact TL.nil (X.back (m' := m8) [0] (by omega) ⟨y3, k4 + 1, by omega, rfl, rfl, h⟩ (by rfl) (by rfl))
      · replace h := ifF c16 h
        replace c16 := eq_false_of_ne_true c16
        refine TL.nil (X.seq ?_)
        refine T.yes rfl (bn_t c16) ?_
        refine T.seq (T.region rfl ?_)
        refine TL.run ft_value_ok [0] rfl rfl ?_
        obtain rfl := Option.some.inj h
        replace h := hO7
        clear hO7
        try dsimp only at h
        obtain rfl := Option.some.inj h
        exact TL.nil (X.seq (T.ret (X.rb (X.rs (X.rs (X.rb (X.rs (X.done1 [0] Try.results78 (RV.tm rfl) ⟨rfl, rfl, rfl⟩ (by rfl) (.inl rfl)))))))))
def f_value_risingstring_l1 (a0 : List (List UInt8)) : Nat → Bool → Int → Option (Lp Bool (Bool × Int))
  | 0, _, _ => none
  | m8 + 1, y3, y4 => if y4 < (a0.length : Int) then (if -9223372036854775808 ≤ (y4 - 1) ∧ (y4 - 1) ≤ 9223372036854775807 then (if 0 ≤ (y4 - 1) then ((a0[(y4 - 1).toNat]?).bind fun x15 => if 0 ≤ y4 then ((a0[y4.toNat]?).bind fun x19 => if (Op.bytesLess x15 x19) = true then (if -9223372036854775808 ≤ (y4 + 1) ∧ (y4 + 1) ≤ 9223372036854775807 then (f_value_risingstring_l1 a0 m8 y3 (y4 + 1)) else none) else some (Lp.ret false)) else none) else none) else none) else (some (Lp.go (y3, y4)))
def f_value_risingstring (a0 : List (List UInt8)) : Option (Bool) := (f_value_risingstring_l1 a0 ((((a0.length : Int)) - (1)).toNat + 1) false 1).bind fun e => match e with | .ret r => some r | .go (y24, y25) => some true
set_option maxRecDepth 100000 in
set_option maxHeartbeats 4000000 in
theorem f_value_risingstring_spec (a0 : List (List UInt8)) (A1 : Option Addr) (c2 : Nat) (r : Bool) (h : f_value_risingstring a0 = some r) : SpecX Try.prog 79 #[.slice A1 a0.length c2] (RX.of (sliceRd 1 strE) [.slice A1 a0.length c2] a0) (EmpR) (fun v A' N => v = .bool r ∧ A' = EmpR ∧ N = []) := by
  refine enterA Try.func79 rfl Try.ntmps79 rfl ?_
  intro F w hX
  unfold f_value_risingstring at h
  refine T.seq (T.region rfl ?_)
  refine TL.run ft_value_ok [0] rfl rfl ?_
  refine TL.nil (X.seq (T.seq (T.seq (T.region rfl ?_))))
  refine TL.run ft_value_ok [0] rfl rfl ?_
  refine TL.nil (X.seq (T.block ?_))
  obtain ⟨E5, hE6, hO7⟩ := Option.bind_eq_some_iff.1 h
  refine T.lp (fun m e Rs => ∃ (y3 : Bool) (y4 : Int), e = [(0, .slice A1 a0.length c2), (2, .bool y3), (3, .int .i64 y4)] ∧ Rs = [EmpR] ∧ f_value_risingstring_l1 a0 m y3 y4 = some E5) ((((a0.length : Int)) - (1)).toNat + 1) [0] ⟨false, 1, rfl, rfl, by exact hE6⟩ (by rfl) (by rfl) ?_
  rintro m8 _ _ ⟨y3, y4, rfl, rfl, hl10⟩
  clear hE6 h
  cases m8 with
  | zero =>
    rw [f_value_risingstring_l1] at hl10
    cases hl10
  | succ m8 =>
    have h := hl10
    clear hl10
    rw [f_value_risingstring_l1] at h
    refine T.seq (T.seq (T.region rfl ?_))
    refine TL.run ft_value_ok [0, 1] rfl rfl ?_
    refine TL.q rfl .u (Ex.lenS rfl Try.runUnderlying48) rfl ?_
    refine TL.run ft_value_ok [3] rfl rfl ?_
    by_cases c12 : y4 < (a0.length : Int)
    · replace h := ifT c12 h
      refine TL.nil (X.seq ?_)
      refine T.yes rfl (decide_eq_true c12) ?_
      refine T.skip (X.seq (T.seq (T.block (T.seq (T.draw (.q 0 (.q 1 (.q 2 (.q 3 (.q 4 (.q 5 (.q 6 (.q 7 (.q 8 (.q 9 .nil)))))))))) [0] rfl mix_value (NoP.seq (NoP.blk (NoP.seq (NoP.seq (NoP.blk (NoP.seq np_post)))))) (by kernel_rfl) ?_)))))
      replace h := guard_some h
      obtain ⟨c13, h⟩ := h
      refine TD.run ft_value_ok [0, 1] rfl rfl ?_
      refine TD.q rfl .u (Ex.sub rfl rfl c13) rfl ?_
      replace h := guard_some h
      obtain ⟨c14, h⟩ := h
      obtain ⟨x15, hx16, h⟩ := Option.bind_eq_some_iff.1 h
      obtain ⟨gz17, oz17, rfl, z17cs, z17cl, z17cc, z17nf, z17r⟩ := RX.elem (by decide) hX hx16
      obtain ⟨z17S, z17r, z17rr⟩ := z17r
      obtain rfl : z17cs = [.string (bsOf x15)] := z17r
      refine TD.q rfl .u (Ex.ixS (k := (y4 - 1).toNat) rfl rfl ((Int.toNat_of_nonneg c14).symm) Try.runUnderlying48 Try.sizeOf9 (List.getElem?_eq_some_iff.1 hx16).1) rfl ?_
      refine TD.q rfl .u (Ex.o1 0 rfl Try.isAgg9 z17nf z17cc rfl rfl) rfl ?_
      replace h := guard_some h
      obtain ⟨c18, h⟩ := h
      obtain ⟨x19, hx20, h⟩ := Option.bind_eq_some_iff.1 h
      obtain ⟨z21cs, z21cl, z21cc, z21nf, z21r⟩ := RX.elem' (by decide) hX hx20
      obtain ⟨z21S, z21r, z21rr⟩ := z21r
      obtain rfl : z21cs = [.string (bsOf x19)] := z21r
      refine TD.run ft_value_ok [5, 6] rfl rfl ?_
      refine TD.q rfl .u (Ex.ixS (k := y4.toNat) rfl rfl ((Int.toNat_of_nonneg c18).symm) Try.runUnderlying48 Try.sizeOf9 (List.getElem?_eq_some_iff.1 hx20).1) rfl ?_
      refine TD.q rfl .u (Ex.o1 0 rfl Try.isAgg9 z21nf z21cc rfl rfl) rfl ?_
      refine TD.q rfl .u (Ex.sGe rfl rfl) rfl ?_
      by_cases c22 : (Op.bytesLess x15 x19) = true
      · replace h := ifT c22 h
        refine TD.nil (X.seq ?_)
        refine T.no rfl (bn_f c22) ?_
        refine T.skip (X.blk (X.seq (T.region rfl ?_)))
        replace h := guard_some h
        obtain ⟨c23, h⟩ := h
        refine TL.run ft_value_ok [0] rfl rfl ?_
        refine TL.q rfl .u (Ex.add rfl rfl c23) rfl ?_
        refine TL.run ft_value_ok [2] rfl rfl ?_
        exact TL.nil (X.back (m' := m8) [0] (by omega) ⟨y3, (y4 + 1), rfl, rfl, h⟩ (by rfl) (by rfl))
      · replace h := ifF c22 h
        replace c22 := eq_false_of_ne_true c22
        refine TD.nil (X.seq ?_)
        refine T.yes rfl (bn_t c22) ?_
        refine T.seq (T.region rfl ?_)
        refine TL.run ft_value_ok [0] rfl rfl ?_
        obtain rfl := Option.some.inj h
        replace h := hO7
        clear hO7
        try dsimp only at h
        obtain rfl := Option.some.inj h
        exact TL.nil (X.seq (T.ret (X.rb (X.rs (X.rs (X.rb (X.rs (X.done1 [0] Try.results79 (RV.tm rfl) ⟨rfl, rfl, rfl⟩ (by rfl) (.inl rfl)))))))))
    · replace h := ifF c12 h
      refine TL.nil (X.seq ?_)
      refine T.no rfl (decide_eq_false c12) ?_
      obtain rfl := Option.some.inj h
      replace h := hO7
      clear hO7
      try dsimp only at h
      refine T.exit (X.exs (X.exs (X.ex (X.seq (T.seq (T.region rfl ?_))))))
      refine TL.run ft_value_ok [0] rfl rfl ?_
      obtain rfl := Option.some.inj h
      exact TL.nil (X.seq (T.ret (X.done1 [0] Try.results79 (RV.tm rfl) ⟨rfl, rfl, rfl⟩ (by rfl) (.inl rfl))))
def f_value_topics_l1 : List Top → Bool → List (List UInt8) → Option (Lp Bool (Bool × List (List UInt8)))
  | [], y3, y4 => some (Lp.go (y3, y4))
  | x12 :: xs, y3, y4 => if x12.fName = [] then some (Lp.ret false) else (if (x12.fName.length : Int) > 32767 then some (Lp.ret false) else ((f_value_parts x12.fParts).bind fun x22 => if x22 = true then (if (y4.length + 1) * 16 ≤ 140737488355328 then (f_value_topics_l1 xs y3 (y4 ++ [x12.fName])) else none) else some (Lp.ret false)))
def f_value_topics (a0 : List Top) : Option (Bool) := (f_value_topics_l1 a0 false []).bind fun e => match e with | .ret r => some r | .go (y29, y30) => ((f_value_risingstring y30).bind fun x34 => some x34)
set_option maxRecDepth 100000 in
set_option maxHeartbeats 4000000 in
theorem f_value_topics_spec (a0 : List Top) (A1 : Option Addr) (c2 : Nat) (r : Bool) (h : f_value_topics a0 = some r) : SpecX Try.prog 69 #[.slice A1 a0.length c2] (RX.of (sliceRd 2 Top_rd) [.slice A1 a0.length c2] a0) (EmpR) (fun v A' N => v = .bool r ∧ A' = EmpR ∧ N = []) := by
  refine enterA Try.func69 rfl Try.ntmps69 rfl ?_
  intro F w hX
  unfold f_value_topics at h
  refine T.seq (T.region rfl ?_)
  refine TL.run ft_value_ok [0] rfl rfl ?_
  refine TL.nil (X.seq (T.seq (T.region rfl ?_)))
  refine TL.run ft_value_ok [0] rfl rfl ?_
  refine TL.nil (X.seq (T.seq (T.seq (T.region rfl ?_))))
  refine TL.run ft_value_ok [0] rfl rfl ?_
  refine TL.q rfl .u (Ex.lenS rfl Try.runUnderlying22) rfl ?_
  refine TL.run ft_value_ok [2] rfl rfl ?_
  refine TL.nil (X.seq (T.block ?_))
  refine T.nilrow 9 1 strE ?_
  obtain ⟨E8, hE9, hO10⟩ := Option.bind_eq_some_iff.1 h
  have hk14len := RX.len_le hX
  refine T.lp (fun m e Rs => ∃ (y3 : Bool) (y4 : List (List UInt8)) (A5 : Option Addr) (c6 : Nat) (k7 : Nat), k7 + m = a0.length ∧ e = [(2, .bool y3), (3, .slice A5 y4.length c6), (6, .slice A1 a0.length c2), (7, .int .i64 (a0.length : Int)), (8, .int .i64 (k7 : Int))] ∧ Rs = [OwnR 9 1 strE (.slice A5 y4.length c6) y4, EmpR] ∧ f_value_topics_l1 (a0.drop k7) y3 y4 = some E8) (a0.length) [0, 0] ⟨false, [], none, 0, 0, by simp, rfl, rfl, by rw [List.drop_zero]; exact hE9⟩ (by rfl) (by rfl) ?_
  rintro m11 _ _ ⟨y3, y4, A5, c6, k7, hk14, rfl, rfl, hl13⟩
  clear hE9 h
  cases m11 with
  | zero =>
    have h := hl13
    clear hl13
    rw [List.drop_of_length_le (by omega), f_value_topics_l1] at h
    have hk14ge : ¬ ((k7 : Int) < (a0.length : Int)) := by omega
    refine T.seq (T.region rfl ?_)
    refine TL.run ft_value_ok [0] rfl rfl ?_
    refine TL.nil (X.seq (T.seq ?_))
    refine T.no rfl (decide_eq_false hk14ge) ?_
    obtain rfl := Option.some.inj h
    replace h := hO10
    clear hO10
    try dsimp only at h
    refine T.exit (X.exs (X.exs (X.ex (X.seq (T.seq (T.region rfl ?_))))))
    obtain ⟨x36, hx37, h⟩ := Option.bind_eq_some_iff.1 h
    refine TL.run ft_value_ok [0] rfl rfl ?_
    refine TL.ce rfl .u (.fn Try.call79 rfl) (f_value_risingstring_spec y4 _ _ _ hx37) (fun _ hs => (SrcE.res 0 hs rfl (fun w G h => own_reads (by decide) w G h))) rfl ?_
    refine TL.run ft_value_ok [2] rfl rfl ?_
    obtain rfl := Option.some.inj h
    exact TL.nil (X.seq (T.ret (X.done1 [1] Try.results69 (RV.tm rfl) ⟨rfl, rfl, rfl⟩ (by rfl) (.inl rfl))))
  | succ m11 =>
    have h := hl13
    clear hl13
    obtain ⟨x12, hxx12⟩ : ∃ x, a0[k7]? = some x := ⟨_, List.getElem?_eq_getElem (by omega)⟩
    rw [drop_cons hxx12, f_value_topics_l1] at h
    have hk14lt : (k7 : Int) < (a0.length : Int) := by omega
    refine T.seq (T.region rfl ?_)
    refine TL.run ft_value_ok [0] rfl rfl ?_
    refine TL.nil (X.seq (T.seq ?_))
    refine T.yes rfl (decide_eq_true hk14lt) ?_
    obtain ⟨gz15, oz15, rfl, z15cs, z15cl, z15cc, z15nf, z15r⟩ := RX.elem (by decide) hX hxx12
    obtain ⟨z15S, z15r, z15rr⟩ := z15r
    obtain ⟨A16, c17, rfl, z15s0⟩ := z15r
    have hX18 : (RX.of (sliceRd 1 intE) [.slice A16 x12.fParts.length c17] x12.fParts).reads w F := ⟨z15S, z15s0, z15rr⟩
    refine T.skip (X.seq (T.seq (T.block (T.seq (T.region rfl ?_)))))
    refine TL.q rfl .u (Ex.ixS (k := k7) rfl rfl rfl Try.runUnderlying22 Try.sizeOf46 (List.getElem?_eq_some_iff.1 hxx12).1) rfl ?_
    refine TL.q rfl .u (Ex.oS (us := [.string (bsOf x12.fName), .slice A16 x12.fParts.length c17]) 0 rfl Try.isAgg46 Try.sizeOf46 z15nf z15cc rfl rfl rfl) rfl ?_
    refine TL.alloc rfl .u Try.zeroValue46 rfl (fun b19 => ?_)
    refine TL.st0 (cs' := #[.string (bsOf x12.fName), .slice A16 x12.fParts.length c17]) rfl .u rfl rfl Try.sizeOf46 rfl rfl rfl rfl ?_
    refine TL.nil (X.seq (T.seq (T.seq (T.region rfl ?_))))
    refine TL.rb ft_value_ok nt_value_ok 0 rfl 2 rfl rfl ?_
    refine TL.q rfl .u (Ex.sEq rfl (m := []) rfl) rfl ?_
    by_cases c20 : x12.fName = []
    · replace h := ifT c20 h
      refine TL.run ft_value_ok [3] rfl rfl ?_
      refine TL.hv 15 rfl (decide_eq_true c20) ?_
      refine TL.rw ft_value_ok 11 rfl ?_
      refine TL.nil (X.seq ?_)
      refine T.yes rfl rfl ?_
      refine T.seq (T.region rfl ?_)
      refine TL.run ft_value_ok [0] rfl rfl ?_
      obtain rfl := Option.some.inj h
      replace h := hO10
      clear hO10
      try dsimp only at h
      obtain rfl := Option.some.inj h
      exact TL.nil (X.seq (T.ret (X.rs (X.rb (X.rs (X.rs (X.rb (X.rs (X.done1 [2] Try.results69 (RV.tm rfl) ⟨rfl, rfl, rfl⟩ (by rfl) (.inl rfl))))))))))
    · replace h := ifF c20 h
      refine TL.run ft_value_ok [3] rfl rfl ?_
      refine TL.hv 15 rfl (decide_eq_false c20) ?_
      refine TL.rb ft_value_ok nt_value_ok 0 rfl 2 rfl rfl ?_
      refine TL.q rfl (.g rfl rfl rfl) (Ex.lenB rfl Try.runUnderlying9) rfl ?_
      by_cases c21 : (x12.fName.length : Int) > 32767
      · replace h := ifT c21 h
        refine TL.rw ft_value_ok 3 rfl ?_
        refine TL.hv 21 rfl (decide_eq_true c21) ?_
        refine TL.rw ft_value_ok 5 rfl ?_
        refine TL.nil (X.seq ?_)
        refine T.yes rfl rfl ?_
        refine T.seq (T.region rfl ?_)
        refine TL.run ft_value_ok [0] rfl rfl ?_
        obtain rfl := Option.some.inj h
        replace h := hO10
        clear hO10
        try dsimp only at h
        obtain rfl := Option.some.inj h
        exact TL.nil (X.seq (T.ret (X.rs (X.rb (X.rs (X.rs (X.rb (X.rs (X.done1 [2] Try.results69 (RV.tm rfl) ⟨rfl, rfl, rfl⟩ (by rfl) (.inl rfl))))))))))
      · replace h := ifF c21 h
        refine TL.rw ft_value_ok 3 rfl ?_
        refine TL.hv 21 rfl (decide_eq_false c21) ?_
        obtain ⟨x22, hx23, h⟩ := Option.bind_eq_some_iff.1 h
        refine TL.rb ft_value_ok nt_value_ok 0 rfl 2 rfl rfl ?_
        refine TL.ce rfl (.g rfl rfl rfl) (.fn Try.call78 rfl) (f_value_parts_spec x12.fParts _ _ _ hx23) (fun _ hs => (SrcE.old hs hX18)) rfl ?_
        refine TL.rw ft_value_ok 2 rfl ?_
        by_cases c24 : x22 = true
        · replace h := ifT c24 h
          refine TL.nil (X.seq ?_)
          refine T.no rfl (bn_f c24) ?_
          refine T.skip (X.seq (T.region rfl ?_))
          refine TL.rb ft_value_ok nt_value_ok 0 rfl 3 rfl rfl ?_
          refine TL.lit (cells := #[.string (bsOf x12.fName)]) rfl .u sok_value_48_1 rfl (by rfl) rfl (fun b25 => ?_)
          replace h := guard_some h
          obtain ⟨c26, h⟩ := h
          refine TL.app1 1 rfl .u (us := [.string (bsOf x12.fName)]) (u := x12.fName) (l := y4) (E := strE) Try.underlying48 inf_value_9 rfl (by decide) rfl rfl rfl rfl rfl rfl (fun _ _ => rfl) (by have hq := c26; omega) (by have hq := c26; omega) rfl (fun A27 c28 => ?_)
          refine TL.sel [0, 0, 0] rfl ?_
          refine TL.run ft_value_ok [5] rfl rfl ?_
          refine TL.nil (X.blk (X.seq (T.region rfl ?_)))
          refine TL.q rfl .u (Ex.add rfl rfl (by omega)) rfl ?_
          refine TL.run ft_value_ok [1] rfl rfl ?_
          exact TL.nil (X.back (m' := m11) [1, 1] (by omega) ⟨y3, (y4 ++ [x12.fName]), A27, c28, k7 + 1, by omega, rfl, rfl, h⟩ (by rfl) (by rfl))
        · replace h := ifF c24 h
          replace c24 := eq_false_of_ne_true c24
          refine TL.nil (X.seq ?_)
          refine T.yes rfl (bn_t c24) ?_
          refine T.seq (T.region rfl ?_)
          refine TL.run ft_value_ok [0] rfl rfl ?_
          obtain rfl := Option.some.inj h
          replace h := hO10
          clear hO10
          try dsimp only at h
          obtain rfl := Option.some.inj h
          exact TL.nil (X.seq (T.ret (X.rs (X.rb (X.rs (X.rs (X.rb (X.rs (X.done1 [2] Try.results69 (RV.tm rfl) ⟨rfl, rfl, rfl⟩ (by rfl) (.inl rfl))))))))))
def f_value_Check (a0 : Val) : Option (Int) := if a0.fProducer < 0 then some 11 else (if a0.fEpoch < 0 then some 11 else ((gFits a0.fEpoch 2).bind fun x6 => if x6 = true then (if a0.fTimeout < 0 then some 11 else ((gFits a0.fTimeout 4).bind fun x10 => if x10 = true then (if a0.fUpdated < 0 then some 11 else (if a0.fStarted < (-1) then some 11 else (if a0.fState < 0 then some 12 else (if a0.fState ≥ 7 then some 12 else ((f_value_Idle a0.fState).bind fun x17 => if x17 = true then (if (a0.fTopics.length : Int) = 0 then (if a0.fState = 0 then (if a0.fStarted = (-1) then ((f_value_topics a0.fTopics).bind fun x23 => if x23 = true then some 0 else some 13) else some 10) else (if a0.fStarted = (-1) then some 10 else ((f_value_topics a0.fTopics).bind fun x27 => if x27 = true then some 0 else some 13))) else some 10) else (if (a0.fTopics.length : Int) = 0 then some 10 else (if a0.fState = 0 then (if a0.fStarted = (-1) then ((f_value_topics a0.fTopics).bind fun x33 => if x33 = true then some 0 else some 13) else some 10) else (if a0.fStarted = (-1) then some 10 else ((f_value_topics a0.fTopics).bind fun x37 => if x37 = true then some 0 else some 13))))))))) else some 11)) else some 11))
set_option maxRecDepth 100000 in
set_option maxHeartbeats 4000000 in
theorem f_value_Check_spec (a0 : Val) (A1 : Option Addr) (c2 : Nat) (r : Int) (h : f_value_Check a0 = some r) : SpecX Try.prog 47 #[.agg #[.int .i64 a0.fProducer, .int .i64 a0.fEpoch, .int .i64 a0.fTimeout, .int .i64 a0.fState, .slice A1 a0.fTopics.length c2, .int .i64 a0.fUpdated, .int .i64 a0.fStarted]] (RX.of (sliceRd 2 Top_rd) [.slice A1 a0.fTopics.length c2] a0.fTopics) (EmpR) (fun v A' N => v = .int .i64 r ∧ A' = EmpR ∧ N = []) := by
  refine enterA Try.func47 rfl Try.ntmps47 rfl ?_
  intro F w hX
  unfold f_value_Check at h
  refine T.seq (T.region rfl ?_)
  refine TL.box rfl .u rfl rfl (fun b3 => ?_)
  refine TL.run ft_value_ok [1] rfl rfl ?_
  refine TL.nil (X.seq (T.seq (T.block (T.seq (T.region rfl ?_)))))
  by_cases c4 : a0.fProducer < 0
  · replace h := ifT c4 h
    refine TL.rb ft_value_ok nt_value_ok 0 rfl 4 rfl rfl ?_
    refine TL.hv 7 rfl (decide_eq_true c4) ?_
    refine TL.rw ft_value_ok 32 rfl ?_
    refine TL.nil (X.seq ?_)
    refine T.yes rfl rfl ?_
    refine T.seq (T.region rfl ?_)
    refine TL.run ft_value_ok [0] rfl rfl ?_
    obtain rfl := Option.some.inj h
    exact TL.nil (X.seq (T.ret (X.rb (X.rs (X.done1 [1] Try.results47 (RV.tm rfl) ⟨rfl, rfl, rfl⟩ (by rfl) (.inl rfl))))))
  · replace h := ifF c4 h
    refine TL.rb ft_value_ok nt_value_ok 0 rfl 4 rfl rfl ?_
    refine TL.hv 7 rfl (decide_eq_false c4) ?_
    by_cases c5 : a0.fEpoch < 0
    · replace h := ifT c5 h
      refine TL.rb ft_value_ok nt_value_ok 0 rfl 5 rfl rfl ?_
      refine TL.hv 12 rfl (decide_eq_true c5) ?_
      refine TL.rw ft_value_ok 27 rfl ?_
      refine TL.nil (X.seq ?_)
      refine T.yes rfl rfl ?_
      refine T.seq (T.region rfl ?_)
      refine TL.run ft_value_ok [0] rfl rfl ?_
      obtain rfl := Option.some.inj h
      exact TL.nil (X.seq (T.ret (X.rb (X.rs (X.done1 [1] Try.results47 (RV.tm rfl) ⟨rfl, rfl, rfl⟩ (by rfl) (.inl rfl))))))
    · replace h := ifF c5 h
      refine TL.rb ft_value_ok nt_value_ok 0 rfl 5 rfl rfl ?_
      refine TL.hv 12 rfl (decide_eq_false c5) ?_
      obtain ⟨x6, hx7, h⟩ := Option.bind_eq_some_iff.1 h
      refine TL.rb ft_value_ok nt_value_ok 0 rfl 2 rfl rfl ?_
      refine TL.ce rfl (.g rfl rfl rfl) (.fn Try.call51 rfl) (SpecX.pure (fun w => gFits_spec a0.fEpoch 2 _ hx7 w)) (fun _ _ => RX.reads_triv _ _) rfl ?_
      by_cases c8 : x6 = true
      · replace h := ifT c8 h
        refine TL.rw ft_value_ok 3 rfl ?_
        refine TL.hv 18 rfl (bn_f c8) ?_
        by_cases c9 : a0.fTimeout < 0
        · replace h := ifT c9 h
          refine TL.rb ft_value_ok nt_value_ok 0 rfl 5 rfl rfl ?_
          refine TL.hv 23 rfl (decide_eq_true c9) ?_
          refine TL.rw ft_value_ok 16 rfl ?_
          refine TL.nil (X.seq ?_)
          refine T.yes rfl rfl ?_
          refine T.seq (T.region rfl ?_)
          refine TL.run ft_value_ok [0] rfl rfl ?_
          obtain rfl := Option.some.inj h
          exact TL.nil (X.seq (T.ret (X.rb (X.rs (X.done1 [1] Try.results47 (RV.tm rfl) ⟨rfl, rfl, rfl⟩ (by rfl) (.inl rfl))))))
        · replace h := ifF c9 h
          refine TL.rb ft_value_ok nt_value_ok 0 rfl 5 rfl rfl ?_
          refine TL.hv 23 rfl (decide_eq_false c9) ?_
          obtain ⟨x10, hx11, h⟩ := Option.bind_eq_some_iff.1 h
          refine TL.rb ft_value_ok nt_value_ok 0 rfl 2 rfl rfl ?_
          refine TL.ce rfl (.g rfl rfl rfl) (.fn Try.call51 rfl) (SpecX.pure (fun w => gFits_spec a0.fTimeout 4 _ hx11 w)) (fun _ _ => RX.reads_triv _ _) rfl ?_
          by_cases c12 : x10 = true
          · replace h := ifT c12 h
            refine TL.rw ft_value_ok 3 rfl ?_
            refine TL.hv 29 rfl (bn_f c12) ?_
            by_cases c13 : a0.fUpdated < 0
            · replace h := ifT c13 h
              refine TL.rb ft_value_ok nt_value_ok 0 rfl 5 rfl rfl ?_
              refine TL.hv 34 rfl (decide_eq_true c13) ?_
              refine TL.rw ft_value_ok 5 rfl ?_
              refine TL.nil (X.seq ?_)
              refine T.yes rfl rfl ?_
              refine T.seq (T.region rfl ?_)
              refine TL.run ft_value_ok [0] rfl rfl ?_
              obtain rfl := Option.some.inj h
              exact TL.nil (X.seq (T.ret (X.rb (X.rs (X.done1 [1] Try.results47 (RV.tm rfl) ⟨rfl, rfl, rfl⟩ (by rfl) (.inl rfl))))))
            · replace h := ifF c13 h
              refine TL.rb ft_value_ok nt_value_ok 0 rfl 5 rfl rfl ?_
              refine TL.hv 34 rfl (decide_eq_false c13) ?_
              refine TL.rb ft_value_ok nt_value_ok 0 rfl 5 rfl rfl ?_
              by_cases c14 : a0.fStarted < (-1)
              · replace h := ifT c14 h
                refine TL.nil (X.seq ?_)
                refine T.yes rfl (decide_eq_true c14) ?_
                refine T.seq (T.region rfl ?_)
                refine TL.run ft_value_ok [0] rfl rfl ?_
                obtain rfl := Option.some.inj h
                exact TL.nil (X.seq (T.ret (X.rb (X.rs (X.done1 [1] Try.results47 (RV.tm rfl) ⟨rfl, rfl, rfl⟩ (by rfl) (.inl rfl))))))
              · replace h := ifF c14 h
                refine TL.nil (X.seq ?_)
                refine T.no rfl (decide_eq_false c14) ?_
                refine T.seq (T.region rfl ?_)
                by_cases c15 : a0.fState < 0
                · replace h := ifT c15 h
                  refine TL.rb ft_value_ok nt_value_ok 0 rfl 4 rfl rfl ?_
                  refine TL.hv 43 rfl (decide_eq_true c15) ?_
                  refine TL.rw ft_value_ok 5 rfl ?_
                  refine TL.nil (X.seq ?_)
                  refine T.yes rfl rfl ?_
                  refine T.seq (T.region rfl ?_)
                  refine TL.run ft_value_ok [0] rfl rfl ?_
                  obtain rfl := Option.some.inj h
                  exact TL.nil (X.seq (T.ret (X.rb (X.rs (X.done1 [1] Try.results47 (RV.tm rfl) ⟨rfl, rfl, rfl⟩ (by rfl) (.inl rfl))))))
                · replace h := ifF c15 h
                  refine TL.rb ft_value_ok nt_value_ok 0 rfl 4 rfl rfl ?_
                  refine TL.hv 43 rfl (decide_eq_false c15) ?_
                  refine TL.rb ft_value_ok nt_value_ok 0 rfl 5 rfl rfl ?_
                  by_cases c16 : a0.fState ≥ 7
                  · replace h := ifT c16 h
                    refine TL.nil (X.seq ?_)
                    refine T.yes rfl (decide_eq_true c16) ?_
                    refine T.seq (T.region rfl ?_)
                    refine TL.run ft_value_ok [0] rfl rfl ?_
                    obtain rfl := Option.some.inj h
                    exact TL.nil (X.seq (T.ret (X.rb (X.rs (X.done1 [1] Try.results47 (RV.tm rfl) ⟨rfl, rfl, rfl⟩ (by rfl) (.inl rfl))))))
                  · replace h := ifF c16 h
                    refine TL.nil (X.seq ?_)
                    refine T.no rfl (decide_eq_false c16) ?_
                    refine T.seq (T.draw (.q 0 (.q 1 (.q 3 (.q 4 (.q 5 (.q 6 (.e 2 (.q 7 (.q 8 (.q 9 (.q 10 (.q 11 (.q 12 (.q 13 (.q 14 (.q 15 (.q 16 (.q 17 .nil)))))))))))))))))) [0, 0] rfl mix_value (NoP.seq (NoP.blk (NoP.seq np_post))) (by kernel_rfl) ?_)
                    refine TD.run ft_value_ok [0] rfl rfl ?_
                    refine TD.q rfl .u (Ex.b1 0 rfl Try.isAgg3 rfl rfl) rfl ?_
                    refine TD.run ft_value_ok [3] rfl rfl ?_
                    refine TD.q rfl .u (Ex.b1 0 rfl Try.isAgg22 rfl rfl) rfl ?_
                    refine TD.q rfl .u (Ex.lenS rfl Try.runUnderlying22) rfl ?_
                    obtain ⟨x17, hx18, h⟩ := Option.bind_eq_some_iff.1 h
                    refine TD.run ft_value_ok [6] rfl rfl ?_
                    refine TD.ce rfl .u (.fn Try.call68 rfl) (f_value_Idle_spec a0.fState _ hx18) (fun _ hs => (RX.reads_triv _ _)) rfl [0, 0] (rfl) ?_
                    by_cases c19 : x17 = true
                    · replace h := ifT c19 h
                      by_cases c20 : (a0.fTopics.length : Int) = 0
                      · replace h := ifT c20 h
                        refine TD.q rfl .u (Ex.bNe rfl c19 rfl (decide_eq_true c20) Try.runUnderlying4) rfl ?_
                        refine TD.run ft_value_ok [8] rfl rfl ?_
                        refine TD.q rfl (.g rfl rfl rfl) (Ex.ft ft_value_ok rfl) rfl ?_
                        refine TD.q rfl (.g rfl rfl rfl) (Ex.b1 0 rfl Try.isAgg3 rfl rfl) rfl ?_
                        refine TD.q rfl (.g rfl rfl rfl) (Ex.ft ft_value_ok rfl) rfl ?_
                        refine TD.q rfl (.g rfl rfl rfl) (Ex.ft ft_value_ok rfl) rfl ?_
                        refine TD.q rfl (.g rfl rfl rfl) (Ex.b1 0 rfl Try.isAgg3 rfl rfl) rfl ?_
                        refine TD.q rfl (.g rfl rfl rfl) (Ex.ft ft_value_ok rfl) rfl ?_
                        by_cases c21 : a0.fState = 0
                        · replace h := ifT c21 h
                          by_cases c22 : a0.fStarted = (-1)
                          · replace h := ifT c22 h
                            refine TD.q rfl (.g rfl rfl rfl) (Ex.bNe rfl (decide_eq_true c21) rfl (decide_eq_true c22) Try.runUnderlying4) rfl ?_
                            refine TD.q rfl .u (Ex.pn rfl rfl rfl) rfl ?_
                            refine TD.run ft_value_ok [17] rfl rfl ?_
                            refine TD.nil (X.seq ?_)
                            refine T.no rfl rfl ?_
                            refine T.seq (T.region rfl ?_)
                            obtain ⟨x23, hx24, h⟩ := Option.bind_eq_some_iff.1 h
                            refine TL.rb ft_value_ok nt_value_ok 0 rfl 2 rfl rfl ?_
                            refine TL.ce rfl .u (.fn Try.call69 rfl) (f_value_topics_spec a0.fTopics _ _ _ hx24) (fun _ hs => (SrcE.old hs hX)) rfl ?_
                            refine TL.run ft_value_ok [3, 4] rfl rfl ?_
                            by_cases c25 : x23 = true
                            · replace h := ifT c25 h
                              refine TL.nil (X.seq ?_)
                              refine T.no rfl (bn_f c25) ?_
                              refine T.skip (X.blk (X.seq (T.seq (T.region rfl ?_))))
                              refine TL.run ft_value_ok [0] rfl rfl ?_
                              obtain rfl := Option.some.inj h
                              exact TL.nil (X.seq (T.ret (X.done1 [1] Try.results47 (RV.tm rfl) ⟨rfl, rfl, rfl⟩ (by rfl) (.inl rfl))))
                            · replace h := ifF c25 h
                              replace c25 := eq_false_of_ne_true c25
                              refine TL.nil (X.seq ?_)
                              refine T.yes rfl (bn_t c25) ?_
                              refine T.seq (T.region rfl ?_)
                              refine TL.run ft_value_ok [0] rfl rfl ?_
                              obtain rfl := Option.some.inj h
                              exact TL.nil (X.seq (T.ret (X.rb (X.rs (X.done1 [1] Try.results47 (RV.tm rfl) ⟨rfl, rfl, rfl⟩ (by rfl) (.inl rfl))))))
                          · replace h := ifF c22 h
                            refine TD.q rfl (.g rfl rfl rfl) (Ex.bNe rfl (decide_eq_true c21) rfl (decide_eq_false c22) Try.runUnderlying4) rfl ?_
                            refine TD.q rfl .u (Ex.pn rfl rfl rfl) rfl ?_
                            refine TD.run ft_value_ok [17] rfl rfl ?_
                            refine TD.nil (X.seq ?_)
                            refine T.yes rfl rfl ?_
                            refine T.seq (T.region rfl ?_)
                            refine TL.run ft_value_ok [0] rfl rfl ?_
                            obtain rfl := Option.some.inj h
                            exact TL.nil (X.seq (T.ret (X.rb (X.rs (X.done1 [1] Try.results47 (RV.tm rfl) ⟨rfl, rfl, rfl⟩ (by rfl) (.inl rfl))))))
                        · replace h := ifF c21 h
                          by_cases c26 : a0.fStarted = (-1)
                          · replace h := ifT c26 h
                            refine TD.q rfl (.g rfl rfl rfl) (Ex.bNe rfl (decide_eq_false c21) rfl (decide_eq_true c26) Try.runUnderlying4) rfl ?_
                            refine TD.q rfl .u (Ex.pn rfl rfl rfl) rfl ?_
                            refine TD.run ft_value_ok [17] rfl rfl ?_
                            refine TD.nil (X.seq ?_)
                            refine T.yes rfl rfl ?_
                            refine T.seq (T.region rfl ?_)
                            refine TL.run ft_value_ok [0] rfl rfl ?_
                            obtain rfl := Option.some.inj h
                            exact TL.nil (X.seq (T.ret (X.rb (X.rs (X.done1 [1] Try.results47 (RV.tm rfl) ⟨rfl, rfl, rfl⟩ (by rfl) (.inl rfl))))))
                          · replace h := ifF c26 h
                            refine TD.q rfl (.g rfl rfl rfl) (Ex.bNe rfl (decide_eq_false c21) rfl (decide_eq_false c26) Try.runUnderlying4) rfl ?_
                            refine TD.q rfl .u (Ex.pn rfl rfl rfl) rfl ?_
                            refine TD.run ft_value_ok [17] rfl rfl ?_
                            refine TD.nil (X.seq ?_)
                            refine T.no rfl rfl ?_
                            refine T.seq (T.region rfl ?_)
                            obtain ⟨x27, hx28, h⟩ := Option.bind_eq_some_iff.1 h
                            refine TL.rb ft_value_ok nt_value_ok 0 rfl 2 rfl rfl ?_
                            refine TL.ce rfl .u (.fn Try.call69 rfl) (f_value_topics_spec a0.fTopics _ _ _ hx28) (fun _ hs => (SrcE.old hs hX)) rfl ?_
                            refine TL.run ft_value_ok [3, 4] rfl rfl ?_
                            by_cases c29 : x27 = true
                            · replace h := ifT c29 h
                              refine TL.nil (X.seq ?_)
                              refine T.no rfl (bn_f c29) ?_
                              refine T.skip (X.blk (X.seq (T.seq (T.region rfl ?_))))
                              refine TL.run ft_value_ok [0] rfl rfl ?_
                              obtain rfl := Option.some.inj h
                              exact TL.nil (X.seq (T.ret (X.done1 [1] Try.results47 (RV.tm rfl) ⟨rfl, rfl, rfl⟩ (by rfl) (.inl rfl))))
                            · replace h := ifF c29 h
                              replace c29 := eq_false_of_ne_true c29
                              refine TL.nil (X.seq ?_)
                              refine T.yes rfl (bn_t c29) ?_
                              refine T.seq (T.region rfl ?_)
                              refine TL.run ft_value_ok [0] rfl rfl ?_
                              obtain rfl := Option.some.inj h
                              exact TL.nil (X.seq (T.ret (X.rb (X.rs (X.done1 [1] Try.results47 (RV.tm rfl) ⟨rfl, rfl, rfl⟩ (by rfl) (.inl rfl))))))
                      · replace h := ifF c20 h
                        refine TD.q rfl .u (Ex.bNe rfl c19 rfl (decide_eq_false c20) Try.runUnderlying4) rfl ?_
                        refine TD.run ft_value_ok [8] rfl rfl ?_
                        refine TD.no rfl (.gn rfl rfl rfl) rfl ?_
                        refine TD.no rfl (.gn rfl rfl rfl) rfl ?_
                        refine TD.no rfl (.gn rfl rfl rfl) rfl ?_
                        refine TD.no rfl (.gn rfl rfl rfl) rfl ?_
                        refine TD.no rfl (.gn rfl rfl rfl) rfl ?_
                        refine TD.no rfl (.gn rfl rfl rfl) rfl ?_
                        refine TD.no rfl (.gn rfl rfl rfl) rfl ?_
                        refine TD.q rfl .u (Ex.py rfl rfl rfl) rfl ?_
                        refine TD.run ft_value_ok [17] rfl rfl ?_
                        refine TD.nil (X.seq ?_)
                        refine T.yes rfl rfl ?_
                        refine T.seq (T.region rfl ?_)
                        refine TL.run ft_value_ok [0] rfl rfl ?_
                        obtain rfl := Option.some.inj h
                        exact TL.nil (X.seq (T.ret (X.rb (X.rs (X.done1 [1] Try.results47 (RV.tm rfl) ⟨rfl, rfl, rfl⟩ (by rfl) (.inl rfl))))))
                    · replace h := ifF c19 h
                      replace c19 := eq_false_of_ne_true c19
                      by_cases c30 : (a0.fTopics.length : Int) = 0
                      · replace h := ifT c30 h
                        refine TD.q rfl .u (Ex.bNe rfl c19 rfl (decide_eq_true c30) Try.runUnderlying4) rfl ?_
                        refine TD.run ft_value_ok [8] rfl rfl ?_
                        refine TD.no rfl (.gn rfl rfl rfl) rfl ?_
                        refine TD.no rfl (.gn rfl rfl rfl) rfl ?_
                        refine TD.no rfl (.gn rfl rfl rfl) rfl ?_
                        refine TD.no rfl (.gn rfl rfl rfl) rfl ?_
                        refine TD.no rfl (.gn rfl rfl rfl) rfl ?_
                        refine TD.no rfl (.gn rfl rfl rfl) rfl ?_
                        refine TD.no rfl (.gn rfl rfl rfl) rfl ?_
                        refine TD.q rfl .u (Ex.py rfl rfl rfl) rfl ?_
                        refine TD.run ft_value_ok [17] rfl rfl ?_
                        refine TD.nil (X.seq ?_)
                        refine T.yes rfl rfl ?_
                        refine T.seq (T.region rfl ?_)
                        refine TL.run ft_value_ok [0] rfl rfl ?_
                        obtain rfl := Option.some.inj h
                        exact TL.nil (X.seq (T.ret (X.rb (X.rs (X.done1 [1] Try.results47 (RV.tm rfl) ⟨rfl, rfl, rfl⟩ (by rfl) (.inl rfl))))))
                      · replace h := ifF c30 h
                        refine TD.q rfl .u (Ex.bNe rfl c19 rfl (decide_eq_false c30) Try.runUnderlying4) rfl ?_
                        refine TD.run ft_value_ok [8] rfl rfl ?_
                        refine TD.q rfl (.g rfl rfl rfl) (Ex.ft ft_value_ok rfl) rfl ?_
                        refine TD.q rfl (.g rfl rfl rfl) (Ex.b1 0 rfl Try.isAgg3 rfl rfl) rfl ?_
                        refine TD.q rfl (.g rfl rfl rfl) (Ex.ft ft_value_ok rfl) rfl ?_
                        refine TD.q rfl (.g rfl rfl rfl) (Ex.ft ft_value_ok rfl) rfl ?_
                        refine TD.q rfl (.g rfl rfl rfl) (Ex.b1 0 rfl Try.isAgg3 rfl rfl) rfl ?_
                        refine TD.q rfl (.g rfl rfl rfl) (Ex.ft ft_value_ok rfl) rfl ?_
                        by_cases c31 : a0.fState = 0
                        · replace h := ifT c31 h
                          by_cases c32 : a0.fStarted = (-1)
                          · replace h := ifT c32 h
                            refine TD.q rfl (.g rfl rfl rfl) (Ex.bNe rfl (decide_eq_true c31) rfl (decide_eq_true c32) Try.runUnderlying4) rfl ?_
                            refine TD.q rfl .u (Ex.pn rfl rfl rfl) rfl ?_
                            refine TD.run ft_value_ok [17] rfl rfl ?_
                            refine TD.nil (X.seq ?_)
                            refine T.no rfl rfl ?_
                            refine T.seq (T.region rfl ?_)
                            obtain ⟨x33, hx34, h⟩ := Option.bind_eq_some_iff.1 h
                            refine TL.rb ft_value_ok nt_value_ok 0 rfl 2 rfl rfl ?_
                            refine TL.ce rfl .u (.fn Try.call69 rfl) (f_value_topics_spec a0.fTopics _ _ _ hx34) (fun _ hs => (SrcE.old hs hX)) rfl ?_
                            refine TL.run ft_value_ok [3, 4] rfl rfl ?_
                            by_cases c35 : x33 = true
                            · replace h := ifT c35 h
                              refine TL.nil (X.seq ?_)
                              refine T.no rfl (bn_f c35) ?_
                              refine T.skip (X.blk (X.seq (T.seq (T.region rfl ?_))))
                              refine TL.run ft_value_ok [0] rfl rfl ?_
                              obtain rfl := Option.some.inj h
                              exact TL.nil (X.seq (T.ret (X.done1 [1] Try.results47 (RV.tm rfl) ⟨rfl, rfl, rfl⟩ (by rfl) (.inl rfl))))
                            · replace h := ifF c35 h
                              replace c35 := eq_false_of_ne_true c35
                              refine TL.nil (X.seq ?_)
                              refine T.yes rfl (bn_t c35) ?_
                              refine T.seq (T.region rfl ?_)
                              refine TL.run ft_value_ok [0] rfl rfl ?_
                              obtain rfl := Option.some.inj h
                              exact TL.nil (X.seq (T.ret (X.rb (X.rs (X.done1 [1] Try.results47 (RV.tm rfl) ⟨rfl, rfl, rfl⟩ (by rfl) (.inl rfl))))))
                          · replace h := ifF c32 h
                            refine TD.q rfl (.g rfl rfl rfl) (Ex.bNe rfl (decide_eq_true c31) rfl (decide_eq_false c32) Try.runUnderlying4) rfl ?_
                            refine TD.q rfl .u (Ex.pn rfl rfl rfl) rfl ?_
                            refine TD.run ft_value_ok [17] rfl rfl ?_
                            refine TD.nil (X.seq ?_)
                            refine T.yes rfl rfl ?_
                            refine T.seq (T.region rfl ?_)
                            refine TL.run ft_value_ok [0] rfl rfl ?_
                            obtain rfl := Option.some.inj h
                            exact TL.nil (X.seq (T.ret (X.rb (X.rs (X.done1 [1] Try.results47 (RV.tm rfl) ⟨rfl, rfl, rfl⟩ (by rfl) (.inl rfl))))))
                        · replace h := ifF c31 h
                          by_cases c36 : a0.fStarted = (-1)
                          · replace h := ifT c36 h
                            refine TD.q rfl (.g rfl rfl rfl) (Ex.bNe rfl (decide_eq_false c31) rfl (decide_eq_true c36) Try.runUnderlying4) rfl ?_
                            refine TD.q rfl .u (Ex.pn rfl rfl rfl) rfl ?_
                            refine TD.run ft_value_ok [17] rfl rfl ?_
                            refine TD.nil (X.seq ?_)
                            refine T.yes rfl rfl ?_
                            refine T.seq (T.region rfl ?_)
                            refine TL.run ft_value_ok [0] rfl rfl ?_
                            obtain rfl := Option.some.inj h
                            exact TL.nil (X.seq (T.ret (X.rb (X.rs (X.done1 [1] Try.results47 (RV.tm rfl) ⟨rfl, rfl, rfl⟩ (by rfl) (.inl rfl))))))
                          · replace h := ifF c36 h
                            refine TD.q rfl (.g rfl rfl rfl) (Ex.bNe rfl (decide_eq_false c31) rfl (decide_eq_false c36) Try.runUnderlying4) rfl ?_
                            refine TD.q rfl .u (Ex.pn rfl rfl rfl) rfl ?_
                            refine TD.run ft_value_ok [17] rfl rfl ?_
                            refine TD.nil (X.seq ?_)
                            refine T.no rfl rfl ?_
                            refine T.seq (T.region rfl ?_)
                            obtain ⟨x37, hx38, h⟩ := Option.bind_eq_some_iff.1 h
                            refine TL.rb ft_value_ok nt_value_ok 0 rfl 2 rfl rfl ?_
                            refine TL.ce rfl .u (.fn Try.call69 rfl) (f_value_topics_spec a0.fTopics _ _ _ hx38) (fun _ hs => (SrcE.old hs hX)) rfl ?_
                            refine TL.run ft_value_ok [3, 4] rfl rfl ?_
                            by_cases c39 : x37 = true
                            · replace h := ifT c39 h
                              refine TL.nil (X.seq ?_)
                              refine T.no rfl (bn_f c39) ?_
                              refine T.skip (X.blk (X.seq (T.seq (T.region rfl ?_))))
                              refine TL.run ft_value_ok [0] rfl rfl ?_
                              obtain rfl := Option.some.inj h
                              exact TL.nil (X.seq (T.ret (X.done1 [1] Try.results47 (RV.tm rfl) ⟨rfl, rfl, rfl⟩ (by rfl) (.inl rfl))))
                            · replace h := ifF c39 h
                              replace c39 := eq_false_of_ne_true c39
                              refine TL.nil (X.seq ?_)
                              refine T.yes rfl (bn_t c39) ?_
                              refine T.seq (T.region rfl ?_)
                              refine TL.run ft_value_ok [0] rfl rfl ?_
                              obtain rfl := Option.some.inj h
                              exact TL.nil (X.seq (T.ret (X.rb (X.rs (X.done1 [1] Try.results47 (RV.tm rfl) ⟨rfl, rfl, rfl⟩ (by rfl) (.inl rfl))))))
          · replace h := ifF c12 h
            replace c12 := eq_false_of_ne_true c12
            refine TL.rw ft_value_ok 3 rfl ?_
            refine TL.hv 29 rfl (bn_t c12) ?_
            refine TL.rw ft_value_ok 10 rfl ?_
            refine TL.nil (X.seq ?_)
            refine T.yes rfl rfl ?_
            refine T.seq (T.region rfl ?_)
            refine TL.run ft_value_ok [0] rfl rfl ?_
            obtain rfl := Option.some.inj h
            exact TL.nil (X.seq (T.ret (X.rb (X.rs (X.done1 [1] Try.results47 (RV.tm rfl) ⟨rfl, rfl, rfl⟩ (by rfl) (.inl rfl))))))
      · replace h := ifF c8 h
        replace c8 := eq_false_of_ne_true c8
        refine TL.rw ft_value_ok 3 rfl ?_
        refine TL.hv 18 rfl (bn_t c8) ?_
        refine TL.rw ft_value_ok 21 rfl ?_
        refine TL.nil (X.seq ?_)
        refine T.yes rfl rfl ?_
        refine T.seq (T.region rfl ?_)
        refine TL.run ft_value_ok [0] rfl rfl ?_
        obtain rfl := Option.some.inj h
        exact TL.nil (X.seq (T.ret (X.rb (X.rs (X.done1 [1] Try.results47 (RV.tm rfl) ⟨rfl, rfl, rfl⟩ (by rfl) (.inl rfl))))))
def f_value_PutTopics_l2 : List Int → (List UInt8 × Int) → Option (List UInt8 × Int)
  | [], st24 => some st24
  | x29 :: xs, st24 => (gOInt st24 x29 4).bind fun st33 => f_value_PutTopics_l2 xs st33
def f_value_PutTopics_l1 : List Top → (List UInt8 × Int) → Option (List UInt8 × Int)
  | [], st6 => some st6
  | x11 :: xs, st6 => (gPutText st6 x11.fName).bind fun st19 => (gOInt st19 (x11.fParts.length : Int) 4).bind fun st21 => (f_value_PutTopics_l2 x11.fParts st21).bind fun st36 => f_value_PutTopics_l1 xs st36
def f_value_PutTopics (st : List UInt8 × Int) (a1 : List Top) : Option (List UInt8 × Int) := (gOInt st (a1.length : Int) 4).bind fun st3 => (f_value_PutTopics_l1 a1 st3).bind fun st38 => some st38
set_option maxRecDepth 100000 in
set_option maxHeartbeats 4000000 in
theorem f_value_PutTopics_spec (g : Nat) (st : List UInt8 × Int) (a1 : List Top) (A1 : Option Addr) (c2 : Nat) (r : List UInt8 × Int) (h : f_value_PutTopics st a1 = some r) : SpecX Try.prog 50 #[.pointer (some ⟨g, 0, none⟩), .slice A1 a1.length c2] (RX.of (sliceRd 2 Top_rd) [.slice A1 a1.length c2] a1) (OutR g st) (fun v A' N => v = .tuple #[] ∧ A' = OutR g r ∧ N = []) := by
  refine enterA Try.func50 rfl Try.ntmps50 rfl ?_
  intro F w hX
  unfold f_value_PutTopics at h
  refine T.seq (T.region rfl ?_)
  refine TL.run ft_value_ok [0, 1] rfl rfl ?_
  refine TL.q rfl .u (Ex.lenS rfl Try.runUnderlying22) rfl ?_
  obtain ⟨st3, hx4, h⟩ := Option.bind_eq_some_iff.1 h
  refine TL.c0 rfl .u (.fn Try.call30 rfl) (gOInt_spec g st (a1.length : Int) 4 _ hx4) (fun _ hs => (Src.triv _)) rfl ?_
  refine TL.nil (X.seq (T.seq (T.region rfl ?_)))
  refine TL.run ft_value_ok [0] rfl rfl ?_
  refine TL.q rfl .u (Ex.lenS rfl Try.runUnderlying22) rfl ?_
  refine TL.run ft_value_ok [2] rfl rfl ?_
  refine TL.nil (X.seq (T.block ?_))
  obtain ⟨E7, hE8, hO9⟩ := Option.bind_eq_some_iff.1 h
  have hk13len := RX.len_le hX
  refine T.lp (fun m e Rs => ∃ (k5 : Nat) (st6 : List UInt8 × Int), k5 + m = a1.length ∧ e = [(0, .pointer (some ⟨g, 0, none⟩)), (12, .slice A1 a1.length c2), (13, .int .i64 (a1.length : Int)), (14, .int .i64 (k5 : Int))] ∧ Rs = [OutR g st6] ∧ f_value_PutTopics_l1 (a1.drop k5) st6 = some E7) (a1.length) [0] ⟨0, st3, by simp, rfl, rfl, by rw [List.drop_zero]; exact hE8⟩ (by rfl) (by rfl) ?_
  rintro m10 _ _ ⟨k5, st6, hk13, rfl, rfl, hl12⟩
  clear hE8 h
  cases m10 with
  | zero =>
    have h := hl12
    clear hl12
    rw [List.drop_of_length_le (by omega), f_value_PutTopics_l1] at h
    have hk13ge : ¬ ((k5 : Int) < (a1.length : Int)) := by omega
    refine T.seq (T.region rfl ?_)
    refine TL.run ft_value_ok [0] rfl rfl ?_
    refine TL.nil (X.seq (T.seq ?_))
    refine T.no rfl (decide_eq_false hk13ge) ?_
    obtain rfl := Option.some.inj h
    replace h := hO9
    clear hO9
    try dsimp only at h
    obtain rfl := Option.some.inj h
    exact T.exit (X.exs (X.exs (X.ex (X.done0 [0] Try.results50 ⟨rfl, rfl, rfl⟩ (by rfl) (.inr rfl)))))
  | succ m10 =>
    have h := hl12
    clear hl12
    obtain ⟨x11, hxx11⟩ : ∃ x, a1[k5]? = some x := ⟨_, List.getElem?_eq_getElem (by omega)⟩
    rw [drop_cons hxx11, f_value_PutTopics_l1] at h
    have hk13lt : (k5 : Int) < (a1.length : Int) := by omega
    refine T.seq (T.region rfl ?_)
    refine TL.run ft_value_ok [0] rfl rfl ?_
    refine TL.nil (X.seq (T.seq ?_))
    refine T.yes rfl (decide_eq_true hk13lt) ?_
    obtain ⟨gz14, oz14, rfl, z14cs, z14cl, z14cc, z14nf, z14r⟩ := RX.elem (by decide) hX hxx11
    obtain ⟨z14S, z14r, z14rr⟩ := z14r
    obtain ⟨A15, c16, rfl, z14s0⟩ := z14r
    have hX17 : (RX.of (sliceRd 1 intE) [.slice A15 x11.fParts.length c16] x11.fParts).reads w F := ⟨z14S, z14s0, z14rr⟩
    refine T.skip (X.seq (T.seq (T.block (T.seq (T.region rfl ?_)))))
    refine TL.q rfl .u (Ex.ixS (k := k5) rfl rfl rfl Try.runUnderlying22 Try.sizeOf46 (List.getElem?_eq_some_iff.1 hxx11).1) rfl ?_
    refine TL.q rfl .u (Ex.oS (us := [.string (bsOf x11.fName), .slice A15 x11.fParts.length c16]) 0 rfl Try.isAgg46 Try.sizeOf46 z14nf z14cc rfl rfl rfl) rfl ?_
    refine TL.alloc rfl .u Try.zeroValue46 rfl (fun b18 => ?_)
    refine TL.st0 (cs' := #[.string (bsOf x11.fName), .slice A15 x11.fParts.length c16]) rfl .u rfl rfl Try.sizeOf46 rfl rfl rfl rfl ?_
    refine TL.nil (X.seq (T.seq (T.region rfl ?_)))
    obtain ⟨st19, hx20, h⟩ := Option.bind_eq_some_iff.1 h
    refine TL.rb ft_value_ok nt_value_ok 0 rfl 3 rfl rfl ?_
    refine TL.c1 rfl .u (.fn Try.call31 rfl) (gPutText_spec g st6 x11.fName _ hx20) (fun _ hs => (Src.triv _)) rfl ?_
    refine TL.nil (X.seq (T.seq (T.region rfl ?_)))
    refine TL.rb ft_value_ok nt_value_ok 0 rfl 3 rfl rfl ?_
    refine TL.q rfl .u (Ex.lenS rfl Try.runUnderlying44) rfl ?_
    obtain ⟨st21, hx22, h⟩ := Option.bind_eq_some_iff.1 h
    refine TL.c1 rfl .u (.fn Try.call30 rfl) (gOInt_spec g st19 (x11.fParts.length : Int) 4 _ hx22) (fun _ hs => (Src.triv _)) rfl ?_
    refine TL.nil (X.seq (T.seq (T.region rfl ?_)))
    refine TL.rb ft_value_ok nt_value_ok 0 rfl 2 rfl rfl ?_
    refine TL.q rfl .u (Ex.lenS rfl Try.runUnderlying44) rfl ?_
    refine TL.run ft_value_ok [3] rfl rfl ?_
    refine TL.nil (X.seq (T.block ?_))
    obtain ⟨E25, hE26, hO27⟩ := Option.bind_eq_some_iff.1 h
    have hk31len := RX.len_le hX17
    refine T.lp (fun m e Rs => ∃ (k23 : Nat) (st24 : List UInt8 × Int), k23 + m = x11.fParts.length ∧ e = [(0, .pointer (some ⟨g, 0, none⟩)), (12, .slice (some ⟨gz14, oz14, none⟩) a1.length c2), (13, .int .i64 (a1.length : Int)), (14, .int .i64 (k5 : Int)), (28, .slice A15 x11.fParts.length c16), (29, .int .i64 (x11.fParts.length : Int)), (30, .int .i64 (k23 : Int))] ∧ Rs = [BlkR b18 46 #[.string (bsOf x11.fName), .slice A15 x11.fParts.length c16], OutR g st24] ∧ f_value_PutTopics_l2 (x11.fParts.drop k23) st24 = some E25) (x11.fParts.length) [0, 0] ⟨0, st21, by simp, rfl, rfl, by rw [List.drop_zero]; exact hE26⟩ (by rfl) (by rfl) ?_
    rintro m28 _ _ ⟨k23, st24, hk31, rfl, rfl, hl30⟩
    clear hE26 h
    cases m28 with
    | zero =>
      have h := hl30
      clear hl30
      rw [List.drop_of_length_le (by omega), f_value_PutTopics_l2] at h
      have hk31ge : ¬ ((k23 : Int) < (x11.fParts.length : Int)) := by omega
      refine T.seq (T.region rfl ?_)
      refine TL.run ft_value_ok [0] rfl rfl ?_
      refine TL.nil (X.seq (T.seq ?_))
      refine T.no rfl (decide_eq_false hk31ge) ?_
      obtain rfl := Option.some.inj h
      replace h := hO27
      clear hO27
      try dsimp only at h
      refine T.exit (X.exs (X.exs (X.ex (X.blk (X.seq (T.region rfl ?_))))))
      refine TL.q rfl .u (Ex.add rfl rfl (by omega)) rfl ?_
      refine TL.run ft_value_ok [1] rfl rfl ?_
      exact TL.nil (X.back (m' := m10) [1] (by omega) ⟨k5 + 1, st24, by omega, rfl, rfl, h⟩ (by rfl) (by rfl))
    | succ m28 =>
      have h := hl30
      clear hl30
      obtain ⟨x29, hxx29⟩ : ∃ x, x11.fParts[k23]? = some x := ⟨_, List.getElem?_eq_getElem (by omega)⟩
      rw [drop_cons hxx29, f_value_PutTopics_l2] at h
      have hk31lt : (k23 : Int) < (x11.fParts.length : Int) := by omega
      refine T.seq (T.region rfl ?_)
      refine TL.run ft_value_ok [0] rfl rfl ?_
      refine TL.nil (X.seq (T.seq ?_))
      refine T.yes rfl (decide_eq_true hk31lt) ?_
      obtain ⟨gz32, oz32, rfl, z32cs, z32cl, z32cc, z32nf, z32r⟩ := RX.elem (by decide) hX17 hxx29
      obtain ⟨z32S, z32r, z32rr⟩ := z32r
      obtain rfl : z32cs = [.int .i64 x29] := z32r
      refine T.skip (X.seq (T.seq (T.block (T.seq (T.region rfl ?_)))))
      refine TL.q rfl .u (Ex.ixS (k := k23) rfl rfl rfl Try.runUnderlying44 Try.sizeOf3 (List.getElem?_eq_some_iff.1 hxx29).1) rfl ?_
      refine TL.q rfl .u (Ex.o1 0 rfl Try.isAgg3 z32nf z32cc rfl rfl) rfl ?_
      refine TL.run ft_value_ok [2] rfl rfl ?_
      refine TL.nil (X.seq (T.region rfl ?_))
      obtain ⟨st33, hx34, h⟩ := Option.bind_eq_some_iff.1 h
      refine TL.run ft_value_ok [0, 1] rfl rfl ?_
      refine TL.c1 rfl .u (.fn Try.call30 rfl) (gOInt_spec g st24 x29 4 _ hx34) (fun _ hs => (Src.triv _)) rfl ?_
      refine TL.nil (X.blk (X.seq (T.region rfl ?_)))
      refine TL.q rfl .u (Ex.add rfl rfl (by omega)) rfl ?_
      refine TL.run ft_value_ok [1] rfl rfl ?_
      exact TL.nil (X.back (m' := m28) [0, 0] (by omega) ⟨k23 + 1, st33, by omega, rfl, rfl, h⟩ (by rfl) (by rfl))
def f_value_Encode (a0 : Val) : Option (List UInt8 × Int) := (f_value_Check a0).bind fun x4 => if x4 = 0 then ((gOInt ([], 0) 0 2).bind fun st8 => (gOInt st8 a0.fProducer 8).bind fun st10 => (gOInt st10 a0.fEpoch 2).bind fun st12 => (gOInt st12 a0.fTimeout 4).bind fun st14 => (gOInt st14 a0.fState 1).bind fun st16 => (f_value_PutTopics st16 a0.fTopics).bind fun st18 => (gOInt st18 a0.fUpdated 8).bind fun st20 => (gOInt st20 a0.fStarted 8).bind fun st22 => (gOText st22).bind fun (x24, x25, st26) => some (x24, x25)) else some ([], x4)
set_option maxRecDepth 100000 in
set_option maxHeartbeats 4000000 in
theorem f_value_Encode_spec (a0 : Val) (A1 : Option Addr) (c2 : Nat) (r : List UInt8 × Int) (h : f_value_Encode a0 = some r) : SpecX Try.prog 26 #[.agg #[.int .i64 a0.fProducer, .int .i64 a0.fEpoch, .int .i64 a0.fTimeout, .int .i64 a0.fState, .slice A1 a0.fTopics.length c2, .int .i64 a0.fUpdated, .int .i64 a0.fStarted]] (RX.of (sliceRd 2 Top_rd) [.slice A1 a0.fTopics.length c2] a0.fTopics) (EmpR) (fun v A' N => v = .tuple #[.string (bsOf r.1), .int .i64 r.2] ∧ A' = EmpR ∧ N = []) := by
  refine enterA Try.func26 rfl Try.ntmps26 rfl ?_
  intro F w hX
  unfold f_value_Encode at h
  refine T.seq (T.region rfl ?_)
  refine TL.box rfl .u rfl rfl (fun b3 => ?_)
  refine TL.run ft_value_ok [1, 2] rfl rfl ?_
  refine TL.nil (X.seq (T.seq (T.seq (T.region rfl ?_))))
  refine TL.q rfl .u (Ex.bS (us := [.int .i64 a0.fProducer, .int .i64 a0.fEpoch, .int .i64 a0.fTimeout, .int .i64 a0.fState, .slice A1 a0.fTopics.length c2, .int .i64 a0.fUpdated, .int .i64 a0.fStarted]) 0 rfl Try.isAgg24 Try.sizeOf24 rfl rfl rfl) rfl ?_
  obtain ⟨x4, hx5, h⟩ := Option.bind_eq_some_iff.1 h
  refine TL.ce rfl .u (.fn Try.call47 rfl) (f_value_Check_spec a0 _ _ _ hx5) (fun _ hs => (SrcE.old hs hX)) rfl ?_
  refine TL.run ft_value_ok [2] rfl rfl ?_
  refine TL.nil (X.seq (T.seq (T.region rfl ?_)))
  refine TL.run ft_value_ok [0, 1] rfl rfl ?_
  by_cases c6 : x4 = 0
  · replace h := ifT c6 h
    refine TL.nil (X.seq ?_)
    refine T.no rfl (bn_f (decide_eq_true c6)) ?_
    refine T.skip (X.seq (T.seq (T.region rfl ?_)))
    refine TL.newout rfl .u Try.zeroValue73 rfl (fun b7 => ?_)
    obtain ⟨st8, hx9, h⟩ := Option.bind_eq_some_iff.1 h
    refine TL.nil (X.seq (T.seq (T.region rfl ?_)))
    refine TL.c0 rfl .u (.fn Try.call30 rfl) (gOInt_spec b7 ([], 0) 0 2 _ hx9) (fun _ hs => (Src.triv _)) rfl ?_
    refine TL.nil (X.seq (T.seq (T.region rfl ?_)))
    obtain ⟨st10, hx11, h⟩ := Option.bind_eq_some_iff.1 h
    refine TL.rb ft_value_ok nt_value_ok 1 rfl 2 rfl rfl ?_
    refine TL.c0 rfl .u (.fn Try.call30 rfl) (gOInt_spec b7 st8 a0.fProducer 8 _ hx11) (fun _ hs => (Src.triv _)) rfl ?_
    refine TL.nil (X.seq (T.seq (T.region rfl ?_)))
    obtain ⟨st12, hx13, h⟩ := Option.bind_eq_some_iff.1 h
    refine TL.rb ft_value_ok nt_value_ok 1 rfl 2 rfl rfl ?_
    refine TL.c0 rfl .u (.fn Try.call30 rfl) (gOInt_spec b7 st10 a0.fEpoch 2 _ hx13) (fun _ hs => (Src.triv _)) rfl ?_
    refine TL.nil (X.seq (T.seq (T.region rfl ?_)))
    obtain ⟨st14, hx15, h⟩ := Option.bind_eq_some_iff.1 h
    refine TL.rb ft_value_ok nt_value_ok 1 rfl 2 rfl rfl ?_
    refine TL.c0 rfl .u (.fn Try.call30 rfl) (gOInt_spec b7 st12 a0.fTimeout 4 _ hx15) (fun _ hs => (Src.triv _)) rfl ?_
    refine TL.nil (X.seq (T.seq (T.region rfl ?_)))
    obtain ⟨st16, hx17, h⟩ := Option.bind_eq_some_iff.1 h
    refine TL.rb ft_value_ok nt_value_ok 1 rfl 2 rfl rfl ?_
    refine TL.c0 rfl .u (.fn Try.call30 rfl) (gOInt_spec b7 st14 a0.fState 1 _ hx17) (fun _ hs => (Src.triv _)) rfl ?_
    refine TL.nil (X.seq (T.seq (T.region rfl ?_)))
    obtain ⟨st18, hx19, h⟩ := Option.bind_eq_some_iff.1 h
    refine TL.rb ft_value_ok nt_value_ok 1 rfl 2 rfl rfl ?_
    refine TL.c0 rfl .u (.fn Try.call50 rfl) (f_value_PutTopics_spec b7 st16 a0.fTopics _ _ _ hx19) (fun _ hs => (Src.old hs hX)) rfl ?_
    refine TL.nil (X.seq (T.seq (T.region rfl ?_)))
    obtain ⟨st20, hx21, h⟩ := Option.bind_eq_some_iff.1 h
    refine TL.rb ft_value_ok nt_value_ok 1 rfl 2 rfl rfl ?_
    refine TL.c0 rfl .u (.fn Try.call30 rfl) (gOInt_spec b7 st18 a0.fUpdated 8 _ hx21) (fun _ hs => (Src.triv _)) rfl ?_
    refine TL.nil (X.seq (T.seq (T.region rfl ?_)))
    obtain ⟨st22, hx23, h⟩ := Option.bind_eq_some_iff.1 h
    refine TL.rb ft_value_ok nt_value_ok 1 rfl 2 rfl rfl ?_
    refine TL.c0 rfl .u (.fn Try.call30 rfl) (gOInt_spec b7 st20 a0.fStarted 8 _ hx23) (fun _ hs => (Src.triv _)) rfl ?_
    obtain ⟨⟨x24, x25, st26⟩, hx27, h⟩ := Option.bind_eq_some_iff.1 h
    try dsimp only at h
    refine TL.nil (X.seq (T.seq (T.region rfl ?_)))
    refine TL.c0 rfl .u (.fn Try.call32 rfl) (gOText_spec b7 st22 _ hx27) (fun _ hs => (Src.triv _)) rfl ?_
    refine TL.run ft_value_ok [1, 2, 3, 4] rfl rfl ?_
    obtain rfl := Option.some.inj h
    exact TL.nil (X.seq (T.ret (X.done2 [2] Try.results26 (RV.tm rfl) (RV.tm rfl) ⟨rfl, rfl, rfl⟩ (by rfl) (.inl rfl))))
  · replace h := ifF c6 h
    refine TL.nil (X.seq ?_)
    refine T.yes rfl (bn_t (decide_eq_false c6)) ?_
    refine T.seq (T.region rfl ?_)
    refine TL.run ft_value_ok [0, 1, 2] rfl rfl ?_
    obtain rfl := Option.some.inj h
    exact TL.nil (X.seq (T.ret (X.rs (X.done2 [1] Try.results26 (RV.tm rfl) (RV.tm rfl) ⟨rfl, rfl, rfl⟩ (by rfl) (.inl rfl)))))
def f_value_Topics_l2 (x24 : Int) : Nat → Nat → List Int → I → Option (Nat × List Int × I)
  | 0, _, _, _ => none
  | m35 + 1, k27, y28, st31 => if (k27 : Int) < x24 then ((gInt st31 4).bind fun (x40, st41) => if (y28.length + 1) * 8 ≤ 140737488355328 then (if -9223372036854775808 ≤ ((k27 : Int) + 1) ∧ ((k27 : Int) + 1) ≤ 9223372036854775807 then (f_value_Topics_l2 x24 m35 (k27 + 1) (y28 ++ [x40]) st41) else none) else none) else some (k27, y28, st31)
def f_value_Topics_l1 (x1 : Int) : Nat → List Top → List Top → Nat → I → Option (Lp (List Top × I) (List Top × List Top × Nat × I))
  | 0, _, _, _, _ => none
  | m15 + 1, y4, y7, k10, st11 => if (k10 : Int) < x1 then ((gText st11).bind fun (x20, st21) => (gCount st21 4 4).bind fun (x24, st25) => (f_value_Topics_l2 x24 ((x24).toNat + 1) 0 [] st25).bind fun (k57, y58, st61) => if (y7.length + 1) * 40 ≤ 140737488355328 then ((gErr st61).bind fun (x66, st67) => if x66 = 0 then (if -9223372036854775808 ≤ ((k10 : Int) + 1) ∧ ((k10 : Int) + 1) ≤ 9223372036854775807 then (f_value_Topics_l1 x1 m15 y4 (y7 ++ [(⟨x20, y58⟩ : Top)]) (k10 + 1) st67) else none) else (some (Lp.ret ([], st67)))) else none) else (some (Lp.go (y4, y7, k10, st11)))
def f_value_Topics (st : I)  : Option (List Top × I) := (gCount st 4 6).bind fun (x1, st2) => (f_value_Topics_l1 x1 ((x1).toNat + 1) [] [] 0 st2).bind fun e => match e with | .ret r => some r | .go (y71, y74, k77, st78) => some (y74, st78)
set_option maxRecDepth 100000 in
set_option maxHeartbeats 4000000 in
theorem f_value_Topics_spec (g : Nat) (st : I)  (r : List Top × I) (h : f_value_Topics st  = some r) : SpecX Try.prog 46 #[.pointer (some ⟨g, 0, none⟩)] .triv (InR g st) (fun v A' N => ∃ (A79 : Option Addr) (c80 : Nat), v = .slice A79 r.1.length c80 ∧ A' = InR g r.2 ∧ N = [RdR (sliceRd 2 Top_rd) [.slice A79 r.1.length c80] r.1]) := by
  refine enterA Try.func46 rfl Try.ntmps46 rfl ?_
  intro F w hX
  unfold f_value_Topics at h
  refine T.seq (T.region rfl ?_)
  refine TL.run ft_value_ok [0] rfl rfl ?_
  refine TL.nil (X.seq (T.seq (T.region rfl ?_)))
  refine TL.run ft_value_ok [0] rfl rfl ?_
  refine TL.nil (X.seq (T.seq (T.seq (T.region rfl ?_))))
  obtain ⟨⟨x1, st2⟩, hx3, h⟩ := Option.bind_eq_some_iff.1 h
  try dsimp only at h
  refine TL.run ft_value_ok [0] rfl rfl ?_
  refine TL.c0 rfl .u (.fn Try.call66 rfl) (gCount_spec g st 4 6 _ hx3) (fun _ hs => (Src.triv _)) rfl ?_
  refine TL.run ft_value_ok [2] rfl rfl ?_
  refine TL.nil (X.seq (T.block ?_))
  refine T.nilrow 46 2 Top_rd ?_
  refine T.nilrow 46 2 Top_rd ?_
  obtain ⟨E12, hE13, hO14⟩ := Option.bind_eq_some_iff.1 h
  refine T.lp (fun m e Rs => ∃ (y4 : List Top) (A5 : Option Addr) (c6 : Nat) (y7 : List Top) (A8 : Option Addr) (c9 : Nat) (k10 : Nat) (st11 : I), e = [(0, .pointer (some ⟨g, 0, none⟩)), (2, .slice A5 y4.length c6), (3, .slice A8 y7.length c9), (6, .int .i64 x1), (7, .int .i64 (k10 : Int))] ∧ Rs = [OwnR 46 2 Top_rd (.slice A5 y4.length c6) y4, OwnR 46 2 Top_rd (.slice A8 y7.length c9) y7, InR g st11] ∧ f_value_Topics_l1 x1 m y4 y7 k10 st11 = some E12) ((x1).toNat + 1) [0, 0, 0] ⟨[], none, 0, [], none, 0, 0, st2, rfl, rfl, by exact hE13⟩ (by rfl) (by rfl) ?_
  rintro m15 _ _ ⟨y4, A5, c6, y7, A8, c9, k10, st11, rfl, rfl, hl17⟩
  clear hE13 h
  cases m15 with
  | zero =>
    rw [f_value_Topics_l1] at hl17
    cases hl17
  | succ m15 =>
    have h := hl17
    clear hl17
    rw [f_value_Topics_l1] at h
    refine T.seq (T.region rfl ?_)
    refine TL.run ft_value_ok [0] rfl rfl ?_
    by_cases c19 : (k10 : Int) < x1
    · replace h := ifT c19 h
      refine TL.nil (X.seq (T.seq ?_))
      refine T.yes rfl (decide_eq_true c19) ?_
      refine T.skip (X.seq (T.seq (T.block (T.seq (T.region rfl ?_)))))
      obtain ⟨⟨x20, st21⟩, hx22, h⟩ := Option.bind_eq_some_iff.1 h
      try dsimp only at h
      refine TL.run ft_value_ok [0] rfl rfl ?_
      refine TL.c2 rfl .u (.fn Try.call44 rfl) (gText_spec g st11 _ hx22) (fun _ hs => (Src.triv _)) rfl ?_
      refine TL.q rfl .u (Ex.bld (cells := #[.string (bsOf x20), .slice none 0 0]) bok_value_46 rfl (by kernel_rfl)) rfl ?_
      refine TL.alloc rfl .u Try.zeroValue46 rfl (fun b23 => ?_)
      refine TL.st0 (cs' := #[.string (bsOf x20), .slice none 0 0]) rfl .u rfl rfl Try.sizeOf46 rfl rfl rfl rfl ?_
      refine TL.nil (X.seq (T.seq (T.seq (T.region rfl ?_))))
      obtain ⟨⟨x24, st25⟩, hx26, h⟩ := Option.bind_eq_some_iff.1 h
      try dsimp only at h
      refine TL.run ft_value_ok [0] rfl rfl ?_
      refine TL.c3 rfl .u (.fn Try.call66 rfl) (gCount_spec g st21 4 4 _ hx26) (fun _ hs => (Src.triv _)) rfl ?_
      refine TL.run ft_value_ok [2] rfl rfl ?_
      refine TL.nil (X.seq (T.block ?_))
      refine T.nilrow 3 1 intE ?_
      obtain ⟨E32, hE33, hO34⟩ := Option.bind_eq_some_iff.1 h
      refine T.lp (fun m e Rs => ∃ (k27 : Nat) (y28 : List Int) (A29 : Option Addr) (c30 : Nat) (st31 : I), e = [(0, .pointer (some ⟨g, 0, none⟩)), (2, .slice A5 y4.length c6), (3, .slice A8 y7.length c9), (4, .pointer (some ⟨b23, 0, none⟩)), (6, .int .i64 x1), (7, .int .i64 (k10 : Int)), (13, .int .i64 x24), (14, .int .i64 (k27 : Int))] ∧ Rs = [OwnR 3 1 intE (.slice A29 y28.length c30) y28, BlkR b23 46 #[.string (bsOf x20), .slice A29 y28.length c30], OwnR 46 2 Top_rd (.slice A5 y4.length c6) y4, OwnR 46 2 Top_rd (.slice A8 y7.length c9) y7, InR g st31] ∧ f_value_Topics_l2 x24 m k27 y28 st31 = some E32) ((x24).toNat + 1) [0, 0, 0, 0, 0] ⟨0, [], none, 0, st25, rfl, rfl, by exact hE33⟩ (by rfl) (by rfl) ?_
      rintro m35 _ _ ⟨k27, y28, A29, c30, st31, rfl, rfl, hl37⟩
      clear hE33 h
      cases m35 with
      | zero =>
        rw [f_value_Topics_l2] at hl37
        cases hl37
      | succ m35 =>
        have h := hl37
        clear hl37
        rw [f_value_Topics_l2] at h
        refine T.seq (T.region rfl ?_)
        refine TL.run ft_value_ok [0] rfl rfl ?_
        by_cases c39 : (k27 : Int) < x24
        · replace h := ifT c39 h
          refine TL.nil (X.seq (T.seq ?_))
          refine T.yes rfl (decide_eq_true c39) ?_
          obtain ⟨⟨x40, st41⟩, hx42, h⟩ := Option.bind_eq_some_iff.1 h
          try dsimp only at h
          replace h := guard_some h
          obtain ⟨c44, h⟩ := h
          refine T.skip (X.seq (T.seq (T.block ?_)))
          refine T.join (fun e Rs => ∃ (b43 : Nat) (A45 : Option Addr) (c46 : Nat), e = [(0, .pointer (some ⟨g, 0, none⟩)), (2, .slice A5 y4.length c6), (3, .slice A8 y7.length c9), (4, .pointer (some ⟨b23, 0, none⟩)), (6, .int .i64 x1), (7, .int .i64 (k10 : Int)), (13, .int .i64 x24), (14, .int .i64 (k27 : Int))] ∧ Rs = [OwnR 3 1 intE (.slice A45 (y28 ++ [x40]).length c46) (y28 ++ [x40]), BlkR b23 46 #[.string (bsOf x20), .slice A45 (y28 ++ [x40]).length c46], OwnR 46 2 Top_rd (.slice A5 y4.length c6) y4, OwnR 46 2 Top_rd (.slice A8 y7.length c9) y7, InR g st41]) ?_ ?_
          · refine T.draw (.q 0 (.q 2 (.br 1 (.e 3 (.e 4 (.e 5 (.q 6 (.e 7 .nil))))) (.e 3 (.br 1 (.e 4 (.e 5 (.q 6 (.e 7 .nil)))) (.e 4 (.e 1 (.e 5 (.q 6 (.e 7 .nil)))))))))) [2, 2] rfl mix_value np_jq (by kernel_rfl) ?_
            refine TD.run ft_value_ok [0, 2] rfl rfl ?_
            refine TD.br ?_ ?_
            · refine TD.ny rfl .u (Ex.b1 1 rfl Try.isAgg44 rfl rfl) rfl [2, 2] rfl ?_
              refine TD.c4 rfl .u (.fn Try.call42 rfl) (gInt_spec g st31 4 _ hx42) (fun _ hs => (Src.triv _)) rfl [2, 2] (rfl) ?_
              refine TD.lit (cells := #[.int .i64 x40]) rfl .u sok_value_44_1 rfl (by rfl) rfl [3, 3] (fun _ => rfl) (fun b43 => ?_)
              refine TD.app1 0 rfl .u (us := [.int .i64 x40]) (u := x40) (l := y28) (E := intE) Try.underlying44 inf_value_3 rfl (by decide) rfl rfl rfl rfl rfl rfl (fun _ _ => rfl) (by have hq := c44; omega) (by have hq := c44; omega) rfl [2, 2] (fun _ _ => rfl) (fun A45 c46 => ?_)
              refine TD.sel [0, 0, 0, 0, 0] rfl ?_
              refine TD.run ft_value_ok [6] rfl rfl ?_
              refine TD.st1 (cs' := #[.string (bsOf x20), .slice A45 (y28 ++ [x40]).length c46]) rfl .u rfl rfl Try.sizeOf44 rfl rfl rfl rfl [2, 2] (rfl) ?_
              exact TD.nil (X.jn [0, 0, 0, 0, 0] ⟨b43, A45, c46, rfl, rfl⟩ (by rfl) (by rfl))
            · refine TD.c4 rfl .u (.fn Try.call42 rfl) (gInt_spec g st31 4 _ hx42) (fun _ hs => (Src.triv _)) rfl [2, 2] (rfl) ?_
              refine TD.br ?_ ?_
              · refine TD.ny rfl .u (Ex.b1 1 rfl Try.isAgg44 rfl rfl) rfl [2, 2] rfl ?_
                refine TD.lit (cells := #[.int .i64 x40]) rfl .u sok_value_44_1 rfl (by rfl) rfl [3, 3] (fun _ => rfl) (fun b43 => ?_)
                refine TD.app1 0 rfl .u (us := [.int .i64 x40]) (u := x40) (l := y28) (E := intE) Try.underlying44 inf_value_3 rfl (by decide) rfl rfl rfl rfl rfl rfl (fun _ _ => rfl) (by have hq := c44; omega) (by have hq := c44; omega) rfl [2, 2] (fun _ _ => rfl) (fun A45 c46 => ?_)
                refine TD.sel [0, 0, 0, 0, 0] rfl ?_
                refine TD.run ft_value_ok [6] rfl rfl ?_
                refine TD.st1 (cs' := #[.string (bsOf x20), .slice A45 (y28 ++ [x40]).length c46]) rfl .u rfl rfl Try.sizeOf44 rfl rfl rfl rfl [2, 2] (rfl) ?_
                exact TD.nil (X.jn [0, 0, 0, 0, 0] ⟨b43, A45, c46, rfl, rfl⟩ (by rfl) (by rfl))
              · refine TD.lit (cells := #[.int .i64 x40]) rfl .u sok_value_44_1 rfl (by rfl) rfl [3, 3] (fun _ => rfl) (fun b43 => ?_)
                refine TD.ny rfl .u (Ex.b1 2 rfl Try.isAgg44 rfl rfl) rfl [3, 3] rfl ?_
                refine TD.app1 0 rfl .u (us := [.int .i64 x40]) (u := x40) (l := y28) (E := intE) Try.underlying44 inf_value_3 rfl (by decide) rfl rfl rfl rfl rfl rfl (fun _ _ => rfl) (by have hq := c44; omega) (by have hq := c44; omega) rfl [2, 2] (fun _ _ => rfl) (fun A45 c46 => ?_)
                refine TD.sel [0, 0, 0, 0, 0] rfl ?_
                refine TD.run ft_value_ok [6] rfl rfl ?_
                refine TD.st1 (cs' := #[.string (bsOf x20), .slice A45 (y28 ++ [x40]).length c46]) rfl .u rfl rfl Try.sizeOf44 rfl rfl rfl rfl [2, 2] (rfl) ?_
                exact TD.nil (X.jn [0, 0, 0, 0, 0] ⟨b43, A45, c46, rfl, rfl⟩ (by rfl) (by rfl))
          · rintro _ _ ⟨b43, A45, c46, rfl, rfl⟩
            replace h := guard_some h
            obtain ⟨c47, h⟩ := h
            refine X.blk (X.seq (T.region rfl ?_))
            refine TL.q rfl .u (Ex.add rfl rfl c47) rfl ?_
            refine TL.run ft_value_ok [1] rfl rfl ?_
            exact TL.nil (X.back (m' := m35) [0, 0, 0, 0, 0] (by omega) ⟨k27 + 1, (y28 ++ [x40]), A45, c46, st41, rfl, rfl, h⟩ (by rfl) (by rfl))
        · replace h := ifF c39 h
          refine TL.nil (X.seq (T.seq ?_))
          refine T.no rfl (decide_eq_false c39) ?_
          obtain rfl := Option.some.inj h
          replace h := hO34
          clear hO34
          try dsimp only at h
          refine T.exit (X.exs (X.exs (X.ex (X.seq (T.seq (T.region rfl ?_))))))
          refine TL.run ft_value_ok [0] rfl rfl ?_
          refine TL.q rfl .u (Ex.bS (us := [.string (bsOf x20), .slice A29 y28.length c30]) 1 rfl Try.isAgg46 Try.sizeOf46 rfl rfl rfl) rfl ?_
          refine TL.lit (cells := #[.string (bsOf x20), .slice A29 y28.length c30]) rfl .u sok_value_22_1 rfl (by rfl) rfl (fun b48 => ?_)
          replace h := guard_some h
          obtain ⟨c49, h⟩ := h
          refine TL.app2 3 0 rfl .u (us := [.string (bsOf x20), .slice A29 y28.length c30]) (u := (⟨x20, y28⟩ : Top)) (l := y7) (E := Top_rd) Try.underlying22 inf_value_46 rfl (by decide) rfl rfl rfl rfl rfl rfl rfl (fun w G hG => ⟨_, _, rfl, own_reads (by decide) _ _ hG⟩) (by have hq := c49; omega) (by have hq := c49; omega) rfl (fun A50 c51 => ?_)
          refine TL.sel [0, 0, 0, 0] rfl ?_
          refine TL.run ft_value_ok [4] rfl rfl ?_
          refine TL.nil (X.seq (T.seq (T.region rfl ?_)))
          obtain ⟨⟨x52, st53⟩, hx54, h⟩ := Option.bind_eq_some_iff.1 h
          try dsimp only at h
          refine TL.run ft_value_ok [0] rfl rfl ?_
          refine TL.c3 rfl .u (.fn Try.call67 rfl) (gErr_spec g st31 _ hx54) (fun _ hs => (Src.triv _)) rfl ?_
          refine TL.run ft_value_ok [2] rfl rfl ?_
          by_cases c55 : x52 = 0
          · replace h := ifT c55 h
            refine TL.nil (X.seq ?_)
            refine T.no rfl (bn_f (decide_eq_true c55)) ?_
            replace h := guard_some h
            obtain ⟨c56, h⟩ := h
            refine T.skip (X.blk (X.seq (T.region rfl ?_)))
            refine TL.q rfl .u (Ex.add rfl rfl c56) rfl ?_
            refine TL.run ft_value_ok [1] rfl rfl ?_
            exact TL.nil (X.back (m' := m15) [2, 0, 1] (by omega) ⟨y4, A5, c6, (y7 ++ [(⟨x20, y28⟩ : Top)]), A50, c51, k10 + 1, st53, rfl, rfl, h⟩ (by rfl) (by rfl))
          · replace h := ifF c55 h
            refine TL.nil (X.seq ?_)
            refine T.yes rfl (bn_t (decide_eq_false c55)) ?_
            refine T.seq (T.region rfl ?_)
            refine TL.run ft_value_ok [0] rfl rfl ?_
            obtain rfl := Option.some.inj h
            replace h := hO14
            clear hO14
            try dsimp only at h
            obtain rfl := Option.some.inj h
            refine TL.nil (X.seq (T.ret (X.rb (X.rs (X.rs (X.rb (X.rs ?_)))))))
            refine X.nilrd 2 Top_rd ?_
            exact X.done1 [4, 0] Try.results46 (RV.tm rfl) ⟨_, _, rfl, rfl, rfl⟩ (by rfl) (.inl rfl)
    · replace h := ifF c19 h
      refine TL.nil (X.seq (T.seq ?_))
      refine T.no rfl (decide_eq_false c19) ?_
      obtain rfl := Option.some.inj h
      replace h := hO14
      clear hO14
      try dsimp only at h
      refine T.exit (X.exs (X.exs (X.ex (X.seq (T.seq (T.region rfl ?_))))))
      refine TL.run ft_value_ok [0, 1] rfl rfl ?_
      obtain rfl := Option.some.inj h
      refine TL.nil (X.seq (T.ret ?_))
      refine X.shut (by decide) 1 rfl ?_
      refine X.sel [0, 0, 0] rfl ?_
      exact X.done1 [2, 1] Try.results46 (RV.tm rfl) ⟨_, _, rfl, rfl, rfl⟩ (by rfl) (.inl rfl)
def f_value_Decode (a0 : List UInt8) : Option (Val × Int) := (gNew a0).bind fun st2 => (gInt st2 2).bind fun (x5, st6) => if x5 = 0 then ((gInt st6 8).bind fun (x9, st10) => (gInt st10 2).bind fun (x12, st13) => (gInt st13 4).bind fun (x15, st16) => (gInt st16 1).bind fun (x18, st19) => (f_value_Topics st19).bind fun (x22, st25) => (gInt st25 8).bind fun (x27, st28) => (gInt st28 8).bind fun (x30, st31) => (gClose st31).bind fun (x33, st34) => if x33 = 0 then ((f_value_Check (⟨x9, x12, x15, x18, x22, x27, x30⟩ : Val)).bind fun x37 => if x37 = 0 then (some ((⟨x9, x12, x15, x18, x22, x27, x30⟩ : Val), 0)) else (some ((⟨0, 0, 0, 0, [], 0, 0⟩ : Val), x37))) else (some ((⟨0, 0, 0, 0, [], 0, 0⟩ : Val), x33))) else ((gIFail st6 7).bind fun st40 => (gInt st40 8).bind fun (x42, st43) => (gInt st43 2).bind fun (x45, st46) => (gInt st46 4).bind fun (x48, st49) => (gInt st49 1).bind fun (x51, st52) => (f_value_Topics st52).bind fun (x55, st58) => (gInt st58 8).bind fun (x60, st61) => (gInt st61 8).bind fun (x63, st64) => (gClose st64).bind fun (x66, st67) => if x66 = 0 then ((f_value_Check (⟨x42, x45, x48, x51, x55, x60, x63⟩ : Val)).bind fun x70 => if x70 = 0 then (some ((⟨x42, x45, x48, x51, x55, x60, x63⟩ : Val), 0)) else (some ((⟨0, 0, 0, 0, [], 0, 0⟩ : Val), x70))) else (some ((⟨0, 0, 0, 0, [], 0, 0⟩ : Val), x66)))
set_option maxRecDepth 100000 in
set_option maxHeartbeats 4000000 in
theorem f_value_Decode_spec (a0 : List UInt8) (r : Val × Int) (h : f_value_Decode a0 = some r) : SpecX Try.prog 20 #[.string (bsOf a0)] .triv (EmpR) (fun v A' N => ∃ (A73 : Option Addr) (c74 : Nat), v = .tuple #[.agg #[.int .i64 r.1.fProducer, .int .i64 r.1.fEpoch, .int .i64 r.1.fTimeout, .int .i64 r.1.fState, .slice A73 r.1.fTopics.length c74, .int .i64 r.1.fUpdated, .int .i64 r.1.fStarted], .int .i64 r.2] ∧ A' = EmpR ∧ N = [RdR (sliceRd 2 Top_rd) [.slice A73 r.1.fTopics.length c74] r.1.fTopics]) := by
  refine enterA Try.func20 rfl Try.ntmps20 rfl ?_
  intro F w hX
  unfold f_value_Decode at h
  refine T.seq (T.region rfl ?_)
  refine TL.alloc rfl .u Try.zeroValue24 rfl (fun b1 => ?_)
  refine TL.run ft_value_ok [1] rfl rfl ?_
  refine TL.nil (X.seq (T.seq (T.region rfl ?_)))
  obtain ⟨st2, hx3, h⟩ := Option.bind_eq_some_iff.1 h
  refine TL.run ft_value_ok [0] rfl rfl ?_
  refine TL.cge rfl .u (.fn Try.call41 rfl) (gNew_spec a0 _ hx3) (fun _ hs => (RX.reads_triv _ _)) rfl ?_
  rintro _ _ _ ⟨b4, rfl, rfl, rfl⟩
  refine TL.sel [0, 0, 0] rfl ?_
  refine TL.run ft_value_ok [2] rfl rfl ?_
  refine TL.nil (X.seq (T.seq (T.seq (T.region rfl ?_))))
  obtain ⟨⟨x5, st6⟩, hx7, h⟩ := Option.bind_eq_some_iff.1 h
  try dsimp only at h
  refine TL.run ft_value_ok [0] rfl rfl ?_
  refine TL.c0 rfl .u (.fn Try.call42 rfl) (gInt_spec b4 st2 2 _ hx7) (fun _ hs => (Src.triv _)) rfl ?_
  refine TL.run ft_value_ok [2] rfl rfl ?_
  by_cases c8 : x5 = 0
  · replace h := ifT c8 h
    refine TL.nil (X.seq ?_)
    refine T.no rfl (bn_f (decide_eq_true c8)) ?_
    refine T.skip (X.seq (T.seq (T.region rfl ?_)))
    obtain ⟨⟨x9, st10⟩, hx11, h⟩ := Option.bind_eq_some_iff.1 h
    try dsimp only at h
    refine TL.run ft_value_ok [0] rfl rfl ?_
    refine TL.c0 rfl .u (.fn Try.call42 rfl) (gInt_spec b4 st6 8 _ hx11) (fun _ hs => (Src.triv _)) rfl ?_
    obtain ⟨⟨x12, st13⟩, hx14, h⟩ := Option.bind_eq_some_iff.1 h
    try dsimp only at h
    refine TL.run ft_value_ok [2] rfl rfl ?_
    refine TL.c0 rfl .u (.fn Try.call42 rfl) (gInt_spec b4 st10 2 _ hx14) (fun _ hs => (Src.triv _)) rfl ?_
    obtain ⟨⟨x15, st16⟩, hx17, h⟩ := Option.bind_eq_some_iff.1 h
    try dsimp only at h
    refine TL.run ft_value_ok [4] rfl rfl ?_
    refine TL.c0 rfl .u (.fn Try.call42 rfl) (gInt_spec b4 st13 4 _ hx17) (fun _ hs => (Src.triv _)) rfl ?_
    obtain ⟨⟨x18, st19⟩, hx20, h⟩ := Option.bind_eq_some_iff.1 h
    try dsimp only at h
    refine TL.run ft_value_ok [6] rfl rfl ?_
    refine TL.c0 rfl .u (.fn Try.call42 rfl) (gInt_spec b4 st16 1 _ hx20) (fun _ hs => (Src.triv _)) rfl ?_
    refine TL.q rfl .u (Ex.bld (cells := #[.int .i64 x9, .int .i64 x12, .int .i64 x15, .int .i64 x18, .slice none 0 0, .int .i64 0, .int .i64 0]) bok_value_24 rfl (by kernel_rfl)) rfl ?_
    refine TL.alloc rfl .u Try.zeroValue24 rfl (fun b21 => ?_)
    refine TL.st0 (cs' := #[.int .i64 x9, .int .i64 x12, .int .i64 x15, .int .i64 x18, .slice none 0 0, .int .i64 0, .int .i64 0]) rfl .u rfl rfl Try.sizeOf24 rfl rfl rfl rfl ?_
    refine TL.nil (X.seq (T.seq (T.region rfl ?_)))
    obtain ⟨⟨x22, st25⟩, hx26, h⟩ := Option.bind_eq_some_iff.1 h
    try dsimp only at h
    refine TL.run ft_value_ok [0] rfl rfl ?_
    refine TL.cg1 rfl .u (.fn Try.call46 rfl) (f_value_Topics_spec b4 st19 _ hx26) (fun _ hs => (Src.triv _)) rfl ?_
    rintro _ _ _ ⟨A23, c24, rfl, rfl, rfl⟩
    refine TL.sel [0, 0, 0, 0, 0] rfl ?_
    refine TL.run ft_value_ok [2] rfl rfl ?_
    refine TL.st1 (cs' := #[.int .i64 x9, .int .i64 x12, .int .i64 x15, .int .i64 x18, .slice A23 x22.length c24, .int .i64 0, .int .i64 0]) rfl .u rfl rfl Try.sizeOf22 rfl rfl rfl rfl ?_
    refine TL.nil (X.seq (T.seq (T.region rfl ?_)))
    obtain ⟨⟨x27, st28⟩, hx29, h⟩ := Option.bind_eq_some_iff.1 h
    try dsimp only at h
    refine TL.run ft_value_ok [0] rfl rfl ?_
    refine TL.c2 rfl .u (.fn Try.call42 rfl) (gInt_spec b4 st25 8 _ hx29) (fun _ hs => (Src.triv _)) rfl ?_
    refine TL.run ft_value_ok [2] rfl rfl ?_
    refine TL.st1 (cs' := #[.int .i64 x9, .int .i64 x12, .int .i64 x15, .int .i64 x18, .slice A23 x22.length c24, .int .i64 x27, .int .i64 0]) rfl .u rfl rfl Try.sizeOf3 rfl rfl rfl rfl ?_
    refine TL.nil (X.seq (T.seq (T.region rfl ?_)))
    obtain ⟨⟨x30, st31⟩, hx32, h⟩ := Option.bind_eq_some_iff.1 h
    try dsimp only at h
    refine TL.run ft_value_ok [0] rfl rfl ?_
    refine TL.c2 rfl .u (.fn Try.call42 rfl) (gInt_spec b4 st28 8 _ hx32) (fun _ hs => (Src.triv _)) rfl ?_
    refine TL.run ft_value_ok [2] rfl rfl ?_
    refine TL.st1 (cs' := #[.int .i64 x9, .int .i64 x12, .int .i64 x15, .int .i64 x18, .slice A23 x22.length c24, .int .i64 x27, .int .i64 x30]) rfl .u rfl rfl Try.sizeOf3 rfl rfl rfl rfl ?_
    refine TL.nil (X.seq (T.seq (T.region rfl ?_)))
    obtain ⟨⟨x33, st34⟩, hx35, h⟩ := Option.bind_eq_some_iff.1 h
    try dsimp only at h
    refine TL.run ft_value_ok [0] rfl rfl ?_
    refine TL.c2 rfl .u (.fn Try.call45 rfl) (gClose_spec b4 st31 _ hx35) (fun _ hs => (Src.triv _)) rfl ?_
    refine TL.run ft_value_ok [2] rfl rfl ?_
    refine TL.nil (X.seq (T.seq (T.seq (T.region rfl ?_))))
    refine TL.run ft_value_ok [0, 1] rfl rfl ?_
    by_cases c36 : x33 = 0
    · replace h := ifT c36 h
      refine TL.nil (X.seq ?_)
      refine T.yes rfl (decide_eq_true c36) ?_
      refine T.region rfl ?_
      refine TL.q rfl .u (Ex.bS (us := [.int .i64 x9, .int .i64 x12, .int .i64 x15, .int .i64 x18, .slice A23 x22.length c24, .int .i64 x27, .int .i64 x30]) 1 rfl Try.isAgg24 Try.sizeOf24 rfl rfl rfl) rfl ?_
      obtain ⟨x37, hx38, h⟩ := Option.bind_eq_some_iff.1 h
      refine TL.ce rfl .u (.fn Try.call47 rfl) (f_value_Check_spec (⟨x9, x12, x15, x18, x22, x27, x30⟩ : Val) _ _ _ hx38) (fun _ hs => (SrcE.res 0 hs rfl (fun w G h => rd_reads w G h))) rfl ?_
      refine TL.run ft_value_ok [2] rfl rfl ?_
      refine TL.nil (X.seq (T.seq (T.seq (T.region rfl ?_))))
      refine TL.run ft_value_ok [0, 1] rfl rfl ?_
      by_cases c39 : x37 = 0
      · replace h := ifT c39 h
        refine TL.nil (X.seq ?_)
        refine T.no rfl (bn_f (decide_eq_true c39)) ?_
        refine T.skip (X.seq (T.seq (T.region rfl ?_)))
        refine TL.q rfl .u (Ex.bS (us := [.int .i64 x9, .int .i64 x12, .int .i64 x15, .int .i64 x18, .slice A23 x22.length c24, .int .i64 x27, .int .i64 x30]) 1 rfl Try.isAgg24 Try.sizeOf24 rfl rfl rfl) rfl ?_
        refine TL.st3 (cs' := #[.int .i64 x9, .int .i64 x12, .int .i64 x15, .int .i64 x18, .slice A23 x22.length c24, .int .i64 x27, .int .i64 x30]) rfl .u rfl rfl Try.sizeOf24 rfl rfl rfl rfl ?_
        refine TL.run ft_value_ok [2] rfl rfl ?_
        obtain rfl := Option.some.inj h
        exact TL.nil (X.seq (T.ret (X.done2 [4, 0] Try.results20 (RV.cS (us := #[.int .i64 x9, .int .i64 x12, .int .i64 x15, .int .i64 x18, .slice A23 x22.length c24, .int .i64 x27, .int .i64 x30]) 3 rfl Try.isAgg24 Try.sizeOf24 rfl rfl) (RV.tm rfl) ⟨_, _, rfl, rfl, rfl⟩ (by rfl) (.inl rfl))))
      · replace h := ifF c39 h
        refine TL.nil (X.seq ?_)
        refine T.yes rfl (bn_t (decide_eq_false c39)) ?_
        refine T.seq (T.region rfl ?_)
        refine TL.q rfl .u (Ex.bld (cells := #[.int .i64 0, .int .i64 0, .int .i64 0, .int .i64 0, .slice none 0 0, .int .i64 0, .int .i64 0]) bok_value_24 rfl (by kernel_rfl)) rfl ?_
        refine TL.run ft_value_ok [1] rfl rfl ?_
        refine TL.st3 (cs' := #[.int .i64 0, .int .i64 0, .int .i64 0, .int .i64 0, .slice none 0 0, .int .i64 0, .int .i64 0]) rfl .u rfl rfl Try.sizeOf24 rfl rfl rfl rfl ?_
        refine TL.run ft_value_ok [3] rfl rfl ?_
        obtain rfl := Option.some.inj h
        refine TL.nil (X.seq (T.ret (X.rs ?_)))
        refine X.nilrd 2 Top_rd ?_
        exact X.done2 [5, 0] Try.results20 (RV.cS (us := #[.int .i64 0, .int .i64 0, .int .i64 0, .int .i64 0, .slice none 0 0, .int .i64 0, .int .i64 0]) 4 rfl Try.isAgg24 Try.sizeOf24 rfl rfl) (RV.tm rfl) ⟨_, _, rfl, rfl, rfl⟩ (by rfl) (.inl rfl)
    · replace h := ifF c36 h
      refine TL.nil (X.seq ?_)
      refine T.no rfl (decide_eq_false c36) ?_
      refine T.skip (X.seq (T.seq (T.seq (T.region rfl ?_))))
      refine TL.run ft_value_ok [0, 1] rfl rfl ?_
      refine TL.nil (X.seq ?_)
      refine T.yes rfl (bn_t (decide_eq_false c36)) ?_
      refine T.seq (T.region rfl ?_)
      refine TL.q rfl .u (Ex.bld (cells := #[.int .i64 0, .int .i64 0, .int .i64 0, .int .i64 0, .slice none 0 0, .int .i64 0, .int .i64 0]) bok_value_24 rfl (by kernel_rfl)) rfl ?_
      refine TL.run ft_value_ok [1] rfl rfl ?_
      refine TL.st3 (cs' := #[.int .i64 0, .int .i64 0, .int .i64 0, .int .i64 0, .slice none 0 0, .int .i64 0, .int .i64 0]) rfl .u rfl rfl Try.sizeOf24 rfl rfl rfl rfl ?_
      refine TL.run ft_value_ok [3] rfl rfl ?_
      obtain rfl := Option.some.inj h
      refine TL.nil (X.seq (T.ret (X.rs ?_)))
      refine X.nilrd 2 Top_rd ?_
      exact X.done2 [5, 0] Try.results20 (RV.cS (us := #[.int .i64 0, .int .i64 0, .int .i64 0, .int .i64 0, .slice none 0 0, .int .i64 0, .int .i64 0]) 4 rfl Try.isAgg24 Try.sizeOf24 rfl rfl) (RV.tm rfl) ⟨_, _, rfl, rfl, rfl⟩ (by rfl) (.inl rfl)
  · replace h := ifF c8 h
    refine TL.nil (X.seq ?_)
    refine T.yes rfl (bn_t (decide_eq_false c8)) ?_
    refine T.region rfl ?_
    obtain ⟨st40, hx41, h⟩ := Option.bind_eq_some_iff.1 h
    refine TL.run ft_value_ok [0] rfl rfl ?_
    refine TL.c0 rfl .u (.fn Try.call43 rfl) (gIFail_spec b4 st6 7 _ hx41) (fun _ hs => (Src.triv _)) rfl ?_
    refine TL.nil (X.seq (T.seq (T.region rfl ?_)))
    obtain ⟨⟨x42, st43⟩, hx44, h⟩ := Option.bind_eq_some_iff.1 h
    try dsimp only at h
    refine TL.run ft_value_ok [0] rfl rfl ?_
    refine TL.c0 rfl .u (.fn Try.call42 rfl) (gInt_spec b4 st40 8 _ hx44) (fun _ hs => (Src.triv _)) rfl ?_
    obtain ⟨⟨x45, st46⟩, hx47, h⟩ := Option.bind_eq_some_iff.1 h
    try dsimp only at h
    refine TL.run ft_value_ok [2] rfl rfl ?_
    refine TL.c0 rfl .u (.fn Try.call42 rfl) (gInt_spec b4 st43 2 _ hx47) (fun _ hs => (Src.triv _)) rfl ?_
    obtain ⟨⟨x48, st49⟩, hx50, h⟩ := Option.bind_eq_some_iff.1 h
    try dsimp only at h
    refine TL.run ft_value_ok [4] rfl rfl ?_
    refine TL.c0 rfl .u (.fn Try.call42 rfl) (gInt_spec b4 st46 4 _ hx50) (fun _ hs => (Src.triv _)) rfl ?_
    obtain ⟨⟨x51, st52⟩, hx53, h⟩ := Option.bind_eq_some_iff.1 h
    try dsimp only at h
    refine TL.run ft_value_ok [6] rfl rfl ?_
    refine TL.c0 rfl .u (.fn Try.call42 rfl) (gInt_spec b4 st49 1 _ hx53) (fun _ hs => (Src.triv _)) rfl ?_
    refine TL.q rfl .u (Ex.bld (cells := #[.int .i64 x42, .int .i64 x45, .int .i64 x48, .int .i64 x51, .slice none 0 0, .int .i64 0, .int .i64 0]) bok_value_24 rfl (by kernel_rfl)) rfl ?_
    refine TL.alloc rfl .u Try.zeroValue24 rfl (fun b54 => ?_)
    refine TL.st0 (cs' := #[.int .i64 x42, .int .i64 x45, .int .i64 x48, .int .i64 x51, .slice none 0 0, .int .i64 0, .int .i64 0]) rfl .u rfl rfl Try.sizeOf24 rfl rfl rfl rfl ?_
    refine TL.nil (X.seq (T.seq (T.region rfl ?_)))
    obtain ⟨⟨x55, st58⟩, hx59, h⟩ := Option.bind_eq_some_iff.1 h
    try dsimp only at h
    refine TL.run ft_value_ok [0] rfl rfl ?_
    refine TL.cg1 rfl .u (.fn Try.call46 rfl) (f_value_Topics_spec b4 st52 _ hx59) (fun _ hs => (Src.triv _)) rfl ?_
    rintro _ _ _ ⟨A56, c57, rfl, rfl, rfl⟩
    refine TL.sel [0, 0, 0, 0, 0] rfl ?_
    refine TL.run ft_value_ok [2] rfl rfl ?_
    refine TL.st1 (cs' := #[.int .i64 x42, .int .i64 x45, .int .i64 x48, .int .i64 x51, .slice A56 x55.length c57, .int .i64 0, .int .i64 0]) rfl .u rfl rfl Try.sizeOf22 rfl rfl rfl rfl ?_
    refine TL.nil (X.seq (T.seq (T.region rfl ?_)))
    obtain ⟨⟨x60, st61⟩, hx62, h⟩ := Option.bind_eq_some_iff.1 h
    try dsimp only at h
    refine TL.run ft_value_ok [0] rfl rfl ?_
    refine TL.c2 rfl .u (.fn Try.call42 rfl) (gInt_spec b4 st58 8 _ hx62) (fun _ hs => (Src.triv _)) rfl ?_
    refine TL.run ft_value_ok [2] rfl rfl ?_
    refine TL.st1 (cs' := #[.int .i64 x42, .int .i64 x45, .int .i64 x48, .int .i64 x51, .slice A56 x55.length c57, .int .i64 x60, .int .i64 0]) rfl .u rfl rfl Try.sizeOf3 rfl rfl rfl rfl ?_
    refine TL.nil (X.seq (T.seq (T.region rfl ?_)))
    obtain ⟨⟨x63, st64⟩, hx65, h⟩ := Option.bind_eq_some_iff.1 h
    try dsimp only at h
    refine TL.run ft_value_ok [0] rfl rfl ?_
    refine TL.c2 rfl .u (.fn Try.call42 rfl) (gInt_spec b4 st61 8 _ hx65) (fun _ hs => (Src.triv _)) rfl ?_
    refine TL.run ft_value_ok [2] rfl rfl ?_
    refine TL.st1 (cs' := #[.int .i64 x42, .int .i64 x45, .int .i64 x48, .int .i64 x51, .slice A56 x55.length c57, .int .i64 x60, .int .i64 x63]) rfl .u rfl rfl Try.sizeOf3 rfl rfl rfl rfl ?_
    refine TL.nil (X.seq (T.seq (T.region rfl ?_)))
    obtain ⟨⟨x66, st67⟩, hx68, h⟩ := Option.bind_eq_some_iff.1 h
    try dsimp only at h
    refine TL.run ft_value_ok [0] rfl rfl ?_
    refine TL.c2 rfl .u (.fn Try.call45 rfl) (gClose_spec b4 st64 _ hx68) (fun _ hs => (Src.triv _)) rfl ?_
    refine TL.run ft_value_ok [2] rfl rfl ?_
    refine TL.nil (X.seq (T.seq (T.seq (T.region rfl ?_))))
    refine TL.run ft_value_ok [0, 1] rfl rfl ?_
    by_cases c69 : x66 = 0
    · replace h := ifT c69 h
      refine TL.nil (X.seq ?_)
      refine T.yes rfl (decide_eq_true c69) ?_
      refine T.region rfl ?_
      refine TL.q rfl .u (Ex.bS (us := [.int .i64 x42, .int .i64 x45, .int .i64 x48, .int .i64 x51, .slice A56 x55.length c57, .int .i64 x60, .int .i64 x63]) 1 rfl Try.isAgg24 Try.sizeOf24 rfl rfl rfl) rfl ?_
      obtain ⟨x70, hx71, h⟩ := Option.bind_eq_some_iff.1 h
      refine TL.ce rfl .u (.fn Try.call47 rfl) (f_value_Check_spec (⟨x42, x45, x48, x51, x55, x60, x63⟩ : Val) _ _ _ hx71) (fun _ hs => (SrcE.res 0 hs rfl (fun w G h => rd_reads w G h))) rfl ?_
      refine TL.run ft_value_ok [2] rfl rfl ?_
      refine TL.nil (X.seq (T.seq (T.seq (T.region rfl ?_))))
      refine TL.run ft_value_ok [0, 1] rfl rfl ?_
      by_cases c72 : x70 = 0
      · replace h := ifT c72 h
        refine TL.nil (X.seq ?_)
        refine T.no rfl (bn_f (decide_eq_true c72)) ?_
        refine T.skip (X.seq (T.seq (T.region rfl ?_)))
        refine TL.q rfl .u (Ex.bS (us := [.int .i64 x42, .int .i64 x45, .int .i64 x48, .int .i64 x51, .slice A56 x55.length c57, .int .i64 x60, .int .i64 x63]) 1 rfl Try.isAgg24 Try.sizeOf24 rfl rfl rfl) rfl ?_
        refine TL.st3 (cs' := #[.int .i64 x42, .int .i64 x45, .int .i64 x48, .int .i64 x51, .slice A56 x55.length c57, .int .i64 x60, .int .i64 x63]) rfl .u rfl rfl Try.sizeOf24 rfl rfl rfl rfl ?_
        refine TL.run ft_value_ok [2] rfl rfl ?_
        obtain rfl := Option.some.inj h
        exact TL.nil (X.seq (T.ret (X.done2 [4, 0] Try.results20 (RV.cS (us := #[.int .i64 x42, .int .i64 x45, .int .i64 x48, .int .i64 x51, .slice A56 x55.length c57, .int .i64 x60, .int .i64 x63]) 3 rfl Try.isAgg24 Try.sizeOf24 rfl rfl) (RV.tm rfl) ⟨_, _, rfl, rfl, rfl⟩ (by rfl) (.inl rfl))))
      · replace h := ifF c72 h
        refine TL.nil (X.seq ?_)
        refine T.yes rfl (bn_t (decide_eq_false c72)) ?_
        refine T.seq (T.region rfl ?_)
        refine TL.q rfl .u (Ex.bld (cells := #[.int .i64 0, .int .i64 0, .int .i64 0, .int .i64 0, .slice none 0 0, .int .i64 0, .int .i64 0]) bok_value_24 rfl (by kernel_rfl)) rfl ?_
        refine TL.run ft_value_ok [1] rfl rfl ?_
        refine TL.st3 (cs' := #[.int .i64 0, .int .i64 0, .int .i64 0, .int .i64 0, .slice none 0 0, .int .i64 0, .int .i64 0]) rfl .u rfl rfl Try.sizeOf24 rfl rfl rfl rfl ?_
        refine TL.run ft_value_ok [3] rfl rfl ?_
        obtain rfl := Option.some.inj h
        refine TL.nil (X.seq (T.ret (X.rs ?_)))
        refine X.nilrd 2 Top_rd ?_
        exact X.done2 [5, 0] Try.results20 (RV.cS (us := #[.int .i64 0, .int .i64 0, .int .i64 0, .int .i64 0, .slice none 0 0, .int .i64 0, .int .i64 0]) 4 rfl Try.isAgg24 Try.sizeOf24 rfl rfl) (RV.tm rfl) ⟨_, _, rfl, rfl, rfl⟩ (by rfl) (.inl rfl)
    · replace h := ifF c69 h
      refine TL.nil (X.seq ?_)
      refine T.no rfl (decide_eq_false c69) ?_
      refine T.skip (X.seq (T.seq (T.seq (T.region rfl ?_))))
      refine TL.run ft_value_ok [0, 1] rfl rfl ?_
      refine TL.nil (X.seq ?_)
      refine T.yes rfl (bn_t (decide_eq_false c69)) ?_
      refine T.seq (T.region rfl ?_)
      refine TL.q rfl .u (Ex.bld (cells := #[.int .i64 0, .int .i64 0, .int .i64 0, .int .i64 0, .slice none 0 0, .int .i64 0, .int .i64 0]) bok_value_24 rfl (by kernel_rfl)) rfl ?_
      refine TL.run ft_value_ok [1] rfl rfl ?_
      refine TL.st3 (cs' := #[.int .i64 0, .int .i64 0, .int .i64 0, .int .i64 0, .slice none 0 0, .int .i64 0, .int .i64 0]) rfl .u rfl rfl Try.sizeOf24 rfl rfl rfl rfl ?_
      refine TL.run ft_value_ok [3] rfl rfl ?_
      obtain rfl := Option.some.inj h
      refine TL.nil (X.seq (T.ret (X.rs ?_)))
      refine X.nilrd 2 Top_rd ?_
      exact X.done2 [5, 0] Try.results20 (RV.cS (us := #[.int .i64 0, .int .i64 0, .int .i64 0, .int .i64 0, .slice none 0 0, .int .i64 0, .int .i64 0]) 4 rfl Try.isAgg24 Try.sizeOf24 rfl rfl) (RV.tm rfl) ⟨_, _, rfl, rfl, rfl⟩ (by rfl) (.inl rfl)
end Go.Proofs.Ytlhgogjcaegehaa.Sl
namespace Go.Proofs.Ytlhgogjcaegehaa.Sl
open Go.RowKit
set_option linter.unusedVariables false
set_option linter.unusedSimpArgs false
set_option maxRecDepth 100000
def ft_cursitorref01 : FTab := []
theorem ft_cursitorref01_ok : (ft_cursitorref01).OK Try.prog := trivial
theorem mix_cursitorref01 : Try.prog.follows .mixedOrders = true := by kernel_rfl
def f_r01_Same_l1 (a0 : List Int) (a1 : List Int) : Nat → Bool → Nat → Option (Lp Bool (Bool × Nat))
  | 0, _, _ => none
  | m11 + 1, y6, k7 => if (k7 : Int) < (a0.length : Int) then ((a0[k7]?).bind fun x16 => (a1[k7]?).bind fun x19 => if x16 = x19 then (if -9223372036854775808 ≤ ((k7 : Int) + 1) ∧ ((k7 : Int) + 1) ≤ 9223372036854775807 then (f_r01_Same_l1 a0 a1 m11 y6 (k7 + 1)) else none) else some (Lp.ret false)) else (some (Lp.go (y6, k7)))
def f_r01_Same (a0 : List Int) (a1 : List Int) : Option (Bool) := if (a0.length : Int) = (a1.length : Int) then ((f_r01_Same_l1 a0 a1 (((a0.length : Int)).toNat + 1) false 0).bind fun e => match e with | .ret r => some r | .go (y24, k25) => some true) else some false
set_option maxRecDepth 100000 in
set_option maxHeartbeats 4000000 in
theorem f_r01_Same_spec (a0 : List Int) (A1 : Option Addr) (c2 : Nat) (a1 : List Int) (A3 : Option Addr) (c4 : Nat) (r : Bool) (h : f_r01_Same a0 a1 = some r) : SpecX Try.prog 58 #[.slice A1 a0.length c2, .slice A3 a1.length c4] (RX.and (RX.of (sliceRd 1 intE) [.slice A1 a0.length c2] a0) (RX.of (sliceRd 1 intE) [.slice A3 a1.length c4] a1)) (EmpR) (fun v A' N => v = .bool r ∧ A' = EmpR ∧ N = []) := by
  refine enterA Try.func58 rfl Try.ntmps58 rfl ?_
  intro F w hX
  unfold f_r01_Same at h
  refine T.seq (T.region rfl ?_)
  refine TL.run ft_cursitorref01_ok [0] rfl rfl ?_
  refine TL.nil (X.seq (T.seq (T.seq (T.region rfl ?_))))
  refine TL.run ft_cursitorref01_ok [0] rfl rfl ?_
  refine TL.q rfl .u (Ex.lenS rfl Try.runUnderlying44) rfl ?_
  refine TL.run ft_cursitorref01_ok [2] rfl rfl ?_
  refine TL.q rfl .u (Ex.lenS rfl Try.runUnderlying44) rfl ?_
  refine TL.run ft_cursitorref01_ok [4] rfl rfl ?_
  by_cases c5 : (a0.length : Int) = (a1.length : Int)
  · replace h := ifT c5 h
    refine TL.nil (X.seq ?_)
    refine T.no rfl (bn_f (decide_eq_true c5)) ?_
    refine T.skip (X.seq (T.seq (T.seq (T.region rfl ?_))))
    refine TL.run ft_cursitorref01_ok [0] rfl rfl ?_
    refine TL.nil (X.seq (T.block ?_))
    obtain ⟨E8, hE9, hO10⟩ := Option.bind_eq_some_iff.1 h
    refine T.lp (fun m e Rs => ∃ (y6 : Bool) (k7 : Nat), e = [(0, .slice A1 a0.length c2), (1, .slice A3 a1.length c4), (4, .bool y6), (5, .int .i64 (k7 : Int))] ∧ Rs = [EmpR] ∧ f_r01_Same_l1 a0 a1 m y6 k7 = some E8) (((a0.length : Int)).toNat + 1) [0] ⟨false, 0, rfl, rfl, by exact hE9⟩ (by rfl) (by rfl) ?_
    rintro m11 _ _ ⟨y6, k7, rfl, rfl, hl13⟩
    clear hE9 h
    cases m11 with
    | zero =>
      rw [f_r01_Same_l1] at hl13
      cases hl13
    | succ m11 =>
      have h := hl13
      clear hl13
      rw [f_r01_Same_l1] at h
      refine T.seq (T.seq (T.region rfl ?_))
      refine TL.run ft_cursitorref01_ok [0, 1] rfl rfl ?_
      refine TL.q rfl .u (Ex.lenS rfl Try.runUnderlying44) rfl ?_
      refine TL.run ft_cursitorref01_ok [3] rfl rfl ?_
      by_cases c15 : (k7 : Int) < (a0.length : Int)
      · replace h := ifT c15 h
        refine TL.nil (X.seq ?_)
        refine T.yes rfl (decide_eq_true c15) ?_
        refine T.skip (X.seq (T.seq (T.block (T.seq (T.draw (.q 0 (.q 1 (.q 2 (.q 3 (.q 4 (.q 5 (.q 6 (.q 7 (.q 8 .nil))))))))) [0] rfl mix_cursitorref01 (NoP.seq (NoP.blk (NoP.seq (NoP.seq (NoP.blk (NoP.seq np_post)))))) (by kernel_rfl) ?_)))))
        obtain ⟨x16, hx17, h⟩ := Option.bind_eq_some_iff.1 h
        obtain ⟨gz18, oz18, rfl, z18cs, z18cl, z18cc, z18nf, z18r⟩ := RX.elem (by decide) (RX.reads_left hX) hx17
        obtain ⟨z18S, z18r, z18rr⟩ := z18r
        obtain rfl : z18cs = [.int .i64 x16] := z18r
        refine TD.run ft_cursitorref01_ok [0, 1] rfl rfl ?_
        refine TD.q rfl .u (Ex.ixS (k := k7) rfl rfl rfl Try.runUnderlying44 Try.sizeOf3 (List.getElem?_eq_some_iff.1 hx17).1) rfl ?_
        refine TD.q rfl .u (Ex.o1 0 rfl Try.isAgg3 z18nf z18cc rfl rfl) rfl ?_
        obtain ⟨x19, hx20, h⟩ := Option.bind_eq_some_iff.1 h
        obtain ⟨gz21, oz21, rfl, z21cs, z21cl, z21cc, z21nf, z21r⟩ := RX.elem (by decide) (RX.reads_right hX) hx20
        obtain ⟨z21S, z21r, z21rr⟩ := z21r
        obtain rfl : z21cs = [.int .i64 x19] := z21r
        refine TD.run ft_cursitorref01_ok [4, 5] rfl rfl ?_
        refine TD.q rfl .u (Ex.ixS (k := k7) rfl rfl rfl Try.runUnderlying44 Try.sizeOf3 (List.getElem?_eq_some_iff.1 hx20).1) rfl ?_
        refine TD.q rfl .u (Ex.o1 0 rfl Try.isAgg3 z21nf z21cc rfl rfl) rfl ?_
        refine TD.run ft_cursitorref01_ok [8] rfl rfl ?_
        by_cases c22 : x16 = x19
        · replace h := ifT c22 h
          refine TD.nil (X.seq ?_)
          refine T.no rfl (bn_f (decide_eq_true c22)) ?_
          refine T.skip (X.blk (X.seq (T.region rfl ?_)))
          replace h := guard_some h
          obtain ⟨c23, h⟩ := h
          refine TL.run ft_cursitorref01_ok [0] rfl rfl ?_
          refine TL.q rfl .u (Ex.add rfl rfl c23) rfl ?_
          refine TL.run ft_cursitorref01_ok [2] rfl rfl ?_
          exact TL.nil (X.back (m' := m11) [0] (by omega) ⟨y6, k7 + 1, rfl, rfl, h⟩ (by rfl) (by rfl))
        · replace h := ifF c22 h
          refine TD.nil (X.seq ?_)
          refine T.yes rfl (bn_t (decide_eq_false c22)) ?_
          refine T.seq (T.region rfl ?_)
          refine TL.run ft_cursitorref01_ok [0] rfl rfl ?_
          obtain rfl := Option.some.inj h
          replace h := hO10
          clear hO10
          try dsimp only at h
          obtain rfl := Option.some.inj h
          exact TL.nil (X.seq (T.ret (X.rb (X.rs (X.rs (X.rb (X.rs (X.done1 [0] Try.results58 (RV.tm rfl) ⟨rfl, rfl, rfl⟩ (by rfl) (.inl rfl)))))))))
      · replace h := ifF c15 h
        refine TL.nil (X.seq ?_)
        refine T.no rfl (decide_eq_false c15) ?_
        obtain rfl := Option.some.inj h
        replace h := hO10
        clear hO10
        try dsimp only at h
        refine T.exit (X.exs (X.exs (X.ex (X.seq (T.seq (T.region rfl ?_))))))
        refine TL.run ft_cursitorref01_ok [0] rfl rfl ?_
        obtain rfl := Option.some.inj h
        exact TL.nil (X.seq (T.ret (X.done1 [0] Try.results58 (RV.tm rfl) ⟨rfl, rfl, rfl⟩ (by rfl) (.inl rfl))))
  · replace h := ifF c5 h
    refine TL.nil (X.seq ?_)
    refine T.yes rfl (bn_t (decide_eq_false c5)) ?_
    refine T.seq (T.region rfl ?_)
    refine TL.run ft_cursitorref01_ok [0] rfl rfl ?_
    obtain rfl := Option.some.inj h
    exact TL.nil (X.seq (T.ret (X.rs (X.done1 [0] Try.results58 (RV.tm rfl) ⟨rfl, rfl, rfl⟩ (by rfl) (.inl rfl)))))
end Go.Proofs.Ytlhgogjcaegehaa.Sl
namespace Go.Proofs.Ytlhgogjcaegehaa.Sl
open Go.RowKit
set_option linter.unusedVariables false
set_option linter.unusedSimpArgs false
set_option maxRecDepth 100000
def ft_cursitorref14 : FTab := [(24, 0, 0), (24, 1, 1), (24, 2, 2), (24, 3, 3), (24, 4, 4), (24, 5, 5), (24, 6, 6), (46, 0, 0), (46, 1, 1)]
theorem ft_cursitorref14_ok : (ft_cursitorref14).OK Try.prog := ⟨FOK.mk Try.runUnderlying24 rfl Try.sizeOf3 rfl, FOK.mk Try.runUnderlying24 rfl Try.sizeOf3 rfl, FOK.mk Try.runUnderlying24 rfl Try.sizeOf3 rfl, FOK.mk Try.runUnderlying24 rfl Try.sizeOf3 rfl, FOK.mk Try.runUnderlying24 rfl Try.sizeOf22 rfl, FOK.mk Try.runUnderlying24 rfl Try.sizeOf3 rfl, FOK.mk Try.runUnderlying24 rfl Try.sizeOf3 rfl, FOK.mk Try.runUnderlying46 rfl Try.sizeOf9 rfl, FOK.mk Try.runUnderlying46 rfl Try.sizeOf44 rfl, trivial⟩
def nt_cursitorref14 : List Nat := [3, 22]
theorem nt_cursitorref14_ok : NOK Try.prog nt_cursitorref14 := ⟨Try.isAgg3, Try.isAgg22, trivial⟩
theorem mix_cursitorref14 : Try.prog.follows .mixedOrders = true := by kernel_rfl
theorem bok_cursitorref14_28 : BOK Try.prog 28 #[.bool false, .string ⟨#[]⟩] [(0, 1), (1, 1)] := BOK.mk Try.zeroValue28 Try.runUnderlying28 (by intro w; simp)
def f_r14_less_l1 (a0 : List UInt8) (a1 : List UInt8) : Nat → Bool → Nat → Option (Lp Bool (Bool × Nat))
  | 0, _, _ => none
  | m6 + 1, y1, k2 => if (k2 : Int) < (a0.length : Int) then (if (k2 : Int) < (a1.length : Int) then ((a0[k2]?).bind fun ch12 => (a1[k2]?).bind fun ch14 => if (ch12.toNat : Int) = (ch14.toNat : Int) then (if -9223372036854775808 ≤ ((k2 : Int) + 1) ∧ ((k2 : Int) + 1) ≤ 9223372036854775807 then (f_r14_less_l1 a0 a1 m6 y1 (k2 + 1)) else none) else (if (ch12.toNat : Int) < (ch14.toNat : Int) then some (Lp.ret true) else some (Lp.ret false))) else (some (Lp.go (y1, k2)))) else (some (Lp.go (y1, k2)))
def f_r14_less (a0 : List UInt8) (a1 : List UInt8) : Option (Bool) := (f_r14_less_l1 a0 a1 (((a1.length : Int)).toNat + 1) false 0).bind fun e => match e with | .ret r => some r | .go (y21, k22) => (if (a0.length : Int) < (a1.length : Int) then some true else some false)
set_option maxRecDepth 100000 in
set_option maxHeartbeats 4000000 in
theorem f_r14_less_spec (a0 : List UInt8) (a1 : List UInt8) (r : Bool) (h : f_r14_less a0 a1 = some r) : SpecX Try.prog 55 #[.string (bsOf a0), .string (bsOf a1)] .triv (EmpR) (fun v A' N => v = .bool r ∧ A' = EmpR ∧ N = []) := by
  refine enterA Try.func55 rfl Try.ntmps55 rfl ?_
  intro F w hX
  unfold f_r14_less at h
  refine T.seq (T.region rfl ?_)
  refine TL.run ft_cursitorref14_ok [0] rfl rfl ?_
  refine TL.nil (X.seq (T.seq (T.seq (T.region rfl ?_))))
  refine TL.run ft_cursitorref14_ok [0] rfl rfl ?_
  refine TL.nil (X.seq (T.block ?_))
  obtain ⟨E3, hE4, hO5⟩ := Option.bind_eq_some_iff.1 h
  refine T.lp (fun m e Rs => ∃ (y1 : Bool) (k2 : Nat), e = [(0, .string (bsOf a0)), (1, .string (bsOf a1)), (4, .bool y1), (5, .int .i64 (k2 : Int))] ∧ Rs = [EmpR] ∧ f_r14_less_l1 a0 a1 m y1 k2 = some E3) (((a1.length : Int)).toNat + 1) [0] ⟨false, 0, rfl, rfl, by exact hE4⟩ (by rfl) (by rfl) ?_
  rintro m6 _ _ ⟨y1, k2, rfl, rfl, hl8⟩
  clear hE4 h
  cases m6 with
  | zero =>
    rw [f_r14_less_l1] at hl8
    cases hl8
  | succ m6 =>
    have h := hl8
    clear hl8
    rw [f_r14_less_l1] at h
    refine T.seq (T.seq (T.region rfl ?_))
    refine TL.run ft_cursitorref14_ok [0, 1] rfl rfl ?_
    refine TL.q rfl .u (Ex.lenB rfl Try.runUnderlying9) rfl ?_
    by_cases c10 : (k2 : Int) < (a0.length : Int)
    · replace h := ifT c10 h
      refine TL.run ft_cursitorref14_ok [3, 4] rfl rfl ?_
      refine TL.hv 10 rfl (decide_eq_true c10) ?_
      refine TL.rw ft_cursitorref14_ok 2 rfl ?_
      refine TL.q rfl (.g rfl rfl rfl) (Ex.lenB rfl Try.runUnderlying9) rfl ?_
      refine TL.rw ft_cursitorref14_ok 2 rfl ?_
      by_cases c11 : (k2 : Int) < (a1.length : Int)
      · replace h := ifT c11 h
        refine TL.nil (X.seq ?_)
        refine T.yes rfl (decide_eq_true c11) ?_
        refine T.skip (X.seq (T.seq (T.block (T.seq (T.draw (.q 0 (.q 1 (.q 2 (.q 3 (.q 4 (.q 5 (.q 6 .nil))))))) [0] rfl mix_cursitorref14 (NoP.seq (NoP.blk (NoP.seq (NoP.seq (NoP.blk (NoP.seq np_post)))))) (by kernel_rfl) ?_)))))
        obtain ⟨ch12, hc13, h⟩ := Option.bind_eq_some_iff.1 h
        refine TD.run ft_cursitorref14_ok [0, 1] rfl rfl ?_
        refine TD.q rfl .u (Ex.sIx rfl rfl rfl Try.underlying9 hc13) rfl ?_
        obtain ⟨ch14, hc15, h⟩ := Option.bind_eq_some_iff.1 h
        refine TD.run ft_cursitorref14_ok [3, 4] rfl rfl ?_
        refine TD.q rfl .u (Ex.sIx rfl rfl rfl Try.underlying9 hc15) rfl ?_
        refine TD.run ft_cursitorref14_ok [6] rfl rfl ?_
        by_cases c16 : (ch12.toNat : Int) = (ch14.toNat : Int)
        · replace h := ifT c16 h
          refine TD.nil (X.seq ?_)
          refine T.no rfl (bn_f (decide_eq_true c16)) ?_
          refine T.skip (X.blk (X.seq (T.region rfl ?_)))
          replace h := guard_some h
          obtain ⟨c17, h⟩ := h
          refine TL.run ft_cursitorref14_ok [0] rfl rfl ?_
          refine TL.q rfl .u (Ex.add rfl rfl c17) rfl ?_
          refine TL.run ft_cursitorref14_ok [2] rfl rfl ?_
          exact TL.nil (X.back (m' := m6) [0] (by omega) ⟨y1, k2 + 1, rfl, rfl, h⟩ (by rfl) (by rfl))
        · replace h := ifF c16 h
          refine TD.nil (X.seq ?_)
          refine T.yes rfl (bn_t (decide_eq_false c16)) ?_
          refine T.seq (T.draw (.q 0 (.q 1 (.q 2 (.q 3 (.q 4 (.q 5 (.q 6 (.q 7 .nil)))))))) [0] rfl mix_cursitorref14 (NoP.seq (NoP.blk (NoP.seq (NoP.seq (NoP.blk (NoP.seq np_post)))))) (by kernel_rfl) ?_)
          refine TD.run ft_cursitorref14_ok [0, 1] rfl rfl ?_
          refine TD.q rfl .u (Ex.sIx rfl rfl rfl Try.underlying9 hc13) rfl ?_
          refine TD.run ft_cursitorref14_ok [3, 4] rfl rfl ?_
          refine TD.q rfl .u (Ex.sIx rfl rfl rfl Try.underlying9 hc15) rfl ?_
          refine TD.run ft_cursitorref14_ok [6, 7] rfl rfl ?_
          by_cases c18 : (ch12.toNat : Int) < (ch14.toNat : Int)
          · replace h := ifT c18 h
            obtain rfl := Option.some.inj h
            replace h := hO5
            clear hO5
            try dsimp only at h
            obtain rfl := Option.some.inj h
            exact TD.nil (X.seq (T.ret (X.rb (X.rs (X.rs (X.rb (X.rs (X.done1 [0] Try.results55 (RV.tm (v := .bool true) (congrArg (fun b => some (Value.bool b)) (decide_eq_true c18))) ⟨rfl, rfl, rfl⟩ (by rfl) (.inl rfl)))))))))
          · replace h := ifF c18 h
            obtain rfl := Option.some.inj h
            replace h := hO5
            clear hO5
            try dsimp only at h
            obtain rfl := Option.some.inj h
            exact TD.nil (X.seq (T.ret (X.rb (X.rs (X.rs (X.rb (X.rs (X.done1 [0] Try.results55 (RV.tm (v := .bool false) (congrArg (fun b => some (Value.bool b)) (decide_eq_false c18))) ⟨rfl, rfl, rfl⟩ (by rfl) (.inl rfl)))))))))
      · replace h := ifF c11 h
        refine TL.nil (X.seq ?_)
        refine T.no rfl (decide_eq_false c11) ?_
        obtain rfl := Option.some.inj h
        replace h := hO5
        clear hO5
        try dsimp only at h
        refine T.exit (X.exs (X.exs (X.ex (X.seq (T.seq (T.region rfl ?_))))))
        refine TL.run ft_cursitorref14_ok [0] rfl rfl ?_
        refine TL.q rfl .u (Ex.lenB rfl Try.runUnderlying9) rfl ?_
        refine TL.run ft_cursitorref14_ok [2] rfl rfl ?_
        refine TL.q rfl .u (Ex.lenB rfl Try.runUnderlying9) rfl ?_
        refine TL.run ft_cursitorref14_ok [4, 5] rfl rfl ?_
        by_cases c19 : (a0.length : Int) < (a1.length : Int)
        · replace h := ifT c19 h
          obtain rfl := Option.some.inj h
          exact TL.nil (X.seq (T.ret (X.done1 [0] Try.results55 (RV.tm (v := .bool true) (congrArg (fun b => some (Value.bool b)) (decide_eq_true c19))) ⟨rfl, rfl, rfl⟩ (by rfl) (.inl rfl))))
        · replace h := ifF c19 h
          obtain rfl := Option.some.inj h
          exact TL.nil (X.seq (T.ret (X.done1 [0] Try.results55 (RV.tm (v := .bool false) (congrArg (fun b => some (Value.bool b)) (decide_eq_false c19))) ⟨rfl, rfl, rfl⟩ (by rfl) (.inl rfl))))
    · replace h := ifF c10 h
      refine TL.run ft_cursitorref14_ok [3, 4] rfl rfl ?_
      refine TL.hv 10 rfl (decide_eq_false c10) ?_
      refine TL.rw ft_cursitorref14_ok 5 rfl ?_
      refine TL.nil (X.seq ?_)
      refine T.no rfl rfl ?_
      obtain rfl := Option.some.inj h
      replace h := hO5
      clear hO5
      try dsimp only at h
      refine T.exit (X.exs (X.exs (X.ex (X.seq (T.seq (T.region rfl ?_))))))
      refine TL.run ft_cursitorref14_ok [0] rfl rfl ?_
      refine TL.q rfl .u (Ex.lenB rfl Try.runUnderlying9) rfl ?_
      refine TL.run ft_cursitorref14_ok [2] rfl rfl ?_
      refine TL.q rfl .u (Ex.lenB rfl Try.runUnderlying9) rfl ?_
      refine TL.run ft_cursitorref14_ok [4, 5] rfl rfl ?_
      by_cases c20 : (a0.length : Int) < (a1.length : Int)
      · replace h := ifT c20 h
        obtain rfl := Option.some.inj h
        exact TL.nil (X.seq (T.ret (X.done1 [0] Try.results55 (RV.tm (v := .bool true) (congrArg (fun b => some (Value.bool b)) (decide_eq_true c20))) ⟨rfl, rfl, rfl⟩ (by rfl) (.inl rfl))))
      · replace h := ifF c20 h
        obtain rfl := Option.some.inj h
        exact TL.nil (X.seq (T.ret (X.done1 [0] Try.results55 (RV.tm (v := .bool false) (congrArg (fun b => some (Value.bool b)) (decide_eq_false c20))) ⟨rfl, rfl, rfl⟩ (by rfl) (.inl rfl))))
def f_r14_Rise_l2 (x13 : Top) : Nat → Bool → Nat → Option (Lp Bool (Bool × Nat))
  | 0, _, _ => none
  | m39 + 1, y34, k35 => if (k35 : Int) < (x13.fParts.length : Int) then ((x13.fParts[k35]?).bind fun x44 => if x44 < 0 then some (Lp.ret false) else (if x44 > 2147483647 then some (Lp.ret false) else (if (k35 : Int) > 0 then (if -9223372036854775808 ≤ ((k35 : Int) - 1) ∧ ((k35 : Int) - 1) ≤ 9223372036854775807 then (if 0 ≤ ((k35 : Int) - 1) then ((x13.fParts[((k35 : Int) - 1).toNat]?).bind fun x52 => if x52 ≥ x44 then some (Lp.ret false) else (if -9223372036854775808 ≤ ((k35 : Int) + 1) ∧ ((k35 : Int) + 1) ≤ 9223372036854775807 then (f_r14_Rise_l2 x13 m39 y34 (k35 + 1)) else none)) else none) else none) else (if -9223372036854775808 ≤ ((k35 : Int) + 1) ∧ ((k35 : Int) + 1) ≤ 9223372036854775807 then (f_r14_Rise_l2 x13 m39 y34 (k35 + 1)) else none)))) else (some (Lp.go (y34, k35)))
def f_r14_Rise_l3 (x13 : Top) : Nat → Bool → Nat → Option (Lp Bool (Bool × Nat))
  | 0, _, _ => none
  | m67 + 1, y62, k63 => if (k63 : Int) < (x13.fParts.length : Int) then ((x13.fParts[k63]?).bind fun x72 => if x72 < 0 then some (Lp.ret false) else (if x72 > 2147483647 then some (Lp.ret false) else (if (k63 : Int) > 0 then (if -9223372036854775808 ≤ ((k63 : Int) - 1) ∧ ((k63 : Int) - 1) ≤ 9223372036854775807 then (if 0 ≤ ((k63 : Int) - 1) then ((x13.fParts[((k63 : Int) - 1).toNat]?).bind fun x80 => if x80 ≥ x72 then some (Lp.ret false) else (if -9223372036854775808 ≤ ((k63 : Int) + 1) ∧ ((k63 : Int) + 1) ≤ 9223372036854775807 then (f_r14_Rise_l3 x13 m67 y62 (k63 + 1)) else none)) else none) else none) else (if -9223372036854775808 ≤ ((k63 : Int) + 1) ∧ ((k63 : Int) + 1) ≤ 9223372036854775807 then (f_r14_Rise_l3 x13 m67 y62 (k63 + 1)) else none)))) else (some (Lp.go (y62, k63)))
def f_r14_Rise_l1 (a0 : List Top) : Nat → Bool → Nat → Option (Lp Bool (Bool × Nat))
  | 0, _, _ => none
  | m8 + 1, y3, k4 => if (k4 : Int) < (a0.length : Int) then ((a0[k4]?).bind fun x13 => if (x13.fName.length : Int) < 1 then some (Lp.ret false) else (if (x13.fName.length : Int) > 32767 then some (Lp.ret false) else (if (x13.fParts.length : Int) < 1 then some (Lp.ret false) else (if (k4 : Int) > 0 then (if -9223372036854775808 ≤ ((k4 : Int) - 1) ∧ ((k4 : Int) - 1) ≤ 9223372036854775807 then (if 0 ≤ ((k4 : Int) - 1) then ((a0[((k4 : Int) - 1).toNat]?).bind fun x25 => (f_r14_less x25.fName x13.fName).bind fun x31 => if x31 = true then ((f_r14_Rise_l2 x13 (((x13.fParts.length : Int)).toNat + 1) y3 0).bind fun e => match e with | .ret r => some (Lp.ret r) | .go (y59, k60) => (if -9223372036854775808 ≤ ((k4 : Int) + 1) ∧ ((k4 : Int) + 1) ≤ 9223372036854775807 then (f_r14_Rise_l1 a0 m8 y59 (k4 + 1)) else none)) else some (Lp.ret false)) else none) else none) else ((f_r14_Rise_l3 x13 (((x13.fParts.length : Int)).toNat + 1) y3 0).bind fun e => match e with | .ret r => some (Lp.ret r) | .go (y87, k88) => (if -9223372036854775808 ≤ ((k4 : Int) + 1) ∧ ((k4 : Int) + 1) ≤ 9223372036854775807 then (f_r14_Rise_l1 a0 m8 y87 (k4 + 1)) else none)))))) else (some (Lp.go (y3, k4)))
theorem f_r14_Rise_l1_z (a0 : List Top) (u1 : Bool) (u2 : Nat) : f_r14_Rise_l1 a0 0 u1 u2 = none := rfl
theorem f_r14_Rise_l1_s (a0 : List Top) (m8 : Nat) (y3 : Bool) (k4 : Nat) : f_r14_Rise_l1 a0 (m8 + 1) y3 k4 = (if (k4 : Int) < (a0.length : Int) then ((a0[k4]?).bind fun x13 => if (x13.fName.length : Int) < 1 then some (Lp.ret false) else (if (x13.fName.length : Int) > 32767 then some (Lp.ret false) else (if (x13.fParts.length : Int) < 1 then some (Lp.ret false) else (if (k4 : Int) > 0 then (if -9223372036854775808 ≤ ((k4 : Int) - 1) ∧ ((k4 : Int) - 1) ≤ 9223372036854775807 then (if 0 ≤ ((k4 : Int) - 1) then ((a0[((k4 : Int) - 1).toNat]?).bind fun x25 => (f_r14_less x25.fName x13.fName).bind fun x31 => if x31 = true then ((f_r14_Rise_l2 x13 (((x13.fParts.length : Int)).toNat + 1) y3 0).bind fun e => match e with | .ret r => some (Lp.ret r) | .go (y59, k60) => (if -9223372036854775808 ≤ ((k4 : Int) + 1) ∧ ((k4 : Int) + 1) ≤ 9223372036854775807 then (f_r14_Rise_l1 a0 m8 y59 (k4 + 1)) else none)) else some (Lp.ret false)) else none) else none) else ((f_r14_Rise_l3 x13 (((x13.fParts.length : Int)).toNat + 1) y3 0).bind fun e => match e with | .ret r => some (Lp.ret r) | .go (y87, k88) => (if -9223372036854775808 ≤ ((k4 : Int) + 1) ∧ ((k4 : Int) + 1) ≤ 9223372036854775807 then (f_r14_Rise_l1 a0 m8 y87 (k4 + 1)) else none)))))) else (some (Lp.go (y3, k4)))) := rfl
def f_r14_Rise (a0 : List Top) : Option (Bool) := (f_r14_Rise_l1 a0 (((a0.length : Int)).toNat + 1) false 0).bind fun e => match e with | .ret r => some r | .go (y90, k91) => some true
set_option maxRecDepth 100000 in
set_option maxHeartbeats 4000000 in
theorem f_r14_Rise_spec (a0 : List Top) (A1 : Option Addr) (c2 : Nat) (r : Bool) (h : f_r14_Rise a0 = some r) : SpecX Try.prog 33 #[.slice A1 a0.length c2] (RX.of (sliceRd 2 Top_rd) [.slice A1 a0.length c2] a0) (EmpR) (fun v A' N => v = .bool r ∧ A' = EmpR ∧ N = []) := by
  refine enterA Try.func33 rfl Try.ntmps33 rfl ?_
  intro F w hX
  unfold f_r14_Rise at h
  refine T.seq (T.region rfl ?_)
  refine TL.run ft_cursitorref14_ok [0] rfl rfl ?_
  refine TL.nil (X.seq (T.seq (T.seq (T.region rfl ?_))))
  refine TL.run ft_cursitorref14_ok [0] rfl rfl ?_
  refine TL.nil (X.seq (T.block ?_))
  obtain ⟨E5, hE6, hO7⟩ := Option.bind_eq_some_iff.1 h
  refine T.lp (fun m e Rs => ∃ (y3 : Bool) (k4 : Nat), e = [(0, .slice A1 a0.length c2), (2, .bool y3), (3, .int .i64 (k4 : Int))] ∧ Rs = [EmpR] ∧ f_r14_Rise_l1 a0 m y3 k4 = some E5) (((a0.length : Int)).toNat + 1) [0] ⟨false, 0, rfl, rfl, by exact hE6⟩ (by rfl) (by rfl) ?_
  rintro m8 _ _ ⟨y3, k4, rfl, rfl, hl10⟩
  clear hE6 h
  cases m8 with
  | zero =>
    rw [f_r14_Rise_l1_z] at hl10
    cases hl10
  | succ m8 =>
    have h := hl10
    clear hl10
    rw [f_r14_Rise_l1_s] at h
    refine T.seq (T.seq (T.region rfl ?_))
    refine TL.run ft_cursitorref14_ok [0, 1] rfl rfl ?_
    refine TL.q rfl .u (Ex.lenS rfl Try.runUnderlying22) rfl ?_
    refine TL.run ft_cursitorref14_ok [3] rfl rfl ?_
    by_cases c12 : (k4 : Int) < (a0.length : Int)
    · replace h := ifT c12 h
      refine TL.nil (X.seq ?_)
      refine T.yes rfl (decide_eq_true c12) ?_
      refine T.skip (X.seq (T.seq (T.block (T.seq (T.seq (T.region rfl ?_))))))
      obtain ⟨x13, hx14, h⟩ := Option.bind_eq_some_iff.1 h
      obtain ⟨gz15, oz15, rfl, z15cs, z15cl, z15cc, z15nf, z15r⟩ := RX.elem (by decide) hX hx14
      obtain ⟨z15S, z15r, z15rr⟩ := z15r
      obtain ⟨A16, c17, rfl, z15s0⟩ := z15r
      have hX18 : (RX.of (sliceRd 1 intE) [.slice A16 x13.fParts.length c17] x13.fParts).reads w F := ⟨z15S, z15s0, z15rr⟩
      refine TL.run ft_cursitorref14_ok [0, 1] rfl rfl ?_
      refine TL.q rfl .u (Ex.ixS (k := k4) rfl rfl rfl Try.runUnderlying22 Try.sizeOf46 (List.getElem?_eq_some_iff.1 hx14).1) rfl ?_
      refine TL.run ft_cursitorref14_ok [3] rfl rfl ?_
      refine TL.q rfl .u (Ex.o1 0 rfl Try.isAgg9 z15nf z15cc rfl rfl) rfl ?_
      refine TL.q rfl .u (Ex.lenB rfl Try.runUnderlying9) rfl ?_
      by_cases c19 : (x13.fName.length : Int) < 1
      · replace h := ifT c19 h
        refine TL.run ft_cursitorref14_ok [6, 7] rfl rfl ?_
        refine TL.hv 19 rfl (decide_eq_true c19) ?_
        refine TL.rw ft_cursitorref14_ok 17 rfl ?_
        refine TL.nil (X.seq ?_)
        refine T.yes rfl rfl ?_
        refine T.seq (T.region rfl ?_)
        refine TL.run ft_cursitorref14_ok [0] rfl rfl ?_
        obtain rfl := Option.some.inj h
        replace h := hO7
        clear hO7
        try dsimp only at h
        obtain rfl := Option.some.inj h
        exact TL.nil (X.seq (T.ret (X.rs (X.rb (X.rs (X.rs (X.rb (X.rs (X.done1 [0] Try.results33 (RV.tm rfl) ⟨rfl, rfl, rfl⟩ (by rfl) (.inl rfl))))))))))
      · replace h := ifF c19 h
        refine TL.run ft_cursitorref14_ok [6, 7] rfl rfl ?_
        refine TL.hv 19 rfl (decide_eq_false c19) ?_
        refine TL.rw ft_cursitorref14_ok 2 rfl ?_
        refine TL.q rfl (.g rfl rfl rfl) (Ex.ixS (k := k4) rfl rfl rfl Try.runUnderlying22 Try.sizeOf46 (List.getElem?_eq_some_iff.1 hx14).1) rfl ?_
        refine TL.rw ft_cursitorref14_ok 1 rfl ?_
        refine TL.q rfl (.g rfl rfl rfl) (Ex.o1 0 rfl Try.isAgg9 z15nf z15cc rfl rfl) rfl ?_
        refine TL.q rfl (.g rfl rfl rfl) (Ex.lenB rfl Try.runUnderlying9) rfl ?_
        by_cases c20 : (x13.fName.length : Int) > 32767
        · replace h := ifT c20 h
          refine TL.rw ft_cursitorref14_ok 3 rfl ?_
          refine TL.hv 28 rfl (decide_eq_true c20) ?_
          refine TL.rw ft_cursitorref14_ok 8 rfl ?_
          refine TL.nil (X.seq ?_)
          refine T.yes rfl rfl ?_
          refine T.seq (T.region rfl ?_)
          refine TL.run ft_cursitorref14_ok [0] rfl rfl ?_
          obtain rfl := Option.some.inj h
          replace h := hO7
          clear hO7
          try dsimp only at h
          obtain rfl := Option.some.inj h
          exact TL.nil (X.seq (T.ret (X.rs (X.rb (X.rs (X.rs (X.rb (X.rs (X.done1 [0] Try.results33 (RV.tm rfl) ⟨rfl, rfl, rfl⟩ (by rfl) (.inl rfl))))))))))
        · replace h := ifF c20 h
          refine TL.rw ft_cursitorref14_ok 3 rfl ?_
          refine TL.hv 28 rfl (decide_eq_false c20) ?_
          refine TL.rw ft_cursitorref14_ok 2 rfl ?_
          refine TL.q rfl (.g rfl rfl rfl) (Ex.ixS (k := k4) rfl rfl rfl Try.runUnderlying22 Try.sizeOf46 (List.getElem?_eq_some_iff.1 hx14).1) rfl ?_
          refine TL.rw ft_cursitorref14_ok 1 rfl ?_
          refine TL.q rfl (.g rfl rfl rfl) (Ex.o1 1 rfl Try.isAgg44 z15nf z15cc rfl rfl) rfl ?_
          refine TL.q rfl (.g rfl rfl rfl) (Ex.lenS rfl Try.runUnderlying44) rfl ?_
          refine TL.rw ft_cursitorref14_ok 2 rfl ?_
          by_cases c21 : (x13.fParts.length : Int) < 1
          · replace h := ifT c21 h
            refine TL.nil (X.seq ?_)
            refine T.yes rfl (decide_eq_true c21) ?_
            refine T.seq (T.region rfl ?_)
            refine TL.run ft_cursitorref14_ok [0] rfl rfl ?_
            obtain rfl := Option.some.inj h
            replace h := hO7
            clear hO7
            try dsimp only at h
            obtain rfl := Option.some.inj h
            exact TL.nil (X.seq (T.ret (X.rs (X.rb (X.rs (X.rs (X.rb (X.rs (X.done1 [0] Try.results33 (RV.tm rfl) ⟨rfl, rfl, rfl⟩ (by rfl) (.inl rfl))))))))))
          · replace h := ifF c21 h
            refine TL.nil (X.seq ?_)
            refine T.no rfl (decide_eq_false c21) ?_
            refine T.skip (X.seq (T.seq (T.seq (T.draw (.q 0 (.q 1 (.q 2 (.q 3 (.q 4 (.q 5 (.q 6 (.q 7 (.q 8 (.q 9 (.q 10 (.q 11 (.q 12 (.q 13 (.e 14 (.q 15 (.q 16 .nil))))))))))))))))) [0] rfl mix_cursitorref14 (NoP.seq (NoP.seq (NoP.blk (NoP.seq (NoP.seq (NoP.blk (NoP.seq np_post))))))) (by kernel_rfl) ?_))))
            by_cases c22 : (k4 : Int) > 0
            · replace h := ifT c22 h
              refine TD.run ft_cursitorref14_ok [0, 1, 2] rfl rfl ?_
              refine TD.q rfl (.g rfl rfl (decide_eq_true c22)) (Ex.ft ft_cursitorref14_ok rfl) rfl ?_
              refine TD.q rfl (.g rfl rfl (decide_eq_true c22)) (Ex.ft ft_cursitorref14_ok rfl) rfl ?_
              replace h := guard_some h
              obtain ⟨c23, h⟩ := h
              refine TD.q rfl (.g rfl rfl (decide_eq_true c22)) (Ex.sub rfl rfl c23) rfl ?_
              replace h := guard_some h
              obtain ⟨c24, h⟩ := h
              obtain ⟨x25, hx26, h⟩ := Option.bind_eq_some_iff.1 h
              obtain ⟨z27cs, z27cl, z27cc, z27nf, z27r⟩ := RX.elem' (by decide) hX hx26
              obtain ⟨z27S, z27r, z27rr⟩ := z27r
              obtain ⟨A28, c29, rfl, z27s0⟩ := z27r
              have hX30 : (RX.of (sliceRd 1 intE) [.slice A28 x25.fParts.length c29] x25.fParts).reads w F := ⟨z27S, z27s0, z27rr⟩
              refine TD.q rfl (.g rfl rfl (decide_eq_true c22)) (Ex.ixS (k := ((k4 : Int) - 1).toNat) rfl rfl ((Int.toNat_of_nonneg c24).symm) Try.runUnderlying22 Try.sizeOf46 (List.getElem?_eq_some_iff.1 hx26).1) rfl ?_
              refine TD.q rfl (.g rfl rfl (decide_eq_true c22)) (Ex.ft ft_cursitorref14_ok rfl) rfl ?_
              refine TD.q rfl (.g rfl rfl (decide_eq_true c22)) (Ex.o1 0 rfl Try.isAgg9 z27nf z27cc rfl rfl) rfl ?_
              refine TD.q rfl (.g rfl rfl (decide_eq_true c22)) (Ex.ft ft_cursitorref14_ok rfl) rfl ?_
              refine TD.q rfl (.g rfl rfl (decide_eq_true c22)) (Ex.ft ft_cursitorref14_ok rfl) rfl ?_
              refine TD.q rfl (.g rfl rfl (decide_eq_true c22)) (Ex.ixS (k := k4) rfl rfl rfl Try.runUnderlying22 Try.sizeOf46 (List.getElem?_eq_some_iff.1 hx14).1) rfl ?_
              refine TD.q rfl (.g rfl rfl (decide_eq_true c22)) (Ex.ft ft_cursitorref14_ok rfl) rfl ?_
              refine TD.q rfl (.g rfl rfl (decide_eq_true c22)) (Ex.o1 0 rfl Try.isAgg9 z15nf z15cc rfl rfl) rfl ?_
              obtain ⟨x31, hx32, h⟩ := Option.bind_eq_some_iff.1 h
              refine TD.ce rfl (.g rfl rfl (decide_eq_true c22)) (.fn Try.call55 rfl) (f_r14_less_spec x25.fName x13.fName _ hx32) (fun _ hs => (RX.reads_triv _ _)) rfl [0] (rfl) ?_
              refine TD.q rfl (.g rfl rfl (decide_eq_true c22)) (Ex.ft ft_cursitorref14_ok rfl) rfl ?_
              refine TD.q rfl .u (Ex.py rfl (decide_eq_true c22) rfl) rfl ?_
              by_cases c33 : x31 = true
              · replace h := ifT c33 h
                refine TD.nil (X.seq ?_)
                refine T.no rfl (bn_f c33) ?_
                refine T.skip (X.seq (T.seq (T.region rfl ?_)))
                refine TL.run ft_cursitorref14_ok [0] rfl rfl ?_
                refine TL.nil (X.seq (T.block ?_))
                obtain ⟨E36, hE37, hO38⟩ := Option.bind_eq_some_iff.1 h
                refine T.lp (fun m e Rs => ∃ (y34 : Bool) (k35 : Nat), e = [(0, .slice (some ⟨gz15, oz15, none⟩) a0.length c2), (2, .bool y34), (3, .int .i64 (k4 : Int)), (4, .int .i64 (k35 : Int))] ∧ Rs = [EmpR] ∧ f_r14_Rise_l2 x13 m y34 k35 = some E36) (((x13.fParts.length : Int)).toNat + 1) [0] ⟨y3, 0, rfl, rfl, by exact hE37⟩ (by rfl) (by rfl) ?_
                rintro m39 _ _ ⟨y34, k35, rfl, rfl, hl41⟩
                clear hE37 h
                cases m39 with
                | zero =>
                  rw [f_r14_Rise_l2] at hl41
                  cases hl41
                | succ m39 =>
                  have h := hl41
                  clear hl41
                  rw [f_r14_Rise_l2] at h
                  refine T.seq (T.seq (T.region rfl ?_))
                  refine TL.run ft_cursitorref14_ok [0, 1, 2] rfl rfl ?_
                  refine TL.q rfl .u (Ex.ixS (k := k4) rfl rfl rfl Try.runUnderlying22 Try.sizeOf46 (List.getElem?_eq_some_iff.1 hx14).1) rfl ?_
                  refine TL.run ft_cursitorref14_ok [4] rfl rfl ?_
                  refine TL.q rfl .u (Ex.o1 1 rfl Try.isAgg44 z15nf z15cc rfl rfl) rfl ?_
                  refine TL.q rfl .u (Ex.lenS rfl Try.runUnderlying44) rfl ?_
                  refine TL.run ft_cursitorref14_ok [7] rfl rfl ?_
                  by_cases c43 : (k35 : Int) < (x13.fParts.length : Int)
                  · replace h := ifT c43 h
                    refine TL.nil (X.seq ?_)
                    refine T.yes rfl (decide_eq_true c43) ?_
                    refine T.skip (X.seq (T.seq (T.block (T.seq (T.region rfl ?_)))))
                    refine TL.run ft_cursitorref14_ok [0, 1] rfl rfl ?_
                    refine TL.q rfl .u (Ex.ixS (k := k4) rfl rfl rfl Try.runUnderlying22 Try.sizeOf46 (List.getElem?_eq_some_iff.1 hx14).1) rfl ?_
                    refine TL.run ft_cursitorref14_ok [3] rfl rfl ?_
                    refine TL.q rfl .u (Ex.o1 1 rfl Try.isAgg44 z15nf z15cc rfl rfl) rfl ?_
                    obtain ⟨x44, hx45, h⟩ := Option.bind_eq_some_iff.1 h
                    obtain ⟨gz46, oz46, rfl, z46cs, z46cl, z46cc, z46nf, z46r⟩ := RX.elem (by decide) hX18 hx45
                    obtain ⟨z46S, z46r, z46rr⟩ := z46r
                    obtain rfl : z46cs = [.int .i64 x44] := z46r
                    refine TL.run ft_cursitorref14_ok [5] rfl rfl ?_
                    refine TL.q rfl .u (Ex.ixS (k := k35) rfl rfl rfl Try.runUnderlying44 Try.sizeOf3 (List.getElem?_eq_some_iff.1 hx45).1) rfl ?_
                    refine TL.q rfl .u (Ex.o1 0 rfl Try.isAgg3 z46nf z46cc rfl rfl) rfl ?_
                    refine TL.run ft_cursitorref14_ok [8] rfl rfl ?_
                    refine TL.nil (X.seq (T.seq (T.region rfl ?_)))
                    by_cases c47 : x44 < 0
                    · replace h := ifT c47 h
                      refine TL.run ft_cursitorref14_ok [0, 1, 2] rfl rfl ?_
                      refine TL.hv 74 rfl (decide_eq_true c47) ?_
                      refine TL.rw ft_cursitorref14_ok 20 rfl ?_
                      refine TL.nil (X.seq ?_)
                      refine T.yes rfl rfl ?_
                      refine T.seq (T.region rfl ?_)
                      refine TL.run ft_cursitorref14_ok [0] rfl rfl ?_
                      obtain rfl := Option.some.inj h
                      replace h := hO38
                      clear hO38
                      try dsimp only at h
                      obtain rfl := Option.some.inj h
                      replace h := hO7
                      clear hO7
                      try dsimp only at h
                      obtain rfl := Option.some.inj h
                      exact TL.nil (X.seq (T.ret (X.rb (X.rs (X.rs (X.rb (X.rb (X.rs (X.rs (X.rb (X.rs (X.done1 [0] Try.results33 (RV.tm rfl) ⟨rfl, rfl, rfl⟩ (by rfl) (.inl rfl)))))))))))))
                    · replace h := ifF c47 h
                      refine TL.run ft_cursitorref14_ok [0, 1, 2] rfl rfl ?_
                      refine TL.hv 74 rfl (decide_eq_false c47) ?_
                      by_cases c48 : x44 > 2147483647
                      · replace h := ifT c48 h
                        refine TL.rw ft_cursitorref14_ok 4 rfl ?_
                        refine TL.hv 78 rfl (decide_eq_true c48) ?_
                        refine TL.rw ft_cursitorref14_ok 16 rfl ?_
                        refine TL.nil (X.seq ?_)
                        refine T.yes rfl rfl ?_
                        refine T.seq (T.region rfl ?_)
                        refine TL.run ft_cursitorref14_ok [0] rfl rfl ?_
                        obtain rfl := Option.some.inj h
                        replace h := hO38
                        clear hO38
                        try dsimp only at h
                        obtain rfl := Option.some.inj h
                        replace h := hO7
                        clear hO7
                        try dsimp only at h
                        obtain rfl := Option.some.inj h
                        exact TL.nil (X.seq (T.ret (X.rb (X.rs (X.rs (X.rb (X.rb (X.rs (X.rs (X.rb (X.rs (X.done1 [0] Try.results33 (RV.tm rfl) ⟨rfl, rfl, rfl⟩ (by rfl) (.inl rfl)))))))))))))
                      · replace h := ifF c48 h
                        refine TL.rw ft_cursitorref14_ok 4 rfl ?_
                        refine TL.hv 78 rfl (decide_eq_false c48) ?_
                        by_cases c49 : (k35 : Int) > 0
                        · replace h := ifT c49 h
                          refine TL.rw ft_cursitorref14_ok 3 rfl ?_
                          refine TL.hv 81 rfl (decide_eq_true c49) ?_
                          refine TL.rw ft_cursitorref14_ok 2 rfl ?_
                          refine TL.q rfl (.g rfl rfl rfl) (Ex.ixS (k := k4) rfl rfl rfl Try.runUnderlying22 Try.sizeOf46 (List.getElem?_eq_some_iff.1 hx14).1) rfl ?_
                          refine TL.rw ft_cursitorref14_ok 1 rfl ?_
                          refine TL.q rfl (.g rfl rfl rfl) (Ex.o1 1 rfl Try.isAgg44 z15nf z15cc rfl rfl) rfl ?_
                          replace h := guard_some h
                          obtain ⟨c50, h⟩ := h
                          refine TL.rw ft_cursitorref14_ok 1 rfl ?_
                          refine TL.q rfl (.g rfl rfl rfl) (Ex.sub rfl rfl c50) rfl ?_
                          replace h := guard_some h
                          obtain ⟨c51, h⟩ := h
                          obtain ⟨x52, hx53, h⟩ := Option.bind_eq_some_iff.1 h
                          obtain ⟨z54cs, z54cl, z54cc, z54nf, z54r⟩ := RX.elem' (by decide) hX18 hx53
                          obtain ⟨z54S, z54r, z54rr⟩ := z54r
                          obtain rfl : z54cs = [.int .i64 x52] := z54r
                          refine TL.q rfl (.g rfl rfl rfl) (Ex.ixS (k := ((k35 : Int) - 1).toNat) rfl rfl ((Int.toNat_of_nonneg c51).symm) Try.runUnderlying44 Try.sizeOf3 (List.getElem?_eq_some_iff.1 hx53).1) rfl ?_
                          refine TL.q rfl (.g rfl rfl rfl) (Ex.o1 0 rfl Try.isAgg3 z54nf z54cc rfl rfl) rfl ?_
                          refine TL.rw ft_cursitorref14_ok 4 rfl ?_
                          by_cases c55 : x52 ≥ x44
                          · replace h := ifT c55 h
                            refine TL.nil (X.seq ?_)
                            refine T.yes rfl (decide_eq_true c55) ?_
                            refine T.seq (T.region rfl ?_)
                            refine TL.run ft_cursitorref14_ok [0] rfl rfl ?_
                            obtain rfl := Option.some.inj h
                            replace h := hO38
                            clear hO38
                            try dsimp only at h
                            obtain rfl := Option.some.inj h
                            replace h := hO7
                            clear hO7
                            try dsimp only at h
                            obtain rfl := Option.some.inj h
                            exact TL.nil (X.seq (T.ret (X.rb (X.rs (X.rs (X.rb (X.rb (X.rs (X.rs (X.rb (X.rs (X.done1 [0] Try.results33 (RV.tm rfl) ⟨rfl, rfl, rfl⟩ (by rfl) (.inl rfl)))))))))))))
                          · replace h := ifF c55 h
                            refine TL.nil (X.seq ?_)
                            refine T.no rfl (decide_eq_false c55) ?_
                            refine T.skip (X.blk (X.seq (T.region rfl ?_)))
                            replace h := guard_some h
                            obtain ⟨c56, h⟩ := h
                            refine TL.run ft_cursitorref14_ok [0] rfl rfl ?_
                            refine TL.q rfl .u (Ex.add rfl rfl c56) rfl ?_
                            refine TL.run ft_cursitorref14_ok [2] rfl rfl ?_
                            exact TL.nil (X.back (m' := m39) [0] (by omega) ⟨y34, k35 + 1, rfl, rfl, h⟩ (by rfl) (by rfl))
                        · replace h := ifF c49 h
                          refine TL.rw ft_cursitorref14_ok 3 rfl ?_
                          refine TL.hv 81 rfl (decide_eq_false c49) ?_
                          refine TL.rw ft_cursitorref14_ok 13 rfl ?_
                          refine TL.nil (X.seq ?_)
                          refine T.no rfl rfl ?_
                          refine T.skip (X.blk (X.seq (T.region rfl ?_)))
                          replace h := guard_some h
                          obtain ⟨c57, h⟩ := h
                          refine TL.run ft_cursitorref14_ok [0] rfl rfl ?_
                          refine TL.q rfl .u (Ex.add rfl rfl c57) rfl ?_
                          refine TL.run ft_cursitorref14_ok [2] rfl rfl ?_
                          exact TL.nil (X.back (m' := m39) [0] (by omega) ⟨y34, k35 + 1, rfl, rfl, h⟩ (by rfl) (by rfl))
                  · replace h := ifF c43 h
                    refine TL.nil (X.seq ?_)
                    refine T.no rfl (decide_eq_false c43) ?_
                    obtain rfl := Option.some.inj h
                    replace h := hO38
                    clear hO38
                    try dsimp only at h
                    refine T.exit (X.exs (X.exs (X.ex (X.blk (X.seq (T.region rfl ?_))))))
                    replace h := guard_some h
                    obtain ⟨c58, h⟩ := h
                    refine TL.run ft_cursitorref14_ok [0] rfl rfl ?_
                    refine TL.q rfl .u (Ex.add rfl rfl c58) rfl ?_
                    refine TL.run ft_cursitorref14_ok [2] rfl rfl ?_
                    exact TL.nil (X.back (m' := m8) [0] (by omega) ⟨y34, k4 + 1, rfl, rfl, h⟩ (by rfl) (by rfl))
              · replace h := ifF c33 h
                replace c33 := eq_false_of_ne_true c33
                refine TD.nil (X.seq ?_)
                refine T.yes rfl (bn_t c33) ?_
                refine T.seq (T.region rfl ?_)
                refine TL.run ft_cursitorref14_ok [0] rfl rfl ?_
                obtain rfl := Option.some.inj h
                replace h := hO7
                clear hO7
                try dsimp only at h
                obtain rfl := Option.some.inj h
                exact TL.nil (X.seq (T.ret (X.rs (X.rb (X.rs (X.rs (X.rb (X.rs (X.done1 [0] Try.results33 (RV.tm rfl) ⟨rfl, rfl, rfl⟩ (by rfl) (.inl rfl))))))))))
            · replace h := ifF c22 h
              refine TD.run ft_cursitorref14_ok [0, 1, 2] rfl rfl ?_
              refine TD.no rfl (.gn rfl rfl (decide_eq_false c22)) rfl ?_
              refine TD.no rfl (.gn rfl rfl (decide_eq_false c22)) rfl ?_
              refine TD.no rfl (.gn rfl rfl (decide_eq_false c22)) rfl ?_
              refine TD.no rfl (.gn rfl rfl (decide_eq_false c22)) rfl ?_
              refine TD.no rfl (.gn rfl rfl (decide_eq_false c22)) rfl ?_
              refine TD.no rfl (.gn rfl rfl (decide_eq_false c22)) rfl ?_
              refine TD.no rfl (.gn rfl rfl (decide_eq_false c22)) rfl ?_
              refine TD.no rfl (.gn rfl rfl (decide_eq_false c22)) rfl ?_
              refine TD.no rfl (.gn rfl rfl (decide_eq_false c22)) rfl ?_
              refine TD.no rfl (.gn rfl rfl (decide_eq_false c22)) rfl ?_
              refine TD.no rfl (.gn rfl rfl (decide_eq_false c22)) rfl ?_
              refine TD.noe rfl (.gn rfl rfl (decide_eq_false c22)) rfl [0] rfl ?_
              refine TD.no rfl (.gn rfl rfl (decide_eq_false c22)) rfl ?_
              refine TD.q rfl .u (Ex.pn rfl (decide_eq_false c22) rfl) rfl ?_
              refine TD.nil (X.seq ?_)
              refine T.no rfl rfl ?_
              refine T.skip (X.seq (T.seq (T.region rfl ?_)))
              refine TL.run ft_cursitorref14_ok [0] rfl rfl ?_
              refine TL.nil (X.seq (T.block ?_))
              obtain ⟨E64, hE65, hO66⟩ := Option.bind_eq_some_iff.1 h
              refine T.lp (fun m e Rs => ∃ (y62 : Bool) (k63 : Nat), e = [(0, .slice (some ⟨gz15, oz15, none⟩) a0.length c2), (2, .bool y62), (3, .int .i64 (k4 : Int)), (4, .int .i64 (k63 : Int))] ∧ Rs = [EmpR] ∧ f_r14_Rise_l3 x13 m y62 k63 = some E64) (((x13.fParts.length : Int)).toNat + 1) [0] ⟨y3, 0, rfl, rfl, by exact hE65⟩ (by rfl) (by rfl) ?_
              rintro m67 _ _ ⟨y62, k63, rfl, rfl, hl69⟩
              clear hE65 h
              cases m67 with
              | zero =>
                rw [f_r14_Rise_l3] at hl69
                cases hl69
              | succ m67 =>
                have h := hl69
                clear hl69
                rw [f_r14_Rise_l3] at h
                refine T.seq (T.seq (T.region rfl ?_))
                refine TL.run ft_cursitorref14_ok [0, 1, 2] rfl rfl ?_
                refine TL.q rfl .u (Ex.ixS (k := k4) rfl rfl rfl Try.runUnderlying22 Try.sizeOf46 (List.getElem?_eq_some_iff.1 hx14).1) rfl ?_
                refine TL.run ft_cursitorref14_ok [4] rfl rfl ?_
                refine TL.q rfl .u (Ex.o1 1 rfl Try.isAgg44 z15nf z15cc rfl rfl) rfl ?_
                refine TL.q rfl .u (Ex.lenS rfl Try.runUnderlying44) rfl ?_
                refine TL.run ft_cursitorref14_ok [7] rfl rfl ?_
                by_cases c71 : (k63 : Int) < (x13.fParts.length : Int)
                · replace h := ifT c71 h
                  refine TL.nil (X.seq ?_)
                  refine T.yes rfl (decide_eq_true c71) ?_
                  refine T.skip (X.seq (T.seq (T.block (T.seq (T.region rfl ?_)))))
                  refine TL.run ft_cursitorref14_ok [0, 1] rfl rfl ?_
                  refine TL.q rfl .u (Ex.ixS (k := k4) rfl rfl rfl Try.runUnderlying22 Try.sizeOf46 (List.getElem?_eq_some_iff.1 hx14).1) rfl ?_
                  refine TL.run ft_cursitorref14_ok [3] rfl rfl ?_
                  refine TL.q rfl .u (Ex.o1 1 rfl Try.isAgg44 z15nf z15cc rfl rfl) rfl ?_
                  obtain ⟨x72, hx73, h⟩ := Option.bind_eq_some_iff.1 h
                  obtain ⟨gz74, oz74, rfl, z74cs, z74cl, z74cc, z74nf, z74r⟩ := RX.elem (by decide) hX18 hx73
                  obtain ⟨z74S, z74r, z74rr⟩ := z74r
                  obtain rfl : z74cs = [.int .i64 x72] := z74r
                  refine TL.run ft_cursitorref14_ok [5] rfl rfl ?_
                  refine TL.q rfl .u (Ex.ixS (k := k63) rfl rfl rfl Try.runUnderlying44 Try.sizeOf3 (List.getElem?_eq_some_iff.1 hx73).1) rfl ?_
                  refine TL.q rfl .u (Ex.o1 0 rfl Try.isAgg3 z74nf z74cc rfl rfl) rfl ?_
                  refine TL.run ft_cursitorref14_ok [8] rfl rfl ?_
                  refine TL.nil (X.seq (T.seq (T.region rfl ?_)))
                  by_cases c75 : x72 < 0
                  · replace h := ifT c75 h
                    refine TL.run ft_cursitorref14_ok [0, 1, 2] rfl rfl ?_
                    refine TL.hv 74 rfl (decide_eq_true c75) ?_
                    refine TL.rw ft_cursitorref14_ok 20 rfl ?_
                    refine TL.nil (X.seq ?_)
                    refine T.yes rfl rfl ?_
                    refine T.seq (T.region rfl ?_)
                    refine TL.run ft_cursitorref14_ok [0] rfl rfl ?_
                    obtain rfl := Option.some.inj h
                    replace h := hO66
                    clear hO66
                    try dsimp only at h
                    obtain rfl := Option.some.inj h
                    replace h := hO7
                    clear hO7
                    try dsimp only at h
                    obtain rfl := Option.some.inj h
                    exact TL.nil (X.seq (T.ret (X.rb (X.rs (X.rs (X.rb (X.rb (X.rs (X.rs (X.rb (X.rs (X.done1 [0] Try.results33 (RV.tm rfl) ⟨rfl, rfl, rfl⟩ (by rfl) (.inl rfl)))))))))))))
                  · replace h := ifF c75 h
                    refine TL.run ft_cursitorref14_ok [0, 1, 2] rfl rfl ?_
                    refine TL.hv 74 rfl (decide_eq_false c75) ?_
                    by_cases c76 : x72 > 2147483647
                    · replace h := ifT c76 h
                      refine TL.rw ft_cursitorref14_ok 4 rfl ?_
                      refine TL.hv 78 rfl (decide_eq_true c76) ?_
                      refine TL.rw ft_cursitorref14_ok 16 rfl ?_
                      refine TL.nil (X.seq ?_)
                      refine T.yes rfl rfl ?_
                      refine T.seq (T.region rfl ?_)
                      refine TL.run ft_cursitorref14_ok [0] rfl rfl ?_
                      obtain rfl := Option.some.inj h
                      replace h := hO66
                      clear hO66
                      try dsimp only at h
                      obtain rfl := Option.some.inj h
                      replace h := hO7
                      clear hO7
                      try dsimp only at h
                      obtain rfl := Option.some.inj h
                      exact TL.nil (X.seq (T.ret (X.rb (X.rs (X.rs (X.rb (X.rb (X.rs (X.rs (X.rb (X.rs (X.done1 [0] Try.results33 (RV.tm rfl) ⟨rfl, rfl, rfl⟩ (by rfl) (.inl rfl)))))))))))))
                    · replace h := ifF c76 h
                      refine TL.rw ft_cursitorref14_ok 4 rfl ?_
                      refine TL.hv 78 rfl (decide_eq_false c76) ?_
                      by_cases c77 : (k63 : Int) > 0
                      · replace h := ifT c77 h
                        refine TL.rw ft_cursitorref14_ok 3 rfl ?_
                        refine TL.hv 81 rfl (decide_eq_true c77) ?_
                        refine TL.rw ft_cursitorref14_ok 2 rfl ?_
                        refine TL.q rfl (.g rfl rfl rfl) (Ex.ixS (k := k4) rfl rfl rfl Try.runUnderlying22 Try.sizeOf46 (List.getElem?_eq_some_iff.1 hx14).1) rfl ?_
                        refine TL.rw ft_cursitorref14_ok 1 rfl ?_
                        refine TL.q rfl (.g rfl rfl rfl) (Ex.o1 1 rfl Try.isAgg44 z15nf z15cc rfl rfl) rfl ?_
                        replace h := guard_some h
                        obtain ⟨c78, h⟩ := h
                        refine TL.rw ft_cursitorref14_ok 1 rfl ?_
                        refine TL.q rfl (.g rfl rfl rfl) (Ex.sub rfl rfl c78) rfl ?_
                        replace h := guard_some h
                        obtain ⟨c79, h⟩ := h
                        obtain ⟨x80, hx81, h⟩ := Option.bind_eq_some_iff.1 h
                        obtain ⟨z82cs, z82cl, z82cc, z82nf, z82r⟩ := RX.elem' (by decide) hX18 hx81
                        obtain ⟨z82S, z82r, z82rr⟩ := z82r
                        obtain rfl : z82cs = [.int .i64 x80] := z82r
                        refine TL.q rfl (.g rfl rfl rfl) (Ex.ixS (k := ((k63 : Int) - 1).toNat) rfl rfl ((Int.toNat_of_nonneg c79).symm) Try.runUnderlying44 Try.sizeOf3 (List.getElem?_eq_some_iff.1 hx81).1) rfl ?_
                        refine TL.q rfl (.g rfl rfl rfl) (Ex.o1 0 rfl Try.isAgg3 z82nf z82cc rfl rfl) rfl ?_
                        refine TL.rw ft_cursitorref14_ok 4 rfl ?_
                        by_cases c83 : x80 ≥ x72
                        · replace h := ifT c83 h
                          refine TL.nil (X.seq ?_)
                          refine T.yes rfl (decide_eq_true c83) ?_
                          refine T.seq (T.region rfl ?_)
                          refine TL.run ft_cursitorref14_ok [0] rfl rfl ?_
                          obtain rfl := Option.some.inj h
                          replace h := hO66
                          clear hO66
                          try dsimp only at h
                          obtain rfl := Option.some.inj h
                          replace h := hO7
                          clear hO7
                          try dsimp only at h
                          obtain rfl := Option.some.inj h
                          exact TL.nil (X.seq (T.ret (X.rb (X.rs (X.rs (X.rb (X.rb (X.rs (X.rs (X.rb (X.rs (X.done1 [0] Try.results33 (RV.tm rfl) ⟨rfl, rfl, rfl⟩ (by rfl) (.inl rfl)))))))))))))
                        · replace h := ifF c83 h
                          refine TL.nil (X.seq ?_)
                          refine T.no rfl (decide_eq_false c83) ?_
                          refine T.skip (X.blk (X.seq (T.region rfl ?_)))
                          replace h := guard_some h
                          obtain ⟨c84, h⟩ := h
                          refine TL.run ft_cursitorref14_ok [0] rfl rfl ?_
                          refine TL.q rfl .u (Ex.add rfl rfl c84) rfl ?_
                          refine TL.run ft_cursitorref14_ok [2] rfl rfl ?_
                          exact TL.nil (X.back (m' := m67) [0] (by omega) ⟨y62, k63 + 1, rfl, rfl, h⟩ (by rfl) (by rfl))
                      · replace h := ifF c77 h
                        refine TL.rw ft_cursitorref14_ok 3 rfl ?_
                        refine TL.hv 81 rfl (decide_eq_false c77) ?_
                        refine TL.rw ft_cursitorref14_ok 13 rfl ?_
                        refine TL.nil (X.seq ?_)
                        refine T.no rfl rfl ?_
                        refine T.skip (X.blk (X.seq (T.region rfl ?_)))
                        replace h := guard_some h
                        obtain ⟨c85, h⟩ := h
                        refine TL.run ft_cursitorref14_ok [0] rfl rfl ?_
                        refine TL.q rfl .u (Ex.add rfl rfl c85) rfl ?_
                        refine TL.run ft_cursitorref14_ok [2] rfl rfl ?_
                        exact TL.nil (X.back (m' := m67) [0] (by omega) ⟨y62, k63 + 1, rfl, rfl, h⟩ (by rfl) (by rfl))
                · replace h := ifF c71 h
                  refine TL.nil (X.seq ?_)
                  refine T.no rfl (decide_eq_false c71) ?_
                  obtain rfl := Option.some.inj h
                  replace h := hO66
                  clear hO66
                  try dsimp only at h
                  refine T.exit (X.exs (X.exs (X.ex (X.blk (X.seq (T.region rfl ?_))))))
                  replace h := guard_some h
                  obtain ⟨c86, h⟩ := h
                  refine TL.run ft_cursitorref14_ok [0] rfl rfl ?_
                  refine TL.q rfl .u (Ex.add rfl rfl c86) rfl ?_
                  refine TL.run ft_cursitorref14_ok [2] rfl rfl ?_
                  exact TL.nil (X.back (m' := m8) [0] (by omega) ⟨y62, k4 + 1, rfl, rfl, h⟩ (by rfl) (by rfl))
    · replace h := ifF c12 h
      refine TL.nil (X.seq ?_)
      refine T.no rfl (decide_eq_false c12) ?_
      obtain rfl := Option.some.inj h
      replace h := hO7
      clear hO7
      try dsimp only at h
      refine T.exit (X.exs (X.exs (X.ex (X.seq (T.seq (T.region rfl ?_))))))
      refine TL.run ft_cursitorref14_ok [0] rfl rfl ?_
      obtain rfl := Option.some.inj h
      exact TL.nil (X.seq (T.ret (X.done1 [0] Try.results33 (RV.tm rfl) ⟨rfl, rfl, rfl⟩ (by rfl) (.inl rfl))))
def f_r14_Check (a0 : Val) : Option (Int) := if a0.fProducer < 0 then some 11 else (if a0.fEpoch < 0 then some 11 else (if a0.fEpoch > 32767 then some 11 else (if a0.fTimeout < 0 then some 11 else (if a0.fTimeout > 2147483647 then some 11 else (if a0.fUpdated < 0 then some 11 else (if a0.fStarted < (-1) then some 11 else (if a0.fState < 0 then some 12 else (if a0.fState > 6 then some 12 else (if a0.fState ≥ 1 then (if a0.fState ≤ 3 then (if (a0.fTopics.length : Int) = 0 then some 10 else (if a0.fState = 0 then (if a0.fStarted = (-1) then (if a0.fState > 0 then some 10 else ((f_r14_Rise a0.fTopics).bind fun x19 => if x19 = true then some 0 else some 13)) else some 10) else (if a0.fState > 0 then (if a0.fStarted = (-1) then some 10 else ((f_r14_Rise a0.fTopics).bind fun x24 => if x24 = true then some 0 else some 13)) else ((f_r14_Rise a0.fTopics).bind fun x27 => if x27 = true then some 0 else some 13)))) else (if (a0.fTopics.length : Int) > 0 then some 10 else (if a0.fState = 0 then (if a0.fStarted = (-1) then (if a0.fState > 0 then some 10 else ((f_r14_Rise a0.fTopics).bind fun x34 => if x34 = true then some 0 else some 13)) else some 10) else (if a0.fState > 0 then (if a0.fStarted = (-1) then some 10 else ((f_r14_Rise a0.fTopics).bind fun x39 => if x39 = true then some 0 else some 13)) else ((f_r14_Rise a0.fTopics).bind fun x42 => if x42 = true then some 0 else some 13))))) else (if (a0.fTopics.length : Int) > 0 then some 10 else (if a0.fState = 0 then (if a0.fStarted = (-1) then (if a0.fState > 0 then some 10 else ((f_r14_Rise a0.fTopics).bind fun x49 => if x49 = true then some 0 else some 13)) else some 10) else (if a0.fState > 0 then (if a0.fStarted = (-1) then some 10 else ((f_r14_Rise a0.fTopics).bind fun x54 => if x54 = true then some 0 else some 13)) else ((f_r14_Rise a0.fTopics).bind fun x57 => if x57 = true then some 0 else some 13)))))))))))))
set_option maxRecDepth 100000 in
set_option maxHeartbeats 4000000 in
theorem f_r14_Check_spec (a0 : Val) (A1 : Option Addr) (c2 : Nat) (r : Int) (h : f_r14_Check a0 = some r) : SpecX Try.prog 11 #[.agg #[.int .i64 a0.fProducer, .int .i64 a0.fEpoch, .int .i64 a0.fTimeout, .int .i64 a0.fState, .slice A1 a0.fTopics.length c2, .int .i64 a0.fUpdated, .int .i64 a0.fStarted]] (RX.of (sliceRd 2 Top_rd) [.slice A1 a0.fTopics.length c2] a0.fTopics) (EmpR) (fun v A' N => v = .int .i64 r ∧ A' = EmpR ∧ N = []) := by
  refine enterA Try.func11 rfl Try.ntmps11 rfl ?_
  intro F w hX
  unfold f_r14_Check at h
  refine T.seq (T.region rfl ?_)
  refine TL.box rfl .u rfl rfl (fun b3 => ?_)
  refine TL.run ft_cursitorref14_ok [1] rfl rfl ?_
  refine TL.nil (X.seq (T.seq (T.seq (T.region rfl ?_))))
  by_cases c4 : a0.fProducer < 0
  · replace h := ifT c4 h
    refine TL.rb ft_cursitorref14_ok nt_cursitorref14_ok 0 rfl 4 rfl rfl ?_
    refine TL.hv 7 rfl (decide_eq_true c4) ?_
    refine TL.rw ft_cursitorref14_ok 29 rfl ?_
    refine TL.nil (X.seq ?_)
    refine T.yes rfl rfl ?_
    refine T.seq (T.region rfl ?_)
    refine TL.run ft_cursitorref14_ok [0] rfl rfl ?_
    obtain rfl := Option.some.inj h
    exact TL.nil (X.seq (T.ret (X.rs (X.done1 [1] Try.results11 (RV.tm rfl) ⟨rfl, rfl, rfl⟩ (by rfl) (.inl rfl)))))
  · replace h := ifF c4 h
    refine TL.rb ft_cursitorref14_ok nt_cursitorref14_ok 0 rfl 4 rfl rfl ?_
    refine TL.hv 7 rfl (decide_eq_false c4) ?_
    by_cases c5 : a0.fEpoch < 0
    · replace h := ifT c5 h
      refine TL.rb ft_cursitorref14_ok nt_cursitorref14_ok 0 rfl 5 rfl rfl ?_
      refine TL.hv 12 rfl (decide_eq_true c5) ?_
      refine TL.rw ft_cursitorref14_ok 24 rfl ?_
      refine TL.nil (X.seq ?_)
      refine T.yes rfl rfl ?_
      refine T.seq (T.region rfl ?_)
      refine TL.run ft_cursitorref14_ok [0] rfl rfl ?_
      obtain rfl := Option.some.inj h
      exact TL.nil (X.seq (T.ret (X.rs (X.done1 [1] Try.results11 (RV.tm rfl) ⟨rfl, rfl, rfl⟩ (by rfl) (.inl rfl)))))
    · replace h := ifF c5 h
      refine TL.rb ft_cursitorref14_ok nt_cursitorref14_ok 0 rfl 5 rfl rfl ?_
      refine TL.hv 12 rfl (decide_eq_false c5) ?_
      by_cases c6 : a0.fEpoch > 32767
      · replace h := ifT c6 h
        refine TL.rb ft_cursitorref14_ok nt_cursitorref14_ok 0 rfl 5 rfl rfl ?_
        refine TL.hv 17 rfl (decide_eq_true c6) ?_
        refine TL.rw ft_cursitorref14_ok 19 rfl ?_
        refine TL.nil (X.seq ?_)
        refine T.yes rfl rfl ?_
        refine T.seq (T.region rfl ?_)
        refine TL.run ft_cursitorref14_ok [0] rfl rfl ?_
        obtain rfl := Option.some.inj h
        exact TL.nil (X.seq (T.ret (X.rs (X.done1 [1] Try.results11 (RV.tm rfl) ⟨rfl, rfl, rfl⟩ (by rfl) (.inl rfl)))))
      · replace h := ifF c6 h
        refine TL.rb ft_cursitorref14_ok nt_cursitorref14_ok 0 rfl 5 rfl rfl ?_
        refine TL.hv 17 rfl (decide_eq_false c6) ?_
        by_cases c7 : a0.fTimeout < 0
        · replace h := ifT c7 h
          refine TL.rb ft_cursitorref14_ok nt_cursitorref14_ok 0 rfl 5 rfl rfl ?_
          refine TL.hv 22 rfl (decide_eq_true c7) ?_
          refine TL.rw ft_cursitorref14_ok 14 rfl ?_
          refine TL.nil (X.seq ?_)
          refine T.yes rfl rfl ?_
          refine T.seq (T.region rfl ?_)
          refine TL.run ft_cursitorref14_ok [0] rfl rfl ?_
          obtain rfl := Option.some.inj h
          exact TL.nil (X.seq (T.ret (X.rs (X.done1 [1] Try.results11 (RV.tm rfl) ⟨rfl, rfl, rfl⟩ (by rfl) (.inl rfl)))))
        · replace h := ifF c7 h
          refine TL.rb ft_cursitorref14_ok nt_cursitorref14_ok 0 rfl 5 rfl rfl ?_
          refine TL.hv 22 rfl (decide_eq_false c7) ?_
          by_cases c8 : a0.fTimeout > 2147483647
          · replace h := ifT c8 h
            refine TL.rb ft_cursitorref14_ok nt_cursitorref14_ok 0 rfl 5 rfl rfl ?_
            refine TL.hv 27 rfl (decide_eq_true c8) ?_
            refine TL.rw ft_cursitorref14_ok 9 rfl ?_
            refine TL.nil (X.seq ?_)
            refine T.yes rfl rfl ?_
            refine T.seq (T.region rfl ?_)
            refine TL.run ft_cursitorref14_ok [0] rfl rfl ?_
            obtain rfl := Option.some.inj h
            exact TL.nil (X.seq (T.ret (X.rs (X.done1 [1] Try.results11 (RV.tm rfl) ⟨rfl, rfl, rfl⟩ (by rfl) (.inl rfl)))))
          · replace h := ifF c8 h
            refine TL.rb ft_cursitorref14_ok nt_cursitorref14_ok 0 rfl 5 rfl rfl ?_
            refine TL.hv 27 rfl (decide_eq_false c8) ?_
            by_cases c9 : a0.fUpdated < 0
            · replace h := ifT c9 h
              refine TL.rb ft_cursitorref14_ok nt_cursitorref14_ok 0 rfl 5 rfl rfl ?_
              refine TL.hv 32 rfl (decide_eq_true c9) ?_
              refine TL.rw ft_cursitorref14_ok 4 rfl ?_
              refine TL.nil (X.seq ?_)
              refine T.yes rfl rfl ?_
              refine T.seq (T.region rfl ?_)
              refine TL.run ft_cursitorref14_ok [0] rfl rfl ?_
              obtain rfl := Option.some.inj h
              exact TL.nil (X.seq (T.ret (X.rs (X.done1 [1] Try.results11 (RV.tm rfl) ⟨rfl, rfl, rfl⟩ (by rfl) (.inl rfl)))))
            · replace h := ifF c9 h
              refine TL.rb ft_cursitorref14_ok nt_cursitorref14_ok 0 rfl 5 rfl rfl ?_
              refine TL.hv 32 rfl (decide_eq_false c9) ?_
              refine TL.rb ft_cursitorref14_ok nt_cursitorref14_ok 0 rfl 4 rfl rfl ?_
              by_cases c10 : a0.fStarted < (-1)
              · replace h := ifT c10 h
                refine TL.nil (X.seq ?_)
                refine T.yes rfl (decide_eq_true c10) ?_
                refine T.seq (T.region rfl ?_)
                refine TL.run ft_cursitorref14_ok [0] rfl rfl ?_
                obtain rfl := Option.some.inj h
                exact TL.nil (X.seq (T.ret (X.rs (X.done1 [1] Try.results11 (RV.tm rfl) ⟨rfl, rfl, rfl⟩ (by rfl) (.inl rfl)))))
              · replace h := ifF c10 h
                refine TL.nil (X.seq ?_)
                refine T.no rfl (decide_eq_false c10) ?_
                refine T.skip (X.seq (T.seq (T.seq (T.region rfl ?_))))
                by_cases c11 : a0.fState < 0
                · replace h := ifT c11 h
                  refine TL.rb ft_cursitorref14_ok nt_cursitorref14_ok 0 rfl 4 rfl rfl ?_
                  refine TL.hv 40 rfl (decide_eq_true c11) ?_
                  refine TL.rw ft_cursitorref14_ok 4 rfl ?_
                  refine TL.nil (X.seq ?_)
                  refine T.yes rfl rfl ?_
                  refine T.seq (T.region rfl ?_)
                  refine TL.run ft_cursitorref14_ok [0] rfl rfl ?_
                  obtain rfl := Option.some.inj h
                  exact TL.nil (X.seq (T.ret (X.rs (X.done1 [1] Try.results11 (RV.tm rfl) ⟨rfl, rfl, rfl⟩ (by rfl) (.inl rfl)))))
                · replace h := ifF c11 h
                  refine TL.rb ft_cursitorref14_ok nt_cursitorref14_ok 0 rfl 4 rfl rfl ?_
                  refine TL.hv 40 rfl (decide_eq_false c11) ?_
                  refine TL.rb ft_cursitorref14_ok nt_cursitorref14_ok 0 rfl 4 rfl rfl ?_
                  by_cases c12 : a0.fState > 6
                  · replace h := ifT c12 h
                    refine TL.nil (X.seq ?_)
                    refine T.yes rfl (decide_eq_true c12) ?_
                    refine T.seq (T.region rfl ?_)
                    refine TL.run ft_cursitorref14_ok [0] rfl rfl ?_
                    obtain rfl := Option.some.inj h
                    exact TL.nil (X.seq (T.ret (X.rs (X.done1 [1] Try.results11 (RV.tm rfl) ⟨rfl, rfl, rfl⟩ (by rfl) (.inl rfl)))))
                  · replace h := ifF c12 h
                    refine TL.nil (X.seq ?_)
                    refine T.no rfl (decide_eq_false c12) ?_
                    refine T.skip (X.seq (T.seq (T.region rfl ?_)))
                    by_cases c13 : a0.fState ≥ 1
                    · replace h := ifT c13 h
                      refine TL.rb ft_cursitorref14_ok nt_cursitorref14_ok 0 rfl 4 rfl rfl ?_
                      refine TL.hv 48 rfl (decide_eq_true c13) ?_
                      refine TL.rb ft_cursitorref14_ok nt_cursitorref14_ok 0 rfl 5 rfl rfl ?_
                      refine TL.nil (X.seq (T.seq (T.seq (T.region rfl ?_))))
                      by_cases c14 : a0.fState ≤ 3
                      · replace h := ifT c14 h
                        refine TL.run ft_cursitorref14_ok [0, 1] rfl rfl ?_
                        refine TL.hv 54 rfl (decide_eq_true c14) ?_
                        refine TL.rb ft_cursitorref14_ok nt_cursitorref14_ok 0 rfl 2 rfl rfl ?_
                        refine TL.q rfl (.g rfl rfl rfl) (Ex.lenS rfl Try.runUnderlying22) rfl ?_
                        by_cases c15 : (a0.fTopics.length : Int) = 0
                        · replace h := ifT c15 h
                          refine TL.rw ft_cursitorref14_ok 3 rfl ?_
                          refine TL.hv 60 rfl (decide_eq_true c15) ?_
                          refine TL.rw ft_cursitorref14_ok 29 rfl ?_
                          refine TL.nil (X.seq ?_)
                          refine T.yes rfl rfl ?_
                          refine T.seq (T.region rfl ?_)
                          refine TL.run ft_cursitorref14_ok [0] rfl rfl ?_
                          obtain rfl := Option.some.inj h
                          exact TL.nil (X.seq (T.ret (X.rs (X.done1 [1] Try.results11 (RV.tm rfl) ⟨rfl, rfl, rfl⟩ (by rfl) (.inl rfl)))))
                        · replace h := ifF c15 h
                          refine TL.rw ft_cursitorref14_ok 3 rfl ?_
                          refine TL.hv 60 rfl (decide_eq_false c15) ?_
                          refine TL.rw ft_cursitorref14_ok 3 rfl ?_
                          refine TL.hv 63 rfl (bn_f (decide_eq_true c14)) ?_
                          by_cases c16 : a0.fState = 0
                          · replace h := ifT c16 h
                            refine TL.rb ft_cursitorref14_ok nt_cursitorref14_ok 0 rfl 11 rfl rfl ?_
                            refine TL.hv 74 rfl (decide_eq_true c16) ?_
                            by_cases c17 : a0.fStarted = (-1)
                            · replace h := ifT c17 h
                              refine TL.rb ft_cursitorref14_ok nt_cursitorref14_ok 0 rfl 6 rfl rfl ?_
                              refine TL.hv 80 rfl (bn_f (decide_eq_true c17)) ?_
                              by_cases c18 : a0.fState > 0
                              · replace h := ifT c18 h
                                refine TL.rb ft_cursitorref14_ok nt_cursitorref14_ok 0 rfl 4 rfl rfl ?_
                                refine TL.hv 84 rfl (decide_eq_true c18) ?_
                                refine TL.rb ft_cursitorref14_ok nt_cursitorref14_ok 0 rfl 5 rfl rfl ?_
                                refine TL.nil (X.seq ?_)
                                refine T.yes rfl (decide_eq_true c17) ?_
                                refine T.seq (T.region rfl ?_)
                                refine TL.run ft_cursitorref14_ok [0] rfl rfl ?_
                                obtain rfl := Option.some.inj h
                                exact TL.nil (X.seq (T.ret (X.rs (X.done1 [1] Try.results11 (RV.tm rfl) ⟨rfl, rfl, rfl⟩ (by rfl) (.inl rfl)))))
                              · replace h := ifF c18 h
                                refine TL.rb ft_cursitorref14_ok nt_cursitorref14_ok 0 rfl 4 rfl rfl ?_
                                refine TL.hv 84 rfl (decide_eq_false c18) ?_
                                refine TL.rw ft_cursitorref14_ok 5 rfl ?_
                                refine TL.nil (X.seq ?_)
                                refine T.no rfl rfl ?_
                                refine T.skip (X.seq (T.seq (T.seq (T.region rfl ?_))))
                                obtain ⟨x19, hx20, h⟩ := Option.bind_eq_some_iff.1 h
                                refine TL.rb ft_cursitorref14_ok nt_cursitorref14_ok 0 rfl 2 rfl rfl ?_
                                refine TL.ce rfl .u (.fn Try.call33 rfl) (f_r14_Rise_spec a0.fTopics _ _ _ hx20) (fun _ hs => (SrcE.old hs hX)) rfl ?_
                                refine TL.run ft_cursitorref14_ok [3] rfl rfl ?_
                                by_cases c21 : x19 = true
                                · replace h := ifT c21 h
                                  refine TL.nil (X.seq ?_)
                                  refine T.no rfl (bn_f c21) ?_
                                  refine T.skip (X.seq (T.seq (T.region rfl ?_)))
                                  refine TL.run ft_cursitorref14_ok [0] rfl rfl ?_
                                  obtain rfl := Option.some.inj h
                                  exact TL.nil (X.seq (T.ret (X.done1 [1] Try.results11 (RV.tm rfl) ⟨rfl, rfl, rfl⟩ (by rfl) (.inl rfl))))
                                · replace h := ifF c21 h
                                  replace c21 := eq_false_of_ne_true c21
                                  refine TL.nil (X.seq ?_)
                                  refine T.yes rfl (bn_t c21) ?_
                                  refine T.seq (T.region rfl ?_)
                                  refine TL.run ft_cursitorref14_ok [0] rfl rfl ?_
                                  obtain rfl := Option.some.inj h
                                  exact TL.nil (X.seq (T.ret (X.rs (X.done1 [1] Try.results11 (RV.tm rfl) ⟨rfl, rfl, rfl⟩ (by rfl) (.inl rfl)))))
                            · replace h := ifF c17 h
                              refine TL.rb ft_cursitorref14_ok nt_cursitorref14_ok 0 rfl 6 rfl rfl ?_
                              refine TL.hv 80 rfl (bn_t (decide_eq_false c17)) ?_
                              refine TL.rw ft_cursitorref14_ok 9 rfl ?_
                              refine TL.nil (X.seq ?_)
                              refine T.yes rfl rfl ?_
                              refine T.seq (T.region rfl ?_)
                              refine TL.run ft_cursitorref14_ok [0] rfl rfl ?_
                              obtain rfl := Option.some.inj h
                              exact TL.nil (X.seq (T.ret (X.rs (X.done1 [1] Try.results11 (RV.tm rfl) ⟨rfl, rfl, rfl⟩ (by rfl) (.inl rfl)))))
                          · replace h := ifF c16 h
                            refine TL.rb ft_cursitorref14_ok nt_cursitorref14_ok 0 rfl 11 rfl rfl ?_
                            refine TL.hv 74 rfl (decide_eq_false c16) ?_
                            by_cases c22 : a0.fState > 0
                            · replace h := ifT c22 h
                              refine TL.rb ft_cursitorref14_ok nt_cursitorref14_ok 0 rfl 10 rfl rfl ?_
                              refine TL.hv 84 rfl (decide_eq_true c22) ?_
                              refine TL.rb ft_cursitorref14_ok nt_cursitorref14_ok 0 rfl 5 rfl rfl ?_
                              by_cases c23 : a0.fStarted = (-1)
                              · replace h := ifT c23 h
                                refine TL.nil (X.seq ?_)
                                refine T.yes rfl (decide_eq_true c23) ?_
                                refine T.seq (T.region rfl ?_)
                                refine TL.run ft_cursitorref14_ok [0] rfl rfl ?_
                                obtain rfl := Option.some.inj h
                                exact TL.nil (X.seq (T.ret (X.rs (X.done1 [1] Try.results11 (RV.tm rfl) ⟨rfl, rfl, rfl⟩ (by rfl) (.inl rfl)))))
                              · replace h := ifF c23 h
                                refine TL.nil (X.seq ?_)
                                refine T.no rfl (decide_eq_false c23) ?_
                                refine T.skip (X.seq (T.seq (T.seq (T.region rfl ?_))))
                                obtain ⟨x24, hx25, h⟩ := Option.bind_eq_some_iff.1 h
                                refine TL.rb ft_cursitorref14_ok nt_cursitorref14_ok 0 rfl 2 rfl rfl ?_
                                refine TL.ce rfl .u (.fn Try.call33 rfl) (f_r14_Rise_spec a0.fTopics _ _ _ hx25) (fun _ hs => (SrcE.old hs hX)) rfl ?_
                                refine TL.run ft_cursitorref14_ok [3] rfl rfl ?_
                                by_cases c26 : x24 = true
                                · replace h := ifT c26 h
                                  refine TL.nil (X.seq ?_)
                                  refine T.no rfl (bn_f c26) ?_
                                  refine T.skip (X.seq (T.seq (T.region rfl ?_)))
                                  refine TL.run ft_cursitorref14_ok [0] rfl rfl ?_
                                  obtain rfl := Option.some.inj h
                                  exact TL.nil (X.seq (T.ret (X.done1 [1] Try.results11 (RV.tm rfl) ⟨rfl, rfl, rfl⟩ (by rfl) (.inl rfl))))
                                · replace h := ifF c26 h
                                  replace c26 := eq_false_of_ne_true c26
                                  refine TL.nil (X.seq ?_)
                                  refine T.yes rfl (bn_t c26) ?_
                                  refine T.seq (T.region rfl ?_)
                                  refine TL.run ft_cursitorref14_ok [0] rfl rfl ?_
                                  obtain rfl := Option.some.inj h
                                  exact TL.nil (X.seq (T.ret (X.rs (X.done1 [1] Try.results11 (RV.tm rfl) ⟨rfl, rfl, rfl⟩ (by rfl) (.inl rfl)))))
                            · replace h := ifF c22 h
                              refine TL.rb ft_cursitorref14_ok nt_cursitorref14_ok 0 rfl 10 rfl rfl ?_
                              refine TL.hv 84 rfl (decide_eq_false c22) ?_
                              refine TL.rw ft_cursitorref14_ok 5 rfl ?_
                              refine TL.nil (X.seq ?_)
                              refine T.no rfl rfl ?_
                              refine T.skip (X.seq (T.seq (T.seq (T.region rfl ?_))))
                              obtain ⟨x27, hx28, h⟩ := Option.bind_eq_some_iff.1 h
                              refine TL.rb ft_cursitorref14_ok nt_cursitorref14_ok 0 rfl 2 rfl rfl ?_
                              refine TL.ce rfl .u (.fn Try.call33 rfl) (f_r14_Rise_spec a0.fTopics _ _ _ hx28) (fun _ hs => (SrcE.old hs hX)) rfl ?_
                              refine TL.run ft_cursitorref14_ok [3] rfl rfl ?_
                              by_cases c29 : x27 = true
                              · replace h := ifT c29 h
                                refine TL.nil (X.seq ?_)
                                refine T.no rfl (bn_f c29) ?_
                                refine T.skip (X.seq (T.seq (T.region rfl ?_)))
                                refine TL.run ft_cursitorref14_ok [0] rfl rfl ?_
                                obtain rfl := Option.some.inj h
                                exact TL.nil (X.seq (T.ret (X.done1 [1] Try.results11 (RV.tm rfl) ⟨rfl, rfl, rfl⟩ (by rfl) (.inl rfl))))
                              · replace h := ifF c29 h
                                replace c29 := eq_false_of_ne_true c29
                                refine TL.nil (X.seq ?_)
                                refine T.yes rfl (bn_t c29) ?_
                                refine T.seq (T.region rfl ?_)
                                refine TL.run ft_cursitorref14_ok [0] rfl rfl ?_
                                obtain rfl := Option.some.inj h
                                exact TL.nil (X.seq (T.ret (X.rs (X.done1 [1] Try.results11 (RV.tm rfl) ⟨rfl, rfl, rfl⟩ (by rfl) (.inl rfl)))))
                      · replace h := ifF c14 h
                        refine TL.run ft_cursitorref14_ok [0, 1] rfl rfl ?_
                        refine TL.hv 54 rfl (decide_eq_false c14) ?_
                        refine TL.rw ft_cursitorref14_ok 9 rfl ?_
                        refine TL.hv 63 rfl (bn_t (decide_eq_false c14)) ?_
                        refine TL.rb ft_cursitorref14_ok nt_cursitorref14_ok 0 rfl 2 rfl rfl ?_
                        refine TL.q rfl (.g rfl rfl rfl) (Ex.lenS rfl Try.runUnderlying22) rfl ?_
                        by_cases c30 : (a0.fTopics.length : Int) > 0
                        · replace h := ifT c30 h
                          refine TL.rw ft_cursitorref14_ok 4 rfl ?_
                          refine TL.hv 70 rfl (decide_eq_true c30) ?_
                          refine TL.rw ft_cursitorref14_ok 19 rfl ?_
                          refine TL.nil (X.seq ?_)
                          refine T.yes rfl rfl ?_
                          refine T.seq (T.region rfl ?_)
                          refine TL.run ft_cursitorref14_ok [0] rfl rfl ?_
                          obtain rfl := Option.some.inj h
                          exact TL.nil (X.seq (T.ret (X.rs (X.done1 [1] Try.results11 (RV.tm rfl) ⟨rfl, rfl, rfl⟩ (by rfl) (.inl rfl)))))
                        · replace h := ifF c30 h
                          refine TL.rw ft_cursitorref14_ok 4 rfl ?_
                          refine TL.hv 70 rfl (decide_eq_false c30) ?_
                          by_cases c31 : a0.fState = 0
                          · replace h := ifT c31 h
                            refine TL.rb ft_cursitorref14_ok nt_cursitorref14_ok 0 rfl 4 rfl rfl ?_
                            refine TL.hv 74 rfl (decide_eq_true c31) ?_
                            by_cases c32 : a0.fStarted = (-1)
                            · replace h := ifT c32 h
                              refine TL.rb ft_cursitorref14_ok nt_cursitorref14_ok 0 rfl 6 rfl rfl ?_
                              refine TL.hv 80 rfl (bn_f (decide_eq_true c32)) ?_
                              by_cases c33 : a0.fState > 0
                              · replace h := ifT c33 h
                                refine TL.rb ft_cursitorref14_ok nt_cursitorref14_ok 0 rfl 4 rfl rfl ?_
                                refine TL.hv 84 rfl (decide_eq_true c33) ?_
                                refine TL.rb ft_cursitorref14_ok nt_cursitorref14_ok 0 rfl 5 rfl rfl ?_
                                refine TL.nil (X.seq ?_)
                                refine T.yes rfl (decide_eq_true c32) ?_
                                refine T.seq (T.region rfl ?_)
                                refine TL.run ft_cursitorref14_ok [0] rfl rfl ?_
                                obtain rfl := Option.some.inj h
                                exact TL.nil (X.seq (T.ret (X.rs (X.done1 [1] Try.results11 (RV.tm rfl) ⟨rfl, rfl, rfl⟩ (by rfl) (.inl rfl)))))
                              · replace h := ifF c33 h
                                refine TL.rb ft_cursitorref14_ok nt_cursitorref14_ok 0 rfl 4 rfl rfl ?_
                                refine TL.hv 84 rfl (decide_eq_false c33) ?_
                                refine TL.rw ft_cursitorref14_ok 5 rfl ?_
                                refine TL.nil (X.seq ?_)
                                refine T.no rfl rfl ?_
                                refine T.skip (X.seq (T.seq (T.seq (T.region rfl ?_))))
                                obtain ⟨x34, hx35, h⟩ := Option.bind_eq_some_iff.1 h
                                refine TL.rb ft_cursitorref14_ok nt_cursitorref14_ok 0 rfl 2 rfl rfl ?_
                                refine TL.ce rfl .u (.fn Try.call33 rfl) (f_r14_Rise_spec a0.fTopics _ _ _ hx35) (fun _ hs => (SrcE.old hs hX)) rfl ?_
                                refine TL.run ft_cursitorref14_ok [3] rfl rfl ?_
                                by_cases c36 : x34 = true
                                · replace h := ifT c36 h
                                  refine TL.nil (X.seq ?_)
                                  refine T.no rfl (bn_f c36) ?_
                                  refine T.skip (X.seq (T.seq (T.region rfl ?_)))
                                  refine TL.run ft_cursitorref14_ok [0] rfl rfl ?_
                                  obtain rfl := Option.some.inj h
                                  exact TL.nil (X.seq (T.ret (X.done1 [1] Try.results11 (RV.tm rfl) ⟨rfl, rfl, rfl⟩ (by rfl) (.inl rfl))))
                                · replace h := ifF c36 h
                                  replace c36 := eq_false_of_ne_true c36
                                  refine TL.nil (X.seq ?_)
                                  refine T.yes rfl (bn_t c36) ?_
                                  refine T.seq (T.region rfl ?_)
                                  refine TL.run ft_cursitorref14_ok [0] rfl rfl ?_
                                  obtain rfl := Option.some.inj h
                                  exact TL.nil (X.seq (T.ret (X.rs (X.done1 [1] Try.results11 (RV.tm rfl) ⟨rfl, rfl, rfl⟩ (by rfl) (.inl rfl)))))
                            · replace h := ifF c32 h
                              refine TL.rb ft_cursitorref14_ok nt_cursitorref14_ok 0 rfl 6 rfl rfl ?_
                              refine TL.hv 80 rfl (bn_t (decide_eq_false c32)) ?_
                              refine TL.rw ft_cursitorref14_ok 9 rfl ?_
                              refine TL.nil (X.seq ?_)
                              refine T.yes rfl rfl ?_
                              refine T.seq (T.region rfl ?_)
                              refine TL.run ft_cursitorref14_ok [0] rfl rfl ?_
                              obtain rfl := Option.some.inj h
                              exact TL.nil (X.seq (T.ret (X.rs (X.done1 [1] Try.results11 (RV.tm rfl) ⟨rfl, rfl, rfl⟩ (by rfl) (.inl rfl)))))
                          · replace h := ifF c31 h
                            refine TL.rb ft_cursitorref14_ok nt_cursitorref14_ok 0 rfl 4 rfl rfl ?_
                            refine TL.hv 74 rfl (decide_eq_false c31) ?_
                            by_cases c37 : a0.fState > 0
                            · replace h := ifT c37 h
                              refine TL.rb ft_cursitorref14_ok nt_cursitorref14_ok 0 rfl 10 rfl rfl ?_
                              refine TL.hv 84 rfl (decide_eq_true c37) ?_
                              refine TL.rb ft_cursitorref14_ok nt_cursitorref14_ok 0 rfl 5 rfl rfl ?_
                              by_cases c38 : a0.fStarted = (-1)
                              · replace h := ifT c38 h
                                refine TL.nil (X.seq ?_)
                                refine T.yes rfl (decide_eq_true c38) ?_
                                refine T.seq (T.region rfl ?_)
                                refine TL.run ft_cursitorref14_ok [0] rfl rfl ?_
                                obtain rfl := Option.some.inj h
                                exact TL.nil (X.seq (T.ret (X.rs (X.done1 [1] Try.results11 (RV.tm rfl) ⟨rfl, rfl, rfl⟩ (by rfl) (.inl rfl)))))
                              · replace h := ifF c38 h
                                refine TL.nil (X.seq ?_)
                                refine T.no rfl (decide_eq_false c38) ?_
                                refine T.skip (X.seq (T.seq (T.seq (T.region rfl ?_))))
                                obtain ⟨x39, hx40, h⟩ := Option.bind_eq_some_iff.1 h
                                refine TL.rb ft_cursitorref14_ok nt_cursitorref14_ok 0 rfl 2 rfl rfl ?_
                                refine TL.ce rfl .u (.fn Try.call33 rfl) (f_r14_Rise_spec a0.fTopics _ _ _ hx40) (fun _ hs => (SrcE.old hs hX)) rfl ?_
                                refine TL.run ft_cursitorref14_ok [3] rfl rfl ?_
                                by_cases c41 : x39 = true
                                · replace h := ifT c41 h
                                  refine TL.nil (X.seq ?_)
                                  refine T.no rfl (bn_f c41) ?_
                                  refine T.skip (X.seq (T.seq (T.region rfl ?_)))
                                  refine TL.run ft_cursitorref14_ok [0] rfl rfl ?_
                                  obtain rfl := Option.some.inj h
                                  exact TL.nil (X.seq (T.ret (X.done1 [1] Try.results11 (RV.tm rfl) ⟨rfl, rfl, rfl⟩ (by rfl) (.inl rfl))))
                                · replace h := ifF c41 h
                                  replace c41 := eq_false_of_ne_true c41
                                  refine TL.nil (X.seq ?_)
                                  refine T.yes rfl (bn_t c41) ?_
                                  refine T.seq (T.region rfl ?_)
                                  refine TL.run ft_cursitorref14_ok [0] rfl rfl ?_
                                  obtain rfl := Option.some.inj h
                                  exact TL.nil (X.seq (T.ret (X.rs (X.done1 [1] Try.results11 (RV.tm rfl) ⟨rfl, rfl, rfl⟩ (by rfl) (.inl rfl)))))
                            · replace h := ifF c37 h
                              refine TL.rb ft_cursitorref14_ok nt_cursitorref14_ok 0 rfl 10 rfl rfl ?_
                              refine TL.hv 84 rfl (decide_eq_false c37) ?_
                              refine TL.rw ft_cursitorref14_ok 5 rfl ?_
                              refine TL.nil (X.seq ?_)
                              refine T.no rfl rfl ?_
                              refine T.skip (X.seq (T.seq (T.seq (T.region rfl ?_))))
                              obtain ⟨x42, hx43, h⟩ := Option.bind_eq_some_iff.1 h
                              refine TL.rb ft_cursitorref14_ok nt_cursitorref14_ok 0 rfl 2 rfl rfl ?_
                              refine TL.ce rfl .u (.fn Try.call33 rfl) (f_r14_Rise_spec a0.fTopics _ _ _ hx43) (fun _ hs => (SrcE.old hs hX)) rfl ?_
                              refine TL.run ft_cursitorref14_ok [3] rfl rfl ?_
                              by_cases c44 : x42 = true
                              · replace h := ifT c44 h
                                refine TL.nil (X.seq ?_)
                                refine T.no rfl (bn_f c44) ?_
                                refine T.skip (X.seq (T.seq (T.region rfl ?_)))
                                refine TL.run ft_cursitorref14_ok [0] rfl rfl ?_
                                obtain rfl := Option.some.inj h
                                exact TL.nil (X.seq (T.ret (X.done1 [1] Try.results11 (RV.tm rfl) ⟨rfl, rfl, rfl⟩ (by rfl) (.inl rfl))))
                              · replace h := ifF c44 h
                                replace c44 := eq_false_of_ne_true c44
                                refine TL.nil (X.seq ?_)
                                refine T.yes rfl (bn_t c44) ?_
                                refine T.seq (T.region rfl ?_)
                                refine TL.run ft_cursitorref14_ok [0] rfl rfl ?_
                                obtain rfl := Option.some.inj h
                                exact TL.nil (X.seq (T.ret (X.rs (X.done1 [1] Try.results11 (RV.tm rfl) ⟨rfl, rfl, rfl⟩ (by rfl) (.inl rfl)))))
                    · replace h := ifF c13 h
                      refine TL.rb ft_cursitorref14_ok nt_cursitorref14_ok 0 rfl 4 rfl rfl ?_
                      refine TL.hv 48 rfl (decide_eq_false c13) ?_
                      refine TL.rw ft_cursitorref14_ok 5 rfl ?_
                      refine TL.nil (X.seq (T.seq (T.seq (T.region rfl ?_))))
                      refine TL.rb ft_cursitorref14_ok nt_cursitorref14_ok 0 rfl 13 rfl rfl ?_
                      refine TL.q rfl (.g rfl rfl rfl) (Ex.lenS rfl Try.runUnderlying22) rfl ?_
                      by_cases c45 : (a0.fTopics.length : Int) > 0
                      · replace h := ifT c45 h
                        refine TL.rw ft_cursitorref14_ok 4 rfl ?_
                        refine TL.hv 70 rfl (decide_eq_true c45) ?_
                        refine TL.rw ft_cursitorref14_ok 19 rfl ?_
                        refine TL.nil (X.seq ?_)
                        refine T.yes rfl rfl ?_
                        refine T.seq (T.region rfl ?_)
                        refine TL.run ft_cursitorref14_ok [0] rfl rfl ?_
                        obtain rfl := Option.some.inj h
                        exact TL.nil (X.seq (T.ret (X.rs (X.done1 [1] Try.results11 (RV.tm rfl) ⟨rfl, rfl, rfl⟩ (by rfl) (.inl rfl)))))
                      · replace h := ifF c45 h
                        refine TL.rw ft_cursitorref14_ok 4 rfl ?_
                        refine TL.hv 70 rfl (decide_eq_false c45) ?_
                        by_cases c46 : a0.fState = 0
                        · replace h := ifT c46 h
                          refine TL.rb ft_cursitorref14_ok nt_cursitorref14_ok 0 rfl 4 rfl rfl ?_
                          refine TL.hv 74 rfl (decide_eq_true c46) ?_
                          by_cases c47 : a0.fStarted = (-1)
                          · replace h := ifT c47 h
                            refine TL.rb ft_cursitorref14_ok nt_cursitorref14_ok 0 rfl 6 rfl rfl ?_
                            refine TL.hv 80 rfl (bn_f (decide_eq_true c47)) ?_
                            by_cases c48 : a0.fState > 0
                            · replace h := ifT c48 h
                              refine TL.rb ft_cursitorref14_ok nt_cursitorref14_ok 0 rfl 4 rfl rfl ?_
                              refine TL.hv 84 rfl (decide_eq_true c48) ?_
                              refine TL.rb ft_cursitorref14_ok nt_cursitorref14_ok 0 rfl 5 rfl rfl ?_
                              refine TL.nil (X.seq ?_)
                              refine T.yes rfl (decide_eq_true c47) ?_
                              refine T.seq (T.region rfl ?_)
                              refine TL.run ft_cursitorref14_ok [0] rfl rfl ?_
                              obtain rfl := Option.some.inj h
                              exact TL.nil (X.seq (T.ret (X.rs (X.done1 [1] Try.results11 (RV.tm rfl) ⟨rfl, rfl, rfl⟩ (by rfl) (.inl rfl)))))
                            · replace h := ifF c48 h
                              refine TL.rb ft_cursitorref14_ok nt_cursitorref14_ok 0 rfl 4 rfl rfl ?_
                              refine TL.hv 84 rfl (decide_eq_false c48) ?_
                              refine TL.rw ft_cursitorref14_ok 5 rfl ?_
                              refine TL.nil (X.seq ?_)
                              refine T.no rfl rfl ?_
                              refine T.skip (X.seq (T.seq (T.seq (T.region rfl ?_))))
                              obtain ⟨x49, hx50, h⟩ := Option.bind_eq_some_iff.1 h
                              refine TL.rb ft_cursitorref14_ok nt_cursitorref14_ok 0 rfl 2 rfl rfl ?_
                              refine TL.ce rfl .u (.fn Try.call33 rfl) (f_r14_Rise_spec a0.fTopics _ _ _ hx50) (fun _ hs => (SrcE.old hs hX)) rfl ?_
                              refine TL.run ft_cursitorref14_ok [3] rfl rfl ?_
                              by_cases c51 : x49 = true
                              · replace h := ifT c51 h
                                refine TL.nil (X.seq ?_)
                                refine T.no rfl (bn_f c51) ?_
                                refine T.skip (X.seq (T.seq (T.region rfl ?_)))
                                refine TL.run ft_cursitorref14_ok [0] rfl rfl ?_
                                obtain rfl := Option.some.inj h
                                exact TL.nil (X.seq (T.ret (X.done1 [1] Try.results11 (RV.tm rfl) ⟨rfl, rfl, rfl⟩ (by rfl) (.inl rfl))))
                              · replace h := ifF c51 h
                                replace c51 := eq_false_of_ne_true c51
                                refine TL.nil (X.seq ?_)
                                refine T.yes rfl (bn_t c51) ?_
                                refine T.seq (T.region rfl ?_)
                                refine TL.run ft_cursitorref14_ok [0] rfl rfl ?_
                                obtain rfl := Option.some.inj h
                                exact TL.nil (X.seq (T.ret (X.rs (X.done1 [1] Try.results11 (RV.tm rfl) ⟨rfl, rfl, rfl⟩ (by rfl) (.inl rfl)))))
                          · replace h := ifF c47 h
                            refine TL.rb ft_cursitorref14_ok nt_cursitorref14_ok 0 rfl 6 rfl rfl ?_
                            refine TL.hv 80 rfl (bn_t (decide_eq_false c47)) ?_
                            refine TL.rw ft_cursitorref14_ok 9 rfl ?_
                            refine TL.nil (X.seq ?_)
                            refine T.yes rfl rfl ?_
                            refine T.seq (T.region rfl ?_)
                            refine TL.run ft_cursitorref14_ok [0] rfl rfl ?_
                            obtain rfl := Option.some.inj h
                            exact TL.nil (X.seq (T.ret (X.rs (X.done1 [1] Try.results11 (RV.tm rfl) ⟨rfl, rfl, rfl⟩ (by rfl) (.inl rfl)))))
                        · replace h := ifF c46 h
                          refine TL.rb ft_cursitorref14_ok nt_cursitorref14_ok 0 rfl 4 rfl rfl ?_
                          refine TL.hv 74 rfl (decide_eq_false c46) ?_
                          by_cases c52 : a0.fState > 0
                          · replace h := ifT c52 h
                            refine TL.rb ft_cursitorref14_ok nt_cursitorref14_ok 0 rfl 10 rfl rfl ?_
                            refine TL.hv 84 rfl (decide_eq_true c52) ?_
                            refine TL.rb ft_cursitorref14_ok nt_cursitorref14_ok 0 rfl 5 rfl rfl ?_
                            by_cases c53 : a0.fStarted = (-1)
                            · replace h := ifT c53 h
                              refine TL.nil (X.seq ?_)
                              refine T.yes rfl (decide_eq_true c53) ?_
                              refine T.seq (T.region rfl ?_)
                              refine TL.run ft_cursitorref14_ok [0] rfl rfl ?_
                              obtain rfl := Option.some.inj h
                              exact TL.nil (X.seq (T.ret (X.rs (X.done1 [1] Try.results11 (RV.tm rfl) ⟨rfl, rfl, rfl⟩ (by rfl) (.inl rfl)))))
                            · replace h := ifF c53 h
                              refine TL.nil (X.seq ?_)
                              refine T.no rfl (decide_eq_false c53) ?_
                              refine T.skip (X.seq (T.seq (T.seq (T.region rfl ?_))))
                              obtain ⟨x54, hx55, h⟩ := Option.bind_eq_some_iff.1 h
                              refine TL.rb ft_cursitorref14_ok nt_cursitorref14_ok 0 rfl 2 rfl rfl ?_
                              refine TL.ce rfl .u (.fn Try.call33 rfl) (f_r14_Rise_spec a0.fTopics _ _ _ hx55) (fun _ hs => (SrcE.old hs hX)) rfl ?_
                              refine TL.run ft_cursitorref14_ok [3] rfl rfl ?_
                              by_cases c56 : x54 = true
                              · replace h := ifT c56 h
                                refine TL.nil (X.seq ?_)
                                refine T.no rfl (bn_f c56) ?_
                                refine T.skip (X.seq (T.seq (T.region rfl ?_)))
                                refine TL.run ft_cursitorref14_ok [0] rfl rfl ?_
                                obtain rfl := Option.some.inj h
                                exact TL.nil (X.seq (T.ret (X.done1 [1] Try.results11 (RV.tm rfl) ⟨rfl, rfl, rfl⟩ (by rfl) (.inl rfl))))
                              · replace h := ifF c56 h
                                replace c56 := eq_false_of_ne_true c56
                                refine TL.nil (X.seq ?_)
                                refine T.yes rfl (bn_t c56) ?_
                                refine T.seq (T.region rfl ?_)
                                refine TL.run ft_cursitorref14_ok [0] rfl rfl ?_
                                obtain rfl := Option.some.inj h
                                exact TL.nil (X.seq (T.ret (X.rs (X.done1 [1] Try.results11 (RV.tm rfl) ⟨rfl, rfl, rfl⟩ (by rfl) (.inl rfl)))))
                          · replace h := ifF c52 h
                            refine TL.rb ft_cursitorref14_ok nt_cursitorref14_ok 0 rfl 10 rfl rfl ?_
                            refine TL.hv 84 rfl (decide_eq_false c52) ?_
                            refine TL.rw ft_cursitorref14_ok 5 rfl ?_
                            refine TL.nil (X.seq ?_)
                            refine T.no rfl rfl ?_
                            refine T.skip (X.seq (T.seq (T.seq (T.region rfl ?_))))
                            obtain ⟨x57, hx58, h⟩ := Option.bind_eq_some_iff.1 h
                            refine TL.rb ft_cursitorref14_ok nt_cursitorref14_ok 0 rfl 2 rfl rfl ?_
                            refine TL.ce rfl .u (.fn Try.call33 rfl) (f_r14_Rise_spec a0.fTopics _ _ _ hx58) (fun _ hs => (SrcE.old hs hX)) rfl ?_
                            refine TL.run ft_cursitorref14_ok [3] rfl rfl ?_
                            by_cases c59 : x57 = true
                            · replace h := ifT c59 h
                              refine TL.nil (X.seq ?_)
                              refine T.no rfl (bn_f c59) ?_
                              refine T.skip (X.seq (T.seq (T.region rfl ?_)))
                              refine TL.run ft_cursitorref14_ok [0] rfl rfl ?_
                              obtain rfl := Option.some.inj h
                              exact TL.nil (X.seq (T.ret (X.done1 [1] Try.results11 (RV.tm rfl) ⟨rfl, rfl, rfl⟩ (by rfl) (.inl rfl))))
                            · replace h := ifF c59 h
                              replace c59 := eq_false_of_ne_true c59
                              refine TL.nil (X.seq ?_)
                              refine T.yes rfl (bn_t c59) ?_
                              refine T.seq (T.region rfl ?_)
                              refine TL.run ft_cursitorref14_ok [0] rfl rfl ?_
                              obtain rfl := Option.some.inj h
                              exact TL.nil (X.seq (T.ret (X.rs (X.done1 [1] Try.results11 (RV.tm rfl) ⟨rfl, rfl, rfl⟩ (by rfl) (.inl rfl)))))
def f_r14_Topics_l2 (x15 : Top) : Nat → List UInt8 → Nat → Option (List UInt8 × Nat)
  | 0, _, _ => none
  | m32 + 1, y27, k28 => if (k28 : Int) < (x15.fParts.length : Int) then ((x15.fParts[k28]?).bind fun x37 => (gRBytes x37 4).bind fun x40 => if y27.length + x40.length ≤ 9223372036854775807 then (if -9223372036854775808 ≤ ((k28 : Int) + 1) ∧ ((k28 : Int) + 1) ≤ 9223372036854775807 then (f_r14_Topics_l2 x15 m32 (y27 ++ x40) (k28 + 1)) else none) else none) else some (y27, k28)
def f_r14_Topics_l1 (a0 : List Top) : Nat → List UInt8 → Nat → Option (List UInt8 × Nat)
  | 0, _, _ => none
  | m10 + 1, y5, k6 => if (k6 : Int) < (a0.length : Int) then ((a0[k6]?).bind fun x15 => (gRBFixed (⟨false, x15.fName⟩ : Bl) 2).bind fun x21 => if y5.length + x21.length ≤ 9223372036854775807 then ((gRBytes (x15.fParts.length : Int) 4).bind fun x24 => if (y5 ++ x21).length + x24.length ≤ 9223372036854775807 then ((f_r14_Topics_l2 x15 (((x15.fParts.length : Int)).toNat + 1) ((y5 ++ x21) ++ x24) 0).bind fun (y45, k46) => if -9223372036854775808 ≤ ((k6 : Int) + 1) ∧ ((k6 : Int) + 1) ≤ 9223372036854775807 then (f_r14_Topics_l1 a0 m10 y45 (k6 + 1)) else none) else none) else none) else some (y5, k6)
def f_r14_Topics (a0 : List Top) : Option (List UInt8) := (gRBytes (a0.length : Int) 4).bind fun x3 => (f_r14_Topics_l1 a0 (((a0.length : Int)).toNat + 1) x3 0).bind fun (y48, k49) => some y48
set_option maxRecDepth 100000 in
set_option maxHeartbeats 4000000 in
theorem f_r14_Topics_spec (a0 : List Top) (A1 : Option Addr) (c2 : Nat) (r : List UInt8) (h : f_r14_Topics a0 = some r) : SpecX Try.prog 35 #[.slice A1 a0.length c2] (RX.of (sliceRd 2 Top_rd) [.slice A1 a0.length c2] a0) (EmpR) (fun v A' N => v = .string (bsOf r) ∧ A' = EmpR ∧ N = []) := by
  refine enterA Try.func35 rfl Try.ntmps35 rfl ?_
  intro F w hX
  unfold f_r14_Topics at h
  refine T.seq (T.region rfl ?_)
  refine TL.run ft_cursitorref14_ok [0] rfl rfl ?_
  refine TL.nil (X.seq (T.seq (T.region rfl ?_)))
  refine TL.run ft_cursitorref14_ok [0] rfl rfl ?_
  refine TL.q rfl .u (Ex.lenS rfl Try.runUnderlying22) rfl ?_
  obtain ⟨x3, hx4, h⟩ := Option.bind_eq_some_iff.1 h
  refine TL.ce rfl .u (.fn Try.call34 rfl) (gRBytes_spec (a0.length : Int) 4 _ hx4) (fun _ hs => (RX.reads_triv _ _)) rfl ?_
  refine TL.run ft_cursitorref14_ok [3] rfl rfl ?_
  refine TL.nil (X.seq (T.seq (T.seq (T.region rfl ?_))))
  refine TL.run ft_cursitorref14_ok [0] rfl rfl ?_
  refine TL.nil (X.seq (T.block ?_))
  obtain ⟨E7, hE8, hO9⟩ := Option.bind_eq_some_iff.1 h
  refine T.lp (fun m e Rs => ∃ (y5 : List UInt8) (k6 : Nat), e = [(0, .slice A1 a0.length c2), (2, .string ⟨#[]⟩), (3, .string (bsOf y5)), (4, .int .i64 (k6 : Int))] ∧ Rs = [EmpR] ∧ f_r14_Topics_l1 a0 m y5 k6 = some E7) (((a0.length : Int)).toNat + 1) [0] ⟨x3, 0, rfl, rfl, by exact hE8⟩ (by rfl) (by rfl) ?_
  rintro m10 _ _ ⟨y5, k6, rfl, rfl, hl12⟩
  clear hE8 h
  cases m10 with
  | zero =>
    rw [f_r14_Topics_l1] at hl12
    cases hl12
  | succ m10 =>
    have h := hl12
    clear hl12
    rw [f_r14_Topics_l1] at h
    refine T.seq (T.seq (T.region rfl ?_))
    refine TL.run ft_cursitorref14_ok [0, 1] rfl rfl ?_
    refine TL.q rfl .u (Ex.lenS rfl Try.runUnderlying22) rfl ?_
    refine TL.run ft_cursitorref14_ok [3] rfl rfl ?_
    by_cases c14 : (k6 : Int) < (a0.length : Int)
    · replace h := ifT c14 h
      refine TL.nil (X.seq ?_)
      refine T.yes rfl (decide_eq_true c14) ?_
      refine T.skip (X.seq (T.seq (T.block (T.seq (T.draw (.q 0 (.q 1 (.q 2 (.q 3 (.q 4 (.q 5 (.q 6 (.q 9 (.q 10 (.q 11 (.q 12 (.q 13 (.q 14 (.e 7 (.q 8 (.e 15 (.q 16 (.q 17 .nil)))))))))))))))))) [0] rfl mix_cursitorref14 (NoP.seq (NoP.blk (NoP.seq (NoP.seq (NoP.blk (NoP.seq np_post)))))) (by kernel_rfl) ?_)))))
      obtain ⟨x15, hx16, h⟩ := Option.bind_eq_some_iff.1 h
      obtain ⟨gz17, oz17, rfl, z17cs, z17cl, z17cc, z17nf, z17r⟩ := RX.elem (by decide) hX hx16
      obtain ⟨z17S, z17r, z17rr⟩ := z17r
      obtain ⟨A18, c19, rfl, z17s0⟩ := z17r
      have hX20 : (RX.of (sliceRd 1 intE) [.slice A18 x15.fParts.length c19] x15.fParts).reads w F := ⟨z17S, z17s0, z17rr⟩
      refine TD.run ft_cursitorref14_ok [0, 1, 2] rfl rfl ?_
      refine TD.q rfl .u (Ex.ixS (k := k6) rfl rfl rfl Try.runUnderlying22 Try.sizeOf46 (List.getElem?_eq_some_iff.1 hx16).1) rfl ?_
      refine TD.run ft_cursitorref14_ok [4] rfl rfl ?_
      refine TD.q rfl .u (Ex.o1 0 rfl Try.isAgg9 z17nf z17cc rfl rfl) rfl ?_
      refine TD.q rfl .u (Ex.bld (cells := #[.bool false, .string (bsOf x15.fName)]) bok_cursitorref14_28 rfl (by kernel_rfl)) rfl ?_
      refine TD.run ft_cursitorref14_ok [9, 10] rfl rfl ?_
      refine TD.q rfl .u (Ex.ixS (k := k6) rfl rfl rfl Try.runUnderlying22 Try.sizeOf46 (List.getElem?_eq_some_iff.1 hx16).1) rfl ?_
      refine TD.run ft_cursitorref14_ok [12] rfl rfl ?_
      refine TD.q rfl .u (Ex.o1 1 rfl Try.isAgg44 z17nf z17cc rfl rfl) rfl ?_
      refine TD.q rfl .u (Ex.lenS rfl Try.runUnderlying44) rfl ?_
      obtain ⟨x21, hx22, h⟩ := Option.bind_eq_some_iff.1 h
      refine TD.ce rfl .u (.fn Try.call56 rfl) (gRBFixed_spec (⟨false, x15.fName⟩ : Bl) 2 _ hx22) (fun _ hs => (RX.reads_triv _ _)) rfl [0] (rfl) ?_
      replace h := guard_some h
      obtain ⟨c23, h⟩ := h
      refine TD.q rfl .u (Ex.sAdd rfl rfl c23) rfl ?_
      obtain ⟨x24, hx25, h⟩ := Option.bind_eq_some_iff.1 h
      refine TD.ce rfl .u (.fn Try.call34 rfl) (gRBytes_spec (x15.fParts.length : Int) 4 _ hx25) (fun _ hs => (RX.reads_triv _ _)) rfl [0] (rfl) ?_
      replace h := guard_some h
      obtain ⟨c26, h⟩ := h
      refine TD.q rfl .u (Ex.sAdd rfl rfl c26) rfl ?_
      refine TD.run ft_cursitorref14_ok [17] rfl rfl ?_
      refine TD.nil (X.seq (T.seq (T.region rfl ?_)))
      refine TL.run ft_cursitorref14_ok [0] rfl rfl ?_
      refine TL.nil (X.seq (T.block ?_))
      obtain ⟨E29, hE30, hO31⟩ := Option.bind_eq_some_iff.1 h
      refine T.lp (fun m e Rs => ∃ (y27 : List UInt8) (k28 : Nat), e = [(0, .slice (some ⟨gz17, oz17, none⟩) a0.length c2), (2, .string ⟨#[]⟩), (3, .string (bsOf y27)), (4, .int .i64 (k6 : Int)), (5, .int .i64 (k28 : Int))] ∧ Rs = [EmpR] ∧ f_r14_Topics_l2 x15 m y27 k28 = some E29) (((x15.fParts.length : Int)).toNat + 1) [0] ⟨((y5 ++ x21) ++ x24), 0, rfl, rfl, by exact hE30⟩ (by rfl) (by rfl) ?_
      rintro m32 _ _ ⟨y27, k28, rfl, rfl, hl34⟩
      clear hE30 h
      cases m32 with
      | zero =>
        rw [f_r14_Topics_l2] at hl34
        cases hl34
      | succ m32 =>
        have h := hl34
        clear hl34
        rw [f_r14_Topics_l2] at h
        refine T.seq (T.seq (T.region rfl ?_))
        refine TL.run ft_cursitorref14_ok [0, 1, 2] rfl rfl ?_
        refine TL.q rfl .u (Ex.ixS (k := k6) rfl rfl rfl Try.runUnderlying22 Try.sizeOf46 (List.getElem?_eq_some_iff.1 hx16).1) rfl ?_
        refine TL.run ft_cursitorref14_ok [4] rfl rfl ?_
        refine TL.q rfl .u (Ex.o1 1 rfl Try.isAgg44 z17nf z17cc rfl rfl) rfl ?_
        refine TL.q rfl .u (Ex.lenS rfl Try.runUnderlying44) rfl ?_
        refine TL.run ft_cursitorref14_ok [7] rfl rfl ?_
        by_cases c36 : (k28 : Int) < (x15.fParts.length : Int)
        · replace h := ifT c36 h
          refine TL.nil (X.seq ?_)
          refine T.yes rfl (decide_eq_true c36) ?_
          refine T.skip (X.seq (T.seq (T.block (T.region rfl ?_))))
          refine TL.run ft_cursitorref14_ok [0, 1, 2] rfl rfl ?_
          refine TL.q rfl .u (Ex.ixS (k := k6) rfl rfl rfl Try.runUnderlying22 Try.sizeOf46 (List.getElem?_eq_some_iff.1 hx16).1) rfl ?_
          refine TL.run ft_cursitorref14_ok [4] rfl rfl ?_
          refine TL.q rfl .u (Ex.o1 1 rfl Try.isAgg44 z17nf z17cc rfl rfl) rfl ?_
          obtain ⟨x37, hx38, h⟩ := Option.bind_eq_some_iff.1 h
          obtain ⟨gz39, oz39, rfl, z39cs, z39cl, z39cc, z39nf, z39r⟩ := RX.elem (by decide) hX20 hx38
          obtain ⟨z39S, z39r, z39rr⟩ := z39r
          obtain rfl : z39cs = [.int .i64 x37] := z39r
          refine TL.run ft_cursitorref14_ok [6] rfl rfl ?_
          refine TL.q rfl .u (Ex.ixS (k := k28) rfl rfl rfl Try.runUnderlying44 Try.sizeOf3 (List.getElem?_eq_some_iff.1 hx38).1) rfl ?_
          refine TL.q rfl .u (Ex.o1 0 rfl Try.isAgg3 z39nf z39cc rfl rfl) rfl ?_
          obtain ⟨x40, hx41, h⟩ := Option.bind_eq_some_iff.1 h
          refine TL.ce rfl .u (.fn Try.call34 rfl) (gRBytes_spec x37 4 _ hx41) (fun _ hs => (RX.reads_triv _ _)) rfl ?_
          replace h := guard_some h
          obtain ⟨c42, h⟩ := h
          refine TL.q rfl .u (Ex.sAdd rfl rfl c42) rfl ?_
          refine TL.run ft_cursitorref14_ok [11] rfl rfl ?_
          refine TL.nil (X.blk (X.seq (T.region rfl ?_)))
          replace h := guard_some h
          obtain ⟨c43, h⟩ := h
          refine TL.run ft_cursitorref14_ok [0] rfl rfl ?_
          refine TL.q rfl .u (Ex.add rfl rfl c43) rfl ?_
          refine TL.run ft_cursitorref14_ok [2] rfl rfl ?_
          exact TL.nil (X.back (m' := m32) [0] (by omega) ⟨(y27 ++ x40), k28 + 1, rfl, rfl, h⟩ (by rfl) (by rfl))
        · replace h := ifF c36 h
          refine TL.nil (X.seq ?_)
          refine T.no rfl (decide_eq_false c36) ?_
          obtain rfl := Option.some.inj h
          replace h := hO31
          clear hO31
          try dsimp only at h
          refine T.exit (X.exs (X.exs (X.ex (X.blk (X.seq (T.region rfl ?_))))))
          replace h := guard_some h
          obtain ⟨c44, h⟩ := h
          refine TL.run ft_cursitorref14_ok [0] rfl rfl ?_
          refine TL.q rfl .u (Ex.add rfl rfl c44) rfl ?_
          refine TL.run ft_cursitorref14_ok [2] rfl rfl ?_
          exact TL.nil (X.back (m' := m10) [0] (by omega) ⟨y27, k6 + 1, rfl, rfl, h⟩ (by rfl) (by rfl))
    · replace h := ifF c14 h
      refine TL.nil (X.seq ?_)
      refine T.no rfl (decide_eq_false c14) ?_
      obtain rfl := Option.some.inj h
      replace h := hO9
      clear hO9
      try dsimp only at h
      refine T.exit (X.exs (X.exs (X.ex (X.seq (T.seq (T.region rfl ?_))))))
      refine TL.run ft_cursitorref14_ok [0, 1] rfl rfl ?_
      obtain rfl := Option.some.inj h
      exact TL.nil (X.seq (T.ret (X.done1 [0] Try.results35 (RV.tm rfl) ⟨rfl, rfl, rfl⟩ (by rfl) (.inl rfl))))
def f_r14_Encode (a0 : Val) : Option (List UInt8) := (gRBytes 0 2).bind fun x4 => (gRBytes a0.fProducer 8).bind fun x6 => if x4.length + x6.length ≤ 9223372036854775807 then ((gRBytes a0.fEpoch 2).bind fun x9 => if (x4 ++ x6).length + x9.length ≤ 9223372036854775807 then ((gRBytes a0.fTimeout 4).bind fun x12 => if ((x4 ++ x6) ++ x9).length + x12.length ≤ 9223372036854775807 then ((gRBytes a0.fState 1).bind fun x15 => if (((x4 ++ x6) ++ x9) ++ x12).length + x15.length ≤ 9223372036854775807 then ((f_r14_Topics a0.fTopics).bind fun x18 => if ((((x4 ++ x6) ++ x9) ++ x12) ++ x15).length + x18.length ≤ 9223372036854775807 then ((gRBytes a0.fUpdated 8).bind fun x21 => if (((((x4 ++ x6) ++ x9) ++ x12) ++ x15) ++ x18).length + x21.length ≤ 9223372036854775807 then ((gRBytes a0.fStarted 8).bind fun x24 => if ((((((x4 ++ x6) ++ x9) ++ x12) ++ x15) ++ x18) ++ x21).length + x24.length ≤ 9223372036854775807 then (some (((((((x4 ++ x6) ++ x9) ++ x12) ++ x15) ++ x18) ++ x21) ++ x24)) else none) else none) else none) else none) else none) else none) else none
set_option maxRecDepth 100000 in
set_option maxHeartbeats 4000000 in
theorem f_r14_Encode_spec (a0 : Val) (A1 : Option Addr) (c2 : Nat) (r : List UInt8) (h : f_r14_Encode a0 = some r) : SpecX Try.prog 13 #[.agg #[.int .i64 a0.fProducer, .int .i64 a0.fEpoch, .int .i64 a0.fTimeout, .int .i64 a0.fState, .slice A1 a0.fTopics.length c2, .int .i64 a0.fUpdated, .int .i64 a0.fStarted]] (RX.of (sliceRd 2 Top_rd) [.slice A1 a0.fTopics.length c2] a0.fTopics) (EmpR) (fun v A' N => v = .string (bsOf r) ∧ A' = EmpR ∧ N = []) := by
  refine enterA Try.func13 rfl Try.ntmps13 rfl ?_
  intro F w hX
  unfold f_r14_Encode at h
  refine T.seq (T.region rfl ?_)
  refine TL.box rfl .u rfl rfl (fun b3 => ?_)
  refine TL.run ft_cursitorref14_ok [1] rfl rfl ?_
  refine TL.nil (X.seq (T.seq (T.draw (.q 1 (.q 2 (.q 5 (.q 6 (.q 9 (.q 10 (.q 13 (.q 14 (.q 17 (.q 18 (.q 21 (.q 22 (.q 25 (.q 26 (.e 0 (.e 3 (.q 4 (.e 7 (.q 8 (.e 11 (.q 12 (.e 15 (.q 16 (.e 19 (.q 20 (.e 23 (.q 24 (.e 27 (.q 28 (.q 29 .nil)))))))))))))))))))))))))))))) [0, 0] rfl mix_cursitorref14 (NoP.seq np_post) (by kernel_rfl) ?_)))
  refine TD.run ft_cursitorref14_ok [1] rfl rfl ?_
  refine TD.q rfl .u (Ex.b1 0 rfl Try.isAgg3 rfl rfl) rfl ?_
  refine TD.run ft_cursitorref14_ok [5] rfl rfl ?_
  refine TD.q rfl .u (Ex.b1 0 rfl Try.isAgg3 rfl rfl) rfl ?_
  refine TD.run ft_cursitorref14_ok [9] rfl rfl ?_
  refine TD.q rfl .u (Ex.b1 0 rfl Try.isAgg3 rfl rfl) rfl ?_
  refine TD.run ft_cursitorref14_ok [13] rfl rfl ?_
  refine TD.q rfl .u (Ex.b1 0 rfl Try.isAgg3 rfl rfl) rfl ?_
  refine TD.run ft_cursitorref14_ok [17] rfl rfl ?_
  refine TD.q rfl .u (Ex.b1 0 rfl Try.isAgg22 rfl rfl) rfl ?_
  refine TD.run ft_cursitorref14_ok [21] rfl rfl ?_
  refine TD.q rfl .u (Ex.b1 0 rfl Try.isAgg3 rfl rfl) rfl ?_
  refine TD.run ft_cursitorref14_ok [25] rfl rfl ?_
  refine TD.q rfl .u (Ex.b1 0 rfl Try.isAgg3 rfl rfl) rfl ?_
  obtain ⟨x4, hx5, h⟩ := Option.bind_eq_some_iff.1 h
  refine TD.ce rfl .u (.fn Try.call34 rfl) (gRBytes_spec 0 2 _ hx5) (fun _ hs => (RX.reads_triv _ _)) rfl [0, 0] (rfl) ?_
  obtain ⟨x6, hx7, h⟩ := Option.bind_eq_some_iff.1 h
  refine TD.ce rfl .u (.fn Try.call34 rfl) (gRBytes_spec a0.fProducer 8 _ hx7) (fun _ hs => (RX.reads_triv _ _)) rfl [0, 0] (rfl) ?_
  replace h := guard_some h
  obtain ⟨c8, h⟩ := h
  refine TD.q rfl .u (Ex.sAdd rfl rfl c8) rfl ?_
  obtain ⟨x9, hx10, h⟩ := Option.bind_eq_some_iff.1 h
  refine TD.ce rfl .u (.fn Try.call34 rfl) (gRBytes_spec a0.fEpoch 2 _ hx10) (fun _ hs => (RX.reads_triv _ _)) rfl [0, 0] (rfl) ?_
  replace h := guard_some h
  obtain ⟨c11, h⟩ := h
  refine TD.q rfl .u (Ex.sAdd rfl rfl c11) rfl ?_
  obtain ⟨x12, hx13, h⟩ := Option.bind_eq_some_iff.1 h
  refine TD.ce rfl .u (.fn Try.call34 rfl) (gRBytes_spec a0.fTimeout 4 _ hx13) (fun _ hs => (RX.reads_triv _ _)) rfl [0, 0] (rfl) ?_
  replace h := guard_some h
  obtain ⟨c14, h⟩ := h
  refine TD.q rfl .u (Ex.sAdd rfl rfl c14) rfl ?_
  obtain ⟨x15, hx16, h⟩ := Option.bind_eq_some_iff.1 h
  refine TD.ce rfl .u (.fn Try.call34 rfl) (gRBytes_spec a0.fState 1 _ hx16) (fun _ hs => (RX.reads_triv _ _)) rfl [0, 0] (rfl) ?_
  replace h := guard_some h
  obtain ⟨c17, h⟩ := h
  refine TD.q rfl .u (Ex.sAdd rfl rfl c17) rfl ?_
  obtain ⟨x18, hx19, h⟩ := Option.bind_eq_some_iff.1 h
  refine TD.ce rfl .u (.fn Try.call35 rfl) (f_r14_Topics_spec a0.fTopics _ _ _ hx19) (fun _ hs => (SrcE.old hs hX)) rfl [0, 0] (rfl) ?_
  replace h := guard_some h
  obtain ⟨c20, h⟩ := h
  refine TD.q rfl .u (Ex.sAdd rfl rfl c20) rfl ?_
  obtain ⟨x21, hx22, h⟩ := Option.bind_eq_some_iff.1 h
  refine TD.ce rfl .u (.fn Try.call34 rfl) (gRBytes_spec a0.fUpdated 8 _ hx22) (fun _ hs => (RX.reads_triv _ _)) rfl [0, 0] (rfl) ?_
  replace h := guard_some h
  obtain ⟨c23, h⟩ := h
  refine TD.q rfl .u (Ex.sAdd rfl rfl c23) rfl ?_
  obtain ⟨x24, hx25, h⟩ := Option.bind_eq_some_iff.1 h
  refine TD.ce rfl .u (.fn Try.call34 rfl) (gRBytes_spec a0.fStarted 8 _ hx25) (fun _ hs => (RX.reads_triv _ _)) rfl [0, 0] (rfl) ?_
  replace h := guard_some h
  obtain ⟨c26, h⟩ := h
  refine TD.q rfl .u (Ex.sAdd rfl rfl c26) rfl ?_
  refine TD.run ft_cursitorref14_ok [29] rfl rfl ?_
  obtain rfl := Option.some.inj h
  exact TD.nil (X.seq (T.ret (X.done1 [1] Try.results13 (RV.tm rfl) ⟨rfl, rfl, rfl⟩ (by rfl) (.inl rfl))))
def f_r14_SameTopics_l1 (a0 : List Top) (a1 : List Top) : Nat → Bool → Nat → Option (Lp Bool (Bool × Nat))
  | 0, _, _ => none
  | m11 + 1, y6, k7 => if (k7 : Int) < (a0.length : Int) then ((a0[k7]?).bind fun x16 => (a1[k7]?).bind fun x22 => if x16.fName = x22.fName then ((f_r01_Same x16.fParts x22.fParts).bind fun x29 => if x29 = true then (if -9223372036854775808 ≤ ((k7 : Int) + 1) ∧ ((k7 : Int) + 1) ≤ 9223372036854775807 then (f_r14_SameTopics_l1 a0 a1 m11 y6 (k7 + 1)) else none) else some (Lp.ret false)) else some (Lp.ret false)) else (some (Lp.go (y6, k7)))
def f_r14_SameTopics (a0 : List Top) (a1 : List Top) : Option (Bool) := if (a0.length : Int) = (a1.length : Int) then ((f_r14_SameTopics_l1 a0 a1 (((a0.length : Int)).toNat + 1) false 0).bind fun e => match e with | .ret r => some r | .go (y33, k34) => some true) else some false
set_option maxRecDepth 100000 in
set_option maxHeartbeats 4000000 in
theorem f_r14_SameTopics_spec (a0 : List Top) (A1 : Option Addr) (c2 : Nat) (a1 : List Top) (A3 : Option Addr) (c4 : Nat) (r : Bool) (h : f_r14_SameTopics a0 a1 = some r) : SpecX Try.prog 38 #[.slice A1 a0.length c2, .slice A3 a1.length c4] (RX.and (RX.of (sliceRd 2 Top_rd) [.slice A1 a0.length c2] a0) (RX.of (sliceRd 2 Top_rd) [.slice A3 a1.length c4] a1)) (EmpR) (fun v A' N => v = .bool r ∧ A' = EmpR ∧ N = []) := by
  refine enterA Try.func38 rfl Try.ntmps38 rfl ?_
  intro F w hX
  unfold f_r14_SameTopics at h
  refine T.seq (T.region rfl ?_)
  refine TL.run ft_cursitorref14_ok [0] rfl rfl ?_
  refine TL.nil (X.seq (T.seq (T.seq (T.region rfl ?_))))
  refine TL.run ft_cursitorref14_ok [0] rfl rfl ?_
  refine TL.q rfl .u (Ex.lenS rfl Try.runUnderlying22) rfl ?_
  refine TL.run ft_cursitorref14_ok [2] rfl rfl ?_
  refine TL.q rfl .u (Ex.lenS rfl Try.runUnderlying22) rfl ?_
  refine TL.run ft_cursitorref14_ok [4] rfl rfl ?_
  by_cases c5 : (a0.length : Int) = (a1.length : Int)
  · replace h := ifT c5 h
    refine TL.nil (X.seq ?_)
    refine T.no rfl (bn_f (decide_eq_true c5)) ?_
    refine T.skip (X.seq (T.seq (T.seq (T.region rfl ?_))))
    refine TL.run ft_cursitorref14_ok [0] rfl rfl ?_
    refine TL.nil (X.seq (T.block ?_))
    obtain ⟨E8, hE9, hO10⟩ := Option.bind_eq_some_iff.1 h
    refine T.lp (fun m e Rs => ∃ (y6 : Bool) (k7 : Nat), e = [(0, .slice A1 a0.length c2), (1, .slice A3 a1.length c4), (4, .bool y6), (5, .int .i64 (k7 : Int))] ∧ Rs = [EmpR] ∧ f_r14_SameTopics_l1 a0 a1 m y6 k7 = some E8) (((a0.length : Int)).toNat + 1) [0] ⟨false, 0, rfl, rfl, by exact hE9⟩ (by rfl) (by rfl) ?_
    rintro m11 _ _ ⟨y6, k7, rfl, rfl, hl13⟩
    clear hE9 h
    cases m11 with
    | zero =>
      rw [f_r14_SameTopics_l1] at hl13
      cases hl13
    | succ m11 =>
      have h := hl13
      clear hl13
      rw [f_r14_SameTopics_l1] at h
      refine T.seq (T.seq (T.region rfl ?_))
      refine TL.run ft_cursitorref14_ok [0, 1] rfl rfl ?_
      refine TL.q rfl .u (Ex.lenS rfl Try.runUnderlying22) rfl ?_
      refine TL.run ft_cursitorref14_ok [3] rfl rfl ?_
      by_cases c15 : (k7 : Int) < (a0.length : Int)
      · replace h := ifT c15 h
        refine TL.nil (X.seq ?_)
        refine T.yes rfl (decide_eq_true c15) ?_
        refine T.skip (X.seq (T.seq (T.block (T.seq (T.draw (.q 0 (.q 1 (.q 2 (.q 3 (.q 4 (.q 5 (.q 6 (.q 7 (.q 8 (.q 9 (.q 10 (.q 11 (.q 12 (.q 13 (.q 14 (.q 15 (.q 16 (.q 17 (.q 18 (.q 19 (.q 20 (.q 21 (.e 22 (.q 23 (.q 24 .nil))))))))))))))))))))))))) [0] rfl mix_cursitorref14 (NoP.seq (NoP.blk (NoP.seq (NoP.seq (NoP.blk (NoP.seq np_post)))))) (by kernel_rfl) ?_)))))
        obtain ⟨x16, hx17, h⟩ := Option.bind_eq_some_iff.1 h
        obtain ⟨gz18, oz18, rfl, z18cs, z18cl, z18cc, z18nf, z18r⟩ := RX.elem (by decide) (RX.reads_left hX) hx17
        obtain ⟨z18S, z18r, z18rr⟩ := z18r
        obtain ⟨A19, c20, rfl, z18s0⟩ := z18r
        have hX21 : (RX.of (sliceRd 1 intE) [.slice A19 x16.fParts.length c20] x16.fParts).reads w F := ⟨z18S, z18s0, z18rr⟩
        refine TD.run ft_cursitorref14_ok [0, 1] rfl rfl ?_
        refine TD.q rfl .u (Ex.ixS (k := k7) rfl rfl rfl Try.runUnderlying22 Try.sizeOf46 (List.getElem?_eq_some_iff.1 hx17).1) rfl ?_
        refine TD.run ft_cursitorref14_ok [3] rfl rfl ?_
        refine TD.q rfl .u (Ex.o1 0 rfl Try.isAgg9 z18nf z18cc rfl rfl) rfl ?_
        obtain ⟨x22, hx23, h⟩ := Option.bind_eq_some_iff.1 h
        obtain ⟨gz24, oz24, rfl, z24cs, z24cl, z24cc, z24nf, z24r⟩ := RX.elem (by decide) (RX.reads_right hX) hx23
        obtain ⟨z24S, z24r, z24rr⟩ := z24r
        obtain ⟨A25, c26, rfl, z24s0⟩ := z24r
        have hX27 : (RX.of (sliceRd 1 intE) [.slice A25 x22.fParts.length c26] x22.fParts).reads w F := ⟨z24S, z24s0, z24rr⟩
        refine TD.run ft_cursitorref14_ok [5, 6] rfl rfl ?_
        refine TD.q rfl .u (Ex.ixS (k := k7) rfl rfl rfl Try.runUnderlying22 Try.sizeOf46 (List.getElem?_eq_some_iff.1 hx23).1) rfl ?_
        refine TD.run ft_cursitorref14_ok [8] rfl rfl ?_
        refine TD.q rfl .u (Ex.o1 0 rfl Try.isAgg9 z24nf z24cc rfl rfl) rfl ?_
        refine TD.q rfl .u (Ex.sNe rfl rfl) rfl ?_
        by_cases c28 : x16.fName = x22.fName
        · replace h := ifT c28 h
          refine TD.run ft_cursitorref14_ok [11] rfl rfl ?_
          refine TD.q rfl (.g rfl rfl (bn_f (decide_eq_true c28))) (Ex.ft ft_cursitorref14_ok rfl) rfl ?_
          refine TD.q rfl (.g rfl rfl (bn_f (decide_eq_true c28))) (Ex.ft ft_cursitorref14_ok rfl) rfl ?_
          refine TD.q rfl (.g rfl rfl (bn_f (decide_eq_true c28))) (Ex.ixS (k := k7) rfl rfl rfl Try.runUnderlying22 Try.sizeOf46 (List.getElem?_eq_some_iff.1 hx17).1) rfl ?_
          refine TD.q rfl (.g rfl rfl (bn_f (decide_eq_true c28))) (Ex.ft ft_cursitorref14_ok rfl) rfl ?_
          refine TD.q rfl (.g rfl rfl (bn_f (decide_eq_true c28))) (Ex.o1 1 rfl Try.isAgg44 z18nf z18cc rfl rfl) rfl ?_
          refine TD.q rfl (.g rfl rfl (bn_f (decide_eq_true c28))) (Ex.ft ft_cursitorref14_ok rfl) rfl ?_
          refine TD.q rfl (.g rfl rfl (bn_f (decide_eq_true c28))) (Ex.ft ft_cursitorref14_ok rfl) rfl ?_
          refine TD.q rfl (.g rfl rfl (bn_f (decide_eq_true c28))) (Ex.ixS (k := k7) rfl rfl rfl Try.runUnderlying22 Try.sizeOf46 (List.getElem?_eq_some_iff.1 hx23).1) rfl ?_
          refine TD.q rfl (.g rfl rfl (bn_f (decide_eq_true c28))) (Ex.ft ft_cursitorref14_ok rfl) rfl ?_
          refine TD.q rfl (.g rfl rfl (bn_f (decide_eq_true c28))) (Ex.o1 1 rfl Try.isAgg44 z24nf z24cc rfl rfl) rfl ?_
          obtain ⟨x29, hx30, h⟩ := Option.bind_eq_some_iff.1 h
          refine TD.ce rfl (.g rfl rfl (bn_f (decide_eq_true c28))) (.fn Try.call58 rfl) (f_r01_Same_spec x16.fParts _ _ x22.fParts _ _ _ hx30) (fun _ hs => (RX.reads_and (SrcE.old hs hX21) (SrcE.old hs hX27))) rfl [0] (rfl) ?_
          refine TD.q rfl (.g rfl rfl (bn_f (decide_eq_true c28))) (Ex.ft ft_cursitorref14_ok rfl) rfl ?_
          refine TD.q rfl .u (Ex.pn rfl (bn_f (decide_eq_true c28)) rfl) rfl ?_
          by_cases c31 : x29 = true
          · replace h := ifT c31 h
            refine TD.nil (X.seq ?_)
            refine T.no rfl (bn_f c31) ?_
            refine T.skip (X.blk (X.seq (T.region rfl ?_)))
            replace h := guard_some h
            obtain ⟨c32, h⟩ := h
            refine TL.run ft_cursitorref14_ok [0] rfl rfl ?_
            refine TL.q rfl .u (Ex.add rfl rfl c32) rfl ?_
            refine TL.run ft_cursitorref14_ok [2] rfl rfl ?_
            exact TL.nil (X.back (m' := m11) [0] (by omega) ⟨y6, k7 + 1, rfl, rfl, h⟩ (by rfl) (by rfl))
          · replace h := ifF c31 h
            replace c31 := eq_false_of_ne_true c31
            refine TD.nil (X.seq ?_)
            refine T.yes rfl (bn_t c31) ?_
            refine T.seq (T.region rfl ?_)
            refine TL.run ft_cursitorref14_ok [0] rfl rfl ?_
            obtain rfl := Option.some.inj h
            replace h := hO10
            clear hO10
            try dsimp only at h
            obtain rfl := Option.some.inj h
            exact TL.nil (X.seq (T.ret (X.rb (X.rs (X.rs (X.rb (X.rs (X.done1 [0] Try.results38 (RV.tm rfl) ⟨rfl, rfl, rfl⟩ (by rfl) (.inl rfl)))))))))
        · replace h := ifF c28 h
          refine TD.run ft_cursitorref14_ok [11] rfl rfl ?_
          refine TD.no rfl (.gn rfl rfl (bn_t (decide_eq_false c28))) rfl ?_
          refine TD.no rfl (.gn rfl rfl (bn_t (decide_eq_false c28))) rfl ?_
          refine TD.no rfl (.gn rfl rfl (bn_t (decide_eq_false c28))) rfl ?_
          refine TD.no rfl (.gn rfl rfl (bn_t (decide_eq_false c28))) rfl ?_
          refine TD.no rfl (.gn rfl rfl (bn_t (decide_eq_false c28))) rfl ?_
          refine TD.no rfl (.gn rfl rfl (bn_t (decide_eq_false c28))) rfl ?_
          refine TD.no rfl (.gn rfl rfl (bn_t (decide_eq_false c28))) rfl ?_
          refine TD.no rfl (.gn rfl rfl (bn_t (decide_eq_false c28))) rfl ?_
          refine TD.no rfl (.gn rfl rfl (bn_t (decide_eq_false c28))) rfl ?_
          refine TD.no rfl (.gn rfl rfl (bn_t (decide_eq_false c28))) rfl ?_
          refine TD.noe rfl (.gn rfl rfl (bn_t (decide_eq_false c28))) rfl [0] rfl ?_
          refine TD.no rfl (.gn rfl rfl (bn_t (decide_eq_false c28))) rfl ?_
          refine TD.q rfl .u (Ex.py rfl (bn_t (decide_eq_false c28)) rfl) rfl ?_
          refine TD.nil (X.seq ?_)
          refine T.yes rfl rfl ?_
          refine T.seq (T.region rfl ?_)
          refine TL.run ft_cursitorref14_ok [0] rfl rfl ?_
          obtain rfl := Option.some.inj h
          replace h := hO10
          clear hO10
          try dsimp only at h
          obtain rfl := Option.some.inj h
          exact TL.nil (X.seq (T.ret (X.rb (X.rs (X.rs (X.rb (X.rs (X.done1 [0] Try.results38 (RV.tm rfl) ⟨rfl, rfl, rfl⟩ (by rfl) (.inl rfl)))))))))
      · replace h := ifF c15 h
        refine TL.nil (X.seq ?_)
        refine T.no rfl (decide_eq_false c15) ?_
        obtain rfl := Option.some.inj h
        replace h := hO10
        clear hO10
        try dsimp only at h
        refine T.exit (X.exs (X.exs (X.ex (X.seq (T.seq (T.region rfl ?_))))))
        refine TL.run ft_cursitorref14_ok [0] rfl rfl ?_
        obtain rfl := Option.some.inj h
        exact TL.nil (X.seq (T.ret (X.done1 [0] Try.results38 (RV.tm rfl) ⟨rfl, rfl, rfl⟩ (by rfl) (.inl rfl))))
  · replace h := ifF c5 h
    refine TL.nil (X.seq ?_)
    refine T.yes rfl (bn_t (decide_eq_false c5)) ?_
    refine T.seq (T.region rfl ?_)
    refine TL.run ft_cursitorref14_ok [0] rfl rfl ?_
    obtain rfl := Option.some.inj h
    exact TL.nil (X.seq (T.ret (X.rs (X.done1 [0] Try.results38 (RV.tm rfl) ⟨rfl, rfl, rfl⟩ (by rfl) (.inl rfl)))))
def f_r14_Same (a0 : Val) (a1 : Val) : Option (Bool) := if a0.fProducer = a1.fProducer then (if a0.fEpoch = a1.fEpoch then (if a0.fTimeout = a1.fTimeout then (if a0.fState = a1.fState then (if a0.fUpdated = a1.fUpdated then (if a0.fStarted = a1.fStarted then ((f_r14_SameTopics a0.fTopics a1.fTopics).bind fun x13 => some x13) else some false) else some false) else some false) else some false) else some false) else some false
set_option maxRecDepth 100000 in
set_option maxHeartbeats 4000000 in
theorem f_r14_Same_spec (a0 : Val) (A1 : Option Addr) (c2 : Nat) (a1 : Val) (A3 : Option Addr) (c4 : Nat) (r : Bool) (h : f_r14_Same a0 a1 = some r) : SpecX Try.prog 16 #[.agg #[.int .i64 a0.fProducer, .int .i64 a0.fEpoch, .int .i64 a0.fTimeout, .int .i64 a0.fState, .slice A1 a0.fTopics.length c2, .int .i64 a0.fUpdated, .int .i64 a0.fStarted], .agg #[.int .i64 a1.fProducer, .int .i64 a1.fEpoch, .int .i64 a1.fTimeout, .int .i64 a1.fState, .slice A3 a1.fTopics.length c4, .int .i64 a1.fUpdated, .int .i64 a1.fStarted]] (RX.and (RX.of (sliceRd 2 Top_rd) [.slice A1 a0.fTopics.length c2] a0.fTopics) (RX.of (sliceRd 2 Top_rd) [.slice A3 a1.fTopics.length c4] a1.fTopics)) (EmpR) (fun v A' N => v = .bool r ∧ A' = EmpR ∧ N = []) := by
  refine enterA Try.func16 rfl Try.ntmps16 rfl ?_
  intro F w hX
  unfold f_r14_Same at h
  refine T.seq (T.region rfl ?_)
  refine TL.box rfl .u rfl rfl (fun b5 => ?_)
  refine TL.box rfl .u rfl rfl (fun b6 => ?_)
  refine TL.run ft_cursitorref14_ok [2] rfl rfl ?_
  refine TL.nil (X.seq (T.seq (T.region rfl ?_)))
  refine TL.rb ft_cursitorref14_ok nt_cursitorref14_ok 1 rfl 3 rfl rfl ?_
  by_cases c7 : a0.fProducer = a1.fProducer
  · replace h := ifT c7 h
    refine TL.rb ft_cursitorref14_ok nt_cursitorref14_ok 0 rfl 3 rfl rfl ?_
    refine TL.hv 10 rfl (decide_eq_true c7) ?_
    refine TL.rb ft_cursitorref14_ok nt_cursitorref14_ok 1 rfl 3 rfl rfl ?_
    by_cases c8 : a0.fEpoch = a1.fEpoch
    · replace h := ifT c8 h
      refine TL.rb ft_cursitorref14_ok nt_cursitorref14_ok 0 rfl 4 rfl rfl ?_
      refine TL.hv 17 rfl (decide_eq_true c8) ?_
      refine TL.rb ft_cursitorref14_ok nt_cursitorref14_ok 1 rfl 3 rfl rfl ?_
      by_cases c9 : a0.fTimeout = a1.fTimeout
      · replace h := ifT c9 h
        refine TL.rb ft_cursitorref14_ok nt_cursitorref14_ok 0 rfl 4 rfl rfl ?_
        refine TL.hv 24 rfl (decide_eq_true c9) ?_
        refine TL.rb ft_cursitorref14_ok nt_cursitorref14_ok 1 rfl 3 rfl rfl ?_
        by_cases c10 : a0.fState = a1.fState
        · replace h := ifT c10 h
          refine TL.rb ft_cursitorref14_ok nt_cursitorref14_ok 0 rfl 4 rfl rfl ?_
          refine TL.hv 31 rfl (decide_eq_true c10) ?_
          refine TL.rb ft_cursitorref14_ok nt_cursitorref14_ok 1 rfl 3 rfl rfl ?_
          by_cases c11 : a0.fUpdated = a1.fUpdated
          · replace h := ifT c11 h
            refine TL.rb ft_cursitorref14_ok nt_cursitorref14_ok 0 rfl 4 rfl rfl ?_
            refine TL.hv 38 rfl (decide_eq_true c11) ?_
            refine TL.rb ft_cursitorref14_ok nt_cursitorref14_ok 1 rfl 3 rfl rfl ?_
            by_cases c12 : a0.fStarted = a1.fStarted
            · replace h := ifT c12 h
              refine TL.rb ft_cursitorref14_ok nt_cursitorref14_ok 0 rfl 4 rfl rfl ?_
              refine TL.hv 45 rfl (decide_eq_true c12) ?_
              refine TL.rb ft_cursitorref14_ok nt_cursitorref14_ok 1 rfl 3 rfl rfl ?_
              obtain ⟨x13, hx14, h⟩ := Option.bind_eq_some_iff.1 h
              refine TL.rb ft_cursitorref14_ok nt_cursitorref14_ok 0 rfl 1 rfl rfl ?_
              refine TL.ce rfl (.g rfl rfl rfl) (.fn Try.call38 rfl) (f_r14_SameTopics_spec a0.fTopics _ _ a1.fTopics _ _ _ hx14) (fun _ hs => (RX.reads_and (SrcE.old hs (RX.reads_left hX)) (SrcE.old hs (RX.reads_right hX)))) rfl ?_
              refine TL.rw ft_cursitorref14_ok 2 rfl ?_
              obtain rfl := Option.some.inj h
              exact TL.nil (X.seq (T.ret (X.done1 [2] Try.results16 (RV.tm rfl) ⟨rfl, rfl, rfl⟩ (by rfl) (.inl rfl))))
            · replace h := ifF c12 h
              refine TL.rb ft_cursitorref14_ok nt_cursitorref14_ok 0 rfl 4 rfl rfl ?_
              refine TL.hv 45 rfl (decide_eq_false c12) ?_
              refine TL.rw ft_cursitorref14_ok 7 rfl ?_
              obtain rfl := Option.some.inj h
              exact TL.nil (X.seq (T.ret (X.done1 [2] Try.results16 (RV.tm rfl) ⟨rfl, rfl, rfl⟩ (by rfl) (.inl rfl))))
          · replace h := ifF c11 h
            refine TL.rb ft_cursitorref14_ok nt_cursitorref14_ok 0 rfl 4 rfl rfl ?_
            refine TL.hv 38 rfl (decide_eq_false c11) ?_
            refine TL.rw ft_cursitorref14_ok 14 rfl ?_
            obtain rfl := Option.some.inj h
            exact TL.nil (X.seq (T.ret (X.done1 [2] Try.results16 (RV.tm rfl) ⟨rfl, rfl, rfl⟩ (by rfl) (.inl rfl))))
        · replace h := ifF c10 h
          refine TL.rb ft_cursitorref14_ok nt_cursitorref14_ok 0 rfl 4 rfl rfl ?_
          refine TL.hv 31 rfl (decide_eq_false c10) ?_
          refine TL.rw ft_cursitorref14_ok 21 rfl ?_
          obtain rfl := Option.some.inj h
          exact TL.nil (X.seq (T.ret (X.done1 [2] Try.results16 (RV.tm rfl) ⟨rfl, rfl, rfl⟩ (by rfl) (.inl rfl))))
      · replace h := ifF c9 h
        refine TL.rb ft_cursitorref14_ok nt_cursitorref14_ok 0 rfl 4 rfl rfl ?_
        refine TL.hv 24 rfl (decide_eq_false c9) ?_
        refine TL.rw ft_cursitorref14_ok 28 rfl ?_
        obtain rfl := Option.some.inj h
        exact TL.nil (X.seq (T.ret (X.done1 [2] Try.results16 (RV.tm rfl) ⟨rfl, rfl, rfl⟩ (by rfl) (.inl rfl))))
    · replace h := ifF c8 h
      refine TL.rb ft_cursitorref14_ok nt_cursitorref14_ok 0 rfl 4 rfl rfl ?_
      refine TL.hv 17 rfl (decide_eq_false c8) ?_
      refine TL.rw ft_cursitorref14_ok 35 rfl ?_
      obtain rfl := Option.some.inj h
      exact TL.nil (X.seq (T.ret (X.done1 [2] Try.results16 (RV.tm rfl) ⟨rfl, rfl, rfl⟩ (by rfl) (.inl rfl))))
  · replace h := ifF c7 h
    refine TL.rb ft_cursitorref14_ok nt_cursitorref14_ok 0 rfl 3 rfl rfl ?_
    refine TL.hv 10 rfl (decide_eq_false c7) ?_
    refine TL.rw ft_cursitorref14_ok 42 rfl ?_
    obtain rfl := Option.some.inj h
    exact TL.nil (X.seq (T.ret (X.done1 [2] Try.results16 (RV.tm rfl) ⟨rfl, rfl, rfl⟩ (by rfl) (.inl rfl))))
end Go.Proofs.Ytlhgogjcaegehaa.Sl
