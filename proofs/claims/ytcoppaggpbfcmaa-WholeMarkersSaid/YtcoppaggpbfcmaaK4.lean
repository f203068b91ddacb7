/- wholeMarkers_holds: part 4. -/
import Derived.Test.YtcoppaggpbfcmaaK3
namespace Go.Proofs.Ytcoppaggpbfcmaa.Sl
open Go.RowKit
set_option linter.unusedVariables false
set_option linter.unusedSimpArgs false
set_option maxRecDepth 100000
def ft_cursitorref05 : FTab := []
theorem ft_cursitorref05_ok : (ft_cursitorref05).OK Try.prog := trivial
theorem mix_cursitorref05 : Try.prog.follows .mixedOrders = true := by kernel_rfl
theorem sok_cursitorref05_104_17 : SOK Try.prog 104 3 17 1 #[.int .i64 0, .int .i64 0, .int .i64 0, .int .i64 0, .int .i64 0, .int .i64 0, .int .i64 0, .int .i64 0, .int .i64 0, .int .i64 0, .int .i64 0, .int .i64 0, .int .i64 0, .int .i64 0, .int .i64 0, .int .i64 0, .int .i64 0] := SOK.mk Try.runUnderlying104 Try.sizeOf3 Try.zeroValue3 (by decide) (by kernel_rfl)
theorem inf_cursitorref05_3 : (Try.prog.info? 3).map (fun i => (i.zero, i.size, i.bytes)) = some (some (.int .i64 0), 1, 8) := by kernel_rfl
def f_r05_bit_l1 (a1 : Int) : Nat → Int → Nat → Option (Int × Nat)
  | 0, _, _ => none
  | m11 + 1, y6, k7 => if 0 ≤ a1 ∧ a1 ≤ 9223372036854775807 then (if (k7 : Int) < (a1 % 8) then (if 0 ≤ y6 ∧ y6 ≤ 9223372036854775807 then (if -9223372036854775808 ≤ ((k7 : Int) + 1) ∧ ((k7 : Int) + 1) ≤ 9223372036854775807 then (f_r05_bit_l1 a1 m11 (y6 / 2) (k7 + 1)) else none) else none) else some (y6, k7)) else none
def f_r05_bit (a0 : List UInt8) (a1 : Int) : Option (Int) := if 0 ≤ a1 ∧ a1 ≤ 9223372036854775807 then (if 0 ≤ (a1 / 8) then ((a0[(a1 / 8).toNat]?).bind fun ch3 => if -9223372036854775808 ≤ (ch3.toNat : Int) ∧ (ch3.toNat : Int) ≤ 9223372036854775807 then ((f_r05_bit_l1 a1 (((a1 % 8)).toNat + 1) (ch3.toNat : Int) 0).bind fun (y20, k21) => if 0 ≤ y20 ∧ y20 ≤ 9223372036854775807 then some (y20 % 2) else none) else none) else none) else none
set_option maxRecDepth 100000 in
set_option maxHeartbeats 4000000 in
theorem f_r05_bit_spec (a0 : List UInt8) (a1 : Int) (r : Int) (h : f_r05_bit a0 a1 = some r) : SpecX Try.prog 95 #[.string (bsOf a0), .int .i64 a1] .triv (EmpR) (fun v A' N => v = .int .i64 r ∧ A' = EmpR ∧ N = []) := by
  refine enterA Try.func95 rfl Try.ntmps95 rfl ?_
  intro F w hX
  unfold f_r05_bit at h
  refine T.seq (T.region rfl ?_)
  refine TL.run ft_cursitorref05_ok [0] rfl rfl ?_
  refine TL.nil (X.seq (T.seq (T.region rfl ?_)))
  replace h := guard_some h
  obtain ⟨c1, h⟩ := h
  refine TL.run ft_cursitorref05_ok [0, 1] rfl rfl ?_
  refine TL.q rfl .u (Ex.quo rfl rfl (by omega) c1) rfl ?_
  replace h := guard_some h
  obtain ⟨c2, h⟩ := h
  obtain ⟨ch3, hc4, h⟩ := Option.bind_eq_some_iff.1 h
  refine TL.q rfl .u (Ex.sIx rfl rfl ((Int.toNat_of_nonneg c2).symm) Try.underlying9 hc4) rfl ?_
  replace h := guard_some h
  obtain ⟨c5, h⟩ := h
  refine TL.q rfl .u (Ex.conv64 rfl Try.runUnderlying5 Try.runUnderlying3 c5) rfl ?_
  refine TL.run ft_cursitorref05_ok [5] rfl rfl ?_
  refine TL.nil (X.seq (T.seq (T.seq (T.region rfl ?_))))
  refine TL.run ft_cursitorref05_ok [0] rfl rfl ?_
  refine TL.nil (X.seq (T.block ?_))
  obtain ⟨E8, hE9, hO10⟩ := Option.bind_eq_some_iff.1 h
  refine T.lp (fun m e Rs => ∃ (y6 : Int) (k7 : Nat), e = [(1, .int .i64 a1), (4, .int .i64 0), (5, .int .i64 y6), (6, .int .i64 (k7 : Int))] ∧ Rs = [EmpR] ∧ f_r05_bit_l1 a1 m y6 k7 = some E8) (((a1 % 8)).toNat + 1) [0] ⟨(ch3.toNat : Int), 0, rfl, rfl, by exact hE9⟩ (by rfl) (by rfl) ?_
  rintro m11 _ _ ⟨y6, k7, rfl, rfl, hl13⟩
  clear hE9 h
  cases m11 with
  | zero =>
    rw [f_r05_bit_l1] at hl13
    cases hl13
  | succ m11 =>
    have h := hl13
    clear hl13
    rw [f_r05_bit_l1] at h
    refine T.seq (T.seq (T.region rfl ?_))
    replace h := guard_some h
    obtain ⟨c15, h⟩ := h
    refine TL.run ft_cursitorref05_ok [0, 1] rfl rfl ?_
    refine TL.q rfl .u (Ex.rem rfl rfl (by omega) c15) rfl ?_
    refine TL.run ft_cursitorref05_ok [3] rfl rfl ?_
    by_cases c16 : (k7 : Int) < (a1 % 8)
    · replace h := ifT c16 h
      refine TL.nil (X.seq ?_)
      refine T.yes rfl (decide_eq_true c16) ?_
      refine T.skip (X.seq (T.seq (T.block (T.region rfl ?_))))
      replace h := guard_some h
      obtain ⟨c17, h⟩ := h
      refine TL.run ft_cursitorref05_ok [0] rfl rfl ?_
      refine TL.q rfl .u (Ex.quo rfl rfl (by omega) c17) rfl ?_
      refine TL.run ft_cursitorref05_ok [2] rfl rfl ?_
      refine TL.nil (X.blk (X.seq (T.region rfl ?_)))
      replace h := guard_some h
      obtain ⟨c18, h⟩ := h
      refine TL.run ft_cursitorref05_ok [0] rfl rfl ?_
      refine TL.q rfl .u (Ex.add rfl rfl c18) rfl ?_
      refine TL.run ft_cursitorref05_ok [2] rfl rfl ?_
      exact TL.nil (X.back (m' := m11) [0] (by omega) ⟨(y6 / 2), k7 + 1, rfl, rfl, h⟩ (by rfl) (by rfl))
    · replace h := ifF c16 h
      refine TL.nil (X.seq ?_)
      refine T.no rfl (decide_eq_false c16) ?_
      obtain rfl := Option.some.inj h
      replace h := hO10
      clear hO10
      try dsimp only at h
      refine T.exit (X.exs (X.exs (X.ex (X.seq (T.seq (T.region rfl ?_))))))
      replace h := guard_some h
      obtain ⟨c19, h⟩ := h
      refine TL.run ft_cursitorref05_ok [0] rfl rfl ?_
      refine TL.q rfl .u (Ex.rem rfl rfl (by omega) c19) rfl ?_
      refine TL.run ft_cursitorref05_ok [2] rfl rfl ?_
      obtain rfl := Option.some.inj h
      exact TL.nil (X.seq (T.ret (X.done1 [0] Try.results95 (RV.tm rfl) ⟨rfl, rfl, rfl⟩ (by rfl) (.inl rfl))))
def f_r05_power_l1 (a0 : Int) : Nat → Int → Nat → Option (Lp Int (Int × Nat))
  | 0, _, _ => none
  | m7 + 1, y2, k3 => if (k3 : Int) < ([28, 27, 26, 25, 23, 22, 20, 19, 18, 14, 13, 11, 10, 9, 8, 6, 0].length : Int) then (([28, 27, 26, 25, 23, 22, 20, 19, 18, 14, 13, 11, 10, 9, 8, 6, 0][k3]?).bind fun x12 => if x12 = a0 then some (Lp.ret 1) else (if -9223372036854775808 ≤ ((k3 : Int) + 1) ∧ ((k3 : Int) + 1) ≤ 9223372036854775807 then (f_r05_power_l1 a0 m7 y2 (k3 + 1)) else none)) else (some (Lp.go (y2, k3)))
def f_r05_power (a0 : Int) : Option (Int) := (f_r05_power_l1 a0 ((([28, 27, 26, 25, 23, 22, 20, 19, 18, 14, 13, 11, 10, 9, 8, 6, 0].length : Int)).toNat + 1) 0 0).bind fun e => match e with | .ret r => some r | .go (y17, k18) => some 0
set_option maxRecDepth 100000 in
set_option maxHeartbeats 4000000 in
theorem f_r05_power_spec (a0 : Int) (r : Int) (h : f_r05_power a0 = some r) : SpecX Try.prog 96 #[.int .i64 a0] .triv (EmpR) (fun v A' N => v = .int .i64 r ∧ A' = EmpR ∧ N = []) := by
  refine enterA Try.func96 rfl Try.ntmps96 rfl ?_
  intro F w hX
  unfold f_r05_power at h
  refine T.seq (T.region rfl ?_)
  refine TL.run ft_cursitorref05_ok [0] rfl rfl ?_
  refine TL.nil (X.seq (T.seq (T.region rfl ?_)))
  refine TL.lit (cells := #[.int .i64 28, .int .i64 27, .int .i64 26, .int .i64 25, .int .i64 23, .int .i64 22, .int .i64 20, .int .i64 19, .int .i64 18, .int .i64 14, .int .i64 13, .int .i64 11, .int .i64 10, .int .i64 9, .int .i64 8, .int .i64 6, .int .i64 0]) rfl .u sok_cursitorref05_104_17 rfl (by kernel_rfl) rfl (fun b1 => ?_)
  refine TL.rowOf (us := [.int .i64 28, .int .i64 27, .int .i64 26, .int .i64 25, .int .i64 23, .int .i64 22, .int .i64 20, .int .i64 19, .int .i64 18, .int .i64 14, .int .i64 13, .int .i64 11, .int .i64 10, .int .i64 9, .int .i64 8, .int .i64 6, .int .i64 0]) (xs := [28, 27, 26, 25, 23, 22, 20, 19, 18, 14, 13, 11, 10, 9, 8, 6, 0]) (E := intE) (z := 1) rfl (Nat.le_of_ble_eq_true rfl) (fun _ => ⟨rfl, rfl, ⟨rfl, rfl, ⟨rfl, rfl, ⟨rfl, rfl, ⟨rfl, rfl, ⟨rfl, rfl, ⟨rfl, rfl, ⟨rfl, rfl, ⟨rfl, rfl, ⟨rfl, rfl, ⟨rfl, rfl, ⟨rfl, rfl, ⟨rfl, rfl, ⟨rfl, rfl, ⟨rfl, rfl, ⟨rfl, rfl, ⟨rfl, rfl, rfl⟩⟩⟩⟩⟩⟩⟩⟩⟩⟩⟩⟩⟩⟩⟩⟩⟩) ?_
  refine TL.run ft_cursitorref05_ok [1] rfl rfl ?_
  refine TL.nil (X.seq (T.seq (T.seq (T.region rfl ?_))))
  refine TL.run ft_cursitorref05_ok [0] rfl rfl ?_
  refine TL.nil (X.seq (T.block ?_))
  obtain ⟨E4, hE5, hO6⟩ := Option.bind_eq_some_iff.1 h
  refine T.lp (fun m e Rs => ∃ (y2 : Int) (k3 : Nat), e = [(0, .int .i64 a0), (2, .int .i64 y2), (3, .slice (some ⟨b1, 0, none⟩) 17 17), (4, .int .i64 (k3 : Int))] ∧ Rs = [OwnR 3 1 intE (.slice (some ⟨b1, 0, none⟩) 17 17) [28, 27, 26, 25, 23, 22, 20, 19, 18, 14, 13, 11, 10, 9, 8, 6, 0], EmpR] ∧ f_r05_power_l1 a0 m y2 k3 = some E4) ((([28, 27, 26, 25, 23, 22, 20, 19, 18, 14, 13, 11, 10, 9, 8, 6, 0].length : Int)).toNat + 1) [0, 0] ⟨0, 0, rfl, rfl, by exact hE5⟩ (by rfl) (by rfl) ?_
  rintro m7 _ _ ⟨y2, k3, rfl, rfl, hl9⟩
  clear hE5 h
  cases m7 with
  | zero =>
    rw [f_r05_power_l1] at hl9
    cases hl9
  | succ m7 =>
    have h := hl9
    clear hl9
    rw [f_r05_power_l1] at h
    refine T.seq (T.seq (T.region rfl ?_))
    refine TL.run ft_cursitorref05_ok [0, 1] rfl rfl ?_
    refine TL.q rfl .u (Ex.lenS rfl Try.runUnderlying104) rfl ?_
    refine TL.run ft_cursitorref05_ok [3] rfl rfl ?_
    by_cases c11 : (k3 : Int) < ([28, 27, 26, 25, 23, 22, 20, 19, 18, 14, 13, 11, 10, 9, 8, 6, 0].length : Int)
    · replace h := ifT c11 h
      refine TL.nil (X.seq ?_)
      refine T.yes rfl (decide_eq_true c11) ?_
      refine T.skip (X.seq (T.seq (T.block (T.seq (T.region rfl ?_)))))
      obtain ⟨x12, hx13, h⟩ := Option.bind_eq_some_iff.1 h
      refine TL.run ft_cursitorref05_ok [0, 1] rfl rfl ?_
      refine TL.foc (E := intE) (k := k3) 0 rfl (fun w G h => own_reads (by decide) w G h) (by decide) hx13 ?_
      rintro gg oo z14cs hA z14cl ⟨_, _, z14r⟩
      cases hA
      obtain rfl : z14cs = [.int .i64 x12] := z14r
      clear z14cl
      refine TL.sel [0, 0] rfl ?_
      refine TL.q rfl .u (Ex.ixS (k := k3) rfl rfl rfl Try.runUnderlying104 Try.sizeOf3 (List.getElem?_eq_some_iff.1 hx13).1) rfl ?_
      refine TL.q rfl .u (Ex.k1 (cs := [.int .i64 x12]) 0 0 rfl Try.isAgg3 rfl (fun _ _ h => h.2.2.1) rfl) rfl ?_
      refine TL.run ft_cursitorref05_ok [4, 5] rfl rfl ?_
      by_cases c15 : x12 = a0
      · replace h := ifT c15 h
        refine TL.nil (X.seq ?_)
        refine T.yes rfl (decide_eq_true c15) ?_
        refine T.seq (T.region rfl ?_)
        refine TL.run ft_cursitorref05_ok [0] rfl rfl ?_
        obtain rfl := Option.some.inj h
        replace h := hO6
        clear hO6
        try dsimp only at h
        obtain rfl := Option.some.inj h
        exact TL.nil (X.seq (T.ret (X.rb (X.rs (X.rs (X.rb (X.rs (X.done1 [1] Try.results96 (RV.tm rfl) ⟨rfl, rfl, rfl⟩ (by rfl) (.inl rfl)))))))))
      · replace h := ifF c15 h
        refine TL.nil (X.seq ?_)
        refine T.no rfl (decide_eq_false c15) ?_
        refine T.skip (X.blk (X.seq (T.region rfl ?_)))
        replace h := guard_some h
        obtain ⟨c16, h⟩ := h
        refine TL.run ft_cursitorref05_ok [0] rfl rfl ?_
        refine TL.q rfl .u (Ex.add rfl rfl c16) rfl ?_
        refine TL.run ft_cursitorref05_ok [2] rfl rfl ?_
        refine TL.nil ?_
        refine X.unf 0 rfl ?_
        refine X.sel [0, 0] rfl ?_
        exact X.back (m' := m7) [0, 0] (by omega) ⟨y2, k3 + 1, rfl, rfl, h⟩ (by rfl) (by rfl)
    · replace h := ifF c11 h
      refine TL.nil (X.seq ?_)
      refine T.no rfl (decide_eq_false c11) ?_
      obtain rfl := Option.some.inj h
      replace h := hO6
      clear hO6
      try dsimp only at h
      refine T.exit (X.exs (X.exs (X.ex (X.seq (T.seq (T.region rfl ?_))))))
      refine TL.run ft_cursitorref05_ok [0] rfl rfl ?_
      obtain rfl := Option.some.inj h
      exact TL.nil (X.seq (T.ret (X.done1 [1] Try.results96 (RV.tm rfl) ⟨rfl, rfl, rfl⟩ (by rfl) (.inl rfl))))
def f_r05_Sum_l4 (k43 : Nat) : Nat → List Int → Int → Option (List Int × Int)
  | 0, _, _ => none
  | m63 + 1, y56, y59 => if y59 ≤ 32 then (if 0 ≤ ((k43 : Int) + y59) then ((y56[((k43 : Int) + y59).toNat]?).bind fun x69 => if -9223372036854775808 ≤ ((k43 : Int) + y59) ∧ ((k43 : Int) + y59) ≤ 9223372036854775807 then (if -9223372036854775808 ≤ ((k43 : Int) + y59) ∧ ((k43 : Int) + y59) ≤ 9223372036854775807 then (if -9223372036854775808 ≤ (32 - y59) ∧ (32 - y59) ≤ 9223372036854775807 then ((f_r05_power (32 - y59)).bind fun x75 => if -9223372036854775808 ≤ (x69 + x75) ∧ (x69 + x75) ≤ 9223372036854775807 then (if 0 ≤ (x69 + x75) ∧ (x69 + x75) ≤ 9223372036854775807 then (if -9223372036854775808 ≤ (y59 + 1) ∧ (y59 + 1) ≤ 9223372036854775807 then (f_r05_Sum_l4 k43 m63 (y56.set (((k43 : Int) + y59).toNat) ((x69 + x75) % 2)) (y59 + 1)) else none) else none) else none) else none) else none) else none) else none) else some (y56, y59)
def f_r05_Sum_l5 (a0 : List UInt8) (y40 : List Int) : Nat → Int → Int → Option (Int × Int)
  | 0, _, _ => none
  | m92 + 1, y87, y88 => if y88 ≥ 0 then (if -9223372036854775808 ≤ ((8 * (a0.length : Int)) + y88) ∧ ((8 * (a0.length : Int)) + y88) ≤ 9223372036854775807 then (if 0 ≤ ((8 * (a0.length : Int)) + y88) then ((y40[((8 * (a0.length : Int)) + y88).toNat]?).bind fun x99 => if -9223372036854775808 ≤ (1 - x99) ∧ (1 - x99) ≤ 9223372036854775807 then (if -9223372036854775808 ≤ (y88 - 1) ∧ (y88 - 1) ≤ 9223372036854775807 then (f_r05_Sum_l5 a0 y40 m92 (IntKind.u32.wrap ((IntKind.u32.wrap (y87 * 2)) + (IntKind.u32.wrap (1 - x99)))) (y88 - 1)) else none) else none) else none) else none) else some (y87, y88)
def f_r05_Sum_l3 (a0 : List UInt8) : Nat → List Int → Nat → Option (List Int × Nat)
  | 0, _, _ => none
  | m47 + 1, y40, k43 => if (k43 : Int) < (8 * (a0.length : Int)) then ((y40[k43]?).bind fun x52 => if x52 = 1 then ((f_r05_Sum_l4 k43 (((33 : Int) - (1)).toNat + 1) y40 1).bind fun (y81, y84) => if -9223372036854775808 ≤ ((k43 : Int) + 1) ∧ ((k43 : Int) + 1) ≤ 9223372036854775807 then (f_r05_Sum_l3 a0 m47 y81 (k43 + 1)) else none) else (if -9223372036854775808 ≤ ((k43 : Int) + 1) ∧ ((k43 : Int) + 1) ≤ 9223372036854775807 then (f_r05_Sum_l3 a0 m47 y40 (k43 + 1)) else none)) else some (y40, k43)
def f_r05_Sum_l2 : Nat → List Int → Nat → Option (List Int × Nat)
  | 0, _, _ => none
  | m30 + 1, y23, k26 => if (k26 : Int) < 32 then ((y23[k26]?).bind fun x35 => if -9223372036854775808 ≤ (1 - x35) ∧ (1 - x35) ≤ 9223372036854775807 then (if -9223372036854775808 ≤ ((k26 : Int) + 1) ∧ ((k26 : Int) + 1) ≤ 9223372036854775807 then (f_r05_Sum_l2 m30 (y23.set k26 (1 - x35)) (k26 + 1)) else none) else none) else some (y23, k26)
def f_r05_Sum_l1 (a0 : List UInt8) : Nat → List Int → Nat → Option (List Int × Nat)
  | 0, _, _ => none
  | m12 + 1, y5, k8 => if (k8 : Int) < (8 * (a0.length : Int)) then ((f_r05_bit a0 (k8 : Int)).bind fun x17 => (y5[k8]?).bind fun x19 => if -9223372036854775808 ≤ ((k8 : Int) + 1) ∧ ((k8 : Int) + 1) ≤ 9223372036854775807 then (f_r05_Sum_l1 a0 m12 (y5.set k8 x17) (k8 + 1)) else none) else some (y5, k8)
def f_r05_Sum (a0 : List UInt8) : Option (Int) := if -9223372036854775808 ≤ (8 * (a0.length : Int)) ∧ (8 * (a0.length : Int)) ≤ 9223372036854775807 then (if -9223372036854775808 ≤ ((8 * (a0.length : Int)) + 32) ∧ ((8 * (a0.length : Int)) + 32) ≤ 9223372036854775807 then (if 0 ≤ ((8 * (a0.length : Int)) + 32) ∧ 8 * (((8 * (a0.length : Int)) + 32).toNat) ≤ 281474976710656 then ((f_r05_Sum_l1 a0 (((8 * (a0.length : Int))).toNat + 1) (List.replicate (((8 * (a0.length : Int)) + 32).toNat) (0 : Int)) 0).bind fun (y222, k225) => (f_r05_Sum_l2 ((32 : Int).toNat + 1) y222 0).bind fun (y332, k335) => (f_r05_Sum_l3 a0 (((8 * (a0.length : Int))).toNat + 1) y332 0).bind fun (y402, k405) => (f_r05_Sum_l5 a0 y402 (((31 : Int) - (-1)).toNat + 1) 0 31).bind fun (y423, y424) => some y423) else none) else none) else none
set_option maxRecDepth 100000 in
set_option maxHeartbeats 4000000 in
theorem f_r05_Sum_spec (a0 : List UInt8) (r : Int) (h : f_r05_Sum a0 = some r) : SpecX Try.prog 53 #[.string (bsOf a0)] .triv (EmpR) (fun v A' N => v = .int .u32 r ∧ A' = EmpR ∧ N = []) := by
  refine enterA Try.func53 rfl Try.ntmps53 rfl ?_
  intro F w hX
  unfold f_r05_Sum at h
  refine T.seq (T.region rfl ?_)
  refine TL.run ft_cursitorref05_ok [0] rfl rfl ?_
  refine TL.nil (X.seq (T.seq (T.region rfl ?_)))
  refine TL.run ft_cursitorref05_ok [0] rfl rfl ?_
  refine TL.q rfl .u (Ex.lenB rfl Try.runUnderlying9) rfl ?_
  replace h := guard_some h
  obtain ⟨c1, h⟩ := h
  refine TL.q rfl .u (Ex.mul rfl rfl c1) rfl ?_
  refine TL.run ft_cursitorref05_ok [3] rfl rfl ?_
  refine TL.nil (X.seq (T.seq (T.region rfl ?_)))
  replace h := guard_some h
  obtain ⟨c2, h⟩ := h
  refine TL.run ft_cursitorref05_ok [0] rfl rfl ?_
  refine TL.q rfl .u (Ex.add rfl rfl c2) rfl ?_
  replace h := guard_some h
  obtain ⟨c3, h⟩ := h
  refine TL.mk1 (k := ((8 * (a0.length : Int)) + 32).toNat) (v := .int .i64 0) intE (0 : Int) rfl .u Try.underlying104 inf_cursitorref05_3 rfl rfl (Int.toNat_of_nonneg c3.1).symm c3.2 (by have hq := c3.2; omega) (fun _ _ => rfl) rfl (fun b4 => ?_)
  refine TL.run ft_cursitorref05_ok [3] rfl rfl ?_
  refine TL.nil (X.seq (T.seq (T.seq (T.region rfl ?_))))
  refine TL.run ft_cursitorref05_ok [0] rfl rfl ?_
  refine TL.nil (X.seq (T.block ?_))
  obtain ⟨E9, hE10, hO11⟩ := Option.bind_eq_some_iff.1 h
  refine T.lp (fun m e Rs => ∃ (y5 : List Int) (A6 : Option Addr) (c7 : Nat) (k8 : Nat), e = [(0, .string (bsOf a0)), (2, .int .u32 0), (3, .int .i64 (8 * (a0.length : Int))), (4, .slice A6 y5.length c7), (5, .int .i64 (k8 : Int))] ∧ Rs = [OwnR 3 1 intE (.slice A6 y5.length c7) y5, EmpR] ∧ f_r05_Sum_l1 a0 m y5 k8 = some E9) (((8 * (a0.length : Int))).toNat + 1) [0, 0] ⟨(List.replicate (((8 * (a0.length : Int)) + 32).toNat) (0 : Int)), (some ⟨b4, 0, none⟩), (List.replicate (((8 * (a0.length : Int)) + 32).toNat) (0 : Int)).length, 0, rfl, rfl, by exact hE10⟩ (by rfl) (by rfl) ?_
  rintro m12 _ _ ⟨y5, A6, c7, k8, rfl, rfl, hl14⟩
  clear hE10 h
  cases m12 with
  | zero =>
    rw [f_r05_Sum_l1] at hl14
    cases hl14
  | succ m12 =>
    have h := hl14
    clear hl14
    rw [f_r05_Sum_l1] at h
    refine T.seq (T.seq (T.region rfl ?_))
    refine TL.run ft_cursitorref05_ok [0, 1, 2] rfl rfl ?_
    by_cases c16 : (k8 : Int) < (8 * (a0.length : Int))
    · replace h := ifT c16 h
      refine TL.nil (X.seq ?_)
      refine T.yes rfl (decide_eq_true c16) ?_
      refine T.skip (X.seq (T.seq (T.block (T.region rfl ?_))))
      obtain ⟨x17, hx18, h⟩ := Option.bind_eq_some_iff.1 h
      refine TL.run ft_cursitorref05_ok [0, 1, 2, 3] rfl rfl ?_
      refine TL.ce rfl .u (.fn Try.call95 rfl) (f_r05_bit_spec a0 (k8 : Int) _ hx18) (fun _ hs => (RX.reads_triv _ _)) rfl ?_
      obtain ⟨x19, hx20, h⟩ := Option.bind_eq_some_iff.1 h
      refine TL.foc (E := intE) (k := k8) 0 rfl (fun w G h => own_reads (by decide) w G h) (by decide) hx20 ?_
      rintro gz21 oz21 z21cs hA z21cl ⟨_, _, z21r⟩
      cases hA
      obtain rfl : z21cs = [.int .i64 x19] := z21r
      clear z21cl
      refine TL.sel [0, 0] rfl ?_
      refine TL.q rfl .u (Ex.ixS (k := k8) rfl rfl rfl Try.runUnderlying104 Try.sizeOf3 (List.getElem?_eq_some_iff.1 hx20).1) rfl ?_
      refine TL.unf 0 rfl ?_
      refine TL.sel [0, 0] rfl ?_
      refine TL.stE (k := k8) (u := x19) (u' := x17) 0 0 rfl .u rfl rfl Try.sizeOf3 rfl hx20 rfl rfl rfl rfl (fun _ _ _ _ h => by subst h; rfl) ?_
      refine TL.sel [0, 0] rfl ?_
      rw [show y5.length = (y5.set k8 x17).length from (List.length_set ..).symm]
      refine TL.nil (X.blk (X.seq (T.region rfl ?_)))
      replace h := guard_some h
      obtain ⟨c22, h⟩ := h
      refine TL.run ft_cursitorref05_ok [0] rfl rfl ?_
      refine TL.q rfl .u (Ex.add rfl rfl c22) rfl ?_
      refine TL.run ft_cursitorref05_ok [2] rfl rfl ?_
      exact TL.nil (X.back (m' := m12) [0, 0] (by omega) ⟨(y5.set k8 x17), (some ⟨gz21, oz21, none⟩), c7, k8 + 1, rfl, rfl, h⟩ (by rfl) (by rfl))
    · replace h := ifF c16 h
      refine TL.nil (X.seq ?_)
      refine T.no rfl (decide_eq_false c16) ?_
      obtain rfl := Option.some.inj h
      replace h := hO11
      clear hO11
      try dsimp only at h
      refine T.exit (X.exs (X.exs (X.ex (X.seq (T.seq (T.seq (T.region rfl ?_)))))))
      refine TL.run ft_cursitorref05_ok [0] rfl rfl ?_
      refine TL.nil (X.seq (T.block ?_))
      obtain ⟨E27, hE28, hO29⟩ := Option.bind_eq_some_iff.1 h
      refine T.lp (fun m e Rs => ∃ (y23 : List Int) (A24 : Option Addr) (c25 : Nat) (k26 : Nat), e = [(2, .int .u32 0), (3, .int .i64 (8 * (a0.length : Int))), (4, .slice A24 y23.length c25), (6, .int .i64 (k26 : Int))] ∧ Rs = [OwnR 3 1 intE (.slice A24 y23.length c25) y23, EmpR] ∧ f_r05_Sum_l2 m y23 k26 = some E27) ((32 : Int).toNat + 1) [0, 0] ⟨y5, A6, c7, 0, rfl, rfl, by exact hE28⟩ (by rfl) (by rfl) ?_
      rintro m30 _ _ ⟨y23, A24, c25, k26, rfl, rfl, hl32⟩
      clear hE28 h
      cases m30 with
      | zero =>
        rw [f_r05_Sum_l2] at hl32
        cases hl32
      | succ m30 =>
        have h := hl32
        clear hl32
        rw [f_r05_Sum_l2] at h
        refine T.seq (T.seq (T.region rfl ?_))
        refine TL.run ft_cursitorref05_ok [0, 1] rfl rfl ?_
        by_cases c34 : (k26 : Int) < 32
        · replace h := ifT c34 h
          refine TL.nil (X.seq ?_)
          refine T.yes rfl (decide_eq_true c34) ?_
          refine T.skip (X.seq (T.seq (T.block (T.region rfl ?_))))
          obtain ⟨x35, hx36, h⟩ := Option.bind_eq_some_iff.1 h
          refine TL.run ft_cursitorref05_ok [0, 1, 2, 3] rfl rfl ?_
          refine TL.foc (E := intE) (k := k26) 0 rfl (fun w G h => own_reads (by decide) w G h) (by decide) hx36 ?_
          rintro gz37 oz37 z37cs hA z37cl ⟨_, _, z37r⟩
          cases hA
          obtain rfl : z37cs = [.int .i64 x35] := z37r
          clear z37cl
          refine TL.sel [0, 0] rfl ?_
          refine TL.q rfl .u (Ex.ixS (k := k26) rfl rfl rfl Try.runUnderlying104 Try.sizeOf3 (List.getElem?_eq_some_iff.1 hx36).1) rfl ?_
          refine TL.q rfl .u (Ex.k1 (cs := [.int .i64 x35]) 0 0 rfl Try.isAgg3 rfl (fun _ _ h => h.2.2.1) rfl) rfl ?_
          replace h := guard_some h
          obtain ⟨c38, h⟩ := h
          refine TL.q rfl .u (Ex.sub rfl rfl c38) rfl ?_
          refine TL.q rfl .u (Ex.ixS (k := k26) rfl rfl rfl Try.runUnderlying104 Try.sizeOf3 (List.getElem?_eq_some_iff.1 hx36).1) rfl ?_
          refine TL.unf 0 rfl ?_
          refine TL.sel [0, 0] rfl ?_
          refine TL.stE (k := k26) (u := x35) (u' := (1 - x35)) 0 0 rfl .u rfl rfl Try.sizeOf3 rfl hx36 rfl rfl rfl rfl (fun _ _ _ _ h => by subst h; rfl) ?_
          refine TL.sel [0, 0] rfl ?_
          rw [show y23.length = (y23.set k26 (1 - x35)).length from (List.length_set ..).symm]
          refine TL.nil (X.blk (X.seq (T.region rfl ?_)))
          replace h := guard_some h
          obtain ⟨c39, h⟩ := h
          refine TL.run ft_cursitorref05_ok [0] rfl rfl ?_
          refine TL.q rfl .u (Ex.add rfl rfl c39) rfl ?_
          refine TL.run ft_cursitorref05_ok [2] rfl rfl ?_
          exact TL.nil (X.back (m' := m30) [0, 0] (by omega) ⟨(y23.set k26 (1 - x35)), (some ⟨gz37, oz37, none⟩), c25, k26 + 1, rfl, rfl, h⟩ (by rfl) (by rfl))
        · replace h := ifF c34 h
          refine TL.nil (X.seq ?_)
          refine T.no rfl (decide_eq_false c34) ?_
          obtain rfl := Option.some.inj h
          replace h := hO29
          clear hO29
          try dsimp only at h
          refine T.exit (X.exs (X.exs (X.ex (X.seq (T.seq (T.seq (T.region rfl ?_)))))))
          refine TL.run ft_cursitorref05_ok [0] rfl rfl ?_
          refine TL.nil (X.seq (T.block ?_))
          obtain ⟨E44, hE45, hO46⟩ := Option.bind_eq_some_iff.1 h
          refine T.lp (fun m e Rs => ∃ (y40 : List Int) (A41 : Option Addr) (c42 : Nat) (k43 : Nat), e = [(2, .int .u32 0), (3, .int .i64 (8 * (a0.length : Int))), (4, .slice A41 y40.length c42), (7, .int .i64 (k43 : Int))] ∧ Rs = [OwnR 3 1 intE (.slice A41 y40.length c42) y40, EmpR] ∧ f_r05_Sum_l3 a0 m y40 k43 = some E44) (((8 * (a0.length : Int))).toNat + 1) [0, 0] ⟨y23, A24, c25, 0, rfl, rfl, by exact hE45⟩ (by rfl) (by rfl) ?_
          rintro m47 _ _ ⟨y40, A41, c42, k43, rfl, rfl, hl49⟩
          clear hE45 h
          cases m47 with
          | zero =>
            rw [f_r05_Sum_l3] at hl49
            cases hl49
          | succ m47 =>
            have h := hl49
            clear hl49
            rw [f_r05_Sum_l3] at h
            refine T.seq (T.seq (T.region rfl ?_))
            refine TL.run ft_cursitorref05_ok [0, 1, 2] rfl rfl ?_
            by_cases c51 : (k43 : Int) < (8 * (a0.length : Int))
            · replace h := ifT c51 h
              refine TL.nil (X.seq ?_)
              refine T.yes rfl (decide_eq_true c51) ?_
              refine T.skip (X.seq (T.seq (T.block (T.seq (T.region rfl ?_)))))
              obtain ⟨x52, hx53, h⟩ := Option.bind_eq_some_iff.1 h
              refine TL.run ft_cursitorref05_ok [0, 1] rfl rfl ?_
              refine TL.foc (E := intE) (k := k43) 0 rfl (fun w G h => own_reads (by decide) w G h) (by decide) hx53 ?_
              rintro gz54 oz54 z54cs hA z54cl ⟨_, _, z54r⟩
              cases hA
              obtain rfl : z54cs = [.int .i64 x52] := z54r
              clear z54cl
              refine TL.sel [0, 0] rfl ?_
              refine TL.q rfl .u (Ex.ixS (k := k43) rfl rfl rfl Try.runUnderlying104 Try.sizeOf3 (List.getElem?_eq_some_iff.1 hx53).1) rfl ?_
              refine TL.q rfl .u (Ex.k1 (cs := [.int .i64 x52]) 0 0 rfl Try.isAgg3 rfl (fun _ _ h => h.2.2.1) rfl) rfl ?_
              refine TL.run ft_cursitorref05_ok [4] rfl rfl ?_
              by_cases c55 : x52 = 1
              · replace h := ifT c55 h
                refine TL.nil (X.seq ?_)
                refine T.yes rfl (decide_eq_true c55) ?_
                refine T.seq (T.region rfl ?_)
                refine TL.run ft_cursitorref05_ok [0] rfl rfl ?_
                refine TL.nil (X.seq (T.block ?_))
                refine T.unf 0 rfl ?_
                refine T.sel [0, 0] rfl ?_
                obtain ⟨E60, hE61, hO62⟩ := Option.bind_eq_some_iff.1 h
                refine T.lp (fun m e Rs => ∃ (y56 : List Int) (A57 : Option Addr) (c58 : Nat) (y59 : Int), e = [(2, .int .u32 0), (3, .int .i64 (8 * (a0.length : Int))), (4, .slice A57 y56.length c58), (7, .int .i64 (k43 : Int)), (8, .int .i64 y59)] ∧ Rs = [OwnR 3 1 intE (.slice A57 y56.length c58) y56, EmpR] ∧ f_r05_Sum_l4 k43 m y56 y59 = some E60) (((33 : Int) - (1)).toNat + 1) [0, 0] ⟨y40, (some ⟨gz54, oz54, none⟩), c42, 1, rfl, rfl, by exact hE61⟩ (by rfl) (by rfl) ?_
                rintro m63 _ _ ⟨y56, A57, c58, y59, rfl, rfl, hl65⟩
                clear hE61 h
                cases m63 with
                | zero =>
                  rw [f_r05_Sum_l4] at hl65
                  cases hl65
                | succ m63 =>
                  have h := hl65
                  clear hl65
                  rw [f_r05_Sum_l4] at h
                  refine T.seq (T.seq (T.region rfl ?_))
                  refine TL.run ft_cursitorref05_ok [0, 1] rfl rfl ?_
                  by_cases c67 : y59 ≤ 32
                  · replace h := ifT c67 h
                    refine TL.nil (X.seq ?_)
                    refine T.yes rfl (decide_eq_true c67) ?_
                    replace h := guard_some h
                    obtain ⟨c68, h⟩ := h
                    obtain ⟨x69, hx70, h⟩ := Option.bind_eq_some_iff.1 h
                    refine T.skip (X.seq (T.seq (T.block ?_)))
                    refine T.foc (E := intE) (k := ((k43 : Int) + y59).toNat) 0 rfl (fun w G h => own_reads (by decide) w G h) (by decide) hx70 ?_
                    rintro gz71 oz71 z71cs hA z71cl ⟨_, _, z71r⟩
                    cases hA
                    obtain rfl : z71cs = [.int .i64 x69] := z71r
                    clear z71cl
                    refine T.sel [0, 0] rfl ?_
                    replace h := guard_some h
                    obtain ⟨c72, h⟩ := h
                    replace h := guard_some h
                    obtain ⟨c73, h⟩ := h
                    replace h := guard_some h
                    obtain ⟨c74, h⟩ := h
                    obtain ⟨x75, hx76, h⟩ := Option.bind_eq_some_iff.1 h
                    replace h := guard_some h
                    obtain ⟨c77, h⟩ := h
                    replace h := guard_some h
                    obtain ⟨c78, h⟩ := h
                    refine T.join (fun e Rs => e = [(2, .int .u32 0), (3, .int .i64 (8 * (a0.length : Int))), (4, .slice (some ⟨gz71, oz71, none⟩) (y56.set (((k43 : Int) + y59).toNat) ((x69 + x75) % 2)).length c58), (7, .int .i64 (k43 : Int)), (8, .int .i64 y59), (50, .int .i64 y59)] ∧ Rs = [OwnR 3 1 intE (.slice (some ⟨gz71, oz71, none⟩) (y56.set (((k43 : Int) + y59).toNat) ((x69 + x75) % 2)).length c58) (y56.set (((k43 : Int) + y59).toNat) ((x69 + x75) % 2)), EmpR]) ?_ ?_
                    · refine T.draw (.q 0 (.q 1 (.q 2 (.q 3 (.q 4 (.q 5 (.q 6 (.q 7 (.q 8 (.q 10 (.q 11 (.br 9 (.e 12 (.q 13 (.q 14 (.q 15 (.e 16 .nil))))) (.e 12 (.e 9 (.q 13 (.q 14 (.q 15 (.e 16 .nil)))))))))))))))))) [1] rfl mix_cursitorref05 np_jq (by kernel_rfl) ?_
                      refine TD.run ft_cursitorref05_ok [0, 1, 2] rfl rfl ?_
                      refine TD.q rfl .u (Ex.add rfl rfl c72) rfl ?_
                      refine TD.run ft_cursitorref05_ok [4, 5, 6] rfl rfl ?_
                      refine TD.q rfl .u (Ex.add rfl rfl c73) rfl ?_
                      refine TD.q rfl .u (Ex.ixS (k := ((k43 : Int) + y59).toNat) rfl rfl ((Int.toNat_of_nonneg c68).symm) Try.runUnderlying104 Try.sizeOf3 (List.getElem?_eq_some_iff.1 hx70).1) rfl ?_
                      refine TD.run ft_cursitorref05_ok [10] rfl rfl ?_
                      refine TD.q rfl .u (Ex.sub rfl rfl c74) rfl ?_
                      refine TD.br ?_ ?_
                      · refine TD.ny rfl .u (Ex.k1 (cs := [.int .i64 x69]) 0 0 rfl Try.isAgg3 rfl (fun _ _ h => h.2.2.1) rfl) rfl [1] rfl ?_
                        refine TD.ce rfl .u (.fn Try.call96 rfl) (f_r05_power_spec (32 - y59) _ hx76) (fun _ hs => (RX.reads_triv _ _)) rfl [1] (rfl) ?_
                        refine TD.q rfl .u (Ex.add rfl rfl c77) rfl ?_
                        refine TD.q rfl .u (Ex.rem rfl rfl (by omega) c78) rfl ?_
                        refine TD.q rfl .u (Ex.ixS (k := ((k43 : Int) + y59).toNat) rfl rfl ((Int.toNat_of_nonneg c68).symm) Try.runUnderlying104 Try.sizeOf3 (List.getElem?_eq_some_iff.1 hx70).1) rfl ?_
                        refine TD.unf 0 rfl ?_
                        refine TD.sel [0, 0] rfl ?_
                        refine TD.stE (k := ((k43 : Int) + y59).toNat) (u := x69) (u' := ((x69 + x75) % 2)) 0 0 rfl .u rfl rfl Try.sizeOf3 rfl hx70 rfl rfl rfl rfl (fun _ _ _ _ h => by subst h; rfl) [1] (rfl) ?_
                        refine TD.sel [0, 0] rfl ?_
                        rw [show y56.length = (y56.set (((k43 : Int) + y59).toNat) ((x69 + x75) % 2)).length from (List.length_set ..).symm]
                        exact TD.nil (X.jn [0, 0] ⟨rfl, rfl⟩ (by rfl) (by rfl))
                      · refine TD.ce rfl .u (.fn Try.call96 rfl) (f_r05_power_spec (32 - y59) _ hx76) (fun _ hs => (RX.reads_triv _ _)) rfl [1] (rfl) ?_
                        refine TD.ny rfl .u (Ex.k1 (cs := [.int .i64 x69]) 0 0 rfl Try.isAgg3 rfl (fun _ _ h => h.2.2.1) rfl) rfl [1] rfl ?_
                        refine TD.q rfl .u (Ex.add rfl rfl c77) rfl ?_
                        refine TD.q rfl .u (Ex.rem rfl rfl (by omega) c78) rfl ?_
                        refine TD.q rfl .u (Ex.ixS (k := ((k43 : Int) + y59).toNat) rfl rfl ((Int.toNat_of_nonneg c68).symm) Try.runUnderlying104 Try.sizeOf3 (List.getElem?_eq_some_iff.1 hx70).1) rfl ?_
                        refine TD.unf 0 rfl ?_
                        refine TD.sel [0, 0] rfl ?_
                        refine TD.stE (k := ((k43 : Int) + y59).toNat) (u := x69) (u' := ((x69 + x75) % 2)) 0 0 rfl .u rfl rfl Try.sizeOf3 rfl hx70 rfl rfl rfl rfl (fun _ _ _ _ h => by subst h; rfl) [1] (rfl) ?_
                        refine TD.sel [0, 0] rfl ?_
                        rw [show y56.length = (y56.set (((k43 : Int) + y59).toNat) ((x69 + x75) % 2)).length from (List.length_set ..).symm]
                        exact TD.nil (X.jn [0, 0] ⟨rfl, rfl⟩ (by rfl) (by rfl))
                    · rintro _ _ ⟨rfl, rfl⟩
                      refine X.blk (X.seq (T.region rfl ?_))
                      replace h := guard_some h
                      obtain ⟨c79, h⟩ := h
                      refine TL.run ft_cursitorref05_ok [0] rfl rfl ?_
                      refine TL.q rfl .u (Ex.add rfl rfl c79) rfl ?_
                      refine TL.run ft_cursitorref05_ok [2] rfl rfl ?_
                      exact TL.nil (X.back (m' := m63) [0, 0] (by omega) ⟨(y56.set (((k43 : Int) + y59).toNat) ((x69 + x75) % 2)), (some ⟨gz71, oz71, none⟩), c58, (y59 + 1), rfl, rfl, h⟩ (by rfl) (by rfl))
                  · replace h := ifF c67 h
                    refine TL.nil (X.seq ?_)
                    refine T.no rfl (decide_eq_false c67) ?_
                    obtain rfl := Option.some.inj h
                    replace h := hO62
                    clear hO62
                    try dsimp only at h
                    refine T.exit (X.exs (X.exs (X.ex (X.blk (X.seq (T.region rfl ?_))))))
                    replace h := guard_some h
                    obtain ⟨c80, h⟩ := h
                    refine TL.run ft_cursitorref05_ok [0] rfl rfl ?_
                    refine TL.q rfl .u (Ex.add rfl rfl c80) rfl ?_
                    refine TL.run ft_cursitorref05_ok [2] rfl rfl ?_
                    exact TL.nil (X.back (m' := m47) [0, 0] (by omega) ⟨y56, A57, c58, k43 + 1, rfl, rfl, h⟩ (by rfl) (by rfl))
              · replace h := ifF c55 h
                refine TL.nil (X.seq ?_)
                refine T.no rfl (decide_eq_false c55) ?_
                refine T.skip (X.blk (X.seq (T.region rfl ?_)))
                replace h := guard_some h
                obtain ⟨c86, h⟩ := h
                refine TL.run ft_cursitorref05_ok [0] rfl rfl ?_
                refine TL.q rfl .u (Ex.add rfl rfl c86) rfl ?_
                refine TL.run ft_cursitorref05_ok [2] rfl rfl ?_
                refine TL.nil ?_
                refine X.unf 0 rfl ?_
                refine X.sel [0, 0] rfl ?_
                exact X.back (m' := m47) [0, 0] (by omega) ⟨y40, (some ⟨gz54, oz54, none⟩), c42, k43 + 1, rfl, rfl, h⟩ (by rfl) (by rfl)
            · replace h := ifF c51 h
              refine TL.nil (X.seq ?_)
              refine T.no rfl (decide_eq_false c51) ?_
              obtain rfl := Option.some.inj h
              replace h := hO46
              clear hO46
              try dsimp only at h
              refine T.exit (X.exs (X.exs (X.ex (X.seq (T.seq (T.region rfl ?_))))))
              refine TL.run ft_cursitorref05_ok [0] rfl rfl ?_
              refine TL.nil (X.seq (T.seq (T.seq (T.region rfl ?_))))
              refine TL.run ft_cursitorref05_ok [0] rfl rfl ?_
              refine TL.nil (X.seq (T.block ?_))
              obtain ⟨E89, hE90, hO91⟩ := Option.bind_eq_some_iff.1 h
              refine T.lp (fun m e Rs => ∃ (y87 : Int) (y88 : Int), e = [(2, .int .u32 0), (3, .int .i64 (8 * (a0.length : Int))), (4, .slice A41 y40.length c42), (9, .int .u32 y87), (10, .int .i64 y88)] ∧ Rs = [OwnR 3 1 intE (.slice A41 y40.length c42) y40, EmpR] ∧ f_r05_Sum_l5 a0 y40 m y87 y88 = some E89) (((31 : Int) - (-1)).toNat + 1) [0, 0] ⟨0, 31, rfl, rfl, by exact hE90⟩ (by rfl) (by rfl) ?_
              rintro m92 _ _ ⟨y87, y88, rfl, rfl, hl94⟩
              clear hE90 h
              cases m92 with
              | zero =>
                rw [f_r05_Sum_l5] at hl94
                cases hl94
              | succ m92 =>
                have h := hl94
                clear hl94
                rw [f_r05_Sum_l5] at h
                refine T.seq (T.seq (T.region rfl ?_))
                refine TL.run ft_cursitorref05_ok [0, 1] rfl rfl ?_
                by_cases c96 : y88 ≥ 0
                · replace h := ifT c96 h
                  refine TL.nil (X.seq ?_)
                  refine T.yes rfl (decide_eq_true c96) ?_
                  refine T.skip (X.seq (T.seq (T.block (T.region rfl ?_))))
                  refine TL.run ft_cursitorref05_ok [0] rfl rfl ?_
                  refine TL.q rfl .u (Ex.mulw rfl rfl) rfl ?_
                  replace h := guard_some h
                  obtain ⟨c97, h⟩ := h
                  refine TL.run ft_cursitorref05_ok [2, 3, 4] rfl rfl ?_
                  refine TL.q rfl .u (Ex.add rfl rfl c97) rfl ?_
                  replace h := guard_some h
                  obtain ⟨c98, h⟩ := h
                  obtain ⟨x99, hx100, h⟩ := Option.bind_eq_some_iff.1 h
                  refine TL.foc (E := intE) (k := ((8 * (a0.length : Int)) + y88).toNat) 0 rfl (fun w G h => own_reads (by decide) w G h) (by decide) hx100 ?_
                  rintro gz101 oz101 z101cs hA z101cl ⟨_, _, z101r⟩
                  cases hA
                  obtain rfl : z101cs = [.int .i64 x99] := z101r
                  clear z101cl
                  refine TL.sel [0, 0] rfl ?_
                  refine TL.q rfl .u (Ex.ixS (k := ((8 * (a0.length : Int)) + y88).toNat) rfl rfl ((Int.toNat_of_nonneg c98).symm) Try.runUnderlying104 Try.sizeOf3 (List.getElem?_eq_some_iff.1 hx100).1) rfl ?_
                  refine TL.q rfl .u (Ex.k1 (cs := [.int .i64 x99]) 0 0 rfl Try.isAgg3 rfl (fun _ _ h => h.2.2.1) rfl) rfl ?_
                  replace h := guard_some h
                  obtain ⟨c102, h⟩ := h
                  refine TL.q rfl .u (Ex.sub rfl rfl c102) rfl ?_
                  refine TL.q rfl .u (Ex.conv rfl Try.runUnderlying3 Try.runUnderlying36) rfl ?_
                  refine TL.q rfl .u (Ex.addw rfl rfl) rfl ?_
                  refine TL.run ft_cursitorref05_ok [11] rfl rfl ?_
                  refine TL.nil (X.blk (X.seq (T.region rfl ?_)))
                  replace h := guard_some h
                  obtain ⟨c103, h⟩ := h
                  refine TL.run ft_cursitorref05_ok [0] rfl rfl ?_
                  refine TL.q rfl .u (Ex.sub rfl rfl c103) rfl ?_
                  refine TL.run ft_cursitorref05_ok [2] rfl rfl ?_
                  refine TL.nil ?_
                  refine X.unf 0 rfl ?_
                  refine X.sel [0, 0] rfl ?_
                  exact X.back (m' := m92) [0, 0] (by omega) ⟨(IntKind.u32.wrap ((IntKind.u32.wrap (y87 * 2)) + (IntKind.u32.wrap (1 - x99)))), (y88 - 1), rfl, rfl, h⟩ (by rfl) (by rfl)
                · replace h := ifF c96 h
                  refine TL.nil (X.seq ?_)
                  refine T.no rfl (decide_eq_false c96) ?_
                  obtain rfl := Option.some.inj h
                  replace h := hO91
                  clear hO91
                  try dsimp only at h
                  refine T.exit (X.exs (X.exs (X.ex (X.seq (T.seq (T.region rfl ?_))))))
                  refine TL.run ft_cursitorref05_ok [0, 1] rfl rfl ?_
                  obtain rfl := Option.some.inj h
                  exact TL.nil (X.seq (T.ret (X.done1 [1] Try.results53 (RV.tm rfl) ⟨rfl, rfl, rfl⟩ (by rfl) (.inl rfl))))
end Go.Proofs.Ytcoppaggpbfcmaa.Sl
namespace Go.Proofs.Ytcoppaggpbfcmaa.Sl
open Go.RowKit
set_option linter.unusedVariables false
set_option linter.unusedSimpArgs false
set_option maxRecDepth 100000
def ft_cursitorref08 : FTab := [(30, 0, 0), (30, 1, 1), (33, 1, 1), (33, 2, 2), (33, 3, 4), (33, 4, 6)]
theorem ft_cursitorref08_ok : (ft_cursitorref08).OK Try.prog := ⟨FOK.mk Try.runUnderlying30 rfl Try.sizeOf4 rfl, FOK.mk Try.runUnderlying30 rfl Try.sizeOf9 rfl, FOK.mk Try.runUnderlying33 rfl Try.sizeOf3 rfl, FOK.mk Try.runUnderlying33 rfl Try.sizeOf30 rfl, FOK.mk Try.runUnderlying33 rfl Try.sizeOf30 rfl, FOK.mk Try.runUnderlying33 rfl Try.sizeOf31 rfl, trivial⟩
def f_r08_ReadKey (a0 : List UInt8) : Option (Int × Int) := if (a0.length : Int) < 2 then some (0, 1) else (if 2 ≤ a0.length then ((gRInt (a0.take 2)).bind fun x3 => if x3 = 0 then (if (a0.length : Int) < 4 then some (0, 1) else (if 4 ≤ a0.length then ((gRInt ((a0.drop 2).take 2)).bind fun x8 => if x8 = 0 then (if (a0.length : Int) > 4 then some (0, 2) else some (x8, 0)) else (if x8 = 1 then (if (a0.length : Int) > 4 then some (0, 2) else some (x8, 0)) else some (0, 12))) else none)) else some (0, 7)) else none)
set_option maxRecDepth 100000 in
set_option maxHeartbeats 4000000 in
theorem f_r08_ReadKey_spec (a0 : List UInt8) (r : Int × Int) (h : f_r08_ReadKey a0 = some r) : SpecX Try.prog 77 #[.string (bsOf a0)] .triv (EmpR) (fun v A' N => v = .tuple #[.int .i64 r.1, .int .i64 r.2] ∧ A' = EmpR ∧ N = []) := by
  refine enterA Try.func77 rfl Try.ntmps77 rfl ?_
  intro F w hX
  unfold f_r08_ReadKey at h
  refine T.seq (T.region rfl ?_)
  refine TL.run ft_cursitorref08_ok [0, 1] rfl rfl ?_
  refine TL.nil (X.seq (T.seq (T.seq (T.region rfl ?_))))
  refine TL.run ft_cursitorref08_ok [0] rfl rfl ?_
  refine TL.q rfl .u (Ex.lenB rfl Try.runUnderlying9) rfl ?_
  refine TL.run ft_cursitorref08_ok [2] rfl rfl ?_
  by_cases c1 : (a0.length : Int) < 2
  · replace h := ifT c1 h
    refine TL.nil (X.seq ?_)
    refine T.yes rfl (decide_eq_true c1) ?_
    refine T.seq (T.region rfl ?_)
    refine TL.run ft_cursitorref08_ok [0, 1] rfl rfl ?_
    obtain rfl := Option.some.inj h
    exact TL.nil (X.seq (T.ret (X.rs (X.done2 [0] Try.results77 (RV.tm rfl) (RV.tm rfl) ⟨rfl, rfl, rfl⟩ (by rfl) (.inl rfl)))))
  · replace h := ifF c1 h
    refine TL.nil (X.seq ?_)
    refine T.no rfl (decide_eq_false c1) ?_
    refine T.skip (X.seq (T.seq (T.seq (T.region rfl ?_))))
    replace h := guard_some h
    obtain ⟨c2, h⟩ := h
    refine TL.run ft_cursitorref08_ok [0] rfl rfl ?_
    replace c2 : 2 ≤ a0.length := c2
    refine TL.q rfl .u (Ex.sSl (p := 0) (q := 2) (m := (a0.take 2)) rfl Try.runUnderlying9 .none (.some rfl rfl) (by first | omega | (dsimp only; omega)) (by simp)) rfl ?_
    obtain ⟨x3, hx4, h⟩ := Option.bind_eq_some_iff.1 h
    refine TL.ce rfl .u (.fn Try.call114 rfl) (SpecX.pure (fun w => gRInt_spec (a0.take 2) _ hx4 w)) (fun _ _ => RX.reads_triv _ _) rfl ?_
    refine TL.run ft_cursitorref08_ok [3] rfl rfl ?_
    by_cases c5 : x3 = 0
    · replace h := ifT c5 h
      refine TL.nil (X.seq ?_)
      refine T.no rfl (bn_f (decide_eq_true c5)) ?_
      refine T.skip (X.seq (T.seq (T.seq (T.region rfl ?_))))
      refine TL.run ft_cursitorref08_ok [0] rfl rfl ?_
      refine TL.q rfl .u (Ex.lenB rfl Try.runUnderlying9) rfl ?_
      refine TL.run ft_cursitorref08_ok [2] rfl rfl ?_
      by_cases c6 : (a0.length : Int) < 4
      · replace h := ifT c6 h
        refine TL.nil (X.seq ?_)
        refine T.yes rfl (decide_eq_true c6) ?_
        refine T.seq (T.region rfl ?_)
        refine TL.run ft_cursitorref08_ok [0, 1] rfl rfl ?_
        obtain rfl := Option.some.inj h
        exact TL.nil (X.seq (T.ret (X.rs (X.done2 [0] Try.results77 (RV.tm rfl) (RV.tm rfl) ⟨rfl, rfl, rfl⟩ (by rfl) (.inl rfl)))))
      · replace h := ifF c6 h
        refine TL.nil (X.seq ?_)
        refine T.no rfl (decide_eq_false c6) ?_
        refine T.skip (X.seq (T.seq (T.region rfl ?_)))
        replace h := guard_some h
        obtain ⟨c7, h⟩ := h
        refine TL.run ft_cursitorref08_ok [0] rfl rfl ?_
        replace c7 : 4 ≤ a0.length := c7
        refine TL.q rfl .u (Ex.sSl (p := 2) (q := 4) (m := ((a0.drop 2).take 2)) rfl Try.runUnderlying9 (.some rfl rfl) (.some rfl rfl) (by first | omega | (dsimp only; omega)) rfl) rfl ?_
        obtain ⟨x8, hx9, h⟩ := Option.bind_eq_some_iff.1 h
        refine TL.ce rfl .u (.fn Try.call114 rfl) (SpecX.pure (fun w => gRInt_spec ((a0.drop 2).take 2) _ hx9 w)) (fun _ _ => RX.reads_triv _ _) rfl ?_
        refine TL.run ft_cursitorref08_ok [3] rfl rfl ?_
        refine TL.nil (X.seq (T.seq (T.seq (T.region rfl ?_))))
        by_cases c10 : x8 = 0
        · replace h := ifT c10 h
          refine TL.run ft_cursitorref08_ok [0, 1, 2] rfl rfl ?_
          refine TL.no rfl (.gn rfl rfl (bn_f (decide_eq_true c10))) rfl ?_
          refine TL.no rfl (.gn rfl rfl (bn_f (decide_eq_true c10))) rfl ?_
          refine TL.q rfl .u (Ex.pn rfl (bn_f (decide_eq_true c10)) rfl) rfl ?_
          refine TL.nil (X.seq ?_)
          refine T.no rfl rfl ?_
          refine T.skip (X.seq (T.seq (T.seq (T.region rfl ?_))))
          refine TL.run ft_cursitorref08_ok [0] rfl rfl ?_
          refine TL.q rfl .u (Ex.lenB rfl Try.runUnderlying9) rfl ?_
          refine TL.run ft_cursitorref08_ok [2] rfl rfl ?_
          by_cases c11 : (a0.length : Int) > 4
          · replace h := ifT c11 h
            refine TL.nil (X.seq ?_)
            refine T.yes rfl (decide_eq_true c11) ?_
            refine T.seq (T.region rfl ?_)
            refine TL.run ft_cursitorref08_ok [0, 1] rfl rfl ?_
            obtain rfl := Option.some.inj h
            exact TL.nil (X.seq (T.ret (X.rs (X.done2 [0] Try.results77 (RV.tm rfl) (RV.tm rfl) ⟨rfl, rfl, rfl⟩ (by rfl) (.inl rfl)))))
          · replace h := ifF c11 h
            refine TL.nil (X.seq ?_)
            refine T.no rfl (decide_eq_false c11) ?_
            refine T.skip (X.seq (T.seq (T.region rfl ?_)))
            refine TL.run ft_cursitorref08_ok [0, 1, 2] rfl rfl ?_
            obtain rfl := Option.some.inj h
            exact TL.nil (X.seq (T.ret (X.done2 [0] Try.results77 (RV.tm rfl) (RV.tm rfl) ⟨rfl, rfl, rfl⟩ (by rfl) (.inl rfl))))
        · replace h := ifF c10 h
          refine TL.run ft_cursitorref08_ok [0, 1, 2] rfl rfl ?_
          refine TL.q rfl (.g rfl rfl (bn_t (decide_eq_false c10))) (Ex.ft ft_cursitorref08_ok rfl) rfl ?_
          refine TL.q rfl (.g rfl rfl (bn_t (decide_eq_false c10))) (Ex.ft ft_cursitorref08_ok rfl) rfl ?_
          refine TL.q rfl .u (Ex.py rfl (bn_t (decide_eq_false c10)) rfl) rfl ?_
          by_cases c12 : x8 = 1
          · replace h := ifT c12 h
            refine TL.nil (X.seq ?_)
            refine T.no rfl (bn_f (decide_eq_true c12)) ?_
            refine T.skip (X.seq (T.seq (T.seq (T.region rfl ?_))))
            refine TL.run ft_cursitorref08_ok [0] rfl rfl ?_
            refine TL.q rfl .u (Ex.lenB rfl Try.runUnderlying9) rfl ?_
            refine TL.run ft_cursitorref08_ok [2] rfl rfl ?_
            by_cases c13 : (a0.length : Int) > 4
            · replace h := ifT c13 h
              refine TL.nil (X.seq ?_)
              refine T.yes rfl (decide_eq_true c13) ?_
              refine T.seq (T.region rfl ?_)
              refine TL.run ft_cursitorref08_ok [0, 1] rfl rfl ?_
              obtain rfl := Option.some.inj h
              exact TL.nil (X.seq (T.ret (X.rs (X.done2 [0] Try.results77 (RV.tm rfl) (RV.tm rfl) ⟨rfl, rfl, rfl⟩ (by rfl) (.inl rfl)))))
            · replace h := ifF c13 h
              refine TL.nil (X.seq ?_)
              refine T.no rfl (decide_eq_false c13) ?_
              refine T.skip (X.seq (T.seq (T.region rfl ?_)))
              refine TL.run ft_cursitorref08_ok [0, 1, 2] rfl rfl ?_
              obtain rfl := Option.some.inj h
              exact TL.nil (X.seq (T.ret (X.done2 [0] Try.results77 (RV.tm rfl) (RV.tm rfl) ⟨rfl, rfl, rfl⟩ (by rfl) (.inl rfl))))
          · replace h := ifF c12 h
            refine TL.nil (X.seq ?_)
            refine T.yes rfl (bn_t (decide_eq_false c12)) ?_
            refine T.seq (T.region rfl ?_)
            refine TL.run ft_cursitorref08_ok [0, 1] rfl rfl ?_
            obtain rfl := Option.some.inj h
            exact TL.nil (X.seq (T.ret (X.rs (X.done2 [0] Try.results77 (RV.tm rfl) (RV.tm rfl) ⟨rfl, rfl, rfl⟩ (by rfl) (.inl rfl)))))
    · replace h := ifF c5 h
      refine TL.nil (X.seq ?_)
      refine T.yes rfl (bn_t (decide_eq_false c5)) ?_
      refine T.seq (T.region rfl ?_)
      refine TL.run ft_cursitorref08_ok [0, 1] rfl rfl ?_
      obtain rfl := Option.some.inj h
      exact TL.nil (X.seq (T.ret (X.rs (X.done2 [0] Try.results77 (RV.tm rfl) (RV.tm rfl) ⟨rfl, rfl, rfl⟩ (by rfl) (.inl rfl)))))
def f_r08_ReadValue (a0 : List UInt8) : Option (Int × Int) := if (a0.length : Int) < 2 then some (0, 1) else (if 2 ≤ a0.length then ((gRInt (a0.take 2)).bind fun x3 => if x3 = 0 then (if (a0.length : Int) < 6 then some (0, 1) else (if 6 ≤ a0.length then ((gRInt ((a0.drop 2).take 4)).bind fun x8 => if x8 < 0 then some (0, 11) else (if (a0.length : Int) > 6 then some (0, 2) else some (x8, 0))) else none)) else some (0, 7)) else none)
set_option maxRecDepth 100000 in
set_option maxHeartbeats 4000000 in
theorem f_r08_ReadValue_spec (a0 : List UInt8) (r : Int × Int) (h : f_r08_ReadValue a0 = some r) : SpecX Try.prog 78 #[.string (bsOf a0)] .triv (EmpR) (fun v A' N => v = .tuple #[.int .i64 r.1, .int .i64 r.2] ∧ A' = EmpR ∧ N = []) := by
  refine enterA Try.func78 rfl Try.ntmps78 rfl ?_
  intro F w hX
  unfold f_r08_ReadValue at h
  refine T.seq (T.region rfl ?_)
  refine TL.run ft_cursitorref08_ok [0, 1] rfl rfl ?_
  refine TL.nil (X.seq (T.seq (T.seq (T.region rfl ?_))))
  refine TL.run ft_cursitorref08_ok [0] rfl rfl ?_
  refine TL.q rfl .u (Ex.lenB rfl Try.runUnderlying9) rfl ?_
  refine TL.run ft_cursitorref08_ok [2] rfl rfl ?_
  by_cases c1 : (a0.length : Int) < 2
  · replace h := ifT c1 h
    refine TL.nil (X.seq ?_)
    refine T.yes rfl (decide_eq_true c1) ?_
    refine T.seq (T.region rfl ?_)
    refine TL.run ft_cursitorref08_ok [0, 1] rfl rfl ?_
    obtain rfl := Option.some.inj h
    exact TL.nil (X.seq (T.ret (X.rs (X.done2 [0] Try.results78 (RV.tm rfl) (RV.tm rfl) ⟨rfl, rfl, rfl⟩ (by rfl) (.inl rfl)))))
  · replace h := ifF c1 h
    refine TL.nil (X.seq ?_)
    refine T.no rfl (decide_eq_false c1) ?_
    refine T.skip (X.seq (T.seq (T.seq (T.region rfl ?_))))
    replace h := guard_some h
    obtain ⟨c2, h⟩ := h
    refine TL.run ft_cursitorref08_ok [0] rfl rfl ?_
    replace c2 : 2 ≤ a0.length := c2
    refine TL.q rfl .u (Ex.sSl (p := 0) (q := 2) (m := (a0.take 2)) rfl Try.runUnderlying9 .none (.some rfl rfl) (by first | omega | (dsimp only; omega)) (by simp)) rfl ?_
    obtain ⟨x3, hx4, h⟩ := Option.bind_eq_some_iff.1 h
    refine TL.ce rfl .u (.fn Try.call114 rfl) (SpecX.pure (fun w => gRInt_spec (a0.take 2) _ hx4 w)) (fun _ _ => RX.reads_triv _ _) rfl ?_
    refine TL.run ft_cursitorref08_ok [3] rfl rfl ?_
    by_cases c5 : x3 = 0
    · replace h := ifT c5 h
      refine TL.nil (X.seq ?_)
      refine T.no rfl (bn_f (decide_eq_true c5)) ?_
      refine T.skip (X.seq (T.seq (T.seq (T.region rfl ?_))))
      refine TL.run ft_cursitorref08_ok [0] rfl rfl ?_
      refine TL.q rfl .u (Ex.lenB rfl Try.runUnderlying9) rfl ?_
      refine TL.run ft_cursitorref08_ok [2] rfl rfl ?_
      by_cases c6 : (a0.length : Int) < 6
      · replace h := ifT c6 h
        refine TL.nil (X.seq ?_)
        refine T.yes rfl (decide_eq_true c6) ?_
        refine T.seq (T.region rfl ?_)
        refine TL.run ft_cursitorref08_ok [0, 1] rfl rfl ?_
        obtain rfl := Option.some.inj h
        exact TL.nil (X.seq (T.ret (X.rs (X.done2 [0] Try.results78 (RV.tm rfl) (RV.tm rfl) ⟨rfl, rfl, rfl⟩ (by rfl) (.inl rfl)))))
      · replace h := ifF c6 h
        refine TL.nil (X.seq ?_)
        refine T.no rfl (decide_eq_false c6) ?_
        refine T.skip (X.seq (T.seq (T.region rfl ?_)))
        replace h := guard_some h
        obtain ⟨c7, h⟩ := h
        refine TL.run ft_cursitorref08_ok [0] rfl rfl ?_
        replace c7 : 6 ≤ a0.length := c7
        refine TL.q rfl .u (Ex.sSl (p := 2) (q := 6) (m := ((a0.drop 2).take 4)) rfl Try.runUnderlying9 (.some rfl rfl) (.some rfl rfl) (by first | omega | (dsimp only; omega)) rfl) rfl ?_
        obtain ⟨x8, hx9, h⟩ := Option.bind_eq_some_iff.1 h
        refine TL.ce rfl .u (.fn Try.call114 rfl) (SpecX.pure (fun w => gRInt_spec ((a0.drop 2).take 4) _ hx9 w)) (fun _ _ => RX.reads_triv _ _) rfl ?_
        refine TL.run ft_cursitorref08_ok [3] rfl rfl ?_
        refine TL.nil (X.seq (T.seq (T.seq (T.region rfl ?_))))
        refine TL.run ft_cursitorref08_ok [0, 1] rfl rfl ?_
        by_cases c10 : x8 < 0
        · replace h := ifT c10 h
          refine TL.nil (X.seq ?_)
          refine T.yes rfl (decide_eq_true c10) ?_
          refine T.seq (T.region rfl ?_)
          refine TL.run ft_cursitorref08_ok [0, 1] rfl rfl ?_
          obtain rfl := Option.some.inj h
          exact TL.nil (X.seq (T.ret (X.rs (X.done2 [0] Try.results78 (RV.tm rfl) (RV.tm rfl) ⟨rfl, rfl, rfl⟩ (by rfl) (.inl rfl)))))
        · replace h := ifF c10 h
          refine TL.nil (X.seq ?_)
          refine T.no rfl (decide_eq_false c10) ?_
          refine T.skip (X.seq (T.seq (T.seq (T.region rfl ?_))))
          refine TL.run ft_cursitorref08_ok [0] rfl rfl ?_
          refine TL.q rfl .u (Ex.lenB rfl Try.runUnderlying9) rfl ?_
          refine TL.run ft_cursitorref08_ok [2] rfl rfl ?_
          by_cases c11 : (a0.length : Int) > 6
          · replace h := ifT c11 h
            refine TL.nil (X.seq ?_)
            refine T.yes rfl (decide_eq_true c11) ?_
            refine T.seq (T.region rfl ?_)
            refine TL.run ft_cursitorref08_ok [0, 1] rfl rfl ?_
            obtain rfl := Option.some.inj h
            exact TL.nil (X.seq (T.ret (X.rs (X.done2 [0] Try.results78 (RV.tm rfl) (RV.tm rfl) ⟨rfl, rfl, rfl⟩ (by rfl) (.inl rfl)))))
          · replace h := ifF c11 h
            refine TL.nil (X.seq ?_)
            refine T.no rfl (decide_eq_false c11) ?_
            refine T.skip (X.seq (T.seq (T.region rfl ?_)))
            refine TL.run ft_cursitorref08_ok [0, 1, 2] rfl rfl ?_
            obtain rfl := Option.some.inj h
            exact TL.nil (X.seq (T.ret (X.done2 [0] Try.results78 (RV.tm rfl) (RV.tm rfl) ⟨rfl, rfl, rfl⟩ (by rfl) (.inl rfl))))
    · replace h := ifF c5 h
      refine TL.nil (X.seq ?_)
      refine T.yes rfl (bn_t (decide_eq_false c5)) ?_
      refine T.seq (T.region rfl ?_)
      refine TL.run ft_cursitorref08_ok [0, 1] rfl rfl ?_
      obtain rfl := Option.some.inj h
      exact TL.nil (X.seq (T.ret (X.rs (X.done2 [0] Try.results78 (RV.tm rfl) (RV.tm rfl) ⟨rfl, rfl, rfl⟩ (by rfl) (.inl rfl)))))
def f_r08_Read (a0 : Rec) : Option (Int × Int × Int) := if a0.fKey.null = true then some (0, 0, 12) else (if a0.fValue.null = true then some (0, 0, 12) else (if (a0.fHeaders.length : Int) > 0 then some (0, 0, 12) else (if a0.fOffset = 0 then ((f_r08_ReadKey a0.fKey.data).bind fun (x8, x9) => if x9 = 0 then ((f_r08_ReadValue a0.fValue.data).bind fun (x12, x13) => if x13 = 0 then some (x8, x12, 0) else some (0, 0, x13)) else some (0, 0, x9)) else some (0, 0, 12))))
set_option maxRecDepth 100000 in
set_option maxHeartbeats 4000000 in
theorem f_r08_Read_spec (a0 : Rec) (A1 : Option Addr) (c2 : Nat) (r : Int × Int × Int) (h : f_r08_Read a0 = some r) : SpecX Try.prog 36 #[.agg #[.int .i64 a0.fTime, .int .i64 a0.fOffset, .bool a0.fKey.null, .string (bsOf a0.fKey.data), .bool a0.fValue.null, .string (bsOf a0.fValue.data), .slice A1 a0.fHeaders.length c2]] (RX.of (sliceRd 3 Hd_rd) [.slice A1 a0.fHeaders.length c2] a0.fHeaders) (EmpR) (fun v A' N => v = .tuple #[.int .i64 r.1, .int .i64 r.2.1, .int .i64 r.2.2] ∧ A' = EmpR ∧ N = []) := by
  refine enterA Try.func36 rfl Try.ntmps36 rfl ?_
  intro F w hX
  unfold f_r08_Read at h
  refine T.seq (T.region rfl ?_)
  refine TL.box rfl .u rfl rfl (fun b3 => ?_)
  refine TL.run ft_cursitorref08_ok [1, 2, 3] rfl rfl ?_
  refine TL.nil (X.seq (T.seq (T.seq (T.region rfl ?_))))
  refine TL.run ft_cursitorref08_ok [0, 1] rfl rfl ?_
  refine TL.q rfl .u (Ex.b1 0 rfl Try.isAgg4 rfl rfl) rfl ?_
  by_cases c4 : a0.fKey.null = true
  · replace h := ifT c4 h
    refine TL.run ft_cursitorref08_ok [3] rfl rfl ?_
    refine TL.no rfl (.gn rfl rfl c4) rfl ?_
    refine TL.no rfl (.gn rfl rfl c4) rfl ?_
    refine TL.no rfl (.gn rfl rfl c4) rfl ?_
    refine TL.q rfl .u (Ex.py rfl c4 rfl) rfl ?_
    refine TL.run ft_cursitorref08_ok [8] rfl rfl ?_
    refine TL.no rfl (.gn rfl rfl rfl) rfl ?_
    refine TL.no rfl (.gn rfl rfl rfl) rfl ?_
    refine TL.no rfl (.gn rfl rfl rfl) rfl ?_
    refine TL.no rfl (.gn rfl rfl rfl) rfl ?_
    refine TL.q rfl .u (Ex.py rfl rfl rfl) rfl ?_
    refine TL.run ft_cursitorref08_ok [14] rfl rfl ?_
    refine TL.no rfl (.gn rfl rfl rfl) rfl ?_
    refine TL.no rfl (.gn rfl rfl rfl) rfl ?_
    refine TL.no rfl (.gn rfl rfl rfl) rfl ?_
    refine TL.q rfl .u (Ex.py rfl rfl rfl) rfl ?_
    refine TL.nil (X.seq ?_)
    refine T.yes rfl rfl ?_
    refine T.seq (T.region rfl ?_)
    refine TL.run ft_cursitorref08_ok [0, 1, 2] rfl rfl ?_
    obtain rfl := Option.some.inj h
    exact TL.nil (X.seq (T.ret (X.rs (X.done3 [1] Try.results36 (RV.tm rfl) (RV.tm rfl) (RV.tm rfl) ⟨rfl, rfl, rfl⟩ (by rfl) (.inl rfl)))))
  · replace h := ifF c4 h
    replace c4 := eq_false_of_ne_true c4
    refine TL.run ft_cursitorref08_ok [3] rfl rfl ?_
    refine TL.q rfl (.g rfl rfl c4) (Ex.ft ft_cursitorref08_ok rfl) rfl ?_
    refine TL.q rfl (.g rfl rfl c4) (Ex.ft ft_cursitorref08_ok rfl) rfl ?_
    refine TL.q rfl (.g rfl rfl c4) (Ex.b1 0 rfl Try.isAgg4 rfl rfl) rfl ?_
    refine TL.q rfl .u (Ex.pn rfl c4 rfl) rfl ?_
    by_cases c5 : a0.fValue.null = true
    · replace h := ifT c5 h
      refine TL.run ft_cursitorref08_ok [8] rfl rfl ?_
      refine TL.no rfl (.gn rfl rfl c5) rfl ?_
      refine TL.no rfl (.gn rfl rfl c5) rfl ?_
      refine TL.no rfl (.gn rfl rfl c5) rfl ?_
      refine TL.no rfl (.gn rfl rfl c5) rfl ?_
      refine TL.q rfl .u (Ex.py rfl c5 rfl) rfl ?_
      refine TL.run ft_cursitorref08_ok [14] rfl rfl ?_
      refine TL.no rfl (.gn rfl rfl rfl) rfl ?_
      refine TL.no rfl (.gn rfl rfl rfl) rfl ?_
      refine TL.no rfl (.gn rfl rfl rfl) rfl ?_
      refine TL.q rfl .u (Ex.py rfl rfl rfl) rfl ?_
      refine TL.nil (X.seq ?_)
      refine T.yes rfl rfl ?_
      refine T.seq (T.region rfl ?_)
      refine TL.run ft_cursitorref08_ok [0, 1, 2] rfl rfl ?_
      obtain rfl := Option.some.inj h
      exact TL.nil (X.seq (T.ret (X.rs (X.done3 [1] Try.results36 (RV.tm rfl) (RV.tm rfl) (RV.tm rfl) ⟨rfl, rfl, rfl⟩ (by rfl) (.inl rfl)))))
    · replace h := ifF c5 h
      replace c5 := eq_false_of_ne_true c5
      refine TL.run ft_cursitorref08_ok [8] rfl rfl ?_
      refine TL.q rfl (.g rfl rfl c5) (Ex.ft ft_cursitorref08_ok rfl) rfl ?_
      refine TL.q rfl (.g rfl rfl c5) (Ex.b1 0 rfl Try.isAgg31 rfl rfl) rfl ?_
      refine TL.q rfl (.g rfl rfl c5) (Ex.lenS rfl Try.runUnderlying31) rfl ?_
      refine TL.q rfl (.g rfl rfl c5) (Ex.ft ft_cursitorref08_ok rfl) rfl ?_
      refine TL.q rfl .u (Ex.pn rfl c5 rfl) rfl ?_
      by_cases c6 : (a0.fHeaders.length : Int) > 0
      · replace h := ifT c6 h
        refine TL.run ft_cursitorref08_ok [14] rfl rfl ?_
        refine TL.no rfl (.gn rfl rfl (decide_eq_true c6)) rfl ?_
        refine TL.no rfl (.gn rfl rfl (decide_eq_true c6)) rfl ?_
        refine TL.no rfl (.gn rfl rfl (decide_eq_true c6)) rfl ?_
        refine TL.q rfl .u (Ex.py rfl (decide_eq_true c6) rfl) rfl ?_
        refine TL.nil (X.seq ?_)
        refine T.yes rfl rfl ?_
        refine T.seq (T.region rfl ?_)
        refine TL.run ft_cursitorref08_ok [0, 1, 2] rfl rfl ?_
        obtain rfl := Option.some.inj h
        exact TL.nil (X.seq (T.ret (X.rs (X.done3 [1] Try.results36 (RV.tm rfl) (RV.tm rfl) (RV.tm rfl) ⟨rfl, rfl, rfl⟩ (by rfl) (.inl rfl)))))
      · replace h := ifF c6 h
        refine TL.run ft_cursitorref08_ok [14] rfl rfl ?_
        refine TL.q rfl (.g rfl rfl (decide_eq_false c6)) (Ex.ft ft_cursitorref08_ok rfl) rfl ?_
        refine TL.q rfl (.g rfl rfl (decide_eq_false c6)) (Ex.b1 0 rfl Try.isAgg3 rfl rfl) rfl ?_
        refine TL.q rfl (.g rfl rfl (decide_eq_false c6)) (Ex.ft ft_cursitorref08_ok rfl) rfl ?_
        refine TL.q rfl .u (Ex.pn rfl (decide_eq_false c6) rfl) rfl ?_
        by_cases c7 : a0.fOffset = 0
        · replace h := ifT c7 h
          refine TL.nil (X.seq ?_)
          refine T.no rfl (bn_f (decide_eq_true c7)) ?_
          refine T.skip (X.seq (T.seq (T.region rfl ?_)))
          refine TL.run ft_cursitorref08_ok [0, 1] rfl rfl ?_
          refine TL.q rfl .u (Ex.b1 0 rfl Try.isAgg9 rfl rfl) rfl ?_
          obtain ⟨⟨x8, x9⟩, hx10, h⟩ := Option.bind_eq_some_iff.1 h
          try dsimp only at h
          refine TL.ce rfl .u (.fn Try.call77 rfl) (f_r08_ReadKey_spec a0.fKey.data _ hx10) (fun _ hs => (RX.reads_triv _ _)) rfl ?_
          refine TL.run ft_cursitorref08_ok [4, 5, 6, 7, 8] rfl rfl ?_
          refine TL.nil (X.seq (T.seq (T.seq (T.region rfl ?_))))
          refine TL.run ft_cursitorref08_ok [0, 1] rfl rfl ?_
          by_cases c11 : x9 = 0
          · replace h := ifT c11 h
            refine TL.nil (X.seq ?_)
            refine T.no rfl (bn_f (decide_eq_true c11)) ?_
            refine T.skip (X.seq (T.seq (T.region rfl ?_)))
            refine TL.run ft_cursitorref08_ok [0, 1] rfl rfl ?_
            refine TL.q rfl .u (Ex.b1 0 rfl Try.isAgg9 rfl rfl) rfl ?_
            obtain ⟨⟨x12, x13⟩, hx14, h⟩ := Option.bind_eq_some_iff.1 h
            try dsimp only at h
            refine TL.ce rfl .u (.fn Try.call78 rfl) (f_r08_ReadValue_spec a0.fValue.data _ hx14) (fun _ hs => (RX.reads_triv _ _)) rfl ?_
            refine TL.run ft_cursitorref08_ok [4, 5, 6, 7, 8] rfl rfl ?_
            refine TL.nil (X.seq (T.seq (T.seq (T.region rfl ?_))))
            refine TL.run ft_cursitorref08_ok [0, 1] rfl rfl ?_
            by_cases c15 : x13 = 0
            · replace h := ifT c15 h
              refine TL.nil (X.seq ?_)
              refine T.no rfl (bn_f (decide_eq_true c15)) ?_
              refine T.skip (X.seq (T.seq (T.region rfl ?_)))
              refine TL.run ft_cursitorref08_ok [0, 1, 2, 3, 4] rfl rfl ?_
              obtain rfl := Option.some.inj h
              exact TL.nil (X.seq (T.ret (X.done3 [1] Try.results36 (RV.tm rfl) (RV.tm rfl) (RV.tm rfl) ⟨rfl, rfl, rfl⟩ (by rfl) (.inl rfl))))
            · replace h := ifF c15 h
              refine TL.nil (X.seq ?_)
              refine T.yes rfl (bn_t (decide_eq_false c15)) ?_
              refine T.seq (T.region rfl ?_)
              refine TL.run ft_cursitorref08_ok [0, 1, 2, 3] rfl rfl ?_
              obtain rfl := Option.some.inj h
              exact TL.nil (X.seq (T.ret (X.rs (X.done3 [1] Try.results36 (RV.tm rfl) (RV.tm rfl) (RV.tm rfl) ⟨rfl, rfl, rfl⟩ (by rfl) (.inl rfl)))))
          · replace h := ifF c11 h
            refine TL.nil (X.seq ?_)
            refine T.yes rfl (bn_t (decide_eq_false c11)) ?_
            refine T.seq (T.region rfl ?_)
            refine TL.run ft_cursitorref08_ok [0, 1, 2, 3] rfl rfl ?_
            obtain rfl := Option.some.inj h
            exact TL.nil (X.seq (T.ret (X.rs (X.done3 [1] Try.results36 (RV.tm rfl) (RV.tm rfl) (RV.tm rfl) ⟨rfl, rfl, rfl⟩ (by rfl) (.inl rfl)))))
        · replace h := ifF c7 h
          refine TL.nil (X.seq ?_)
          refine T.yes rfl (bn_t (decide_eq_false c7)) ?_
          refine T.seq (T.region rfl ?_)
          refine TL.run ft_cursitorref08_ok [0, 1, 2] rfl rfl ?_
          obtain rfl := Option.some.inj h
          exact TL.nil (X.seq (T.ret (X.rs (X.done3 [1] Try.results36 (RV.tm rfl) (RV.tm rfl) (RV.tm rfl) ⟨rfl, rfl, rfl⟩ (by rfl) (.inl rfl)))))
end Go.Proofs.Ytcoppaggpbfcmaa.Sl
namespace Go.Proofs.Ytcoppaggpbfcmaa.Sl
open Go.RowKit
set_option linter.unusedVariables false
set_option linter.unusedSimpArgs false
set_option maxRecDepth 100000
def ft_cursitorref10 : FTab := []
theorem ft_cursitorref10_ok : (ft_cursitorref10).OK Try.prog := trivial
theorem sok_cursitorref10_104_12 : SOK Try.prog 104 3 12 1 #[.int .i64 0, .int .i64 0, .int .i64 0, .int .i64 0, .int .i64 0, .int .i64 0, .int .i64 0, .int .i64 0, .int .i64 0, .int .i64 0, .int .i64 0, .int .i64 0] := SOK.mk Try.runUnderlying104 Try.sizeOf3 Try.zeroValue3 (by decide) (by kernel_rfl)
def f_r10_Bytes_l1 (a0 : List Int) : Nat → List UInt8 → Bool → List UInt8 → Nat → Option (Lp (List UInt8 × Bool) (List UInt8 × Bool × List UInt8 × Nat))
  | 0, _, _, _, _ => none
  | m11 + 1, y4, y5, y6, k7 => if (k7 : Int) < 12 then ((a0[k7]?).bind fun x16 => if (k7 : Int) = 3 then ((if x16 < 0 then some true else (if x16 > 4294967295 then some true else some false)).bind fun y21 => if y21 = true then (some (Lp.ret ([], false))) else ((if x16 > 2147483647 then (if -9223372036854775808 ≤ (x16 - 4294967296) ∧ (x16 - 4294967296) ≤ 9223372036854775807 then some (x16 - 4294967296) else none) else some x16).bind fun y28 => (gRBytes 2 1).bind fun x32 => if y6.length + x32.length ≤ 9223372036854775807 then (([8, 4, 4, 4, 2, 4, 8, 8, 8, 2, 4, 4][k7]?).bind fun x35 => (gRFits y28 x35).bind fun x38 => if x38 = true then ((gRBytes y28 x35).bind fun x41 => if (y6 ++ x32).length + x41.length ≤ 9223372036854775807 then (if -9223372036854775808 ≤ ((k7 : Int) + 1) ∧ ((k7 : Int) + 1) ≤ 9223372036854775807 then (f_r10_Bytes_l1 a0 m11 y4 y5 ((y6 ++ x32) ++ x41) (k7 + 1)) else none) else none) else (some (Lp.ret ([], false)))) else none)) else (([8, 4, 4, 4, 2, 4, 8, 8, 8, 2, 4, 4][k7]?).bind fun x45 => (gRFits x16 x45).bind fun x48 => if x48 = true then ((gRBytes x16 x45).bind fun x51 => if y6.length + x51.length ≤ 9223372036854775807 then (if -9223372036854775808 ≤ ((k7 : Int) + 1) ∧ ((k7 : Int) + 1) ≤ 9223372036854775807 then (f_r10_Bytes_l1 a0 m11 y4 y5 (y6 ++ x51) (k7 + 1)) else none) else none) else (some (Lp.ret ([], false))))) else (some (Lp.go (y4, y5, y6, k7)))
def f_r10_Bytes (a0 : List Int) : Option (List UInt8 × Bool) := (f_r10_Bytes_l1 a0 ((12 : Int).toNat + 1) [] false [] 0).bind fun e => match e with | .ret r => some r | .go (y55, y56, y57, k58) => some (y57, true)
set_option maxRecDepth 100000 in
set_option maxHeartbeats 4000000 in
theorem f_r10_Bytes_spec (a0 : List Int) (A1 : Option Addr) (c2 : Nat) (r : List UInt8 × Bool) (h : f_r10_Bytes a0 = some r) : SpecX Try.prog 51 #[.slice A1 a0.length c2] (RX.of (sliceRd 1 intE) [.slice A1 a0.length c2] a0) (EmpR) (fun v A' N => v = .tuple #[.string (bsOf r.1), .bool r.2] ∧ A' = EmpR ∧ N = []) := by
  refine enterA Try.func51 rfl Try.ntmps51 rfl ?_
  intro F w hX
  unfold f_r10_Bytes at h
  refine T.seq (T.region rfl ?_)
  refine TL.run ft_cursitorref10_ok [0, 1] rfl rfl ?_
  refine TL.nil (X.seq (T.seq (T.region rfl ?_)))
  refine TL.lit (cells := #[.int .i64 8, .int .i64 4, .int .i64 4, .int .i64 4, .int .i64 2, .int .i64 4, .int .i64 8, .int .i64 8, .int .i64 8, .int .i64 2, .int .i64 4, .int .i64 4]) rfl .u sok_cursitorref10_104_12 rfl (by kernel_rfl) rfl (fun b3 => ?_)
  refine TL.rowOf (us := [.int .i64 8, .int .i64 4, .int .i64 4, .int .i64 4, .int .i64 2, .int .i64 4, .int .i64 8, .int .i64 8, .int .i64 8, .int .i64 2, .int .i64 4, .int .i64 4]) (xs := [8, 4, 4, 4, 2, 4, 8, 8, 8, 2, 4, 4]) (E := intE) (z := 1) rfl (Nat.le_of_ble_eq_true rfl) (fun _ => ⟨rfl, rfl, ⟨rfl, rfl, ⟨rfl, rfl, ⟨rfl, rfl, ⟨rfl, rfl, ⟨rfl, rfl, ⟨rfl, rfl, ⟨rfl, rfl, ⟨rfl, rfl, ⟨rfl, rfl, ⟨rfl, rfl, ⟨rfl, rfl, rfl⟩⟩⟩⟩⟩⟩⟩⟩⟩⟩⟩⟩) ?_
  refine TL.run ft_cursitorref10_ok [1] rfl rfl ?_
  refine TL.nil (X.seq (T.seq (T.region rfl ?_)))
  refine TL.run ft_cursitorref10_ok [0] rfl rfl ?_
  refine TL.nil (X.seq (T.seq (T.seq (T.region rfl ?_))))
  refine TL.run ft_cursitorref10_ok [0] rfl rfl ?_
  refine TL.nil (X.seq (T.block ?_))
  obtain ⟨E8, hE9, hO10⟩ := Option.bind_eq_some_iff.1 h
  refine T.lp (fun m e Rs => ∃ (y4 : List UInt8) (y5 : Bool) (y6 : List UInt8) (k7 : Nat), e = [(0, .slice A1 a0.length c2), (2, .string (bsOf y4)), (3, .bool y5), (4, .slice (some ⟨b3, 0, none⟩) 12 12), (5, .string (bsOf y6)), (6, .int .i64 (k7 : Int))] ∧ Rs = [OwnR 3 1 intE (.slice (some ⟨b3, 0, none⟩) 12 12) [8, 4, 4, 4, 2, 4, 8, 8, 8, 2, 4, 4], EmpR] ∧ f_r10_Bytes_l1 a0 m y4 y5 y6 k7 = some E8) ((12 : Int).toNat + 1) [0, 0] ⟨[], false, [], 0, rfl, rfl, by exact hE9⟩ (by rfl) (by rfl) ?_
  rintro m11 _ _ ⟨y4, y5, y6, k7, rfl, rfl, hl13⟩
  clear hE9 h
  cases m11 with
  | zero =>
    rw [f_r10_Bytes_l1] at hl13
    cases hl13
  | succ m11 =>
    have h := hl13
    clear hl13
    rw [f_r10_Bytes_l1] at h
    refine T.seq (T.seq (T.region rfl ?_))
    refine TL.run ft_cursitorref10_ok [0, 1] rfl rfl ?_
    by_cases c15 : (k7 : Int) < 12
    · replace h := ifT c15 h
      refine TL.nil (X.seq ?_)
      refine T.yes rfl (decide_eq_true c15) ?_
      refine T.skip (X.seq (T.seq (T.block (T.seq (T.region rfl ?_)))))
      obtain ⟨x16, hx17, h⟩ := Option.bind_eq_some_iff.1 h
      obtain ⟨gz18, oz18, rfl, z18cs, z18cl, z18cc, z18nf, z18r⟩ := RX.elem (by decide) hX hx17
      obtain ⟨z18S, z18r, z18rr⟩ := z18r
      obtain rfl : z18cs = [.int .i64 x16] := z18r
      refine TL.run ft_cursitorref10_ok [0, 1] rfl rfl ?_
      refine TL.q rfl .u (Ex.ixS (k := k7) rfl rfl rfl Try.runUnderlying104 Try.sizeOf3 (List.getElem?_eq_some_iff.1 hx17).1) rfl ?_
      refine TL.q rfl .u (Ex.o1 0 rfl Try.isAgg3 z18nf z18cc rfl rfl) rfl ?_
      refine TL.run ft_cursitorref10_ok [4] rfl rfl ?_
      refine TL.nil (X.seq (T.seq (T.seq (T.region rfl ?_))))
      refine TL.run ft_cursitorref10_ok [0, 1] rfl rfl ?_
      by_cases c19 : (k7 : Int) = 3
      · replace h := ifT c19 h
        refine TL.nil (X.seq ?_)
        refine T.yes rfl (decide_eq_true c19) ?_
        refine T.seq (T.seq ?_)
        obtain ⟨y21, h, hk22⟩ := Option.bind_eq_some_iff.1 h
        refine T.jq (fun e Rs => e = [(0, .slice (some ⟨gz18, oz18, none⟩) a0.length c2), (2, .string (bsOf y4)), (3, .bool y5), (4, .slice (some ⟨b3, 0, none⟩) 12 12), (5, .string (bsOf y6)), (6, .int .i64 (k7 : Int)), (7, .int .i64 x16), (24, .bool y21)] ∧ Rs = [OwnR 3 1 intE (.slice (some ⟨b3, 0, none⟩) 12 12) [8, 4, 4, 4, 2, 4, 8, 8, 8, 2, 4, 4], EmpR]) ?_ ?_
        · clear hk22
          refine T.region rfl ?_
          by_cases c23 : x16 < 0
          · replace h := ifT c23 h
            refine TL.run ft_cursitorref10_ok [0, 1, 2] rfl rfl ?_
            refine TL.no rfl (.gn rfl rfl (decide_eq_true c23)) rfl ?_
            refine TL.no rfl (.gn rfl rfl (decide_eq_true c23)) rfl ?_
            refine TL.q rfl .u (Ex.py rfl (decide_eq_true c23) rfl) rfl ?_
            cases h
            exact TL.nil (X.jq [0, 0] ⟨rfl, rfl⟩ (by rfl) (by rfl))
          · replace h := ifF c23 h
            refine TL.run ft_cursitorref10_ok [0, 1, 2] rfl rfl ?_
            refine TL.q rfl (.g rfl rfl (decide_eq_false c23)) (Ex.ft ft_cursitorref10_ok rfl) rfl ?_
            refine TL.q rfl (.g rfl rfl (decide_eq_false c23)) (Ex.ft ft_cursitorref10_ok rfl) rfl ?_
            refine TL.q rfl .u (Ex.pn rfl (decide_eq_false c23) rfl) rfl ?_
            by_cases c24 : x16 > 4294967295
            · replace h := ifT c24 h
              cases h
              exact TL.nil (X.as (d := 24) (v' := .bool true) rfl (congrArg Value.bool (decide_eq_true c24)) (X.jq [0, 0] ⟨rfl, rfl⟩ (by rfl) (by rfl)))
            · replace h := ifF c24 h
              cases h
              exact TL.nil (X.as (d := 24) (v' := .bool false) rfl (congrArg Value.bool (decide_eq_false c24)) (X.jq [0, 0] ⟨rfl, rfl⟩ (by rfl) (by rfl)))
        · rintro _ _ ⟨rfl, rfl⟩
          clear h
          have h := hk22
          clear hk22
          try dsimp only at h
          by_cases c25 : y21 = true
          · replace h := ifT c25 h
            refine X.seq ?_
            refine T.yes rfl c25 ?_
            refine T.seq (T.region rfl ?_)
            refine TL.run ft_cursitorref10_ok [0, 1] rfl rfl ?_
            obtain rfl := Option.some.inj h
            replace h := hO10
            clear hO10
            try dsimp only at h
            obtain rfl := Option.some.inj h
            exact TL.nil (X.seq (T.ret (X.rs (X.rs (X.rb (X.rs (X.rs (X.rb (X.rs (X.done2 [1] Try.results51 (RV.tm rfl) (RV.tm rfl) ⟨rfl, rfl, rfl⟩ (by rfl) (.inl rfl)))))))))))
          · replace h := ifF c25 h
            replace c25 := eq_false_of_ne_true c25
            refine X.seq ?_
            refine T.no rfl c25 ?_
            refine T.skip (X.seq (T.seq (T.seq (T.region rfl ?_))))
            refine TL.run ft_cursitorref10_ok [0, 1] rfl rfl ?_
            refine TL.nil (X.seq ?_)
            obtain ⟨y28, h, hk29⟩ := Option.bind_eq_some_iff.1 h
            refine T.jq (fun e Rs => e = [(0, .slice (some ⟨gz18, oz18, none⟩) a0.length c2), (2, .string (bsOf y4)), (3, .bool y5), (4, .slice (some ⟨b3, 0, none⟩) 12 12), (5, .string (bsOf y6)), (6, .int .i64 (k7 : Int)), (7, .int .i64 y28)] ∧ Rs = [OwnR 3 1 intE (.slice (some ⟨b3, 0, none⟩) 12 12) [8, 4, 4, 4, 2, 4, 8, 8, 8, 2, 4, 4], EmpR]) ?_ ?_
            · clear hk29
              by_cases c30 : x16 > 2147483647
              · replace h := ifT c30 h
                refine T.yes rfl (decide_eq_true c30) ?_
                refine T.region rfl ?_
                replace h := guard_some h
                obtain ⟨c31, h⟩ := h
                refine TL.run ft_cursitorref10_ok [0] rfl rfl ?_
                refine TL.q rfl .u (Ex.sub rfl rfl c31) rfl ?_
                refine TL.run ft_cursitorref10_ok [2] rfl rfl ?_
                cases h
                exact TL.nil (X.jq [0, 0] ⟨rfl, rfl⟩ (by rfl) (by rfl))
              · replace h := ifF c30 h
                refine T.no rfl (decide_eq_false c30) ?_
                cases h
                exact T.skip (X.jq [0, 0] ⟨rfl, rfl⟩ (by rfl) (by rfl))
            · rintro _ _ ⟨rfl, rfl⟩
              clear h
              have h := hk29
              clear hk29
              try dsimp only at h
              refine X.seq (T.region rfl ?_)
              obtain ⟨x32, hx33, h⟩ := Option.bind_eq_some_iff.1 h
              refine TL.run ft_cursitorref10_ok [0] rfl rfl ?_
              refine TL.ce rfl .u (.fn Try.call93 rfl) (gRBytes_spec 2 1 _ hx33) (fun _ hs => (RX.reads_triv _ _)) rfl ?_
              replace h := guard_some h
              obtain ⟨c34, h⟩ := h
              refine TL.q rfl .u (Ex.sAdd rfl rfl c34) rfl ?_
              refine TL.run ft_cursitorref10_ok [3] rfl rfl ?_
              refine TL.nil (X.seq (T.seq (T.seq (T.region rfl ?_))))
              obtain ⟨x35, hx36, h⟩ := Option.bind_eq_some_iff.1 h
              refine TL.run ft_cursitorref10_ok [0, 1, 2] rfl rfl ?_
              refine TL.foc (E := intE) (k := k7) 0 rfl (fun w G h => own_reads (by decide) w G h) (by decide) hx36 ?_
              rintro gg oo z37cs hA z37cl ⟨_, _, z37r⟩
              cases hA
              obtain rfl : z37cs = [.int .i64 x35] := z37r
              clear z37cl
              refine TL.sel [0, 0] rfl ?_
              refine TL.q rfl .u (Ex.ixS (k := k7) rfl rfl rfl Try.runUnderlying104 Try.sizeOf3 (List.getElem?_eq_some_iff.1 hx36).1) rfl ?_
              refine TL.q rfl .u (Ex.k1 (cs := [.int .i64 x35]) 0 0 rfl Try.isAgg3 rfl (fun _ _ h => h.2.2.1) rfl) rfl ?_
              obtain ⟨x38, hx39, h⟩ := Option.bind_eq_some_iff.1 h
              refine TL.ce rfl .u (.fn Try.call94 rfl) (gRFits_spec y28 x35 _ hx39) (fun _ hs => (RX.reads_triv _ _)) rfl ?_
              refine TL.run ft_cursitorref10_ok [6] rfl rfl ?_
              by_cases c40 : x38 = true
              · replace h := ifT c40 h
                refine TL.nil (X.seq ?_)
                refine T.no rfl (bn_f c40) ?_
                refine T.skip (X.seq (T.region rfl ?_))
                refine TL.run ft_cursitorref10_ok [0, 1, 2, 3] rfl rfl ?_
                refine TL.q rfl .u (Ex.ixS (k := k7) rfl rfl rfl Try.runUnderlying104 Try.sizeOf3 (List.getElem?_eq_some_iff.1 hx36).1) rfl ?_
                refine TL.q rfl .u (Ex.k1 (cs := [.int .i64 x35]) 0 0 rfl Try.isAgg3 rfl (fun _ _ h => h.2.2.1) rfl) rfl ?_
                obtain ⟨x41, hx42, h⟩ := Option.bind_eq_some_iff.1 h
                refine TL.ce rfl .u (.fn Try.call93 rfl) (gRBytes_spec y28 x35 _ hx42) (fun _ hs => (RX.reads_triv _ _)) rfl ?_
                replace h := guard_some h
                obtain ⟨c43, h⟩ := h
                refine TL.q rfl .u (Ex.sAdd rfl rfl c43) rfl ?_
                refine TL.run ft_cursitorref10_ok [8] rfl rfl ?_
                refine TL.nil (X.blk (X.seq (T.region rfl ?_)))
                replace h := guard_some h
                obtain ⟨c44, h⟩ := h
                refine TL.run ft_cursitorref10_ok [0] rfl rfl ?_
                refine TL.q rfl .u (Ex.add rfl rfl c44) rfl ?_
                refine TL.run ft_cursitorref10_ok [2] rfl rfl ?_
                refine TL.nil ?_
                refine X.unf 0 rfl ?_
                refine X.sel [0, 0] rfl ?_
                exact X.back (m' := m11) [0, 0] (by omega) ⟨y4, y5, ((y6 ++ x32) ++ x41), k7 + 1, rfl, rfl, h⟩ (by rfl) (by rfl)
              · replace h := ifF c40 h
                replace c40 := eq_false_of_ne_true c40
                refine TL.nil (X.seq ?_)
                refine T.yes rfl (bn_t c40) ?_
                refine T.seq (T.region rfl ?_)
                refine TL.run ft_cursitorref10_ok [0, 1] rfl rfl ?_
                obtain rfl := Option.some.inj h
                replace h := hO10
                clear hO10
                try dsimp only at h
                obtain rfl := Option.some.inj h
                exact TL.nil (X.seq (T.ret (X.rs (X.rb (X.rs (X.rs (X.rb (X.rs (X.done2 [1] Try.results51 (RV.tm rfl) (RV.tm rfl) ⟨rfl, rfl, rfl⟩ (by rfl) (.inl rfl))))))))))
      · replace h := ifF c19 h
        refine TL.nil (X.seq ?_)
        refine T.no rfl (decide_eq_false c19) ?_
        refine T.skip (X.seq (T.seq (T.seq (T.region rfl ?_))))
        obtain ⟨x45, hx46, h⟩ := Option.bind_eq_some_iff.1 h
        refine TL.run ft_cursitorref10_ok [0, 1, 2] rfl rfl ?_
        refine TL.foc (E := intE) (k := k7) 0 rfl (fun w G h => own_reads (by decide) w G h) (by decide) hx46 ?_
        rintro gg oo z47cs hA z47cl ⟨_, _, z47r⟩
        cases hA
        obtain rfl : z47cs = [.int .i64 x45] := z47r
        clear z47cl
        refine TL.sel [0, 0] rfl ?_
        refine TL.q rfl .u (Ex.ixS (k := k7) rfl rfl rfl Try.runUnderlying104 Try.sizeOf3 (List.getElem?_eq_some_iff.1 hx46).1) rfl ?_
        refine TL.q rfl .u (Ex.k1 (cs := [.int .i64 x45]) 0 0 rfl Try.isAgg3 rfl (fun _ _ h => h.2.2.1) rfl) rfl ?_
        obtain ⟨x48, hx49, h⟩ := Option.bind_eq_some_iff.1 h
        refine TL.ce rfl .u (.fn Try.call94 rfl) (gRFits_spec x16 x45 _ hx49) (fun _ hs => (RX.reads_triv _ _)) rfl ?_
        refine TL.run ft_cursitorref10_ok [6] rfl rfl ?_
        by_cases c50 : x48 = true
        · replace h := ifT c50 h
          refine TL.nil (X.seq ?_)
          refine T.no rfl (bn_f c50) ?_
          refine T.skip (X.seq (T.region rfl ?_))
          refine TL.run ft_cursitorref10_ok [0, 1, 2, 3] rfl rfl ?_
          refine TL.q rfl .u (Ex.ixS (k := k7) rfl rfl rfl Try.runUnderlying104 Try.sizeOf3 (List.getElem?_eq_some_iff.1 hx46).1) rfl ?_
          refine TL.q rfl .u (Ex.k1 (cs := [.int .i64 x45]) 0 0 rfl Try.isAgg3 rfl (fun _ _ h => h.2.2.1) rfl) rfl ?_
          obtain ⟨x51, hx52, h⟩ := Option.bind_eq_some_iff.1 h
          refine TL.ce rfl .u (.fn Try.call93 rfl) (gRBytes_spec x16 x45 _ hx52) (fun _ hs => (RX.reads_triv _ _)) rfl ?_
          replace h := guard_some h
          obtain ⟨c53, h⟩ := h
          refine TL.q rfl .u (Ex.sAdd rfl rfl c53) rfl ?_
          refine TL.run ft_cursitorref10_ok [8] rfl rfl ?_
          refine TL.nil (X.blk (X.seq (T.region rfl ?_)))
          replace h := guard_some h
          obtain ⟨c54, h⟩ := h
          refine TL.run ft_cursitorref10_ok [0] rfl rfl ?_
          refine TL.q rfl .u (Ex.add rfl rfl c54) rfl ?_
          refine TL.run ft_cursitorref10_ok [2] rfl rfl ?_
          refine TL.nil ?_
          refine X.unf 0 rfl ?_
          refine X.sel [0, 0] rfl ?_
          exact X.back (m' := m11) [0, 0] (by omega) ⟨y4, y5, (y6 ++ x51), k7 + 1, rfl, rfl, h⟩ (by rfl) (by rfl)
        · replace h := ifF c50 h
          replace c50 := eq_false_of_ne_true c50
          refine TL.nil (X.seq ?_)
          refine T.yes rfl (bn_t c50) ?_
          refine T.seq (T.region rfl ?_)
          refine TL.run ft_cursitorref10_ok [0, 1] rfl rfl ?_
          obtain rfl := Option.some.inj h
          replace h := hO10
          clear hO10
          try dsimp only at h
          obtain rfl := Option.some.inj h
          exact TL.nil (X.seq (T.ret (X.rs (X.rb (X.rs (X.rs (X.rb (X.rs (X.done2 [1] Try.results51 (RV.tm rfl) (RV.tm rfl) ⟨rfl, rfl, rfl⟩ (by rfl) (.inl rfl))))))))))
    · replace h := ifF c15 h
      refine TL.nil (X.seq ?_)
      refine T.no rfl (decide_eq_false c15) ?_
      obtain rfl := Option.some.inj h
      replace h := hO10
      clear hO10
      try dsimp only at h
      refine T.exit (X.exs (X.exs (X.ex (X.seq (T.seq (T.region rfl ?_))))))
      refine TL.run ft_cursitorref10_ok [0, 1, 2] rfl rfl ?_
      obtain rfl := Option.some.inj h
      exact TL.nil (X.seq (T.ret (X.done2 [1] Try.results51 (RV.tm rfl) (RV.tm rfl) ⟨rfl, rfl, rfl⟩ (by rfl) (.inl rfl))))
end Go.Proofs.Ytcoppaggpbfcmaa.Sl
namespace Go.Proofs.Ytcoppaggpbfcmaa.Sl
open Go.RowKit
set_option linter.unusedVariables false
set_option linter.unusedSimpArgs false
set_option maxRecDepth 100000
def ft_cursitorref11 : FTab := [(25, 0, 0), (25, 1, 1), (25, 2, 2), (25, 3, 3), (25, 4, 4), (25, 5, 5), (25, 6, 6), (25, 7, 7), (25, 8, 8), (25, 9, 9), (25, 10, 10), (25, 11, 11), (33, 0, 0), (33, 1, 1)]
theorem ft_cursitorref11_ok : (ft_cursitorref11).OK Try.prog := ⟨FOK.mk Try.runUnderlying25 rfl Try.sizeOf3 rfl, FOK.mk Try.runUnderlying25 rfl Try.sizeOf3 rfl, FOK.mk Try.runUnderlying25 rfl Try.sizeOf4 rfl, FOK.mk Try.runUnderlying25 rfl Try.sizeOf4 rfl, FOK.mk Try.runUnderlying25 rfl Try.sizeOf4 rfl, FOK.mk Try.runUnderlying25 rfl Try.sizeOf3 rfl, FOK.mk Try.runUnderlying25 rfl Try.sizeOf3 rfl, FOK.mk Try.runUnderlying25 rfl Try.sizeOf3 rfl, FOK.mk Try.runUnderlying25 rfl Try.sizeOf3 rfl, FOK.mk Try.runUnderlying25 rfl Try.sizeOf3 rfl, FOK.mk Try.runUnderlying25 rfl Try.sizeOf3 rfl, FOK.mk Try.runUnderlying25 rfl Try.sizeOf23 rfl, FOK.mk Try.runUnderlying33 rfl Try.sizeOf3 rfl, FOK.mk Try.runUnderlying33 rfl Try.sizeOf3 rfl, trivial⟩
theorem mix_cursitorref11 : Try.prog.follows .mixedOrders = true := by kernel_rfl
theorem sok_cursitorref11_104_12 : SOK Try.prog 104 3 12 1 #[.int .i64 0, .int .i64 0, .int .i64 0, .int .i64 0, .int .i64 0, .int .i64 0, .int .i64 0, .int .i64 0, .int .i64 0, .int .i64 0, .int .i64 0, .int .i64 0] := SOK.mk Try.runUnderlying104 Try.sizeOf3 Try.zeroValue3 (by decide) (by kernel_rfl)
def f_r11_int32s (a0 : Int) (a1 : Int) : Option (Bool) := if a0 ≥ a1 then (if a0 ≤ 2147483647 then some true else some false) else some false
set_option maxRecDepth 100000 in
set_option maxHeartbeats 4000000 in
theorem f_r11_int32s_spec (a0 : Int) (a1 : Int) (r : Bool) (h : f_r11_int32s a0 a1 = some r) : SpecX Try.prog 33 #[.int .i64 a0, .int .i64 a1] .triv (EmpR) (fun v A' N => v = .bool r ∧ A' = EmpR ∧ N = []) := by
  refine enterA Try.func33 rfl Try.ntmps33 rfl ?_
  intro F w hX
  unfold f_r11_int32s at h
  refine T.seq (T.region rfl ?_)
  refine TL.run ft_cursitorref11_ok [0] rfl rfl ?_
  refine TL.nil (X.seq (T.seq (T.region rfl ?_)))
  by_cases c1 : a0 ≥ a1
  · replace h := ifT c1 h
    refine TL.run ft_cursitorref11_ok [0, 1, 2, 3] rfl rfl ?_
    refine TL.q rfl (.g rfl rfl (decide_eq_true c1)) (Ex.ft ft_cursitorref11_ok rfl) rfl ?_
    refine TL.q rfl (.g rfl rfl (decide_eq_true c1)) (Ex.ft ft_cursitorref11_ok rfl) rfl ?_
    refine TL.q rfl .u (Ex.py rfl (decide_eq_true c1) rfl) rfl ?_
    refine TL.run ft_cursitorref11_ok [7] rfl rfl ?_
    by_cases c2 : a0 ≤ 2147483647
    · replace h := ifT c2 h
      obtain rfl := Option.some.inj h
      exact TL.nil (X.seq (T.ret (X.done1 [0] Try.results33 (RV.tm (v := .bool true) (congrArg (fun b => some (Value.bool b)) (decide_eq_true c2))) ⟨rfl, rfl, rfl⟩ (by rfl) (.inl rfl))))
    · replace h := ifF c2 h
      obtain rfl := Option.some.inj h
      exact TL.nil (X.seq (T.ret (X.done1 [0] Try.results33 (RV.tm (v := .bool false) (congrArg (fun b => some (Value.bool b)) (decide_eq_false c2))) ⟨rfl, rfl, rfl⟩ (by rfl) (.inl rfl))))
  · replace h := ifF c1 h
    refine TL.run ft_cursitorref11_ok [0, 1, 2, 3] rfl rfl ?_
    refine TL.no rfl (.gn rfl rfl (decide_eq_false c1)) rfl ?_
    refine TL.no rfl (.gn rfl rfl (decide_eq_false c1)) rfl ?_
    refine TL.q rfl .u (Ex.pn rfl (decide_eq_false c1) rfl) rfl ?_
    refine TL.run ft_cursitorref11_ok [7] rfl rfl ?_
    obtain rfl := Option.some.inj h
    exact TL.nil (X.seq (T.ret (X.done1 [0] Try.results33 (RV.tm rfl) ⟨rfl, rfl, rfl⟩ (by rfl) (.inl rfl))))
def f_r11_producer (a0 : Bat) : Option (Bool) := if a0.fProducer = (-1) then (if a0.fEpoch = (-1) then (if a0.fSequence = (-1) then (if a0.fTxn = true then some false else some true) else some false) else some false) else (if a0.fProducer < 0 then some false else (if a0.fEpoch < 0 then some false else (if a0.fEpoch > 32767 then some false else (if a0.fControl = true then (if a0.fSequence = (-1) then some true else some false) else ((f_r11_int32s a0.fSequence 0).bind fun x13 => some x13)))))
set_option maxRecDepth 100000 in
set_option maxHeartbeats 4000000 in
theorem f_r11_producer_spec (a0 : Bat) (A1 : Option Addr) (c2 : Nat) (r : Bool) (h : f_r11_producer a0 = some r) : SpecX Try.prog 34 #[.agg #[.int .i64 a0.fBase, .int .i64 a0.fLeader, .bool a0.fAppend, .bool a0.fTxn, .bool a0.fControl, .int .i64 a0.fLast, .int .i64 a0.fFirst, .int .i64 a0.fMax, .int .i64 a0.fProducer, .int .i64 a0.fEpoch, .int .i64 a0.fSequence, .slice A1 a0.fRecords.length c2]] (RX.of (sliceRd 7 Rec_rd) [.slice A1 a0.fRecords.length c2] a0.fRecords) (EmpR) (fun v A' N => v = .bool r ∧ A' = EmpR ∧ N = []) := by
  refine enterA Try.func34 rfl Try.ntmps34 rfl ?_
  intro F w hX
  unfold f_r11_producer at h
  refine T.seq (T.region rfl ?_)
  refine TL.box rfl .u rfl rfl (fun b3 => ?_)
  refine TL.run ft_cursitorref11_ok [1] rfl rfl ?_
  refine TL.nil (X.seq (T.seq (T.seq (T.region rfl ?_))))
  refine TL.run ft_cursitorref11_ok [0] rfl rfl ?_
  refine TL.q rfl .u (Ex.b1 0 rfl Try.isAgg3 rfl rfl) rfl ?_
  refine TL.run ft_cursitorref11_ok [2] rfl rfl ?_
  by_cases c4 : a0.fProducer = (-1)
  · replace h := ifT c4 h
    refine TL.nil (X.seq ?_)
    refine T.yes rfl (decide_eq_true c4) ?_
    refine T.seq (T.region rfl ?_)
    refine TL.run ft_cursitorref11_ok [0] rfl rfl ?_
    refine TL.q rfl .u (Ex.b1 0 rfl Try.isAgg3 rfl rfl) rfl ?_
    by_cases c5 : a0.fEpoch = (-1)
    · replace h := ifT c5 h
      refine TL.run ft_cursitorref11_ok [2, 3] rfl rfl ?_
      refine TL.q rfl (.g rfl rfl (decide_eq_true c5)) (Ex.ft ft_cursitorref11_ok rfl) rfl ?_
      refine TL.q rfl (.g rfl rfl (decide_eq_true c5)) (Ex.b1 0 rfl Try.isAgg3 rfl rfl) rfl ?_
      refine TL.q rfl (.g rfl rfl (decide_eq_true c5)) (Ex.ft ft_cursitorref11_ok rfl) rfl ?_
      refine TL.q rfl .u (Ex.py rfl (decide_eq_true c5) rfl) rfl ?_
      by_cases c6 : a0.fSequence = (-1)
      · replace h := ifT c6 h
        refine TL.run ft_cursitorref11_ok [8] rfl rfl ?_
        refine TL.q rfl (.g rfl rfl (decide_eq_true c6)) (Ex.ft ft_cursitorref11_ok rfl) rfl ?_
        refine TL.q rfl (.g rfl rfl (decide_eq_true c6)) (Ex.b1 0 rfl Try.isAgg4 rfl rfl) rfl ?_
        refine TL.q rfl (.g rfl rfl (decide_eq_true c6)) (Ex.ft ft_cursitorref11_ok rfl) rfl ?_
        refine TL.q rfl .u (Ex.py rfl (decide_eq_true c6) rfl) rfl ?_
        refine TL.run ft_cursitorref11_ok [13] rfl rfl ?_
        by_cases c7 : a0.fTxn = true
        · replace h := ifT c7 h
          obtain rfl := Option.some.inj h
          exact TL.nil (X.seq (T.ret (X.rs (X.done1 [1] Try.results34 (RV.tm (v := .bool false) (congrArg (fun b => some (Value.bool b)) (bn_f c7))) ⟨rfl, rfl, rfl⟩ (by rfl) (.inl rfl)))))
        · replace h := ifF c7 h
          replace c7 := eq_false_of_ne_true c7
          obtain rfl := Option.some.inj h
          exact TL.nil (X.seq (T.ret (X.rs (X.done1 [1] Try.results34 (RV.tm (v := .bool true) (congrArg (fun b => some (Value.bool b)) (bn_t c7))) ⟨rfl, rfl, rfl⟩ (by rfl) (.inl rfl)))))
      · replace h := ifF c6 h
        refine TL.run ft_cursitorref11_ok [8] rfl rfl ?_
        refine TL.no rfl (.gn rfl rfl (decide_eq_false c6)) rfl ?_
        refine TL.no rfl (.gn rfl rfl (decide_eq_false c6)) rfl ?_
        refine TL.no rfl (.gn rfl rfl (decide_eq_false c6)) rfl ?_
        refine TL.q rfl .u (Ex.pn rfl (decide_eq_false c6) rfl) rfl ?_
        refine TL.run ft_cursitorref11_ok [13] rfl rfl ?_
        obtain rfl := Option.some.inj h
        exact TL.nil (X.seq (T.ret (X.rs (X.done1 [1] Try.results34 (RV.tm rfl) ⟨rfl, rfl, rfl⟩ (by rfl) (.inl rfl)))))
    · replace h := ifF c5 h
      refine TL.run ft_cursitorref11_ok [2, 3] rfl rfl ?_
      refine TL.no rfl (.gn rfl rfl (decide_eq_false c5)) rfl ?_
      refine TL.no rfl (.gn rfl rfl (decide_eq_false c5)) rfl ?_
      refine TL.no rfl (.gn rfl rfl (decide_eq_false c5)) rfl ?_
      refine TL.q rfl .u (Ex.pn rfl (decide_eq_false c5) rfl) rfl ?_
      refine TL.run ft_cursitorref11_ok [8] rfl rfl ?_
      refine TL.no rfl (.gn rfl rfl rfl) rfl ?_
      refine TL.no rfl (.gn rfl rfl rfl) rfl ?_
      refine TL.no rfl (.gn rfl rfl rfl) rfl ?_
      refine TL.q rfl .u (Ex.pn rfl rfl rfl) rfl ?_
      refine TL.run ft_cursitorref11_ok [13] rfl rfl ?_
      obtain rfl := Option.some.inj h
      exact TL.nil (X.seq (T.ret (X.rs (X.done1 [1] Try.results34 (RV.tm rfl) ⟨rfl, rfl, rfl⟩ (by rfl) (.inl rfl)))))
  · replace h := ifF c4 h
    refine TL.nil (X.seq ?_)
    refine T.no rfl (decide_eq_false c4) ?_
    refine T.skip (X.seq (T.seq (T.seq (T.region rfl ?_))))
    refine TL.run ft_cursitorref11_ok [0] rfl rfl ?_
    refine TL.q rfl .u (Ex.b1 0 rfl Try.isAgg3 rfl rfl) rfl ?_
    by_cases c8 : a0.fProducer < 0
    · replace h := ifT c8 h
      refine TL.run ft_cursitorref11_ok [2, 3] rfl rfl ?_
      refine TL.no rfl (.gn rfl rfl (decide_eq_true c8)) rfl ?_
      refine TL.no rfl (.gn rfl rfl (decide_eq_true c8)) rfl ?_
      refine TL.no rfl (.gn rfl rfl (decide_eq_true c8)) rfl ?_
      refine TL.q rfl .u (Ex.py rfl (decide_eq_true c8) rfl) rfl ?_
      refine TL.run ft_cursitorref11_ok [8] rfl rfl ?_
      refine TL.no rfl (.gn rfl rfl rfl) rfl ?_
      refine TL.no rfl (.gn rfl rfl rfl) rfl ?_
      refine TL.no rfl (.gn rfl rfl rfl) rfl ?_
      refine TL.q rfl .u (Ex.py rfl rfl rfl) rfl ?_
      refine TL.nil (X.seq ?_)
      refine T.yes rfl rfl ?_
      refine T.seq (T.region rfl ?_)
      refine TL.run ft_cursitorref11_ok [0] rfl rfl ?_
      obtain rfl := Option.some.inj h
      exact TL.nil (X.seq (T.ret (X.rs (X.done1 [1] Try.results34 (RV.tm rfl) ⟨rfl, rfl, rfl⟩ (by rfl) (.inl rfl)))))
    · replace h := ifF c8 h
      refine TL.run ft_cursitorref11_ok [2, 3] rfl rfl ?_
      refine TL.q rfl (.g rfl rfl (decide_eq_false c8)) (Ex.ft ft_cursitorref11_ok rfl) rfl ?_
      refine TL.q rfl (.g rfl rfl (decide_eq_false c8)) (Ex.b1 0 rfl Try.isAgg3 rfl rfl) rfl ?_
      refine TL.q rfl (.g rfl rfl (decide_eq_false c8)) (Ex.ft ft_cursitorref11_ok rfl) rfl ?_
      refine TL.q rfl .u (Ex.pn rfl (decide_eq_false c8) rfl) rfl ?_
      by_cases c9 : a0.fEpoch < 0
      · replace h := ifT c9 h
        refine TL.run ft_cursitorref11_ok [8] rfl rfl ?_
        refine TL.no rfl (.gn rfl rfl (decide_eq_true c9)) rfl ?_
        refine TL.no rfl (.gn rfl rfl (decide_eq_true c9)) rfl ?_
        refine TL.no rfl (.gn rfl rfl (decide_eq_true c9)) rfl ?_
        refine TL.q rfl .u (Ex.py rfl (decide_eq_true c9) rfl) rfl ?_
        refine TL.nil (X.seq ?_)
        refine T.yes rfl rfl ?_
        refine T.seq (T.region rfl ?_)
        refine TL.run ft_cursitorref11_ok [0] rfl rfl ?_
        obtain rfl := Option.some.inj h
        exact TL.nil (X.seq (T.ret (X.rs (X.done1 [1] Try.results34 (RV.tm rfl) ⟨rfl, rfl, rfl⟩ (by rfl) (.inl rfl)))))
      · replace h := ifF c9 h
        refine TL.run ft_cursitorref11_ok [8] rfl rfl ?_
        refine TL.q rfl (.g rfl rfl (decide_eq_false c9)) (Ex.ft ft_cursitorref11_ok rfl) rfl ?_
        refine TL.q rfl (.g rfl rfl (decide_eq_false c9)) (Ex.b1 0 rfl Try.isAgg3 rfl rfl) rfl ?_
        refine TL.q rfl (.g rfl rfl (decide_eq_false c9)) (Ex.ft ft_cursitorref11_ok rfl) rfl ?_
        refine TL.q rfl .u (Ex.pn rfl (decide_eq_false c9) rfl) rfl ?_
        by_cases c10 : a0.fEpoch > 32767
        · replace h := ifT c10 h
          refine TL.nil (X.seq ?_)
          refine T.yes rfl (decide_eq_true c10) ?_
          refine T.seq (T.region rfl ?_)
          refine TL.run ft_cursitorref11_ok [0] rfl rfl ?_
          obtain rfl := Option.some.inj h
          exact TL.nil (X.seq (T.ret (X.rs (X.done1 [1] Try.results34 (RV.tm rfl) ⟨rfl, rfl, rfl⟩ (by rfl) (.inl rfl)))))
        · replace h := ifF c10 h
          refine TL.nil (X.seq ?_)
          refine T.no rfl (decide_eq_false c10) ?_
          refine T.skip (X.seq (T.seq (T.seq (T.region rfl ?_))))
          refine TL.run ft_cursitorref11_ok [0] rfl rfl ?_
          refine TL.q rfl .u (Ex.b1 0 rfl Try.isAgg4 rfl rfl) rfl ?_
          by_cases c11 : a0.fControl = true
          · replace h := ifT c11 h
            refine TL.nil (X.seq ?_)
            refine T.yes rfl c11 ?_
            refine T.seq (T.region rfl ?_)
            refine TL.run ft_cursitorref11_ok [0] rfl rfl ?_
            refine TL.q rfl .u (Ex.b1 0 rfl Try.isAgg3 rfl rfl) rfl ?_
            refine TL.run ft_cursitorref11_ok [2, 3] rfl rfl ?_
            by_cases c12 : a0.fSequence = (-1)
            · replace h := ifT c12 h
              obtain rfl := Option.some.inj h
              exact TL.nil (X.seq (T.ret (X.rs (X.done1 [1] Try.results34 (RV.tm (v := .bool true) (congrArg (fun b => some (Value.bool b)) (decide_eq_true c12))) ⟨rfl, rfl, rfl⟩ (by rfl) (.inl rfl)))))
            · replace h := ifF c12 h
              obtain rfl := Option.some.inj h
              exact TL.nil (X.seq (T.ret (X.rs (X.done1 [1] Try.results34 (RV.tm (v := .bool false) (congrArg (fun b => some (Value.bool b)) (decide_eq_false c12))) ⟨rfl, rfl, rfl⟩ (by rfl) (.inl rfl)))))
          · replace h := ifF c11 h
            replace c11 := eq_false_of_ne_true c11
            refine TL.nil (X.seq ?_)
            refine T.no rfl c11 ?_
            refine T.skip (X.seq (T.seq (T.region rfl ?_)))
            refine TL.run ft_cursitorref11_ok [0] rfl rfl ?_
            refine TL.q rfl .u (Ex.b1 0 rfl Try.isAgg3 rfl rfl) rfl ?_
            obtain ⟨x13, hx14, h⟩ := Option.bind_eq_some_iff.1 h
            refine TL.ce rfl .u (.fn Try.call33 rfl) (f_r11_int32s_spec a0.fSequence 0 _ hx14) (fun _ hs => (RX.reads_triv _ _)) rfl ?_
            refine TL.run ft_cursitorref11_ok [3] rfl rfl ?_
            obtain rfl := Option.some.inj h
            exact TL.nil (X.seq (T.ret (X.done1 [1] Try.results34 (RV.tm rfl) ⟨rfl, rfl, rfl⟩ (by rfl) (.inl rfl))))
def f_r11_times_l1 (a0 : Bat) : Nat → Int → Int → Nat → Option (Lp Int (Int × Int × Nat))
  | 0, _, _, _ => none
  | m10 + 1, y4, y5, k6 => if (k6 : Int) < (a0.fRecords.length : Int) then ((a0.fRecords[k6]?).bind fun x15 => if -9223372036854775808 ≤ (9223372036854775807 - a0.fFirst) ∧ (9223372036854775807 - a0.fFirst) ≤ 9223372036854775807 then (if x15.fTime > (9223372036854775807 - a0.fFirst) then (some (Lp.ret (-1))) else (if -9223372036854775808 ≤ (-a0.fFirst) ∧ (-a0.fFirst) ≤ 9223372036854775807 then (if x15.fTime < (-a0.fFirst) then (some (Lp.ret (-1))) else (if -9223372036854775808 ≤ (a0.fFirst + x15.fTime) ∧ (a0.fFirst + x15.fTime) ≤ 9223372036854775807 then (if (a0.fFirst + x15.fTime) > y5 then (if -9223372036854775808 ≤ (a0.fFirst + x15.fTime) ∧ (a0.fFirst + x15.fTime) ≤ 9223372036854775807 then (if -9223372036854775808 ≤ ((k6 : Int) + 1) ∧ ((k6 : Int) + 1) ≤ 9223372036854775807 then (f_r11_times_l1 a0 m10 y4 (a0.fFirst + x15.fTime) (k6 + 1)) else none) else none) else (if -9223372036854775808 ≤ ((k6 : Int) + 1) ∧ ((k6 : Int) + 1) ≤ 9223372036854775807 then (f_r11_times_l1 a0 m10 y4 y5 (k6 + 1)) else none)) else none)) else none)) else none) else (some (Lp.go (y4, y5, k6)))
def f_r11_times (a0 : Bat) : Option (Int) := (f_r11_times_l1 a0 (((a0.fRecords.length : Int)).toNat + 1) 0 a0.fFirst 0).bind fun e => match e with | .ret r => some r | .go (y30, y31, k32) => some y31
set_option maxRecDepth 100000 in
set_option maxHeartbeats 4000000 in
theorem f_r11_times_spec (a0 : Bat) (A1 : Option Addr) (c2 : Nat) (r : Int) (h : f_r11_times a0 = some r) : SpecX Try.prog 79 #[.agg #[.int .i64 a0.fBase, .int .i64 a0.fLeader, .bool a0.fAppend, .bool a0.fTxn, .bool a0.fControl, .int .i64 a0.fLast, .int .i64 a0.fFirst, .int .i64 a0.fMax, .int .i64 a0.fProducer, .int .i64 a0.fEpoch, .int .i64 a0.fSequence, .slice A1 a0.fRecords.length c2]] (RX.of (sliceRd 7 Rec_rd) [.slice A1 a0.fRecords.length c2] a0.fRecords) (EmpR) (fun v A' N => v = .int .i64 r ∧ A' = EmpR ∧ N = []) := by
  refine enterA Try.func79 rfl Try.ntmps79 rfl ?_
  intro F w hX
  unfold f_r11_times at h
  refine T.seq (T.region rfl ?_)
  refine TL.box rfl .u rfl rfl (fun b3 => ?_)
  refine TL.run ft_cursitorref11_ok [1] rfl rfl ?_
  refine TL.nil (X.seq (T.seq (T.region rfl ?_)))
  refine TL.run ft_cursitorref11_ok [0] rfl rfl ?_
  refine TL.q rfl .u (Ex.b1 0 rfl Try.isAgg3 rfl rfl) rfl ?_
  refine TL.run ft_cursitorref11_ok [2] rfl rfl ?_
  refine TL.nil (X.seq (T.seq (T.seq (T.region rfl ?_))))
  refine TL.run ft_cursitorref11_ok [0] rfl rfl ?_
  refine TL.nil (X.seq (T.block ?_))
  obtain ⟨E7, hE8, hO9⟩ := Option.bind_eq_some_iff.1 h
  refine T.lp (fun m e Rs => ∃ (y4 : Int) (y5 : Int) (k6 : Nat), e = [(1, .pointer (some ⟨b3, 0, none⟩)), (2, .int .i64 y4), (3, .int .i64 y5), (4, .int .i64 (k6 : Int))] ∧ Rs = [BlkR b3 25 #[.int .i64 a0.fBase, .int .i64 a0.fLeader, .bool a0.fAppend, .bool a0.fTxn, .bool a0.fControl, .int .i64 a0.fLast, .int .i64 a0.fFirst, .int .i64 a0.fMax, .int .i64 a0.fProducer, .int .i64 a0.fEpoch, .int .i64 a0.fSequence, .slice A1 a0.fRecords.length c2], EmpR] ∧ f_r11_times_l1 a0 m y4 y5 k6 = some E7) (((a0.fRecords.length : Int)).toNat + 1) [0, 0] ⟨0, a0.fFirst, 0, rfl, rfl, by exact hE8⟩ (by rfl) (by rfl) ?_
  rintro m10 _ _ ⟨y4, y5, k6, rfl, rfl, hl12⟩
  clear hE8 h
  cases m10 with
  | zero =>
    rw [f_r11_times_l1] at hl12
    cases hl12
  | succ m10 =>
    have h := hl12
    clear hl12
    rw [f_r11_times_l1] at h
    refine T.seq (T.seq (T.region rfl ?_))
    refine TL.run ft_cursitorref11_ok [0, 1] rfl rfl ?_
    refine TL.q rfl .u (Ex.b1 0 rfl Try.isAgg23 rfl rfl) rfl ?_
    refine TL.q rfl .u (Ex.lenS rfl Try.runUnderlying23) rfl ?_
    refine TL.run ft_cursitorref11_ok [4] rfl rfl ?_
    by_cases c14 : (k6 : Int) < (a0.fRecords.length : Int)
    · replace h := ifT c14 h
      refine TL.nil (X.seq ?_)
      refine T.yes rfl (decide_eq_true c14) ?_
      refine T.skip (X.seq (T.seq (T.block (T.seq (T.region rfl ?_)))))
      refine TL.run ft_cursitorref11_ok [0] rfl rfl ?_
      refine TL.q rfl .u (Ex.b1 0 rfl Try.isAgg23 rfl rfl) rfl ?_
      obtain ⟨x15, hx16, h⟩ := Option.bind_eq_some_iff.1 h
      obtain ⟨gz17, oz17, rfl, z17cs, z17cl, z17cc, z17nf, z17r⟩ := RX.elem (by decide) hX hx16
      obtain ⟨z17S, z17r, z17rr⟩ := z17r
      obtain ⟨A18, c19, rfl, z17s0⟩ := z17r
      have hX20 : (RX.of (sliceRd 3 Hd_rd) [.slice A18 x15.fHeaders.length c19] x15.fHeaders).reads w F := ⟨z17S, z17s0, z17rr⟩
      refine TL.run ft_cursitorref11_ok [2] rfl rfl ?_
      refine TL.q rfl .u (Ex.ixS (k := k6) rfl rfl rfl Try.runUnderlying23 Try.sizeOf33 (List.getElem?_eq_some_iff.1 hx16).1) rfl ?_
      refine TL.run ft_cursitorref11_ok [4] rfl rfl ?_
      refine TL.q rfl .u (Ex.o1 0 rfl Try.isAgg3 z17nf z17cc rfl rfl) rfl ?_
      refine TL.run ft_cursitorref11_ok [6] rfl rfl ?_
      refine TL.nil (X.seq (T.seq (T.seq (T.region rfl ?_))))
      refine TL.run ft_cursitorref11_ok [0, 1] rfl rfl ?_
      refine TL.q rfl .u (Ex.b1 0 rfl Try.isAgg3 rfl rfl) rfl ?_
      replace h := guard_some h
      obtain ⟨c21, h⟩ := h
      refine TL.q rfl .u (Ex.sub rfl rfl c21) rfl ?_
      by_cases c22 : x15.fTime > (9223372036854775807 - a0.fFirst)
      · replace h := ifT c22 h
        refine TL.run ft_cursitorref11_ok [4, 5] rfl rfl ?_
        refine TL.no rfl (.gn rfl rfl (decide_eq_true c22)) rfl ?_
        refine TL.no rfl (.gn rfl rfl (decide_eq_true c22)) rfl ?_
        refine TL.no rfl (.gn rfl rfl (decide_eq_true c22)) rfl ?_
        refine TL.no rfl (.gn rfl rfl (decide_eq_true c22)) rfl ?_
        refine TL.no rfl (.gn rfl rfl (decide_eq_true c22)) rfl ?_
        refine TL.q rfl .u (Ex.py rfl (decide_eq_true c22) rfl) rfl ?_
        refine TL.nil (X.seq ?_)
        refine T.yes rfl rfl ?_
        refine T.seq (T.region rfl ?_)
        refine TL.run ft_cursitorref11_ok [0] rfl rfl ?_
        obtain rfl := Option.some.inj h
        replace h := hO9
        clear hO9
        try dsimp only at h
        obtain rfl := Option.some.inj h
        exact TL.nil (X.seq (T.ret (X.rs (X.rb (X.rs (X.rs (X.rb (X.rs (X.done1 [1] Try.results79 (RV.tm rfl) ⟨rfl, rfl, rfl⟩ (by rfl) (.inl rfl))))))))))
      · replace h := ifF c22 h
        refine TL.run ft_cursitorref11_ok [4, 5] rfl rfl ?_
        refine TL.q rfl (.g rfl rfl (decide_eq_false c22)) (Ex.ft ft_cursitorref11_ok rfl) rfl ?_
        refine TL.q rfl (.g rfl rfl (decide_eq_false c22)) (Ex.ft ft_cursitorref11_ok rfl) rfl ?_
        refine TL.q rfl (.g rfl rfl (decide_eq_false c22)) (Ex.b1 0 rfl Try.isAgg3 rfl rfl) rfl ?_
        replace h := guard_some h
        obtain ⟨c23, h⟩ := h
        refine TL.q rfl (.g rfl rfl (decide_eq_false c22)) (Ex.neg rfl c23) rfl ?_
        refine TL.q rfl (.g rfl rfl (decide_eq_false c22)) (Ex.ft ft_cursitorref11_ok rfl) rfl ?_
        refine TL.q rfl .u (Ex.pn rfl (decide_eq_false c22) rfl) rfl ?_
        by_cases c24 : x15.fTime < (-a0.fFirst)
        · replace h := ifT c24 h
          refine TL.nil (X.seq ?_)
          refine T.yes rfl (decide_eq_true c24) ?_
          refine T.seq (T.region rfl ?_)
          refine TL.run ft_cursitorref11_ok [0] rfl rfl ?_
          obtain rfl := Option.some.inj h
          replace h := hO9
          clear hO9
          try dsimp only at h
          obtain rfl := Option.some.inj h
          exact TL.nil (X.seq (T.ret (X.rs (X.rb (X.rs (X.rs (X.rb (X.rs (X.done1 [1] Try.results79 (RV.tm rfl) ⟨rfl, rfl, rfl⟩ (by rfl) (.inl rfl))))))))))
        · replace h := ifF c24 h
          refine TL.nil (X.seq ?_)
          refine T.no rfl (decide_eq_false c24) ?_
          refine T.skip (X.seq (T.seq (T.region rfl ?_)))
          refine TL.run ft_cursitorref11_ok [0] rfl rfl ?_
          refine TL.q rfl .u (Ex.b1 0 rfl Try.isAgg3 rfl rfl) rfl ?_
          replace h := guard_some h
          obtain ⟨c25, h⟩ := h
          refine TL.run ft_cursitorref11_ok [2] rfl rfl ?_
          refine TL.q rfl .u (Ex.add rfl rfl c25) rfl ?_
          refine TL.run ft_cursitorref11_ok [4, 5] rfl rfl ?_
          by_cases c26 : (a0.fFirst + x15.fTime) > y5
          · replace h := ifT c26 h
            refine TL.nil (X.seq ?_)
            refine T.yes rfl (decide_eq_true c26) ?_
            refine T.region rfl ?_
            refine TL.run ft_cursitorref11_ok [0] rfl rfl ?_
            refine TL.q rfl .u (Ex.b1 0 rfl Try.isAgg3 rfl rfl) rfl ?_
            replace h := guard_some h
            obtain ⟨c27, h⟩ := h
            refine TL.run ft_cursitorref11_ok [2] rfl rfl ?_
            refine TL.q rfl .u (Ex.add rfl rfl c27) rfl ?_
            refine TL.run ft_cursitorref11_ok [4] rfl rfl ?_
            refine TL.nil (X.blk (X.seq (T.region rfl ?_)))
            replace h := guard_some h
            obtain ⟨c28, h⟩ := h
            refine TL.run ft_cursitorref11_ok [0] rfl rfl ?_
            refine TL.q rfl .u (Ex.add rfl rfl c28) rfl ?_
            refine TL.run ft_cursitorref11_ok [2] rfl rfl ?_
            exact TL.nil (X.back (m' := m10) [0, 0] (by omega) ⟨y4, (a0.fFirst + x15.fTime), k6 + 1, rfl, rfl, h⟩ (by rfl) (by rfl))
          · replace h := ifF c26 h
            refine TL.nil (X.seq ?_)
            refine T.no rfl (decide_eq_false c26) ?_
            refine T.skip (X.blk (X.seq (T.region rfl ?_)))
            replace h := guard_some h
            obtain ⟨c29, h⟩ := h
            refine TL.run ft_cursitorref11_ok [0] rfl rfl ?_
            refine TL.q rfl .u (Ex.add rfl rfl c29) rfl ?_
            refine TL.run ft_cursitorref11_ok [2] rfl rfl ?_
            exact TL.nil (X.back (m' := m10) [0, 0] (by omega) ⟨y4, y5, k6 + 1, rfl, rfl, h⟩ (by rfl) (by rfl))
    · replace h := ifF c14 h
      refine TL.nil (X.seq ?_)
      refine T.no rfl (decide_eq_false c14) ?_
      obtain rfl := Option.some.inj h
      replace h := hO9
      clear hO9
      try dsimp only at h
      refine T.exit (X.exs (X.exs (X.ex (X.seq (T.seq (T.region rfl ?_))))))
      refine TL.run ft_cursitorref11_ok [0, 1] rfl rfl ?_
      obtain rfl := Option.some.inj h
      exact TL.nil (X.seq (T.ret (X.done1 [1] Try.results79 (RV.tm rfl) ⟨rfl, rfl, rfl⟩ (by rfl) (.inl rfl))))
def f_r11_orders_l1 (a0 : Bat) : Nat → Int → Nat → Option (Lp Int (Int × Nat))
  | 0, _, _ => none
  | m9 + 1, y4, k5 => if (k5 : Int) < (a0.fRecords.length : Int) then ((a0.fRecords[k5]?).bind fun x14 => if x14.fOffset > a0.fLast then some (Lp.ret 13) else (if (k5 : Int) > 0 then (if -9223372036854775808 ≤ ((k5 : Int) - 1) ∧ ((k5 : Int) - 1) ≤ 9223372036854775807 then (if 0 ≤ ((k5 : Int) - 1) then ((a0.fRecords[((k5 : Int) - 1).toNat]?).bind fun x24 => if x14.fOffset ≤ x24.fOffset then some (Lp.ret 13) else (if x14.fOffset < 0 then some (Lp.ret 13) else (if -9223372036854775808 ≤ (9223372036854775807 - a0.fFirst) ∧ (9223372036854775807 - a0.fFirst) ≤ 9223372036854775807 then (if x14.fTime > (9223372036854775807 - a0.fFirst) then some (Lp.ret 11) else (if -9223372036854775808 ≤ (-a0.fFirst) ∧ (-a0.fFirst) ≤ 9223372036854775807 then (if x14.fTime < (-a0.fFirst) then some (Lp.ret 11) else (if -9223372036854775808 ≤ ((k5 : Int) + 1) ∧ ((k5 : Int) + 1) ≤ 9223372036854775807 then (f_r11_orders_l1 a0 m9 y4 (k5 + 1)) else none)) else none)) else none))) else none) else none) else (if x14.fOffset < 0 then some (Lp.ret 13) else (if -9223372036854775808 ≤ (9223372036854775807 - a0.fFirst) ∧ (9223372036854775807 - a0.fFirst) ≤ 9223372036854775807 then (if x14.fTime > (9223372036854775807 - a0.fFirst) then some (Lp.ret 11) else (if -9223372036854775808 ≤ (-a0.fFirst) ∧ (-a0.fFirst) ≤ 9223372036854775807 then (if x14.fTime < (-a0.fFirst) then some (Lp.ret 11) else (if -9223372036854775808 ≤ ((k5 : Int) + 1) ∧ ((k5 : Int) + 1) ≤ 9223372036854775807 then (f_r11_orders_l1 a0 m9 y4 (k5 + 1)) else none)) else none)) else none)))) else (some (Lp.go (y4, k5)))
def f_r11_orders (a0 : Bat) : Option (Int) := (f_r11_orders_l1 a0 (((a0.fRecords.length : Int)).toNat + 1) 0 0).bind fun e => match e with | .ret r => some r | .go (y47, k48) => (if a0.fAppend = true then some 0 else ((f_r11_times a0).bind fun x50 => if x50 = a0.fMax then some 0 else some 11))
set_option maxRecDepth 100000 in
set_option maxHeartbeats 4000000 in
theorem f_r11_orders_spec (a0 : Bat) (A1 : Option Addr) (c2 : Nat) (r : Int) (h : f_r11_orders a0 = some r) : SpecX Try.prog 37 #[.agg #[.int .i64 a0.fBase, .int .i64 a0.fLeader, .bool a0.fAppend, .bool a0.fTxn, .bool a0.fControl, .int .i64 a0.fLast, .int .i64 a0.fFirst, .int .i64 a0.fMax, .int .i64 a0.fProducer, .int .i64 a0.fEpoch, .int .i64 a0.fSequence, .slice A1 a0.fRecords.length c2]] (RX.of (sliceRd 7 Rec_rd) [.slice A1 a0.fRecords.length c2] a0.fRecords) (EmpR) (fun v A' N => v = .int .i64 r ∧ A' = EmpR ∧ N = []) := by
  refine enterA Try.func37 rfl Try.ntmps37 rfl ?_
  intro F w hX
  unfold f_r11_orders at h
  refine T.seq (T.region rfl ?_)
  refine TL.box rfl .u rfl rfl (fun b3 => ?_)
  refine TL.run ft_cursitorref11_ok [1] rfl rfl ?_
  refine TL.nil (X.seq (T.seq (T.seq (T.region rfl ?_))))
  refine TL.run ft_cursitorref11_ok [0] rfl rfl ?_
  refine TL.nil (X.seq (T.block ?_))
  obtain ⟨E6, hE7, hO8⟩ := Option.bind_eq_some_iff.1 h
  refine T.lp (fun m e Rs => ∃ (y4 : Int) (k5 : Nat), e = [(1, .pointer (some ⟨b3, 0, none⟩)), (2, .int .i64 y4), (3, .int .i64 (k5 : Int))] ∧ Rs = [BlkR b3 25 #[.int .i64 a0.fBase, .int .i64 a0.fLeader, .bool a0.fAppend, .bool a0.fTxn, .bool a0.fControl, .int .i64 a0.fLast, .int .i64 a0.fFirst, .int .i64 a0.fMax, .int .i64 a0.fProducer, .int .i64 a0.fEpoch, .int .i64 a0.fSequence, .slice A1 a0.fRecords.length c2], EmpR] ∧ f_r11_orders_l1 a0 m y4 k5 = some E6) (((a0.fRecords.length : Int)).toNat + 1) [0, 0] ⟨0, 0, rfl, rfl, by exact hE7⟩ (by rfl) (by rfl) ?_
  rintro m9 _ _ ⟨y4, k5, rfl, rfl, hl11⟩
  clear hE7 h
  cases m9 with
  | zero =>
    rw [f_r11_orders_l1] at hl11
    cases hl11
  | succ m9 =>
    have h := hl11
    clear hl11
    rw [f_r11_orders_l1] at h
    refine T.seq (T.seq (T.region rfl ?_))
    refine TL.run ft_cursitorref11_ok [0, 1] rfl rfl ?_
    refine TL.q rfl .u (Ex.b1 0 rfl Try.isAgg23 rfl rfl) rfl ?_
    refine TL.q rfl .u (Ex.lenS rfl Try.runUnderlying23) rfl ?_
    refine TL.run ft_cursitorref11_ok [4] rfl rfl ?_
    by_cases c13 : (k5 : Int) < (a0.fRecords.length : Int)
    · replace h := ifT c13 h
      refine TL.nil (X.seq ?_)
      refine T.yes rfl (decide_eq_true c13) ?_
      refine T.skip (X.seq (T.seq (T.block (T.seq (T.region rfl ?_)))))
      refine TL.run ft_cursitorref11_ok [0] rfl rfl ?_
      refine TL.q rfl .u (Ex.b1 0 rfl Try.isAgg23 rfl rfl) rfl ?_
      obtain ⟨x14, hx15, h⟩ := Option.bind_eq_some_iff.1 h
      obtain ⟨gz16, oz16, rfl, z16cs, z16cl, z16cc, z16nf, z16r⟩ := RX.elem (by decide) hX hx15
      obtain ⟨z16S, z16r, z16rr⟩ := z16r
      obtain ⟨A17, c18, rfl, z16s0⟩ := z16r
      have hX19 : (RX.of (sliceRd 3 Hd_rd) [.slice A17 x14.fHeaders.length c18] x14.fHeaders).reads w F := ⟨z16S, z16s0, z16rr⟩
      refine TL.run ft_cursitorref11_ok [2] rfl rfl ?_
      refine TL.q rfl .u (Ex.ixS (k := k5) rfl rfl rfl Try.runUnderlying23 Try.sizeOf33 (List.getElem?_eq_some_iff.1 hx15).1) rfl ?_
      refine TL.run ft_cursitorref11_ok [4] rfl rfl ?_
      refine TL.q rfl .u (Ex.o1 1 rfl Try.isAgg3 z16nf z16cc rfl rfl) rfl ?_
      refine TL.run ft_cursitorref11_ok [6] rfl rfl ?_
      refine TL.nil (X.seq (T.seq (T.seq (T.region rfl ?_))))
      refine TL.run ft_cursitorref11_ok [0, 1] rfl rfl ?_
      refine TL.q rfl .u (Ex.b1 0 rfl Try.isAgg3 rfl rfl) rfl ?_
      by_cases c20 : x14.fOffset > a0.fLast
      · replace h := ifT c20 h
        refine TL.run ft_cursitorref11_ok [3, 4] rfl rfl ?_
        refine TL.no rfl (.gn rfl rfl (decide_eq_true c20)) rfl ?_
        refine TL.no rfl (.gn rfl rfl (decide_eq_true c20)) rfl ?_
        refine TL.no rfl (.gn rfl rfl (decide_eq_true c20)) rfl ?_
        refine TL.no rfl (.gu rfl rfl) rfl ?_
        refine TL.no rfl (.gu rfl rfl) rfl ?_
        refine TL.no rfl (.gu rfl rfl) rfl ?_
        refine TL.no rfl (.gu rfl rfl) rfl ?_
        refine TL.no rfl (.gu rfl rfl) rfl ?_
        refine TL.no rfl (.gu rfl rfl) rfl ?_
        refine TL.no rfl (.gu rfl rfl) rfl ?_
        refine TL.no rfl (.gu rfl rfl) rfl ?_
        refine TL.no rfl (.gu rfl rfl) rfl ?_
        refine TL.no rfl (.gn rfl rfl (decide_eq_true c20)) rfl ?_
        refine TL.q rfl .u (Ex.py rfl (decide_eq_true c20) rfl) rfl ?_
        refine TL.run ft_cursitorref11_ok [19] rfl rfl ?_
        refine TL.no rfl (.gn rfl rfl rfl) rfl ?_
        refine TL.no rfl (.gn rfl rfl rfl) rfl ?_
        refine TL.q rfl .u (Ex.py rfl rfl rfl) rfl ?_
        refine TL.nil (X.seq ?_)
        refine T.yes rfl rfl ?_
        refine T.seq (T.region rfl ?_)
        refine TL.run ft_cursitorref11_ok [0] rfl rfl ?_
        obtain rfl := Option.some.inj h
        replace h := hO8
        clear hO8
        try dsimp only at h
        obtain rfl := Option.some.inj h
        exact TL.nil (X.seq (T.ret (X.rs (X.rb (X.rs (X.rs (X.rb (X.rs (X.done1 [1] Try.results37 (RV.tm rfl) ⟨rfl, rfl, rfl⟩ (by rfl) (.inl rfl))))))))))
      · replace h := ifF c20 h
        refine TL.run ft_cursitorref11_ok [3, 4] rfl rfl ?_
        refine TL.q rfl (.g rfl rfl (decide_eq_false c20)) (Ex.ft ft_cursitorref11_ok rfl) rfl ?_
        refine TL.q rfl (.g rfl rfl (decide_eq_false c20)) (Ex.ft ft_cursitorref11_ok rfl) rfl ?_
        refine TL.q rfl (.g rfl rfl (decide_eq_false c20)) (Ex.ft ft_cursitorref11_ok rfl) rfl ?_
        by_cases c21 : (k5 : Int) > 0
        · replace h := ifT c21 h
          refine TL.q rfl (.g rfl rfl (decide_eq_true c21)) (Ex.ft ft_cursitorref11_ok rfl) rfl ?_
          refine TL.q rfl (.g rfl rfl (decide_eq_true c21)) (Ex.ft ft_cursitorref11_ok rfl) rfl ?_
          refine TL.q rfl (.g rfl rfl (decide_eq_true c21)) (Ex.b1 0 rfl Try.isAgg23 rfl rfl) rfl ?_
          refine TL.q rfl (.g rfl rfl (decide_eq_true c21)) (Ex.ft ft_cursitorref11_ok rfl) rfl ?_
          replace h := guard_some h
          obtain ⟨c22, h⟩ := h
          refine TL.q rfl (.g rfl rfl (decide_eq_true c21)) (Ex.sub rfl rfl c22) rfl ?_
          replace h := guard_some h
          obtain ⟨c23, h⟩ := h
          obtain ⟨x24, hx25, h⟩ := Option.bind_eq_some_iff.1 h
          obtain ⟨z26cs, z26cl, z26cc, z26nf, z26r⟩ := RX.elem' (by decide) hX hx25
          obtain ⟨z26S, z26r, z26rr⟩ := z26r
          obtain ⟨A27, c28, rfl, z26s0⟩ := z26r
          have hX29 : (RX.of (sliceRd 3 Hd_rd) [.slice A27 x24.fHeaders.length c28] x24.fHeaders).reads w F := ⟨z26S, z26s0, z26rr⟩
          refine TL.q rfl (.g rfl rfl (decide_eq_true c21)) (Ex.ixS (k := ((k5 : Int) - 1).toNat) rfl rfl ((Int.toNat_of_nonneg c23).symm) Try.runUnderlying23 Try.sizeOf33 (List.getElem?_eq_some_iff.1 hx25).1) rfl ?_
          refine TL.q rfl (.g rfl rfl (decide_eq_true c21)) (Ex.ft ft_cursitorref11_ok rfl) rfl ?_
          refine TL.q rfl (.g rfl rfl (decide_eq_true c21)) (Ex.o1 1 rfl Try.isAgg3 z26nf z26cc rfl rfl) rfl ?_
          refine TL.q rfl (.g rfl rfl (decide_eq_true c21)) (Ex.ft ft_cursitorref11_ok rfl) rfl ?_
          refine TL.q rfl (.g rfl rfl (decide_eq_false c20)) (Ex.py rfl (decide_eq_true c21) rfl) rfl ?_
          refine TL.q rfl .u (Ex.pn rfl (decide_eq_false c20) rfl) rfl ?_
          by_cases c30 : x14.fOffset ≤ x24.fOffset
          · replace h := ifT c30 h
            refine TL.run ft_cursitorref11_ok [19] rfl rfl ?_
            refine TL.no rfl (.gn rfl rfl (decide_eq_true c30)) rfl ?_
            refine TL.no rfl (.gn rfl rfl (decide_eq_true c30)) rfl ?_
            refine TL.q rfl .u (Ex.py rfl (decide_eq_true c30) rfl) rfl ?_
            refine TL.nil (X.seq ?_)
            refine T.yes rfl rfl ?_
            refine T.seq (T.region rfl ?_)
            refine TL.run ft_cursitorref11_ok [0] rfl rfl ?_
            obtain rfl := Option.some.inj h
            replace h := hO8
            clear hO8
            try dsimp only at h
            obtain rfl := Option.some.inj h
            exact TL.nil (X.seq (T.ret (X.rs (X.rb (X.rs (X.rs (X.rb (X.rs (X.done1 [1] Try.results37 (RV.tm rfl) ⟨rfl, rfl, rfl⟩ (by rfl) (.inl rfl))))))))))
          · replace h := ifF c30 h
            refine TL.run ft_cursitorref11_ok [19] rfl rfl ?_
            refine TL.q rfl (.g rfl rfl (decide_eq_false c30)) (Ex.ft ft_cursitorref11_ok rfl) rfl ?_
            refine TL.q rfl (.g rfl rfl (decide_eq_false c30)) (Ex.ft ft_cursitorref11_ok rfl) rfl ?_
            refine TL.q rfl .u (Ex.pn rfl (decide_eq_false c30) rfl) rfl ?_
            by_cases c31 : x14.fOffset < 0
            · replace h := ifT c31 h
              refine TL.nil (X.seq ?_)
              refine T.yes rfl (decide_eq_true c31) ?_
              refine T.seq (T.region rfl ?_)
              refine TL.run ft_cursitorref11_ok [0] rfl rfl ?_
              obtain rfl := Option.some.inj h
              replace h := hO8
              clear hO8
              try dsimp only at h
              obtain rfl := Option.some.inj h
              exact TL.nil (X.seq (T.ret (X.rs (X.rb (X.rs (X.rs (X.rb (X.rs (X.done1 [1] Try.results37 (RV.tm rfl) ⟨rfl, rfl, rfl⟩ (by rfl) (.inl rfl))))))))))
            · replace h := ifF c31 h
              refine TL.nil (X.seq ?_)
              refine T.no rfl (decide_eq_false c31) ?_
              refine T.skip (X.seq (T.seq (T.region rfl ?_)))
              refine TL.run ft_cursitorref11_ok [0] rfl rfl ?_
              refine TL.q rfl .u (Ex.b1 0 rfl Try.isAgg23 rfl rfl) rfl ?_
              refine TL.run ft_cursitorref11_ok [2] rfl rfl ?_
              refine TL.q rfl .u (Ex.ixS (k := k5) rfl rfl rfl Try.runUnderlying23 Try.sizeOf33 (List.getElem?_eq_some_iff.1 hx15).1) rfl ?_
              refine TL.run ft_cursitorref11_ok [4] rfl rfl ?_
              refine TL.q rfl .u (Ex.o1 0 rfl Try.isAgg3 z16nf z16cc rfl rfl) rfl ?_
              refine TL.run ft_cursitorref11_ok [6] rfl rfl ?_
              refine TL.nil (X.seq (T.seq (T.region rfl ?_)))
              refine TL.run ft_cursitorref11_ok [0, 1] rfl rfl ?_
              refine TL.q rfl .u (Ex.b1 0 rfl Try.isAgg3 rfl rfl) rfl ?_
              replace h := guard_some h
              obtain ⟨c32, h⟩ := h
              refine TL.q rfl .u (Ex.sub rfl rfl c32) rfl ?_
              by_cases c33 : x14.fTime > (9223372036854775807 - a0.fFirst)
              · replace h := ifT c33 h
                refine TL.run ft_cursitorref11_ok [4, 5] rfl rfl ?_
                refine TL.no rfl (.gn rfl rfl (decide_eq_true c33)) rfl ?_
                refine TL.no rfl (.gn rfl rfl (decide_eq_true c33)) rfl ?_
                refine TL.no rfl (.gn rfl rfl (decide_eq_true c33)) rfl ?_
                refine TL.no rfl (.gn rfl rfl (decide_eq_true c33)) rfl ?_
                refine TL.no rfl (.gn rfl rfl (decide_eq_true c33)) rfl ?_
                refine TL.q rfl .u (Ex.py rfl (decide_eq_true c33) rfl) rfl ?_
                refine TL.nil (X.seq ?_)
                refine T.yes rfl rfl ?_
                refine T.seq (T.region rfl ?_)
                refine TL.run ft_cursitorref11_ok [0] rfl rfl ?_
                obtain rfl := Option.some.inj h
                replace h := hO8
                clear hO8
                try dsimp only at h
                obtain rfl := Option.some.inj h
                exact TL.nil (X.seq (T.ret (X.rb (X.rs (X.rs (X.rb (X.rs (X.done1 [1] Try.results37 (RV.tm rfl) ⟨rfl, rfl, rfl⟩ (by rfl) (.inl rfl)))))))))
              · replace h := ifF c33 h
                refine TL.run ft_cursitorref11_ok [4, 5] rfl rfl ?_
                refine TL.q rfl (.g rfl rfl (decide_eq_false c33)) (Ex.ft ft_cursitorref11_ok rfl) rfl ?_
                refine TL.q rfl (.g rfl rfl (decide_eq_false c33)) (Ex.ft ft_cursitorref11_ok rfl) rfl ?_
                refine TL.q rfl (.g rfl rfl (decide_eq_false c33)) (Ex.b1 0 rfl Try.isAgg3 rfl rfl) rfl ?_
                replace h := guard_some h
                obtain ⟨c34, h⟩ := h
                refine TL.q rfl (.g rfl rfl (decide_eq_false c33)) (Ex.neg rfl c34) rfl ?_
                refine TL.q rfl (.g rfl rfl (decide_eq_false c33)) (Ex.ft ft_cursitorref11_ok rfl) rfl ?_
                refine TL.q rfl .u (Ex.pn rfl (decide_eq_false c33) rfl) rfl ?_
                by_cases c35 : x14.fTime < (-a0.fFirst)
                · replace h := ifT c35 h
                  refine TL.nil (X.seq ?_)
                  refine T.yes rfl (decide_eq_true c35) ?_
                  refine T.seq (T.region rfl ?_)
                  refine TL.run ft_cursitorref11_ok [0] rfl rfl ?_
                  obtain rfl := Option.some.inj h
                  replace h := hO8
                  clear hO8
                  try dsimp only at h
                  obtain rfl := Option.some.inj h
                  exact TL.nil (X.seq (T.ret (X.rb (X.rs (X.rs (X.rb (X.rs (X.done1 [1] Try.results37 (RV.tm rfl) ⟨rfl, rfl, rfl⟩ (by rfl) (.inl rfl)))))))))
                · replace h := ifF c35 h
                  refine TL.nil (X.seq ?_)
                  refine T.no rfl (decide_eq_false c35) ?_
                  refine T.skip (X.blk (X.seq (T.region rfl ?_)))
                  replace h := guard_some h
                  obtain ⟨c36, h⟩ := h
                  refine TL.run ft_cursitorref11_ok [0] rfl rfl ?_
                  refine TL.q rfl .u (Ex.add rfl rfl c36) rfl ?_
                  refine TL.run ft_cursitorref11_ok [2] rfl rfl ?_
                  exact TL.nil (X.back (m' := m9) [0, 0] (by omega) ⟨y4, k5 + 1, rfl, rfl, h⟩ (by rfl) (by rfl))
        · replace h := ifF c21 h
          refine TL.no rfl (.gn rfl rfl (decide_eq_false c21)) rfl ?_
          refine TL.no rfl (.gn rfl rfl (decide_eq_false c21)) rfl ?_
          refine TL.no rfl (.gn rfl rfl (decide_eq_false c21)) rfl ?_
          refine TL.no rfl (.gn rfl rfl (decide_eq_false c21)) rfl ?_
          refine TL.no rfl (.gn rfl rfl (decide_eq_false c21)) rfl ?_
          refine TL.no rfl (.gn rfl rfl (decide_eq_false c21)) rfl ?_
          refine TL.no rfl (.gn rfl rfl (decide_eq_false c21)) rfl ?_
          refine TL.no rfl (.gn rfl rfl (decide_eq_false c21)) rfl ?_
          refine TL.no rfl (.gn rfl rfl (decide_eq_false c21)) rfl ?_
          refine TL.q rfl (.g rfl rfl (decide_eq_false c20)) (Ex.pn rfl (decide_eq_false c21) rfl) rfl ?_
          refine TL.q rfl .u (Ex.pn rfl (decide_eq_false c20) rfl) rfl ?_
          refine TL.run ft_cursitorref11_ok [19] rfl rfl ?_
          refine TL.q rfl (.g rfl rfl rfl) (Ex.ft ft_cursitorref11_ok rfl) rfl ?_
          refine TL.q rfl (.g rfl rfl rfl) (Ex.ft ft_cursitorref11_ok rfl) rfl ?_
          refine TL.q rfl .u (Ex.pn rfl rfl rfl) rfl ?_
          by_cases c37 : x14.fOffset < 0
          · replace h := ifT c37 h
            refine TL.nil (X.seq ?_)
            refine T.yes rfl (decide_eq_true c37) ?_
            refine T.seq (T.region rfl ?_)
            refine TL.run ft_cursitorref11_ok [0] rfl rfl ?_
            obtain rfl := Option.some.inj h
            replace h := hO8
            clear hO8
            try dsimp only at h
            obtain rfl := Option.some.inj h
            exact TL.nil (X.seq (T.ret (X.rs (X.rb (X.rs (X.rs (X.rb (X.rs (X.done1 [1] Try.results37 (RV.tm rfl) ⟨rfl, rfl, rfl⟩ (by rfl) (.inl rfl))))))))))
          · replace h := ifF c37 h
            refine TL.nil (X.seq ?_)
            refine T.no rfl (decide_eq_false c37) ?_
            refine T.skip (X.seq (T.seq (T.region rfl ?_)))
            refine TL.run ft_cursitorref11_ok [0] rfl rfl ?_
            refine TL.q rfl .u (Ex.b1 0 rfl Try.isAgg23 rfl rfl) rfl ?_
            refine TL.run ft_cursitorref11_ok [2] rfl rfl ?_
            refine TL.q rfl .u (Ex.ixS (k := k5) rfl rfl rfl Try.runUnderlying23 Try.sizeOf33 (List.getElem?_eq_some_iff.1 hx15).1) rfl ?_
            refine TL.run ft_cursitorref11_ok [4] rfl rfl ?_
            refine TL.q rfl .u (Ex.o1 0 rfl Try.isAgg3 z16nf z16cc rfl rfl) rfl ?_
            refine TL.run ft_cursitorref11_ok [6] rfl rfl ?_
            refine TL.nil (X.seq (T.seq (T.region rfl ?_)))
            refine TL.run ft_cursitorref11_ok [0, 1] rfl rfl ?_
            refine TL.q rfl .u (Ex.b1 0 rfl Try.isAgg3 rfl rfl) rfl ?_
            replace h := guard_some h
            obtain ⟨c38, h⟩ := h
            refine TL.q rfl .u (Ex.sub rfl rfl c38) rfl ?_
            by_cases c39 : x14.fTime > (9223372036854775807 - a0.fFirst)
            · replace h := ifT c39 h
              refine TL.run ft_cursitorref11_ok [4, 5] rfl rfl ?_
              refine TL.no rfl (.gn rfl rfl (decide_eq_true c39)) rfl ?_
              refine TL.no rfl (.gn rfl rfl (decide_eq_true c39)) rfl ?_
              refine TL.no rfl (.gn rfl rfl (decide_eq_true c39)) rfl ?_
              refine TL.no rfl (.gn rfl rfl (decide_eq_true c39)) rfl ?_
              refine TL.no rfl (.gn rfl rfl (decide_eq_true c39)) rfl ?_
              refine TL.q rfl .u (Ex.py rfl (decide_eq_true c39) rfl) rfl ?_
              refine TL.nil (X.seq ?_)
              refine T.yes rfl rfl ?_
              refine T.seq (T.region rfl ?_)
              refine TL.run ft_cursitorref11_ok [0] rfl rfl ?_
              obtain rfl := Option.some.inj h
              replace h := hO8
              clear hO8
              try dsimp only at h
              obtain rfl := Option.some.inj h
              exact TL.nil (X.seq (T.ret (X.rb (X.rs (X.rs (X.rb (X.rs (X.done1 [1] Try.results37 (RV.tm rfl) ⟨rfl, rfl, rfl⟩ (by rfl) (.inl rfl)))))))))
            · replace h := ifF c39 h
              refine TL.run ft_cursitorref11_ok [4, 5] rfl rfl ?_
              refine TL.q rfl (.g rfl rfl (decide_eq_false c39)) (Ex.ft ft_cursitorref11_ok rfl) rfl ?_
              refine TL.q rfl (.g rfl rfl (decide_eq_false c39)) (Ex.ft ft_cursitorref11_ok rfl) rfl ?_
              refine TL.q rfl (.g rfl rfl (decide_eq_false c39)) (Ex.b1 0 rfl Try.isAgg3 rfl rfl) rfl ?_
              replace h := guard_some h
              obtain ⟨c40, h⟩ := h
              refine TL.q rfl (.g rfl rfl (decide_eq_false c39)) (Ex.neg rfl c40) rfl ?_
              refine TL.q rfl (.g rfl rfl (decide_eq_false c39)) (Ex.ft ft_cursitorref11_ok rfl) rfl ?_
              refine TL.q rfl .u (Ex.pn rfl (decide_eq_false c39) rfl) rfl ?_
              by_cases c41 : x14.fTime < (-a0.fFirst)
              · replace h := ifT c41 h
                refine TL.nil (X.seq ?_)
                refine T.yes rfl (decide_eq_true c41) ?_
                refine T.seq (T.region rfl ?_)
                refine TL.run ft_cursitorref11_ok [0] rfl rfl ?_
                obtain rfl := Option.some.inj h
                replace h := hO8
                clear hO8
                try dsimp only at h
                obtain rfl := Option.some.inj h
                exact TL.nil (X.seq (T.ret (X.rb (X.rs (X.rs (X.rb (X.rs (X.done1 [1] Try.results37 (RV.tm rfl) ⟨rfl, rfl, rfl⟩ (by rfl) (.inl rfl)))))))))
              · replace h := ifF c41 h
                refine TL.nil (X.seq ?_)
                refine T.no rfl (decide_eq_false c41) ?_
                refine T.skip (X.blk (X.seq (T.region rfl ?_)))
                replace h := guard_some h
                obtain ⟨c42, h⟩ := h
                refine TL.run ft_cursitorref11_ok [0] rfl rfl ?_
                refine TL.q rfl .u (Ex.add rfl rfl c42) rfl ?_
                refine TL.run ft_cursitorref11_ok [2] rfl rfl ?_
                exact TL.nil (X.back (m' := m9) [0, 0] (by omega) ⟨y4, k5 + 1, rfl, rfl, h⟩ (by rfl) (by rfl))
    · replace h := ifF c13 h
      refine TL.nil (X.seq ?_)
      refine T.no rfl (decide_eq_false c13) ?_
      obtain rfl := Option.some.inj h
      replace h := hO8
      clear hO8
      try dsimp only at h
      refine T.exit (X.exs (X.exs (X.ex (X.seq (T.seq (T.seq (T.draw (.q 0 (.q 1 (.q 2 (.q 3 (.q 4 (.q 6 (.q 7 (.e 5 (.q 8 (.q 9 .nil)))))))))) [0, 0] rfl mix_cursitorref11 (NoP.seq (NoP.seq np_post)) (by kernel_rfl) ?_)))))))
      refine TD.run ft_cursitorref11_ok [0] rfl rfl ?_
      refine TD.q rfl .u (Ex.b1 0 rfl Try.isAgg4 rfl rfl) rfl ?_
      by_cases c43 : a0.fAppend = true
      · replace h := ifT c43 h
        refine TD.run ft_cursitorref11_ok [2, 3] rfl rfl ?_
        refine TD.no rfl (.gn rfl rfl (bn_f c43)) rfl ?_
        refine TD.no rfl (.gn rfl rfl (bn_f c43)) rfl ?_
        refine TD.no rfl (.gn rfl rfl (bn_f c43)) rfl ?_
        refine TD.noe rfl (.gn rfl rfl (bn_f c43)) rfl [0, 0] rfl ?_
        refine TD.no rfl (.gn rfl rfl (bn_f c43)) rfl ?_
        refine TD.q rfl .u (Ex.pn rfl (bn_f c43) rfl) rfl ?_
        refine TD.nil (X.seq ?_)
        refine T.no rfl rfl ?_
        refine T.skip (X.seq (T.seq (T.region rfl ?_)))
        refine TL.run ft_cursitorref11_ok [0] rfl rfl ?_
        obtain rfl := Option.some.inj h
        exact TL.nil (X.seq (T.ret (X.done1 [1] Try.results37 (RV.tm rfl) ⟨rfl, rfl, rfl⟩ (by rfl) (.inl rfl))))
      · replace h := ifF c43 h
        replace c43 := eq_false_of_ne_true c43
        refine TD.run ft_cursitorref11_ok [2, 3] rfl rfl ?_
        refine TD.q rfl (.g rfl rfl (bn_t c43)) (Ex.bS (us := [.int .i64 a0.fBase, .int .i64 a0.fLeader, .bool a0.fAppend, .bool a0.fTxn, .bool a0.fControl, .int .i64 a0.fLast, .int .i64 a0.fFirst, .int .i64 a0.fMax, .int .i64 a0.fProducer, .int .i64 a0.fEpoch, .int .i64 a0.fSequence, .slice A1 a0.fRecords.length c2]) 0 rfl Try.isAgg25 Try.sizeOf25 rfl rfl rfl) rfl ?_
        refine TD.q rfl (.g rfl rfl (bn_t c43)) (Ex.ft ft_cursitorref11_ok rfl) rfl ?_
        refine TD.q rfl (.g rfl rfl (bn_t c43)) (Ex.b1 0 rfl Try.isAgg3 rfl rfl) rfl ?_
        obtain ⟨x44, hx45, h⟩ := Option.bind_eq_some_iff.1 h
        refine TD.ce rfl (.g rfl rfl (bn_t c43)) (.fn Try.call79 rfl) (f_r11_times_spec a0 _ _ _ hx45) (fun _ hs => (SrcE.old hs hX)) rfl [0, 0] (rfl) ?_
        refine TD.q rfl (.g rfl rfl (bn_t c43)) (Ex.ft ft_cursitorref11_ok rfl) rfl ?_
        refine TD.q rfl .u (Ex.py rfl (bn_t c43) rfl) rfl ?_
        by_cases c46 : x44 = a0.fMax
        · replace h := ifT c46 h
          refine TD.nil (X.seq ?_)
          refine T.no rfl (bn_f (decide_eq_true c46)) ?_
          refine T.skip (X.seq (T.seq (T.region rfl ?_)))
          refine TL.run ft_cursitorref11_ok [0] rfl rfl ?_
          obtain rfl := Option.some.inj h
          exact TL.nil (X.seq (T.ret (X.done1 [1] Try.results37 (RV.tm rfl) ⟨rfl, rfl, rfl⟩ (by rfl) (.inl rfl))))
        · replace h := ifF c46 h
          refine TD.nil (X.seq ?_)
          refine T.yes rfl (bn_t (decide_eq_false c46)) ?_
          refine T.seq (T.region rfl ?_)
          refine TL.run ft_cursitorref11_ok [0] rfl rfl ?_
          obtain rfl := Option.some.inj h
          exact TL.nil (X.seq (T.ret (X.rs (X.done1 [1] Try.results37 (RV.tm rfl) ⟨rfl, rfl, rfl⟩ (by rfl) (.inl rfl)))))
def f_r11_Check_l1 (a0 : Bat) : Nat → Int → Nat → Option (Lp Int (Int × Nat))
  | 0, _, _ => none
  | m26 + 1, y21, k22 => if (k22 : Int) < (a0.fRecords.length : Int) then ((a0.fRecords[k22]?).bind fun x31 => (f_r07_Right x31).bind fun x37 => if x37 = 0 then (if -9223372036854775808 ≤ ((k22 : Int) + 1) ∧ ((k22 : Int) + 1) ≤ 9223372036854775807 then (f_r11_Check_l1 a0 m26 y21 (k22 + 1)) else none) else some (Lp.ret x37)) else (some (Lp.go (y21, k22)))
def f_r11_Check_l2 (a0 : Bat) : Nat → Int → Nat → Option (Lp Int (Int × Nat))
  | 0, _, _ => none
  | m77 + 1, y72, k73 => if (k73 : Int) < (a0.fRecords.length : Int) then ((a0.fRecords[k73]?).bind fun x82 => (f_r07_Right x82).bind fun x88 => if x88 = 0 then (if -9223372036854775808 ≤ ((k73 : Int) + 1) ∧ ((k73 : Int) + 1) ≤ 9223372036854775807 then (f_r11_Check_l2 a0 m77 y72 (k73 + 1)) else none) else some (Lp.ret x88)) else (some (Lp.go (y72, k73)))
def f_r11_Check (a0 : Bat) : Option (Int) := if a0.fBase < 0 then some 11 else ((f_r11_int32s a0.fLeader (-1)).bind fun x5 => if x5 = true then ((f_r11_int32s a0.fLast 0).bind fun x8 => if x8 = true then (if -9223372036854775808 ≤ (9223372036854775807 - a0.fBase) ∧ (9223372036854775807 - a0.fBase) ≤ 9223372036854775807 then (if a0.fLast > (9223372036854775807 - a0.fBase) then some 11 else (if a0.fFirst < 0 then some 11 else (if a0.fMax < 0 then some 11 else (if a0.fControl = true then (if a0.fTxn = true then ((f_r11_producer a0).bind fun x17 => if x17 = true then (if (a0.fRecords.length : Int) = 1 then ((f_r11_Check_l1 a0 (((a0.fRecords.length : Int)).toNat + 1) 0 0).bind fun e => match e with | .ret r => some r | .go (y54, k55) => ((a0.fRecords[0]?).bind fun x56 => (f_r08_Read x56).bind fun (x62, x63, x64) => if x64 = 0 then ((f_r11_orders a0).bind fun x67 => some x67) else some x64)) else some 10) else some 11) else some 8) else ((f_r11_producer a0).bind fun x69 => if x69 = true then ((f_r11_Check_l2 a0 (((a0.fRecords.length : Int)).toNat + 1) 0 0).bind fun e => match e with | .ret r => some r | .go (y94, k95) => ((f_r11_orders a0).bind fun x96 => some x96)) else some 11))))) else none) else some 11) else some 11)
set_option maxRecDepth 100000 in
set_option maxHeartbeats 4000000 in
theorem f_r11_Check_spec (a0 : Bat) (A1 : Option Addr) (c2 : Nat) (r : Int) (h : f_r11_Check a0 = some r) : SpecX Try.prog 13 #[.agg #[.int .i64 a0.fBase, .int .i64 a0.fLeader, .bool a0.fAppend, .bool a0.fTxn, .bool a0.fControl, .int .i64 a0.fLast, .int .i64 a0.fFirst, .int .i64 a0.fMax, .int .i64 a0.fProducer, .int .i64 a0.fEpoch, .int .i64 a0.fSequence, .slice A1 a0.fRecords.length c2]] (RX.of (sliceRd 7 Rec_rd) [.slice A1 a0.fRecords.length c2] a0.fRecords) (EmpR) (fun v A' N => v = .int .i64 r ∧ A' = EmpR ∧ N = []) := by
  refine enterA Try.func13 rfl Try.ntmps13 rfl ?_
  intro F w hX
  unfold f_r11_Check at h
  refine T.seq (T.region rfl ?_)
  refine TL.box rfl .u rfl rfl (fun b3 => ?_)
  refine TL.run ft_cursitorref11_ok [1] rfl rfl ?_
  refine TL.nil (X.seq (T.seq (T.seq (T.region rfl ?_))))
  refine TL.run ft_cursitorref11_ok [0] rfl rfl ?_
  refine TL.q rfl .u (Ex.b1 0 rfl Try.isAgg3 rfl rfl) rfl ?_
  by_cases c4 : a0.fBase < 0
  · replace h := ifT c4 h
    refine TL.run ft_cursitorref11_ok [2, 3] rfl rfl ?_
    refine TL.no rfl (.gn rfl rfl (decide_eq_true c4)) rfl ?_
    refine TL.no rfl (.gn rfl rfl (decide_eq_true c4)) rfl ?_
    refine TL.no rfl (.gn rfl rfl (decide_eq_true c4)) rfl ?_
    refine TL.no rfl (.gn rfl rfl (decide_eq_true c4)) rfl ?_
    refine TL.q rfl .u (Ex.py rfl (decide_eq_true c4) rfl) rfl ?_
    refine TL.run ft_cursitorref11_ok [9] rfl rfl ?_
    refine TL.no rfl (.gn rfl rfl rfl) rfl ?_
    refine TL.no rfl (.gn rfl rfl rfl) rfl ?_
    refine TL.no rfl (.gn rfl rfl rfl) rfl ?_
    refine TL.no rfl (.gn rfl rfl rfl) rfl ?_
    refine TL.q rfl .u (Ex.py rfl rfl rfl) rfl ?_
    refine TL.run ft_cursitorref11_ok [15] rfl rfl ?_
    refine TL.no rfl (.gn rfl rfl rfl) rfl ?_
    refine TL.no rfl (.gn rfl rfl rfl) rfl ?_
    refine TL.no rfl (.gn rfl rfl rfl) rfl ?_
    refine TL.no rfl (.gn rfl rfl rfl) rfl ?_
    refine TL.no rfl (.gn rfl rfl rfl) rfl ?_
    refine TL.no rfl (.gn rfl rfl rfl) rfl ?_
    refine TL.q rfl .u (Ex.py rfl rfl rfl) rfl ?_
    refine TL.run ft_cursitorref11_ok [23] rfl rfl ?_
    refine TL.no rfl (.gn rfl rfl rfl) rfl ?_
    refine TL.no rfl (.gn rfl rfl rfl) rfl ?_
    refine TL.no rfl (.gn rfl rfl rfl) rfl ?_
    refine TL.q rfl .u (Ex.py rfl rfl rfl) rfl ?_
    refine TL.run ft_cursitorref11_ok [28] rfl rfl ?_
    refine TL.no rfl (.gn rfl rfl rfl) rfl ?_
    refine TL.no rfl (.gn rfl rfl rfl) rfl ?_
    refine TL.no rfl (.gn rfl rfl rfl) rfl ?_
    refine TL.q rfl .u (Ex.py rfl rfl rfl) rfl ?_
    refine TL.nil (X.seq ?_)
    refine T.yes rfl rfl ?_
    refine T.seq (T.region rfl ?_)
    refine TL.run ft_cursitorref11_ok [0] rfl rfl ?_
    obtain rfl := Option.some.inj h
    exact TL.nil (X.seq (T.ret (X.rs (X.done1 [1] Try.results13 (RV.tm rfl) ⟨rfl, rfl, rfl⟩ (by rfl) (.inl rfl)))))
  · replace h := ifF c4 h
    refine TL.run ft_cursitorref11_ok [2, 3] rfl rfl ?_
    refine TL.q rfl (.g rfl rfl (decide_eq_false c4)) (Ex.ft ft_cursitorref11_ok rfl) rfl ?_
    refine TL.q rfl (.g rfl rfl (decide_eq_false c4)) (Ex.b1 0 rfl Try.isAgg3 rfl rfl) rfl ?_
    obtain ⟨x5, hx6, h⟩ := Option.bind_eq_some_iff.1 h
    refine TL.ce rfl (.g rfl rfl (decide_eq_false c4)) (.fn Try.call33 rfl) (f_r11_int32s_spec a0.fLeader (-1) _ hx6) (fun _ hs => (RX.reads_triv _ _)) rfl ?_
    refine TL.q rfl (.g rfl rfl (decide_eq_false c4)) (Ex.ft ft_cursitorref11_ok rfl) rfl ?_
    refine TL.q rfl .u (Ex.pn rfl (decide_eq_false c4) rfl) rfl ?_
    by_cases c7 : x5 = true
    · replace h := ifT c7 h
      refine TL.run ft_cursitorref11_ok [9] rfl rfl ?_
      refine TL.q rfl (.g rfl rfl (bn_f c7)) (Ex.ft ft_cursitorref11_ok rfl) rfl ?_
      refine TL.q rfl (.g rfl rfl (bn_f c7)) (Ex.b1 0 rfl Try.isAgg3 rfl rfl) rfl ?_
      obtain ⟨x8, hx9, h⟩ := Option.bind_eq_some_iff.1 h
      refine TL.ce rfl (.g rfl rfl (bn_f c7)) (.fn Try.call33 rfl) (f_r11_int32s_spec a0.fLast 0 _ hx9) (fun _ hs => (RX.reads_triv _ _)) rfl ?_
      refine TL.q rfl (.g rfl rfl (bn_f c7)) (Ex.ft ft_cursitorref11_ok rfl) rfl ?_
      refine TL.q rfl .u (Ex.pn rfl (bn_f c7) rfl) rfl ?_
      by_cases c10 : x8 = true
      · replace h := ifT c10 h
        refine TL.run ft_cursitorref11_ok [15] rfl rfl ?_
        refine TL.q rfl (.g rfl rfl (bn_f c10)) (Ex.ft ft_cursitorref11_ok rfl) rfl ?_
        refine TL.q rfl (.g rfl rfl (bn_f c10)) (Ex.b1 0 rfl Try.isAgg3 rfl rfl) rfl ?_
        refine TL.q rfl (.g rfl rfl (bn_f c10)) (Ex.ft ft_cursitorref11_ok rfl) rfl ?_
        refine TL.q rfl (.g rfl rfl (bn_f c10)) (Ex.b1 0 rfl Try.isAgg3 rfl rfl) rfl ?_
        replace h := guard_some h
        obtain ⟨c11, h⟩ := h
        refine TL.q rfl (.g rfl rfl (bn_f c10)) (Ex.sub rfl rfl c11) rfl ?_
        refine TL.q rfl (.g rfl rfl (bn_f c10)) (Ex.ft ft_cursitorref11_ok rfl) rfl ?_
        refine TL.q rfl .u (Ex.pn rfl (bn_f c10) rfl) rfl ?_
        by_cases c12 : a0.fLast > (9223372036854775807 - a0.fBase)
        · replace h := ifT c12 h
          refine TL.run ft_cursitorref11_ok [23] rfl rfl ?_
          refine TL.no rfl (.gn rfl rfl (decide_eq_true c12)) rfl ?_
          refine TL.no rfl (.gn rfl rfl (decide_eq_true c12)) rfl ?_
          refine TL.no rfl (.gn rfl rfl (decide_eq_true c12)) rfl ?_
          refine TL.q rfl .u (Ex.py rfl (decide_eq_true c12) rfl) rfl ?_
          refine TL.run ft_cursitorref11_ok [28] rfl rfl ?_
          refine TL.no rfl (.gn rfl rfl rfl) rfl ?_
          refine TL.no rfl (.gn rfl rfl rfl) rfl ?_
          refine TL.no rfl (.gn rfl rfl rfl) rfl ?_
          refine TL.q rfl .u (Ex.py rfl rfl rfl) rfl ?_
          refine TL.nil (X.seq ?_)
          refine T.yes rfl rfl ?_
          refine T.seq (T.region rfl ?_)
          refine TL.run ft_cursitorref11_ok [0] rfl rfl ?_
          obtain rfl := Option.some.inj h
          exact TL.nil (X.seq (T.ret (X.rs (X.done1 [1] Try.results13 (RV.tm rfl) ⟨rfl, rfl, rfl⟩ (by rfl) (.inl rfl)))))
        · replace h := ifF c12 h
          refine TL.run ft_cursitorref11_ok [23] rfl rfl ?_
          refine TL.q rfl (.g rfl rfl (decide_eq_false c12)) (Ex.ft ft_cursitorref11_ok rfl) rfl ?_
          refine TL.q rfl (.g rfl rfl (decide_eq_false c12)) (Ex.b1 0 rfl Try.isAgg3 rfl rfl) rfl ?_
          refine TL.q rfl (.g rfl rfl (decide_eq_false c12)) (Ex.ft ft_cursitorref11_ok rfl) rfl ?_
          refine TL.q rfl .u (Ex.pn rfl (decide_eq_false c12) rfl) rfl ?_
          by_cases c13 : a0.fFirst < 0
          · replace h := ifT c13 h
            refine TL.run ft_cursitorref11_ok [28] rfl rfl ?_
            refine TL.no rfl (.gn rfl rfl (decide_eq_true c13)) rfl ?_
            refine TL.no rfl (.gn rfl rfl (decide_eq_true c13)) rfl ?_
            refine TL.no rfl (.gn rfl rfl (decide_eq_true c13)) rfl ?_
            refine TL.q rfl .u (Ex.py rfl (decide_eq_true c13) rfl) rfl ?_
            refine TL.nil (X.seq ?_)
            refine T.yes rfl rfl ?_
            refine T.seq (T.region rfl ?_)
            refine TL.run ft_cursitorref11_ok [0] rfl rfl ?_
            obtain rfl := Option.some.inj h
            exact TL.nil (X.seq (T.ret (X.rs (X.done1 [1] Try.results13 (RV.tm rfl) ⟨rfl, rfl, rfl⟩ (by rfl) (.inl rfl)))))
          · replace h := ifF c13 h
            refine TL.run ft_cursitorref11_ok [28] rfl rfl ?_
            refine TL.q rfl (.g rfl rfl (decide_eq_false c13)) (Ex.ft ft_cursitorref11_ok rfl) rfl ?_
            refine TL.q rfl (.g rfl rfl (decide_eq_false c13)) (Ex.b1 0 rfl Try.isAgg3 rfl rfl) rfl ?_
            refine TL.q rfl (.g rfl rfl (decide_eq_false c13)) (Ex.ft ft_cursitorref11_ok rfl) rfl ?_
            refine TL.q rfl .u (Ex.pn rfl (decide_eq_false c13) rfl) rfl ?_
            by_cases c14 : a0.fMax < 0
            · replace h := ifT c14 h
              refine TL.nil (X.seq ?_)
              refine T.yes rfl (decide_eq_true c14) ?_
              refine T.seq (T.region rfl ?_)
              refine TL.run ft_cursitorref11_ok [0] rfl rfl ?_
              obtain rfl := Option.some.inj h
              exact TL.nil (X.seq (T.ret (X.rs (X.done1 [1] Try.results13 (RV.tm rfl) ⟨rfl, rfl, rfl⟩ (by rfl) (.inl rfl)))))
            · replace h := ifF c14 h
              refine TL.nil (X.seq ?_)
              refine T.no rfl (decide_eq_false c14) ?_
              refine T.skip (X.seq (T.seq (T.seq (T.region rfl ?_))))
              refine TL.run ft_cursitorref11_ok [0] rfl rfl ?_
              refine TL.q rfl .u (Ex.b1 0 rfl Try.isAgg4 rfl rfl) rfl ?_
              by_cases c15 : a0.fControl = true
              · replace h := ifT c15 h
                refine TL.run ft_cursitorref11_ok [2] rfl rfl ?_
                refine TL.q rfl (.g rfl rfl c15) (Ex.ft ft_cursitorref11_ok rfl) rfl ?_
                refine TL.q rfl (.g rfl rfl c15) (Ex.b1 0 rfl Try.isAgg4 rfl rfl) rfl ?_
                refine TL.q rfl (.g rfl rfl c15) (Ex.ft ft_cursitorref11_ok rfl) rfl ?_
                refine TL.q rfl .u (Ex.py rfl c15 rfl) rfl ?_
                by_cases c16 : a0.fTxn = true
                · replace h := ifT c16 h
                  refine TL.nil (X.seq ?_)
                  refine T.no rfl (bn_f c16) ?_
                  refine T.skip (X.seq (T.seq (T.seq (T.region rfl ?_))))
                  refine TL.q rfl .u (Ex.bS (us := [.int .i64 a0.fBase, .int .i64 a0.fLeader, .bool a0.fAppend, .bool a0.fTxn, .bool a0.fControl, .int .i64 a0.fLast, .int .i64 a0.fFirst, .int .i64 a0.fMax, .int .i64 a0.fProducer, .int .i64 a0.fEpoch, .int .i64 a0.fSequence, .slice A1 a0.fRecords.length c2]) 0 rfl Try.isAgg25 Try.sizeOf25 rfl rfl rfl) rfl ?_
                  obtain ⟨x17, hx18, h⟩ := Option.bind_eq_some_iff.1 h
                  refine TL.ce rfl .u (.fn Try.call34 rfl) (f_r11_producer_spec a0 _ _ _ hx18) (fun _ hs => (SrcE.old hs hX)) rfl ?_
                  refine TL.run ft_cursitorref11_ok [2] rfl rfl ?_
                  by_cases c19 : x17 = true
                  · replace h := ifT c19 h
                    refine TL.nil (X.seq ?_)
                    refine T.no rfl (bn_f c19) ?_
                    refine T.skip (X.seq (T.seq (T.seq (T.region rfl ?_))))
                    refine TL.run ft_cursitorref11_ok [0] rfl rfl ?_
                    refine TL.q rfl .u (Ex.b1 0 rfl Try.isAgg4 rfl rfl) rfl ?_
                    refine TL.run ft_cursitorref11_ok [2] rfl rfl ?_
                    refine TL.q rfl (.g rfl rfl c15) (Ex.ft ft_cursitorref11_ok rfl) rfl ?_
                    refine TL.q rfl (.g rfl rfl c15) (Ex.b1 0 rfl Try.isAgg23 rfl rfl) rfl ?_
                    refine TL.q rfl (.g rfl rfl c15) (Ex.lenS rfl Try.runUnderlying23) rfl ?_
                    refine TL.q rfl (.g rfl rfl c15) (Ex.ft ft_cursitorref11_ok rfl) rfl ?_
                    refine TL.q rfl .u (Ex.py rfl c15 rfl) rfl ?_
                    by_cases c20 : (a0.fRecords.length : Int) = 1
                    · replace h := ifT c20 h
                      refine TL.nil (X.seq ?_)
                      refine T.no rfl (bn_f (decide_eq_true c20)) ?_
                      refine T.skip (X.seq (T.seq (T.seq (T.region rfl ?_))))
                      refine TL.run ft_cursitorref11_ok [0] rfl rfl ?_
                      refine TL.nil (X.seq (T.block ?_))
                      obtain ⟨E23, hE24, hO25⟩ := Option.bind_eq_some_iff.1 h
                      refine T.lp (fun m e Rs => ∃ (y21 : Int) (k22 : Nat), e = [(1, .pointer (some ⟨b3, 0, none⟩)), (2, .int .i64 y21), (3, .int .i64 (k22 : Int))] ∧ Rs = [BlkR b3 25 #[.int .i64 a0.fBase, .int .i64 a0.fLeader, .bool a0.fAppend, .bool a0.fTxn, .bool a0.fControl, .int .i64 a0.fLast, .int .i64 a0.fFirst, .int .i64 a0.fMax, .int .i64 a0.fProducer, .int .i64 a0.fEpoch, .int .i64 a0.fSequence, .slice A1 a0.fRecords.length c2], EmpR] ∧ f_r11_Check_l1 a0 m y21 k22 = some E23) (((a0.fRecords.length : Int)).toNat + 1) [0, 0] ⟨0, 0, rfl, rfl, by exact hE24⟩ (by rfl) (by rfl) ?_
                      rintro m26 _ _ ⟨y21, k22, rfl, rfl, hl28⟩
                      clear hE24 h
                      cases m26 with
                      | zero =>
                        rw [f_r11_Check_l1] at hl28
                        cases hl28
                      | succ m26 =>
                        have h := hl28
                        clear hl28
                        rw [f_r11_Check_l1] at h
                        refine T.seq (T.seq (T.region rfl ?_))
                        refine TL.run ft_cursitorref11_ok [0, 1] rfl rfl ?_
                        refine TL.q rfl .u (Ex.b1 0 rfl Try.isAgg23 rfl rfl) rfl ?_
                        refine TL.q rfl .u (Ex.lenS rfl Try.runUnderlying23) rfl ?_
                        refine TL.run ft_cursitorref11_ok [4] rfl rfl ?_
                        by_cases c30 : (k22 : Int) < (a0.fRecords.length : Int)
                        · replace h := ifT c30 h
                          refine TL.nil (X.seq ?_)
                          refine T.yes rfl (decide_eq_true c30) ?_
                          refine T.skip (X.seq (T.seq (T.block (T.seq (T.region rfl ?_)))))
                          refine TL.run ft_cursitorref11_ok [0] rfl rfl ?_
                          refine TL.q rfl .u (Ex.b1 0 rfl Try.isAgg23 rfl rfl) rfl ?_
                          obtain ⟨x31, hx32, h⟩ := Option.bind_eq_some_iff.1 h
                          obtain ⟨gz33, oz33, rfl, z33cs, z33cl, z33cc, z33nf, z33r⟩ := RX.elem (by decide) hX hx32
                          obtain ⟨z33S, z33r, z33rr⟩ := z33r
                          obtain ⟨A34, c35, rfl, z33s0⟩ := z33r
                          have hX36 : (RX.of (sliceRd 3 Hd_rd) [.slice A34 x31.fHeaders.length c35] x31.fHeaders).reads w F := ⟨z33S, z33s0, z33rr⟩
                          refine TL.run ft_cursitorref11_ok [2] rfl rfl ?_
                          refine TL.q rfl .u (Ex.ixS (k := k22) rfl rfl rfl Try.runUnderlying23 Try.sizeOf33 (List.getElem?_eq_some_iff.1 hx32).1) rfl ?_
                          refine TL.q rfl .u (Ex.oS (us := [.int .i64 x31.fTime, .int .i64 x31.fOffset, .bool x31.fKey.null, .string (bsOf x31.fKey.data), .bool x31.fValue.null, .string (bsOf x31.fValue.data), .slice A34 x31.fHeaders.length c35]) 0 rfl Try.isAgg33 Try.sizeOf33 z33nf z33cc rfl rfl rfl) rfl ?_
                          obtain ⟨x37, hx38, h⟩ := Option.bind_eq_some_iff.1 h
                          refine TL.ce rfl .u (.fn Try.call35 rfl) (f_r07_Right_spec x31 _ _ _ hx38) (fun _ hs => (SrcE.old hs hX36)) rfl ?_
                          refine TL.run ft_cursitorref11_ok [6] rfl rfl ?_
                          refine TL.nil (X.seq (T.seq (T.region rfl ?_)))
                          refine TL.run ft_cursitorref11_ok [0, 1] rfl rfl ?_
                          by_cases c39 : x37 = 0
                          · replace h := ifT c39 h
                            refine TL.nil (X.seq ?_)
                            refine T.no rfl (bn_f (decide_eq_true c39)) ?_
                            refine T.skip (X.blk (X.seq (T.region rfl ?_)))
                            replace h := guard_some h
                            obtain ⟨c40, h⟩ := h
                            refine TL.run ft_cursitorref11_ok [0] rfl rfl ?_
                            refine TL.q rfl .u (Ex.add rfl rfl c40) rfl ?_
                            refine TL.run ft_cursitorref11_ok [2] rfl rfl ?_
                            exact TL.nil (X.back (m' := m26) [0, 0] (by omega) ⟨y21, k22 + 1, rfl, rfl, h⟩ (by rfl) (by rfl))
                          · replace h := ifF c39 h
                            refine TL.nil (X.seq ?_)
                            refine T.yes rfl (bn_t (decide_eq_false c39)) ?_
                            refine T.seq (T.region rfl ?_)
                            refine TL.run ft_cursitorref11_ok [0, 1] rfl rfl ?_
                            obtain rfl := Option.some.inj h
                            replace h := hO25
                            clear hO25
                            try dsimp only at h
                            obtain rfl := Option.some.inj h
                            exact TL.nil (X.seq (T.ret (X.rb (X.rs (X.rs (X.rb (X.rs (X.done1 [1] Try.results13 (RV.tm rfl) ⟨rfl, rfl, rfl⟩ (by rfl) (.inl rfl)))))))))
                        · replace h := ifF c30 h
                          refine TL.nil (X.seq ?_)
                          refine T.no rfl (decide_eq_false c30) ?_
                          obtain rfl := Option.some.inj h
                          replace h := hO25
                          clear hO25
                          try dsimp only at h
                          refine T.exit (X.exs (X.exs (X.ex (X.seq (T.seq (T.seq (T.region rfl ?_)))))))
                          refine TL.run ft_cursitorref11_ok [0] rfl rfl ?_
                          refine TL.q rfl .u (Ex.b1 0 rfl Try.isAgg4 rfl rfl) rfl ?_
                          refine TL.nil (X.seq ?_)
                          refine T.yes rfl c15 ?_
                          refine T.seq (T.region rfl ?_)
                          refine TL.run ft_cursitorref11_ok [0] rfl rfl ?_
                          refine TL.q rfl .u (Ex.b1 0 rfl Try.isAgg23 rfl rfl) rfl ?_
                          obtain ⟨x41, hx42, h⟩ := Option.bind_eq_some_iff.1 h
                          obtain ⟨gz43, oz43, rfl, z43cs, z43cl, z43cc, z43nf, z43r⟩ := RX.elem (by decide) hX hx42
                          obtain ⟨z43S, z43r, z43rr⟩ := z43r
                          obtain ⟨A44, c45, rfl, z43s0⟩ := z43r
                          have hX46 : (RX.of (sliceRd 3 Hd_rd) [.slice A44 x41.fHeaders.length c45] x41.fHeaders).reads w F := ⟨z43S, z43s0, z43rr⟩
                          refine TL.q rfl .u (Ex.ixS (k := 0) rfl rfl rfl Try.runUnderlying23 Try.sizeOf33 (List.getElem?_eq_some_iff.1 hx42).1) rfl ?_
                          refine TL.q rfl .u (Ex.oS (us := [.int .i64 x41.fTime, .int .i64 x41.fOffset, .bool x41.fKey.null, .string (bsOf x41.fKey.data), .bool x41.fValue.null, .string (bsOf x41.fValue.data), .slice A44 x41.fHeaders.length c45]) 0 rfl Try.isAgg33 Try.sizeOf33 z43nf z43cc rfl rfl rfl) rfl ?_
                          obtain ⟨⟨x47, x48, x49⟩, hx50, h⟩ := Option.bind_eq_some_iff.1 h
                          try dsimp only at h
                          refine TL.ce rfl .u (.fn Try.call36 rfl) (f_r08_Read_spec x41 _ _ _ hx50) (fun _ hs => (SrcE.old hs hX46)) rfl ?_
                          refine TL.run ft_cursitorref11_ok [5, 6, 7, 8, 9, 10, 11] rfl rfl ?_
                          refine TL.nil (X.seq (T.seq (T.region rfl ?_)))
                          refine TL.run ft_cursitorref11_ok [0, 1] rfl rfl ?_
                          by_cases c51 : x49 = 0
                          · replace h := ifT c51 h
                            refine TL.nil (X.seq ?_)
                            refine T.no rfl (bn_f (decide_eq_true c51)) ?_
                            refine T.skip (X.seq (T.seq (T.region rfl ?_)))
                            refine TL.q rfl .u (Ex.bS (us := [.int .i64 a0.fBase, .int .i64 a0.fLeader, .bool a0.fAppend, .bool a0.fTxn, .bool a0.fControl, .int .i64 a0.fLast, .int .i64 a0.fFirst, .int .i64 a0.fMax, .int .i64 a0.fProducer, .int .i64 a0.fEpoch, .int .i64 a0.fSequence, .slice (some ⟨gz43, oz43, none⟩) a0.fRecords.length c2]) 0 rfl Try.isAgg25 Try.sizeOf25 rfl rfl rfl) rfl ?_
                            obtain ⟨x52, hx53, h⟩ := Option.bind_eq_some_iff.1 h
                            refine TL.ce rfl .u (.fn Try.call37 rfl) (f_r11_orders_spec a0 _ _ _ hx53) (fun _ hs => (SrcE.old hs hX)) rfl ?_
                            refine TL.run ft_cursitorref11_ok [2] rfl rfl ?_
                            obtain rfl := Option.some.inj h
                            exact TL.nil (X.seq (T.ret (X.done1 [1] Try.results13 (RV.tm rfl) ⟨rfl, rfl, rfl⟩ (by rfl) (.inl rfl))))
                          · replace h := ifF c51 h
                            refine TL.nil (X.seq ?_)
                            refine T.yes rfl (bn_t (decide_eq_false c51)) ?_
                            refine T.seq (T.region rfl ?_)
                            refine TL.run ft_cursitorref11_ok [0, 1] rfl rfl ?_
                            obtain rfl := Option.some.inj h
                            exact TL.nil (X.seq (T.ret (X.rs (X.done1 [1] Try.results13 (RV.tm rfl) ⟨rfl, rfl, rfl⟩ (by rfl) (.inl rfl)))))
                    · replace h := ifF c20 h
                      refine TL.nil (X.seq ?_)
                      refine T.yes rfl (bn_t (decide_eq_false c20)) ?_
                      refine T.seq (T.region rfl ?_)
                      refine TL.run ft_cursitorref11_ok [0] rfl rfl ?_
                      obtain rfl := Option.some.inj h
                      exact TL.nil (X.seq (T.ret (X.rs (X.done1 [1] Try.results13 (RV.tm rfl) ⟨rfl, rfl, rfl⟩ (by rfl) (.inl rfl)))))
                  · replace h := ifF c19 h
                    replace c19 := eq_false_of_ne_true c19
                    refine TL.nil (X.seq ?_)
                    refine T.yes rfl (bn_t c19) ?_
                    refine T.seq (T.region rfl ?_)
                    refine TL.run ft_cursitorref11_ok [0] rfl rfl ?_
                    obtain rfl := Option.some.inj h
                    exact TL.nil (X.seq (T.ret (X.rs (X.done1 [1] Try.results13 (RV.tm rfl) ⟨rfl, rfl, rfl⟩ (by rfl) (.inl rfl)))))
                · replace h := ifF c16 h
                  replace c16 := eq_false_of_ne_true c16
                  refine TL.nil (X.seq ?_)
                  refine T.yes rfl (bn_t c16) ?_
                  refine T.seq (T.region rfl ?_)
                  refine TL.run ft_cursitorref11_ok [0] rfl rfl ?_
                  obtain rfl := Option.some.inj h
                  exact TL.nil (X.seq (T.ret (X.rs (X.done1 [1] Try.results13 (RV.tm rfl) ⟨rfl, rfl, rfl⟩ (by rfl) (.inl rfl)))))
              · replace h := ifF c15 h
                replace c15 := eq_false_of_ne_true c15
                refine TL.run ft_cursitorref11_ok [2] rfl rfl ?_
                refine TL.no rfl (.gn rfl rfl c15) rfl ?_
                refine TL.no rfl (.gn rfl rfl c15) rfl ?_
                refine TL.no rfl (.gn rfl rfl c15) rfl ?_
                refine TL.q rfl .u (Ex.pn rfl c15 rfl) rfl ?_
                refine TL.nil (X.seq ?_)
                refine T.no rfl rfl ?_
                refine T.skip (X.seq (T.seq (T.seq (T.region rfl ?_))))
                refine TL.q rfl .u (Ex.bS (us := [.int .i64 a0.fBase, .int .i64 a0.fLeader, .bool a0.fAppend, .bool a0.fTxn, .bool a0.fControl, .int .i64 a0.fLast, .int .i64 a0.fFirst, .int .i64 a0.fMax, .int .i64 a0.fProducer, .int .i64 a0.fEpoch, .int .i64 a0.fSequence, .slice A1 a0.fRecords.length c2]) 0 rfl Try.isAgg25 Try.sizeOf25 rfl rfl rfl) rfl ?_
                obtain ⟨x69, hx70, h⟩ := Option.bind_eq_some_iff.1 h
                refine TL.ce rfl .u (.fn Try.call34 rfl) (f_r11_producer_spec a0 _ _ _ hx70) (fun _ hs => (SrcE.old hs hX)) rfl ?_
                refine TL.run ft_cursitorref11_ok [2] rfl rfl ?_
                by_cases c71 : x69 = true
                · replace h := ifT c71 h
                  refine TL.nil (X.seq ?_)
                  refine T.no rfl (bn_f c71) ?_
                  refine T.skip (X.seq (T.seq (T.seq (T.region rfl ?_))))
                  refine TL.run ft_cursitorref11_ok [0] rfl rfl ?_
                  refine TL.q rfl .u (Ex.b1 0 rfl Try.isAgg4 rfl rfl) rfl ?_
                  refine TL.run ft_cursitorref11_ok [2] rfl rfl ?_
                  refine TL.no rfl (.gn rfl rfl c15) rfl ?_
                  refine TL.no rfl (.gn rfl rfl c15) rfl ?_
                  refine TL.no rfl (.gn rfl rfl c15) rfl ?_
                  refine TL.no rfl (.gn rfl rfl c15) rfl ?_
                  refine TL.q rfl .u (Ex.pn rfl c15 rfl) rfl ?_
                  refine TL.nil (X.seq ?_)
                  refine T.no rfl rfl ?_
                  refine T.skip (X.seq (T.seq (T.seq (T.region rfl ?_))))
                  refine TL.run ft_cursitorref11_ok [0] rfl rfl ?_
                  refine TL.nil (X.seq (T.block ?_))
                  obtain ⟨E74, hE75, hO76⟩ := Option.bind_eq_some_iff.1 h
                  refine T.lp (fun m e Rs => ∃ (y72 : Int) (k73 : Nat), e = [(1, .pointer (some ⟨b3, 0, none⟩)), (2, .int .i64 y72), (3, .int .i64 (k73 : Int))] ∧ Rs = [BlkR b3 25 #[.int .i64 a0.fBase, .int .i64 a0.fLeader, .bool a0.fAppend, .bool a0.fTxn, .bool a0.fControl, .int .i64 a0.fLast, .int .i64 a0.fFirst, .int .i64 a0.fMax, .int .i64 a0.fProducer, .int .i64 a0.fEpoch, .int .i64 a0.fSequence, .slice A1 a0.fRecords.length c2], EmpR] ∧ f_r11_Check_l2 a0 m y72 k73 = some E74) (((a0.fRecords.length : Int)).toNat + 1) [0, 0] ⟨0, 0, rfl, rfl, by exact hE75⟩ (by rfl) (by rfl) ?_
                  rintro m77 _ _ ⟨y72, k73, rfl, rfl, hl79⟩
                  clear hE75 h
                  cases m77 with
                  | zero =>
                    rw [f_r11_Check_l2] at hl79
                    cases hl79
                  | succ m77 =>
                    have h := hl79
                    clear hl79
                    rw [f_r11_Check_l2] at h
                    refine T.seq (T.seq (T.region rfl ?_))
                    refine TL.run ft_cursitorref11_ok [0, 1] rfl rfl ?_
                    refine TL.q rfl .u (Ex.b1 0 rfl Try.isAgg23 rfl rfl) rfl ?_
                    refine TL.q rfl .u (Ex.lenS rfl Try.runUnderlying23) rfl ?_
                    refine TL.run ft_cursitorref11_ok [4] rfl rfl ?_
                    by_cases c81 : (k73 : Int) < (a0.fRecords.length : Int)
                    · replace h := ifT c81 h
                      refine TL.nil (X.seq ?_)
                      refine T.yes rfl (decide_eq_true c81) ?_
                      refine T.skip (X.seq (T.seq (T.block (T.seq (T.region rfl ?_)))))
                      refine TL.run ft_cursitorref11_ok [0] rfl rfl ?_
                      refine TL.q rfl .u (Ex.b1 0 rfl Try.isAgg23 rfl rfl) rfl ?_
                      obtain ⟨x82, hx83, h⟩ := Option.bind_eq_some_iff.1 h
                      obtain ⟨gz84, oz84, rfl, z84cs, z84cl, z84cc, z84nf, z84r⟩ := RX.elem (by decide) hX hx83
                      obtain ⟨z84S, z84r, z84rr⟩ := z84r
                      obtain ⟨A85, c86, rfl, z84s0⟩ := z84r
                      have hX87 : (RX.of (sliceRd 3 Hd_rd) [.slice A85 x82.fHeaders.length c86] x82.fHeaders).reads w F := ⟨z84S, z84s0, z84rr⟩
                      refine TL.run ft_cursitorref11_ok [2] rfl rfl ?_
                      refine TL.q rfl .u (Ex.ixS (k := k73) rfl rfl rfl Try.runUnderlying23 Try.sizeOf33 (List.getElem?_eq_some_iff.1 hx83).1) rfl ?_
                      refine TL.q rfl .u (Ex.oS (us := [.int .i64 x82.fTime, .int .i64 x82.fOffset, .bool x82.fKey.null, .string (bsOf x82.fKey.data), .bool x82.fValue.null, .string (bsOf x82.fValue.data), .slice A85 x82.fHeaders.length c86]) 0 rfl Try.isAgg33 Try.sizeOf33 z84nf z84cc rfl rfl rfl) rfl ?_
                      obtain ⟨x88, hx89, h⟩ := Option.bind_eq_some_iff.1 h
                      refine TL.ce rfl .u (.fn Try.call35 rfl) (f_r07_Right_spec x82 _ _ _ hx89) (fun _ hs => (SrcE.old hs hX87)) rfl ?_
                      refine TL.run ft_cursitorref11_ok [6] rfl rfl ?_
                      refine TL.nil (X.seq (T.seq (T.region rfl ?_)))
                      refine TL.run ft_cursitorref11_ok [0, 1] rfl rfl ?_
                      by_cases c90 : x88 = 0
                      · replace h := ifT c90 h
                        refine TL.nil (X.seq ?_)
                        refine T.no rfl (bn_f (decide_eq_true c90)) ?_
                        refine T.skip (X.blk (X.seq (T.region rfl ?_)))
                        replace h := guard_some h
                        obtain ⟨c91, h⟩ := h
                        refine TL.run ft_cursitorref11_ok [0] rfl rfl ?_
                        refine TL.q rfl .u (Ex.add rfl rfl c91) rfl ?_
                        refine TL.run ft_cursitorref11_ok [2] rfl rfl ?_
                        exact TL.nil (X.back (m' := m77) [0, 0] (by omega) ⟨y72, k73 + 1, rfl, rfl, h⟩ (by rfl) (by rfl))
                      · replace h := ifF c90 h
                        refine TL.nil (X.seq ?_)
                        refine T.yes rfl (bn_t (decide_eq_false c90)) ?_
                        refine T.seq (T.region rfl ?_)
                        refine TL.run ft_cursitorref11_ok [0, 1] rfl rfl ?_
                        obtain rfl := Option.some.inj h
                        replace h := hO76
                        clear hO76
                        try dsimp only at h
                        obtain rfl := Option.some.inj h
                        exact TL.nil (X.seq (T.ret (X.rb (X.rs (X.rs (X.rb (X.rs (X.done1 [1] Try.results13 (RV.tm rfl) ⟨rfl, rfl, rfl⟩ (by rfl) (.inl rfl)))))))))
                    · replace h := ifF c81 h
                      refine TL.nil (X.seq ?_)
                      refine T.no rfl (decide_eq_false c81) ?_
                      obtain rfl := Option.some.inj h
                      replace h := hO76
                      clear hO76
                      try dsimp only at h
                      refine T.exit (X.exs (X.exs (X.ex (X.seq (T.seq (T.seq (T.region rfl ?_)))))))
                      refine TL.run ft_cursitorref11_ok [0] rfl rfl ?_
                      refine TL.q rfl .u (Ex.b1 0 rfl Try.isAgg4 rfl rfl) rfl ?_
                      refine TL.nil (X.seq ?_)
                      refine T.no rfl c15 ?_
                      refine T.skip (X.seq (T.seq (T.region rfl ?_)))
                      refine TL.q rfl .u (Ex.bS (us := [.int .i64 a0.fBase, .int .i64 a0.fLeader, .bool a0.fAppend, .bool a0.fTxn, .bool a0.fControl, .int .i64 a0.fLast, .int .i64 a0.fFirst, .int .i64 a0.fMax, .int .i64 a0.fProducer, .int .i64 a0.fEpoch, .int .i64 a0.fSequence, .slice A1 a0.fRecords.length c2]) 0 rfl Try.isAgg25 Try.sizeOf25 rfl rfl rfl) rfl ?_
                      obtain ⟨x92, hx93, h⟩ := Option.bind_eq_some_iff.1 h
                      refine TL.ce rfl .u (.fn Try.call37 rfl) (f_r11_orders_spec a0 _ _ _ hx93) (fun _ hs => (SrcE.old hs hX)) rfl ?_
                      refine TL.run ft_cursitorref11_ok [2] rfl rfl ?_
                      obtain rfl := Option.some.inj h
                      exact TL.nil (X.seq (T.ret (X.done1 [1] Try.results13 (RV.tm rfl) ⟨rfl, rfl, rfl⟩ (by rfl) (.inl rfl))))
                · replace h := ifF c71 h
                  replace c71 := eq_false_of_ne_true c71
                  refine TL.nil (X.seq ?_)
                  refine T.yes rfl (bn_t c71) ?_
                  refine T.seq (T.region rfl ?_)
                  refine TL.run ft_cursitorref11_ok [0] rfl rfl ?_
                  obtain rfl := Option.some.inj h
                  exact TL.nil (X.seq (T.ret (X.rs (X.done1 [1] Try.results13 (RV.tm rfl) ⟨rfl, rfl, rfl⟩ (by rfl) (.inl rfl)))))
      · replace h := ifF c10 h
        replace c10 := eq_false_of_ne_true c10
        refine TL.run ft_cursitorref11_ok [15] rfl rfl ?_
        refine TL.no rfl (.gn rfl rfl (bn_t c10)) rfl ?_
        refine TL.no rfl (.gn rfl rfl (bn_t c10)) rfl ?_
        refine TL.no rfl (.gn rfl rfl (bn_t c10)) rfl ?_
        refine TL.no rfl (.gn rfl rfl (bn_t c10)) rfl ?_
        refine TL.no rfl (.gn rfl rfl (bn_t c10)) rfl ?_
        refine TL.no rfl (.gn rfl rfl (bn_t c10)) rfl ?_
        refine TL.q rfl .u (Ex.py rfl (bn_t c10) rfl) rfl ?_
        refine TL.run ft_cursitorref11_ok [23] rfl rfl ?_
        refine TL.no rfl (.gn rfl rfl rfl) rfl ?_
        refine TL.no rfl (.gn rfl rfl rfl) rfl ?_
        refine TL.no rfl (.gn rfl rfl rfl) rfl ?_
        refine TL.q rfl .u (Ex.py rfl rfl rfl) rfl ?_
        refine TL.run ft_cursitorref11_ok [28] rfl rfl ?_
        refine TL.no rfl (.gn rfl rfl rfl) rfl ?_
        refine TL.no rfl (.gn rfl rfl rfl) rfl ?_
        refine TL.no rfl (.gn rfl rfl rfl) rfl ?_
        refine TL.q rfl .u (Ex.py rfl rfl rfl) rfl ?_
        refine TL.nil (X.seq ?_)
        refine T.yes rfl rfl ?_
        refine T.seq (T.region rfl ?_)
        refine TL.run ft_cursitorref11_ok [0] rfl rfl ?_
        obtain rfl := Option.some.inj h
        exact TL.nil (X.seq (T.ret (X.rs (X.done1 [1] Try.results13 (RV.tm rfl) ⟨rfl, rfl, rfl⟩ (by rfl) (.inl rfl)))))
    · replace h := ifF c7 h
      replace c7 := eq_false_of_ne_true c7
      refine TL.run ft_cursitorref11_ok [9] rfl rfl ?_
      refine TL.no rfl (.gn rfl rfl (bn_t c7)) rfl ?_
      refine TL.no rfl (.gn rfl rfl (bn_t c7)) rfl ?_
      refine TL.no rfl (.gn rfl rfl (bn_t c7)) rfl ?_
      refine TL.no rfl (.gn rfl rfl (bn_t c7)) rfl ?_
      refine TL.q rfl .u (Ex.py rfl (bn_t c7) rfl) rfl ?_
      refine TL.run ft_cursitorref11_ok [15] rfl rfl ?_
      refine TL.no rfl (.gn rfl rfl rfl) rfl ?_
      refine TL.no rfl (.gn rfl rfl rfl) rfl ?_
      refine TL.no rfl (.gn rfl rfl rfl) rfl ?_
      refine TL.no rfl (.gn rfl rfl rfl) rfl ?_
      refine TL.no rfl (.gn rfl rfl rfl) rfl ?_
      refine TL.no rfl (.gn rfl rfl rfl) rfl ?_
      refine TL.q rfl .u (Ex.py rfl rfl rfl) rfl ?_
      refine TL.run ft_cursitorref11_ok [23] rfl rfl ?_
      refine TL.no rfl (.gn rfl rfl rfl) rfl ?_
      refine TL.no rfl (.gn rfl rfl rfl) rfl ?_
      refine TL.no rfl (.gn rfl rfl rfl) rfl ?_
      refine TL.q rfl .u (Ex.py rfl rfl rfl) rfl ?_
      refine TL.run ft_cursitorref11_ok [28] rfl rfl ?_
      refine TL.no rfl (.gn rfl rfl rfl) rfl ?_
      refine TL.no rfl (.gn rfl rfl rfl) rfl ?_
      refine TL.no rfl (.gn rfl rfl rfl) rfl ?_
      refine TL.q rfl .u (Ex.py rfl rfl rfl) rfl ?_
      refine TL.nil (X.seq ?_)
      refine T.yes rfl rfl ?_
      refine T.seq (T.region rfl ?_)
      refine TL.run ft_cursitorref11_ok [0] rfl rfl ?_
      obtain rfl := Option.some.inj h
      exact TL.nil (X.seq (T.ret (X.rs (X.done1 [1] Try.results13 (RV.tm rfl) ⟨rfl, rfl, rfl⟩ (by rfl) (.inl rfl)))))
def f_r11_attributes (a0 : Bat) : Option (Int) := (if a0.fAppend = true then ((some 8 : Option (Int))) else ((some 0 : Option (Int)))).bind fun y5 => (if a0.fTxn = true then (if -9223372036854775808 ≤ (y5 + 16) ∧ (y5 + 16) ≤ 9223372036854775807 then some (y5 + 16) else none) else some y5).bind fun y10 => (if a0.fControl = true then (if -9223372036854775808 ≤ (y10 + 32) ∧ (y10 + 32) ≤ 9223372036854775807 then some (y10 + 32) else none) else some y10).bind fun y16 => some y16
set_option maxRecDepth 100000 in
set_option maxHeartbeats 4000000 in
theorem f_r11_attributes_spec (a0 : Bat) (A1 : Option Addr) (c2 : Nat) (r : Int) (h : f_r11_attributes a0 = some r) : SpecX Try.prog 52 #[.agg #[.int .i64 a0.fBase, .int .i64 a0.fLeader, .bool a0.fAppend, .bool a0.fTxn, .bool a0.fControl, .int .i64 a0.fLast, .int .i64 a0.fFirst, .int .i64 a0.fMax, .int .i64 a0.fProducer, .int .i64 a0.fEpoch, .int .i64 a0.fSequence, .slice A1 a0.fRecords.length c2]] (RX.of (sliceRd 7 Rec_rd) [.slice A1 a0.fRecords.length c2] a0.fRecords) (EmpR) (fun v A' N => v = .int .i64 r ∧ A' = EmpR ∧ N = []) := by
  refine enterA Try.func52 rfl Try.ntmps52 rfl ?_
  intro F w hX
  unfold f_r11_attributes at h
  refine T.seq (T.region rfl ?_)
  refine TL.box rfl .u rfl rfl (fun b3 => ?_)
  refine TL.run ft_cursitorref11_ok [1] rfl rfl ?_
  refine TL.nil (X.seq (T.seq (T.region rfl ?_)))
  refine TL.run ft_cursitorref11_ok [0] rfl rfl ?_
  refine TL.nil (X.seq (T.seq (T.seq (T.region rfl ?_))))
  refine TL.run ft_cursitorref11_ok [0] rfl rfl ?_
  refine TL.q rfl .u (Ex.b1 0 rfl Try.isAgg4 rfl rfl) rfl ?_
  refine TL.nil (X.seq ?_)
  obtain ⟨y5, h, hk6⟩ := Option.bind_eq_some_iff.1 h
  refine T.jq (fun e Rs => e = [(1, .pointer (some ⟨b3, 0, none⟩)), (2, .int .i64 0), (3, .int .i64 y5)] ∧ Rs = [BlkR b3 25 #[.int .i64 a0.fBase, .int .i64 a0.fLeader, .bool a0.fAppend, .bool a0.fTxn, .bool a0.fControl, .int .i64 a0.fLast, .int .i64 a0.fFirst, .int .i64 a0.fMax, .int .i64 a0.fProducer, .int .i64 a0.fEpoch, .int .i64 a0.fSequence, .slice A1 a0.fRecords.length c2], EmpR]) ?_ ?_
  · clear hk6
    by_cases c7 : a0.fAppend = true
    · replace h := ifT c7 h
      refine T.yes rfl c7 ?_
      refine T.region rfl ?_
      refine TL.run ft_cursitorref11_ok [0] rfl rfl ?_
      refine TL.q rfl .u (Ex.add rfl rfl (by omega)) rfl ?_
      refine TL.run ft_cursitorref11_ok [2] rfl rfl ?_
      cases h
      exact TL.nil (X.jq [0, 0] ⟨rfl, rfl⟩ (by rfl) (by rfl))
    · replace h := ifF c7 h
      replace c7 := eq_false_of_ne_true c7
      refine T.no rfl c7 ?_
      cases h
      exact T.skip (X.jq [0, 0] ⟨rfl, rfl⟩ (by rfl) (by rfl))
  · rintro _ _ ⟨rfl, rfl⟩
    clear h
    have h := hk6
    clear hk6
    try dsimp only at h
    refine X.seq (T.seq (T.seq (T.region rfl ?_)))
    refine TL.run ft_cursitorref11_ok [0] rfl rfl ?_
    refine TL.q rfl .u (Ex.b1 0 rfl Try.isAgg4 rfl rfl) rfl ?_
    refine TL.nil (X.seq ?_)
    obtain ⟨y10, h, hk11⟩ := Option.bind_eq_some_iff.1 h
    refine T.jq (fun e Rs => e = [(1, .pointer (some ⟨b3, 0, none⟩)), (2, .int .i64 0), (3, .int .i64 y10)] ∧ Rs = [BlkR b3 25 #[.int .i64 a0.fBase, .int .i64 a0.fLeader, .bool a0.fAppend, .bool a0.fTxn, .bool a0.fControl, .int .i64 a0.fLast, .int .i64 a0.fFirst, .int .i64 a0.fMax, .int .i64 a0.fProducer, .int .i64 a0.fEpoch, .int .i64 a0.fSequence, .slice A1 a0.fRecords.length c2], EmpR]) ?_ ?_
    · clear hk11
      by_cases c12 : a0.fTxn = true
      · replace h := ifT c12 h
        refine T.yes rfl c12 ?_
        refine T.region rfl ?_
        replace h := guard_some h
        obtain ⟨c13, h⟩ := h
        refine TL.run ft_cursitorref11_ok [0] rfl rfl ?_
        refine TL.q rfl .u (Ex.add rfl rfl c13) rfl ?_
        refine TL.run ft_cursitorref11_ok [2] rfl rfl ?_
        cases h
        exact TL.nil (X.jq [0, 0] ⟨rfl, rfl⟩ (by rfl) (by rfl))
      · replace h := ifF c12 h
        replace c12 := eq_false_of_ne_true c12
        refine T.no rfl c12 ?_
        cases h
        exact T.skip (X.jq [0, 0] ⟨rfl, rfl⟩ (by rfl) (by rfl))
    · rintro _ _ ⟨rfl, rfl⟩
      clear h
      have h := hk11
      clear hk11
      try dsimp only at h
      refine X.seq (T.seq (T.seq (T.region rfl ?_)))
      refine TL.run ft_cursitorref11_ok [0] rfl rfl ?_
      refine TL.q rfl .u (Ex.b1 0 rfl Try.isAgg4 rfl rfl) rfl ?_
      refine TL.nil (X.seq ?_)
      obtain ⟨y16, h, hk17⟩ := Option.bind_eq_some_iff.1 h
      refine T.jq (fun e Rs => e = [(2, .int .i64 0), (3, .int .i64 y16)] ∧ Rs = [BlkR b3 25 #[.int .i64 a0.fBase, .int .i64 a0.fLeader, .bool a0.fAppend, .bool a0.fTxn, .bool a0.fControl, .int .i64 a0.fLast, .int .i64 a0.fFirst, .int .i64 a0.fMax, .int .i64 a0.fProducer, .int .i64 a0.fEpoch, .int .i64 a0.fSequence, .slice A1 a0.fRecords.length c2], EmpR]) ?_ ?_
      · clear hk17
        by_cases c18 : a0.fControl = true
        · replace h := ifT c18 h
          refine T.yes rfl c18 ?_
          refine T.region rfl ?_
          replace h := guard_some h
          obtain ⟨c19, h⟩ := h
          refine TL.run ft_cursitorref11_ok [0] rfl rfl ?_
          refine TL.q rfl .u (Ex.add rfl rfl c19) rfl ?_
          refine TL.run ft_cursitorref11_ok [2] rfl rfl ?_
          cases h
          exact TL.nil (X.jq [0, 0] ⟨rfl, rfl⟩ (by rfl) (by rfl))
        · replace h := ifF c18 h
          replace c18 := eq_false_of_ne_true c18
          refine T.no rfl c18 ?_
          cases h
          exact T.skip (X.jq [0, 0] ⟨rfl, rfl⟩ (by rfl) (by rfl))
      · rintro _ _ ⟨rfl, rfl⟩
        clear h
        have h := hk17
        clear hk17
        try dsimp only at h
        refine X.seq (T.seq (T.region rfl ?_))
        refine TL.run ft_cursitorref11_ok [0, 1] rfl rfl ?_
        obtain rfl := Option.some.inj h
        exact TL.nil (X.seq (T.ret (X.done1 [1] Try.results52 (RV.tm rfl) ⟨rfl, rfl, rfl⟩ (by rfl) (.inl rfl))))
def f_r11_Encode_l1 (a0 : Bat) : Nat → List UInt8 → Nat → Option (List UInt8 × Nat)
  | 0, _, _ => none
  | m9 + 1, y4, k5 => if (k5 : Int) < (a0.fRecords.length : Int) then ((a0.fRecords[k5]?).bind fun x14 => (f_r07_Write x14).bind fun x20 => if y4.length + x20.length ≤ 9223372036854775807 then (if -9223372036854775808 ≤ ((k5 : Int) + 1) ∧ ((k5 : Int) + 1) ≤ 9223372036854775807 then (f_r11_Encode_l1 a0 m9 (y4 ++ x20) (k5 + 1)) else none) else none) else some (y4, k5)
def f_r11_Encode (a0 : Bat) : Option (List UInt8) := (f_r11_Encode_l1 a0 (((a0.fRecords.length : Int)).toNat + 1) [] 0).bind fun (y44, k45) => if -9223372036854775808 ≤ (49 + (y44.length : Int)) ∧ (49 + (y44.length : Int)) ≤ 9223372036854775807 then ((f_r11_attributes a0).bind fun x47 => (f_r10_Bytes [a0.fBase, (49 + (y44.length : Int)), a0.fLeader, 0, x47, a0.fLast, a0.fFirst, a0.fMax, a0.fProducer, a0.fEpoch, a0.fSequence, (a0.fRecords.length : Int)]).bind fun (x50, x51) => if 21 ≤ x50.length then (if (x50.drop 21).length + y44.length ≤ 9223372036854775807 then ((f_r05_Sum ((x50.drop 21) ++ y44)).bind fun x55 => if -9223372036854775808 ≤ x55 ∧ x55 ≤ 9223372036854775807 then (if -9223372036854775808 ≤ (49 + (y44.length : Int)) ∧ (49 + (y44.length : Int)) ≤ 9223372036854775807 then ((f_r11_attributes a0).bind fun x59 => (f_r10_Bytes [a0.fBase, (49 + (y44.length : Int)), a0.fLeader, x55, x59, a0.fLast, a0.fFirst, a0.fMax, a0.fProducer, a0.fEpoch, a0.fSequence, (a0.fRecords.length : Int)]).bind fun (x62, x63) => if x62.length + y44.length ≤ 9223372036854775807 then some (x62 ++ y44) else none) else none) else none) else none) else none) else none
set_option maxRecDepth 100000 in
set_option maxHeartbeats 4000000 in
theorem f_r11_Encode_spec (a0 : Bat) (A1 : Option Addr) (c2 : Nat) (r : List UInt8) (h : f_r11_Encode a0 = some r) : SpecX Try.prog 16 #[.agg #[.int .i64 a0.fBase, .int .i64 a0.fLeader, .bool a0.fAppend, .bool a0.fTxn, .bool a0.fControl, .int .i64 a0.fLast, .int .i64 a0.fFirst, .int .i64 a0.fMax, .int .i64 a0.fProducer, .int .i64 a0.fEpoch, .int .i64 a0.fSequence, .slice A1 a0.fRecords.length c2]] (RX.of (sliceRd 7 Rec_rd) [.slice A1 a0.fRecords.length c2] a0.fRecords) (EmpR) (fun v A' N => v = .string (bsOf r) ∧ A' = EmpR ∧ N = []) := by
  refine enterA Try.func16 rfl Try.ntmps16 rfl ?_
  intro F w hX
  unfold f_r11_Encode at h
  refine T.seq (T.region rfl ?_)
  refine TL.box rfl .u rfl rfl (fun b3 => ?_)
  refine TL.run ft_cursitorref11_ok [1] rfl rfl ?_
  refine TL.nil (X.seq (T.seq (T.region rfl ?_)))
  refine TL.run ft_cursitorref11_ok [0] rfl rfl ?_
  refine TL.nil (X.seq (T.seq (T.seq (T.region rfl ?_))))
  refine TL.run ft_cursitorref11_ok [0] rfl rfl ?_
  refine TL.nil (X.seq (T.block ?_))
  obtain ⟨E6, hE7, hO8⟩ := Option.bind_eq_some_iff.1 h
  refine T.lp (fun m e Rs => ∃ (y4 : List UInt8) (k5 : Nat), e = [(1, .pointer (some ⟨b3, 0, none⟩)), (2, .string ⟨#[]⟩), (3, .string (bsOf y4)), (4, .int .i64 (k5 : Int))] ∧ Rs = [BlkR b3 25 #[.int .i64 a0.fBase, .int .i64 a0.fLeader, .bool a0.fAppend, .bool a0.fTxn, .bool a0.fControl, .int .i64 a0.fLast, .int .i64 a0.fFirst, .int .i64 a0.fMax, .int .i64 a0.fProducer, .int .i64 a0.fEpoch, .int .i64 a0.fSequence, .slice A1 a0.fRecords.length c2], EmpR] ∧ f_r11_Encode_l1 a0 m y4 k5 = some E6) (((a0.fRecords.length : Int)).toNat + 1) [0, 0] ⟨[], 0, rfl, rfl, by exact hE7⟩ (by rfl) (by rfl) ?_
  rintro m9 _ _ ⟨y4, k5, rfl, rfl, hl11⟩
  clear hE7 h
  cases m9 with
  | zero =>
    rw [f_r11_Encode_l1] at hl11
    cases hl11
  | succ m9 =>
    have h := hl11
    clear hl11
    rw [f_r11_Encode_l1] at h
    refine T.seq (T.seq (T.region rfl ?_))
    refine TL.run ft_cursitorref11_ok [0, 1] rfl rfl ?_
    refine TL.q rfl .u (Ex.b1 0 rfl Try.isAgg23 rfl rfl) rfl ?_
    refine TL.q rfl .u (Ex.lenS rfl Try.runUnderlying23) rfl ?_
    refine TL.run ft_cursitorref11_ok [4] rfl rfl ?_
    by_cases c13 : (k5 : Int) < (a0.fRecords.length : Int)
    · replace h := ifT c13 h
      refine TL.nil (X.seq ?_)
      refine T.yes rfl (decide_eq_true c13) ?_
      refine T.skip (X.seq (T.seq (T.block (T.region rfl ?_))))
      refine TL.run ft_cursitorref11_ok [0, 1] rfl rfl ?_
      refine TL.q rfl .u (Ex.b1 0 rfl Try.isAgg23 rfl rfl) rfl ?_
      obtain ⟨x14, hx15, h⟩ := Option.bind_eq_some_iff.1 h
      obtain ⟨gz16, oz16, rfl, z16cs, z16cl, z16cc, z16nf, z16r⟩ := RX.elem (by decide) hX hx15
      obtain ⟨z16S, z16r, z16rr⟩ := z16r
      obtain ⟨A17, c18, rfl, z16s0⟩ := z16r
      have hX19 : (RX.of (sliceRd 3 Hd_rd) [.slice A17 x14.fHeaders.length c18] x14.fHeaders).reads w F := ⟨z16S, z16s0, z16rr⟩
      refine TL.run ft_cursitorref11_ok [3] rfl rfl ?_
      refine TL.q rfl .u (Ex.ixS (k := k5) rfl rfl rfl Try.runUnderlying23 Try.sizeOf33 (List.getElem?_eq_some_iff.1 hx15).1) rfl ?_
      refine TL.q rfl .u (Ex.oS (us := [.int .i64 x14.fTime, .int .i64 x14.fOffset, .bool x14.fKey.null, .string (bsOf x14.fKey.data), .bool x14.fValue.null, .string (bsOf x14.fValue.data), .slice A17 x14.fHeaders.length c18]) 0 rfl Try.isAgg33 Try.sizeOf33 z16nf z16cc rfl rfl rfl) rfl ?_
      obtain ⟨x20, hx21, h⟩ := Option.bind_eq_some_iff.1 h
      refine TL.ce rfl .u (.fn Try.call50 rfl) (f_r07_Write_spec x14 _ _ _ hx21) (fun _ hs => (SrcE.old hs hX19)) rfl ?_
      replace h := guard_some h
      obtain ⟨c22, h⟩ := h
      refine TL.q rfl .u (Ex.sAdd rfl rfl c22) rfl ?_
      refine TL.run ft_cursitorref11_ok [8] rfl rfl ?_
      refine TL.nil (X.blk (X.seq (T.region rfl ?_)))
      replace h := guard_some h
      obtain ⟨c23, h⟩ := h
      refine TL.run ft_cursitorref11_ok [0] rfl rfl ?_
      refine TL.q rfl .u (Ex.add rfl rfl c23) rfl ?_
      refine TL.run ft_cursitorref11_ok [2] rfl rfl ?_
      exact TL.nil (X.back (m' := m9) [0, 0] (by omega) ⟨(y4 ++ x20), k5 + 1, rfl, rfl, h⟩ (by rfl) (by rfl))
    · replace h := ifF c13 h
      refine TL.nil (X.seq ?_)
      refine T.no rfl (decide_eq_false c13) ?_
      obtain rfl := Option.some.inj h
      replace h := hO8
      clear hO8
      try dsimp only at h
      refine T.exit (X.exs (X.exs (X.ex (X.seq (T.seq (T.draw (.q 0 (.q 1 (.q 2 (.q 3 (.q 4 (.q 5 (.q 6 (.q 7 (.q 9 (.q 10 (.q 11 (.q 12 (.q 13 (.q 14 (.q 15 (.q 16 (.q 17 (.q 18 (.q 19 (.q 20 (.q 21 (.q 22 (.q 23 (.e 8 (.e 24 (.e 25 (.q 26 (.q 27 (.q 28 (.q 29 (.q 30 .nil))))))))))))))))))))))))))))))) [0, 0] rfl mix_cursitorref11 (NoP.seq np_post) (by kernel_rfl) ?_))))))
      refine TD.run ft_cursitorref11_ok [0] rfl rfl ?_
      refine TD.q rfl .u (Ex.b1 0 rfl Try.isAgg3 rfl rfl) rfl ?_
      refine TD.run ft_cursitorref11_ok [2] rfl rfl ?_
      refine TD.q rfl .u (Ex.lenB rfl Try.runUnderlying9) rfl ?_
      replace h := guard_some h
      obtain ⟨c24, h⟩ := h
      refine TD.q rfl .u (Ex.add rfl rfl c24) rfl ?_
      refine TD.run ft_cursitorref11_ok [5] rfl rfl ?_
      refine TD.q rfl .u (Ex.b1 0 rfl Try.isAgg3 rfl rfl) rfl ?_
      refine TD.q rfl .u (Ex.bS (us := [.int .i64 a0.fBase, .int .i64 a0.fLeader, .bool a0.fAppend, .bool a0.fTxn, .bool a0.fControl, .int .i64 a0.fLast, .int .i64 a0.fFirst, .int .i64 a0.fMax, .int .i64 a0.fProducer, .int .i64 a0.fEpoch, .int .i64 a0.fSequence, .slice A1 a0.fRecords.length c2]) 0 rfl Try.isAgg25 Try.sizeOf25 rfl rfl rfl) rfl ?_
      refine TD.run ft_cursitorref11_ok [9] rfl rfl ?_
      refine TD.q rfl .u (Ex.b1 0 rfl Try.isAgg3 rfl rfl) rfl ?_
      refine TD.run ft_cursitorref11_ok [11] rfl rfl ?_
      refine TD.q rfl .u (Ex.b1 0 rfl Try.isAgg3 rfl rfl) rfl ?_
      refine TD.run ft_cursitorref11_ok [13] rfl rfl ?_
      refine TD.q rfl .u (Ex.b1 0 rfl Try.isAgg3 rfl rfl) rfl ?_
      refine TD.run ft_cursitorref11_ok [15] rfl rfl ?_
      refine TD.q rfl .u (Ex.b1 0 rfl Try.isAgg3 rfl rfl) rfl ?_
      refine TD.run ft_cursitorref11_ok [17] rfl rfl ?_
      refine TD.q rfl .u (Ex.b1 0 rfl Try.isAgg3 rfl rfl) rfl ?_
      refine TD.run ft_cursitorref11_ok [19] rfl rfl ?_
      refine TD.q rfl .u (Ex.b1 0 rfl Try.isAgg3 rfl rfl) rfl ?_
      refine TD.run ft_cursitorref11_ok [21] rfl rfl ?_
      refine TD.q rfl .u (Ex.b1 0 rfl Try.isAgg23 rfl rfl) rfl ?_
      refine TD.q rfl .u (Ex.lenS rfl Try.runUnderlying23) rfl ?_
      obtain ⟨x25, hx26, h⟩ := Option.bind_eq_some_iff.1 h
      refine TD.ce rfl .u (.fn Try.call52 rfl) (f_r11_attributes_spec a0 _ _ _ hx26) (fun _ hs => (SrcE.old hs hX)) rfl [0, 0] (rfl) ?_
      refine TD.lit (cells := #[.int .i64 a0.fBase, .int .i64 (49 + (y4.length : Int)), .int .i64 a0.fLeader, .int .i64 0, .int .i64 x25, .int .i64 a0.fLast, .int .i64 a0.fFirst, .int .i64 a0.fMax, .int .i64 a0.fProducer, .int .i64 a0.fEpoch, .int .i64 a0.fSequence, .int .i64 (a0.fRecords.length : Int)]) rfl .u sok_cursitorref11_104_12 rfl (by kernel_rfl) rfl [1, 1] (fun _ => rfl) (fun b27 => ?_)
      refine TD.rowOf (us := [.int .i64 a0.fBase, .int .i64 (49 + (y4.length : Int)), .int .i64 a0.fLeader, .int .i64 0, .int .i64 x25, .int .i64 a0.fLast, .int .i64 a0.fFirst, .int .i64 a0.fMax, .int .i64 a0.fProducer, .int .i64 a0.fEpoch, .int .i64 a0.fSequence, .int .i64 (a0.fRecords.length : Int)]) (xs := [a0.fBase, (49 + (y4.length : Int)), a0.fLeader, 0, x25, a0.fLast, a0.fFirst, a0.fMax, a0.fProducer, a0.fEpoch, a0.fSequence, (a0.fRecords.length : Int)]) (E := intE) (z := 1) rfl (Nat.le_of_ble_eq_true rfl) (fun _ => ⟨rfl, rfl, ⟨rfl, rfl, ⟨rfl, rfl, ⟨rfl, rfl, ⟨rfl, rfl, ⟨rfl, rfl, ⟨rfl, rfl, ⟨rfl, rfl, ⟨rfl, rfl, ⟨rfl, rfl, ⟨rfl, rfl, ⟨rfl, rfl, rfl⟩⟩⟩⟩⟩⟩⟩⟩⟩⟩⟩⟩) ?_
      obtain ⟨⟨x28, x29⟩, hx30, h⟩ := Option.bind_eq_some_iff.1 h
      try dsimp only at h
      refine TD.ce rfl .u (.fn Try.call51 rfl) (f_r10_Bytes_spec [a0.fBase, (49 + (y4.length : Int)), a0.fLeader, 0, x25, a0.fLast, a0.fFirst, a0.fMax, a0.fProducer, a0.fEpoch, a0.fSequence, (a0.fRecords.length : Int)] _ _ _ hx30) (fun _ hs => (SrcE.res 0 hs rfl (fun w G h => own_reads (by decide) w G h))) rfl [1, 1] (rfl) ?_
      refine TD.run ft_cursitorref11_ok [26, 27, 28, 29, 30] rfl rfl ?_
      refine TD.nil (X.seq (T.seq (T.region rfl ?_)))
      replace h := guard_some h
      obtain ⟨c31, h⟩ := h
      refine TL.run ft_cursitorref11_ok [0] rfl rfl ?_
      replace c31 : 21 ≤ x28.length := c31
      refine TL.q rfl .u (Ex.sSl (p := 21) (q := x28.length) (m := (x28.drop 21)) rfl Try.runUnderlying9 (.some rfl rfl) .none (by first | omega | (dsimp only; omega)) (sl_drop _ _)) rfl ?_
      replace h := guard_some h
      obtain ⟨c32, h⟩ := h
      refine TL.run ft_cursitorref11_ok [2] rfl rfl ?_
      refine TL.q rfl .u (Ex.sAdd rfl rfl c32) rfl ?_
      obtain ⟨x33, hx34, h⟩ := Option.bind_eq_some_iff.1 h
      refine TL.ce rfl .u (.fn Try.call53 rfl) (f_r05_Sum_spec ((x28.drop 21) ++ y4) _ hx34) (fun _ hs => (RX.reads_triv _ _)) rfl ?_
      replace h := guard_some h
      obtain ⟨c35, h⟩ := h
      refine TL.q rfl .u (Ex.conv64 rfl Try.runUnderlying36 Try.runUnderlying3 c35) rfl ?_
      refine TL.run ft_cursitorref11_ok [6] rfl rfl ?_
      refine TL.nil (X.seq (T.seq (T.draw (.q 0 (.q 1 (.q 2 (.q 3 (.q 4 (.q 5 (.q 6 (.q 7 (.q 8 (.q 10 (.q 11 (.q 12 (.q 13 (.q 14 (.q 15 (.q 16 (.q 17 (.q 18 (.q 19 (.q 20 (.q 21 (.q 22 (.q 23 (.q 24 (.e 9 (.e 25 (.e 26 (.q 27 (.q 28 (.q 29 (.q 30 (.q 31 .nil)))))))))))))))))))))))))))))))) [0, 0, 0] rfl mix_cursitorref11 (NoP.seq np_post) (by kernel_rfl) ?_)))
      refine TD.run ft_cursitorref11_ok [0] rfl rfl ?_
      refine TD.q rfl .u (Ex.b1 1 rfl Try.isAgg3 rfl rfl) rfl ?_
      refine TD.run ft_cursitorref11_ok [2] rfl rfl ?_
      refine TD.q rfl .u (Ex.lenB rfl Try.runUnderlying9) rfl ?_
      replace h := guard_some h
      obtain ⟨c36, h⟩ := h
      refine TD.q rfl .u (Ex.add rfl rfl c36) rfl ?_
      refine TD.run ft_cursitorref11_ok [5] rfl rfl ?_
      refine TD.q rfl .u (Ex.b1 1 rfl Try.isAgg3 rfl rfl) rfl ?_
      refine TD.run ft_cursitorref11_ok [7] rfl rfl ?_
      refine TD.q rfl .u (Ex.bS (us := [.int .i64 a0.fBase, .int .i64 a0.fLeader, .bool a0.fAppend, .bool a0.fTxn, .bool a0.fControl, .int .i64 a0.fLast, .int .i64 a0.fFirst, .int .i64 a0.fMax, .int .i64 a0.fProducer, .int .i64 a0.fEpoch, .int .i64 a0.fSequence, .slice A1 a0.fRecords.length c2]) 1 rfl Try.isAgg25 Try.sizeOf25 rfl rfl rfl) rfl ?_
      refine TD.run ft_cursitorref11_ok [10] rfl rfl ?_
      refine TD.q rfl .u (Ex.b1 1 rfl Try.isAgg3 rfl rfl) rfl ?_
      refine TD.run ft_cursitorref11_ok [12] rfl rfl ?_
      refine TD.q rfl .u (Ex.b1 1 rfl Try.isAgg3 rfl rfl) rfl ?_
      refine TD.run ft_cursitorref11_ok [14] rfl rfl ?_
      refine TD.q rfl .u (Ex.b1 1 rfl Try.isAgg3 rfl rfl) rfl ?_
      refine TD.run ft_cursitorref11_ok [16] rfl rfl ?_
      refine TD.q rfl .u (Ex.b1 1 rfl Try.isAgg3 rfl rfl) rfl ?_
      refine TD.run ft_cursitorref11_ok [18] rfl rfl ?_
      refine TD.q rfl .u (Ex.b1 1 rfl Try.isAgg3 rfl rfl) rfl ?_
      refine TD.run ft_cursitorref11_ok [20] rfl rfl ?_
      refine TD.q rfl .u (Ex.b1 1 rfl Try.isAgg3 rfl rfl) rfl ?_
      refine TD.run ft_cursitorref11_ok [22] rfl rfl ?_
      refine TD.q rfl .u (Ex.b1 1 rfl Try.isAgg23 rfl rfl) rfl ?_
      refine TD.q rfl .u (Ex.lenS rfl Try.runUnderlying23) rfl ?_
      obtain ⟨x37, hx38, h⟩ := Option.bind_eq_some_iff.1 h
      refine TD.ce rfl .u (.fn Try.call52 rfl) (f_r11_attributes_spec a0 _ _ _ hx38) (fun _ hs => (SrcE.old hs hX)) rfl [0, 0, 0] (rfl) ?_
      refine TD.lit (cells := #[.int .i64 a0.fBase, .int .i64 (49 + (y4.length : Int)), .int .i64 a0.fLeader, .int .i64 x33, .int .i64 x37, .int .i64 a0.fLast, .int .i64 a0.fFirst, .int .i64 a0.fMax, .int .i64 a0.fProducer, .int .i64 a0.fEpoch, .int .i64 a0.fSequence, .int .i64 (a0.fRecords.length : Int)]) rfl .u sok_cursitorref11_104_12 rfl (by kernel_rfl) rfl [1, 1, 1] (fun _ => rfl) (fun b39 => ?_)
      refine TD.rowOf (us := [.int .i64 a0.fBase, .int .i64 (49 + (y4.length : Int)), .int .i64 a0.fLeader, .int .i64 x33, .int .i64 x37, .int .i64 a0.fLast, .int .i64 a0.fFirst, .int .i64 a0.fMax, .int .i64 a0.fProducer, .int .i64 a0.fEpoch, .int .i64 a0.fSequence, .int .i64 (a0.fRecords.length : Int)]) (xs := [a0.fBase, (49 + (y4.length : Int)), a0.fLeader, x33, x37, a0.fLast, a0.fFirst, a0.fMax, a0.fProducer, a0.fEpoch, a0.fSequence, (a0.fRecords.length : Int)]) (E := intE) (z := 1) rfl (Nat.le_of_ble_eq_true rfl) (fun _ => ⟨rfl, rfl, ⟨rfl, rfl, ⟨rfl, rfl, ⟨rfl, rfl, ⟨rfl, rfl, ⟨rfl, rfl, ⟨rfl, rfl, ⟨rfl, rfl, ⟨rfl, rfl, ⟨rfl, rfl, ⟨rfl, rfl, ⟨rfl, rfl, rfl⟩⟩⟩⟩⟩⟩⟩⟩⟩⟩⟩⟩) ?_
      obtain ⟨⟨x40, x41⟩, hx42, h⟩ := Option.bind_eq_some_iff.1 h
      try dsimp only at h
      refine TD.ce rfl .u (.fn Try.call51 rfl) (f_r10_Bytes_spec [a0.fBase, (49 + (y4.length : Int)), a0.fLeader, x33, x37, a0.fLast, a0.fFirst, a0.fMax, a0.fProducer, a0.fEpoch, a0.fSequence, (a0.fRecords.length : Int)] _ _ _ hx42) (fun _ hs => (SrcE.res 0 hs rfl (fun w G h => own_reads (by decide) w G h))) rfl [1, 1, 1] (rfl) ?_
      refine TD.run ft_cursitorref11_ok [27, 28, 29, 30, 31] rfl rfl ?_
      refine TD.nil (X.seq (T.seq (T.region rfl ?_)))
      replace h := guard_some h
      obtain ⟨c43, h⟩ := h
      refine TL.run ft_cursitorref11_ok [0, 1] rfl rfl ?_
      refine TL.q rfl .u (Ex.sAdd rfl rfl c43) rfl ?_
      refine TL.run ft_cursitorref11_ok [3] rfl rfl ?_
      obtain rfl := Option.some.inj h
      exact TL.nil (X.seq (T.ret (X.done1 [3] Try.results16 (RV.tm rfl) ⟨rfl, rfl, rfl⟩ (by rfl) (.inl rfl))))
def f_r11_Same_l1 (a0 : Bat) (a1 : Bat) : Nat → Bool → Nat → Option (Lp Bool (Bool × Nat))
  | 0, _, _ => none
  | m38 + 1, y33, k34 => if (k34 : Int) < (a0.fRecords.length : Int) then ((a0.fRecords[k34]?).bind fun x43 => (a1.fRecords[k34]?).bind fun x49 => (f_r07_Same x43 x49).bind fun x55 => if x55 = true then (if -9223372036854775808 ≤ ((k34 : Int) + 1) ∧ ((k34 : Int) + 1) ≤ 9223372036854775807 then (f_r11_Same_l1 a0 a1 m38 y33 (k34 + 1)) else none) else some (Lp.ret false)) else (some (Lp.go (y33, k34)))
def f_r11_Same (a0 : Bat) (a1 : Bat) : Option (Bool) := (if a0.fBase = a1.fBase then (if a0.fLeader = a1.fLeader then (if (a0.fAppend == a1.fAppend) = true then (if (a0.fTxn == a1.fTxn) = true then (if (a0.fControl == a1.fControl) = true then (if a0.fLast = a1.fLast then (if a0.fFirst = a1.fFirst then (if a0.fMax = a1.fMax then (if a0.fProducer = a1.fProducer then (if a0.fEpoch = a1.fEpoch then (if a0.fSequence = a1.fSequence then (if (a0.fRecords.length : Int) = (a1.fRecords.length : Int) then some false else some true) else some true) else some true) else some true) else some true) else some true) else some true) else some true) else some true) else some true) else some true) else some true).bind fun y18 => if y18 = true then some false else ((f_r11_Same_l1 a0 a1 (((a0.fRecords.length : Int)).toNat + 1) false 0).bind fun e => match e with | .ret r => some r | .go (y59, k60) => some true)
set_option maxRecDepth 100000 in
set_option maxHeartbeats 4000000 in
theorem f_r11_Same_spec (a0 : Bat) (A1 : Option Addr) (c2 : Nat) (a1 : Bat) (A3 : Option Addr) (c4 : Nat) (r : Bool) (h : f_r11_Same a0 a1 = some r) : SpecX Try.prog 17 #[.agg #[.int .i64 a0.fBase, .int .i64 a0.fLeader, .bool a0.fAppend, .bool a0.fTxn, .bool a0.fControl, .int .i64 a0.fLast, .int .i64 a0.fFirst, .int .i64 a0.fMax, .int .i64 a0.fProducer, .int .i64 a0.fEpoch, .int .i64 a0.fSequence, .slice A1 a0.fRecords.length c2], .agg #[.int .i64 a1.fBase, .int .i64 a1.fLeader, .bool a1.fAppend, .bool a1.fTxn, .bool a1.fControl, .int .i64 a1.fLast, .int .i64 a1.fFirst, .int .i64 a1.fMax, .int .i64 a1.fProducer, .int .i64 a1.fEpoch, .int .i64 a1.fSequence, .slice A3 a1.fRecords.length c4]] (RX.and (RX.of (sliceRd 7 Rec_rd) [.slice A1 a0.fRecords.length c2] a0.fRecords) (RX.of (sliceRd 7 Rec_rd) [.slice A3 a1.fRecords.length c4] a1.fRecords)) (EmpR) (fun v A' N => v = .bool r ∧ A' = EmpR ∧ N = []) := by
  refine enterA Try.func17 rfl Try.ntmps17 rfl ?_
  intro F w hX
  unfold f_r11_Same at h
  refine T.seq (T.region rfl ?_)
  refine TL.box rfl .u rfl rfl (fun b5 => ?_)
  refine TL.box rfl .u rfl rfl (fun b6 => ?_)
  refine TL.run ft_cursitorref11_ok [2] rfl rfl ?_
  refine TL.nil (X.seq (T.seq (T.seq ?_)))
  obtain ⟨y18, h, hk19⟩ := Option.bind_eq_some_iff.1 h
  refine T.jq (fun e Rs => e = [(2, .pointer (some ⟨b5, 0, none⟩)), (3, .pointer (some ⟨b6, 0, none⟩)), (4, .bool false), (89, .bool y18)] ∧ Rs = [BlkR b6 25 #[.int .i64 a1.fBase, .int .i64 a1.fLeader, .bool a1.fAppend, .bool a1.fTxn, .bool a1.fControl, .int .i64 a1.fLast, .int .i64 a1.fFirst, .int .i64 a1.fMax, .int .i64 a1.fProducer, .int .i64 a1.fEpoch, .int .i64 a1.fSequence, .slice A3 a1.fRecords.length c4], BlkR b5 25 #[.int .i64 a0.fBase, .int .i64 a0.fLeader, .bool a0.fAppend, .bool a0.fTxn, .bool a0.fControl, .int .i64 a0.fLast, .int .i64 a0.fFirst, .int .i64 a0.fMax, .int .i64 a0.fProducer, .int .i64 a0.fEpoch, .int .i64 a0.fSequence, .slice A1 a0.fRecords.length c2], EmpR]) ?_ ?_
  · clear hk19
    refine T.region rfl ?_
    refine TL.run ft_cursitorref11_ok [0] rfl rfl ?_
    refine TL.q rfl .u (Ex.b1 1 rfl Try.isAgg3 rfl rfl) rfl ?_
    refine TL.run ft_cursitorref11_ok [2] rfl rfl ?_
    refine TL.q rfl .u (Ex.b1 0 rfl Try.isAgg3 rfl rfl) rfl ?_
    by_cases c20 : a0.fBase = a1.fBase
    · replace h := ifT c20 h
      refine TL.run ft_cursitorref11_ok [4, 5] rfl rfl ?_
      refine TL.q rfl (.g rfl rfl (bn_f (decide_eq_true c20))) (Ex.ft ft_cursitorref11_ok rfl) rfl ?_
      refine TL.q rfl (.g rfl rfl (bn_f (decide_eq_true c20))) (Ex.b1 1 rfl Try.isAgg3 rfl rfl) rfl ?_
      refine TL.q rfl (.g rfl rfl (bn_f (decide_eq_true c20))) (Ex.ft ft_cursitorref11_ok rfl) rfl ?_
      refine TL.q rfl (.g rfl rfl (bn_f (decide_eq_true c20))) (Ex.b1 0 rfl Try.isAgg3 rfl rfl) rfl ?_
      refine TL.q rfl (.g rfl rfl (bn_f (decide_eq_true c20))) (Ex.ft ft_cursitorref11_ok rfl) rfl ?_
      refine TL.q rfl .u (Ex.pn rfl (bn_f (decide_eq_true c20)) rfl) rfl ?_
      by_cases c21 : a0.fLeader = a1.fLeader
      · replace h := ifT c21 h
        refine TL.run ft_cursitorref11_ok [12] rfl rfl ?_
        refine TL.q rfl (.g rfl rfl (bn_f (decide_eq_true c21))) (Ex.ft ft_cursitorref11_ok rfl) rfl ?_
        refine TL.q rfl (.g rfl rfl (bn_f (decide_eq_true c21))) (Ex.b1 1 rfl Try.isAgg4 rfl rfl) rfl ?_
        refine TL.q rfl (.g rfl rfl (bn_f (decide_eq_true c21))) (Ex.ft ft_cursitorref11_ok rfl) rfl ?_
        refine TL.q rfl (.g rfl rfl (bn_f (decide_eq_true c21))) (Ex.b1 0 rfl Try.isAgg4 rfl rfl) rfl ?_
        refine TL.q rfl (.g rfl rfl (bn_f (decide_eq_true c21))) (Ex.bNe rfl rfl rfl rfl Try.runUnderlying4) rfl ?_
        refine TL.q rfl .u (Ex.pn rfl (bn_f (decide_eq_true c21)) rfl) rfl ?_
        by_cases c22 : (a0.fAppend == a1.fAppend) = true
        · replace h := ifT c22 h
          refine TL.run ft_cursitorref11_ok [19] rfl rfl ?_
          refine TL.q rfl (.g rfl rfl (bn_f c22)) (Ex.ft ft_cursitorref11_ok rfl) rfl ?_
          refine TL.q rfl (.g rfl rfl (bn_f c22)) (Ex.b1 1 rfl Try.isAgg4 rfl rfl) rfl ?_
          refine TL.q rfl (.g rfl rfl (bn_f c22)) (Ex.ft ft_cursitorref11_ok rfl) rfl ?_
          refine TL.q rfl (.g rfl rfl (bn_f c22)) (Ex.b1 0 rfl Try.isAgg4 rfl rfl) rfl ?_
          refine TL.q rfl (.g rfl rfl (bn_f c22)) (Ex.bNe rfl rfl rfl rfl Try.runUnderlying4) rfl ?_
          refine TL.q rfl .u (Ex.pn rfl (bn_f c22) rfl) rfl ?_
          by_cases c23 : (a0.fTxn == a1.fTxn) = true
          · replace h := ifT c23 h
            refine TL.run ft_cursitorref11_ok [26] rfl rfl ?_
            refine TL.q rfl (.g rfl rfl (bn_f c23)) (Ex.ft ft_cursitorref11_ok rfl) rfl ?_
            refine TL.q rfl (.g rfl rfl (bn_f c23)) (Ex.b1 1 rfl Try.isAgg4 rfl rfl) rfl ?_
            refine TL.q rfl (.g rfl rfl (bn_f c23)) (Ex.ft ft_cursitorref11_ok rfl) rfl ?_
            refine TL.q rfl (.g rfl rfl (bn_f c23)) (Ex.b1 0 rfl Try.isAgg4 rfl rfl) rfl ?_
            refine TL.q rfl (.g rfl rfl (bn_f c23)) (Ex.bNe rfl rfl rfl rfl Try.runUnderlying4) rfl ?_
            refine TL.q rfl .u (Ex.pn rfl (bn_f c23) rfl) rfl ?_
            by_cases c24 : (a0.fControl == a1.fControl) = true
            · replace h := ifT c24 h
              refine TL.run ft_cursitorref11_ok [33] rfl rfl ?_
              refine TL.q rfl (.g rfl rfl (bn_f c24)) (Ex.ft ft_cursitorref11_ok rfl) rfl ?_
              refine TL.q rfl (.g rfl rfl (bn_f c24)) (Ex.b1 1 rfl Try.isAgg3 rfl rfl) rfl ?_
              refine TL.q rfl (.g rfl rfl (bn_f c24)) (Ex.ft ft_cursitorref11_ok rfl) rfl ?_
              refine TL.q rfl (.g rfl rfl (bn_f c24)) (Ex.b1 0 rfl Try.isAgg3 rfl rfl) rfl ?_
              refine TL.q rfl (.g rfl rfl (bn_f c24)) (Ex.ft ft_cursitorref11_ok rfl) rfl ?_
              refine TL.q rfl .u (Ex.pn rfl (bn_f c24) rfl) rfl ?_
              by_cases c25 : a0.fLast = a1.fLast
              · replace h := ifT c25 h
                refine TL.run ft_cursitorref11_ok [40] rfl rfl ?_
                refine TL.q rfl (.g rfl rfl (bn_f (decide_eq_true c25))) (Ex.ft ft_cursitorref11_ok rfl) rfl ?_
                refine TL.q rfl (.g rfl rfl (bn_f (decide_eq_true c25))) (Ex.b1 1 rfl Try.isAgg3 rfl rfl) rfl ?_
                refine TL.q rfl (.g rfl rfl (bn_f (decide_eq_true c25))) (Ex.ft ft_cursitorref11_ok rfl) rfl ?_
                refine TL.q rfl (.g rfl rfl (bn_f (decide_eq_true c25))) (Ex.b1 0 rfl Try.isAgg3 rfl rfl) rfl ?_
                refine TL.q rfl (.g rfl rfl (bn_f (decide_eq_true c25))) (Ex.ft ft_cursitorref11_ok rfl) rfl ?_
                refine TL.q rfl .u (Ex.pn rfl (bn_f (decide_eq_true c25)) rfl) rfl ?_
                by_cases c26 : a0.fFirst = a1.fFirst
                · replace h := ifT c26 h
                  refine TL.run ft_cursitorref11_ok [47] rfl rfl ?_
                  refine TL.q rfl (.g rfl rfl (bn_f (decide_eq_true c26))) (Ex.ft ft_cursitorref11_ok rfl) rfl ?_
                  refine TL.q rfl (.g rfl rfl (bn_f (decide_eq_true c26))) (Ex.b1 1 rfl Try.isAgg3 rfl rfl) rfl ?_
                  refine TL.q rfl (.g rfl rfl (bn_f (decide_eq_true c26))) (Ex.ft ft_cursitorref11_ok rfl) rfl ?_
                  refine TL.q rfl (.g rfl rfl (bn_f (decide_eq_true c26))) (Ex.b1 0 rfl Try.isAgg3 rfl rfl) rfl ?_
                  refine TL.q rfl (.g rfl rfl (bn_f (decide_eq_true c26))) (Ex.ft ft_cursitorref11_ok rfl) rfl ?_
                  refine TL.q rfl .u (Ex.pn rfl (bn_f (decide_eq_true c26)) rfl) rfl ?_
                  by_cases c27 : a0.fMax = a1.fMax
                  · replace h := ifT c27 h
                    refine TL.run ft_cursitorref11_ok [54] rfl rfl ?_
                    refine TL.q rfl (.g rfl rfl (bn_f (decide_eq_true c27))) (Ex.ft ft_cursitorref11_ok rfl) rfl ?_
                    refine TL.q rfl (.g rfl rfl (bn_f (decide_eq_true c27))) (Ex.b1 1 rfl Try.isAgg3 rfl rfl) rfl ?_
                    refine TL.q rfl (.g rfl rfl (bn_f (decide_eq_true c27))) (Ex.ft ft_cursitorref11_ok rfl) rfl ?_
                    refine TL.q rfl (.g rfl rfl (bn_f (decide_eq_true c27))) (Ex.b1 0 rfl Try.isAgg3 rfl rfl) rfl ?_
                    refine TL.q rfl (.g rfl rfl (bn_f (decide_eq_true c27))) (Ex.ft ft_cursitorref11_ok rfl) rfl ?_
                    refine TL.q rfl .u (Ex.pn rfl (bn_f (decide_eq_true c27)) rfl) rfl ?_
                    by_cases c28 : a0.fProducer = a1.fProducer
                    · replace h := ifT c28 h
                      refine TL.run ft_cursitorref11_ok [61] rfl rfl ?_
                      refine TL.q rfl (.g rfl rfl (bn_f (decide_eq_true c28))) (Ex.ft ft_cursitorref11_ok rfl) rfl ?_
                      refine TL.q rfl (.g rfl rfl (bn_f (decide_eq_true c28))) (Ex.b1 1 rfl Try.isAgg3 rfl rfl) rfl ?_
                      refine TL.q rfl (.g rfl rfl (bn_f (decide_eq_true c28))) (Ex.ft ft_cursitorref11_ok rfl) rfl ?_
                      refine TL.q rfl (.g rfl rfl (bn_f (decide_eq_true c28))) (Ex.b1 0 rfl Try.isAgg3 rfl rfl) rfl ?_
                      refine TL.q rfl (.g rfl rfl (bn_f (decide_eq_true c28))) (Ex.ft ft_cursitorref11_ok rfl) rfl ?_
                      refine TL.q rfl .u (Ex.pn rfl (bn_f (decide_eq_true c28)) rfl) rfl ?_
                      by_cases c29 : a0.fEpoch = a1.fEpoch
                      · replace h := ifT c29 h
                        refine TL.run ft_cursitorref11_ok [68] rfl rfl ?_
                        refine TL.q rfl (.g rfl rfl (bn_f (decide_eq_true c29))) (Ex.ft ft_cursitorref11_ok rfl) rfl ?_
                        refine TL.q rfl (.g rfl rfl (bn_f (decide_eq_true c29))) (Ex.b1 1 rfl Try.isAgg3 rfl rfl) rfl ?_
                        refine TL.q rfl (.g rfl rfl (bn_f (decide_eq_true c29))) (Ex.ft ft_cursitorref11_ok rfl) rfl ?_
                        refine TL.q rfl (.g rfl rfl (bn_f (decide_eq_true c29))) (Ex.b1 0 rfl Try.isAgg3 rfl rfl) rfl ?_
                        refine TL.q rfl (.g rfl rfl (bn_f (decide_eq_true c29))) (Ex.ft ft_cursitorref11_ok rfl) rfl ?_
                        refine TL.q rfl .u (Ex.pn rfl (bn_f (decide_eq_true c29)) rfl) rfl ?_
                        by_cases c30 : a0.fSequence = a1.fSequence
                        · replace h := ifT c30 h
                          refine TL.run ft_cursitorref11_ok [75] rfl rfl ?_
                          refine TL.q rfl (.g rfl rfl (bn_f (decide_eq_true c30))) (Ex.ft ft_cursitorref11_ok rfl) rfl ?_
                          refine TL.q rfl (.g rfl rfl (bn_f (decide_eq_true c30))) (Ex.b1 1 rfl Try.isAgg23 rfl rfl) rfl ?_
                          refine TL.q rfl (.g rfl rfl (bn_f (decide_eq_true c30))) (Ex.lenS rfl Try.runUnderlying23) rfl ?_
                          refine TL.q rfl (.g rfl rfl (bn_f (decide_eq_true c30))) (Ex.ft ft_cursitorref11_ok rfl) rfl ?_
                          refine TL.q rfl (.g rfl rfl (bn_f (decide_eq_true c30))) (Ex.b1 0 rfl Try.isAgg23 rfl rfl) rfl ?_
                          refine TL.q rfl (.g rfl rfl (bn_f (decide_eq_true c30))) (Ex.lenS rfl Try.runUnderlying23) rfl ?_
                          refine TL.q rfl (.g rfl rfl (bn_f (decide_eq_true c30))) (Ex.ft ft_cursitorref11_ok rfl) rfl ?_
                          refine TL.q rfl .u (Ex.pn rfl (bn_f (decide_eq_true c30)) rfl) rfl ?_
                          by_cases c31 : (a0.fRecords.length : Int) = (a1.fRecords.length : Int)
                          · replace h := ifT c31 h
                            cases h
                            exact TL.nil (X.as (d := 89) (v' := .bool false) rfl (congrArg Value.bool (bn_f (decide_eq_true c31))) (X.jq [0, 0, 0] ⟨rfl, rfl⟩ (by rfl) (by rfl)))
                          · replace h := ifF c31 h
                            cases h
                            exact TL.nil (X.as (d := 89) (v' := .bool true) rfl (congrArg Value.bool (bn_t (decide_eq_false c31))) (X.jq [0, 0, 0] ⟨rfl, rfl⟩ (by rfl) (by rfl)))
                        · replace h := ifF c30 h
                          refine TL.run ft_cursitorref11_ok [75] rfl rfl ?_
                          refine TL.no rfl (.gn rfl rfl (bn_t (decide_eq_false c30))) rfl ?_
                          refine TL.no rfl (.gn rfl rfl (bn_t (decide_eq_false c30))) rfl ?_
                          refine TL.no rfl (.gn rfl rfl (bn_t (decide_eq_false c30))) rfl ?_
                          refine TL.no rfl (.gn rfl rfl (bn_t (decide_eq_false c30))) rfl ?_
                          refine TL.no rfl (.gn rfl rfl (bn_t (decide_eq_false c30))) rfl ?_
                          refine TL.no rfl (.gn rfl rfl (bn_t (decide_eq_false c30))) rfl ?_
                          refine TL.no rfl (.gn rfl rfl (bn_t (decide_eq_false c30))) rfl ?_
                          refine TL.q rfl .u (Ex.py rfl (bn_t (decide_eq_false c30)) rfl) rfl ?_
                          cases h
                          exact TL.nil (X.jq [0, 0, 0] ⟨rfl, rfl⟩ (by rfl) (by rfl))
                      · replace h := ifF c29 h
                        refine TL.run ft_cursitorref11_ok [68] rfl rfl ?_
                        refine TL.no rfl (.gn rfl rfl (bn_t (decide_eq_false c29))) rfl ?_
                        refine TL.no rfl (.gn rfl rfl (bn_t (decide_eq_false c29))) rfl ?_
                        refine TL.no rfl (.gn rfl rfl (bn_t (decide_eq_false c29))) rfl ?_
                        refine TL.no rfl (.gn rfl rfl (bn_t (decide_eq_false c29))) rfl ?_
                        refine TL.no rfl (.gn rfl rfl (bn_t (decide_eq_false c29))) rfl ?_
                        refine TL.q rfl .u (Ex.py rfl (bn_t (decide_eq_false c29)) rfl) rfl ?_
                        refine TL.run ft_cursitorref11_ok [75] rfl rfl ?_
                        refine TL.no rfl (.gn rfl rfl rfl) rfl ?_
                        refine TL.no rfl (.gn rfl rfl rfl) rfl ?_
                        refine TL.no rfl (.gn rfl rfl rfl) rfl ?_
                        refine TL.no rfl (.gn rfl rfl rfl) rfl ?_
                        refine TL.no rfl (.gn rfl rfl rfl) rfl ?_
                        refine TL.no rfl (.gn rfl rfl rfl) rfl ?_
                        refine TL.no rfl (.gn rfl rfl rfl) rfl ?_
                        refine TL.q rfl .u (Ex.py rfl rfl rfl) rfl ?_
                        cases h
                        exact TL.nil (X.jq [0, 0, 0] ⟨rfl, rfl⟩ (by rfl) (by rfl))
                    · replace h := ifF c28 h
                      refine TL.run ft_cursitorref11_ok [61] rfl rfl ?_
                      refine TL.no rfl (.gn rfl rfl (bn_t (decide_eq_false c28))) rfl ?_
                      refine TL.no rfl (.gn rfl rfl (bn_t (decide_eq_false c28))) rfl ?_
                      refine TL.no rfl (.gn rfl rfl (bn_t (decide_eq_false c28))) rfl ?_
                      refine TL.no rfl (.gn rfl rfl (bn_t (decide_eq_false c28))) rfl ?_
                      refine TL.no rfl (.gn rfl rfl (bn_t (decide_eq_false c28))) rfl ?_
                      refine TL.q rfl .u (Ex.py rfl (bn_t (decide_eq_false c28)) rfl) rfl ?_
                      refine TL.run ft_cursitorref11_ok [68] rfl rfl ?_
                      refine TL.no rfl (.gn rfl rfl rfl) rfl ?_
                      refine TL.no rfl (.gn rfl rfl rfl) rfl ?_
                      refine TL.no rfl (.gn rfl rfl rfl) rfl ?_
                      refine TL.no rfl (.gn rfl rfl rfl) rfl ?_
                      refine TL.no rfl (.gn rfl rfl rfl) rfl ?_
                      refine TL.q rfl .u (Ex.py rfl rfl rfl) rfl ?_
                      refine TL.run ft_cursitorref11_ok [75] rfl rfl ?_
                      refine TL.no rfl (.gn rfl rfl rfl) rfl ?_
                      refine TL.no rfl (.gn rfl rfl rfl) rfl ?_
                      refine TL.no rfl (.gn rfl rfl rfl) rfl ?_
                      refine TL.no rfl (.gn rfl rfl rfl) rfl ?_
                      refine TL.no rfl (.gn rfl rfl rfl) rfl ?_
                      refine TL.no rfl (.gn rfl rfl rfl) rfl ?_
                      refine TL.no rfl (.gn rfl rfl rfl) rfl ?_
                      refine TL.q rfl .u (Ex.py rfl rfl rfl) rfl ?_
                      cases h
                      exact TL.nil (X.jq [0, 0, 0] ⟨rfl, rfl⟩ (by rfl) (by rfl))
                  · replace h := ifF c27 h
                    refine TL.run ft_cursitorref11_ok [54] rfl rfl ?_
                    refine TL.no rfl (.gn rfl rfl (bn_t (decide_eq_false c27))) rfl ?_
                    refine TL.no rfl (.gn rfl rfl (bn_t (decide_eq_false c27))) rfl ?_
                    refine TL.no rfl (.gn rfl rfl (bn_t (decide_eq_false c27))) rfl ?_
                    refine TL.no rfl (.gn rfl rfl (bn_t (decide_eq_false c27))) rfl ?_
                    refine TL.no rfl (.gn rfl rfl (bn_t (decide_eq_false c27))) rfl ?_
                    refine TL.q rfl .u (Ex.py rfl (bn_t (decide_eq_false c27)) rfl) rfl ?_
                    refine TL.run ft_cursitorref11_ok [61] rfl rfl ?_
                    refine TL.no rfl (.gn rfl rfl rfl) rfl ?_
                    refine TL.no rfl (.gn rfl rfl rfl) rfl ?_
                    refine TL.no rfl (.gn rfl rfl rfl) rfl ?_
                    refine TL.no rfl (.gn rfl rfl rfl) rfl ?_
                    refine TL.no rfl (.gn rfl rfl rfl) rfl ?_
                    refine TL.q rfl .u (Ex.py rfl rfl rfl) rfl ?_
                    refine TL.run ft_cursitorref11_ok [68] rfl rfl ?_
                    refine TL.no rfl (.gn rfl rfl rfl) rfl ?_
                    refine TL.no rfl (.gn rfl rfl rfl) rfl ?_
                    refine TL.no rfl (.gn rfl rfl rfl) rfl ?_
                    refine TL.no rfl (.gn rfl rfl rfl) rfl ?_
                    refine TL.no rfl (.gn rfl rfl rfl) rfl ?_
                    refine TL.q rfl .u (Ex.py rfl rfl rfl) rfl ?_
                    refine TL.run ft_cursitorref11_ok [75] rfl rfl ?_
                    refine TL.no rfl (.gn rfl rfl rfl) rfl ?_
                    refine TL.no rfl (.gn rfl rfl rfl) rfl ?_
                    refine TL.no rfl (.gn rfl rfl rfl) rfl ?_
                    refine TL.no rfl (.gn rfl rfl rfl) rfl ?_
                    refine TL.no rfl (.gn rfl rfl rfl) rfl ?_
                    refine TL.no rfl (.gn rfl rfl rfl) rfl ?_
                    refine TL.no rfl (.gn rfl rfl rfl) rfl ?_
                    refine TL.q rfl .u (Ex.py rfl rfl rfl) rfl ?_
                    cases h
                    exact TL.nil (X.jq [0, 0, 0] ⟨rfl, rfl⟩ (by rfl) (by rfl))
                · replace h := ifF c26 h
                  refine TL.run ft_cursitorref11_ok [47] rfl rfl ?_
                  refine TL.no rfl (.gn rfl rfl (bn_t (decide_eq_false c26))) rfl ?_
                  refine TL.no rfl (.gn rfl rfl (bn_t (decide_eq_false c26))) rfl ?_
                  refine TL.no rfl (.gn rfl rfl (bn_t (decide_eq_false c26))) rfl ?_
                  refine TL.no rfl (.gn rfl rfl (bn_t (decide_eq_false c26))) rfl ?_
                  refine TL.no rfl (.gn rfl rfl (bn_t (decide_eq_false c26))) rfl ?_
                  refine TL.q rfl .u (Ex.py rfl (bn_t (decide_eq_false c26)) rfl) rfl ?_
                  refine TL.run ft_cursitorref11_ok [54] rfl rfl ?_
                  refine TL.no rfl (.gn rfl rfl rfl) rfl ?_
                  refine TL.no rfl (.gn rfl rfl rfl) rfl ?_
                  refine TL.no rfl (.gn rfl rfl rfl) rfl ?_
                  refine TL.no rfl (.gn rfl rfl rfl) rfl ?_
                  refine TL.no rfl (.gn rfl rfl rfl) rfl ?_
                  refine TL.q rfl .u (Ex.py rfl rfl rfl) rfl ?_
                  refine TL.run ft_cursitorref11_ok [61] rfl rfl ?_
                  refine TL.no rfl (.gn rfl rfl rfl) rfl ?_
                  refine TL.no rfl (.gn rfl rfl rfl) rfl ?_
                  refine TL.no rfl (.gn rfl rfl rfl) rfl ?_
                  refine TL.no rfl (.gn rfl rfl rfl) rfl ?_
                  refine TL.no rfl (.gn rfl rfl rfl) rfl ?_
                  refine TL.q rfl .u (Ex.py rfl rfl rfl) rfl ?_
                  refine TL.run ft_cursitorref11_ok [68] rfl rfl ?_
                  refine TL.no rfl (.gn rfl rfl rfl) rfl ?_
                  refine TL.no rfl (.gn rfl rfl rfl) rfl ?_
                  refine TL.no rfl (.gn rfl rfl rfl) rfl ?_
                  refine TL.no rfl (.gn rfl rfl rfl) rfl ?_
                  refine TL.no rfl (.gn rfl rfl rfl) rfl ?_
                  refine TL.q rfl .u (Ex.py rfl rfl rfl) rfl ?_
                  refine TL.run ft_cursitorref11_ok [75] rfl rfl ?_
                  refine TL.no rfl (.gn rfl rfl rfl) rfl ?_
                  refine TL.no rfl (.gn rfl rfl rfl) rfl ?_
                  refine TL.no rfl (.gn rfl rfl rfl) rfl ?_
                  refine TL.no rfl (.gn rfl rfl rfl) rfl ?_
                  refine TL.no rfl (.gn rfl rfl rfl) rfl ?_
                  refine TL.no rfl (.gn rfl rfl rfl) rfl ?_
                  refine TL.no rfl (.gn rfl rfl rfl) rfl ?_
                  refine TL.q rfl .u (Ex.py rfl rfl rfl) rfl ?_
                  cases h
                  exact TL.nil (X.jq [0, 0, 0] ⟨rfl, rfl⟩ (by rfl) (by rfl))
              · replace h := ifF c25 h
                refine TL.run ft_cursitorref11_ok [40] rfl rfl ?_
                refine TL.no rfl (.gn rfl rfl (bn_t (decide_eq_false c25))) rfl ?_
                refine TL.no rfl (.gn rfl rfl (bn_t (decide_eq_false c25))) rfl ?_
                refine TL.no rfl (.gn rfl rfl (bn_t (decide_eq_false c25))) rfl ?_
                refine TL.no rfl (.gn rfl rfl (bn_t (decide_eq_false c25))) rfl ?_
                refine TL.no rfl (.gn rfl rfl (bn_t (decide_eq_false c25))) rfl ?_
                refine TL.q rfl .u (Ex.py rfl (bn_t (decide_eq_false c25)) rfl) rfl ?_
                refine TL.run ft_cursitorref11_ok [47] rfl rfl ?_
                refine TL.no rfl (.gn rfl rfl rfl) rfl ?_
                refine TL.no rfl (.gn rfl rfl rfl) rfl ?_
                refine TL.no rfl (.gn rfl rfl rfl) rfl ?_
                refine TL.no rfl (.gn rfl rfl rfl) rfl ?_
                refine TL.no rfl (.gn rfl rfl rfl) rfl ?_
                refine TL.q rfl .u (Ex.py rfl rfl rfl) rfl ?_
                refine TL.run ft_cursitorref11_ok [54] rfl rfl ?_
                refine TL.no rfl (.gn rfl rfl rfl) rfl ?_
                refine TL.no rfl (.gn rfl rfl rfl) rfl ?_
                refine TL.no rfl (.gn rfl rfl rfl) rfl ?_
                refine TL.no rfl (.gn rfl rfl rfl) rfl ?_
                refine TL.no rfl (.gn rfl rfl rfl) rfl ?_
                refine TL.q rfl .u (Ex.py rfl rfl rfl) rfl ?_
                refine TL.run ft_cursitorref11_ok [61] rfl rfl ?_
                refine TL.no rfl (.gn rfl rfl rfl) rfl ?_
                refine TL.no rfl (.gn rfl rfl rfl) rfl ?_
                refine TL.no rfl (.gn rfl rfl rfl) rfl ?_
                refine TL.no rfl (.gn rfl rfl rfl) rfl ?_
                refine TL.no rfl (.gn rfl rfl rfl) rfl ?_
                refine TL.q rfl .u (Ex.py rfl rfl rfl) rfl ?_
                refine TL.run ft_cursitorref11_ok [68] rfl rfl ?_
                refine TL.no rfl (.gn rfl rfl rfl) rfl ?_
                refine TL.no rfl (.gn rfl rfl rfl) rfl ?_
                refine TL.no rfl (.gn rfl rfl rfl) rfl ?_
                refine TL.no rfl (.gn rfl rfl rfl) rfl ?_
                refine TL.no rfl (.gn rfl rfl rfl) rfl ?_
                refine TL.q rfl .u (Ex.py rfl rfl rfl) rfl ?_
                refine TL.run ft_cursitorref11_ok [75] rfl rfl ?_
                refine TL.no rfl (.gn rfl rfl rfl) rfl ?_
                refine TL.no rfl (.gn rfl rfl rfl) rfl ?_
                refine TL.no rfl (.gn rfl rfl rfl) rfl ?_
                refine TL.no rfl (.gn rfl rfl rfl) rfl ?_
                refine TL.no rfl (.gn rfl rfl rfl) rfl ?_
                refine TL.no rfl (.gn rfl rfl rfl) rfl ?_
                refine TL.no rfl (.gn rfl rfl rfl) rfl ?_
                refine TL.q rfl .u (Ex.py rfl rfl rfl) rfl ?_
                cases h
                exact TL.nil (X.jq [0, 0, 0] ⟨rfl, rfl⟩ (by rfl) (by rfl))
            · replace h := ifF c24 h
              replace c24 := eq_false_of_ne_true c24
              refine TL.run ft_cursitorref11_ok [33] rfl rfl ?_
              refine TL.no rfl (.gn rfl rfl (bn_t c24)) rfl ?_
              refine TL.no rfl (.gn rfl rfl (bn_t c24)) rfl ?_
              refine TL.no rfl (.gn rfl rfl (bn_t c24)) rfl ?_
              refine TL.no rfl (.gn rfl rfl (bn_t c24)) rfl ?_
              refine TL.no rfl (.gn rfl rfl (bn_t c24)) rfl ?_
              refine TL.q rfl .u (Ex.py rfl (bn_t c24) rfl) rfl ?_
              refine TL.run ft_cursitorref11_ok [40] rfl rfl ?_
              refine TL.no rfl (.gn rfl rfl rfl) rfl ?_
              refine TL.no rfl (.gn rfl rfl rfl) rfl ?_
              refine TL.no rfl (.gn rfl rfl rfl) rfl ?_
              refine TL.no rfl (.gn rfl rfl rfl) rfl ?_
              refine TL.no rfl (.gn rfl rfl rfl) rfl ?_
              refine TL.q rfl .u (Ex.py rfl rfl rfl) rfl ?_
              refine TL.run ft_cursitorref11_ok [47] rfl rfl ?_
              refine TL.no rfl (.gn rfl rfl rfl) rfl ?_
              refine TL.no rfl (.gn rfl rfl rfl) rfl ?_
              refine TL.no rfl (.gn rfl rfl rfl) rfl ?_
              refine TL.no rfl (.gn rfl rfl rfl) rfl ?_
              refine TL.no rfl (.gn rfl rfl rfl) rfl ?_
              refine TL.q rfl .u (Ex.py rfl rfl rfl) rfl ?_
              refine TL.run ft_cursitorref11_ok [54] rfl rfl ?_
              refine TL.no rfl (.gn rfl rfl rfl) rfl ?_
              refine TL.no rfl (.gn rfl rfl rfl) rfl ?_
              refine TL.no rfl (.gn rfl rfl rfl) rfl ?_
              refine TL.no rfl (.gn rfl rfl rfl) rfl ?_
              refine TL.no rfl (.gn rfl rfl rfl) rfl ?_
              refine TL.q rfl .u (Ex.py rfl rfl rfl) rfl ?_
              refine TL.run ft_cursitorref11_ok [61] rfl rfl ?_
              refine TL.no rfl (.gn rfl rfl rfl) rfl ?_
              refine TL.no rfl (.gn rfl rfl rfl) rfl ?_
              refine TL.no rfl (.gn rfl rfl rfl) rfl ?_
              refine TL.no rfl (.gn rfl rfl rfl) rfl ?_
              refine TL.no rfl (.gn rfl rfl rfl) rfl ?_
              refine TL.q rfl .u (Ex.py rfl rfl rfl) rfl ?_
              refine TL.run ft_cursitorref11_ok [68] rfl rfl ?_
              refine TL.no rfl (.gn rfl rfl rfl) rfl ?_
              refine TL.no rfl (.gn rfl rfl rfl) rfl ?_
              refine TL.no rfl (.gn rfl rfl rfl) rfl ?_
              refine TL.no rfl (.gn rfl rfl rfl) rfl ?_
              refine TL.no rfl (.gn rfl rfl rfl) rfl ?_
              refine TL.q rfl .u (Ex.py rfl rfl rfl) rfl ?_
              refine TL.run ft_cursitorref11_ok [75] rfl rfl ?_
              refine TL.no rfl (.gn rfl rfl rfl) rfl ?_
              refine TL.no rfl (.gn rfl rfl rfl) rfl ?_
              refine TL.no rfl (.gn rfl rfl rfl) rfl ?_
              refine TL.no rfl (.gn rfl rfl rfl) rfl ?_
              refine TL.no rfl (.gn rfl rfl rfl) rfl ?_
              refine TL.no rfl (.gn rfl rfl rfl) rfl ?_
              refine TL.no rfl (.gn rfl rfl rfl) rfl ?_
              refine TL.q rfl .u (Ex.py rfl rfl rfl) rfl ?_
              cases h
              exact TL.nil (X.jq [0, 0, 0] ⟨rfl, rfl⟩ (by rfl) (by rfl))
          · replace h := ifF c23 h
            replace c23 := eq_false_of_ne_true c23
            refine TL.run ft_cursitorref11_ok [26] rfl rfl ?_
            refine TL.no rfl (.gn rfl rfl (bn_t c23)) rfl ?_
            refine TL.no rfl (.gn rfl rfl (bn_t c23)) rfl ?_
            refine TL.no rfl (.gn rfl rfl (bn_t c23)) rfl ?_
            refine TL.no rfl (.gn rfl rfl (bn_t c23)) rfl ?_
            refine TL.no rfl (.gn rfl rfl (bn_t c23)) rfl ?_
            refine TL.q rfl .u (Ex.py rfl (bn_t c23) rfl) rfl ?_
            refine TL.run ft_cursitorref11_ok [33] rfl rfl ?_
            refine TL.no rfl (.gn rfl rfl rfl) rfl ?_
            refine TL.no rfl (.gn rfl rfl rfl) rfl ?_
            refine TL.no rfl (.gn rfl rfl rfl) rfl ?_
            refine TL.no rfl (.gn rfl rfl rfl) rfl ?_
            refine TL.no rfl (.gn rfl rfl rfl) rfl ?_
            refine TL.q rfl .u (Ex.py rfl rfl rfl) rfl ?_
            refine TL.run ft_cursitorref11_ok [40] rfl rfl ?_
            refine TL.no rfl (.gn rfl rfl rfl) rfl ?_
            refine TL.no rfl (.gn rfl rfl rfl) rfl ?_
            refine TL.no rfl (.gn rfl rfl rfl) rfl ?_
            refine TL.no rfl (.gn rfl rfl rfl) rfl ?_
            refine TL.no rfl (.gn rfl rfl rfl) rfl ?_
            refine TL.q rfl .u (Ex.py rfl rfl rfl) rfl ?_
            refine TL.run ft_cursitorref11_ok [47] rfl rfl ?_
            refine TL.no rfl (.gn rfl rfl rfl) rfl ?_
            refine TL.no rfl (.gn rfl rfl rfl) rfl ?_
            refine TL.no rfl (.gn rfl rfl rfl) rfl ?_
            refine TL.no rfl (.gn rfl rfl rfl) rfl ?_
            refine TL.no rfl (.gn rfl rfl rfl) rfl ?_
            refine TL.q rfl .u (Ex.py rfl rfl rfl) rfl ?_
            refine TL.run ft_cursitorref11_ok [54] rfl rfl ?_
            refine TL.no rfl (.gn rfl rfl rfl) rfl ?_
            refine TL.no rfl (.gn rfl rfl rfl) rfl ?_
            refine TL.no rfl (.gn rfl rfl rfl) rfl ?_
            refine TL.no rfl (.gn rfl rfl rfl) rfl ?_
            refine TL.no rfl (.gn rfl rfl rfl) rfl ?_
            refine TL.q rfl .u (Ex.py rfl rfl rfl) rfl ?_
            refine TL.run ft_cursitorref11_ok [61] rfl rfl ?_
            refine TL.no rfl (.gn rfl rfl rfl) rfl ?_
            refine TL.no rfl (.gn rfl rfl rfl) rfl ?_
            refine TL.no rfl (.gn rfl rfl rfl) rfl ?_
            refine TL.no rfl (.gn rfl rfl rfl) rfl ?_
            refine TL.no rfl (.gn rfl rfl rfl) rfl ?_
            refine TL.q rfl .u (Ex.py rfl rfl rfl) rfl ?_
            refine TL.run ft_cursitorref11_ok [68] rfl rfl ?_
            refine TL.no rfl (.gn rfl rfl rfl) rfl ?_
            refine TL.no rfl (.gn rfl rfl rfl) rfl ?_
            refine TL.no rfl (.gn rfl rfl rfl) rfl ?_
            refine TL.no rfl (.gn rfl rfl rfl) rfl ?_
            refine TL.no rfl (.gn rfl rfl rfl) rfl ?_
            refine TL.q rfl .u (Ex.py rfl rfl rfl) rfl ?_
            refine TL.run ft_cursitorref11_ok [75] rfl rfl ?_
            refine TL.no rfl (.gn rfl rfl rfl) rfl ?_
            refine TL.no rfl (.gn rfl rfl rfl) rfl ?_
            refine TL.no rfl (.gn rfl rfl rfl) rfl ?_
            refine TL.no rfl (.gn rfl rfl rfl) rfl ?_
            refine TL.no rfl (.gn rfl rfl rfl) rfl ?_
            refine TL.no rfl (.gn rfl rfl rfl) rfl ?_
            refine TL.no rfl (.gn rfl rfl rfl) rfl ?_
            refine TL.q rfl .u (Ex.py rfl rfl rfl) rfl ?_
            cases h
            exact TL.nil (X.jq [0, 0, 0] ⟨rfl, rfl⟩ (by rfl) (by rfl))
        · replace h := ifF c22 h
          replace c22 := eq_false_of_ne_true c22
          refine TL.run ft_cursitorref11_ok [19] rfl rfl ?_
          refine TL.no rfl (.gn rfl rfl (bn_t c22)) rfl ?_
          refine TL.no rfl (.gn rfl rfl (bn_t c22)) rfl ?_
          refine TL.no rfl (.gn rfl rfl (bn_t c22)) rfl ?_
          refine TL.no rfl (.gn rfl rfl (bn_t c22)) rfl ?_
          refine TL.no rfl (.gn rfl rfl (bn_t c22)) rfl ?_
          refine TL.q rfl .u (Ex.py rfl (bn_t c22) rfl) rfl ?_
          refine TL.run ft_cursitorref11_ok [26] rfl rfl ?_
          refine TL.no rfl (.gn rfl rfl rfl) rfl ?_
          refine TL.no rfl (.gn rfl rfl rfl) rfl ?_
          refine TL.no rfl (.gn rfl rfl rfl) rfl ?_
          refine TL.no rfl (.gn rfl rfl rfl) rfl ?_
          refine TL.no rfl (.gn rfl rfl rfl) rfl ?_
          refine TL.q rfl .u (Ex.py rfl rfl rfl) rfl ?_
          refine TL.run ft_cursitorref11_ok [33] rfl rfl ?_
          refine TL.no rfl (.gn rfl rfl rfl) rfl ?_
          refine TL.no rfl (.gn rfl rfl rfl) rfl ?_
          refine TL.no rfl (.gn rfl rfl rfl) rfl ?_
          refine TL.no rfl (.gn rfl rfl rfl) rfl ?_
          refine TL.no rfl (.gn rfl rfl rfl) rfl ?_
          refine TL.q rfl .u (Ex.py rfl rfl rfl) rfl ?_
          refine TL.run ft_cursitorref11_ok [40] rfl rfl ?_
          refine TL.no rfl (.gn rfl rfl rfl) rfl ?_
          refine TL.no rfl (.gn rfl rfl rfl) rfl ?_
          refine TL.no rfl (.gn rfl rfl rfl) rfl ?_
          refine TL.no rfl (.gn rfl rfl rfl) rfl ?_
          refine TL.no rfl (.gn rfl rfl rfl) rfl ?_
          refine TL.q rfl .u (Ex.py rfl rfl rfl) rfl ?_
          refine TL.run ft_cursitorref11_ok [47] rfl rfl ?_
          refine TL.no rfl (.gn rfl rfl rfl) rfl ?_
          refine TL.no rfl (.gn rfl rfl rfl) rfl ?_
          refine TL.no rfl (.gn rfl rfl rfl) rfl ?_
          refine TL.no rfl (.gn rfl rfl rfl) rfl ?_
          refine TL.no rfl (.gn rfl rfl rfl) rfl ?_
          refine TL.q rfl .u (Ex.py rfl rfl rfl) rfl ?_
          refine TL.run ft_cursitorref11_ok [54] rfl rfl ?_
          refine TL.no rfl (.gn rfl rfl rfl) rfl ?_
          refine TL.no rfl (.gn rfl rfl rfl) rfl ?_
          refine TL.no rfl (.gn rfl rfl rfl) rfl ?_
          refine TL.no rfl (.gn rfl rfl rfl) rfl ?_
          refine TL.no rfl (.gn rfl rfl rfl) rfl ?_
          refine TL.q rfl .u (Ex.py rfl rfl rfl) rfl ?_
          refine TL.run ft_cursitorref11_ok [61] rfl rfl ?_
          refine TL.no rfl (.gn rfl rfl rfl) rfl ?_
          refine TL.no rfl (.gn rfl rfl rfl) rfl ?_
          refine TL.no rfl (.gn rfl rfl rfl) rfl ?_
          refine TL.no rfl (.gn rfl rfl rfl) rfl ?_
          refine TL.no rfl (.gn rfl rfl rfl) rfl ?_
          refine TL.q rfl .u (Ex.py rfl rfl rfl) rfl ?_
          refine TL.run ft_cursitorref11_ok [68] rfl rfl ?_
          refine TL.no rfl (.gn rfl rfl rfl) rfl ?_
          refine TL.no rfl (.gn rfl rfl rfl) rfl ?_
          refine TL.no rfl (.gn rfl rfl rfl) rfl ?_
          refine TL.no rfl (.gn rfl rfl rfl) rfl ?_
          refine TL.no rfl (.gn rfl rfl rfl) rfl ?_
          refine TL.q rfl .u (Ex.py rfl rfl rfl) rfl ?_
          refine TL.run ft_cursitorref11_ok [75] rfl rfl ?_
          refine TL.no rfl (.gn rfl rfl rfl) rfl ?_
          refine TL.no rfl (.gn rfl rfl rfl) rfl ?_
          refine TL.no rfl (.gn rfl rfl rfl) rfl ?_
          refine TL.no rfl (.gn rfl rfl rfl) rfl ?_
          refine TL.no rfl (.gn rfl rfl rfl) rfl ?_
          refine TL.no rfl (.gn rfl rfl rfl) rfl ?_
          refine TL.no rfl (.gn rfl rfl rfl) rfl ?_
          refine TL.q rfl .u (Ex.py rfl rfl rfl) rfl ?_
          cases h
          exact TL.nil (X.jq [0, 0, 0] ⟨rfl, rfl⟩ (by rfl) (by rfl))
      · replace h := ifF c21 h
        refine TL.run ft_cursitorref11_ok [12] rfl rfl ?_
        refine TL.no rfl (.gn rfl rfl (bn_t (decide_eq_false c21))) rfl ?_
        refine TL.no rfl (.gn rfl rfl (bn_t (decide_eq_false c21))) rfl ?_
        refine TL.no rfl (.gn rfl rfl (bn_t (decide_eq_false c21))) rfl ?_
        refine TL.no rfl (.gn rfl rfl (bn_t (decide_eq_false c21))) rfl ?_
        refine TL.no rfl (.gn rfl rfl (bn_t (decide_eq_false c21))) rfl ?_
        refine TL.q rfl .u (Ex.py rfl (bn_t (decide_eq_false c21)) rfl) rfl ?_
        refine TL.run ft_cursitorref11_ok [19] rfl rfl ?_
        refine TL.no rfl (.gn rfl rfl rfl) rfl ?_
        refine TL.no rfl (.gn rfl rfl rfl) rfl ?_
        refine TL.no rfl (.gn rfl rfl rfl) rfl ?_
        refine TL.no rfl (.gn rfl rfl rfl) rfl ?_
        refine TL.no rfl (.gn rfl rfl rfl) rfl ?_
        refine TL.q rfl .u (Ex.py rfl rfl rfl) rfl ?_
        refine TL.run ft_cursitorref11_ok [26] rfl rfl ?_
        refine TL.no rfl (.gn rfl rfl rfl) rfl ?_
        refine TL.no rfl (.gn rfl rfl rfl) rfl ?_
        refine TL.no rfl (.gn rfl rfl rfl) rfl ?_
        refine TL.no rfl (.gn rfl rfl rfl) rfl ?_
        refine TL.no rfl (.gn rfl rfl rfl) rfl ?_
        refine TL.q rfl .u (Ex.py rfl rfl rfl) rfl ?_
        refine TL.run ft_cursitorref11_ok [33] rfl rfl ?_
        refine TL.no rfl (.gn rfl rfl rfl) rfl ?_
        refine TL.no rfl (.gn rfl rfl rfl) rfl ?_
        refine TL.no rfl (.gn rfl rfl rfl) rfl ?_
        refine TL.no rfl (.gn rfl rfl rfl) rfl ?_
        refine TL.no rfl (.gn rfl rfl rfl) rfl ?_
        refine TL.q rfl .u (Ex.py rfl rfl rfl) rfl ?_
        refine TL.run ft_cursitorref11_ok [40] rfl rfl ?_
        refine TL.no rfl (.gn rfl rfl rfl) rfl ?_
        refine TL.no rfl (.gn rfl rfl rfl) rfl ?_
        refine TL.no rfl (.gn rfl rfl rfl) rfl ?_
        refine TL.no rfl (.gn rfl rfl rfl) rfl ?_
        refine TL.no rfl (.gn rfl rfl rfl) rfl ?_
        refine TL.q rfl .u (Ex.py rfl rfl rfl) rfl ?_
        refine TL.run ft_cursitorref11_ok [47] rfl rfl ?_
        refine TL.no rfl (.gn rfl rfl rfl) rfl ?_
        refine TL.no rfl (.gn rfl rfl rfl) rfl ?_
        refine TL.no rfl (.gn rfl rfl rfl) rfl ?_
        refine TL.no rfl (.gn rfl rfl rfl) rfl ?_
        refine TL.no rfl (.gn rfl rfl rfl) rfl ?_
        refine TL.q rfl .u (Ex.py rfl rfl rfl) rfl ?_
        refine TL.run ft_cursitorref11_ok [54] rfl rfl ?_
        refine TL.no rfl (.gn rfl rfl rfl) rfl ?_
        refine TL.no rfl (.gn rfl rfl rfl) rfl ?_
        refine TL.no rfl (.gn rfl rfl rfl) rfl ?_
        refine TL.no rfl (.gn rfl rfl rfl) rfl ?_
        refine TL.no rfl (.gn rfl rfl rfl) rfl ?_
        refine TL.q rfl .u (Ex.py rfl rfl rfl) rfl ?_
        refine TL.run ft_cursitorref11_ok [61] rfl rfl ?_
        refine TL.no rfl (.gn rfl rfl rfl) rfl ?_
        refine TL.no rfl (.gn rfl rfl rfl) rfl ?_
        refine TL.no rfl (.gn rfl rfl rfl) rfl ?_
        refine TL.no rfl (.gn rfl rfl rfl) rfl ?_
        refine TL.no rfl (.gn rfl rfl rfl) rfl ?_
        refine TL.q rfl .u (Ex.py rfl rfl rfl) rfl ?_
        refine TL.run ft_cursitorref11_ok [68] rfl rfl ?_
        refine TL.no rfl (.gn rfl rfl rfl) rfl ?_
        refine TL.no rfl (.gn rfl rfl rfl) rfl ?_
        refine TL.no rfl (.gn rfl rfl rfl) rfl ?_
        refine TL.no rfl (.gn rfl rfl rfl) rfl ?_
        refine TL.no rfl (.gn rfl rfl rfl) rfl ?_
        refine TL.q rfl .u (Ex.py rfl rfl rfl) rfl ?_
        refine TL.run ft_cursitorref11_ok [75] rfl rfl ?_
        refine TL.no rfl (.gn rfl rfl rfl) rfl ?_
        refine TL.no rfl (.gn rfl rfl rfl) rfl ?_
        refine TL.no rfl (.gn rfl rfl rfl) rfl ?_
        refine TL.no rfl (.gn rfl rfl rfl) rfl ?_
        refine TL.no rfl (.gn rfl rfl rfl) rfl ?_
        refine TL.no rfl (.gn rfl rfl rfl) rfl ?_
        refine TL.no rfl (.gn rfl rfl rfl) rfl ?_
        refine TL.q rfl .u (Ex.py rfl rfl rfl) rfl ?_
        cases h
        exact TL.nil (X.jq [0, 0, 0] ⟨rfl, rfl⟩ (by rfl) (by rfl))
    · replace h := ifF c20 h
      refine TL.run ft_cursitorref11_ok [4, 5] rfl rfl ?_
      refine TL.no rfl (.gn rfl rfl (bn_t (decide_eq_false c20))) rfl ?_
      refine TL.no rfl (.gn rfl rfl (bn_t (decide_eq_false c20))) rfl ?_
      refine TL.no rfl (.gn rfl rfl (bn_t (decide_eq_false c20))) rfl ?_
      refine TL.no rfl (.gn rfl rfl (bn_t (decide_eq_false c20))) rfl ?_
      refine TL.no rfl (.gn rfl rfl (bn_t (decide_eq_false c20))) rfl ?_
      refine TL.q rfl .u (Ex.py rfl (bn_t (decide_eq_false c20)) rfl) rfl ?_
      refine TL.run ft_cursitorref11_ok [12] rfl rfl ?_
      refine TL.no rfl (.gn rfl rfl rfl) rfl ?_
      refine TL.no rfl (.gn rfl rfl rfl) rfl ?_
      refine TL.no rfl (.gn rfl rfl rfl) rfl ?_
      refine TL.no rfl (.gn rfl rfl rfl) rfl ?_
      refine TL.no rfl (.gn rfl rfl rfl) rfl ?_
      refine TL.q rfl .u (Ex.py rfl rfl rfl) rfl ?_
      refine TL.run ft_cursitorref11_ok [19] rfl rfl ?_
      refine TL.no rfl (.gn rfl rfl rfl) rfl ?_
      refine TL.no rfl (.gn rfl rfl rfl) rfl ?_
      refine TL.no rfl (.gn rfl rfl rfl) rfl ?_
      refine TL.no rfl (.gn rfl rfl rfl) rfl ?_
      refine TL.no rfl (.gn rfl rfl rfl) rfl ?_
      refine TL.q rfl .u (Ex.py rfl rfl rfl) rfl ?_
      refine TL.run ft_cursitorref11_ok [26] rfl rfl ?_
      refine TL.no rfl (.gn rfl rfl rfl) rfl ?_
      refine TL.no rfl (.gn rfl rfl rfl) rfl ?_
      refine TL.no rfl (.gn rfl rfl rfl) rfl ?_
      refine TL.no rfl (.gn rfl rfl rfl) rfl ?_
      refine TL.no rfl (.gn rfl rfl rfl) rfl ?_
      refine TL.q rfl .u (Ex.py rfl rfl rfl) rfl ?_
      refine TL.run ft_cursitorref11_ok [33] rfl rfl ?_
      refine TL.no rfl (.gn rfl rfl rfl) rfl ?_
      refine TL.no rfl (.gn rfl rfl rfl) rfl ?_
      refine TL.no rfl (.gn rfl rfl rfl) rfl ?_
      refine TL.no rfl (.gn rfl rfl rfl) rfl ?_
      refine TL.no rfl (.gn rfl rfl rfl) rfl ?_
      refine TL.q rfl .u (Ex.py rfl rfl rfl) rfl ?_
      refine TL.run ft_cursitorref11_ok [40] rfl rfl ?_
      refine TL.no rfl (.gn rfl rfl rfl) rfl ?_
      refine TL.no rfl (.gn rfl rfl rfl) rfl ?_
      refine TL.no rfl (.gn rfl rfl rfl) rfl ?_
      refine TL.no rfl (.gn rfl rfl rfl) rfl ?_
      refine TL.no rfl (.gn rfl rfl rfl) rfl ?_
      refine TL.q rfl .u (Ex.py rfl rfl rfl) rfl ?_
      refine TL.run ft_cursitorref11_ok [47] rfl rfl ?_
      refine TL.no rfl (.gn rfl rfl rfl) rfl ?_
      refine TL.no rfl (.gn rfl rfl rfl) rfl ?_
      refine TL.no rfl (.gn rfl rfl rfl) rfl ?_
      refine TL.no rfl (.gn rfl rfl rfl) rfl ?_
      refine TL.no rfl (.gn rfl rfl rfl) rfl ?_
      refine TL.q rfl .u (Ex.py rfl rfl rfl) rfl ?_
      refine TL.run ft_cursitorref11_ok [54] rfl rfl ?_
      refine TL.no rfl (.gn rfl rfl rfl) rfl ?_
      refine TL.no rfl (.gn rfl rfl rfl) rfl ?_
      refine TL.no rfl (.gn rfl rfl rfl) rfl ?_
      refine TL.no rfl (.gn rfl rfl rfl) rfl ?_
      refine TL.no rfl (.gn rfl rfl rfl) rfl ?_
      refine TL.q rfl .u (Ex.py rfl rfl rfl) rfl ?_
      refine TL.run ft_cursitorref11_ok [61] rfl rfl ?_
      refine TL.no rfl (.gn rfl rfl rfl) rfl ?_
      refine TL.no rfl (.gn rfl rfl rfl) rfl ?_
      refine TL.no rfl (.gn rfl rfl rfl) rfl ?_
      refine TL.no rfl (.gn rfl rfl rfl) rfl ?_
      refine TL.no rfl (.gn rfl rfl rfl) rfl ?_
      refine TL.q rfl .u (Ex.py rfl rfl rfl) rfl ?_
      refine TL.run ft_cursitorref11_ok [68] rfl rfl ?_
      refine TL.no rfl (.gn rfl rfl rfl) rfl ?_
      refine TL.no rfl (.gn rfl rfl rfl) rfl ?_
      refine TL.no rfl (.gn rfl rfl rfl) rfl ?_
      refine TL.no rfl (.gn rfl rfl rfl) rfl ?_
      refine TL.no rfl (.gn rfl rfl rfl) rfl ?_
      refine TL.q rfl .u (Ex.py rfl rfl rfl) rfl ?_
      refine TL.run ft_cursitorref11_ok [75] rfl rfl ?_
      refine TL.no rfl (.gn rfl rfl rfl) rfl ?_
      refine TL.no rfl (.gn rfl rfl rfl) rfl ?_
      refine TL.no rfl (.gn rfl rfl rfl) rfl ?_
      refine TL.no rfl (.gn rfl rfl rfl) rfl ?_
      refine TL.no rfl (.gn rfl rfl rfl) rfl ?_
      refine TL.no rfl (.gn rfl rfl rfl) rfl ?_
      refine TL.no rfl (.gn rfl rfl rfl) rfl ?_
      refine TL.q rfl .u (Ex.py rfl rfl rfl) rfl ?_
      cases h
      exact TL.nil (X.jq [0, 0, 0] ⟨rfl, rfl⟩ (by rfl) (by rfl))
  · rintro _ _ ⟨rfl, rfl⟩
    clear h
    have h := hk19
    clear hk19
    try dsimp only at h
    by_cases c32 : y18 = true
    · replace h := ifT c32 h
      refine X.seq ?_
      refine T.yes rfl c32 ?_
      refine T.seq (T.region rfl ?_)
      refine TL.run ft_cursitorref11_ok [0] rfl rfl ?_
      obtain rfl := Option.some.inj h
      exact TL.nil (X.seq (T.ret (X.rs (X.done1 [2] Try.results17 (RV.tm rfl) ⟨rfl, rfl, rfl⟩ (by rfl) (.inl rfl)))))
    · replace h := ifF c32 h
      replace c32 := eq_false_of_ne_true c32
      refine X.seq ?_
      refine T.no rfl c32 ?_
      refine T.skip (X.seq (T.seq (T.seq (T.region rfl ?_))))
      refine TL.run ft_cursitorref11_ok [0] rfl rfl ?_
      refine TL.nil (X.seq (T.block ?_))
      obtain ⟨E35, hE36, hO37⟩ := Option.bind_eq_some_iff.1 h
      refine T.lp (fun m e Rs => ∃ (y33 : Bool) (k34 : Nat), e = [(2, .pointer (some ⟨b5, 0, none⟩)), (3, .pointer (some ⟨b6, 0, none⟩)), (4, .bool y33), (5, .int .i64 (k34 : Int))] ∧ Rs = [BlkR b6 25 #[.int .i64 a1.fBase, .int .i64 a1.fLeader, .bool a1.fAppend, .bool a1.fTxn, .bool a1.fControl, .int .i64 a1.fLast, .int .i64 a1.fFirst, .int .i64 a1.fMax, .int .i64 a1.fProducer, .int .i64 a1.fEpoch, .int .i64 a1.fSequence, .slice A3 a1.fRecords.length c4], BlkR b5 25 #[.int .i64 a0.fBase, .int .i64 a0.fLeader, .bool a0.fAppend, .bool a0.fTxn, .bool a0.fControl, .int .i64 a0.fLast, .int .i64 a0.fFirst, .int .i64 a0.fMax, .int .i64 a0.fProducer, .int .i64 a0.fEpoch, .int .i64 a0.fSequence, .slice A1 a0.fRecords.length c2], EmpR] ∧ f_r11_Same_l1 a0 a1 m y33 k34 = some E35) (((a0.fRecords.length : Int)).toNat + 1) [0, 0, 0] ⟨false, 0, rfl, rfl, by exact hE36⟩ (by rfl) (by rfl) ?_
      rintro m38 _ _ ⟨y33, k34, rfl, rfl, hl40⟩
      clear hE36 h
      cases m38 with
      | zero =>
        rw [f_r11_Same_l1] at hl40
        cases hl40
      | succ m38 =>
        have h := hl40
        clear hl40
        rw [f_r11_Same_l1] at h
        refine T.seq (T.seq (T.region rfl ?_))
        refine TL.run ft_cursitorref11_ok [0, 1] rfl rfl ?_
        refine TL.q rfl .u (Ex.b1 1 rfl Try.isAgg23 rfl rfl) rfl ?_
        refine TL.q rfl .u (Ex.lenS rfl Try.runUnderlying23) rfl ?_
        refine TL.run ft_cursitorref11_ok [4] rfl rfl ?_
        by_cases c42 : (k34 : Int) < (a0.fRecords.length : Int)
        · replace h := ifT c42 h
          refine TL.nil (X.seq ?_)
          refine T.yes rfl (decide_eq_true c42) ?_
          refine T.skip (X.seq (T.seq (T.block (T.seq (T.draw (.q 0 (.q 1 (.q 2 (.q 3 (.q 4 (.q 5 (.q 6 (.q 7 (.q 8 (.q 9 (.e 10 (.q 11 .nil)))))))))))) [0, 0, 0] rfl mix_cursitorref11 (NoP.seq (NoP.blk (NoP.seq (NoP.seq (NoP.blk (NoP.seq np_post)))))) (by kernel_rfl) ?_)))))
          refine TD.run ft_cursitorref11_ok [0] rfl rfl ?_
          refine TD.q rfl .u (Ex.b1 1 rfl Try.isAgg23 rfl rfl) rfl ?_
          obtain ⟨x43, hx44, h⟩ := Option.bind_eq_some_iff.1 h
          obtain ⟨gz45, oz45, rfl, z45cs, z45cl, z45cc, z45nf, z45r⟩ := RX.elem (by decide) (RX.reads_left hX) hx44
          obtain ⟨z45S, z45r, z45rr⟩ := z45r
          obtain ⟨A46, c47, rfl, z45s0⟩ := z45r
          have hX48 : (RX.of (sliceRd 3 Hd_rd) [.slice A46 x43.fHeaders.length c47] x43.fHeaders).reads w F := ⟨z45S, z45s0, z45rr⟩
          refine TD.run ft_cursitorref11_ok [2] rfl rfl ?_
          refine TD.q rfl .u (Ex.ixS (k := k34) rfl rfl rfl Try.runUnderlying23 Try.sizeOf33 (List.getElem?_eq_some_iff.1 hx44).1) rfl ?_
          refine TD.q rfl .u (Ex.oS (us := [.int .i64 x43.fTime, .int .i64 x43.fOffset, .bool x43.fKey.null, .string (bsOf x43.fKey.data), .bool x43.fValue.null, .string (bsOf x43.fValue.data), .slice A46 x43.fHeaders.length c47]) 0 rfl Try.isAgg33 Try.sizeOf33 z45nf z45cc rfl rfl rfl) rfl ?_
          refine TD.run ft_cursitorref11_ok [5] rfl rfl ?_
          refine TD.q rfl .u (Ex.b1 0 rfl Try.isAgg23 rfl rfl) rfl ?_
          obtain ⟨x49, hx50, h⟩ := Option.bind_eq_some_iff.1 h
          obtain ⟨gz51, oz51, rfl, z51cs, z51cl, z51cc, z51nf, z51r⟩ := RX.elem (by decide) (RX.reads_right hX) hx50
          obtain ⟨z51S, z51r, z51rr⟩ := z51r
          obtain ⟨A52, c53, rfl, z51s0⟩ := z51r
          have hX54 : (RX.of (sliceRd 3 Hd_rd) [.slice A52 x49.fHeaders.length c53] x49.fHeaders).reads w F := ⟨z51S, z51s0, z51rr⟩
          refine TD.run ft_cursitorref11_ok [7] rfl rfl ?_
          refine TD.q rfl .u (Ex.ixS (k := k34) rfl rfl rfl Try.runUnderlying23 Try.sizeOf33 (List.getElem?_eq_some_iff.1 hx50).1) rfl ?_
          refine TD.q rfl .u (Ex.oS (us := [.int .i64 x49.fTime, .int .i64 x49.fOffset, .bool x49.fKey.null, .string (bsOf x49.fKey.data), .bool x49.fValue.null, .string (bsOf x49.fValue.data), .slice A52 x49.fHeaders.length c53]) 0 rfl Try.isAgg33 Try.sizeOf33 z51nf z51cc rfl rfl rfl) rfl ?_
          obtain ⟨x55, hx56, h⟩ := Option.bind_eq_some_iff.1 h
          refine TD.ce rfl .u (.fn Try.call54 rfl) (f_r07_Same_spec x43 _ _ x49 _ _ _ hx56) (fun _ hs => (RX.reads_and (SrcE.old hs hX48) (SrcE.old hs hX54))) rfl [0, 0, 0] (rfl) ?_
          refine TD.run ft_cursitorref11_ok [11] rfl rfl ?_
          by_cases c57 : x55 = true
          · replace h := ifT c57 h
            refine TD.nil (X.seq ?_)
            refine T.no rfl (bn_f c57) ?_
            refine T.skip (X.blk (X.seq (T.region rfl ?_)))
            replace h := guard_some h
            obtain ⟨c58, h⟩ := h
            refine TL.run ft_cursitorref11_ok [0] rfl rfl ?_
            refine TL.q rfl .u (Ex.add rfl rfl c58) rfl ?_
            refine TL.run ft_cursitorref11_ok [2] rfl rfl ?_
            exact TL.nil (X.back (m' := m38) [0, 0, 0] (by omega) ⟨y33, k34 + 1, rfl, rfl, h⟩ (by rfl) (by rfl))
          · replace h := ifF c57 h
            replace c57 := eq_false_of_ne_true c57
            refine TD.nil (X.seq ?_)
            refine T.yes rfl (bn_t c57) ?_
            refine T.seq (T.region rfl ?_)
            refine TL.run ft_cursitorref11_ok [0] rfl rfl ?_
            obtain rfl := Option.some.inj h
            replace h := hO37
            clear hO37
            try dsimp only at h
            obtain rfl := Option.some.inj h
            exact TL.nil (X.seq (T.ret (X.rb (X.rs (X.rs (X.rb (X.rs (X.done1 [2] Try.results17 (RV.tm rfl) ⟨rfl, rfl, rfl⟩ (by rfl) (.inl rfl)))))))))
        · replace h := ifF c42 h
          refine TL.nil (X.seq ?_)
          refine T.no rfl (decide_eq_false c42) ?_
          obtain rfl := Option.some.inj h
          replace h := hO37
          clear hO37
          try dsimp only at h
          refine T.exit (X.exs (X.exs (X.ex (X.seq (T.seq (T.region rfl ?_))))))
          refine TL.run ft_cursitorref11_ok [0] rfl rfl ?_
          obtain rfl := Option.some.inj h
          exact TL.nil (X.seq (T.ret (X.done1 [2] Try.results17 (RV.tm rfl) ⟨rfl, rfl, rfl⟩ (by rfl) (.inl rfl))))
end Go.Proofs.Ytcoppaggpbfcmaa.Sl
