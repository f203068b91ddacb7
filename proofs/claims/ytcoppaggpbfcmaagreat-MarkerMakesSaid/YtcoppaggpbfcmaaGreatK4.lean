/- markerMakes_holds: part 4. -/
import Derived.Test.YtcoppaggpbfcmaaGreatK3
namespace Go.Proofs.YtcoppaggpbfcmaaGreat.Sl
open Go.RowKit
set_option linter.unusedVariables false
set_option linter.unusedSimpArgs false
set_option maxRecDepth 100000
def ft_cursitorref05 : FTab := []
theorem ft_cursitorref05_ok : (ft_cursitorref05).OK Tryz.prog := trivial
theorem mix_cursitorref05 : Tryz.prog.follows .mixedOrders = true := by kernel_rfl
theorem sok_cursitorref05_106_17 : SOK Tryz.prog 106 3 17 1 #[.int .i64 0, .int .i64 0, .int .i64 0, .int .i64 0, .int .i64 0, .int .i64 0, .int .i64 0, .int .i64 0, .int .i64 0, .int .i64 0, .int .i64 0, .int .i64 0, .int .i64 0, .int .i64 0, .int .i64 0, .int .i64 0, .int .i64 0] := SOK.mk Tryz.runUnderlying106 Tryz.sizeOf3 Tryz.zeroValue3 (by decide) (by kernel_rfl)
theorem inf_cursitorref05_3 : (Tryz.prog.info? 3).map (fun i => (i.zero, i.size, i.bytes)) = some (some (.int .i64 0), 1, 8) := by kernel_rfl
def f_r05_bit_l1 (a1 : Int) : Nat → Int → Nat → Option (Int × Nat)
  | 0, _, _ => none
  | m11 + 1, y6, k7 => if 0 ≤ a1 ∧ a1 ≤ 9223372036854775807 then (if (k7 : Int) < (a1 % 8) then (if 0 ≤ y6 ∧ y6 ≤ 9223372036854775807 then (if -9223372036854775808 ≤ ((k7 : Int) + 1) ∧ ((k7 : Int) + 1) ≤ 9223372036854775807 then (f_r05_bit_l1 a1 m11 (y6 / 2) (k7 + 1)) else none) else none) else some (y6, k7)) else none
def f_r05_bit (a0 : List UInt8) (a1 : Int) : Option (Int) := if 0 ≤ a1 ∧ a1 ≤ 9223372036854775807 then (if 0 ≤ (a1 / 8) then ((a0[(a1 / 8).toNat]?).bind fun ch3 => if -9223372036854775808 ≤ (ch3.toNat : Int) ∧ (ch3.toNat : Int) ≤ 9223372036854775807 then ((f_r05_bit_l1 a1 (((a1 % 8)).toNat + 1) (ch3.toNat : Int) 0).bind fun (y20, k21) => if 0 ≤ y20 ∧ y20 ≤ 9223372036854775807 then some (y20 % 2) else none) else none) else none) else none
set_option maxRecDepth 100000 in
set_option maxHeartbeats 4000000 in
theorem f_r05_bit_spec (a0 : List UInt8) (a1 : Int) (r : Int) (h : f_r05_bit a0 a1 = some r) : SpecX Tryz.prog 117 #[.string (bsOf a0), .int .i64 a1] .triv (EmpR) (fun v A' N => v = .int .i64 r ∧ A' = EmpR ∧ N = []) := by
  refine enterA Tryz.func117 rfl Tryz.ntmps117 rfl ?_
  intro F w hX
  unfold f_r05_bit at h
  refine T.seq (T.region rfl ?_)
  refine TL.run ft_cursitorref05_ok [0] rfl rfl ?_
  refine TL.nil (X.seq (T.seq (T.region rfl ?_)))
  replace h := guard_some h
  obtain ⟨c1, h⟩ := h
  refine TL.run ft_cursitorref05_ok [0, 1] rfl rfl ?_
  refine TL.q rfl .u (Ex.quo rfl rfl (by omega) c1) rfl ?_
  replace h := guard_some h
  obtain ⟨c2, h⟩ := h
  obtain ⟨ch3, hc4, h⟩ := Option.bind_eq_some_iff.1 h
  refine TL.q rfl .u (Ex.sIx rfl rfl ((Int.toNat_of_nonneg c2).symm) Tryz.underlying9 hc4) rfl ?_
  replace h := guard_some h
  obtain ⟨c5, h⟩ := h
  refine TL.q rfl .u (Ex.conv64 rfl Tryz.runUnderlying5 Tryz.runUnderlying3 c5) rfl ?_
  refine TL.run ft_cursitorref05_ok [5] rfl rfl ?_
  refine TL.nil (X.seq (T.seq (T.seq (T.region rfl ?_))))
  refine TL.run ft_cursitorref05_ok [0] rfl rfl ?_
  refine TL.nil (X.seq (T.block ?_))
  obtain ⟨E8, hE9, hO10⟩ := Option.bind_eq_some_iff.1 h
  refine T.lp (fun m e Rs => ∃ (y6 : Int) (k7 : Nat), e = [(1, .int .i64 a1), (4, .int .i64 0), (5, .int .i64 y6), (6, .int .i64 (k7 : Int))] ∧ Rs = [EmpR] ∧ f_r05_bit_l1 a1 m y6 k7 = some E8) (((a1 % 8)).toNat + 1) [0] ⟨(ch3.toNat : Int), 0, rfl, rfl, by exact hE9⟩ (by rfl) (by rfl) ?_
  rintro m11 _ _ ⟨y6, k7, rfl, rfl, hl13⟩
  clear hE9 h
  cases m11 with
  | zero =>
    rw [f_r05_bit_l1] at hl13
    cases hl13
  | succ m11 =>
    have h := hl13
    clear hl13
    rw [f_r05_bit_l1] at h
    refine T.seq (T.seq (T.region rfl ?_))
    replace h := guard_some h
    obtain ⟨c15, h⟩ := h
    refine TL.run ft_cursitorref05_ok [0, 1] rfl rfl ?_
    refine TL.q rfl .u (Ex.rem rfl rfl (by omega) c15) rfl ?_
    refine TL.run ft_cursitorref05_ok [3] rfl rfl ?_
    by_cases c16 : (k7 : Int) < (a1 % 8)
    · replace h := ifT c16 h
      refine TL.nil (X.seq ?_)
      refine T.yes rfl (decide_eq_true c16) ?_
      refine T.skip (X.seq (T.seq (T.block (T.region rfl ?_))))
      replace h := guard_some h
      obtain ⟨c17, h⟩ := h
      refine TL.run ft_cursitorref05_ok [0] rfl rfl ?_
      refine TL.q rfl .u (Ex.quo rfl rfl (by omega) c17) rfl ?_
      refine TL.run ft_cursitorref05_ok [2] rfl rfl ?_
      refine TL.nil (X.blk (X.seq (T.region rfl ?_)))
      replace h := guard_some h
      obtain ⟨c18, h⟩ := h
      refine TL.run ft_cursitorref05_ok [0] rfl rfl ?_
      refine TL.q rfl .u (Ex.add rfl rfl c18) rfl ?_
      refine TL.run ft_cursitorref05_ok [2] rfl rfl ?_
      exact TL.nil (X.back (m' := m11) [0] (by omega) ⟨(y6 / 2), k7 + 1, rfl, rfl, h⟩ (by rfl) (by rfl))
    · replace h := ifF c16 h
      refine TL.nil (X.seq ?_)
      refine T.no rfl (decide_eq_false c16) ?_
      obtain rfl := Option.some.inj h
      replace h := hO10
      clear hO10
      try dsimp only at h
      refine T.exit (X.exs (X.exs (X.ex (X.seq (T.seq (T.region rfl ?_))))))
      replace h := guard_some h
      obtain ⟨c19, h⟩ := h
      refine TL.run ft_cursitorref05_ok [0] rfl rfl ?_
      refine TL.q rfl .u (Ex.rem rfl rfl (by omega) c19) rfl ?_
      refine TL.run ft_cursitorref05_ok [2] rfl rfl ?_
      obtain rfl := Option.some.inj h
      exact TL.nil (X.seq (T.ret (X.done1 [0] Tryz.results117 (RV.tm rfl) ⟨rfl, rfl, rfl⟩ (by rfl) (.inl rfl))))
def f_r05_power_l1 (a0 : Int) : Nat → Int → Nat → Option (Lp Int (Int × Nat))
  | 0, _, _ => none
  | m7 + 1, y2, k3 => if (k3 : Int) < ([28, 27, 26, 25, 23, 22, 20, 19, 18, 14, 13, 11, 10, 9, 8, 6, 0].length : Int) then (([28, 27, 26, 25, 23, 22, 20, 19, 18, 14, 13, 11, 10, 9, 8, 6, 0][k3]?).bind fun x12 => if x12 = a0 then some (Lp.ret 1) else (if -9223372036854775808 ≤ ((k3 : Int) + 1) ∧ ((k3 : Int) + 1) ≤ 9223372036854775807 then (f_r05_power_l1 a0 m7 y2 (k3 + 1)) else none)) else (some (Lp.go (y2, k3)))
def f_r05_power (a0 : Int) : Option (Int) := (f_r05_power_l1 a0 ((([28, 27, 26, 25, 23, 22, 20, 19, 18, 14, 13, 11, 10, 9, 8, 6, 0].length : Int)).toNat + 1) 0 0).bind fun e => match e with | .ret r => some r | .go (y17, k18) => some 0
set_option maxRecDepth 100000 in
set_option maxHeartbeats 4000000 in
theorem f_r05_power_spec (a0 : Int) (r : Int) (h : f_r05_power a0 = some r) : SpecX Tryz.prog 118 #[.int .i64 a0] .triv (EmpR) (fun v A' N => v = .int .i64 r ∧ A' = EmpR ∧ N = []) := by
  refine enterA Tryz.func118 rfl Tryz.ntmps118 rfl ?_
  intro F w hX
  unfold f_r05_power at h
  refine T.seq (T.region rfl ?_)
  refine TL.run ft_cursitorref05_ok [0] rfl rfl ?_
  refine TL.nil (X.seq (T.seq (T.region rfl ?_)))
  refine TL.lit (cells := #[.int .i64 28, .int .i64 27, .int .i64 26, .int .i64 25, .int .i64 23, .int .i64 22, .int .i64 20, .int .i64 19, .int .i64 18, .int .i64 14, .int .i64 13, .int .i64 11, .int .i64 10, .int .i64 9, .int .i64 8, .int .i64 6, .int .i64 0]) rfl .u sok_cursitorref05_106_17 rfl (by kernel_rfl) rfl (fun b1 => ?_)
  refine TL.rowOf (us := [.int .i64 28, .int .i64 27, .int .i64 26, .int .i64 25, .int .i64 23, .int .i64 22, .int .i64 20, .int .i64 19, .int .i64 18, .int .i64 14, .int .i64 13, .int .i64 11, .int .i64 10, .int .i64 9, .int .i64 8, .int .i64 6, .int .i64 0]) (xs := [28, 27, 26, 25, 23, 22, 20, 19, 18, 14, 13, 11, 10, 9, 8, 6, 0]) (E := intE) (z := 1) rfl (Nat.le_of_ble_eq_true rfl) (fun _ => ⟨rfl, rfl, ⟨rfl, rfl, ⟨rfl, rfl, ⟨rfl, rfl, ⟨rfl, rfl, ⟨rfl, rfl, ⟨rfl, rfl, ⟨rfl, rfl, ⟨rfl, rfl, ⟨rfl, rfl, ⟨rfl, rfl, ⟨rfl, rfl, ⟨rfl, rfl, ⟨rfl, rfl, ⟨rfl, rfl, ⟨rfl, rfl, ⟨rfl, rfl, rfl⟩⟩⟩⟩⟩⟩⟩⟩⟩⟩⟩⟩⟩⟩⟩⟩⟩) ?_
  refine TL.run ft_cursitorref05_ok [1] rfl rfl ?_
  refine TL.nil (X.seq (T.seq (T.seq (T.region rfl ?_))))
  refine TL.run ft_cursitorref05_ok [0] rfl rfl ?_
  refine TL.nil (X.seq (T.block ?_))
  obtain ⟨E4, hE5, hO6⟩ := Option.bind_eq_some_iff.1 h
  refine T.lp (fun m e Rs => ∃ (y2 : Int) (k3 : Nat), e = [(0, .int .i64 a0), (2, .int .i64 y2), (3, .slice (some ⟨b1, 0, none⟩) 17 17), (4, .int .i64 (k3 : Int))] ∧ Rs = [OwnR 3 1 intE (.slice (some ⟨b1, 0, none⟩) 17 17) [28, 27, 26, 25, 23, 22, 20, 19, 18, 14, 13, 11, 10, 9, 8, 6, 0], EmpR] ∧ f_r05_power_l1 a0 m y2 k3 = some E4) ((([28, 27, 26, 25, 23, 22, 20, 19, 18, 14, 13, 11, 10, 9, 8, 6, 0].length : Int)).toNat + 1) [0, 0] ⟨0, 0, rfl, rfl, by exact hE5⟩ (by rfl) (by rfl) ?_
  rintro m7 _ _ ⟨y2, k3, rfl, rfl, hl9⟩
  clear hE5 h
  cases m7 with
  | zero =>
    rw [f_r05_power_l1] at hl9
    cases hl9
  | succ m7 =>
    have h := hl9
    clear hl9
    rw [f_r05_power_l1] at h
    refine T.seq (T.seq (T.region rfl ?_))
    refine TL.run ft_cursitorref05_ok [0, 1] rfl rfl ?_
    refine TL.q rfl .u (Ex.lenS rfl Tryz.runUnderlying106) rfl ?_
    refine TL.run ft_cursitorref05_ok [3] rfl rfl ?_
    by_cases c11 : (k3 : Int) < ([28, 27, 26, 25, 23, 22, 20, 19, 18, 14, 13, 11, 10, 9, 8, 6, 0].length : Int)
    · replace h := ifT c11 h
      refine TL.nil (X.seq ?_)
      refine T.yes rfl (decide_eq_true c11) ?_
      refine T.skip (X.seq (T.seq (T.block (T.seq (T.region rfl ?_)))))
      obtain ⟨x12, hx13, h⟩ := Option.bind_eq_some_iff.1 h
      refine TL.run ft_cursitorref05_ok [0, 1] rfl rfl ?_
      refine TL.foc (E := intE) (k := k3) 0 rfl (fun w G h => own_reads (by decide) w G h) (by decide) hx13 ?_
      rintro gg oo z14cs hA z14cl ⟨_, _, z14r⟩
      cases hA
      obtain rfl : z14cs = [.int .i64 x12] := z14r
      clear z14cl
      refine TL.sel [0, 0] rfl ?_
      refine TL.q rfl .u (Ex.ixS (k := k3) rfl rfl rfl Tryz.runUnderlying106 Tryz.sizeOf3 (List.getElem?_eq_some_iff.1 hx13).1) rfl ?_
      refine TL.q rfl .u (Ex.k1 (cs := [.int .i64 x12]) 0 0 rfl Tryz.isAgg3 rfl (fun _ _ h => h.2.2.1) rfl) rfl ?_
      refine TL.run ft_cursitorref05_ok [4, 5] rfl rfl ?_
      by_cases c15 : x12 = a0
      · replace h := ifT c15 h
        refine TL.nil (X.seq ?_)
        refine T.yes rfl (decide_eq_true c15) ?_
        refine T.seq (T.region rfl ?_)
        refine TL.run ft_cursitorref05_ok [0] rfl rfl ?_
        obtain rfl := Option.some.inj h
        replace h := hO6
        clear hO6
        try dsimp only at h
        obtain rfl := Option.some.inj h
        exact TL.nil (X.seq (T.ret (X.rb (X.rs (X.rs (X.rb (X.rs (X.done1 [1] Tryz.results118 (RV.tm rfl) ⟨rfl, rfl, rfl⟩ (by rfl) (.inl rfl)))))))))
      · replace h := ifF c15 h
        refine TL.nil (X.seq ?_)
        refine T.no rfl (decide_eq_false c15) ?_
        refine T.skip (X.blk (X.seq (T.region rfl ?_)))
        replace h := guard_some h
        obtain ⟨c16, h⟩ := h
        refine TL.run ft_cursitorref05_ok [0] rfl rfl ?_
        refine TL.q rfl .u (Ex.add rfl rfl c16) rfl ?_
        refine TL.run ft_cursitorref05_ok [2] rfl rfl ?_
        refine TL.nil ?_
        refine X.unf 0 rfl ?_
        refine X.sel [0, 0] rfl ?_
        exact X.back (m' := m7) [0, 0] (by omega) ⟨y2, k3 + 1, rfl, rfl, h⟩ (by rfl) (by rfl)
    · replace h := ifF c11 h
      refine TL.nil (X.seq ?_)
      refine T.no rfl (decide_eq_false c11) ?_
      obtain rfl := Option.some.inj h
      replace h := hO6
      clear hO6
      try dsimp only at h
      refine T.exit (X.exs (X.exs (X.ex (X.seq (T.seq (T.region rfl ?_))))))
      refine TL.run ft_cursitorref05_ok [0] rfl rfl ?_
      obtain rfl := Option.some.inj h
      exact TL.nil (X.seq (T.ret (X.done1 [1] Tryz.results118 (RV.tm rfl) ⟨rfl, rfl, rfl⟩ (by rfl) (.inl rfl))))
def f_r05_Sum_l4 (k43 : Nat) : Nat → List Int → Int → Option (List Int × Int)
  | 0, _, _ => none
  | m63 + 1, y56, y59 => if y59 ≤ 32 then (if 0 ≤ ((k43 : Int) + y59) then ((y56[((k43 : Int) + y59).toNat]?).bind fun x69 => if -9223372036854775808 ≤ ((k43 : Int) + y59) ∧ ((k43 : Int) + y59) ≤ 9223372036854775807 then (if -9223372036854775808 ≤ ((k43 : Int) + y59) ∧ ((k43 : Int) + y59) ≤ 9223372036854775807 then (if -9223372036854775808 ≤ (32 - y59) ∧ (32 - y59) ≤ 9223372036854775807 then ((f_r05_power (32 - y59)).bind fun x75 => if -9223372036854775808 ≤ (x69 + x75) ∧ (x69 + x75) ≤ 9223372036854775807 then (if 0 ≤ (x69 + x75) ∧ (x69 + x75) ≤ 9223372036854775807 then (if -9223372036854775808 ≤ (y59 + 1) ∧ (y59 + 1) ≤ 9223372036854775807 then (f_r05_Sum_l4 k43 m63 (y56.set (((k43 : Int) + y59).toNat) ((x69 + x75) % 2)) (y59 + 1)) else none) else none) else none) else none) else none) else none) else none) else some (y56, y59)
def f_r05_Sum_l5 (a0 : List UInt8) (y40 : List Int) : Nat → Int → Int → Option (Int × Int)
  | 0, _, _ => none
  | m92 + 1, y87, y88 => if y88 ≥ 0 then (if -9223372036854775808 ≤ ((8 * (a0.length : Int)) + y88) ∧ ((8 * (a0.length : Int)) + y88) ≤ 9223372036854775807 then (if 0 ≤ ((8 * (a0.length : Int)) + y88) then ((y40[((8 * (a0.length : Int)) + y88).toNat]?).bind fun x99 => if -9223372036854775808 ≤ (1 - x99) ∧ (1 - x99) ≤ 9223372036854775807 then (if -9223372036854775808 ≤ (y88 - 1) ∧ (y88 - 1) ≤ 9223372036854775807 then (f_r05_Sum_l5 a0 y40 m92 (IntKind.u32.wrap ((IntKind.u32.wrap (y87 * 2)) + (IntKind.u32.wrap (1 - x99)))) (y88 - 1)) else none) else none) else none) else none) else some (y87, y88)
def f_r05_Sum_l3 (a0 : List UInt8) : Nat → List Int → Nat → Option (List Int × Nat)
  | 0, _, _ => none
  | m47 + 1, y40, k43 => if (k43 : Int) < (8 * (a0.length : Int)) then ((y40[k43]?).bind fun x52 => if x52 = 1 then ((f_r05_Sum_l4 k43 (((33 : Int) - (1)).toNat + 1) y40 1).bind fun (y81, y84) => if -9223372036854775808 ≤ ((k43 : Int) + 1) ∧ ((k43 : Int) + 1) ≤ 9223372036854775807 then (f_r05_Sum_l3 a0 m47 y81 (k43 + 1)) else none) else (if -9223372036854775808 ≤ ((k43 : Int) + 1) ∧ ((k43 : Int) + 1) ≤ 9223372036854775807 then (f_r05_Sum_l3 a0 m47 y40 (k43 + 1)) else none)) else some (y40, k43)
def f_r05_Sum_l2 : Nat → List Int → Nat → Option (List Int × Nat)
  | 0, _, _ => none
  | m30 + 1, y23, k26 => if (k26 : Int) < 32 then ((y23[k26]?).bind fun x35 => if -9223372036854775808 ≤ (1 - x35) ∧ (1 - x35) ≤ 9223372036854775807 then (if -9223372036854775808 ≤ ((k26 : Int) + 1) ∧ ((k26 : Int) + 1) ≤ 9223372036854775807 then (f_r05_Sum_l2 m30 (y23.set k26 (1 - x35)) (k26 + 1)) else none) else none) else some (y23, k26)
def f_r05_Sum_l1 (a0 : List UInt8) : Nat → List Int → Nat → Option (List Int × Nat)
  | 0, _, _ => none
  | m12 + 1, y5, k8 => if (k8 : Int) < (8 * (a0.length : Int)) then ((f_r05_bit a0 (k8 : Int)).bind fun x17 => (y5[k8]?).bind fun x19 => if -9223372036854775808 ≤ ((k8 : Int) + 1) ∧ ((k8 : Int) + 1) ≤ 9223372036854775807 then (f_r05_Sum_l1 a0 m12 (y5.set k8 x17) (k8 + 1)) else none) else some (y5, k8)
def f_r05_Sum (a0 : List UInt8) : Option (Int) := if -9223372036854775808 ≤ (8 * (a0.length : Int)) ∧ (8 * (a0.length : Int)) ≤ 9223372036854775807 then (if -9223372036854775808 ≤ ((8 * (a0.length : Int)) + 32) ∧ ((8 * (a0.length : Int)) + 32) ≤ 9223372036854775807 then (if 0 ≤ ((8 * (a0.length : Int)) + 32) ∧ 8 * (((8 * (a0.length : Int)) + 32).toNat) ≤ 281474976710656 then ((f_r05_Sum_l1 a0 (((8 * (a0.length : Int))).toNat + 1) (List.replicate (((8 * (a0.length : Int)) + 32).toNat) (0 : Int)) 0).bind fun (y222, k225) => (f_r05_Sum_l2 ((32 : Int).toNat + 1) y222 0).bind fun (y332, k335) => (f_r05_Sum_l3 a0 (((8 * (a0.length : Int))).toNat + 1) y332 0).bind fun (y402, k405) => (f_r05_Sum_l5 a0 y402 (((31 : Int) - (-1)).toNat + 1) 0 31).bind fun (y423, y424) => some y423) else none) else none) else none
set_option maxRecDepth 100000 in
set_option maxHeartbeats 4000000 in
theorem f_r05_Sum_spec (a0 : List UInt8) (r : Int) (h : f_r05_Sum a0 = some r) : SpecX Tryz.prog 54 #[.string (bsOf a0)] .triv (EmpR) (fun v A' N => v = .int .u32 r ∧ A' = EmpR ∧ N = []) := by
  refine enterA Tryz.func54 rfl Tryz.ntmps54 rfl ?_
  intro F w hX
  unfold f_r05_Sum at h
  refine T.seq (T.region rfl ?_)
  refine TL.run ft_cursitorref05_ok [0] rfl rfl ?_
  refine TL.nil (X.seq (T.seq (T.region rfl ?_)))
  refine TL.run ft_cursitorref05_ok [0] rfl rfl ?_
  refine TL.q rfl .u (Ex.lenB rfl Tryz.runUnderlying9) rfl ?_
  replace h := guard_some h
  obtain ⟨c1, h⟩ := h
  refine TL.q rfl .u (Ex.mul rfl rfl c1) rfl ?_
  refine TL.run ft_cursitorref05_ok [3] rfl rfl ?_
  refine TL.nil (X.seq (T.seq (T.region rfl ?_)))
  replace h := guard_some h
  obtain ⟨c2, h⟩ := h
  refine TL.run ft_cursitorref05_ok [0] rfl rfl ?_
  refine TL.q rfl .u (Ex.add rfl rfl c2) rfl ?_
  replace h := guard_some h
  obtain ⟨c3, h⟩ := h
  refine TL.mk1 (k := ((8 * (a0.length : Int)) + 32).toNat) (v := .int .i64 0) intE (0 : Int) rfl .u Tryz.underlying106 inf_cursitorref05_3 rfl rfl (Int.toNat_of_nonneg c3.1).symm c3.2 (by have hq := c3.2; omega) (fun _ _ => rfl) rfl (fun b4 => ?_)
  refine TL.run ft_cursitorref05_ok [3] rfl rfl ?_
  refine TL.nil (X.seq (T.seq (T.seq (T.region rfl ?_))))
  refine TL.run ft_cursitorref05_ok [0] rfl rfl ?_
  refine TL.nil (X.seq (T.block ?_))
  obtain ⟨E9, hE10, hO11⟩ := Option.bind_eq_some_iff.1 h
  refine T.lp (fun m e Rs => ∃ (y5 : List Int) (A6 : Option Addr) (c7 : Nat) (k8 : Nat), e = [(0, .string (bsOf a0)), (2, .int .u32 0), (3, .int .i64 (8 * (a0.length : Int))), (4, .slice A6 y5.length c7), (5, .int .i64 (k8 : Int))] ∧ Rs = [OwnR 3 1 intE (.slice A6 y5.length c7) y5, EmpR] ∧ f_r05_Sum_l1 a0 m y5 k8 = some E9) (((8 * (a0.length : Int))).toNat + 1) [0, 0] ⟨(List.replicate (((8 * (a0.length : Int)) + 32).toNat) (0 : Int)), (some ⟨b4, 0, none⟩), (List.replicate (((8 * (a0.length : Int)) + 32).toNat) (0 : Int)).length, 0, rfl, rfl, by exact hE10⟩ (by rfl) (by rfl) ?_
  rintro m12 _ _ ⟨y5, A6, c7, k8, rfl, rfl, hl14⟩
  clear hE10 h
  cases m12 with
  | zero =>
    rw [f_r05_Sum_l1] at hl14
    cases hl14
  | succ m12 =>
    have h := hl14
    clear hl14
    rw [f_r05_Sum_l1] at h
    refine T.seq (T.seq (T.region rfl ?_))
    refine TL.run ft_cursitorref05_ok [0, 1, 2] rfl rfl ?_
    by_cases c16 : (k8 : Int) < (8 * (a0.length : Int))
    · replace h := ifT c16 h
      refine TL.nil (X.seq ?_)
      refine T.yes rfl (decide_eq_true c16) ?_
      refine T.skip (X.seq (T.seq (T.block (T.region rfl ?_))))
      obtain ⟨x17, hx18, h⟩ := Option.bind_eq_some_iff.1 h
      refine TL.run ft_cursitorref05_ok [0, 1, 2, 3] rfl rfl ?_
      refine TL.ce rfl .u (.fn Tryz.call117 rfl) (f_r05_bit_spec a0 (k8 : Int) _ hx18) (fun _ hs => (RX.reads_triv _ _)) rfl ?_
      obtain ⟨x19, hx20, h⟩ := Option.bind_eq_some_iff.1 h
      refine TL.foc (E := intE) (k := k8) 0 rfl (fun w G h => own_reads (by decide) w G h) (by decide) hx20 ?_
      rintro gz21 oz21 z21cs hA z21cl ⟨_, _, z21r⟩
      cases hA
      obtain rfl : z21cs = [.int .i64 x19] := z21r
      clear z21cl
      refine TL.sel [0, 0] rfl ?_
      refine TL.q rfl .u (Ex.ixS (k := k8) rfl rfl rfl Tryz.runUnderlying106 Tryz.sizeOf3 (List.getElem?_eq_some_iff.1 hx20).1) rfl ?_
      refine TL.unf 0 rfl ?_
      refine TL.sel [0, 0] rfl ?_
      refine TL.stE (k := k8) (u := x19) (u' := x17) 0 0 rfl .u rfl rfl Tryz.sizeOf3 rfl hx20 rfl rfl rfl rfl (fun _ _ _ _ h => by subst h; rfl) ?_
      refine TL.sel [0, 0] rfl ?_
      rw [show y5.length = (y5.set k8 x17).length from (List.length_set ..).symm]
      refine TL.nil (X.blk (X.seq (T.region rfl ?_)))
      replace h := guard_some h
      obtain ⟨c22, h⟩ := h
      refine TL.run ft_cursitorref05_ok [0] rfl rfl ?_
      refine TL.q rfl .u (Ex.add rfl rfl c22) rfl ?_
      refine TL.run ft_cursitorref05_ok [2] rfl rfl ?_
      exact TL.nil (X.back (m' := m12) [0, 0] (by omega) ⟨(y5.set k8 x17), (some ⟨gz21, oz21, none⟩), c7, k8 + 1, rfl, rfl, h⟩ (by rfl) (by rfl))
    · replace h := ifF c16 h
      refine TL.nil (X.seq ?_)
      refine T.no rfl (decide_eq_false c16) ?_
      obtain rfl := Option.some.inj h
      replace h := hO11
      clear hO11
      try dsimp only at h
      refine T.exit (X.exs (X.exs (X.ex (X.seq (T.seq (T.seq (T.region rfl ?_)))))))
      refine TL.run ft_cursitorref05_ok [0] rfl rfl ?_
      refine TL.nil (X.seq (T.block ?_))
      obtain ⟨E27, hE28, hO29⟩ := Option.bind_eq_some_iff.1 h
      refine T.lp (fun m e Rs => ∃ (y23 : List Int) (A24 : Option Addr) (c25 : Nat) (k26 : Nat), e = [(2, .int .u32 0), (3, .int .i64 (8 * (a0.length : Int))), (4, .slice A24 y23.length c25), (6, .int .i64 (k26 : Int))] ∧ Rs = [OwnR 3 1 intE (.slice A24 y23.length c25) y23, EmpR] ∧ f_r05_Sum_l2 m y23 k26 = some E27) ((32 : Int).toNat + 1) [0, 0] ⟨y5, A6, c7, 0, rfl, rfl, by exact hE28⟩ (by rfl) (by rfl) ?_
      rintro m30 _ _ ⟨y23, A24, c25, k26, rfl, rfl, hl32⟩
      clear hE28 h
      cases m30 with
      | zero =>
        rw [f_r05_Sum_l2] at hl32
        cases hl32
      | succ m30 =>
        have h := hl32
        clear hl32
        rw [f_r05_Sum_l2] at h
        refine T.seq (T.seq (T.region rfl ?_))
        refine TL.run ft_cursitorref05_ok [0, 1] rfl rfl ?_
        by_cases c34 : (k26 : Int) < 32
        · replace h := ifT c34 h
          refine TL.nil (X.seq ?_)
          refine T.yes rfl (decide_eq_true c34) ?_
          refine T.skip (X.seq (T.seq (T.block (T.region rfl ?_))))
          obtain ⟨x35, hx36, h⟩ := Option.bind_eq_some_iff.1 h
          refine TL.run ft_cursitorref05_ok [0, 1, 2, 3] rfl rfl ?_
          refine TL.foc (E := intE) (k := k26) 0 rfl (fun w G h => own_reads (by decide) w G h) (by decide) hx36 ?_
          rintro gz37 oz37 z37cs hA z37cl ⟨_, _, z37r⟩
          cases hA
          obtain rfl : z37cs = [.int .i64 x35] := z37r
          clear z37cl
          refine TL.sel [0, 0] rfl ?_
          refine TL.q rfl .u (Ex.ixS (k := k26) rfl rfl rfl Tryz.runUnderlying106 Tryz.sizeOf3 (List.getElem?_eq_some_iff.1 hx36).1) rfl ?_
          refine TL.q rfl .u (Ex.k1 (cs := [.int .i64 x35]) 0 0 rfl Tryz.isAgg3 rfl (fun _ _ h => h.2.2.1) rfl) rfl ?_
          replace h := guard_some h
          obtain ⟨c38, h⟩ := h
          refine TL.q rfl .u (Ex.sub rfl rfl c38) rfl ?_
          refine TL.q rfl .u (Ex.ixS (k := k26) rfl rfl rfl Tryz.runUnderlying106 Tryz.sizeOf3 (List.getElem?_eq_some_iff.1 hx36).1) rfl ?_
          refine TL.unf 0 rfl ?_
          refine TL.sel [0, 0] rfl ?_
          refine TL.stE (k := k26) (u := x35) (u' := (1 - x35)) 0 0 rfl .u rfl rfl Tryz.sizeOf3 rfl hx36 rfl rfl rfl rfl (fun _ _ _ _ h => by subst h; rfl) ?_
          refine TL.sel [0, 0] rfl ?_
          rw [show y23.length = (y23.set k26 (1 - x35)).length from (List.length_set ..).symm]
          refine TL.nil (X.blk (X.seq (T.region rfl ?_)))
          replace h := guard_some h
          obtain ⟨c39, h⟩ := h
          refine TL.run ft_cursitorref05_ok [0] rfl rfl ?_
          refine TL.q rfl .u (Ex.add rfl rfl c39) rfl ?_
          refine TL.run ft_cursitorref05_ok [2] rfl rfl ?_
          exact TL.nil (X.back (m' := m30) [0, 0] (by omega) ⟨(y23.set k26 (1 - x35)), (some ⟨gz37, oz37, none⟩), c25, k26 + 1, rfl, rfl, h⟩ (by rfl) (by rfl))
        · replace h := ifF c34 h
          refine TL.nil (X.seq ?_)
          refine T.no rfl (decide_eq_false c34) ?_
          obtain rfl := Option.some.inj h
          replace h := hO29
          clear hO29
          try dsimp only at h
          refine T.exit (X.exs (X.exs (X.ex (X.seq (T.seq (T.seq (T.region rfl ?_)))))))
          refine TL.run ft_cursitorref05_ok [0] rfl rfl ?_
          refine TL.nil (X.seq (T.block ?_))
          obtain ⟨E44, hE45, hO46⟩ := Option.bind_eq_some_iff.1 h
          refine T.lp (fun m e Rs => ∃ (y40 : List Int) (A41 : Option Addr) (c42 : Nat) (k43 : Nat), e = [(2, .int .u32 0), (3, .int .i64 (8 * (a0.length : Int))), (4, .slice A41 y40.length c42), (7, .int .i64 (k43 : Int))] ∧ Rs = [OwnR 3 1 intE (.slice A41 y40.length c42) y40, EmpR] ∧ f_r05_Sum_l3 a0 m y40 k43 = some E44) (((8 * (a0.length : Int))).toNat + 1) [0, 0] ⟨y23, A24, c25, 0, rfl, rfl, by exact hE45⟩ (by rfl) (by rfl) ?_
          rintro m47 _ _ ⟨y40, A41, c42, k43, rfl, rfl, hl49⟩
          clear hE45 h
          cases m47 with
          | zero =>
            rw [f_r05_Sum_l3] at hl49
            cases hl49
          | succ m47 =>
            have h := hl49
            clear hl49
            rw [f_r05_Sum_l3] at h
            refine T.seq (T.seq (T.region rfl ?_))
            refine TL.run ft_cursitorref05_ok [0, 1, 2] rfl rfl ?_
            by_cases c51 : (k43 : Int) < (8 * (a0.length : Int))
            · replace h := ifT c51 h
              refine TL.nil (X.seq ?_)
              refine T.yes rfl (decide_eq_true c51) ?_
              refine T.skip (X.seq (T.seq (T.block (T.seq (T.region rfl ?_)))))
              obtain ⟨x52, hx53, h⟩ := Option.bind_eq_some_iff.1 h
              refine TL.run ft_cursitorref05_ok [0, 1] rfl rfl ?_
              refine TL.foc (E := intE) (k := k43) 0 rfl (fun w G h => own_reads (by decide) w G h) (by decide) hx53 ?_
              rintro gz54 oz54 z54cs hA z54cl ⟨_, _, z54r⟩
              cases hA
              obtain rfl : z54cs = [.int .i64 x52] := z54r
              clear z54cl
              refine TL.sel [0, 0] rfl ?_
              refine TL.q rfl .u (Ex.ixS (k := k43) rfl rfl rfl Tryz.runUnderlying106 Tryz.sizeOf3 (List.getElem?_eq_some_iff.1 hx53).1) rfl ?_
              refine TL.q rfl .u (Ex.k1 (cs := [.int .i64 x52]) 0 0 rfl Tryz.isAgg3 rfl (fun _ _ h => h.2.2.1) rfl) rfl ?_
              refine TL.run ft_cursitorref05_ok [4] rfl rfl ?_
              by_cases c55 : x52 = 1
              · replace h := ifT c55 h
                refine TL.nil (X.seq ?_)
                refine T.yes rfl (decide_eq_true c55) ?_
                refine T.seq (T.region rfl ?_)
                refine TL.run ft_cursitorref05_ok [0] rfl rfl ?_
                refine TL.nil (X.seq (T.block ?_))
                refine T.unf 0 rfl ?_
                refine T.sel [0, 0] rfl ?_
                obtain ⟨E60, hE61, hO62⟩ := Option.bind_eq_some_iff.1 h
                refine T.lp (fun m e Rs => ∃ (y56 : List Int) (A57 : Option Addr) (c58 : Nat) (y59 : Int), e = [(2, .int .u32 0), (3, .int .i64 (8 * (a0.length : Int))), (4, .slice A57 y56.length c58), (7, .int .i64 (k43 : Int)), (8, .int .i64 y59)] ∧ Rs = [OwnR 3 1 intE (.slice A57 y56.length c58) y56, EmpR] ∧ f_r05_Sum_l4 k43 m y56 y59 = some E60) (((33 : Int) - (1)).toNat + 1) [0, 0] ⟨y40, (some ⟨gz54, oz54, none⟩), c42, 1, rfl, rfl, by exact hE61⟩ (by rfl) (by rfl) ?_
                rintro m63 _ _ ⟨y56, A57, c58, y59, rfl, rfl, hl65⟩
                clear hE61 h
                cases m63 with
                | zero =>
                  rw [f_r05_Sum_l4] at hl65
                  cases hl65
                | succ m63 =>
                  have h := hl65
                  clear hl65
                  rw [f_r05_Sum_l4] at h
                  refine T.seq (T.seq (T.region rfl ?_))
                  refine TL.run ft_cursitorref05_ok [0, 1] rfl rfl ?_
                  by_cases c67 : y59 ≤ 32
                  · replace h := ifT c67 h
                    refine TL.nil (X.seq ?_)
                    refine T.yes rfl (decide_eq_true c67) ?_
                    replace h := guard_some h
                    obtain ⟨c68, h⟩ := h
                    obtain ⟨x69, hx70, h⟩ := Option.bind_eq_some_iff.1 h
                    refine T.skip (X.seq (T.seq (T.block ?_)))
                    refine T.foc (E := intE) (k := ((k43 : Int) + y59).toNat) 0 rfl (fun w G h => own_reads (by decide) w G h) (by decide) hx70 ?_
                    rintro gz71 oz71 z71cs hA z71cl ⟨_, _, z71r⟩
                    cases hA
                    obtain rfl : z71cs = [.int .i64 x69] := z71r
                    clear z71cl
                    refine T.sel [0, 0] rfl ?_
                    replace h := guard_some h
                    obtain ⟨c72, h⟩ := h
                    replace h := guard_some h
                    obtain ⟨c73, h⟩ := h
                    replace h := guard_some h
                    obtain ⟨c74, h⟩ := h
                    obtain ⟨x75, hx76, h⟩ := Option.bind_eq_some_iff.1 h
                    replace h := guard_some h
                    obtain ⟨c77, h⟩ := h
                    replace h := guard_some h
                    obtain ⟨c78, h⟩ := h
                    refine T.join (fun e Rs => e = [(2, .int .u32 0), (3, .int .i64 (8 * (a0.length : Int))), (4, .slice (some ⟨gz71, oz71, none⟩) (y56.set (((k43 : Int) + y59).toNat) ((x69 + x75) % 2)).length c58), (7, .int .i64 (k43 : Int)), (8, .int .i64 y59), (50, .int .i64 y59)] ∧ Rs = [OwnR 3 1 intE (.slice (some ⟨gz71, oz71, none⟩) (y56.set (((k43 : Int) + y59).toNat) ((x69 + x75) % 2)).length c58) (y56.set (((k43 : Int) + y59).toNat) ((x69 + x75) % 2)), EmpR]) ?_ ?_
                    · refine T.draw (.q 0 (.q 1 (.q 2 (.q 3 (.q 4 (.q 5 (.q 6 (.q 7 (.q 8 (.q 10 (.q 11 (.br 9 (.e 12 (.q 13 (.q 14 (.q 15 (.e 16 .nil))))) (.e 12 (.e 9 (.q 13 (.q 14 (.q 15 (.e 16 .nil)))))))))))))))))) [1] rfl mix_cursitorref05 np_jq (by kernel_rfl) ?_
                      refine TD.run ft_cursitorref05_ok [0, 1, 2] rfl rfl ?_
                      refine TD.q rfl .u (Ex.add rfl rfl c72) rfl ?_
                      refine TD.run ft_cursitorref05_ok [4, 5, 6] rfl rfl ?_
                      refine TD.q rfl .u (Ex.add rfl rfl c73) rfl ?_
                      refine TD.q rfl .u (Ex.ixS (k := ((k43 : Int) + y59).toNat) rfl rfl ((Int.toNat_of_nonneg c68).symm) Tryz.runUnderlying106 Tryz.sizeOf3 (List.getElem?_eq_some_iff.1 hx70).1) rfl ?_
                      refine TD.run ft_cursitorref05_ok [10] rfl rfl ?_
                      refine TD.q rfl .u (Ex.sub rfl rfl c74) rfl ?_
                      refine TD.br ?_ ?_
                      · refine TD.ny rfl .u (Ex.k1 (cs := [.int .i64 x69]) 0 0 rfl Tryz.isAgg3 rfl (fun _ _ h => h.2.2.1) rfl) rfl [1] rfl ?_
                        refine TD.ce rfl .u (.fn Tryz.call118 rfl) (f_r05_power_spec (32 - y59) _ hx76) (fun _ hs => (RX.reads_triv _ _)) rfl [1] (rfl) ?_
                        refine TD.q rfl .u (Ex.add rfl rfl c77) rfl ?_
                        refine TD.q rfl .u (Ex.rem rfl rfl (by omega) c78) rfl ?_
                        refine TD.q rfl .u (Ex.ixS (k := ((k43 : Int) + y59).toNat) rfl rfl ((Int.toNat_of_nonneg c68).symm) Tryz.runUnderlying106 Tryz.sizeOf3 (List.getElem?_eq_some_iff.1 hx70).1) rfl ?_
                        refine TD.unf 0 rfl ?_
                        refine TD.sel [0, 0] rfl ?_
                        refine TD.stE (k := ((k43 : Int) + y59).toNat) (u := x69) (u' := ((x69 + x75) % 2)) 0 0 rfl .u rfl rfl Tryz.sizeOf3 rfl hx70 rfl rfl rfl rfl (fun _ _ _ _ h => by subst h; rfl) [1] (rfl) ?_
                        refine TD.sel [0, 0] rfl ?_
                        rw [show y56.length = (y56.set (((k43 : Int) + y59).toNat) ((x69 + x75) % 2)).length from (List.length_set ..).symm]
                        exact TD.nil (X.jn [0, 0] ⟨rfl, rfl⟩ (by rfl) (by rfl))
                      · refine TD.ce rfl .u (.fn Tryz.call118 rfl) (f_r05_power_spec (32 - y59) _ hx76) (fun _ hs => (RX.reads_triv _ _)) rfl [1] (rfl) ?_
                        refine TD.ny rfl .u (Ex.k1 (cs := [.int .i64 x69]) 0 0 rfl Tryz.isAgg3 rfl (fun _ _ h => h.2.2.1) rfl) rfl [1] rfl ?_
                        refine TD.q rfl .u (Ex.add rfl rfl c77) rfl ?_
                        refine TD.q rfl .u (Ex.rem rfl rfl (by omega) c78) rfl ?_
                        refine TD.q rfl .u (Ex.ixS (k := ((k43 : Int) + y59).toNat) rfl rfl ((Int.toNat_of_nonneg c68).symm) Tryz.runUnderlying106 Tryz.sizeOf3 (List.getElem?_eq_some_iff.1 hx70).1) rfl ?_
                        refine TD.unf 0 rfl ?_
                        refine TD.sel [0, 0] rfl ?_
                        refine TD.stE (k := ((k43 : Int) + y59).toNat) (u := x69) (u' := ((x69 + x75) % 2)) 0 0 rfl .u rfl rfl Tryz.sizeOf3 rfl hx70 rfl rfl rfl rfl (fun _ _ _ _ h => by subst h; rfl) [1] (rfl) ?_
                        refine TD.sel [0, 0] rfl ?_
                        rw [show y56.length = (y56.set (((k43 : Int) + y59).toNat) ((x69 + x75) % 2)).length from (List.length_set ..).symm]
                        exact TD.nil (X.jn [0, 0] ⟨rfl, rfl⟩ (by rfl) (by rfl))
                    · rintro _ _ ⟨rfl, rfl⟩
                      refine X.blk (X.seq (T.region rfl ?_))
                      replace h := guard_some h
                      obtain ⟨c79, h⟩ := h
                      refine TL.run ft_cursitorref05_ok [0] rfl rfl ?_
                      refine TL.q rfl .u (Ex.add rfl rfl c79) rfl ?_
                      refine TL.run ft_cursitorref05_ok [2] rfl rfl ?_
                      exact TL.nil (X.back (m' := m63) [0, 0] (by omega) ⟨(y56.set (((k43 : Int) + y59).toNat) ((x69 + x75) % 2)), (some ⟨gz71, oz71, none⟩), c58, (y59 + 1), rfl, rfl, h⟩ (by rfl) (by rfl))
                  · replace h := ifF c67 h
                    refine TL.nil (X.seq ?_)
                    refine T.no rfl (decide_eq_false c67) ?_
                    obtain rfl := Option.some.inj h
                    replace h := hO62
                    clear hO62
                    try dsimp only at h
                    refine T.exit (X.exs (X.exs (X.ex (X.blk (X.seq (T.region rfl ?_))))))
                    replace h := guard_some h
                    obtain ⟨c80, h⟩ := h
                    refine TL.run ft_cursitorref05_ok [0] rfl rfl ?_
                    refine TL.q rfl .u (Ex.add rfl rfl c80) rfl ?_
                    refine TL.run ft_cursitorref05_ok [2] rfl rfl ?_
                    exact TL.nil (X.back (m' := m47) [0, 0] (by omega) ⟨y56, A57, c58, k43 + 1, rfl, rfl, h⟩ (by rfl) (by rfl))
              · replace h := ifF c55 h
                refine TL.nil (X.seq ?_)
                refine T.no rfl (decide_eq_false c55) ?_
                refine T.skip (X.blk (X.seq (T.region rfl ?_)))
                replace h := guard_some h
                obtain ⟨c86, h⟩ := h
                refine TL.run ft_cursitorref05_ok [0] rfl rfl ?_
                refine TL.q rfl .u (Ex.add rfl rfl c86) rfl ?_
                refine TL.run ft_cursitorref05_ok [2] rfl rfl ?_
                refine TL.nil ?_
                refine X.unf 0 rfl ?_
                refine X.sel [0, 0] rfl ?_
                exact X.back (m' := m47) [0, 0] (by omega) ⟨y40, (some ⟨gz54, oz54, none⟩), c42, k43 + 1, rfl, rfl, h⟩ (by rfl) (by rfl)
            · replace h := ifF c51 h
              refine TL.nil (X.seq ?_)
              refine T.no rfl (decide_eq_false c51) ?_
              obtain rfl := Option.some.inj h
              replace h := hO46
              clear hO46
              try dsimp only at h
              refine T.exit (X.exs (X.exs (X.ex (X.seq (T.seq (T.region rfl ?_))))))
              refine TL.run ft_cursitorref05_ok [0] rfl rfl ?_
              refine TL.nil (X.seq (T.seq (T.seq (T.region rfl ?_))))
              refine TL.run ft_cursitorref05_ok [0] rfl rfl ?_
              refine TL.nil (X.seq (T.block ?_))
              obtain ⟨E89, hE90, hO91⟩ := Option.bind_eq_some_iff.1 h
              refine T.lp (fun m e Rs => ∃ (y87 : Int) (y88 : Int), e = [(2, .int .u32 0), (3, .int .i64 (8 * (a0.length : Int))), (4, .slice A41 y40.length c42), (9, .int .u32 y87), (10, .int .i64 y88)] ∧ Rs = [OwnR 3 1 intE (.slice A41 y40.length c42) y40, EmpR] ∧ f_r05_Sum_l5 a0 y40 m y87 y88 = some E89) (((31 : Int) - (-1)).toNat + 1) [0, 0] ⟨0, 31, rfl, rfl, by exact hE90⟩ (by rfl) (by rfl) ?_
              rintro m92 _ _ ⟨y87, y88, rfl, rfl, hl94⟩
              clear hE90 h
              cases m92 with
              | zero =>
                rw [f_r05_Sum_l5] at hl94
                cases hl94
              | succ m92 =>
                have h := hl94
                clear hl94
                rw [f_r05_Sum_l5] at h
                refine T.seq (T.seq (T.region rfl ?_))
                refine TL.run ft_cursitorref05_ok [0, 1] rfl rfl ?_
                by_cases c96 : y88 ≥ 0
                · replace h := ifT c96 h
                  refine TL.nil (X.seq ?_)
                  refine T.yes rfl (decide_eq_true c96) ?_
                  refine T.skip (X.seq (T.seq (T.block (T.region rfl ?_))))
                  refine TL.run ft_cursitorref05_ok [0] rfl rfl ?_
                  refine TL.q rfl .u (Ex.mulw rfl rfl) rfl ?_
                  replace h := guard_some h
                  obtain ⟨c97, h⟩ := h
                  refine TL.run ft_cursitorref05_ok [2, 3, 4] rfl rfl ?_
                  refine TL.q rfl .u (Ex.add rfl rfl c97) rfl ?_
                  replace h := guard_some h
                  obtain ⟨c98, h⟩ := h
                  obtain ⟨x99, hx100, h⟩ := Option.bind_eq_some_iff.1 h
                  refine TL.foc (E := intE) (k := ((8 * (a0.length : Int)) + y88).toNat) 0 rfl (fun w G h => own_reads (by decide) w G h) (by decide) hx100 ?_
                  rintro gz101 oz101 z101cs hA z101cl ⟨_, _, z101r⟩
                  cases hA
                  obtain rfl : z101cs = [.int .i64 x99] := z101r
                  clear z101cl
                  refine TL.sel [0, 0] rfl ?_
                  refine TL.q rfl .u (Ex.ixS (k := ((8 * (a0.length : Int)) + y88).toNat) rfl rfl ((Int.toNat_of_nonneg c98).symm) Tryz.runUnderlying106 Tryz.sizeOf3 (List.getElem?_eq_some_iff.1 hx100).1) rfl ?_
                  refine TL.q rfl .u (Ex.k1 (cs := [.int .i64 x99]) 0 0 rfl Tryz.isAgg3 rfl (fun _ _ h => h.2.2.1) rfl) rfl ?_
                  replace h := guard_some h
                  obtain ⟨c102, h⟩ := h
                  refine TL.q rfl .u (Ex.sub rfl rfl c102) rfl ?_
                  refine TL.q rfl .u (Ex.conv rfl Tryz.runUnderlying3 Tryz.runUnderlying107) rfl ?_
                  refine TL.q rfl .u (Ex.addw rfl rfl) rfl ?_
                  refine TL.run ft_cursitorref05_ok [11] rfl rfl ?_
                  refine TL.nil (X.blk (X.seq (T.region rfl ?_)))
                  replace h := guard_some h
                  obtain ⟨c103, h⟩ := h
                  refine TL.run ft_cursitorref05_ok [0] rfl rfl ?_
                  refine TL.q rfl .u (Ex.sub rfl rfl c103) rfl ?_
                  refine TL.run ft_cursitorref05_ok [2] rfl rfl ?_
                  refine TL.nil ?_
                  refine X.unf 0 rfl ?_
                  refine X.sel [0, 0] rfl ?_
                  exact X.back (m' := m92) [0, 0] (by omega) ⟨(IntKind.u32.wrap ((IntKind.u32.wrap (y87 * 2)) + (IntKind.u32.wrap (1 - x99)))), (y88 - 1), rfl, rfl, h⟩ (by rfl) (by rfl)
                · replace h := ifF c96 h
                  refine TL.nil (X.seq ?_)
                  refine T.no rfl (decide_eq_false c96) ?_
                  obtain rfl := Option.some.inj h
                  replace h := hO91
                  clear hO91
                  try dsimp only at h
                  refine T.exit (X.exs (X.exs (X.ex (X.seq (T.seq (T.region rfl ?_))))))
                  refine TL.run ft_cursitorref05_ok [0, 1] rfl rfl ?_
                  obtain rfl := Option.some.inj h
                  exact TL.nil (X.seq (T.ret (X.done1 [1] Tryz.results54 (RV.tm rfl) ⟨rfl, rfl, rfl⟩ (by rfl) (.inl rfl))))
end Go.Proofs.YtcoppaggpbfcmaaGreat.Sl
namespace Go.Proofs.YtcoppaggpbfcmaaGreat.Sl
open Go.RowKit
set_option linter.unusedVariables false
set_option linter.unusedSimpArgs false
set_option maxRecDepth 100000
def ft_cursitorref08 : FTab := [(35, 0, 0), (35, 1, 1), (38, 1, 1), (38, 2, 2), (38, 3, 4), (38, 4, 6)]
theorem ft_cursitorref08_ok : (ft_cursitorref08).OK Tryz.prog := ⟨FOK.mk Tryz.runUnderlying35 rfl Tryz.sizeOf4 rfl, FOK.mk Tryz.runUnderlying35 rfl Tryz.sizeOf9 rfl, FOK.mk Tryz.runUnderlying38 rfl Tryz.sizeOf3 rfl, FOK.mk Tryz.runUnderlying38 rfl Tryz.sizeOf35 rfl, FOK.mk Tryz.runUnderlying38 rfl Tryz.sizeOf35 rfl, FOK.mk Tryz.runUnderlying38 rfl Tryz.sizeOf36 rfl, trivial⟩
def f_r08_Key (a0 : Int) : Option (List UInt8) := (gRBytes 0 2).bind fun x1 => (gRBytes a0 2).bind fun x3 => if x1.length + x3.length ≤ 9223372036854775807 then some (x1 ++ x3) else none
set_option maxRecDepth 100000 in
set_option maxHeartbeats 4000000 in
theorem f_r08_Key_spec (a0 : Int) (r : List UInt8) (h : f_r08_Key a0 = some r) : SpecX Tryz.prog 10 #[.int .i64 a0] .triv (EmpR) (fun v A' N => v = .string (bsOf r) ∧ A' = EmpR ∧ N = []) := by
  refine enterA Tryz.func10 rfl Tryz.ntmps10 rfl ?_
  intro F w hX
  unfold f_r08_Key at h
  refine T.seq (T.region rfl ?_)
  refine TL.run ft_cursitorref08_ok [0] rfl rfl ?_
  obtain ⟨x1, hx2, h⟩ := Option.bind_eq_some_iff.1 h
  refine TL.nil (X.seq (T.seq (T.region rfl ?_)))
  refine TL.ce rfl .u (.fn Tryz.call42 rfl) (gRBytes_spec 0 2 _ hx2) (fun _ hs => (RX.reads_triv _ _)) rfl ?_
  obtain ⟨x3, hx4, h⟩ := Option.bind_eq_some_iff.1 h
  refine TL.run ft_cursitorref08_ok [1] rfl rfl ?_
  refine TL.ce rfl .u (.fn Tryz.call42 rfl) (gRBytes_spec a0 2 _ hx4) (fun _ hs => (RX.reads_triv _ _)) rfl ?_
  replace h := guard_some h
  obtain ⟨c5, h⟩ := h
  refine TL.q rfl .u (Ex.sAdd rfl rfl c5) rfl ?_
  refine TL.run ft_cursitorref08_ok [4] rfl rfl ?_
  obtain rfl := Option.some.inj h
  exact TL.nil (X.seq (T.ret (X.done1 [0] Tryz.results10 (RV.tm rfl) ⟨rfl, rfl, rfl⟩ (by rfl) (.inl rfl))))
def f_r08_Value (a0 : Int) : Option (List UInt8) := (gRBytes 0 2).bind fun x1 => (gRBytes a0 4).bind fun x3 => if x1.length + x3.length ≤ 9223372036854775807 then some (x1 ++ x3) else none
set_option maxRecDepth 100000 in
set_option maxHeartbeats 4000000 in
theorem f_r08_Value_spec (a0 : Int) (r : List UInt8) (h : f_r08_Value a0 = some r) : SpecX Tryz.prog 11 #[.int .i64 a0] .triv (EmpR) (fun v A' N => v = .string (bsOf r) ∧ A' = EmpR ∧ N = []) := by
  refine enterA Tryz.func11 rfl Tryz.ntmps11 rfl ?_
  intro F w hX
  unfold f_r08_Value at h
  refine T.seq (T.region rfl ?_)
  refine TL.run ft_cursitorref08_ok [0] rfl rfl ?_
  obtain ⟨x1, hx2, h⟩ := Option.bind_eq_some_iff.1 h
  refine TL.nil (X.seq (T.seq (T.region rfl ?_)))
  refine TL.ce rfl .u (.fn Tryz.call42 rfl) (gRBytes_spec 0 2 _ hx2) (fun _ hs => (RX.reads_triv _ _)) rfl ?_
  obtain ⟨x3, hx4, h⟩ := Option.bind_eq_some_iff.1 h
  refine TL.run ft_cursitorref08_ok [1] rfl rfl ?_
  refine TL.ce rfl .u (.fn Tryz.call42 rfl) (gRBytes_spec a0 4 _ hx4) (fun _ hs => (RX.reads_triv _ _)) rfl ?_
  replace h := guard_some h
  obtain ⟨c5, h⟩ := h
  refine TL.q rfl .u (Ex.sAdd rfl rfl c5) rfl ?_
  refine TL.run ft_cursitorref08_ok [4] rfl rfl ?_
  obtain rfl := Option.some.inj h
  exact TL.nil (X.seq (T.ret (X.done1 [0] Tryz.results11 (RV.tm rfl) ⟨rfl, rfl, rfl⟩ (by rfl) (.inl rfl))))
def f_r08_ReadKey (a0 : List UInt8) : Option (Int × Int) := if (a0.length : Int) < 2 then some (0, 1) else (if 2 ≤ a0.length then ((gRInt (a0.take 2)).bind fun x3 => if x3 = 0 then (if (a0.length : Int) < 4 then some (0, 1) else (if 4 ≤ a0.length then ((gRInt ((a0.drop 2).take 2)).bind fun x8 => if x8 = 0 then (if (a0.length : Int) > 4 then some (0, 2) else some (x8, 0)) else (if x8 = 1 then (if (a0.length : Int) > 4 then some (0, 2) else some (x8, 0)) else some (0, 12))) else none)) else some (0, 7)) else none)
set_option maxRecDepth 100000 in
set_option maxHeartbeats 4000000 in
theorem f_r08_ReadKey_spec (a0 : List UInt8) (r : Int × Int) (h : f_r08_ReadKey a0 = some r) : SpecX Tryz.prog 104 #[.string (bsOf a0)] .triv (EmpR) (fun v A' N => v = .tuple #[.int .i64 r.1, .int .i64 r.2] ∧ A' = EmpR ∧ N = []) := by
  refine enterA Tryz.func104 rfl Tryz.ntmps104 rfl ?_
  intro F w hX
  unfold f_r08_ReadKey at h
  refine T.seq (T.region rfl ?_)
  refine TL.run ft_cursitorref08_ok [0, 1] rfl rfl ?_
  refine TL.nil (X.seq (T.seq (T.seq (T.region rfl ?_))))
  refine TL.run ft_cursitorref08_ok [0] rfl rfl ?_
  refine TL.q rfl .u (Ex.lenB rfl Tryz.runUnderlying9) rfl ?_
  refine TL.run ft_cursitorref08_ok [2] rfl rfl ?_
  by_cases c1 : (a0.length : Int) < 2
  · replace h := ifT c1 h
    refine TL.nil (X.seq ?_)
    refine T.yes rfl (decide_eq_true c1) ?_
    refine T.seq (T.region rfl ?_)
    refine TL.run ft_cursitorref08_ok [0, 1] rfl rfl ?_
    obtain rfl := Option.some.inj h
    exact TL.nil (X.seq (T.ret (X.rs (X.done2 [0] Tryz.results104 (RV.tm rfl) (RV.tm rfl) ⟨rfl, rfl, rfl⟩ (by rfl) (.inl rfl)))))
  · replace h := ifF c1 h
    refine TL.nil (X.seq ?_)
    refine T.no rfl (decide_eq_false c1) ?_
    refine T.skip (X.seq (T.seq (T.seq (T.region rfl ?_))))
    replace h := guard_some h
    obtain ⟨c2, h⟩ := h
    refine TL.run ft_cursitorref08_ok [0] rfl rfl ?_
    replace c2 : 2 ≤ a0.length := c2
    refine TL.q rfl .u (Ex.sSl (p := 0) (q := 2) (m := (a0.take 2)) rfl Tryz.runUnderlying9 .none (.some rfl rfl) (by first | omega | (dsimp only; omega)) (by simp)) rfl ?_
    obtain ⟨x3, hx4, h⟩ := Option.bind_eq_some_iff.1 h
    refine TL.ce rfl .u (.fn Tryz.call63 rfl) (SpecX.pure (fun w => gRInt_spec (a0.take 2) _ hx4 w)) (fun _ _ => RX.reads_triv _ _) rfl ?_
    refine TL.run ft_cursitorref08_ok [3] rfl rfl ?_
    by_cases c5 : x3 = 0
    · replace h := ifT c5 h
      refine TL.nil (X.seq ?_)
      refine T.no rfl (bn_f (decide_eq_true c5)) ?_
      refine T.skip (X.seq (T.seq (T.seq (T.region rfl ?_))))
      refine TL.run ft_cursitorref08_ok [0] rfl rfl ?_
      refine TL.q rfl .u (Ex.lenB rfl Tryz.runUnderlying9) rfl ?_
      refine TL.run ft_cursitorref08_ok [2] rfl rfl ?_
      by_cases c6 : (a0.length : Int) < 4
      · replace h := ifT c6 h
        refine TL.nil (X.seq ?_)
        refine T.yes rfl (decide_eq_true c6) ?_
        refine T.seq (T.region rfl ?_)
        refine TL.run ft_cursitorref08_ok [0, 1] rfl rfl ?_
        obtain rfl := Option.some.inj h
        exact TL.nil (X.seq (T.ret (X.rs (X.done2 [0] Tryz.results104 (RV.tm rfl) (RV.tm rfl) ⟨rfl, rfl, rfl⟩ (by rfl) (.inl rfl)))))
      · replace h := ifF c6 h
        refine TL.nil (X.seq ?_)
        refine T.no rfl (decide_eq_false c6) ?_
        refine T.skip (X.seq (T.seq (T.region rfl ?_)))
        replace h := guard_some h
        obtain ⟨c7, h⟩ := h
        refine TL.run ft_cursitorref08_ok [0] rfl rfl ?_
        replace c7 : 4 ≤ a0.length := c7
        refine TL.q rfl .u (Ex.sSl (p := 2) (q := 4) (m := ((a0.drop 2).take 2)) rfl Tryz.runUnderlying9 (.some rfl rfl) (.some rfl rfl) (by first | omega | (dsimp only; omega)) rfl) rfl ?_
        obtain ⟨x8, hx9, h⟩ := Option.bind_eq_some_iff.1 h
        refine TL.ce rfl .u (.fn Tryz.call63 rfl) (SpecX.pure (fun w => gRInt_spec ((a0.drop 2).take 2) _ hx9 w)) (fun _ _ => RX.reads_triv _ _) rfl ?_
        refine TL.run ft_cursitorref08_ok [3] rfl rfl ?_
        refine TL.nil (X.seq (T.seq (T.seq (T.region rfl ?_))))
        by_cases c10 : x8 = 0
        · replace h := ifT c10 h
          refine TL.run ft_cursitorref08_ok [0, 1, 2] rfl rfl ?_
          refine TL.no rfl (.gn rfl rfl (bn_f (decide_eq_true c10))) rfl ?_
          refine TL.no rfl (.gn rfl rfl (bn_f (decide_eq_true c10))) rfl ?_
          refine TL.q rfl .u (Ex.pn rfl (bn_f (decide_eq_true c10)) rfl) rfl ?_
          refine TL.nil (X.seq ?_)
          refine T.no rfl rfl ?_
          refine T.skip (X.seq (T.seq (T.seq (T.region rfl ?_))))
          refine TL.run ft_cursitorref08_ok [0] rfl rfl ?_
          refine TL.q rfl .u (Ex.lenB rfl Tryz.runUnderlying9) rfl ?_
          refine TL.run ft_cursitorref08_ok [2] rfl rfl ?_
          by_cases c11 : (a0.length : Int) > 4
          · replace h := ifT c11 h
            refine TL.nil (X.seq ?_)
            refine T.yes rfl (decide_eq_true c11) ?_
            refine T.seq (T.region rfl ?_)
            refine TL.run ft_cursitorref08_ok [0, 1] rfl rfl ?_
            obtain rfl := Option.some.inj h
            exact TL.nil (X.seq (T.ret (X.rs (X.done2 [0] Tryz.results104 (RV.tm rfl) (RV.tm rfl) ⟨rfl, rfl, rfl⟩ (by rfl) (.inl rfl)))))
          · replace h := ifF c11 h
            refine TL.nil (X.seq ?_)
            refine T.no rfl (decide_eq_false c11) ?_
            refine T.skip (X.seq (T.seq (T.region rfl ?_)))
            refine TL.run ft_cursitorref08_ok [0, 1, 2] rfl rfl ?_
            obtain rfl := Option.some.inj h
            exact TL.nil (X.seq (T.ret (X.done2 [0] Tryz.results104 (RV.tm rfl) (RV.tm rfl) ⟨rfl, rfl, rfl⟩ (by rfl) (.inl rfl))))
        · replace h := ifF c10 h
          refine TL.run ft_cursitorref08_ok [0, 1, 2] rfl rfl ?_
          refine TL.q rfl (.g rfl rfl (bn_t (decide_eq_false c10))) (Ex.ft ft_cursitorref08_ok rfl) rfl ?_
          refine TL.q rfl (.g rfl rfl (bn_t (decide_eq_false c10))) (Ex.ft ft_cursitorref08_ok rfl) rfl ?_
          refine TL.q rfl .u (Ex.py rfl (bn_t (decide_eq_false c10)) rfl) rfl ?_
          by_cases c12 : x8 = 1
          · replace h := ifT c12 h
            refine TL.nil (X.seq ?_)
            refine T.no rfl (bn_f (decide_eq_true c12)) ?_
            refine T.skip (X.seq (T.seq (T.seq (T.region rfl ?_))))
            refine TL.run ft_cursitorref08_ok [0] rfl rfl ?_
            refine TL.q rfl .u (Ex.lenB rfl Tryz.runUnderlying9) rfl ?_
            refine TL.run ft_cursitorref08_ok [2] rfl rfl ?_
            by_cases c13 : (a0.length : Int) > 4
            · replace h := ifT c13 h
              refine TL.nil (X.seq ?_)
              refine T.yes rfl (decide_eq_true c13) ?_
              refine T.seq (T.region rfl ?_)
              refine TL.run ft_cursitorref08_ok [0, 1] rfl rfl ?_
              obtain rfl := Option.some.inj h
              exact TL.nil (X.seq (T.ret (X.rs (X.done2 [0] Tryz.results104 (RV.tm rfl) (RV.tm rfl) ⟨rfl, rfl, rfl⟩ (by rfl) (.inl rfl)))))
            · replace h := ifF c13 h
              refine TL.nil (X.seq ?_)
              refine T.no rfl (decide_eq_false c13) ?_
              refine T.skip (X.seq (T.seq (T.region rfl ?_)))
              refine TL.run ft_cursitorref08_ok [0, 1, 2] rfl rfl ?_
              obtain rfl := Option.some.inj h
              exact TL.nil (X.seq (T.ret (X.done2 [0] Tryz.results104 (RV.tm rfl) (RV.tm rfl) ⟨rfl, rfl, rfl⟩ (by rfl) (.inl rfl))))
          · replace h := ifF c12 h
            refine TL.nil (X.seq ?_)
            refine T.yes rfl (bn_t (decide_eq_false c12)) ?_
            refine T.seq (T.region rfl ?_)
            refine TL.run ft_cursitorref08_ok [0, 1] rfl rfl ?_
            obtain rfl := Option.some.inj h
            exact TL.nil (X.seq (T.ret (X.rs (X.done2 [0] Tryz.results104 (RV.tm rfl) (RV.tm rfl) ⟨rfl, rfl, rfl⟩ (by rfl) (.inl rfl)))))
    · replace h := ifF c5 h
      refine TL.nil (X.seq ?_)
      refine T.yes rfl (bn_t (decide_eq_false c5)) ?_
      refine T.seq (T.region rfl ?_)
      refine TL.run ft_cursitorref08_ok [0, 1] rfl rfl ?_
      obtain rfl := Option.some.inj h
      exact TL.nil (X.seq (T.ret (X.rs (X.done2 [0] Tryz.results104 (RV.tm rfl) (RV.tm rfl) ⟨rfl, rfl, rfl⟩ (by rfl) (.inl rfl)))))
def f_r08_ReadValue (a0 : List UInt8) : Option (Int × Int) := if (a0.length : Int) < 2 then some (0, 1) else (if 2 ≤ a0.length then ((gRInt (a0.take 2)).bind fun x3 => if x3 = 0 then (if (a0.length : Int) < 6 then some (0, 1) else (if 6 ≤ a0.length then ((gRInt ((a0.drop 2).take 4)).bind fun x8 => if x8 < 0 then some (0, 11) else (if (a0.length : Int) > 6 then some (0, 2) else some (x8, 0))) else none)) else some (0, 7)) else none)
set_option maxRecDepth 100000 in
set_option maxHeartbeats 4000000 in
theorem f_r08_ReadValue_spec (a0 : List UInt8) (r : Int × Int) (h : f_r08_ReadValue a0 = some r) : SpecX Tryz.prog 105 #[.string (bsOf a0)] .triv (EmpR) (fun v A' N => v = .tuple #[.int .i64 r.1, .int .i64 r.2] ∧ A' = EmpR ∧ N = []) := by
  refine enterA Tryz.func105 rfl Tryz.ntmps105 rfl ?_
  intro F w hX
  unfold f_r08_ReadValue at h
  refine T.seq (T.region rfl ?_)
  refine TL.run ft_cursitorref08_ok [0, 1] rfl rfl ?_
  refine TL.nil (X.seq (T.seq (T.seq (T.region rfl ?_))))
  refine TL.run ft_cursitorref08_ok [0] rfl rfl ?_
  refine TL.q rfl .u (Ex.lenB rfl Tryz.runUnderlying9) rfl ?_
  refine TL.run ft_cursitorref08_ok [2] rfl rfl ?_
  by_cases c1 : (a0.length : Int) < 2
  · replace h := ifT c1 h
    refine TL.nil (X.seq ?_)
    refine T.yes rfl (decide_eq_true c1) ?_
    refine T.seq (T.region rfl ?_)
    refine TL.run ft_cursitorref08_ok [0, 1] rfl rfl ?_
    obtain rfl := Option.some.inj h
    exact TL.nil (X.seq (T.ret (X.rs (X.done2 [0] Tryz.results105 (RV.tm rfl) (RV.tm rfl) ⟨rfl, rfl, rfl⟩ (by rfl) (.inl rfl)))))
  · replace h := ifF c1 h
    refine TL.nil (X.seq ?_)
    refine T.no rfl (decide_eq_false c1) ?_
    refine T.skip (X.seq (T.seq (T.seq (T.region rfl ?_))))
    replace h := guard_some h
    obtain ⟨c2, h⟩ := h
    refine TL.run ft_cursitorref08_ok [0] rfl rfl ?_
    replace c2 : 2 ≤ a0.length := c2
    refine TL.q rfl .u (Ex.sSl (p := 0) (q := 2) (m := (a0.take 2)) rfl Tryz.runUnderlying9 .none (.some rfl rfl) (by first | omega | (dsimp only; omega)) (by simp)) rfl ?_
    obtain ⟨x3, hx4, h⟩ := Option.bind_eq_some_iff.1 h
    refine TL.ce rfl .u (.fn Tryz.call63 rfl) (SpecX.pure (fun w => gRInt_spec (a0.take 2) _ hx4 w)) (fun _ _ => RX.reads_triv _ _) rfl ?_
    refine TL.run ft_cursitorref08_ok [3] rfl rfl ?_
    by_cases c5 : x3 = 0
    · replace h := ifT c5 h
      refine TL.nil (X.seq ?_)
      refine T.no rfl (bn_f (decide_eq_true c5)) ?_
      refine T.skip (X.seq (T.seq (T.seq (T.region rfl ?_))))
      refine TL.run ft_cursitorref08_ok [0] rfl rfl ?_
      refine TL.q rfl .u (Ex.lenB rfl Tryz.runUnderlying9) rfl ?_
      refine TL.run ft_cursitorref08_ok [2] rfl rfl ?_
      by_cases c6 : (a0.length : Int) < 6
      · replace h := ifT c6 h
        refine TL.nil (X.seq ?_)
        refine T.yes rfl (decide_eq_true c6) ?_
        refine T.seq (T.region rfl ?_)
        refine TL.run ft_cursitorref08_ok [0, 1] rfl rfl ?_
        obtain rfl := Option.some.inj h
        exact TL.nil (X.seq (T.ret (X.rs (X.done2 [0] Tryz.results105 (RV.tm rfl) (RV.tm rfl) ⟨rfl, rfl, rfl⟩ (by rfl) (.inl rfl)))))
      · replace h := ifF c6 h
        refine TL.nil (X.seq ?_)
        refine T.no rfl (decide_eq_false c6) ?_
        refine T.skip (X.seq (T.seq (T.region rfl ?_)))
        replace h := guard_some h
        obtain ⟨c7, h⟩ := h
        refine TL.run ft_cursitorref08_ok [0] rfl rfl ?_
        replace c7 : 6 ≤ a0.length := c7
        refine TL.q rfl .u (Ex.sSl (p := 2) (q := 6) (m := ((a0.drop 2).take 4)) rfl Tryz.runUnderlying9 (.some rfl rfl) (.some rfl rfl) (by first | omega | (dsimp only; omega)) rfl) rfl ?_
        obtain ⟨x8, hx9, h⟩ := Option.bind_eq_some_iff.1 h
        refine TL.ce rfl .u (.fn Tryz.call63 rfl) (SpecX.pure (fun w => gRInt_spec ((a0.drop 2).take 4) _ hx9 w)) (fun _ _ => RX.reads_triv _ _) rfl ?_
        refine TL.run ft_cursitorref08_ok [3] rfl rfl ?_
        refine TL.nil (X.seq (T.seq (T.seq (T.region rfl ?_))))
        refine TL.run ft_cursitorref08_ok [0, 1] rfl rfl ?_
        by_cases c10 : x8 < 0
        · replace h := ifT c10 h
          refine TL.nil (X.seq ?_)
          refine T.yes rfl (decide_eq_true c10) ?_
          refine T.seq (T.region rfl ?_)
          refine TL.run ft_cursitorref08_ok [0, 1] rfl rfl ?_
          obtain rfl := Option.some.inj h
          exact TL.nil (X.seq (T.ret (X.rs (X.done2 [0] Tryz.results105 (RV.tm rfl) (RV.tm rfl) ⟨rfl, rfl, rfl⟩ (by rfl) (.inl rfl)))))
        · replace h := ifF c10 h
          refine TL.nil (X.seq ?_)
          refine T.no rfl (decide_eq_false c10) ?_
          refine T.skip (X.seq (T.seq (T.seq (T.region rfl ?_))))
          refine TL.run ft_cursitorref08_ok [0] rfl rfl ?_
          refine TL.q rfl .u (Ex.lenB rfl Tryz.runUnderlying9) rfl ?_
          refine TL.run ft_cursitorref08_ok [2] rfl rfl ?_
          by_cases c11 : (a0.length : Int) > 6
          · replace h := ifT c11 h
            refine TL.nil (X.seq ?_)
            refine T.yes rfl (decide_eq_true c11) ?_
            refine T.seq (T.region rfl ?_)
            refine TL.run ft_cursitorref08_ok [0, 1] rfl rfl ?_
            obtain rfl := Option.some.inj h
            exact TL.nil (X.seq (T.ret (X.rs (X.done2 [0] Tryz.results105 (RV.tm rfl) (RV.tm rfl) ⟨rfl, rfl, rfl⟩ (by rfl) (.inl rfl)))))
          · replace h := ifF c11 h
            refine TL.nil (X.seq ?_)
            refine T.no rfl (decide_eq_false c11) ?_
            refine T.skip (X.seq (T.seq (T.region rfl ?_)))
            refine TL.run ft_cursitorref08_ok [0, 1, 2] rfl rfl ?_
            obtain rfl := Option.some.inj h
            exact TL.nil (X.seq (T.ret (X.done2 [0] Tryz.results105 (RV.tm rfl) (RV.tm rfl) ⟨rfl, rfl, rfl⟩ (by rfl) (.inl rfl))))
    · replace h := ifF c5 h
      refine TL.nil (X.seq ?_)
      refine T.yes rfl (bn_t (decide_eq_false c5)) ?_
      refine T.seq (T.region rfl ?_)
      refine TL.run ft_cursitorref08_ok [0, 1] rfl rfl ?_
      obtain rfl := Option.some.inj h
      exact TL.nil (X.seq (T.ret (X.rs (X.done2 [0] Tryz.results105 (RV.tm rfl) (RV.tm rfl) ⟨rfl, rfl, rfl⟩ (by rfl) (.inl rfl)))))
def f_r08_Read (a0 : Rec) : Option (Int × Int × Int) := if a0.fKey.null = true then some (0, 0, 12) else (if a0.fValue.null = true then some (0, 0, 12) else (if (a0.fHeaders.length : Int) > 0 then some (0, 0, 12) else (if a0.fOffset = 0 then ((f_r08_ReadKey a0.fKey.data).bind fun (x8, x9) => if x9 = 0 then ((f_r08_ReadValue a0.fValue.data).bind fun (x12, x13) => if x13 = 0 then some (x8, x12, 0) else some (0, 0, x13)) else some (0, 0, x9)) else some (0, 0, 12))))
set_option maxRecDepth 100000 in
set_option maxHeartbeats 4000000 in
theorem f_r08_Read_spec (a0 : Rec) (A1 : Option Addr) (c2 : Nat) (r : Int × Int × Int) (h : f_r08_Read a0 = some r) : SpecX Tryz.prog 46 #[.agg #[.int .i64 a0.fTime, .int .i64 a0.fOffset, .bool a0.fKey.null, .string (bsOf a0.fKey.data), .bool a0.fValue.null, .string (bsOf a0.fValue.data), .slice A1 a0.fHeaders.length c2]] (RX.of (sliceRd 3 Hd_rd) [.slice A1 a0.fHeaders.length c2] a0.fHeaders) (EmpR) (fun v A' N => v = .tuple #[.int .i64 r.1, .int .i64 r.2.1, .int .i64 r.2.2] ∧ A' = EmpR ∧ N = []) := by
  refine enterA Tryz.func46 rfl Tryz.ntmps46 rfl ?_
  intro F w hX
  unfold f_r08_Read at h
  refine T.seq (T.region rfl ?_)
  refine TL.box rfl .u rfl rfl (fun b3 => ?_)
  refine TL.run ft_cursitorref08_ok [1, 2, 3] rfl rfl ?_
  refine TL.nil (X.seq (T.seq (T.seq (T.region rfl ?_))))
  refine TL.run ft_cursitorref08_ok [0, 1] rfl rfl ?_
  refine TL.q rfl .u (Ex.b1 0 rfl Tryz.isAgg4 rfl rfl) rfl ?_
  by_cases c4 : a0.fKey.null = true
  · replace h := ifT c4 h
    refine TL.run ft_cursitorref08_ok [3] rfl rfl ?_
    refine TL.no rfl (.gn rfl rfl c4) rfl ?_
    refine TL.no rfl (.gn rfl rfl c4) rfl ?_
    refine TL.no rfl (.gn rfl rfl c4) rfl ?_
    refine TL.q rfl .u (Ex.py rfl c4 rfl) rfl ?_
    refine TL.run ft_cursitorref08_ok [8] rfl rfl ?_
    refine TL.no rfl (.gn rfl rfl rfl) rfl ?_
    refine TL.no rfl (.gn rfl rfl rfl) rfl ?_
    refine TL.no rfl (.gn rfl rfl rfl) rfl ?_
    refine TL.no rfl (.gn rfl rfl rfl) rfl ?_
    refine TL.q rfl .u (Ex.py rfl rfl rfl) rfl ?_
    refine TL.run ft_cursitorref08_ok [14] rfl rfl ?_
    refine TL.no rfl (.gn rfl rfl rfl) rfl ?_
    refine TL.no rfl (.gn rfl rfl rfl) rfl ?_
    refine TL.no rfl (.gn rfl rfl rfl) rfl ?_
    refine TL.q rfl .u (Ex.py rfl rfl rfl) rfl ?_
    refine TL.nil (X.seq ?_)
    refine T.yes rfl rfl ?_
    refine T.seq (T.region rfl ?_)
    refine TL.run ft_cursitorref08_ok [0, 1, 2] rfl rfl ?_
    obtain rfl := Option.some.inj h
    exact TL.nil (X.seq (T.ret (X.rs (X.done3 [1] Tryz.results46 (RV.tm rfl) (RV.tm rfl) (RV.tm rfl) ⟨rfl, rfl, rfl⟩ (by rfl) (.inl rfl)))))
  · replace h := ifF c4 h
    replace c4 := eq_false_of_ne_true c4
    refine TL.run ft_cursitorref08_ok [3] rfl rfl ?_
    refine TL.q rfl (.g rfl rfl c4) (Ex.ft ft_cursitorref08_ok rfl) rfl ?_
    refine TL.q rfl (.g rfl rfl c4) (Ex.ft ft_cursitorref08_ok rfl) rfl ?_
    refine TL.q rfl (.g rfl rfl c4) (Ex.b1 0 rfl Tryz.isAgg4 rfl rfl) rfl ?_
    refine TL.q rfl .u (Ex.pn rfl c4 rfl) rfl ?_
    by_cases c5 : a0.fValue.null = true
    · replace h := ifT c5 h
      refine TL.run ft_cursitorref08_ok [8] rfl rfl ?_
      refine TL.no rfl (.gn rfl rfl c5) rfl ?_
      refine TL.no rfl (.gn rfl rfl c5) rfl ?_
      refine TL.no rfl (.gn rfl rfl c5) rfl ?_
      refine TL.no rfl (.gn rfl rfl c5) rfl ?_
      refine TL.q rfl .u (Ex.py rfl c5 rfl) rfl ?_
      refine TL.run ft_cursitorref08_ok [14] rfl rfl ?_
      refine TL.no rfl (.gn rfl rfl rfl) rfl ?_
      refine TL.no rfl (.gn rfl rfl rfl) rfl ?_
      refine TL.no rfl (.gn rfl rfl rfl) rfl ?_
      refine TL.q rfl .u (Ex.py rfl rfl rfl) rfl ?_
      refine TL.nil (X.seq ?_)
      refine T.yes rfl rfl ?_
      refine T.seq (T.region rfl ?_)
      refine TL.run ft_cursitorref08_ok [0, 1, 2] rfl rfl ?_
      obtain rfl := Option.some.inj h
      exact TL.nil (X.seq (T.ret (X.rs (X.done3 [1] Tryz.results46 (RV.tm rfl) (RV.tm rfl) (RV.tm rfl) ⟨rfl, rfl, rfl⟩ (by rfl) (.inl rfl)))))
    · replace h := ifF c5 h
      replace c5 := eq_false_of_ne_true c5
      refine TL.run ft_cursitorref08_ok [8] rfl rfl ?_
      refine TL.q rfl (.g rfl rfl c5) (Ex.ft ft_cursitorref08_ok rfl) rfl ?_
      refine TL.q rfl (.g rfl rfl c5) (Ex.b1 0 rfl Tryz.isAgg36 rfl rfl) rfl ?_
      refine TL.q rfl (.g rfl rfl c5) (Ex.lenS rfl Tryz.runUnderlying36) rfl ?_
      refine TL.q rfl (.g rfl rfl c5) (Ex.ft ft_cursitorref08_ok rfl) rfl ?_
      refine TL.q rfl .u (Ex.pn rfl c5 rfl) rfl ?_
      by_cases c6 : (a0.fHeaders.length : Int) > 0
      · replace h := ifT c6 h
        refine TL.run ft_cursitorref08_ok [14] rfl rfl ?_
        refine TL.no rfl (.gn rfl rfl (decide_eq_true c6)) rfl ?_
        refine TL.no rfl (.gn rfl rfl (decide_eq_true c6)) rfl ?_
        refine TL.no rfl (.gn rfl rfl (decide_eq_true c6)) rfl ?_
        refine TL.q rfl .u (Ex.py rfl (decide_eq_true c6) rfl) rfl ?_
        refine TL.nil (X.seq ?_)
        refine T.yes rfl rfl ?_
        refine T.seq (T.region rfl ?_)
        refine TL.run ft_cursitorref08_ok [0, 1, 2] rfl rfl ?_
        obtain rfl := Option.some.inj h
        exact TL.nil (X.seq (T.ret (X.rs (X.done3 [1] Tryz.results46 (RV.tm rfl) (RV.tm rfl) (RV.tm rfl) ⟨rfl, rfl, rfl⟩ (by rfl) (.inl rfl)))))
      · replace h := ifF c6 h
        refine TL.run ft_cursitorref08_ok [14] rfl rfl ?_
        refine TL.q rfl (.g rfl rfl (decide_eq_false c6)) (Ex.ft ft_cursitorref08_ok rfl) rfl ?_
        refine TL.q rfl (.g rfl rfl (decide_eq_false c6)) (Ex.b1 0 rfl Tryz.isAgg3 rfl rfl) rfl ?_
        refine TL.q rfl (.g rfl rfl (decide_eq_false c6)) (Ex.ft ft_cursitorref08_ok rfl) rfl ?_
        refine TL.q rfl .u (Ex.pn rfl (decide_eq_false c6) rfl) rfl ?_
        by_cases c7 : a0.fOffset = 0
        · replace h := ifT c7 h
          refine TL.nil (X.seq ?_)
          refine T.no rfl (bn_f (decide_eq_true c7)) ?_
          refine T.skip (X.seq (T.seq (T.region rfl ?_)))
          refine TL.run ft_cursitorref08_ok [0, 1] rfl rfl ?_
          refine TL.q rfl .u (Ex.b1 0 rfl Tryz.isAgg9 rfl rfl) rfl ?_
          obtain ⟨⟨x8, x9⟩, hx10, h⟩ := Option.bind_eq_some_iff.1 h
          try dsimp only at h
          refine TL.ce rfl .u (.fn Tryz.call104 rfl) (f_r08_ReadKey_spec a0.fKey.data _ hx10) (fun _ hs => (RX.reads_triv _ _)) rfl ?_
          refine TL.run ft_cursitorref08_ok [4, 5, 6, 7, 8] rfl rfl ?_
          refine TL.nil (X.seq (T.seq (T.seq (T.region rfl ?_))))
          refine TL.run ft_cursitorref08_ok [0, 1] rfl rfl ?_
          by_cases c11 : x9 = 0
          · replace h := ifT c11 h
            refine TL.nil (X.seq ?_)
            refine T.no rfl (bn_f (decide_eq_true c11)) ?_
            refine T.skip (X.seq (T.seq (T.region rfl ?_)))
            refine TL.run ft_cursitorref08_ok [0, 1] rfl rfl ?_
            refine TL.q rfl .u (Ex.b1 0 rfl Tryz.isAgg9 rfl rfl) rfl ?_
            obtain ⟨⟨x12, x13⟩, hx14, h⟩ := Option.bind_eq_some_iff.1 h
            try dsimp only at h
            refine TL.ce rfl .u (.fn Tryz.call105 rfl) (f_r08_ReadValue_spec a0.fValue.data _ hx14) (fun _ hs => (RX.reads_triv _ _)) rfl ?_
            refine TL.run ft_cursitorref08_ok [4, 5, 6, 7, 8] rfl rfl ?_
            refine TL.nil (X.seq (T.seq (T.seq (T.region rfl ?_))))
            refine TL.run ft_cursitorref08_ok [0, 1] rfl rfl ?_
            by_cases c15 : x13 = 0
            · replace h := ifT c15 h
              refine TL.nil (X.seq ?_)
              refine T.no rfl (bn_f (decide_eq_true c15)) ?_
              refine T.skip (X.seq (T.seq (T.region rfl ?_)))
              refine TL.run ft_cursitorref08_ok [0, 1, 2, 3, 4] rfl rfl ?_
              obtain rfl := Option.some.inj h
              exact TL.nil (X.seq (T.ret (X.done3 [1] Tryz.results46 (RV.tm rfl) (RV.tm rfl) (RV.tm rfl) ⟨rfl, rfl, rfl⟩ (by rfl) (.inl rfl))))
            · replace h := ifF c15 h
              refine TL.nil (X.seq ?_)
              refine T.yes rfl (bn_t (decide_eq_false c15)) ?_
              refine T.seq (T.region rfl ?_)
              refine TL.run ft_cursitorref08_ok [0, 1, 2, 3] rfl rfl ?_
              obtain rfl := Option.some.inj h
              exact TL.nil (X.seq (T.ret (X.rs (X.done3 [1] Tryz.results46 (RV.tm rfl) (RV.tm rfl) (RV.tm rfl) ⟨rfl, rfl, rfl⟩ (by rfl) (.inl rfl)))))
          · replace h := ifF c11 h
            refine TL.nil (X.seq ?_)
            refine T.yes rfl (bn_t (decide_eq_false c11)) ?_
            refine T.seq (T.region rfl ?_)
            refine TL.run ft_cursitorref08_ok [0, 1, 2, 3] rfl rfl ?_
            obtain rfl := Option.some.inj h
            exact TL.nil (X.seq (T.ret (X.rs (X.done3 [1] Tryz.results46 (RV.tm rfl) (RV.tm rfl) (RV.tm rfl) ⟨rfl, rfl, rfl⟩ (by rfl) (.inl rfl)))))
        · replace h := ifF c7 h
          refine TL.nil (X.seq ?_)
          refine T.yes rfl (bn_t (decide_eq_false c7)) ?_
          refine T.seq (T.region rfl ?_)
          refine TL.run ft_cursitorref08_ok [0, 1, 2] rfl rfl ?_
          obtain rfl := Option.some.inj h
          exact TL.nil (X.seq (T.ret (X.rs (X.done3 [1] Tryz.results46 (RV.tm rfl) (RV.tm rfl) (RV.tm rfl) ⟨rfl, rfl, rfl⟩ (by rfl) (.inl rfl)))))
end Go.Proofs.YtcoppaggpbfcmaaGreat.Sl
namespace Go.Proofs.YtcoppaggpbfcmaaGreat.Sl
open Go.RowKit
set_option linter.unusedVariables false
set_option linter.unusedSimpArgs false
set_option maxRecDepth 100000
def ft_cursitorref10 : FTab := []
theorem ft_cursitorref10_ok : (ft_cursitorref10).OK Tryz.prog := trivial
theorem sok_cursitorref10_106_12 : SOK Tryz.prog 106 3 12 1 #[.int .i64 0, .int .i64 0, .int .i64 0, .int .i64 0, .int .i64 0, .int .i64 0, .int .i64 0, .int .i64 0, .int .i64 0, .int .i64 0, .int .i64 0, .int .i64 0] := SOK.mk Tryz.runUnderlying106 Tryz.sizeOf3 Tryz.zeroValue3 (by decide) (by kernel_rfl)
def f_r10_Bytes_l1 (a0 : List Int) : Nat → List UInt8 → Bool → List UInt8 → Nat → Option (Lp (List UInt8 × Bool) (List UInt8 × Bool × List UInt8 × Nat))
  | 0, _, _, _, _ => none
  | m11 + 1, y4, y5, y6, k7 => if (k7 : Int) < 12 then ((a0[k7]?).bind fun x16 => if (k7 : Int) = 3 then ((if x16 < 0 then some true else (if x16 > 4294967295 then some true else some false)).bind fun y21 => if y21 = true then (some (Lp.ret ([], false))) else ((if x16 > 2147483647 then (if -9223372036854775808 ≤ (x16 - 4294967296) ∧ (x16 - 4294967296) ≤ 9223372036854775807 then some (x16 - 4294967296) else none) else some x16).bind fun y28 => (gRBytes 2 1).bind fun x32 => if y6.length + x32.length ≤ 9223372036854775807 then (([8, 4, 4, 4, 2, 4, 8, 8, 8, 2, 4, 4][k7]?).bind fun x35 => (gRFits y28 x35).bind fun x38 => if x38 = true then ((gRBytes y28 x35).bind fun x41 => if (y6 ++ x32).length + x41.length ≤ 9223372036854775807 then (if -9223372036854775808 ≤ ((k7 : Int) + 1) ∧ ((k7 : Int) + 1) ≤ 9223372036854775807 then (f_r10_Bytes_l1 a0 m11 y4 y5 ((y6 ++ x32) ++ x41) (k7 + 1)) else none) else none) else (some (Lp.ret ([], false)))) else none)) else (([8, 4, 4, 4, 2, 4, 8, 8, 8, 2, 4, 4][k7]?).bind fun x45 => (gRFits x16 x45).bind fun x48 => if x48 = true then ((gRBytes x16 x45).bind fun x51 => if y6.length + x51.length ≤ 9223372036854775807 then (if -9223372036854775808 ≤ ((k7 : Int) + 1) ∧ ((k7 : Int) + 1) ≤ 9223372036854775807 then (f_r10_Bytes_l1 a0 m11 y4 y5 (y6 ++ x51) (k7 + 1)) else none) else none) else (some (Lp.ret ([], false))))) else (some (Lp.go (y4, y5, y6, k7)))
def f_r10_Bytes (a0 : List Int) : Option (List UInt8 × Bool) := (f_r10_Bytes_l1 a0 ((12 : Int).toNat + 1) [] false [] 0).bind fun e => match e with | .ret r => some r | .go (y55, y56, y57, k58) => some (y57, true)
set_option maxRecDepth 100000 in
set_option maxHeartbeats 4000000 in
theorem f_r10_Bytes_spec (a0 : List Int) (A1 : Option Addr) (c2 : Nat) (r : List UInt8 × Bool) (h : f_r10_Bytes a0 = some r) : SpecX Tryz.prog 52 #[.slice A1 a0.length c2] (RX.of (sliceRd 1 intE) [.slice A1 a0.length c2] a0) (EmpR) (fun v A' N => v = .tuple #[.string (bsOf r.1), .bool r.2] ∧ A' = EmpR ∧ N = []) := by
  refine enterA Tryz.func52 rfl Tryz.ntmps52 rfl ?_
  intro F w hX
  unfold f_r10_Bytes at h
  refine T.seq (T.region rfl ?_)
  refine TL.run ft_cursitorref10_ok [0, 1] rfl rfl ?_
  refine TL.nil (X.seq (T.seq (T.region rfl ?_)))
  refine TL.lit (cells := #[.int .i64 8, .int .i64 4, .int .i64 4, .int .i64 4, .int .i64 2, .int .i64 4, .int .i64 8, .int .i64 8, .int .i64 8, .int .i64 2, .int .i64 4, .int .i64 4]) rfl .u sok_cursitorref10_106_12 rfl (by kernel_rfl) rfl (fun b3 => ?_)
  refine TL.rowOf (us := [.int .i64 8, .int .i64 4, .int .i64 4, .int .i64 4, .int .i64 2, .int .i64 4, .int .i64 8, .int .i64 8, .int .i64 8, .int .i64 2, .int .i64 4, .int .i64 4]) (xs := [8, 4, 4, 4, 2, 4, 8, 8, 8, 2, 4, 4]) (E := intE) (z := 1) rfl (Nat.le_of_ble_eq_true rfl) (fun _ => ⟨rfl, rfl, ⟨rfl, rfl, ⟨rfl, rfl, ⟨rfl, rfl, ⟨rfl, rfl, ⟨rfl, rfl, ⟨rfl, rfl, ⟨rfl, rfl, ⟨rfl, rfl, ⟨rfl, rfl, ⟨rfl, rfl, ⟨rfl, rfl, rfl⟩⟩⟩⟩⟩⟩⟩⟩⟩⟩⟩⟩) ?_
  refine TL.run ft_cursitorref10_ok [1] rfl rfl ?_
  refine TL.nil (X.seq (T.seq (T.region rfl ?_)))
  refine TL.run ft_cursitorref10_ok [0] rfl rfl ?_
  refine TL.nil (X.seq (T.seq (T.seq (T.region rfl ?_))))
  refine TL.run ft_cursitorref10_ok [0] rfl rfl ?_
  refine TL.nil (X.seq (T.block ?_))
  obtain ⟨E8, hE9, hO10⟩ := Option.bind_eq_some_iff.1 h
  refine T.lp (fun m e Rs => ∃ (y4 : List UInt8) (y5 : Bool) (y6 : List UInt8) (k7 : Nat), e = [(0, .slice A1 a0.length c2), (2, .string (bsOf y4)), (3, .bool y5), (4, .slice (some ⟨b3, 0, none⟩) 12 12), (5, .string (bsOf y6)), (6, .int .i64 (k7 : Int))] ∧ Rs = [OwnR 3 1 intE (.slice (some ⟨b3, 0, none⟩) 12 12) [8, 4, 4, 4, 2, 4, 8, 8, 8, 2, 4, 4], EmpR] ∧ f_r10_Bytes_l1 a0 m y4 y5 y6 k7 = some E8) ((12 : Int).toNat + 1) [0, 0] ⟨[], false, [], 0, rfl, rfl, by exact hE9⟩ (by rfl) (by rfl) ?_
  rintro m11 _ _ ⟨y4, y5, y6, k7, rfl, rfl, hl13⟩
  clear hE9 h
  cases m11 with
  | zero =>
    rw [f_r10_Bytes_l1] at hl13
    cases hl13
  | succ m11 =>
    have h := hl13
    clear hl13
    rw [f_r10_Bytes_l1] at h
    refine T.seq (T.seq (T.region rfl ?_))
    refine TL.run ft_cursitorref10_ok [0, 1] rfl rfl ?_
    by_cases c15 : (k7 : Int) < 12
    · replace h := ifT c15 h
      refine TL.nil (X.seq ?_)
      refine T.yes rfl (decide_eq_true c15) ?_
      refine T.skip (X.seq (T.seq (T.block (T.seq (T.region rfl ?_)))))
      obtain ⟨x16, hx17, h⟩ := Option.bind_eq_some_iff.1 h
      obtain ⟨gz18, oz18, rfl, z18cs, z18cl, z18cc, z18nf, z18r⟩ := RX.elem (by decide) hX hx17
      obtain ⟨z18S, z18r, z18rr⟩ := z18r
      obtain rfl : z18cs = [.int .i64 x16] := z18r
      refine TL.run ft_cursitorref10_ok [0, 1] rfl rfl ?_
      refine TL.q rfl .u (Ex.ixS (k := k7) rfl rfl rfl Tryz.runUnderlying106 Tryz.sizeOf3 (List.getElem?_eq_some_iff.1 hx17).1) rfl ?_
      refine TL.q rfl .u (Ex.o1 0 rfl Tryz.isAgg3 z18nf z18cc rfl rfl) rfl ?_
      refine TL.run ft_cursitorref10_ok [4] rfl rfl ?_
      refine TL.nil (X.seq (T.seq (T.seq (T.region rfl ?_))))
      refine TL.run ft_cursitorref10_ok [0, 1] rfl rfl ?_
      by_cases c19 : (k7 : Int) = 3
      · replace h := ifT c19 h
        refine TL.nil (X.seq ?_)
        refine T.yes rfl (decide_eq_true c19) ?_
        refine T.seq (T.seq ?_)
        obtain ⟨y21, h, hk22⟩ := Option.bind_eq_some_iff.1 h
        refine T.jq (fun e Rs => e = [(0, .slice (some ⟨gz18, oz18, none⟩) a0.length c2), (2, .string (bsOf y4)), (3, .bool y5), (4, .slice (some ⟨b3, 0, none⟩) 12 12), (5, .string (bsOf y6)), (6, .int .i64 (k7 : Int)), (7, .int .i64 x16), (24, .bool y21)] ∧ Rs = [OwnR 3 1 intE (.slice (some ⟨b3, 0, none⟩) 12 12) [8, 4, 4, 4, 2, 4, 8, 8, 8, 2, 4, 4], EmpR]) ?_ ?_
        · clear hk22
          refine T.region rfl ?_
          by_cases c23 : x16 < 0
          · replace h := ifT c23 h
            refine TL.run ft_cursitorref10_ok [0, 1, 2] rfl rfl ?_
            refine TL.no rfl (.gn rfl rfl (decide_eq_true c23)) rfl ?_
            refine TL.no rfl (.gn rfl rfl (decide_eq_true c23)) rfl ?_
            refine TL.q rfl .u (Ex.py rfl (decide_eq_true c23) rfl) rfl ?_
            cases h
            exact TL.nil (X.jq [0, 0] ⟨rfl, rfl⟩ (by rfl) (by rfl))
          · replace h := ifF c23 h
            refine TL.run ft_cursitorref10_ok [0, 1, 2] rfl rfl ?_
            refine TL.q rfl (.g rfl rfl (decide_eq_false c23)) (Ex.ft ft_cursitorref10_ok rfl) rfl ?_
            refine TL.q rfl (.g rfl rfl (decide_eq_false c23)) (Ex.ft ft_cursitorref10_ok rfl) rfl ?_
            refine TL.q rfl .u (Ex.pn rfl (decide_eq_false c23) rfl) rfl ?_
            by_cases c24 : x16 > 4294967295
            · replace h := ifT c24 h
              cases h
              exact TL.nil (X.as (d := 24) (v' := .bool true) rfl (congrArg Value.bool (decide_eq_true c24)) (X.jq [0, 0] ⟨rfl, rfl⟩ (by rfl) (by rfl)))
            · replace h := ifF c24 h
              cases h
              exact TL.nil (X.as (d := 24) (v' := .bool false) rfl (congrArg Value.bool (decide_eq_false c24)) (X.jq [0, 0] ⟨rfl, rfl⟩ (by rfl) (by rfl)))
        · rintro _ _ ⟨rfl, rfl⟩
          clear h
          have h := hk22
          clear hk22
          try dsimp only at h
          by_cases c25 : y21 = true
          · replace h := ifT c25 h
            refine X.seq ?_
            refine T.yes rfl c25 ?_
            refine T.seq (T.region rfl ?_)
            refine TL.run ft_cursitorref10_ok [0, 1] rfl rfl ?_
            obtain rfl := Option.some.inj h
            replace h := hO10
            clear hO10
            try dsimp only at h
            obtain rfl := Option.some.inj h
            exact TL.nil (X.seq (T.ret (X.rs (X.rs (X.rb (X.rs (X.rs (X.rb (X.rs (X.done2 [1] Tryz.results52 (RV.tm rfl) (RV.tm rfl) ⟨rfl, rfl, rfl⟩ (by rfl) (.inl rfl)))))))))))
          · replace h := ifF c25 h
            replace c25 := eq_false_of_ne_true c25
            refine X.seq ?_
            refine T.no rfl c25 ?_
            refine T.skip (X.seq (T.seq (T.seq (T.region rfl ?_))))
            refine TL.run ft_cursitorref10_ok [0, 1] rfl rfl ?_
            refine TL.nil (X.seq ?_)
            obtain ⟨y28, h, hk29⟩ := Option.bind_eq_some_iff.1 h
            refine T.jq (fun e Rs => e = [(0, .slice (some ⟨gz18, oz18, none⟩) a0.length c2), (2, .string (bsOf y4)), (3, .bool y5), (4, .slice (some ⟨b3, 0, none⟩) 12 12), (5, .string (bsOf y6)), (6, .int .i64 (k7 : Int)), (7, .int .i64 y28)] ∧ Rs = [OwnR 3 1 intE (.slice (some ⟨b3, 0, none⟩) 12 12) [8, 4, 4, 4, 2, 4, 8, 8, 8, 2, 4, 4], EmpR]) ?_ ?_
            · clear hk29
              by_cases c30 : x16 > 2147483647
              · replace h := ifT c30 h
                refine T.yes rfl (decide_eq_true c30) ?_
                refine T.region rfl ?_
                replace h := guard_some h
                obtain ⟨c31, h⟩ := h
                refine TL.run ft_cursitorref10_ok [0] rfl rfl ?_
                refine TL.q rfl .u (Ex.sub rfl rfl c31) rfl ?_
                refine TL.run ft_cursitorref10_ok [2] rfl rfl ?_
                cases h
                exact TL.nil (X.jq [0, 0] ⟨rfl, rfl⟩ (by rfl) (by rfl))
              · replace h := ifF c30 h
                refine T.no rfl (decide_eq_false c30) ?_
                cases h
                exact T.skip (X.jq [0, 0] ⟨rfl, rfl⟩ (by rfl) (by rfl))
            · rintro _ _ ⟨rfl, rfl⟩
              clear h
              have h := hk29
              clear hk29
              try dsimp only at h
              refine X.seq (T.region rfl ?_)
              obtain ⟨x32, hx33, h⟩ := Option.bind_eq_some_iff.1 h
              refine TL.run ft_cursitorref10_ok [0] rfl rfl ?_
              refine TL.ce rfl .u (.fn Tryz.call42 rfl) (gRBytes_spec 2 1 _ hx33) (fun _ hs => (RX.reads_triv _ _)) rfl ?_
              replace h := guard_some h
              obtain ⟨c34, h⟩ := h
              refine TL.q rfl .u (Ex.sAdd rfl rfl c34) rfl ?_
              refine TL.run ft_cursitorref10_ok [3] rfl rfl ?_
              refine TL.nil (X.seq (T.seq (T.seq (T.region rfl ?_))))
              obtain ⟨x35, hx36, h⟩ := Option.bind_eq_some_iff.1 h
              refine TL.run ft_cursitorref10_ok [0, 1, 2] rfl rfl ?_
              refine TL.foc (E := intE) (k := k7) 0 rfl (fun w G h => own_reads (by decide) w G h) (by decide) hx36 ?_
              rintro gg oo z37cs hA z37cl ⟨_, _, z37r⟩
              cases hA
              obtain rfl : z37cs = [.int .i64 x35] := z37r
              clear z37cl
              refine TL.sel [0, 0] rfl ?_
              refine TL.q rfl .u (Ex.ixS (k := k7) rfl rfl rfl Tryz.runUnderlying106 Tryz.sizeOf3 (List.getElem?_eq_some_iff.1 hx36).1) rfl ?_
              refine TL.q rfl .u (Ex.k1 (cs := [.int .i64 x35]) 0 0 rfl Tryz.isAgg3 rfl (fun _ _ h => h.2.2.1) rfl) rfl ?_
              obtain ⟨x38, hx39, h⟩ := Option.bind_eq_some_iff.1 h
              refine TL.ce rfl .u (.fn Tryz.call116 rfl) (gRFits_spec y28 x35 _ hx39) (fun _ hs => (RX.reads_triv _ _)) rfl ?_
              refine TL.run ft_cursitorref10_ok [6] rfl rfl ?_
              by_cases c40 : x38 = true
              · replace h := ifT c40 h
                refine TL.nil (X.seq ?_)
                refine T.no rfl (bn_f c40) ?_
                refine T.skip (X.seq (T.region rfl ?_))
                refine TL.run ft_cursitorref10_ok [0, 1, 2, 3] rfl rfl ?_
                refine TL.q rfl .u (Ex.ixS (k := k7) rfl rfl rfl Tryz.runUnderlying106 Tryz.sizeOf3 (List.getElem?_eq_some_iff.1 hx36).1) rfl ?_
                refine TL.q rfl .u (Ex.k1 (cs := [.int .i64 x35]) 0 0 rfl Tryz.isAgg3 rfl (fun _ _ h => h.2.2.1) rfl) rfl ?_
                obtain ⟨x41, hx42, h⟩ := Option.bind_eq_some_iff.1 h
                refine TL.ce rfl .u (.fn Tryz.call42 rfl) (gRBytes_spec y28 x35 _ hx42) (fun _ hs => (RX.reads_triv _ _)) rfl ?_
                replace h := guard_some h
                obtain ⟨c43, h⟩ := h
                refine TL.q rfl .u (Ex.sAdd rfl rfl c43) rfl ?_
                refine TL.run ft_cursitorref10_ok [8] rfl rfl ?_
                refine TL.nil (X.blk (X.seq (T.region rfl ?_)))
                replace h := guard_some h
                obtain ⟨c44, h⟩ := h
                refine TL.run ft_cursitorref10_ok [0] rfl rfl ?_
                refine TL.q rfl .u (Ex.add rfl rfl c44) rfl ?_
                refine TL.run ft_cursitorref10_ok [2] rfl rfl ?_
                refine TL.nil ?_
                refine X.unf 0 rfl ?_
                refine X.sel [0, 0] rfl ?_
                exact X.back (m' := m11) [0, 0] (by omega) ⟨y4, y5, ((y6 ++ x32) ++ x41), k7 + 1, rfl, rfl, h⟩ (by rfl) (by rfl)
              · replace h := ifF c40 h
                replace c40 := eq_false_of_ne_true c40
                refine TL.nil (X.seq ?_)
                refine T.yes rfl (bn_t c40) ?_
                refine T.seq (T.region rfl ?_)
                refine TL.run ft_cursitorref10_ok [0, 1] rfl rfl ?_
                obtain rfl := Option.some.inj h
                replace h := hO10
                clear hO10
                try dsimp only at h
                obtain rfl := Option.some.inj h
                exact TL.nil (X.seq (T.ret (X.rs (X.rb (X.rs (X.rs (X.rb (X.rs (X.done2 [1] Tryz.results52 (RV.tm rfl) (RV.tm rfl) ⟨rfl, rfl, rfl⟩ (by rfl) (.inl rfl))))))))))
      · replace h := ifF c19 h
        refine TL.nil (X.seq ?_)
        refine T.no rfl (decide_eq_false c19) ?_
        refine T.skip (X.seq (T.seq (T.seq (T.region rfl ?_))))
        obtain ⟨x45, hx46, h⟩ := Option.bind_eq_some_iff.1 h
        refine TL.run ft_cursitorref10_ok [0, 1, 2] rfl rfl ?_
        refine TL.foc (E := intE) (k := k7) 0 rfl (fun w G h => own_reads (by decide) w G h) (by decide) hx46 ?_
        rintro gg oo z47cs hA z47cl ⟨_, _, z47r⟩
        cases hA
        obtain rfl : z47cs = [.int .i64 x45] := z47r
        clear z47cl
        refine TL.sel [0, 0] rfl ?_
        refine TL.q rfl .u (Ex.ixS (k := k7) rfl rfl rfl Tryz.runUnderlying106 Tryz.sizeOf3 (List.getElem?_eq_some_iff.1 hx46).1) rfl ?_
        refine TL.q rfl .u (Ex.k1 (cs := [.int .i64 x45]) 0 0 rfl Tryz.isAgg3 rfl (fun _ _ h => h.2.2.1) rfl) rfl ?_
        obtain ⟨x48, hx49, h⟩ := Option.bind_eq_some_iff.1 h
        refine TL.ce rfl .u (.fn Tryz.call116 rfl) (gRFits_spec x16 x45 _ hx49) (fun _ hs => (RX.reads_triv _ _)) rfl ?_
        refine TL.run ft_cursitorref10_ok [6] rfl rfl ?_
        by_cases c50 : x48 = true
        · replace h := ifT c50 h
          refine TL.nil (X.seq ?_)
          refine T.no rfl (bn_f c50) ?_
          refine T.skip (X.seq (T.region rfl ?_))
          refine TL.run ft_cursitorref10_ok [0, 1, 2, 3] rfl rfl ?_
          refine TL.q rfl .u (Ex.ixS (k := k7) rfl rfl rfl Tryz.runUnderlying106 Tryz.sizeOf3 (List.getElem?_eq_some_iff.1 hx46).1) rfl ?_
          refine TL.q rfl .u (Ex.k1 (cs := [.int .i64 x45]) 0 0 rfl Tryz.isAgg3 rfl (fun _ _ h => h.2.2.1) rfl) rfl ?_
          obtain ⟨x51, hx52, h⟩ := Option.bind_eq_some_iff.1 h
          refine TL.ce rfl .u (.fn Tryz.call42 rfl) (gRBytes_spec x16 x45 _ hx52) (fun _ hs => (RX.reads_triv _ _)) rfl ?_
          replace h := guard_some h
          obtain ⟨c53, h⟩ := h
          refine TL.q rfl .u (Ex.sAdd rfl rfl c53) rfl ?_
          refine TL.run ft_cursitorref10_ok [8] rfl rfl ?_
          refine TL.nil (X.blk (X.seq (T.region rfl ?_)))
          replace h := guard_some h
          obtain ⟨c54, h⟩ := h
          refine TL.run ft_cursitorref10_ok [0] rfl rfl ?_
          refine TL.q rfl .u (Ex.add rfl rfl c54) rfl ?_
          refine TL.run ft_cursitorref10_ok [2] rfl rfl ?_
          refine TL.nil ?_
          refine X.unf 0 rfl ?_
          refine X.sel [0, 0] rfl ?_
          exact X.back (m' := m11) [0, 0] (by omega) ⟨y4, y5, (y6 ++ x51), k7 + 1, rfl, rfl, h⟩ (by rfl) (by rfl)
        · replace h := ifF c50 h
          replace c50 := eq_false_of_ne_true c50
          refine TL.nil (X.seq ?_)
          refine T.yes rfl (bn_t c50) ?_
          refine T.seq (T.region rfl ?_)
          refine TL.run ft_cursitorref10_ok [0, 1] rfl rfl ?_
          obtain rfl := Option.some.inj h
          replace h := hO10
          clear hO10
          try dsimp only at h
          obtain rfl := Option.some.inj h
          exact TL.nil (X.seq (T.ret (X.rs (X.rb (X.rs (X.rs (X.rb (X.rs (X.done2 [1] Tryz.results52 (RV.tm rfl) (RV.tm rfl) ⟨rfl, rfl, rfl⟩ (by rfl) (.inl rfl))))))))))
    · replace h := ifF c15 h
      refine TL.nil (X.seq ?_)
      refine T.no rfl (decide_eq_false c15) ?_
      obtain rfl := Option.some.inj h
      replace h := hO10
      clear hO10
      try dsimp only at h
      refine T.exit (X.exs (X.exs (X.ex (X.seq (T.seq (T.region rfl ?_))))))
      refine TL.run ft_cursitorref10_ok [0, 1, 2] rfl rfl ?_
      obtain rfl := Option.some.inj h
      exact TL.nil (X.seq (T.ret (X.done2 [1] Tryz.results52 (RV.tm rfl) (RV.tm rfl) ⟨rfl, rfl, rfl⟩ (by rfl) (.inl rfl))))
end Go.Proofs.YtcoppaggpbfcmaaGreat.Sl
