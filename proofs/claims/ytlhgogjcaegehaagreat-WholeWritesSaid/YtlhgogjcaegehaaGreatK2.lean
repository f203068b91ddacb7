/- wholeWrites_holds: part 2. -/
import Derived.Test.YtlhgogjcaegehaaGreatK1
namespace Go.Proofs.YtlhgogjcaegehaaGreat.Sl
open Go.RowKit
set_option linter.unusedVariables false
set_option linter.unusedSimpArgs false
set_option maxRecDepth 100000
def ft_crc : FTab := []
theorem ft_crc_ok : (ft_crc).OK Tryz.prog := trivial
theorem mix_crc : Tryz.prog.follows .mixedOrders = true := by kernel_rfl
def f_crc_New_l2 : Nat → Int → Nat → Option (Int × Nat)
  | 0, _, _ => none
  | m40 + 1, y35, k36 => if (k36 : Int) < 8 then ((if (Go.bits .and .u32 y35 1) = 1 then (some (Go.bits .xor .u32 (shrK .u32 y35 1) 2197175160)) else some (shrK .u32 y35 1)).bind fun y46 => if -9223372036854775808 ≤ ((k36 : Int) + 1) ∧ ((k36 : Int) + 1) ≤ 9223372036854775807 then (f_crc_New_l2 m40 y46 (k36 + 1)) else none) else some (y35, k36)
def f_crc_New_l1 : Nat → Nat → List Int → Option (Nat × List Int)
  | 0, _, _ => none
  | m7 + 1, k2, st3 => if (k2 : Int) < 256 then (((f_crc_New_l2 ((8 : Int).toNat + 1) (IntKind.u32.wrap (k2 : Int)) 0).bind fun (y52, k53) => (st3[k2]?).bind fun x54 => some (st3.set k2 y52)).bind fun st33 => if -9223372036854775808 ≤ ((k2 : Int) + 1) ∧ ((k2 : Int) + 1) ≤ 9223372036854775807 then (f_crc_New_l1 m7 (k2 + 1) st33) else none) else some (k2, st3)
def f_crc_New  : Option (List Int) := (f_crc_New_l1 ((256 : Int).toNat + 1) 0 (List.replicate 256 (0 : Int))).bind fun (k57, st58) => some st58
set_option maxRecDepth 100000 in
set_option maxHeartbeats 4000000 in
theorem f_crc_New_spec  (r : List Int) (h : f_crc_New  = some r) : SpecX Tryz.prog 36 #[] .triv (EmpR) (fun v A' N => ∃ q : Nat, v = .pointer (some ⟨q, 0, none⟩) ∧ A' = EmpR ∧ N = [TabR 133 q r]) := by
  refine enterA Tryz.func36 rfl Tryz.ntmps36 rfl ?_
  intro F w hX
  unfold f_crc_New at h
  refine T.seq (T.region rfl ?_)
  refine TL.run ft_crc_ok [0] rfl rfl ?_
  refine TL.nil (X.seq (T.seq (T.region rfl ?_)))
  refine TL.q rfl .u (Ex.bldZ Tryz.zeroValue133 Tryz.runUnderlying133 Tryz.sizeOf95) rfl ?_
  refine TL.tNew rfl .u rfl (by kernel_rfl) rfl (fun b1 => ?_)
  refine TL.run ft_crc_ok [2] rfl rfl ?_
  refine TL.nil (X.seq (T.seq (T.seq (T.region rfl ?_))))
  refine TL.run ft_crc_ok [0] rfl rfl ?_
  refine TL.nil (X.seq (T.block ?_))
  obtain ⟨E4, hE5, hO6⟩ := Option.bind_eq_some_iff.1 h
  refine T.lp (fun m e Rs => ∃ (k2 : Nat) (st3 : List Int), e = [(0, .pointer none), (1, .pointer (some ⟨b1, 0, none⟩)), (6, .int .i64 (k2 : Int))] ∧ Rs = [TabR 133 b1 st3, EmpR] ∧ f_crc_New_l1 m k2 st3 = some E4) ((256 : Int).toNat + 1) [0, 0] ⟨0, (List.replicate 256 (0 : Int)), rfl, rfl, by exact hE5⟩ (by rfl) (by rfl) ?_
  rintro m7 _ _ ⟨k2, st3, rfl, rfl, hl9⟩
  clear hE5 h
  cases m7 with
  | zero =>
    rw [f_crc_New_l1] at hl9
    cases hl9
  | succ m7 =>
    have h := hl9
    clear hl9
    rw [f_crc_New_l1] at h
    refine T.seq (T.region rfl ?_)
    refine TL.run ft_crc_ok [0] rfl rfl ?_
    by_cases c11 : (k2 : Int) < 256
    · replace h := ifT c11 h
      refine TL.nil (X.seq (T.seq ?_))
      refine T.yes rfl (decide_eq_true c11) ?_
      refine T.skip (X.seq (T.seq ?_))
      obtain ⟨st33, h, hk34⟩ := Option.bind_eq_some_iff.1 h
      refine T.jq (fun e Rs => e = [(0, .pointer none), (1, .pointer (some ⟨b1, 0, none⟩)), (6, .int .i64 (k2 : Int))] ∧ Rs = [TabR 133 b1 st33, EmpR]) ?_ ?_
      · clear hk34
        refine T.block (T.seq (T.region rfl ?_))
        refine TL.run ft_crc_ok [0, 1] rfl rfl ?_
        refine TL.nil (X.seq (T.seq (T.region rfl ?_)))
        refine TL.run ft_crc_ok [0] rfl rfl ?_
        refine TL.q rfl .u (Ex.conv rfl Tryz.runUnderlying3 Tryz.runUnderlying95) rfl ?_
        refine TL.run ft_crc_ok [2] rfl rfl ?_
        refine TL.nil (X.seq (T.seq (T.seq (T.region rfl ?_))))
        refine TL.run ft_crc_ok [0] rfl rfl ?_
        refine TL.nil (X.seq (T.block ?_))
        obtain ⟨E37, hE38, hO39⟩ := Option.bind_eq_some_iff.1 h
        refine T.lp (fun m e Rs => ∃ (y35 : Int) (k36 : Nat), e = [(0, .pointer none), (1, .pointer (some ⟨b1, 0, none⟩)), (2, .int .i64 (k2 : Int)), (3, .int .u32 y35), (6, .int .i64 (k2 : Int)), (11, .int .i64 (k36 : Int))] ∧ Rs = [TabR 133 b1 st3, EmpR] ∧ f_crc_New_l2 m y35 k36 = some E37) ((8 : Int).toNat + 1) [0, 0] ⟨(IntKind.u32.wrap (k2 : Int)), 0, rfl, rfl, by exact hE38⟩ (by rfl) (by rfl) ?_
        rintro m40 _ _ ⟨y35, k36, rfl, rfl, hl42⟩
        clear hE38 h
        cases m40 with
        | zero =>
          rw [f_crc_New_l2] at hl42
          cases hl42
        | succ m40 =>
          have h := hl42
          clear hl42
          rw [f_crc_New_l2] at h
          refine T.seq (T.region rfl ?_)
          refine TL.run ft_crc_ok [0] rfl rfl ?_
          by_cases c44 : (k36 : Int) < 8
          · replace h := ifT c44 h
            refine TL.nil (X.seq (T.seq ?_))
            refine T.yes rfl (decide_eq_true c44) ?_
            refine T.skip (X.seq (T.seq (T.block (T.seq (T.region rfl ?_)))))
            refine TL.run ft_crc_ok [0] rfl rfl ?_
            refine TL.q rfl .u (Ex.bitw rfl rfl rfl) rfl ?_
            refine TL.run ft_crc_ok [2] rfl rfl ?_
            refine TL.nil (X.seq ?_)
            obtain ⟨y46, h, hk47⟩ := Option.bind_eq_some_iff.1 h
            refine T.jq (fun e Rs => e = [(0, .pointer none), (1, .pointer (some ⟨b1, 0, none⟩)), (2, .int .i64 (k2 : Int)), (3, .int .u32 y46), (6, .int .i64 (k2 : Int)), (11, .int .i64 (k36 : Int))] ∧ Rs = [TabR 133 b1 st3, EmpR]) ?_ ?_
            · clear hk47
              by_cases c48 : (Go.bits .and .u32 y35 1) = 1
              · replace h := ifT c48 h
                refine T.yes rfl (decide_eq_true c48) ?_
                refine T.region rfl ?_
                refine TL.run ft_crc_ok [0] rfl rfl ?_
                refine TL.q rfl .u (Ex.shr rfl rfl (by decide)) rfl ?_
                refine TL.q rfl .u (Ex.bitw rfl rfl rfl) rfl ?_
                refine TL.run ft_crc_ok [3] rfl rfl ?_
                cases h
                exact TL.nil (X.jq [0, 0] ⟨rfl, rfl⟩ (by rfl) (by rfl))
              · replace h := ifF c48 h
                refine T.no rfl (decide_eq_false c48) ?_
                refine T.region rfl ?_
                refine TL.run ft_crc_ok [0] rfl rfl ?_
                refine TL.q rfl .u (Ex.shr rfl rfl (by decide)) rfl ?_
                refine TL.run ft_crc_ok [2] rfl rfl ?_
                cases h
                exact TL.nil (X.jq [0, 0] ⟨rfl, rfl⟩ (by rfl) (by rfl))
            · rintro _ _ ⟨rfl, rfl⟩
              clear h
              have h := hk47
              clear hk47
              try dsimp only at h
              replace h := guard_some h
              obtain ⟨c49, h⟩ := h
              refine X.blk (X.seq (T.region rfl ?_))
              refine TL.q rfl .u (Ex.add rfl rfl c49) rfl ?_
              refine TL.run ft_crc_ok [1] rfl rfl ?_
              exact TL.nil (X.back (m' := m40) [0, 0] (by omega) ⟨y46, k36 + 1, rfl, rfl, h⟩ (by rfl) (by rfl))
          · replace h := ifF c44 h
            refine TL.nil (X.seq (T.seq ?_))
            refine T.no rfl (decide_eq_false c44) ?_
            obtain rfl := Option.some.inj h
            replace h := hO39
            clear hO39
            try dsimp only at h
            refine T.exit (X.exs (X.exs (X.ex (X.seq (T.region rfl ?_)))))
            obtain ⟨x50, hx51, h⟩ := Option.bind_eq_some_iff.1 h
            refine TL.run ft_crc_ok [0, 1, 2, 3] rfl rfl ?_
            refine TL.q rfl .u (Ex.tIx (k := k2) 0 rfl rfl rfl Tryz.runUnderlying133 Tryz.sizeOf95 rfl hx51) rfl ?_
            refine TL.tSt (k := k2) 0 rfl .u rfl rfl Tryz.sizeOf95 rfl hx51 ?_
            refine TL.sel [0, 0] rfl ?_
            cases h
            exact TL.nil (X.blk (X.jq [0, 0] ⟨rfl, rfl⟩ (by rfl) (by rfl)))
      · rintro _ _ ⟨rfl, rfl⟩
        clear h
        have h := hk34
        clear hk34
        try dsimp only at h
        replace h := guard_some h
        obtain ⟨c56, h⟩ := h
        refine X.seq (T.region rfl ?_)
        refine TL.q rfl .u (Ex.add rfl rfl c56) rfl ?_
        refine TL.run ft_crc_ok [1] rfl rfl ?_
        exact TL.nil (X.back (m' := m7) [0, 0] (by omega) ⟨k2 + 1, st33, rfl, rfl, h⟩ (by rfl) (by rfl))
    · replace h := ifF c11 h
      refine TL.nil (X.seq (T.seq ?_))
      refine T.no rfl (decide_eq_false c11) ?_
      obtain rfl := Option.some.inj h
      replace h := hO6
      clear hO6
      try dsimp only at h
      refine T.exit (X.exs (X.exs (X.ex (X.seq (T.seq (T.region rfl ?_))))))
      refine TL.run ft_crc_ok [0, 1] rfl rfl ?_
      obtain rfl := Option.some.inj h
      exact TL.nil (X.seq (T.ret (X.done1 [1, 0] Tryz.results36 (RV.tm rfl) ⟨_, rfl, rfl, rfl⟩ (by rfl) (.inl rfl))))
def f_crc_TableMore_l1 (a2 : List UInt8) : Nat → Int → Nat → List Int → Option (Int × Nat × List Int)
  | 0, _, _, _ => none
  | m7 + 1, y1, k2, st3 => if (k2 : Int) < (a2.length : Int) then ((a2[k2]?).bind fun ch12 => if 0 ≤ (Go.bits .xor .u8 (IntKind.u8.wrap y1) (ch12.toNat : Int)) then ((st3[(Go.bits .xor .u8 (IntKind.u8.wrap y1) (ch12.toNat : Int)).toNat]?).bind fun x15 => if -9223372036854775808 ≤ ((k2 : Int) + 1) ∧ ((k2 : Int) + 1) ≤ 9223372036854775807 then (f_crc_TableMore_l1 a2 m7 (Go.bits .xor .u32 x15 (shrK .u32 y1 8)) (k2 + 1) st3) else none) else none) else some (y1, k2, st3)
def f_crc_TableMore (st : List Int) (a1 : Int) (a2 : List UInt8) : Option (Int × List Int) := (f_crc_TableMore_l1 a2 (((a2.length : Int)).toNat + 1) (Go.bits .xor .u32 4294967295 a1) 0 st).bind fun (y18, k19, st20) => some ((Go.bits .xor .u32 4294967295 y18), st20)
set_option maxRecDepth 100000 in
set_option maxHeartbeats 4000000 in
theorem f_crc_TableMore_spec (g : Nat) (st : List Int) (a1 : Int) (a2 : List UInt8) (r : Int × List Int) (h : f_crc_TableMore st a1 a2 = some r) : SpecX Tryz.prog 65 #[.pointer (some ⟨g, 0, none⟩), .int .u32 a1, .string (bsOf a2)] .triv (TabR 133 g st) (fun v A' N => v = .int .u32 r.1 ∧ A' = TabR 133 g r.2 ∧ N = []) := by
  refine enterA Tryz.func65 rfl Tryz.ntmps65 rfl ?_
  intro F w hX
  unfold f_crc_TableMore at h
  refine T.seq (T.region rfl ?_)
  refine TL.run ft_crc_ok [0] rfl rfl ?_
  refine TL.nil (X.seq (T.seq (T.region rfl ?_)))
  refine TL.run ft_crc_ok [0] rfl rfl ?_
  refine TL.q rfl .u (Ex.notK rfl) rfl ?_
  refine TL.run ft_crc_ok [2] rfl rfl ?_
  refine TL.nil (X.seq (T.seq (T.seq (T.region rfl ?_))))
  refine TL.run ft_crc_ok [0] rfl rfl ?_
  refine TL.q rfl .u (Ex.lenB rfl Tryz.runUnderlying9) rfl ?_
  refine TL.run ft_crc_ok [2] rfl rfl ?_
  refine TL.nil (X.seq (T.block ?_))
  obtain ⟨E4, hE5, hO6⟩ := Option.bind_eq_some_iff.1 h
  refine T.lp (fun m e Rs => ∃ (y1 : Int) (k2 : Nat) (st3 : List Int), e = [(0, .pointer (some ⟨g, 0, none⟩)), (2, .string (bsOf a2)), (6, .int .u32 0), (7, .int .u32 y1), (12, .int .i64 (a2.length : Int)), (13, .int .i64 (k2 : Int))] ∧ Rs = [TabR 133 g st3] ∧ f_crc_TableMore_l1 a2 m y1 k2 st3 = some E4) (((a2.length : Int)).toNat + 1) [0] ⟨(Go.bits .xor .u32 4294967295 a1), 0, st, rfl, rfl, by exact hE5⟩ (by rfl) (by rfl) ?_
  rintro m7 _ _ ⟨y1, k2, st3, rfl, rfl, hl9⟩
  clear hE5 h
  cases m7 with
  | zero =>
    rw [f_crc_TableMore_l1] at hl9
    cases hl9
  | succ m7 =>
    have h := hl9
    clear hl9
    rw [f_crc_TableMore_l1] at h
    refine T.seq (T.region rfl ?_)
    refine TL.run ft_crc_ok [0] rfl rfl ?_
    by_cases c11 : (k2 : Int) < (a2.length : Int)
    · replace h := ifT c11 h
      refine TL.nil (X.seq (T.seq ?_))
      refine T.yes rfl (decide_eq_true c11) ?_
      refine T.skip (X.seq (T.seq (T.block (T.seq (T.region rfl ?_)))))
      refine TL.run ft_crc_ok [0, 1] rfl rfl ?_
      refine TL.nil (X.seq (T.draw (.q 0 (.q 1 (.q 2 (.q 3 (.q 4 (.q 5 (.q 6 (.q 7 (.q 8 (.q 9 (.q 10 (.q 11 (.q 12 (.q 13 .nil)))))))))))))) [0] rfl mix_crc (NoP.blk (NoP.seq (NoP.seq (NoP.blk (NoP.seq np_post))))) (by kernel_rfl) ?_))
      refine TD.run ft_crc_ok [0, 1] rfl rfl ?_
      refine TD.q rfl .u (Ex.conv rfl Tryz.runUnderlying95 Tryz.runUnderlying5) rfl ?_
      obtain ⟨ch12, hc13, h⟩ := Option.bind_eq_some_iff.1 h
      refine TD.run ft_crc_ok [3, 4] rfl rfl ?_
      refine TD.q rfl .u (Ex.sIx rfl rfl rfl Tryz.underlying9 hc13) rfl ?_
      refine TD.q rfl .u (Ex.bitw rfl rfl rfl) rfl ?_
      replace h := guard_some h
      obtain ⟨c14, h⟩ := h
      obtain ⟨x15, hx16, h⟩ := Option.bind_eq_some_iff.1 h
      refine TD.run ft_crc_ok [7] rfl rfl ?_
      refine TD.q rfl .u (Ex.tIx (k := (Go.bits .xor .u8 (IntKind.u8.wrap y1) (ch12.toNat : Int)).toNat) 0 rfl rfl ((Int.toNat_of_nonneg c14).symm) Tryz.runUnderlying133 Tryz.sizeOf95 rfl hx16) rfl ?_
      refine TD.q rfl .u (Ex.tLd (k := (Go.bits .xor .u8 (IntKind.u8.wrap y1) (ch12.toNat : Int)).toNat) 0 rfl Tryz.isAgg95 rfl hx16) rfl ?_
      refine TD.run ft_crc_ok [10] rfl rfl ?_
      refine TD.q rfl .u (Ex.shr rfl rfl (by decide)) rfl ?_
      refine TD.q rfl .u (Ex.bitw rfl rfl rfl) rfl ?_
      refine TD.run ft_crc_ok [13] rfl rfl ?_
      replace h := guard_some h
      obtain ⟨c17, h⟩ := h
      refine TD.nil (X.blk (X.seq (T.region rfl ?_)))
      refine TL.q rfl .u (Ex.add rfl rfl c17) rfl ?_
      refine TL.run ft_crc_ok [1] rfl rfl ?_
      exact TL.nil (X.back (m' := m7) [0] (by omega) ⟨(Go.bits .xor .u32 x15 (shrK .u32 y1 8)), k2 + 1, st3, rfl, rfl, h⟩ (by rfl) (by rfl))
    · replace h := ifF c11 h
      refine TL.nil (X.seq (T.seq ?_))
      refine T.no rfl (decide_eq_false c11) ?_
      obtain rfl := Option.some.inj h
      replace h := hO6
      clear hO6
      try dsimp only at h
      refine T.exit (X.exs (X.exs (X.ex (X.seq (T.seq (T.region rfl ?_))))))
      refine TL.run ft_crc_ok [0] rfl rfl ?_
      refine TL.q rfl .u (Ex.notK rfl) rfl ?_
      refine TL.run ft_crc_ok [2] rfl rfl ?_
      obtain rfl := Option.some.inj h
      exact TL.nil (X.seq (T.ret (X.done1 [0] Tryz.results65 (RV.tm rfl) ⟨rfl, rfl, rfl⟩ (by rfl) (.inl rfl))))
def f_crc_TableSum_l1 : List (List UInt8) → Int → List Int → Option (Int × List Int)
  | [], y3, st5 => some (y3, st5)
  | x10 :: xs, y3, st5 => (f_crc_TableMore st5 y3 x10).bind fun (x14, st15) => f_crc_TableSum_l1 xs x14 st15
def f_crc_TableSum (st : List Int) (a1 : List (List UInt8)) : Option (Int × List Int) := (f_crc_TableSum_l1 a1 0 st).bind fun (y17, st19) => some (y17, st19)
set_option maxRecDepth 100000 in
set_option maxHeartbeats 4000000 in
theorem f_crc_TableSum_spec (g : Nat) (st : List Int) (a1 : List (List UInt8)) (A1 : Option Addr) (c2 : Nat) (r : Int × List Int) (h : f_crc_TableSum st a1 = some r) : SpecX Tryz.prog 37 #[.pointer (some ⟨g, 0, none⟩), .slice A1 a1.length c2] (RX.of (sliceRd 1 strE) [.slice A1 a1.length c2] a1) (TabR 133 g st) (fun v A' N => v = .int .u32 r.1 ∧ A' = TabR 133 g r.2 ∧ N = []) := by
  refine enterA Tryz.func37 rfl Tryz.ntmps37 rfl ?_
  intro F w hX
  unfold f_crc_TableSum at h
  refine T.seq (T.region rfl ?_)
  refine TL.run ft_crc_ok [0] rfl rfl ?_
  refine TL.nil (X.seq (T.seq (T.region rfl ?_)))
  refine TL.run ft_crc_ok [0] rfl rfl ?_
  refine TL.nil (X.seq (T.seq (T.seq (T.region rfl ?_))))
  refine TL.run ft_crc_ok [0] rfl rfl ?_
  refine TL.q rfl .u (Ex.lenS rfl Tryz.runUnderlying134) rfl ?_
  refine TL.run ft_crc_ok [2] rfl rfl ?_
  refine TL.nil (X.seq (T.block ?_))
  obtain ⟨E6, hE7, hO8⟩ := Option.bind_eq_some_iff.1 h
  have hk12len := RX.len_le hX
  refine T.lp (fun m e Rs => ∃ (y3 : Int) (k4 : Nat) (st5 : List Int), k4 + m = a1.length ∧ e = [(0, .pointer (some ⟨g, 0, none⟩)), (4, .int .u32 0), (5, .int .u32 y3), (8, .slice A1 a1.length c2), (9, .int .i64 (a1.length : Int)), (10, .int .i64 (k4 : Int))] ∧ Rs = [TabR 133 g st5] ∧ f_crc_TableSum_l1 (a1.drop k4) y3 st5 = some E6) (a1.length) [0] ⟨0, 0, st, by simp, rfl, rfl, by rw [List.drop_zero]; exact hE7⟩ (by rfl) (by rfl) ?_
  rintro m9 _ _ ⟨y3, k4, st5, hk12, rfl, rfl, hl11⟩
  clear hE7 h
  cases m9 with
  | zero =>
    have h := hl11
    clear hl11
    rw [List.drop_of_length_le (by omega), f_crc_TableSum_l1] at h
    have hk12ge : ¬ ((k4 : Int) < (a1.length : Int)) := by omega
    refine T.seq (T.region rfl ?_)
    refine TL.run ft_crc_ok [0] rfl rfl ?_
    refine TL.nil (X.seq (T.seq ?_))
    refine T.no rfl (decide_eq_false hk12ge) ?_
    obtain rfl := Option.some.inj h
    replace h := hO8
    clear hO8
    try dsimp only at h
    refine T.exit (X.exs (X.exs (X.ex (X.seq (T.seq (T.region rfl ?_))))))
    refine TL.run ft_crc_ok [0, 1] rfl rfl ?_
    obtain rfl := Option.some.inj h
    exact TL.nil (X.seq (T.ret (X.done1 [0] Tryz.results37 (RV.tm rfl) ⟨rfl, rfl, rfl⟩ (by rfl) (.inl rfl))))
  | succ m9 =>
    have h := hl11
    clear hl11
    obtain ⟨x10, hxx10⟩ : ∃ x, a1[k4]? = some x := ⟨_, List.getElem?_eq_getElem (by omega)⟩
    rw [drop_cons hxx10, f_crc_TableSum_l1] at h
    have hk12lt : (k4 : Int) < (a1.length : Int) := by omega
    refine T.seq (T.region rfl ?_)
    refine TL.run ft_crc_ok [0] rfl rfl ?_
    refine TL.nil (X.seq (T.seq ?_))
    refine T.yes rfl (decide_eq_true hk12lt) ?_
    obtain ⟨gz13, oz13, rfl, z13cs, z13cl, z13cc, z13nf, z13r⟩ := RX.elem (by decide) hX hxx10
    obtain ⟨z13S, z13r, z13rr⟩ := z13r
    obtain rfl : z13cs = [.string (bsOf x10)] := z13r
    refine T.skip (X.seq (T.seq (T.block (T.seq (T.region rfl ?_)))))
    refine TL.q rfl .u (Ex.ixS (k := k4) rfl rfl rfl Tryz.runUnderlying134 Tryz.sizeOf9 (List.getElem?_eq_some_iff.1 hxx10).1) rfl ?_
    refine TL.q rfl .u (Ex.o1 0 rfl Tryz.isAgg9 z13nf z13cc rfl rfl) rfl ?_
    refine TL.run ft_crc_ok [2] rfl rfl ?_
    refine TL.nil (X.seq (T.region rfl ?_))
    obtain ⟨⟨x14, st15⟩, hx16, h⟩ := Option.bind_eq_some_iff.1 h
    try dsimp only at h
    refine TL.run ft_crc_ok [0, 1, 2] rfl rfl ?_
    refine TL.c0 rfl .u (.fn Tryz.call65 rfl) (f_crc_TableMore_spec g st5 y3 x10 _ hx16) (fun _ hs => (Src.triv _)) rfl ?_
    refine TL.run ft_crc_ok [4] rfl rfl ?_
    refine TL.nil (X.blk (X.seq (T.region rfl ?_)))
    refine TL.q rfl .u (Ex.add rfl rfl (by omega)) rfl ?_
    refine TL.run ft_crc_ok [1] rfl rfl ?_
    exact TL.nil (X.back (m' := m9) [0] (by omega) ⟨x14, k4 + 1, st15, by omega, rfl, rfl, h⟩ (by rfl) (by rfl))
end Go.Proofs.YtlhgogjcaegehaaGreat.Sl
namespace Go.Proofs.YtlhgogjcaegehaaGreat.Sl
open Go.RowKit
set_option linter.unusedVariables false
set_option linter.unusedSimpArgs false
set_option maxRecDepth 100000
def ft_prefix : FTab := [(93, 0, 0), (93, 1, 1), (93, 2, 2), (93, 3, 3), (93, 4, 4), (93, 5, 5), (93, 6, 6), (93, 7, 7), (93, 8, 8), (93, 9, 9), (93, 10, 10), (93, 11, 11), (131, 0, 0), (131, 1, 1)]
theorem ft_prefix_ok : (ft_prefix).OK Tryz.prog := ⟨FOK.mk Tryz.runUnderlying93 rfl Tryz.sizeOf3 rfl, FOK.mk Tryz.runUnderlying93 rfl Tryz.sizeOf3 rfl, FOK.mk Tryz.runUnderlying93 rfl Tryz.sizeOf3 rfl, FOK.mk Tryz.runUnderlying93 rfl Tryz.sizeOf3 rfl, FOK.mk Tryz.runUnderlying93 rfl Tryz.sizeOf3 rfl, FOK.mk Tryz.runUnderlying93 rfl Tryz.sizeOf3 rfl, FOK.mk Tryz.runUnderlying93 rfl Tryz.sizeOf3 rfl, FOK.mk Tryz.runUnderlying93 rfl Tryz.sizeOf3 rfl, FOK.mk Tryz.runUnderlying93 rfl Tryz.sizeOf3 rfl, FOK.mk Tryz.runUnderlying93 rfl Tryz.sizeOf3 rfl, FOK.mk Tryz.runUnderlying93 rfl Tryz.sizeOf3 rfl, FOK.mk Tryz.runUnderlying93 rfl Tryz.sizeOf3 rfl, FOK.mk Tryz.runUnderlying131 rfl Tryz.sizeOf129 rfl, FOK.mk Tryz.runUnderlying131 rfl Tryz.sizeOf3 rfl, trivial⟩
def nt_prefix : List Nat := [3]
theorem nt_prefix_ok : NOK Tryz.prog nt_prefix := ⟨Tryz.isAgg3, trivial⟩
theorem mix_prefix : Tryz.prog.follows .mixedOrders = true := by kernel_rfl
theorem bok_prefix_131 : BOK Tryz.prog 131 #[.pointer none, .int .i64 0] [(0, 1), (1, 1)] := BOK.mk Tryz.zeroValue131 Tryz.runUnderlying131 (by intro w; simp)
theorem sok_prefix_127_13 : SOK Tryz.prog 127 131 13 2 #[.pointer none, .int .i64 0, .pointer none, .int .i64 0, .pointer none, .int .i64 0, .pointer none, .int .i64 0, .pointer none, .int .i64 0, .pointer none, .int .i64 0, .pointer none, .int .i64 0, .pointer none, .int .i64 0, .pointer none, .int .i64 0, .pointer none, .int .i64 0, .pointer none, .int .i64 0, .pointer none, .int .i64 0, .pointer none, .int .i64 0] := SOK.mk Tryz.runUnderlying127 Tryz.sizeOf131 Tryz.zeroValue131 (by decide) (by kernel_rfl)
def f_prefix_PrefixFields (p0 : Nat) (p1 : Nat) : Option (Unit) := some ()
set_option maxRecDepth 100000 in
set_option maxHeartbeats 4000000 in
theorem f_prefix_PrefixFields_spec (p0 : Nat) (p1 : Nat) (r : Unit) (h : f_prefix_PrefixFields p0 p1 = some r) : SpecX Tryz.prog 64 #[.pointer (some ⟨p0, 0, none⟩), .pointer (some ⟨p1, 0, none⟩)] .triv (EmpR) (fun v A' N => ∃ q : Nat, v = .slice (some ⟨q, 0, none⟩) 13 13 ∧ A' = EmpR ∧ N = [BlkR q 131 #[.pointer (some ⟨p0, 0, none⟩), .int .i64 8, .pointer (some ⟨p0, 1, none⟩), .int .i64 4, .pointer (some ⟨p0, 2, none⟩), .int .i64 4, .pointer (some ⟨p1, 0, none⟩), .int .i64 1, .pointer (some ⟨p0, 3, none⟩), .int .i64 4, .pointer (some ⟨p0, 4, none⟩), .int .i64 2, .pointer (some ⟨p0, 5, none⟩), .int .i64 4, .pointer (some ⟨p0, 6, none⟩), .int .i64 8, .pointer (some ⟨p0, 7, none⟩), .int .i64 8, .pointer (some ⟨p0, 8, none⟩), .int .i64 8, .pointer (some ⟨p0, 9, none⟩), .int .i64 2, .pointer (some ⟨p0, 10, none⟩), .int .i64 4, .pointer (some ⟨p0, 11, none⟩), .int .i64 4]]) := by
  refine enterA Tryz.func64 rfl Tryz.ntmps64 rfl ?_
  intro F w hX
  unfold f_prefix_PrefixFields at h
  refine T.seq (T.region rfl ?_)
  refine TL.run ft_prefix_ok [0] rfl rfl ?_
  refine TL.nil (X.seq (T.seq (T.draw (.q 0 (.q 1 (.q 2 (.q 3 (.q 4 (.q 5 (.q 6 (.q 7 (.q 8 (.q 9 (.q 10 (.q 11 (.q 12 (.q 13 (.q 14 (.q 15 (.q 16 (.q 17 (.q 18 (.q 19 (.q 20 (.q 21 (.q 22 (.q 23 (.q 24 (.q 25 (.q 26 (.q 27 (.q 28 (.q 29 (.q 30 (.q 31 (.q 32 (.q 33 (.q 34 (.q 35 (.q 36 (.q 37 (.q 38 (.q 39 (.q 40 (.q 41 (.q 42 (.q 43 (.q 44 (.q 45 (.q 46 (.q 47 (.q 48 (.q 49 (.e 50 (.q 51 .nil)))))))))))))))))))))))))))))))))))))))))))))))))))) [0] rfl mix_prefix (NoP.seq np_post) (by kernel_rfl) ?_)))
  refine TD.run ft_prefix_ok [0, 1, 2] rfl rfl ?_
  refine TD.q rfl .u (Ex.bld (cells := #[.pointer (some ⟨p0, 0, none⟩), .int .i64 8]) bok_prefix_131 rfl (by kernel_rfl)) rfl ?_
  refine TD.run ft_prefix_ok [4, 5, 6] rfl rfl ?_
  refine TD.q rfl .u (Ex.bld (cells := #[.pointer (some ⟨p0, 1, none⟩), .int .i64 4]) bok_prefix_131 rfl (by kernel_rfl)) rfl ?_
  refine TD.run ft_prefix_ok [8, 9, 10] rfl rfl ?_
  refine TD.q rfl .u (Ex.bld (cells := #[.pointer (some ⟨p0, 2, none⟩), .int .i64 4]) bok_prefix_131 rfl (by kernel_rfl)) rfl ?_
  refine TD.run ft_prefix_ok [12] rfl rfl ?_
  refine TD.q rfl .u (Ex.bld (cells := #[.pointer (some ⟨p1, 0, none⟩), .int .i64 1]) bok_prefix_131 rfl (by kernel_rfl)) rfl ?_
  refine TD.run ft_prefix_ok [14, 15, 16] rfl rfl ?_
  refine TD.q rfl .u (Ex.bld (cells := #[.pointer (some ⟨p0, 3, none⟩), .int .i64 4]) bok_prefix_131 rfl (by kernel_rfl)) rfl ?_
  refine TD.run ft_prefix_ok [18, 19, 20] rfl rfl ?_
  refine TD.q rfl .u (Ex.bld (cells := #[.pointer (some ⟨p0, 4, none⟩), .int .i64 2]) bok_prefix_131 rfl (by kernel_rfl)) rfl ?_
  refine TD.run ft_prefix_ok [22, 23, 24] rfl rfl ?_
  refine TD.q rfl .u (Ex.bld (cells := #[.pointer (some ⟨p0, 5, none⟩), .int .i64 4]) bok_prefix_131 rfl (by kernel_rfl)) rfl ?_
  refine TD.run ft_prefix_ok [26, 27, 28] rfl rfl ?_
  refine TD.q rfl .u (Ex.bld (cells := #[.pointer (some ⟨p0, 6, none⟩), .int .i64 8]) bok_prefix_131 rfl (by kernel_rfl)) rfl ?_
  refine TD.run ft_prefix_ok [30, 31, 32] rfl rfl ?_
  refine TD.q rfl .u (Ex.bld (cells := #[.pointer (some ⟨p0, 7, none⟩), .int .i64 8]) bok_prefix_131 rfl (by kernel_rfl)) rfl ?_
  refine TD.run ft_prefix_ok [34, 35, 36] rfl rfl ?_
  refine TD.q rfl .u (Ex.bld (cells := #[.pointer (some ⟨p0, 8, none⟩), .int .i64 8]) bok_prefix_131 rfl (by kernel_rfl)) rfl ?_
  refine TD.run ft_prefix_ok [38, 39, 40] rfl rfl ?_
  refine TD.q rfl .u (Ex.bld (cells := #[.pointer (some ⟨p0, 9, none⟩), .int .i64 2]) bok_prefix_131 rfl (by kernel_rfl)) rfl ?_
  refine TD.run ft_prefix_ok [42, 43, 44] rfl rfl ?_
  refine TD.q rfl .u (Ex.bld (cells := #[.pointer (some ⟨p0, 10, none⟩), .int .i64 4]) bok_prefix_131 rfl (by kernel_rfl)) rfl ?_
  refine TD.run ft_prefix_ok [46, 47, 48] rfl rfl ?_
  refine TD.q rfl .u (Ex.bld (cells := #[.pointer (some ⟨p0, 11, none⟩), .int .i64 4]) bok_prefix_131 rfl (by kernel_rfl)) rfl ?_
  refine TD.lit (cells := #[.pointer (some ⟨p0, 0, none⟩), .int .i64 8, .pointer (some ⟨p0, 1, none⟩), .int .i64 4, .pointer (some ⟨p0, 2, none⟩), .int .i64 4, .pointer (some ⟨p1, 0, none⟩), .int .i64 1, .pointer (some ⟨p0, 3, none⟩), .int .i64 4, .pointer (some ⟨p0, 4, none⟩), .int .i64 2, .pointer (some ⟨p0, 5, none⟩), .int .i64 4, .pointer (some ⟨p0, 6, none⟩), .int .i64 8, .pointer (some ⟨p0, 7, none⟩), .int .i64 8, .pointer (some ⟨p0, 8, none⟩), .int .i64 8, .pointer (some ⟨p0, 9, none⟩), .int .i64 2, .pointer (some ⟨p0, 10, none⟩), .int .i64 4, .pointer (some ⟨p0, 11, none⟩), .int .i64 4]) rfl .u sok_prefix_127_13 rfl (by kernel_rfl) rfl [1] (fun _ => rfl) (fun b1 => ?_)
  refine TD.run ft_prefix_ok [51] rfl rfl ?_
  obtain rfl := Option.some.inj h
  exact TD.nil (X.seq (T.ret (X.done1 [1, 0] Tryz.results64 (RV.tm rfl) ⟨_, rfl, rfl, rfl⟩ (by rfl) (.inl rfl))))
def f_prefix_Write (st : List UInt8 × Int) (a1 : Pfx) : Option (List UInt8 × Int) := (if a1.fSum < 0 then some true else (if a1.fSum > 4294967295 then some true else some false)).bind fun y4 => (if y4 = true then ((gOFail st 11).bind fun st14 => some st14) else some st).bind fun st11 => if -9223372036854775808 ≤ (IntKind.i32.wrap (IntKind.u32.wrap a1.fSum)) ∧ (IntKind.i32.wrap (IntKind.u32.wrap a1.fSum)) ≤ 9223372036854775807 then ((gOInt st11 a1.fBase 8).bind fun st19 => (gOInt st19 a1.fLength 4).bind fun st22 => (gOInt st22 a1.fLeader 4).bind fun st25 => (gOInt st25 2 1).bind fun st28 => (gOInt st28 (IntKind.i32.wrap (IntKind.u32.wrap a1.fSum)) 4).bind fun st31 => (gOInt st31 a1.fAttr 2).bind fun st34 => (gOInt st34 a1.fLast 4).bind fun st37 => (gOInt st37 a1.fFirst 8).bind fun st40 => (gOInt st40 a1.fMax 8).bind fun st43 => (gOInt st43 a1.fProducer 8).bind fun st46 => (gOInt st46 a1.fEpoch 2).bind fun st49 => (gOInt st49 a1.fSequence 4).bind fun st52 => (gOInt st52 a1.fCount 4).bind fun st55 => some st55) else none
set_option maxRecDepth 100000 in
set_option maxHeartbeats 4000000 in
theorem f_prefix_Write_spec (g : Nat) (st : List UInt8 × Int) (a1 : Pfx) (r : List UInt8 × Int) (h : f_prefix_Write st a1 = some r) : SpecX Tryz.prog 35 #[.pointer (some ⟨g, 0, none⟩), .agg #[.int .i64 a1.fBase, .int .i64 a1.fLength, .int .i64 a1.fLeader, .int .i64 a1.fSum, .int .i64 a1.fAttr, .int .i64 a1.fLast, .int .i64 a1.fFirst, .int .i64 a1.fMax, .int .i64 a1.fProducer, .int .i64 a1.fEpoch, .int .i64 a1.fSequence, .int .i64 a1.fCount]] .triv (OutR g st) (fun v A' N => v = .tuple #[] ∧ A' = OutR g r ∧ N = []) := by
  refine enterA Tryz.func35 rfl Tryz.ntmps35 rfl ?_
  intro F w hX
  unfold f_prefix_Write at h
  refine T.seq (T.region rfl ?_)
  refine TL.box rfl .u rfl rfl (fun b1 => ?_)
  refine TL.nil (X.seq (T.seq (T.region rfl ?_)))
  refine TL.alloc rfl .u Tryz.zeroValue3 rfl (fun b2 => ?_)
  refine TL.st0 (cs' := #[.int .i64 2]) rfl .u rfl rfl Tryz.sizeOf3 rfl rfl rfl rfl ?_
  refine TL.nil (X.seq (T.seq (T.seq ?_)))
  obtain ⟨y4, h, hk5⟩ := Option.bind_eq_some_iff.1 h
  refine T.jq (fun e Rs => e = [(0, .pointer (some ⟨g, 0, none⟩)), (3, .pointer (some ⟨b1, 0, none⟩)), (4, .pointer (some ⟨b2, 0, none⟩)), (14, .bool y4)] ∧ Rs = [BlkR b2 3 #[.int .i64 2], BlkR b1 93 #[.int .i64 a1.fBase, .int .i64 a1.fLength, .int .i64 a1.fLeader, .int .i64 a1.fSum, .int .i64 a1.fAttr, .int .i64 a1.fLast, .int .i64 a1.fFirst, .int .i64 a1.fMax, .int .i64 a1.fProducer, .int .i64 a1.fEpoch, .int .i64 a1.fSequence, .int .i64 a1.fCount], OutR g st]) ?_ ?_
  · clear hk5
    refine T.region rfl ?_
    by_cases c6 : a1.fSum < 0
    · replace h := ifT c6 h
      refine TL.rb ft_prefix_ok nt_prefix_ok 1 rfl 4 rfl rfl ?_
      refine TL.hv 10 rfl (decide_eq_true c6) ?_
      refine TL.rw ft_prefix_ok 4 rfl ?_
      cases h
      exact TL.nil (X.jq [0, 0, 0] ⟨rfl, rfl⟩ (by rfl) (by rfl))
    · replace h := ifF c6 h
      refine TL.rb ft_prefix_ok nt_prefix_ok 1 rfl 4 rfl rfl ?_
      refine TL.hv 10 rfl (decide_eq_false c6) ?_
      refine TL.rb ft_prefix_ok nt_prefix_ok 1 rfl 4 rfl rfl ?_
      by_cases c7 : a1.fSum > 4294967295
      · replace h := ifT c7 h
        cases h
        exact TL.nil (X.as (d := 14) (v' := .bool true) rfl (congrArg Value.bool (decide_eq_true c7)) (X.jq [0, 0, 0] ⟨rfl, rfl⟩ (by rfl) (by rfl)))
      · replace h := ifF c7 h
        cases h
        exact TL.nil (X.as (d := 14) (v' := .bool false) rfl (congrArg Value.bool (decide_eq_false c7)) (X.jq [0, 0, 0] ⟨rfl, rfl⟩ (by rfl) (by rfl)))
  · rintro _ _ ⟨rfl, rfl⟩
    clear h
    have h := hk5
    clear hk5
    try dsimp only at h
    refine X.seq ?_
    obtain ⟨st11, h, hk12⟩ := Option.bind_eq_some_iff.1 h
    refine T.jq (fun e Rs => e = [(0, .pointer (some ⟨g, 0, none⟩)), (3, .pointer (some ⟨b1, 0, none⟩)), (4, .pointer (some ⟨b2, 0, none⟩))] ∧ Rs = [BlkR b2 3 #[.int .i64 2], BlkR b1 93 #[.int .i64 a1.fBase, .int .i64 a1.fLength, .int .i64 a1.fLeader, .int .i64 a1.fSum, .int .i64 a1.fAttr, .int .i64 a1.fLast, .int .i64 a1.fFirst, .int .i64 a1.fMax, .int .i64 a1.fProducer, .int .i64 a1.fEpoch, .int .i64 a1.fSequence, .int .i64 a1.fCount], OutR g st11]) ?_ ?_
    · clear hk12
      by_cases c13 : y4 = true
      · replace h := ifT c13 h
        refine T.yes rfl c13 ?_
        refine T.region rfl ?_
        obtain ⟨st14, hx15, h⟩ := Option.bind_eq_some_iff.1 h
        refine TL.run ft_prefix_ok [0] rfl rfl ?_
        refine TL.c2 rfl .u (.fn Tryz.call22 rfl) (gOFail_spec g st 11 _ hx15) (fun _ hs => (Src.triv _)) rfl ?_
        cases h
        exact TL.nil (X.jq [0, 0, 0] ⟨rfl, rfl⟩ (by rfl) (by rfl))
      · replace h := ifF c13 h
        replace c13 := eq_false_of_ne_true c13
        refine T.no rfl c13 ?_
        cases h
        exact T.skip (X.jq [0, 0, 0] ⟨rfl, rfl⟩ (by rfl) (by rfl))
    · rintro _ _ ⟨rfl, rfl⟩
      clear h
      have h := hk12
      clear hk12
      try dsimp only at h
      refine X.seq (T.seq (T.region rfl ?_))
      refine TL.rb ft_prefix_ok nt_prefix_ok 1 rfl 2 rfl rfl ?_
      refine TL.q rfl .u (Ex.conv rfl Tryz.runUnderlying3 Tryz.runUnderlying95) rfl ?_
      refine TL.q rfl .u (Ex.conv rfl Tryz.runUnderlying95 Tryz.runUnderlying21) rfl ?_
      replace h := guard_some h
      obtain ⟨c16, h⟩ := h
      refine TL.q rfl .u (Ex.conv64 rfl Tryz.runUnderlying21 Tryz.runUnderlying3 c16) rfl ?_
      refine TL.run ft_prefix_ok [5] rfl rfl ?_
      refine TL.st1 (cs' := #[.int .i64 a1.fBase, .int .i64 a1.fLength, .int .i64 a1.fLeader, .int .i64 (IntKind.i32.wrap (IntKind.u32.wrap a1.fSum)), .int .i64 a1.fAttr, .int .i64 a1.fLast, .int .i64 a1.fFirst, .int .i64 a1.fMax, .int .i64 a1.fProducer, .int .i64 a1.fEpoch, .int .i64 a1.fSequence, .int .i64 a1.fCount]) rfl .u rfl rfl Tryz.sizeOf3 rfl rfl rfl rfl ?_
      refine TL.nil (X.seq (T.seq (T.region rfl ?_)))
      refine TL.cge rfl .u (.fn Tryz.call64 rfl) (f_prefix_PrefixFields_spec b1 b2 () rfl) (fun _ hs => RX.reads_triv _ _) rfl ?_
      rintro _ _ _ ⟨b17, rfl, rfl, rfl⟩
      refine TL.sel [0, 0, 0, 0] rfl ?_
      refine TL.q rfl .u (Ex.lenS rfl Tryz.runUnderlying127) rfl ?_
      refine TL.run ft_prefix_ok [2] rfl rfl ?_
      refine TL.nil (X.seq (T.block ?_))
      refine T.unroll0 (TW.step (T.seq (T.region rfl ?_)))
      refine TL.run ft_prefix_ok [0] rfl rfl ?_
      refine TL.nil (X.seq (T.seq ?_))
      refine T.yes rfl (decide_eq_true (show 0 < 13 by omega)) ?_
      refine T.skip (X.seq (T.seq (T.block (T.seq (T.region rfl ?_)))))
      refine TL.q rfl .u (Ex.ixL (k := 0) (r := 0) rfl rfl rfl Tryz.runUnderlying127 Tryz.sizeOf131 (by decide) rfl) rfl ?_
      refine TL.q rfl .u (Ex.bS (us := [.pointer (some ⟨b1, 0, none⟩), .int .i64 8]) 0 rfl Tryz.isAgg131 Tryz.sizeOf131 rfl rfl rfl) rfl ?_
      refine TL.alloc rfl .u Tryz.zeroValue131 rfl (fun b18 => ?_)
      refine TL.st0 (cs' := #[.pointer (some ⟨b1, 0, none⟩), .int .i64 8]) rfl .u rfl rfl Tryz.sizeOf131 rfl rfl rfl rfl ?_
      refine TL.nil (X.seq (T.draw (.q 0 (.q 1 (.q 2 (.q 3 (.q 4 (.q 5 (.q 6 (.e 7 .nil)))))))) [0, 0, 0, 0] rfl mix_prefix (NoP.blk (NoP.seq (NoP.seq (NoP.blk np_post)))) (by kernel_rfl) ?_))
      refine TD.run ft_prefix_ok [0, 1] rfl rfl ?_
      refine TD.q rfl .u (Ex.b1 0 rfl Tryz.isAgg129 rfl rfl) rfl ?_
      refine TD.run ft_prefix_ok [3] rfl rfl ?_
      refine TD.q rfl .u (Ex.b1 3 rfl Tryz.isAgg3 rfl rfl) rfl ?_
      refine TD.run ft_prefix_ok [5] rfl rfl ?_
      refine TD.q rfl .u (Ex.b1 0 rfl Tryz.isAgg3 rfl rfl) rfl ?_
      obtain ⟨st19, hx20, h⟩ := Option.bind_eq_some_iff.1 h
      refine TD.c4 rfl .u (.fn Tryz.call24 rfl) (gOInt_spec g st11 a1.fBase 8 _ hx20) (fun _ hs => (Src.triv _)) rfl [0, 0, 0, 0] (rfl) ?_
      refine TD.nil (X.blk (X.seq (T.region rfl ?_)))
      refine TL.q rfl .u (Ex.add rfl rfl (by omega)) rfl ?_
      refine TL.run ft_prefix_ok [1] rfl rfl ?_
      refine TL.nil (X.un (TW.step (T.seq (T.region rfl ?_))))
      refine TL.run ft_prefix_ok [0] rfl rfl ?_
      refine TL.nil (X.seq (T.seq ?_))
      refine T.yes rfl (decide_eq_true (show 1 < 13 by omega)) ?_
      refine T.skip (X.seq (T.seq (T.block (T.seq (T.region rfl ?_)))))
      refine TL.q rfl .u (Ex.ixL (k := 1) (r := 2) rfl rfl rfl Tryz.runUnderlying127 Tryz.sizeOf131 (by decide) rfl) rfl ?_
      refine TL.q rfl .u (Ex.bS (us := [.pointer (some ⟨b1, 1, none⟩), .int .i64 4]) 1 rfl Tryz.isAgg131 Tryz.sizeOf131 rfl rfl rfl) rfl ?_
      refine TL.alloc rfl .u Tryz.zeroValue131 rfl (fun b21 => ?_)
      refine TL.st0 (cs' := #[.pointer (some ⟨b1, 1, none⟩), .int .i64 4]) rfl .u rfl rfl Tryz.sizeOf131 rfl rfl rfl rfl ?_
      refine TL.nil (X.seq (T.draw (.q 0 (.q 1 (.q 2 (.q 3 (.q 4 (.q 5 (.q 6 (.e 7 .nil)))))))) [0, 0, 0, 0, 0] rfl mix_prefix (NoP.blk (NoP.seq (NoP.seq (NoP.blk np_post)))) (by kernel_rfl) ?_))
      refine TD.run ft_prefix_ok [0, 1] rfl rfl ?_
      refine TD.q rfl .u (Ex.b1 0 rfl Tryz.isAgg129 rfl rfl) rfl ?_
      refine TD.run ft_prefix_ok [3] rfl rfl ?_
      refine TD.q rfl .u (Ex.b1 4 rfl Tryz.isAgg3 rfl rfl) rfl ?_
      refine TD.run ft_prefix_ok [5] rfl rfl ?_
      refine TD.q rfl .u (Ex.b1 0 rfl Tryz.isAgg3 rfl rfl) rfl ?_
      obtain ⟨st22, hx23, h⟩ := Option.bind_eq_some_iff.1 h
      refine TD.c5 rfl .u (.fn Tryz.call24 rfl) (gOInt_spec g st19 a1.fLength 4 _ hx23) (fun _ hs => (Src.triv _)) rfl [0, 0, 0, 0, 0] (rfl) ?_
      refine TD.nil (X.blk (X.seq (T.region rfl ?_)))
      refine TL.q rfl .u (Ex.add rfl rfl (by omega)) rfl ?_
      refine TL.run ft_prefix_ok [1] rfl rfl ?_
      refine TL.nil ?_
      refine X.sel [0, 1, 1, 1, 1] rfl ?_
      refine X.un (TW.step (T.seq (T.region rfl ?_)))
      refine TL.run ft_prefix_ok [0] rfl rfl ?_
      refine TL.nil (X.seq (T.seq ?_))
      refine T.yes rfl (decide_eq_true (show 2 < 13 by omega)) ?_
      refine T.skip (X.seq (T.seq (T.block (T.seq (T.region rfl ?_)))))
      refine TL.q rfl .u (Ex.ixL (k := 2) (r := 4) rfl rfl rfl Tryz.runUnderlying127 Tryz.sizeOf131 (by decide) rfl) rfl ?_
      refine TL.q rfl .u (Ex.bS (us := [.pointer (some ⟨b1, 2, none⟩), .int .i64 4]) 1 rfl Tryz.isAgg131 Tryz.sizeOf131 rfl rfl rfl) rfl ?_
      refine TL.alloc rfl .u Tryz.zeroValue131 rfl (fun b24 => ?_)
      refine TL.st0 (cs' := #[.pointer (some ⟨b1, 2, none⟩), .int .i64 4]) rfl .u rfl rfl Tryz.sizeOf131 rfl rfl rfl rfl ?_
      refine TL.nil (X.seq (T.draw (.q 0 (.q 1 (.q 2 (.q 3 (.q 4 (.q 5 (.q 6 (.e 7 .nil)))))))) [0, 0, 0, 0, 0] rfl mix_prefix (NoP.blk (NoP.seq (NoP.seq (NoP.blk np_post)))) (by kernel_rfl) ?_))
      refine TD.run ft_prefix_ok [0, 1] rfl rfl ?_
      refine TD.q rfl .u (Ex.b1 0 rfl Tryz.isAgg129 rfl rfl) rfl ?_
      refine TD.run ft_prefix_ok [3] rfl rfl ?_
      refine TD.q rfl .u (Ex.b1 4 rfl Tryz.isAgg3 rfl rfl) rfl ?_
      refine TD.run ft_prefix_ok [5] rfl rfl ?_
      refine TD.q rfl .u (Ex.b1 0 rfl Tryz.isAgg3 rfl rfl) rfl ?_
      obtain ⟨st25, hx26, h⟩ := Option.bind_eq_some_iff.1 h
      refine TD.c5 rfl .u (.fn Tryz.call24 rfl) (gOInt_spec g st22 a1.fLeader 4 _ hx26) (fun _ hs => (Src.triv _)) rfl [0, 0, 0, 0, 0] (rfl) ?_
      refine TD.nil (X.blk (X.seq (T.region rfl ?_)))
      refine TL.q rfl .u (Ex.add rfl rfl (by omega)) rfl ?_
      refine TL.run ft_prefix_ok [1] rfl rfl ?_
      refine TL.nil ?_
      refine X.sel [0, 1, 1, 1, 1] rfl ?_
      refine X.un (TW.step (T.seq (T.region rfl ?_)))
      refine TL.run ft_prefix_ok [0] rfl rfl ?_
      refine TL.nil (X.seq (T.seq ?_))
      refine T.yes rfl (decide_eq_true (show 3 < 13 by omega)) ?_
      refine T.skip (X.seq (T.seq (T.block (T.seq (T.region rfl ?_)))))
      refine TL.q rfl .u (Ex.ixL (k := 3) (r := 6) rfl rfl rfl Tryz.runUnderlying127 Tryz.sizeOf131 (by decide) rfl) rfl ?_
      refine TL.q rfl .u (Ex.bS (us := [.pointer (some ⟨b2, 0, none⟩), .int .i64 1]) 1 rfl Tryz.isAgg131 Tryz.sizeOf131 rfl rfl rfl) rfl ?_
      refine TL.alloc rfl .u Tryz.zeroValue131 rfl (fun b27 => ?_)
      refine TL.st0 (cs' := #[.pointer (some ⟨b2, 0, none⟩), .int .i64 1]) rfl .u rfl rfl Tryz.sizeOf131 rfl rfl rfl rfl ?_
      refine TL.nil (X.seq (T.draw (.q 0 (.q 1 (.q 2 (.q 3 (.q 4 (.q 5 (.q 6 (.e 7 .nil)))))))) [0, 0, 0, 0, 0] rfl mix_prefix (NoP.blk (NoP.seq (NoP.seq (NoP.blk np_post)))) (by kernel_rfl) ?_))
      refine TD.run ft_prefix_ok [0, 1] rfl rfl ?_
      refine TD.q rfl .u (Ex.b1 0 rfl Tryz.isAgg129 rfl rfl) rfl ?_
      refine TD.run ft_prefix_ok [3] rfl rfl ?_
      refine TD.q rfl .u (Ex.b1 3 rfl Tryz.isAgg3 rfl rfl) rfl ?_
      refine TD.run ft_prefix_ok [5] rfl rfl ?_
      refine TD.q rfl .u (Ex.b1 0 rfl Tryz.isAgg3 rfl rfl) rfl ?_
      obtain ⟨st28, hx29, h⟩ := Option.bind_eq_some_iff.1 h
      refine TD.c5 rfl .u (.fn Tryz.call24 rfl) (gOInt_spec g st25 2 1 _ hx29) (fun _ hs => (Src.triv _)) rfl [0, 0, 0, 0, 0] (rfl) ?_
      refine TD.nil (X.blk (X.seq (T.region rfl ?_)))
      refine TL.q rfl .u (Ex.add rfl rfl (by omega)) rfl ?_
      refine TL.run ft_prefix_ok [1] rfl rfl ?_
      refine TL.nil ?_
      refine X.sel [0, 1, 1, 1, 1] rfl ?_
      refine X.un (TW.step (T.seq (T.region rfl ?_)))
      refine TL.run ft_prefix_ok [0] rfl rfl ?_
      refine TL.nil (X.seq (T.seq ?_))
      refine T.yes rfl (decide_eq_true (show 4 < 13 by omega)) ?_
      refine T.skip (X.seq (T.seq (T.block (T.seq (T.region rfl ?_)))))
      refine TL.q rfl .u (Ex.ixL (k := 4) (r := 8) rfl rfl rfl Tryz.runUnderlying127 Tryz.sizeOf131 (by decide) rfl) rfl ?_
      refine TL.q rfl .u (Ex.bS (us := [.pointer (some ⟨b1, 3, none⟩), .int .i64 4]) 1 rfl Tryz.isAgg131 Tryz.sizeOf131 rfl rfl rfl) rfl ?_
      refine TL.alloc rfl .u Tryz.zeroValue131 rfl (fun b30 => ?_)
      refine TL.st0 (cs' := #[.pointer (some ⟨b1, 3, none⟩), .int .i64 4]) rfl .u rfl rfl Tryz.sizeOf131 rfl rfl rfl rfl ?_
      refine TL.nil (X.seq (T.draw (.q 0 (.q 1 (.q 2 (.q 3 (.q 4 (.q 5 (.q 6 (.e 7 .nil)))))))) [0, 0, 0, 0, 0] rfl mix_prefix (NoP.blk (NoP.seq (NoP.seq (NoP.blk np_post)))) (by kernel_rfl) ?_))
      refine TD.run ft_prefix_ok [0, 1] rfl rfl ?_
      refine TD.q rfl .u (Ex.b1 0 rfl Tryz.isAgg129 rfl rfl) rfl ?_
      refine TD.run ft_prefix_ok [3] rfl rfl ?_
      refine TD.q rfl .u (Ex.b1 4 rfl Tryz.isAgg3 rfl rfl) rfl ?_
      refine TD.run ft_prefix_ok [5] rfl rfl ?_
      refine TD.q rfl .u (Ex.b1 0 rfl Tryz.isAgg3 rfl rfl) rfl ?_
      obtain ⟨st31, hx32, h⟩ := Option.bind_eq_some_iff.1 h
      refine TD.c5 rfl .u (.fn Tryz.call24 rfl) (gOInt_spec g st28 (IntKind.i32.wrap (IntKind.u32.wrap a1.fSum)) 4 _ hx32) (fun _ hs => (Src.triv _)) rfl [0, 0, 0, 0, 0] (rfl) ?_
      refine TD.nil (X.blk (X.seq (T.region rfl ?_)))
      refine TL.q rfl .u (Ex.add rfl rfl (by omega)) rfl ?_
      refine TL.run ft_prefix_ok [1] rfl rfl ?_
      refine TL.nil ?_
      refine X.sel [0, 1, 1, 1, 1] rfl ?_
      refine X.un (TW.step (T.seq (T.region rfl ?_)))
      refine TL.run ft_prefix_ok [0] rfl rfl ?_
      refine TL.nil (X.seq (T.seq ?_))
      refine T.yes rfl (decide_eq_true (show 5 < 13 by omega)) ?_
      refine T.skip (X.seq (T.seq (T.block (T.seq (T.region rfl ?_)))))
      refine TL.q rfl .u (Ex.ixL (k := 5) (r := 10) rfl rfl rfl Tryz.runUnderlying127 Tryz.sizeOf131 (by decide) rfl) rfl ?_
      refine TL.q rfl .u (Ex.bS (us := [.pointer (some ⟨b1, 4, none⟩), .int .i64 2]) 1 rfl Tryz.isAgg131 Tryz.sizeOf131 rfl rfl rfl) rfl ?_
      refine TL.alloc rfl .u Tryz.zeroValue131 rfl (fun b33 => ?_)
      refine TL.st0 (cs' := #[.pointer (some ⟨b1, 4, none⟩), .int .i64 2]) rfl .u rfl rfl Tryz.sizeOf131 rfl rfl rfl rfl ?_
      refine TL.nil (X.seq (T.draw (.q 0 (.q 1 (.q 2 (.q 3 (.q 4 (.q 5 (.q 6 (.e 7 .nil)))))))) [0, 0, 0, 0, 0] rfl mix_prefix (NoP.blk (NoP.seq (NoP.seq (NoP.blk np_post)))) (by kernel_rfl) ?_))
      refine TD.run ft_prefix_ok [0, 1] rfl rfl ?_
      refine TD.q rfl .u (Ex.b1 0 rfl Tryz.isAgg129 rfl rfl) rfl ?_
      refine TD.run ft_prefix_ok [3] rfl rfl ?_
      refine TD.q rfl .u (Ex.b1 4 rfl Tryz.isAgg3 rfl rfl) rfl ?_
      refine TD.run ft_prefix_ok [5] rfl rfl ?_
      refine TD.q rfl .u (Ex.b1 0 rfl Tryz.isAgg3 rfl rfl) rfl ?_
      obtain ⟨st34, hx35, h⟩ := Option.bind_eq_some_iff.1 h
      refine TD.c5 rfl .u (.fn Tryz.call24 rfl) (gOInt_spec g st31 a1.fAttr 2 _ hx35) (fun _ hs => (Src.triv _)) rfl [0, 0, 0, 0, 0] (rfl) ?_
      refine TD.nil (X.blk (X.seq (T.region rfl ?_)))
      refine TL.q rfl .u (Ex.add rfl rfl (by omega)) rfl ?_
      refine TL.run ft_prefix_ok [1] rfl rfl ?_
      refine TL.nil ?_
      refine X.sel [0, 1, 1, 1, 1] rfl ?_
      refine X.un (TW.step (T.seq (T.region rfl ?_)))
      refine TL.run ft_prefix_ok [0] rfl rfl ?_
      refine TL.nil (X.seq (T.seq ?_))
      refine T.yes rfl (decide_eq_true (show 6 < 13 by omega)) ?_
      refine T.skip (X.seq (T.seq (T.block (T.seq (T.region rfl ?_)))))
      refine TL.q rfl .u (Ex.ixL (k := 6) (r := 12) rfl rfl rfl Tryz.runUnderlying127 Tryz.sizeOf131 (by decide) rfl) rfl ?_
      refine TL.q rfl .u (Ex.bS (us := [.pointer (some ⟨b1, 5, none⟩), .int .i64 4]) 1 rfl Tryz.isAgg131 Tryz.sizeOf131 rfl rfl rfl) rfl ?_
      refine TL.alloc rfl .u Tryz.zeroValue131 rfl (fun b36 => ?_)
      refine TL.st0 (cs' := #[.pointer (some ⟨b1, 5, none⟩), .int .i64 4]) rfl .u rfl rfl Tryz.sizeOf131 rfl rfl rfl rfl ?_
      refine TL.nil (X.seq (T.draw (.q 0 (.q 1 (.q 2 (.q 3 (.q 4 (.q 5 (.q 6 (.e 7 .nil)))))))) [0, 0, 0, 0, 0] rfl mix_prefix (NoP.blk (NoP.seq (NoP.seq (NoP.blk np_post)))) (by kernel_rfl) ?_))
      refine TD.run ft_prefix_ok [0, 1] rfl rfl ?_
      refine TD.q rfl .u (Ex.b1 0 rfl Tryz.isAgg129 rfl rfl) rfl ?_
      refine TD.run ft_prefix_ok [3] rfl rfl ?_
      refine TD.q rfl .u (Ex.b1 4 rfl Tryz.isAgg3 rfl rfl) rfl ?_
      refine TD.run ft_prefix_ok [5] rfl rfl ?_
      refine TD.q rfl .u (Ex.b1 0 rfl Tryz.isAgg3 rfl rfl) rfl ?_
      obtain ⟨st37, hx38, h⟩ := Option.bind_eq_some_iff.1 h
      refine TD.c5 rfl .u (.fn Tryz.call24 rfl) (gOInt_spec g st34 a1.fLast 4 _ hx38) (fun _ hs => (Src.triv _)) rfl [0, 0, 0, 0, 0] (rfl) ?_
      refine TD.nil (X.blk (X.seq (T.region rfl ?_)))
      refine TL.q rfl .u (Ex.add rfl rfl (by omega)) rfl ?_
      refine TL.run ft_prefix_ok [1] rfl rfl ?_
      refine TL.nil ?_
      refine X.sel [0, 1, 1, 1, 1] rfl ?_
      refine X.un (TW.step (T.seq (T.region rfl ?_)))
      refine TL.run ft_prefix_ok [0] rfl rfl ?_
      refine TL.nil (X.seq (T.seq ?_))
      refine T.yes rfl (decide_eq_true (show 7 < 13 by omega)) ?_
      refine T.skip (X.seq (T.seq (T.block (T.seq (T.region rfl ?_)))))
      refine TL.q rfl .u (Ex.ixL (k := 7) (r := 14) rfl rfl rfl Tryz.runUnderlying127 Tryz.sizeOf131 (by decide) rfl) rfl ?_
      refine TL.q rfl .u (Ex.bS (us := [.pointer (some ⟨b1, 6, none⟩), .int .i64 8]) 1 rfl Tryz.isAgg131 Tryz.sizeOf131 rfl rfl rfl) rfl ?_
      refine TL.alloc rfl .u Tryz.zeroValue131 rfl (fun b39 => ?_)
      refine TL.st0 (cs' := #[.pointer (some ⟨b1, 6, none⟩), .int .i64 8]) rfl .u rfl rfl Tryz.sizeOf131 rfl rfl rfl rfl ?_
      refine TL.nil (X.seq (T.draw (.q 0 (.q 1 (.q 2 (.q 3 (.q 4 (.q 5 (.q 6 (.e 7 .nil)))))))) [0, 0, 0, 0, 0] rfl mix_prefix (NoP.blk (NoP.seq (NoP.seq (NoP.blk np_post)))) (by kernel_rfl) ?_))
      refine TD.run ft_prefix_ok [0, 1] rfl rfl ?_
      refine TD.q rfl .u (Ex.b1 0 rfl Tryz.isAgg129 rfl rfl) rfl ?_
      refine TD.run ft_prefix_ok [3] rfl rfl ?_
      refine TD.q rfl .u (Ex.b1 4 rfl Tryz.isAgg3 rfl rfl) rfl ?_
      refine TD.run ft_prefix_ok [5] rfl rfl ?_
      refine TD.q rfl .u (Ex.b1 0 rfl Tryz.isAgg3 rfl rfl) rfl ?_
      obtain ⟨st40, hx41, h⟩ := Option.bind_eq_some_iff.1 h
      refine TD.c5 rfl .u (.fn Tryz.call24 rfl) (gOInt_spec g st37 a1.fFirst 8 _ hx41) (fun _ hs => (Src.triv _)) rfl [0, 0, 0, 0, 0] (rfl) ?_
      refine TD.nil (X.blk (X.seq (T.region rfl ?_)))
      refine TL.q rfl .u (Ex.add rfl rfl (by omega)) rfl ?_
      refine TL.run ft_prefix_ok [1] rfl rfl ?_
      refine TL.nil ?_
      refine X.sel [0, 1, 1, 1, 1] rfl ?_
      refine X.un (TW.step (T.seq (T.region rfl ?_)))
      refine TL.run ft_prefix_ok [0] rfl rfl ?_
      refine TL.nil (X.seq (T.seq ?_))
      refine T.yes rfl (decide_eq_true (show 8 < 13 by omega)) ?_
      refine T.skip (X.seq (T.seq (T.block (T.seq (T.region rfl ?_)))))
      refine TL.q rfl .u (Ex.ixL (k := 8) (r := 16) rfl rfl rfl Tryz.runUnderlying127 Tryz.sizeOf131 (by decide) rfl) rfl ?_
      refine TL.q rfl .u (Ex.bS (us := [.pointer (some ⟨b1, 7, none⟩), .int .i64 8]) 1 rfl Tryz.isAgg131 Tryz.sizeOf131 rfl rfl rfl) rfl ?_
      refine TL.alloc rfl .u Tryz.zeroValue131 rfl (fun b42 => ?_)
      refine TL.st0 (cs' := #[.pointer (some ⟨b1, 7, none⟩), .int .i64 8]) rfl .u rfl rfl Tryz.sizeOf131 rfl rfl rfl rfl ?_
      refine TL.nil (X.seq (T.draw (.q 0 (.q 1 (.q 2 (.q 3 (.q 4 (.q 5 (.q 6 (.e 7 .nil)))))))) [0, 0, 0, 0, 0] rfl mix_prefix (NoP.blk (NoP.seq (NoP.seq (NoP.blk np_post)))) (by kernel_rfl) ?_))
      refine TD.run ft_prefix_ok [0, 1] rfl rfl ?_
      refine TD.q rfl .u (Ex.b1 0 rfl Tryz.isAgg129 rfl rfl) rfl ?_
      refine TD.run ft_prefix_ok [3] rfl rfl ?_
      refine TD.q rfl .u (Ex.b1 4 rfl Tryz.isAgg3 rfl rfl) rfl ?_
      refine TD.run ft_prefix_ok [5] rfl rfl ?_
      refine TD.q rfl .u (Ex.b1 0 rfl Tryz.isAgg3 rfl rfl) rfl ?_
      obtain ⟨st43, hx44, h⟩ := Option.bind_eq_some_iff.1 h
      refine TD.c5 rfl .u (.fn Tryz.call24 rfl) (gOInt_spec g st40 a1.fMax 8 _ hx44) (fun _ hs => (Src.triv _)) rfl [0, 0, 0, 0, 0] (rfl) ?_
      refine TD.nil (X.blk (X.seq (T.region rfl ?_)))
      refine TL.q rfl .u (Ex.add rfl rfl (by omega)) rfl ?_
      refine TL.run ft_prefix_ok [1] rfl rfl ?_
      refine TL.nil ?_
      refine X.sel [0, 1, 1, 1, 1] rfl ?_
      refine X.un (TW.step (T.seq (T.region rfl ?_)))
      refine TL.run ft_prefix_ok [0] rfl rfl ?_
      refine TL.nil (X.seq (T.seq ?_))
      refine T.yes rfl (decide_eq_true (show 9 < 13 by omega)) ?_
      refine T.skip (X.seq (T.seq (T.block (T.seq (T.region rfl ?_)))))
      refine TL.q rfl .u (Ex.ixL (k := 9) (r := 18) rfl rfl rfl Tryz.runUnderlying127 Tryz.sizeOf131 (by decide) rfl) rfl ?_
      refine TL.q rfl .u (Ex.bS (us := [.pointer (some ⟨b1, 8, none⟩), .int .i64 8]) 1 rfl Tryz.isAgg131 Tryz.sizeOf131 rfl rfl rfl) rfl ?_
      refine TL.alloc rfl .u Tryz.zeroValue131 rfl (fun b45 => ?_)
      refine TL.st0 (cs' := #[.pointer (some ⟨b1, 8, none⟩), .int .i64 8]) rfl .u rfl rfl Tryz.sizeOf131 rfl rfl rfl rfl ?_
      refine TL.nil (X.seq (T.draw (.q 0 (.q 1 (.q 2 (.q 3 (.q 4 (.q 5 (.q 6 (.e 7 .nil)))))))) [0, 0, 0, 0, 0] rfl mix_prefix (NoP.blk (NoP.seq (NoP.seq (NoP.blk np_post)))) (by kernel_rfl) ?_))
      refine TD.run ft_prefix_ok [0, 1] rfl rfl ?_
      refine TD.q rfl .u (Ex.b1 0 rfl Tryz.isAgg129 rfl rfl) rfl ?_
      refine TD.run ft_prefix_ok [3] rfl rfl ?_
      refine TD.q rfl .u (Ex.b1 4 rfl Tryz.isAgg3 rfl rfl) rfl ?_
      refine TD.run ft_prefix_ok [5] rfl rfl ?_
      refine TD.q rfl .u (Ex.b1 0 rfl Tryz.isAgg3 rfl rfl) rfl ?_
      obtain ⟨st46, hx47, h⟩ := Option.bind_eq_some_iff.1 h
      refine TD.c5 rfl .u (.fn Tryz.call24 rfl) (gOInt_spec g st43 a1.fProducer 8 _ hx47) (fun _ hs => (Src.triv _)) rfl [0, 0, 0, 0, 0] (rfl) ?_
      refine TD.nil (X.blk (X.seq (T.region rfl ?_)))
      refine TL.q rfl .u (Ex.add rfl rfl (by omega)) rfl ?_
      refine TL.run ft_prefix_ok [1] rfl rfl ?_
      refine TL.nil ?_
      refine X.sel [0, 1, 1, 1, 1] rfl ?_
      refine X.un (TW.step (T.seq (T.region rfl ?_)))
      refine TL.run ft_prefix_ok [0] rfl rfl ?_
      refine TL.nil (X.seq (T.seq ?_))
      refine T.yes rfl (decide_eq_true (show 10 < 13 by omega)) ?_
      refine T.skip (X.seq (T.seq (T.block (T.seq (T.region rfl ?_)))))
      refine TL.q rfl .u (Ex.ixL (k := 10) (r := 20) rfl rfl rfl Tryz.runUnderlying127 Tryz.sizeOf131 (by decide) rfl) rfl ?_
      refine TL.q rfl .u (Ex.bS (us := [.pointer (some ⟨b1, 9, none⟩), .int .i64 2]) 1 rfl Tryz.isAgg131 Tryz.sizeOf131 rfl rfl rfl) rfl ?_
      refine TL.alloc rfl .u Tryz.zeroValue131 rfl (fun b48 => ?_)
      refine TL.st0 (cs' := #[.pointer (some ⟨b1, 9, none⟩), .int .i64 2]) rfl .u rfl rfl Tryz.sizeOf131 rfl rfl rfl rfl ?_
      refine TL.nil (X.seq (T.draw (.q 0 (.q 1 (.q 2 (.q 3 (.q 4 (.q 5 (.q 6 (.e 7 .nil)))))))) [0, 0, 0, 0, 0] rfl mix_prefix (NoP.blk (NoP.seq (NoP.seq (NoP.blk np_post)))) (by kernel_rfl) ?_))
      refine TD.run ft_prefix_ok [0, 1] rfl rfl ?_
      refine TD.q rfl .u (Ex.b1 0 rfl Tryz.isAgg129 rfl rfl) rfl ?_
      refine TD.run ft_prefix_ok [3] rfl rfl ?_
      refine TD.q rfl .u (Ex.b1 4 rfl Tryz.isAgg3 rfl rfl) rfl ?_
      refine TD.run ft_prefix_ok [5] rfl rfl ?_
      refine TD.q rfl .u (Ex.b1 0 rfl Tryz.isAgg3 rfl rfl) rfl ?_
      obtain ⟨st49, hx50, h⟩ := Option.bind_eq_some_iff.1 h
      refine TD.c5 rfl .u (.fn Tryz.call24 rfl) (gOInt_spec g st46 a1.fEpoch 2 _ hx50) (fun _ hs => (Src.triv _)) rfl [0, 0, 0, 0, 0] (rfl) ?_
      refine TD.nil (X.blk (X.seq (T.region rfl ?_)))
      refine TL.q rfl .u (Ex.add rfl rfl (by omega)) rfl ?_
      refine TL.run ft_prefix_ok [1] rfl rfl ?_
      refine TL.nil ?_
      refine X.sel [0, 1, 1, 1, 1] rfl ?_
      refine X.un (TW.step (T.seq (T.region rfl ?_)))
      refine TL.run ft_prefix_ok [0] rfl rfl ?_
      refine TL.nil (X.seq (T.seq ?_))
      refine T.yes rfl (decide_eq_true (show 11 < 13 by omega)) ?_
      refine T.skip (X.seq (T.seq (T.block (T.seq (T.region rfl ?_)))))
      refine TL.q rfl .u (Ex.ixL (k := 11) (r := 22) rfl rfl rfl Tryz.runUnderlying127 Tryz.sizeOf131 (by decide) rfl) rfl ?_
      refine TL.q rfl .u (Ex.bS (us := [.pointer (some ⟨b1, 10, none⟩), .int .i64 4]) 1 rfl Tryz.isAgg131 Tryz.sizeOf131 rfl rfl rfl) rfl ?_
      refine TL.alloc rfl .u Tryz.zeroValue131 rfl (fun b51 => ?_)
      refine TL.st0 (cs' := #[.pointer (some ⟨b1, 10, none⟩), .int .i64 4]) rfl .u rfl rfl Tryz.sizeOf131 rfl rfl rfl rfl ?_
      refine TL.nil (X.seq (T.draw (.q 0 (.q 1 (.q 2 (.q 3 (.q 4 (.q 5 (.q 6 (.e 7 .nil)))))))) [0, 0, 0, 0, 0] rfl mix_prefix (NoP.blk (NoP.seq (NoP.seq (NoP.blk np_post)))) (by kernel_rfl) ?_))
      refine TD.run ft_prefix_ok [0, 1] rfl rfl ?_
      refine TD.q rfl .u (Ex.b1 0 rfl Tryz.isAgg129 rfl rfl) rfl ?_
      refine TD.run ft_prefix_ok [3] rfl rfl ?_
      refine TD.q rfl .u (Ex.b1 4 rfl Tryz.isAgg3 rfl rfl) rfl ?_
      refine TD.run ft_prefix_ok [5] rfl rfl ?_
      refine TD.q rfl .u (Ex.b1 0 rfl Tryz.isAgg3 rfl rfl) rfl ?_
      obtain ⟨st52, hx53, h⟩ := Option.bind_eq_some_iff.1 h
      refine TD.c5 rfl .u (.fn Tryz.call24 rfl) (gOInt_spec g st49 a1.fSequence 4 _ hx53) (fun _ hs => (Src.triv _)) rfl [0, 0, 0, 0, 0] (rfl) ?_
      refine TD.nil (X.blk (X.seq (T.region rfl ?_)))
      refine TL.q rfl .u (Ex.add rfl rfl (by omega)) rfl ?_
      refine TL.run ft_prefix_ok [1] rfl rfl ?_
      refine TL.nil ?_
      refine X.sel [0, 1, 1, 1, 1] rfl ?_
      refine X.un (TW.step (T.seq (T.region rfl ?_)))
      refine TL.run ft_prefix_ok [0] rfl rfl ?_
      refine TL.nil (X.seq (T.seq ?_))
      refine T.yes rfl (decide_eq_true (show 12 < 13 by omega)) ?_
      refine T.skip (X.seq (T.seq (T.block (T.seq (T.region rfl ?_)))))
      refine TL.q rfl .u (Ex.ixL (k := 12) (r := 24) rfl rfl rfl Tryz.runUnderlying127 Tryz.sizeOf131 (by decide) rfl) rfl ?_
      refine TL.q rfl .u (Ex.bS (us := [.pointer (some ⟨b1, 11, none⟩), .int .i64 4]) 1 rfl Tryz.isAgg131 Tryz.sizeOf131 rfl rfl rfl) rfl ?_
      refine TL.alloc rfl .u Tryz.zeroValue131 rfl (fun b54 => ?_)
      refine TL.st0 (cs' := #[.pointer (some ⟨b1, 11, none⟩), .int .i64 4]) rfl .u rfl rfl Tryz.sizeOf131 rfl rfl rfl rfl ?_
      refine TL.nil (X.seq (T.draw (.q 0 (.q 1 (.q 2 (.q 3 (.q 4 (.q 5 (.q 6 (.e 7 .nil)))))))) [0, 0, 0, 0, 0] rfl mix_prefix (NoP.blk (NoP.seq (NoP.seq (NoP.blk np_post)))) (by kernel_rfl) ?_))
      refine TD.run ft_prefix_ok [0, 1] rfl rfl ?_
      refine TD.q rfl .u (Ex.b1 0 rfl Tryz.isAgg129 rfl rfl) rfl ?_
      refine TD.run ft_prefix_ok [3] rfl rfl ?_
      refine TD.q rfl .u (Ex.b1 4 rfl Tryz.isAgg3 rfl rfl) rfl ?_
      refine TD.run ft_prefix_ok [5] rfl rfl ?_
      refine TD.q rfl .u (Ex.b1 0 rfl Tryz.isAgg3 rfl rfl) rfl ?_
      obtain ⟨st55, hx56, h⟩ := Option.bind_eq_some_iff.1 h
      refine TD.c5 rfl .u (.fn Tryz.call24 rfl) (gOInt_spec g st52 a1.fCount 4 _ hx56) (fun _ hs => (Src.triv _)) rfl [0, 0, 0, 0, 0] (rfl) ?_
      refine TD.nil (X.blk (X.seq (T.region rfl ?_)))
      refine TL.q rfl .u (Ex.add rfl rfl (by omega)) rfl ?_
      refine TL.run ft_prefix_ok [1] rfl rfl ?_
      refine TL.nil ?_
      refine X.sel [0, 1, 1, 1, 1] rfl ?_
      refine X.un (TW.step (T.seq (T.region rfl ?_)))
      refine TL.run ft_prefix_ok [0] rfl rfl ?_
      refine TL.nil (X.seq (T.seq ?_))
      refine T.no rfl (decide_eq_false (show ¬ (13 < 13) by omega)) ?_
      obtain rfl := Option.some.inj h
      exact T.exit (X.exs (X.exs (X.ex (X.done0 [4] Tryz.results35 ⟨rfl, rfl, rfl⟩ (by rfl) (.inr rfl)))))
end Go.Proofs.YtlhgogjcaegehaaGreat.Sl
namespace Go.Proofs.YtlhgogjcaegehaaGreat.Sl
open Go.RowKit
set_option linter.unusedVariables false
set_option linter.unusedSimpArgs false
set_option maxRecDepth 100000
def ft_batch : FTab := [(30, 0, 0), (30, 1, 1), (30, 2, 2), (30, 3, 3), (30, 4, 4), (30, 5, 5), (30, 6, 6), (30, 7, 7), (30, 8, 8), (30, 9, 9), (30, 10, 10), (30, 11, 11), (90, 0, 0), (90, 1, 1), (93, 3, 3)]
theorem ft_batch_ok : (ft_batch).OK Tryz.prog := ⟨FOK.mk Tryz.runUnderlying30 rfl Tryz.sizeOf3 rfl, FOK.mk Tryz.runUnderlying30 rfl Tryz.sizeOf3 rfl, FOK.mk Tryz.runUnderlying30 rfl Tryz.sizeOf4 rfl, FOK.mk Tryz.runUnderlying30 rfl Tryz.sizeOf4 rfl, FOK.mk Tryz.runUnderlying30 rfl Tryz.sizeOf4 rfl, FOK.mk Tryz.runUnderlying30 rfl Tryz.sizeOf3 rfl, FOK.mk Tryz.runUnderlying30 rfl Tryz.sizeOf3 rfl, FOK.mk Tryz.runUnderlying30 rfl Tryz.sizeOf3 rfl, FOK.mk Tryz.runUnderlying30 rfl Tryz.sizeOf3 rfl, FOK.mk Tryz.runUnderlying30 rfl Tryz.sizeOf3 rfl, FOK.mk Tryz.runUnderlying30 rfl Tryz.sizeOf3 rfl, FOK.mk Tryz.runUnderlying30 rfl Tryz.sizeOf28 rfl, FOK.mk Tryz.runUnderlying90 rfl Tryz.sizeOf3 rfl, FOK.mk Tryz.runUnderlying90 rfl Tryz.sizeOf3 rfl, FOK.mk Tryz.runUnderlying93 rfl Tryz.sizeOf3 rfl, trivial⟩
def nt_batch : List Nat := [3, 4, 28]
theorem nt_batch_ok : NOK Tryz.prog nt_batch := ⟨Tryz.isAgg3, Tryz.isAgg4, Tryz.isAgg28, trivial⟩
theorem mix_batch : Tryz.prog.follows .mixedOrders = true := by kernel_rfl
theorem bok_batch_44 : BOK Tryz.prog 44 #[.slice none 0 0, .int .i64 0] [(0, 1), (1, 1)] := BOK.mk Tryz.zeroValue44 Tryz.runUnderlying44 (by intro w; simp)
theorem bok_batch_93 : BOK Tryz.prog 93 #[.int .i64 0, .int .i64 0, .int .i64 0, .int .i64 0, .int .i64 0, .int .i64 0, .int .i64 0, .int .i64 0, .int .i64 0, .int .i64 0, .int .i64 0, .int .i64 0] [(0, 1), (1, 1), (2, 1), (3, 1), (4, 1), (5, 1), (6, 1), (7, 1), (8, 1), (9, 1), (10, 1), (11, 1)] := BOK.mk Tryz.zeroValue93 Tryz.runUnderlying93 (by intro w; simp)
theorem sok_batch_134_2 : SOK Tryz.prog 134 9 2 1 #[.string ⟨#[]⟩, .string ⟨#[]⟩] := SOK.mk Tryz.runUnderlying134 Tryz.sizeOf9 Tryz.zeroValue9 (by decide) (by kernel_rfl)
def f_batch_numbers (a0 : Bat) : Option (Bool) := if a0.fBase ≥ 0 then (if a0.fLeader ≥ (-1) then ((gFits a0.fLeader 4).bind fun x6 => if x6 = true then (if a0.fLast ≥ 0 then ((gFits a0.fLast 4).bind fun x10 => if x10 = true then (if (IntKind.i64.wrap (a0.fBase + a0.fLast)) ≥ 0 then (if a0.fFirst ≥ 0 then (if a0.fMax ≥ 0 then some true else some false) else some false) else some false) else some false) else some false) else some false) else some false) else some false
set_option maxRecDepth 100000 in
set_option maxHeartbeats 4000000 in
theorem f_batch_numbers_spec (a0 : Bat) (A1 : Option Addr) (c2 : Nat) (r : Bool) (h : f_batch_numbers a0 = some r) : SpecX Tryz.prog 57 #[.agg #[.int .i64 a0.fBase, .int .i64 a0.fLeader, .bool a0.fAppend, .bool a0.fTxn, .bool a0.fControl, .int .i64 a0.fLast, .int .i64 a0.fFirst, .int .i64 a0.fMax, .int .i64 a0.fProducer, .int .i64 a0.fEpoch, .int .i64 a0.fSequence, .slice A1 a0.fRecords.length c2]] (RX.of (sliceRd 7 Rec_rd) [.slice A1 a0.fRecords.length c2] a0.fRecords) (EmpR) (fun v A' N => v = .bool r ∧ A' = EmpR ∧ N = []) := by
  refine enterA Tryz.func57 rfl Tryz.ntmps57 rfl ?_
  intro F w hX
  unfold f_batch_numbers at h
  refine T.seq (T.region rfl ?_)
  refine TL.box rfl .u rfl rfl (fun b3 => ?_)
  refine TL.run ft_batch_ok [1] rfl rfl ?_
  refine TL.nil (X.seq (T.seq (T.region rfl ?_)))
  by_cases c4 : a0.fBase ≥ 0
  · replace h := ifT c4 h
    refine TL.rb ft_batch_ok nt_batch_ok 0 rfl 4 rfl rfl ?_
    refine TL.hv 6 rfl (decide_eq_true c4) ?_
    by_cases c5 : a0.fLeader ≥ (-1)
    · replace h := ifT c5 h
      refine TL.rb ft_batch_ok nt_batch_ok 0 rfl 5 rfl rfl ?_
      refine TL.hv 11 rfl (decide_eq_true c5) ?_
      obtain ⟨x6, hx7, h⟩ := Option.bind_eq_some_iff.1 h
      refine TL.rb ft_batch_ok nt_batch_ok 0 rfl 2 rfl rfl ?_
      refine TL.ce rfl (.g rfl rfl rfl) (.fn Tryz.call40 rfl) (SpecX.pure (fun w => gFits_spec a0.fLeader 4 _ hx7 w)) (fun _ _ => RX.reads_triv _ _) rfl ?_
      by_cases c8 : x6 = true
      · replace h := ifT c8 h
        refine TL.rw ft_batch_ok 2 rfl ?_
        refine TL.hv 16 rfl c8 ?_
        by_cases c9 : a0.fLast ≥ 0
        · replace h := ifT c9 h
          refine TL.rb ft_batch_ok nt_batch_ok 0 rfl 5 rfl rfl ?_
          refine TL.hv 21 rfl (decide_eq_true c9) ?_
          obtain ⟨x10, hx11, h⟩ := Option.bind_eq_some_iff.1 h
          refine TL.rb ft_batch_ok nt_batch_ok 0 rfl 2 rfl rfl ?_
          refine TL.ce rfl (.g rfl rfl rfl) (.fn Tryz.call40 rfl) (SpecX.pure (fun w => gFits_spec a0.fLast 4 _ hx11 w)) (fun _ _ => RX.reads_triv _ _) rfl ?_
          by_cases c12 : x10 = true
          · replace h := ifT c12 h
            refine TL.rw ft_batch_ok 2 rfl ?_
            refine TL.hv 26 rfl c12 ?_
            refine TL.rb ft_batch_ok nt_batch_ok 0 rfl 4 rfl rfl ?_
            refine TL.q rfl (.g rfl rfl rfl) (Ex.addw rfl rfl) rfl ?_
            by_cases c13 : (IntKind.i64.wrap (a0.fBase + a0.fLast)) ≥ 0
            · replace h := ifT c13 h
              refine TL.rw ft_batch_ok 3 rfl ?_
              refine TL.hv 34 rfl (decide_eq_true c13) ?_
              by_cases c14 : a0.fFirst ≥ 0
              · replace h := ifT c14 h
                refine TL.rb ft_batch_ok nt_batch_ok 0 rfl 5 rfl rfl ?_
                refine TL.hv 39 rfl (decide_eq_true c14) ?_
                refine TL.rb ft_batch_ok nt_batch_ok 0 rfl 5 rfl rfl ?_
                by_cases c15 : a0.fMax ≥ 0
                · replace h := ifT c15 h
                  obtain rfl := Option.some.inj h
                  exact TL.nil (X.seq (T.ret (X.done1 [1] Tryz.results57 (RV.tm (v := .bool true) (congrArg (fun b => some (Value.bool b)) (decide_eq_true c15))) ⟨rfl, rfl, rfl⟩ (by rfl) (.inl rfl))))
                · replace h := ifF c15 h
                  obtain rfl := Option.some.inj h
                  exact TL.nil (X.seq (T.ret (X.done1 [1] Tryz.results57 (RV.tm (v := .bool false) (congrArg (fun b => some (Value.bool b)) (decide_eq_false c15))) ⟨rfl, rfl, rfl⟩ (by rfl) (.inl rfl))))
              · replace h := ifF c14 h
                refine TL.rb ft_batch_ok nt_batch_ok 0 rfl 5 rfl rfl ?_
                refine TL.hv 39 rfl (decide_eq_false c14) ?_
                refine TL.rw ft_batch_ok 5 rfl ?_
                obtain rfl := Option.some.inj h
                exact TL.nil (X.seq (T.ret (X.done1 [1] Tryz.results57 (RV.tm rfl) ⟨rfl, rfl, rfl⟩ (by rfl) (.inl rfl))))
            · replace h := ifF c13 h
              refine TL.rw ft_batch_ok 3 rfl ?_
              refine TL.hv 34 rfl (decide_eq_false c13) ?_
              refine TL.rw ft_batch_ok 10 rfl ?_
              obtain rfl := Option.some.inj h
              exact TL.nil (X.seq (T.ret (X.done1 [1] Tryz.results57 (RV.tm rfl) ⟨rfl, rfl, rfl⟩ (by rfl) (.inl rfl))))
          · replace h := ifF c12 h
            replace c12 := eq_false_of_ne_true c12
            refine TL.rw ft_batch_ok 2 rfl ?_
            refine TL.hv 26 rfl c12 ?_
            refine TL.rw ft_batch_ok 18 rfl ?_
            obtain rfl := Option.some.inj h
            exact TL.nil (X.seq (T.ret (X.done1 [1] Tryz.results57 (RV.tm rfl) ⟨rfl, rfl, rfl⟩ (by rfl) (.inl rfl))))
        · replace h := ifF c9 h
          refine TL.rb ft_batch_ok nt_batch_ok 0 rfl 5 rfl rfl ?_
          refine TL.hv 21 rfl (decide_eq_false c9) ?_
          refine TL.rw ft_batch_ok 23 rfl ?_
          obtain rfl := Option.some.inj h
          exact TL.nil (X.seq (T.ret (X.done1 [1] Tryz.results57 (RV.tm rfl) ⟨rfl, rfl, rfl⟩ (by rfl) (.inl rfl))))
      · replace h := ifF c8 h
        replace c8 := eq_false_of_ne_true c8
        refine TL.rw ft_batch_ok 2 rfl ?_
        refine TL.hv 16 rfl c8 ?_
        refine TL.rw ft_batch_ok 28 rfl ?_
        obtain rfl := Option.some.inj h
        exact TL.nil (X.seq (T.ret (X.done1 [1] Tryz.results57 (RV.tm rfl) ⟨rfl, rfl, rfl⟩ (by rfl) (.inl rfl))))
    · replace h := ifF c5 h
      refine TL.rb ft_batch_ok nt_batch_ok 0 rfl 5 rfl rfl ?_
      refine TL.hv 11 rfl (decide_eq_false c5) ?_
      refine TL.rw ft_batch_ok 33 rfl ?_
      obtain rfl := Option.some.inj h
      exact TL.nil (X.seq (T.ret (X.done1 [1] Tryz.results57 (RV.tm rfl) ⟨rfl, rfl, rfl⟩ (by rfl) (.inl rfl))))
  · replace h := ifF c4 h
    refine TL.rb ft_batch_ok nt_batch_ok 0 rfl 4 rfl rfl ?_
    refine TL.hv 6 rfl (decide_eq_false c4) ?_
    refine TL.rw ft_batch_ok 38 rfl ?_
    obtain rfl := Option.some.inj h
    exact TL.nil (X.seq (T.ret (X.done1 [1] Tryz.results57 (RV.tm rfl) ⟨rfl, rfl, rfl⟩ (by rfl) (.inl rfl))))
def f_batch_producer (a0 : Bat) : Option (Bool) := if a0.fProducer = (-1) then (if a0.fEpoch = (-1) then (if a0.fSequence = (-1) then (if a0.fTxn = true then some false else some true) else some false) else some false) else (if a0.fControl = true then (if a0.fProducer ≥ 0 then (if a0.fEpoch ≥ 0 then ((gFits a0.fEpoch 2).bind fun x11 => if x11 = true then (if a0.fSequence ≥ (-1) then ((gFits a0.fSequence 4).bind fun x15 => if x15 = true then (if a0.fSequence = (-1) then some true else some false) else some false) else some false) else some false) else some false) else some false) else (if a0.fProducer ≥ 0 then (if a0.fEpoch ≥ 0 then ((gFits a0.fEpoch 2).bind fun x21 => if x21 = true then (if a0.fSequence ≥ 0 then ((gFits a0.fSequence 4).bind fun x25 => if x25 = true then some true else some false) else some false) else some false) else some false) else some false))
set_option maxRecDepth 100000 in
set_option maxHeartbeats 4000000 in
theorem f_batch_producer_spec (a0 : Bat) (A1 : Option Addr) (c2 : Nat) (r : Bool) (h : f_batch_producer a0 = some r) : SpecX Tryz.prog 58 #[.agg #[.int .i64 a0.fBase, .int .i64 a0.fLeader, .bool a0.fAppend, .bool a0.fTxn, .bool a0.fControl, .int .i64 a0.fLast, .int .i64 a0.fFirst, .int .i64 a0.fMax, .int .i64 a0.fProducer, .int .i64 a0.fEpoch, .int .i64 a0.fSequence, .slice A1 a0.fRecords.length c2]] (RX.of (sliceRd 7 Rec_rd) [.slice A1 a0.fRecords.length c2] a0.fRecords) (EmpR) (fun v A' N => v = .bool r ∧ A' = EmpR ∧ N = []) := by
  refine enterA Tryz.func58 rfl Tryz.ntmps58 rfl ?_
  intro F w hX
  unfold f_batch_producer at h
  refine T.seq (T.region rfl ?_)
  refine TL.box rfl .u rfl rfl (fun b3 => ?_)
  refine TL.run ft_batch_ok [1] rfl rfl ?_
  refine TL.nil (X.seq (T.seq (T.seq (T.region rfl ?_))))
  refine TL.rb ft_batch_ok nt_batch_ok 0 rfl 3 rfl rfl ?_
  by_cases c4 : a0.fProducer = (-1)
  · replace h := ifT c4 h
    refine TL.nil (X.seq ?_)
    refine T.yes rfl (decide_eq_true c4) ?_
    refine T.seq (T.region rfl ?_)
    by_cases c5 : a0.fEpoch = (-1)
    · replace h := ifT c5 h
      refine TL.rb ft_batch_ok nt_batch_ok 0 rfl 4 rfl rfl ?_
      refine TL.hv 10 rfl (decide_eq_true c5) ?_
      by_cases c6 : a0.fSequence = (-1)
      · replace h := ifT c6 h
        refine TL.rb ft_batch_ok nt_batch_ok 0 rfl 5 rfl rfl ?_
        refine TL.hv 15 rfl (decide_eq_true c6) ?_
        refine TL.rb ft_batch_ok nt_batch_ok 0 rfl 5 rfl rfl ?_
        by_cases c7 : a0.fTxn = true
        · replace h := ifT c7 h
          obtain rfl := Option.some.inj h
          exact TL.nil (X.seq (T.ret (X.rs (X.done1 [1] Tryz.results58 (RV.tm (v := .bool false) (congrArg (fun b => some (Value.bool b)) (bn_f c7))) ⟨rfl, rfl, rfl⟩ (by rfl) (.inl rfl)))))
        · replace h := ifF c7 h
          replace c7 := eq_false_of_ne_true c7
          obtain rfl := Option.some.inj h
          exact TL.nil (X.seq (T.ret (X.rs (X.done1 [1] Tryz.results58 (RV.tm (v := .bool true) (congrArg (fun b => some (Value.bool b)) (bn_t c7))) ⟨rfl, rfl, rfl⟩ (by rfl) (.inl rfl)))))
      · replace h := ifF c6 h
        refine TL.rb ft_batch_ok nt_batch_ok 0 rfl 5 rfl rfl ?_
        refine TL.hv 15 rfl (decide_eq_false c6) ?_
        refine TL.rw ft_batch_ok 5 rfl ?_
        obtain rfl := Option.some.inj h
        exact TL.nil (X.seq (T.ret (X.rs (X.done1 [1] Tryz.results58 (RV.tm rfl) ⟨rfl, rfl, rfl⟩ (by rfl) (.inl rfl)))))
    · replace h := ifF c5 h
      refine TL.rb ft_batch_ok nt_batch_ok 0 rfl 4 rfl rfl ?_
      refine TL.hv 10 rfl (decide_eq_false c5) ?_
      refine TL.rw ft_batch_ok 10 rfl ?_
      obtain rfl := Option.some.inj h
      exact TL.nil (X.seq (T.ret (X.rs (X.done1 [1] Tryz.results58 (RV.tm rfl) ⟨rfl, rfl, rfl⟩ (by rfl) (.inl rfl)))))
  · replace h := ifF c4 h
    refine TL.nil (X.seq ?_)
    refine T.no rfl (decide_eq_false c4) ?_
    refine T.skip (X.seq (T.seq (T.region rfl ?_)))
    refine TL.run ft_batch_ok [0] rfl rfl ?_
    refine TL.nil (X.seq (T.seq (T.seq (T.region rfl ?_))))
    refine TL.rb ft_batch_ok nt_batch_ok 0 rfl 2 rfl rfl ?_
    by_cases c8 : a0.fControl = true
    · replace h := ifT c8 h
      refine TL.nil (X.seq ?_)
      refine T.yes rfl c8 ?_
      refine T.region rfl ?_
      refine TL.run ft_batch_ok [0] rfl rfl ?_
      refine TL.nil (X.seq (T.seq (T.region rfl ?_)))
      by_cases c9 : a0.fProducer ≥ 0
      · replace h := ifT c9 h
        refine TL.rb ft_batch_ok nt_batch_ok 0 rfl 4 rfl rfl ?_
        refine TL.hv 25 rfl (decide_eq_true c9) ?_
        by_cases c10 : a0.fEpoch ≥ 0
        · replace h := ifT c10 h
          refine TL.rb ft_batch_ok nt_batch_ok 0 rfl 5 rfl rfl ?_
          refine TL.hv 30 rfl (decide_eq_true c10) ?_
          obtain ⟨x11, hx12, h⟩ := Option.bind_eq_some_iff.1 h
          refine TL.rb ft_batch_ok nt_batch_ok 0 rfl 2 rfl rfl ?_
          refine TL.ce rfl (.g rfl rfl rfl) (.fn Tryz.call40 rfl) (SpecX.pure (fun w => gFits_spec a0.fEpoch 2 _ hx12 w)) (fun _ _ => RX.reads_triv _ _) rfl ?_
          by_cases c13 : x11 = true
          · replace h := ifT c13 h
            refine TL.rw ft_batch_ok 2 rfl ?_
            refine TL.hv 35 rfl c13 ?_
            by_cases c14 : a0.fSequence ≥ (-1)
            · replace h := ifT c14 h
              refine TL.rb ft_batch_ok nt_batch_ok 0 rfl 6 rfl rfl ?_
              refine TL.hv 41 rfl (decide_eq_true c14) ?_
              obtain ⟨x15, hx16, h⟩ := Option.bind_eq_some_iff.1 h
              refine TL.rb ft_batch_ok nt_batch_ok 0 rfl 2 rfl rfl ?_
              refine TL.ce rfl (.g rfl rfl rfl) (.fn Tryz.call40 rfl) (SpecX.pure (fun w => gFits_spec a0.fSequence 4 _ hx16 w)) (fun _ _ => RX.reads_triv _ _) rfl ?_
              by_cases c17 : x15 = true
              · replace h := ifT c17 h
                refine TL.rw ft_batch_ok 2 rfl ?_
                refine TL.hv 46 rfl c17 ?_
                refine TL.rb ft_batch_ok nt_batch_ok 0 rfl 4 rfl rfl ?_
                refine TL.hv 50 rfl (bn_f c8) ?_
                refine TL.rb ft_batch_ok nt_batch_ok 0 rfl 6 rfl rfl ?_
                by_cases c18 : a0.fSequence = (-1)
                · replace h := ifT c18 h
                  obtain rfl := Option.some.inj h
                  exact TL.nil (X.seq (T.ret (X.done1 [1] Tryz.results58 (RV.tm (v := .bool true) (congrArg (fun b => some (Value.bool b)) (decide_eq_true c18))) ⟨rfl, rfl, rfl⟩ (by rfl) (.inl rfl))))
                · replace h := ifF c18 h
                  obtain rfl := Option.some.inj h
                  exact TL.nil (X.seq (T.ret (X.done1 [1] Tryz.results58 (RV.tm (v := .bool false) (congrArg (fun b => some (Value.bool b)) (decide_eq_false c18))) ⟨rfl, rfl, rfl⟩ (by rfl) (.inl rfl))))
              · replace h := ifF c17 h
                replace c17 := eq_false_of_ne_true c17
                refine TL.rw ft_batch_ok 2 rfl ?_
                refine TL.hv 46 rfl c17 ?_
                refine TL.rw ft_batch_ok 10 rfl ?_
                obtain rfl := Option.some.inj h
                exact TL.nil (X.seq (T.ret (X.done1 [1] Tryz.results58 (RV.tm rfl) ⟨rfl, rfl, rfl⟩ (by rfl) (.inl rfl))))
            · replace h := ifF c14 h
              refine TL.rb ft_batch_ok nt_batch_ok 0 rfl 6 rfl rfl ?_
              refine TL.hv 41 rfl (decide_eq_false c14) ?_
              refine TL.rw ft_batch_ok 15 rfl ?_
              obtain rfl := Option.some.inj h
              exact TL.nil (X.seq (T.ret (X.done1 [1] Tryz.results58 (RV.tm rfl) ⟨rfl, rfl, rfl⟩ (by rfl) (.inl rfl))))
          · replace h := ifF c13 h
            replace c13 := eq_false_of_ne_true c13
            refine TL.rw ft_batch_ok 2 rfl ?_
            refine TL.hv 35 rfl c13 ?_
            refine TL.rw ft_batch_ok 21 rfl ?_
            obtain rfl := Option.some.inj h
            exact TL.nil (X.seq (T.ret (X.done1 [1] Tryz.results58 (RV.tm rfl) ⟨rfl, rfl, rfl⟩ (by rfl) (.inl rfl))))
        · replace h := ifF c10 h
          refine TL.rb ft_batch_ok nt_batch_ok 0 rfl 5 rfl rfl ?_
          refine TL.hv 30 rfl (decide_eq_false c10) ?_
          refine TL.rw ft_batch_ok 26 rfl ?_
          obtain rfl := Option.some.inj h
          exact TL.nil (X.seq (T.ret (X.done1 [1] Tryz.results58 (RV.tm rfl) ⟨rfl, rfl, rfl⟩ (by rfl) (.inl rfl))))
      · replace h := ifF c9 h
        refine TL.rb ft_batch_ok nt_batch_ok 0 rfl 4 rfl rfl ?_
        refine TL.hv 25 rfl (decide_eq_false c9) ?_
        refine TL.rw ft_batch_ok 31 rfl ?_
        obtain rfl := Option.some.inj h
        exact TL.nil (X.seq (T.ret (X.done1 [1] Tryz.results58 (RV.tm rfl) ⟨rfl, rfl, rfl⟩ (by rfl) (.inl rfl))))
    · replace h := ifF c8 h
      replace c8 := eq_false_of_ne_true c8
      refine TL.nil (X.seq ?_)
      refine T.no rfl c8 ?_
      refine T.skip (X.seq (T.seq (T.region rfl ?_)))
      by_cases c19 : a0.fProducer ≥ 0
      · replace h := ifT c19 h
        refine TL.rb ft_batch_ok nt_batch_ok 0 rfl 4 rfl rfl ?_
        refine TL.hv 25 rfl (decide_eq_true c19) ?_
        by_cases c20 : a0.fEpoch ≥ 0
        · replace h := ifT c20 h
          refine TL.rb ft_batch_ok nt_batch_ok 0 rfl 5 rfl rfl ?_
          refine TL.hv 30 rfl (decide_eq_true c20) ?_
          obtain ⟨x21, hx22, h⟩ := Option.bind_eq_some_iff.1 h
          refine TL.rb ft_batch_ok nt_batch_ok 0 rfl 2 rfl rfl ?_
          refine TL.ce rfl (.g rfl rfl rfl) (.fn Tryz.call40 rfl) (SpecX.pure (fun w => gFits_spec a0.fEpoch 2 _ hx22 w)) (fun _ _ => RX.reads_triv _ _) rfl ?_
          by_cases c23 : x21 = true
          · replace h := ifT c23 h
            refine TL.rw ft_batch_ok 2 rfl ?_
            refine TL.hv 35 rfl c23 ?_
            by_cases c24 : a0.fSequence ≥ 0
            · replace h := ifT c24 h
              refine TL.rb ft_batch_ok nt_batch_ok 0 rfl 6 rfl rfl ?_
              refine TL.hv 41 rfl (decide_eq_true c24) ?_
              obtain ⟨x25, hx26, h⟩ := Option.bind_eq_some_iff.1 h
              refine TL.rb ft_batch_ok nt_batch_ok 0 rfl 2 rfl rfl ?_
              refine TL.ce rfl (.g rfl rfl rfl) (.fn Tryz.call40 rfl) (SpecX.pure (fun w => gFits_spec a0.fSequence 4 _ hx26 w)) (fun _ _ => RX.reads_triv _ _) rfl ?_
              by_cases c27 : x25 = true
              · replace h := ifT c27 h
                refine TL.rw ft_batch_ok 2 rfl ?_
                refine TL.hv 46 rfl c27 ?_
                refine TL.rb ft_batch_ok nt_batch_ok 0 rfl 4 rfl rfl ?_
                refine TL.hv 50 rfl (bn_t c8) ?_
                refine TL.rw ft_batch_ok 6 rfl ?_
                obtain rfl := Option.some.inj h
                exact TL.nil (X.seq (T.ret (X.done1 [1] Tryz.results58 (RV.tm rfl) ⟨rfl, rfl, rfl⟩ (by rfl) (.inl rfl))))
              · replace h := ifF c27 h
                replace c27 := eq_false_of_ne_true c27
                refine TL.rw ft_batch_ok 2 rfl ?_
                refine TL.hv 46 rfl c27 ?_
                refine TL.rw ft_batch_ok 10 rfl ?_
                obtain rfl := Option.some.inj h
                exact TL.nil (X.seq (T.ret (X.done1 [1] Tryz.results58 (RV.tm rfl) ⟨rfl, rfl, rfl⟩ (by rfl) (.inl rfl))))
            · replace h := ifF c24 h
              refine TL.rb ft_batch_ok nt_batch_ok 0 rfl 6 rfl rfl ?_
              refine TL.hv 41 rfl (decide_eq_false c24) ?_
              refine TL.rw ft_batch_ok 15 rfl ?_
              obtain rfl := Option.some.inj h
              exact TL.nil (X.seq (T.ret (X.done1 [1] Tryz.results58 (RV.tm rfl) ⟨rfl, rfl, rfl⟩ (by rfl) (.inl rfl))))
          · replace h := ifF c23 h
            replace c23 := eq_false_of_ne_true c23
            refine TL.rw ft_batch_ok 2 rfl ?_
            refine TL.hv 35 rfl c23 ?_
            refine TL.rw ft_batch_ok 21 rfl ?_
            obtain rfl := Option.some.inj h
            exact TL.nil (X.seq (T.ret (X.done1 [1] Tryz.results58 (RV.tm rfl) ⟨rfl, rfl, rfl⟩ (by rfl) (.inl rfl))))
        · replace h := ifF c20 h
          refine TL.rb ft_batch_ok nt_batch_ok 0 rfl 5 rfl rfl ?_
          refine TL.hv 30 rfl (decide_eq_false c20) ?_
          refine TL.rw ft_batch_ok 26 rfl ?_
          obtain rfl := Option.some.inj h
          exact TL.nil (X.seq (T.ret (X.done1 [1] Tryz.results58 (RV.tm rfl) ⟨rfl, rfl, rfl⟩ (by rfl) (.inl rfl))))
      · replace h := ifF c19 h
        refine TL.rb ft_batch_ok nt_batch_ok 0 rfl 4 rfl rfl ?_
        refine TL.hv 25 rfl (decide_eq_false c19) ?_
        refine TL.rw ft_batch_ok 31 rfl ?_
        obtain rfl := Option.some.inj h
        exact TL.nil (X.seq (T.ret (X.done1 [1] Tryz.results58 (RV.tm rfl) ⟨rfl, rfl, rfl⟩ (by rfl) (.inl rfl))))
def f_batch_records_l1 (a0 : Bat) : List Rec → Int → Int → Int → Option (Lp Int (Int × Int × Int))
  | [], y4, y5, y6 => some (Lp.go (y4, y5, y6))
  | x12 :: xs, y4, y5, y6 => if x12.fOffset ≤ y5 then some (Lp.ret 13) else (if x12.fOffset > a0.fLast then some (Lp.ret 13) else (if (IntKind.i64.wrap (a0.fFirst + x12.fTime)) < 0 then some (Lp.ret 11) else (if x12.fTime > 0 then (if (IntKind.i64.wrap (a0.fFirst + x12.fTime)) < x12.fTime then some (Lp.ret 11) else (if y6 < (IntKind.i64.wrap (a0.fFirst + x12.fTime)) then (f_batch_records_l1 a0 xs y4 x12.fOffset (IntKind.i64.wrap (a0.fFirst + x12.fTime))) else (f_batch_records_l1 a0 xs y4 x12.fOffset y6))) else (if y6 < (IntKind.i64.wrap (a0.fFirst + x12.fTime)) then (f_batch_records_l1 a0 xs y4 x12.fOffset (IntKind.i64.wrap (a0.fFirst + x12.fTime))) else (f_batch_records_l1 a0 xs y4 x12.fOffset y6)))))
def f_batch_records (a0 : Bat) : Option (Int) := (f_batch_records_l1 a0 a0.fRecords 0 (-1) a0.fFirst).bind fun e => match e with | .ret r => some r | .go (y27, y28, y29) => (if a0.fAppend = true then some 0 else (if y29 = a0.fMax then some 0 else some 11))
set_option maxRecDepth 100000 in
set_option maxHeartbeats 4000000 in
theorem f_batch_records_spec (a0 : Bat) (A1 : Option Addr) (c2 : Nat) (r : Int) (h : f_batch_records a0 = some r) : SpecX Tryz.prog 61 #[.agg #[.int .i64 a0.fBase, .int .i64 a0.fLeader, .bool a0.fAppend, .bool a0.fTxn, .bool a0.fControl, .int .i64 a0.fLast, .int .i64 a0.fFirst, .int .i64 a0.fMax, .int .i64 a0.fProducer, .int .i64 a0.fEpoch, .int .i64 a0.fSequence, .slice A1 a0.fRecords.length c2]] (RX.of (sliceRd 7 Rec_rd) [.slice A1 a0.fRecords.length c2] a0.fRecords) (EmpR) (fun v A' N => v = .int .i64 r ∧ A' = EmpR ∧ N = []) := by
  refine enterA Tryz.func61 rfl Tryz.ntmps61 rfl ?_
  intro F w hX
  unfold f_batch_records at h
  refine T.seq (T.region rfl ?_)
  refine TL.box rfl .u rfl rfl (fun b3 => ?_)
  refine TL.run ft_batch_ok [1] rfl rfl ?_
  refine TL.nil (X.seq (T.seq (T.draw (.q 0 (.q 1 (.q 2 (.q 3 .nil)))) [0, 0] rfl mix_batch (NoP.seq np_post) (by kernel_rfl) ?_)))
  refine TD.run ft_batch_ok [0] rfl rfl ?_
  refine TD.q rfl .u (Ex.b1 0 rfl Tryz.isAgg3 rfl rfl) rfl ?_
  refine TD.run ft_batch_ok [2, 3] rfl rfl ?_
  refine TD.nil (X.seq (T.seq (T.seq (T.region rfl ?_))))
  refine TL.rb ft_batch_ok nt_batch_ok 0 rfl 2 rfl rfl ?_
  refine TL.q rfl .u (Ex.lenS rfl Tryz.runUnderlying28) rfl ?_
  refine TL.run ft_batch_ok [3] rfl rfl ?_
  refine TL.nil (X.seq (T.block ?_))
  obtain ⟨E8, hE9, hO10⟩ := Option.bind_eq_some_iff.1 h
  have hk14len := RX.len_le hX
  refine T.lp (fun m e Rs => ∃ (y4 : Int) (y5 : Int) (y6 : Int) (k7 : Nat), k7 + m = a0.fRecords.length ∧ e = [(1, .pointer (some ⟨b3, 0, none⟩)), (2, .int .i64 y4), (3, .int .i64 y5), (4, .int .i64 y6), (11, .slice A1 a0.fRecords.length c2), (12, .int .i64 (a0.fRecords.length : Int)), (13, .int .i64 (k7 : Int))] ∧ Rs = [BlkR b3 30 #[.int .i64 a0.fBase, .int .i64 a0.fLeader, .bool a0.fAppend, .bool a0.fTxn, .bool a0.fControl, .int .i64 a0.fLast, .int .i64 a0.fFirst, .int .i64 a0.fMax, .int .i64 a0.fProducer, .int .i64 a0.fEpoch, .int .i64 a0.fSequence, .slice A1 a0.fRecords.length c2], EmpR] ∧ f_batch_records_l1 a0 (a0.fRecords.drop k7) y4 y5 y6 = some E8) (a0.fRecords.length) [0, 0] ⟨0, (-1), a0.fFirst, 0, by simp, rfl, rfl, by rw [List.drop_zero]; exact hE9⟩ (by rfl) (by rfl) ?_
  rintro m11 _ _ ⟨y4, y5, y6, k7, hk14, rfl, rfl, hl13⟩
  clear hE9 h
  cases m11 with
  | zero =>
    have h := hl13
    clear hl13
    rw [List.drop_of_length_le (by omega), f_batch_records_l1] at h
    have hk14ge : ¬ ((k7 : Int) < (a0.fRecords.length : Int)) := by omega
    refine T.seq (T.region rfl ?_)
    refine TL.run ft_batch_ok [0] rfl rfl ?_
    refine TL.nil (X.seq (T.seq ?_))
    refine T.no rfl (decide_eq_false hk14ge) ?_
    obtain rfl := Option.some.inj h
    replace h := hO10
    clear hO10
    try dsimp only at h
    refine T.exit (X.exs (X.exs (X.ex (X.seq (T.seq (T.seq (T.region rfl ?_)))))))
    by_cases c33 : a0.fAppend = true
    · replace h := ifT c33 h
      refine TL.rb ft_batch_ok nt_batch_ok 0 rfl 4 rfl rfl ?_
      refine TL.hv 55 rfl (bn_f c33) ?_
      refine TL.rw ft_batch_ok 5 rfl ?_
      refine TL.nil (X.seq ?_)
      refine T.no rfl rfl ?_
      refine T.skip (X.seq (T.seq (T.region rfl ?_)))
      refine TL.run ft_batch_ok [0] rfl rfl ?_
      obtain rfl := Option.some.inj h
      exact TL.nil (X.seq (T.ret (X.done1 [1] Tryz.results61 (RV.tm rfl) ⟨rfl, rfl, rfl⟩ (by rfl) (.inl rfl))))
    · replace h := ifF c33 h
      replace c33 := eq_false_of_ne_true c33
      refine TL.rb ft_batch_ok nt_batch_ok 0 rfl 4 rfl rfl ?_
      refine TL.hv 55 rfl (bn_t c33) ?_
      refine TL.rb ft_batch_ok nt_batch_ok 0 rfl 5 rfl rfl ?_
      by_cases c34 : y6 = a0.fMax
      · replace h := ifT c34 h
        refine TL.nil (X.seq ?_)
        refine T.no rfl (bn_f (decide_eq_true c34)) ?_
        refine T.skip (X.seq (T.seq (T.region rfl ?_)))
        refine TL.run ft_batch_ok [0] rfl rfl ?_
        obtain rfl := Option.some.inj h
        exact TL.nil (X.seq (T.ret (X.done1 [1] Tryz.results61 (RV.tm rfl) ⟨rfl, rfl, rfl⟩ (by rfl) (.inl rfl))))
      · replace h := ifF c34 h
        refine TL.nil (X.seq ?_)
        refine T.yes rfl (bn_t (decide_eq_false c34)) ?_
        refine T.seq (T.region rfl ?_)
        refine TL.run ft_batch_ok [0] rfl rfl ?_
        obtain rfl := Option.some.inj h
        exact TL.nil (X.seq (T.ret (X.rs (X.done1 [1] Tryz.results61 (RV.tm rfl) ⟨rfl, rfl, rfl⟩ (by rfl) (.inl rfl)))))
  | succ m11 =>
    have h := hl13
    clear hl13
    obtain ⟨x12, hxx12⟩ : ∃ x, a0.fRecords[k7]? = some x := ⟨_, List.getElem?_eq_getElem (by omega)⟩
    rw [drop_cons hxx12, f_batch_records_l1] at h
    have hk14lt : (k7 : Int) < (a0.fRecords.length : Int) := by omega
    refine T.seq (T.region rfl ?_)
    refine TL.run ft_batch_ok [0] rfl rfl ?_
    refine TL.nil (X.seq (T.seq ?_))
    refine T.yes rfl (decide_eq_true hk14lt) ?_
    obtain ⟨gz15, oz15, rfl, z15cs, z15cl, z15cc, z15nf, z15r⟩ := RX.elem (by decide) hX hxx12
    obtain ⟨z15S, z15r, z15rr⟩ := z15r
    obtain ⟨A16, c17, rfl, z15s0⟩ := z15r
    have hX18 : (RX.of (sliceRd 3 Hd_rd) [.slice A16 x12.fHeaders.length c17] x12.fHeaders).reads w F := ⟨z15S, z15s0, z15rr⟩
    refine T.skip (X.seq (T.seq (T.block (T.seq (T.region rfl ?_)))))
    refine TL.q rfl .u (Ex.ixS (k := k7) rfl rfl rfl Tryz.runUnderlying28 Tryz.sizeOf90 (List.getElem?_eq_some_iff.1 hxx12).1) rfl ?_
    refine TL.q rfl .u (Ex.oS (us := [.int .i64 x12.fTime, .int .i64 x12.fOffset, .bool x12.fKey.null, .string (bsOf x12.fKey.data), .bool x12.fValue.null, .string (bsOf x12.fValue.data), .slice A16 x12.fHeaders.length c17]) 0 rfl Tryz.isAgg90 Tryz.sizeOf90 z15nf z15cc rfl rfl rfl) rfl ?_
    refine TL.alloc rfl .u Tryz.zeroValue90 rfl (fun b19 => ?_)
    refine TL.st0 (cs' := #[.int .i64 x12.fTime, .int .i64 x12.fOffset, .bool x12.fKey.null, .string (bsOf x12.fKey.data), .bool x12.fValue.null, .string (bsOf x12.fValue.data), .slice A16 x12.fHeaders.length c17]) rfl .u rfl rfl Tryz.sizeOf90 rfl rfl rfl rfl ?_
    refine TL.nil (X.seq (T.seq (T.seq (T.region rfl ?_))))
    by_cases c20 : x12.fOffset ≤ y5
    · replace h := ifT c20 h
      refine TL.rb ft_batch_ok nt_batch_ok 0 rfl 5 rfl rfl ?_
      refine TL.hv 21 rfl (decide_eq_true c20) ?_
      refine TL.rw ft_batch_ok 6 rfl ?_
      refine TL.nil (X.seq ?_)
      refine T.yes rfl rfl ?_
      refine T.seq (T.region rfl ?_)
      refine TL.run ft_batch_ok [0] rfl rfl ?_
      obtain rfl := Option.some.inj h
      replace h := hO10
      clear hO10
      try dsimp only at h
      obtain rfl := Option.some.inj h
      exact TL.nil (X.seq (T.ret (X.rs (X.rb (X.rs (X.rs (X.rb (X.rs (X.done1 [2] Tryz.results61 (RV.tm rfl) ⟨rfl, rfl, rfl⟩ (by rfl) (.inl rfl))))))))))
    · replace h := ifF c20 h
      refine TL.rb ft_batch_ok nt_batch_ok 0 rfl 5 rfl rfl ?_
      refine TL.hv 21 rfl (decide_eq_false c20) ?_
      refine TL.rb ft_batch_ok nt_batch_ok 0 rfl 3 rfl rfl ?_
      refine TL.rb ft_batch_ok nt_batch_ok 1 rfl 3 rfl rfl ?_
      by_cases c21 : x12.fOffset > a0.fLast
      · replace h := ifT c21 h
        refine TL.nil (X.seq ?_)
        refine T.yes rfl (decide_eq_true c21) ?_
        refine T.seq (T.region rfl ?_)
        refine TL.run ft_batch_ok [0] rfl rfl ?_
        obtain rfl := Option.some.inj h
        replace h := hO10
        clear hO10
        try dsimp only at h
        obtain rfl := Option.some.inj h
        exact TL.nil (X.seq (T.ret (X.rs (X.rb (X.rs (X.rs (X.rb (X.rs (X.done1 [2] Tryz.results61 (RV.tm rfl) ⟨rfl, rfl, rfl⟩ (by rfl) (.inl rfl))))))))))
      · replace h := ifF c21 h
        refine TL.nil (X.seq ?_)
        refine T.no rfl (decide_eq_false c21) ?_
        refine T.skip (X.seq (T.seq (T.region rfl ?_)))
        refine TL.rb ft_batch_ok nt_batch_ok 0 rfl 3 rfl rfl ?_
        refine TL.nil (X.seq (T.seq (T.region rfl ?_)))
        refine TL.rb ft_batch_ok nt_batch_ok 1 rfl 3 rfl rfl ?_
        refine TL.rb ft_batch_ok nt_batch_ok 0 rfl 1 rfl rfl ?_
        refine TL.q rfl .u (Ex.addw rfl rfl) rfl ?_
        refine TL.run ft_batch_ok [5] rfl rfl ?_
        refine TL.nil (X.seq (T.seq (T.seq (T.region rfl ?_))))
        by_cases c22 : (IntKind.i64.wrap (a0.fFirst + x12.fTime)) < 0
        · replace h := ifT c22 h
          refine TL.run ft_batch_ok [0, 1, 2] rfl rfl ?_
          refine TL.hv 37 rfl (decide_eq_true c22) ?_
          refine TL.rw ft_batch_ok 10 rfl ?_
          refine TL.nil (X.seq ?_)
          refine T.yes rfl rfl ?_
          refine T.seq (T.region rfl ?_)
          refine TL.run ft_batch_ok [0] rfl rfl ?_
          obtain rfl := Option.some.inj h
          replace h := hO10
          clear hO10
          try dsimp only at h
          obtain rfl := Option.some.inj h
          exact TL.nil (X.seq (T.ret (X.rs (X.rb (X.rs (X.rs (X.rb (X.rs (X.done1 [2] Tryz.results61 (RV.tm rfl) ⟨rfl, rfl, rfl⟩ (by rfl) (.inl rfl))))))))))
        · replace h := ifF c22 h
          refine TL.run ft_batch_ok [0, 1, 2] rfl rfl ?_
          refine TL.hv 37 rfl (decide_eq_false c22) ?_
          by_cases c23 : x12.fTime > 0
          · replace h := ifT c23 h
            refine TL.rb ft_batch_ok nt_batch_ok 0 rfl 4 rfl rfl ?_
            refine TL.hv 41 rfl (decide_eq_true c23) ?_
            refine TL.rb ft_batch_ok nt_batch_ok 0 rfl 6 rfl rfl ?_
            by_cases c24 : (IntKind.i64.wrap (a0.fFirst + x12.fTime)) < x12.fTime
            · replace h := ifT c24 h
              refine TL.nil (X.seq ?_)
              refine T.yes rfl (decide_eq_true c24) ?_
              refine T.seq (T.region rfl ?_)
              refine TL.run ft_batch_ok [0] rfl rfl ?_
              obtain rfl := Option.some.inj h
              replace h := hO10
              clear hO10
              try dsimp only at h
              obtain rfl := Option.some.inj h
              exact TL.nil (X.seq (T.ret (X.rs (X.rb (X.rs (X.rs (X.rb (X.rs (X.done1 [2] Tryz.results61 (RV.tm rfl) ⟨rfl, rfl, rfl⟩ (by rfl) (.inl rfl))))))))))
            · replace h := ifF c24 h
              refine TL.nil (X.seq ?_)
              refine T.no rfl (decide_eq_false c24) ?_
              refine T.skip (X.seq (T.region rfl ?_))
              by_cases c25 : y6 < (IntKind.i64.wrap (a0.fFirst + x12.fTime))
              · replace h := ifT c25 h
                refine TL.run ft_batch_ok [0, 1] rfl rfl ?_
                refine TL.q rfl .u (Ex.maxy rfl rfl c25) rfl ?_
                refine TL.run ft_batch_ok [3] rfl rfl ?_
                refine TL.nil (X.blk (X.seq (T.region rfl ?_)))
                refine TL.q rfl .u (Ex.add rfl rfl (by omega)) rfl ?_
                refine TL.run ft_batch_ok [1] rfl rfl ?_
                exact TL.nil (X.back (m' := m11) [1, 1] (by omega) ⟨y4, x12.fOffset, (IntKind.i64.wrap (a0.fFirst + x12.fTime)), k7 + 1, by omega, rfl, rfl, h⟩ (by rfl) (by rfl))
              · replace h := ifF c25 h
                refine TL.run ft_batch_ok [0, 1] rfl rfl ?_
                refine TL.q rfl .u (Ex.maxx rfl rfl c25) rfl ?_
                refine TL.run ft_batch_ok [3] rfl rfl ?_
                refine TL.nil (X.blk (X.seq (T.region rfl ?_)))
                refine TL.q rfl .u (Ex.add rfl rfl (by omega)) rfl ?_
                refine TL.run ft_batch_ok [1] rfl rfl ?_
                exact TL.nil (X.back (m' := m11) [1, 1] (by omega) ⟨y4, x12.fOffset, y6, k7 + 1, by omega, rfl, rfl, h⟩ (by rfl) (by rfl))
          · replace h := ifF c23 h
            refine TL.rb ft_batch_ok nt_batch_ok 0 rfl 4 rfl rfl ?_
            refine TL.hv 41 rfl (decide_eq_false c23) ?_
            refine TL.rw ft_batch_ok 6 rfl ?_
            refine TL.nil (X.seq ?_)
            refine T.no rfl rfl ?_
            refine T.skip (X.seq (T.region rfl ?_))
            by_cases c26 : y6 < (IntKind.i64.wrap (a0.fFirst + x12.fTime))
            · replace h := ifT c26 h
              refine TL.run ft_batch_ok [0, 1] rfl rfl ?_
              refine TL.q rfl .u (Ex.maxy rfl rfl c26) rfl ?_
              refine TL.run ft_batch_ok [3] rfl rfl ?_
              refine TL.nil (X.blk (X.seq (T.region rfl ?_)))
              refine TL.q rfl .u (Ex.add rfl rfl (by omega)) rfl ?_
              refine TL.run ft_batch_ok [1] rfl rfl ?_
              exact TL.nil (X.back (m' := m11) [1, 1] (by omega) ⟨y4, x12.fOffset, (IntKind.i64.wrap (a0.fFirst + x12.fTime)), k7 + 1, by omega, rfl, rfl, h⟩ (by rfl) (by rfl))
            · replace h := ifF c26 h
              refine TL.run ft_batch_ok [0, 1] rfl rfl ?_
              refine TL.q rfl .u (Ex.maxx rfl rfl c26) rfl ?_
              refine TL.run ft_batch_ok [3] rfl rfl ?_
              refine TL.nil (X.blk (X.seq (T.region rfl ?_)))
              refine TL.q rfl .u (Ex.add rfl rfl (by omega)) rfl ?_
              refine TL.run ft_batch_ok [1] rfl rfl ?_
              exact TL.nil (X.back (m' := m11) [1, 1] (by omega) ⟨y4, x12.fOffset, y6, k7 + 1, by omega, rfl, rfl, h⟩ (by rfl) (by rfl))
def f_batch_Check_l1 : List Rec → Int → Option (Lp Int Int)
  | [], y13 => some (Lp.go y13)
  | x19 :: xs, y13 => (f_record_Right x19).bind fun x27 => if x27 = 0 then (f_batch_Check_l1 xs y13) else some (Lp.ret x27)
def f_batch_Check_l2 : List Rec → Int → Option (Lp Int Int)
  | [], y61 => some (Lp.go y61)
  | x67 :: xs, y61 => (f_record_Right x67).bind fun x75 => if x75 = 0 then (f_batch_Check_l2 xs y61) else some (Lp.ret x75)
def f_batch_Check (a0 : Bat) : Option (Int) := (f_batch_numbers a0).bind fun x4 => if x4 = true then (if a0.fControl = true then (if a0.fTxn = true then ((f_batch_producer a0).bind fun x9 => if x9 = true then (if (a0.fRecords.length : Int) = 1 then ((f_batch_Check_l1 a0.fRecords 0).bind fun e => match e with | .ret r => some r | .go y30 => ((a0.fRecords[0]?).bind fun x32 => (f_control_Read x32).bind fun (x38, x39, x40) => if x40 = 0 then ((f_batch_records a0).bind fun x43 => some x43) else some x40)) else some 10) else some 11) else some 8) else ((f_batch_producer a0).bind fun x58 => if x58 = true then ((f_batch_Check_l2 a0.fRecords 0).bind fun e => match e with | .ret r => some r | .go y78 => ((f_batch_records a0).bind fun x80 => some x80)) else some 11)) else some 11
set_option maxRecDepth 100000 in
set_option maxHeartbeats 4000000 in
theorem f_batch_Check_spec (a0 : Bat) (A1 : Option Addr) (c2 : Nat) (r : Int) (h : f_batch_Check a0 = some r) : SpecX Tryz.prog 32 #[.agg #[.int .i64 a0.fBase, .int .i64 a0.fLeader, .bool a0.fAppend, .bool a0.fTxn, .bool a0.fControl, .int .i64 a0.fLast, .int .i64 a0.fFirst, .int .i64 a0.fMax, .int .i64 a0.fProducer, .int .i64 a0.fEpoch, .int .i64 a0.fSequence, .slice A1 a0.fRecords.length c2]] (RX.of (sliceRd 7 Rec_rd) [.slice A1 a0.fRecords.length c2] a0.fRecords) (EmpR) (fun v A' N => v = .int .i64 r ∧ A' = EmpR ∧ N = []) := by
  refine enterA Tryz.func32 rfl Tryz.ntmps32 rfl ?_
  intro F w hX
  unfold f_batch_Check at h
  refine T.seq (T.region rfl ?_)
  refine TL.box rfl .u rfl rfl (fun b3 => ?_)
  refine TL.run ft_batch_ok [1] rfl rfl ?_
  refine TL.nil (X.seq (T.seq (T.block (T.seq (T.region rfl ?_)))))
  refine TL.q rfl .u (Ex.bS (us := [.int .i64 a0.fBase, .int .i64 a0.fLeader, .bool a0.fAppend, .bool a0.fTxn, .bool a0.fControl, .int .i64 a0.fLast, .int .i64 a0.fFirst, .int .i64 a0.fMax, .int .i64 a0.fProducer, .int .i64 a0.fEpoch, .int .i64 a0.fSequence, .slice A1 a0.fRecords.length c2]) 0 rfl Tryz.isAgg30 Tryz.sizeOf30 rfl rfl rfl) rfl ?_
  obtain ⟨x4, hx5, h⟩ := Option.bind_eq_some_iff.1 h
  refine TL.ce rfl .u (.fn Tryz.call57 rfl) (f_batch_numbers_spec a0 _ _ _ hx5) (fun _ hs => (SrcE.old hs hX)) rfl ?_
  refine TL.run ft_batch_ok [2, 3] rfl rfl ?_
  by_cases c6 : x4 = true
  · replace h := ifT c6 h
    refine TL.nil (X.seq ?_)
    refine T.no rfl (bn_f c6) ?_
    refine T.seq (T.region rfl ?_)
    by_cases c7 : a0.fControl = true
    · replace h := ifT c7 h
      refine TL.rb ft_batch_ok nt_batch_ok 0 rfl 3 rfl rfl ?_
      refine TL.hv 16 rfl c7 ?_
      refine TL.rb ft_batch_ok nt_batch_ok 0 rfl 5 rfl rfl ?_
      by_cases c8 : a0.fTxn = true
      · replace h := ifT c8 h
        refine TL.nil (X.seq ?_)
        refine T.no rfl (bn_f c8) ?_
        refine T.seq (T.region rfl ?_)
        refine TL.q rfl .u (Ex.bS (us := [.int .i64 a0.fBase, .int .i64 a0.fLeader, .bool a0.fAppend, .bool a0.fTxn, .bool a0.fControl, .int .i64 a0.fLast, .int .i64 a0.fFirst, .int .i64 a0.fMax, .int .i64 a0.fProducer, .int .i64 a0.fEpoch, .int .i64 a0.fSequence, .slice A1 a0.fRecords.length c2]) 0 rfl Tryz.isAgg30 Tryz.sizeOf30 rfl rfl rfl) rfl ?_
        obtain ⟨x9, hx10, h⟩ := Option.bind_eq_some_iff.1 h
        refine TL.ce rfl .u (.fn Tryz.call58 rfl) (f_batch_producer_spec a0 _ _ _ hx10) (fun _ hs => (SrcE.old hs hX)) rfl ?_
        refine TL.run ft_batch_ok [2, 3] rfl rfl ?_
        by_cases c11 : x9 = true
        · replace h := ifT c11 h
          refine TL.nil (X.seq ?_)
          refine T.no rfl (bn_f c11) ?_
          refine T.seq (T.region rfl ?_)
          refine TL.rb ft_batch_ok nt_batch_ok 0 rfl 3 rfl rfl ?_
          refine TL.hv 28 rfl c7 ?_
          refine TL.rb ft_batch_ok nt_batch_ok 0 rfl 2 rfl rfl ?_
          refine TL.q rfl (.g rfl rfl rfl) (Ex.lenS rfl Tryz.runUnderlying28) rfl ?_
          refine TL.rw ft_batch_ok 3 rfl ?_
          by_cases c12 : (a0.fRecords.length : Int) = 1
          · replace h := ifT c12 h
            refine TL.nil (X.seq ?_)
            refine T.no rfl (bn_f (decide_eq_true c12)) ?_
            refine T.skip (X.blk (X.seq (T.seq (T.seq (T.region rfl ?_)))))
            refine TL.rb ft_batch_ok nt_batch_ok 0 rfl 2 rfl rfl ?_
            refine TL.q rfl .u (Ex.lenS rfl Tryz.runUnderlying28) rfl ?_
            refine TL.run ft_batch_ok [3] rfl rfl ?_
            refine TL.nil (X.seq (T.block ?_))
            obtain ⟨E15, hE16, hO17⟩ := Option.bind_eq_some_iff.1 h
            have hk21len := RX.len_le hX
            refine T.lp (fun m e Rs => ∃ (y13 : Int) (k14 : Nat), k14 + m = a0.fRecords.length ∧ e = [(1, .pointer (some ⟨b3, 0, none⟩)), (2, .int .i64 y13), (35, .slice A1 a0.fRecords.length c2), (36, .int .i64 (a0.fRecords.length : Int)), (37, .int .i64 (k14 : Int))] ∧ Rs = [BlkR b3 30 #[.int .i64 a0.fBase, .int .i64 a0.fLeader, .bool a0.fAppend, .bool a0.fTxn, .bool a0.fControl, .int .i64 a0.fLast, .int .i64 a0.fFirst, .int .i64 a0.fMax, .int .i64 a0.fProducer, .int .i64 a0.fEpoch, .int .i64 a0.fSequence, .slice A1 a0.fRecords.length c2], EmpR] ∧ f_batch_Check_l1 (a0.fRecords.drop k14) y13 = some E15) (a0.fRecords.length) [0, 0] ⟨0, 0, by simp, rfl, rfl, by rw [List.drop_zero]; exact hE16⟩ (by rfl) (by rfl) ?_
            rintro m18 _ _ ⟨y13, k14, hk21, rfl, rfl, hl20⟩
            clear hE16 h
            cases m18 with
            | zero =>
              have h := hl20
              clear hl20
              rw [List.drop_of_length_le (by omega), f_batch_Check_l1] at h
              have hk21ge : ¬ ((k14 : Int) < (a0.fRecords.length : Int)) := by omega
              refine T.seq (T.region rfl ?_)
              refine TL.run ft_batch_ok [0] rfl rfl ?_
              refine TL.nil (X.seq (T.seq ?_))
              refine T.no rfl (decide_eq_false hk21ge) ?_
              obtain rfl := Option.some.inj h
              replace h := hO17
              clear hO17
              try dsimp only at h
              refine T.exit (X.exs (X.exs (X.ex (X.seq (T.seq (T.seq (T.region rfl ?_)))))))
              refine TL.rb ft_batch_ok nt_batch_ok 0 rfl 2 rfl rfl ?_
              refine TL.nil (X.seq ?_)
              refine T.yes rfl c7 ?_
              refine T.seq (T.region rfl ?_)
              obtain ⟨x45, hx46, h⟩ := Option.bind_eq_some_iff.1 h
              obtain ⟨gz47, oz47, rfl, z47cs, z47cl, z47cc, z47nf, z47r⟩ := RX.elem (by decide) hX hx46
              obtain ⟨z47S, z47r, z47rr⟩ := z47r
              obtain ⟨A48, c49, rfl, z47s0⟩ := z47r
              have hX50 : (RX.of (sliceRd 3 Hd_rd) [.slice A48 x45.fHeaders.length c49] x45.fHeaders).reads w F := ⟨z47S, z47s0, z47rr⟩
              refine TL.rb ft_batch_ok nt_batch_ok 0 rfl 2 rfl rfl ?_
              refine TL.q rfl .u (Ex.ixS (k := 0) rfl rfl rfl Tryz.runUnderlying28 Tryz.sizeOf90 (List.getElem?_eq_some_iff.1 hx46).1) rfl ?_
              refine TL.q rfl .u (Ex.oS (us := [.int .i64 x45.fTime, .int .i64 x45.fOffset, .bool x45.fKey.null, .string (bsOf x45.fKey.data), .bool x45.fValue.null, .string (bsOf x45.fValue.data), .slice A48 x45.fHeaders.length c49]) 0 rfl Tryz.isAgg90 Tryz.sizeOf90 z47nf z47cc rfl rfl rfl) rfl ?_
              obtain ⟨⟨x51, x52, x53⟩, hx54, h⟩ := Option.bind_eq_some_iff.1 h
              try dsimp only at h
              refine TL.ce rfl .u (.fn Tryz.call60 rfl) (f_control_Read_spec x45 _ _ _ hx54) (fun _ hs => (SrcE.old hs hX50)) rfl ?_
              refine TL.run ft_batch_ok [5, 6, 7, 8, 9, 10, 11] rfl rfl ?_
              refine TL.nil (X.seq (T.seq (T.region rfl ?_)))
              refine TL.run ft_batch_ok [0, 1] rfl rfl ?_
              by_cases c55 : x53 = 0
              · replace h := ifT c55 h
                refine TL.nil (X.seq ?_)
                refine T.no rfl (bn_f (decide_eq_true c55)) ?_
                refine T.skip (X.seq (T.seq (T.region rfl ?_)))
                refine TL.q rfl .u (Ex.bS (us := [.int .i64 a0.fBase, .int .i64 a0.fLeader, .bool a0.fAppend, .bool a0.fTxn, .bool a0.fControl, .int .i64 a0.fLast, .int .i64 a0.fFirst, .int .i64 a0.fMax, .int .i64 a0.fProducer, .int .i64 a0.fEpoch, .int .i64 a0.fSequence, .slice (some ⟨gz47, oz47, none⟩) a0.fRecords.length c2]) 0 rfl Tryz.isAgg30 Tryz.sizeOf30 rfl rfl rfl) rfl ?_
                obtain ⟨x56, hx57, h⟩ := Option.bind_eq_some_iff.1 h
                refine TL.ce rfl .u (.fn Tryz.call61 rfl) (f_batch_records_spec a0 _ _ _ hx57) (fun _ hs => (SrcE.old hs hX)) rfl ?_
                refine TL.run ft_batch_ok [2] rfl rfl ?_
                obtain rfl := Option.some.inj h
                exact TL.nil (X.seq (T.ret (X.done1 [1] Tryz.results32 (RV.tm rfl) ⟨rfl, rfl, rfl⟩ (by rfl) (.inl rfl))))
              · replace h := ifF c55 h
                refine TL.nil (X.seq ?_)
                refine T.yes rfl (bn_t (decide_eq_false c55)) ?_
                refine T.seq (T.region rfl ?_)
                refine TL.run ft_batch_ok [0, 1] rfl rfl ?_
                obtain rfl := Option.some.inj h
                exact TL.nil (X.seq (T.ret (X.rs (X.done1 [1] Tryz.results32 (RV.tm rfl) ⟨rfl, rfl, rfl⟩ (by rfl) (.inl rfl)))))
            | succ m18 =>
              have h := hl20
              clear hl20
              obtain ⟨x19, hxx19⟩ : ∃ x, a0.fRecords[k14]? = some x := ⟨_, List.getElem?_eq_getElem (by omega)⟩
              rw [drop_cons hxx19, f_batch_Check_l1] at h
              have hk21lt : (k14 : Int) < (a0.fRecords.length : Int) := by omega
              refine T.seq (T.region rfl ?_)
              refine TL.run ft_batch_ok [0] rfl rfl ?_
              refine TL.nil (X.seq (T.seq ?_))
              refine T.yes rfl (decide_eq_true hk21lt) ?_
              obtain ⟨gz22, oz22, rfl, z22cs, z22cl, z22cc, z22nf, z22r⟩ := RX.elem (by decide) hX hxx19
              obtain ⟨z22S, z22r, z22rr⟩ := z22r
              obtain ⟨A23, c24, rfl, z22s0⟩ := z22r
              have hX25 : (RX.of (sliceRd 3 Hd_rd) [.slice A23 x19.fHeaders.length c24] x19.fHeaders).reads w F := ⟨z22S, z22s0, z22rr⟩
              refine T.skip (X.seq (T.seq (T.block (T.seq (T.region rfl ?_)))))
              refine TL.q rfl .u (Ex.ixS (k := k14) rfl rfl rfl Tryz.runUnderlying28 Tryz.sizeOf90 (List.getElem?_eq_some_iff.1 hxx19).1) rfl ?_
              refine TL.q rfl .u (Ex.oS (us := [.int .i64 x19.fTime, .int .i64 x19.fOffset, .bool x19.fKey.null, .string (bsOf x19.fKey.data), .bool x19.fValue.null, .string (bsOf x19.fValue.data), .slice A23 x19.fHeaders.length c24]) 0 rfl Tryz.isAgg90 Tryz.sizeOf90 z22nf z22cc rfl rfl rfl) rfl ?_
              refine TL.alloc rfl .u Tryz.zeroValue90 rfl (fun b26 => ?_)
              refine TL.st0 (cs' := #[.int .i64 x19.fTime, .int .i64 x19.fOffset, .bool x19.fKey.null, .string (bsOf x19.fKey.data), .bool x19.fValue.null, .string (bsOf x19.fValue.data), .slice A23 x19.fHeaders.length c24]) rfl .u rfl rfl Tryz.sizeOf90 rfl rfl rfl rfl ?_
              refine TL.nil (X.seq (T.seq (T.region rfl ?_)))
              refine TL.q rfl .u (Ex.bS (us := [.int .i64 x19.fTime, .int .i64 x19.fOffset, .bool x19.fKey.null, .string (bsOf x19.fKey.data), .bool x19.fValue.null, .string (bsOf x19.fValue.data), .slice A23 x19.fHeaders.length c24]) 0 rfl Tryz.isAgg90 Tryz.sizeOf90 rfl rfl rfl) rfl ?_
              obtain ⟨x27, hx28, h⟩ := Option.bind_eq_some_iff.1 h
              refine TL.ce rfl .u (.fn Tryz.call59 rfl) (f_record_Right_spec x19 _ _ _ hx28) (fun _ hs => (SrcE.old hs hX25)) rfl ?_
              refine TL.run ft_batch_ok [2] rfl rfl ?_
              refine TL.nil (X.seq (T.seq (T.region rfl ?_)))
              refine TL.run ft_batch_ok [0, 1] rfl rfl ?_
              by_cases c29 : x27 = 0
              · replace h := ifT c29 h
                refine TL.nil (X.seq ?_)
                refine T.no rfl (bn_f (decide_eq_true c29)) ?_
                refine T.skip (X.blk (X.seq (T.region rfl ?_)))
                refine TL.q rfl .u (Ex.add rfl rfl (by omega)) rfl ?_
                refine TL.run ft_batch_ok [1] rfl rfl ?_
                exact TL.nil (X.back (m' := m18) [1, 1] (by omega) ⟨y13, k14 + 1, by omega, rfl, rfl, h⟩ (by rfl) (by rfl))
              · replace h := ifF c29 h
                refine TL.nil (X.seq ?_)
                refine T.yes rfl (bn_t (decide_eq_false c29)) ?_
                refine T.seq (T.region rfl ?_)
                refine TL.run ft_batch_ok [0, 1] rfl rfl ?_
                obtain rfl := Option.some.inj h
                replace h := hO17
                clear hO17
                try dsimp only at h
                obtain rfl := Option.some.inj h
                exact TL.nil (X.seq (T.ret (X.rb (X.rs (X.rs (X.rb (X.rs (X.done1 [2] Tryz.results32 (RV.tm rfl) ⟨rfl, rfl, rfl⟩ (by rfl) (.inl rfl)))))))))
          · replace h := ifF c12 h
            refine TL.nil (X.seq ?_)
            refine T.yes rfl (bn_t (decide_eq_false c12)) ?_
            refine T.seq (T.region rfl ?_)
            refine TL.run ft_batch_ok [0] rfl rfl ?_
            obtain rfl := Option.some.inj h
            exact TL.nil (X.seq (T.ret (X.rb (X.rs (X.done1 [1] Tryz.results32 (RV.tm rfl) ⟨rfl, rfl, rfl⟩ (by rfl) (.inl rfl))))))
        · replace h := ifF c11 h
          replace c11 := eq_false_of_ne_true c11
          refine TL.nil (X.seq ?_)
          refine T.yes rfl (bn_t c11) ?_
          refine T.seq (T.region rfl ?_)
          refine TL.run ft_batch_ok [0] rfl rfl ?_
          obtain rfl := Option.some.inj h
          exact TL.nil (X.seq (T.ret (X.rb (X.rs (X.done1 [1] Tryz.results32 (RV.tm rfl) ⟨rfl, rfl, rfl⟩ (by rfl) (.inl rfl))))))
      · replace h := ifF c8 h
        replace c8 := eq_false_of_ne_true c8
        refine TL.nil (X.seq ?_)
        refine T.yes rfl (bn_t c8) ?_
        refine T.seq (T.region rfl ?_)
        refine TL.run ft_batch_ok [0] rfl rfl ?_
        obtain rfl := Option.some.inj h
        exact TL.nil (X.seq (T.ret (X.rb (X.rs (X.done1 [1] Tryz.results32 (RV.tm rfl) ⟨rfl, rfl, rfl⟩ (by rfl) (.inl rfl))))))
    · replace h := ifF c7 h
      replace c7 := eq_false_of_ne_true c7
      refine TL.rb ft_batch_ok nt_batch_ok 0 rfl 3 rfl rfl ?_
      refine TL.hv 16 rfl c7 ?_
      refine TL.rw ft_batch_ok 5 rfl ?_
      refine TL.nil (X.seq ?_)
      refine T.no rfl rfl ?_
      refine T.seq (T.region rfl ?_)
      refine TL.q rfl .u (Ex.bS (us := [.int .i64 a0.fBase, .int .i64 a0.fLeader, .bool a0.fAppend, .bool a0.fTxn, .bool a0.fControl, .int .i64 a0.fLast, .int .i64 a0.fFirst, .int .i64 a0.fMax, .int .i64 a0.fProducer, .int .i64 a0.fEpoch, .int .i64 a0.fSequence, .slice A1 a0.fRecords.length c2]) 0 rfl Tryz.isAgg30 Tryz.sizeOf30 rfl rfl rfl) rfl ?_
      obtain ⟨x58, hx59, h⟩ := Option.bind_eq_some_iff.1 h
      refine TL.ce rfl .u (.fn Tryz.call58 rfl) (f_batch_producer_spec a0 _ _ _ hx59) (fun _ hs => (SrcE.old hs hX)) rfl ?_
      refine TL.run ft_batch_ok [2, 3] rfl rfl ?_
      by_cases c60 : x58 = true
      · replace h := ifT c60 h
        refine TL.nil (X.seq ?_)
        refine T.no rfl (bn_f c60) ?_
        refine T.seq (T.region rfl ?_)
        refine TL.rb ft_batch_ok nt_batch_ok 0 rfl 3 rfl rfl ?_
        refine TL.hv 28 rfl c7 ?_
        refine TL.rw ft_batch_ok 6 rfl ?_
        refine TL.nil (X.seq ?_)
        refine T.no rfl rfl ?_
        refine T.skip (X.blk (X.seq (T.seq (T.seq (T.region rfl ?_)))))
        refine TL.rb ft_batch_ok nt_batch_ok 0 rfl 2 rfl rfl ?_
        refine TL.q rfl .u (Ex.lenS rfl Tryz.runUnderlying28) rfl ?_
        refine TL.run ft_batch_ok [3] rfl rfl ?_
        refine TL.nil (X.seq (T.block ?_))
        obtain ⟨E63, hE64, hO65⟩ := Option.bind_eq_some_iff.1 h
        have hk69len := RX.len_le hX
        refine T.lp (fun m e Rs => ∃ (y61 : Int) (k62 : Nat), k62 + m = a0.fRecords.length ∧ e = [(1, .pointer (some ⟨b3, 0, none⟩)), (2, .int .i64 y61), (35, .slice A1 a0.fRecords.length c2), (36, .int .i64 (a0.fRecords.length : Int)), (37, .int .i64 (k62 : Int))] ∧ Rs = [BlkR b3 30 #[.int .i64 a0.fBase, .int .i64 a0.fLeader, .bool a0.fAppend, .bool a0.fTxn, .bool a0.fControl, .int .i64 a0.fLast, .int .i64 a0.fFirst, .int .i64 a0.fMax, .int .i64 a0.fProducer, .int .i64 a0.fEpoch, .int .i64 a0.fSequence, .slice A1 a0.fRecords.length c2], EmpR] ∧ f_batch_Check_l2 (a0.fRecords.drop k62) y61 = some E63) (a0.fRecords.length) [0, 0] ⟨0, 0, by simp, rfl, rfl, by rw [List.drop_zero]; exact hE64⟩ (by rfl) (by rfl) ?_
        rintro m66 _ _ ⟨y61, k62, hk69, rfl, rfl, hl68⟩
        clear hE64 h
        cases m66 with
        | zero =>
          have h := hl68
          clear hl68
          rw [List.drop_of_length_le (by omega), f_batch_Check_l2] at h
          have hk69ge : ¬ ((k62 : Int) < (a0.fRecords.length : Int)) := by omega
          refine T.seq (T.region rfl ?_)
          refine TL.run ft_batch_ok [0] rfl rfl ?_
          refine TL.nil (X.seq (T.seq ?_))
          refine T.no rfl (decide_eq_false hk69ge) ?_
          obtain rfl := Option.some.inj h
          replace h := hO65
          clear hO65
          try dsimp only at h
          refine T.exit (X.exs (X.exs (X.ex (X.seq (T.seq (T.seq (T.region rfl ?_)))))))
          refine TL.rb ft_batch_ok nt_batch_ok 0 rfl 2 rfl rfl ?_
          refine TL.nil (X.seq ?_)
          refine T.no rfl c7 ?_
          refine T.skip (X.seq (T.seq (T.region rfl ?_)))
          refine TL.q rfl .u (Ex.bS (us := [.int .i64 a0.fBase, .int .i64 a0.fLeader, .bool a0.fAppend, .bool a0.fTxn, .bool a0.fControl, .int .i64 a0.fLast, .int .i64 a0.fFirst, .int .i64 a0.fMax, .int .i64 a0.fProducer, .int .i64 a0.fEpoch, .int .i64 a0.fSequence, .slice A1 a0.fRecords.length c2]) 0 rfl Tryz.isAgg30 Tryz.sizeOf30 rfl rfl rfl) rfl ?_
          obtain ⟨x82, hx83, h⟩ := Option.bind_eq_some_iff.1 h
          refine TL.ce rfl .u (.fn Tryz.call61 rfl) (f_batch_records_spec a0 _ _ _ hx83) (fun _ hs => (SrcE.old hs hX)) rfl ?_
          refine TL.run ft_batch_ok [2] rfl rfl ?_
          obtain rfl := Option.some.inj h
          exact TL.nil (X.seq (T.ret (X.done1 [1] Tryz.results32 (RV.tm rfl) ⟨rfl, rfl, rfl⟩ (by rfl) (.inl rfl))))
        | succ m66 =>
          have h := hl68
          clear hl68
          obtain ⟨x67, hxx67⟩ : ∃ x, a0.fRecords[k62]? = some x := ⟨_, List.getElem?_eq_getElem (by omega)⟩
          rw [drop_cons hxx67, f_batch_Check_l2] at h
          have hk69lt : (k62 : Int) < (a0.fRecords.length : Int) := by omega
          refine T.seq (T.region rfl ?_)
          refine TL.run ft_batch_ok [0] rfl rfl ?_
          refine TL.nil (X.seq (T.seq ?_))
          refine T.yes rfl (decide_eq_true hk69lt) ?_
          obtain ⟨gz70, oz70, rfl, z70cs, z70cl, z70cc, z70nf, z70r⟩ := RX.elem (by decide) hX hxx67
          obtain ⟨z70S, z70r, z70rr⟩ := z70r
          obtain ⟨A71, c72, rfl, z70s0⟩ := z70r
          have hX73 : (RX.of (sliceRd 3 Hd_rd) [.slice A71 x67.fHeaders.length c72] x67.fHeaders).reads w F := ⟨z70S, z70s0, z70rr⟩
          refine T.skip (X.seq (T.seq (T.block (T.seq (T.region rfl ?_)))))
          refine TL.q rfl .u (Ex.ixS (k := k62) rfl rfl rfl Tryz.runUnderlying28 Tryz.sizeOf90 (List.getElem?_eq_some_iff.1 hxx67).1) rfl ?_
          refine TL.q rfl .u (Ex.oS (us := [.int .i64 x67.fTime, .int .i64 x67.fOffset, .bool x67.fKey.null, .string (bsOf x67.fKey.data), .bool x67.fValue.null, .string (bsOf x67.fValue.data), .slice A71 x67.fHeaders.length c72]) 0 rfl Tryz.isAgg90 Tryz.sizeOf90 z70nf z70cc rfl rfl rfl) rfl ?_
          refine TL.alloc rfl .u Tryz.zeroValue90 rfl (fun b74 => ?_)
          refine TL.st0 (cs' := #[.int .i64 x67.fTime, .int .i64 x67.fOffset, .bool x67.fKey.null, .string (bsOf x67.fKey.data), .bool x67.fValue.null, .string (bsOf x67.fValue.data), .slice A71 x67.fHeaders.length c72]) rfl .u rfl rfl Tryz.sizeOf90 rfl rfl rfl rfl ?_
          refine TL.nil (X.seq (T.seq (T.region rfl ?_)))
          refine TL.q rfl .u (Ex.bS (us := [.int .i64 x67.fTime, .int .i64 x67.fOffset, .bool x67.fKey.null, .string (bsOf x67.fKey.data), .bool x67.fValue.null, .string (bsOf x67.fValue.data), .slice A71 x67.fHeaders.length c72]) 0 rfl Tryz.isAgg90 Tryz.sizeOf90 rfl rfl rfl) rfl ?_
          obtain ⟨x75, hx76, h⟩ := Option.bind_eq_some_iff.1 h
          refine TL.ce rfl .u (.fn Tryz.call59 rfl) (f_record_Right_spec x67 _ _ _ hx76) (fun _ hs => (SrcE.old hs hX73)) rfl ?_
          refine TL.run ft_batch_ok [2] rfl rfl ?_
          refine TL.nil (X.seq (T.seq (T.region rfl ?_)))
          refine TL.run ft_batch_ok [0, 1] rfl rfl ?_
          by_cases c77 : x75 = 0
          · replace h := ifT c77 h
            refine TL.nil (X.seq ?_)
            refine T.no rfl (bn_f (decide_eq_true c77)) ?_
            refine T.skip (X.blk (X.seq (T.region rfl ?_)))
            refine TL.q rfl .u (Ex.add rfl rfl (by omega)) rfl ?_
            refine TL.run ft_batch_ok [1] rfl rfl ?_
            exact TL.nil (X.back (m' := m66) [1, 1] (by omega) ⟨y61, k62 + 1, by omega, rfl, rfl, h⟩ (by rfl) (by rfl))
          · replace h := ifF c77 h
            refine TL.nil (X.seq ?_)
            refine T.yes rfl (bn_t (decide_eq_false c77)) ?_
            refine T.seq (T.region rfl ?_)
            refine TL.run ft_batch_ok [0, 1] rfl rfl ?_
            obtain rfl := Option.some.inj h
            replace h := hO65
            clear hO65
            try dsimp only at h
            obtain rfl := Option.some.inj h
            exact TL.nil (X.seq (T.ret (X.rb (X.rs (X.rs (X.rb (X.rs (X.done1 [2] Tryz.results32 (RV.tm rfl) ⟨rfl, rfl, rfl⟩ (by rfl) (.inl rfl)))))))))
      · replace h := ifF c60 h
        replace c60 := eq_false_of_ne_true c60
        refine TL.nil (X.seq ?_)
        refine T.yes rfl (bn_t c60) ?_
        refine T.seq (T.region rfl ?_)
        refine TL.run ft_batch_ok [0] rfl rfl ?_
        obtain rfl := Option.some.inj h
        exact TL.nil (X.seq (T.ret (X.rb (X.rs (X.done1 [1] Tryz.results32 (RV.tm rfl) ⟨rfl, rfl, rfl⟩ (by rfl) (.inl rfl))))))
  · replace h := ifF c6 h
    replace c6 := eq_false_of_ne_true c6
    refine TL.nil (X.seq ?_)
    refine T.yes rfl (bn_t c6) ?_
    refine T.seq (T.region rfl ?_)
    refine TL.run ft_batch_ok [0] rfl rfl ?_
    obtain rfl := Option.some.inj h
    exact TL.nil (X.seq (T.ret (X.rb (X.rs (X.done1 [1] Tryz.results32 (RV.tm rfl) ⟨rfl, rfl, rfl⟩ (by rfl) (.inl rfl))))))
def f_batch_Encode_l1 : List Rec → (List UInt8 × Int) → Option (List UInt8 × Int)
  | [], st9 => some st9
  | x14 :: xs, st9 => (f_record_Write st9 x14).bind fun st22 => f_batch_Encode_l1 xs st22
def f_batch_Encode (a0 : Bat) : Option (List UInt8 × Int) := (f_batch_Check a0).bind fun x4 => if x4 = 0 then ((f_batch_Encode_l1 a0.fRecords ([], 0)).bind fun st25 => (gOText st25).bind fun (x26, x27, st28) => if -9223372036854775808 ≤ (49 + (x26.length : Int)) ∧ (49 + (x26.length : Int)) ≤ 9223372036854775807 then ((gAOf a0).bind fun x31 => (f_prefix_Write ([], 0) (⟨a0.fBase, (49 + (x26.length : Int)), a0.fLeader, 0, x31, a0.fLast, a0.fFirst, a0.fMax, a0.fProducer, a0.fEpoch, a0.fSequence, (a0.fRecords.length : Int)⟩ : Pfx)).bind fun st35 => (gOText st35).bind fun (x37, x38, st39) => (if x27 = 0 then (if x38 = 0 then some false else some true) else some true).bind fun y42 => if y42 = true then some ([], 11) else ((f_crc_New).bind fun st47 => if 21 ≤ x37.length then ((f_crc_TableSum st47 [(x37.drop 21), x26]).bind fun (x52, st53) => if -9223372036854775808 ≤ x52 ∧ x52 ≤ 9223372036854775807 then ((f_prefix_Write ([], 0) (⟨a0.fBase, (49 + (x26.length : Int)), a0.fLeader, x52, x31, a0.fLast, a0.fFirst, a0.fMax, a0.fProducer, a0.fEpoch, a0.fSequence, (a0.fRecords.length : Int)⟩ : Pfx)).bind fun st56 => (gOPut st56 x26).bind fun st58 => (gOText st58).bind fun (x60, x61, st62) => some (x60, x61)) else none) else none)) else none) else some ([], x4)
set_option maxRecDepth 100000 in
set_option maxHeartbeats 4000000 in
theorem f_batch_Encode_spec (a0 : Bat) (A1 : Option Addr) (c2 : Nat) (r : List UInt8 × Int) (h : f_batch_Encode a0 = some r) : SpecX Tryz.prog 15 #[.agg #[.int .i64 a0.fBase, .int .i64 a0.fLeader, .bool a0.fAppend, .bool a0.fTxn, .bool a0.fControl, .int .i64 a0.fLast, .int .i64 a0.fFirst, .int .i64 a0.fMax, .int .i64 a0.fProducer, .int .i64 a0.fEpoch, .int .i64 a0.fSequence, .slice A1 a0.fRecords.length c2]] (RX.of (sliceRd 7 Rec_rd) [.slice A1 a0.fRecords.length c2] a0.fRecords) (EmpR) (fun v A' N => v = .tuple #[.string (bsOf r.1), .int .i64 r.2] ∧ A' = EmpR ∧ N = []) := by
  refine enterA Tryz.func15 rfl Tryz.ntmps15 rfl ?_
  intro F w hX
  unfold f_batch_Encode at h
  refine T.seq (T.region rfl ?_)
  refine TL.box rfl .u rfl rfl (fun b3 => ?_)
  refine TL.run ft_batch_ok [1, 2] rfl rfl ?_
  refine TL.nil (X.seq (T.seq (T.seq (T.region rfl ?_))))
  refine TL.q rfl .u (Ex.bS (us := [.int .i64 a0.fBase, .int .i64 a0.fLeader, .bool a0.fAppend, .bool a0.fTxn, .bool a0.fControl, .int .i64 a0.fLast, .int .i64 a0.fFirst, .int .i64 a0.fMax, .int .i64 a0.fProducer, .int .i64 a0.fEpoch, .int .i64 a0.fSequence, .slice A1 a0.fRecords.length c2]) 0 rfl Tryz.isAgg30 Tryz.sizeOf30 rfl rfl rfl) rfl ?_
  obtain ⟨x4, hx5, h⟩ := Option.bind_eq_some_iff.1 h
  refine TL.ce rfl .u (.fn Tryz.call32 rfl) (f_batch_Check_spec a0 _ _ _ hx5) (fun _ hs => (SrcE.old hs hX)) rfl ?_
  refine TL.run ft_batch_ok [2] rfl rfl ?_
  refine TL.nil (X.seq (T.seq (T.region rfl ?_)))
  refine TL.run ft_batch_ok [0, 1] rfl rfl ?_
  by_cases c6 : x4 = 0
  · replace h := ifT c6 h
    refine TL.nil (X.seq ?_)
    refine T.no rfl (bn_f (decide_eq_true c6)) ?_
    refine T.skip (X.seq (T.seq (T.region rfl ?_)))
    refine TL.newout rfl .u Tryz.zeroValue44 rfl (fun b7 => ?_)
    refine TL.nil (X.seq (T.seq (T.seq (T.region rfl ?_))))
    refine TL.rb ft_batch_ok nt_batch_ok 1 rfl 2 rfl rfl ?_
    refine TL.q rfl .u (Ex.lenS rfl Tryz.runUnderlying28) rfl ?_
    refine TL.run ft_batch_ok [3] rfl rfl ?_
    refine TL.nil (X.seq (T.block ?_))
    obtain ⟨E10, hE11, hO12⟩ := Option.bind_eq_some_iff.1 h
    have hk16len := RX.len_le hX
    refine T.lp (fun m e Rs => ∃ (k8 : Nat) (st9 : List UInt8 × Int), k8 + m = a0.fRecords.length ∧ e = [(1, .pointer (some ⟨b3, 0, none⟩)), (2, .string ⟨#[]⟩), (3, .int .i64 0), (5, .pointer (some ⟨b7, 0, none⟩)), (20, .slice A1 a0.fRecords.length c2), (21, .int .i64 (a0.fRecords.length : Int)), (22, .int .i64 (k8 : Int))] ∧ Rs = [OutR b7 st9, BlkR b3 30 #[.int .i64 a0.fBase, .int .i64 a0.fLeader, .bool a0.fAppend, .bool a0.fTxn, .bool a0.fControl, .int .i64 a0.fLast, .int .i64 a0.fFirst, .int .i64 a0.fMax, .int .i64 a0.fProducer, .int .i64 a0.fEpoch, .int .i64 a0.fSequence, .slice A1 a0.fRecords.length c2], EmpR] ∧ f_batch_Encode_l1 (a0.fRecords.drop k8) st9 = some E10) (a0.fRecords.length) [0, 0, 0] ⟨0, ([], 0), by simp, rfl, rfl, by rw [List.drop_zero]; exact hE11⟩ (by rfl) (by rfl) ?_
    rintro m13 _ _ ⟨k8, st9, hk16, rfl, rfl, hl15⟩
    clear hE11 h
    cases m13 with
    | zero =>
      have h := hl15
      clear hl15
      rw [List.drop_of_length_le (by omega), f_batch_Encode_l1] at h
      have hk16ge : ¬ ((k8 : Int) < (a0.fRecords.length : Int)) := by omega
      refine T.seq (T.region rfl ?_)
      refine TL.run ft_batch_ok [0] rfl rfl ?_
      refine TL.nil (X.seq (T.seq ?_))
      refine T.no rfl (decide_eq_false hk16ge) ?_
      obtain rfl := Option.some.inj h
      replace h := hO12
      clear hO12
      try dsimp only at h
      obtain ⟨⟨x64, x65, st66⟩, hx67, h⟩ := Option.bind_eq_some_iff.1 h
      try dsimp only at h
      refine T.exit (X.exs (X.exs (X.ex (X.seq (T.seq (T.region rfl ?_))))))
      refine TL.c0 rfl .u (.fn Tryz.call11 rfl) (gOText_spec b7 st9 _ hx67) (fun _ hs => (Src.triv _)) rfl ?_
      refine TL.run ft_batch_ok [1, 2, 3, 4, 5] rfl rfl ?_
      replace h := guard_some h
      obtain ⟨c68, h⟩ := h
      obtain ⟨x69, hx70, h⟩ := Option.bind_eq_some_iff.1 h
      refine TL.nil (X.seq (T.seq ?_))
      refine T.join (fun e Rs => ∃ (b71 : Nat), e = [(1, .pointer (some ⟨b3, 0, none⟩)), (2, .string ⟨#[]⟩), (3, .int .i64 0), (5, .pointer (some ⟨b7, 0, none⟩)), (8, .string (bsOf x64)), (9, .int .i64 x65), (10, .pointer (some ⟨b71, 0, none⟩)), (20, .slice A1 a0.fRecords.length c2), (21, .int .i64 (a0.fRecords.length : Int)), (22, .int .i64 (k8 : Int)), (23, .bool (decide ((k8 : Int) < (a0.fRecords.length : Int)))), (29, .tuple #[.string (bsOf x64), .int .i64 x65]), (30, .tuple #[.string (bsOf x64), .int .i64 x65]), (31, .string (bsOf x64)), (32, .int .i64 x65)] ∧ Rs = [BlkR b71 93 #[.int .i64 a0.fBase, .int .i64 (49 + (x64.length : Int)), .int .i64 a0.fLeader, .int .i64 0, .int .i64 x69, .int .i64 a0.fLast, .int .i64 a0.fFirst, .int .i64 a0.fMax, .int .i64 a0.fProducer, .int .i64 a0.fEpoch, .int .i64 a0.fSequence, .int .i64 (a0.fRecords.length : Int)], OutR b7 st66, BlkR b3 30 #[.int .i64 a0.fBase, .int .i64 a0.fLeader, .bool a0.fAppend, .bool a0.fTxn, .bool a0.fControl, .int .i64 a0.fLast, .int .i64 a0.fFirst, .int .i64 a0.fMax, .int .i64 a0.fProducer, .int .i64 a0.fEpoch, .int .i64 a0.fSequence, .slice A1 a0.fRecords.length c2], EmpR]) ?_ ?_
      · refine T.draw (.q 0 (.q 1 (.q 2 (.q 3 (.q 4 (.q 5 (.q 6 (.q 7 (.q 9 (.q 10 (.q 11 (.q 12 (.q 13 (.q 14 (.q 15 (.q 16 (.q 17 (.q 18 (.q 19 (.q 20 (.q 21 (.q 22 (.q 23 (.br 8 (.q 24 (.e 25 (.e 26 .nil))) (.e 25 (.e 8 (.q 24 (.e 26 .nil)))))))))))))))))))))))))))) [0, 0, 0] rfl mix_batch np_jq (by kernel_rfl) ?_
        refine TD.run ft_batch_ok [0] rfl rfl ?_
        refine TD.q rfl .u (Ex.b1 1 rfl Tryz.isAgg3 rfl rfl) rfl ?_
        refine TD.run ft_batch_ok [2] rfl rfl ?_
        refine TD.q rfl .u (Ex.lenB rfl Tryz.runUnderlying9) rfl ?_
        refine TD.q rfl .u (Ex.add rfl rfl c68) rfl ?_
        refine TD.run ft_batch_ok [5] rfl rfl ?_
        refine TD.q rfl .u (Ex.b1 1 rfl Tryz.isAgg3 rfl rfl) rfl ?_
        refine TD.q rfl .u (Ex.bS (us := [.int .i64 a0.fBase, .int .i64 a0.fLeader, .bool a0.fAppend, .bool a0.fTxn, .bool a0.fControl, .int .i64 a0.fLast, .int .i64 a0.fFirst, .int .i64 a0.fMax, .int .i64 a0.fProducer, .int .i64 a0.fEpoch, .int .i64 a0.fSequence, .slice A1 a0.fRecords.length c2]) 1 rfl Tryz.isAgg30 Tryz.sizeOf30 rfl rfl rfl) rfl ?_
        refine TD.run ft_batch_ok [9] rfl rfl ?_
        refine TD.q rfl .u (Ex.b1 1 rfl Tryz.isAgg3 rfl rfl) rfl ?_
        refine TD.run ft_batch_ok [11] rfl rfl ?_
        refine TD.q rfl .u (Ex.b1 1 rfl Tryz.isAgg3 rfl rfl) rfl ?_
        refine TD.run ft_batch_ok [13] rfl rfl ?_
        refine TD.q rfl .u (Ex.b1 1 rfl Tryz.isAgg3 rfl rfl) rfl ?_
        refine TD.run ft_batch_ok [15] rfl rfl ?_
        refine TD.q rfl .u (Ex.b1 1 rfl Tryz.isAgg3 rfl rfl) rfl ?_
        refine TD.run ft_batch_ok [17] rfl rfl ?_
        refine TD.q rfl .u (Ex.b1 1 rfl Tryz.isAgg3 rfl rfl) rfl ?_
        refine TD.run ft_batch_ok [19] rfl rfl ?_
        refine TD.q rfl .u (Ex.b1 1 rfl Tryz.isAgg3 rfl rfl) rfl ?_
        refine TD.run ft_batch_ok [21] rfl rfl ?_
        refine TD.q rfl .u (Ex.b1 1 rfl Tryz.isAgg28 rfl rfl) rfl ?_
        refine TD.q rfl .u (Ex.lenS rfl Tryz.runUnderlying28) rfl ?_
        refine TD.br ?_ ?_
        · refine TD.ce rfl .u (.fn Tryz.call34 rfl) (gAOf_spec a0 _ _ _ hx70) (fun _ hs => (SrcE.old hs hX)) rfl [0, 0, 0] (rfl) ?_
          refine TD.q rfl .u (Ex.bld (cells := #[.int .i64 a0.fBase, .int .i64 (49 + (x64.length : Int)), .int .i64 a0.fLeader, .int .i64 0, .int .i64 x69, .int .i64 a0.fLast, .int .i64 a0.fFirst, .int .i64 a0.fMax, .int .i64 a0.fProducer, .int .i64 a0.fEpoch, .int .i64 a0.fSequence, .int .i64 (a0.fRecords.length : Int)]) bok_batch_93 rfl (by kernel_rfl)) rfl ?_
          refine TD.alloc rfl .u Tryz.zeroValue93 rfl [1, 1, 1] (fun _ => rfl) (fun b71 => ?_)
          refine TD.st0 (cs' := #[.int .i64 a0.fBase, .int .i64 (49 + (x64.length : Int)), .int .i64 a0.fLeader, .int .i64 0, .int .i64 x69, .int .i64 a0.fLast, .int .i64 a0.fFirst, .int .i64 a0.fMax, .int .i64 a0.fProducer, .int .i64 a0.fEpoch, .int .i64 a0.fSequence, .int .i64 (a0.fRecords.length : Int)]) rfl .u rfl rfl Tryz.sizeOf93 rfl rfl rfl rfl [1, 1, 1] (rfl) ?_
          exact TD.nil (X.jn [0, 0, 0, 0] ⟨b71, rfl, rfl⟩ (by rfl) (by rfl))
        · refine TD.alloc rfl .u Tryz.zeroValue93 rfl [1, 1, 1] (fun _ => rfl) (fun b71 => ?_)
          refine TD.ce rfl .u (.fn Tryz.call34 rfl) (gAOf_spec a0 _ _ _ hx70) (fun _ hs => (SrcE.old hs hX)) rfl [1, 1, 1] (rfl) ?_
          refine TD.q rfl .u (Ex.bld (cells := #[.int .i64 a0.fBase, .int .i64 (49 + (x64.length : Int)), .int .i64 a0.fLeader, .int .i64 0, .int .i64 x69, .int .i64 a0.fLast, .int .i64 a0.fFirst, .int .i64 a0.fMax, .int .i64 a0.fProducer, .int .i64 a0.fEpoch, .int .i64 a0.fSequence, .int .i64 (a0.fRecords.length : Int)]) bok_batch_93 rfl (by kernel_rfl)) rfl ?_
          refine TD.st0 (cs' := #[.int .i64 a0.fBase, .int .i64 (49 + (x64.length : Int)), .int .i64 a0.fLeader, .int .i64 0, .int .i64 x69, .int .i64 a0.fLast, .int .i64 a0.fFirst, .int .i64 a0.fMax, .int .i64 a0.fProducer, .int .i64 a0.fEpoch, .int .i64 a0.fSequence, .int .i64 (a0.fRecords.length : Int)]) rfl .u rfl rfl Tryz.sizeOf93 rfl rfl rfl rfl [1, 1, 1] (rfl) ?_
          exact TD.nil (X.jn [0, 0, 0, 0] ⟨b71, rfl, rfl⟩ (by rfl) (by rfl))
      · rintro _ _ ⟨b71, rfl, rfl⟩
        refine X.seq (T.seq (T.region rfl ?_))
        refine TL.newout rfl .u Tryz.zeroValue44 rfl (fun b72 => ?_)
        refine TL.nil (X.seq (T.seq (T.region rfl ?_)))
        refine TL.q rfl .u (Ex.bS (us := [.int .i64 a0.fBase, .int .i64 (49 + (x64.length : Int)), .int .i64 a0.fLeader, .int .i64 0, .int .i64 x69, .int .i64 a0.fLast, .int .i64 a0.fFirst, .int .i64 a0.fMax, .int .i64 a0.fProducer, .int .i64 a0.fEpoch, .int .i64 a0.fSequence, .int .i64 (a0.fRecords.length : Int)]) 1 rfl Tryz.isAgg93 Tryz.sizeOf93 rfl rfl rfl) rfl ?_
        obtain ⟨st73, hx74, h⟩ := Option.bind_eq_some_iff.1 h
        refine TL.c0 rfl .u (.fn Tryz.call35 rfl) (f_prefix_Write_spec b72 ([], 0) (⟨a0.fBase, (49 + (x64.length : Int)), a0.fLeader, 0, x69, a0.fLast, a0.fFirst, a0.fMax, a0.fProducer, a0.fEpoch, a0.fSequence, (a0.fRecords.length : Int)⟩ : Pfx) _ hx74) (fun _ hs => (Src.triv _)) rfl ?_
        obtain ⟨⟨x75, x76, st77⟩, hx78, h⟩ := Option.bind_eq_some_iff.1 h
        try dsimp only at h
        refine TL.nil (X.seq (T.seq (T.region rfl ?_)))
        refine TL.c0 rfl .u (.fn Tryz.call11 rfl) (gOText_spec b72 st73 _ hx78) (fun _ hs => (Src.triv _)) rfl ?_
        refine TL.run ft_batch_ok [1, 2, 3, 4, 5] rfl rfl ?_
        refine TL.nil (X.seq (T.seq (T.seq ?_)))
        obtain ⟨y80, h, hk81⟩ := Option.bind_eq_some_iff.1 h
        refine T.jq (fun e Rs => e = [(2, .string ⟨#[]⟩), (3, .int .i64 0), (8, .string (bsOf x64)), (10, .pointer (some ⟨b71, 0, none⟩)), (11, .pointer (some ⟨b72, 0, none⟩)), (12, .string (bsOf x75)), (69, .bool y80)] ∧ Rs = [OutR b72 st77, BlkR b71 93 #[.int .i64 a0.fBase, .int .i64 (49 + (x64.length : Int)), .int .i64 a0.fLeader, .int .i64 0, .int .i64 x69, .int .i64 a0.fLast, .int .i64 a0.fFirst, .int .i64 a0.fMax, .int .i64 a0.fProducer, .int .i64 a0.fEpoch, .int .i64 a0.fSequence, .int .i64 (a0.fRecords.length : Int)], OutR b7 st66, BlkR b3 30 #[.int .i64 a0.fBase, .int .i64 a0.fLeader, .bool a0.fAppend, .bool a0.fTxn, .bool a0.fControl, .int .i64 a0.fLast, .int .i64 a0.fFirst, .int .i64 a0.fMax, .int .i64 a0.fProducer, .int .i64 a0.fEpoch, .int .i64 a0.fSequence, .slice A1 a0.fRecords.length c2], EmpR]) ?_ ?_
        · clear hk81
          refine T.region rfl ?_
          by_cases c82 : x65 = 0
          · replace h := ifT c82 h
            refine TL.run ft_batch_ok [0, 1, 2] rfl rfl ?_
            refine TL.hv 66 rfl (bn_f (decide_eq_true c82)) ?_
            refine TL.rw ft_batch_ok 3 rfl ?_
            by_cases c83 : x76 = 0
            · replace h := ifT c83 h
              cases h
              exact TL.nil (X.as (d := 69) (v' := .bool false) rfl (congrArg Value.bool (bn_f (decide_eq_true c83))) (X.jq [0, 0, 0, 0, 0] ⟨rfl, rfl⟩ (by rfl) (by rfl)))
            · replace h := ifF c83 h
              cases h
              exact TL.nil (X.as (d := 69) (v' := .bool true) rfl (congrArg Value.bool (bn_t (decide_eq_false c83))) (X.jq [0, 0, 0, 0, 0] ⟨rfl, rfl⟩ (by rfl) (by rfl)))
          · replace h := ifF c82 h
            refine TL.run ft_batch_ok [0, 1, 2] rfl rfl ?_
            refine TL.hv 66 rfl (bn_t (decide_eq_false c82)) ?_
            refine TL.rw ft_batch_ok 3 rfl ?_
            cases h
            exact TL.nil (X.jq [0, 0, 0, 0, 0] ⟨rfl, rfl⟩ (by rfl) (by rfl))
        · rintro _ _ ⟨rfl, rfl⟩
          clear h
          have h := hk81
          clear hk81
          try dsimp only at h
          by_cases c84 : y80 = true
          · replace h := ifT c84 h
            refine X.seq ?_
            refine T.yes rfl c84 ?_
            refine T.seq (T.region rfl ?_)
            refine TL.run ft_batch_ok [0, 1] rfl rfl ?_
            obtain rfl := Option.some.inj h
            exact TL.nil (X.seq (T.ret (X.rs (X.done2 [4] Tryz.results15 (RV.tm rfl) (RV.tm rfl) ⟨rfl, rfl, rfl⟩ (by rfl) (.inl rfl)))))
          · replace h := ifF c84 h
            replace c84 := eq_false_of_ne_true c84
            refine X.seq ?_
            refine T.no rfl c84 ?_
            obtain ⟨st85, hx86, h⟩ := Option.bind_eq_some_iff.1 h
            replace h := guard_some h
            obtain ⟨c88, h⟩ := h
            obtain ⟨⟨x90, st91⟩, hx92, h⟩ := Option.bind_eq_some_iff.1 h
            try dsimp only at h
            replace h := guard_some h
            obtain ⟨c93, h⟩ := h
            refine T.skip (X.seq (T.seq ?_))
            refine T.join (fun e Rs => ∃ (b87 : Nat) (b89 : Nat), e = [(2, .string ⟨#[]⟩), (3, .int .i64 0), (8, .string (bsOf x64)), (10, .pointer (some ⟨b71, 0, none⟩)), (11, .pointer (some ⟨b72, 0, none⟩)), (69, .bool y80)] ∧ Rs = [OwnR 9 1 strE (.slice (some ⟨b89, 0, none⟩) 2 2) [(x75.drop 21), x64], TabR 133 b87 st91, OutR b72 st77, BlkR b71 93 #[.int .i64 a0.fBase, .int .i64 (49 + (x64.length : Int)), .int .i64 a0.fLeader, .int .i64 x90, .int .i64 x69, .int .i64 a0.fLast, .int .i64 a0.fFirst, .int .i64 a0.fMax, .int .i64 a0.fProducer, .int .i64 a0.fEpoch, .int .i64 a0.fSequence, .int .i64 (a0.fRecords.length : Int)], OutR b7 st66, BlkR b3 30 #[.int .i64 a0.fBase, .int .i64 a0.fLeader, .bool a0.fAppend, .bool a0.fTxn, .bool a0.fControl, .int .i64 a0.fLast, .int .i64 a0.fFirst, .int .i64 a0.fMax, .int .i64 a0.fProducer, .int .i64 a0.fEpoch, .int .i64 a0.fSequence, .slice A1 a0.fRecords.length c2], EmpR]) ?_ ?_
            · refine T.draw (.q 1 (.q 2 (.q 3 (.br 0 (.e 4 (.e 5 (.q 6 (.q 7 (.e 8 .nil))))) (.e 4 (.e 0 (.e 5 (.q 6 (.q 7 (.e 8 .nil)))))))))) [0, 1, 1, 1] rfl mix_batch np_jq (by kernel_rfl) ?_
              refine TD.run ft_batch_ok [1] rfl rfl ?_
              refine TD.q rfl .u (Ex.sSl (p := 21) (q := x75.length) (m := (x75.drop 21)) rfl Tryz.runUnderlying9 (.some rfl rfl) .none (by first | omega | (dsimp only; omega)) (sl_drop _ _)) rfl ?_
              refine TD.run ft_batch_ok [3] rfl rfl ?_
              refine TD.br ?_ ?_
              · refine TD.cge rfl .u (.fn Tryz.call36 rfl) (f_crc_New_spec _ hx86) (fun _ hs => (RX.reads_triv _ _)) rfl [1, 2, 2, 2] ?_ ?_
                · rintro _ _ _ ⟨b87, rfl, rfl, rfl⟩
                  rfl
                rintro _ _ _ ⟨b87, rfl, rfl, rfl⟩
                refine TD.sel [0, 0, 0, 0, 0, 0] rfl ?_
                refine TD.lit (cells := #[.string (bsOf (x75.drop 21)), .string (bsOf x64)]) rfl .u sok_batch_134_2 rfl (by rfl) rfl [2, 3, 3, 3] (fun _ => rfl) (fun b89 => ?_)
                refine TD.rowOf (us := [.string (bsOf (x75.drop 21)), .string (bsOf x64)]) (xs := [(x75.drop 21), x64]) (E := strE) (z := 1) rfl (Nat.le_of_ble_eq_true rfl) (fun _ => ⟨rfl, rfl, ⟨rfl, rfl, rfl⟩⟩) ?_
                refine TD.c1 rfl .u (.fn Tryz.call37 rfl) (f_crc_TableSum_spec b87 st85 [(x75.drop 21), x64] _ _ _ hx92) (fun _ hs => (Src.res 0 rfl (fun w G h => own_reads (by decide) w G h))) rfl [2, 3, 3, 3] (rfl) ?_
                refine TD.q rfl .u (Ex.conv64 rfl Tryz.runUnderlying95 Tryz.runUnderlying3 c93) rfl ?_
                refine TD.run ft_batch_ok [7] rfl rfl ?_
                refine TD.st3 (cs' := #[.int .i64 a0.fBase, .int .i64 (49 + (x64.length : Int)), .int .i64 a0.fLeader, .int .i64 x90, .int .i64 x69, .int .i64 a0.fLast, .int .i64 a0.fFirst, .int .i64 a0.fMax, .int .i64 a0.fProducer, .int .i64 a0.fEpoch, .int .i64 a0.fSequence, .int .i64 (a0.fRecords.length : Int)]) rfl .u rfl rfl Tryz.sizeOf3 rfl rfl rfl rfl [2, 3, 3, 3] (rfl) ?_
                exact TD.nil (X.jn [0, 0, 0, 0, 0, 0, 0] ⟨b87, b89, rfl, rfl⟩ (by rfl) (by rfl))
              · refine TD.lit (cells := #[.string (bsOf (x75.drop 21)), .string (bsOf x64)]) rfl .u sok_batch_134_2 rfl (by rfl) rfl [1, 2, 2, 2] (fun _ => rfl) (fun b89 => ?_)
                refine TD.rowOf (us := [.string (bsOf (x75.drop 21)), .string (bsOf x64)]) (xs := [(x75.drop 21), x64]) (E := strE) (z := 1) rfl (Nat.le_of_ble_eq_true rfl) (fun _ => ⟨rfl, rfl, ⟨rfl, rfl, rfl⟩⟩) ?_
                refine TD.cge rfl .u (.fn Tryz.call36 rfl) (f_crc_New_spec _ hx86) (fun _ hs => (RX.reads_triv _ _)) rfl [2, 3, 3, 3] ?_ ?_
                · rintro _ _ _ ⟨b87, rfl, rfl, rfl⟩
                  rfl
                rintro _ _ _ ⟨b87, rfl, rfl, rfl⟩
                refine TD.sel [0, 0, 0, 0, 0, 0, 0] rfl ?_
                refine TD.c0 rfl .u (.fn Tryz.call37 rfl) (f_crc_TableSum_spec b87 st85 [(x75.drop 21), x64] _ _ _ hx92) (fun _ hs => (Src.res 0 rfl (fun w G h => own_reads (by decide) w G h))) rfl [2, 3, 3, 3] (rfl) ?_
                refine TD.q rfl .u (Ex.conv64 rfl Tryz.runUnderlying95 Tryz.runUnderlying3 c93) rfl ?_
                refine TD.run ft_batch_ok [7] rfl rfl ?_
                refine TD.st3 (cs' := #[.int .i64 a0.fBase, .int .i64 (49 + (x64.length : Int)), .int .i64 a0.fLeader, .int .i64 x90, .int .i64 x69, .int .i64 a0.fLast, .int .i64 a0.fFirst, .int .i64 a0.fMax, .int .i64 a0.fProducer, .int .i64 a0.fEpoch, .int .i64 a0.fSequence, .int .i64 (a0.fRecords.length : Int)]) rfl .u rfl rfl Tryz.sizeOf3 rfl rfl rfl rfl [2, 3, 3, 3] (rfl) ?_
                exact TD.nil (X.jn [1, 0, 0, 0, 0, 0, 0] ⟨b87, b89, rfl, rfl⟩ (by rfl) (by rfl))
            · rintro _ _ ⟨b87, b89, rfl, rfl⟩
              refine X.seq (T.seq (T.region rfl ?_))
              refine TL.q rfl .u (Ex.bld (cells := #[.slice none 0 0, .int .i64 0]) bok_batch_44 rfl (by kernel_rfl)) rfl ?_
              refine TL.outZ 2 rfl .u rfl rfl Tryz.sizeOf44 rfl ?_
              refine TL.sel [0, 0, 0, 0, 0, 0, 0] rfl ?_
              refine TL.nil (X.seq (T.seq (T.region rfl ?_)))
              refine TL.q rfl .u (Ex.bS (us := [.int .i64 a0.fBase, .int .i64 (49 + (x64.length : Int)), .int .i64 a0.fLeader, .int .i64 x90, .int .i64 x69, .int .i64 a0.fLast, .int .i64 a0.fFirst, .int .i64 a0.fMax, .int .i64 a0.fProducer, .int .i64 a0.fEpoch, .int .i64 a0.fSequence, .int .i64 (a0.fRecords.length : Int)]) 3 rfl Tryz.isAgg93 Tryz.sizeOf93 rfl rfl rfl) rfl ?_
              obtain ⟨st94, hx95, h⟩ := Option.bind_eq_some_iff.1 h
              refine TL.c2 rfl .u (.fn Tryz.call35 rfl) (f_prefix_Write_spec b72 ([], 0) (⟨a0.fBase, (49 + (x64.length : Int)), a0.fLeader, x90, x69, a0.fLast, a0.fFirst, a0.fMax, a0.fProducer, a0.fEpoch, a0.fSequence, (a0.fRecords.length : Int)⟩ : Pfx) _ hx95) (fun _ hs => (Src.triv _)) rfl ?_
              refine TL.nil (X.seq (T.seq (T.region rfl ?_)))
              obtain ⟨st96, hx97, h⟩ := Option.bind_eq_some_iff.1 h
              refine TL.run ft_batch_ok [0] rfl rfl ?_
              refine TL.c2 rfl .u (.fn Tryz.call38 rfl) (gOPut_spec b72 st94 x64 _ hx97) (fun _ hs => (Src.triv _)) rfl ?_
              obtain ⟨⟨x98, x99, st100⟩, hx101, h⟩ := Option.bind_eq_some_iff.1 h
              try dsimp only at h
              refine TL.nil (X.seq (T.seq (T.region rfl ?_)))
              refine TL.c2 rfl .u (.fn Tryz.call11 rfl) (gOText_spec b72 st96 _ hx101) (fun _ hs => (Src.triv _)) rfl ?_
              refine TL.run ft_batch_ok [1, 2, 3, 4] rfl rfl ?_
              obtain rfl := Option.some.inj h
              exact TL.nil (X.seq (T.ret (X.done2 [6] Tryz.results15 (RV.tm rfl) (RV.tm rfl) ⟨rfl, rfl, rfl⟩ (by rfl) (.inl rfl))))
    | succ m13 =>
      have h := hl15
      clear hl15
      obtain ⟨x14, hxx14⟩ : ∃ x, a0.fRecords[k8]? = some x := ⟨_, List.getElem?_eq_getElem (by omega)⟩
      rw [drop_cons hxx14, f_batch_Encode_l1] at h
      have hk16lt : (k8 : Int) < (a0.fRecords.length : Int) := by omega
      refine T.seq (T.region rfl ?_)
      refine TL.run ft_batch_ok [0] rfl rfl ?_
      refine TL.nil (X.seq (T.seq ?_))
      refine T.yes rfl (decide_eq_true hk16lt) ?_
      obtain ⟨gz17, oz17, rfl, z17cs, z17cl, z17cc, z17nf, z17r⟩ := RX.elem (by decide) hX hxx14
      obtain ⟨z17S, z17r, z17rr⟩ := z17r
      obtain ⟨A18, c19, rfl, z17s0⟩ := z17r
      have hX20 : (RX.of (sliceRd 3 Hd_rd) [.slice A18 x14.fHeaders.length c19] x14.fHeaders).reads w F := ⟨z17S, z17s0, z17rr⟩
      refine T.skip (X.seq (T.seq (T.block (T.seq (T.region rfl ?_)))))
      refine TL.q rfl .u (Ex.ixS (k := k8) rfl rfl rfl Tryz.runUnderlying28 Tryz.sizeOf90 (List.getElem?_eq_some_iff.1 hxx14).1) rfl ?_
      refine TL.q rfl .u (Ex.oS (us := [.int .i64 x14.fTime, .int .i64 x14.fOffset, .bool x14.fKey.null, .string (bsOf x14.fKey.data), .bool x14.fValue.null, .string (bsOf x14.fValue.data), .slice A18 x14.fHeaders.length c19]) 0 rfl Tryz.isAgg90 Tryz.sizeOf90 z17nf z17cc rfl rfl rfl) rfl ?_
      refine TL.alloc rfl .u Tryz.zeroValue90 rfl (fun b21 => ?_)
      refine TL.st0 (cs' := #[.int .i64 x14.fTime, .int .i64 x14.fOffset, .bool x14.fKey.null, .string (bsOf x14.fKey.data), .bool x14.fValue.null, .string (bsOf x14.fValue.data), .slice A18 x14.fHeaders.length c19]) rfl .u rfl rfl Tryz.sizeOf90 rfl rfl rfl rfl ?_
      refine TL.nil (X.seq (T.region rfl ?_))
      refine TL.q rfl .u (Ex.bS (us := [.int .i64 x14.fTime, .int .i64 x14.fOffset, .bool x14.fKey.null, .string (bsOf x14.fKey.data), .bool x14.fValue.null, .string (bsOf x14.fValue.data), .slice A18 x14.fHeaders.length c19]) 0 rfl Tryz.isAgg90 Tryz.sizeOf90 rfl rfl rfl) rfl ?_
      obtain ⟨st22, hx23, h⟩ := Option.bind_eq_some_iff.1 h
      refine TL.c1 rfl .u (.fn Tryz.call33 rfl) (f_record_Write_spec b7 st9 x14 _ _ _ hx23) (fun _ hs => (Src.old hs hX20)) rfl ?_
      refine TL.nil (X.blk (X.seq (T.region rfl ?_)))
      refine TL.q rfl .u (Ex.add rfl rfl (by omega)) rfl ?_
      refine TL.run ft_batch_ok [1] rfl rfl ?_
      exact TL.nil (X.back (m' := m13) [1, 1, 1] (by omega) ⟨k8 + 1, st22, by omega, rfl, rfl, h⟩ (by rfl) (by rfl))
  · replace h := ifF c6 h
    refine TL.nil (X.seq ?_)
    refine T.yes rfl (bn_t (decide_eq_false c6)) ?_
    refine T.seq (T.region rfl ?_)
    refine TL.run ft_batch_ok [0, 1, 2] rfl rfl ?_
    obtain rfl := Option.some.inj h
    exact TL.nil (X.seq (T.ret (X.rs (X.done2 [1] Tryz.results15 (RV.tm rfl) (RV.tm rfl) ⟨rfl, rfl, rfl⟩ (by rfl) (.inl rfl)))))
def f_batch_All_l1 : List Bat → List UInt8 → Int → List UInt8 → Option (Lp (List UInt8 × Int) (List UInt8 × Int × List UInt8))
  | [], y4, y5, st7 => some (Lp.go (y4, y5, st7))
  | x12 :: xs, y4, y5, st7 => (f_batch_Encode x12).bind fun (x20, x21) => if x21 = 0 then ((gBWrite st7 x20).bind fun st24 => f_batch_All_l1 xs y4 y5 st24) else (some (Lp.ret ([], x21)))
def f_batch_All (a0 : List Bat) : Option (List UInt8 × Int) := (f_batch_All_l1 a0 [] 0 []).bind fun e => match e with | .ret r => some r | .go (y26, y27, st29) => ((gBStr st29).bind fun x30 => some (x30, 0))
set_option maxRecDepth 100000 in
set_option maxHeartbeats 4000000 in
theorem f_batch_All_spec (a0 : List Bat) (A1 : Option Addr) (c2 : Nat) (r : List UInt8 × Int) (h : f_batch_All a0 = some r) : SpecX Tryz.prog 12 #[.slice A1 a0.length c2] (RX.of (sliceRd 12 Bat_rd) [.slice A1 a0.length c2] a0) (EmpR) (fun v A' N => v = .tuple #[.string (bsOf r.1), .int .i64 r.2] ∧ A' = EmpR ∧ N = []) := by
  refine enterA Tryz.func12 rfl Tryz.ntmps12 rfl ?_
  intro F w hX
  unfold f_batch_All at h
  refine T.seq (T.region rfl ?_)
  refine TL.run ft_batch_ok [0, 1] rfl rfl ?_
  refine TL.nil (X.seq (T.seq (T.region rfl ?_)))
  refine TL.newbld rfl .u Tryz.zeroValue79 rfl (fun b3 => ?_)
  refine TL.nil (X.seq (T.seq (T.seq (T.region rfl ?_))))
  refine TL.run ft_batch_ok [0] rfl rfl ?_
  refine TL.q rfl .u (Ex.lenS rfl Tryz.runUnderlying52) rfl ?_
  refine TL.run ft_batch_ok [2] rfl rfl ?_
  refine TL.nil (X.seq (T.block ?_))
  obtain ⟨E8, hE9, hO10⟩ := Option.bind_eq_some_iff.1 h
  have hk14len := RX.len_le hX
  refine T.lp (fun m e Rs => ∃ (y4 : List UInt8) (y5 : Int) (k6 : Nat) (st7 : List UInt8), k6 + m = a0.length ∧ e = [(2, .string (bsOf y4)), (3, .int .i64 y5), (4, .pointer (some ⟨b3, 0, none⟩)), (9, .slice A1 a0.length c2), (10, .int .i64 (a0.length : Int)), (11, .int .i64 (k6 : Int))] ∧ Rs = [BldR b3 st7, EmpR] ∧ f_batch_All_l1 (a0.drop k6) y4 y5 st7 = some E8) (a0.length) [0, 0] ⟨[], 0, 0, [], by simp, rfl, rfl, by rw [List.drop_zero]; exact hE9⟩ (by rfl) (by rfl) ?_
  rintro m11 _ _ ⟨y4, y5, k6, st7, hk14, rfl, rfl, hl13⟩
  clear hE9 h
  cases m11 with
  | zero =>
    have h := hl13
    clear hl13
    rw [List.drop_of_length_le (by omega), f_batch_All_l1] at h
    have hk14ge : ¬ ((k6 : Int) < (a0.length : Int)) := by omega
    refine T.seq (T.region rfl ?_)
    refine TL.run ft_batch_ok [0] rfl rfl ?_
    refine TL.nil (X.seq (T.seq ?_))
    refine T.no rfl (decide_eq_false hk14ge) ?_
    obtain rfl := Option.some.inj h
    replace h := hO10
    clear hO10
    try dsimp only at h
    obtain ⟨x32, hx33, h⟩ := Option.bind_eq_some_iff.1 h
    refine T.exit (X.exs (X.exs (X.ex (X.seq (T.seq (T.region rfl ?_))))))
    refine TL.c0 rfl .u (.fn Tryz.call28 rfl) (gBStr_spec b3 st7 _ hx33) (fun _ hs => (Src.triv _)) rfl ?_
    refine TL.sel [1] rfl ?_
    refine TL.run ft_batch_ok [1, 2] rfl rfl ?_
    obtain rfl := Option.some.inj h
    exact TL.nil (X.seq (T.ret (X.done2 [0] Tryz.results12 (RV.tm rfl) (RV.tm rfl) ⟨rfl, rfl, rfl⟩ (by rfl) (.inl rfl))))
  | succ m11 =>
    have h := hl13
    clear hl13
    obtain ⟨x12, hxx12⟩ : ∃ x, a0[k6]? = some x := ⟨_, List.getElem?_eq_getElem (by omega)⟩
    rw [drop_cons hxx12, f_batch_All_l1] at h
    have hk14lt : (k6 : Int) < (a0.length : Int) := by omega
    refine T.seq (T.region rfl ?_)
    refine TL.run ft_batch_ok [0] rfl rfl ?_
    refine TL.nil (X.seq (T.seq ?_))
    refine T.yes rfl (decide_eq_true hk14lt) ?_
    obtain ⟨gz15, oz15, rfl, z15cs, z15cl, z15cc, z15nf, z15r⟩ := RX.elem (by decide) hX hxx12
    obtain ⟨z15S, z15r, z15rr⟩ := z15r
    obtain ⟨A16, c17, rfl, z15s0⟩ := z15r
    have hX18 : (RX.of (sliceRd 7 Rec_rd) [.slice A16 x12.fRecords.length c17] x12.fRecords).reads w F := ⟨z15S, z15s0, z15rr⟩
    refine T.skip (X.seq (T.seq (T.block (T.seq (T.region rfl ?_)))))
    refine TL.q rfl .u (Ex.ixS (k := k6) rfl rfl rfl Tryz.runUnderlying52 Tryz.sizeOf30 (List.getElem?_eq_some_iff.1 hxx12).1) rfl ?_
    refine TL.q rfl .u (Ex.oS (us := [.int .i64 x12.fBase, .int .i64 x12.fLeader, .bool x12.fAppend, .bool x12.fTxn, .bool x12.fControl, .int .i64 x12.fLast, .int .i64 x12.fFirst, .int .i64 x12.fMax, .int .i64 x12.fProducer, .int .i64 x12.fEpoch, .int .i64 x12.fSequence, .slice A16 x12.fRecords.length c17]) 0 rfl Tryz.isAgg30 Tryz.sizeOf30 z15nf z15cc rfl rfl rfl) rfl ?_
    refine TL.alloc rfl .u Tryz.zeroValue30 rfl (fun b19 => ?_)
    refine TL.st0 (cs' := #[.int .i64 x12.fBase, .int .i64 x12.fLeader, .bool x12.fAppend, .bool x12.fTxn, .bool x12.fControl, .int .i64 x12.fLast, .int .i64 x12.fFirst, .int .i64 x12.fMax, .int .i64 x12.fProducer, .int .i64 x12.fEpoch, .int .i64 x12.fSequence, .slice A16 x12.fRecords.length c17]) rfl .u rfl rfl Tryz.sizeOf30 rfl rfl rfl rfl ?_
    refine TL.nil (X.seq (T.seq (T.region rfl ?_)))
    refine TL.q rfl .u (Ex.bS (us := [.int .i64 x12.fBase, .int .i64 x12.fLeader, .bool x12.fAppend, .bool x12.fTxn, .bool x12.fControl, .int .i64 x12.fLast, .int .i64 x12.fFirst, .int .i64 x12.fMax, .int .i64 x12.fProducer, .int .i64 x12.fEpoch, .int .i64 x12.fSequence, .slice A16 x12.fRecords.length c17]) 0 rfl Tryz.isAgg30 Tryz.sizeOf30 rfl rfl rfl) rfl ?_
    obtain ⟨⟨x20, x21⟩, hx22, h⟩ := Option.bind_eq_some_iff.1 h
    try dsimp only at h
    refine TL.ce rfl .u (.fn Tryz.call15 rfl) (f_batch_Encode_spec x12 _ _ _ hx22) (fun _ hs => (SrcE.old hs hX18)) rfl ?_
    refine TL.run ft_batch_ok [2, 3, 4, 5, 6] rfl rfl ?_
    refine TL.nil (X.seq (T.seq (T.seq (T.region rfl ?_))))
    refine TL.run ft_batch_ok [0, 1] rfl rfl ?_
    by_cases c23 : x21 = 0
    · replace h := ifT c23 h
      refine TL.nil (X.seq ?_)
      refine T.no rfl (bn_f (decide_eq_true c23)) ?_
      refine T.skip (X.seq (T.region rfl ?_))
      obtain ⟨st24, hx25, h⟩ := Option.bind_eq_some_iff.1 h
      refine TL.run ft_batch_ok [0] rfl rfl ?_
      refine TL.c1 rfl .u (.fn Tryz.call27 rfl) (gBWrite_spec b3 st7 x20 _ hx25) (fun _ hs => (Src.triv _)) rfl ?_
      refine TL.nil (X.blk (X.seq (T.region rfl ?_)))
      refine TL.q rfl .u (Ex.add rfl rfl (by omega)) rfl ?_
      refine TL.run ft_batch_ok [1] rfl rfl ?_
      exact TL.nil (X.back (m' := m11) [1, 1] (by omega) ⟨y4, y5, k6 + 1, st24, by omega, rfl, rfl, h⟩ (by rfl) (by rfl))
    · replace h := ifF c23 h
      refine TL.nil (X.seq ?_)
      refine T.yes rfl (bn_t (decide_eq_false c23)) ?_
      refine T.seq (T.region rfl ?_)
      refine TL.run ft_batch_ok [0, 1, 2] rfl rfl ?_
      obtain rfl := Option.some.inj h
      replace h := hO10
      clear hO10
      try dsimp only at h
      obtain rfl := Option.some.inj h
      exact TL.nil (X.seq (T.ret (X.rs (X.rb (X.rs (X.rs (X.rb (X.rs (X.done2 [2] Tryz.results12 (RV.tm rfl) (RV.tm rfl) ⟨rfl, rfl, rfl⟩ (by rfl) (.inl rfl))))))))))
end Go.Proofs.YtlhgogjcaegehaaGreat.Sl
namespace Go.Proofs.YtlhgogjcaegehaaGreat.Sl
open Go.RowKit
set_option linter.unusedVariables false
set_option linter.unusedSimpArgs false
set_option maxRecDepth 100000
def ft_cursitorref08 : FTab := [(23, 0, 0), (23, 1, 1), (90, 1, 1), (90, 2, 2), (90, 3, 4), (90, 4, 6)]
theorem ft_cursitorref08_ok : (ft_cursitorref08).OK Tryz.prog := ⟨FOK.mk Tryz.runUnderlying23 rfl Tryz.sizeOf4 rfl, FOK.mk Tryz.runUnderlying23 rfl Tryz.sizeOf9 rfl, FOK.mk Tryz.runUnderlying90 rfl Tryz.sizeOf3 rfl, FOK.mk Tryz.runUnderlying90 rfl Tryz.sizeOf23 rfl, FOK.mk Tryz.runUnderlying90 rfl Tryz.sizeOf23 rfl, FOK.mk Tryz.runUnderlying90 rfl Tryz.sizeOf88 rfl, trivial⟩
def nt_cursitorref08 : List Nat := [3, 4, 9, 88]
theorem nt_cursitorref08_ok : NOK Tryz.prog nt_cursitorref08 := ⟨Tryz.isAgg3, Tryz.isAgg4, Tryz.isAgg9, Tryz.isAgg88, trivial⟩
def f_r08_ReadKey (a0 : List UInt8) : Option (Int × Int) := if (a0.length : Int) < 2 then some (0, 1) else (if 2 ≤ a0.length then ((gRInt (a0.take 2)).bind fun x3 => if x3 = 0 then (if (a0.length : Int) < 4 then some (0, 1) else (if 4 ≤ a0.length then ((gRInt ((a0.drop 2).take 2)).bind fun x8 => if x8 = 0 then (if (a0.length : Int) > 4 then some (0, 2) else some (x8, 0)) else (if x8 = 1 then (if (a0.length : Int) > 4 then some (0, 2) else some (x8, 0)) else some (0, 12))) else none)) else some (0, 7)) else none)
set_option maxRecDepth 100000 in
set_option maxHeartbeats 4000000 in
theorem f_r08_ReadKey_spec (a0 : List UInt8) (r : Int × Int) (h : f_r08_ReadKey a0 = some r) : SpecX Tryz.prog 87 #[.string (bsOf a0)] .triv (EmpR) (fun v A' N => v = .tuple #[.int .i64 r.1, .int .i64 r.2] ∧ A' = EmpR ∧ N = []) := by
  refine enterA Tryz.func87 rfl Tryz.ntmps87 rfl ?_
  intro F w hX
  unfold f_r08_ReadKey at h
  refine T.seq (T.region rfl ?_)
  refine TL.run ft_cursitorref08_ok [0, 1] rfl rfl ?_
  refine TL.nil (X.seq (T.seq (T.seq (T.region rfl ?_))))
  refine TL.run ft_cursitorref08_ok [0] rfl rfl ?_
  refine TL.q rfl .u (Ex.lenB rfl Tryz.runUnderlying9) rfl ?_
  refine TL.run ft_cursitorref08_ok [2] rfl rfl ?_
  by_cases c1 : (a0.length : Int) < 2
  · replace h := ifT c1 h
    refine TL.nil (X.seq ?_)
    refine T.yes rfl (decide_eq_true c1) ?_
    refine T.seq (T.region rfl ?_)
    refine TL.run ft_cursitorref08_ok [0, 1] rfl rfl ?_
    obtain rfl := Option.some.inj h
    exact TL.nil (X.seq (T.ret (X.rs (X.done2 [0] Tryz.results87 (RV.tm rfl) (RV.tm rfl) ⟨rfl, rfl, rfl⟩ (by rfl) (.inl rfl)))))
  · replace h := ifF c1 h
    refine TL.nil (X.seq ?_)
    refine T.no rfl (decide_eq_false c1) ?_
    refine T.skip (X.seq (T.seq (T.seq (T.region rfl ?_))))
    replace h := guard_some h
    obtain ⟨c2, h⟩ := h
    refine TL.run ft_cursitorref08_ok [0] rfl rfl ?_
    replace c2 : 2 ≤ a0.length := c2
    refine TL.q rfl .u (Ex.sSl (p := 0) (q := 2) (m := (a0.take 2)) rfl Tryz.runUnderlying9 .none (.some rfl rfl) (by first | omega | (dsimp only; omega)) (by simp)) rfl ?_
    obtain ⟨x3, hx4, h⟩ := Option.bind_eq_some_iff.1 h
    refine TL.ce rfl .u (.fn Tryz.call99 rfl) (SpecX.pure (fun w => gRInt_spec (a0.take 2) _ hx4 w)) (fun _ _ => RX.reads_triv _ _) rfl ?_
    refine TL.run ft_cursitorref08_ok [3] rfl rfl ?_
    by_cases c5 : x3 = 0
    · replace h := ifT c5 h
      refine TL.nil (X.seq ?_)
      refine T.no rfl (bn_f (decide_eq_true c5)) ?_
      refine T.skip (X.seq (T.seq (T.seq (T.region rfl ?_))))
      refine TL.run ft_cursitorref08_ok [0] rfl rfl ?_
      refine TL.q rfl .u (Ex.lenB rfl Tryz.runUnderlying9) rfl ?_
      refine TL.run ft_cursitorref08_ok [2] rfl rfl ?_
      by_cases c6 : (a0.length : Int) < 4
      · replace h := ifT c6 h
        refine TL.nil (X.seq ?_)
        refine T.yes rfl (decide_eq_true c6) ?_
        refine T.seq (T.region rfl ?_)
        refine TL.run ft_cursitorref08_ok [0, 1] rfl rfl ?_
        obtain rfl := Option.some.inj h
        exact TL.nil (X.seq (T.ret (X.rs (X.done2 [0] Tryz.results87 (RV.tm rfl) (RV.tm rfl) ⟨rfl, rfl, rfl⟩ (by rfl) (.inl rfl)))))
      · replace h := ifF c6 h
        refine TL.nil (X.seq ?_)
        refine T.no rfl (decide_eq_false c6) ?_
        refine T.skip (X.seq (T.seq (T.region rfl ?_)))
        replace h := guard_some h
        obtain ⟨c7, h⟩ := h
        refine TL.run ft_cursitorref08_ok [0] rfl rfl ?_
        replace c7 : 4 ≤ a0.length := c7
        refine TL.q rfl .u (Ex.sSl (p := 2) (q := 4) (m := ((a0.drop 2).take 2)) rfl Tryz.runUnderlying9 (.some rfl rfl) (.some rfl rfl) (by first | omega | (dsimp only; omega)) rfl) rfl ?_
        obtain ⟨x8, hx9, h⟩ := Option.bind_eq_some_iff.1 h
        refine TL.ce rfl .u (.fn Tryz.call99 rfl) (SpecX.pure (fun w => gRInt_spec ((a0.drop 2).take 2) _ hx9 w)) (fun _ _ => RX.reads_triv _ _) rfl ?_
        refine TL.run ft_cursitorref08_ok [3] rfl rfl ?_
        refine TL.nil (X.seq (T.seq (T.seq (T.region rfl ?_))))
        by_cases c10 : x8 = 0
        · replace h := ifT c10 h
          refine TL.run ft_cursitorref08_ok [0, 1, 2] rfl rfl ?_
          refine TL.hv 20 rfl (bn_f (decide_eq_true c10)) ?_
          refine TL.rw ft_cursitorref08_ok 3 rfl ?_
          refine TL.nil (X.seq ?_)
          refine T.no rfl rfl ?_
          refine T.skip (X.seq (T.seq (T.seq (T.region rfl ?_))))
          refine TL.run ft_cursitorref08_ok [0] rfl rfl ?_
          refine TL.q rfl .u (Ex.lenB rfl Tryz.runUnderlying9) rfl ?_
          refine TL.run ft_cursitorref08_ok [2] rfl rfl ?_
          by_cases c11 : (a0.length : Int) > 4
          · replace h := ifT c11 h
            refine TL.nil (X.seq ?_)
            refine T.yes rfl (decide_eq_true c11) ?_
            refine T.seq (T.region rfl ?_)
            refine TL.run ft_cursitorref08_ok [0, 1] rfl rfl ?_
            obtain rfl := Option.some.inj h
            exact TL.nil (X.seq (T.ret (X.rs (X.done2 [0] Tryz.results87 (RV.tm rfl) (RV.tm rfl) ⟨rfl, rfl, rfl⟩ (by rfl) (.inl rfl)))))
          · replace h := ifF c11 h
            refine TL.nil (X.seq ?_)
            refine T.no rfl (decide_eq_false c11) ?_
            refine T.skip (X.seq (T.seq (T.region rfl ?_)))
            refine TL.run ft_cursitorref08_ok [0, 1, 2] rfl rfl ?_
            obtain rfl := Option.some.inj h
            exact TL.nil (X.seq (T.ret (X.done2 [0] Tryz.results87 (RV.tm rfl) (RV.tm rfl) ⟨rfl, rfl, rfl⟩ (by rfl) (.inl rfl))))
        · replace h := ifF c10 h
          refine TL.run ft_cursitorref08_ok [0, 1, 2] rfl rfl ?_
          refine TL.hv 20 rfl (bn_t (decide_eq_false c10)) ?_
          refine TL.rw ft_cursitorref08_ok 3 rfl ?_
          by_cases c12 : x8 = 1
          · replace h := ifT c12 h
            refine TL.nil (X.seq ?_)
            refine T.no rfl (bn_f (decide_eq_true c12)) ?_
            refine T.skip (X.seq (T.seq (T.seq (T.region rfl ?_))))
            refine TL.run ft_cursitorref08_ok [0] rfl rfl ?_
            refine TL.q rfl .u (Ex.lenB rfl Tryz.runUnderlying9) rfl ?_
            refine TL.run ft_cursitorref08_ok [2] rfl rfl ?_
            by_cases c13 : (a0.length : Int) > 4
            · replace h := ifT c13 h
              refine TL.nil (X.seq ?_)
              refine T.yes rfl (decide_eq_true c13) ?_
              refine T.seq (T.region rfl ?_)
              refine TL.run ft_cursitorref08_ok [0, 1] rfl rfl ?_
              obtain rfl := Option.some.inj h
              exact TL.nil (X.seq (T.ret (X.rs (X.done2 [0] Tryz.results87 (RV.tm rfl) (RV.tm rfl) ⟨rfl, rfl, rfl⟩ (by rfl) (.inl rfl)))))
            · replace h := ifF c13 h
              refine TL.nil (X.seq ?_)
              refine T.no rfl (decide_eq_false c13) ?_
              refine T.skip (X.seq (T.seq (T.region rfl ?_)))
              refine TL.run ft_cursitorref08_ok [0, 1, 2] rfl rfl ?_
              obtain rfl := Option.some.inj h
              exact TL.nil (X.seq (T.ret (X.done2 [0] Tryz.results87 (RV.tm rfl) (RV.tm rfl) ⟨rfl, rfl, rfl⟩ (by rfl) (.inl rfl))))
          · replace h := ifF c12 h
            refine TL.nil (X.seq ?_)
            refine T.yes rfl (bn_t (decide_eq_false c12)) ?_
            refine T.seq (T.region rfl ?_)
            refine TL.run ft_cursitorref08_ok [0, 1] rfl rfl ?_
            obtain rfl := Option.some.inj h
            exact TL.nil (X.seq (T.ret (X.rs (X.done2 [0] Tryz.results87 (RV.tm rfl) (RV.tm rfl) ⟨rfl, rfl, rfl⟩ (by rfl) (.inl rfl)))))
    · replace h := ifF c5 h
      refine TL.nil (X.seq ?_)
      refine T.yes rfl (bn_t (decide_eq_false c5)) ?_
      refine T.seq (T.region rfl ?_)
      refine TL.run ft_cursitorref08_ok [0, 1] rfl rfl ?_
      obtain rfl := Option.some.inj h
      exact TL.nil (X.seq (T.ret (X.rs (X.done2 [0] Tryz.results87 (RV.tm rfl) (RV.tm rfl) ⟨rfl, rfl, rfl⟩ (by rfl) (.inl rfl)))))
def f_r08_ReadValue (a0 : List UInt8) : Option (Int × Int) := if (a0.length : Int) < 2 then some (0, 1) else (if 2 ≤ a0.length then ((gRInt (a0.take 2)).bind fun x3 => if x3 = 0 then (if (a0.length : Int) < 6 then some (0, 1) else (if 6 ≤ a0.length then ((gRInt ((a0.drop 2).take 4)).bind fun x8 => if x8 < 0 then some (0, 11) else (if (a0.length : Int) > 6 then some (0, 2) else some (x8, 0))) else none)) else some (0, 7)) else none)
set_option maxRecDepth 100000 in
set_option maxHeartbeats 4000000 in
theorem f_r08_ReadValue_spec (a0 : List UInt8) (r : Int × Int) (h : f_r08_ReadValue a0 = some r) : SpecX Tryz.prog 88 #[.string (bsOf a0)] .triv (EmpR) (fun v A' N => v = .tuple #[.int .i64 r.1, .int .i64 r.2] ∧ A' = EmpR ∧ N = []) := by
  refine enterA Tryz.func88 rfl Tryz.ntmps88 rfl ?_
  intro F w hX
  unfold f_r08_ReadValue at h
  refine T.seq (T.region rfl ?_)
  refine TL.run ft_cursitorref08_ok [0, 1] rfl rfl ?_
  refine TL.nil (X.seq (T.seq (T.seq (T.region rfl ?_))))
  refine TL.run ft_cursitorref08_ok [0] rfl rfl ?_
  refine TL.q rfl .u (Ex.lenB rfl Tryz.runUnderlying9) rfl ?_
  refine TL.run ft_cursitorref08_ok [2] rfl rfl ?_
  by_cases c1 : (a0.length : Int) < 2
  · replace h := ifT c1 h
    refine TL.nil (X.seq ?_)
    refine T.yes rfl (decide_eq_true c1) ?_
    refine T.seq (T.region rfl ?_)
    refine TL.run ft_cursitorref08_ok [0, 1] rfl rfl ?_
    obtain rfl := Option.some.inj h
    exact TL.nil (X.seq (T.ret (X.rs (X.done2 [0] Tryz.results88 (RV.tm rfl) (RV.tm rfl) ⟨rfl, rfl, rfl⟩ (by rfl) (.inl rfl)))))
  · replace h := ifF c1 h
    refine TL.nil (X.seq ?_)
    refine T.no rfl (decide_eq_false c1) ?_
    refine T.skip (X.seq (T.seq (T.seq (T.region rfl ?_))))
    replace h := guard_some h
    obtain ⟨c2, h⟩ := h
    refine TL.run ft_cursitorref08_ok [0] rfl rfl ?_
    replace c2 : 2 ≤ a0.length := c2
    refine TL.q rfl .u (Ex.sSl (p := 0) (q := 2) (m := (a0.take 2)) rfl Tryz.runUnderlying9 .none (.some rfl rfl) (by first | omega | (dsimp only; omega)) (by simp)) rfl ?_
    obtain ⟨x3, hx4, h⟩ := Option.bind_eq_some_iff.1 h
    refine TL.ce rfl .u (.fn Tryz.call99 rfl) (SpecX.pure (fun w => gRInt_spec (a0.take 2) _ hx4 w)) (fun _ _ => RX.reads_triv _ _) rfl ?_
    refine TL.run ft_cursitorref08_ok [3] rfl rfl ?_
    by_cases c5 : x3 = 0
    · replace h := ifT c5 h
      refine TL.nil (X.seq ?_)
      refine T.no rfl (bn_f (decide_eq_true c5)) ?_
      refine T.skip (X.seq (T.seq (T.seq (T.region rfl ?_))))
      refine TL.run ft_cursitorref08_ok [0] rfl rfl ?_
      refine TL.q rfl .u (Ex.lenB rfl Tryz.runUnderlying9) rfl ?_
      refine TL.run ft_cursitorref08_ok [2] rfl rfl ?_
      by_cases c6 : (a0.length : Int) < 6
      · replace h := ifT c6 h
        refine TL.nil (X.seq ?_)
        refine T.yes rfl (decide_eq_true c6) ?_
        refine T.seq (T.region rfl ?_)
        refine TL.run ft_cursitorref08_ok [0, 1] rfl rfl ?_
        obtain rfl := Option.some.inj h
        exact TL.nil (X.seq (T.ret (X.rs (X.done2 [0] Tryz.results88 (RV.tm rfl) (RV.tm rfl) ⟨rfl, rfl, rfl⟩ (by rfl) (.inl rfl)))))
      · replace h := ifF c6 h
        refine TL.nil (X.seq ?_)
        refine T.no rfl (decide_eq_false c6) ?_
        refine T.skip (X.seq (T.seq (T.region rfl ?_)))
        replace h := guard_some h
        obtain ⟨c7, h⟩ := h
        refine TL.run ft_cursitorref08_ok [0] rfl rfl ?_
        replace c7 : 6 ≤ a0.length := c7
        refine TL.q rfl .u (Ex.sSl (p := 2) (q := 6) (m := ((a0.drop 2).take 4)) rfl Tryz.runUnderlying9 (.some rfl rfl) (.some rfl rfl) (by first | omega | (dsimp only; omega)) rfl) rfl ?_
        obtain ⟨x8, hx9, h⟩ := Option.bind_eq_some_iff.1 h
        refine TL.ce rfl .u (.fn Tryz.call99 rfl) (SpecX.pure (fun w => gRInt_spec ((a0.drop 2).take 4) _ hx9 w)) (fun _ _ => RX.reads_triv _ _) rfl ?_
        refine TL.run ft_cursitorref08_ok [3] rfl rfl ?_
        refine TL.nil (X.seq (T.seq (T.seq (T.region rfl ?_))))
        refine TL.run ft_cursitorref08_ok [0, 1] rfl rfl ?_
        by_cases c10 : x8 < 0
        · replace h := ifT c10 h
          refine TL.nil (X.seq ?_)
          refine T.yes rfl (decide_eq_true c10) ?_
          refine T.seq (T.region rfl ?_)
          refine TL.run ft_cursitorref08_ok [0, 1] rfl rfl ?_
          obtain rfl := Option.some.inj h
          exact TL.nil (X.seq (T.ret (X.rs (X.done2 [0] Tryz.results88 (RV.tm rfl) (RV.tm rfl) ⟨rfl, rfl, rfl⟩ (by rfl) (.inl rfl)))))
        · replace h := ifF c10 h
          refine TL.nil (X.seq ?_)
          refine T.no rfl (decide_eq_false c10) ?_
          refine T.skip (X.seq (T.seq (T.seq (T.region rfl ?_))))
          refine TL.run ft_cursitorref08_ok [0] rfl rfl ?_
          refine TL.q rfl .u (Ex.lenB rfl Tryz.runUnderlying9) rfl ?_
          refine TL.run ft_cursitorref08_ok [2] rfl rfl ?_
          by_cases c11 : (a0.length : Int) > 6
          · replace h := ifT c11 h
            refine TL.nil (X.seq ?_)
            refine T.yes rfl (decide_eq_true c11) ?_
            refine T.seq (T.region rfl ?_)
            refine TL.run ft_cursitorref08_ok [0, 1] rfl rfl ?_
            obtain rfl := Option.some.inj h
            exact TL.nil (X.seq (T.ret (X.rs (X.done2 [0] Tryz.results88 (RV.tm rfl) (RV.tm rfl) ⟨rfl, rfl, rfl⟩ (by rfl) (.inl rfl)))))
          · replace h := ifF c11 h
            refine TL.nil (X.seq ?_)
            refine T.no rfl (decide_eq_false c11) ?_
            refine T.skip (X.seq (T.seq (T.region rfl ?_)))
            refine TL.run ft_cursitorref08_ok [0, 1, 2] rfl rfl ?_
            obtain rfl := Option.some.inj h
            exact TL.nil (X.seq (T.ret (X.done2 [0] Tryz.results88 (RV.tm rfl) (RV.tm rfl) ⟨rfl, rfl, rfl⟩ (by rfl) (.inl rfl))))
    · replace h := ifF c5 h
      refine TL.nil (X.seq ?_)
      refine T.yes rfl (bn_t (decide_eq_false c5)) ?_
      refine T.seq (T.region rfl ?_)
      refine TL.run ft_cursitorref08_ok [0, 1] rfl rfl ?_
      obtain rfl := Option.some.inj h
      exact TL.nil (X.seq (T.ret (X.rs (X.done2 [0] Tryz.results88 (RV.tm rfl) (RV.tm rfl) ⟨rfl, rfl, rfl⟩ (by rfl) (.inl rfl)))))
def f_r08_Read (a0 : Rec) : Option (Int × Int × Int) := if a0.fKey.null = true then some (0, 0, 12) else (if a0.fValue.null = true then some (0, 0, 12) else (if (a0.fHeaders.length : Int) > 0 then some (0, 0, 12) else (if a0.fOffset = 0 then ((f_r08_ReadKey a0.fKey.data).bind fun (x8, x9) => if x9 = 0 then ((f_r08_ReadValue a0.fValue.data).bind fun (x12, x13) => if x13 = 0 then some (x8, x12, 0) else some (0, 0, x13)) else some (0, 0, x9)) else some (0, 0, 12))))
set_option maxRecDepth 100000 in
set_option maxHeartbeats 4000000 in
theorem f_r08_Read_spec (a0 : Rec) (A1 : Option Addr) (c2 : Nat) (r : Int × Int × Int) (h : f_r08_Read a0 = some r) : SpecX Tryz.prog 71 #[.agg #[.int .i64 a0.fTime, .int .i64 a0.fOffset, .bool a0.fKey.null, .string (bsOf a0.fKey.data), .bool a0.fValue.null, .string (bsOf a0.fValue.data), .slice A1 a0.fHeaders.length c2]] (RX.of (sliceRd 3 Hd_rd) [.slice A1 a0.fHeaders.length c2] a0.fHeaders) (EmpR) (fun v A' N => v = .tuple #[.int .i64 r.1, .int .i64 r.2.1, .int .i64 r.2.2] ∧ A' = EmpR ∧ N = []) := by
  refine enterA Tryz.func71 rfl Tryz.ntmps71 rfl ?_
  intro F w hX
  unfold f_r08_Read at h
  refine T.seq (T.region rfl ?_)
  refine TL.box rfl .u rfl rfl (fun b3 => ?_)
  refine TL.run ft_cursitorref08_ok [1, 2, 3] rfl rfl ?_
  refine TL.nil (X.seq (T.seq (T.seq (T.region rfl ?_))))
  by_cases c4 : a0.fKey.null = true
  · replace h := ifT c4 h
    refine TL.rb ft_cursitorref08_ok nt_cursitorref08_ok 0 rfl 4 rfl rfl ?_
    refine TL.hv 12 rfl c4 ?_
    refine TL.rw ft_cursitorref08_ok 15 rfl ?_
    refine TL.nil (X.seq ?_)
    refine T.yes rfl rfl ?_
    refine T.seq (T.region rfl ?_)
    refine TL.run ft_cursitorref08_ok [0, 1, 2] rfl rfl ?_
    obtain rfl := Option.some.inj h
    exact TL.nil (X.seq (T.ret (X.rs (X.done3 [1] Tryz.results71 (RV.tm rfl) (RV.tm rfl) (RV.tm rfl) ⟨rfl, rfl, rfl⟩ (by rfl) (.inl rfl)))))
  · replace h := ifF c4 h
    replace c4 := eq_false_of_ne_true c4
    refine TL.rb ft_cursitorref08_ok nt_cursitorref08_ok 0 rfl 4 rfl rfl ?_
    refine TL.hv 12 rfl c4 ?_
    by_cases c5 : a0.fValue.null = true
    · replace h := ifT c5 h
      refine TL.rb ft_cursitorref08_ok nt_cursitorref08_ok 0 rfl 5 rfl rfl ?_
      refine TL.hv 17 rfl c5 ?_
      refine TL.rw ft_cursitorref08_ok 10 rfl ?_
      refine TL.nil (X.seq ?_)
      refine T.yes rfl rfl ?_
      refine T.seq (T.region rfl ?_)
      refine TL.run ft_cursitorref08_ok [0, 1, 2] rfl rfl ?_
      obtain rfl := Option.some.inj h
      exact TL.nil (X.seq (T.ret (X.rs (X.done3 [1] Tryz.results71 (RV.tm rfl) (RV.tm rfl) (RV.tm rfl) ⟨rfl, rfl, rfl⟩ (by rfl) (.inl rfl)))))
    · replace h := ifF c5 h
      replace c5 := eq_false_of_ne_true c5
      refine TL.rb ft_cursitorref08_ok nt_cursitorref08_ok 0 rfl 5 rfl rfl ?_
      refine TL.hv 17 rfl c5 ?_
      refine TL.rb ft_cursitorref08_ok nt_cursitorref08_ok 0 rfl 2 rfl rfl ?_
      refine TL.q rfl (.g rfl rfl rfl) (Ex.lenS rfl Tryz.runUnderlying88) rfl ?_
      by_cases c6 : (a0.fHeaders.length : Int) > 0
      · replace h := ifT c6 h
        refine TL.rw ft_cursitorref08_ok 3 rfl ?_
        refine TL.hv 23 rfl (decide_eq_true c6) ?_
        refine TL.rw ft_cursitorref08_ok 4 rfl ?_
        refine TL.nil (X.seq ?_)
        refine T.yes rfl rfl ?_
        refine T.seq (T.region rfl ?_)
        refine TL.run ft_cursitorref08_ok [0, 1, 2] rfl rfl ?_
        obtain rfl := Option.some.inj h
        exact TL.nil (X.seq (T.ret (X.rs (X.done3 [1] Tryz.results71 (RV.tm rfl) (RV.tm rfl) (RV.tm rfl) ⟨rfl, rfl, rfl⟩ (by rfl) (.inl rfl)))))
      · replace h := ifF c6 h
        refine TL.rw ft_cursitorref08_ok 3 rfl ?_
        refine TL.hv 23 rfl (decide_eq_false c6) ?_
        refine TL.rb ft_cursitorref08_ok nt_cursitorref08_ok 0 rfl 4 rfl rfl ?_
        by_cases c7 : a0.fOffset = 0
        · replace h := ifT c7 h
          refine TL.nil (X.seq ?_)
          refine T.no rfl (bn_f (decide_eq_true c7)) ?_
          refine T.skip (X.seq (T.seq (T.region rfl ?_)))
          obtain ⟨⟨x8, x9⟩, hx10, h⟩ := Option.bind_eq_some_iff.1 h
          try dsimp only at h
          refine TL.rb ft_cursitorref08_ok nt_cursitorref08_ok 0 rfl 3 rfl rfl ?_
          refine TL.ce rfl .u (.fn Tryz.call87 rfl) (f_r08_ReadKey_spec a0.fKey.data _ hx10) (fun _ hs => (RX.reads_triv _ _)) rfl ?_
          refine TL.run ft_cursitorref08_ok [4, 5, 6, 7, 8] rfl rfl ?_
          refine TL.nil (X.seq (T.seq (T.seq (T.region rfl ?_))))
          refine TL.run ft_cursitorref08_ok [0, 1] rfl rfl ?_
          by_cases c11 : x9 = 0
          · replace h := ifT c11 h
            refine TL.nil (X.seq ?_)
            refine T.no rfl (bn_f (decide_eq_true c11)) ?_
            refine T.skip (X.seq (T.seq (T.region rfl ?_)))
            obtain ⟨⟨x12, x13⟩, hx14, h⟩ := Option.bind_eq_some_iff.1 h
            try dsimp only at h
            refine TL.rb ft_cursitorref08_ok nt_cursitorref08_ok 0 rfl 3 rfl rfl ?_
            refine TL.ce rfl .u (.fn Tryz.call88 rfl) (f_r08_ReadValue_spec a0.fValue.data _ hx14) (fun _ hs => (RX.reads_triv _ _)) rfl ?_
            refine TL.run ft_cursitorref08_ok [4, 5, 6, 7, 8] rfl rfl ?_
            refine TL.nil (X.seq (T.seq (T.seq (T.region rfl ?_))))
            refine TL.run ft_cursitorref08_ok [0, 1] rfl rfl ?_
            by_cases c15 : x13 = 0
            · replace h := ifT c15 h
              refine TL.nil (X.seq ?_)
              refine T.no rfl (bn_f (decide_eq_true c15)) ?_
              refine T.skip (X.seq (T.seq (T.region rfl ?_)))
              refine TL.run ft_cursitorref08_ok [0, 1, 2, 3, 4] rfl rfl ?_
              obtain rfl := Option.some.inj h
              exact TL.nil (X.seq (T.ret (X.done3 [1] Tryz.results71 (RV.tm rfl) (RV.tm rfl) (RV.tm rfl) ⟨rfl, rfl, rfl⟩ (by rfl) (.inl rfl))))
            · replace h := ifF c15 h
              refine TL.nil (X.seq ?_)
              refine T.yes rfl (bn_t (decide_eq_false c15)) ?_
              refine T.seq (T.region rfl ?_)
              refine TL.run ft_cursitorref08_ok [0, 1, 2, 3] rfl rfl ?_
              obtain rfl := Option.some.inj h
              exact TL.nil (X.seq (T.ret (X.rs (X.done3 [1] Tryz.results71 (RV.tm rfl) (RV.tm rfl) (RV.tm rfl) ⟨rfl, rfl, rfl⟩ (by rfl) (.inl rfl)))))
          · replace h := ifF c11 h
            refine TL.nil (X.seq ?_)
            refine T.yes rfl (bn_t (decide_eq_false c11)) ?_
            refine T.seq (T.region rfl ?_)
            refine TL.run ft_cursitorref08_ok [0, 1, 2, 3] rfl rfl ?_
            obtain rfl := Option.some.inj h
            exact TL.nil (X.seq (T.ret (X.rs (X.done3 [1] Tryz.results71 (RV.tm rfl) (RV.tm rfl) (RV.tm rfl) ⟨rfl, rfl, rfl⟩ (by rfl) (.inl rfl)))))
        · replace h := ifF c7 h
          refine TL.nil (X.seq ?_)
          refine T.yes rfl (bn_t (decide_eq_false c7)) ?_
          refine T.seq (T.region rfl ?_)
          refine TL.run ft_cursitorref08_ok [0, 1, 2] rfl rfl ?_
          obtain rfl := Option.some.inj h
          exact TL.nil (X.seq (T.ret (X.rs (X.done3 [1] Tryz.results71 (RV.tm rfl) (RV.tm rfl) (RV.tm rfl) ⟨rfl, rfl, rfl⟩ (by rfl) (.inl rfl)))))
end Go.Proofs.YtlhgogjcaegehaaGreat.Sl
namespace Go.Proofs.YtlhgogjcaegehaaGreat.Sl
open Go.RowKit
set_option linter.unusedVariables false
set_option linter.unusedSimpArgs false
set_option maxRecDepth 100000
def ft_cursitorref11 : FTab := [(30, 0, 0), (30, 1, 1), (30, 2, 2), (30, 3, 3), (30, 4, 4), (30, 5, 5), (30, 6, 6), (30, 7, 7), (30, 8, 8), (30, 9, 9), (30, 10, 10), (30, 11, 11), (90, 0, 0), (90, 1, 1)]
theorem ft_cursitorref11_ok : (ft_cursitorref11).OK Tryz.prog := ⟨FOK.mk Tryz.runUnderlying30 rfl Tryz.sizeOf3 rfl, FOK.mk Tryz.runUnderlying30 rfl Tryz.sizeOf3 rfl, FOK.mk Tryz.runUnderlying30 rfl Tryz.sizeOf4 rfl, FOK.mk Tryz.runUnderlying30 rfl Tryz.sizeOf4 rfl, FOK.mk Tryz.runUnderlying30 rfl Tryz.sizeOf4 rfl, FOK.mk Tryz.runUnderlying30 rfl Tryz.sizeOf3 rfl, FOK.mk Tryz.runUnderlying30 rfl Tryz.sizeOf3 rfl, FOK.mk Tryz.runUnderlying30 rfl Tryz.sizeOf3 rfl, FOK.mk Tryz.runUnderlying30 rfl Tryz.sizeOf3 rfl, FOK.mk Tryz.runUnderlying30 rfl Tryz.sizeOf3 rfl, FOK.mk Tryz.runUnderlying30 rfl Tryz.sizeOf3 rfl, FOK.mk Tryz.runUnderlying30 rfl Tryz.sizeOf28 rfl, FOK.mk Tryz.runUnderlying90 rfl Tryz.sizeOf3 rfl, FOK.mk Tryz.runUnderlying90 rfl Tryz.sizeOf3 rfl, trivial⟩
def nt_cursitorref11 : List Nat := [3, 4, 28]
theorem nt_cursitorref11_ok : NOK Tryz.prog nt_cursitorref11 := ⟨Tryz.isAgg3, Tryz.isAgg4, Tryz.isAgg28, trivial⟩
theorem mix_cursitorref11 : Tryz.prog.follows .mixedOrders = true := by kernel_rfl
def f_r11_int32s (a0 : Int) (a1 : Int) : Option (Bool) := if a0 ≥ a1 then (if a0 ≤ 2147483647 then some true else some false) else some false
set_option maxRecDepth 100000 in
set_option maxHeartbeats 4000000 in
theorem f_r11_int32s_spec (a0 : Int) (a1 : Int) (r : Bool) (h : f_r11_int32s a0 a1 = some r) : SpecX Tryz.prog 68 #[.int .i64 a0, .int .i64 a1] .triv (EmpR) (fun v A' N => v = .bool r ∧ A' = EmpR ∧ N = []) := by
  refine enterA Tryz.func68 rfl Tryz.ntmps68 rfl ?_
  intro F w hX
  unfold f_r11_int32s at h
  refine T.seq (T.region rfl ?_)
  refine TL.run ft_cursitorref11_ok [0] rfl rfl ?_
  refine TL.nil (X.seq (T.seq (T.region rfl ?_)))
  by_cases c1 : a0 ≥ a1
  · replace h := ifT c1 h
    refine TL.run ft_cursitorref11_ok [0, 1, 2, 3] rfl rfl ?_
    refine TL.hv 8 rfl (decide_eq_true c1) ?_
    refine TL.rw ft_cursitorref11_ok 4 rfl ?_
    by_cases c2 : a0 ≤ 2147483647
    · replace h := ifT c2 h
      obtain rfl := Option.some.inj h
      exact TL.nil (X.seq (T.ret (X.done1 [0] Tryz.results68 (RV.tm (v := .bool true) (congrArg (fun b => some (Value.bool b)) (decide_eq_true c2))) ⟨rfl, rfl, rfl⟩ (by rfl) (.inl rfl))))
    · replace h := ifF c2 h
      obtain rfl := Option.some.inj h
      exact TL.nil (X.seq (T.ret (X.done1 [0] Tryz.results68 (RV.tm (v := .bool false) (congrArg (fun b => some (Value.bool b)) (decide_eq_false c2))) ⟨rfl, rfl, rfl⟩ (by rfl) (.inl rfl))))
  · replace h := ifF c1 h
    refine TL.run ft_cursitorref11_ok [0, 1, 2, 3] rfl rfl ?_
    refine TL.hv 8 rfl (decide_eq_false c1) ?_
    refine TL.rw ft_cursitorref11_ok 4 rfl ?_
    obtain rfl := Option.some.inj h
    exact TL.nil (X.seq (T.ret (X.done1 [0] Tryz.results68 (RV.tm rfl) ⟨rfl, rfl, rfl⟩ (by rfl) (.inl rfl))))
def f_r11_producer (a0 : Bat) : Option (Bool) := if a0.fProducer = (-1) then (if a0.fEpoch = (-1) then (if a0.fSequence = (-1) then (if a0.fTxn = true then some false else some true) else some false) else some false) else (if a0.fProducer < 0 then some false else (if a0.fEpoch < 0 then some false else (if a0.fEpoch > 32767 then some false else (if a0.fControl = true then (if a0.fSequence = (-1) then some true else some false) else ((f_r11_int32s a0.fSequence 0).bind fun x13 => some x13)))))
set_option maxRecDepth 100000 in
set_option maxHeartbeats 4000000 in
theorem f_r11_producer_spec (a0 : Bat) (A1 : Option Addr) (c2 : Nat) (r : Bool) (h : f_r11_producer a0 = some r) : SpecX Tryz.prog 69 #[.agg #[.int .i64 a0.fBase, .int .i64 a0.fLeader, .bool a0.fAppend, .bool a0.fTxn, .bool a0.fControl, .int .i64 a0.fLast, .int .i64 a0.fFirst, .int .i64 a0.fMax, .int .i64 a0.fProducer, .int .i64 a0.fEpoch, .int .i64 a0.fSequence, .slice A1 a0.fRecords.length c2]] (RX.of (sliceRd 7 Rec_rd) [.slice A1 a0.fRecords.length c2] a0.fRecords) (EmpR) (fun v A' N => v = .bool r ∧ A' = EmpR ∧ N = []) := by
  refine enterA Tryz.func69 rfl Tryz.ntmps69 rfl ?_
  intro F w hX
  unfold f_r11_producer at h
  refine T.seq (T.region rfl ?_)
  refine TL.box rfl .u rfl rfl (fun b3 => ?_)
  refine TL.run ft_cursitorref11_ok [1] rfl rfl ?_
  refine TL.nil (X.seq (T.seq (T.seq (T.region rfl ?_))))
  refine TL.rb ft_cursitorref11_ok nt_cursitorref11_ok 0 rfl 3 rfl rfl ?_
  by_cases c4 : a0.fProducer = (-1)
  · replace h := ifT c4 h
    refine TL.nil (X.seq ?_)
    refine T.yes rfl (decide_eq_true c4) ?_
    refine T.seq (T.region rfl ?_)
    by_cases c5 : a0.fEpoch = (-1)
    · replace h := ifT c5 h
      refine TL.rb ft_cursitorref11_ok nt_cursitorref11_ok 0 rfl 4 rfl rfl ?_
      refine TL.hv 9 rfl (decide_eq_true c5) ?_
      by_cases c6 : a0.fSequence = (-1)
      · replace h := ifT c6 h
        refine TL.rb ft_cursitorref11_ok nt_cursitorref11_ok 0 rfl 5 rfl rfl ?_
        refine TL.hv 14 rfl (decide_eq_true c6) ?_
        refine TL.rb ft_cursitorref11_ok nt_cursitorref11_ok 0 rfl 5 rfl rfl ?_
        by_cases c7 : a0.fTxn = true
        · replace h := ifT c7 h
          obtain rfl := Option.some.inj h
          exact TL.nil (X.seq (T.ret (X.rs (X.done1 [1] Tryz.results69 (RV.tm (v := .bool false) (congrArg (fun b => some (Value.bool b)) (bn_f c7))) ⟨rfl, rfl, rfl⟩ (by rfl) (.inl rfl)))))
        · replace h := ifF c7 h
          replace c7 := eq_false_of_ne_true c7
          obtain rfl := Option.some.inj h
          exact TL.nil (X.seq (T.ret (X.rs (X.done1 [1] Tryz.results69 (RV.tm (v := .bool true) (congrArg (fun b => some (Value.bool b)) (bn_t c7))) ⟨rfl, rfl, rfl⟩ (by rfl) (.inl rfl)))))
      · replace h := ifF c6 h
        refine TL.rb ft_cursitorref11_ok nt_cursitorref11_ok 0 rfl 5 rfl rfl ?_
        refine TL.hv 14 rfl (decide_eq_false c6) ?_
        refine TL.rw ft_cursitorref11_ok 5 rfl ?_
        obtain rfl := Option.some.inj h
        exact TL.nil (X.seq (T.ret (X.rs (X.done1 [1] Tryz.results69 (RV.tm rfl) ⟨rfl, rfl, rfl⟩ (by rfl) (.inl rfl)))))
    · replace h := ifF c5 h
      refine TL.rb ft_cursitorref11_ok nt_cursitorref11_ok 0 rfl 4 rfl rfl ?_
      refine TL.hv 9 rfl (decide_eq_false c5) ?_
      refine TL.rw ft_cursitorref11_ok 10 rfl ?_
      obtain rfl := Option.some.inj h
      exact TL.nil (X.seq (T.ret (X.rs (X.done1 [1] Tryz.results69 (RV.tm rfl) ⟨rfl, rfl, rfl⟩ (by rfl) (.inl rfl)))))
  · replace h := ifF c4 h
    refine TL.nil (X.seq ?_)
    refine T.no rfl (decide_eq_false c4) ?_
    refine T.skip (X.seq (T.seq (T.seq (T.region rfl ?_))))
    by_cases c8 : a0.fProducer < 0
    · replace h := ifT c8 h
      refine TL.rb ft_cursitorref11_ok nt_cursitorref11_ok 0 rfl 4 rfl rfl ?_
      refine TL.hv 22 rfl (decide_eq_true c8) ?_
      refine TL.rw ft_cursitorref11_ok 9 rfl ?_
      refine TL.nil (X.seq ?_)
      refine T.yes rfl rfl ?_
      refine T.seq (T.region rfl ?_)
      refine TL.run ft_cursitorref11_ok [0] rfl rfl ?_
      obtain rfl := Option.some.inj h
      exact TL.nil (X.seq (T.ret (X.rs (X.done1 [1] Tryz.results69 (RV.tm rfl) ⟨rfl, rfl, rfl⟩ (by rfl) (.inl rfl)))))
    · replace h := ifF c8 h
      refine TL.rb ft_cursitorref11_ok nt_cursitorref11_ok 0 rfl 4 rfl rfl ?_
      refine TL.hv 22 rfl (decide_eq_false c8) ?_
      by_cases c9 : a0.fEpoch < 0
      · replace h := ifT c9 h
        refine TL.rb ft_cursitorref11_ok nt_cursitorref11_ok 0 rfl 5 rfl rfl ?_
        refine TL.hv 27 rfl (decide_eq_true c9) ?_
        refine TL.rw ft_cursitorref11_ok 4 rfl ?_
        refine TL.nil (X.seq ?_)
        refine T.yes rfl rfl ?_
        refine T.seq (T.region rfl ?_)
        refine TL.run ft_cursitorref11_ok [0] rfl rfl ?_
        obtain rfl := Option.some.inj h
        exact TL.nil (X.seq (T.ret (X.rs (X.done1 [1] Tryz.results69 (RV.tm rfl) ⟨rfl, rfl, rfl⟩ (by rfl) (.inl rfl)))))
      · replace h := ifF c9 h
        refine TL.rb ft_cursitorref11_ok nt_cursitorref11_ok 0 rfl 5 rfl rfl ?_
        refine TL.hv 27 rfl (decide_eq_false c9) ?_
        refine TL.rb ft_cursitorref11_ok nt_cursitorref11_ok 0 rfl 4 rfl rfl ?_
        by_cases c10 : a0.fEpoch > 32767
        · replace h := ifT c10 h
          refine TL.nil (X.seq ?_)
          refine T.yes rfl (decide_eq_true c10) ?_
          refine T.seq (T.region rfl ?_)
          refine TL.run ft_cursitorref11_ok [0] rfl rfl ?_
          obtain rfl := Option.some.inj h
          exact TL.nil (X.seq (T.ret (X.rs (X.done1 [1] Tryz.results69 (RV.tm rfl) ⟨rfl, rfl, rfl⟩ (by rfl) (.inl rfl)))))
        · replace h := ifF c10 h
          refine TL.nil (X.seq ?_)
          refine T.no rfl (decide_eq_false c10) ?_
          refine T.skip (X.seq (T.seq (T.seq (T.region rfl ?_))))
          refine TL.rb ft_cursitorref11_ok nt_cursitorref11_ok 0 rfl 2 rfl rfl ?_
          by_cases c11 : a0.fControl = true
          · replace h := ifT c11 h
            refine TL.nil (X.seq ?_)
            refine T.yes rfl c11 ?_
            refine T.seq (T.region rfl ?_)
            refine TL.rb ft_cursitorref11_ok nt_cursitorref11_ok 0 rfl 4 rfl rfl ?_
            by_cases c12 : a0.fSequence = (-1)
            · replace h := ifT c12 h
              obtain rfl := Option.some.inj h
              exact TL.nil (X.seq (T.ret (X.rs (X.done1 [1] Tryz.results69 (RV.tm (v := .bool true) (congrArg (fun b => some (Value.bool b)) (decide_eq_true c12))) ⟨rfl, rfl, rfl⟩ (by rfl) (.inl rfl)))))
            · replace h := ifF c12 h
              obtain rfl := Option.some.inj h
              exact TL.nil (X.seq (T.ret (X.rs (X.done1 [1] Tryz.results69 (RV.tm (v := .bool false) (congrArg (fun b => some (Value.bool b)) (decide_eq_false c12))) ⟨rfl, rfl, rfl⟩ (by rfl) (.inl rfl)))))
          · replace h := ifF c11 h
            replace c11 := eq_false_of_ne_true c11
            refine TL.nil (X.seq ?_)
            refine T.no rfl c11 ?_
            refine T.skip (X.seq (T.seq (T.region rfl ?_)))
            obtain ⟨x13, hx14, h⟩ := Option.bind_eq_some_iff.1 h
            refine TL.rb ft_cursitorref11_ok nt_cursitorref11_ok 0 rfl 2 rfl rfl ?_
            refine TL.ce rfl .u (.fn Tryz.call68 rfl) (f_r11_int32s_spec a0.fSequence 0 _ hx14) (fun _ hs => (RX.reads_triv _ _)) rfl ?_
            refine TL.run ft_cursitorref11_ok [3] rfl rfl ?_
            obtain rfl := Option.some.inj h
            exact TL.nil (X.seq (T.ret (X.done1 [1] Tryz.results69 (RV.tm rfl) ⟨rfl, rfl, rfl⟩ (by rfl) (.inl rfl))))
def f_r11_times_l1 (a0 : Bat) : Nat → Int → Int → Nat → Option (Lp Int (Int × Int × Nat))
  | 0, _, _, _ => none
  | m10 + 1, y4, y5, k6 => if (k6 : Int) < (a0.fRecords.length : Int) then ((a0.fRecords[k6]?).bind fun x15 => if -9223372036854775808 ≤ (9223372036854775807 - a0.fFirst) ∧ (9223372036854775807 - a0.fFirst) ≤ 9223372036854775807 then (if x15.fTime > (9223372036854775807 - a0.fFirst) then (some (Lp.ret (-1))) else (if -9223372036854775808 ≤ (-a0.fFirst) ∧ (-a0.fFirst) ≤ 9223372036854775807 then (if x15.fTime < (-a0.fFirst) then (some (Lp.ret (-1))) else (if -9223372036854775808 ≤ (a0.fFirst + x15.fTime) ∧ (a0.fFirst + x15.fTime) ≤ 9223372036854775807 then (if (a0.fFirst + x15.fTime) > y5 then (if -9223372036854775808 ≤ (a0.fFirst + x15.fTime) ∧ (a0.fFirst + x15.fTime) ≤ 9223372036854775807 then (if -9223372036854775808 ≤ ((k6 : Int) + 1) ∧ ((k6 : Int) + 1) ≤ 9223372036854775807 then (f_r11_times_l1 a0 m10 y4 (a0.fFirst + x15.fTime) (k6 + 1)) else none) else none) else (if -9223372036854775808 ≤ ((k6 : Int) + 1) ∧ ((k6 : Int) + 1) ≤ 9223372036854775807 then (f_r11_times_l1 a0 m10 y4 y5 (k6 + 1)) else none)) else none)) else none)) else none) else (some (Lp.go (y4, y5, k6)))
def f_r11_times (a0 : Bat) : Option (Int) := (f_r11_times_l1 a0 (((a0.fRecords.length : Int)).toNat + 1) 0 a0.fFirst 0).bind fun e => match e with | .ret r => some r | .go (y30, y31, k32) => some y31
set_option maxRecDepth 100000 in
set_option maxHeartbeats 4000000 in
theorem f_r11_times_spec (a0 : Bat) (A1 : Option Addr) (c2 : Nat) (r : Int) (h : f_r11_times a0 = some r) : SpecX Tryz.prog 89 #[.agg #[.int .i64 a0.fBase, .int .i64 a0.fLeader, .bool a0.fAppend, .bool a0.fTxn, .bool a0.fControl, .int .i64 a0.fLast, .int .i64 a0.fFirst, .int .i64 a0.fMax, .int .i64 a0.fProducer, .int .i64 a0.fEpoch, .int .i64 a0.fSequence, .slice A1 a0.fRecords.length c2]] (RX.of (sliceRd 7 Rec_rd) [.slice A1 a0.fRecords.length c2] a0.fRecords) (EmpR) (fun v A' N => v = .int .i64 r ∧ A' = EmpR ∧ N = []) := by
  refine enterA Tryz.func89 rfl Tryz.ntmps89 rfl ?_
  intro F w hX
  unfold f_r11_times at h
  refine T.seq (T.region rfl ?_)
  refine TL.box rfl .u rfl rfl (fun b3 => ?_)
  refine TL.run ft_cursitorref11_ok [1] rfl rfl ?_
  refine TL.nil (X.seq (T.seq (T.region rfl ?_)))
  refine TL.rb ft_cursitorref11_ok nt_cursitorref11_ok 0 rfl 3 rfl rfl ?_
  refine TL.nil (X.seq (T.seq (T.seq (T.region rfl ?_))))
  refine TL.run ft_cursitorref11_ok [0] rfl rfl ?_
  refine TL.nil (X.seq (T.block ?_))
  obtain ⟨E7, hE8, hO9⟩ := Option.bind_eq_some_iff.1 h
  refine T.lp (fun m e Rs => ∃ (y4 : Int) (y5 : Int) (k6 : Nat), e = [(1, .pointer (some ⟨b3, 0, none⟩)), (2, .int .i64 y4), (3, .int .i64 y5), (4, .int .i64 (k6 : Int))] ∧ Rs = [BlkR b3 30 #[.int .i64 a0.fBase, .int .i64 a0.fLeader, .bool a0.fAppend, .bool a0.fTxn, .bool a0.fControl, .int .i64 a0.fLast, .int .i64 a0.fFirst, .int .i64 a0.fMax, .int .i64 a0.fProducer, .int .i64 a0.fEpoch, .int .i64 a0.fSequence, .slice A1 a0.fRecords.length c2], EmpR] ∧ f_r11_times_l1 a0 m y4 y5 k6 = some E7) (((a0.fRecords.length : Int)).toNat + 1) [0, 0] ⟨0, a0.fFirst, 0, rfl, rfl, by exact hE8⟩ (by rfl) (by rfl) ?_
  rintro m10 _ _ ⟨y4, y5, k6, rfl, rfl, hl12⟩
  clear hE8 h
  cases m10 with
  | zero =>
    rw [f_r11_times_l1] at hl12
    cases hl12
  | succ m10 =>
    have h := hl12
    clear hl12
    rw [f_r11_times_l1] at h
    refine T.seq (T.seq (T.region rfl ?_))
    refine TL.rb ft_cursitorref11_ok nt_cursitorref11_ok 0 rfl 3 rfl rfl ?_
    refine TL.q rfl .u (Ex.lenS rfl Tryz.runUnderlying28) rfl ?_
    refine TL.run ft_cursitorref11_ok [4] rfl rfl ?_
    by_cases c14 : (k6 : Int) < (a0.fRecords.length : Int)
    · replace h := ifT c14 h
      refine TL.nil (X.seq ?_)
      refine T.yes rfl (decide_eq_true c14) ?_
      refine T.skip (X.seq (T.seq (T.block (T.seq (T.region rfl ?_)))))
      obtain ⟨x15, hx16, h⟩ := Option.bind_eq_some_iff.1 h
      obtain ⟨gz17, oz17, rfl, z17cs, z17cl, z17cc, z17nf, z17r⟩ := RX.elem (by decide) hX hx16
      obtain ⟨z17S, z17r, z17rr⟩ := z17r
      obtain ⟨A18, c19, rfl, z17s0⟩ := z17r
      have hX20 : (RX.of (sliceRd 3 Hd_rd) [.slice A18 x15.fHeaders.length c19] x15.fHeaders).reads w F := ⟨z17S, z17s0, z17rr⟩
      refine TL.rb ft_cursitorref11_ok nt_cursitorref11_ok 0 rfl 3 rfl rfl ?_
      refine TL.q rfl .u (Ex.ixS (k := k6) rfl rfl rfl Tryz.runUnderlying28 Tryz.sizeOf90 (List.getElem?_eq_some_iff.1 hx16).1) rfl ?_
      refine TL.run ft_cursitorref11_ok [4] rfl rfl ?_
      refine TL.q rfl .u (Ex.o1 0 rfl Tryz.isAgg3 z17nf z17cc rfl rfl) rfl ?_
      refine TL.run ft_cursitorref11_ok [6] rfl rfl ?_
      refine TL.nil (X.seq (T.seq (T.seq (T.region rfl ?_))))
      replace h := guard_some h
      obtain ⟨c21, h⟩ := h
      refine TL.rb ft_cursitorref11_ok nt_cursitorref11_ok 0 rfl 3 rfl rfl ?_
      refine TL.q rfl .u (Ex.sub rfl rfl c21) rfl ?_
      by_cases c22 : x15.fTime > (9223372036854775807 - a0.fFirst)
      · replace h := ifT c22 h
        refine TL.run ft_cursitorref11_ok [4, 5] rfl rfl ?_
        refine TL.hv 26 rfl (decide_eq_true c22) ?_
        refine TL.rw ft_cursitorref11_ok 6 rfl ?_
        refine TL.nil (X.seq ?_)
        refine T.yes rfl rfl ?_
        refine T.seq (T.region rfl ?_)
        refine TL.run ft_cursitorref11_ok [0] rfl rfl ?_
        obtain rfl := Option.some.inj h
        replace h := hO9
        clear hO9
        try dsimp only at h
        obtain rfl := Option.some.inj h
        exact TL.nil (X.seq (T.ret (X.rs (X.rb (X.rs (X.rs (X.rb (X.rs (X.done1 [1] Tryz.results89 (RV.tm rfl) ⟨rfl, rfl, rfl⟩ (by rfl) (.inl rfl))))))))))
      · replace h := ifF c22 h
        refine TL.run ft_cursitorref11_ok [4, 5] rfl rfl ?_
        refine TL.hv 26 rfl (decide_eq_false c22) ?_
        replace h := guard_some h
        obtain ⟨c23, h⟩ := h
        refine TL.rb ft_cursitorref11_ok nt_cursitorref11_ok 0 rfl 3 rfl rfl ?_
        refine TL.q rfl (.g rfl rfl rfl) (Ex.neg rfl c23) rfl ?_
        refine TL.rw ft_cursitorref11_ok 2 rfl ?_
        by_cases c24 : x15.fTime < (-a0.fFirst)
        · replace h := ifT c24 h
          refine TL.nil (X.seq ?_)
          refine T.yes rfl (decide_eq_true c24) ?_
          refine T.seq (T.region rfl ?_)
          refine TL.run ft_cursitorref11_ok [0] rfl rfl ?_
          obtain rfl := Option.some.inj h
          replace h := hO9
          clear hO9
          try dsimp only at h
          obtain rfl := Option.some.inj h
          exact TL.nil (X.seq (T.ret (X.rs (X.rb (X.rs (X.rs (X.rb (X.rs (X.done1 [1] Tryz.results89 (RV.tm rfl) ⟨rfl, rfl, rfl⟩ (by rfl) (.inl rfl))))))))))
        · replace h := ifF c24 h
          refine TL.nil (X.seq ?_)
          refine T.no rfl (decide_eq_false c24) ?_
          refine T.skip (X.seq (T.seq (T.region rfl ?_)))
          replace h := guard_some h
          obtain ⟨c25, h⟩ := h
          refine TL.rb ft_cursitorref11_ok nt_cursitorref11_ok 0 rfl 3 rfl rfl ?_
          refine TL.q rfl .u (Ex.add rfl rfl c25) rfl ?_
          refine TL.run ft_cursitorref11_ok [4, 5] rfl rfl ?_
          by_cases c26 : (a0.fFirst + x15.fTime) > y5
          · replace h := ifT c26 h
            refine TL.nil (X.seq ?_)
            refine T.yes rfl (decide_eq_true c26) ?_
            refine T.region rfl ?_
            replace h := guard_some h
            obtain ⟨c27, h⟩ := h
            refine TL.rb ft_cursitorref11_ok nt_cursitorref11_ok 0 rfl 3 rfl rfl ?_
            refine TL.q rfl .u (Ex.add rfl rfl c27) rfl ?_
            refine TL.run ft_cursitorref11_ok [4] rfl rfl ?_
            refine TL.nil (X.blk (X.seq (T.region rfl ?_)))
            replace h := guard_some h
            obtain ⟨c28, h⟩ := h
            refine TL.run ft_cursitorref11_ok [0] rfl rfl ?_
            refine TL.q rfl .u (Ex.add rfl rfl c28) rfl ?_
            refine TL.run ft_cursitorref11_ok [2] rfl rfl ?_
            exact TL.nil (X.back (m' := m10) [0, 0] (by omega) ⟨y4, (a0.fFirst + x15.fTime), k6 + 1, rfl, rfl, h⟩ (by rfl) (by rfl))
          · replace h := ifF c26 h
            refine TL.nil (X.seq ?_)
            refine T.no rfl (decide_eq_false c26) ?_
            refine T.skip (X.blk (X.seq (T.region rfl ?_)))
            replace h := guard_some h
            obtain ⟨c29, h⟩ := h
            refine TL.run ft_cursitorref11_ok [0] rfl rfl ?_
            refine TL.q rfl .u (Ex.add rfl rfl c29) rfl ?_
            refine TL.run ft_cursitorref11_ok [2] rfl rfl ?_
            exact TL.nil (X.back (m' := m10) [0, 0] (by omega) ⟨y4, y5, k6 + 1, rfl, rfl, h⟩ (by rfl) (by rfl))
    · replace h := ifF c14 h
      refine TL.nil (X.seq ?_)
      refine T.no rfl (decide_eq_false c14) ?_
      obtain rfl := Option.some.inj h
      replace h := hO9
      clear hO9
      try dsimp only at h
      refine T.exit (X.exs (X.exs (X.ex (X.seq (T.seq (T.region rfl ?_))))))
      refine TL.run ft_cursitorref11_ok [0, 1] rfl rfl ?_
      obtain rfl := Option.some.inj h
      exact TL.nil (X.seq (T.ret (X.done1 [1] Tryz.results89 (RV.tm rfl) ⟨rfl, rfl, rfl⟩ (by rfl) (.inl rfl))))
def f_r11_orders_l1 (a0 : Bat) : Nat → Int → Nat → Option (Lp Int (Int × Nat))
  | 0, _, _ => none
  | m9 + 1, y4, k5 => if (k5 : Int) < (a0.fRecords.length : Int) then ((a0.fRecords[k5]?).bind fun x14 => if x14.fOffset > a0.fLast then some (Lp.ret 13) else (if (k5 : Int) > 0 then (if -9223372036854775808 ≤ ((k5 : Int) - 1) ∧ ((k5 : Int) - 1) ≤ 9223372036854775807 then (if 0 ≤ ((k5 : Int) - 1) then ((a0.fRecords[((k5 : Int) - 1).toNat]?).bind fun x24 => if x14.fOffset ≤ x24.fOffset then some (Lp.ret 13) else (if x14.fOffset < 0 then some (Lp.ret 13) else (if -9223372036854775808 ≤ (9223372036854775807 - a0.fFirst) ∧ (9223372036854775807 - a0.fFirst) ≤ 9223372036854775807 then (if x14.fTime > (9223372036854775807 - a0.fFirst) then some (Lp.ret 11) else (if -9223372036854775808 ≤ (-a0.fFirst) ∧ (-a0.fFirst) ≤ 9223372036854775807 then (if x14.fTime < (-a0.fFirst) then some (Lp.ret 11) else (if -9223372036854775808 ≤ ((k5 : Int) + 1) ∧ ((k5 : Int) + 1) ≤ 9223372036854775807 then (f_r11_orders_l1 a0 m9 y4 (k5 + 1)) else none)) else none)) else none))) else none) else none) else (if x14.fOffset < 0 then some (Lp.ret 13) else (if -9223372036854775808 ≤ (9223372036854775807 - a0.fFirst) ∧ (9223372036854775807 - a0.fFirst) ≤ 9223372036854775807 then (if x14.fTime > (9223372036854775807 - a0.fFirst) then some (Lp.ret 11) else (if -9223372036854775808 ≤ (-a0.fFirst) ∧ (-a0.fFirst) ≤ 9223372036854775807 then (if x14.fTime < (-a0.fFirst) then some (Lp.ret 11) else (if -9223372036854775808 ≤ ((k5 : Int) + 1) ∧ ((k5 : Int) + 1) ≤ 9223372036854775807 then (f_r11_orders_l1 a0 m9 y4 (k5 + 1)) else none)) else none)) else none)))) else (some (Lp.go (y4, k5)))
def f_r11_orders (a0 : Bat) : Option (Int) := (f_r11_orders_l1 a0 (((a0.fRecords.length : Int)).toNat + 1) 0 0).bind fun e => match e with | .ret r => some r | .go (y47, k48) => (if a0.fAppend = true then some 0 else ((f_r11_times a0).bind fun x50 => if x50 = a0.fMax then some 0 else some 11))
set_option maxRecDepth 100000 in
set_option maxHeartbeats 4000000 in
theorem f_r11_orders_spec (a0 : Bat) (A1 : Option Addr) (c2 : Nat) (r : Int) (h : f_r11_orders a0 = some r) : SpecX Tryz.prog 72 #[.agg #[.int .i64 a0.fBase, .int .i64 a0.fLeader, .bool a0.fAppend, .bool a0.fTxn, .bool a0.fControl, .int .i64 a0.fLast, .int .i64 a0.fFirst, .int .i64 a0.fMax, .int .i64 a0.fProducer, .int .i64 a0.fEpoch, .int .i64 a0.fSequence, .slice A1 a0.fRecords.length c2]] (RX.of (sliceRd 7 Rec_rd) [.slice A1 a0.fRecords.length c2] a0.fRecords) (EmpR) (fun v A' N => v = .int .i64 r ∧ A' = EmpR ∧ N = []) := by
  refine enterA Tryz.func72 rfl Tryz.ntmps72 rfl ?_
  intro F w hX
  unfold f_r11_orders at h
  refine T.seq (T.region rfl ?_)
  refine TL.box rfl .u rfl rfl (fun b3 => ?_)
  refine TL.run ft_cursitorref11_ok [1] rfl rfl ?_
  refine TL.nil (X.seq (T.seq (T.seq (T.region rfl ?_))))
  refine TL.run ft_cursitorref11_ok [0] rfl rfl ?_
  refine TL.nil (X.seq (T.block ?_))
  obtain ⟨E6, hE7, hO8⟩ := Option.bind_eq_some_iff.1 h
  refine T.lp (fun m e Rs => ∃ (y4 : Int) (k5 : Nat), e = [(1, .pointer (some ⟨b3, 0, none⟩)), (2, .int .i64 y4), (3, .int .i64 (k5 : Int))] ∧ Rs = [BlkR b3 30 #[.int .i64 a0.fBase, .int .i64 a0.fLeader, .bool a0.fAppend, .bool a0.fTxn, .bool a0.fControl, .int .i64 a0.fLast, .int .i64 a0.fFirst, .int .i64 a0.fMax, .int .i64 a0.fProducer, .int .i64 a0.fEpoch, .int .i64 a0.fSequence, .slice A1 a0.fRecords.length c2], EmpR] ∧ f_r11_orders_l1 a0 m y4 k5 = some E6) (((a0.fRecords.length : Int)).toNat + 1) [0, 0] ⟨0, 0, rfl, rfl, by exact hE7⟩ (by rfl) (by rfl) ?_
  rintro m9 _ _ ⟨y4, k5, rfl, rfl, hl11⟩
  clear hE7 h
  cases m9 with
  | zero =>
    rw [f_r11_orders_l1] at hl11
    cases hl11
  | succ m9 =>
    have h := hl11
    clear hl11
    rw [f_r11_orders_l1] at h
    refine T.seq (T.seq (T.region rfl ?_))
    refine TL.rb ft_cursitorref11_ok nt_cursitorref11_ok 0 rfl 3 rfl rfl ?_
    refine TL.q rfl .u (Ex.lenS rfl Tryz.runUnderlying28) rfl ?_
    refine TL.run ft_cursitorref11_ok [4] rfl rfl ?_
    by_cases c13 : (k5 : Int) < (a0.fRecords.length : Int)
    · replace h := ifT c13 h
      refine TL.nil (X.seq ?_)
      refine T.yes rfl (decide_eq_true c13) ?_
      refine T.skip (X.seq (T.seq (T.block (T.seq (T.region rfl ?_)))))
      obtain ⟨x14, hx15, h⟩ := Option.bind_eq_some_iff.1 h
      obtain ⟨gz16, oz16, rfl, z16cs, z16cl, z16cc, z16nf, z16r⟩ := RX.elem (by decide) hX hx15
      obtain ⟨z16S, z16r, z16rr⟩ := z16r
      obtain ⟨A17, c18, rfl, z16s0⟩ := z16r
      have hX19 : (RX.of (sliceRd 3 Hd_rd) [.slice A17 x14.fHeaders.length c18] x14.fHeaders).reads w F := ⟨z16S, z16s0, z16rr⟩
      refine TL.rb ft_cursitorref11_ok nt_cursitorref11_ok 0 rfl 3 rfl rfl ?_
      refine TL.q rfl .u (Ex.ixS (k := k5) rfl rfl rfl Tryz.runUnderlying28 Tryz.sizeOf90 (List.getElem?_eq_some_iff.1 hx15).1) rfl ?_
      refine TL.run ft_cursitorref11_ok [4] rfl rfl ?_
      refine TL.q rfl .u (Ex.o1 1 rfl Tryz.isAgg3 z16nf z16cc rfl rfl) rfl ?_
      refine TL.run ft_cursitorref11_ok [6] rfl rfl ?_
      refine TL.nil (X.seq (T.seq (T.seq (T.region rfl ?_))))
      by_cases c20 : x14.fOffset > a0.fLast
      · replace h := ifT c20 h
        refine TL.rb ft_cursitorref11_ok nt_cursitorref11_ok 0 rfl 5 rfl rfl ?_
        refine TL.hv 23 rfl (decide_eq_true c20) ?_
        refine TL.rw ft_cursitorref11_ok 18 rfl ?_
        refine TL.nil (X.seq ?_)
        refine T.yes rfl rfl ?_
        refine T.seq (T.region rfl ?_)
        refine TL.run ft_cursitorref11_ok [0] rfl rfl ?_
        obtain rfl := Option.some.inj h
        replace h := hO8
        clear hO8
        try dsimp only at h
        obtain rfl := Option.some.inj h
        exact TL.nil (X.seq (T.ret (X.rs (X.rb (X.rs (X.rs (X.rb (X.rs (X.done1 [1] Tryz.results72 (RV.tm rfl) ⟨rfl, rfl, rfl⟩ (by rfl) (.inl rfl))))))))))
      · replace h := ifF c20 h
        refine TL.rb ft_cursitorref11_ok nt_cursitorref11_ok 0 rfl 5 rfl rfl ?_
        refine TL.hv 23 rfl (decide_eq_false c20) ?_
        by_cases c21 : (k5 : Int) > 0
        · replace h := ifT c21 h
          refine TL.rw ft_cursitorref11_ok 3 rfl ?_
          refine TL.hv 26 rfl (decide_eq_true c21) ?_
          replace h := guard_some h
          obtain ⟨c22, h⟩ := h
          refine TL.rb ft_cursitorref11_ok nt_cursitorref11_ok 0 rfl 4 rfl rfl ?_
          refine TL.q rfl (.g rfl rfl rfl) (Ex.sub rfl rfl c22) rfl ?_
          replace h := guard_some h
          obtain ⟨c23, h⟩ := h
          obtain ⟨x24, hx25, h⟩ := Option.bind_eq_some_iff.1 h
          obtain ⟨z26cs, z26cl, z26cc, z26nf, z26r⟩ := RX.elem' (by decide) hX hx25
          obtain ⟨z26S, z26r, z26rr⟩ := z26r
          obtain ⟨A27, c28, rfl, z26s0⟩ := z26r
          have hX29 : (RX.of (sliceRd 3 Hd_rd) [.slice A27 x24.fHeaders.length c28] x24.fHeaders).reads w F := ⟨z26S, z26s0, z26rr⟩
          refine TL.q rfl (.g rfl rfl rfl) (Ex.ixS (k := ((k5 : Int) - 1).toNat) rfl rfl ((Int.toNat_of_nonneg c23).symm) Tryz.runUnderlying28 Tryz.sizeOf90 (List.getElem?_eq_some_iff.1 hx25).1) rfl ?_
          refine TL.rw ft_cursitorref11_ok 1 rfl ?_
          refine TL.q rfl (.g rfl rfl rfl) (Ex.o1 1 rfl Tryz.isAgg3 z26nf z26cc rfl rfl) rfl ?_
          by_cases c30 : x14.fOffset ≤ x24.fOffset
          · replace h := ifT c30 h
            refine TL.rw ft_cursitorref11_ok 4 rfl ?_
            refine TL.hv 38 rfl (decide_eq_true c30) ?_
            refine TL.rw ft_cursitorref11_ok 3 rfl ?_
            refine TL.nil (X.seq ?_)
            refine T.yes rfl rfl ?_
            refine T.seq (T.region rfl ?_)
            refine TL.run ft_cursitorref11_ok [0] rfl rfl ?_
            obtain rfl := Option.some.inj h
            replace h := hO8
            clear hO8
            try dsimp only at h
            obtain rfl := Option.some.inj h
            exact TL.nil (X.seq (T.ret (X.rs (X.rb (X.rs (X.rs (X.rb (X.rs (X.done1 [1] Tryz.results72 (RV.tm rfl) ⟨rfl, rfl, rfl⟩ (by rfl) (.inl rfl))))))))))
          · replace h := ifF c30 h
            refine TL.rw ft_cursitorref11_ok 4 rfl ?_
            refine TL.hv 38 rfl (decide_eq_false c30) ?_
            refine TL.rw ft_cursitorref11_ok 3 rfl ?_
            by_cases c31 : x14.fOffset < 0
            · replace h := ifT c31 h
              refine TL.nil (X.seq ?_)
              refine T.yes rfl (decide_eq_true c31) ?_
              refine T.seq (T.region rfl ?_)
              refine TL.run ft_cursitorref11_ok [0] rfl rfl ?_
              obtain rfl := Option.some.inj h
              replace h := hO8
              clear hO8
              try dsimp only at h
              obtain rfl := Option.some.inj h
              exact TL.nil (X.seq (T.ret (X.rs (X.rb (X.rs (X.rs (X.rb (X.rs (X.done1 [1] Tryz.results72 (RV.tm rfl) ⟨rfl, rfl, rfl⟩ (by rfl) (.inl rfl))))))))))
            · replace h := ifF c31 h
              refine TL.nil (X.seq ?_)
              refine T.no rfl (decide_eq_false c31) ?_
              refine T.skip (X.seq (T.seq (T.region rfl ?_)))
              refine TL.rb ft_cursitorref11_ok nt_cursitorref11_ok 0 rfl 3 rfl rfl ?_
              refine TL.q rfl .u (Ex.ixS (k := k5) rfl rfl rfl Tryz.runUnderlying28 Tryz.sizeOf90 (List.getElem?_eq_some_iff.1 hx15).1) rfl ?_
              refine TL.run ft_cursitorref11_ok [4] rfl rfl ?_
              refine TL.q rfl .u (Ex.o1 0 rfl Tryz.isAgg3 z16nf z16cc rfl rfl) rfl ?_
              refine TL.run ft_cursitorref11_ok [6] rfl rfl ?_
              refine TL.nil (X.seq (T.seq (T.region rfl ?_)))
              replace h := guard_some h
              obtain ⟨c32, h⟩ := h
              refine TL.rb ft_cursitorref11_ok nt_cursitorref11_ok 0 rfl 3 rfl rfl ?_
              refine TL.q rfl .u (Ex.sub rfl rfl c32) rfl ?_
              by_cases c33 : x14.fTime > (9223372036854775807 - a0.fFirst)
              · replace h := ifT c33 h
                refine TL.run ft_cursitorref11_ok [4, 5] rfl rfl ?_
                refine TL.hv 53 rfl (decide_eq_true c33) ?_
                refine TL.rw ft_cursitorref11_ok 6 rfl ?_
                refine TL.nil (X.seq ?_)
                refine T.yes rfl rfl ?_
                refine T.seq (T.region rfl ?_)
                refine TL.run ft_cursitorref11_ok [0] rfl rfl ?_
                obtain rfl := Option.some.inj h
                replace h := hO8
                clear hO8
                try dsimp only at h
                obtain rfl := Option.some.inj h
                exact TL.nil (X.seq (T.ret (X.rb (X.rs (X.rs (X.rb (X.rs (X.done1 [1] Tryz.results72 (RV.tm rfl) ⟨rfl, rfl, rfl⟩ (by rfl) (.inl rfl)))))))))
              · replace h := ifF c33 h
                refine TL.run ft_cursitorref11_ok [4, 5] rfl rfl ?_
                refine TL.hv 53 rfl (decide_eq_false c33) ?_
                replace h := guard_some h
                obtain ⟨c34, h⟩ := h
                refine TL.rb ft_cursitorref11_ok nt_cursitorref11_ok 0 rfl 3 rfl rfl ?_
                refine TL.q rfl (.g rfl rfl rfl) (Ex.neg rfl c34) rfl ?_
                refine TL.rw ft_cursitorref11_ok 2 rfl ?_
                by_cases c35 : x14.fTime < (-a0.fFirst)
                · replace h := ifT c35 h
                  refine TL.nil (X.seq ?_)
                  refine T.yes rfl (decide_eq_true c35) ?_
                  refine T.seq (T.region rfl ?_)
                  refine TL.run ft_cursitorref11_ok [0] rfl rfl ?_
                  obtain rfl := Option.some.inj h
                  replace h := hO8
                  clear hO8
                  try dsimp only at h
                  obtain rfl := Option.some.inj h
                  exact TL.nil (X.seq (T.ret (X.rb (X.rs (X.rs (X.rb (X.rs (X.done1 [1] Tryz.results72 (RV.tm rfl) ⟨rfl, rfl, rfl⟩ (by rfl) (.inl rfl)))))))))
                · replace h := ifF c35 h
                  refine TL.nil (X.seq ?_)
                  refine T.no rfl (decide_eq_false c35) ?_
                  refine T.skip (X.blk (X.seq (T.region rfl ?_)))
                  replace h := guard_some h
                  obtain ⟨c36, h⟩ := h
                  refine TL.run ft_cursitorref11_ok [0] rfl rfl ?_
                  refine TL.q rfl .u (Ex.add rfl rfl c36) rfl ?_
                  refine TL.run ft_cursitorref11_ok [2] rfl rfl ?_
                  exact TL.nil (X.back (m' := m9) [0, 0] (by omega) ⟨y4, k5 + 1, rfl, rfl, h⟩ (by rfl) (by rfl))
        · replace h := ifF c21 h
          refine TL.rw ft_cursitorref11_ok 3 rfl ?_
          refine TL.hv 26 rfl (decide_eq_false c21) ?_
          refine TL.rw ft_cursitorref11_ok 15 rfl ?_
          by_cases c37 : x14.fOffset < 0
          · replace h := ifT c37 h
            refine TL.nil (X.seq ?_)
            refine T.yes rfl (decide_eq_true c37) ?_
            refine T.seq (T.region rfl ?_)
            refine TL.run ft_cursitorref11_ok [0] rfl rfl ?_
            obtain rfl := Option.some.inj h
            replace h := hO8
            clear hO8
            try dsimp only at h
            obtain rfl := Option.some.inj h
            exact TL.nil (X.seq (T.ret (X.rs (X.rb (X.rs (X.rs (X.rb (X.rs (X.done1 [1] Tryz.results72 (RV.tm rfl) ⟨rfl, rfl, rfl⟩ (by rfl) (.inl rfl))))))))))
          · replace h := ifF c37 h
            refine TL.nil (X.seq ?_)
            refine T.no rfl (decide_eq_false c37) ?_
            refine T.skip (X.seq (T.seq (T.region rfl ?_)))
            refine TL.rb ft_cursitorref11_ok nt_cursitorref11_ok 0 rfl 3 rfl rfl ?_
            refine TL.q rfl .u (Ex.ixS (k := k5) rfl rfl rfl Tryz.runUnderlying28 Tryz.sizeOf90 (List.getElem?_eq_some_iff.1 hx15).1) rfl ?_
            refine TL.run ft_cursitorref11_ok [4] rfl rfl ?_
            refine TL.q rfl .u (Ex.o1 0 rfl Tryz.isAgg3 z16nf z16cc rfl rfl) rfl ?_
            refine TL.run ft_cursitorref11_ok [6] rfl rfl ?_
            refine TL.nil (X.seq (T.seq (T.region rfl ?_)))
            replace h := guard_some h
            obtain ⟨c38, h⟩ := h
            refine TL.rb ft_cursitorref11_ok nt_cursitorref11_ok 0 rfl 3 rfl rfl ?_
            refine TL.q rfl .u (Ex.sub rfl rfl c38) rfl ?_
            by_cases c39 : x14.fTime > (9223372036854775807 - a0.fFirst)
            · replace h := ifT c39 h
              refine TL.run ft_cursitorref11_ok [4, 5] rfl rfl ?_
              refine TL.hv 53 rfl (decide_eq_true c39) ?_
              refine TL.rw ft_cursitorref11_ok 6 rfl ?_
              refine TL.nil (X.seq ?_)
              refine T.yes rfl rfl ?_
              refine T.seq (T.region rfl ?_)
              refine TL.run ft_cursitorref11_ok [0] rfl rfl ?_
              obtain rfl := Option.some.inj h
              replace h := hO8
              clear hO8
              try dsimp only at h
              obtain rfl := Option.some.inj h
              exact TL.nil (X.seq (T.ret (X.rb (X.rs (X.rs (X.rb (X.rs (X.done1 [1] Tryz.results72 (RV.tm rfl) ⟨rfl, rfl, rfl⟩ (by rfl) (.inl rfl)))))))))
            · replace h := ifF c39 h
              refine TL.run ft_cursitorref11_ok [4, 5] rfl rfl ?_
              refine TL.hv 53 rfl (decide_eq_false c39) ?_
              replace h := guard_some h
              obtain ⟨c40, h⟩ := h
              refine TL.rb ft_cursitorref11_ok nt_cursitorref11_ok 0 rfl 3 rfl rfl ?_
              refine TL.q rfl (.g rfl rfl rfl) (Ex.neg rfl c40) rfl ?_
              refine TL.rw ft_cursitorref11_ok 2 rfl ?_
              by_cases c41 : x14.fTime < (-a0.fFirst)
              · replace h := ifT c41 h
                refine TL.nil (X.seq ?_)
                refine T.yes rfl (decide_eq_true c41) ?_
                refine T.seq (T.region rfl ?_)
                refine TL.run ft_cursitorref11_ok [0] rfl rfl ?_
                obtain rfl := Option.some.inj h
                replace h := hO8
                clear hO8
                try dsimp only at h
                obtain rfl := Option.some.inj h
                exact TL.nil (X.seq (T.ret (X.rb (X.rs (X.rs (X.rb (X.rs (X.done1 [1] Tryz.results72 (RV.tm rfl) ⟨rfl, rfl, rfl⟩ (by rfl) (.inl rfl)))))))))
              · replace h := ifF c41 h
                refine TL.nil (X.seq ?_)
                refine T.no rfl (decide_eq_false c41) ?_
                refine T.skip (X.blk (X.seq (T.region rfl ?_)))
                replace h := guard_some h
                obtain ⟨c42, h⟩ := h
                refine TL.run ft_cursitorref11_ok [0] rfl rfl ?_
                refine TL.q rfl .u (Ex.add rfl rfl c42) rfl ?_
                refine TL.run ft_cursitorref11_ok [2] rfl rfl ?_
                exact TL.nil (X.back (m' := m9) [0, 0] (by omega) ⟨y4, k5 + 1, rfl, rfl, h⟩ (by rfl) (by rfl))
    · replace h := ifF c13 h
      refine TL.nil (X.seq ?_)
      refine T.no rfl (decide_eq_false c13) ?_
      obtain rfl := Option.some.inj h
      replace h := hO8
      clear hO8
      try dsimp only at h
      refine T.exit (X.exs (X.exs (X.ex (X.seq (T.seq (T.seq (T.draw (.q 0 (.q 1 (.q 2 (.q 3 (.q 4 (.q 6 (.q 7 (.e 5 (.q 8 (.q 9 .nil)))))))))) [0, 0] rfl mix_cursitorref11 (NoP.seq (NoP.seq np_post)) (by kernel_rfl) ?_)))))))
      refine TD.run ft_cursitorref11_ok [0] rfl rfl ?_
      refine TD.q rfl .u (Ex.b1 0 rfl Tryz.isAgg4 rfl rfl) rfl ?_
      by_cases c43 : a0.fAppend = true
      · replace h := ifT c43 h
        refine TD.run ft_cursitorref11_ok [2, 3] rfl rfl ?_
        refine TD.no rfl (.gn rfl rfl (bn_f c43)) rfl ?_
        refine TD.no rfl (.gn rfl rfl (bn_f c43)) rfl ?_
        refine TD.no rfl (.gn rfl rfl (bn_f c43)) rfl ?_
        refine TD.noe rfl (.gn rfl rfl (bn_f c43)) rfl [0, 0] rfl ?_
        refine TD.no rfl (.gn rfl rfl (bn_f c43)) rfl ?_
        refine TD.q rfl .u (Ex.pn rfl (bn_f c43) rfl) rfl ?_
        refine TD.nil (X.seq ?_)
        refine T.no rfl rfl ?_
        refine T.skip (X.seq (T.seq (T.region rfl ?_)))
        refine TL.run ft_cursitorref11_ok [0] rfl rfl ?_
        obtain rfl := Option.some.inj h
        exact TL.nil (X.seq (T.ret (X.done1 [1] Tryz.results72 (RV.tm rfl) ⟨rfl, rfl, rfl⟩ (by rfl) (.inl rfl))))
      · replace h := ifF c43 h
        replace c43 := eq_false_of_ne_true c43
        refine TD.run ft_cursitorref11_ok [2, 3] rfl rfl ?_
        refine TD.q rfl (.g rfl rfl (bn_t c43)) (Ex.bS (us := [.int .i64 a0.fBase, .int .i64 a0.fLeader, .bool a0.fAppend, .bool a0.fTxn, .bool a0.fControl, .int .i64 a0.fLast, .int .i64 a0.fFirst, .int .i64 a0.fMax, .int .i64 a0.fProducer, .int .i64 a0.fEpoch, .int .i64 a0.fSequence, .slice A1 a0.fRecords.length c2]) 0 rfl Tryz.isAgg30 Tryz.sizeOf30 rfl rfl rfl) rfl ?_
        refine TD.q rfl (.g rfl rfl (bn_t c43)) (Ex.ft ft_cursitorref11_ok rfl) rfl ?_
        refine TD.q rfl (.g rfl rfl (bn_t c43)) (Ex.b1 0 rfl Tryz.isAgg3 rfl rfl) rfl ?_
        obtain ⟨x44, hx45, h⟩ := Option.bind_eq_some_iff.1 h
        refine TD.ce rfl (.g rfl rfl (bn_t c43)) (.fn Tryz.call89 rfl) (f_r11_times_spec a0 _ _ _ hx45) (fun _ hs => (SrcE.old hs hX)) rfl [0, 0] (rfl) ?_
        refine TD.q rfl (.g rfl rfl (bn_t c43)) (Ex.ft ft_cursitorref11_ok rfl) rfl ?_
        refine TD.q rfl .u (Ex.py rfl (bn_t c43) rfl) rfl ?_
        by_cases c46 : x44 = a0.fMax
        · replace h := ifT c46 h
          refine TD.nil (X.seq ?_)
          refine T.no rfl (bn_f (decide_eq_true c46)) ?_
          refine T.skip (X.seq (T.seq (T.region rfl ?_)))
          refine TL.run ft_cursitorref11_ok [0] rfl rfl ?_
          obtain rfl := Option.some.inj h
          exact TL.nil (X.seq (T.ret (X.done1 [1] Tryz.results72 (RV.tm rfl) ⟨rfl, rfl, rfl⟩ (by rfl) (.inl rfl))))
        · replace h := ifF c46 h
          refine TD.nil (X.seq ?_)
          refine T.yes rfl (bn_t (decide_eq_false c46)) ?_
          refine T.seq (T.region rfl ?_)
          refine TL.run ft_cursitorref11_ok [0] rfl rfl ?_
          obtain rfl := Option.some.inj h
          exact TL.nil (X.seq (T.ret (X.rs (X.done1 [1] Tryz.results72 (RV.tm rfl) ⟨rfl, rfl, rfl⟩ (by rfl) (.inl rfl)))))
def f_r11_Check_l1 (a0 : Bat) : Nat → Int → Nat → Option (Lp Int (Int × Nat))
  | 0, _, _ => none
  | m26 + 1, y21, k22 => if (k22 : Int) < (a0.fRecords.length : Int) then ((a0.fRecords[k22]?).bind fun x31 => (f_r07_Right x31).bind fun x37 => if x37 = 0 then (if -9223372036854775808 ≤ ((k22 : Int) + 1) ∧ ((k22 : Int) + 1) ≤ 9223372036854775807 then (f_r11_Check_l1 a0 m26 y21 (k22 + 1)) else none) else some (Lp.ret x37)) else (some (Lp.go (y21, k22)))
def f_r11_Check_l2 (a0 : Bat) : Nat → Int → Nat → Option (Lp Int (Int × Nat))
  | 0, _, _ => none
  | m77 + 1, y72, k73 => if (k73 : Int) < (a0.fRecords.length : Int) then ((a0.fRecords[k73]?).bind fun x82 => (f_r07_Right x82).bind fun x88 => if x88 = 0 then (if -9223372036854775808 ≤ ((k73 : Int) + 1) ∧ ((k73 : Int) + 1) ≤ 9223372036854775807 then (f_r11_Check_l2 a0 m77 y72 (k73 + 1)) else none) else some (Lp.ret x88)) else (some (Lp.go (y72, k73)))
def f_r11_Check (a0 : Bat) : Option (Int) := if a0.fBase < 0 then some 11 else ((f_r11_int32s a0.fLeader (-1)).bind fun x5 => if x5 = true then ((f_r11_int32s a0.fLast 0).bind fun x8 => if x8 = true then (if -9223372036854775808 ≤ (9223372036854775807 - a0.fBase) ∧ (9223372036854775807 - a0.fBase) ≤ 9223372036854775807 then (if a0.fLast > (9223372036854775807 - a0.fBase) then some 11 else (if a0.fFirst < 0 then some 11 else (if a0.fMax < 0 then some 11 else (if a0.fControl = true then (if a0.fTxn = true then ((f_r11_producer a0).bind fun x17 => if x17 = true then (if (a0.fRecords.length : Int) = 1 then ((f_r11_Check_l1 a0 (((a0.fRecords.length : Int)).toNat + 1) 0 0).bind fun e => match e with | .ret r => some r | .go (y54, k55) => ((a0.fRecords[0]?).bind fun x56 => (f_r08_Read x56).bind fun (x62, x63, x64) => if x64 = 0 then ((f_r11_orders a0).bind fun x67 => some x67) else some x64)) else some 10) else some 11) else some 8) else ((f_r11_producer a0).bind fun x69 => if x69 = true then ((f_r11_Check_l2 a0 (((a0.fRecords.length : Int)).toNat + 1) 0 0).bind fun e => match e with | .ret r => some r | .go (y94, k95) => ((f_r11_orders a0).bind fun x96 => some x96)) else some 11))))) else none) else some 11) else some 11)
set_option maxRecDepth 100000 in
set_option maxHeartbeats 4000000 in
theorem f_r11_Check_spec (a0 : Bat) (A1 : Option Addr) (c2 : Nat) (r : Int) (h : f_r11_Check a0 = some r) : SpecX Tryz.prog 44 #[.agg #[.int .i64 a0.fBase, .int .i64 a0.fLeader, .bool a0.fAppend, .bool a0.fTxn, .bool a0.fControl, .int .i64 a0.fLast, .int .i64 a0.fFirst, .int .i64 a0.fMax, .int .i64 a0.fProducer, .int .i64 a0.fEpoch, .int .i64 a0.fSequence, .slice A1 a0.fRecords.length c2]] (RX.of (sliceRd 7 Rec_rd) [.slice A1 a0.fRecords.length c2] a0.fRecords) (EmpR) (fun v A' N => v = .int .i64 r ∧ A' = EmpR ∧ N = []) := by
  refine enterA Tryz.func44 rfl Tryz.ntmps44 rfl ?_
  intro F w hX
  unfold f_r11_Check at h
  refine T.seq (T.region rfl ?_)
  refine TL.box rfl .u rfl rfl (fun b3 => ?_)
  refine TL.run ft_cursitorref11_ok [1] rfl rfl ?_
  refine TL.nil (X.seq (T.seq (T.seq (T.region rfl ?_))))
  by_cases c4 : a0.fBase < 0
  · replace h := ifT c4 h
    refine TL.rb ft_cursitorref11_ok nt_cursitorref11_ok 0 rfl 4 rfl rfl ?_
    refine TL.hv 11 rfl (decide_eq_true c4) ?_
    refine TL.rw ft_cursitorref11_ok 29 rfl ?_
    refine TL.nil (X.seq ?_)
    refine T.yes rfl rfl ?_
    refine T.seq (T.region rfl ?_)
    refine TL.run ft_cursitorref11_ok [0] rfl rfl ?_
    obtain rfl := Option.some.inj h
    exact TL.nil (X.seq (T.ret (X.rs (X.done1 [1] Tryz.results44 (RV.tm rfl) ⟨rfl, rfl, rfl⟩ (by rfl) (.inl rfl)))))
  · replace h := ifF c4 h
    refine TL.rb ft_cursitorref11_ok nt_cursitorref11_ok 0 rfl 4 rfl rfl ?_
    refine TL.hv 11 rfl (decide_eq_false c4) ?_
    obtain ⟨x5, hx6, h⟩ := Option.bind_eq_some_iff.1 h
    refine TL.rb ft_cursitorref11_ok nt_cursitorref11_ok 0 rfl 2 rfl rfl ?_
    refine TL.ce rfl (.g rfl rfl rfl) (.fn Tryz.call68 rfl) (f_r11_int32s_spec a0.fLeader (-1) _ hx6) (fun _ hs => (RX.reads_triv _ _)) rfl ?_
    by_cases c7 : x5 = true
    · replace h := ifT c7 h
      refine TL.rw ft_cursitorref11_ok 3 rfl ?_
      refine TL.hv 17 rfl (bn_f c7) ?_
      obtain ⟨x8, hx9, h⟩ := Option.bind_eq_some_iff.1 h
      refine TL.rb ft_cursitorref11_ok nt_cursitorref11_ok 0 rfl 2 rfl rfl ?_
      refine TL.ce rfl (.g rfl rfl rfl) (.fn Tryz.call68 rfl) (f_r11_int32s_spec a0.fLast 0 _ hx9) (fun _ hs => (RX.reads_triv _ _)) rfl ?_
      by_cases c10 : x8 = true
      · replace h := ifT c10 h
        refine TL.rw ft_cursitorref11_ok 3 rfl ?_
        refine TL.hv 23 rfl (bn_f c10) ?_
        replace h := guard_some h
        obtain ⟨c11, h⟩ := h
        refine TL.rb ft_cursitorref11_ok nt_cursitorref11_ok 0 rfl 4 rfl rfl ?_
        refine TL.q rfl (.g rfl rfl rfl) (Ex.sub rfl rfl c11) rfl ?_
        by_cases c12 : a0.fLast > (9223372036854775807 - a0.fBase)
        · replace h := ifT c12 h
          refine TL.rw ft_cursitorref11_ok 3 rfl ?_
          refine TL.hv 31 rfl (decide_eq_true c12) ?_
          refine TL.rw ft_cursitorref11_ok 9 rfl ?_
          refine TL.nil (X.seq ?_)
          refine T.yes rfl rfl ?_
          refine T.seq (T.region rfl ?_)
          refine TL.run ft_cursitorref11_ok [0] rfl rfl ?_
          obtain rfl := Option.some.inj h
          exact TL.nil (X.seq (T.ret (X.rs (X.done1 [1] Tryz.results44 (RV.tm rfl) ⟨rfl, rfl, rfl⟩ (by rfl) (.inl rfl)))))
        · replace h := ifF c12 h
          refine TL.rw ft_cursitorref11_ok 3 rfl ?_
          refine TL.hv 31 rfl (decide_eq_false c12) ?_
          by_cases c13 : a0.fFirst < 0
          · replace h := ifT c13 h
            refine TL.rb ft_cursitorref11_ok nt_cursitorref11_ok 0 rfl 5 rfl rfl ?_
            refine TL.hv 36 rfl (decide_eq_true c13) ?_
            refine TL.rw ft_cursitorref11_ok 4 rfl ?_
            refine TL.nil (X.seq ?_)
            refine T.yes rfl rfl ?_
            refine T.seq (T.region rfl ?_)
            refine TL.run ft_cursitorref11_ok [0] rfl rfl ?_
            obtain rfl := Option.some.inj h
            exact TL.nil (X.seq (T.ret (X.rs (X.done1 [1] Tryz.results44 (RV.tm rfl) ⟨rfl, rfl, rfl⟩ (by rfl) (.inl rfl)))))
          · replace h := ifF c13 h
            refine TL.rb ft_cursitorref11_ok nt_cursitorref11_ok 0 rfl 5 rfl rfl ?_
            refine TL.hv 36 rfl (decide_eq_false c13) ?_
            refine TL.rb ft_cursitorref11_ok nt_cursitorref11_ok 0 rfl 4 rfl rfl ?_
            by_cases c14 : a0.fMax < 0
            · replace h := ifT c14 h
              refine TL.nil (X.seq ?_)
              refine T.yes rfl (decide_eq_true c14) ?_
              refine T.seq (T.region rfl ?_)
              refine TL.run ft_cursitorref11_ok [0] rfl rfl ?_
              obtain rfl := Option.some.inj h
              exact TL.nil (X.seq (T.ret (X.rs (X.done1 [1] Tryz.results44 (RV.tm rfl) ⟨rfl, rfl, rfl⟩ (by rfl) (.inl rfl)))))
            · replace h := ifF c14 h
              refine TL.nil (X.seq ?_)
              refine T.no rfl (decide_eq_false c14) ?_
              refine T.skip (X.seq (T.seq (T.seq (T.region rfl ?_))))
              by_cases c15 : a0.fControl = true
              · replace h := ifT c15 h
                refine TL.rb ft_cursitorref11_ok nt_cursitorref11_ok 0 rfl 3 rfl rfl ?_
                refine TL.hv 43 rfl c15 ?_
                refine TL.rb ft_cursitorref11_ok nt_cursitorref11_ok 0 rfl 4 rfl rfl ?_
                by_cases c16 : a0.fTxn = true
                · replace h := ifT c16 h
                  refine TL.nil (X.seq ?_)
                  refine T.no rfl (bn_f c16) ?_
                  refine T.skip (X.seq (T.seq (T.seq (T.region rfl ?_))))
                  refine TL.q rfl .u (Ex.bS (us := [.int .i64 a0.fBase, .int .i64 a0.fLeader, .bool a0.fAppend, .bool a0.fTxn, .bool a0.fControl, .int .i64 a0.fLast, .int .i64 a0.fFirst, .int .i64 a0.fMax, .int .i64 a0.fProducer, .int .i64 a0.fEpoch, .int .i64 a0.fSequence, .slice A1 a0.fRecords.length c2]) 0 rfl Tryz.isAgg30 Tryz.sizeOf30 rfl rfl rfl) rfl ?_
                  obtain ⟨x17, hx18, h⟩ := Option.bind_eq_some_iff.1 h
                  refine TL.ce rfl .u (.fn Tryz.call69 rfl) (f_r11_producer_spec a0 _ _ _ hx18) (fun _ hs => (SrcE.old hs hX)) rfl ?_
                  refine TL.run ft_cursitorref11_ok [2] rfl rfl ?_
                  by_cases c19 : x17 = true
                  · replace h := ifT c19 h
                    refine TL.nil (X.seq ?_)
                    refine T.no rfl (bn_f c19) ?_
                    refine T.skip (X.seq (T.seq (T.seq (T.region rfl ?_))))
                    refine TL.rb ft_cursitorref11_ok nt_cursitorref11_ok 0 rfl 3 rfl rfl ?_
                    refine TL.hv 53 rfl c15 ?_
                    refine TL.rb ft_cursitorref11_ok nt_cursitorref11_ok 0 rfl 2 rfl rfl ?_
                    refine TL.q rfl (.g rfl rfl rfl) (Ex.lenS rfl Tryz.runUnderlying28) rfl ?_
                    refine TL.rw ft_cursitorref11_ok 2 rfl ?_
                    by_cases c20 : (a0.fRecords.length : Int) = 1
                    · replace h := ifT c20 h
                      refine TL.nil (X.seq ?_)
                      refine T.no rfl (bn_f (decide_eq_true c20)) ?_
                      refine T.skip (X.seq (T.seq (T.seq (T.region rfl ?_))))
                      refine TL.run ft_cursitorref11_ok [0] rfl rfl ?_
                      refine TL.nil (X.seq (T.block ?_))
                      obtain ⟨E23, hE24, hO25⟩ := Option.bind_eq_some_iff.1 h
                      refine T.lp (fun m e Rs => ∃ (y21 : Int) (k22 : Nat), e = [(1, .pointer (some ⟨b3, 0, none⟩)), (2, .int .i64 y21), (3, .int .i64 (k22 : Int))] ∧ Rs = [BlkR b3 30 #[.int .i64 a0.fBase, .int .i64 a0.fLeader, .bool a0.fAppend, .bool a0.fTxn, .bool a0.fControl, .int .i64 a0.fLast, .int .i64 a0.fFirst, .int .i64 a0.fMax, .int .i64 a0.fProducer, .int .i64 a0.fEpoch, .int .i64 a0.fSequence, .slice A1 a0.fRecords.length c2], EmpR] ∧ f_r11_Check_l1 a0 m y21 k22 = some E23) (((a0.fRecords.length : Int)).toNat + 1) [0, 0] ⟨0, 0, rfl, rfl, by exact hE24⟩ (by rfl) (by rfl) ?_
                      rintro m26 _ _ ⟨y21, k22, rfl, rfl, hl28⟩
                      clear hE24 h
                      cases m26 with
                      | zero =>
                        rw [f_r11_Check_l1] at hl28
                        cases hl28
                      | succ m26 =>
                        have h := hl28
                        clear hl28
                        rw [f_r11_Check_l1] at h
                        refine T.seq (T.seq (T.region rfl ?_))
                        refine TL.rb ft_cursitorref11_ok nt_cursitorref11_ok 0 rfl 3 rfl rfl ?_
                        refine TL.q rfl .u (Ex.lenS rfl Tryz.runUnderlying28) rfl ?_
                        refine TL.run ft_cursitorref11_ok [4] rfl rfl ?_
                        by_cases c30 : (k22 : Int) < (a0.fRecords.length : Int)
                        · replace h := ifT c30 h
                          refine TL.nil (X.seq ?_)
                          refine T.yes rfl (decide_eq_true c30) ?_
                          refine T.skip (X.seq (T.seq (T.block (T.seq (T.region rfl ?_)))))
                          obtain ⟨x31, hx32, h⟩ := Option.bind_eq_some_iff.1 h
                          obtain ⟨gz33, oz33, rfl, z33cs, z33cl, z33cc, z33nf, z33r⟩ := RX.elem (by decide) hX hx32
                          obtain ⟨z33S, z33r, z33rr⟩ := z33r
                          obtain ⟨A34, c35, rfl, z33s0⟩ := z33r
                          have hX36 : (RX.of (sliceRd 3 Hd_rd) [.slice A34 x31.fHeaders.length c35] x31.fHeaders).reads w F := ⟨z33S, z33s0, z33rr⟩
                          refine TL.rb ft_cursitorref11_ok nt_cursitorref11_ok 0 rfl 3 rfl rfl ?_
                          refine TL.q rfl .u (Ex.ixS (k := k22) rfl rfl rfl Tryz.runUnderlying28 Tryz.sizeOf90 (List.getElem?_eq_some_iff.1 hx32).1) rfl ?_
                          refine TL.q rfl .u (Ex.oS (us := [.int .i64 x31.fTime, .int .i64 x31.fOffset, .bool x31.fKey.null, .string (bsOf x31.fKey.data), .bool x31.fValue.null, .string (bsOf x31.fValue.data), .slice A34 x31.fHeaders.length c35]) 0 rfl Tryz.isAgg90 Tryz.sizeOf90 z33nf z33cc rfl rfl rfl) rfl ?_
                          obtain ⟨x37, hx38, h⟩ := Option.bind_eq_some_iff.1 h
                          refine TL.ce rfl .u (.fn Tryz.call70 rfl) (f_r07_Right_spec x31 _ _ _ hx38) (fun _ hs => (SrcE.old hs hX36)) rfl ?_
                          refine TL.run ft_cursitorref11_ok [6] rfl rfl ?_
                          refine TL.nil (X.seq (T.seq (T.region rfl ?_)))
                          refine TL.run ft_cursitorref11_ok [0, 1] rfl rfl ?_
                          by_cases c39 : x37 = 0
                          · replace h := ifT c39 h
                            refine TL.nil (X.seq ?_)
                            refine T.no rfl (bn_f (decide_eq_true c39)) ?_
                            refine T.skip (X.blk (X.seq (T.region rfl ?_)))
                            replace h := guard_some h
                            obtain ⟨c40, h⟩ := h
                            refine TL.run ft_cursitorref11_ok [0] rfl rfl ?_
                            refine TL.q rfl .u (Ex.add rfl rfl c40) rfl ?_
                            refine TL.run ft_cursitorref11_ok [2] rfl rfl ?_
                            exact TL.nil (X.back (m' := m26) [0, 0] (by omega) ⟨y21, k22 + 1, rfl, rfl, h⟩ (by rfl) (by rfl))
                          · replace h := ifF c39 h
                            refine TL.nil (X.seq ?_)
                            refine T.yes rfl (bn_t (decide_eq_false c39)) ?_
                            refine T.seq (T.region rfl ?_)
                            refine TL.run ft_cursitorref11_ok [0, 1] rfl rfl ?_
                            obtain rfl := Option.some.inj h
                            replace h := hO25
                            clear hO25
                            try dsimp only at h
                            obtain rfl := Option.some.inj h
                            exact TL.nil (X.seq (T.ret (X.rb (X.rs (X.rs (X.rb (X.rs (X.done1 [1] Tryz.results44 (RV.tm rfl) ⟨rfl, rfl, rfl⟩ (by rfl) (.inl rfl)))))))))
                        · replace h := ifF c30 h
                          refine TL.nil (X.seq ?_)
                          refine T.no rfl (decide_eq_false c30) ?_
                          obtain rfl := Option.some.inj h
                          replace h := hO25
                          clear hO25
                          try dsimp only at h
                          refine T.exit (X.exs (X.exs (X.ex (X.seq (T.seq (T.seq (T.region rfl ?_)))))))
                          refine TL.rb ft_cursitorref11_ok nt_cursitorref11_ok 0 rfl 2 rfl rfl ?_
                          refine TL.nil (X.seq ?_)
                          refine T.yes rfl c15 ?_
                          refine T.seq (T.region rfl ?_)
                          obtain ⟨x41, hx42, h⟩ := Option.bind_eq_some_iff.1 h
                          obtain ⟨gz43, oz43, rfl, z43cs, z43cl, z43cc, z43nf, z43r⟩ := RX.elem (by decide) hX hx42
                          obtain ⟨z43S, z43r, z43rr⟩ := z43r
                          obtain ⟨A44, c45, rfl, z43s0⟩ := z43r
                          have hX46 : (RX.of (sliceRd 3 Hd_rd) [.slice A44 x41.fHeaders.length c45] x41.fHeaders).reads w F := ⟨z43S, z43s0, z43rr⟩
                          refine TL.rb ft_cursitorref11_ok nt_cursitorref11_ok 0 rfl 2 rfl rfl ?_
                          refine TL.q rfl .u (Ex.ixS (k := 0) rfl rfl rfl Tryz.runUnderlying28 Tryz.sizeOf90 (List.getElem?_eq_some_iff.1 hx42).1) rfl ?_
                          refine TL.q rfl .u (Ex.oS (us := [.int .i64 x41.fTime, .int .i64 x41.fOffset, .bool x41.fKey.null, .string (bsOf x41.fKey.data), .bool x41.fValue.null, .string (bsOf x41.fValue.data), .slice A44 x41.fHeaders.length c45]) 0 rfl Tryz.isAgg90 Tryz.sizeOf90 z43nf z43cc rfl rfl rfl) rfl ?_
                          obtain ⟨⟨x47, x48, x49⟩, hx50, h⟩ := Option.bind_eq_some_iff.1 h
                          try dsimp only at h
                          refine TL.ce rfl .u (.fn Tryz.call71 rfl) (f_r08_Read_spec x41 _ _ _ hx50) (fun _ hs => (SrcE.old hs hX46)) rfl ?_
                          refine TL.run ft_cursitorref11_ok [5, 6, 7, 8, 9, 10, 11] rfl rfl ?_
                          refine TL.nil (X.seq (T.seq (T.region rfl ?_)))
                          refine TL.run ft_cursitorref11_ok [0, 1] rfl rfl ?_
                          by_cases c51 : x49 = 0
                          · replace h := ifT c51 h
                            refine TL.nil (X.seq ?_)
                            refine T.no rfl (bn_f (decide_eq_true c51)) ?_
                            refine T.skip (X.seq (T.seq (T.region rfl ?_)))
                            refine TL.q rfl .u (Ex.bS (us := [.int .i64 a0.fBase, .int .i64 a0.fLeader, .bool a0.fAppend, .bool a0.fTxn, .bool a0.fControl, .int .i64 a0.fLast, .int .i64 a0.fFirst, .int .i64 a0.fMax, .int .i64 a0.fProducer, .int .i64 a0.fEpoch, .int .i64 a0.fSequence, .slice (some ⟨gz43, oz43, none⟩) a0.fRecords.length c2]) 0 rfl Tryz.isAgg30 Tryz.sizeOf30 rfl rfl rfl) rfl ?_
                            obtain ⟨x52, hx53, h⟩ := Option.bind_eq_some_iff.1 h
                            refine TL.ce rfl .u (.fn Tryz.call72 rfl) (f_r11_orders_spec a0 _ _ _ hx53) (fun _ hs => (SrcE.old hs hX)) rfl ?_
                            refine TL.run ft_cursitorref11_ok [2] rfl rfl ?_
                            obtain rfl := Option.some.inj h
                            exact TL.nil (X.seq (T.ret (X.done1 [1] Tryz.results44 (RV.tm rfl) ⟨rfl, rfl, rfl⟩ (by rfl) (.inl rfl))))
                          · replace h := ifF c51 h
                            refine TL.nil (X.seq ?_)
                            refine T.yes rfl (bn_t (decide_eq_false c51)) ?_
                            refine T.seq (T.region rfl ?_)
                            refine TL.run ft_cursitorref11_ok [0, 1] rfl rfl ?_
                            obtain rfl := Option.some.inj h
                            exact TL.nil (X.seq (T.ret (X.rs (X.done1 [1] Tryz.results44 (RV.tm rfl) ⟨rfl, rfl, rfl⟩ (by rfl) (.inl rfl)))))
                    · replace h := ifF c20 h
                      refine TL.nil (X.seq ?_)
                      refine T.yes rfl (bn_t (decide_eq_false c20)) ?_
                      refine T.seq (T.region rfl ?_)
                      refine TL.run ft_cursitorref11_ok [0] rfl rfl ?_
                      obtain rfl := Option.some.inj h
                      exact TL.nil (X.seq (T.ret (X.rs (X.done1 [1] Tryz.results44 (RV.tm rfl) ⟨rfl, rfl, rfl⟩ (by rfl) (.inl rfl)))))
                  · replace h := ifF c19 h
                    replace c19 := eq_false_of_ne_true c19
                    refine TL.nil (X.seq ?_)
                    refine T.yes rfl (bn_t c19) ?_
                    refine T.seq (T.region rfl ?_)
                    refine TL.run ft_cursitorref11_ok [0] rfl rfl ?_
                    obtain rfl := Option.some.inj h
                    exact TL.nil (X.seq (T.ret (X.rs (X.done1 [1] Tryz.results44 (RV.tm rfl) ⟨rfl, rfl, rfl⟩ (by rfl) (.inl rfl)))))
                · replace h := ifF c16 h
                  replace c16 := eq_false_of_ne_true c16
                  refine TL.nil (X.seq ?_)
                  refine T.yes rfl (bn_t c16) ?_
                  refine T.seq (T.region rfl ?_)
                  refine TL.run ft_cursitorref11_ok [0] rfl rfl ?_
                  obtain rfl := Option.some.inj h
                  exact TL.nil (X.seq (T.ret (X.rs (X.done1 [1] Tryz.results44 (RV.tm rfl) ⟨rfl, rfl, rfl⟩ (by rfl) (.inl rfl)))))
              · replace h := ifF c15 h
                replace c15 := eq_false_of_ne_true c15
                refine TL.rb ft_cursitorref11_ok nt_cursitorref11_ok 0 rfl 3 rfl rfl ?_
                refine TL.hv 43 rfl c15 ?_
                refine TL.rw ft_cursitorref11_ok 4 rfl ?_
                refine TL.nil (X.seq ?_)
                refine T.no rfl rfl ?_
                refine T.skip (X.seq (T.seq (T.seq (T.region rfl ?_))))
                refine TL.q rfl .u (Ex.bS (us := [.int .i64 a0.fBase, .int .i64 a0.fLeader, .bool a0.fAppend, .bool a0.fTxn, .bool a0.fControl, .int .i64 a0.fLast, .int .i64 a0.fFirst, .int .i64 a0.fMax, .int .i64 a0.fProducer, .int .i64 a0.fEpoch, .int .i64 a0.fSequence, .slice A1 a0.fRecords.length c2]) 0 rfl Tryz.isAgg30 Tryz.sizeOf30 rfl rfl rfl) rfl ?_
                obtain ⟨x69, hx70, h⟩ := Option.bind_eq_some_iff.1 h
                refine TL.ce rfl .u (.fn Tryz.call69 rfl) (f_r11_producer_spec a0 _ _ _ hx70) (fun _ hs => (SrcE.old hs hX)) rfl ?_
                refine TL.run ft_cursitorref11_ok [2] rfl rfl ?_
                by_cases c71 : x69 = true
                · replace h := ifT c71 h
                  refine TL.nil (X.seq ?_)
                  refine T.no rfl (bn_f c71) ?_
                  refine T.skip (X.seq (T.seq (T.seq (T.region rfl ?_))))
                  refine TL.rb ft_cursitorref11_ok nt_cursitorref11_ok 0 rfl 3 rfl rfl ?_
                  refine TL.hv 53 rfl c15 ?_
                  refine TL.rw ft_cursitorref11_ok 5 rfl ?_
                  refine TL.nil (X.seq ?_)
                  refine T.no rfl rfl ?_
                  refine T.skip (X.seq (T.seq (T.seq (T.region rfl ?_))))
                  refine TL.run ft_cursitorref11_ok [0] rfl rfl ?_
                  refine TL.nil (X.seq (T.block ?_))
                  obtain ⟨E74, hE75, hO76⟩ := Option.bind_eq_some_iff.1 h
                  refine T.lp (fun m e Rs => ∃ (y72 : Int) (k73 : Nat), e = [(1, .pointer (some ⟨b3, 0, none⟩)), (2, .int .i64 y72), (3, .int .i64 (k73 : Int))] ∧ Rs = [BlkR b3 30 #[.int .i64 a0.fBase, .int .i64 a0.fLeader, .bool a0.fAppend, .bool a0.fTxn, .bool a0.fControl, .int .i64 a0.fLast, .int .i64 a0.fFirst, .int .i64 a0.fMax, .int .i64 a0.fProducer, .int .i64 a0.fEpoch, .int .i64 a0.fSequence, .slice A1 a0.fRecords.length c2], EmpR] ∧ f_r11_Check_l2 a0 m y72 k73 = some E74) (((a0.fRecords.length : Int)).toNat + 1) [0, 0] ⟨0, 0, rfl, rfl, by exact hE75⟩ (by rfl) (by rfl) ?_
                  rintro m77 _ _ ⟨y72, k73, rfl, rfl, hl79⟩
                  clear hE75 h
                  cases m77 with
                  | zero =>
                    rw [f_r11_Check_l2] at hl79
                    cases hl79
                  | succ m77 =>
                    have h := hl79
                    clear hl79
                    rw [f_r11_Check_l2] at h
                    refine T.seq (T.seq (T.region rfl ?_))
                    refine TL.rb ft_cursitorref11_ok nt_cursitorref11_ok 0 rfl 3 rfl rfl ?_
                    refine TL.q rfl .u (Ex.lenS rfl Tryz.runUnderlying28) rfl ?_
                    refine TL.run ft_cursitorref11_ok [4] rfl rfl ?_
                    by_cases c81 : (k73 : Int) < (a0.fRecords.length : Int)
                    · replace h := ifT c81 h
                      refine TL.nil (X.seq ?_)
                      refine T.yes rfl (decide_eq_true c81) ?_
                      refine T.skip (X.seq (T.seq (T.block (T.seq (T.region rfl ?_)))))
                      obtain ⟨x82, hx83, h⟩ := Option.bind_eq_some_iff.1 h
                      obtain ⟨gz84, oz84, rfl, z84cs, z84cl, z84cc, z84nf, z84r⟩ := RX.elem (by decide) hX hx83
                      obtain ⟨z84S, z84r, z84rr⟩ := z84r
                      obtain ⟨A85, c86, rfl, z84s0⟩ := z84r
                      have hX87 : (RX.of (sliceRd 3 Hd_rd) [.slice A85 x82.fHeaders.length c86] x82.fHeaders).reads w F := ⟨z84S, z84s0, z84rr⟩
                      refine TL.rb ft_cursitorref11_ok nt_cursitorref11_ok 0 rfl 3 rfl rfl ?_
                      refine TL.q rfl .u (Ex.ixS (k := k73) rfl rfl rfl Tryz.runUnderlying28 Tryz.sizeOf90 (List.getElem?_eq_some_iff.1 hx83).1) rfl ?_
                      refine TL.q rfl .u (Ex.oS (us := [.int .i64 x82.fTime, .int .i64 x82.fOffset, .bool x82.fKey.null, .string (bsOf x82.fKey.data), .bool x82.fValue.null, .string (bsOf x82.fValue.data), .slice A85 x82.fHeaders.length c86]) 0 rfl Tryz.isAgg90 Tryz.sizeOf90 z84nf z84cc rfl rfl rfl) rfl ?_
                      obtain ⟨x88, hx89, h⟩ := Option.bind_eq_some_iff.1 h
                      refine TL.ce rfl .u (.fn Tryz.call70 rfl) (f_r07_Right_spec x82 _ _ _ hx89) (fun _ hs => (SrcE.old hs hX87)) rfl ?_
                      refine TL.run ft_cursitorref11_ok [6] rfl rfl ?_
                      refine TL.nil (X.seq (T.seq (T.region rfl ?_)))
                      refine TL.run ft_cursitorref11_ok [0, 1] rfl rfl ?_
                      by_cases c90 : x88 = 0
                      · replace h := ifT c90 h
                        refine TL.nil (X.seq ?_)
                        refine T.no rfl (bn_f (decide_eq_true c90)) ?_
                        refine T.skip (X.blk (X.seq (T.region rfl ?_)))
                        replace h := guard_some h
                        obtain ⟨c91, h⟩ := h
                        refine TL.run ft_cursitorref11_ok [0] rfl rfl ?_
                        refine TL.q rfl .u (Ex.add rfl rfl c91) rfl ?_
                        refine TL.run ft_cursitorref11_ok [2] rfl rfl ?_
                        exact TL.nil (X.back (m' := m77) [0, 0] (by omega) ⟨y72, k73 + 1, rfl, rfl, h⟩ (by rfl) (by rfl))
                      · replace h := ifF c90 h
                        refine TL.nil (X.seq ?_)
                        refine T.yes rfl (bn_t (decide_eq_false c90)) ?_
                        refine T.seq (T.region rfl ?_)
                        refine TL.run ft_cursitorref11_ok [0, 1] rfl rfl ?_
                        obtain rfl := Option.some.inj h
                        replace h := hO76
                        clear hO76
                        try dsimp only at h
                        obtain rfl := Option.some.inj h
                        exact TL.nil (X.seq (T.ret (X.rb (X.rs (X.rs (X.rb (X.rs (X.done1 [1] Tryz.results44 (RV.tm rfl) ⟨rfl, rfl, rfl⟩ (by rfl) (.inl rfl)))))))))
                    · replace h := ifF c81 h
                      refine TL.nil (X.seq ?_)
                      refine T.no rfl (decide_eq_false c81) ?_
                      obtain rfl := Option.some.inj h
                      replace h := hO76
                      clear hO76
                      try dsimp only at h
                      refine T.exit (X.exs (X.exs (X.ex (X.seq (T.seq (T.seq (T.region rfl ?_)))))))
                      refine TL.rb ft_cursitorref11_ok nt_cursitorref11_ok 0 rfl 2 rfl rfl ?_
                      refine TL.nil (X.seq ?_)
                      refine T.no rfl c15 ?_
                      refine T.skip (X.seq (T.seq (T.region rfl ?_)))
                      refine TL.q rfl .u (Ex.bS (us := [.int .i64 a0.fBase, .int .i64 a0.fLeader, .bool a0.fAppend, .bool a0.fTxn, .bool a0.fControl, .int .i64 a0.fLast, .int .i64 a0.fFirst, .int .i64 a0.fMax, .int .i64 a0.fProducer, .int .i64 a0.fEpoch, .int .i64 a0.fSequence, .slice A1 a0.fRecords.length c2]) 0 rfl Tryz.isAgg30 Tryz.sizeOf30 rfl rfl rfl) rfl ?_
                      obtain ⟨x92, hx93, h⟩ := Option.bind_eq_some_iff.1 h
                      refine TL.ce rfl .u (.fn Tryz.call72 rfl) (f_r11_orders_spec a0 _ _ _ hx93) (fun _ hs => (SrcE.old hs hX)) rfl ?_
                      refine TL.run ft_cursitorref11_ok [2] rfl rfl ?_
                      obtain rfl := Option.some.inj h
                      exact TL.nil (X.seq (T.ret (X.done1 [1] Tryz.results44 (RV.tm rfl) ⟨rfl, rfl, rfl⟩ (by rfl) (.inl rfl))))
                · replace h := ifF c71 h
                  replace c71 := eq_false_of_ne_true c71
                  refine TL.nil (X.seq ?_)
                  refine T.yes rfl (bn_t c71) ?_
                  refine T.seq (T.region rfl ?_)
                  refine TL.run ft_cursitorref11_ok [0] rfl rfl ?_
                  obtain rfl := Option.some.inj h
                  exact TL.nil (X.seq (T.ret (X.rs (X.done1 [1] Tryz.results44 (RV.tm rfl) ⟨rfl, rfl, rfl⟩ (by rfl) (.inl rfl)))))
      · replace h := ifF c10 h
        replace c10 := eq_false_of_ne_true c10
        refine TL.rw ft_cursitorref11_ok 3 rfl ?_
        refine TL.hv 23 rfl (bn_t c10) ?_
        refine TL.rw ft_cursitorref11_ok 17 rfl ?_
        refine TL.nil (X.seq ?_)
        refine T.yes rfl rfl ?_
        refine T.seq (T.region rfl ?_)
        refine TL.run ft_cursitorref11_ok [0] rfl rfl ?_
        obtain rfl := Option.some.inj h
        exact TL.nil (X.seq (T.ret (X.rs (X.done1 [1] Tryz.results44 (RV.tm rfl) ⟨rfl, rfl, rfl⟩ (by rfl) (.inl rfl)))))
    · replace h := ifF c7 h
      replace c7 := eq_false_of_ne_true c7
      refine TL.rw ft_cursitorref11_ok 3 rfl ?_
      refine TL.hv 17 rfl (bn_t c7) ?_
      refine TL.rw ft_cursitorref11_ok 23 rfl ?_
      refine TL.nil (X.seq ?_)
      refine T.yes rfl rfl ?_
      refine T.seq (T.region rfl ?_)
      refine TL.run ft_cursitorref11_ok [0] rfl rfl ?_
      obtain rfl := Option.some.inj h
      exact TL.nil (X.seq (T.ret (X.rs (X.done1 [1] Tryz.results44 (RV.tm rfl) ⟨rfl, rfl, rfl⟩ (by rfl) (.inl rfl)))))
end Go.Proofs.YtlhgogjcaegehaaGreat.Sl
