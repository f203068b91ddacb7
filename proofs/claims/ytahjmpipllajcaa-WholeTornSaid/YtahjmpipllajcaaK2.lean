/- wholeTorn_holds: part 2. -/
import Derived.Test.YtahjmpipllajcaaK1
namespace Go.Proofs.Ytahjmpipllajcaa.Sl
open Go.RowKit
set_option linter.unusedVariables false
set_option linter.unusedSimpArgs false
set_option maxRecDepth 100000
def ft_crc : FTab := []
theorem ft_crc_ok : (ft_crc).OK Try.prog := trivial
theorem mix_crc : Try.prog.follows .mixedOrders = true := by kernel_rfl
def f_crc_New_l2 : Nat → Int → Nat → Option (Int × Nat)
  | 0, _, _ => none
  | m40 + 1, y35, k36 => if (k36 : Int) < 8 then ((if (Go.bits .and .u32 y35 1) = 1 then (some (Go.bits .xor .u32 (shrK .u32 y35 1) 2197175160)) else some (shrK .u32 y35 1)).bind fun y46 => if -9223372036854775808 ≤ ((k36 : Int) + 1) ∧ ((k36 : Int) + 1) ≤ 9223372036854775807 then (f_crc_New_l2 m40 y46 (k36 + 1)) else none) else some (y35, k36)
def f_crc_New_l1 : Nat → Nat → List Int → Option (Nat × List Int)
  | 0, _, _ => none
  | m7 + 1, k2, st3 => if (k2 : Int) < 256 then (((f_crc_New_l2 ((8 : Int).toNat + 1) (IntKind.u32.wrap (k2 : Int)) 0).bind fun (y52, k53) => (st3[k2]?).bind fun x54 => some (st3.set k2 y52)).bind fun st33 => if -9223372036854775808 ≤ ((k2 : Int) + 1) ∧ ((k2 : Int) + 1) ≤ 9223372036854775807 then (f_crc_New_l1 m7 (k2 + 1) st33) else none) else some (k2, st3)
def f_crc_New  : Option (List Int) := (f_crc_New_l1 ((256 : Int).toNat + 1) 0 (List.replicate 256 (0 : Int))).bind fun (k57, st58) => some st58
set_option maxRecDepth 100000 in
set_option maxHeartbeats 4000000 in
theorem f_crc_New_spec  (r : List Int) (h : f_crc_New  = some r) : SpecX Try.prog 52 #[] .triv (EmpR) (fun v A' N => ∃ q : Nat, v = .pointer (some ⟨q, 0, none⟩) ∧ A' = EmpR ∧ N = [TabR 143 q r]) := by
  refine enterA Try.func52 rfl Try.ntmps52 rfl ?_
  intro F w hX
  unfold f_crc_New at h
  refine T.seq (T.region rfl ?_)
  refine TL.run ft_crc_ok [0] rfl rfl ?_
  refine TL.nil (X.seq (T.seq (T.region rfl ?_)))
  refine TL.q rfl .u (Ex.bldZ Try.zeroValue143 Try.runUnderlying143 Try.sizeOf94) rfl ?_
  refine TL.tNew rfl .u rfl (by kernel_rfl) rfl (fun b1 => ?_)
  refine TL.run ft_crc_ok [2] rfl rfl ?_
  refine TL.nil (X.seq (T.seq (T.seq (T.region rfl ?_))))
  refine TL.run ft_crc_ok [0] rfl rfl ?_
  refine TL.nil (X.seq (T.block ?_))
  obtain ⟨E4, hE5, hO6⟩ := Option.bind_eq_some_iff.1 h
  refine T.lp (fun m e Rs => ∃ (k2 : Nat) (st3 : List Int), e = [(0, .pointer none), (1, .pointer (some ⟨b1, 0, none⟩)), (6, .int .i64 (k2 : Int))] ∧ Rs = [TabR 143 b1 st3, EmpR] ∧ f_crc_New_l1 m k2 st3 = some E4) ((256 : Int).toNat + 1) [0, 0] ⟨0, (List.replicate 256 (0 : Int)), rfl, rfl, by exact hE5⟩ (by rfl) (by rfl) ?_
  rintro m7 _ _ ⟨k2, st3, rfl, rfl, hl9⟩
  clear hE5 h
  cases m7 with
  | zero =>
    rw [f_crc_New_l1] at hl9
    cases hl9
  | succ m7 =>
    have h := hl9
    clear hl9
    rw [f_crc_New_l1] at h
    refine T.seq (T.region rfl ?_)
    refine TL.run ft_crc_ok [0] rfl rfl ?_
    by_cases c11 : (k2 : Int) < 256
    · replace h := ifT c11 h
      refine TL.nil (X.seq (T.seq ?_))
      refine T.yes rfl (decide_eq_true c11) ?_
      refine T.skip (X.seq (T.seq ?_))
      obtain ⟨st33, h, hk34⟩ := Option.bind_eq_some_iff.1 h
      refine T.jq (fun e Rs => e = [(0, .pointer none), (1, .pointer (some ⟨b1, 0, none⟩)), (6, .int .i64 (k2 : Int))] ∧ Rs = [TabR 143 b1 st33, EmpR]) ?_ ?_
      · clear hk34
        refine T.block (T.seq (T.region rfl ?_))
        refine TL.run ft_crc_ok [0, 1] rfl rfl ?_
        refine TL.nil (X.seq (T.seq (T.region rfl ?_)))
        refine TL.run ft_crc_ok [0] rfl rfl ?_
        refine TL.q rfl .u (Ex.conv rfl Try.runUnderlying3 Try.runUnderlying94) rfl ?_
        refine TL.run ft_crc_ok [2] rfl rfl ?_
        refine TL.nil (X.seq (T.seq (T.seq (T.region rfl ?_))))
        refine TL.run ft_crc_ok [0] rfl rfl ?_
        refine TL.nil (X.seq (T.block ?_))
        obtain ⟨E37, hE38, hO39⟩ := Option.bind_eq_some_iff.1 h
        refine T.lp (fun m e Rs => ∃ (y35 : Int) (k36 : Nat), e = [(0, .pointer none), (1, .pointer (some ⟨b1, 0, none⟩)), (2, .int .i64 (k2 : Int)), (3, .int .u32 y35), (6, .int .i64 (k2 : Int)), (11, .int .i64 (k36 : Int))] ∧ Rs = [TabR 143 b1 st3, EmpR] ∧ f_crc_New_l2 m y35 k36 = some E37) ((8 : Int).toNat + 1) [0, 0] ⟨(IntKind.u32.wrap (k2 : Int)), 0, rfl, rfl, by exact hE38⟩ (by rfl) (by rfl) ?_
        rintro m40 _ _ ⟨y35, k36, rfl, rfl, hl42⟩
        clear hE38 h
        cases m40 with
        | zero =>
          rw [f_crc_New_l2] at hl42
          cases hl42
        | succ m40 =>
          have h := hl42
          clear hl42
          rw [f_crc_New_l2] at h
          refine T.seq (T.region rfl ?_)
          refine TL.run ft_crc_ok [0] rfl rfl ?_
          by_cases c44 : (k36 : Int) < 8
          · replace h := ifT c44 h
            refine TL.nil (X.seq (T.seq ?_))
            refine T.yes rfl (decide_eq_true c44) ?_
            refine T.skip (X.seq (T.seq (T.block (T.seq (T.region rfl ?_)))))
            refine TL.run ft_crc_ok [0] rfl rfl ?_
            refine TL.q rfl .u (Ex.bitw rfl rfl rfl) rfl ?_
            refine TL.run ft_crc_ok [2] rfl rfl ?_
            refine TL.nil (X.seq ?_)
            obtain ⟨y46, h, hk47⟩ := Option.bind_eq_some_iff.1 h
            refine T.jq (fun e Rs => e = [(0, .pointer none), (1, .pointer (some ⟨b1, 0, none⟩)), (2, .int .i64 (k2 : Int)), (3, .int .u32 y46), (6, .int .i64 (k2 : Int)), (11, .int .i64 (k36 : Int))] ∧ Rs = [TabR 143 b1 st3, EmpR]) ?_ ?_
            · clear hk47
              by_cases c48 : (Go.bits .and .u32 y35 1) = 1
              · replace h := ifT c48 h
                refine T.yes rfl (decide_eq_true c48) ?_
                refine T.region rfl ?_
                refine TL.run ft_crc_ok [0] rfl rfl ?_
                refine TL.q rfl .u (Ex.shr rfl rfl (by decide)) rfl ?_
                refine TL.q rfl .u (Ex.bitw rfl rfl rfl) rfl ?_
                refine TL.run ft_crc_ok [3] rfl rfl ?_
                cases h
                exact TL.nil (X.jq [0, 0] ⟨rfl, rfl⟩ (by rfl) (by rfl))
              · replace h := ifF c48 h
                refine T.no rfl (decide_eq_false c48) ?_
                refine T.region rfl ?_
                refine TL.run ft_crc_ok [0] rfl rfl ?_
                refine TL.q rfl .u (Ex.shr rfl rfl (by decide)) rfl ?_
                refine TL.run ft_crc_ok [2] rfl rfl ?_
                cases h
                exact TL.nil (X.jq [0, 0] ⟨rfl, rfl⟩ (by rfl) (by rfl))
            · rintro _ _ ⟨rfl, rfl⟩
              clear h
              have h := hk47
              clear hk47
              try dsimp only at h
              replace h := guard_some h
              obtain ⟨c49, h⟩ := h
              refine X.blk (X.seq (T.region rfl ?_))
              refine TL.q rfl .u (Ex.add rfl rfl c49) rfl ?_
              refine TL.run ft_crc_ok [1] rfl rfl ?_
              exact TL.nil (X.back (m' := m40) [0, 0] (by omega) ⟨y46, k36 + 1, rfl, rfl, h⟩ (by rfl) (by rfl))
          · replace h := ifF c44 h
            refine TL.nil (X.seq (T.seq ?_))
            refine T.no rfl (decide_eq_false c44) ?_
            obtain rfl := Option.some.inj h
            replace h := hO39
            clear hO39
            try dsimp only at h
            refine T.exit (X.exs (X.exs (X.ex (X.seq (T.region rfl ?_)))))
            obtain ⟨x50, hx51, h⟩ := Option.bind_eq_some_iff.1 h
            refine TL.run ft_crc_ok [0, 1, 2, 3] rfl rfl ?_
            refine TL.q rfl .u (Ex.tIx (k := k2) 0 rfl rfl rfl Try.runUnderlying143 Try.sizeOf94 rfl hx51) rfl ?_
            refine TL.tSt (k := k2) 0 rfl .u rfl rfl Try.sizeOf94 rfl hx51 ?_
            refine TL.sel [0, 0] rfl ?_
            cases h
            exact TL.nil (X.blk (X.jq [0, 0] ⟨rfl, rfl⟩ (by rfl) (by rfl)))
      · rintro _ _ ⟨rfl, rfl⟩
        clear h
        have h := hk34
        clear hk34
        try dsimp only at h
        replace h := guard_some h
        obtain ⟨c56, h⟩ := h
        refine X.seq (T.region rfl ?_)
        refine TL.q rfl .u (Ex.add rfl rfl c56) rfl ?_
        refine TL.run ft_crc_ok [1] rfl rfl ?_
        exact TL.nil (X.back (m' := m7) [0, 0] (by omega) ⟨k2 + 1, st33, rfl, rfl, h⟩ (by rfl) (by rfl))
    · replace h := ifF c11 h
      refine TL.nil (X.seq (T.seq ?_))
      refine T.no rfl (decide_eq_false c11) ?_
      obtain rfl := Option.some.inj h
      replace h := hO6
      clear hO6
      try dsimp only at h
      refine T.exit (X.exs (X.exs (X.ex (X.seq (T.seq (T.region rfl ?_))))))
      refine TL.run ft_crc_ok [0, 1] rfl rfl ?_
      obtain rfl := Option.some.inj h
      exact TL.nil (X.seq (T.ret (X.done1 [1, 0] Try.results52 (RV.tm rfl) ⟨_, rfl, rfl, rfl⟩ (by rfl) (.inl rfl))))
def f_crc_TableMore_l1 (a2 : List UInt8) : Nat → Int → Nat → List Int → Option (Int × Nat × List Int)
  | 0, _, _, _ => none
  | m7 + 1, y1, k2, st3 => if (k2 : Int) < (a2.length : Int) then ((a2[k2]?).bind fun ch12 => if 0 ≤ (Go.bits .xor .u8 (IntKind.u8.wrap y1) (ch12.toNat : Int)) then ((st3[(Go.bits .xor .u8 (IntKind.u8.wrap y1) (ch12.toNat : Int)).toNat]?).bind fun x15 => if -9223372036854775808 ≤ ((k2 : Int) + 1) ∧ ((k2 : Int) + 1) ≤ 9223372036854775807 then (f_crc_TableMore_l1 a2 m7 (Go.bits .xor .u32 x15 (shrK .u32 y1 8)) (k2 + 1) st3) else none) else none) else some (y1, k2, st3)
def f_crc_TableMore (st : List Int) (a1 : Int) (a2 : List UInt8) : Option (Int × List Int) := (f_crc_TableMore_l1 a2 (((a2.length : Int)).toNat + 1) (Go.bits .xor .u32 4294967295 a1) 0 st).bind fun (y18, k19, st20) => some ((Go.bits .xor .u32 4294967295 y18), st20)
set_option maxRecDepth 100000 in
set_option maxHeartbeats 4000000 in
theorem f_crc_TableMore_spec (g : Nat) (st : List Int) (a1 : Int) (a2 : List UInt8) (r : Int × List Int) (h : f_crc_TableMore st a1 a2 = some r) : SpecX Try.prog 82 #[.pointer (some ⟨g, 0, none⟩), .int .u32 a1, .string (bsOf a2)] .triv (TabR 143 g st) (fun v A' N => v = .int .u32 r.1 ∧ A' = TabR 143 g r.2 ∧ N = []) := by
  refine enterA Try.func82 rfl Try.ntmps82 rfl ?_
  intro F w hX
  unfold f_crc_TableMore at h
  refine T.seq (T.region rfl ?_)
  refine TL.run ft_crc_ok [0] rfl rfl ?_
  refine TL.nil (X.seq (T.seq (T.region rfl ?_)))
  refine TL.run ft_crc_ok [0] rfl rfl ?_
  refine TL.q rfl .u (Ex.notK rfl) rfl ?_
  refine TL.run ft_crc_ok [2] rfl rfl ?_
  refine TL.nil (X.seq (T.seq (T.seq (T.region rfl ?_))))
  refine TL.run ft_crc_ok [0] rfl rfl ?_
  refine TL.q rfl .u (Ex.lenB rfl Try.runUnderlying9) rfl ?_
  refine TL.run ft_crc_ok [2] rfl rfl ?_
  refine TL.nil (X.seq (T.block ?_))
  obtain ⟨E4, hE5, hO6⟩ := Option.bind_eq_some_iff.1 h
  refine T.lp (fun m e Rs => ∃ (y1 : Int) (k2 : Nat) (st3 : List Int), e = [(0, .pointer (some ⟨g, 0, none⟩)), (2, .string (bsOf a2)), (6, .int .u32 0), (7, .int .u32 y1), (12, .int .i64 (a2.length : Int)), (13, .int .i64 (k2 : Int))] ∧ Rs = [TabR 143 g st3] ∧ f_crc_TableMore_l1 a2 m y1 k2 st3 = some E4) (((a2.length : Int)).toNat + 1) [0] ⟨(Go.bits .xor .u32 4294967295 a1), 0, st, rfl, rfl, by exact hE5⟩ (by rfl) (by rfl) ?_
  rintro m7 _ _ ⟨y1, k2, st3, rfl, rfl, hl9⟩
  clear hE5 h
  cases m7 with
  | zero =>
    rw [f_crc_TableMore_l1] at hl9
    cases hl9
  | succ m7 =>
    have h := hl9
    clear hl9
    rw [f_crc_TableMore_l1] at h
    refine T.seq (T.region rfl ?_)
    refine TL.run ft_crc_ok [0] rfl rfl ?_
    by_cases c11 : (k2 : Int) < (a2.length : Int)
    · replace h := ifT c11 h
      refine TL.nil (X.seq (T.seq ?_))
      refine T.yes rfl (decide_eq_true c11) ?_
      refine T.skip (X.seq (T.seq (T.block (T.seq (T.region rfl ?_)))))
      refine TL.run ft_crc_ok [0, 1] rfl rfl ?_
      refine TL.nil (X.seq (T.draw (.q 0 (.q 1 (.q 2 (.q 3 (.q 4 (.q 5 (.q 6 (.q 7 (.q 8 (.q 9 (.q 10 (.q 11 (.q 12 (.q 13 .nil)))))))))))))) [0] rfl mix_crc (NoP.blk (NoP.seq (NoP.seq (NoP.blk (NoP.seq np_post))))) (by kernel_rfl) ?_))
      refine TD.run ft_crc_ok [0, 1] rfl rfl ?_
      refine TD.q rfl .u (Ex.conv rfl Try.runUnderlying94 Try.runUnderlying5) rfl ?_
      obtain ⟨ch12, hc13, h⟩ := Option.bind_eq_some_iff.1 h
      refine TD.run ft_crc_ok [3, 4] rfl rfl ?_
      refine TD.q rfl .u (Ex.sIx rfl rfl rfl Try.underlying9 hc13) rfl ?_
      refine TD.q rfl .u (Ex.bitw rfl rfl rfl) rfl ?_
      replace h := guard_some h
      obtain ⟨c14, h⟩ := h
      obtain ⟨x15, hx16, h⟩ := Option.bind_eq_some_iff.1 h
      refine TD.run ft_crc_ok [7] rfl rfl ?_
      refine TD.q rfl .u (Ex.tIx (k := (Go.bits .xor .u8 (IntKind.u8.wrap y1) (ch12.toNat : Int)).toNat) 0 rfl rfl ((Int.toNat_of_nonneg c14).symm) Try.runUnderlying143 Try.sizeOf94 rfl hx16) rfl ?_
      refine TD.q rfl .u (Ex.tLd (k := (Go.bits .xor .u8 (IntKind.u8.wrap y1) (ch12.toNat : Int)).toNat) 0 rfl Try.isAgg94 rfl hx16) rfl ?_
      refine TD.run ft_crc_ok [10] rfl rfl ?_
      refine TD.q rfl .u (Ex.shr rfl rfl (by decide)) rfl ?_
      refine TD.q rfl .u (Ex.bitw rfl rfl rfl) rfl ?_
      refine TD.run ft_crc_ok [13] rfl rfl ?_
      replace h := guard_some h
      obtain ⟨c17, h⟩ := h
      refine TD.nil (X.blk (X.seq (T.region rfl ?_)))
      refine TL.q rfl .u (Ex.add rfl rfl c17) rfl ?_
      refine TL.run ft_crc_ok [1] rfl rfl ?_
      exact TL.nil (X.back (m' := m7) [0] (by omega) ⟨(Go.bits .xor .u32 x15 (shrK .u32 y1 8)), k2 + 1, st3, rfl, rfl, h⟩ (by rfl) (by rfl))
    · replace h := ifF c11 h
      refine TL.nil (X.seq (T.seq ?_))
      refine T.no rfl (decide_eq_false c11) ?_
      obtain rfl := Option.some.inj h
      replace h := hO6
      clear hO6
      try dsimp only at h
      refine T.exit (X.exs (X.exs (X.ex (X.seq (T.seq (T.region rfl ?_))))))
      refine TL.run ft_crc_ok [0] rfl rfl ?_
      refine TL.q rfl .u (Ex.notK rfl) rfl ?_
      refine TL.run ft_crc_ok [2] rfl rfl ?_
      obtain rfl := Option.some.inj h
      exact TL.nil (X.seq (T.ret (X.done1 [0] Try.results82 (RV.tm rfl) ⟨rfl, rfl, rfl⟩ (by rfl) (.inl rfl))))
def f_crc_TableSum_l1 : List (List UInt8) → Int → List Int → Option (Int × List Int)
  | [], y3, st5 => some (y3, st5)
  | x10 :: xs, y3, st5 => (f_crc_TableMore st5 y3 x10).bind fun (x14, st15) => f_crc_TableSum_l1 xs x14 st15
def f_crc_TableSum (st : List Int) (a1 : List (List UInt8)) : Option (Int × List Int) := (f_crc_TableSum_l1 a1 0 st).bind fun (y17, st19) => some (y17, st19)
set_option maxRecDepth 100000 in
set_option maxHeartbeats 4000000 in
theorem f_crc_TableSum_spec (g : Nat) (st : List Int) (a1 : List (List UInt8)) (A1 : Option Addr) (c2 : Nat) (r : Int × List Int) (h : f_crc_TableSum st a1 = some r) : SpecX Try.prog 53 #[.pointer (some ⟨g, 0, none⟩), .slice A1 a1.length c2] (RX.of (sliceRd 1 strE) [.slice A1 a1.length c2] a1) (TabR 143 g st) (fun v A' N => v = .int .u32 r.1 ∧ A' = TabR 143 g r.2 ∧ N = []) := by
  refine enterA Try.func53 rfl Try.ntmps53 rfl ?_
  intro F w hX
  unfold f_crc_TableSum at h
  refine T.seq (T.region rfl ?_)
  refine TL.run ft_crc_ok [0] rfl rfl ?_
  refine TL.nil (X.seq (T.seq (T.region rfl ?_)))
  refine TL.run ft_crc_ok [0] rfl rfl ?_
  refine TL.nil (X.seq (T.seq (T.seq (T.region rfl ?_))))
  refine TL.run ft_crc_ok [0] rfl rfl ?_
  refine TL.q rfl .u (Ex.lenS rfl Try.runUnderlying39) rfl ?_
  refine TL.run ft_crc_ok [2] rfl rfl ?_
  refine TL.nil (X.seq (T.block ?_))
  obtain ⟨E6, hE7, hO8⟩ := Option.bind_eq_some_iff.1 h
  have hk12len := RX.len_le hX
  refine T.lp (fun m e Rs => ∃ (y3 : Int) (k4 : Nat) (st5 : List Int), k4 + m = a1.length ∧ e = [(0, .pointer (some ⟨g, 0, none⟩)), (4, .int .u32 0), (5, .int .u32 y3), (8, .slice A1 a1.length c2), (9, .int .i64 (a1.length : Int)), (10, .int .i64 (k4 : Int))] ∧ Rs = [TabR 143 g st5] ∧ f_crc_TableSum_l1 (a1.drop k4) y3 st5 = some E6) (a1.length) [0] ⟨0, 0, st, by simp, rfl, rfl, by rw [List.drop_zero]; exact hE7⟩ (by rfl) (by rfl) ?_
  rintro m9 _ _ ⟨y3, k4, st5, hk12, rfl, rfl, hl11⟩
  clear hE7 h
  cases m9 with
  | zero =>
    have h := hl11
    clear hl11
    rw [List.drop_of_length_le (by omega), f_crc_TableSum_l1] at h
    have hk12ge : ¬ ((k4 : Int) < (a1.length : Int)) := by omega
    refine T.seq (T.region rfl ?_)
    refine TL.run ft_crc_ok [0] rfl rfl ?_
    refine TL.nil (X.seq (T.seq ?_))
    refine T.no rfl (decide_eq_false hk12ge) ?_
    obtain rfl := Option.some.inj h
    replace h := hO8
    clear hO8
    try dsimp only at h
    refine T.exit (X.exs (X.exs (X.ex (X.seq (T.seq (T.region rfl ?_))))))
    refine TL.run ft_crc_ok [0, 1] rfl rfl ?_
    obtain rfl := Option.some.inj h
    exact TL.nil (X.seq (T.ret (X.done1 [0] Try.results53 (RV.tm rfl) ⟨rfl, rfl, rfl⟩ (by rfl) (.inl rfl))))
  | succ m9 =>
    have h := hl11
    clear hl11
    obtain ⟨x10, hxx10⟩ : ∃ x, a1[k4]? = some x := ⟨_, List.getElem?_eq_getElem (by omega)⟩
    rw [drop_cons hxx10, f_crc_TableSum_l1] at h
    have hk12lt : (k4 : Int) < (a1.length : Int) := by omega
    refine T.seq (T.region rfl ?_)
    refine TL.run ft_crc_ok [0] rfl rfl ?_
    refine TL.nil (X.seq (T.seq ?_))
    refine T.yes rfl (decide_eq_true hk12lt) ?_
    obtain ⟨gz13, oz13, rfl, z13cs, z13cl, z13cc, z13nf, z13r⟩ := RX.elem (by decide) hX hxx10
    obtain ⟨z13S, z13r, z13rr⟩ := z13r
    obtain rfl : z13cs = [.string (bsOf x10)] := z13r
    refine T.skip (X.seq (T.seq (T.block (T.seq (T.region rfl ?_)))))
    refine TL.q rfl .u (Ex.ixS (k := k4) rfl rfl rfl Try.runUnderlying39 Try.sizeOf9 (List.getElem?_eq_some_iff.1 hxx10).1) rfl ?_
    refine TL.q rfl .u (Ex.o1 0 rfl Try.isAgg9 z13nf z13cc rfl rfl) rfl ?_
    refine TL.run ft_crc_ok [2] rfl rfl ?_
    refine TL.nil (X.seq (T.region rfl ?_))
    obtain ⟨⟨x14, st15⟩, hx16, h⟩ := Option.bind_eq_some_iff.1 h
    try dsimp only at h
    refine TL.run ft_crc_ok [0, 1, 2] rfl rfl ?_
    refine TL.c0 rfl .u (.fn Try.call82 rfl) (f_crc_TableMore_spec g st5 y3 x10 _ hx16) (fun _ hs => (Src.triv _)) rfl ?_
    refine TL.run ft_crc_ok [4] rfl rfl ?_
    refine TL.nil (X.blk (X.seq (T.region rfl ?_)))
    refine TL.q rfl .u (Ex.add rfl rfl (by omega)) rfl ?_
    refine TL.run ft_crc_ok [1] rfl rfl ?_
    exact TL.nil (X.back (m' := m9) [0] (by omega) ⟨x14, k4 + 1, st15, by omega, rfl, rfl, h⟩ (by rfl) (by rfl))
end Go.Proofs.Ytahjmpipllajcaa.Sl
namespace Go.Proofs.Ytahjmpipllajcaa.Sl
open Go.RowKit
set_option linter.unusedVariables false
set_option linter.unusedSimpArgs false
set_option maxRecDepth 100000
def ft_prefix : FTab := [(105, 0, 0), (105, 1, 1), (105, 2, 2), (105, 3, 3), (105, 4, 4), (105, 5, 5), (105, 6, 6), (105, 7, 7), (105, 8, 8), (105, 9, 9), (105, 10, 10), (105, 11, 11), (140, 0, 0), (140, 1, 1)]
theorem ft_prefix_ok : (ft_prefix).OK Try.prog := ⟨FOK.mk Try.runUnderlying105 rfl Try.sizeOf3 rfl, FOK.mk Try.runUnderlying105 rfl Try.sizeOf3 rfl, FOK.mk Try.runUnderlying105 rfl Try.sizeOf3 rfl, FOK.mk Try.runUnderlying105 rfl Try.sizeOf3 rfl, FOK.mk Try.runUnderlying105 rfl Try.sizeOf3 rfl, FOK.mk Try.runUnderlying105 rfl Try.sizeOf3 rfl, FOK.mk Try.runUnderlying105 rfl Try.sizeOf3 rfl, FOK.mk Try.runUnderlying105 rfl Try.sizeOf3 rfl, FOK.mk Try.runUnderlying105 rfl Try.sizeOf3 rfl, FOK.mk Try.runUnderlying105 rfl Try.sizeOf3 rfl, FOK.mk Try.runUnderlying105 rfl Try.sizeOf3 rfl, FOK.mk Try.runUnderlying105 rfl Try.sizeOf3 rfl, FOK.mk Try.runUnderlying140 rfl Try.sizeOf138 rfl, FOK.mk Try.runUnderlying140 rfl Try.sizeOf3 rfl, trivial⟩
theorem mix_prefix : Try.prog.follows .mixedOrders = true := by kernel_rfl
theorem bok_prefix_105 : BOK Try.prog 105 #[.int .i64 0, .int .i64 0, .int .i64 0, .int .i64 0, .int .i64 0, .int .i64 0, .int .i64 0, .int .i64 0, .int .i64 0, .int .i64 0, .int .i64 0, .int .i64 0] [(0, 1), (1, 1), (2, 1), (3, 1), (4, 1), (5, 1), (6, 1), (7, 1), (8, 1), (9, 1), (10, 1), (11, 1)] := BOK.mk Try.zeroValue105 Try.runUnderlying105 (by intro w; simp)
theorem bok_prefix_140 : BOK Try.prog 140 #[.pointer none, .int .i64 0] [(0, 1), (1, 1)] := BOK.mk Try.zeroValue140 Try.runUnderlying140 (by intro w; simp)
theorem sok_prefix_136_13 : SOK Try.prog 136 140 13 2 #[.pointer none, .int .i64 0, .pointer none, .int .i64 0, .pointer none, .int .i64 0, .pointer none, .int .i64 0, .pointer none, .int .i64 0, .pointer none, .int .i64 0, .pointer none, .int .i64 0, .pointer none, .int .i64 0, .pointer none, .int .i64 0, .pointer none, .int .i64 0, .pointer none, .int .i64 0, .pointer none, .int .i64 0, .pointer none, .int .i64 0] := SOK.mk Try.runUnderlying136 Try.sizeOf140 Try.zeroValue140 (by decide) (by kernel_rfl)
def f_prefix_PrefixFields (p0 : Nat) (p1 : Nat) : Option (Unit) := some ()
set_option maxRecDepth 100000 in
set_option maxHeartbeats 4000000 in
theorem f_prefix_PrefixFields_spec (p0 : Nat) (p1 : Nat) (r : Unit) (h : f_prefix_PrefixFields p0 p1 = some r) : SpecX Try.prog 80 #[.pointer (some ⟨p0, 0, none⟩), .pointer (some ⟨p1, 0, none⟩)] .triv (EmpR) (fun v A' N => ∃ q : Nat, v = .slice (some ⟨q, 0, none⟩) 13 13 ∧ A' = EmpR ∧ N = [BlkR q 140 #[.pointer (some ⟨p0, 0, none⟩), .int .i64 8, .pointer (some ⟨p0, 1, none⟩), .int .i64 4, .pointer (some ⟨p0, 2, none⟩), .int .i64 4, .pointer (some ⟨p1, 0, none⟩), .int .i64 1, .pointer (some ⟨p0, 3, none⟩), .int .i64 4, .pointer (some ⟨p0, 4, none⟩), .int .i64 2, .pointer (some ⟨p0, 5, none⟩), .int .i64 4, .pointer (some ⟨p0, 6, none⟩), .int .i64 8, .pointer (some ⟨p0, 7, none⟩), .int .i64 8, .pointer (some ⟨p0, 8, none⟩), .int .i64 8, .pointer (some ⟨p0, 9, none⟩), .int .i64 2, .pointer (some ⟨p0, 10, none⟩), .int .i64 4, .pointer (some ⟨p0, 11, none⟩), .int .i64 4]]) := by
  refine enterA Try.func80 rfl Try.ntmps80 rfl ?_
  intro F w hX
  unfold f_prefix_PrefixFields at h
  refine T.seq (T.region rfl ?_)
  refine TL.run ft_prefix_ok [0] rfl rfl ?_
  refine TL.nil (X.seq (T.seq (T.draw (.q 0 (.q 1 (.q 2 (.q 3 (.q 4 (.q 5 (.q 6 (.q 7 (.q 8 (.q 9 (.q 10 (.q 11 (.q 12 (.q 13 (.q 14 (.q 15 (.q 16 (.q 17 (.q 18 (.q 19 (.q 20 (.q 21 (.q 22 (.q 23 (.q 24 (.q 25 (.q 26 (.q 27 (.q 28 (.q 29 (.q 30 (.q 31 (.q 32 (.q 33 (.q 34 (.q 35 (.q 36 (.q 37 (.q 38 (.q 39 (.q 40 (.q 41 (.q 42 (.q 43 (.q 44 (.q 45 (.q 46 (.q 47 (.q 48 (.q 49 (.e 50 (.q 51 .nil)))))))))))))))))))))))))))))))))))))))))))))))))))) [0] rfl mix_prefix (NoP.seq np_post) (by kernel_rfl) ?_)))
  refine TD.run ft_prefix_ok [0, 1, 2] rfl rfl ?_
  refine TD.q rfl .u (Ex.bld (cells := #[.pointer (some ⟨p0, 0, none⟩), .int .i64 8]) bok_prefix_140 rfl (by kernel_rfl)) rfl ?_
  refine TD.run ft_prefix_ok [4, 5, 6] rfl rfl ?_
  refine TD.q rfl .u (Ex.bld (cells := #[.pointer (some ⟨p0, 1, none⟩), .int .i64 4]) bok_prefix_140 rfl (by kernel_rfl)) rfl ?_
  refine TD.run ft_prefix_ok [8, 9, 10] rfl rfl ?_
  refine TD.q rfl .u (Ex.bld (cells := #[.pointer (some ⟨p0, 2, none⟩), .int .i64 4]) bok_prefix_140 rfl (by kernel_rfl)) rfl ?_
  refine TD.run ft_prefix_ok [12] rfl rfl ?_
  refine TD.q rfl .u (Ex.bld (cells := #[.pointer (some ⟨p1, 0, none⟩), .int .i64 1]) bok_prefix_140 rfl (by kernel_rfl)) rfl ?_
  refine TD.run ft_prefix_ok [14, 15, 16] rfl rfl ?_
  refine TD.q rfl .u (Ex.bld (cells := #[.pointer (some ⟨p0, 3, none⟩), .int .i64 4]) bok_prefix_140 rfl (by kernel_rfl)) rfl ?_
  refine TD.run ft_prefix_ok [18, 19, 20] rfl rfl ?_
  refine TD.q rfl .u (Ex.bld (cells := #[.pointer (some ⟨p0, 4, none⟩), .int .i64 2]) bok_prefix_140 rfl (by kernel_rfl)) rfl ?_
  refine TD.run ft_prefix_ok [22, 23, 24] rfl rfl ?_
  refine TD.q rfl .u (Ex.bld (cells := #[.pointer (some ⟨p0, 5, none⟩), .int .i64 4]) bok_prefix_140 rfl (by kernel_rfl)) rfl ?_
  refine TD.run ft_prefix_ok [26, 27, 28] rfl rfl ?_
  refine TD.q rfl .u (Ex.bld (cells := #[.pointer (some ⟨p0, 6, none⟩), .int .i64 8]) bok_prefix_140 rfl (by kernel_rfl)) rfl ?_
  refine TD.run ft_prefix_ok [30, 31, 32] rfl rfl ?_
  refine TD.q rfl .u (Ex.bld (cells := #[.pointer (some ⟨p0, 7, none⟩), .int .i64 8]) bok_prefix_140 rfl (by kernel_rfl)) rfl ?_
  refine TD.run ft_prefix_ok [34, 35, 36] rfl rfl ?_
  refine TD.q rfl .u (Ex.bld (cells := #[.pointer (some ⟨p0, 8, none⟩), .int .i64 8]) bok_prefix_140 rfl (by kernel_rfl)) rfl ?_
  refine TD.run ft_prefix_ok [38, 39, 40] rfl rfl ?_
  refine TD.q rfl .u (Ex.bld (cells := #[.pointer (some ⟨p0, 9, none⟩), .int .i64 2]) bok_prefix_140 rfl (by kernel_rfl)) rfl ?_
  refine TD.run ft_prefix_ok [42, 43, 44] rfl rfl ?_
  refine TD.q rfl .u (Ex.bld (cells := #[.pointer (some ⟨p0, 10, none⟩), .int .i64 4]) bok_prefix_140 rfl (by kernel_rfl)) rfl ?_
  refine TD.run ft_prefix_ok [46, 47, 48] rfl rfl ?_
  refine TD.q rfl .u (Ex.bld (cells := #[.pointer (some ⟨p0, 11, none⟩), .int .i64 4]) bok_prefix_140 rfl (by kernel_rfl)) rfl ?_
  refine TD.lit (cells := #[.pointer (some ⟨p0, 0, none⟩), .int .i64 8, .pointer (some ⟨p0, 1, none⟩), .int .i64 4, .pointer (some ⟨p0, 2, none⟩), .int .i64 4, .pointer (some ⟨p1, 0, none⟩), .int .i64 1, .pointer (some ⟨p0, 3, none⟩), .int .i64 4, .pointer (some ⟨p0, 4, none⟩), .int .i64 2, .pointer (some ⟨p0, 5, none⟩), .int .i64 4, .pointer (some ⟨p0, 6, none⟩), .int .i64 8, .pointer (some ⟨p0, 7, none⟩), .int .i64 8, .pointer (some ⟨p0, 8, none⟩), .int .i64 8, .pointer (some ⟨p0, 9, none⟩), .int .i64 2, .pointer (some ⟨p0, 10, none⟩), .int .i64 4, .pointer (some ⟨p0, 11, none⟩), .int .i64 4]) rfl .u sok_prefix_136_13 rfl (by kernel_rfl) rfl [1] (fun _ => rfl) (fun b1 => ?_)
  refine TD.run ft_prefix_ok [51] rfl rfl ?_
  obtain rfl := Option.some.inj h
  exact TD.nil (X.seq (T.ret (X.done1 [1, 0] Try.results80 (RV.tm rfl) ⟨_, rfl, rfl, rfl⟩ (by rfl) (.inl rfl))))
def f_prefix_Read (st : I)  : Option (Pfx × I) := (gInt st 8).bind fun (x6, st7) => (gInt st7 4).bind fun (x10, st11) => (gInt st11 4).bind fun (x14, st15) => (gInt st15 1).bind fun (x18, st19) => (gInt st19 4).bind fun (x22, st23) => (gInt st23 2).bind fun (x26, st27) => (gInt st27 4).bind fun (x30, st31) => (gInt st31 8).bind fun (x34, st35) => (gInt st35 8).bind fun (x38, st39) => (gInt st39 8).bind fun (x42, st43) => (gInt st43 2).bind fun (x46, st47) => (gInt st47 4).bind fun (x50, st51) => (gInt st51 4).bind fun (x54, st55) => (gErr st55).bind fun (x57, st58) => (if x57 = 0 then ((if x18 = 2 then ((if x10 < 49 then ((gIFail st58 4).bind fun st164 => some st164) else ((if x54 < 0 then ((gIFail st58 10).bind fun st172 => some st172) else some st58).bind fun st169 => some st169)).bind fun st161 => some st161) else ((gIFail st58 6).bind fun st174 => some st174)).bind fun st147 => some st147) else some st58).bind fun st117 => (gErr st117).bind fun (x176, st177) => if x176 = 0 then (some ((⟨x6, x10, x14, (Go.bits .and .i64 x22 4294967295), x26, x30, x34, x38, x42, x46, x50, x54⟩ : Pfx), st177)) else (some ((⟨0, 0, 0, 0, 0, 0, 0, 0, 0, 0, 0, 0⟩ : Pfx), st177))
set_option maxRecDepth 100000 in
set_option maxHeartbeats 4000000 in
theorem f_prefix_Read_spec (g : Nat) (st : I)  (r : Pfx × I) (h : f_prefix_Read st  = some r) : SpecX Try.prog 83 #[.pointer (some ⟨g, 0, none⟩)] .triv (InR g st) (fun v A' N => v = .agg #[.int .i64 r.1.fBase, .int .i64 r.1.fLength, .int .i64 r.1.fLeader, .int .i64 r.1.fSum, .int .i64 r.1.fAttr, .int .i64 r.1.fLast, .int .i64 r.1.fFirst, .int .i64 r.1.fMax, .int .i64 r.1.fProducer, .int .i64 r.1.fEpoch, .int .i64 r.1.fSequence, .int .i64 r.1.fCount] ∧ A' = InR g r.2 ∧ N = []) := by
  refine enterA Try.func83 rfl Try.ntmps83 rfl ?_
  intro F w hX
  unfold f_prefix_Read at h
  refine T.seq (T.region rfl ?_)
  refine TL.alloc rfl .u Try.zeroValue105 rfl (fun b1 => ?_)
  refine TL.nil (X.seq (T.seq (T.region rfl ?_)))
  refine TL.alloc rfl .u Try.zeroValue105 rfl (fun b2 => ?_)
  refine TL.nil (X.seq (T.seq (T.region rfl ?_)))
  refine TL.alloc rfl .u Try.zeroValue3 rfl (fun b3 => ?_)
  refine TL.st0 (cs' := #[.int .i64 0]) rfl .u rfl rfl Try.sizeOf3 rfl rfl rfl rfl ?_
  refine TL.nil (X.seq (T.seq (T.seq (T.region rfl ?_))))
  refine TL.cge rfl .u (.fn Try.call80 rfl) (f_prefix_PrefixFields_spec b2 b3 () rfl) (fun _ hs => RX.reads_triv _ _) rfl ?_
  rintro _ _ _ ⟨b4, rfl, rfl, rfl⟩
  refine TL.sel [0, 0, 0, 0, 0] rfl ?_
  refine TL.q rfl .u (Ex.lenS rfl Try.runUnderlying136) rfl ?_
  refine TL.run ft_prefix_ok [2] rfl rfl ?_
  refine TL.nil (X.seq (T.block ?_))
  refine T.unroll0 (TW.step (T.seq (T.region rfl ?_)))
  refine TL.run ft_prefix_ok [0] rfl rfl ?_
  refine TL.nil (X.seq (T.seq ?_))
  refine T.yes rfl (decide_eq_true (show 0 < 13 by omega)) ?_
  refine T.skip (X.seq (T.seq (T.block (T.seq (T.region rfl ?_)))))
  refine TL.q rfl .u (Ex.ixL (k := 0) (r := 0) rfl rfl rfl Try.runUnderlying136 Try.sizeOf140 (by decide) rfl) rfl ?_
  refine TL.q rfl .u (Ex.bS (us := [.pointer (some ⟨b2, 0, none⟩), .int .i64 8]) 0 rfl Try.isAgg140 Try.sizeOf140 rfl rfl rfl) rfl ?_
  refine TL.alloc rfl .u Try.zeroValue140 rfl (fun b5 => ?_)
  refine TL.st0 (cs' := #[.pointer (some ⟨b2, 0, none⟩), .int .i64 8]) rfl .u rfl rfl Try.sizeOf140 rfl rfl rfl rfl ?_
  refine TL.nil (X.seq (T.draw (.q 0 (.q 1 (.q 2 (.q 3 (.q 4 (.e 5 (.q 6 (.e 7 .nil)))))))) [0, 0, 0, 1] rfl mix_prefix (NoP.blk (NoP.seq (NoP.seq (NoP.blk (NoP.seq np_post))))) (by kernel_rfl) ?_))
  refine TD.run ft_prefix_ok [0] rfl rfl ?_
  refine TD.q rfl .u (Ex.b1 0 rfl Try.isAgg138 rfl rfl) rfl ?_
  refine TD.run ft_prefix_ok [2, 3] rfl rfl ?_
  refine TD.q rfl .u (Ex.b1 0 rfl Try.isAgg3 rfl rfl) rfl ?_
  obtain ⟨⟨x6, st7⟩, hx8, h⟩ := Option.bind_eq_some_iff.1 h
  try dsimp only at h
  refine TD.c5 rfl .u (.fn Try.call95 rfl) (gInt_spec g st 8 _ hx8) (fun _ hs => (Src.triv _)) rfl [0, 0, 0, 1] (rfl) ?_
  refine TD.run ft_prefix_ok [6] rfl rfl ?_
  refine TD.st3 (cs' := #[.int .i64 x6, .int .i64 0, .int .i64 0, .int .i64 0, .int .i64 0, .int .i64 0, .int .i64 0, .int .i64 0, .int .i64 0, .int .i64 0, .int .i64 0, .int .i64 0]) rfl .u rfl rfl Try.sizeOf3 rfl rfl rfl rfl [0, 0, 0, 1] (rfl) ?_
  refine TD.nil (X.blk (X.seq (T.region rfl ?_)))
  refine TL.q rfl .u (Ex.add rfl rfl (by omega)) rfl ?_
  refine TL.run ft_prefix_ok [1] rfl rfl ?_
  refine TL.nil (X.un (TW.step (T.seq (T.region rfl ?_))))
  refine TL.run ft_prefix_ok [0] rfl rfl ?_
  refine TL.nil (X.seq (T.seq ?_))
  refine T.yes rfl (decide_eq_true (show 1 < 13 by omega)) ?_
  refine T.skip (X.seq (T.seq (T.block (T.seq (T.region rfl ?_)))))
  refine TL.q rfl .u (Ex.ixL (k := 1) (r := 2) rfl rfl rfl Try.runUnderlying136 Try.sizeOf140 (by decide) rfl) rfl ?_
  refine TL.q rfl .u (Ex.bS (us := [.pointer (some ⟨b2, 1, none⟩), .int .i64 4]) 1 rfl Try.isAgg140 Try.sizeOf140 rfl rfl rfl) rfl ?_
  refine TL.alloc rfl .u Try.zeroValue140 rfl (fun b9 => ?_)
  refine TL.st0 (cs' := #[.pointer (some ⟨b2, 1, none⟩), .int .i64 4]) rfl .u rfl rfl Try.sizeOf140 rfl rfl rfl rfl ?_
  refine TL.nil (X.seq (T.draw (.q 0 (.q 1 (.q 2 (.q 3 (.q 4 (.e 5 (.q 6 (.e 7 .nil)))))))) [0, 0, 0, 0, 1] rfl mix_prefix (NoP.blk (NoP.seq (NoP.seq (NoP.blk (NoP.seq np_post))))) (by kernel_rfl) ?_))
  refine TD.run ft_prefix_ok [0] rfl rfl ?_
  refine TD.q rfl .u (Ex.b1 0 rfl Try.isAgg138 rfl rfl) rfl ?_
  refine TD.run ft_prefix_ok [2, 3] rfl rfl ?_
  refine TD.q rfl .u (Ex.b1 0 rfl Try.isAgg3 rfl rfl) rfl ?_
  obtain ⟨⟨x10, st11⟩, hx12, h⟩ := Option.bind_eq_some_iff.1 h
  try dsimp only at h
  refine TD.c6 rfl .u (.fn Try.call95 rfl) (gInt_spec g st7 4 _ hx12) (fun _ hs => (Src.triv _)) rfl [0, 0, 0, 0, 1] (rfl) ?_
  refine TD.run ft_prefix_ok [6] rfl rfl ?_
  refine TD.st4 (cs' := #[.int .i64 x6, .int .i64 x10, .int .i64 0, .int .i64 0, .int .i64 0, .int .i64 0, .int .i64 0, .int .i64 0, .int .i64 0, .int .i64 0, .int .i64 0, .int .i64 0]) rfl .u rfl rfl Try.sizeOf3 rfl rfl rfl rfl [0, 0, 0, 0, 1] (rfl) ?_
  refine TD.nil (X.blk (X.seq (T.region rfl ?_)))
  refine TL.q rfl .u (Ex.add rfl rfl (by omega)) rfl ?_
  refine TL.run ft_prefix_ok [1] rfl rfl ?_
  refine TL.nil ?_
  refine X.sel [0, 1, 1, 1, 1, 1] rfl ?_
  refine X.un (TW.step (T.seq (T.region rfl ?_)))
  refine TL.run ft_prefix_ok [0] rfl rfl ?_
  refine TL.nil (X.seq (T.seq ?_))
  refine T.yes rfl (decide_eq_true (show 2 < 13 by omega)) ?_
  refine T.skip (X.seq (T.seq (T.block (T.seq (T.region rfl ?_)))))
  refine TL.q rfl .u (Ex.ixL (k := 2) (r := 4) rfl rfl rfl Try.runUnderlying136 Try.sizeOf140 (by decide) rfl) rfl ?_
  refine TL.q rfl .u (Ex.bS (us := [.pointer (some ⟨b2, 2, none⟩), .int .i64 4]) 1 rfl Try.isAgg140 Try.sizeOf140 rfl rfl rfl) rfl ?_
  refine TL.alloc rfl .u Try.zeroValue140 rfl (fun b13 => ?_)
  refine TL.st0 (cs' := #[.pointer (some ⟨b2, 2, none⟩), .int .i64 4]) rfl .u rfl rfl Try.sizeOf140 rfl rfl rfl rfl ?_
  refine TL.nil (X.seq (T.draw (.q 0 (.q 1 (.q 2 (.q 3 (.q 4 (.e 5 (.q 6 (.e 7 .nil)))))))) [0, 0, 0, 0, 1] rfl mix_prefix (NoP.blk (NoP.seq (NoP.seq (NoP.blk (NoP.seq np_post))))) (by kernel_rfl) ?_))
  refine TD.run ft_prefix_ok [0] rfl rfl ?_
  refine TD.q rfl .u (Ex.b1 0 rfl Try.isAgg138 rfl rfl) rfl ?_
  refine TD.run ft_prefix_ok [2, 3] rfl rfl ?_
  refine TD.q rfl .u (Ex.b1 0 rfl Try.isAgg3 rfl rfl) rfl ?_
  obtain ⟨⟨x14, st15⟩, hx16, h⟩ := Option.bind_eq_some_iff.1 h
  try dsimp only at h
  refine TD.c6 rfl .u (.fn Try.call95 rfl) (gInt_spec g st11 4 _ hx16) (fun _ hs => (Src.triv _)) rfl [0, 0, 0, 0, 1] (rfl) ?_
  refine TD.run ft_prefix_ok [6] rfl rfl ?_
  refine TD.st4 (cs' := #[.int .i64 x6, .int .i64 x10, .int .i64 x14, .int .i64 0, .int .i64 0, .int .i64 0, .int .i64 0, .int .i64 0, .int .i64 0, .int .i64 0, .int .i64 0, .int .i64 0]) rfl .u rfl rfl Try.sizeOf3 rfl rfl rfl rfl [0, 0, 0, 0, 1] (rfl) ?_
  refine TD.nil (X.blk (X.seq (T.region rfl ?_)))
  refine TL.q rfl .u (Ex.add rfl rfl (by omega)) rfl ?_
  refine TL.run ft_prefix_ok [1] rfl rfl ?_
  refine TL.nil ?_
  refine X.sel [0, 1, 1, 1, 1, 1] rfl ?_
  refine X.un (TW.step (T.seq (T.region rfl ?_)))
  refine TL.run ft_prefix_ok [0] rfl rfl ?_
  refine TL.nil (X.seq (T.seq ?_))
  refine T.yes rfl (decide_eq_true (show 3 < 13 by omega)) ?_
  refine T.skip (X.seq (T.seq (T.block (T.seq (T.region rfl ?_)))))
  refine TL.q rfl .u (Ex.ixL (k := 3) (r := 6) rfl rfl rfl Try.runUnderlying136 Try.sizeOf140 (by decide) rfl) rfl ?_
  refine TL.q rfl .u (Ex.bS (us := [.pointer (some ⟨b3, 0, none⟩), .int .i64 1]) 1 rfl Try.isAgg140 Try.sizeOf140 rfl rfl rfl) rfl ?_
  refine TL.alloc rfl .u Try.zeroValue140 rfl (fun b17 => ?_)
  refine TL.st0 (cs' := #[.pointer (some ⟨b3, 0, none⟩), .int .i64 1]) rfl .u rfl rfl Try.sizeOf140 rfl rfl rfl rfl ?_
  refine TL.nil (X.seq (T.draw (.q 0 (.q 1 (.q 2 (.q 3 (.q 4 (.e 5 (.q 6 (.e 7 .nil)))))))) [0, 0, 0, 1, 1] rfl mix_prefix (NoP.blk (NoP.seq (NoP.seq (NoP.blk (NoP.seq np_post))))) (by kernel_rfl) ?_))
  refine TD.run ft_prefix_ok [0] rfl rfl ?_
  refine TD.q rfl .u (Ex.b1 0 rfl Try.isAgg138 rfl rfl) rfl ?_
  refine TD.run ft_prefix_ok [2, 3] rfl rfl ?_
  refine TD.q rfl .u (Ex.b1 0 rfl Try.isAgg3 rfl rfl) rfl ?_
  obtain ⟨⟨x18, st19⟩, hx20, h⟩ := Option.bind_eq_some_iff.1 h
  try dsimp only at h
  refine TD.c6 rfl .u (.fn Try.call95 rfl) (gInt_spec g st15 1 _ hx20) (fun _ hs => (Src.triv _)) rfl [0, 0, 0, 1, 1] (rfl) ?_
  refine TD.run ft_prefix_ok [6] rfl rfl ?_
  refine TD.st3 (cs' := #[.int .i64 x18]) rfl .u rfl rfl Try.sizeOf3 rfl rfl rfl rfl [0, 0, 0, 1, 1] (rfl) ?_
  refine TD.nil (X.blk (X.seq (T.region rfl ?_)))
  refine TL.q rfl .u (Ex.add rfl rfl (by omega)) rfl ?_
  refine TL.run ft_prefix_ok [1] rfl rfl ?_
  refine TL.nil ?_
  refine X.sel [0, 1, 1, 1, 1, 1] rfl ?_
  refine X.un (TW.step (T.seq (T.region rfl ?_)))
  refine TL.run ft_prefix_ok [0] rfl rfl ?_
  refine TL.nil (X.seq (T.seq ?_))
  refine T.yes rfl (decide_eq_true (show 4 < 13 by omega)) ?_
  refine T.skip (X.seq (T.seq (T.block (T.seq (T.region rfl ?_)))))
  refine TL.q rfl .u (Ex.ixL (k := 4) (r := 8) rfl rfl rfl Try.runUnderlying136 Try.sizeOf140 (by decide) rfl) rfl ?_
  refine TL.q rfl .u (Ex.bS (us := [.pointer (some ⟨b2, 3, none⟩), .int .i64 4]) 1 rfl Try.isAgg140 Try.sizeOf140 rfl rfl rfl) rfl ?_
  refine TL.alloc rfl .u Try.zeroValue140 rfl (fun b21 => ?_)
  refine TL.st0 (cs' := #[.pointer (some ⟨b2, 3, none⟩), .int .i64 4]) rfl .u rfl rfl Try.sizeOf140 rfl rfl rfl rfl ?_
  refine TL.nil (X.seq (T.draw (.q 0 (.q 1 (.q 2 (.q 3 (.q 4 (.e 5 (.q 6 (.e 7 .nil)))))))) [0, 0, 0, 0, 1] rfl mix_prefix (NoP.blk (NoP.seq (NoP.seq (NoP.blk (NoP.seq np_post))))) (by kernel_rfl) ?_))
  refine TD.run ft_prefix_ok [0] rfl rfl ?_
  refine TD.q rfl .u (Ex.b1 0 rfl Try.isAgg138 rfl rfl) rfl ?_
  refine TD.run ft_prefix_ok [2, 3] rfl rfl ?_
  refine TD.q rfl .u (Ex.b1 0 rfl Try.isAgg3 rfl rfl) rfl ?_
  obtain ⟨⟨x22, st23⟩, hx24, h⟩ := Option.bind_eq_some_iff.1 h
  try dsimp only at h
  refine TD.c6 rfl .u (.fn Try.call95 rfl) (gInt_spec g st19 4 _ hx24) (fun _ hs => (Src.triv _)) rfl [0, 0, 0, 0, 1] (rfl) ?_
  refine TD.run ft_prefix_ok [6] rfl rfl ?_
  refine TD.st4 (cs' := #[.int .i64 x6, .int .i64 x10, .int .i64 x14, .int .i64 x22, .int .i64 0, .int .i64 0, .int .i64 0, .int .i64 0, .int .i64 0, .int .i64 0, .int .i64 0, .int .i64 0]) rfl .u rfl rfl Try.sizeOf3 rfl rfl rfl rfl [0, 0, 0, 0, 1] (rfl) ?_
  refine TD.nil (X.blk (X.seq (T.region rfl ?_)))
  refine TL.q rfl .u (Ex.add rfl rfl (by omega)) rfl ?_
  refine TL.run ft_prefix_ok [1] rfl rfl ?_
  refine TL.nil ?_
  refine X.sel [0, 1, 1, 1, 1, 1] rfl ?_
  refine X.un (TW.step (T.seq (T.region rfl ?_)))
  refine TL.run ft_prefix_ok [0] rfl rfl ?_
  refine TL.nil (X.seq (T.seq ?_))
  refine T.yes rfl (decide_eq_true (show 5 < 13 by omega)) ?_
  refine T.skip (X.seq (T.seq (T.block (T.seq (T.region rfl ?_)))))
  refine TL.q rfl .u (Ex.ixL (k := 5) (r := 10) rfl rfl rfl Try.runUnderlying136 Try.sizeOf140 (by decide) rfl) rfl ?_
  refine TL.q rfl .u (Ex.bS (us := [.pointer (some ⟨b2, 4, none⟩), .int .i64 2]) 1 rfl Try.isAgg140 Try.sizeOf140 rfl rfl rfl) rfl ?_
  refine TL.alloc rfl .u Try.zeroValue140 rfl (fun b25 => ?_)
  refine TL.st0 (cs' := #[.pointer (some ⟨b2, 4, none⟩), .int .i64 2]) rfl .u rfl rfl Try.sizeOf140 rfl rfl rfl rfl ?_
  refine TL.nil (X.seq (T.draw (.q 0 (.q 1 (.q 2 (.q 3 (.q 4 (.e 5 (.q 6 (.e 7 .nil)))))))) [0, 0, 0, 0, 1] rfl mix_prefix (NoP.blk (NoP.seq (NoP.seq (NoP.blk (NoP.seq np_post))))) (by kernel_rfl) ?_))
  refine TD.run ft_prefix_ok [0] rfl rfl ?_
  refine TD.q rfl .u (Ex.b1 0 rfl Try.isAgg138 rfl rfl) rfl ?_
  refine TD.run ft_prefix_ok [2, 3] rfl rfl ?_
  refine TD.q rfl .u (Ex.b1 0 rfl Try.isAgg3 rfl rfl) rfl ?_
  obtain ⟨⟨x26, st27⟩, hx28, h⟩ := Option.bind_eq_some_iff.1 h
  try dsimp only at h
  refine TD.c6 rfl .u (.fn Try.call95 rfl) (gInt_spec g st23 2 _ hx28) (fun _ hs => (Src.triv _)) rfl [0, 0, 0, 0, 1] (rfl) ?_
  refine TD.run ft_prefix_ok [6] rfl rfl ?_
  refine TD.st4 (cs' := #[.int .i64 x6, .int .i64 x10, .int .i64 x14, .int .i64 x22, .int .i64 x26, .int .i64 0, .int .i64 0, .int .i64 0, .int .i64 0, .int .i64 0, .int .i64 0, .int .i64 0]) rfl .u rfl rfl Try.sizeOf3 rfl rfl rfl rfl [0, 0, 0, 0, 1] (rfl) ?_
  refine TD.nil (X.blk (X.seq (T.region rfl ?_)))
  refine TL.q rfl .u (Ex.add rfl rfl (by omega)) rfl ?_
  refine TL.run ft_prefix_ok [1] rfl rfl ?_
  refine TL.nil ?_
  refine X.sel [0, 1, 1, 1, 1, 1] rfl ?_
  refine X.un (TW.step (T.seq (T.region rfl ?_)))
  refine TL.run ft_prefix_ok [0] rfl rfl ?_
  refine TL.nil (X.seq (T.seq ?_))
  refine T.yes rfl (decide_eq_true (show 6 < 13 by omega)) ?_
  refine T.skip (X.seq (T.seq (T.block (T.seq (T.region rfl ?_)))))
  refine TL.q rfl .u (Ex.ixL (k := 6) (r := 12) rfl rfl rfl Try.runUnderlying136 Try.sizeOf140 (by decide) rfl) rfl ?_
  refine TL.q rfl .u (Ex.bS (us := [.pointer (some ⟨b2, 5, none⟩), .int .i64 4]) 1 rfl Try.isAgg140 Try.sizeOf140 rfl rfl rfl) rfl ?_
  refine TL.alloc rfl .u Try.zeroValue140 rfl (fun b29 => ?_)
  refine TL.st0 (cs' := #[.pointer (some ⟨b2, 5, none⟩), .int .i64 4]) rfl .u rfl rfl Try.sizeOf140 rfl rfl rfl rfl ?_
  refine TL.nil (X.seq (T.draw (.q 0 (.q 1 (.q 2 (.q 3 (.q 4 (.e 5 (.q 6 (.e 7 .nil)))))))) [0, 0, 0, 0, 1] rfl mix_prefix (NoP.blk (NoP.seq (NoP.seq (NoP.blk (NoP.seq np_post))))) (by kernel_rfl) ?_))
  refine TD.run ft_prefix_ok [0] rfl rfl ?_
  refine TD.q rfl .u (Ex.b1 0 rfl Try.isAgg138 rfl rfl) rfl ?_
  refine TD.run ft_prefix_ok [2, 3] rfl rfl ?_
  refine TD.q rfl .u (Ex.b1 0 rfl Try.isAgg3 rfl rfl) rfl ?_
  obtain ⟨⟨x30, st31⟩, hx32, h⟩ := Option.bind_eq_some_iff.1 h
  try dsimp only at h
  refine TD.c6 rfl .u (.fn Try.call95 rfl) (gInt_spec g st27 4 _ hx32) (fun _ hs => (Src.triv _)) rfl [0, 0, 0, 0, 1] (rfl) ?_
  refine TD.run ft_prefix_ok [6] rfl rfl ?_
  refine TD.st4 (cs' := #[.int .i64 x6, .int .i64 x10, .int .i64 x14, .int .i64 x22, .int .i64 x26, .int .i64 x30, .int .i64 0, .int .i64 0, .int .i64 0, .int .i64 0, .int .i64 0, .int .i64 0]) rfl .u rfl rfl Try.sizeOf3 rfl rfl rfl rfl [0, 0, 0, 0, 1] (rfl) ?_
  refine TD.nil (X.blk (X.seq (T.region rfl ?_)))
  refine TL.q rfl .u (Ex.add rfl rfl (by omega)) rfl ?_
  refine TL.run ft_prefix_ok [1] rfl rfl ?_
  refine TL.nil ?_
  refine X.sel [0, 1, 1, 1, 1, 1] rfl ?_
  refine X.un (TW.step (T.seq (T.region rfl ?_)))
  refine TL.run ft_prefix_ok [0] rfl rfl ?_
  refine TL.nil (X.seq (T.seq ?_))
  refine T.yes rfl (decide_eq_true (show 7 < 13 by omega)) ?_
  refine T.skip (X.seq (T.seq (T.block (T.seq (T.region rfl ?_)))))
  refine TL.q rfl .u (Ex.ixL (k := 7) (r := 14) rfl rfl rfl Try.runUnderlying136 Try.sizeOf140 (by decide) rfl) rfl ?_
  refine TL.q rfl .u (Ex.bS (us := [.pointer (some ⟨b2, 6, none⟩), .int .i64 8]) 1 rfl Try.isAgg140 Try.sizeOf140 rfl rfl rfl) rfl ?_
  refine TL.alloc rfl .u Try.zeroValue140 rfl (fun b33 => ?_)
  refine TL.st0 (cs' := #[.pointer (some ⟨b2, 6, none⟩), .int .i64 8]) rfl .u rfl rfl Try.sizeOf140 rfl rfl rfl rfl ?_
  refine TL.nil (X.seq (T.draw (.q 0 (.q 1 (.q 2 (.q 3 (.q 4 (.e 5 (.q 6 (.e 7 .nil)))))))) [0, 0, 0, 0, 1] rfl mix_prefix (NoP.blk (NoP.seq (NoP.seq (NoP.blk (NoP.seq np_post))))) (by kernel_rfl) ?_))
  refine TD.run ft_prefix_ok [0] rfl rfl ?_
  refine TD.q rfl .u (Ex.b1 0 rfl Try.isAgg138 rfl rfl) rfl ?_
  refine TD.run ft_prefix_ok [2, 3] rfl rfl ?_
  refine TD.q rfl .u (Ex.b1 0 rfl Try.isAgg3 rfl rfl) rfl ?_
  obtain ⟨⟨x34, st35⟩, hx36, h⟩ := Option.bind_eq_some_iff.1 h
  try dsimp only at h
  refine TD.c6 rfl .u (.fn Try.call95 rfl) (gInt_spec g st31 8 _ hx36) (fun _ hs => (Src.triv _)) rfl [0, 0, 0, 0, 1] (rfl) ?_
  refine TD.run ft_prefix_ok [6] rfl rfl ?_
  refine TD.st4 (cs' := #[.int .i64 x6, .int .i64 x10, .int .i64 x14, .int .i64 x22, .int .i64 x26, .int .i64 x30, .int .i64 x34, .int .i64 0, .int .i64 0, .int .i64 0, .int .i64 0, .int .i64 0]) rfl .u rfl rfl Try.sizeOf3 rfl rfl rfl rfl [0, 0, 0, 0, 1] (rfl) ?_
  refine TD.nil (X.blk (X.seq (T.region rfl ?_)))
  refine TL.q rfl .u (Ex.add rfl rfl (by omega)) rfl ?_
  refine TL.run ft_prefix_ok [1] rfl rfl ?_
  refine TL.nil ?_
  refine X.sel [0, 1, 1, 1, 1, 1] rfl ?_
  refine X.un (TW.step (T.seq (T.region rfl ?_)))
  refine TL.run ft_prefix_ok [0] rfl rfl ?_
  refine TL.nil (X.seq (T.seq ?_))
  refine T.yes rfl (decide_eq_true (show 8 < 13 by omega)) ?_
  refine T.skip (X.seq (T.seq (T.block (T.seq (T.region rfl ?_)))))
  refine TL.q rfl .u (Ex.ixL (k := 8) (r := 16) rfl rfl rfl Try.runUnderlying136 Try.sizeOf140 (by decide) rfl) rfl ?_
  refine TL.q rfl .u (Ex.bS (us := [.pointer (some ⟨b2, 7, none⟩), .int .i64 8]) 1 rfl Try.isAgg140 Try.sizeOf140 rfl rfl rfl) rfl ?_
  refine TL.alloc rfl .u Try.zeroValue140 rfl (fun b37 => ?_)
  refine TL.st0 (cs' := #[.pointer (some ⟨b2, 7, none⟩), .int .i64 8]) rfl .u rfl rfl Try.sizeOf140 rfl rfl rfl rfl ?_
  refine TL.nil (X.seq (T.draw (.q 0 (.q 1 (.q 2 (.q 3 (.q 4 (.e 5 (.q 6 (.e 7 .nil)))))))) [0, 0, 0, 0, 1] rfl mix_prefix (NoP.blk (NoP.seq (NoP.seq (NoP.blk (NoP.seq np_post))))) (by kernel_rfl) ?_))
  refine TD.run ft_prefix_ok [0] rfl rfl ?_
  refine TD.q rfl .u (Ex.b1 0 rfl Try.isAgg138 rfl rfl) rfl ?_
  refine TD.run ft_prefix_ok [2, 3] rfl rfl ?_
  refine TD.q rfl .u (Ex.b1 0 rfl Try.isAgg3 rfl rfl) rfl ?_
  obtain ⟨⟨x38, st39⟩, hx40, h⟩ := Option.bind_eq_some_iff.1 h
  try dsimp only at h
  refine TD.c6 rfl .u (.fn Try.call95 rfl) (gInt_spec g st35 8 _ hx40) (fun _ hs => (Src.triv _)) rfl [0, 0, 0, 0, 1] (rfl) ?_
  refine TD.run ft_prefix_ok [6] rfl rfl ?_
  refine TD.st4 (cs' := #[.int .i64 x6, .int .i64 x10, .int .i64 x14, .int .i64 x22, .int .i64 x26, .int .i64 x30, .int .i64 x34, .int .i64 x38, .int .i64 0, .int .i64 0, .int .i64 0, .int .i64 0]) rfl .u rfl rfl Try.sizeOf3 rfl rfl rfl rfl [0, 0, 0, 0, 1] (rfl) ?_
  refine TD.nil (X.blk (X.seq (T.region rfl ?_)))
  refine TL.q rfl .u (Ex.add rfl rfl (by omega)) rfl ?_
  refine TL.run ft_prefix_ok [1] rfl rfl ?_
  refine TL.nil ?_
  refine X.sel [0, 1, 1, 1, 1, 1] rfl ?_
  refine X.un (TW.step (T.seq (T.region rfl ?_)))
  refine TL.run ft_prefix_ok [0] rfl rfl ?_
  refine TL.nil (X.seq (T.seq ?_))
  refine T.yes rfl (decide_eq_true (show 9 < 13 by omega)) ?_
  refine T.skip (X.seq (T.seq (T.block (T.seq (T.region rfl ?_)))))
  refine TL.q rfl .u (Ex.ixL (k := 9) (r := 18) rfl rfl rfl Try.runUnderlying136 Try.sizeOf140 (by decide) rfl) rfl ?_
  refine TL.q rfl .u (Ex.bS (us := [.pointer (some ⟨b2, 8, none⟩), .int .i64 8]) 1 rfl Try.isAgg140 Try.sizeOf140 rfl rfl rfl) rfl ?_
  refine TL.alloc rfl .u Try.zeroValue140 rfl (fun b41 => ?_)
  refine TL.st0 (cs' := #[.pointer (some ⟨b2, 8, none⟩), .int .i64 8]) rfl .u rfl rfl Try.sizeOf140 rfl rfl rfl rfl ?_
  refine TL.nil (X.seq (T.draw (.q 0 (.q 1 (.q 2 (.q 3 (.q 4 (.e 5 (.q 6 (.e 7 .nil)))))))) [0, 0, 0, 0, 1] rfl mix_prefix (NoP.blk (NoP.seq (NoP.seq (NoP.blk (NoP.seq np_post))))) (by kernel_rfl) ?_))
  refine TD.run ft_prefix_ok [0] rfl rfl ?_
  refine TD.q rfl .u (Ex.b1 0 rfl Try.isAgg138 rfl rfl) rfl ?_
  refine TD.run ft_prefix_ok [2, 3] rfl rfl ?_
  refine TD.q rfl .u (Ex.b1 0 rfl Try.isAgg3 rfl rfl) rfl ?_
  obtain ⟨⟨x42, st43⟩, hx44, h⟩ := Option.bind_eq_some_iff.1 h
  try dsimp only at h
  refine TD.c6 rfl .u (.fn Try.call95 rfl) (gInt_spec g st39 8 _ hx44) (fun _ hs => (Src.triv _)) rfl [0, 0, 0, 0, 1] (rfl) ?_
  refine TD.run ft_prefix_ok [6] rfl rfl ?_
  refine TD.st4 (cs' := #[.int .i64 x6, .int .i64 x10, .int .i64 x14, .int .i64 x22, .int .i64 x26, .int .i64 x30, .int .i64 x34, .int .i64 x38, .int .i64 x42, .int .i64 0, .int .i64 0, .int .i64 0]) rfl .u rfl rfl Try.sizeOf3 rfl rfl rfl rfl [0, 0, 0, 0, 1] (rfl) ?_
  refine TD.nil (X.blk (X.seq (T.region rfl ?_)))
  refine TL.q rfl .u (Ex.add rfl rfl (by omega)) rfl ?_
  refine TL.run ft_prefix_ok [1] rfl rfl ?_
  refine TL.nil ?_
  refine X.sel [0, 1, 1, 1, 1, 1] rfl ?_
  refine X.un (TW.step (T.seq (T.region rfl ?_)))
  refine TL.run ft_prefix_ok [0] rfl rfl ?_
  refine TL.nil (X.seq (T.seq ?_))
  refine T.yes rfl (decide_eq_true (show 10 < 13 by omega)) ?_
  refine T.skip (X.seq (T.seq (T.block (T.seq (T.region rfl ?_)))))
  refine TL.q rfl .u (Ex.ixL (k := 10) (r := 20) rfl rfl rfl Try.runUnderlying136 Try.sizeOf140 (by decide) rfl) rfl ?_
  refine TL.q rfl .u (Ex.bS (us := [.pointer (some ⟨b2, 9, none⟩), .int .i64 2]) 1 rfl Try.isAgg140 Try.sizeOf140 rfl rfl rfl) rfl ?_
  refine TL.alloc rfl .u Try.zeroValue140 rfl (fun b45 => ?_)
  refine TL.st0 (cs' := #[.pointer (some ⟨b2, 9, none⟩), .int .i64 2]) rfl .u rfl rfl Try.sizeOf140 rfl rfl rfl rfl ?_
  refine TL.nil (X.seq (T.draw (.q 0 (.q 1 (.q 2 (.q 3 (.q 4 (.e 5 (.q 6 (.e 7 .nil)))))))) [0, 0, 0, 0, 1] rfl mix_prefix (NoP.blk (NoP.seq (NoP.seq (NoP.blk (NoP.seq np_post))))) (by kernel_rfl) ?_))
  refine TD.run ft_prefix_ok [0] rfl rfl ?_
  refine TD.q rfl .u (Ex.b1 0 rfl Try.isAgg138 rfl rfl) rfl ?_
  refine TD.run ft_prefix_ok [2, 3] rfl rfl ?_
  refine TD.q rfl .u (Ex.b1 0 rfl Try.isAgg3 rfl rfl) rfl ?_
  obtain ⟨⟨x46, st47⟩, hx48, h⟩ := Option.bind_eq_some_iff.1 h
  try dsimp only at h
  refine TD.c6 rfl .u (.fn Try.call95 rfl) (gInt_spec g st43 2 _ hx48) (fun _ hs => (Src.triv _)) rfl [0, 0, 0, 0, 1] (rfl) ?_
  refine TD.run ft_prefix_ok [6] rfl rfl ?_
  refine TD.st4 (cs' := #[.int .i64 x6, .int .i64 x10, .int .i64 x14, .int .i64 x22, .int .i64 x26, .int .i64 x30, .int .i64 x34, .int .i64 x38, .int .i64 x42, .int .i64 x46, .int .i64 0, .int .i64 0]) rfl .u rfl rfl Try.sizeOf3 rfl rfl rfl rfl [0, 0, 0, 0, 1] (rfl) ?_
  refine TD.nil (X.blk (X.seq (T.region rfl ?_)))
  refine TL.q rfl .u (Ex.add rfl rfl (by omega)) rfl ?_
  refine TL.run ft_prefix_ok [1] rfl rfl ?_
  refine TL.nil ?_
  refine X.sel [0, 1, 1, 1, 1, 1] rfl ?_
  refine X.un (TW.step (T.seq (T.region rfl ?_)))
  refine TL.run ft_prefix_ok [0] rfl rfl ?_
  refine TL.nil (X.seq (T.seq ?_))
  refine T.yes rfl (decide_eq_true (show 11 < 13 by omega)) ?_
  refine T.skip (X.seq (T.seq (T.block (T.seq (T.region rfl ?_)))))
  refine TL.q rfl .u (Ex.ixL (k := 11) (r := 22) rfl rfl rfl Try.runUnderlying136 Try.sizeOf140 (by decide) rfl) rfl ?_
  refine TL.q rfl .u (Ex.bS (us := [.pointer (some ⟨b2, 10, none⟩), .int .i64 4]) 1 rfl Try.isAgg140 Try.sizeOf140 rfl rfl rfl) rfl ?_
  refine TL.alloc rfl .u Try.zeroValue140 rfl (fun b49 => ?_)
  refine TL.st0 (cs' := #[.pointer (some ⟨b2, 10, none⟩), .int .i64 4]) rfl .u rfl rfl Try.sizeOf140 rfl rfl rfl rfl ?_
  refine TL.nil (X.seq (T.draw (.q 0 (.q 1 (.q 2 (.q 3 (.q 4 (.e 5 (.q 6 (.e 7 .nil)))))))) [0, 0, 0, 0, 1] rfl mix_prefix (NoP.blk (NoP.seq (NoP.seq (NoP.blk (NoP.seq np_post))))) (by kernel_rfl) ?_))
  refine TD.run ft_prefix_ok [0] rfl rfl ?_
  refine TD.q rfl .u (Ex.b1 0 rfl Try.isAgg138 rfl rfl) rfl ?_
  refine TD.run ft_prefix_ok [2, 3] rfl rfl ?_
  refine TD.q rfl .u (Ex.b1 0 rfl Try.isAgg3 rfl rfl) rfl ?_
  obtain ⟨⟨x50, st51⟩, hx52, h⟩ := Option.bind_eq_some_iff.1 h
  try dsimp only at h
  refine TD.c6 rfl .u (.fn Try.call95 rfl) (gInt_spec g st47 4 _ hx52) (fun _ hs => (Src.triv _)) rfl [0, 0, 0, 0, 1] (rfl) ?_
  refine TD.run ft_prefix_ok [6] rfl rfl ?_
  refine TD.st4 (cs' := #[.int .i64 x6, .int .i64 x10, .int .i64 x14, .int .i64 x22, .int .i64 x26, .int .i64 x30, .int .i64 x34, .int .i64 x38, .int .i64 x42, .int .i64 x46, .int .i64 x50, .int .i64 0]) rfl .u rfl rfl Try.sizeOf3 rfl rfl rfl rfl [0, 0, 0, 0, 1] (rfl) ?_
  refine TD.nil (X.blk (X.seq (T.region rfl ?_)))
  refine TL.q rfl .u (Ex.add rfl rfl (by omega)) rfl ?_
  refine TL.run ft_prefix_ok [1] rfl rfl ?_
  refine TL.nil ?_
  refine X.sel [0, 1, 1, 1, 1, 1] rfl ?_
  refine X.un (TW.step (T.seq (T.region rfl ?_)))
  refine TL.run ft_prefix_ok [0] rfl rfl ?_
  refine TL.nil (X.seq (T.seq ?_))
  refine T.yes rfl (decide_eq_true (show 12 < 13 by omega)) ?_
  refine T.skip (X.seq (T.seq (T.block (T.seq (T.region rfl ?_)))))
  refine TL.q rfl .u (Ex.ixL (k := 12) (r := 24) rfl rfl rfl Try.runUnderlying136 Try.sizeOf140 (by decide) rfl) rfl ?_
  refine TL.q rfl .u (Ex.bS (us := [.pointer (some ⟨b2, 11, none⟩), .int .i64 4]) 1 rfl Try.isAgg140 Try.sizeOf140 rfl rfl rfl) rfl ?_
  refine TL.alloc rfl .u Try.zeroValue140 rfl (fun b53 => ?_)
  refine TL.st0 (cs' := #[.pointer (some ⟨b2, 11, none⟩), .int .i64 4]) rfl .u rfl rfl Try.sizeOf140 rfl rfl rfl rfl ?_
  refine TL.nil (X.seq (T.draw (.q 0 (.q 1 (.q 2 (.q 3 (.q 4 (.e 5 (.q 6 (.e 7 .nil)))))))) [0, 0, 0, 0, 1] rfl mix_prefix (NoP.blk (NoP.seq (NoP.seq (NoP.blk (NoP.seq np_post))))) (by kernel_rfl) ?_))
  refine TD.run ft_prefix_ok [0] rfl rfl ?_
  refine TD.q rfl .u (Ex.b1 0 rfl Try.isAgg138 rfl rfl) rfl ?_
  refine TD.run ft_prefix_ok [2, 3] rfl rfl ?_
  refine TD.q rfl .u (Ex.b1 0 rfl Try.isAgg3 rfl rfl) rfl ?_
  obtain ⟨⟨x54, st55⟩, hx56, h⟩ := Option.bind_eq_some_iff.1 h
  try dsimp only at h
  refine TD.c6 rfl .u (.fn Try.call95 rfl) (gInt_spec g st51 4 _ hx56) (fun _ hs => (Src.triv _)) rfl [0, 0, 0, 0, 1] (rfl) ?_
  refine TD.run ft_prefix_ok [6] rfl rfl ?_
  refine TD.st4 (cs' := #[.int .i64 x6, .int .i64 x10, .int .i64 x14, .int .i64 x22, .int .i64 x26, .int .i64 x30, .int .i64 x34, .int .i64 x38, .int .i64 x42, .int .i64 x46, .int .i64 x50, .int .i64 x54]) rfl .u rfl rfl Try.sizeOf3 rfl rfl rfl rfl [0, 0, 0, 0, 1] (rfl) ?_
  refine TD.nil (X.blk (X.seq (T.region rfl ?_)))
  refine TL.q rfl .u (Ex.add rfl rfl (by omega)) rfl ?_
  refine TL.run ft_prefix_ok [1] rfl rfl ?_
  refine TL.nil ?_
  refine X.sel [0, 1, 1, 1, 1, 1] rfl ?_
  refine X.un (TW.step (T.seq (T.region rfl ?_)))
  refine TL.run ft_prefix_ok [0] rfl rfl ?_
  refine TL.nil (X.seq (T.seq ?_))
  refine T.no rfl (decide_eq_false (show ¬ (13 < 13) by omega)) ?_
  refine T.exit (X.exs (X.exs (X.ex (X.seq (T.seq (T.region rfl ?_))))))
  refine TL.run ft_prefix_ok [0] rfl rfl ?_
  refine TL.q rfl .u (Ex.b1 3 rfl Try.isAgg3 rfl rfl) rfl ?_
  refine TL.q rfl .u (Ex.bitw rfl rfl rfl) rfl ?_
  refine TL.run ft_prefix_ok [3] rfl rfl ?_
  refine TL.st3 (cs' := #[.int .i64 x6, .int .i64 x10, .int .i64 x14, .int .i64 (Go.bits .and .i64 x22 4294967295), .int .i64 x26, .int .i64 x30, .int .i64 x34, .int .i64 x38, .int .i64 x42, .int .i64 x46, .int .i64 x50, .int .i64 x54]) rfl .u rfl rfl Try.sizeOf3 rfl rfl rfl rfl ?_
  refine TL.nil (X.seq (T.seq (T.block (T.seq (T.region rfl ?_)))))
  obtain ⟨⟨x57, st58⟩, hx59, h⟩ := Option.bind_eq_some_iff.1 h
  try dsimp only at h
  refine TL.run ft_prefix_ok [0] rfl rfl ?_
  refine TL.c5 rfl .u (.fn Try.call58 rfl) (gErr_spec g st55 _ hx59) (fun _ hs => (Src.triv _)) rfl ?_
  refine TL.run ft_prefix_ok [2, 3] rfl rfl ?_
  refine TL.nil (X.seq ?_)
  obtain ⟨st117, h, hk118⟩ := Option.bind_eq_some_iff.1 h
  refine T.jq (fun e Rs => e = [(0, .pointer (some ⟨g, 0, none⟩)), (2, .pointer (some ⟨b1, 0, none⟩)), (3, .pointer (some ⟨b2, 0, none⟩))] ∧ Rs = [BlkR b53 140 #[.pointer (some ⟨b2, 11, none⟩), .int .i64 4], BlkR b4 140 #[.pointer (some ⟨b2, 0, none⟩), .int .i64 8, .pointer (some ⟨b2, 1, none⟩), .int .i64 4, .pointer (some ⟨b2, 2, none⟩), .int .i64 4, .pointer (some ⟨b3, 0, none⟩), .int .i64 1, .pointer (some ⟨b2, 3, none⟩), .int .i64 4, .pointer (some ⟨b2, 4, none⟩), .int .i64 2, .pointer (some ⟨b2, 5, none⟩), .int .i64 4, .pointer (some ⟨b2, 6, none⟩), .int .i64 8, .pointer (some ⟨b2, 7, none⟩), .int .i64 8, .pointer (some ⟨b2, 8, none⟩), .int .i64 8, .pointer (some ⟨b2, 9, none⟩), .int .i64 2, .pointer (some ⟨b2, 10, none⟩), .int .i64 4, .pointer (some ⟨b2, 11, none⟩), .int .i64 4], BlkR b3 3 #[.int .i64 x18], BlkR b2 105 #[.int .i64 x6, .int .i64 x10, .int .i64 x14, .int .i64 (Go.bits .and .i64 x22 4294967295), .int .i64 x26, .int .i64 x30, .int .i64 x34, .int .i64 x38, .int .i64 x42, .int .i64 x46, .int .i64 x50, .int .i64 x54], BlkR b1 105 #[.int .i64 0, .int .i64 0, .int .i64 0, .int .i64 0, .int .i64 0, .int .i64 0, .int .i64 0, .int .i64 0, .int .i64 0, .int .i64 0, .int .i64 0, .int .i64 0], InR g st117]) ?_ ?_
  · clear hk118
    by_cases c119 : x57 = 0
    · replace h := ifT c119 h
      refine T.no rfl (bn_f (decide_eq_true c119)) ?_
      refine T.seq (T.region rfl ?_)
      refine TL.q rfl .u (Ex.b1 2 rfl Try.isAgg3 rfl rfl) rfl ?_
      refine TL.run ft_prefix_ok [1, 2] rfl rfl ?_
      refine TL.nil (X.seq ?_)
      obtain ⟨st147, h, hk148⟩ := Option.bind_eq_some_iff.1 h
      refine T.jq (fun e Rs => e = [(0, .pointer (some ⟨g, 0, none⟩)), (2, .pointer (some ⟨b1, 0, none⟩)), (3, .pointer (some ⟨b2, 0, none⟩))] ∧ Rs = [BlkR b53 140 #[.pointer (some ⟨b2, 11, none⟩), .int .i64 4], BlkR b4 140 #[.pointer (some ⟨b2, 0, none⟩), .int .i64 8, .pointer (some ⟨b2, 1, none⟩), .int .i64 4, .pointer (some ⟨b2, 2, none⟩), .int .i64 4, .pointer (some ⟨b3, 0, none⟩), .int .i64 1, .pointer (some ⟨b2, 3, none⟩), .int .i64 4, .pointer (some ⟨b2, 4, none⟩), .int .i64 2, .pointer (some ⟨b2, 5, none⟩), .int .i64 4, .pointer (some ⟨b2, 6, none⟩), .int .i64 8, .pointer (some ⟨b2, 7, none⟩), .int .i64 8, .pointer (some ⟨b2, 8, none⟩), .int .i64 8, .pointer (some ⟨b2, 9, none⟩), .int .i64 2, .pointer (some ⟨b2, 10, none⟩), .int .i64 4, .pointer (some ⟨b2, 11, none⟩), .int .i64 4], BlkR b3 3 #[.int .i64 x18], BlkR b2 105 #[.int .i64 x6, .int .i64 x10, .int .i64 x14, .int .i64 (Go.bits .and .i64 x22 4294967295), .int .i64 x26, .int .i64 x30, .int .i64 x34, .int .i64 x38, .int .i64 x42, .int .i64 x46, .int .i64 x50, .int .i64 x54], BlkR b1 105 #[.int .i64 0, .int .i64 0, .int .i64 0, .int .i64 0, .int .i64 0, .int .i64 0, .int .i64 0, .int .i64 0, .int .i64 0, .int .i64 0, .int .i64 0, .int .i64 0], InR g st147]) ?_ ?_
      · clear hk148
        by_cases c149 : x18 = 2
        · replace h := ifT c149 h
          refine T.no rfl (bn_f (decide_eq_true c149)) ?_
          refine T.seq (T.region rfl ?_)
          refine TL.run ft_prefix_ok [0] rfl rfl ?_
          refine TL.q rfl .u (Ex.b1 3 rfl Try.isAgg3 rfl rfl) rfl ?_
          refine TL.run ft_prefix_ok [2, 3] rfl rfl ?_
          refine TL.nil (X.seq ?_)
          obtain ⟨st161, h, hk162⟩ := Option.bind_eq_some_iff.1 h
          refine T.jq (fun e Rs => e = [(0, .pointer (some ⟨g, 0, none⟩)), (2, .pointer (some ⟨b1, 0, none⟩)), (3, .pointer (some ⟨b2, 0, none⟩))] ∧ Rs = [BlkR b53 140 #[.pointer (some ⟨b2, 11, none⟩), .int .i64 4], BlkR b4 140 #[.pointer (some ⟨b2, 0, none⟩), .int .i64 8, .pointer (some ⟨b2, 1, none⟩), .int .i64 4, .pointer (some ⟨b2, 2, none⟩), .int .i64 4, .pointer (some ⟨b3, 0, none⟩), .int .i64 1, .pointer (some ⟨b2, 3, none⟩), .int .i64 4, .pointer (some ⟨b2, 4, none⟩), .int .i64 2, .pointer (some ⟨b2, 5, none⟩), .int .i64 4, .pointer (some ⟨b2, 6, none⟩), .int .i64 8, .pointer (some ⟨b2, 7, none⟩), .int .i64 8, .pointer (some ⟨b2, 8, none⟩), .int .i64 8, .pointer (some ⟨b2, 9, none⟩), .int .i64 2, .pointer (some ⟨b2, 10, none⟩), .int .i64 4, .pointer (some ⟨b2, 11, none⟩), .int .i64 4], BlkR b3 3 #[.int .i64 x18], BlkR b2 105 #[.int .i64 x6, .int .i64 x10, .int .i64 x14, .int .i64 (Go.bits .and .i64 x22 4294967295), .int .i64 x26, .int .i64 x30, .int .i64 x34, .int .i64 x38, .int .i64 x42, .int .i64 x46, .int .i64 x50, .int .i64 x54], BlkR b1 105 #[.int .i64 0, .int .i64 0, .int .i64 0, .int .i64 0, .int .i64 0, .int .i64 0, .int .i64 0, .int .i64 0, .int .i64 0, .int .i64 0, .int .i64 0, .int .i64 0], InR g st161]) ?_ ?_
          · clear hk162
            by_cases c163 : x10 < 49
            · replace h := ifT c163 h
              refine T.yes rfl (decide_eq_true c163) ?_
              refine T.region rfl ?_
              obtain ⟨st164, hx165, h⟩ := Option.bind_eq_some_iff.1 h
              refine TL.run ft_prefix_ok [0] rfl rfl ?_
              refine TL.c5 rfl .u (.fn Try.call85 rfl) (gIFail_spec g st58 4 _ hx165) (fun _ hs => (Src.triv _)) rfl ?_
              cases h
              exact TL.nil (X.jq [0, 0, 0, 0, 0, 0] ⟨rfl, rfl⟩ (by rfl) (by rfl))
            · replace h := ifF c163 h
              refine T.no rfl (decide_eq_false c163) ?_
              refine T.seq (T.region rfl ?_)
              refine TL.run ft_prefix_ok [0] rfl rfl ?_
              refine TL.q rfl .u (Ex.b1 3 rfl Try.isAgg3 rfl rfl) rfl ?_
              refine TL.run ft_prefix_ok [2, 3] rfl rfl ?_
              refine TL.nil (X.seq ?_)
              obtain ⟨st169, h, hk170⟩ := Option.bind_eq_some_iff.1 h
              refine T.jq (fun e Rs => e = [(0, .pointer (some ⟨g, 0, none⟩)), (2, .pointer (some ⟨b1, 0, none⟩)), (3, .pointer (some ⟨b2, 0, none⟩))] ∧ Rs = [BlkR b53 140 #[.pointer (some ⟨b2, 11, none⟩), .int .i64 4], BlkR b4 140 #[.pointer (some ⟨b2, 0, none⟩), .int .i64 8, .pointer (some ⟨b2, 1, none⟩), .int .i64 4, .pointer (some ⟨b2, 2, none⟩), .int .i64 4, .pointer (some ⟨b3, 0, none⟩), .int .i64 1, .pointer (some ⟨b2, 3, none⟩), .int .i64 4, .pointer (some ⟨b2, 4, none⟩), .int .i64 2, .pointer (some ⟨b2, 5, none⟩), .int .i64 4, .pointer (some ⟨b2, 6, none⟩), .int .i64 8, .pointer (some ⟨b2, 7, none⟩), .int .i64 8, .pointer (some ⟨b2, 8, none⟩), .int .i64 8, .pointer (some ⟨b2, 9, none⟩), .int .i64 2, .pointer (some ⟨b2, 10, none⟩), .int .i64 4, .pointer (some ⟨b2, 11, none⟩), .int .i64 4], BlkR b3 3 #[.int .i64 x18], BlkR b2 105 #[.int .i64 x6, .int .i64 x10, .int .i64 x14, .int .i64 (Go.bits .and .i64 x22 4294967295), .int .i64 x26, .int .i64 x30, .int .i64 x34, .int .i64 x38, .int .i64 x42, .int .i64 x46, .int .i64 x50, .int .i64 x54], BlkR b1 105 #[.int .i64 0, .int .i64 0, .int .i64 0, .int .i64 0, .int .i64 0, .int .i64 0, .int .i64 0, .int .i64 0, .int .i64 0, .int .i64 0, .int .i64 0, .int .i64 0], InR g st169]) ?_ ?_
              · clear hk170
                by_cases c171 : x54 < 0
                · replace h := ifT c171 h
                  refine T.yes rfl (decide_eq_true c171) ?_
                  refine T.region rfl ?_
                  obtain ⟨st172, hx173, h⟩ := Option.bind_eq_some_iff.1 h
                  refine TL.run ft_prefix_ok [0] rfl rfl ?_
                  refine TL.c5 rfl .u (.fn Try.call85 rfl) (gIFail_spec g st58 10 _ hx173) (fun _ hs => (Src.triv _)) rfl ?_
                  cases h
                  exact TL.nil (X.jq [0, 0, 0, 0, 0, 0] ⟨rfl, rfl⟩ (by rfl) (by rfl))
                · replace h := ifF c171 h
                  refine T.no rfl (decide_eq_false c171) ?_
                  cases h
                  exact T.skip (X.jq [0, 0, 0, 0, 0, 0] ⟨rfl, rfl⟩ (by rfl) (by rfl))
              · rintro _ _ ⟨rfl, rfl⟩
                clear h
                have h := hk170
                clear hk170
                try dsimp only at h
                cases h
                exact X.jq [0, 0, 0, 0, 0, 0] ⟨rfl, rfl⟩ (by rfl) (by rfl)
          · rintro _ _ ⟨rfl, rfl⟩
            clear h
            have h := hk162
            clear hk162
            try dsimp only at h
            cases h
            exact X.jq [0, 0, 0, 0, 0, 0] ⟨rfl, rfl⟩ (by rfl) (by rfl)
        · replace h := ifF c149 h
          refine T.yes rfl (bn_t (decide_eq_false c149)) ?_
          refine T.region rfl ?_
          obtain ⟨st174, hx175, h⟩ := Option.bind_eq_some_iff.1 h
          refine TL.run ft_prefix_ok [0] rfl rfl ?_
          refine TL.c5 rfl .u (.fn Try.call85 rfl) (gIFail_spec g st58 6 _ hx175) (fun _ hs => (Src.triv _)) rfl ?_
          cases h
          exact TL.nil (X.jq [0, 0, 0, 0, 0, 0] ⟨rfl, rfl⟩ (by rfl) (by rfl))
      · rintro _ _ ⟨rfl, rfl⟩
        clear h
        have h := hk148
        clear hk148
        try dsimp only at h
        cases h
        exact X.jq [0, 0, 0, 0, 0, 0] ⟨rfl, rfl⟩ (by rfl) (by rfl)
    · replace h := ifF c119 h
      refine T.yes rfl (bn_t (decide_eq_false c119)) ?_
      cases h
      exact T.skip (X.jq [0, 0, 0, 0, 0, 0] ⟨rfl, rfl⟩ (by rfl) (by rfl))
  · rintro _ _ ⟨rfl, rfl⟩
    clear h
    have h := hk118
    clear hk118
    try dsimp only at h
    refine X.blk (X.seq (T.seq (T.seq (T.region rfl ?_))))
    obtain ⟨⟨x176, st177⟩, hx178, h⟩ := Option.bind_eq_some_iff.1 h
    try dsimp only at h
    refine TL.run ft_prefix_ok [0] rfl rfl ?_
    refine TL.c5 rfl .u (.fn Try.call58 rfl) (gErr_spec g st117 _ hx178) (fun _ hs => (Src.triv _)) rfl ?_
    refine TL.run ft_prefix_ok [2] rfl rfl ?_
    by_cases c179 : x176 = 0
    · replace h := ifT c179 h
      refine TL.nil (X.seq ?_)
      refine T.no rfl (bn_f (decide_eq_true c179)) ?_
      refine T.skip (X.seq (T.seq (T.region rfl ?_)))
      refine TL.q rfl .u (Ex.bS (us := [.int .i64 x6, .int .i64 x10, .int .i64 x14, .int .i64 (Go.bits .and .i64 x22 4294967295), .int .i64 x26, .int .i64 x30, .int .i64 x34, .int .i64 x38, .int .i64 x42, .int .i64 x46, .int .i64 x50, .int .i64 x54]) 3 rfl Try.isAgg105 Try.sizeOf105 rfl rfl rfl) rfl ?_
      refine TL.st4 (cs' := #[.int .i64 x6, .int .i64 x10, .int .i64 x14, .int .i64 (Go.bits .and .i64 x22 4294967295), .int .i64 x26, .int .i64 x30, .int .i64 x34, .int .i64 x38, .int .i64 x42, .int .i64 x46, .int .i64 x50, .int .i64 x54]) rfl .u rfl rfl Try.sizeOf105 rfl rfl rfl rfl ?_
      obtain rfl := Option.some.inj h
      exact TL.nil (X.seq (T.ret (X.done1 [5] Try.results83 (RV.cS (us := #[.int .i64 x6, .int .i64 x10, .int .i64 x14, .int .i64 (Go.bits .and .i64 x22 4294967295), .int .i64 x26, .int .i64 x30, .int .i64 x34, .int .i64 x38, .int .i64 x42, .int .i64 x46, .int .i64 x50, .int .i64 x54]) 4 rfl Try.isAgg105 Try.sizeOf105 rfl rfl) ⟨rfl, rfl, rfl⟩ (by rfl) (.inl rfl))))
    · replace h := ifF c179 h
      refine TL.nil (X.seq ?_)
      refine T.yes rfl (bn_t (decide_eq_false c179)) ?_
      refine T.seq (T.region rfl ?_)
      refine TL.q rfl .u (Ex.bld (cells := #[.int .i64 0, .int .i64 0, .int .i64 0, .int .i64 0, .int .i64 0, .int .i64 0, .int .i64 0, .int .i64 0, .int .i64 0, .int .i64 0, .int .i64 0, .int .i64 0]) bok_prefix_105 rfl (by kernel_rfl)) rfl ?_
      refine TL.st4 (cs' := #[.int .i64 0, .int .i64 0, .int .i64 0, .int .i64 0, .int .i64 0, .int .i64 0, .int .i64 0, .int .i64 0, .int .i64 0, .int .i64 0, .int .i64 0, .int .i64 0]) rfl .u rfl rfl Try.sizeOf105 rfl rfl rfl rfl ?_
      obtain rfl := Option.some.inj h
      exact TL.nil (X.seq (T.ret (X.rs (X.done1 [5] Try.results83 (RV.cS (us := #[.int .i64 0, .int .i64 0, .int .i64 0, .int .i64 0, .int .i64 0, .int .i64 0, .int .i64 0, .int .i64 0, .int .i64 0, .int .i64 0, .int .i64 0, .int .i64 0]) 4 rfl Try.isAgg105 Try.sizeOf105 rfl rfl) ⟨rfl, rfl, rfl⟩ (by rfl) (.inl rfl)))))
def f_prefix_Peek (a0 : List UInt8) : Option (Int × Int) := if (a0.length : Int) < 61 then some (0, 0) else (if 61 ≤ a0.length then ((gNew (a0.take 61)).bind fun st3 => (f_prefix_Read st3).bind fun (x6, st7) => (gErr st7).bind fun (x10, st11) => if x10 = 0 then (if -9223372036854775808 ≤ (x6.fLength + 12) ∧ (x6.fLength + 12) ≤ 9223372036854775807 then (some ((x6.fLength + 12), 0)) else none) else some (0, x10)) else none)
set_option maxRecDepth 100000 in
set_option maxHeartbeats 4000000 in
theorem f_prefix_Peek_spec (a0 : List UInt8) (r : Int × Int) (h : f_prefix_Peek a0 = some r) : SpecX Try.prog 55 #[.string (bsOf a0)] .triv (EmpR) (fun v A' N => v = .tuple #[.int .i64 r.1, .int .i64 r.2] ∧ A' = EmpR ∧ N = []) := by
  refine enterA Try.func55 rfl Try.ntmps55 rfl ?_
  intro F w hX
  unfold f_prefix_Peek at h
  refine T.seq (T.region rfl ?_)
  refine TL.run ft_prefix_ok [0, 1] rfl rfl ?_
  refine TL.nil (X.seq (T.seq (T.seq (T.region rfl ?_))))
  refine TL.run ft_prefix_ok [0] rfl rfl ?_
  refine TL.q rfl .u (Ex.lenB rfl Try.runUnderlying9) rfl ?_
  refine TL.run ft_prefix_ok [2] rfl rfl ?_
  by_cases c1 : (a0.length : Int) < 61
  · replace h := ifT c1 h
    refine TL.nil (X.seq ?_)
    refine T.yes rfl (decide_eq_true c1) ?_
    refine T.seq (T.region rfl ?_)
    refine TL.run ft_prefix_ok [0, 1] rfl rfl ?_
    obtain rfl := Option.some.inj h
    exact TL.nil (X.seq (T.ret (X.rs (X.done2 [0] Try.results55 (RV.tm rfl) (RV.tm rfl) ⟨rfl, rfl, rfl⟩ (by rfl) (.inl rfl)))))
  · replace h := ifF c1 h
    refine TL.nil (X.seq ?_)
    refine T.no rfl (decide_eq_false c1) ?_
    refine T.skip (X.seq (T.seq (T.region rfl ?_)))
    replace h := guard_some h
    obtain ⟨c2, h⟩ := h
    refine TL.run ft_prefix_ok [0] rfl rfl ?_
    replace c2 : 61 ≤ a0.length := c2
    refine TL.q rfl .u (Ex.sSl (p := 0) (q := 61) (m := (a0.take 61)) rfl Try.runUnderlying9 .none (.some rfl rfl) (by first | omega | (dsimp only; omega)) (by simp)) rfl ?_
    obtain ⟨st3, hx4, h⟩ := Option.bind_eq_some_iff.1 h
    refine TL.cge rfl .u (.fn Try.call56 rfl) (gNew_spec (a0.take 61) _ hx4) (fun _ hs => (RX.reads_triv _ _)) rfl ?_
    rintro _ _ _ ⟨b5, rfl, rfl, rfl⟩
    refine TL.sel [0, 0] rfl ?_
    refine TL.run ft_prefix_ok [3] rfl rfl ?_
    refine TL.nil (X.seq (T.seq (T.region rfl ?_)))
    obtain ⟨⟨x6, st7⟩, hx8, h⟩ := Option.bind_eq_some_iff.1 h
    try dsimp only at h
    refine TL.run ft_prefix_ok [0] rfl rfl ?_
    refine TL.c0 rfl .u (.fn Try.call83 rfl) (f_prefix_Read_spec b5 st3 _ hx8) (fun _ hs => (Src.triv _)) rfl ?_
    refine TL.alloc rfl .u Try.zeroValue105 rfl (fun b9 => ?_)
    refine TL.st0 (cs' := #[.int .i64 x6.fBase, .int .i64 x6.fLength, .int .i64 x6.fLeader, .int .i64 x6.fSum, .int .i64 x6.fAttr, .int .i64 x6.fLast, .int .i64 x6.fFirst, .int .i64 x6.fMax, .int .i64 x6.fProducer, .int .i64 x6.fEpoch, .int .i64 x6.fSequence, .int .i64 x6.fCount]) rfl .u rfl rfl Try.sizeOf105 rfl rfl rfl rfl ?_
    refine TL.nil (X.seq (T.seq (T.seq (T.region rfl ?_))))
    obtain ⟨⟨x10, st11⟩, hx12, h⟩ := Option.bind_eq_some_iff.1 h
    try dsimp only at h
    refine TL.run ft_prefix_ok [0] rfl rfl ?_
    refine TL.c1 rfl .u (.fn Try.call58 rfl) (gErr_spec b5 st7 _ hx12) (fun _ hs => (Src.triv _)) rfl ?_
    refine TL.run ft_prefix_ok [2] rfl rfl ?_
    refine TL.nil (X.seq (T.seq (T.region rfl ?_)))
    refine TL.run ft_prefix_ok [0, 1] rfl rfl ?_
    by_cases c13 : x10 = 0
    · replace h := ifT c13 h
      refine TL.nil (X.seq ?_)
      refine T.no rfl (bn_f (decide_eq_true c13)) ?_
      refine T.skip (X.seq (T.seq (T.region rfl ?_)))
      refine TL.run ft_prefix_ok [0] rfl rfl ?_
      refine TL.q rfl .u (Ex.b1 0 rfl Try.isAgg3 rfl rfl) rfl ?_
      replace h := guard_some h
      obtain ⟨c14, h⟩ := h
      refine TL.q rfl .u (Ex.add rfl rfl c14) rfl ?_
      refine TL.run ft_prefix_ok [3, 4] rfl rfl ?_
      obtain rfl := Option.some.inj h
      exact TL.nil (X.seq (T.ret (X.done2 [2] Try.results55 (RV.tm rfl) (RV.tm rfl) ⟨rfl, rfl, rfl⟩ (by rfl) (.inl rfl))))
    · replace h := ifF c13 h
      refine TL.nil (X.seq ?_)
      refine T.yes rfl (bn_t (decide_eq_false c13)) ?_
      refine T.seq (T.region rfl ?_)
      refine TL.run ft_prefix_ok [0, 1, 2] rfl rfl ?_
      obtain rfl := Option.some.inj h
      exact TL.nil (X.seq (T.ret (X.rs (X.done2 [2] Try.results55 (RV.tm rfl) (RV.tm rfl) ⟨rfl, rfl, rfl⟩ (by rfl) (.inl rfl)))))
def f_prefix_Write (st : List UInt8 × Int) (a1 : Pfx) : Option (List UInt8 × Int) := (if a1.fSum < 0 then some true else (if a1.fSum > 4294967295 then some true else some false)).bind fun y4 => (if y4 = true then ((gOFail st 11).bind fun st14 => some st14) else some st).bind fun st11 => if -9223372036854775808 ≤ (IntKind.i32.wrap (IntKind.u32.wrap a1.fSum)) ∧ (IntKind.i32.wrap (IntKind.u32.wrap a1.fSum)) ≤ 9223372036854775807 then ((gOInt st11 a1.fBase 8).bind fun st19 => (gOInt st19 a1.fLength 4).bind fun st22 => (gOInt st22 a1.fLeader 4).bind fun st25 => (gOInt st25 2 1).bind fun st28 => (gOInt st28 (IntKind.i32.wrap (IntKind.u32.wrap a1.fSum)) 4).bind fun st31 => (gOInt st31 a1.fAttr 2).bind fun st34 => (gOInt st34 a1.fLast 4).bind fun st37 => (gOInt st37 a1.fFirst 8).bind fun st40 => (gOInt st40 a1.fMax 8).bind fun st43 => (gOInt st43 a1.fProducer 8).bind fun st46 => (gOInt st46 a1.fEpoch 2).bind fun st49 => (gOInt st49 a1.fSequence 4).bind fun st52 => (gOInt st52 a1.fCount 4).bind fun st55 => some st55) else none
set_option maxRecDepth 100000 in
set_option maxHeartbeats 4000000 in
theorem f_prefix_Write_spec (g : Nat) (st : List UInt8 × Int) (a1 : Pfx) (r : List UInt8 × Int) (h : f_prefix_Write st a1 = some r) : SpecX Try.prog 51 #[.pointer (some ⟨g, 0, none⟩), .agg #[.int .i64 a1.fBase, .int .i64 a1.fLength, .int .i64 a1.fLeader, .int .i64 a1.fSum, .int .i64 a1.fAttr, .int .i64 a1.fLast, .int .i64 a1.fFirst, .int .i64 a1.fMax, .int .i64 a1.fProducer, .int .i64 a1.fEpoch, .int .i64 a1.fSequence, .int .i64 a1.fCount]] .triv (OutR g st) (fun v A' N => v = .tuple #[] ∧ A' = OutR g r ∧ N = []) := by
  refine enterA Try.func51 rfl Try.ntmps51 rfl ?_
  intro F w hX
  unfold f_prefix_Write at h
  refine T.seq (T.region rfl ?_)
  refine TL.box rfl .u rfl rfl (fun b1 => ?_)
  refine TL.nil (X.seq (T.seq (T.region rfl ?_)))
  refine TL.alloc rfl .u Try.zeroValue3 rfl (fun b2 => ?_)
  refine TL.st0 (cs' := #[.int .i64 2]) rfl .u rfl rfl Try.sizeOf3 rfl rfl rfl rfl ?_
  refine TL.nil (X.seq (T.seq (T.seq ?_)))
  obtain ⟨y4, h, hk5⟩ := Option.bind_eq_some_iff.1 h
  refine T.jq (fun e Rs => e = [(0, .pointer (some ⟨g, 0, none⟩)), (3, .pointer (some ⟨b1, 0, none⟩)), (4, .pointer (some ⟨b2, 0, none⟩)), (14, .bool y4)] ∧ Rs = [BlkR b2 3 #[.int .i64 2], BlkR b1 105 #[.int .i64 a1.fBase, .int .i64 a1.fLength, .int .i64 a1.fLeader, .int .i64 a1.fSum, .int .i64 a1.fAttr, .int .i64 a1.fLast, .int .i64 a1.fFirst, .int .i64 a1.fMax, .int .i64 a1.fProducer, .int .i64 a1.fEpoch, .int .i64 a1.fSequence, .int .i64 a1.fCount], OutR g st]) ?_ ?_
  · clear hk5
    refine T.region rfl ?_
    refine TL.run ft_prefix_ok [0] rfl rfl ?_
    refine TL.q rfl .u (Ex.b1 1 rfl Try.isAgg3 rfl rfl) rfl ?_
    by_cases c6 : a1.fSum < 0
    · replace h := ifT c6 h
      refine TL.run ft_prefix_ok [2, 3] rfl rfl ?_
      refine TL.no rfl (.gn rfl rfl (decide_eq_true c6)) rfl ?_
      refine TL.no rfl (.gn rfl rfl (decide_eq_true c6)) rfl ?_
      refine TL.no rfl (.gn rfl rfl (decide_eq_true c6)) rfl ?_
      refine TL.q rfl .u (Ex.py rfl (decide_eq_true c6) rfl) rfl ?_
      cases h
      exact TL.nil (X.jq [0, 0, 0] ⟨rfl, rfl⟩ (by rfl) (by rfl))
    · replace h := ifF c6 h
      refine TL.run ft_prefix_ok [2, 3] rfl rfl ?_
      refine TL.q rfl (.g rfl rfl (decide_eq_false c6)) (Ex.ft ft_prefix_ok rfl) rfl ?_
      refine TL.q rfl (.g rfl rfl (decide_eq_false c6)) (Ex.b1 1 rfl Try.isAgg3 rfl rfl) rfl ?_
      refine TL.q rfl (.g rfl rfl (decide_eq_false c6)) (Ex.ft ft_prefix_ok rfl) rfl ?_
      refine TL.q rfl .u (Ex.pn rfl (decide_eq_false c6) rfl) rfl ?_
      by_cases c7 : a1.fSum > 4294967295
      · replace h := ifT c7 h
        cases h
        exact TL.nil (X.as (d := 14) (v' := .bool true) rfl (congrArg Value.bool (decide_eq_true c7)) (X.jq [0, 0, 0] ⟨rfl, rfl⟩ (by rfl) (by rfl)))
      · replace h := ifF c7 h
        cases h
        exact TL.nil (X.as (d := 14) (v' := .bool false) rfl (congrArg Value.bool (decide_eq_false c7)) (X.jq [0, 0, 0] ⟨rfl, rfl⟩ (by rfl) (by rfl)))
  · rintro _ _ ⟨rfl, rfl⟩
    clear h
    have h := hk5
    clear hk5
    try dsimp only at h
    refine X.seq ?_
    obtain ⟨st11, h, hk12⟩ := Option.bind_eq_some_iff.1 h
    refine T.jq (fun e Rs => e = [(0, .pointer (some ⟨g, 0, none⟩)), (3, .pointer (some ⟨b1, 0, none⟩)), (4, .pointer (some ⟨b2, 0, none⟩))] ∧ Rs = [BlkR b2 3 #[.int .i64 2], BlkR b1 105 #[.int .i64 a1.fBase, .int .i64 a1.fLength, .int .i64 a1.fLeader, .int .i64 a1.fSum, .int .i64 a1.fAttr, .int .i64 a1.fLast, .int .i64 a1.fFirst, .int .i64 a1.fMax, .int .i64 a1.fProducer, .int .i64 a1.fEpoch, .int .i64 a1.fSequence, .int .i64 a1.fCount], OutR g st11]) ?_ ?_
    · clear hk12
      by_cases c13 : y4 = true
      · replace h := ifT c13 h
        refine T.yes rfl c13 ?_
        refine T.region rfl ?_
        obtain ⟨st14, hx15, h⟩ := Option.bind_eq_some_iff.1 h
        refine TL.run ft_prefix_ok [0] rfl rfl ?_
        refine TL.c2 rfl .u (.fn Try.call77 rfl) (gOFail_spec g st 11 _ hx15) (fun _ hs => (Src.triv _)) rfl ?_
        cases h
        exact TL.nil (X.jq [0, 0, 0] ⟨rfl, rfl⟩ (by rfl) (by rfl))
      · replace h := ifF c13 h
        replace c13 := eq_false_of_ne_true c13
        refine T.no rfl c13 ?_
        cases h
        exact T.skip (X.jq [0, 0, 0] ⟨rfl, rfl⟩ (by rfl) (by rfl))
    · rintro _ _ ⟨rfl, rfl⟩
      clear h
      have h := hk12
      clear hk12
      try dsimp only at h
      refine X.seq (T.seq (T.region rfl ?_))
      refine TL.run ft_prefix_ok [0] rfl rfl ?_
      refine TL.q rfl .u (Ex.b1 1 rfl Try.isAgg3 rfl rfl) rfl ?_
      refine TL.q rfl .u (Ex.conv rfl Try.runUnderlying3 Try.runUnderlying94) rfl ?_
      refine TL.q rfl .u (Ex.conv rfl Try.runUnderlying94 Try.runUnderlying21) rfl ?_
      replace h := guard_some h
      obtain ⟨c16, h⟩ := h
      refine TL.q rfl .u (Ex.conv64 rfl Try.runUnderlying21 Try.runUnderlying3 c16) rfl ?_
      refine TL.run ft_prefix_ok [5] rfl rfl ?_
      refine TL.st1 (cs' := #[.int .i64 a1.fBase, .int .i64 a1.fLength, .int .i64 a1.fLeader, .int .i64 (IntKind.i32.wrap (IntKind.u32.wrap a1.fSum)), .int .i64 a1.fAttr, .int .i64 a1.fLast, .int .i64 a1.fFirst, .int .i64 a1.fMax, .int .i64 a1.fProducer, .int .i64 a1.fEpoch, .int .i64 a1.fSequence, .int .i64 a1.fCount]) rfl .u rfl rfl Try.sizeOf3 rfl rfl rfl rfl ?_
      refine TL.nil (X.seq (T.seq (T.region rfl ?_)))
      refine TL.cge rfl .u (.fn Try.call80 rfl) (f_prefix_PrefixFields_spec b1 b2 () rfl) (fun _ hs => RX.reads_triv _ _) rfl ?_
      rintro _ _ _ ⟨b17, rfl, rfl, rfl⟩
      refine TL.sel [0, 0, 0, 0] rfl ?_
      refine TL.q rfl .u (Ex.lenS rfl Try.runUnderlying136) rfl ?_
      refine TL.run ft_prefix_ok [2] rfl rfl ?_
      refine TL.nil (X.seq (T.block ?_))
      refine T.unroll0 (TW.step (T.seq (T.region rfl ?_)))
      refine TL.run ft_prefix_ok [0] rfl rfl ?_
      refine TL.nil (X.seq (T.seq ?_))
      refine T.yes rfl (decide_eq_true (show 0 < 13 by omega)) ?_
      refine T.skip (X.seq (T.seq (T.block (T.seq (T.region rfl ?_)))))
      refine TL.q rfl .u (Ex.ixL (k := 0) (r := 0) rfl rfl rfl Try.runUnderlying136 Try.sizeOf140 (by decide) rfl) rfl ?_
      refine TL.q rfl .u (Ex.bS (us := [.pointer (some ⟨b1, 0, none⟩), .int .i64 8]) 0 rfl Try.isAgg140 Try.sizeOf140 rfl rfl rfl) rfl ?_
      refine TL.alloc rfl .u Try.zeroValue140 rfl (fun b18 => ?_)
      refine TL.st0 (cs' := #[.pointer (some ⟨b1, 0, none⟩), .int .i64 8]) rfl .u rfl rfl Try.sizeOf140 rfl rfl rfl rfl ?_
      refine TL.nil (X.seq (T.draw (.q 0 (.q 1 (.q 2 (.q 3 (.q 4 (.q 5 (.q 6 (.e 7 .nil)))))))) [0, 0, 0, 0] rfl mix_prefix (NoP.blk (NoP.seq (NoP.seq (NoP.blk np_post)))) (by kernel_rfl) ?_))
      refine TD.run ft_prefix_ok [0, 1] rfl rfl ?_
      refine TD.q rfl .u (Ex.b1 0 rfl Try.isAgg138 rfl rfl) rfl ?_
      refine TD.run ft_prefix_ok [3] rfl rfl ?_
      refine TD.q rfl .u (Ex.b1 3 rfl Try.isAgg3 rfl rfl) rfl ?_
      refine TD.run ft_prefix_ok [5] rfl rfl ?_
      refine TD.q rfl .u (Ex.b1 0 rfl Try.isAgg3 rfl rfl) rfl ?_
      obtain ⟨st19, hx20, h⟩ := Option.bind_eq_some_iff.1 h
      refine TD.c4 rfl .u (.fn Try.call81 rfl) (gOInt_spec g st11 a1.fBase 8 _ hx20) (fun _ hs => (Src.triv _)) rfl [0, 0, 0, 0] (rfl) ?_
      refine TD.nil (X.blk (X.seq (T.region rfl ?_)))
      refine TL.q rfl .u (Ex.add rfl rfl (by omega)) rfl ?_
      refine TL.run ft_prefix_ok [1] rfl rfl ?_
      refine TL.nil (X.un (TW.step (T.seq (T.region rfl ?_))))
      refine TL.run ft_prefix_ok [0] rfl rfl ?_
      refine TL.nil (X.seq (T.seq ?_))
      refine T.yes rfl (decide_eq_true (show 1 < 13 by omega)) ?_
      refine T.skip (X.seq (T.seq (T.block (T.seq (T.region rfl ?_)))))
      refine TL.q rfl .u (Ex.ixL (k := 1) (r := 2) rfl rfl rfl Try.runUnderlying136 Try.sizeOf140 (by decide) rfl) rfl ?_
      refine TL.q rfl .u (Ex.bS (us := [.pointer (some ⟨b1, 1, none⟩), .int .i64 4]) 1 rfl Try.isAgg140 Try.sizeOf140 rfl rfl rfl) rfl ?_
      refine TL.alloc rfl .u Try.zeroValue140 rfl (fun b21 => ?_)
      refine TL.st0 (cs' := #[.pointer (some ⟨b1, 1, none⟩), .int .i64 4]) rfl .u rfl rfl Try.sizeOf140 rfl rfl rfl rfl ?_
      refine TL.nil (X.seq (T.draw (.q 0 (.q 1 (.q 2 (.q 3 (.q 4 (.q 5 (.q 6 (.e 7 .nil)))))))) [0, 0, 0, 0, 0] rfl mix_prefix (NoP.blk (NoP.seq (NoP.seq (NoP.blk np_post)))) (by kernel_rfl) ?_))
      refine TD.run ft_prefix_ok [0, 1] rfl rfl ?_
      refine TD.q rfl .u (Ex.b1 0 rfl Try.isAgg138 rfl rfl) rfl ?_
      refine TD.run ft_prefix_ok [3] rfl rfl ?_
      refine TD.q rfl .u (Ex.b1 4 rfl Try.isAgg3 rfl rfl) rfl ?_
      refine TD.run ft_prefix_ok [5] rfl rfl ?_
      refine TD.q rfl .u (Ex.b1 0 rfl Try.isAgg3 rfl rfl) rfl ?_
      obtain ⟨st22, hx23, h⟩ := Option.bind_eq_some_iff.1 h
      refine TD.c5 rfl .u (.fn Try.call81 rfl) (gOInt_spec g st19 a1.fLength 4 _ hx23) (fun _ hs => (Src.triv _)) rfl [0, 0, 0, 0, 0] (rfl) ?_
      refine TD.nil (X.blk (X.seq (T.region rfl ?_)))
      refine TL.q rfl .u (Ex.add rfl rfl (by omega)) rfl ?_
      refine TL.run ft_prefix_ok [1] rfl rfl ?_
      refine TL.nil ?_
      refine X.sel [0, 1, 1, 1, 1] rfl ?_
      refine X.un (TW.step (T.seq (T.region rfl ?_)))
      refine TL.run ft_prefix_ok [0] rfl rfl ?_
      refine TL.nil (X.seq (T.seq ?_))
      refine T.yes rfl (decide_eq_true (show 2 < 13 by omega)) ?_
      refine T.skip (X.seq (T.seq (T.block (T.seq (T.region rfl ?_)))))
      refine TL.q rfl .u (Ex.ixL (k := 2) (r := 4) rfl rfl rfl Try.runUnderlying136 Try.sizeOf140 (by decide) rfl) rfl ?_
      refine TL.q rfl .u (Ex.bS (us := [.pointer (some ⟨b1, 2, none⟩), .int .i64 4]) 1 rfl Try.isAgg140 Try.sizeOf140 rfl rfl rfl) rfl ?_
      refine TL.alloc rfl .u Try.zeroValue140 rfl (fun b24 => ?_)
      refine TL.st0 (cs' := #[.pointer (some ⟨b1, 2, none⟩), .int .i64 4]) rfl .u rfl rfl Try.sizeOf140 rfl rfl rfl rfl ?_
      refine TL.nil (X.seq (T.draw (.q 0 (.q 1 (.q 2 (.q 3 (.q 4 (.q 5 (.q 6 (.e 7 .nil)))))))) [0, 0, 0, 0, 0] rfl mix_prefix (NoP.blk (NoP.seq (NoP.seq (NoP.blk np_post)))) (by kernel_rfl) ?_))
      refine TD.run ft_prefix_ok [0, 1] rfl rfl ?_
      refine TD.q rfl .u (Ex.b1 0 rfl Try.isAgg138 rfl rfl) rfl ?_
      refine TD.run ft_prefix_ok [3] rfl rfl ?_
      refine TD.q rfl .u (Ex.b1 4 rfl Try.isAgg3 rfl rfl) rfl ?_
      refine TD.run ft_prefix_ok [5] rfl rfl ?_
      refine TD.q rfl .u (Ex.b1 0 rfl Try.isAgg3 rfl rfl) rfl ?_
      obtain ⟨st25, hx26, h⟩ := Option.bind_eq_some_iff.1 h
      refine TD.c5 rfl .u (.fn Try.call81 rfl) (gOInt_spec g st22 a1.fLeader 4 _ hx26) (fun _ hs => (Src.triv _)) rfl [0, 0, 0, 0, 0] (rfl) ?_
      refine TD.nil (X.blk (X.seq (T.region rfl ?_)))
      refine TL.q rfl .u (Ex.add rfl rfl (by omega)) rfl ?_
      refine TL.run ft_prefix_ok [1] rfl rfl ?_
      refine TL.nil ?_
      refine X.sel [0, 1, 1, 1, 1] rfl ?_
      refine X.un (TW.step (T.seq (T.region rfl ?_)))
      refine TL.run ft_prefix_ok [0] rfl rfl ?_
      refine TL.nil (X.seq (T.seq ?_))
      refine T.yes rfl (decide_eq_true (show 3 < 13 by omega)) ?_
      refine T.skip (X.seq (T.seq (T.block (T.seq (T.region rfl ?_)))))
      refine TL.q rfl .u (Ex.ixL (k := 3) (r := 6) rfl rfl rfl Try.runUnderlying136 Try.sizeOf140 (by decide) rfl) rfl ?_
      refine TL.q rfl .u (Ex.bS (us := [.pointer (some ⟨b2, 0, none⟩), .int .i64 1]) 1 rfl Try.isAgg140 Try.sizeOf140 rfl rfl rfl) rfl ?_
      refine TL.alloc rfl .u Try.zeroValue140 rfl (fun b27 => ?_)
      refine TL.st0 (cs' := #[.pointer (some ⟨b2, 0, none⟩), .int .i64 1]) rfl .u rfl rfl Try.sizeOf140 rfl rfl rfl rfl ?_
      refine TL.nil (X.seq (T.draw (.q 0 (.q 1 (.q 2 (.q 3 (.q 4 (.q 5 (.q 6 (.e 7 .nil)))))))) [0, 0, 0, 0, 0] rfl mix_prefix (NoP.blk (NoP.seq (NoP.seq (NoP.blk np_post)))) (by kernel_rfl) ?_))
      refine TD.run ft_prefix_ok [0, 1] rfl rfl ?_
      refine TD.q rfl .u (Ex.b1 0 rfl Try.isAgg138 rfl rfl) rfl ?_
      refine TD.run ft_prefix_ok [3] rfl rfl ?_
      refine TD.q rfl .u (Ex.b1 3 rfl Try.isAgg3 rfl rfl) rfl ?_
      refine TD.run ft_prefix_ok [5] rfl rfl ?_
      refine TD.q rfl .u (Ex.b1 0 rfl Try.isAgg3 rfl rfl) rfl ?_
      obtain ⟨st28, hx29, h⟩ := Option.bind_eq_some_iff.1 h
      refine TD.c5 rfl .u (.fn Try.call81 rfl) (gOInt_spec g st25 2 1 _ hx29) (fun _ hs => (Src.triv _)) rfl [0, 0, 0, 0, 0] (rfl) ?_
      refine TD.nil (X.blk (X.seq (T.region rfl ?_)))
      refine TL.q rfl .u (Ex.add rfl rfl (by omega)) rfl ?_
      refine TL.run ft_prefix_ok [1] rfl rfl ?_
      refine TL.nil ?_
      refine X.sel [0, 1, 1, 1, 1] rfl ?_
      refine X.un (TW.step (T.seq (T.region rfl ?_)))
      refine TL.run ft_prefix_ok [0] rfl rfl ?_
      refine TL.nil (X.seq (T.seq ?_))
      refine T.yes rfl (decide_eq_true (show 4 < 13 by omega)) ?_
      refine T.skip (X.seq (T.seq (T.block (T.seq (T.region rfl ?_)))))
      refine TL.q rfl .u (Ex.ixL (k := 4) (r := 8) rfl rfl rfl Try.runUnderlying136 Try.sizeOf140 (by decide) rfl) rfl ?_
      refine TL.q rfl .u (Ex.bS (us := [.pointer (some ⟨b1, 3, none⟩), .int .i64 4]) 1 rfl Try.isAgg140 Try.sizeOf140 rfl rfl rfl) rfl ?_
      refine TL.alloc rfl .u Try.zeroValue140 rfl (fun b30 => ?_)
      refine TL.st0 (cs' := #[.pointer (some ⟨b1, 3, none⟩), .int .i64 4]) rfl .u rfl rfl Try.sizeOf140 rfl rfl rfl rfl ?_
      refine TL.nil (X.seq (T.draw (.q 0 (.q 1 (.q 2 (.q 3 (.q 4 (.q 5 (.q 6 (.e 7 .nil)))))))) [0, 0, 0, 0, 0] rfl mix_prefix (NoP.blk (NoP.seq (NoP.seq (NoP.blk np_post)))) (by kernel_rfl) ?_))
      refine TD.run ft_prefix_ok [0, 1] rfl rfl ?_
      refine TD.q rfl .u (Ex.b1 0 rfl Try.isAgg138 rfl rfl) rfl ?_
      refine TD.run ft_prefix_ok [3] rfl rfl ?_
      refine TD.q rfl .u (Ex.b1 4 rfl Try.isAgg3 rfl rfl) rfl ?_
      refine TD.run ft_prefix_ok [5] rfl rfl ?_
      refine TD.q rfl .u (Ex.b1 0 rfl Try.isAgg3 rfl rfl) rfl ?_
      obtain ⟨st31, hx32, h⟩ := Option.bind_eq_some_iff.1 h
      refine TD.c5 rfl .u (.fn Try.call81 rfl) (gOInt_spec g st28 (IntKind.i32.wrap (IntKind.u32.wrap a1.fSum)) 4 _ hx32) (fun _ hs => (Src.triv _)) rfl [0, 0, 0, 0, 0] (rfl) ?_
      refine TD.nil (X.blk (X.seq (T.region rfl ?_)))
      refine TL.q rfl .u (Ex.add rfl rfl (by omega)) rfl ?_
      refine TL.run ft_prefix_ok [1] rfl rfl ?_
      refine TL.nil ?_
      refine X.sel [0, 1, 1, 1, 1] rfl ?_
      refine X.un (TW.step (T.seq (T.region rfl ?_)))
      refine TL.run ft_prefix_ok [0] rfl rfl ?_
      refine TL.nil (X.seq (T.seq ?_))
      refine T.yes rfl (decide_eq_true (show 5 < 13 by omega)) ?_
      refine T.skip (X.seq (T.seq (T.block (T.seq (T.region rfl ?_)))))
      refine TL.q rfl .u (Ex.ixL (k := 5) (r := 10) rfl rfl rfl Try.runUnderlying136 Try.sizeOf140 (by decide) rfl) rfl ?_
      refine TL.q rfl .u (Ex.bS (us := [.pointer (some ⟨b1, 4, none⟩), .int .i64 2]) 1 rfl Try.isAgg140 Try.sizeOf140 rfl rfl rfl) rfl ?_
      refine TL.alloc rfl .u Try.zeroValue140 rfl (fun b33 => ?_)
      refine TL.st0 (cs' := #[.pointer (some ⟨b1, 4, none⟩), .int .i64 2]) rfl .u rfl rfl Try.sizeOf140 rfl rfl rfl rfl ?_
      refine TL.nil (X.seq (T.draw (.q 0 (.q 1 (.q 2 (.q 3 (.q 4 (.q 5 (.q 6 (.e 7 .nil)))))))) [0, 0, 0, 0, 0] rfl mix_prefix (NoP.blk (NoP.seq (NoP.seq (NoP.blk np_post)))) (by kernel_rfl) ?_))
      refine TD.run ft_prefix_ok [0, 1] rfl rfl ?_
      refine TD.q rfl .u (Ex.b1 0 rfl Try.isAgg138 rfl rfl) rfl ?_
      refine TD.run ft_prefix_ok [3] rfl rfl ?_
      refine TD.q rfl .u (Ex.b1 4 rfl Try.isAgg3 rfl rfl) rfl ?_
      refine TD.run ft_prefix_ok [5] rfl rfl ?_
      refine TD.q rfl .u (Ex.b1 0 rfl Try.isAgg3 rfl rfl) rfl ?_
      obtain ⟨st34, hx35, h⟩ := Option.bind_eq_some_iff.1 h
      refine TD.c5 rfl .u (.fn Try.call81 rfl) (gOInt_spec g st31 a1.fAttr 2 _ hx35) (fun _ hs => (Src.triv _)) rfl [0, 0, 0, 0, 0] (rfl) ?_
      refine TD.nil (X.blk (X.seq (T.region rfl ?_)))
      refine TL.q rfl .u (Ex.add rfl rfl (by omega)) rfl ?_
      refine TL.run ft_prefix_ok [1] rfl rfl ?_
      refine TL.nil ?_
      refine X.sel [0, 1, 1, 1, 1] rfl ?_
      refine X.un (TW.step (T.seq (T.region rfl ?_)))
      refine TL.run ft_prefix_ok [0] rfl rfl ?_
      refine TL.nil (X.seq (T.seq ?_))
      refine T.yes rfl (decide_eq_true (show 6 < 13 by omega)) ?_
      refine T.skip (X.seq (T.seq (T.block (T.seq (T.region rfl ?_)))))
      refine TL.q rfl .u (Ex.ixL (k := 6) (r := 12) rfl rfl rfl Try.runUnderlying136 Try.sizeOf140 (by decide) rfl) rfl ?_
      refine TL.q rfl .u (Ex.bS (us := [.pointer (some ⟨b1, 5, none⟩), .int .i64 4]) 1 rfl Try.isAgg140 Try.sizeOf140 rfl rfl rfl) rfl ?_
      refine TL.alloc rfl .u Try.zeroValue140 rfl (fun b36 => ?_)
      refine TL.st0 (cs' := #[.pointer (some ⟨b1, 5, none⟩), .int .i64 4]) rfl .u rfl rfl Try.sizeOf140 rfl rfl rfl rfl ?_
      refine TL.nil (X.seq (T.draw (.q 0 (.q 1 (.q 2 (.q 3 (.q 4 (.q 5 (.q 6 (.e 7 .nil)))))))) [0, 0, 0, 0, 0] rfl mix_prefix (NoP.blk (NoP.seq (NoP.seq (NoP.blk np_post)))) (by kernel_rfl) ?_))
      refine TD.run ft_prefix_ok [0, 1] rfl rfl ?_
      refine TD.q rfl .u (Ex.b1 0 rfl Try.isAgg138 rfl rfl) rfl ?_
      refine TD.run ft_prefix_ok [3] rfl rfl ?_
      refine TD.q rfl .u (Ex.b1 4 rfl Try.isAgg3 rfl rfl) rfl ?_
      refine TD.run ft_prefix_ok [5] rfl rfl ?_
      refine TD.q rfl .u (Ex.b1 0 rfl Try.isAgg3 rfl rfl) rfl ?_
      obtain ⟨st37, hx38, h⟩ := Option.bind_eq_some_iff.1 h
      refine TD.c5 rfl .u (.fn Try.call81 rfl) (gOInt_spec g st34 a1.fLast 4 _ hx38) (fun _ hs => (Src.triv _)) rfl [0, 0, 0, 0, 0] (rfl) ?_
      refine TD.nil (X.blk (X.seq (T.region rfl ?_)))
      refine TL.q rfl .u (Ex.add rfl rfl (by omega)) rfl ?_
      refine TL.run ft_prefix_ok [1] rfl rfl ?_
      refine TL.nil ?_
      refine X.sel [0, 1, 1, 1, 1] rfl ?_
      refine X.un (TW.step (T.seq (T.region rfl ?_)))
      refine TL.run ft_prefix_ok [0] rfl rfl ?_
      refine TL.nil (X.seq (T.seq ?_))
      refine T.yes rfl (decide_eq_true (show 7 < 13 by omega)) ?_
      refine T.skip (X.seq (T.seq (T.block (T.seq (T.region rfl ?_)))))
      refine TL.q rfl .u (Ex.ixL (k := 7) (r := 14) rfl rfl rfl Try.runUnderlying136 Try.sizeOf140 (by decide) rfl) rfl ?_
      refine TL.q rfl .u (Ex.bS (us := [.pointer (some ⟨b1, 6, none⟩), .int .i64 8]) 1 rfl Try.isAgg140 Try.sizeOf140 rfl rfl rfl) rfl ?_
      refine TL.alloc rfl .u Try.zeroValue140 rfl (fun b39 => ?_)
      refine TL.st0 (cs' := #[.pointer (some ⟨b1, 6, none⟩), .int .i64 8]) rfl .u rfl rfl Try.sizeOf140 rfl rfl rfl rfl ?_
      refine TL.nil (X.seq (T.draw (.q 0 (.q 1 (.q 2 (.q 3 (.q 4 (.q 5 (.q 6 (.e 7 .nil)))))))) [0, 0, 0, 0, 0] rfl mix_prefix (NoP.blk (NoP.seq (NoP.seq (NoP.blk np_post)))) (by kernel_rfl) ?_))
      refine TD.run ft_prefix_ok [0, 1] rfl rfl ?_
      refine TD.q rfl .u (Ex.b1 0 rfl Try.isAgg138 rfl rfl) rfl ?_
      refine TD.run ft_prefix_ok [3] rfl rfl ?_
      refine TD.q rfl .u (Ex.b1 4 rfl Try.isAgg3 rfl rfl) rfl ?_
      refine TD.run ft_prefix_ok [5] rfl rfl ?_
      refine TD.q rfl .u (Ex.b1 0 rfl Try.isAgg3 rfl rfl) rfl ?_
      obtain ⟨st40, hx41, h⟩ := Option.bind_eq_some_iff.1 h
      refine TD.c5 rfl .u (.fn Try.call81 rfl) (gOInt_spec g st37 a1.fFirst 8 _ hx41) (fun _ hs => (Src.triv _)) rfl [0, 0, 0, 0, 0] (rfl) ?_
      refine TD.nil (X.blk (X.seq (T.region rfl ?_)))
      refine TL.q rfl .u (Ex.add rfl rfl (by omega)) rfl ?_
      refine TL.run ft_prefix_ok [1] rfl rfl ?_
      refine TL.nil ?_
      refine X.sel [0, 1, 1, 1, 1] rfl ?_
      refine X.un (TW.step (T.seq (T.region rfl ?_)))
      refine TL.run ft_prefix_ok [0] rfl rfl ?_
      refine TL.nil (X.seq (T.seq ?_))
      refine T.yes rfl (decide_eq_true (show 8 < 13 by omega)) ?_
      refine T.skip (X.seq (T.seq (T.block (T.seq (T.region rfl ?_)))))
      refine TL.q rfl .u (Ex.ixL (k := 8) (r := 16) rfl rfl rfl Try.runUnderlying136 Try.sizeOf140 (by decide) rfl) rfl ?_
      refine TL.q rfl .u (Ex.bS (us := [.pointer (some ⟨b1, 7, none⟩), .int .i64 8]) 1 rfl Try.isAgg140 Try.sizeOf140 rfl rfl rfl) rfl ?_
      refine TL.alloc rfl .u Try.zeroValue140 rfl (fun b42 => ?_)
      refine TL.st0 (cs' := #[.pointer (some ⟨b1, 7, none⟩), .int .i64 8]) rfl .u rfl rfl Try.sizeOf140 rfl rfl rfl rfl ?_
      refine TL.nil (X.seq (T.draw (.q 0 (.q 1 (.q 2 (.q 3 (.q 4 (.q 5 (.q 6 (.e 7 .nil)))))))) [0, 0, 0, 0, 0] rfl mix_prefix (NoP.blk (NoP.seq (NoP.seq (NoP.blk np_post)))) (by kernel_rfl) ?_))
      refine TD.run ft_prefix_ok [0, 1] rfl rfl ?_
      refine TD.q rfl .u (Ex.b1 0 rfl Try.isAgg138 rfl rfl) rfl ?_
      refine TD.run ft_prefix_ok [3] rfl rfl ?_
      refine TD.q rfl .u (Ex.b1 4 rfl Try.isAgg3 rfl rfl) rfl ?_
      refine TD.run ft_prefix_ok [5] rfl rfl ?_
      refine TD.q rfl .u (Ex.b1 0 rfl Try.isAgg3 rfl rfl) rfl ?_
      obtain ⟨st43, hx44, h⟩ := Option.bind_eq_some_iff.1 h
      refine TD.c5 rfl .u (.fn Try.call81 rfl) (gOInt_spec g st40 a1.fMax 8 _ hx44) (fun _ hs => (Src.triv _)) rfl [0, 0, 0, 0, 0] (rfl) ?_
      refine TD.nil (X.blk (X.seq (T.region rfl ?_)))
      refine TL.q rfl .u (Ex.add rfl rfl (by omega)) rfl ?_
      refine TL.run ft_prefix_ok [1] rfl rfl ?_
      refine TL.nil ?_
      refine X.sel [0, 1, 1, 1, 1] rfl ?_
      refine X.un (TW.step (T.seq (T.region rfl ?_)))
      refine TL.run ft_prefix_ok [0] rfl rfl ?_
      refine TL.nil (X.seq (T.seq ?_))
      refine T.yes rfl (decide_eq_true (show 9 < 13 by omega)) ?_
      refine T.skip (X.seq (T.seq (T.block (T.seq (T.region rfl ?_)))))
      refine TL.q rfl .u (Ex.ixL (k := 9) (r := 18) rfl rfl rfl Try.runUnderlying136 Try.sizeOf140 (by decide) rfl) rfl ?_
      refine TL.q rfl .u (Ex.bS (us := [.pointer (some ⟨b1, 8, none⟩), .int .i64 8]) 1 rfl Try.isAgg140 Try.sizeOf140 rfl rfl rfl) rfl ?_
      refine TL.alloc rfl .u Try.zeroValue140 rfl (fun b45 => ?_)
      refine TL.st0 (cs' := #[.pointer (some ⟨b1, 8, none⟩), .int .i64 8]) rfl .u rfl rfl Try.sizeOf140 rfl rfl rfl rfl ?_
      refine TL.nil (X.seq (T.draw (.q 0 (.q 1 (.q 2 (.q 3 (.q 4 (.q 5 (.q 6 (.e 7 .nil)))))))) [0, 0, 0, 0, 0] rfl mix_prefix (NoP.blk (NoP.seq (NoP.seq (NoP.blk np_post)))) (by kernel_rfl) ?_))
      refine TD.run ft_prefix_ok [0, 1] rfl rfl ?_
      refine TD.q rfl .u (Ex.b1 0 rfl Try.isAgg138 rfl rfl) rfl ?_
      refine TD.run ft_prefix_ok [3] rfl rfl ?_
      refine TD.q rfl .u (Ex.b1 4 rfl Try.isAgg3 rfl rfl) rfl ?_
      refine TD.run ft_prefix_ok [5] rfl rfl ?_
      refine TD.q rfl .u (Ex.b1 0 rfl Try.isAgg3 rfl rfl) rfl ?_
      obtain ⟨st46, hx47, h⟩ := Option.bind_eq_some_iff.1 h
      refine TD.c5 rfl .u (.fn Try.call81 rfl) (gOInt_spec g st43 a1.fProducer 8 _ hx47) (fun _ hs => (Src.triv _)) rfl [0, 0, 0, 0, 0] (rfl) ?_
      refine TD.nil (X.blk (X.seq (T.region rfl ?_)))
      refine TL.q rfl .u (Ex.add rfl rfl (by omega)) rfl ?_
      refine TL.run ft_prefix_ok [1] rfl rfl ?_
      refine TL.nil ?_
      refine X.sel [0, 1, 1, 1, 1] rfl ?_
      refine X.un (TW.step (T.seq (T.region rfl ?_)))
      refine TL.run ft_prefix_ok [0] rfl rfl ?_
      refine TL.nil (X.seq (T.seq ?_))
      refine T.yes rfl (decide_eq_true (show 10 < 13 by omega)) ?_
      refine T.skip (X.seq (T.seq (T.block (T.seq (T.region rfl ?_)))))
      refine TL.q rfl .u (Ex.ixL (k := 10) (r := 20) rfl rfl rfl Try.runUnderlying136 Try.sizeOf140 (by decide) rfl) rfl ?_
      refine TL.q rfl .u (Ex.bS (us := [.pointer (some ⟨b1, 9, none⟩), .int .i64 2]) 1 rfl Try.isAgg140 Try.sizeOf140 rfl rfl rfl) rfl ?_
      refine TL.alloc rfl .u Try.zeroValue140 rfl (fun b48 => ?_)
      refine TL.st0 (cs' := #[.pointer (some ⟨b1, 9, none⟩), .int .i64 2]) rfl .u rfl rfl Try.sizeOf140 rfl rfl rfl rfl ?_
      refine TL.nil (X.seq (T.draw (.q 0 (.q 1 (.q 2 (.q 3 (.q 4 (.q 5 (.q 6 (.e 7 .nil)))))))) [0, 0, 0, 0, 0] rfl mix_prefix (NoP.blk (NoP.seq (NoP.seq (NoP.blk np_post)))) (by kernel_rfl) ?_))
      refine TD.run ft_prefix_ok [0, 1] rfl rfl ?_
      refine TD.q rfl .u (Ex.b1 0 rfl Try.isAgg138 rfl rfl) rfl ?_
      refine TD.run ft_prefix_ok [3] rfl rfl ?_
      refine TD.q rfl .u (Ex.b1 4 rfl Try.isAgg3 rfl rfl) rfl ?_
      refine TD.run ft_prefix_ok [5] rfl rfl ?_
      refine TD.q rfl .u (Ex.b1 0 rfl Try.isAgg3 rfl rfl) rfl ?_
      obtain ⟨st49, hx50, h⟩ := Option.bind_eq_some_iff.1 h
      refine TD.c5 rfl .u (.fn Try.call81 rfl) (gOInt_spec g st46 a1.fEpoch 2 _ hx50) (fun _ hs => (Src.triv _)) rfl [0, 0, 0, 0, 0] (rfl) ?_
      refine TD.nil (X.blk (X.seq (T.region rfl ?_)))
      refine TL.q rfl .u (Ex.add rfl rfl (by omega)) rfl ?_
      refine TL.run ft_prefix_ok [1] rfl rfl ?_
      refine TL.nil ?_
      refine X.sel [0, 1, 1, 1, 1] rfl ?_
      refine X.un (TW.step (T.seq (T.region rfl ?_)))
      refine TL.run ft_prefix_ok [0] rfl rfl ?_
      refine TL.nil (X.seq (T.seq ?_))
      refine T.yes rfl (decide_eq_true (show 11 < 13 by omega)) ?_
      refine T.skip (X.seq (T.seq (T.block (T.seq (T.region rfl ?_)))))
      refine TL.q rfl .u (Ex.ixL (k := 11) (r := 22) rfl rfl rfl Try.runUnderlying136 Try.sizeOf140 (by decide) rfl) rfl ?_
      refine TL.q rfl .u (Ex.bS (us := [.pointer (some ⟨b1, 10, none⟩), .int .i64 4]) 1 rfl Try.isAgg140 Try.sizeOf140 rfl rfl rfl) rfl ?_
      refine TL.alloc rfl .u Try.zeroValue140 rfl (fun b51 => ?_)
      refine TL.st0 (cs' := #[.pointer (some ⟨b1, 10, none⟩), .int .i64 4]) rfl .u rfl rfl Try.sizeOf140 rfl rfl rfl rfl ?_
      refine TL.nil (X.seq (T.draw (.q 0 (.q 1 (.q 2 (.q 3 (.q 4 (.q 5 (.q 6 (.e 7 .nil)))))))) [0, 0, 0, 0, 0] rfl mix_prefix (NoP.blk (NoP.seq (NoP.seq (NoP.blk np_post)))) (by kernel_rfl) ?_))
      refine TD.run ft_prefix_ok [0, 1] rfl rfl ?_
      refine TD.q rfl .u (Ex.b1 0 rfl Try.isAgg138 rfl rfl) rfl ?_
      refine TD.run ft_prefix_ok [3] rfl rfl ?_
      refine TD.q rfl .u (Ex.b1 4 rfl Try.isAgg3 rfl rfl) rfl ?_
      refine TD.run ft_prefix_ok [5] rfl rfl ?_
      refine TD.q rfl .u (Ex.b1 0 rfl Try.isAgg3 rfl rfl) rfl ?_
      obtain ⟨st52, hx53, h⟩ := Option.bind_eq_some_iff.1 h
      refine TD.c5 rfl .u (.fn Try.call81 rfl) (gOInt_spec g st49 a1.fSequence 4 _ hx53) (fun _ hs => (Src.triv _)) rfl [0, 0, 0, 0, 0] (rfl) ?_
      refine TD.nil (X.blk (X.seq (T.region rfl ?_)))
      refine TL.q rfl .u (Ex.add rfl rfl (by omega)) rfl ?_
      refine TL.run ft_prefix_ok [1] rfl rfl ?_
      refine TL.nil ?_
      refine X.sel [0, 1, 1, 1, 1] rfl ?_
      refine X.un (TW.step (T.seq (T.region rfl ?_)))
      refine TL.run ft_prefix_ok [0] rfl rfl ?_
      refine TL.nil (X.seq (T.seq ?_))
      refine T.yes rfl (decide_eq_true (show 12 < 13 by omega)) ?_
      refine T.skip (X.seq (T.seq (T.block (T.seq (T.region rfl ?_)))))
      refine TL.q rfl .u (Ex.ixL (k := 12) (r := 24) rfl rfl rfl Try.runUnderlying136 Try.sizeOf140 (by decide) rfl) rfl ?_
      refine TL.q rfl .u (Ex.bS (us := [.pointer (some ⟨b1, 11, none⟩), .int .i64 4]) 1 rfl Try.isAgg140 Try.sizeOf140 rfl rfl rfl) rfl ?_
      refine TL.alloc rfl .u Try.zeroValue140 rfl (fun b54 => ?_)
      refine TL.st0 (cs' := #[.pointer (some ⟨b1, 11, none⟩), .int .i64 4]) rfl .u rfl rfl Try.sizeOf140 rfl rfl rfl rfl ?_
      refine TL.nil (X.seq (T.draw (.q 0 (.q 1 (.q 2 (.q 3 (.q 4 (.q 5 (.q 6 (.e 7 .nil)))))))) [0, 0, 0, 0, 0] rfl mix_prefix (NoP.blk (NoP.seq (NoP.seq (NoP.blk np_post)))) (by kernel_rfl) ?_))
      refine TD.run ft_prefix_ok [0, 1] rfl rfl ?_
      refine TD.q rfl .u (Ex.b1 0 rfl Try.isAgg138 rfl rfl) rfl ?_
      refine TD.run ft_prefix_ok [3] rfl rfl ?_
      refine TD.q rfl .u (Ex.b1 4 rfl Try.isAgg3 rfl rfl) rfl ?_
      refine TD.run ft_prefix_ok [5] rfl rfl ?_
      refine TD.q rfl .u (Ex.b1 0 rfl Try.isAgg3 rfl rfl) rfl ?_
      obtain ⟨st55, hx56, h⟩ := Option.bind_eq_some_iff.1 h
      refine TD.c5 rfl .u (.fn Try.call81 rfl) (gOInt_spec g st52 a1.fCount 4 _ hx56) (fun _ hs => (Src.triv _)) rfl [0, 0, 0, 0, 0] (rfl) ?_
      refine TD.nil (X.blk (X.seq (T.region rfl ?_)))
      refine TL.q rfl .u (Ex.add rfl rfl (by omega)) rfl ?_
      refine TL.run ft_prefix_ok [1] rfl rfl ?_
      refine TL.nil ?_
      refine X.sel [0, 1, 1, 1, 1] rfl ?_
      refine X.un (TW.step (T.seq (T.region rfl ?_)))
      refine TL.run ft_prefix_ok [0] rfl rfl ?_
      refine TL.nil (X.seq (T.seq ?_))
      refine T.no rfl (decide_eq_false (show ¬ (13 < 13) by omega)) ?_
      obtain rfl := Option.some.inj h
      exact T.exit (X.exs (X.exs (X.ex (X.done0 [4] Try.results51 ⟨rfl, rfl, rfl⟩ (by rfl) (.inr rfl)))))
end Go.Proofs.Ytahjmpipllajcaa.Sl
namespace Go.Proofs.Ytahjmpipllajcaa.Sl
open Go.RowKit
set_option linter.unusedVariables false
set_option linter.unusedSimpArgs false
set_option maxRecDepth 100000
def ft_header : FTab := [(85, 0, 0), (85, 1, 1)]
theorem ft_header_ok : (ft_header).OK Try.prog := ⟨FOK.mk Try.runUnderlying85 rfl Try.sizeOf9 rfl, FOK.mk Try.runUnderlying85 rfl Try.sizeOf80 rfl, trivial⟩
theorem bok_header_85 : BOK Try.prog 85 #[.string ⟨#[]⟩, .bool false, .string ⟨#[]⟩] [(0, 1), (1, 2)] := BOK.mk Try.zeroValue85 Try.runUnderlying85 (by intro w; simp)
theorem sok_header_81_1 : SOK Try.prog 81 85 1 3 #[.string ⟨#[]⟩, .bool false, .string ⟨#[]⟩] := SOK.mk Try.runUnderlying81 Try.sizeOf85 Try.zeroValue85 (by decide) (by kernel_rfl)
theorem inf_header_85 : (Try.prog.info? 85).map (fun i => (i.zero, i.size, i.bytes)) = some (some (.agg #[.string ⟨#[]⟩, .bool false, .string ⟨#[]⟩]), 3, 40) := by kernel_rfl
def f_header_Read_l1 (x1 : Int) : Nat → List Hd → List Hd → Nat → I → Option (Lp (List Hd × I) (List Hd × List Hd × Nat × I))
  | 0, _, _, _, _ => none
  | m29 + 1, y18, y21, k24, st25 => if (k24 : Int) < x1 then ((gName st25).bind fun (x34, st35) => (gVaried st35).bind fun (x37, st38) => if (y21.length + 1) * 40 ≤ 140737488355328 then ((gErr st38).bind fun (x44, st45) => if x44 = 0 then (if -9223372036854775808 ≤ ((k24 : Int) + 1) ∧ ((k24 : Int) + 1) ≤ 9223372036854775807 then (f_header_Read_l1 x1 m29 y18 (y21 ++ [(⟨x34, x37⟩ : Hd)]) (k24 + 1) st45) else none) else (some (Lp.ret ([], st45)))) else none) else (some (Lp.go (y18, y21, k24, st25)))
def f_header_Read (st : I)  : Option (List Hd × I) := (gVInt st).bind fun (x1, st2) => (gErr st2).bind fun (x4, st5) => if x4 = 0 then (if x1 < 0 then ((gIFail st5 4).bind fun st9 => some ([], st9)) else ((gLeft st5).bind fun (x11, st12) => if 0 ≤ x11 ∧ x11 ≤ 9223372036854775807 then (if x1 > (x11 / 2) then ((gIFail st12 1).bind fun st16 => some ([], st16)) else ((f_header_Read_l1 x1 ((x1).toNat + 1) [] [] 0 st12).bind fun e => match e with | .ret r => some r | .go (y49, y52, k55, st56) => some (y52, st56))) else none)) else some ([], st5)
set_option maxRecDepth 100000 in
set_option maxHeartbeats 4000000 in
theorem f_header_Read_spec (g : Nat) (st : I)  (r : List Hd × I) (h : f_header_Read st  = some r) : SpecX Try.prog 116 #[.pointer (some ⟨g, 0, none⟩)] .triv (InR g st) (fun v A' N => ∃ (A57 : Option Addr) (c58 : Nat), v = .slice A57 r.1.length c58 ∧ A' = InR g r.2 ∧ N = [RdR (sliceRd 3 Hd_rd) [.slice A57 r.1.length c58] r.1]) := by
  refine enterA Try.func116 rfl Try.ntmps116 rfl ?_
  intro F w hX
  unfold f_header_Read at h
  refine T.seq (T.region rfl ?_)
  refine TL.run ft_header_ok [0] rfl rfl ?_
  refine TL.nil (X.seq (T.seq (T.region rfl ?_)))
  obtain ⟨⟨x1, st2⟩, hx3, h⟩ := Option.bind_eq_some_iff.1 h
  try dsimp only at h
  refine TL.run ft_header_ok [0] rfl rfl ?_
  refine TL.c0 rfl .u (.fn Try.call114 rfl) (gVInt_spec g st _ hx3) (fun _ hs => (Src.triv _)) rfl ?_
  refine TL.run ft_header_ok [2] rfl rfl ?_
  refine TL.nil (X.seq (T.seq (T.block (T.seq (T.region rfl ?_)))))
  obtain ⟨⟨x4, st5⟩, hx6, h⟩ := Option.bind_eq_some_iff.1 h
  try dsimp only at h
  refine TL.run ft_header_ok [0] rfl rfl ?_
  refine TL.c0 rfl .u (.fn Try.call58 rfl) (gErr_spec g st2 _ hx6) (fun _ hs => (Src.triv _)) rfl ?_
  refine TL.run ft_header_ok [2, 3] rfl rfl ?_
  by_cases c7 : x4 = 0
  · replace h := ifT c7 h
    refine TL.nil (X.seq ?_)
    refine T.no rfl (bn_f (decide_eq_true c7)) ?_
    refine T.seq (T.region rfl ?_)
    refine TL.run ft_header_ok [0, 1, 2] rfl rfl ?_
    by_cases c8 : x1 < 0
    · replace h := ifT c8 h
      refine TL.nil (X.seq ?_)
      refine T.yes rfl (decide_eq_true c8) ?_
      refine T.seq (T.region rfl ?_)
      obtain ⟨st9, hx10, h⟩ := Option.bind_eq_some_iff.1 h
      refine TL.run ft_header_ok [0] rfl rfl ?_
      refine TL.c0 rfl .u (.fn Try.call85 rfl) (gIFail_spec g st5 4 _ hx10) (fun _ hs => (Src.triv _)) rfl ?_
      refine TL.nil (X.seq (T.seq (T.region rfl ?_)))
      refine TL.run ft_header_ok [0] rfl rfl ?_
      obtain rfl := Option.some.inj h
      refine TL.nil (X.seq (T.ret (X.rb (X.rs ?_))))
      refine X.nilrd 3 Hd_rd ?_
      exact X.done1 [1, 0] Try.results116 (RV.tm rfl) ⟨_, _, rfl, rfl, rfl⟩ (by rfl) (.inl rfl)
    · replace h := ifF c8 h
      refine TL.nil (X.seq ?_)
      refine T.no rfl (decide_eq_false c8) ?_
      refine T.seq (T.region rfl ?_)
      obtain ⟨⟨x11, st12⟩, hx13, h⟩ := Option.bind_eq_some_iff.1 h
      try dsimp only at h
      refine TL.run ft_header_ok [0, 1] rfl rfl ?_
      refine TL.c0 rfl .u (.fn Try.call105 rfl) (gLeft_spec g st5 _ hx13) (fun _ hs => (Src.triv _)) rfl ?_
      replace h := guard_some h
      obtain ⟨c14, h⟩ := h
      refine TL.q rfl .u (Ex.quo rfl rfl (by omega) c14) rfl ?_
      refine TL.run ft_header_ok [4, 5] rfl rfl ?_
      by_cases c15 : x1 > (x11 / 2)
      · replace h := ifT c15 h
        refine TL.nil (X.seq ?_)
        refine T.yes rfl (decide_eq_true c15) ?_
        refine T.seq (T.region rfl ?_)
        obtain ⟨st16, hx17, h⟩ := Option.bind_eq_some_iff.1 h
        refine TL.run ft_header_ok [0] rfl rfl ?_
        refine TL.c0 rfl .u (.fn Try.call85 rfl) (gIFail_spec g st12 1 _ hx17) (fun _ hs => (Src.triv _)) rfl ?_
        refine TL.nil (X.seq (T.seq (T.region rfl ?_)))
        refine TL.run ft_header_ok [0] rfl rfl ?_
        obtain rfl := Option.some.inj h
        refine TL.nil (X.seq (T.ret (X.rb (X.rs ?_))))
        refine X.nilrd 3 Hd_rd ?_
        exact X.done1 [1, 0] Try.results116 (RV.tm rfl) ⟨_, _, rfl, rfl, rfl⟩ (by rfl) (.inl rfl)
      · replace h := ifF c15 h
        refine TL.nil (X.seq ?_)
        refine T.no rfl (decide_eq_false c15) ?_
        refine T.skip (X.blk (X.seq (T.seq (T.region rfl ?_))))
        refine TL.run ft_header_ok [0] rfl rfl ?_
        refine TL.nil (X.seq (T.seq (T.seq (T.region rfl ?_))))
        refine TL.run ft_header_ok [0, 1] rfl rfl ?_
        refine TL.nil (X.seq (T.block ?_))
        refine T.nilrow 85 3 Hd_rd ?_
        refine T.nilrow 85 3 Hd_rd ?_
        obtain ⟨E26, hE27, hO28⟩ := Option.bind_eq_some_iff.1 h
        refine T.lp (fun m e Rs => ∃ (y18 : List Hd) (A19 : Option Addr) (c20 : Nat) (y21 : List Hd) (A22 : Option Addr) (c23 : Nat) (k24 : Nat) (st25 : I), e = [(0, .pointer (some ⟨g, 0, none⟩)), (2, .slice A19 y18.length c20), (4, .slice A22 y21.length c23), (25, .int .i64 x1), (26, .int .i64 (k24 : Int))] ∧ Rs = [OwnR 85 3 Hd_rd (.slice A19 y18.length c20) y18, OwnR 85 3 Hd_rd (.slice A22 y21.length c23) y21, InR g st25] ∧ f_header_Read_l1 x1 m y18 y21 k24 st25 = some E26) ((x1).toNat + 1) [0, 0, 0] ⟨[], none, 0, [], none, 0, 0, st12, rfl, rfl, by exact hE27⟩ (by rfl) (by rfl) ?_
        rintro m29 _ _ ⟨y18, A19, c20, y21, A22, c23, k24, st25, rfl, rfl, hl31⟩
        clear hE27 h
        cases m29 with
        | zero =>
          rw [f_header_Read_l1] at hl31
          cases hl31
        | succ m29 =>
          have h := hl31
          clear hl31
          rw [f_header_Read_l1] at h
          refine T.seq (T.region rfl ?_)
          refine TL.run ft_header_ok [0] rfl rfl ?_
          by_cases c33 : (k24 : Int) < x1
          · replace h := ifT c33 h
            refine TL.nil (X.seq (T.seq ?_))
            refine T.yes rfl (decide_eq_true c33) ?_
            refine T.skip (X.seq (T.seq (T.block (T.seq (T.region rfl ?_)))))
            obtain ⟨⟨x34, st35⟩, hx36, h⟩ := Option.bind_eq_some_iff.1 h
            try dsimp only at h
            refine TL.run ft_header_ok [0] rfl rfl ?_
            refine TL.c2 rfl .u (.fn Try.call112 rfl) (gName_spec g st25 _ hx36) (fun _ hs => (Src.triv _)) rfl ?_
            refine TL.run ft_header_ok [2] rfl rfl ?_
            refine TL.nil (X.seq (T.seq (T.region rfl ?_)))
            obtain ⟨⟨x37, st38⟩, hx39, h⟩ := Option.bind_eq_some_iff.1 h
            try dsimp only at h
            refine TL.run ft_header_ok [0, 1, 2] rfl rfl ?_
            refine TL.c2 rfl .u (.fn Try.call115 rfl) (gVaried_spec g st35 _ hx39) (fun _ hs => (Src.triv _)) rfl ?_
            refine TL.q rfl .u (Ex.bld (cells := #[.string (bsOf x34), .bool x37.null, .string (bsOf x37.data)]) bok_header_85 rfl (by kernel_rfl)) rfl ?_
            refine TL.lit (cells := #[.string (bsOf x34), .bool x37.null, .string (bsOf x37.data)]) rfl .u sok_header_81_1 rfl (by kernel_rfl) rfl (fun b40 => ?_)
            replace h := guard_some h
            obtain ⟨c41, h⟩ := h
            refine TL.app1 1 rfl .u (us := [.string (bsOf x34), .bool x37.null, .string (bsOf x37.data)]) (u := (⟨x34, x37⟩ : Hd)) (l := y21) (E := Hd_rd) Try.underlying81 inf_header_85 rfl (by decide) rfl rfl rfl rfl rfl rfl (fun _ _ => rfl) (by have hq := c41; omega) (by have hq := c41; omega) rfl (fun A42 c43 => ?_)
            refine TL.sel [0, 0, 0] rfl ?_
            refine TL.run ft_header_ok [7] rfl rfl ?_
            refine TL.nil (X.seq (T.seq (T.region rfl ?_)))
            obtain ⟨⟨x44, st45⟩, hx46, h⟩ := Option.bind_eq_some_iff.1 h
            try dsimp only at h
            refine TL.run ft_header_ok [0] rfl rfl ?_
            refine TL.c2 rfl .u (.fn Try.call58 rfl) (gErr_spec g st38 _ hx46) (fun _ hs => (Src.triv _)) rfl ?_
            refine TL.run ft_header_ok [2] rfl rfl ?_
            by_cases c47 : x44 = 0
            · replace h := ifT c47 h
              refine TL.nil (X.seq ?_)
              refine T.no rfl (bn_f (decide_eq_true c47)) ?_
              replace h := guard_some h
              obtain ⟨c48, h⟩ := h
              refine T.skip (X.blk (X.seq (T.region rfl ?_)))
              refine TL.q rfl .u (Ex.add rfl rfl c48) rfl ?_
              refine TL.run ft_header_ok [1] rfl rfl ?_
              exact TL.nil (X.back (m' := m29) [0, 0, 0] (by omega) ⟨y18, A19, c20, (y21 ++ [(⟨x34, x37⟩ : Hd)]), A42, c43, k24 + 1, st45, rfl, rfl, h⟩ (by rfl) (by rfl))
            · replace h := ifF c47 h
              refine TL.nil (X.seq ?_)
              refine T.yes rfl (bn_t (decide_eq_false c47)) ?_
              refine T.seq (T.region rfl ?_)
              refine TL.run ft_header_ok [0] rfl rfl ?_
              obtain rfl := Option.some.inj h
              replace h := hO28
              clear hO28
              try dsimp only at h
              obtain rfl := Option.some.inj h
              refine TL.nil (X.seq (T.ret (X.rb (X.rs (X.rs (X.rb (X.rs ?_)))))))
              refine X.nilrd 3 Hd_rd ?_
              exact X.done1 [3, 0] Try.results116 (RV.tm rfl) ⟨_, _, rfl, rfl, rfl⟩ (by rfl) (.inl rfl)
          · replace h := ifF c33 h
            refine TL.nil (X.seq (T.seq ?_))
            refine T.no rfl (decide_eq_false c33) ?_
            obtain rfl := Option.some.inj h
            replace h := hO28
            clear hO28
            try dsimp only at h
            refine T.exit (X.exs (X.exs (X.ex (X.seq (T.seq (T.region rfl ?_))))))
            refine TL.run ft_header_ok [0, 1] rfl rfl ?_
            obtain rfl := Option.some.inj h
            refine TL.nil (X.seq (T.ret ?_))
            refine X.shut (by decide) 1 rfl ?_
            refine X.sel [0, 0, 0] rfl ?_
            exact X.done1 [2, 1] Try.results116 (RV.tm rfl) ⟨_, _, rfl, rfl, rfl⟩ (by rfl) (.inl rfl)
  · replace h := ifF c7 h
    refine TL.nil (X.seq ?_)
    refine T.yes rfl (bn_t (decide_eq_false c7)) ?_
    refine T.seq (T.region rfl ?_)
    refine TL.run ft_header_ok [0] rfl rfl ?_
    obtain rfl := Option.some.inj h
    refine TL.nil (X.seq (T.ret (X.rb (X.rs ?_))))
    refine X.nilrd 3 Hd_rd ?_
    exact X.done1 [1, 0] Try.results116 (RV.tm rfl) ⟨_, _, rfl, rfl, rfl⟩ (by rfl) (.inl rfl)
def f_header_Write_l1 : List Hd → (List UInt8 × Int) → Option (List UInt8 × Int)
  | [], st6 => some st6
  | x11 :: xs, st6 => (gPutName st6 x11.fKey).bind fun st16 => (gPutVaried st16 x11.fValue).bind fun st18 => f_header_Write_l1 xs st18
def f_header_Write (st : List UInt8 × Int) (a1 : List Hd) : Option (List UInt8 × Int) := (gPutInt st (a1.length : Int)).bind fun st3 => (f_header_Write_l1 a1 st3).bind fun st21 => some st21
set_option maxRecDepth 100000 in
set_option maxHeartbeats 4000000 in
theorem f_header_Write_spec (g : Nat) (st : List UInt8 × Int) (a1 : List Hd) (A1 : Option Addr) (c2 : Nat) (r : List UInt8 × Int) (h : f_header_Write st a1 = some r) : SpecX Try.prog 101 #[.pointer (some ⟨g, 0, none⟩), .slice A1 a1.length c2] (RX.of (sliceRd 3 Hd_rd) [.slice A1 a1.length c2] a1) (OutR g st) (fun v A' N => v = .tuple #[] ∧ A' = OutR g r ∧ N = []) := by
  refine enterA Try.func101 rfl Try.ntmps101 rfl ?_
  intro F w hX
  unfold f_header_Write at h
  refine T.seq (T.region rfl ?_)
  refine TL.run ft_header_ok [0, 1] rfl rfl ?_
  refine TL.q rfl .u (Ex.lenS rfl Try.runUnderlying81) rfl ?_
  obtain ⟨st3, hx4, h⟩ := Option.bind_eq_some_iff.1 h
  refine TL.c0 rfl .u (.fn Try.call99 rfl) (gPutInt_spec g st (a1.length : Int) _ hx4) (fun _ hs => (Src.triv _)) rfl ?_
  refine TL.nil (X.seq (T.seq (T.region rfl ?_)))
  refine TL.run ft_header_ok [0] rfl rfl ?_
  refine TL.q rfl .u (Ex.lenS rfl Try.runUnderlying81) rfl ?_
  refine TL.run ft_header_ok [2] rfl rfl ?_
  refine TL.nil (X.seq (T.block ?_))
  obtain ⟨E7, hE8, hO9⟩ := Option.bind_eq_some_iff.1 h
  have hk13len := RX.len_le hX
  refine T.lp (fun m e Rs => ∃ (k5 : Nat) (st6 : List UInt8 × Int), k5 + m = a1.length ∧ e = [(0, .pointer (some ⟨g, 0, none⟩)), (10, .slice A1 a1.length c2), (11, .int .i64 (a1.length : Int)), (12, .int .i64 (k5 : Int))] ∧ Rs = [OutR g st6] ∧ f_header_Write_l1 (a1.drop k5) st6 = some E7) (a1.length) [0] ⟨0, st3, by simp, rfl, rfl, by rw [List.drop_zero]; exact hE8⟩ (by rfl) (by rfl) ?_
  rintro m10 _ _ ⟨k5, st6, hk13, rfl, rfl, hl12⟩
  clear hE8 h
  cases m10 with
  | zero =>
    have h := hl12
    clear hl12
    rw [List.drop_of_length_le (by omega), f_header_Write_l1] at h
    have hk13ge : ¬ ((k5 : Int) < (a1.length : Int)) := by omega
    refine T.seq (T.region rfl ?_)
    refine TL.run ft_header_ok [0] rfl rfl ?_
    refine TL.nil (X.seq (T.seq ?_))
    refine T.no rfl (decide_eq_false hk13ge) ?_
    obtain rfl := Option.some.inj h
    replace h := hO9
    clear hO9
    try dsimp only at h
    obtain rfl := Option.some.inj h
    exact T.exit (X.exs (X.exs (X.ex (X.done0 [0] Try.results101 ⟨rfl, rfl, rfl⟩ (by rfl) (.inr rfl)))))
  | succ m10 =>
    have h := hl12
    clear hl12
    obtain ⟨x11, hxx11⟩ : ∃ x, a1[k5]? = some x := ⟨_, List.getElem?_eq_getElem (by omega)⟩
    rw [drop_cons hxx11, f_header_Write_l1] at h
    have hk13lt : (k5 : Int) < (a1.length : Int) := by omega
    refine T.seq (T.region rfl ?_)
    refine TL.run ft_header_ok [0] rfl rfl ?_
    refine TL.nil (X.seq (T.seq ?_))
    refine T.yes rfl (decide_eq_true hk13lt) ?_
    obtain ⟨gz14, oz14, rfl, z14cs, z14cl, z14cc, z14nf, z14r⟩ := RX.elem (by decide) hX hxx11
    obtain ⟨z14S, z14r, z14rr⟩ := z14r
    obtain rfl : z14cs = [.string (bsOf x11.fKey), .bool x11.fValue.null, .string (bsOf x11.fValue.data)] := z14r
    refine T.skip (X.seq (T.seq (T.block (T.seq (T.region rfl ?_)))))
    refine TL.q rfl .u (Ex.ixS (k := k5) rfl rfl rfl Try.runUnderlying81 Try.sizeOf85 (List.getElem?_eq_some_iff.1 hxx11).1) rfl ?_
    refine TL.q rfl .u (Ex.oS (us := [.string (bsOf x11.fKey), .bool x11.fValue.null, .string (bsOf x11.fValue.data)]) 0 rfl Try.isAgg85 Try.sizeOf85 z14nf z14cc rfl rfl rfl) rfl ?_
    refine TL.alloc rfl .u Try.zeroValue85 rfl (fun b15 => ?_)
    refine TL.st0 (cs' := #[.string (bsOf x11.fKey), .bool x11.fValue.null, .string (bsOf x11.fValue.data)]) rfl .u rfl rfl Try.sizeOf85 rfl rfl rfl rfl ?_
    refine TL.nil (X.seq (T.seq (T.region rfl ?_)))
    refine TL.run ft_header_ok [0, 1] rfl rfl ?_
    refine TL.q rfl .u (Ex.b1 0 rfl Try.isAgg9 rfl rfl) rfl ?_
    obtain ⟨st16, hx17, h⟩ := Option.bind_eq_some_iff.1 h
    refine TL.c1 rfl .u (.fn Try.call79 rfl) (gPutName_spec g st6 x11.fKey _ hx17) (fun _ hs => (Src.triv _)) rfl ?_
    refine TL.nil (X.seq (T.region rfl ?_))
    refine TL.run ft_header_ok [0, 1] rfl rfl ?_
    refine TL.q rfl .u (Ex.bS (us := [.bool x11.fValue.null, .string (bsOf x11.fValue.data)]) 0 rfl Try.isAgg80 Try.sizeOf80 rfl rfl rfl) rfl ?_
    obtain ⟨st18, hx19, h⟩ := Option.bind_eq_some_iff.1 h
    refine TL.c1 rfl .u (.fn Try.call100 rfl) (gPutVaried_spec g st16 x11.fValue _ hx19) (fun _ hs => (Src.triv _)) rfl ?_
    refine TL.nil (X.blk (X.seq (T.region rfl ?_)))
    refine TL.q rfl .u (Ex.add rfl rfl (by omega)) rfl ?_
    refine TL.run ft_header_ok [1] rfl rfl ?_
    exact TL.nil (X.back (m' := m10) [1] (by omega) ⟨k5 + 1, st18, by omega, rfl, rfl, h⟩ (by rfl) (by rfl))
end Go.Proofs.Ytahjmpipllajcaa.Sl
namespace Go.Proofs.Ytahjmpipllajcaa.Sl
open Go.RowKit
set_option linter.unusedVariables false
set_option linter.unusedSimpArgs false
set_option maxRecDepth 100000
def ft_record : FTab := [(83, 0, 0), (83, 1, 1), (83, 2, 2), (83, 3, 4), (83, 4, 6), (85, 1, 1)]
theorem ft_record_ok : (ft_record).OK Try.prog := ⟨FOK.mk Try.runUnderlying83 rfl Try.sizeOf3 rfl, FOK.mk Try.runUnderlying83 rfl Try.sizeOf3 rfl, FOK.mk Try.runUnderlying83 rfl Try.sizeOf80 rfl, FOK.mk Try.runUnderlying83 rfl Try.sizeOf80 rfl, FOK.mk Try.runUnderlying83 rfl Try.sizeOf81 rfl, FOK.mk Try.runUnderlying85 rfl Try.sizeOf80 rfl, trivial⟩
theorem bok_record_83 : BOK Try.prog 83 #[.int .i64 0, .int .i64 0, .bool false, .string ⟨#[]⟩, .bool false, .string ⟨#[]⟩, .slice none 0 0] [(0, 1), (1, 1), (2, 2), (4, 2), (6, 1)] := BOK.mk Try.zeroValue83 Try.runUnderlying83 (by intro w; simp)
theorem sok_record_159_1 : SOK Try.prog 159 80 1 2 #[.bool false, .string ⟨#[]⟩] := SOK.mk Try.runUnderlying159 Try.sizeOf80 Try.zeroValue80 (by decide) (by kernel_rfl)
theorem sok_record_159_2 : SOK Try.prog 159 80 2 2 #[.bool false, .string ⟨#[]⟩, .bool false, .string ⟨#[]⟩] := SOK.mk Try.runUnderlying159 Try.sizeOf80 Try.zeroValue80 (by decide) (by kernel_rfl)
def f_record_rights_l1 : List Bl → Bool → Option (Lp Bool Bool)
  | [], y3 => some (Lp.go y3)
  | x9 :: xs, y3 => (gRight x9).bind fun x14 => if x14 = true then (f_record_rights_l1 xs y3) else some (Lp.ret false)
def f_record_rights (a0 : List Bl) : Option (Bool) := (f_record_rights_l1 a0 false).bind fun e => match e with | .ret r => some r | .go y17 => some true
set_option maxRecDepth 100000 in
set_option maxHeartbeats 4000000 in
theorem f_record_rights_spec (a0 : List Bl) (A1 : Option Addr) (c2 : Nat) (r : Bool) (h : f_record_rights a0 = some r) : SpecX Try.prog 74 #[.slice A1 a0.length c2] (RX.of (sliceRd 2 Bl_rd) [.slice A1 a0.length c2] a0) (EmpR) (fun v A' N => v = .bool r ∧ A' = EmpR ∧ N = []) := by
  refine enterA Try.func74 rfl Try.ntmps74 rfl ?_
  intro F w hX
  unfold f_record_rights at h
  refine T.seq (T.region rfl ?_)
  refine TL.run ft_record_ok [0] rfl rfl ?_
  refine TL.nil (X.seq (T.seq (T.seq (T.region rfl ?_))))
  refine TL.run ft_record_ok [0] rfl rfl ?_
  refine TL.q rfl .u (Ex.lenS rfl Try.runUnderlying159) rfl ?_
  refine TL.run ft_record_ok [2] rfl rfl ?_
  refine TL.nil (X.seq (T.block ?_))
  obtain ⟨E5, hE6, hO7⟩ := Option.bind_eq_some_iff.1 h
  have hk11len := RX.len_le hX
  refine T.lp (fun m e Rs => ∃ (y3 : Bool) (k4 : Nat), k4 + m = a0.length ∧ e = [(2, .bool y3), (5, .slice A1 a0.length c2), (6, .int .i64 (a0.length : Int)), (7, .int .i64 (k4 : Int))] ∧ Rs = [EmpR] ∧ f_record_rights_l1 (a0.drop k4) y3 = some E5) (a0.length) [0] ⟨false, 0, by simp, rfl, rfl, by rw [List.drop_zero]; exact hE6⟩ (by rfl) (by rfl) ?_
  rintro m8 _ _ ⟨y3, k4, hk11, rfl, rfl, hl10⟩
  clear hE6 h
  cases m8 with
  | zero =>
    have h := hl10
    clear hl10
    rw [List.drop_of_length_le (by omega), f_record_rights_l1] at h
    have hk11ge : ¬ ((k4 : Int) < (a0.length : Int)) := by omega
    refine T.seq (T.region rfl ?_)
    refine TL.run ft_record_ok [0] rfl rfl ?_
    refine TL.nil (X.seq (T.seq ?_))
    refine T.no rfl (decide_eq_false hk11ge) ?_
    obtain rfl := Option.some.inj h
    replace h := hO7
    clear hO7
    try dsimp only at h
    refine T.exit (X.exs (X.exs (X.ex (X.seq (T.seq (T.region rfl ?_))))))
    refine TL.run ft_record_ok [0] rfl rfl ?_
    obtain rfl := Option.some.inj h
    exact TL.nil (X.seq (T.ret (X.done1 [0] Try.results74 (RV.tm rfl) ⟨rfl, rfl, rfl⟩ (by rfl) (.inl rfl))))
  | succ m8 =>
    have h := hl10
    clear hl10
    obtain ⟨x9, hxx9⟩ : ∃ x, a0[k4]? = some x := ⟨_, List.getElem?_eq_getElem (by omega)⟩
    rw [drop_cons hxx9, f_record_rights_l1] at h
    have hk11lt : (k4 : Int) < (a0.length : Int) := by omega
    refine T.seq (T.region rfl ?_)
    refine TL.run ft_record_ok [0] rfl rfl ?_
    refine TL.nil (X.seq (T.seq ?_))
    refine T.yes rfl (decide_eq_true hk11lt) ?_
    obtain ⟨gz12, oz12, rfl, z12cs, z12cl, z12cc, z12nf, z12r⟩ := RX.elem (by decide) hX hxx9
    obtain ⟨z12S, z12r, z12rr⟩ := z12r
    obtain rfl : z12cs = [.bool x9.null, .string (bsOf x9.data)] := z12r
    refine T.skip (X.seq (T.seq (T.block (T.seq (T.region rfl ?_)))))
    refine TL.q rfl .u (Ex.ixS (k := k4) rfl rfl rfl Try.runUnderlying159 Try.sizeOf80 (List.getElem?_eq_some_iff.1 hxx9).1) rfl ?_
    refine TL.q rfl .u (Ex.oS (us := [.bool x9.null, .string (bsOf x9.data)]) 0 rfl Try.isAgg80 Try.sizeOf80 z12nf z12cc rfl rfl rfl) rfl ?_
    refine TL.alloc rfl .u Try.zeroValue80 rfl (fun b13 => ?_)
    refine TL.st0 (cs' := #[.bool x9.null, .string (bsOf x9.data)]) rfl .u rfl rfl Try.sizeOf80 rfl rfl rfl rfl ?_
    refine TL.nil (X.seq (T.seq (T.region rfl ?_)))
    refine TL.q rfl .u (Ex.bS (us := [.bool x9.null, .string (bsOf x9.data)]) 0 rfl Try.isAgg80 Try.sizeOf80 rfl rfl rfl) rfl ?_
    obtain ⟨x14, hx15, h⟩ := Option.bind_eq_some_iff.1 h
    refine TL.ce rfl .u (.fn Try.call93 rfl) (gRight_spec x9 _ hx15) (fun _ hs => (RX.reads_triv _ _)) rfl ?_
    refine TL.run ft_record_ok [2] rfl rfl ?_
    by_cases c16 : x14 = true
    · replace h := ifT c16 h
      refine TL.nil (X.seq ?_)
      refine T.no rfl (bn_f c16) ?_
      refine T.skip (X.blk (X.seq (T.region rfl ?_)))
      refine TL.q rfl .u (Ex.add rfl rfl (by omega)) rfl ?_
      refine TL.run ft_record_ok [1] rfl rfl ?_
      exact TL.nil (X.back (m' := m8) [1] (by omega) ⟨y3, k4 + 1, by omega, rfl, rfl, h⟩ (by rfl) (by rfl))
    · replace h := ifF c16 h
      replace c16 := eq_false_of_ne_true c16
      refine TL.nil (X.seq ?_)
      refine T.yes rfl (bn_t c16) ?_
      refine T.seq (T.region rfl ?_)
      refine TL.run ft_record_ok [0] rfl rfl ?_
      obtain rfl := Option.some.inj h
      replace h := hO7
      clear hO7
      try dsimp only at h
      obtain rfl := Option.some.inj h
      exact TL.nil (X.seq (T.ret (X.rb (X.rs (X.rs (X.rb (X.rs (X.done1 [1] Try.results74 (RV.tm rfl) ⟨rfl, rfl, rfl⟩ (by rfl) (.inl rfl)))))))))
def f_record_Right_l1 : List Hd → Int → Option (Lp Int Int)
  | [], y12 => some (Lp.go y12)
  | x18 :: xs, y12 => (f_record_rights [x18.fValue]).bind fun x24 => if x24 = true then (f_record_Right_l1 xs y12) else some (Lp.ret 4)
def f_record_Right (a0 : Rec) : Option (Int) := if a0.fOffset < 0 then some 11 else ((gFits a0.fOffset 4).bind fun x5 => if x5 = true then ((f_record_rights [a0.fKey, a0.fValue]).bind fun x9 => if x9 = true then ((f_record_Right_l1 a0.fHeaders 0).bind fun e => match e with | .ret r => some r | .go y27 => some 0) else some 4) else some 11)
set_option maxRecDepth 100000 in
set_option maxHeartbeats 4000000 in
theorem f_record_Right_spec (a0 : Rec) (A1 : Option Addr) (c2 : Nat) (r : Int) (h : f_record_Right a0 = some r) : SpecX Try.prog 45 #[.agg #[.int .i64 a0.fTime, .int .i64 a0.fOffset, .bool a0.fKey.null, .string (bsOf a0.fKey.data), .bool a0.fValue.null, .string (bsOf a0.fValue.data), .slice A1 a0.fHeaders.length c2]] (RX.of (sliceRd 3 Hd_rd) [.slice A1 a0.fHeaders.length c2] a0.fHeaders) (EmpR) (fun v A' N => v = .int .i64 r ∧ A' = EmpR ∧ N = []) := by
  refine enterA Try.func45 rfl Try.ntmps45 rfl ?_
  intro F w hX
  unfold f_record_Right at h
  refine T.seq (T.region rfl ?_)
  refine TL.box rfl .u rfl rfl (fun b3 => ?_)
  refine TL.run ft_record_ok [1] rfl rfl ?_
  refine TL.nil (X.seq (T.seq (T.seq (T.region rfl ?_))))
  refine TL.run ft_record_ok [0] rfl rfl ?_
  refine TL.q rfl .u (Ex.b1 0 rfl Try.isAgg3 rfl rfl) rfl ?_
  by_cases c4 : a0.fOffset < 0
  · replace h := ifT c4 h
    refine TL.run ft_record_ok [2, 3] rfl rfl ?_
    refine TL.no rfl (.gn rfl rfl (decide_eq_true c4)) rfl ?_
    refine TL.no rfl (.gn rfl rfl (decide_eq_true c4)) rfl ?_
    refine TL.no rfl (.gn rfl rfl (decide_eq_true c4)) rfl ?_
    refine TL.no rfl (.gn rfl rfl (decide_eq_true c4)) rfl ?_
    refine TL.q rfl .u (Ex.py rfl (decide_eq_true c4) rfl) rfl ?_
    refine TL.nil (X.seq ?_)
    refine T.yes rfl rfl ?_
    refine T.seq (T.region rfl ?_)
    refine TL.run ft_record_ok [0] rfl rfl ?_
    obtain rfl := Option.some.inj h
    exact TL.nil (X.seq (T.ret (X.rs (X.done1 [1] Try.results45 (RV.tm rfl) ⟨rfl, rfl, rfl⟩ (by rfl) (.inl rfl)))))
  · replace h := ifF c4 h
    refine TL.run ft_record_ok [2, 3] rfl rfl ?_
    refine TL.q rfl (.g rfl rfl (decide_eq_false c4)) (Ex.ft ft_record_ok rfl) rfl ?_
    refine TL.q rfl (.g rfl rfl (decide_eq_false c4)) (Ex.b1 0 rfl Try.isAgg3 rfl rfl) rfl ?_
    obtain ⟨x5, hx6, h⟩ := Option.bind_eq_some_iff.1 h
    refine TL.ce rfl (.g rfl rfl (decide_eq_false c4)) (.fn Try.call73 rfl) (SpecX.pure (fun w => gFits_spec a0.fOffset 4 _ hx6 w)) (fun _ _ => RX.reads_triv _ _) rfl ?_
    refine TL.q rfl (.g rfl rfl (decide_eq_false c4)) (Ex.ft ft_record_ok rfl) rfl ?_
    refine TL.q rfl .u (Ex.pn rfl (decide_eq_false c4) rfl) rfl ?_
    by_cases c7 : x5 = true
    · replace h := ifT c7 h
      refine TL.nil (X.seq ?_)
      refine T.no rfl (bn_f c7) ?_
      refine T.skip (X.seq (T.seq (T.seq (T.region rfl ?_))))
      refine TL.run ft_record_ok [0] rfl rfl ?_
      refine TL.q rfl .u (Ex.bS (us := [.bool a0.fKey.null, .string (bsOf a0.fKey.data)]) 0 rfl Try.isAgg80 Try.sizeOf80 rfl rfl rfl) rfl ?_
      refine TL.run ft_record_ok [2] rfl rfl ?_
      refine TL.q rfl .u (Ex.bS (us := [.bool a0.fValue.null, .string (bsOf a0.fValue.data)]) 0 rfl Try.isAgg80 Try.sizeOf80 rfl rfl rfl) rfl ?_
      refine TL.lit (cells := #[.bool a0.fKey.null, .string (bsOf a0.fKey.data), .bool a0.fValue.null, .string (bsOf a0.fValue.data)]) rfl .u sok_record_159_2 rfl (by kernel_rfl) rfl (fun b8 => ?_)
      refine TL.rowOf (us := [.bool a0.fKey.null, .string (bsOf a0.fKey.data), .bool a0.fValue.null, .string (bsOf a0.fValue.data)]) (xs := [a0.fKey, a0.fValue]) (E := Bl_rd) (z := 2) rfl (Nat.le_of_ble_eq_true rfl) (fun _ => ⟨rfl, rfl, ⟨rfl, rfl, rfl⟩⟩) ?_
      obtain ⟨x9, hx10, h⟩ := Option.bind_eq_some_iff.1 h
      refine TL.ce rfl .u (.fn Try.call74 rfl) (f_record_rights_spec [a0.fKey, a0.fValue] _ _ _ hx10) (fun _ hs => (SrcE.res 0 hs rfl (fun w G h => own_reads (by decide) w G h))) rfl ?_
      refine TL.run ft_record_ok [6] rfl rfl ?_
      by_cases c11 : x9 = true
      · replace h := ifT c11 h
        refine TL.nil (X.seq ?_)
        refine T.no rfl (bn_f c11) ?_
        refine T.skip (X.seq (T.seq (T.seq (T.region rfl ?_))))
        refine TL.run ft_record_ok [0] rfl rfl ?_
        refine TL.q rfl .u (Ex.b1 1 rfl Try.isAgg81 rfl rfl) rfl ?_
        refine TL.q rfl .u (Ex.lenS rfl Try.runUnderlying81) rfl ?_
        refine TL.run ft_record_ok [3] rfl rfl ?_
        refine TL.nil (X.seq (T.block ?_))
        obtain ⟨E14, hE15, hO16⟩ := Option.bind_eq_some_iff.1 h
        have hk20len := RX.len_le hX
        refine T.lp (fun m e Rs => ∃ (y12 : Int) (k13 : Nat), k13 + m = a0.fHeaders.length ∧ e = [(2, .int .i64 y12), (22, .slice A1 a0.fHeaders.length c2), (23, .int .i64 (a0.fHeaders.length : Int)), (24, .int .i64 (k13 : Int))] ∧ Rs = [OwnR 80 2 Bl_rd (.slice (some ⟨b8, 0, none⟩) 2 2) [a0.fKey, a0.fValue], BlkR b3 83 #[.int .i64 a0.fTime, .int .i64 a0.fOffset, .bool a0.fKey.null, .string (bsOf a0.fKey.data), .bool a0.fValue.null, .string (bsOf a0.fValue.data), .slice A1 a0.fHeaders.length c2], EmpR] ∧ f_record_Right_l1 (a0.fHeaders.drop k13) y12 = some E14) (a0.fHeaders.length) [0, 0, 0] ⟨0, 0, by simp, rfl, rfl, by rw [List.drop_zero]; exact hE15⟩ (by rfl) (by rfl) ?_
        rintro m17 _ _ ⟨y12, k13, hk20, rfl, rfl, hl19⟩
        clear hE15 h
        cases m17 with
        | zero =>
          have h := hl19
          clear hl19
          rw [List.drop_of_length_le (by omega), f_record_Right_l1] at h
          have hk20ge : ¬ ((k13 : Int) < (a0.fHeaders.length : Int)) := by omega
          refine T.seq (T.region rfl ?_)
          refine TL.run ft_record_ok [0] rfl rfl ?_
          refine TL.nil (X.seq (T.seq ?_))
          refine T.no rfl (decide_eq_false hk20ge) ?_
          obtain rfl := Option.some.inj h
          replace h := hO16
          clear hO16
          try dsimp only at h
          refine T.exit (X.exs (X.exs (X.ex (X.seq (T.seq (T.region rfl ?_))))))
          refine TL.run ft_record_ok [0] rfl rfl ?_
          obtain rfl := Option.some.inj h
          exact TL.nil (X.seq (T.ret (X.done1 [2] Try.results45 (RV.tm rfl) ⟨rfl, rfl, rfl⟩ (by rfl) (.inl rfl))))
        | succ m17 =>
          have h := hl19
          clear hl19
          obtain ⟨x18, hxx18⟩ : ∃ x, a0.fHeaders[k13]? = some x := ⟨_, List.getElem?_eq_getElem (by omega)⟩
          rw [drop_cons hxx18, f_record_Right_l1] at h
          have hk20lt : (k13 : Int) < (a0.fHeaders.length : Int) := by omega
          refine T.seq (T.region rfl ?_)
          refine TL.run ft_record_ok [0] rfl rfl ?_
          refine TL.nil (X.seq (T.seq ?_))
          refine T.yes rfl (decide_eq_true hk20lt) ?_
          obtain ⟨gz21, oz21, rfl, z21cs, z21cl, z21cc, z21nf, z21r⟩ := RX.elem (by decide) hX hxx18
          obtain ⟨z21S, z21r, z21rr⟩ := z21r
          obtain rfl : z21cs = [.string (bsOf x18.fKey), .bool x18.fValue.null, .string (bsOf x18.fValue.data)] := z21r
          refine T.skip (X.seq (T.seq (T.block (T.seq (T.region rfl ?_)))))
          refine TL.q rfl .u (Ex.ixS (k := k13) rfl rfl rfl Try.runUnderlying81 Try.sizeOf85 (List.getElem?_eq_some_iff.1 hxx18).1) rfl ?_
          refine TL.q rfl .u (Ex.oS (us := [.string (bsOf x18.fKey), .bool x18.fValue.null, .string (bsOf x18.fValue.data)]) 0 rfl Try.isAgg85 Try.sizeOf85 z21nf z21cc rfl rfl rfl) rfl ?_
          refine TL.alloc rfl .u Try.zeroValue85 rfl (fun b22 => ?_)
          refine TL.st0 (cs' := #[.string (bsOf x18.fKey), .bool x18.fValue.null, .string (bsOf x18.fValue.data)]) rfl .u rfl rfl Try.sizeOf85 rfl rfl rfl rfl ?_
          refine TL.nil (X.seq (T.seq (T.region rfl ?_)))
          refine TL.run ft_record_ok [0] rfl rfl ?_
          refine TL.q rfl .u (Ex.bS (us := [.bool x18.fValue.null, .string (bsOf x18.fValue.data)]) 0 rfl Try.isAgg80 Try.sizeOf80 rfl rfl rfl) rfl ?_
          refine TL.lit (cells := #[.bool x18.fValue.null, .string (bsOf x18.fValue.data)]) rfl .u sok_record_159_1 rfl (by rfl) rfl (fun b23 => ?_)
          refine TL.rowOf (us := [.bool x18.fValue.null, .string (bsOf x18.fValue.data)]) (xs := [x18.fValue]) (E := Bl_rd) (z := 2) rfl (Nat.le_of_ble_eq_true rfl) (fun _ => ⟨rfl, rfl, rfl⟩) ?_
          obtain ⟨x24, hx25, h⟩ := Option.bind_eq_some_iff.1 h
          refine TL.ce rfl .u (.fn Try.call74 rfl) (f_record_rights_spec [x18.fValue] _ _ _ hx25) (fun _ hs => (SrcE.res 0 hs rfl (fun w G h => own_reads (by decide) w G h))) rfl ?_
          refine TL.run ft_record_ok [4] rfl rfl ?_
          by_cases c26 : x24 = true
          · replace h := ifT c26 h
            refine TL.nil (X.seq ?_)
            refine T.no rfl (bn_f c26) ?_
            refine T.skip (X.blk (X.seq (T.region rfl ?_)))
            refine TL.q rfl .u (Ex.add rfl rfl (by omega)) rfl ?_
            refine TL.run ft_record_ok [1] rfl rfl ?_
            exact TL.nil (X.back (m' := m17) [2, 2, 2] (by omega) ⟨y12, k13 + 1, by omega, rfl, rfl, h⟩ (by rfl) (by rfl))
          · replace h := ifF c26 h
            replace c26 := eq_false_of_ne_true c26
            refine TL.nil (X.seq ?_)
            refine T.yes rfl (bn_t c26) ?_
            refine T.seq (T.region rfl ?_)
            refine TL.run ft_record_ok [0] rfl rfl ?_
            obtain rfl := Option.some.inj h
            replace h := hO16
            clear hO16
            try dsimp only at h
            obtain rfl := Option.some.inj h
            exact TL.nil (X.seq (T.ret (X.rb (X.rs (X.rs (X.rb (X.rs (X.done1 [4] Try.results45 (RV.tm rfl) ⟨rfl, rfl, rfl⟩ (by rfl) (.inl rfl)))))))))
      · replace h := ifF c11 h
        replace c11 := eq_false_of_ne_true c11
        refine TL.nil (X.seq ?_)
        refine T.yes rfl (bn_t c11) ?_
        refine T.seq (T.region rfl ?_)
        refine TL.run ft_record_ok [0] rfl rfl ?_
        obtain rfl := Option.some.inj h
        exact TL.nil (X.seq (T.ret (X.rs (X.done1 [2] Try.results45 (RV.tm rfl) ⟨rfl, rfl, rfl⟩ (by rfl) (.inl rfl)))))
    · replace h := ifF c7 h
      replace c7 := eq_false_of_ne_true c7
      refine TL.nil (X.seq ?_)
      refine T.yes rfl (bn_t c7) ?_
      refine T.seq (T.region rfl ?_)
      refine TL.run ft_record_ok [0] rfl rfl ?_
      obtain rfl := Option.some.inj h
      exact TL.nil (X.seq (T.ret (X.rs (X.done1 [1] Try.results45 (RV.tm rfl) ⟨rfl, rfl, rfl⟩ (by rfl) (.inl rfl)))))
def f_record_Read (st : I)  : Option (Rec × I) := (gName st).bind fun (x2, st3) => (gErr st3).bind fun (x5, st6) => if x5 = 0 then ((gNew x2).bind fun st9 => (gInt st9 1).bind fun (x12, st13) => if x12 = 0 then ((gVLong st13).bind fun (x16, st17) => (gVInt st17).bind fun (x19, st20) => if x19 < 0 then ((gIFail st20 11).bind fun st24 => (gVaried st24).bind fun (x26, st27) => (gVaried st27).bind fun (x29, st30) => (f_header_Read st30).bind fun (x32, st35) => (gClose st35).bind fun (x37, st38) => if x37 = 0 then (some ((⟨x16, x19, x26, x29, x32⟩ : Rec), st6)) else ((gIFail st6 x37).bind fun st41 => some ((⟨0, 0, (⟨false, []⟩ : Bl), (⟨false, []⟩ : Bl), []⟩ : Rec), st41))) else ((gVaried st20).bind fun (x43, st44) => (gVaried st44).bind fun (x46, st47) => (f_header_Read st47).bind fun (x49, st52) => (gClose st52).bind fun (x54, st55) => if x54 = 0 then (some ((⟨x16, x19, x43, x46, x49⟩ : Rec), st6)) else ((gIFail st6 x54).bind fun st58 => some ((⟨0, 0, (⟨false, []⟩ : Bl), (⟨false, []⟩ : Bl), []⟩ : Rec), st58)))) else ((gIFail st13 8).bind fun st60 => (gVLong st60).bind fun (x62, st63) => (gVInt st63).bind fun (x65, st66) => if x65 < 0 then ((gIFail st66 11).bind fun st70 => (gVaried st70).bind fun (x72, st73) => (gVaried st73).bind fun (x75, st76) => (f_header_Read st76).bind fun (x78, st81) => (gClose st81).bind fun (x83, st84) => if x83 = 0 then (some ((⟨x62, x65, x72, x75, x78⟩ : Rec), st6)) else ((gIFail st6 x83).bind fun st87 => some ((⟨0, 0, (⟨false, []⟩ : Bl), (⟨false, []⟩ : Bl), []⟩ : Rec), st87))) else ((gVaried st66).bind fun (x89, st90) => (gVaried st90).bind fun (x92, st93) => (f_header_Read st93).bind fun (x95, st98) => (gClose st98).bind fun (x100, st101) => if x100 = 0 then (some ((⟨x62, x65, x89, x92, x95⟩ : Rec), st6)) else ((gIFail st6 x100).bind fun st104 => some ((⟨0, 0, (⟨false, []⟩ : Bl), (⟨false, []⟩ : Bl), []⟩ : Rec), st104))))) else (some ((⟨0, 0, (⟨false, []⟩ : Bl), (⟨false, []⟩ : Bl), []⟩ : Rec), st6))
set_option maxRecDepth 100000 in
set_option maxHeartbeats 4000000 in
theorem f_record_Read_spec (g : Nat) (st : I)  (r : Rec × I) (h : f_record_Read st  = some r) : SpecX Try.prog 106 #[.pointer (some ⟨g, 0, none⟩)] .triv (InR g st) (fun v A' N => ∃ (A106 : Option Addr) (c107 : Nat), v = .agg #[.int .i64 r.1.fTime, .int .i64 r.1.fOffset, .bool r.1.fKey.null, .string (bsOf r.1.fKey.data), .bool r.1.fValue.null, .string (bsOf r.1.fValue.data), .slice A106 r.1.fHeaders.length c107] ∧ A' = InR g r.2 ∧ N = [RdR (sliceRd 3 Hd_rd) [.slice A106 r.1.fHeaders.length c107] r.1.fHeaders]) := by
  refine enterA Try.func106 rfl Try.ntmps106 rfl ?_
  intro F w hX
  unfold f_record_Read at h
  refine T.seq (T.region rfl ?_)
  refine TL.alloc rfl .u Try.zeroValue83 rfl (fun b1 => ?_)
  refine TL.nil (X.seq (T.seq (T.region rfl ?_)))
  obtain ⟨⟨x2, st3⟩, hx4, h⟩ := Option.bind_eq_some_iff.1 h
  try dsimp only at h
  refine TL.run ft_record_ok [0] rfl rfl ?_
  refine TL.c1 rfl .u (.fn Try.call112 rfl) (gName_spec g st _ hx4) (fun _ hs => (Src.triv _)) rfl ?_
  refine TL.run ft_record_ok [2] rfl rfl ?_
  refine TL.nil (X.seq (T.seq (T.seq (T.region rfl ?_))))
  obtain ⟨⟨x5, st6⟩, hx7, h⟩ := Option.bind_eq_some_iff.1 h
  try dsimp only at h
  refine TL.run ft_record_ok [0] rfl rfl ?_
  refine TL.c1 rfl .u (.fn Try.call58 rfl) (gErr_spec g st3 _ hx7) (fun _ hs => (Src.triv _)) rfl ?_
  refine TL.run ft_record_ok [2] rfl rfl ?_
  by_cases c8 : x5 = 0
  · replace h := ifT c8 h
    refine TL.nil (X.seq ?_)
    refine T.no rfl (bn_f (decide_eq_true c8)) ?_
    refine T.skip (X.seq (T.seq (T.region rfl ?_)))
    obtain ⟨st9, hx10, h⟩ := Option.bind_eq_some_iff.1 h
    refine TL.run ft_record_ok [0] rfl rfl ?_
    refine TL.cge rfl .u (.fn Try.call56 rfl) (gNew_spec x2 _ hx10) (fun _ hs => (RX.reads_triv _ _)) rfl ?_
    rintro _ _ _ ⟨b11, rfl, rfl, rfl⟩
    refine TL.sel [0, 0, 0] rfl ?_
    refine TL.run ft_record_ok [2] rfl rfl ?_
    refine TL.nil (X.seq (T.seq (T.seq (T.region rfl ?_))))
    obtain ⟨⟨x12, st13⟩, hx14, h⟩ := Option.bind_eq_some_iff.1 h
    try dsimp only at h
    refine TL.run ft_record_ok [0] rfl rfl ?_
    refine TL.c0 rfl .u (.fn Try.call95 rfl) (gInt_spec b11 st9 1 _ hx14) (fun _ hs => (Src.triv _)) rfl ?_
    refine TL.run ft_record_ok [2] rfl rfl ?_
    by_cases c15 : x12 = 0
    · replace h := ifT c15 h
      refine TL.nil (X.seq ?_)
      refine T.no rfl (bn_f (decide_eq_true c15)) ?_
      refine T.skip (X.seq (T.seq (T.region rfl ?_)))
      obtain ⟨⟨x16, st17⟩, hx18, h⟩ := Option.bind_eq_some_iff.1 h
      try dsimp only at h
      refine TL.run ft_record_ok [0] rfl rfl ?_
      refine TL.c0 rfl .u (.fn Try.call113 rfl) (gVLong_spec b11 st13 _ hx18) (fun _ hs => (Src.triv _)) rfl ?_
      obtain ⟨⟨x19, st20⟩, hx21, h⟩ := Option.bind_eq_some_iff.1 h
      try dsimp only at h
      refine TL.run ft_record_ok [2] rfl rfl ?_
      refine TL.c0 rfl .u (.fn Try.call114 rfl) (gVInt_spec b11 st17 _ hx21) (fun _ hs => (Src.triv _)) rfl ?_
      refine TL.q rfl .u (Ex.bld (cells := #[.int .i64 x16, .int .i64 x19, .bool false, .string ⟨#[]⟩, .bool false, .string ⟨#[]⟩, .slice none 0 0]) bok_record_83 rfl (by kernel_rfl)) rfl ?_
      refine TL.alloc rfl .u Try.zeroValue83 rfl (fun b22 => ?_)
      refine TL.st0 (cs' := #[.int .i64 x16, .int .i64 x19, .bool false, .string ⟨#[]⟩, .bool false, .string ⟨#[]⟩, .slice none 0 0]) rfl .u rfl rfl Try.sizeOf83 rfl rfl rfl rfl ?_
      refine TL.nil (X.seq (T.seq (T.seq (T.region rfl ?_))))
      refine TL.run ft_record_ok [0] rfl rfl ?_
      refine TL.q rfl .u (Ex.b1 0 rfl Try.isAgg3 rfl rfl) rfl ?_
      refine TL.run ft_record_ok [2] rfl rfl ?_
      by_cases c23 : x19 < 0
      · replace h := ifT c23 h
        refine TL.nil (X.seq ?_)
        refine T.yes rfl (decide_eq_true c23) ?_
        refine T.region rfl ?_
        obtain ⟨st24, hx25, h⟩ := Option.bind_eq_some_iff.1 h
        refine TL.run ft_record_ok [0] rfl rfl ?_
        refine TL.c1 rfl .u (.fn Try.call85 rfl) (gIFail_spec b11 st20 11 _ hx25) (fun _ hs => (Src.triv _)) rfl ?_
        refine TL.nil (X.seq (T.seq (T.region rfl ?_)))
        obtain ⟨⟨x26, st27⟩, hx28, h⟩ := Option.bind_eq_some_iff.1 h
        try dsimp only at h
        refine TL.run ft_record_ok [0] rfl rfl ?_
        refine TL.c1 rfl .u (.fn Try.call115 rfl) (gVaried_spec b11 st24 _ hx28) (fun _ hs => (Src.triv _)) rfl ?_
        refine TL.run ft_record_ok [2] rfl rfl ?_
        refine TL.st0 (cs' := #[.int .i64 x16, .int .i64 x19, .bool x26.null, .string (bsOf x26.data), .bool false, .string ⟨#[]⟩, .slice none 0 0]) rfl .u rfl rfl Try.sizeOf80 rfl rfl rfl rfl ?_
        refine TL.nil (X.seq (T.seq (T.region rfl ?_)))
        obtain ⟨⟨x29, st30⟩, hx31, h⟩ := Option.bind_eq_some_iff.1 h
        try dsimp only at h
        refine TL.run ft_record_ok [0] rfl rfl ?_
        refine TL.c1 rfl .u (.fn Try.call115 rfl) (gVaried_spec b11 st27 _ hx31) (fun _ hs => (Src.triv _)) rfl ?_
        refine TL.run ft_record_ok [2] rfl rfl ?_
        refine TL.st0 (cs' := #[.int .i64 x16, .int .i64 x19, .bool x26.null, .string (bsOf x26.data), .bool x29.null, .string (bsOf x29.data), .slice none 0 0]) rfl .u rfl rfl Try.sizeOf80 rfl rfl rfl rfl ?_
        refine TL.nil (X.seq (T.seq (T.region rfl ?_)))
        obtain ⟨⟨x32, st35⟩, hx36, h⟩ := Option.bind_eq_some_iff.1 h
        try dsimp only at h
        refine TL.run ft_record_ok [0] rfl rfl ?_
        refine TL.cg1 rfl .u (.fn Try.call116 rfl) (f_header_Read_spec b11 st30 _ hx36) (fun _ hs => (Src.triv _)) rfl ?_
        rintro _ _ _ ⟨A33, c34, rfl, rfl, rfl⟩
        refine TL.sel [0, 0, 0, 0, 0] rfl ?_
        refine TL.run ft_record_ok [2] rfl rfl ?_
        refine TL.st1 (cs' := #[.int .i64 x16, .int .i64 x19, .bool x26.null, .string (bsOf x26.data), .bool x29.null, .string (bsOf x29.data), .slice A33 x32.length c34]) rfl .u rfl rfl Try.sizeOf81 rfl rfl rfl rfl ?_
        refine TL.nil (X.seq (T.seq (T.seq (T.region rfl ?_))))
        obtain ⟨⟨x37, st38⟩, hx39, h⟩ := Option.bind_eq_some_iff.1 h
        try dsimp only at h
        refine TL.run ft_record_ok [0] rfl rfl ?_
        refine TL.c2 rfl .u (.fn Try.call96 rfl) (gClose_spec b11 st35 _ hx39) (fun _ hs => (Src.triv _)) rfl ?_
        refine TL.run ft_record_ok [2] rfl rfl ?_
        refine TL.nil (X.seq (T.seq (T.region rfl ?_)))
        refine TL.run ft_record_ok [0, 1] rfl rfl ?_
        by_cases c40 : x37 = 0
        · replace h := ifT c40 h
          refine TL.nil (X.seq ?_)
          refine T.no rfl (bn_f (decide_eq_true c40)) ?_
          refine T.skip (X.seq (T.seq (T.region rfl ?_)))
          refine TL.q rfl .u (Ex.bS (us := [.int .i64 x16, .int .i64 x19, .bool x26.null, .string (bsOf x26.data), .bool x29.null, .string (bsOf x29.data), .slice A33 x32.length c34]) 1 rfl Try.isAgg83 Try.sizeOf83 rfl rfl rfl) rfl ?_
          refine TL.st3 (cs' := #[.int .i64 x16, .int .i64 x19, .bool x26.null, .string (bsOf x26.data), .bool x29.null, .string (bsOf x29.data), .slice A33 x32.length c34]) rfl .u rfl rfl Try.sizeOf83 rfl rfl rfl rfl ?_
          obtain rfl := Option.some.inj h
          exact TL.nil (X.seq (T.ret (X.done1 [4, 0] Try.results106 (RV.cS (us := #[.int .i64 x16, .int .i64 x19, .bool x26.null, .string (bsOf x26.data), .bool x29.null, .string (bsOf x29.data), .slice A33 x32.length c34]) 3 rfl Try.isAgg83 Try.sizeOf83 rfl rfl) ⟨_, _, rfl, rfl, rfl⟩ (by rfl) (.inl rfl))))
        · replace h := ifF c40 h
          refine TL.nil (X.seq ?_)
          refine T.yes rfl (bn_t (decide_eq_false c40)) ?_
          refine T.seq (T.region rfl ?_)
          obtain ⟨st41, hx42, h⟩ := Option.bind_eq_some_iff.1 h
          refine TL.run ft_record_ok [0, 1] rfl rfl ?_
          refine TL.c4 rfl .u (.fn Try.call85 rfl) (gIFail_spec g st6 x37 _ hx42) (fun _ hs => (Src.triv _)) rfl ?_
          refine TL.nil (X.seq (T.seq (T.region rfl ?_)))
          refine TL.q rfl .u (Ex.bld (cells := #[.int .i64 0, .int .i64 0, .bool false, .string ⟨#[]⟩, .bool false, .string ⟨#[]⟩, .slice none 0 0]) bok_record_83 rfl (by kernel_rfl)) rfl ?_
          refine TL.st3 (cs' := #[.int .i64 0, .int .i64 0, .bool false, .string ⟨#[]⟩, .bool false, .string ⟨#[]⟩, .slice none 0 0]) rfl .u rfl rfl Try.sizeOf83 rfl rfl rfl rfl ?_
          obtain rfl := Option.some.inj h
          refine TL.nil (X.seq (T.ret (X.rs ?_)))
          refine X.nilrd 3 Hd_rd ?_
          exact X.done1 [5, 0] Try.results106 (RV.cS (us := #[.int .i64 0, .int .i64 0, .bool false, .string ⟨#[]⟩, .bool false, .string ⟨#[]⟩, .slice none 0 0]) 4 rfl Try.isAgg83 Try.sizeOf83 rfl rfl) ⟨_, _, rfl, rfl, rfl⟩ (by rfl) (.inl rfl)
      · replace h := ifF c23 h
        refine TL.nil (X.seq ?_)
        refine T.no rfl (decide_eq_false c23) ?_
        refine T.skip (X.seq (T.seq (T.region rfl ?_)))
        obtain ⟨⟨x43, st44⟩, hx45, h⟩ := Option.bind_eq_some_iff.1 h
        try dsimp only at h
        refine TL.run ft_record_ok [0] rfl rfl ?_
        refine TL.c1 rfl .u (.fn Try.call115 rfl) (gVaried_spec b11 st20 _ hx45) (fun _ hs => (Src.triv _)) rfl ?_
        refine TL.run ft_record_ok [2] rfl rfl ?_
        refine TL.st0 (cs' := #[.int .i64 x16, .int .i64 x19, .bool x43.null, .string (bsOf x43.data), .bool false, .string ⟨#[]⟩, .slice none 0 0]) rfl .u rfl rfl Try.sizeOf80 rfl rfl rfl rfl ?_
        refine TL.nil (X.seq (T.seq (T.region rfl ?_)))
        obtain ⟨⟨x46, st47⟩, hx48, h⟩ := Option.bind_eq_some_iff.1 h
        try dsimp only at h
        refine TL.run ft_record_ok [0] rfl rfl ?_
        refine TL.c1 rfl .u (.fn Try.call115 rfl) (gVaried_spec b11 st44 _ hx48) (fun _ hs => (Src.triv _)) rfl ?_
        refine TL.run ft_record_ok [2] rfl rfl ?_
        refine TL.st0 (cs' := #[.int .i64 x16, .int .i64 x19, .bool x43.null, .string (bsOf x43.data), .bool x46.null, .string (bsOf x46.data), .slice none 0 0]) rfl .u rfl rfl Try.sizeOf80 rfl rfl rfl rfl ?_
        refine TL.nil (X.seq (T.seq (T.region rfl ?_)))
        obtain ⟨⟨x49, st52⟩, hx53, h⟩ := Option.bind_eq_some_iff.1 h
        try dsimp only at h
        refine TL.run ft_record_ok [0] rfl rfl ?_
        refine TL.cg1 rfl .u (.fn Try.call116 rfl) (f_header_Read_spec b11 st47 _ hx53) (fun _ hs => (Src.triv _)) rfl ?_
        rintro _ _ _ ⟨A50, c51, rfl, rfl, rfl⟩
        refine TL.sel [0, 0, 0, 0, 0] rfl ?_
        refine TL.run ft_record_ok [2] rfl rfl ?_
        refine TL.st1 (cs' := #[.int .i64 x16, .int .i64 x19, .bool x43.null, .string (bsOf x43.data), .bool x46.null, .string (bsOf x46.data), .slice A50 x49.length c51]) rfl .u rfl rfl Try.sizeOf81 rfl rfl rfl rfl ?_
        refine TL.nil (X.seq (T.seq (T.seq (T.region rfl ?_))))
        obtain ⟨⟨x54, st55⟩, hx56, h⟩ := Option.bind_eq_some_iff.1 h
        try dsimp only at h
        refine TL.run ft_record_ok [0] rfl rfl ?_
        refine TL.c2 rfl .u (.fn Try.call96 rfl) (gClose_spec b11 st52 _ hx56) (fun _ hs => (Src.triv _)) rfl ?_
        refine TL.run ft_record_ok [2] rfl rfl ?_
        refine TL.nil (X.seq (T.seq (T.region rfl ?_)))
        refine TL.run ft_record_ok [0, 1] rfl rfl ?_
        by_cases c57 : x54 = 0
        · replace h := ifT c57 h
          refine TL.nil (X.seq ?_)
          refine T.no rfl (bn_f (decide_eq_true c57)) ?_
          refine T.skip (X.seq (T.seq (T.region rfl ?_)))
          refine TL.q rfl .u (Ex.bS (us := [.int .i64 x16, .int .i64 x19, .bool x43.null, .string (bsOf x43.data), .bool x46.null, .string (bsOf x46.data), .slice A50 x49.length c51]) 1 rfl Try.isAgg83 Try.sizeOf83 rfl rfl rfl) rfl ?_
          refine TL.st3 (cs' := #[.int .i64 x16, .int .i64 x19, .bool x43.null, .string (bsOf x43.data), .bool x46.null, .string (bsOf x46.data), .slice A50 x49.length c51]) rfl .u rfl rfl Try.sizeOf83 rfl rfl rfl rfl ?_
          obtain rfl := Option.some.inj h
          exact TL.nil (X.seq (T.ret (X.done1 [4, 0] Try.results106 (RV.cS (us := #[.int .i64 x16, .int .i64 x19, .bool x43.null, .string (bsOf x43.data), .bool x46.null, .string (bsOf x46.data), .slice A50 x49.length c51]) 3 rfl Try.isAgg83 Try.sizeOf83 rfl rfl) ⟨_, _, rfl, rfl, rfl⟩ (by rfl) (.inl rfl))))
        · replace h := ifF c57 h
          refine TL.nil (X.seq ?_)
          refine T.yes rfl (bn_t (decide_eq_false c57)) ?_
          refine T.seq (T.region rfl ?_)
          obtain ⟨st58, hx59, h⟩ := Option.bind_eq_some_iff.1 h
          refine TL.run ft_record_ok [0, 1] rfl rfl ?_
          refine TL.c4 rfl .u (.fn Try.call85 rfl) (gIFail_spec g st6 x54 _ hx59) (fun _ hs => (Src.triv _)) rfl ?_
          refine TL.nil (X.seq (T.seq (T.region rfl ?_)))
          refine TL.q rfl .u (Ex.bld (cells := #[.int .i64 0, .int .i64 0, .bool false, .string ⟨#[]⟩, .bool false, .string ⟨#[]⟩, .slice none 0 0]) bok_record_83 rfl (by kernel_rfl)) rfl ?_
          refine TL.st3 (cs' := #[.int .i64 0, .int .i64 0, .bool false, .string ⟨#[]⟩, .bool false, .string ⟨#[]⟩, .slice none 0 0]) rfl .u rfl rfl Try.sizeOf83 rfl rfl rfl rfl ?_
          obtain rfl := Option.some.inj h
          refine TL.nil (X.seq (T.ret (X.rs ?_)))
          refine X.nilrd 3 Hd_rd ?_
          exact X.done1 [5, 0] Try.results106 (RV.cS (us := #[.int .i64 0, .int .i64 0, .bool false, .string ⟨#[]⟩, .bool false, .string ⟨#[]⟩, .slice none 0 0]) 4 rfl Try.isAgg83 Try.sizeOf83 rfl rfl) ⟨_, _, rfl, rfl, rfl⟩ (by rfl) (.inl rfl)
    · replace h := ifF c15 h
      refine TL.nil (X.seq ?_)
      refine T.yes rfl (bn_t (decide_eq_false c15)) ?_
      refine T.region rfl ?_
      obtain ⟨st60, hx61, h⟩ := Option.bind_eq_some_iff.1 h
      refine TL.run ft_record_ok [0] rfl rfl ?_
      refine TL.c0 rfl .u (.fn Try.call85 rfl) (gIFail_spec b11 st13 8 _ hx61) (fun _ hs => (Src.triv _)) rfl ?_
      refine TL.nil (X.seq (T.seq (T.region rfl ?_)))
      obtain ⟨⟨x62, st63⟩, hx64, h⟩ := Option.bind_eq_some_iff.1 h
      try dsimp only at h
      refine TL.run ft_record_ok [0] rfl rfl ?_
      refine TL.c0 rfl .u (.fn Try.call113 rfl) (gVLong_spec b11 st60 _ hx64) (fun _ hs => (Src.triv _)) rfl ?_
      obtain ⟨⟨x65, st66⟩, hx67, h⟩ := Option.bind_eq_some_iff.1 h
      try dsimp only at h
      refine TL.run ft_record_ok [2] rfl rfl ?_
      refine TL.c0 rfl .u (.fn Try.call114 rfl) (gVInt_spec b11 st63 _ hx67) (fun _ hs => (Src.triv _)) rfl ?_
      refine TL.q rfl .u (Ex.bld (cells := #[.int .i64 x62, .int .i64 x65, .bool false, .string ⟨#[]⟩, .bool false, .string ⟨#[]⟩, .slice none 0 0]) bok_record_83 rfl (by kernel_rfl)) rfl ?_
      refine TL.alloc rfl .u Try.zeroValue83 rfl (fun b68 => ?_)
      refine TL.st0 (cs' := #[.int .i64 x62, .int .i64 x65, .bool false, .string ⟨#[]⟩, .bool false, .string ⟨#[]⟩, .slice none 0 0]) rfl .u rfl rfl Try.sizeOf83 rfl rfl rfl rfl ?_
      refine TL.nil (X.seq (T.seq (T.seq (T.region rfl ?_))))
      refine TL.run ft_record_ok [0] rfl rfl ?_
      refine TL.q rfl .u (Ex.b1 0 rfl Try.isAgg3 rfl rfl) rfl ?_
      refine TL.run ft_record_ok [2] rfl rfl ?_
      by_cases c69 : x65 < 0
      · replace h := ifT c69 h
        refine TL.nil (X.seq ?_)
        refine T.yes rfl (decide_eq_true c69) ?_
        refine T.region rfl ?_
        obtain ⟨st70, hx71, h⟩ := Option.bind_eq_some_iff.1 h
        refine TL.run ft_record_ok [0] rfl rfl ?_
        refine TL.c1 rfl .u (.fn Try.call85 rfl) (gIFail_spec b11 st66 11 _ hx71) (fun _ hs => (Src.triv _)) rfl ?_
        refine TL.nil (X.seq (T.seq (T.region rfl ?_)))
        obtain ⟨⟨x72, st73⟩, hx74, h⟩ := Option.bind_eq_some_iff.1 h
        try dsimp only at h
        refine TL.run ft_record_ok [0] rfl rfl ?_
        refine TL.c1 rfl .u (.fn Try.call115 rfl) (gVaried_spec b11 st70 _ hx74) (fun _ hs => (Src.triv _)) rfl ?_
        refine TL.run ft_record_ok [2] rfl rfl ?_
        refine TL.st0 (cs' := #[.int .i64 x62, .int .i64 x65, .bool x72.null, .string (bsOf x72.data), .bool false, .string ⟨#[]⟩, .slice none 0 0]) rfl .u rfl rfl Try.sizeOf80 rfl rfl rfl rfl ?_
        refine TL.nil (X.seq (T.seq (T.region rfl ?_)))
        obtain ⟨⟨x75, st76⟩, hx77, h⟩ := Option.bind_eq_some_iff.1 h
        try dsimp only at h
        refine TL.run ft_record_ok [0] rfl rfl ?_
        refine TL.c1 rfl .u (.fn Try.call115 rfl) (gVaried_spec b11 st73 _ hx77) (fun _ hs => (Src.triv _)) rfl ?_
        refine TL.run ft_record_ok [2] rfl rfl ?_
        refine TL.st0 (cs' := #[.int .i64 x62, .int .i64 x65, .bool x72.null, .string (bsOf x72.data), .bool x75.null, .string (bsOf x75.data), .slice none 0 0]) rfl .u rfl rfl Try.sizeOf80 rfl rfl rfl rfl ?_
        refine TL.nil (X.seq (T.seq (T.region rfl ?_)))
        obtain ⟨⟨x78, st81⟩, hx82, h⟩ := Option.bind_eq_some_iff.1 h
        try dsimp only at h
        refine TL.run ft_record_ok [0] rfl rfl ?_
        refine TL.cg1 rfl .u (.fn Try.call116 rfl) (f_header_Read_spec b11 st76 _ hx82) (fun _ hs => (Src.triv _)) rfl ?_
        rintro _ _ _ ⟨A79, c80, rfl, rfl, rfl⟩
        refine TL.sel [0, 0, 0, 0, 0] rfl ?_
        refine TL.run ft_record_ok [2] rfl rfl ?_
        refine TL.st1 (cs' := #[.int .i64 x62, .int .i64 x65, .bool x72.null, .string (bsOf x72.data), .bool x75.null, .string (bsOf x75.data), .slice A79 x78.length c80]) rfl .u rfl rfl Try.sizeOf81 rfl rfl rfl rfl ?_
        refine TL.nil (X.seq (T.seq (T.seq (T.region rfl ?_))))
        obtain ⟨⟨x83, st84⟩, hx85, h⟩ := Option.bind_eq_some_iff.1 h
        try dsimp only at h
        refine TL.run ft_record_ok [0] rfl rfl ?_
        refine TL.c2 rfl .u (.fn Try.call96 rfl) (gClose_spec b11 st81 _ hx85) (fun _ hs => (Src.triv _)) rfl ?_
        refine TL.run ft_record_ok [2] rfl rfl ?_
        refine TL.nil (X.seq (T.seq (T.region rfl ?_)))
        refine TL.run ft_record_ok [0, 1] rfl rfl ?_
        by_cases c86 : x83 = 0
        · replace h := ifT c86 h
          refine TL.nil (X.seq ?_)
          refine T.no rfl (bn_f (decide_eq_true c86)) ?_
          refine T.skip (X.seq (T.seq (T.region rfl ?_)))
          refine TL.q rfl .u (Ex.bS (us := [.int .i64 x62, .int .i64 x65, .bool x72.null, .string (bsOf x72.data), .bool x75.null, .string (bsOf x75.data), .slice A79 x78.length c80]) 1 rfl Try.isAgg83 Try.sizeOf83 rfl rfl rfl) rfl ?_
          refine TL.st3 (cs' := #[.int .i64 x62, .int .i64 x65, .bool x72.null, .string (bsOf x72.data), .bool x75.null, .string (bsOf x75.data), .slice A79 x78.length c80]) rfl .u rfl rfl Try.sizeOf83 rfl rfl rfl rfl ?_
          obtain rfl := Option.some.inj h
          exact TL.nil (X.seq (T.ret (X.done1 [4, 0] Try.results106 (RV.cS (us := #[.int .i64 x62, .int .i64 x65, .bool x72.null, .string (bsOf x72.data), .bool x75.null, .string (bsOf x75.data), .slice A79 x78.length c80]) 3 rfl Try.isAgg83 Try.sizeOf83 rfl rfl) ⟨_, _, rfl, rfl, rfl⟩ (by rfl) (.inl rfl))))
        · replace h := ifF c86 h
          refine TL.nil (X.seq ?_)
          refine T.yes rfl (bn_t (decide_eq_false c86)) ?_
          refine T.seq (T.region rfl ?_)
          obtain ⟨st87, hx88, h⟩ := Option.bind_eq_some_iff.1 h
          refine TL.run ft_record_ok [0, 1] rfl rfl ?_
          refine TL.c4 rfl .u (.fn Try.call85 rfl) (gIFail_spec g st6 x83 _ hx88) (fun _ hs => (Src.triv _)) rfl ?_
          refine TL.nil (X.seq (T.seq (T.region rfl ?_)))
          refine TL.q rfl .u (Ex.bld (cells := #[.int .i64 0, .int .i64 0, .bool false, .string ⟨#[]⟩, .bool false, .string ⟨#[]⟩, .slice none 0 0]) bok_record_83 rfl (by kernel_rfl)) rfl ?_
          refine TL.st3 (cs' := #[.int .i64 0, .int .i64 0, .bool false, .string ⟨#[]⟩, .bool false, .string ⟨#[]⟩, .slice none 0 0]) rfl .u rfl rfl Try.sizeOf83 rfl rfl rfl rfl ?_
          obtain rfl := Option.some.inj h
          refine TL.nil (X.seq (T.ret (X.rs ?_)))
          refine X.nilrd 3 Hd_rd ?_
          exact X.done1 [5, 0] Try.results106 (RV.cS (us := #[.int .i64 0, .int .i64 0, .bool false, .string ⟨#[]⟩, .bool false, .string ⟨#[]⟩, .slice none 0 0]) 4 rfl Try.isAgg83 Try.sizeOf83 rfl rfl) ⟨_, _, rfl, rfl, rfl⟩ (by rfl) (.inl rfl)
      · replace h := ifF c69 h
        refine TL.nil (X.seq ?_)
        refine T.no rfl (decide_eq_false c69) ?_
        refine T.skip (X.seq (T.seq (T.region rfl ?_)))
        obtain ⟨⟨x89, st90⟩, hx91, h⟩ := Option.bind_eq_some_iff.1 h
        try dsimp only at h
        refine TL.run ft_record_ok [0] rfl rfl ?_
        refine TL.c1 rfl .u (.fn Try.call115 rfl) (gVaried_spec b11 st66 _ hx91) (fun _ hs => (Src.triv _)) rfl ?_
        refine TL.run ft_record_ok [2] rfl rfl ?_
        refine TL.st0 (cs' := #[.int .i64 x62, .int .i64 x65, .bool x89.null, .string (bsOf x89.data), .bool false, .string ⟨#[]⟩, .slice none 0 0]) rfl .u rfl rfl Try.sizeOf80 rfl rfl rfl rfl ?_
        refine TL.nil (X.seq (T.seq (T.region rfl ?_)))
        obtain ⟨⟨x92, st93⟩, hx94, h⟩ := Option.bind_eq_some_iff.1 h
        try dsimp only at h
        refine TL.run ft_record_ok [0] rfl rfl ?_
        refine TL.c1 rfl .u (.fn Try.call115 rfl) (gVaried_spec b11 st90 _ hx94) (fun _ hs => (Src.triv _)) rfl ?_
        refine TL.run ft_record_ok [2] rfl rfl ?_
        refine TL.st0 (cs' := #[.int .i64 x62, .int .i64 x65, .bool x89.null, .string (bsOf x89.data), .bool x92.null, .string (bsOf x92.data), .slice none 0 0]) rfl .u rfl rfl Try.sizeOf80 rfl rfl rfl rfl ?_
        refine TL.nil (X.seq (T.seq (T.region rfl ?_)))
        obtain ⟨⟨x95, st98⟩, hx99, h⟩ := Option.bind_eq_some_iff.1 h
        try dsimp only at h
        refine TL.run ft_record_ok [0] rfl rfl ?_
        refine TL.cg1 rfl .u (.fn Try.call116 rfl) (f_header_Read_spec b11 st93 _ hx99) (fun _ hs => (Src.triv _)) rfl ?_
        rintro _ _ _ ⟨A96, c97, rfl, rfl, rfl⟩
        refine TL.sel [0, 0, 0, 0, 0] rfl ?_
        refine TL.run ft_record_ok [2] rfl rfl ?_
        refine TL.st1 (cs' := #[.int .i64 x62, .int .i64 x65, .bool x89.null, .string (bsOf x89.data), .bool x92.null, .string (bsOf x92.data), .slice A96 x95.length c97]) rfl .u rfl rfl Try.sizeOf81 rfl rfl rfl rfl ?_
        refine TL.nil (X.seq (T.seq (T.seq (T.region rfl ?_))))
        obtain ⟨⟨x100, st101⟩, hx102, h⟩ := Option.bind_eq_some_iff.1 h
        try dsimp only at h
        refine TL.run ft_record_ok [0] rfl rfl ?_
        refine TL.c2 rfl .u (.fn Try.call96 rfl) (gClose_spec b11 st98 _ hx102) (fun _ hs => (Src.triv _)) rfl ?_
        refine TL.run ft_record_ok [2] rfl rfl ?_
        refine TL.nil (X.seq (T.seq (T.region rfl ?_)))
        refine TL.run ft_record_ok [0, 1] rfl rfl ?_
        by_cases c103 : x100 = 0
        · replace h := ifT c103 h
          refine TL.nil (X.seq ?_)
          refine T.no rfl (bn_f (decide_eq_true c103)) ?_
          refine T.skip (X.seq (T.seq (T.region rfl ?_)))
          refine TL.q rfl .u (Ex.bS (us := [.int .i64 x62, .int .i64 x65, .bool x89.null, .string (bsOf x89.data), .bool x92.null, .string (bsOf x92.data), .slice A96 x95.length c97]) 1 rfl Try.isAgg83 Try.sizeOf83 rfl rfl rfl) rfl ?_
          refine TL.st3 (cs' := #[.int .i64 x62, .int .i64 x65, .bool x89.null, .string (bsOf x89.data), .bool x92.null, .string (bsOf x92.data), .slice A96 x95.length c97]) rfl .u rfl rfl Try.sizeOf83 rfl rfl rfl rfl ?_
          obtain rfl := Option.some.inj h
          exact TL.nil (X.seq (T.ret (X.done1 [4, 0] Try.results106 (RV.cS (us := #[.int .i64 x62, .int .i64 x65, .bool x89.null, .string (bsOf x89.data), .bool x92.null, .string (bsOf x92.data), .slice A96 x95.length c97]) 3 rfl Try.isAgg83 Try.sizeOf83 rfl rfl) ⟨_, _, rfl, rfl, rfl⟩ (by rfl) (.inl rfl))))
        · replace h := ifF c103 h
          refine TL.nil (X.seq ?_)
          refine T.yes rfl (bn_t (decide_eq_false c103)) ?_
          refine T.seq (T.region rfl ?_)
          obtain ⟨st104, hx105, h⟩ := Option.bind_eq_some_iff.1 h
          refine TL.run ft_record_ok [0, 1] rfl rfl ?_
          refine TL.c4 rfl .u (.fn Try.call85 rfl) (gIFail_spec g st6 x100 _ hx105) (fun _ hs => (Src.triv _)) rfl ?_
          refine TL.nil (X.seq (T.seq (T.region rfl ?_)))
          refine TL.q rfl .u (Ex.bld (cells := #[.int .i64 0, .int .i64 0, .bool false, .string ⟨#[]⟩, .bool false, .string ⟨#[]⟩, .slice none 0 0]) bok_record_83 rfl (by kernel_rfl)) rfl ?_
          refine TL.st3 (cs' := #[.int .i64 0, .int .i64 0, .bool false, .string ⟨#[]⟩, .bool false, .string ⟨#[]⟩, .slice none 0 0]) rfl .u rfl rfl Try.sizeOf83 rfl rfl rfl rfl ?_
          obtain rfl := Option.some.inj h
          refine TL.nil (X.seq (T.ret (X.rs ?_)))
          refine X.nilrd 3 Hd_rd ?_
          exact X.done1 [5, 0] Try.results106 (RV.cS (us := #[.int .i64 0, .int .i64 0, .bool false, .string ⟨#[]⟩, .bool false, .string ⟨#[]⟩, .slice none 0 0]) 4 rfl Try.isAgg83 Try.sizeOf83 rfl rfl) ⟨_, _, rfl, rfl, rfl⟩ (by rfl) (.inl rfl)
  · replace h := ifF c8 h
    refine TL.nil (X.seq ?_)
    refine T.yes rfl (bn_t (decide_eq_false c8)) ?_
    refine T.seq (T.region rfl ?_)
    refine TL.q rfl .u (Ex.bld (cells := #[.int .i64 0, .int .i64 0, .bool false, .string ⟨#[]⟩, .bool false, .string ⟨#[]⟩, .slice none 0 0]) bok_record_83 rfl (by kernel_rfl)) rfl ?_
    refine TL.st0 (cs' := #[.int .i64 0, .int .i64 0, .bool false, .string ⟨#[]⟩, .bool false, .string ⟨#[]⟩, .slice none 0 0]) rfl .u rfl rfl Try.sizeOf83 rfl rfl rfl rfl ?_
    obtain rfl := Option.some.inj h
    refine TL.nil (X.seq (T.ret (X.rs ?_)))
    refine X.nilrd 3 Hd_rd ?_
    exact X.done1 [2, 0] Try.results106 (RV.cS (us := #[.int .i64 0, .int .i64 0, .bool false, .string ⟨#[]⟩, .bool false, .string ⟨#[]⟩, .slice none 0 0]) 1 rfl Try.isAgg83 Try.sizeOf83 rfl rfl) ⟨_, _, rfl, rfl, rfl⟩ (by rfl) (.inl rfl)
def f_record_body (a0 : Rec) : Option (List UInt8 × Int) := (gOByte ([], 0) 0).bind fun st5 => (gPutLong st5 a0.fTime).bind fun st7 => (gPutInt st7 a0.fOffset).bind fun st9 => (gPutVaried st9 a0.fKey).bind fun st11 => (gPutVaried st11 a0.fValue).bind fun st13 => (f_header_Write st13 a0.fHeaders).bind fun st15 => (gOText st15).bind fun (x17, x18, st19) => some (x17, x18)
set_option maxRecDepth 100000 in
set_option maxHeartbeats 4000000 in
theorem f_record_body_spec (a0 : Rec) (A1 : Option Addr) (c2 : Nat) (r : List UInt8 × Int) (h : f_record_body a0 = some r) : SpecX Try.prog 78 #[.agg #[.int .i64 a0.fTime, .int .i64 a0.fOffset, .bool a0.fKey.null, .string (bsOf a0.fKey.data), .bool a0.fValue.null, .string (bsOf a0.fValue.data), .slice A1 a0.fHeaders.length c2]] (RX.of (sliceRd 3 Hd_rd) [.slice A1 a0.fHeaders.length c2] a0.fHeaders) (EmpR) (fun v A' N => v = .tuple #[.string (bsOf r.1), .int .i64 r.2] ∧ A' = EmpR ∧ N = []) := by
  refine enterA Try.func78 rfl Try.ntmps78 rfl ?_
  intro F w hX
  unfold f_record_body at h
  refine T.seq (T.region rfl ?_)
  refine TL.box rfl .u rfl rfl (fun b3 => ?_)
  refine TL.run ft_record_ok [1, 2] rfl rfl ?_
  refine TL.nil (X.seq (T.seq (T.region rfl ?_)))
  refine TL.newout rfl .u Try.zeroValue100 rfl (fun b4 => ?_)
  obtain ⟨st5, hx6, h⟩ := Option.bind_eq_some_iff.1 h
  refine TL.nil (X.seq (T.seq (T.region rfl ?_)))
  refine TL.c0 rfl .u (.fn Try.call97 rfl) (gOByte_spec b4 ([], 0) 0 _ hx6) (fun _ hs => (Src.triv _)) rfl ?_
  refine TL.nil (X.seq (T.seq (T.region rfl ?_)))
  refine TL.run ft_record_ok [0] rfl rfl ?_
  refine TL.q rfl .u (Ex.b1 1 rfl Try.isAgg3 rfl rfl) rfl ?_
  obtain ⟨st7, hx8, h⟩ := Option.bind_eq_some_iff.1 h
  refine TL.c0 rfl .u (.fn Try.call98 rfl) (gPutLong_spec b4 st5 a0.fTime _ hx8) (fun _ hs => (Src.triv _)) rfl ?_
  refine TL.nil (X.seq (T.seq (T.region rfl ?_)))
  refine TL.run ft_record_ok [0] rfl rfl ?_
  refine TL.q rfl .u (Ex.b1 1 rfl Try.isAgg3 rfl rfl) rfl ?_
  obtain ⟨st9, hx10, h⟩ := Option.bind_eq_some_iff.1 h
  refine TL.c0 rfl .u (.fn Try.call99 rfl) (gPutInt_spec b4 st7 a0.fOffset _ hx10) (fun _ hs => (Src.triv _)) rfl ?_
  refine TL.nil (X.seq (T.seq (T.region rfl ?_)))
  refine TL.run ft_record_ok [0] rfl rfl ?_
  refine TL.q rfl .u (Ex.bS (us := [.bool a0.fKey.null, .string (bsOf a0.fKey.data)]) 1 rfl Try.isAgg80 Try.sizeOf80 rfl rfl rfl) rfl ?_
  obtain ⟨st11, hx12, h⟩ := Option.bind_eq_some_iff.1 h
  refine TL.c0 rfl .u (.fn Try.call100 rfl) (gPutVaried_spec b4 st9 a0.fKey _ hx12) (fun _ hs => (Src.triv _)) rfl ?_
  refine TL.nil (X.seq (T.seq (T.region rfl ?_)))
  refine TL.run ft_record_ok [0] rfl rfl ?_
  refine TL.q rfl .u (Ex.bS (us := [.bool a0.fValue.null, .string (bsOf a0.fValue.data)]) 1 rfl Try.isAgg80 Try.sizeOf80 rfl rfl rfl) rfl ?_
  obtain ⟨st13, hx14, h⟩ := Option.bind_eq_some_iff.1 h
  refine TL.c0 rfl .u (.fn Try.call100 rfl) (gPutVaried_spec b4 st11 a0.fValue _ hx14) (fun _ hs => (Src.triv _)) rfl ?_
  refine TL.nil (X.seq (T.seq (T.region rfl ?_)))
  refine TL.run ft_record_ok [0] rfl rfl ?_
  refine TL.q rfl .u (Ex.b1 1 rfl Try.isAgg81 rfl rfl) rfl ?_
  obtain ⟨st15, hx16, h⟩ := Option.bind_eq_some_iff.1 h
  refine TL.c0 rfl .u (.fn Try.call101 rfl) (f_header_Write_spec b4 st13 a0.fHeaders _ _ _ hx16) (fun _ hs => (Src.old hs hX)) rfl ?_
  obtain ⟨⟨x17, x18, st19⟩, hx20, h⟩ := Option.bind_eq_some_iff.1 h
  try dsimp only at h
  refine TL.nil (X.seq (T.seq (T.region rfl ?_)))
  refine TL.c0 rfl .u (.fn Try.call49 rfl) (gOText_spec b4 st15 _ hx20) (fun _ hs => (Src.triv _)) rfl ?_
  refine TL.run ft_record_ok [1, 2, 3, 4] rfl rfl ?_
  obtain rfl := Option.some.inj h
  exact TL.nil (X.seq (T.ret (X.done2 [2] Try.results78 (RV.tm rfl) (RV.tm rfl) ⟨rfl, rfl, rfl⟩ (by rfl) (.inl rfl))))
def f_record_Write (st : List UInt8 × Int) (a1 : Rec) : Option (List UInt8 × Int) := (f_record_Right a1).bind fun x4 => if x4 = 0 then ((f_record_body a1).bind fun (x7, x8) => if x8 = 0 then ((gPutName st x7).bind fun st11 => some st11) else ((gOFail st x8).bind fun st13 => some st13)) else ((gOFail st x4).bind fun st15 => some st15)
set_option maxRecDepth 100000 in
set_option maxHeartbeats 4000000 in
theorem f_record_Write_spec (g : Nat) (st : List UInt8 × Int) (a1 : Rec) (A1 : Option Addr) (c2 : Nat) (r : List UInt8 × Int) (h : f_record_Write st a1 = some r) : SpecX Try.prog 48 #[.pointer (some ⟨g, 0, none⟩), .agg #[.int .i64 a1.fTime, .int .i64 a1.fOffset, .bool a1.fKey.null, .string (bsOf a1.fKey.data), .bool a1.fValue.null, .string (bsOf a1.fValue.data), .slice A1 a1.fHeaders.length c2]] (RX.of (sliceRd 3 Hd_rd) [.slice A1 a1.fHeaders.length c2] a1.fHeaders) (OutR g st) (fun v A' N => v = .tuple #[] ∧ A' = OutR g r ∧ N = []) := by
  refine enterA Try.func48 rfl Try.ntmps48 rfl ?_
  intro F w hX
  unfold f_record_Write at h
  refine T.seq (T.region rfl ?_)
  refine TL.box rfl .u rfl rfl (fun b3 => ?_)
  refine TL.nil (X.seq (T.seq (T.seq (T.region rfl ?_))))
  refine TL.q rfl .u (Ex.bS (us := [.int .i64 a1.fTime, .int .i64 a1.fOffset, .bool a1.fKey.null, .string (bsOf a1.fKey.data), .bool a1.fValue.null, .string (bsOf a1.fValue.data), .slice A1 a1.fHeaders.length c2]) 0 rfl Try.isAgg83 Try.sizeOf83 rfl rfl rfl) rfl ?_
  obtain ⟨x4, hx5, h⟩ := Option.bind_eq_some_iff.1 h
  refine TL.ce rfl .u (.fn Try.call45 rfl) (f_record_Right_spec a1 _ _ _ hx5) (fun _ hs => (SrcE.old hs hX)) rfl ?_
  refine TL.run ft_record_ok [2] rfl rfl ?_
  refine TL.nil (X.seq (T.seq (T.region rfl ?_)))
  refine TL.run ft_record_ok [0, 1] rfl rfl ?_
  by_cases c6 : x4 = 0
  · replace h := ifT c6 h
    refine TL.nil (X.seq ?_)
    refine T.no rfl (bn_f (decide_eq_true c6)) ?_
    refine T.skip (X.seq (T.seq (T.region rfl ?_)))
    refine TL.q rfl .u (Ex.bS (us := [.int .i64 a1.fTime, .int .i64 a1.fOffset, .bool a1.fKey.null, .string (bsOf a1.fKey.data), .bool a1.fValue.null, .string (bsOf a1.fValue.data), .slice A1 a1.fHeaders.length c2]) 0 rfl Try.isAgg83 Try.sizeOf83 rfl rfl rfl) rfl ?_
    obtain ⟨⟨x7, x8⟩, hx9, h⟩ := Option.bind_eq_some_iff.1 h
    try dsimp only at h
    refine TL.ce rfl .u (.fn Try.call78 rfl) (f_record_body_spec a1 _ _ _ hx9) (fun _ hs => (SrcE.old hs hX)) rfl ?_
    refine TL.run ft_record_ok [2, 3, 4, 5, 6] rfl rfl ?_
    refine TL.nil (X.seq (T.seq (T.seq (T.region rfl ?_))))
    refine TL.run ft_record_ok [0, 1] rfl rfl ?_
    by_cases c10 : x8 = 0
    · replace h := ifT c10 h
      refine TL.nil (X.seq ?_)
      refine T.no rfl (bn_f (decide_eq_true c10)) ?_
      refine T.skip (X.seq (T.region rfl ?_))
      obtain ⟨st11, hx12, h⟩ := Option.bind_eq_some_iff.1 h
      refine TL.run ft_record_ok [0, 1] rfl rfl ?_
      refine TL.c1 rfl .u (.fn Try.call79 rfl) (gPutName_spec g st x7 _ hx12) (fun _ hs => (Src.triv _)) rfl ?_
      obtain rfl := Option.some.inj h
      exact TL.nil (X.done0 [1] Try.results48 ⟨rfl, rfl, rfl⟩ (by rfl) (.inr rfl))
    · replace h := ifF c10 h
      refine TL.nil (X.seq ?_)
      refine T.yes rfl (bn_t (decide_eq_false c10)) ?_
      refine T.seq (T.region rfl ?_)
      obtain ⟨st13, hx14, h⟩ := Option.bind_eq_some_iff.1 h
      refine TL.run ft_record_ok [0, 1] rfl rfl ?_
      refine TL.c1 rfl .u (.fn Try.call77 rfl) (gOFail_spec g st x8 _ hx14) (fun _ hs => (Src.triv _)) rfl ?_
      obtain rfl := Option.some.inj h
      exact TL.nil (X.seq (T.ret (X.rs (X.done0 [1] Try.results48 ⟨rfl, rfl, rfl⟩ (by rfl) (.inl rfl)))))
  · replace h := ifF c6 h
    refine TL.nil (X.seq ?_)
    refine T.yes rfl (bn_t (decide_eq_false c6)) ?_
    refine T.seq (T.region rfl ?_)
    obtain ⟨st15, hx16, h⟩ := Option.bind_eq_some_iff.1 h
    refine TL.run ft_record_ok [0, 1] rfl rfl ?_
    refine TL.c1 rfl .u (.fn Try.call77 rfl) (gOFail_spec g st x4 _ hx16) (fun _ hs => (Src.triv _)) rfl ?_
    obtain rfl := Option.some.inj h
    exact TL.nil (X.seq (T.ret (X.rs (X.done0 [1] Try.results48 ⟨rfl, rfl, rfl⟩ (by rfl) (.inl rfl)))))
end Go.Proofs.Ytahjmpipllajcaa.Sl
