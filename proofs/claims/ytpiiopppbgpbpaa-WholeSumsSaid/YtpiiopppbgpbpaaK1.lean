/- WholeSums: for every input the law returns true, and its arguments read behind the call as they did before. -/
import Derived.Test.YtpiiopppbgpbpaaRows
import Derived.WalkKit
import Derived.ProofKit
import Derived.OpenShut
import Derived.ShutString
import Derived.ChangeOld
import Derived.Below
import Derived.SizedLaws
import Derived.Test.YtpiiopppbgpbpaaK0
namespace Go.Proofs.Ytpiiopppbgpbpaa.Sl
open Go.RowKit
set_option linter.unusedVariables false
set_option linter.unusedSimpArgs false
set_option maxRecDepth 100000
def ft_crc : FTab := []
theorem ft_crc_ok : (ft_crc).OK Try.prog := trivial
theorem mix_crc : Try.prog.follows .mixedOrders = true := by kernel_rfl
def f_crc_New_l2 : Nat → Int → Nat → Option (Int × Nat)
  | 0, _, _ => none
  | m40 + 1, y35, k36 => if (k36 : Int) < 8 then ((if (Go.bits .and .u32 y35 1) = 1 then (some (Go.bits .xor .u32 (shrK .u32 y35 1) 2197175160)) else some (shrK .u32 y35 1)).bind fun y46 => if -9223372036854775808 ≤ ((k36 : Int) + 1) ∧ ((k36 : Int) + 1) ≤ 9223372036854775807 then (f_crc_New_l2 m40 y46 (k36 + 1)) else none) else some (y35, k36)
def f_crc_New_l1 : Nat → Nat → List Int → Option (Nat × List Int)
  | 0, _, _ => none
  | m7 + 1, k2, st3 => if (k2 : Int) < 256 then (((f_crc_New_l2 ((8 : Int).toNat + 1) (IntKind.u32.wrap (k2 : Int)) 0).bind fun (y52, k53) => (st3[k2]?).bind fun x54 => some (st3.set k2 y52)).bind fun st33 => if -9223372036854775808 ≤ ((k2 : Int) + 1) ∧ ((k2 : Int) + 1) ≤ 9223372036854775807 then (f_crc_New_l1 m7 (k2 + 1) st33) else none) else some (k2, st3)
def f_crc_New  : Option (List Int) := (f_crc_New_l1 ((256 : Int).toNat + 1) 0 (List.replicate 256 (0 : Int))).bind fun (k57, st58) => some st58
set_option maxRecDepth 100000 in
set_option maxHeartbeats 4000000 in
theorem f_crc_New_spec  (r : List Int) (h : f_crc_New  = some r) : SpecX Try.prog 53 #[] .triv (EmpR) (fun v A' N => ∃ q : Nat, v = .pointer (some ⟨q, 0, none⟩) ∧ A' = EmpR ∧ N = [TabR 144 q r]) := by
  refine enterA Try.func53 rfl Try.ntmps53 rfl ?_
  intro F w hX
  unfold f_crc_New at h
  refine T.seq (T.region rfl ?_)
  refine TL.run ft_crc_ok [0] rfl rfl ?_
  refine TL.nil (X.seq (T.seq (T.region rfl ?_)))
  refine TL.q rfl .u (Ex.bldZ Try.zeroValue144 Try.runUnderlying144 Try.sizeOf87) rfl ?_
  refine TL.tNew rfl .u rfl (by kernel_rfl) rfl (fun b1 => ?_)
  refine TL.run ft_crc_ok [2] rfl rfl ?_
  refine TL.nil (X.seq (T.seq (T.seq (T.region rfl ?_))))
  refine TL.run ft_crc_ok [0] rfl rfl ?_
  refine TL.nil (X.seq (T.block ?_))
  obtain ⟨E4, hE5, hO6⟩ := Option.bind_eq_some_iff.1 h
  refine T.lp (fun m e Rs => ∃ (k2 : Nat) (st3 : List Int), e = [(0, .pointer none), (1, .pointer (some ⟨b1, 0, none⟩)), (6, .int .i64 (k2 : Int))] ∧ Rs = [TabR 144 b1 st3, EmpR] ∧ f_crc_New_l1 m k2 st3 = some E4) ((256 : Int).toNat + 1) [0, 0] ⟨0, (List.replicate 256 (0 : Int)), rfl, rfl, by exact hE5⟩ (by rfl) (by rfl) ?_
  rintro m7 _ _ ⟨k2, st3, rfl, rfl, hl9⟩
  clear hE5 h
  cases m7 with
  | zero =>
    rw [f_crc_New_l1] at hl9
    cases hl9
  | succ m7 =>
    have h := hl9
    clear hl9
    rw [f_crc_New_l1] at h
    refine T.seq (T.region rfl ?_)
    refine TL.run ft_crc_ok [0] rfl rfl ?_
    by_cases c11 : (k2 : Int) < 256
    · replace h := ifT c11 h
      refine TL.nil (X.seq (T.seq ?_))
      refine T.yes rfl (decide_eq_true c11) ?_
      refine T.skip (X.seq (T.seq ?_))
      obtain ⟨st33, h, hk34⟩ := Option.bind_eq_some_iff.1 h
      refine T.jq (fun e Rs => e = [(0, .pointer none), (1, .pointer (some ⟨b1, 0, none⟩)), (6, .int .i64 (k2 : Int))] ∧ Rs = [TabR 144 b1 st33, EmpR]) ?_ ?_
      · clear hk34
        refine T.block (T.seq (T.region rfl ?_))
        refine TL.run ft_crc_ok [0, 1] rfl rfl ?_
        refine TL.nil (X.seq (T.seq (T.region rfl ?_)))
        refine TL.run ft_crc_ok [0] rfl rfl ?_
        refine TL.q rfl .u (Ex.conv rfl Try.runUnderlying3 Try.runUnderlying87) rfl ?_
        refine TL.run ft_crc_ok [2] rfl rfl ?_
        refine TL.nil (X.seq (T.seq (T.seq (T.region rfl ?_))))
        refine TL.run ft_crc_ok [0] rfl rfl ?_
        refine TL.nil (X.seq (T.block ?_))
        obtain ⟨E37, hE38, hO39⟩ := Option.bind_eq_some_iff.1 h
        refine T.lp (fun m e Rs => ∃ (y35 : Int) (k36 : Nat), e = [(0, .pointer none), (1, .pointer (some ⟨b1, 0, none⟩)), (2, .int .i64 (k2 : Int)), (3, .int .u32 y35), (6, .int .i64 (k2 : Int)), (11, .int .i64 (k36 : Int))] ∧ Rs = [TabR 144 b1 st3, EmpR] ∧ f_crc_New_l2 m y35 k36 = some E37) ((8 : Int).toNat + 1) [0, 0] ⟨(IntKind.u32.wrap (k2 : Int)), 0, rfl, rfl, by exact hE38⟩ (by rfl) (by rfl) ?_
        rintro m40 _ _ ⟨y35, k36, rfl, rfl, hl42⟩
        clear hE38 h
        cases m40 with
        | zero =>
          rw [f_crc_New_l2] at hl42
          cases hl42
        | succ m40 =>
          have h := hl42
          clear hl42
          rw [f_crc_New_l2] at h
          refine T.seq (T.region rfl ?_)
          refine TL.run ft_crc_ok [0] rfl rfl ?_
          by_cases c44 : (k36 : Int) < 8
          · replace h := ifT c44 h
            refine TL.nil (X.seq (T.seq ?_))
            refine T.yes rfl (decide_eq_true c44) ?_
            refine T.skip (X.seq (T.seq (T.block (T.seq (T.region rfl ?_)))))
            refine TL.run ft_crc_ok [0] rfl rfl ?_
            refine TL.q rfl .u (Ex.bitw rfl rfl rfl) rfl ?_
            refine TL.run ft_crc_ok [2] rfl rfl ?_
            refine TL.nil (X.seq ?_)
            obtain ⟨y46, h, hk47⟩ := Option.bind_eq_some_iff.1 h
            refine T.jq (fun e Rs => e = [(0, .pointer none), (1, .pointer (some ⟨b1, 0, none⟩)), (2, .int .i64 (k2 : Int)), (3, .int .u32 y46), (6, .int .i64 (k2 : Int)), (11, .int .i64 (k36 : Int))] ∧ Rs = [TabR 144 b1 st3, EmpR]) ?_ ?_
            · clear hk47
              by_cases c48 : (Go.bits .and .u32 y35 1) = 1
              · replace h := ifT c48 h
                refine T.yes rfl (decide_eq_true c48) ?_
                refine T.region rfl ?_
                refine TL.run ft_crc_ok [0] rfl rfl ?_
                refine TL.q rfl .u (Ex.shr rfl rfl (by decide)) rfl ?_
                refine TL.q rfl .u (Ex.bitw rfl rfl rfl) rfl ?_
                refine TL.run ft_crc_ok [3] rfl rfl ?_
                cases h
                exact TL.nil (X.jq [0, 0] ⟨rfl, rfl⟩ (by rfl) (by rfl))
              · replace h := ifF c48 h
                refine T.no rfl (decide_eq_false c48) ?_
                refine T.region rfl ?_
                refine TL.run ft_crc_ok [0] rfl rfl ?_
                refine TL.q rfl .u (Ex.shr rfl rfl (by decide)) rfl ?_
                refine TL.run ft_crc_ok [2] rfl rfl ?_
                cases h
                exact TL.nil (X.jq [0, 0] ⟨rfl, rfl⟩ (by rfl) (by rfl))
            · rintro _ _ ⟨rfl, rfl⟩
              clear h
              have h := hk47
              clear hk47
              try dsimp only at h
              replace h := guard_some h
              obtain ⟨c49, h⟩ := h
              refine X.blk (X.seq (T.region rfl ?_))
              refine TL.q rfl .u (Ex.add rfl rfl c49) rfl ?_
              refine TL.run ft_crc_ok [1] rfl rfl ?_
              exact TL.nil (X.back (m' := m40) [0, 0] (by omega) ⟨y46, k36 + 1, rfl, rfl, h⟩ (by rfl) (by rfl))
          · replace h := ifF c44 h
            refine TL.nil (X.seq (T.seq ?_))
            refine T.no rfl (decide_eq_false c44) ?_
            obtain rfl := Option.some.inj h
            replace h := hO39
            clear hO39
            try dsimp only at h
            refine T.exit (X.exs (X.exs (X.ex (X.seq (T.region rfl ?_)))))
            obtain ⟨x50, hx51, h⟩ := Option.bind_eq_some_iff.1 h
            refine TL.run ft_crc_ok [0, 1, 2, 3] rfl rfl ?_
            refine TL.q rfl .u (Ex.tIx (k := k2) 0 rfl rfl rfl Try.runUnderlying144 Try.sizeOf87 rfl hx51) rfl ?_
            refine TL.tSt (k := k2) 0 rfl .u rfl rfl Try.sizeOf87 rfl hx51 ?_
            refine TL.sel [0, 0] rfl ?_
            cases h
            exact TL.nil (X.blk (X.jq [0, 0] ⟨rfl, rfl⟩ (by rfl) (by rfl)))
      · rintro _ _ ⟨rfl, rfl⟩
        clear h
        have h := hk34
        clear hk34
        try dsimp only at h
        replace h := guard_some h
        obtain ⟨c56, h⟩ := h
        refine X.seq (T.region rfl ?_)
        refine TL.q rfl .u (Ex.add rfl rfl c56) rfl ?_
        refine TL.run ft_crc_ok [1] rfl rfl ?_
        exact TL.nil (X.back (m' := m7) [0, 0] (by omega) ⟨k2 + 1, st33, rfl, rfl, h⟩ (by rfl) (by rfl))
    · replace h := ifF c11 h
      refine TL.nil (X.seq (T.seq ?_))
      refine T.no rfl (decide_eq_false c11) ?_
      obtain rfl := Option.some.inj h
      replace h := hO6
      clear hO6
      try dsimp only at h
      refine T.exit (X.exs (X.exs (X.ex (X.seq (T.seq (T.region rfl ?_))))))
      refine TL.run ft_crc_ok [0, 1] rfl rfl ?_
      obtain rfl := Option.some.inj h
      exact TL.nil (X.seq (T.ret (X.done1 [1, 0] Try.results53 (RV.tm rfl) ⟨_, rfl, rfl, rfl⟩ (by rfl) (.inl rfl))))
def f_crc_TableMore_l1 (a2 : List UInt8) : Nat → Int → Nat → List Int → Option (Int × Nat × List Int)
  | 0, _, _, _ => none
  | m7 + 1, y1, k2, st3 => if (k2 : Int) < (a2.length : Int) then ((a2[k2]?).bind fun ch12 => if 0 ≤ (Go.bits .xor .u8 (IntKind.u8.wrap y1) (ch12.toNat : Int)) then ((st3[(Go.bits .xor .u8 (IntKind.u8.wrap y1) (ch12.toNat : Int)).toNat]?).bind fun x15 => if -9223372036854775808 ≤ ((k2 : Int) + 1) ∧ ((k2 : Int) + 1) ≤ 9223372036854775807 then (f_crc_TableMore_l1 a2 m7 (Go.bits .xor .u32 x15 (shrK .u32 y1 8)) (k2 + 1) st3) else none) else none) else some (y1, k2, st3)
def f_crc_TableMore (st : List Int) (a1 : Int) (a2 : List UInt8) : Option (Int × List Int) := (f_crc_TableMore_l1 a2 (((a2.length : Int)).toNat + 1) (Go.bits .xor .u32 4294967295 a1) 0 st).bind fun (y18, k19, st20) => some ((Go.bits .xor .u32 4294967295 y18), st20)
set_option maxRecDepth 100000 in
set_option maxHeartbeats 4000000 in
theorem f_crc_TableMore_spec (g : Nat) (st : List Int) (a1 : Int) (a2 : List UInt8) (r : Int × List Int) (h : f_crc_TableMore st a1 a2 = some r) : SpecX Try.prog 54 #[.pointer (some ⟨g, 0, none⟩), .int .u32 a1, .string (bsOf a2)] .triv (TabR 144 g st) (fun v A' N => v = .int .u32 r.1 ∧ A' = TabR 144 g r.2 ∧ N = []) := by
  refine enterA Try.func54 rfl Try.ntmps54 rfl ?_
  intro F w hX
  unfold f_crc_TableMore at h
  refine T.seq (T.region rfl ?_)
  refine TL.run ft_crc_ok [0] rfl rfl ?_
  refine TL.nil (X.seq (T.seq (T.region rfl ?_)))
  refine TL.run ft_crc_ok [0] rfl rfl ?_
  refine TL.q rfl .u (Ex.notK rfl) rfl ?_
  refine TL.run ft_crc_ok [2] rfl rfl ?_
  refine TL.nil (X.seq (T.seq (T.seq (T.region rfl ?_))))
  refine TL.run ft_crc_ok [0] rfl rfl ?_
  refine TL.q rfl .u (Ex.lenB rfl Try.runUnderlying9) rfl ?_
  refine TL.run ft_crc_ok [2] rfl rfl ?_
  refine TL.nil (X.seq (T.block ?_))
  obtain ⟨E4, hE5, hO6⟩ := Option.bind_eq_some_iff.1 h
  refine T.lp (fun m e Rs => ∃ (y1 : Int) (k2 : Nat) (st3 : List Int), e = [(0, .pointer (some ⟨g, 0, none⟩)), (2, .string (bsOf a2)), (6, .int .u32 0), (7, .int .u32 y1), (12, .int .i64 (a2.length : Int)), (13, .int .i64 (k2 : Int))] ∧ Rs = [TabR 144 g st3] ∧ f_crc_TableMore_l1 a2 m y1 k2 st3 = some E4) (((a2.length : Int)).toNat + 1) [0] ⟨(Go.bits .xor .u32 4294967295 a1), 0, st, rfl, rfl, by exact hE5⟩ (by rfl) (by rfl) ?_
  rintro m7 _ _ ⟨y1, k2, st3, rfl, rfl, hl9⟩
  clear hE5 h
  cases m7 with
  | zero =>
    rw [f_crc_TableMore_l1] at hl9
    cases hl9
  | succ m7 =>
    have h := hl9
    clear hl9
    rw [f_crc_TableMore_l1] at h
    refine T.seq (T.region rfl ?_)
    refine TL.run ft_crc_ok [0] rfl rfl ?_
    by_cases c11 : (k2 : Int) < (a2.length : Int)
    · replace h := ifT c11 h
      refine TL.nil (X.seq (T.seq ?_))
      refine T.yes rfl (decide_eq_true c11) ?_
      refine T.skip (X.seq (T.seq (T.block (T.seq (T.region rfl ?_)))))
      refine TL.run ft_crc_ok [0, 1] rfl rfl ?_
      refine TL.nil (X.seq (T.draw (.q 0 (.q 1 (.q 2 (.q 3 (.q 4 (.q 5 (.q 6 (.q 7 (.q 8 (.q 9 (.q 10 (.q 11 (.q 12 (.q 13 .nil)))))))))))))) [0] rfl mix_crc (NoP.blk (NoP.seq (NoP.seq (NoP.blk (NoP.seq np_post))))) (by kernel_rfl) ?_))
      refine TD.run ft_crc_ok [0, 1] rfl rfl ?_
      refine TD.q rfl .u (Ex.conv rfl Try.runUnderlying87 Try.runUnderlying5) rfl ?_
      obtain ⟨ch12, hc13, h⟩ := Option.bind_eq_some_iff.1 h
      refine TD.run ft_crc_ok [3, 4] rfl rfl ?_
      refine TD.q rfl .u (Ex.sIx rfl rfl rfl Try.underlying9 hc13) rfl ?_
      refine TD.q rfl .u (Ex.bitw rfl rfl rfl) rfl ?_
      replace h := guard_some h
      obtain ⟨c14, h⟩ := h
      obtain ⟨x15, hx16, h⟩ := Option.bind_eq_some_iff.1 h
      refine TD.run ft_crc_ok [7] rfl rfl ?_
      refine TD.q rfl .u (Ex.tIx (k := (Go.bits .xor .u8 (IntKind.u8.wrap y1) (ch12.toNat : Int)).toNat) 0 rfl rfl ((Int.toNat_of_nonneg c14).symm) Try.runUnderlying144 Try.sizeOf87 rfl hx16) rfl ?_
      refine TD.q rfl .u (Ex.tLd (k := (Go.bits .xor .u8 (IntKind.u8.wrap y1) (ch12.toNat : Int)).toNat) 0 rfl Try.isAgg87 rfl hx16) rfl ?_
      refine TD.run ft_crc_ok [10] rfl rfl ?_
      refine TD.q rfl .u (Ex.shr rfl rfl (by decide)) rfl ?_
      refine TD.q rfl .u (Ex.bitw rfl rfl rfl) rfl ?_
      refine TD.run ft_crc_ok [13] rfl rfl ?_
      replace h := guard_some h
      obtain ⟨c17, h⟩ := h
      refine TD.nil (X.blk (X.seq (T.region rfl ?_)))
      refine TL.q rfl .u (Ex.add rfl rfl c17) rfl ?_
      refine TL.run ft_crc_ok [1] rfl rfl ?_
      exact TL.nil (X.back (m' := m7) [0] (by omega) ⟨(Go.bits .xor .u32 x15 (shrK .u32 y1 8)), k2 + 1, st3, rfl, rfl, h⟩ (by rfl) (by rfl))
    · replace h := ifF c11 h
      refine TL.nil (X.seq (T.seq ?_))
      refine T.no rfl (decide_eq_false c11) ?_
      obtain rfl := Option.some.inj h
      replace h := hO6
      clear hO6
      try dsimp only at h
      refine T.exit (X.exs (X.exs (X.ex (X.seq (T.seq (T.region rfl ?_))))))
      refine TL.run ft_crc_ok [0] rfl rfl ?_
      refine TL.q rfl .u (Ex.notK rfl) rfl ?_
      refine TL.run ft_crc_ok [2] rfl rfl ?_
      obtain rfl := Option.some.inj h
      exact TL.nil (X.seq (T.ret (X.done1 [0] Try.results54 (RV.tm rfl) ⟨rfl, rfl, rfl⟩ (by rfl) (.inl rfl))))
def f_crc_TableSum_l1 : List (List UInt8) → Int → List Int → Option (Int × List Int)
  | [], y3, st5 => some (y3, st5)
  | x10 :: xs, y3, st5 => (f_crc_TableMore st5 y3 x10).bind fun (x14, st15) => f_crc_TableSum_l1 xs x14 st15
def f_crc_TableSum (st : List Int) (a1 : List (List UInt8)) : Option (Int × List Int) := (f_crc_TableSum_l1 a1 0 st).bind fun (y17, st19) => some (y17, st19)
set_option maxRecDepth 100000 in
set_option maxHeartbeats 4000000 in
theorem f_crc_TableSum_spec (g : Nat) (st : List Int) (a1 : List (List UInt8)) (A1 : Option Addr) (c2 : Nat) (r : Int × List Int) (h : f_crc_TableSum st a1 = some r) : SpecX Try.prog 56 #[.pointer (some ⟨g, 0, none⟩), .slice A1 a1.length c2] (RX.of (sliceRd 1 strE) [.slice A1 a1.length c2] a1) (TabR 144 g st) (fun v A' N => v = .int .u32 r.1 ∧ A' = TabR 144 g r.2 ∧ N = []) := by
  refine enterA Try.func56 rfl Try.ntmps56 rfl ?_
  intro F w hX
  unfold f_crc_TableSum at h
  refine T.seq (T.region rfl ?_)
  refine TL.run ft_crc_ok [0] rfl rfl ?_
  refine TL.nil (X.seq (T.seq (T.region rfl ?_)))
  refine TL.run ft_crc_ok [0] rfl rfl ?_
  refine TL.nil (X.seq (T.seq (T.seq (T.region rfl ?_))))
  refine TL.run ft_crc_ok [0] rfl rfl ?_
  refine TL.q rfl .u (Ex.lenS rfl Try.runUnderlying84) rfl ?_
  refine TL.run ft_crc_ok [2] rfl rfl ?_
  refine TL.nil (X.seq (T.block ?_))
  obtain ⟨E6, hE7, hO8⟩ := Option.bind_eq_some_iff.1 h
  have hk12len := RX.len_le hX
  refine T.lp (fun m e Rs => ∃ (y3 : Int) (k4 : Nat) (st5 : List Int), k4 + m = a1.length ∧ e = [(0, .pointer (some ⟨g, 0, none⟩)), (4, .int .u32 0), (5, .int .u32 y3), (8, .slice A1 a1.length c2), (9, .int .i64 (a1.length : Int)), (10, .int .i64 (k4 : Int))] ∧ Rs = [TabR 144 g st5] ∧ f_crc_TableSum_l1 (a1.drop k4) y3 st5 = some E6) (a1.length) [0] ⟨0, 0, st, by simp, rfl, rfl, by rw [List.drop_zero]; exact hE7⟩ (by rfl) (by rfl) ?_
  rintro m9 _ _ ⟨y3, k4, st5, hk12, rfl, rfl, hl11⟩
  clear hE7 h
  cases m9 with
  | zero =>
    have h := hl11
    clear hl11
    rw [List.drop_of_length_le (by omega), f_crc_TableSum_l1] at h
    have hk12ge : ¬ ((k4 : Int) < (a1.length : Int)) := by omega
    refine T.seq (T.region rfl ?_)
    refine TL.run ft_crc_ok [0] rfl rfl ?_
    refine TL.nil (X.seq (T.seq ?_))
    refine T.no rfl (decide_eq_false hk12ge) ?_
    obtain rfl := Option.some.inj h
    replace h := hO8
    clear hO8
    try dsimp only at h
    refine T.exit (X.exs (X.exs (X.ex (X.seq (T.seq (T.region rfl ?_))))))
    refine TL.run ft_crc_ok [0, 1] rfl rfl ?_
    obtain rfl := Option.some.inj h
    exact TL.nil (X.seq (T.ret (X.done1 [0] Try.results56 (RV.tm rfl) ⟨rfl, rfl, rfl⟩ (by rfl) (.inl rfl))))
  | succ m9 =>
    have h := hl11
    clear hl11
    obtain ⟨x10, hxx10⟩ : ∃ x, a1[k4]? = some x := ⟨_, List.getElem?_eq_getElem (by omega)⟩
    rw [drop_cons hxx10, f_crc_TableSum_l1] at h
    have hk12lt : (k4 : Int) < (a1.length : Int) := by omega
    refine T.seq (T.region rfl ?_)
    refine TL.run ft_crc_ok [0] rfl rfl ?_
    refine TL.nil (X.seq (T.seq ?_))
    refine T.yes rfl (decide_eq_true hk12lt) ?_
    obtain ⟨gz13, oz13, rfl, z13cs, z13cl, z13cc, z13nf, z13r⟩ := RX.elem (by decide) hX hxx10
    obtain ⟨z13S, z13r, z13rr⟩ := z13r
    obtain rfl : z13cs = [.string (bsOf x10)] := z13r
    refine T.skip (X.seq (T.seq (T.block (T.seq (T.region rfl ?_)))))
    refine TL.q rfl .u (Ex.ixS (k := k4) rfl rfl rfl Try.runUnderlying84 Try.sizeOf9 (List.getElem?_eq_some_iff.1 hxx10).1) rfl ?_
    refine TL.q rfl .u (Ex.o1 0 rfl Try.isAgg9 z13nf z13cc rfl rfl) rfl ?_
    refine TL.run ft_crc_ok [2] rfl rfl ?_
    refine TL.nil (X.seq (T.region rfl ?_))
    obtain ⟨⟨x14, st15⟩, hx16, h⟩ := Option.bind_eq_some_iff.1 h
    try dsimp only at h
    refine TL.run ft_crc_ok [0, 1, 2] rfl rfl ?_
    refine TL.c0 rfl .u (.fn Try.call54 rfl) (f_crc_TableMore_spec g st5 y3 x10 _ hx16) (fun _ hs => (Src.triv _)) rfl ?_
    refine TL.run ft_crc_ok [4] rfl rfl ?_
    refine TL.nil (X.blk (X.seq (T.region rfl ?_)))
    refine TL.q rfl .u (Ex.add rfl rfl (by omega)) rfl ?_
    refine TL.run ft_crc_ok [1] rfl rfl ?_
    exact TL.nil (X.back (m' := m9) [0] (by omega) ⟨x14, k4 + 1, st15, by omega, rfl, rfl, h⟩ (by rfl) (by rfl))
end Go.Proofs.Ytpiiopppbgpbpaa.Sl
namespace Go.Proofs.Ytpiiopppbgpbpaa.Sl
open Go.RowKit
set_option linter.unusedVariables false
set_option linter.unusedSimpArgs false
theorem u32_ofInt (a : Nat) (h : a < 4294967296) : (BitVec.ofInt IntKind.u32.bits (a : Int)).toNat = a := by
  show (BitVec.ofInt 32 (a : Int)).toNat = a
  rw [BitVec.ofInt_natCast, BitVec.toNat_ofNat, Nat.mod_eq_of_lt (by omega)]
theorem u8_ofInt (a : Nat) (h : a < 256) : (BitVec.ofInt IntKind.u8.bits (a : Int)).toNat = a := by
  show (BitVec.ofInt 8 (a : Int)).toNat = a
  rw [BitVec.ofInt_natCast, BitVec.toNat_ofNat, Nat.mod_eq_of_lt (by omega)]
theorem wrap_u32 (a : Nat) : IntKind.u32.wrap (a : Int) = ((a % 4294967296 : Nat) : Int) := by
  rw [IntKind.wrap_u32]; omega
theorem wrap_u8 (a : Nat) : IntKind.u8.wrap (a : Int) = ((a % 256 : Nat) : Int) := by
  rw [IntKind.wrap_u8]; omega
theorem xor_u32 (a b : Nat) (ha : a < 4294967296) (hb : b < 4294967296) : Go.bits .xor .u32 (a : Int) (b : Int) = ((a ^^^ b : Nat) : Int) := by
  show IntKind.u32.wrap (((BitVec.ofInt IntKind.u32.bits (a : Int)) ^^^ (BitVec.ofInt IntKind.u32.bits (b : Int))).toNat : Int) = _
  rw [BitVec.toNat_xor, u32_ofInt a ha, u32_ofInt b hb, wrap_u32, Nat.mod_eq_of_lt (Nat.xor_lt_two_pow (n := 32) ha hb)]
theorem xor_u8 (a b : Nat) (ha : a < 256) (hb : b < 256) : Go.bits .xor .u8 (a : Int) (b : Int) = ((a ^^^ b : Nat) : Int) := by
  show IntKind.u8.wrap (((BitVec.ofInt IntKind.u8.bits (a : Int)) ^^^ (BitVec.ofInt IntKind.u8.bits (b : Int))).toNat : Int) = _
  rw [BitVec.toNat_xor, u8_ofInt a ha, u8_ofInt b hb, wrap_u8, Nat.mod_eq_of_lt (Nat.xor_lt_two_pow (n := 8) ha hb)]
theorem and1_u32 (a : Nat) (ha : a < 4294967296) : Go.bits .and .u32 (a : Int) 1 = ((a % 2 : Nat) : Int) := by
  show IntKind.u32.wrap (((BitVec.ofInt IntKind.u32.bits (a : Int)) &&& (BitVec.ofInt IntKind.u32.bits ((1 : Nat) : Int))).toNat : Int) = _
  rw [BitVec.toNat_and, u32_ofInt a ha, u32_ofInt 1 (by decide), wrap_u32, Nat.and_one_is_mod, Nat.mod_eq_of_lt (by omega)]
theorem shr1_u32 (a : Nat) : shrK .u32 (a : Int) 1 = ((a / 2 : Nat) : Int) := by
  show Int.fdiv (a : Int) 2 = _
  rw [Int.fdiv_eq_ediv_of_nonneg _ (by decide)]
  omega
theorem shr8_u32 (a : Nat) : shrK .u32 (a : Int) 8 = ((a / 256 : Nat) : Int) := by
  show Int.fdiv (a : Int) 256 = _
  rw [Int.fdiv_eq_ediv_of_nonneg _ (by decide)]
  omega
theorem crcS_int (y : Nat) (hy : y < 4294967296) : (if Go.bits .and .u32 (y : Int) 1 = 1 then some (Go.bits .xor .u32 (shrK .u32 (y : Int) 1) 2197175160) else some (shrK .u32 (y : Int) 1)) = some ((crcS y : Nat) : Int) := by
  rw [and1_u32 y hy, shr1_u32, show (2197175160 : Int) = ((2197175160 : Nat) : Int) from rfl, xor_u32 _ _ (by omega) (by decide)]
  unfold crcS
  by_cases h : y % 2 = 1
  · rw [if_pos (by omega), if_pos h]; rfl
  · rw [if_neg (by omega), if_neg h, Nat.xor_zero]
theorem new_l2 : ∀ (m y k : Nat), y < 4294967296 → k ≤ 8 → 8 - k < m → f_crc_New_l2 m (y : Int) k = some (((crcI (8 - k) y : Nat) : Int), 8)
  | 0, _, _, _, _, h => by omega
  | m + 1, y, k, hy, hk, hm => by
    rw [f_crc_New_l2]
    by_cases h : k < 8
    · rw [if_pos (by omega), crcS_int y hy, Option.bind_some, if_pos (by omega), new_l2 m (crcS y) (k + 1) (crcS_lt hy) (by omega) (by omega), show 8 - k = (8 - (k + 1)) + 1 by omega]
      rfl
    · rw [if_neg (by omega), show 8 - k = 0 by omega, show k = 8 by omega]
      rfl
def crcTab : List Int := (List.range 256).map (fun j => ((crcI 8 j : Nat) : Int))
theorem crcTab_get (j : Nat) (hj : j < 256) : crcTab[j]? = some ((crcI 8 j : Nat) : Int) := by
  unfold crcTab
  rw [List.getElem?_map, List.getElem?_range hj]
  rfl
theorem new_l1 : ∀ (m k : Nat) (l : List Int), l.length = 256 → k ≤ 256 → 256 - k < m → (∀ j, j < k → l[j]? = some ((crcI 8 j : Nat) : Int)) → f_crc_New_l1 m k l = some (256, crcTab)
  | 0, _, _, _, _, h, _ => by omega
  | m + 1, k, l, hl, hk, hm, hj => by
    rw [f_crc_New_l1]
    by_cases h : k < 256
    · have e1 : IntKind.u32.wrap (k : Int) = ((k : Nat) : Int) := by rw [wrap_u32, Nat.mod_eq_of_lt (by omega)]
      have e2 : f_crc_New_l2 ((8 : Int).toNat + 1) (IntKind.u32.wrap (k : Int)) 0 = some (((crcI 8 k : Nat) : Int), 8) := by
        rw [e1]
        exact new_l2 9 k 0 (by omega) (by omega) (by omega)
      have e3 : l[k]? = some (l[k]'(by omega)) := List.getElem?_eq_getElem (by omega)
      rw [if_pos (by omega), e2, Option.bind_some]
      dsimp only
      rw [e3, Option.bind_some, Option.bind_some, if_pos (by omega)]
      refine new_l1 m (k + 1) _ (by rw [List.length_set]; exact hl) (by omega) (by omega) (fun j hjk => ?_)
      rw [List.getElem?_set]
      by_cases e : k = j
      · rw [if_pos e, if_pos (by omega), e]
      · rw [if_neg e]
        exact hj j (by omega)
    · rw [if_neg (by omega), show k = 256 by omega]
      congr 2
      apply List.ext_getElem?
      intro j
      by_cases hj2 : j < 256
      · rw [crcTab_get j hj2]
        exact hj j (by omega)
      · rw [List.getElem?_eq_none (by omega), List.getElem?_eq_none (by unfold crcTab; simp; omega)]
theorem crc_new : f_crc_New = some crcTab := by
  unfold f_crc_New
  rw [show (256 : Int).toNat + 1 = 257 from rfl, new_l1 257 0 _ (List.length_replicate ..) (by omega) (by omega) (fun j hj => absurd hj (by omega)), Option.bind_some]
theorem more_l1 (s : List UInt8) (hs : s.length ≤ 9223372036854775806) : ∀ (m y k : Nat), y < 4294967296 → k ≤ s.length → s.length - k < m → f_crc_TableMore_l1 s m (y : Int) k crcTab = some (((crcR y (s.drop k) : Nat) : Int), s.length, crcTab)
  | 0, _, _, _, _, h => by omega
  | m + 1, y, k, hy, hk, hm => by
    rw [f_crc_TableMore_l1]
    by_cases h : k < s.length
    · have e1 : s[k]? = some s[k] := List.getElem?_eq_getElem h
      have hc := s[k].toNat_lt
      have hx : y % 256 ^^^ s[k].toNat < 256 := Nat.xor_lt_two_pow (n := 8) (by omega) hc
      have e2 : Go.bits .xor .u8 (IntKind.u8.wrap (y : Int)) (s[k].toNat : Int) = ((y % 256 ^^^ s[k].toNat : Nat) : Int) := by
        rw [wrap_u8, xor_u8 _ _ (by omega) (by omega)]
      have e3 : crcI 8 (y % 256 ^^^ s[k].toNat) < 2 ^ 32 := crcI_lt 8 (by omega)
      rw [if_pos (by omega), e1, Option.bind_some, e2, if_pos (by omega), Int.toNat_natCast, crcTab_get _ hx, Option.bind_some, if_pos (by omega), shr8_u32, xor_u32 _ _ (by omega) (by omega), ← crcI_byte y _ (by omega),
        more_l1 s hs m _ (k + 1) (crcI_lt 8 (Nat.xor_lt_two_pow (n := 32) hy (by omega))) (by omega) (by omega)]
      rw [drop_cons e1]
      rfl
    · rw [if_neg (by omega), show k = s.length by omega, List.drop_length]
      rfl
def crcM (x : Nat) (s : List UInt8) : Nat := 4294967295 ^^^ crcR (4294967295 ^^^ x) s
theorem crcM_lt {x : Nat} (hx : x < 4294967296) (s : List UInt8) : crcM x s < 4294967296 := Nat.xor_lt_two_pow (n := 32) (by decide) (crcR_lt s (Nat.xor_lt_two_pow (n := 32) (by decide) hx))
theorem ones2 (x : Nat) : 4294967295 ^^^ (4294967295 ^^^ x) = x := by rw [← Nat.xor_assoc, Nat.xor_self, Nat.zero_xor]
theorem crcM_append (x : Nat) (s t : List UInt8) : crcM x (s ++ t) = crcM (crcM x s) t := by
  unfold crcM
  rw [crcR_append, ones2]
theorem crcM_nil (x : Nat) : crcM x [] = x := ones2 x
theorem crc_more (x : Nat) (hx : x < 4294967296) (s : List UInt8) (hs : s.length ≤ 9223372036854775806) : f_crc_TableMore crcTab (x : Int) s = some (((crcM x s : Nat) : Int), crcTab) := by
  unfold f_crc_TableMore
  have h1 : (4294967295 ^^^ x : Nat) < 4294967296 := Nat.xor_lt_two_pow (n := 32) (by decide) hx
  rw [show (4294967295 : Int) = ((4294967295 : Nat) : Int) from rfl, xor_u32 _ _ (by decide) hx, Int.toNat_natCast, more_l1 s hs _ _ 0 h1 (by omega) (by omega), Option.bind_some, List.drop_zero]
  dsimp only
  rw [xor_u32 _ _ (by decide) (crcR_lt s h1)]
  rfl
theorem sum_l1 : ∀ (l : List (List UInt8)) (x : Nat), x < 4294967296 → (∀ s, s ∈ l → s.length ≤ 9223372036854775806) → f_crc_TableSum_l1 l (x : Int) crcTab = some (((crcM x l.flatten : Nat) : Int), crcTab)
  | [], x, _, _ => by rw [f_crc_TableSum_l1, List.flatten_nil, crcM_nil]
  | s :: l, x, hx, hs => by
    rw [f_crc_TableSum_l1, crc_more x hx s (hs s (List.mem_cons_self ..)), Option.bind_some]
    dsimp only
    rw [sum_l1 l _ (crcM_lt hx s) (fun t ht => hs t (List.mem_cons_of_mem _ ht)), List.flatten_cons, crcM_append]
theorem crc_sum (l : List (List UInt8)) (hs : ∀ s, s ∈ l → s.length ≤ 9223372036854775806) : f_crc_TableSum crcTab l = some (((crcM 0 l.flatten : Nat) : Int), crcTab) := by
  unfold f_crc_TableSum
  have h := sum_l1 l 0 (by decide) hs
  rw [show ((0 : Nat) : Int) = 0 from rfl] at h
  rw [h, Option.bind_some]
theorem crcM_burst {l m : List UInt8} (hlm : l.length = m.length) {x d k : Nat} (hd : d < 2 ^ 32) (hk : k ≤ 8 * l.length) (h : leN l ^^^ leN m = 2 ^ k * d) (he : crcM x l = crcM x m) : d = 0 := by
  refine crc_burst hlm (x := 4294967295 ^^^ x) hd hk h ?_
  have := congrArg (4294967295 ^^^ ·) he
  simpa only [crcM, ones2] using this
end Go.Proofs.Ytpiiopppbgpbpaa.Sl
namespace Go.Proofs.Ytpiiopppbgpbpaa.Sl
open Go.RowKit Go.Deep Go.ChangeShapes
set_option linter.unusedVariables false
def andRd {α : Type} (E : Rd α) (W : α → Prop) : Rd α := ⟨fun w S cs a => E.P w S cs a ∧ W a, fun h k => ⟨E.mono h.1 k, h.2⟩, fun h k => ⟨E.move h.1 k, h.2⟩⟩
section
variable {H : Type} (enc : TypeId × Value → H) (P : Program) {α β : Type}
def OpensW (t : TypeId) (E : Rd α) : Prop :=
  ∀ (w : World) (fuel : Nat) (cs : List Value) (x : DataW H × List MemPlace), DataW.trod enc P w 0 (fun _ => true) true fuel t cs = some x → (∀ m, m ∈ x.1.weights P t → m ≤ reachBytes) → ∃ a, E.P w (fun k => k < w.heap.size) cs a
def OpensWFs (off : Nat) (fs : List Field) (n : Nat) (E : Rd α) : Prop :=
  ∀ (w : World) (fuel : Nat) (cs : List Value) (xs : List (DataW H × List MemPlace)), cs.length = off + n → xs.length = fs.length →
    (∀ (i : Nat) (f : Field), fs[i]? = some f → DataW.trod enc P w 0 (fun _ => true) true fuel f.type ((cs.drop f.offset).take (P.cellsOf f.type)) = xs[i]?) →
    (∀ m, m ∈ DataW.weightsEach P (fs.map (·.type)) (xs.map (·.1)) → m ≤ reachBytes) → ∃ a, E.P w (fun k => k < w.heap.size) (cs.drop off) a
variable {enc P}
theorem opensW_weak {t : TypeId} {E : Rd α} {E' : Rd β} (f : α → β) (h : OpensW enc P t E) (hf : ∀ w S cs a, E.P w S cs a → E'.P w S cs (f a)) : OpensW enc P t E' := by
  intro w fuel cs x hx hw
  obtain ⟨a, ha⟩ := h w fuel cs x hx hw
  exact ⟨f a, hf _ _ _ _ ha⟩
theorem opensW_of {t : TypeId} {E : Rd α} {E' : Rd β} (f : α → β) (h : Opens enc P t E) (hf : ∀ w S cs a, E.P w S cs a → E'.P w S cs (f a)) : OpensW enc P t E' := by
  intro w fuel cs x hx hw
  obtain ⟨a, ha⟩ := h w fuel cs x hx
  exact ⟨f a, hf _ _ _ _ ha⟩
def wB (_ : Bool) : Prop := True
def wS (l : List UInt8) : Prop := l.length ≤ 140737488351232
def wL (W : α → Prop) (l : List α) : Prop := l.length ≤ 140737488351232 ∧ ∀ x, x ∈ l → W x
theorem op_bool {t : TypeId} (ht : P.underlying t = some .bool) : OpensW enc P t (andRd boolE wB) := opensW_of id (opens_bool ht) (fun w S cs a h => ⟨h, trivial⟩)
theorem op_str {t : TypeId} (ht : P.underlying t = some .string) : OpensW enc P t (andRd strE wS) := by
  intro w fuel cs x h hw
  obtain ⟨s, rfl, rfl, hs⟩ := DataW.trod_string ht h
  have := hw s.data.toList.length (by simp [DataW.weights])
  exact ⟨s.data.toList, by cases s; simp [strE, bsOf], this⟩
theorem slice_and {size : Nat} {E : Rd α} {W : α → Prop} {w : World} {S : Nat → Prop} {cs : List Value} {l : List α} (h : (sliceRd size (andRd E W)).P w S cs l) : (sliceRd size E).P w S cs l ∧ ∀ x, x ∈ l → W x := by
  rcases h with ⟨h, rfl⟩ | ⟨a, cap, h1, h2, h3, h4, h5⟩
  · exact ⟨.inl ⟨h, rfl⟩, fun x hx => by simp at hx⟩
  · refine ⟨.inr ⟨a, cap, h1, h2, h3, h4, fun i x hx => ?_⟩, fun x hx => ?_⟩
    · obtain ⟨cs, k1, k2, k3⟩ := h5 i x hx
      exact ⟨cs, k1, k2, k3.1⟩
    · obtain ⟨i, hi⟩ := List.getElem?_of_mem hx
      obtain ⟨cs, k1, k2, k3⟩ := h5 i x hi
      exact k3.2
theorem weightsAll_mem {e : TypeId} {l : List (DataW H)} {d : DataW H} {m : Nat} (hd : d ∈ l) (hm : m ∈ d.weights P e) : m ∈ DataW.weightsAll P e l := by
  induction l with
  | nil => simp at hd
  | cons x l ih =>
    simp only [DataW.weightsAll, List.mem_append]
    rcases List.mem_cons.1 hd with rfl | h
    · exact .inl hm
    · exact .inr (ih h)
theorem op_slice {t e : TypeId} {E : Rd α} {W : α → Prop} (size bytes : Nat) (ht : P.underlying t = some (.slice e)) (hc : P.cellsOf e = size) (hb : P.bytesOf e = bytes) (hp : 0 < size) (hpb : 0 < bytes) (he : OpensW enc P e (andRd E W)) : OpensW enc P t (andRd (sliceRd size E) (wL W)) := by
  intro w fuel cs x h hw
  rcases open_slice ht h with ⟨rfl, _⟩ | ⟨a, len, cap, m, n, D, Pl, rfl, _, hl, hm, hmm, rfl, hx⟩
  · exact ⟨[], .inl ⟨rfl, rfl⟩, by simp, fun x hx => by simp at hx⟩
  have hlm : len ≤ m := by rw [hmm]; split <;> omega
  have hlen : len ≤ 140737488351232 := by
    have h1 := hw ((((List.range len).map D).length + ((List.range (m - len)).map fun j => D (len + j)).length) * P.bytesOf e) (by simp only [DataW.weights, ht]; exact List.mem_cons_self)
    rw [hb] at h1
    simp only [List.length_map, List.length_range] at h1
    have h2 : (len + (m - len)) * 1 ≤ (len + (m - len)) * bytes := Nat.mul_le_mul_left _ hpb
    have h3 : reachBytes = 140737488351232 := rfl
    omega
  have hwe : ∀ i, i < len → ∀ z, z ∈ (D i).weights P e → z ≤ reachBytes := by
    intro i hi z hz
    apply hw
    simp only [DataW.weights, ht]
    exact List.mem_cons_of_mem _ (List.mem_append.2 (.inl (weightsAll_mem (d := D i) (List.mem_map.2 ⟨i, List.mem_range.2 hi, rfl⟩) hz)))
  rw [hc] at hx
  have each : ∀ i : Fin len, ∃ y : α, ∃ cs, cs.length = size ∧ (∀ j, j < size → w.cell? (a.add (i.val * size + j)) = cs[j]?) ∧ (andRd E W).P w (fun k => k < w.heap.size) cs y := by
    intro i
    obtain ⟨cs', h1, h2⟩ := hx i.val (by have := i.isLt; omega)
    obtain ⟨_, h3, h4⟩ := World.cells?_some h1
    obtain ⟨y, hy⟩ := he _ _ _ _ h2 (hwe i.val i.isLt)
    refine ⟨y, cs', h3, fun j hj => ?_, hy⟩
    rw [← h4 j hj, add_add]
  obtain ⟨f, hf⟩ := Classical.axiomOfChoice each
  have hs : (sliceRd size (andRd E W)).P w (fun k => k < w.heap.size) [.slice (some a) len cap] ((List.finRange len).map f) := by
    refine .inr ⟨a, cap, by simp, by simpa using hl, hm, fun hz => ?_, ?_⟩
    · simp at hz
      obtain ⟨cs', k1, k2, k3⟩ := hf ⟨0, by omega⟩
      have := k2 0 hp
      rw [List.getElem?_eq_getElem (by omega)] at this
      simp only [World.cell?] at this
      rw [block_add] at this
      rcases Nat.lt_or_ge a.block w.heap.size with h | h
      · exact h
      · rw [Array.getElem?_eq_none h] at this
        simp at this
    · intro i x hx
      rw [List.getElem?_map, Option.map_eq_some_iff] at hx
      obtain ⟨j, hj, rfl⟩ := hx
      have e : j.val = i := by
        obtain ⟨h1, h2⟩ := List.getElem?_eq_some_iff.1 hj
        rw [← h2]
        simp
      rw [← e]
      exact hf j
  obtain ⟨k1, k2⟩ := slice_and hs
  exact ⟨_, k1, by simpa using hlen, k2⟩
theorem opensWFs_nil (off : Nat) : OpensWFs enc P off [] 0 unitRd := by
  intro w fuel cs xs hl _ _ _
  exact ⟨(), List.drop_of_length_le (by omega)⟩
theorem opensWFs_cons {off n : Nat} (m : Nat) {f : Field} {fs : List Field} {A : Rd α} {B : Rd β} (ho : f.offset = off) (hc : P.cellsOf f.type = m) (hA : OpensW enc P f.type A) (hB : OpensWFs enc P (off + m) fs n B) :
    OpensWFs enc P off (f :: fs) (m + n) (pairRd A B) := by
  intro w fuel cs xs hl hx h hw
  cases xs with
  | nil => simp at hx
  | cons x xs =>
    have h0 := h 0 f rfl
    rw [ho, hc] at h0
    simp only [List.map_cons, DataW.weightsEach, List.mem_append] at hw
    obtain ⟨a, ha⟩ := hA _ _ _ _ h0 (fun m hm => hw m (.inl hm))
    obtain ⟨b, hb⟩ := hB w fuel cs xs (by omega) (by simpa using hx) (fun i f' hf => by simpa using h (i + 1) f' (by simpa using hf)) (fun m hm => hw m (.inr hm))
    refine ⟨(a, b), (cs.drop off).take m, cs.drop (off + m), ?_, ha, hb⟩
    rw [← List.drop_drop, List.take_append_drop]
theorem opensW_struct {t : TypeId} {fs : Array Field} {n : Nat} {E : Rd α} (ht : P.underlying t = some (.struct fs)) (hc : P.cellsOf t = n) (h : OpensWFs enc P 0 fs.toList n E) : OpensW enc P t E := by
  intro w fuel cs x hx hw
  obtain ⟨xs, k, rfl, rfl, hl, hxl, hf⟩ := DataW.trod_struct ht hx
  simp only [DataW.weights, ht] at hw
  obtain ⟨a, ha⟩ := h w k cs xs (by omega) (by simpa using hxl) (fun i f hi => hf i f (by simpa using hi)) hw
  exact ⟨a, by simpa using ha⟩
theorem weights_in : ∀ {ts : List TypeId} {ds : List (DataW H)} (j : Nat) {t : TypeId} {d : DataW H} {m : Nat}, ts[j]? = some t → ds[j]? = some d → m ∈ d.weights P t → m ∈ DataW.weightsEach P ts ds
  | [], _, j, _, _, _, ht, _, _ => by simp at ht
  | _ :: _, [], j, _, _, _, _, hd, _ => by simp at hd
  | t :: ts, d :: ds, 0, _, _, _, ht, hd, hm => by
    obtain rfl : t = _ := by simpa using ht
    obtain rfl : d = _ := by simpa using hd
    simp only [DataW.weightsEach, List.mem_append]
    exact .inl hm
  | t :: ts, d :: ds, j + 1, _, _, _, ht, hd, hm => by
    simp only [DataW.weightsEach, List.mem_append]
    exact .inr (weights_in j (by simpa using ht) (by simpa using hd) hm)
theorem slice_cells {size : Nat} {E : Rd α} {w : World} {S : Nat → Prop} {cs : List Value} {l : List α} (h : (sliceRd size E).P w S cs l) : ∃ A c, cs = [.slice A l.length c] := by
  rcases h with ⟨h, rfl⟩ | ⟨a, cap, h, _⟩
  · exact ⟨none, 0, h⟩
  · exact ⟨_, _, h⟩
theorem opens_arg1 {t e : TypeId} {E : Rd α} {r : Reach} {b0 : Nat} {w : World} {v : Value} {d : DataW H} {p : List MemPlace} (ht : P.underlying t = some (.slice e)) (hval : Value.okWide P w r b0 t v) (h : OpensW enc P t E)
    (hv : DataW.Trod enc P w 0 (fun _ => true) true t v d p) (hw : ∀ m, m ∈ d.weights P t → m ≤ reachBytes) : ∃ a, E.P w (fun k => k < w.heap.size) [v] a := by
  obtain ⟨a0, len, cap, rfl⟩ := Go.WideShapes.okWide_slice ht hval
  obtain ⟨fuel, hf⟩ := hv
  exact h _ _ _ _ hf hw
theorem RX.reads_all {E : Rd α} {w : World} {cs : List Value} {a : α} (h : E.P w (fun k => k < w.heap.size) cs a) : (RX.of E cs a).reads w (fun _ => False) := ⟨_, h, fun k hk => ⟨fun h => h, hk⟩⟩
end
end Go.Proofs.Ytpiiopppbgpbpaa.Sl
namespace Go.Proofs.Ytpiiopppbgpbpaa.Sl
open Go.RowKit
set_option linter.unusedVariables false
def wf_Bl (x : Bl) : Prop := wB x.null ∧ wS x.data
def wf_Hd (x : Hd) : Prop := wS x.fKey ∧ wf_Bl x.fValue
end Go.Proofs.Ytpiiopppbgpbpaa.Sl
namespace Go.Proofs.Ytpiiopppbgpbpaa.Sl
open Go.RowKit
set_option linter.unusedVariables false
set_option linter.unusedSimpArgs false
theorem toBs_bsI (l : List UInt8) : toBs (bsI l) = l := by
  unfold toBs bsI
  rw [List.map_map]
  conv => rhs; rw [← List.map_id l]
  apply List.map_congr_left
  intro c _
  simp
theorem bsI_set (l : List UInt8) (k : Nat) (c : UInt8) : (bsI l).set k (c.toNat : Int) = bsI (l.set k c) := by
  unfold bsI
  rw [List.map_set]
theorem bsI_get {l : List UInt8} {k : Nat} (h : k < l.length) : (bsI l)[k]? = some (l[k].toNat : Int) := by
  unfold bsI
  rw [List.getElem?_map, List.getElem?_eq_getElem h]
  rfl
theorem pow_xor (k a b : Nat) : 2 ^ k * (a ^^^ b) = 2 ^ k * a ^^^ 2 ^ k * b := by
  apply Nat.eq_of_testBit_eq
  intro i
  simp only [Nat.testBit_xor, Nat.testBit_two_pow_mul]
  by_cases h : i ≥ k <;> simp [h]
theorem leN_cons (c : UInt8) (l : List UInt8) : leN (c :: l) = c.toNat ^^^ 2 ^ 8 * leN l := nat_add_xor c.toNat_lt _
theorem leN_set : ∀ (l : List UInt8) (k : Nat) (c : UInt8) (b : Nat), l[k]? = some c → b < 256 → leN (l.set k (UInt8.ofNat (c.toNat ^^^ b))) = leN l ^^^ 2 ^ (8 * k) * b
  | [], k, c, b, h, _ => by simp at h
  | a :: l, 0, c, b, h, hb => by
    obtain rfl : a = c := by simpa using h
    have hx : a.toNat ^^^ b < 256 := Nat.xor_lt_two_pow (n := 8) a.toNat_lt hb
    have e : (UInt8.ofNat (a.toNat ^^^ b)).toNat = a.toNat ^^^ b := by rw [UInt8.toNat_ofNat', Nat.mod_eq_of_lt hx]
    rw [List.set_cons_zero, leN_cons, leN_cons, e, Nat.mul_zero, Nat.pow_zero, Nat.one_mul]
    ac_rfl
  | a :: l, k + 1, c, b, h, hb => by
    rw [List.set_cons_succ, leN_cons, leN_cons, leN_set l k c b (by simpa using h) hb, pow_xor, show 2 ^ 8 * (2 ^ (8 * k) * b) = 2 ^ (8 * (k + 1)) * b by rw [← Nat.mul_assoc, ← Nat.pow_add, show 8 + 8 * k = 8 * (k + 1) by omega]]
    ac_rfl
theorem leN_inj : ∀ {l m : List UInt8}, l.length = m.length → leN l = leN m → l = m
  | [], [], _, _ => rfl
  | a :: l, b :: m, h, e => by
    have e' : a.toNat + 256 * leN l = b.toNat + 256 * leN m := e
    have ha := a.toNat_lt
    have hb := b.toNat_lt
    have h1 : a.toNat = b.toNat := by omega
    have h2 : leN l = leN m := by omega
    rw [UInt8.toNat_inj.1 h1, leN_inj (by simpa using h) h2]
  | [], _ :: _, h, _ => nomatch h
  | _ :: _, [], h, _ => nomatch h
theorem burst_iff {s t : List UInt8} (hl : s.length = t.length) {d k : Nat} (hd : d < 2 ^ 32) (hk : k ≤ 8 * s.length) (h : leN t = leN s ^^^ 2 ^ k * d) : (crcM 0 s = crcM 0 t ↔ d = 0) ∧ (s = t ↔ d = 0) := by
  have h0 : leN s ^^^ leN t = 2 ^ k * d := by rw [h, ← Nat.xor_assoc, Nat.xor_self, Nat.zero_xor]
  have hst : d = 0 → s = t := fun e => leN_inj hl (by rw [h, e, Nat.mul_zero, Nat.xor_zero])
  refine ⟨⟨fun he => crcM_burst hl hd hk h0 he, fun e => by rw [hst e]⟩, ⟨fun e => ?_, hst⟩⟩
  subst e
  rw [Nat.xor_self] at h0
  rcases Nat.mul_eq_zero.1 h0.symm with q | q
  · exact absurd q (Nat.ne_of_gt (Nat.pow_pos (by decide)))
  · exact q
end Go.Proofs.Ytpiiopppbgpbpaa.Sl
namespace Go.Proofs.Ytpiiopppbgpbpaa.Sl
open Go.RowKit
set_option linter.unusedVariables false
set_option linter.unusedSimpArgs false
abbrev Pr (α : Type) := List UInt8 → Nat → Except Int (α × Nat)
namespace Pr
variable {α β : Type}
def ret (a : α) : Pr α := fun _ q => .ok (a, q)
def err (e : Int) : Pr α := fun _ _ => .error e
def bind (p : Pr α) (f : α → Pr β) : Pr β := fun s q => match p s q with | .error e => .error e | .ok (a, r) => f a s r
theorem bind_of {p : Pr α} {f : α → Pr β} {s : List UInt8} {q r : Nat} {a : α} (h : p s q = .ok (a, r)) : p.bind f s q = f a s r := by unfold bind; rw [h]
theorem bind_err {p : Pr α} {f : α → Pr β} {s : List UInt8} {q : Nat} {e : Int} (h : p s q = .error e) : p.bind f s q = .error e := by unfold bind; rw [h]
end Pr
structure Sp {α : Type} (p : Pr α) (enc : α → List UInt8) (ok : α → Prop) : Prop where
  spell : ∀ (s : List UInt8) (q : Nat) (a : α) (r : Nat), q ≤ s.length → p s q = .ok (a, r) → q ≤ r ∧ r ≤ s.length ∧ r = q + (enc a).length ∧ s.take r = s.take q ++ enc a ∧ ok a
  back : ∀ (s t : List UInt8) (q : Nat) (a : α), q ≤ s.length → ok a → s.drop q = enc a ++ t → p s q = .ok (a, q + (enc a).length)
theorem oput_z (t l : List UInt8) : oput (t, 0) l = (t ++ l, 0) := rfl
theorem gPutVaried_z {t : List UInt8} {b : Bl} (hb : bright b = true) (hl : b.data.length ≤ 2147483647) (ht : t.length + b.data.length ≤ 140737488355310) : gPutVaried (t, 0) b = some (t ++ (vput (vfold (blen b)) ++ b.data), 0) := by
  rw [gPutVaried_eq _ _ (by simp only; omega)]
  unfold bputVaried bwrite vputInt
  rw [if_pos hb, if_pos (by unfold blen; split <;> omega), oput_z, oput_z, List.append_assoc]
theorem otx_z (t : List UInt8) : otx (t, 0) = (t, 0) := by simp [otx]
end Go.Proofs.Ytpiiopppbgpbpaa.Sl
namespace Go.Proofs.Ytpiiopppbgpbpaa.Sl
open Go.RowKit
set_option linter.unusedVariables false
set_option linter.unusedSimpArgs false
def shift {α : Type} (q : Nat) : Except Int (α × Nat) → Except Int (α × Nat)
  | .error e => .error e
  | .ok (a, r) => .ok (a, q + r)
def Sh {α : Type} (p : Pr α) : Prop := ∀ (s : List UInt8) (q k : Nat), q + k ≤ s.length → p s (q + k) = shift q (p (s.drop q) k)
theorem Sh.ret {α : Type} (a : α) : Sh (Pr.ret a) := fun s q k h => rfl
theorem Sh.err {α : Type} (e : Int) : Sh (Pr.err e : Pr α) := fun s q k h => rfl
theorem Sh.bind {α β : Type} {p : Pr α} {f : α → Pr β} {enc : α → List UInt8} {ok : α → Prop} (hp : Sh p) (hs : Sp p enc ok) (hf : ∀ a, Sh (f a)) : Sh (p.bind f) := by
  intro s q k h
  unfold Pr.bind
  rw [hp s q k h]
  cases hx : p (s.drop q) k with
  | error e => rfl
  | ok x =>
    have := (hs.spell (s.drop q) k x.1 x.2 (by rw [List.length_drop]; omega) hx).2.1
    rw [List.length_drop] at this
    exact hf x.1 s q x.2 (by omega)
theorem Sh.zero {α : Type} {p : Pr α} (h : Sh p) {s : List UInt8} {q : Nat} (hq : q ≤ s.length) : p s q = shift q (p (s.drop q) 0) := h s q 0 hq
def encs {α : Type} (enc : α → List UInt8) : List α → List UInt8
  | [] => []
  | a :: l => enc a ++ encs enc l
def NZ {α : Type} (p : Pr α) : Prop := ∀ (s : List UInt8) (q : Nat) (e : Int), s.length ≤ 1000000 → q ≤ s.length → p s q = .error e → e ≠ 0
theorem NZ.ret {α : Type} (a : α) : NZ (Pr.ret a) := fun s q e _ _ h => nomatch h
theorem NZ.err {α : Type} {e : Int} (he : e ≠ 0) : NZ (Pr.err e : Pr α) := fun s q e' _ _ h => by injection h with h; rw [← h]; exact he
theorem NZ.bind {α β : Type} {p : Pr α} {f : α → Pr β} {enc : α → List UInt8} {ok : α → Prop} (hp : NZ p) (hs : Sp p enc ok) (hf : ∀ a, NZ (f a)) : NZ (p.bind f) := by
  intro s q e hl hq h
  cases hx : p s q with
  | error e' =>
    rw [Pr.bind_err hx] at h
    injection h with h
    rw [← h]
    exact hp s q e' hl hq hx
  | ok x =>
    rw [Pr.bind_of (a := x.1) (r := x.2) hx] at h
    exact hf x.1 s x.2 e hl (hs.spell s q x.1 x.2 hq hx).2.1 h
end Go.Proofs.Ytpiiopppbgpbpaa.Sl
namespace Go.Proofs.Ytpiiopppbgpbpaa.Sl
open Go.RowKit
set_option linter.unusedVariables false
set_option linter.unusedSimpArgs false
set_option maxRecDepth 100000
def ft_header : FTab := [(147, 0, 0), (147, 1, 1)]
theorem ft_header_ok : (ft_header).OK Try.prog := ⟨FOK.mk Try.runUnderlying147 rfl Try.sizeOf9 rfl, FOK.mk Try.runUnderlying147 rfl Try.sizeOf70 rfl, trivial⟩
def f_header_Write_l1 : List Hd → (List UInt8 × Int) → Option (List UInt8 × Int)
  | [], st6 => some st6
  | x11 :: xs, st6 => (gPutName st6 x11.fKey).bind fun st16 => (gPutVaried st16 x11.fValue).bind fun st18 => f_header_Write_l1 xs st18
def f_header_Write (st : List UInt8 × Int) (a1 : List Hd) : Option (List UInt8 × Int) := (gPutInt st (a1.length : Int)).bind fun st3 => (f_header_Write_l1 a1 st3).bind fun st21 => some st21
set_option maxRecDepth 100000 in
set_option maxHeartbeats 4000000 in
theorem f_header_Write_spec (g : Nat) (st : List UInt8 × Int) (a1 : List Hd) (A1 : Option Addr) (c2 : Nat) (r : List UInt8 × Int) (h : f_header_Write st a1 = some r) : SpecX Try.prog 64 #[.pointer (some ⟨g, 0, none⟩), .slice A1 a1.length c2] (RX.of (sliceRd 3 Hd_rd) [.slice A1 a1.length c2] a1) (OutR g st) (fun v A' N => v = .tuple #[] ∧ A' = OutR g r ∧ N = []) := by
  refine enterA Try.func64 rfl Try.ntmps64 rfl ?_
  intro F w hX
  unfold f_header_Write at h
  refine T.seq (T.region rfl ?_)
  refine TL.run ft_header_ok [0, 1] rfl rfl ?_
  refine TL.q rfl .u (Ex.lenS rfl Try.runUnderlying101) rfl ?_
  obtain ⟨st3, hx4, h⟩ := Option.bind_eq_some_iff.1 h
  refine TL.c0 rfl .u (.fn Try.call84 rfl) (gPutInt_spec g st (a1.length : Int) _ hx4) (fun _ hs => (Src.triv _)) rfl ?_
  refine TL.nil (X.seq (T.seq (T.region rfl ?_)))
  refine TL.run ft_header_ok [0] rfl rfl ?_
  refine TL.q rfl .u (Ex.lenS rfl Try.runUnderlying101) rfl ?_
  refine TL.run ft_header_ok [2] rfl rfl ?_
  refine TL.nil (X.seq (T.block ?_))
  obtain ⟨E7, hE8, hO9⟩ := Option.bind_eq_some_iff.1 h
  have hk13len := RX.len_le hX
  refine T.lp (fun m e Rs => ∃ (k5 : Nat) (st6 : List UInt8 × Int), k5 + m = a1.length ∧ e = [(0, .pointer (some ⟨g, 0, none⟩)), (10, .slice A1 a1.length c2), (11, .int .i64 (a1.length : Int)), (12, .int .i64 (k5 : Int))] ∧ Rs = [OutR g st6] ∧ f_header_Write_l1 (a1.drop k5) st6 = some E7) (a1.length) [0] ⟨0, st3, by simp, rfl, rfl, by rw [List.drop_zero]; exact hE8⟩ (by rfl) (by rfl) ?_
  rintro m10 _ _ ⟨k5, st6, hk13, rfl, rfl, hl12⟩
  clear hE8 h
  cases m10 with
  | zero =>
    have h := hl12
    clear hl12
    rw [List.drop_of_length_le (by omega), f_header_Write_l1] at h
    have hk13ge : ¬ ((k5 : Int) < (a1.length : Int)) := by omega
    refine T.seq (T.region rfl ?_)
    refine TL.run ft_header_ok [0] rfl rfl ?_
    refine TL.nil (X.seq (T.seq ?_))
    refine T.no rfl (decide_eq_false hk13ge) ?_
    obtain rfl := Option.some.inj h
    replace h := hO9
    clear hO9
    try dsimp only at h
    obtain rfl := Option.some.inj h
    exact T.exit (X.exs (X.exs (X.ex (X.done0 [0] Try.results64 ⟨rfl, rfl, rfl⟩ (by rfl) (.inr rfl)))))
  | succ m10 =>
    have h := hl12
    clear hl12
    obtain ⟨x11, hxx11⟩ : ∃ x, a1[k5]? = some x := ⟨_, List.getElem?_eq_getElem (by omega)⟩
    rw [drop_cons hxx11, f_header_Write_l1] at h
    have hk13lt : (k5 : Int) < (a1.length : Int) := by omega
    refine T.seq (T.region rfl ?_)
    refine TL.run ft_header_ok [0] rfl rfl ?_
    refine TL.nil (X.seq (T.seq ?_))
    refine T.yes rfl (decide_eq_true hk13lt) ?_
    obtain ⟨gz14, oz14, rfl, z14cs, z14cl, z14cc, z14nf, z14r⟩ := RX.elem (by decide) hX hxx11
    obtain ⟨z14S, z14r, z14rr⟩ := z14r
    obtain rfl : z14cs = [.string (bsOf x11.fKey), .bool x11.fValue.null, .string (bsOf x11.fValue.data)] := z14r
    refine T.skip (X.seq (T.seq (T.block (T.seq (T.region rfl ?_)))))
    refine TL.q rfl .u (Ex.ixS (k := k5) rfl rfl rfl Try.runUnderlying101 Try.sizeOf147 (List.getElem?_eq_some_iff.1 hxx11).1) rfl ?_
    refine TL.q rfl .u (Ex.oS (us := [.string (bsOf x11.fKey), .bool x11.fValue.null, .string (bsOf x11.fValue.data)]) 0 rfl Try.isAgg147 Try.sizeOf147 z14nf z14cc rfl rfl rfl) rfl ?_
    refine TL.alloc rfl .u Try.zeroValue147 rfl (fun b15 => ?_)
    refine TL.st0 (cs' := #[.string (bsOf x11.fKey), .bool x11.fValue.null, .string (bsOf x11.fValue.data)]) rfl .u rfl rfl Try.sizeOf147 rfl rfl rfl rfl ?_
    refine TL.nil (X.seq (T.seq (T.region rfl ?_)))
    refine TL.run ft_header_ok [0, 1] rfl rfl ?_
    refine TL.q rfl .u (Ex.b1 0 rfl Try.isAgg9 rfl rfl) rfl ?_
    obtain ⟨st16, hx17, h⟩ := Option.bind_eq_some_iff.1 h
    refine TL.c1 rfl .u (.fn Try.call43 rfl) (gPutName_spec g st6 x11.fKey _ hx17) (fun _ hs => (Src.triv _)) rfl ?_
    refine TL.nil (X.seq (T.region rfl ?_))
    refine TL.run ft_header_ok [0, 1] rfl rfl ?_
    refine TL.q rfl .u (Ex.bS (us := [.bool x11.fValue.null, .string (bsOf x11.fValue.data)]) 0 rfl Try.isAgg70 Try.sizeOf70 rfl rfl rfl) rfl ?_
    obtain ⟨st18, hx19, h⟩ := Option.bind_eq_some_iff.1 h
    refine TL.c1 rfl .u (.fn Try.call41 rfl) (gPutVaried_spec g st16 x11.fValue _ hx19) (fun _ hs => (Src.triv _)) rfl ?_
    refine TL.nil (X.blk (X.seq (T.region rfl ?_)))
    refine TL.q rfl .u (Ex.add rfl rfl (by omega)) rfl ?_
    refine TL.run ft_header_ok [1] rfl rfl ?_
    exact TL.nil (X.back (m' := m10) [1] (by omega) ⟨k5 + 1, st18, by omega, rfl, rfl, h⟩ (by rfl) (by rfl))
end Go.Proofs.Ytpiiopppbgpbpaa.Sl
namespace Go.Proofs.Ytpiiopppbgpbpaa.Sl
open Go.RowKit
set_option linter.unusedVariables false
set_option linter.unusedSimpArgs false
set_option maxRecDepth 100000
def ft_cursitorref06 : FTab := [(70, 0, 0), (70, 1, 1), (147, 1, 1)]
theorem ft_cursitorref06_ok : (ft_cursitorref06).OK Try.prog := ⟨FOK.mk Try.runUnderlying70 rfl Try.sizeOf4 rfl, FOK.mk Try.runUnderlying70 rfl Try.sizeOf9 rfl, FOK.mk Try.runUnderlying147 rfl Try.sizeOf70 rfl, trivial⟩
def f_r06_Right_l1 (a0 : List Hd) : Nat → Bool → Nat → Option (Lp Bool (Bool × Nat))
  | 0, _, _ => none
  | m8 + 1, y3, k4 => if (k4 : Int) < (a0.length : Int) then ((a0[k4]?).bind fun x13 => if x13.fValue.null = true then (if x13.fValue.data = [] then (if -9223372036854775808 ≤ ((k4 : Int) + 1) ∧ ((k4 : Int) + 1) ≤ 9223372036854775807 then (f_r06_Right_l1 a0 m8 y3 (k4 + 1)) else none) else some (Lp.ret false)) else (if -9223372036854775808 ≤ ((k4 : Int) + 1) ∧ ((k4 : Int) + 1) ≤ 9223372036854775807 then (f_r06_Right_l1 a0 m8 y3 (k4 + 1)) else none)) else (some (Lp.go (y3, k4)))
def f_r06_Right (a0 : List Hd) : Option (Bool) := (f_r06_Right_l1 a0 (((a0.length : Int)).toNat + 1) false 0).bind fun e => match e with | .ret r => some r | .go (y20, k21) => some true
set_option maxRecDepth 100000 in
set_option maxHeartbeats 4000000 in
theorem f_r06_Right_spec (a0 : List Hd) (A1 : Option Addr) (c2 : Nat) (r : Bool) (h : f_r06_Right a0 = some r) : SpecX Try.prog 63 #[.slice A1 a0.length c2] (RX.of (sliceRd 3 Hd_rd) [.slice A1 a0.length c2] a0) (EmpR) (fun v A' N => v = .bool r ∧ A' = EmpR ∧ N = []) := by
  refine enterA Try.func63 rfl Try.ntmps63 rfl ?_
  intro F w hX
  unfold f_r06_Right at h
  refine T.seq (T.region rfl ?_)
  refine TL.run ft_cursitorref06_ok [0] rfl rfl ?_
  refine TL.nil (X.seq (T.seq (T.seq (T.region rfl ?_))))
  refine TL.run ft_cursitorref06_ok [0] rfl rfl ?_
  refine TL.nil (X.seq (T.block ?_))
  obtain ⟨E5, hE6, hO7⟩ := Option.bind_eq_some_iff.1 h
  refine T.lp (fun m e Rs => ∃ (y3 : Bool) (k4 : Nat), e = [(0, .slice A1 a0.length c2), (2, .bool y3), (3, .int .i64 (k4 : Int))] ∧ Rs = [EmpR] ∧ f_r06_Right_l1 a0 m y3 k4 = some E5) (((a0.length : Int)).toNat + 1) [0] ⟨false, 0, rfl, rfl, by exact hE6⟩ (by rfl) (by rfl) ?_
  rintro m8 _ _ ⟨y3, k4, rfl, rfl, hl10⟩
  clear hE6 h
  cases m8 with
  | zero =>
    rw [f_r06_Right_l1] at hl10
    cases hl10
  | succ m8 =>
    have h := hl10
    clear hl10
    rw [f_r06_Right_l1] at h
    refine T.seq (T.seq (T.region rfl ?_))
    refine TL.run ft_cursitorref06_ok [0, 1] rfl rfl ?_
    refine TL.q rfl .u (Ex.lenS rfl Try.runUnderlying101) rfl ?_
    refine TL.run ft_cursitorref06_ok [3] rfl rfl ?_
    by_cases c12 : (k4 : Int) < (a0.length : Int)
    · replace h := ifT c12 h
      refine TL.nil (X.seq ?_)
      refine T.yes rfl (decide_eq_true c12) ?_
      refine T.skip (X.seq (T.seq (T.block (T.seq (T.region rfl ?_)))))
      obtain ⟨x13, hx14, h⟩ := Option.bind_eq_some_iff.1 h
      obtain ⟨gz15, oz15, rfl, z15cs, z15cl, z15cc, z15nf, z15r⟩ := RX.elem (by decide) hX hx14
      obtain ⟨z15S, z15r, z15rr⟩ := z15r
      obtain rfl : z15cs = [.string (bsOf x13.fKey), .bool x13.fValue.null, .string (bsOf x13.fValue.data)] := z15r
      refine TL.run ft_cursitorref06_ok [0, 1] rfl rfl ?_
      refine TL.q rfl .u (Ex.ixS (k := k4) rfl rfl rfl Try.runUnderlying101 Try.sizeOf147 (List.getElem?_eq_some_iff.1 hx14).1) rfl ?_
      refine TL.run ft_cursitorref06_ok [3, 4] rfl rfl ?_
      refine TL.q rfl .u (Ex.o1 1 rfl Try.isAgg4 z15nf z15cc rfl rfl) rfl ?_
      by_cases c16 : x13.fValue.null = true
      · replace h := ifT c16 h
        refine TL.run ft_cursitorref06_ok [6] rfl rfl ?_
        refine TL.q rfl (.g rfl rfl c16) (Ex.ft ft_cursitorref06_ok rfl) rfl ?_
        refine TL.q rfl (.g rfl rfl c16) (Ex.ft ft_cursitorref06_ok rfl) rfl ?_
        refine TL.q rfl (.g rfl rfl c16) (Ex.ixS (k := k4) rfl rfl rfl Try.runUnderlying101 Try.sizeOf147 (List.getElem?_eq_some_iff.1 hx14).1) rfl ?_
        refine TL.q rfl (.g rfl rfl c16) (Ex.ft ft_cursitorref06_ok rfl) rfl ?_
        refine TL.q rfl (.g rfl rfl c16) (Ex.ft ft_cursitorref06_ok rfl) rfl ?_
        refine TL.q rfl (.g rfl rfl c16) (Ex.o1 2 rfl Try.isAgg9 z15nf z15cc rfl rfl) rfl ?_
        refine TL.q rfl (.g rfl rfl c16) (Ex.sNe rfl (m := []) rfl) rfl ?_
        refine TL.q rfl .u (Ex.py rfl c16 rfl) rfl ?_
        by_cases c17 : x13.fValue.data = []
        · replace h := ifT c17 h
          refine TL.nil (X.seq ?_)
          refine T.no rfl (bn_f (decide_eq_true c17)) ?_
          refine T.skip (X.blk (X.seq (T.region rfl ?_)))
          replace h := guard_some h
          obtain ⟨c18, h⟩ := h
          refine TL.run ft_cursitorref06_ok [0] rfl rfl ?_
          refine TL.q rfl .u (Ex.add rfl rfl c18) rfl ?_
          refine TL.run ft_cursitorref06_ok [2] rfl rfl ?_
          exact TL.nil (X.back (m' := m8) [0] (by omega) ⟨y3, k4 + 1, rfl, rfl, h⟩ (by rfl) (by rfl))
        · replace h := ifF c17 h
          refine TL.nil (X.seq ?_)
          refine T.yes rfl (bn_t (decide_eq_false c17)) ?_
          refine T.seq (T.region rfl ?_)
          refine TL.run ft_cursitorref06_ok [0] rfl rfl ?_
          obtain rfl := Option.some.inj h
          replace h := hO7
          clear hO7
          try dsimp only at h
          obtain rfl := Option.some.inj h
          exact TL.nil (X.seq (T.ret (X.rb (X.rs (X.rs (X.rb (X.rs (X.done1 [0] Try.results63 (RV.tm rfl) ⟨rfl, rfl, rfl⟩ (by rfl) (.inl rfl)))))))))
      · replace h := ifF c16 h
        replace c16 := eq_false_of_ne_true c16
        refine TL.run ft_cursitorref06_ok [6] rfl rfl ?_
        refine TL.no rfl (.gn rfl rfl c16) rfl ?_
        refine TL.no rfl (.gn rfl rfl c16) rfl ?_
        refine TL.no rfl (.gn rfl rfl c16) rfl ?_
        refine TL.no rfl (.gn rfl rfl c16) rfl ?_
        refine TL.no rfl (.gn rfl rfl c16) rfl ?_
        refine TL.no rfl (.gn rfl rfl c16) rfl ?_
        refine TL.no rfl (.gn rfl rfl c16) rfl ?_
        refine TL.q rfl .u (Ex.pn rfl c16 rfl) rfl ?_
        refine TL.nil (X.seq ?_)
        refine T.no rfl rfl ?_
        refine T.skip (X.blk (X.seq (T.region rfl ?_)))
        replace h := guard_some h
        obtain ⟨c19, h⟩ := h
        refine TL.run ft_cursitorref06_ok [0] rfl rfl ?_
        refine TL.q rfl .u (Ex.add rfl rfl c19) rfl ?_
        refine TL.run ft_cursitorref06_ok [2] rfl rfl ?_
        exact TL.nil (X.back (m' := m8) [0] (by omega) ⟨y3, k4 + 1, rfl, rfl, h⟩ (by rfl) (by rfl))
    · replace h := ifF c12 h
      refine TL.nil (X.seq ?_)
      refine T.no rfl (decide_eq_false c12) ?_
      obtain rfl := Option.some.inj h
      replace h := hO7
      clear hO7
      try dsimp only at h
      refine T.exit (X.exs (X.exs (X.ex (X.seq (T.seq (T.region rfl ?_))))))
      refine TL.run ft_cursitorref06_ok [0] rfl rfl ?_
      obtain rfl := Option.some.inj h
      exact TL.nil (X.seq (T.ret (X.done1 [0] Try.results63 (RV.tm rfl) ⟨rfl, rfl, rfl⟩ (by rfl) (.inl rfl))))
end Go.Proofs.Ytpiiopppbgpbpaa.Sl
namespace Go.Proofs.Ytpiiopppbgpbpaa.Sl
open Go.RowKit
set_option linter.unusedVariables false
set_option linter.unusedSimpArgs false
def encHd (h : Hd) : List UInt8 := (vput (vfold (h.fKey.length : Int)) ++ h.fKey) ++ (vput (vfold (blen h.fValue)) ++ h.fValue.data)
end Go.Proofs.Ytpiiopppbgpbpaa.Sl
namespace Go.Proofs.Ytpiiopppbgpbpaa.Sl
open Go.RowKit
set_option linter.unusedVariables false
set_option linter.unusedSimpArgs false
set_option maxRecDepth 100000
def ft_cursitorlaw06 : FTab := [(70, 1, 1), (147, 0, 0), (147, 1, 1)]
theorem ft_cursitorlaw06_ok : (ft_cursitorlaw06).OK Try.prog := ⟨FOK.mk Try.runUnderlying70 rfl Try.sizeOf9 rfl, FOK.mk Try.runUnderlying147 rfl Try.sizeOf9 rfl, FOK.mk Try.runUnderlying147 rfl Try.sizeOf70 rfl, trivial⟩
def f_l06_Small_l1 : List Hd → Int → Int → Option (Lp Int (Int × Int))
  | [], y3, y4 => some (Lp.go (y3, y4))
  | x10 :: xs, y3, y4 => if -9223372036854775808 ≤ ((x10.fKey.length : Int) + (x10.fValue.data.length : Int)) ∧ ((x10.fKey.length : Int) + (x10.fValue.data.length : Int)) ≤ 9223372036854775807 then (if -9223372036854775808 ≤ (((x10.fKey.length : Int) + (x10.fValue.data.length : Int)) + 1) ∧ (((x10.fKey.length : Int) + (x10.fValue.data.length : Int)) + 1) ≤ 9223372036854775807 then (if -9223372036854775808 ≤ (y4 + (((x10.fKey.length : Int) + (x10.fValue.data.length : Int)) + 1)) ∧ (y4 + (((x10.fKey.length : Int) + (x10.fValue.data.length : Int)) + 1)) ≤ 9223372036854775807 then (if (y4 + (((x10.fKey.length : Int) + (x10.fValue.data.length : Int)) + 1)) > 1000 then some (Lp.ret 0) else (f_l06_Small_l1 xs y3 (y4 + (((x10.fKey.length : Int) + (x10.fValue.data.length : Int)) + 1)))) else none) else none) else none
def f_l06_Small (a0 : List Hd) : Option (Int) := (f_l06_Small_l1 a0 0 0).bind fun e => match e with | .ret r => some r | .go (y19, y20) => some 1
set_option maxRecDepth 100000 in
set_option maxHeartbeats 4000000 in
theorem f_l06_Small_spec (a0 : List Hd) (A1 : Option Addr) (c2 : Nat) (r : Int) (h : f_l06_Small a0 = some r) : SpecX Try.prog 62 #[.slice A1 a0.length c2] (RX.of (sliceRd 3 Hd_rd) [.slice A1 a0.length c2] a0) (EmpR) (fun v A' N => v = .int .i64 r ∧ A' = EmpR ∧ N = []) := by
  refine enterA Try.func62 rfl Try.ntmps62 rfl ?_
  intro F w hX
  unfold f_l06_Small at h
  refine T.seq (T.region rfl ?_)
  refine TL.run ft_cursitorlaw06_ok [0] rfl rfl ?_
  refine TL.nil (X.seq (T.seq (T.region rfl ?_)))
  refine TL.run ft_cursitorlaw06_ok [0] rfl rfl ?_
  refine TL.nil (X.seq (T.seq (T.seq (T.region rfl ?_))))
  refine TL.run ft_cursitorlaw06_ok [0] rfl rfl ?_
  refine TL.q rfl .u (Ex.lenS rfl Try.runUnderlying101) rfl ?_
  refine TL.run ft_cursitorlaw06_ok [2] rfl rfl ?_
  refine TL.nil (X.seq (T.block ?_))
  obtain ⟨E6, hE7, hO8⟩ := Option.bind_eq_some_iff.1 h
  have hk12len := RX.len_le hX
  refine T.lp (fun m e Rs => ∃ (y3 : Int) (y4 : Int) (k5 : Nat), k5 + m = a0.length ∧ e = [(2, .int .i64 y3), (3, .int .i64 y4), (6, .slice A1 a0.length c2), (7, .int .i64 (a0.length : Int)), (8, .int .i64 (k5 : Int))] ∧ Rs = [EmpR] ∧ f_l06_Small_l1 (a0.drop k5) y3 y4 = some E6) (a0.length) [0] ⟨0, 0, 0, by simp, rfl, rfl, by rw [List.drop_zero]; exact hE7⟩ (by rfl) (by rfl) ?_
  rintro m9 _ _ ⟨y3, y4, k5, hk12, rfl, rfl, hl11⟩
  clear hE7 h
  cases m9 with
  | zero =>
    have h := hl11
    clear hl11
    rw [List.drop_of_length_le (by omega), f_l06_Small_l1] at h
    have hk12ge : ¬ ((k5 : Int) < (a0.length : Int)) := by omega
    refine T.seq (T.region rfl ?_)
    refine TL.run ft_cursitorlaw06_ok [0] rfl rfl ?_
    refine TL.nil (X.seq (T.seq ?_))
    refine T.no rfl (decide_eq_false hk12ge) ?_
    obtain rfl := Option.some.inj h
    replace h := hO8
    clear hO8
    try dsimp only at h
    refine T.exit (X.exs (X.exs (X.ex (X.seq (T.seq (T.region rfl ?_))))))
    refine TL.run ft_cursitorlaw06_ok [0] rfl rfl ?_
    obtain rfl := Option.some.inj h
    exact TL.nil (X.seq (T.ret (X.done1 [0] Try.results62 (RV.tm rfl) ⟨rfl, rfl, rfl⟩ (by rfl) (.inl rfl))))
  | succ m9 =>
    have h := hl11
    clear hl11
    obtain ⟨x10, hxx10⟩ : ∃ x, a0[k5]? = some x := ⟨_, List.getElem?_eq_getElem (by omega)⟩
    rw [drop_cons hxx10, f_l06_Small_l1] at h
    have hk12lt : (k5 : Int) < (a0.length : Int) := by omega
    refine T.seq (T.region rfl ?_)
    refine TL.run ft_cursitorlaw06_ok [0] rfl rfl ?_
    refine TL.nil (X.seq (T.seq ?_))
    refine T.yes rfl (decide_eq_true hk12lt) ?_
    obtain ⟨gz13, oz13, rfl, z13cs, z13cl, z13cc, z13nf, z13r⟩ := RX.elem (by decide) hX hxx10
    obtain ⟨z13S, z13r, z13rr⟩ := z13r
    obtain rfl : z13cs = [.string (bsOf x10.fKey), .bool x10.fValue.null, .string (bsOf x10.fValue.data)] := z13r
    refine T.skip (X.seq (T.seq (T.block (T.seq (T.region rfl ?_)))))
    refine TL.q rfl .u (Ex.ixS (k := k5) rfl rfl rfl Try.runUnderlying101 Try.sizeOf147 (List.getElem?_eq_some_iff.1 hxx10).1) rfl ?_
    refine TL.q rfl .u (Ex.oS (us := [.string (bsOf x10.fKey), .bool x10.fValue.null, .string (bsOf x10.fValue.data)]) 0 rfl Try.isAgg147 Try.sizeOf147 z13nf z13cc rfl rfl rfl) rfl ?_
    refine TL.alloc rfl .u Try.zeroValue147 rfl (fun b14 => ?_)
    refine TL.st0 (cs' := #[.string (bsOf x10.fKey), .bool x10.fValue.null, .string (bsOf x10.fValue.data)]) rfl .u rfl rfl Try.sizeOf147 rfl rfl rfl rfl ?_
    refine TL.nil (X.seq (T.seq (T.region rfl ?_)))
    refine TL.run ft_cursitorlaw06_ok [0, 1] rfl rfl ?_
    refine TL.q rfl .u (Ex.b1 0 rfl Try.isAgg9 rfl rfl) rfl ?_
    refine TL.q rfl .u (Ex.lenB rfl Try.runUnderlying9) rfl ?_
    refine TL.run ft_cursitorlaw06_ok [4, 5] rfl rfl ?_
    refine TL.q rfl .u (Ex.b1 0 rfl Try.isAgg9 rfl rfl) rfl ?_
    refine TL.q rfl .u (Ex.lenB rfl Try.runUnderlying9) rfl ?_
    replace h := guard_some h
    obtain ⟨c15, h⟩ := h
    refine TL.q rfl .u (Ex.add rfl rfl c15) rfl ?_
    replace h := guard_some h
    obtain ⟨c16, h⟩ := h
    refine TL.q rfl .u (Ex.add rfl rfl c16) rfl ?_
    replace h := guard_some h
    obtain ⟨c17, h⟩ := h
    refine TL.q rfl .u (Ex.add rfl rfl c17) rfl ?_
    refine TL.run ft_cursitorlaw06_ok [11] rfl rfl ?_
    refine TL.nil (X.seq (T.seq (T.region rfl ?_)))
    refine TL.run ft_cursitorlaw06_ok [0, 1] rfl rfl ?_
    by_cases c18 : (y4 + (((x10.fKey.length : Int) + (x10.fValue.data.length : Int)) + 1)) > 1000
    · replace h := ifT c18 h
      refine TL.nil (X.seq ?_)
      refine T.yes rfl (decide_eq_true c18) ?_
      refine T.seq (T.region rfl ?_)
      refine TL.run ft_cursitorlaw06_ok [0] rfl rfl ?_
      obtain rfl := Option.some.inj h
      replace h := hO8
      clear hO8
      try dsimp only at h
      obtain rfl := Option.some.inj h
      exact TL.nil (X.seq (T.ret (X.rb (X.rs (X.rs (X.rb (X.rs (X.done1 [1] Try.results62 (RV.tm rfl) ⟨rfl, rfl, rfl⟩ (by rfl) (.inl rfl)))))))))
    · replace h := ifF c18 h
      refine TL.nil (X.seq ?_)
      refine T.no rfl (decide_eq_false c18) ?_
      refine T.skip (X.blk (X.seq (T.region rfl ?_)))
      refine TL.q rfl .u (Ex.add rfl rfl (by omega)) rfl ?_
      refine TL.run ft_cursitorlaw06_ok [1] rfl rfl ?_
      exact TL.nil (X.back (m' := m9) [1] (by omega) ⟨y3, (y4 + (((x10.fKey.length : Int) + (x10.fValue.data.length : Int)) + 1)), k5 + 1, by omega, rfl, rfl, h⟩ (by rfl) (by rfl))
end Go.Proofs.Ytpiiopppbgpbpaa.Sl
namespace Go.Proofs.Ytpiiopppbgpbpaa.Sl
open Go.RowKit
set_option linter.unusedVariables false
set_option linter.unusedSimpArgs false
def hwt (h : Hd) : Nat := 20 + h.fKey.length + h.fValue.data.length
def hwts : List Hd → Nat
  | [] => 0
  | h :: l => hwt h + hwts l
theorem vput_small32 (n : Int) (h : -1 ≤ n) (h2 : n ≤ 2147483647) : (vput (vfold n)).length ≤ 10 := vput_ten _ (vfold_lt n (by omega) (by omega))
theorem blen_small (b : Bl) (h : b.data.length ≤ 2147483647) : -1 ≤ blen b ∧ blen b ≤ 2147483647 := by unfold blen; split <;> omega
theorem encHd_len (h : Hd) (hk : h.fKey.length ≤ 1000000) (hv : h.fValue.data.length ≤ 1000000) : (encHd h).length ≤ hwt h := by
  have h1 := vput_small32 (h.fKey.length : Int) (by omega) (by omega)
  have hb := blen_small h.fValue (by omega)
  have h2 := vput_small32 (blen h.fValue) hb.1 hb.2
  simp only [encHd, List.length_append, hwt]
  omega
theorem gPutName_z {t d : List UInt8} (hf : d.length ≤ 1000000) (ht : t.length ≤ 1000000000) : gPutName (t, 0) d = some (t ++ (vput (vfold (d.length : Int)) ++ d), 0) := by
  have := gPutVaried_z (t := t) (b := ⟨false, d⟩) rfl (by simp only; omega) (by simp only; omega)
  rw [gPutName_eq _ _ (by simp only; omega)]
  rw [gPutVaried_eq _ _ (by simp only; omega)] at this
  exact this
theorem hw_l1 : ∀ (l : List Hd) (t : List UInt8), (∀ h, h ∈ l → bright h.fValue = true) → t.length + hwts l ≤ 1000000 → f_header_Write_l1 l (t, 0) = some (t ++ encs encHd l, 0)
  | [], t, h, hl => by rw [f_header_Write_l1, encs, List.append_nil]
  | x :: l, t, h, hl => by
    have hx : t.length + (hwt x + hwts l) ≤ 1000000 := hl
    have h1 := encHd_len x (by unfold hwt at hx; omega) (by unfold hwt at hx; omega)
    have h2 : (vput (vfold (x.fKey.length : Int)) ++ x.fKey).length ≤ (encHd x).length := by simp only [encHd, List.length_append]; omega
    have e : t ++ (vput (vfold (x.fKey.length : Int)) ++ x.fKey) ++ (vput (vfold (blen x.fValue)) ++ x.fValue.data) = t ++ encHd x := by simp only [encHd, List.append_assoc]
    have h3 : (t ++ (vput (vfold (x.fKey.length : Int)) ++ x.fKey)).length = t.length + (vput (vfold (x.fKey.length : Int)) ++ x.fKey).length := List.length_append
    rw [f_header_Write_l1, gPutName_z (by unfold hwt at hx; omega) (by omega), Option.bind_some, gPutVaried_z (h x (.head _)) (by unfold hwt at hx; omega) (by rw [h3]; unfold hwt at hx h1; omega), Option.bind_some, e, hw_l1 l _ (fun y hy => h y (.tail _ hy)) (by rw [List.length_append]; omega), encs, List.append_assoc]
theorem hwts_len : ∀ l : List Hd, l.length * 20 ≤ hwts l
  | [] => by simp [hwts]
  | h :: l => by have := hwts_len l; simp only [hwts, hwt, List.length_cons]; omega
theorem hwrite_z (l : List Hd) (t : List UInt8) (h : ∀ x, x ∈ l → bright x.fValue = true) (ht : t.length + 10 + hwts l ≤ 1000000) : f_header_Write (t, 0) l = some (t ++ (vput (vfold (l.length : Int)) ++ encs encHd l), 0) := by
  have hn := hwts_len l
  have h1 := vput_small32 (l.length : Int) (by omega) (by omega)
  unfold f_header_Write
  rw [gPutInt_eq _ _ ⟨by omega, by simp only; omega⟩]
  unfold vputInt
  rw [if_pos (by omega), oput_z, Option.bind_some, hw_l1 l _ h (by rw [List.length_append]; omega), List.append_assoc]
  rfl
end Go.Proofs.Ytpiiopppbgpbpaa.Sl
namespace Go.Proofs.Ytpiiopppbgpbpaa.Sl
open Go.RowKit
set_option linter.unusedVariables false
set_option linter.unusedSimpArgs false
set_option maxRecDepth 100000
def ft_cursitortop : FTab := [(38, 1, 1), (38, 4, 4), (38, 11, 11), (64, 0, 0), (64, 1, 1)]
theorem ft_cursitortop_ok : (ft_cursitortop).OK Try.prog := ⟨FOK.mk Try.runUnderlying38 rfl Try.sizeOf3 rfl, FOK.mk Try.runUnderlying38 rfl Try.sizeOf3 rfl, FOK.mk Try.runUnderlying38 rfl Try.sizeOf3 rfl, FOK.mk Try.runUnderlying64 rfl Try.sizeOf3 rfl, FOK.mk Try.runUnderlying64 rfl Try.sizeOf3 rfl, trivial⟩
theorem sok_cursitortop_84_1 : SOK Try.prog 84 9 1 1 #[.string ⟨#[]⟩] := SOK.mk Try.runUnderlying84 Try.sizeOf9 Try.zeroValue9 (by decide) (by kernel_rfl)
def f_top_WholeSums_l1 (x28 : List UInt8) : Nat → Int → Nat → List Int → Option (Int × Nat × List Int)
  | 0, _, _, _ => none
  | m44 + 1, y38, k39, st40 => if (k39 : Int) < (x28.length : Int) then (if -9223372036854775808 ≤ ((k39 : Int) + 1) ∧ ((k39 : Int) + 1) ≤ 9223372036854775807 then (if 0 ≤ ((k39 : Int) + 1) ∧ k39 ≤ ((k39 : Int) + 1).toNat ∧ ((k39 : Int) + 1).toNat ≤ x28.length then ((f_crc_TableMore st40 y38 ((x28.drop k39).take ((((k39 : Int) + 1).toNat) - k39))).bind fun (x51, st52) => if -9223372036854775808 ≤ ((k39 : Int) + 1) ∧ ((k39 : Int) + 1) ≤ 9223372036854775807 then (f_top_WholeSums_l1 x28 m44 x51 (k39 + 1) st52) else none) else none) else none) else some (y38, k39, st40)
def f_top_WholeSums (a0 : List Hd) (a1 : Int) (a2 : Int) : Option (Bool) := (f_crc_New).bind fun st3 => (f_crc_TableSum st3 [[49, 50, 51, 52, 53, 54, 55, 56, 57]]).bind fun (x7, st8) => if x7 = 3808858755 then (((f_l06_Small a0).bind fun x18 => if x18 = 0 then some true else ((f_r06_Right a0).bind fun x21 => if x21 = true then some false else some true)).bind fun y16 => if y16 = true then some true else ((f_header_Write ([], 0) a0).bind fun st26 => (gOText st26).bind fun (x28, x29, st30) => (if x29 = 0 then (if x28 = [] then some true else some false) else some true).bind fun y33 => if y33 = true then none else ((f_top_WholeSums_l1 x28 (((x28.length : Int)).toNat + 1) 0 0 st8).bind fun (y90, k91, st92) => if -9223372036854775808 ≤ a1 ∧ a1 ≤ 9223372036854775807 then (if 1 ≤ ((bsI x28).length : Int) ∧ 0 ≤ a1 then (if 0 ≤ (a1 % ((bsI x28).length : Int)) then (((bsI x28)[(a1 % ((bsI x28).length : Int)).toNat]?).bind fun x98 => if 0 ≤ (a1 % ((bsI x28).length : Int)) then (((f_crc_TableSum st92 [x28]).bind fun (x117, st118) => if y90 = x117 then ((f_crc_TableSum st118 [(toBs ((bsI x28).set ((a1 % ((bsI x28).length : Int)).toNat) (Go.bits .xor .u8 x98 a2)))]).bind fun (x122, st123) => if x122 = y90 then (if a2 = 0 then some (true, st123) else some (false, st123)) else (if a2 = 0 then some (false, st123) else some (true, st123))) else some (false, st118)).bind fun (y113, st114) => some y113) else none) else none) else none) else none))) else none
set_option maxRecDepth 100000 in
set_option maxHeartbeats 4000000 in
theorem f_top_WholeSums_spec (a0 : List Hd) (A1 : Option Addr) (c2 : Nat) (a1 : Int) (a2 : Int) (r : Bool) (h : f_top_WholeSums a0 a1 a2 = some r) : SpecX Try.prog 12 #[.slice A1 a0.length c2, .int .u16 a1, .int .u8 a2] (RX.of (sliceRd 3 Hd_rd) [.slice A1 a0.length c2] a0) (EmpR) (fun v A' N => v = .bool r ∧ A' = EmpR ∧ N = []) := by
  refine enterA Try.func12 rfl Try.ntmps12 rfl ?_
  intro F w hX
  unfold f_top_WholeSums at h
  refine T.seq (T.region rfl ?_)
  refine TL.run ft_cursitortop_ok [0] rfl rfl ?_
  obtain ⟨st3, hx4, h⟩ := Option.bind_eq_some_iff.1 h
  refine TL.nil (X.seq (T.seq (T.region rfl ?_)))
  refine TL.cge rfl .u (.fn Try.call53 rfl) (f_crc_New_spec _ hx4) (fun _ hs => (RX.reads_triv _ _)) rfl ?_
  rintro _ _ _ ⟨b5, rfl, rfl, rfl⟩
  refine TL.sel [0, 0] rfl ?_
  refine TL.run ft_cursitortop_ok [1] rfl rfl ?_
  refine TL.nil (X.seq (T.seq (T.seq (T.region rfl ?_))))
  refine TL.run ft_cursitortop_ok [0] rfl rfl ?_
  refine TL.q rfl .u (Ex.pNe (.inl ⟨rfl, rfl⟩) rfl rfl Try.runUnderlying85) rfl ?_
  refine TL.run ft_cursitortop_ok [2] rfl rfl ?_
  refine TL.q rfl (.g rfl rfl rfl) (Ex.ft ft_cursitortop_ok rfl) rfl ?_
  refine TL.lit (cells := #[.string ⟨#[49, 50, 51, 52, 53, 54, 55, 56, 57]⟩]) rfl (.g rfl rfl rfl) sok_cursitortop_84_1 rfl (by rfl) rfl (fun b6 => ?_)
  refine TL.rowOf (us := [.string ⟨#[49, 50, 51, 52, 53, 54, 55, 56, 57]⟩]) (xs := [[49, 50, 51, 52, 53, 54, 55, 56, 57]]) (E := strE) (z := 1) rfl (Nat.le_of_ble_eq_true rfl) (fun _ => ⟨rfl, rfl, rfl⟩) ?_
  obtain ⟨⟨x7, st8⟩, hx9, h⟩ := Option.bind_eq_some_iff.1 h
  try dsimp only at h
  refine TL.c1 rfl (.g rfl rfl rfl) (.fn Try.call56 rfl) (f_crc_TableSum_spec b5 st3 [[49, 50, 51, 52, 53, 54, 55, 56, 57]] _ _ _ hx9) (fun _ hs => (Src.res 0 rfl (fun w G h => own_reads (by decide) w G h))) rfl ?_
  refine TL.q rfl (.g rfl rfl rfl) (Ex.ft ft_cursitortop_ok rfl) rfl ?_
  refine TL.q rfl .u (Ex.pn rfl rfl rfl) rfl ?_
  by_cases c10 : x7 = 3808858755
  · replace h := ifT c10 h
    refine TL.nil (X.seq ?_)
    refine T.no rfl (bn_f (decide_eq_true c10)) ?_
    refine T.skip (X.seq (T.seq (T.seq ?_)))
    obtain ⟨y16, h, hk17⟩ := Option.bind_eq_some_iff.1 h
    refine T.jq (fun e Rs => e = [(0, .slice A1 a0.length c2), (1, .int .u16 a1), (2, .int .u8 a2), (6, .bool false), (7, .pointer (some ⟨b5, 0, none⟩)), (30, .bool y16)] ∧ Rs = [OwnR 9 1 strE (.slice (some ⟨b6, 0, none⟩) 1 1) [[49, 50, 51, 52, 53, 54, 55, 56, 57]], TabR 144 b5 st8, EmpR]) ?_ ?_
    · clear hk17
      refine T.region rfl ?_
      obtain ⟨x18, hx19, h⟩ := Option.bind_eq_some_iff.1 h
      refine TL.run ft_cursitortop_ok [0] rfl rfl ?_
      refine TL.ce rfl .u (.fn Try.call62 rfl) (f_l06_Small_spec a0 _ _ _ hx19) (fun _ hs => (SrcE.old hs hX)) rfl ?_
      by_cases c20 : x18 = 0
      · replace h := ifT c20 h
        refine TL.run ft_cursitortop_ok [2, 3] rfl rfl ?_
        refine TL.no rfl (.gn rfl rfl (decide_eq_true c20)) rfl ?_
        refine TL.no rfl (.gn rfl rfl (decide_eq_true c20)) rfl ?_
        refine TL.no rfl (.gn rfl rfl (decide_eq_true c20)) rfl ?_
        refine TL.q rfl .u (Ex.py rfl (decide_eq_true c20) rfl) rfl ?_
        cases h
        exact TL.nil (X.jq [0, 0, 0] ⟨rfl, rfl⟩ (by rfl) (by rfl))
      · replace h := ifF c20 h
        refine TL.run ft_cursitortop_ok [2, 3] rfl rfl ?_
        refine TL.q rfl (.g rfl rfl (decide_eq_false c20)) (Ex.ft ft_cursitortop_ok rfl) rfl ?_
        obtain ⟨x21, hx22, h⟩ := Option.bind_eq_some_iff.1 h
        refine TL.ce rfl (.g rfl rfl (decide_eq_false c20)) (.fn Try.call63 rfl) (f_r06_Right_spec a0 _ _ _ hx22) (fun _ hs => (SrcE.old hs hX)) rfl ?_
        refine TL.q rfl (.g rfl rfl (decide_eq_false c20)) (Ex.ft ft_cursitortop_ok rfl) rfl ?_
        refine TL.q rfl .u (Ex.pn rfl (decide_eq_false c20) rfl) rfl ?_
        by_cases c23 : x21 = true
        · replace h := ifT c23 h
          cases h
          exact TL.nil (X.as (d := 30) (v' := .bool false) rfl (congrArg Value.bool (bn_f c23)) (X.jq [0, 0, 0] ⟨rfl, rfl⟩ (by rfl) (by rfl)))
        · replace h := ifF c23 h
          replace c23 := eq_false_of_ne_true c23
          cases h
          exact TL.nil (X.as (d := 30) (v' := .bool true) rfl (congrArg Value.bool (bn_t c23)) (X.jq [0, 0, 0] ⟨rfl, rfl⟩ (by rfl) (by rfl)))
    · rintro _ _ ⟨rfl, rfl⟩
      clear h
      have h := hk17
      clear hk17
      try dsimp only at h
      by_cases c24 : y16 = true
      · replace h := ifT c24 h
        refine X.seq ?_
        refine T.yes rfl c24 ?_
        refine T.seq (T.region rfl ?_)
        refine TL.run ft_cursitortop_ok [0] rfl rfl ?_
        obtain rfl := Option.some.inj h
        exact TL.nil (X.seq (T.ret (X.rs (X.done1 [2] Try.results12 (RV.tm rfl) ⟨rfl, rfl, rfl⟩ (by rfl) (.inl rfl)))))
      · replace h := ifF c24 h
        replace c24 := eq_false_of_ne_true c24
        refine X.seq ?_
        refine T.no rfl c24 ?_
        refine T.skip (X.seq (T.seq (T.region rfl ?_)))
        refine TL.newout rfl .u Try.zeroValue42 rfl (fun b25 => ?_)
        refine TL.nil (X.seq (T.seq (T.region rfl ?_)))
        obtain ⟨st26, hx27, h⟩ := Option.bind_eq_some_iff.1 h
        refine TL.run ft_cursitortop_ok [0] rfl rfl ?_
        refine TL.c0 rfl .u (.fn Try.call64 rfl) (f_header_Write_spec b25 ([], 0) a0 _ _ _ hx27) (fun _ hs => (Src.old hs hX)) rfl ?_
        obtain ⟨⟨x28, x29, st30⟩, hx31, h⟩ := Option.bind_eq_some_iff.1 h
        try dsimp only at h
        refine TL.nil (X.seq (T.seq (T.region rfl ?_)))
        refine TL.c0 rfl .u (.fn Try.call24 rfl) (gOText_spec b25 st26 _ hx31) (fun _ hs => (Src.triv _)) rfl ?_
        refine TL.run ft_cursitortop_ok [1, 2, 3, 4, 5] rfl rfl ?_
        refine TL.nil (X.seq (T.seq (T.seq ?_)))
        obtain ⟨y33, h, hk34⟩ := Option.bind_eq_some_iff.1 h
        refine T.jq (fun e Rs => e = [(1, .int .u16 a1), (2, .int .u8 a2), (6, .bool false), (7, .pointer (some ⟨b5, 0, none⟩)), (9, .string (bsOf x28)), (42, .bool y33)] ∧ Rs = [OutR b25 st30, OwnR 9 1 strE (.slice (some ⟨b6, 0, none⟩) 1 1) [[49, 50, 51, 52, 53, 54, 55, 56, 57]], TabR 144 b5 st8, EmpR]) ?_ ?_
        · clear hk34
          refine T.region rfl ?_
          by_cases c35 : x29 = 0
          · replace h := ifT c35 h
            refine TL.run ft_cursitortop_ok [0, 1, 2] rfl rfl ?_
            refine TL.q rfl (.g rfl rfl (bn_f (decide_eq_true c35))) (Ex.ft ft_cursitortop_ok rfl) rfl ?_
            refine TL.q rfl (.g rfl rfl (bn_f (decide_eq_true c35))) (Ex.sEq rfl (m := []) rfl) rfl ?_
            refine TL.q rfl .u (Ex.pn rfl (bn_f (decide_eq_true c35)) rfl) rfl ?_
            by_cases c36 : x28 = []
            · replace h := ifT c36 h
              cases h
              exact TL.nil (X.as (d := 42) (v' := .bool true) rfl (congrArg Value.bool (decide_eq_true c36)) (X.jq [0, 0, 0, 0] ⟨rfl, rfl⟩ (by rfl) (by rfl)))
            · replace h := ifF c36 h
              cases h
              exact TL.nil (X.as (d := 42) (v' := .bool false) rfl (congrArg Value.bool (decide_eq_false c36)) (X.jq [0, 0, 0, 0] ⟨rfl, rfl⟩ (by rfl) (by rfl)))
          · replace h := ifF c35 h
            refine TL.run ft_cursitortop_ok [0, 1, 2] rfl rfl ?_
            refine TL.no rfl (.gn rfl rfl (bn_t (decide_eq_false c35))) rfl ?_
            refine TL.no rfl (.gn rfl rfl (bn_t (decide_eq_false c35))) rfl ?_
            refine TL.q rfl .u (Ex.py rfl (bn_t (decide_eq_false c35)) rfl) rfl ?_
            cases h
            exact TL.nil (X.jq [0, 0, 0, 0] ⟨rfl, rfl⟩ (by rfl) (by rfl))
        · rintro _ _ ⟨rfl, rfl⟩
          clear h
          have h := hk34
          clear hk34
          try dsimp only at h
          by_cases c37 : y33 = true
          · replace h := ifT c37 h
            refine X.seq ?_
            refine T.yes rfl c37 ?_
            exact nomatch h
          · replace h := ifF c37 h
            replace c37 := eq_false_of_ne_true c37
            refine X.seq ?_
            refine T.no rfl c37 ?_
            refine T.skip (X.seq (T.seq (T.region rfl ?_)))
            refine TL.run ft_cursitortop_ok [0] rfl rfl ?_
            refine TL.nil (X.seq (T.seq (T.seq (T.region rfl ?_))))
            refine TL.run ft_cursitortop_ok [0] rfl rfl ?_
            refine TL.q rfl .u (Ex.lenB rfl Try.runUnderlying9) rfl ?_
            refine TL.run ft_cursitortop_ok [2] rfl rfl ?_
            refine TL.nil (X.seq (T.block ?_))
            obtain ⟨E41, hE42, hO43⟩ := Option.bind_eq_some_iff.1 h
            refine T.lp (fun m e Rs => ∃ (y38 : Int) (k39 : Nat) (st40 : List Int), e = [(1, .int .u16 a1), (2, .int .u8 a2), (6, .bool false), (7, .pointer (some ⟨b5, 0, none⟩)), (9, .string (bsOf x28)), (11, .int .u32 y38), (44, .int .i64 (x28.length : Int)), (45, .int .i64 (k39 : Int))] ∧ Rs = [OutR b25 st30, OwnR 9 1 strE (.slice (some ⟨b6, 0, none⟩) 1 1) [[49, 50, 51, 52, 53, 54, 55, 56, 57]], TabR 144 b5 st40, EmpR] ∧ f_top_WholeSums_l1 x28 m y38 k39 st40 = some E41) (((x28.length : Int)).toNat + 1) [0, 0, 0, 0] ⟨0, 0, st8, rfl, rfl, by exact hE42⟩ (by rfl) (by rfl) ?_
            rintro m44 _ _ ⟨y38, k39, st40, rfl, rfl, hl46⟩
            clear hE42 h
            cases m44 with
            | zero =>
              rw [f_top_WholeSums_l1] at hl46
              cases hl46
            | succ m44 =>
              have h := hl46
              clear hl46
              rw [f_top_WholeSums_l1] at h
              refine T.seq (T.region rfl ?_)
              refine TL.run ft_cursitortop_ok [0] rfl rfl ?_
              by_cases c48 : (k39 : Int) < (x28.length : Int)
              · replace h := ifT c48 h
                refine TL.nil (X.seq (T.seq ?_))
                refine T.yes rfl (decide_eq_true c48) ?_
                refine T.skip (X.seq (T.seq (T.block (T.seq (T.region rfl ?_)))))
                refine TL.run ft_cursitortop_ok [0, 1] rfl rfl ?_
                refine TL.nil (X.seq (T.region rfl ?_))
                replace h := guard_some h
                obtain ⟨c49, h⟩ := h
                refine TL.run ft_cursitortop_ok [0, 1, 2, 3, 4] rfl rfl ?_
                refine TL.q rfl .u (Ex.add rfl rfl c49) rfl ?_
                replace h := guard_some h
                obtain ⟨c50, h⟩ := h
                replace c50 : 0 ≤ ((k39 : Int) + 1) ∧ k39 ≤ ((k39 : Int) + 1).toNat ∧ ((k39 : Int) + 1).toNat ≤ x28.length := c50
                refine TL.q rfl .u (Ex.sSl (p := k39) (q := ((k39 : Int) + 1).toNat) (m := ((x28.drop k39).take ((((k39 : Int) + 1).toNat) - k39))) rfl Try.runUnderlying9 (.some rfl rfl) (.some rfl ((Int.toNat_of_nonneg c50.1).symm)) (by first | omega | (dsimp only; omega)) rfl) rfl ?_
                obtain ⟨⟨x51, st52⟩, hx53, h⟩ := Option.bind_eq_some_iff.1 h
                try dsimp only at h
                refine TL.c2 rfl .u (.fn Try.call54 rfl) (f_crc_TableMore_spec b5 st40 y38 ((x28.drop k39).take ((((k39 : Int) + 1).toNat) - k39)) _ hx53) (fun _ hs => (Src.triv _)) rfl ?_
                refine TL.run ft_cursitortop_ok [8] rfl rfl ?_
                replace h := guard_some h
                obtain ⟨c54, h⟩ := h
                refine TL.nil (X.blk (X.seq (T.region rfl ?_)))
                refine TL.q rfl .u (Ex.add rfl rfl c54) rfl ?_
                refine TL.run ft_cursitortop_ok [1] rfl rfl ?_
                exact TL.nil (X.back (m' := m44) [0, 0, 0, 0] (by omega) ⟨x51, k39 + 1, st52, rfl, rfl, h⟩ (by rfl) (by rfl))
              · replace h := ifF c48 h
                refine TL.nil (X.seq (T.seq ?_))
                refine T.no rfl (decide_eq_false c48) ?_
                obtain rfl := Option.some.inj h
                replace h := hO43
                clear hO43
                try dsimp only at h
                refine T.exit (X.exs (X.exs (X.ex (X.seq (T.seq (T.region rfl ?_))))))
                refine TL.run ft_cursitortop_ok [0] rfl rfl ?_
                refine TL.toBs rfl .u rfl Try.underlying9 Try.underlying39 Try.underlying5 rfl (fun b55 c56 => ?_)
                refine TL.run ft_cursitortop_ok [2] rfl rfl ?_
                refine TL.nil (X.seq (T.seq (T.region rfl ?_)))
                replace h := guard_some h
                obtain ⟨c57, h⟩ := h
                refine TL.run ft_cursitortop_ok [0, 1] rfl rfl ?_
                refine TL.q rfl .u (Ex.conv64 rfl Try.runUnderlying79 Try.runUnderlying3 c57) rfl ?_
                refine TL.run ft_cursitortop_ok [3] rfl rfl ?_
                refine TL.q rfl .u (Ex.lenS rfl Try.runUnderlying39) rfl ?_
                replace h := guard_some h
                obtain ⟨c58, h⟩ := h
                refine TL.q rfl .u (Ex.remK rfl rfl c58.1 c58.2) rfl ?_
                replace h := guard_some h
                obtain ⟨c59, h⟩ := h
                obtain ⟨x60, hx61, h⟩ := Option.bind_eq_some_iff.1 h
                refine TL.q rfl .u (Ex.bsIx (xs := (bsI x28)) (k := (a1 % ((bsI x28).length : Int)).toNat) rfl rfl ((Int.toNat_of_nonneg c59).symm) Try.runUnderlying39 Try.sizeOf5 hx61 rfl) rfl ?_
                refine TL.q rfl .u (Ex.bsLd (k := (a1 % ((bsI x28).length : Int)).toNat) 0 rfl Try.isAgg5 rfl hx61) rfl ?_
                refine TL.run ft_cursitortop_ok [8] rfl rfl ?_
                refine TL.q rfl .u (Ex.bitw rfl rfl rfl) rfl ?_
                replace h := guard_some h
                obtain ⟨c62, h⟩ := h
                refine TL.q rfl .u (Ex.bsIx (xs := (bsI x28)) (k := (a1 % ((bsI x28).length : Int)).toNat) rfl rfl ((Int.toNat_of_nonneg c62).symm) Try.runUnderlying39 Try.sizeOf5 hx61 rfl) rfl ?_
                refine TL.bsSt (k := (a1 % ((bsI x28).length : Int)).toNat) 0 rfl .u rfl rfl Try.sizeOf5 rfl hx61 ?_
                refine TL.sel [0, 0, 0, 0, 0] rfl ?_
                refine TL.as (d := 13) (v' := .slice (some ⟨b55, 0, none⟩) ((bsI x28).set ((a1 % ((bsI x28).length : Int)).toNat) (Go.bits .xor .u8 x60 a2)).length c56) rfl (congrArg (fun m => Value.slice (some ⟨b55, 0, none⟩) m c56) (List.length_set ..).symm) ?_
                refine TL.as (d := 58) (v' := .slice (some ⟨b55, 0, none⟩) ((bsI x28).set ((a1 % ((bsI x28).length : Int)).toNat) (Go.bits .xor .u8 x60 a2)).length c56) rfl (congrArg (fun m => Value.slice (some ⟨b55, 0, none⟩) m c56) (List.length_set ..).symm) ?_
                refine TL.as (d := 59) (v' := .slice (some ⟨b55, 0, none⟩) ((bsI x28).set ((a1 % ((bsI x28).length : Int)).toNat) (Go.bits .xor .u8 x60 a2)).length c56) rfl (congrArg (fun m => Value.slice (some ⟨b55, 0, none⟩) m c56) (List.length_set ..).symm) ?_
                refine TL.as (d := 62) (v' := .slice (some ⟨b55, 0, none⟩) ((bsI x28).set ((a1 % ((bsI x28).length : Int)).toNat) (Go.bits .xor .u8 x60 a2)).length c56) rfl (congrArg (fun m => Value.slice (some ⟨b55, 0, none⟩) m c56) (List.length_set ..).symm) ?_
                refine TL.nil (X.seq (T.seq ?_))
                obtain ⟨⟨y75, st76⟩, h, hk77⟩ := Option.bind_eq_some_iff.1 h
                refine T.jq (fun e Rs => e = [(6, .bool y75)] ∧ Rs = [BsR 5 b55 c56 ((bsI x28).set ((a1 % ((bsI x28).length : Int)).toNat) (Go.bits .xor .u8 x60 a2)), OutR b25 st30, OwnR 9 1 strE (.slice (some ⟨b6, 0, none⟩) 1 1) [[49, 50, 51, 52, 53, 54, 55, 56, 57]], TabR 144 b5 st76, EmpR]) ?_ ?_
                · clear hk77
                  refine T.region rfl ?_
                  refine TL.run ft_cursitortop_ok [0, 1, 2] rfl rfl ?_
                  refine TL.lit (cells := #[.string (bsOf x28)]) rfl .u sok_cursitortop_84_1 rfl (by rfl) rfl (fun b78 => ?_)
                  refine TL.rowOf (us := [.string (bsOf x28)]) (xs := [x28]) (E := strE) (z := 1) rfl (Nat.le_of_ble_eq_true rfl) (fun _ => ⟨rfl, rfl, rfl⟩) ?_
                  obtain ⟨⟨x79, st80⟩, hx81, h⟩ := Option.bind_eq_some_iff.1 h
                  try dsimp only at h
                  refine TL.c4 rfl .u (.fn Try.call56 rfl) (f_crc_TableSum_spec b5 st40 [x28] _ _ _ hx81) (fun _ hs => (Src.res 0 rfl (fun w G h => own_reads (by decide) w G h))) rfl ?_
                  by_cases c82 : y38 = x79
                  · replace h := ifT c82 h
                    refine TL.run ft_cursitortop_ok [5, 6] rfl rfl ?_
                    refine TL.q rfl (.g rfl rfl (decide_eq_true c82)) (Ex.ft ft_cursitortop_ok rfl) rfl ?_
                    refine TL.q rfl (.g rfl rfl (decide_eq_true c82)) (Ex.ft ft_cursitortop_ok rfl) rfl ?_
                    refine TL.q rfl (.g rfl rfl (decide_eq_true c82)) (Ex.bsStr 1 rfl rfl Try.runUnderlying39 Try.runUnderlying9 Try.runUnderlying5 rfl) rfl ?_
                    refine TL.lit (cells := #[.string (bsOf (toBs ((bsI x28).set ((a1 % ((bsI x28).length : Int)).toNat) (Go.bits .xor .u8 x60 a2))))]) rfl (.g rfl rfl (decide_eq_true c82)) sok_cursitortop_84_1 rfl (by rfl) rfl (fun b83 => ?_)
                    refine TL.rowOf (us := [.string (bsOf (toBs ((bsI x28).set ((a1 % ((bsI x28).length : Int)).toNat) (Go.bits .xor .u8 x60 a2))))]) (xs := [(toBs ((bsI x28).set ((a1 % ((bsI x28).length : Int)).toNat) (Go.bits .xor .u8 x60 a2)))]) (E := strE) (z := 1) rfl (Nat.le_of_ble_eq_true rfl) (fun _ => ⟨rfl, rfl, rfl⟩) ?_
                    obtain ⟨⟨x84, st85⟩, hx86, h⟩ := Option.bind_eq_some_iff.1 h
                    try dsimp only at h
                    refine TL.c5 rfl (.g rfl rfl (decide_eq_true c82)) (.fn Try.call56 rfl) (f_crc_TableSum_spec b5 st80 [(toBs ((bsI x28).set ((a1 % ((bsI x28).length : Int)).toNat) (Go.bits .xor .u8 x60 a2)))] _ _ _ hx86) (fun _ hs => (Src.res 0 rfl (fun w G h => own_reads (by decide) w G h))) rfl ?_
                    refine TL.q rfl (.g rfl rfl (decide_eq_true c82)) (Ex.ft ft_cursitortop_ok rfl) rfl ?_
                    refine TL.q rfl (.g rfl rfl (decide_eq_true c82)) (Ex.ft ft_cursitortop_ok rfl) rfl ?_
                    refine TL.q rfl (.g rfl rfl (decide_eq_true c82)) (Ex.ft ft_cursitortop_ok rfl) rfl ?_
                    refine TL.q rfl (.g rfl rfl (decide_eq_true c82)) (Ex.ft ft_cursitortop_ok rfl) rfl ?_
                    by_cases c87 : x84 = y38
                    · replace h := ifT c87 h
                      by_cases c88 : a2 = 0
                      · replace h := ifT c88 h
                        refine TL.q rfl (.g rfl rfl (decide_eq_true c82)) (Ex.bEq rfl (decide_eq_true c87) rfl (decide_eq_true c88) Try.runUnderlying4) rfl ?_
                        refine TL.q rfl .u (Ex.py rfl (decide_eq_true c82) rfl) rfl ?_
                        refine TL.run ft_cursitortop_ok [18] rfl rfl ?_
                        cases h
                        exact TL.nil (X.jq [2, 2, 2, 2, 2] ⟨rfl, rfl⟩ (by rfl) (by rfl))
                      · replace h := ifF c88 h
                        refine TL.q rfl (.g rfl rfl (decide_eq_true c82)) (Ex.bEq rfl (decide_eq_true c87) rfl (decide_eq_false c88) Try.runUnderlying4) rfl ?_
                        refine TL.q rfl .u (Ex.py rfl (decide_eq_true c82) rfl) rfl ?_
                        refine TL.run ft_cursitortop_ok [18] rfl rfl ?_
                        cases h
                        exact TL.nil (X.jq [2, 2, 2, 2, 2] ⟨rfl, rfl⟩ (by rfl) (by rfl))
                    · replace h := ifF c87 h
                      by_cases c89 : a2 = 0
                      · replace h := ifT c89 h
                        refine TL.q rfl (.g rfl rfl (decide_eq_true c82)) (Ex.bEq rfl (decide_eq_false c87) rfl (decide_eq_true c89) Try.runUnderlying4) rfl ?_
                        refine TL.q rfl .u (Ex.py rfl (decide_eq_true c82) rfl) rfl ?_
                        refine TL.run ft_cursitortop_ok [18] rfl rfl ?_
                        cases h
                        exact TL.nil (X.jq [2, 2, 2, 2, 2] ⟨rfl, rfl⟩ (by rfl) (by rfl))
                      · replace h := ifF c89 h
                        refine TL.q rfl (.g rfl rfl (decide_eq_true c82)) (Ex.bEq rfl (decide_eq_false c87) rfl (decide_eq_false c89) Try.runUnderlying4) rfl ?_
                        refine TL.q rfl .u (Ex.py rfl (decide_eq_true c82) rfl) rfl ?_
                        refine TL.run ft_cursitortop_ok [18] rfl rfl ?_
                        cases h
                        exact TL.nil (X.jq [2, 2, 2, 2, 2] ⟨rfl, rfl⟩ (by rfl) (by rfl))
                  · replace h := ifF c82 h
                    refine TL.run ft_cursitortop_ok [5, 6] rfl rfl ?_
                    refine TL.no rfl (.gn rfl rfl (decide_eq_false c82)) rfl ?_
                    refine TL.no rfl (.gn rfl rfl (decide_eq_false c82)) rfl ?_
                    refine TL.no rfl (.gn rfl rfl (decide_eq_false c82)) rfl ?_
                    refine TL.no rfl (.gn rfl rfl (decide_eq_false c82)) rfl ?_
                    refine TL.no rfl (.gn rfl rfl (decide_eq_false c82)) rfl ?_
                    refine TL.no rfl (.gn rfl rfl (decide_eq_false c82)) rfl ?_
                    refine TL.no rfl (.gn rfl rfl (decide_eq_false c82)) rfl ?_
                    refine TL.no rfl (.gn rfl rfl (decide_eq_false c82)) rfl ?_
                    refine TL.no rfl (.gn rfl rfl (decide_eq_false c82)) rfl ?_
                    refine TL.no rfl (.gn rfl rfl (decide_eq_false c82)) rfl ?_
                    refine TL.q rfl .u (Ex.pn rfl (decide_eq_false c82) rfl) rfl ?_
                    refine TL.run ft_cursitortop_ok [18] rfl rfl ?_
                    cases h
                    exact TL.nil (X.jq [1, 1, 1, 1, 1] ⟨rfl, rfl⟩ (by rfl) (by rfl))
                · rintro _ _ ⟨rfl, rfl⟩
                  clear h
                  have h := hk77
                  clear hk77
                  try dsimp only at h
                  obtain rfl := Option.some.inj h
                  exact X.seq (T.ret (X.done1 [4] Try.results12 (RV.tm rfl) ⟨rfl, rfl, rfl⟩ (by rfl) (.inl rfl)))
  · replace h := ifF c10 h
    refine TL.nil (X.seq ?_)
    refine T.yes rfl (bn_t (decide_eq_false c10)) ?_
    exact nomatch h
end Go.Proofs.Ytpiiopppbgpbpaa.Sl
namespace Go.Proofs.Ytpiiopppbgpbpaa.Sl
open Go.RowKit
set_option linter.unusedVariables false
set_option linter.unusedSimpArgs false
theorem ws_small (y : Int) : ∀ (l : List Hd) (acc : Int), (∀ h, h ∈ l → wf_Hd h) → 0 ≤ acc → acc ≤ 1000 → f_l06_Small_l1 l y acc = some (.ret 0) ∨ ∃ z, f_l06_Small_l1 l y acc = some (.go z) ∧ hwts l ≤ 20 * (1000 - acc).toNat
  | [], acc, hw, h0, h1 => .inr ⟨_, rfl, by simp [hwts]⟩
  | h :: l, acc, hw, h0, h1 => by
    have hh := hw h (.head _)
    have k1 : h.fKey.length ≤ 140737488351232 := hh.1
    have k2 : h.fValue.data.length ≤ 140737488351232 := hh.2.2
    rw [f_l06_Small_l1, if_pos (by omega), if_pos (by omega), if_pos (by omega)]
    by_cases hc : (acc + (((h.fKey.length : Int) + (h.fValue.data.length : Int)) + 1)) > 1000
    · rw [if_pos hc]
      exact .inl rfl
    · rw [if_neg hc]
      rcases ws_small y l _ (fun x hx => hw x (.tail _ hx)) (by omega) (show acc + (((h.fKey.length : Int) + (h.fValue.data.length : Int)) + 1) ≤ 1000 by omega) with g | ⟨z, g, g2⟩
      · exact .inl g
      · exact .inr ⟨z, g, by simp only [hwts, hwt]; omega⟩
theorem ws_len : ∀ l : List Hd, hwts l ≤ 1000000 → (encs encHd l).length ≤ hwts l
  | [], _ => by simp [encs]
  | x :: l, h => by
    have hx : hwt x + hwts l ≤ 1000000 := h
    have h1 := encHd_len x (by unfold hwt at hx; omega) (by unfold hwt at hx; omega)
    have h2 := ws_len l (by omega)
    rw [encs, List.length_append]
    show _ ≤ hwt x + hwts l
    omega
theorem ws_right (a0 : List Hd) (hb : a0.length ≤ 1000000) (y : Bool) : ∀ (l : List Hd) (k fuel : Nat), a0.drop k = l → l.length < fuel → f_r06_Right_l1 a0 fuel y k = some (.ret false) ∨ ((∀ h, h ∈ l → bright h.fValue = true) ∧ ∃ z, f_r06_Right_l1 a0 fuel y k = some (.go (y, z)))
  | [], k, fuel + 1, h, hf => by
    have : a0.length ≤ k := List.drop_eq_nil_iff.1 h
    exact .inr ⟨(fun h hh => nomatch hh), k, by rw [f_r06_Right_l1, if_neg (by omega)]⟩
  | x :: l, k, fuel + 1, h, hf => by
    have hlen := congrArg List.length h
    rw [List.length_drop, List.length_cons] at hlen
    have h1 : a0[k]? = some x := by have := congrArg (fun z => z[0]?) h; simpa using this
    have h2 : a0.drop (k + 1) = l := by rw [← List.drop_drop, h]; rfl
    rw [List.length_cons] at hf
    have ih := ws_right a0 hb y l (k + 1) fuel h2 (by omega)
    rw [f_r06_Right_l1, if_pos (by omega), h1, Option.bind_some]
    by_cases hn : x.fValue.null = true
    · rw [if_pos hn]
      by_cases hd : x.fValue.data = []
      · rw [if_pos hd, if_pos (by omega)]
        refine ih.imp id (fun ⟨i1, i2⟩ => ⟨fun h hh => ?_, i2⟩)
        rcases List.mem_cons.1 hh with rfl | hh
        · unfold bright; rw [hd]; simp
        · exact i1 h hh
      · rw [if_neg hd]; exact .inl rfl
    · rw [if_neg hn, if_pos (by omega)]
      refine ih.imp id (fun ⟨i1, i2⟩ => ⟨fun h hh => ?_, i2⟩)
      rcases List.mem_cons.1 hh with rfl | hh
      · unfold bright; simp [hn]
      · exact i1 h hh
theorem ws_l1 (s : List UInt8) (hs : s.length ≤ 1000000) : ∀ (m k : Nat), k ≤ s.length → s.length - k < m → f_top_WholeSums_l1 s m ((crcM 0 (s.take k) : Nat) : Int) k crcTab = some (((crcM 0 s : Nat) : Int), s.length, crcTab)
  | 0, _, _, h => by omega
  | m + 1, k, hk, hm => by
    rw [f_top_WholeSums_l1]
    by_cases h : k < s.length
    · have e1 : s.take (k + 1) = s.take k ++ (s.drop k).take 1 := List.take_add
      rw [if_pos (by omega), if_pos (by omega), if_pos (by omega), show ((k : Int) + 1).toNat - k = 1 by omega, crc_more _ (crcM_lt (by decide) _) _ (by rw [List.length_take]; omega), Option.bind_some]
      dsimp only
      rw [if_pos (by omega), ← crcM_append, ← e1]
      exact ws_l1 s hs m (k + 1) (by omega) (by omega)
    · have : k = s.length := by omega
      subst this
      rw [if_neg (by omega), List.take_length]
theorem pure_WholeSums (a0 : List Hd) (a1 : Int) (a2 : Int) (w0 : (wL wf_Hd) a0) (w1 : 0 ≤ a1 ∧ a1 ≤ 65535) (w2 : 0 ≤ a2 ∧ a2 ≤ 255) : f_top_WholeSums a0 a1 a2 = some true := by
  obtain ⟨M, rfl⟩ : ∃ M : Nat, a2 = (M : Int) := ⟨a2.toNat, by omega⟩
  unfold f_top_WholeSums
  rw [crc_new, Option.bind_some, crc_sum [[49, 50, 51, 52, 53, 54, 55, 56, 57]] (by intro s hs; rw [List.mem_singleton.1 hs]; decide), Option.bind_some]
  dsimp only
  rw [show crcM 0 [[49, 50, 51, 52, 53, 54, 55, 56, 57]].flatten = 3808858755 by decide +kernel, if_pos (by rfl)]
  rcases ws_small 0 a0 0 w0.2 (by decide) (by decide) with h | ⟨z, h, hz⟩
  · have e : f_l06_Small a0 = some 0 := by unfold f_l06_Small; rw [h]; rfl
    rw [e, Option.bind_some, if_pos rfl, Option.bind_some, if_pos rfl]
  · have e : f_l06_Small a0 = some 1 := by unfold f_l06_Small; rw [h]; rfl
    have hn := hwts_len a0
    have hz' : hwts a0 ≤ 20000 := hz
    rw [e, Option.bind_some, if_neg (by decide)]
    rcases ws_right a0 (by omega) false a0 0 (((a0.length : Int)).toNat + 1) rfl (by omega) with h2 | ⟨hr, z2, h2⟩
    · have e2 : f_r06_Right a0 = some false := by unfold f_r06_Right; rw [h2]; rfl
      rw [e2, Option.bind_some, if_neg (by decide), Option.bind_some, if_pos rfl]
    · have e2 : f_r06_Right a0 = some true := by unfold f_r06_Right; rw [h2]; rfl
      rw [e2, Option.bind_some, if_pos rfl, Option.bind_some, if_neg (by decide), hwrite_z a0 [] hr (by show 0 + 10 + _ ≤ _; omega), Option.bind_some, List.nil_append, gOText_eq, Option.bind_some]
      dsimp only
      rw [otx_z]
      dsimp only
      have hv := vput_small32 (a0.length : Int) (by omega) (by omega)
      have hne : vput (vfold (a0.length : Int)) ++ encs encHd a0 ≠ [] := by
        intro q
        have q1 := (List.append_eq_nil_iff.1 q).1
        unfold vput at q1
        split at q1 <;> simp at q1
      have hlen : (vput (vfold (a0.length : Int)) ++ encs encHd a0).length ≤ 900000 := by
        have := ws_len a0 (by omega)
        rw [List.length_append]
        omega
      generalize vput (vfold (a0.length : Int)) ++ encs encHd a0 = s at hne hlen
      have hs0 : 0 < s.length := List.length_pos_iff.2 hne
      rw [if_pos rfl, if_neg hne, Option.bind_some, if_neg (by decide), Int.toNat_natCast]
      have hl := ws_l1 s (by omega) (s.length + 1) 0 (Nat.zero_le _) (by omega)
      rw [List.take_zero, crcM_nil, show ((0 : Nat) : Int) = 0 from rfl] at hl
      rw [hl, Option.bind_some]
      dsimp only
      rw [bsI_length]
      have c2 : ¬ (s.length : Int) = 0 := by omega
      have hr2 : 0 ≤ a1 % (s.length : Int) ∧ a1 % (s.length : Int) < (s.length : Int) := ⟨Int.emod_nonneg _ c2, Int.emod_lt_of_pos _ (by omega)⟩
      obtain ⟨f, hf⟩ : ∃ f : Nat, a1 % (s.length : Int) = (f : Int) := ⟨(a1 % (s.length : Int)).toNat, by omega⟩
      have hfl : f < s.length := by omega
      have hb : M < 256 := by omega
      have hx : s[f].toNat ^^^ M < 256 := Nat.xor_lt_two_pow (n := 8) s[f].toNat_lt hb
      have e3 : Go.bits .xor .u8 (s[f].toNat : Int) (M : Int) = ((UInt8.ofNat (s[f].toNat ^^^ M)).toNat : Int) := by
        rw [xor_u8 _ _ s[f].toNat_lt hb, UInt8.toNat_ofNat', Nat.mod_eq_of_lt hx]
      rw [if_pos (by omega), if_pos (by omega), hf, if_pos (by omega), Int.toNat_natCast, bsI_get hfl, Option.bind_some, if_pos (by omega), crc_sum [s] (by intro t ht; rw [List.mem_singleton.1 ht]; omega), Option.bind_some]
      dsimp only
      rw [show [s].flatten = s by simp, if_pos rfl, e3, bsI_set, toBs_bsI, crc_sum [s.set f (UInt8.ofNat (s[f].toNat ^^^ M))] (by intro t ht; rw [List.mem_singleton.1 ht, List.length_set]; omega), Option.bind_some]
      dsimp only
      rw [show [s.set f (UInt8.ofNat (s[f].toNat ^^^ M))].flatten = s.set f (UInt8.ofNat (s[f].toNat ^^^ M)) by simp]
      obtain ⟨b1, b2⟩ := burst_iff (s := s) (t := s.set f (UInt8.ofNat (s[f].toNat ^^^ M))) (List.length_set ..).symm (d := M) (k := 8 * f) (by omega) (by omega) (leN_set s f _ M (List.getElem?_eq_getElem hfl) hb)
      by_cases hM : M = 0
      · rw [if_pos (congrArg (fun n : Nat => (n : Int)) (b1.2 hM).symm), if_pos (by omega)]
        rfl
      · rw [if_neg (fun e => hM (b1.1 (Int.ofNat_inj.1 e).symm)), if_neg (by omega)]
        rfl
end Go.Proofs.Ytpiiopppbgpbpaa.Sl
namespace Go.Proofs.Ytpiiopppbgpbpaa.Sl
open Go.RowKit Go.Deep Go.ChangeShapes
set_option linter.unusedVariables false
theorem op_Bl {H : Type} {enc : TypeId × Value → H} : OpensW enc Try.prog 70 (andRd Bl_rd wf_Bl) :=
  opensW_weak (fun x => ⟨x.1, x.2.1⟩) (opensW_struct Try.underlying70 (by kernel_rfl) (opensWFs_cons 1 (by kernel_rfl) (by kernel_rfl) (op_bool Try.underlying4) (opensWFs_cons 1 (by kernel_rfl) (by kernel_rfl) (op_str Try.underlying9) (opensWFs_nil _)))) (by
    rintro w S cs ⟨x0, x1, _⟩ ⟨_, _, rfl, ⟨p0, q0⟩, _, _, rfl, ⟨p1, q1⟩, rfl⟩
    obtain rfl := p0
    obtain rfl := p1
    exact ⟨rfl, q0, q1⟩)
theorem op_Hd {H : Type} {enc : TypeId × Value → H} : OpensW enc Try.prog 147 (andRd Hd_rd wf_Hd) :=
  opensW_weak (fun x => ⟨x.1, x.2.1⟩) (opensW_struct Try.underlying147 (by kernel_rfl) (opensWFs_cons 1 (by kernel_rfl) (by kernel_rfl) (op_str Try.underlying9) (opensWFs_cons 2 (by kernel_rfl) (by kernel_rfl) op_Bl (opensWFs_nil _)))) (by
    rintro w S cs ⟨x0, x1, _⟩ ⟨_, _, rfl, ⟨p0, q0⟩, _, _, rfl, ⟨p1, q1⟩, rfl⟩
    obtain rfl := p0
    obtain rfl := p1
    exact ⟨rfl, q0, q1⟩)
end Go.Proofs.Ytpiiopppbgpbpaa.Sl
namespace Go.Proofs.Ytpiiopppbgpbpaa.wholeSums
open Go.ChangeShapes Go.WideShapes Go.ChangeAt Go.RowKit
open Go.ChangeMaps (open_string shut_string)
set_option linter.unusedVariables false
theorem own : ownKnob Try.prog.godebug = none := by kernel_rfl
theorem laidOut : laidOutB Try.prog = true := by kernel_rfl
set_option maxRecDepth 100000 in
set_option maxHeartbeats 1000000 in
theorem lifted (os : Os) (started : os.Started) (H : Type) (enc : TypeId × Value → H) :
    ReturnsInHanded {} Try.checked os 12 .any (Rows.wholeSumsSpec.pre6 enc Try.prog Try.f12 Rows.wholeSumsRow.domain false) (Rows.wholeSumsSpec.post enc Try.prog Try.f12 false true false false) := by
  refine returnsInHanded_of_change_sized (C := Try.checked) own started (by kernel_rfl) Try.func12
    (ChangeSpec.witness6 (enc := enc) (C := Try.checked) false ⟨#[], #[.slice none 0 0, .int .u16 0, .int .u8 0], []⟩ 8 (by kernel_rfl) (by kernel_rfl) (by kernel_rfl) (by kernel_rfl)) ?_
  intro W base args ds gs before hval0 hW hcnd hsz0 _
  have hsz : (DataW.weightsEach Try.prog (Try.f12.params.toList ++ Rows.wholeSumsSpec.plain.varTypes Try.prog) (ds ++ gs)).all (· ≤ reachBytes) = true := hsz0
  have hval : ∀ (j : Nat) t v, Try.f12.params[j]? = some t → args[j]? = some v → Value.okWide Try.prog W .any base t v := hval0
  have hW' := hW
  obtain ⟨p, q, hA0, hV, rfl, hfz, hnd⟩ := hW
  have hA : DataW.TrodAll enc Try.prog W 0 (fun _ => true) true Try.f12.params.toList args.toList ds p := hA0
  rw [Try.params12] at hA hval hsz
  obtain ⟨v0, vs0, d0, ds0, p0, q0, hargs, rfl, rfl, h0, r0⟩ := trodAll_cons hA
  obtain ⟨v1, vs1, d1, ds1, p1, q1, rfl, rfl, rfl, h1, r1⟩ := trodAll_cons r0
  obtain ⟨v2, vs2, d2, ds2, p2, q2, rfl, rfl, rfl, h2, r2⟩ := trodAll_cons r1
  obtain ⟨rfl, rfl, rfl⟩ := trodAll_nil r2
  obtain rfl : args = #[v0, v1, v2] := by cases args; simp_all
  obtain ⟨rfl, rfl⟩ := trodVars_none hV
  have k0 := h0
  have lt0 : ∀ x ∈ p0, x.block < W.heap.size := by obtain ⟨m, hm⟩ := k0; exact DataW.trod_lt m _ _ _ hm
  obtain ⟨a0, r_0, w0⟩ := Sl.opens_arg1 Try.underlying101 (hval 0 101 v0 rfl rfl) (Sl.op_slice 3 40 Try.underlying101 (by kernel_rfl) (by kernel_rfl) (by decide) (by decide) Sl.op_Hd) h0 (fun x hx => of_decide_eq_true (List.all_eq_true.1 hsz x (Sl.weights_in 0 rfl rfl hx)))
  obtain ⟨A0, c0, e0⟩ := Sl.slice_cells r_0
  injection e0 with e0
  subst e0
  obtain ⟨a1, rfl, rfl, rfl, u1⟩ := open_int Try.underlying79 (hval 1 79 v1 rfl rfl) h1
  have w1 := Go.bounds_u16 u1
  obtain ⟨a2, rfl, rfl, rfl, u2⟩ := open_int Try.underlying5 (hval 2 5 v2 rfl rfl) h2
  have w2 := Go.bounds_u8 u2
  clear hA0 hval0 hsz0 hsz
  refine (Sl.f_top_WholeSums_spec a0 A0 c0 a1 a2 true (Sl.pure_WholeSums a0 a1 a2 w0 w1 w2) (fun _ => False) W (fun _ h => h) (Sl.RX.reads_all r_0)).mono fun e W' hP => ?_
  obtain ⟨v, A', Ns, rfl, ⟨rfl, rfl, rfl⟩, hst⟩ := hP
  have bel := Sl.St.below hst
  exact ⟨_, rfl, _, _, _, [], _, [], hW', trodAll_mk1 (shut_bool Try.underlying4 _), (trodAll_cons_mk (Below.trod laidOut (by kernel_rfl) (of_decide_eq_true (by kernel_rfl)) k0 bel lt0) (trodAll_cons_mk (shut_int Try.underlying79 u1) (trodAll_cons_mk (shut_int Try.underlying5 u2) trodAll_mk0))), rfl, bel.frame _, fun h => by cases h⟩
theorem over : Rows.wholeSumsRow.holds Try.pinned (OpenSpec.ofChange Rows.wholeSumsSpec) :=
  OpenClaim.holds_of_wide 12 Try.f12 rfl rfl rfl rfl rfl rfl rfl ⟨rfl, rfl, rfl, rfl, rfl⟩ rfl rfl rfl rfl rfl (by kernel_rfl) Try.func12 (by kernel_rfl)
    (of_decide_eq_true (by kernel_rfl)) (by unfold Func.isWrapper; first | (rw [if_pos (by decide +kernel)]; kernel_rfl) | (rw [if_neg (by decide +kernel)]; exact ⟨rfl, rfl⟩))
    (fun os started H enc _ => lifted os started H enc)
theorem proved : Rows.WholeSumsSaid := over
end Go.Proofs.Ytpiiopppbgpbpaa.wholeSums
namespace Go.Proofs.Ytpiiopppbgpbpaa
theorem wholeSums_holds : Rows.WholeSumsSaid := wholeSums.proved
end Go.Proofs.Ytpiiopppbgpbpaa
