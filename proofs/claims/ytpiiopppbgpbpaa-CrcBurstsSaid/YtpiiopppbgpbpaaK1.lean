/- CrcBursts: for every input the law returns true, and its arguments read behind the call as they did before. -/
import Derived.Test.YtpiiopppbgpbpaaRows
import Derived.WalkKit
import Derived.ProofKit
import Derived.OpenShut
import Derived.ShutString
import Derived.ChangeOld
import Derived.Below
import Derived.SizedLaws
import Derived.Test.YtpiiopppbgpbpaaK0
namespace Go.Proofs.Ytpiiopppbgpbpaa.Sl
open Go.RowKit
set_option linter.unusedVariables false
set_option linter.unusedSimpArgs false
set_option maxRecDepth 100000
def ft_cursitorlaw05 : FTab := []
theorem ft_cursitorlaw05_ok : (ft_cursitorlaw05).OK Try.prog := trivial
theorem mix_cursitorlaw05 : Try.prog.follows .mixedOrders = true := by kernel_rfl
theorem sok_cursitorlaw05_84_1 : SOK Try.prog 84 9 1 1 #[.string ⟨#[]⟩] := SOK.mk Try.runUnderlying84 Try.sizeOf9 Try.zeroValue9 (by decide) (by kernel_rfl)
theorem sok_cursitorlaw05_84_2 : SOK Try.prog 84 9 2 1 #[.string ⟨#[]⟩, .string ⟨#[]⟩] := SOK.mk Try.runUnderlying84 Try.sizeOf9 Try.zeroValue9 (by decide) (by kernel_rfl)
def f_l05_speaks  : Option (Bool) := (f_crc_New).bind fun st1 => ((f_crc_TableSum st1 [[49, 50, 51, 52], [53, 54, 55, 56, 57]]).bind fun (x16, st17) => if x16 = 3808858755 then ((f_crc_TableSum st17 []).bind fun (x20, st21) => if x20 = 0 then some (true, st21) else some (false, st21)) else some (false, st17)).bind fun (y12, st13) => some y12
set_option maxRecDepth 100000 in
set_option maxHeartbeats 4000000 in
theorem f_l05_speaks_spec  (r : Bool) (h : f_l05_speaks  = some r) : SpecX Try.prog 52 #[] .triv (EmpR) (fun v A' N => v = .bool r ∧ A' = EmpR ∧ N = []) := by
  refine enterA Try.func52 rfl Try.ntmps52 rfl ?_
  intro F w hX
  unfold f_l05_speaks at h
  refine T.seq (T.region rfl ?_)
  refine TL.run ft_cursitorlaw05_ok [0] rfl rfl ?_
  obtain ⟨st1, hx2, h⟩ := Option.bind_eq_some_iff.1 h
  refine TL.nil (X.seq (T.seq (T.region rfl ?_)))
  refine TL.cge rfl .u (.fn Try.call53 rfl) (f_crc_New_spec _ hx2) (fun _ hs => (RX.reads_triv _ _)) rfl ?_
  rintro _ _ _ ⟨b3, rfl, rfl, rfl⟩
  refine TL.sel [0, 0] rfl ?_
  refine TL.run ft_cursitorlaw05_ok [1] rfl rfl ?_
  refine TL.nil (X.seq (T.seq ?_))
  obtain ⟨⟨y12, st13⟩, h, hk14⟩ := Option.bind_eq_some_iff.1 h
  refine T.jq (fun e Rs => e = [(0, .bool y12)] ∧ Rs = [TabR 144 b3 st13, EmpR]) ?_ ?_
  · clear hk14
    refine T.region rfl ?_
    refine TL.run ft_cursitorlaw05_ok [0] rfl rfl ?_
    refine TL.q rfl .u (Ex.pNe (.inr ⟨rfl, rfl⟩) rfl rfl Try.runUnderlying85) rfl ?_
    refine TL.run ft_cursitorlaw05_ok [2] rfl rfl ?_
    refine TL.q rfl (.g rfl rfl rfl) (Ex.ft ft_cursitorlaw05_ok rfl) rfl ?_
    refine TL.lit (cells := #[.string ⟨#[49, 50, 51, 52]⟩, .string ⟨#[53, 54, 55, 56, 57]⟩]) rfl (.g rfl rfl rfl) sok_cursitorlaw05_84_2 rfl (by rfl) rfl (fun b15 => ?_)
    refine TL.rowOf (us := [.string ⟨#[49, 50, 51, 52]⟩, .string ⟨#[53, 54, 55, 56, 57]⟩]) (xs := [[49, 50, 51, 52], [53, 54, 55, 56, 57]]) (E := strE) (z := 1) rfl (Nat.le_of_ble_eq_true rfl) (fun _ => ⟨rfl, rfl, ⟨rfl, rfl, rfl⟩⟩) ?_
    obtain ⟨⟨x16, st17⟩, hx18, h⟩ := Option.bind_eq_some_iff.1 h
    try dsimp only at h
    refine TL.c1 rfl (.g rfl rfl rfl) (.fn Try.call56 rfl) (f_crc_TableSum_spec b3 st1 [[49, 50, 51, 52], [53, 54, 55, 56, 57]] _ _ _ hx18) (fun _ hs => (Src.res 0 rfl (fun w G h => own_reads (by decide) w G h))) rfl ?_
    refine TL.q rfl (.g rfl rfl rfl) (Ex.ft ft_cursitorlaw05_ok rfl) rfl ?_
    refine TL.q rfl .u (Ex.py rfl rfl rfl) rfl ?_
    by_cases c19 : x16 = 3808858755
    · replace h := ifT c19 h
      refine TL.run ft_cursitorlaw05_ok [8] rfl rfl ?_
      refine TL.q rfl (.g rfl rfl (decide_eq_true c19)) (Ex.ft ft_cursitorlaw05_ok rfl) rfl ?_
      obtain ⟨⟨x20, st21⟩, hx22, h⟩ := Option.bind_eq_some_iff.1 h
      try dsimp only at h
      refine TL.c1 rfl (.g rfl rfl (decide_eq_true c19)) (.fn Try.call56 rfl) (f_crc_TableSum_spec b3 st17 [] _ _ _ hx22) (fun _ hs => (Src.nil _)) rfl ?_
      refine TL.q rfl (.g rfl rfl (decide_eq_true c19)) (Ex.ft ft_cursitorlaw05_ok rfl) rfl ?_
      refine TL.q rfl .u (Ex.py rfl (decide_eq_true c19) rfl) rfl ?_
      refine TL.run ft_cursitorlaw05_ok [13] rfl rfl ?_
      by_cases c23 : x20 = 0
      · replace h := ifT c23 h
        cases h
        exact TL.nil (X.as (d := 0) (v' := .bool true) rfl (congrArg Value.bool (decide_eq_true c23)) (X.jq [1, 1] ⟨rfl, rfl⟩ (by rfl) (by rfl)))
      · replace h := ifF c23 h
        cases h
        exact TL.nil (X.as (d := 0) (v' := .bool false) rfl (congrArg Value.bool (decide_eq_false c23)) (X.jq [1, 1] ⟨rfl, rfl⟩ (by rfl) (by rfl)))
    · replace h := ifF c19 h
      refine TL.run ft_cursitorlaw05_ok [8] rfl rfl ?_
      refine TL.no rfl (.gn rfl rfl (decide_eq_false c19)) rfl ?_
      refine TL.no rfl (.gn rfl rfl (decide_eq_false c19)) rfl ?_
      refine TL.no rfl (.gn rfl rfl (decide_eq_false c19)) rfl ?_
      refine TL.q rfl .u (Ex.pn rfl (decide_eq_false c19) rfl) rfl ?_
      refine TL.run ft_cursitorlaw05_ok [13] rfl rfl ?_
      cases h
      exact TL.nil (X.jq [1, 1] ⟨rfl, rfl⟩ (by rfl) (by rfl))
  · rintro _ _ ⟨rfl, rfl⟩
    clear h
    have h := hk14
    clear hk14
    try dsimp only at h
    obtain rfl := Option.some.inj h
    exact X.seq (T.ret (X.done1 [1] Try.results52 (RV.tm rfl) ⟨rfl, rfl, rfl⟩ (by rfl) (.inl rfl)))
def f_l05_CrcBursts_l1 (a0 : List UInt8) (a1 : Int) (a2 : Int) : Nat → List Int → Nat → Option (List Int × Nat)
  | 0, _, _ => none
  | m18 + 1, y11, k14 => if (k14 : Int) < 32 then (if -9223372036854775808 ≤ ((a1 % (8 * ((bsI a0).length : Int))) + (k14 : Int)) ∧ ((a1 % (8 * ((bsI a0).length : Int))) + (k14 : Int)) ≤ 9223372036854775807 then ((if 0 ≤ (k14 : Int) then (if (Go.bits .and .u32 (shrK .u32 a2 (k14 : Int)) 1) = 1 then (if ((a1 % (8 * ((bsI a0).length : Int))) + (k14 : Int)) < (8 * ((bsI a0).length : Int)) then some true else some false) else some false) else none).bind fun y26 => if y26 = true then (if 0 ≤ ((a1 % (8 * ((bsI a0).length : Int))) + (k14 : Int)) ∧ ((a1 % (8 * ((bsI a0).length : Int))) + (k14 : Int)) ≤ 9223372036854775807 then (if 0 ≤ (((a1 % (8 * ((bsI a0).length : Int))) + (k14 : Int)) / 8) then ((y11[(((a1 % (8 * ((bsI a0).length : Int))) + (k14 : Int)) / 8).toNat]?).bind fun x34 => if 0 ≤ ((a1 % (8 * ((bsI a0).length : Int))) + (k14 : Int)) ∧ ((a1 % (8 * ((bsI a0).length : Int))) + (k14 : Int)) ≤ 9223372036854775807 then (if 0 ≤ (((a1 % (8 * ((bsI a0).length : Int))) + (k14 : Int)) % 8) then (if 0 ≤ (((a1 % (8 * ((bsI a0).length : Int))) + (k14 : Int)) / 8) then (if -9223372036854775808 ≤ ((k14 : Int) + 1) ∧ ((k14 : Int) + 1) ≤ 9223372036854775807 then (f_l05_CrcBursts_l1 a0 a1 a2 m18 (y11.set ((((a1 % (8 * ((bsI a0).length : Int))) + (k14 : Int)) / 8).toNat) (Go.bits .xor .u8 x34 (shlK .u8 1 (((a1 % (8 * ((bsI a0).length : Int))) + (k14 : Int)) % 8)))) (k14 + 1)) else none) else none) else none) else none) else none) else none) else (if -9223372036854775808 ≤ ((k14 : Int) + 1) ∧ ((k14 : Int) + 1) ≤ 9223372036854775807 then (f_l05_CrcBursts_l1 a0 a1 a2 m18 y11 (k14 + 1)) else none)) else none) else some (y11, k14)
def f_l05_CrcBursts (a0 : List UInt8) (a1 : Int) (a2 : Int) : Option (Bool) := (f_l05_speaks).bind fun x1 => if x1 = true then (if (a0.length : Int) > 2000 then some true else (if -9223372036854775808 ≤ (8 * ((bsI a0).length : Int)) ∧ (8 * ((bsI a0).length : Int)) ≤ 9223372036854775807 then (if (8 * ((bsI a0).length : Int)) = 0 then some true else (if -9223372036854775808 ≤ a1 ∧ a1 ≤ 9223372036854775807 then (if 1 ≤ (8 * ((bsI a0).length : Int)) ∧ 0 ≤ a1 then ((f_l05_CrcBursts_l1 a0 a1 a2 ((32 : Int).toNat + 1) (bsI a0) 0).bind fun (y55, k58) => (f_crc_New).bind fun st59 => (f_crc_TableSum st59 [a0]).bind fun (x63, st64) => (f_crc_TableSum st64 [(toBs y55)]).bind fun (x67, st68) => if x63 = x67 then (if a0 = (toBs y55) then some true else none) else (if a0 = (toBs y55) then none else some true)) else none) else none)) else none)) else none
set_option maxRecDepth 100000 in
set_option maxHeartbeats 4000000 in
theorem f_l05_CrcBursts_spec (a0 : List UInt8) (a1 : Int) (a2 : Int) (r : Bool) (h : f_l05_CrcBursts a0 a1 a2 = some r) : SpecX Try.prog 10 #[.string (bsOf a0), .int .u16 a1, .int .u32 a2] .triv (EmpR) (fun v A' N => v = .bool r ∧ A' = EmpR ∧ N = []) := by
  refine enterA Try.func10 rfl Try.ntmps10 rfl ?_
  intro F w hX
  unfold f_l05_CrcBursts at h
  refine T.seq (T.region rfl ?_)
  refine TL.run ft_cursitorlaw05_ok [0] rfl rfl ?_
  obtain ⟨x1, hx2, h⟩ := Option.bind_eq_some_iff.1 h
  refine TL.nil (X.seq (T.seq (T.seq (T.region rfl ?_))))
  refine TL.ce rfl .u (.fn Try.call52 rfl) (f_l05_speaks_spec _ hx2) (fun _ hs => (RX.reads_triv _ _)) rfl ?_
  refine TL.run ft_cursitorlaw05_ok [1] rfl rfl ?_
  by_cases c3 : x1 = true
  · replace h := ifT c3 h
    refine TL.nil (X.seq ?_)
    refine T.no rfl (bn_f c3) ?_
    refine T.skip (X.seq (T.seq (T.seq (T.region rfl ?_))))
    refine TL.run ft_cursitorlaw05_ok [0] rfl rfl ?_
    refine TL.q rfl .u (Ex.lenB rfl Try.runUnderlying9) rfl ?_
    refine TL.run ft_cursitorlaw05_ok [2] rfl rfl ?_
    by_cases c4 : (a0.length : Int) > 2000
    · replace h := ifT c4 h
      refine TL.nil (X.seq ?_)
      refine T.yes rfl (decide_eq_true c4) ?_
      refine T.seq (T.region rfl ?_)
      refine TL.run ft_cursitorlaw05_ok [0] rfl rfl ?_
      obtain rfl := Option.some.inj h
      exact TL.nil (X.seq (T.ret (X.rs (X.done1 [0] Try.results10 (RV.tm rfl) ⟨rfl, rfl, rfl⟩ (by rfl) (.inl rfl)))))
    · replace h := ifF c4 h
      refine TL.nil (X.seq ?_)
      refine T.no rfl (decide_eq_false c4) ?_
      refine T.skip (X.seq (T.seq (T.region rfl ?_)))
      refine TL.run ft_cursitorlaw05_ok [0] rfl rfl ?_
      refine TL.toBs rfl .u rfl Try.underlying9 Try.underlying39 Try.underlying5 rfl (fun b5 c6 => ?_)
      refine TL.run ft_cursitorlaw05_ok [2] rfl rfl ?_
      refine TL.nil (X.seq (T.seq (T.region rfl ?_)))
      refine TL.run ft_cursitorlaw05_ok [0] rfl rfl ?_
      refine TL.q rfl .u (Ex.lenS rfl Try.runUnderlying39) rfl ?_
      replace h := guard_some h
      obtain ⟨c7, h⟩ := h
      refine TL.q rfl .u (Ex.mul rfl rfl c7) rfl ?_
      refine TL.run ft_cursitorlaw05_ok [3] rfl rfl ?_
      refine TL.nil (X.seq (T.seq (T.seq (T.region rfl ?_))))
      refine TL.run ft_cursitorlaw05_ok [0, 1] rfl rfl ?_
      by_cases c8 : (8 * ((bsI a0).length : Int)) = 0
      · replace h := ifT c8 h
        refine TL.nil (X.seq ?_)
        refine T.yes rfl (decide_eq_true c8) ?_
        refine T.seq (T.region rfl ?_)
        refine TL.run ft_cursitorlaw05_ok [0] rfl rfl ?_
        obtain rfl := Option.some.inj h
        exact TL.nil (X.seq (T.ret (X.rs (X.done1 [1] Try.results10 (RV.tm rfl) ⟨rfl, rfl, rfl⟩ (by rfl) (.inl rfl)))))
      · replace h := ifF c8 h
        refine TL.nil (X.seq ?_)
        refine T.no rfl (decide_eq_false c8) ?_
        refine T.skip (X.seq (T.seq (T.region rfl ?_)))
        replace h := guard_some h
        obtain ⟨c9, h⟩ := h
        refine TL.run ft_cursitorlaw05_ok [0] rfl rfl ?_
        refine TL.q rfl .u (Ex.conv64 rfl Try.runUnderlying79 Try.runUnderlying3 c9) rfl ?_
        replace h := guard_some h
        obtain ⟨c10, h⟩ := h
        refine TL.run ft_cursitorlaw05_ok [2] rfl rfl ?_
        refine TL.q rfl .u (Ex.remK rfl rfl c10.1 c10.2) rfl ?_
        refine TL.run ft_cursitorlaw05_ok [4] rfl rfl ?_
        refine TL.nil (X.seq (T.seq (T.seq (T.region rfl ?_))))
        refine TL.run ft_cursitorlaw05_ok [0] rfl rfl ?_
        refine TL.nil (X.seq (T.block ?_))
        obtain ⟨E15, hE16, hO17⟩ := Option.bind_eq_some_iff.1 h
        refine T.lp (fun m e Rs => ∃ (y11 : List Int) (k14 : Nat), e = [(0, .string (bsOf a0)), (2, .int .u32 a2), (6, .bool false), (7, .slice (some ⟨b5, 0, none⟩) y11.length c6), (8, .int .i64 (8 * ((bsI a0).length : Int))), (9, .int .i64 (a1 % (8 * ((bsI a0).length : Int)))), (29, .int .i64 (k14 : Int))] ∧ Rs = [BsR 5 b5 c6 y11, EmpR] ∧ f_l05_CrcBursts_l1 a0 a1 a2 m y11 k14 = some E15) ((32 : Int).toNat + 1) [0, 0] ⟨(bsI a0), 0, rfl, rfl, by exact hE16⟩ (by rfl) (by rfl) ?_
        rintro m18 _ _ ⟨y11, k14, rfl, rfl, hl20⟩
        clear hE16 h
        cases m18 with
        | zero =>
          rw [f_l05_CrcBursts_l1] at hl20
          cases hl20
        | succ m18 =>
          have h := hl20
          clear hl20
          rw [f_l05_CrcBursts_l1] at h
          refine T.seq (T.region rfl ?_)
          refine TL.run ft_cursitorlaw05_ok [0] rfl rfl ?_
          by_cases c22 : (k14 : Int) < 32
          · replace h := ifT c22 h
            refine TL.nil (X.seq (T.seq ?_))
            refine T.yes rfl (decide_eq_true c22) ?_
            refine T.skip (X.seq (T.seq (T.block (T.seq (T.region rfl ?_)))))
            refine TL.run ft_cursitorlaw05_ok [0, 1] rfl rfl ?_
            refine TL.nil (X.seq (T.seq (T.region rfl ?_)))
            replace h := guard_some h
            obtain ⟨c23, h⟩ := h
            refine TL.run ft_cursitorlaw05_ok [0, 1] rfl rfl ?_
            refine TL.q rfl .u (Ex.add rfl rfl c23) rfl ?_
            refine TL.run ft_cursitorlaw05_ok [3] rfl rfl ?_
            refine TL.nil (X.seq (T.seq ?_))
            obtain ⟨y26, h, hk27⟩ := Option.bind_eq_some_iff.1 h
            refine T.jq (fun e Rs => e = [(0, .string (bsOf a0)), (2, .int .u32 a2), (6, .bool false), (7, .slice (some ⟨b5, 0, none⟩) y11.length c6), (8, .int .i64 (8 * ((bsI a0).length : Int))), (9, .int .i64 (a1 % (8 * ((bsI a0).length : Int)))), (11, .int .i64 ((a1 % (8 * ((bsI a0).length : Int))) + (k14 : Int))), (29, .int .i64 (k14 : Int)), (44, .bool y26)] ∧ Rs = [BsR 5 b5 c6 y11, EmpR]) ?_ ?_
            · clear hk27
              refine T.region rfl ?_
              replace h := guard_some h
              obtain ⟨c28, h⟩ := h
              refine TL.run ft_cursitorlaw05_ok [0, 1] rfl rfl ?_
              refine TL.q rfl .u (Ex.shr rfl rfl c28) rfl ?_
              refine TL.q rfl .u (Ex.bitw rfl rfl rfl) rfl ?_
              by_cases c29 : (Go.bits .and .u32 (shrK .u32 a2 (k14 : Int)) 1) = 1
              · replace h := ifT c29 h
                refine TL.run ft_cursitorlaw05_ok [4, 5] rfl rfl ?_
                refine TL.q rfl (.g rfl rfl (decide_eq_true c29)) (Ex.ft ft_cursitorlaw05_ok rfl) rfl ?_
                refine TL.q rfl (.g rfl rfl (decide_eq_true c29)) (Ex.ft ft_cursitorlaw05_ok rfl) rfl ?_
                refine TL.q rfl (.g rfl rfl (decide_eq_true c29)) (Ex.ft ft_cursitorlaw05_ok rfl) rfl ?_
                refine TL.q rfl .u (Ex.py rfl (decide_eq_true c29) rfl) rfl ?_
                by_cases c30 : ((a1 % (8 * ((bsI a0).length : Int))) + (k14 : Int)) < (8 * ((bsI a0).length : Int))
                · replace h := ifT c30 h
                  cases h
                  exact TL.nil (X.as (d := 44) (v' := .bool true) rfl (congrArg Value.bool (decide_eq_true c30)) (X.jq [0, 0] ⟨rfl, rfl⟩ (by rfl) (by rfl)))
                · replace h := ifF c30 h
                  cases h
                  exact TL.nil (X.as (d := 44) (v' := .bool false) rfl (congrArg Value.bool (decide_eq_false c30)) (X.jq [0, 0] ⟨rfl, rfl⟩ (by rfl) (by rfl)))
              · replace h := ifF c29 h
                refine TL.run ft_cursitorlaw05_ok [4, 5] rfl rfl ?_
                refine TL.no rfl (.gn rfl rfl (decide_eq_false c29)) rfl ?_
                refine TL.no rfl (.gn rfl rfl (decide_eq_false c29)) rfl ?_
                refine TL.no rfl (.gn rfl rfl (decide_eq_false c29)) rfl ?_
                refine TL.q rfl .u (Ex.pn rfl (decide_eq_false c29) rfl) rfl ?_
                cases h
                exact TL.nil (X.jq [0, 0] ⟨rfl, rfl⟩ (by rfl) (by rfl))
            · rintro _ _ ⟨rfl, rfl⟩
              clear h
              have h := hk27
              clear hk27
              try dsimp only at h
              by_cases c31 : y26 = true
              · replace h := ifT c31 h
                refine X.seq ?_
                refine T.yes rfl c31 ?_
                refine T.draw (.q 0 (.q 1 (.q 2 (.q 3 (.q 5 (.q 6 (.q 7 (.e 4 (.q 8 (.q 9 (.e 10 .nil))))))))))) [1] rfl mix_cursitorlaw05 (NoP.blk (NoP.seq (NoP.seq (NoP.blk (NoP.seq np_post))))) (by kernel_rfl) ?_
                replace h := guard_some h
                obtain ⟨c32, h⟩ := h
                refine TD.run ft_cursitorlaw05_ok [0, 1] rfl rfl ?_
                refine TD.q rfl .u (Ex.quo rfl rfl (by omega) c32) rfl ?_
                replace h := guard_some h
                obtain ⟨c33, h⟩ := h
                obtain ⟨x34, hx35, h⟩ := Option.bind_eq_some_iff.1 h
                refine TD.q rfl .u (Ex.bsIx (xs := y11) (k := (((a1 % (8 * ((bsI a0).length : Int))) + (k14 : Int)) / 8).toNat) rfl rfl ((Int.toNat_of_nonneg c33).symm) Try.runUnderlying39 Try.sizeOf5 hx35 rfl) rfl ?_
                replace h := guard_some h
                obtain ⟨c36, h⟩ := h
                refine TD.run ft_cursitorlaw05_ok [5] rfl rfl ?_
                refine TD.q rfl .u (Ex.rem rfl rfl (by omega) c36) rfl ?_
                replace h := guard_some h
                obtain ⟨c37, h⟩ := h
                refine TD.q rfl .u (Ex.shl rfl rfl c37) rfl ?_
                refine TD.ny rfl .u (Ex.bsLd (k := (((a1 % (8 * ((bsI a0).length : Int))) + (k14 : Int)) / 8).toNat) 0 rfl Try.isAgg5 rfl hx35) rfl [1] rfl ?_
                refine TD.q rfl .u (Ex.bitw rfl rfl rfl) rfl ?_
                replace h := guard_some h
                obtain ⟨c38, h⟩ := h
                refine TD.q rfl .u (Ex.bsIx (xs := y11) (k := (((a1 % (8 * ((bsI a0).length : Int))) + (k14 : Int)) / 8).toNat) rfl rfl ((Int.toNat_of_nonneg c38).symm) Try.runUnderlying39 Try.sizeOf5 hx35 rfl) rfl ?_
                refine TD.bsSt (k := (((a1 % (8 * ((bsI a0).length : Int))) + (k14 : Int)) / 8).toNat) 0 rfl .u rfl rfl Try.sizeOf5 rfl hx35 [1] (rfl) ?_
                refine TD.sel [0, 0] rfl ?_
                refine TD.as (d := 7) (v' := .slice (some ⟨b5, 0, none⟩) (y11.set ((((a1 % (8 * ((bsI a0).length : Int))) + (k14 : Int)) / 8).toNat) (Go.bits .xor .u8 x34 (shlK .u8 1 (((a1 % (8 * ((bsI a0).length : Int))) + (k14 : Int)) % 8)))).length c6) rfl (congrArg (fun m => Value.slice (some ⟨b5, 0, none⟩) m c6) (List.length_set ..).symm) ?_
                refine TD.as (d := 45) (v' := .slice (some ⟨b5, 0, none⟩) (y11.set ((((a1 % (8 * ((bsI a0).length : Int))) + (k14 : Int)) / 8).toNat) (Go.bits .xor .u8 x34 (shlK .u8 1 (((a1 % (8 * ((bsI a0).length : Int))) + (k14 : Int)) % 8)))).length c6) rfl (congrArg (fun m => Value.slice (some ⟨b5, 0, none⟩) m c6) (List.length_set ..).symm) ?_
                replace h := guard_some h
                obtain ⟨c39, h⟩ := h
                refine TD.nil (X.blk (X.seq (T.region rfl ?_)))
                refine TL.q rfl .u (Ex.add rfl rfl c39) rfl ?_
                refine TL.run ft_cursitorlaw05_ok [1] rfl rfl ?_
                exact TL.nil (X.back (m' := m18) [0, 0] (by omega) ⟨(y11.set ((((a1 % (8 * ((bsI a0).length : Int))) + (k14 : Int)) / 8).toNat) (Go.bits .xor .u8 x34 (shlK .u8 1 (((a1 % (8 * ((bsI a0).length : Int))) + (k14 : Int)) % 8)))), k14 + 1, rfl, rfl, h⟩ (by rfl) (by rfl))
              · replace h := ifF c31 h
                replace c31 := eq_false_of_ne_true c31
                refine X.seq ?_
                refine T.no rfl c31 ?_
                replace h := guard_some h
                obtain ⟨c40, h⟩ := h
                refine T.skip (X.blk (X.seq (T.region rfl ?_)))
                refine TL.q rfl .u (Ex.add rfl rfl c40) rfl ?_
                refine TL.run ft_cursitorlaw05_ok [1] rfl rfl ?_
                exact TL.nil (X.back (m' := m18) [0, 0] (by omega) ⟨y11, k14 + 1, rfl, rfl, h⟩ (by rfl) (by rfl))
          · replace h := ifF c22 h
            refine TL.nil (X.seq (T.seq ?_))
            refine T.no rfl (decide_eq_false c22) ?_
            obtain rfl := Option.some.inj h
            replace h := hO17
            clear hO17
            try dsimp only at h
            obtain ⟨st41, hx42, h⟩ := Option.bind_eq_some_iff.1 h
            refine T.exit (X.exs (X.exs (X.ex (X.seq (T.seq (T.region rfl ?_))))))
            refine TL.cge rfl .u (.fn Try.call53 rfl) (f_crc_New_spec _ hx42) (fun _ hs => (RX.reads_triv _ _)) rfl ?_
            rintro _ _ _ ⟨b43, rfl, rfl, rfl⟩
            refine TL.sel [0, 0, 0] rfl ?_
            refine TL.run ft_cursitorlaw05_ok [1] rfl rfl ?_
            obtain ⟨⟨x45, st46⟩, hx47, h⟩ := Option.bind_eq_some_iff.1 h
            try dsimp only at h
            obtain ⟨⟨x49, st50⟩, hx51, h⟩ := Option.bind_eq_some_iff.1 h
            try dsimp only at h
            by_cases c52 : x45 = x49
            · replace h := ifT c52 h
              by_cases c53 : a0 = (toBs y11)
              · replace h := ifT c53 h
                refine TL.nil (X.seq (T.seq ?_))
                refine T.join (fun e Rs => ∃ (b44 : Nat) (b48 : Nat), e = [(0, .string (bsOf a0)), (2, .int .u32 a2), (6, .bool true), (7, .slice (some ⟨b5, 0, none⟩) y11.length c6), (8, .int .i64 (8 * ((bsI a0).length : Int))), (9, .int .i64 (a1 % (8 * ((bsI a0).length : Int)))), (29, .int .i64 (k14 : Int)), (30, .bool (decide ((k14 : Int) < 32))), (56, .pointer (some ⟨b43, 0, none⟩))] ∧ Rs = [OwnR 9 1 strE (.slice (some ⟨b48, 0, none⟩) 1 1) [(toBs y11)], OwnR 9 1 strE (.slice (some ⟨b44, 0, none⟩) 1 1) [a0], TabR 144 b43 st50, BsR 5 b5 c6 y11, EmpR]) ?_ ?_
                · refine T.draw (.q 0 (.q 1 (.q 4 (.q 5 (.q 6 (.q 10 (.q 11 (.q 12 (.q 13 (.br 2 (.br 3 (.e 7 (.e 8 (.q 9 (.q 14 (.q 15 .nil))))) (.e 7 (.e 3 (.e 8 (.q 9 (.q 14 (.q 15 .nil))))))) (.e 7 (.e 2 (.e 3 (.e 8 (.q 9 (.q 14 (.q 15 .nil))))))))))))))))) [1, 1] rfl mix_cursitorlaw05 np_jq (by kernel_rfl) ?_
                  refine TD.run ft_cursitorlaw05_ok [0, 1, 4, 5] rfl rfl ?_
                  refine TD.q rfl .u (Ex.bsStr 0 rfl rfl Try.runUnderlying39 Try.runUnderlying9 Try.runUnderlying5 rfl) rfl ?_
                  refine TD.run ft_cursitorlaw05_ok [10, 11] rfl rfl ?_
                  refine TD.q rfl .u (Ex.bsStr 0 rfl rfl Try.runUnderlying39 Try.runUnderlying9 Try.runUnderlying5 rfl) rfl ?_
                  refine TD.q rfl .u (Ex.sEq rfl rfl) rfl ?_
                  refine TD.br ?_ ?_
                  · refine TD.lit (cells := #[.string (bsOf a0)]) rfl .u sok_cursitorlaw05_84_1 rfl (by rfl) rfl [2, 2] (fun _ => rfl) (fun b44 => ?_)
                    refine TD.rowOf (us := [.string (bsOf a0)]) (xs := [a0]) (E := strE) (z := 1) rfl (Nat.le_of_ble_eq_true rfl) (fun _ => ⟨rfl, rfl, rfl⟩) ?_
                    refine TD.br ?_ ?_
                    · refine TD.c1 rfl .u (.fn Try.call56 rfl) (f_crc_TableSum_spec b43 st41 [a0] _ _ _ hx47) (fun _ hs => (Src.res 0 rfl (fun w G h => own_reads (by decide) w G h))) rfl [2, 2] (rfl) ?_
                      refine TD.lit (cells := #[.string (bsOf (toBs y11))]) rfl .u sok_cursitorlaw05_84_1 rfl (by rfl) rfl [3, 3] (fun _ => rfl) (fun b48 => ?_)
                      refine TD.rowOf (us := [.string (bsOf (toBs y11))]) (xs := [(toBs y11)]) (E := strE) (z := 1) rfl (Nat.le_of_ble_eq_true rfl) (fun _ => ⟨rfl, rfl, rfl⟩) ?_
                      refine TD.c2 rfl .u (.fn Try.call56 rfl) (f_crc_TableSum_spec b43 st46 [(toBs y11)] _ _ _ hx51) (fun _ hs => (Src.res 0 rfl (fun w G h => own_reads (by decide) w G h))) rfl [3, 3] (rfl) ?_
                      refine TD.run ft_cursitorlaw05_ok [9] rfl rfl ?_
                      refine TD.q rfl .u (Ex.bEq rfl (decide_eq_true c52) rfl (decide_eq_true c53) Try.runUnderlying4) rfl ?_
                      refine TD.run ft_cursitorlaw05_ok [15] rfl rfl ?_
                      exact TD.nil (X.jn [0, 0, 0, 0, 0] ⟨b44, b48, rfl, rfl⟩ (by rfl) (by rfl))
                    · refine TD.lit (cells := #[.string (bsOf (toBs y11))]) rfl .u sok_cursitorlaw05_84_1 rfl (by rfl) rfl [3, 3] (fun _ => rfl) (fun b48 => ?_)
                      refine TD.rowOf (us := [.string (bsOf (toBs y11))]) (xs := [(toBs y11)]) (E := strE) (z := 1) rfl (Nat.le_of_ble_eq_true rfl) (fun _ => ⟨rfl, rfl, rfl⟩) ?_
                      refine TD.c2 rfl .u (.fn Try.call56 rfl) (f_crc_TableSum_spec b43 st41 [a0] _ _ _ hx47) (fun _ hs => (Src.res 1 rfl (fun w G h => own_reads (by decide) w G h))) rfl [3, 3] (rfl) ?_
                      refine TD.c2 rfl .u (.fn Try.call56 rfl) (f_crc_TableSum_spec b43 st46 [(toBs y11)] _ _ _ hx51) (fun _ hs => (Src.res 0 rfl (fun w G h => own_reads (by decide) w G h))) rfl [3, 3] (rfl) ?_
                      refine TD.run ft_cursitorlaw05_ok [9] rfl rfl ?_
                      refine TD.q rfl .u (Ex.bEq rfl (decide_eq_true c52) rfl (decide_eq_true c53) Try.runUnderlying4) rfl ?_
                      refine TD.run ft_cursitorlaw05_ok [15] rfl rfl ?_
                      exact TD.nil (X.jn [0, 0, 0, 0, 0] ⟨b44, b48, rfl, rfl⟩ (by rfl) (by rfl))
                  · refine TD.lit (cells := #[.string (bsOf (toBs y11))]) rfl .u sok_cursitorlaw05_84_1 rfl (by rfl) rfl [2, 2] (fun _ => rfl) (fun b48 => ?_)
                    refine TD.rowOf (us := [.string (bsOf (toBs y11))]) (xs := [(toBs y11)]) (E := strE) (z := 1) rfl (Nat.le_of_ble_eq_true rfl) (fun _ => ⟨rfl, rfl, rfl⟩) ?_
                    refine TD.lit (cells := #[.string (bsOf a0)]) rfl .u sok_cursitorlaw05_84_1 rfl (by rfl) rfl [3, 3] (fun _ => rfl) (fun b44 => ?_)
                    refine TD.rowOf (us := [.string (bsOf a0)]) (xs := [a0]) (E := strE) (z := 1) rfl (Nat.le_of_ble_eq_true rfl) (fun _ => ⟨rfl, rfl, rfl⟩) ?_
                    refine TD.c2 rfl .u (.fn Try.call56 rfl) (f_crc_TableSum_spec b43 st41 [a0] _ _ _ hx47) (fun _ hs => (Src.res 0 rfl (fun w G h => own_reads (by decide) w G h))) rfl [3, 3] (rfl) ?_
                    refine TD.c2 rfl .u (.fn Try.call56 rfl) (f_crc_TableSum_spec b43 st46 [(toBs y11)] _ _ _ hx51) (fun _ hs => (Src.res 1 rfl (fun w G h => own_reads (by decide) w G h))) rfl [3, 3] (rfl) ?_
                    refine TD.run ft_cursitorlaw05_ok [9] rfl rfl ?_
                    refine TD.q rfl .u (Ex.bEq rfl (decide_eq_true c52) rfl (decide_eq_true c53) Try.runUnderlying4) rfl ?_
                    refine TD.run ft_cursitorlaw05_ok [15] rfl rfl ?_
                    exact TD.nil (X.jn [1, 0, 0, 0, 0] ⟨b44, b48, rfl, rfl⟩ (by rfl) (by rfl))
                · rintro _ _ ⟨b44, b48, rfl, rfl⟩
                  obtain rfl := Option.some.inj h
                  exact X.seq (T.ret (X.done1 [4] Try.results10 (RV.tm rfl) ⟨rfl, rfl, rfl⟩ (by rfl) (.inl rfl)))
              · replace h := ifF c53 h
                exact nomatch h
            · replace h := ifF c52 h
              by_cases c54 : a0 = (toBs y11)
              · replace h := ifT c54 h
                exact nomatch h
              · replace h := ifF c54 h
                refine TL.nil (X.seq (T.seq ?_))
                refine T.join (fun e Rs => ∃ (b44 : Nat) (b48 : Nat), e = [(0, .string (bsOf a0)), (2, .int .u32 a2), (6, .bool true), (7, .slice (some ⟨b5, 0, none⟩) y11.length c6), (8, .int .i64 (8 * ((bsI a0).length : Int))), (9, .int .i64 (a1 % (8 * ((bsI a0).length : Int)))), (29, .int .i64 (k14 : Int)), (30, .bool (decide ((k14 : Int) < 32))), (56, .pointer (some ⟨b43, 0, none⟩))] ∧ Rs = [OwnR 9 1 strE (.slice (some ⟨b48, 0, none⟩) 1 1) [(toBs y11)], OwnR 9 1 strE (.slice (some ⟨b44, 0, none⟩) 1 1) [a0], TabR 144 b43 st50, BsR 5 b5 c6 y11, EmpR]) ?_ ?_
                · refine T.draw (.q 0 (.q 1 (.q 4 (.q 5 (.q 6 (.q 10 (.q 11 (.q 12 (.q 13 (.br 2 (.br 3 (.e 7 (.e 8 (.q 9 (.q 14 (.q 15 .nil))))) (.e 7 (.e 3 (.e 8 (.q 9 (.q 14 (.q 15 .nil))))))) (.e 7 (.e 2 (.e 3 (.e 8 (.q 9 (.q 14 (.q 15 .nil))))))))))))))))) [1, 1] rfl mix_cursitorlaw05 np_jq (by kernel_rfl) ?_
                  refine TD.run ft_cursitorlaw05_ok [0, 1, 4, 5] rfl rfl ?_
                  refine TD.q rfl .u (Ex.bsStr 0 rfl rfl Try.runUnderlying39 Try.runUnderlying9 Try.runUnderlying5 rfl) rfl ?_
                  refine TD.run ft_cursitorlaw05_ok [10, 11] rfl rfl ?_
                  refine TD.q rfl .u (Ex.bsStr 0 rfl rfl Try.runUnderlying39 Try.runUnderlying9 Try.runUnderlying5 rfl) rfl ?_
                  refine TD.q rfl .u (Ex.sEq rfl rfl) rfl ?_
                  refine TD.br ?_ ?_
                  · refine TD.lit (cells := #[.string (bsOf a0)]) rfl .u sok_cursitorlaw05_84_1 rfl (by rfl) rfl [2, 2] (fun _ => rfl) (fun b44 => ?_)
                    refine TD.rowOf (us := [.string (bsOf a0)]) (xs := [a0]) (E := strE) (z := 1) rfl (Nat.le_of_ble_eq_true rfl) (fun _ => ⟨rfl, rfl, rfl⟩) ?_
                    refine TD.br ?_ ?_
                    · refine TD.c1 rfl .u (.fn Try.call56 rfl) (f_crc_TableSum_spec b43 st41 [a0] _ _ _ hx47) (fun _ hs => (Src.res 0 rfl (fun w G h => own_reads (by decide) w G h))) rfl [2, 2] (rfl) ?_
                      refine TD.lit (cells := #[.string (bsOf (toBs y11))]) rfl .u sok_cursitorlaw05_84_1 rfl (by rfl) rfl [3, 3] (fun _ => rfl) (fun b48 => ?_)
                      refine TD.rowOf (us := [.string (bsOf (toBs y11))]) (xs := [(toBs y11)]) (E := strE) (z := 1) rfl (Nat.le_of_ble_eq_true rfl) (fun _ => ⟨rfl, rfl, rfl⟩) ?_
                      refine TD.c2 rfl .u (.fn Try.call56 rfl) (f_crc_TableSum_spec b43 st46 [(toBs y11)] _ _ _ hx51) (fun _ hs => (Src.res 0 rfl (fun w G h => own_reads (by decide) w G h))) rfl [3, 3] (rfl) ?_
                      refine TD.run ft_cursitorlaw05_ok [9] rfl rfl ?_
                      refine TD.q rfl .u (Ex.bEq rfl (decide_eq_false c52) rfl (decide_eq_false c54) Try.runUnderlying4) rfl ?_
                      refine TD.run ft_cursitorlaw05_ok [15] rfl rfl ?_
                      exact TD.nil (X.jn [0, 0, 0, 0, 0] ⟨b44, b48, rfl, rfl⟩ (by rfl) (by rfl))
                    · refine TD.lit (cells := #[.string (bsOf (toBs y11))]) rfl .u sok_cursitorlaw05_84_1 rfl (by rfl) rfl [3, 3] (fun _ => rfl) (fun b48 => ?_)
                      refine TD.rowOf (us := [.string (bsOf (toBs y11))]) (xs := [(toBs y11)]) (E := strE) (z := 1) rfl (Nat.le_of_ble_eq_true rfl) (fun _ => ⟨rfl, rfl, rfl⟩) ?_
                      refine TD.c2 rfl .u (.fn Try.call56 rfl) (f_crc_TableSum_spec b43 st41 [a0] _ _ _ hx47) (fun _ hs => (Src.res 1 rfl (fun w G h => own_reads (by decide) w G h))) rfl [3, 3] (rfl) ?_
                      refine TD.c2 rfl .u (.fn Try.call56 rfl) (f_crc_TableSum_spec b43 st46 [(toBs y11)] _ _ _ hx51) (fun _ hs => (Src.res 0 rfl (fun w G h => own_reads (by decide) w G h))) rfl [3, 3] (rfl) ?_
                      refine TD.run ft_cursitorlaw05_ok [9] rfl rfl ?_
                      refine TD.q rfl .u (Ex.bEq rfl (decide_eq_false c52) rfl (decide_eq_false c54) Try.runUnderlying4) rfl ?_
                      refine TD.run ft_cursitorlaw05_ok [15] rfl rfl ?_
                      exact TD.nil (X.jn [0, 0, 0, 0, 0] ⟨b44, b48, rfl, rfl⟩ (by rfl) (by rfl))
                  · refine TD.lit (cells := #[.string (bsOf (toBs y11))]) rfl .u sok_cursitorlaw05_84_1 rfl (by rfl) rfl [2, 2] (fun _ => rfl) (fun b48 => ?_)
                    refine TD.rowOf (us := [.string (bsOf (toBs y11))]) (xs := [(toBs y11)]) (E := strE) (z := 1) rfl (Nat.le_of_ble_eq_true rfl) (fun _ => ⟨rfl, rfl, rfl⟩) ?_
                    refine TD.lit (cells := #[.string (bsOf a0)]) rfl .u sok_cursitorlaw05_84_1 rfl (by rfl) rfl [3, 3] (fun _ => rfl) (fun b44 => ?_)
                    refine TD.rowOf (us := [.string (bsOf a0)]) (xs := [a0]) (E := strE) (z := 1) rfl (Nat.le_of_ble_eq_true rfl) (fun _ => ⟨rfl, rfl, rfl⟩) ?_
                    refine TD.c2 rfl .u (.fn Try.call56 rfl) (f_crc_TableSum_spec b43 st41 [a0] _ _ _ hx47) (fun _ hs => (Src.res 0 rfl (fun w G h => own_reads (by decide) w G h))) rfl [3, 3] (rfl) ?_
                    refine TD.c2 rfl .u (.fn Try.call56 rfl) (f_crc_TableSum_spec b43 st46 [(toBs y11)] _ _ _ hx51) (fun _ hs => (Src.res 1 rfl (fun w G h => own_reads (by decide) w G h))) rfl [3, 3] (rfl) ?_
                    refine TD.run ft_cursitorlaw05_ok [9] rfl rfl ?_
                    refine TD.q rfl .u (Ex.bEq rfl (decide_eq_false c52) rfl (decide_eq_false c54) Try.runUnderlying4) rfl ?_
                    refine TD.run ft_cursitorlaw05_ok [15] rfl rfl ?_
                    exact TD.nil (X.jn [1, 0, 0, 0, 0] ⟨b44, b48, rfl, rfl⟩ (by rfl) (by rfl))
                · rintro _ _ ⟨b44, b48, rfl, rfl⟩
                  obtain rfl := Option.some.inj h
                  exact X.seq (T.ret (X.done1 [4] Try.results10 (RV.tm rfl) ⟨rfl, rfl, rfl⟩ (by rfl) (.inl rfl)))
  · replace h := ifF c3 h
    replace c3 := eq_false_of_ne_true c3
    refine TL.nil (X.seq ?_)
    refine T.yes rfl (bn_t c3) ?_
    exact nomatch h
end Go.Proofs.Ytpiiopppbgpbpaa.Sl
namespace Go.Proofs.Ytpiiopppbgpbpaa.Sl
open Go.RowKit
set_option linter.unusedVariables false
set_option linter.unusedSimpArgs false
theorem l05_speaks : f_l05_speaks = some true := by
  unfold f_l05_speaks
  rw [crc_new, Option.bind_some, crc_sum [[49, 50, 51, 52], [53, 54, 55, 56, 57]] (by intro s hs; simp at hs; rcases hs with rfl | rfl <;> decide), Option.bind_some]
  dsimp only
  rw [show crcM 0 [[49, 50, 51, 52], [53, 54, 55, 56, 57]].flatten = 3808858755 by decide +kernel, show (if ((3808858755 : Nat) : Int) = 3808858755 then (f_crc_TableSum crcTab []).bind fun x => if x.1 = 0 then some (true, x.2) else some (false, x.2) else some (false, crcTab)) = (f_crc_TableSum crcTab []).bind fun x => if x.1 = 0 then some (true, x.2) else some (false, x.2) from if_pos rfl, crc_sum [] (by intro s hs; cases hs), Option.bind_some]
  dsimp only
  rw [show crcM 0 [].flatten = 0 by decide +kernel]
  rfl
end Go.Proofs.Ytpiiopppbgpbpaa.Sl
namespace Go.Proofs.Ytpiiopppbgpbpaa.Sl
open Go.RowKit
set_option linter.unusedVariables false
set_option linter.unusedSimpArgs false
theorem toBs_bsI (l : List UInt8) : toBs (bsI l) = l := by
  unfold toBs bsI
  rw [List.map_map]
  conv => rhs; rw [← List.map_id l]
  apply List.map_congr_left
  intro c _
  simp
theorem bsI_set (l : List UInt8) (k : Nat) (c : UInt8) : (bsI l).set k (c.toNat : Int) = bsI (l.set k c) := by
  unfold bsI
  rw [List.map_set]
theorem bsI_get {l : List UInt8} {k : Nat} (h : k < l.length) : (bsI l)[k]? = some (l[k].toNat : Int) := by
  unfold bsI
  rw [List.getElem?_map, List.getElem?_eq_getElem h]
  rfl
theorem pow_xor (k a b : Nat) : 2 ^ k * (a ^^^ b) = 2 ^ k * a ^^^ 2 ^ k * b := by
  apply Nat.eq_of_testBit_eq
  intro i
  simp only [Nat.testBit_xor, Nat.testBit_two_pow_mul]
  by_cases h : i ≥ k <;> simp [h]
theorem leN_cons (c : UInt8) (l : List UInt8) : leN (c :: l) = c.toNat ^^^ 2 ^ 8 * leN l := nat_add_xor c.toNat_lt _
theorem leN_set : ∀ (l : List UInt8) (k : Nat) (c : UInt8) (b : Nat), l[k]? = some c → b < 256 → leN (l.set k (UInt8.ofNat (c.toNat ^^^ b))) = leN l ^^^ 2 ^ (8 * k) * b
  | [], k, c, b, h, _ => by simp at h
  | a :: l, 0, c, b, h, hb => by
    obtain rfl : a = c := by simpa using h
    have hx : a.toNat ^^^ b < 256 := Nat.xor_lt_two_pow (n := 8) a.toNat_lt hb
    have e : (UInt8.ofNat (a.toNat ^^^ b)).toNat = a.toNat ^^^ b := by rw [UInt8.toNat_ofNat', Nat.mod_eq_of_lt hx]
    rw [List.set_cons_zero, leN_cons, leN_cons, e, Nat.mul_zero, Nat.pow_zero, Nat.one_mul]
    ac_rfl
  | a :: l, k + 1, c, b, h, hb => by
    rw [List.set_cons_succ, leN_cons, leN_cons, leN_set l k c b (by simpa using h) hb, pow_xor, show 2 ^ 8 * (2 ^ (8 * k) * b) = 2 ^ (8 * (k + 1)) * b by rw [← Nat.mul_assoc, ← Nat.pow_add, show 8 + 8 * k = 8 * (k + 1) by omega]]
    ac_rfl
theorem leN_inj : ∀ {l m : List UInt8}, l.length = m.length → leN l = leN m → l = m
  | [], [], _, _ => rfl
  | a :: l, b :: m, h, e => by
    have e' : a.toNat + 256 * leN l = b.toNat + 256 * leN m := e
    have ha := a.toNat_lt
    have hb := b.toNat_lt
    have h1 : a.toNat = b.toNat := by omega
    have h2 : leN l = leN m := by omega
    rw [UInt8.toNat_inj.1 h1, leN_inj (by simpa using h) h2]
  | [], _ :: _, h, _ => nomatch h
  | _ :: _, [], h, _ => nomatch h
theorem burst_iff {s t : List UInt8} (hl : s.length = t.length) {d k : Nat} (hd : d < 2 ^ 32) (hk : k ≤ 8 * s.length) (h : leN t = leN s ^^^ 2 ^ k * d) : (crcM 0 s = crcM 0 t ↔ d = 0) ∧ (s = t ↔ d = 0) := by
  have h0 : leN s ^^^ leN t = 2 ^ k * d := by rw [h, ← Nat.xor_assoc, Nat.xor_self, Nat.zero_xor]
  have hst : d = 0 → s = t := fun e => leN_inj hl (by rw [h, e, Nat.mul_zero, Nat.xor_zero])
  refine ⟨⟨fun he => crcM_burst hl hd hk h0 he, fun e => by rw [hst e]⟩, ⟨fun e => ?_, hst⟩⟩
  subst e
  rw [Nat.xor_self] at h0
  rcases Nat.mul_eq_zero.1 h0.symm with q | q
  · exact absurd q (Nat.ne_of_gt (Nat.pow_pos (by decide)))
  · exact q
theorem shl1 (j : Nat) (hj : j < 8) : shlK .u8 1 (j : Int) = ((2 ^ j : Nat) : Int) := by
  have : j = 0 ∨ j = 1 ∨ j = 2 ∨ j = 3 ∨ j = 4 ∨ j = 5 ∨ j = 6 ∨ j = 7 := by omega
  rcases this with rfl | rfl | rfl | rfl | rfl | rfl | rfl | rfl <;> decide
theorem bu_l1 (s : List UInt8) (a1 : Int) (M f : Nat) (hs : s.length ≤ 2000) (hf : a1 % (8 * ((bsI s).length : Int)) = (f : Int)) (hfl : f < 8 * s.length) (hM : M < 4294967296) : ∀ (m k : Nat) (t : List UInt8) (D : Nat), k ≤ 32 → 32 - k < m → t.length = s.length → D < 2 ^ k → leN t = leN s ^^^ 2 ^ f * D →
    ∃ (t' : List UInt8) (D' : Nat), f_l05_CrcBursts_l1 s a1 (M : Int) m (bsI t) k = some (bsI t', 32) ∧ t'.length = s.length ∧ D' < 2 ^ 32 ∧ leN t' = leN s ^^^ 2 ^ f * D'
  | 0, _, _, _, _, h, _, _, _ => by omega
  | m + 1, k, t, D, hk, hm, ht, hD, hle => by
    rw [f_l05_CrcBursts_l1, hf, bsI_length]
    by_cases h : k < 32
    · rw [if_pos (by omega), if_pos (by omega)]
      have keep : ∃ (t' : List UInt8) (D' : Nat), f_l05_CrcBursts_l1 s a1 (M : Int) m (bsI t) (k + 1) = some (bsI t', 32) ∧ t'.length = s.length ∧ D' < 2 ^ 32 ∧ leN t' = leN s ^^^ 2 ^ f * D' :=
        bu_l1 s a1 M f hs hf hfl hM m (k + 1) t D (by omega) (by omega) ht (Nat.lt_of_lt_of_le hD (Nat.pow_le_pow_right (by decide) (by omega))) hle
      have e1 : shrK .u32 (M : Int) (k : Int) = ((M / 2 ^ k : Nat) : Int) := by
        show Int.fdiv (M : Int) (2 ^ min (k : Int).toNat 32) = _
        rw [Int.toNat_natCast, Nat.min_eq_left (by omega), Int.fdiv_eq_ediv_of_nonneg _ (Int.le_of_lt (Int.pow_pos (by decide))), show ((2 : Int) ^ k) = ((2 ^ k : Nat) : Int) by rw [Int.natCast_pow]; rfl, ← Int.natCast_ediv]
      have e2 : M / 2 ^ k < 4294967296 := Nat.lt_of_le_of_lt (Nat.div_le_self _ _) hM
      rw [if_pos (by omega), e1, and1_u32 _ e2]
      by_cases c1 : (((M / 2 ^ k % 2 : Nat) : Int) = 1)
      · rw [if_pos c1]
        by_cases c2 : (f : Int) + (k : Int) < 8 * (s.length : Int)
        · have hp : (f + k) / 8 < t.length := by omega
          have hj : (f + k) % 8 < 8 := by omega
          have g1 := bsI_get hp
          have hb : 2 ^ ((f + k) % 8) < 256 := Nat.lt_of_lt_of_le (Nat.pow_lt_pow_right (by decide) hj) (by decide)
          have hx : t[(f + k) / 8].toNat ^^^ 2 ^ ((f + k) % 8) < 256 := Nat.xor_lt_two_pow (n := 8) t[(f + k) / 8].toNat_lt hb
          have e3 : Go.bits .xor .u8 (t[(f + k) / 8].toNat : Int) (shlK .u8 1 (((f : Int) + (k : Int)) % 8)) = ((UInt8.ofNat (t[(f + k) / 8].toNat ^^^ 2 ^ ((f + k) % 8))).toNat : Int) := by
            rw [show ((f : Int) + (k : Int)) % 8 = (((f + k) % 8 : Nat) : Int) by omega, shl1 _ hj, xor_u8 _ _ t[(f + k) / 8].toNat_lt hb, UInt8.toNat_ofNat', Nat.mod_eq_of_lt hx]
          rw [if_pos c2, Option.bind_some, if_pos rfl, if_pos (by omega), if_pos (by omega), show (((f : Int) + (k : Int)) / 8).toNat = (f + k) / 8 by omega, g1, Option.bind_some, if_pos (by omega), if_pos (by omega), if_pos (by omega), if_pos (by omega), e3, bsI_set]
          refine bu_l1 s a1 M f hs hf hfl hM m (k + 1) _ (D ^^^ 2 ^ k) (by omega) (by omega) (by rw [List.length_set]; exact ht) (Nat.xor_lt_two_pow (Nat.lt_of_lt_of_le hD (Nat.pow_le_pow_right (by decide) (by omega))) (Nat.pow_lt_pow_right (by decide) (by omega))) ?_
          rw [leN_set t _ _ _ (List.getElem?_eq_getElem hp) hb, hle, pow_xor, ← Nat.pow_add, ← Nat.pow_add, show 8 * ((f + k) / 8) + (f + k) % 8 = f + k by omega, Nat.xor_assoc]
        · rw [if_neg c2, Option.bind_some, if_neg (by decide), if_pos (by omega)]
          exact keep
      · rw [if_neg c1, Option.bind_some, if_neg (by decide), if_pos (by omega)]
        exact keep
    · have : k = 32 := by omega
      subst this
      rw [if_neg (by omega)]
      exact ⟨t, D, rfl, ht, hD, hle⟩
theorem pure_CrcBursts (a0 : List UInt8) (a1 : Int) (a2 : Int) (w0 : a0.length ≤ 140737488351232) (w1 : 0 ≤ a1 ∧ a1 ≤ 65535) (w2 : 0 ≤ a2 ∧ a2 ≤ 4294967295) : f_l05_CrcBursts a0 a1 a2 = some true := by
  obtain ⟨M, rfl⟩ : ∃ M : Nat, a2 = (M : Int) := ⟨a2.toNat, by omega⟩
  unfold f_l05_CrcBursts
  rw [l05_speaks, Option.bind_some, if_pos rfl]
  by_cases c1 : (a0.length : Int) > 2000
  · rw [if_pos c1]
  rw [if_neg c1, bsI_length, if_pos (by omega)]
  by_cases c2 : 8 * (a0.length : Int) = 0
  · rw [if_pos c2]
  have hr : 0 ≤ a1 % (8 * (a0.length : Int)) ∧ a1 % (8 * (a0.length : Int)) < 8 * (a0.length : Int) := ⟨Int.emod_nonneg _ c2, Int.emod_lt_of_pos _ (by omega)⟩
  obtain ⟨f, hf⟩ : ∃ f : Nat, a1 % (8 * (a0.length : Int)) = (f : Int) := ⟨(a1 % (8 * (a0.length : Int))).toNat, by omega⟩
  have hfl : f < 8 * a0.length := by omega
  rw [if_neg c2, if_pos (by omega), if_pos (by omega)]
  obtain ⟨t, D, r1, r2, r3, r4⟩ := bu_l1 a0 a1 M f (by omega) (by rw [bsI_length]; exact hf) hfl (by omega) 33 0 a0 0 (by omega) (by omega) rfl (by decide) (by rw [Nat.mul_zero, Nat.xor_zero])
  rw [show (32 : Int).toNat + 1 = 33 from rfl, r1, Option.bind_some]
  dsimp only
  rw [crc_new, Option.bind_some, crc_sum [a0] (by intro s hs; rw [List.mem_singleton.1 hs]; omega), Option.bind_some]
  dsimp only
  rw [toBs_bsI, crc_sum [t] (by intro s hs; rw [List.mem_singleton.1 hs]; omega), Option.bind_some]
  dsimp only
  rw [show [a0].flatten = a0 by simp, show [t].flatten = t by simp]
  obtain ⟨b1, b2⟩ := burst_iff r2.symm r3 (Nat.le_of_lt hfl) r4
  by_cases hD : D = 0
  · rw [if_pos (congrArg (fun n : Nat => (n : Int)) (b1.2 hD)), if_pos (b2.2 hD)]
  · rw [if_neg (fun e => hD (b1.1 (Int.ofNat_inj.1 e))), if_neg (fun e => hD (b2.1 e))]
end Go.Proofs.Ytpiiopppbgpbpaa.Sl
namespace Go.Proofs.Ytpiiopppbgpbpaa.crcBursts
open Go.ChangeShapes Go.WideShapes Go.ChangeAt Go.RowKit
open Go.ChangeMaps (open_string shut_string)
set_option linter.unusedVariables false
theorem own : ownKnob Try.prog.godebug = none := by kernel_rfl
set_option maxRecDepth 100000 in
set_option maxHeartbeats 1000000 in
theorem lifted (os : Os) (started : os.Started) (H : Type) (enc : TypeId × Value → H) :
    ReturnsInHanded {} Try.checked os 10 .any (Rows.crcBurstsSpec.pre6 enc Try.prog Try.f10 Rows.crcBurstsRow.domain false) (Rows.crcBurstsSpec.post enc Try.prog Try.f10 false true false false) := by
  refine returnsInHanded_of_change_sized (C := Try.checked) own started (by kernel_rfl) Try.func10
    (ChangeSpec.witness6 (enc := enc) (C := Try.checked) false ⟨#[], #[.string ByteArray.empty, .int .u16 0, .int .u32 0], []⟩ 8 (by kernel_rfl) (by kernel_rfl) (by kernel_rfl) (by kernel_rfl)) ?_
  intro W base args ds gs before hval0 hW hcnd hsz0 _
  have hsz : (DataW.weightsEach Try.prog (Try.f10.params.toList ++ Rows.crcBurstsSpec.plain.varTypes Try.prog) (ds ++ gs)).all (· ≤ reachBytes) = true := hsz0
  have hval : ∀ (j : Nat) t v, Try.f10.params[j]? = some t → args[j]? = some v → Value.okWide Try.prog W .any base t v := hval0
  have hW' := hW
  obtain ⟨p, q, hA0, hV, rfl, hfz, hnd⟩ := hW
  have hA : DataW.TrodAll enc Try.prog W 0 (fun _ => true) true Try.f10.params.toList args.toList ds p := hA0
  rw [Try.params10] at hA hval hsz
  obtain ⟨v0, vs0, d0, ds0, p0, q0, hargs, rfl, rfl, h0, r0⟩ := trodAll_cons hA
  obtain ⟨v1, vs1, d1, ds1, p1, q1, rfl, rfl, rfl, h1, r1⟩ := trodAll_cons r0
  obtain ⟨v2, vs2, d2, ds2, p2, q2, rfl, rfl, rfl, h2, r2⟩ := trodAll_cons r1
  obtain ⟨rfl, rfl, rfl⟩ := trodAll_nil r2
  obtain rfl : args = #[v0, v1, v2] := by cases args; simp_all
  obtain ⟨rfl, rfl⟩ := trodVars_none hV
  obtain ⟨s0, rfl, rfl, rfl, y0⟩ := open_string Try.underlying9 (hval 0 9 v0 rfl rfl) h0
  have z0 : s0.size ≤ 140737488351232 := by
    have z := sized_string hsz (j := 0) (t := 9) rfl rfl
    rw [Array.length_toList] at z
    exact z
  obtain ⟨a0, rfl⟩ := Sl.bsOf_of s0
  have w0 : a0.length ≤ 140737488351232 := by rwa [Sl.bsOf_size] at z0
  obtain ⟨a1, rfl, rfl, rfl, u1⟩ := open_int Try.underlying79 (hval 1 79 v1 rfl rfl) h1
  have w1 := Go.bounds_u16 u1
  obtain ⟨a2, rfl, rfl, rfl, u2⟩ := open_int Try.underlying87 (hval 2 87 v2 rfl rfl) h2
  have w2 := Go.bounds_u32 u2
  clear hA0 hval0 hsz0 hsz
  refine (Sl.f_l05_CrcBursts_spec a0 a1 a2 true (Sl.pure_CrcBursts a0 a1 a2 w0 w1 w2) (fun _ => False) W (fun _ h => h) (Sl.RX.reads_triv _ _)).mono fun e W' hP => ?_
  obtain ⟨v, A', Ns, rfl, ⟨rfl, rfl, rfl⟩, hst⟩ := hP
  have bel := Sl.St.below hst
  exact ⟨_, rfl, _, _, _, [], _, [], hW', trodAll_mk1 (shut_bool Try.underlying4 _), (trodAll_cons_mk (shut_string Try.underlying9 y0) (trodAll_cons_mk (shut_int Try.underlying79 u1) (trodAll_cons_mk (shut_int Try.underlying87 u2) trodAll_mk0))), rfl, bel.frame _, fun h => by cases h⟩
theorem over : Rows.crcBurstsRow.holds Try.pinned (OpenSpec.ofChange Rows.crcBurstsSpec) :=
  OpenClaim.holds_of_wide 10 Try.f10 rfl rfl rfl rfl rfl rfl rfl ⟨rfl, rfl, rfl, rfl, rfl⟩ rfl rfl rfl rfl rfl (by kernel_rfl) Try.func10 (by kernel_rfl)
    (of_decide_eq_true (by kernel_rfl)) (by unfold Func.isWrapper; first | (rw [if_pos (by decide +kernel)]; kernel_rfl) | (rw [if_neg (by decide +kernel)]; exact ⟨rfl, rfl⟩))
    (fun os started H enc _ => lifted os started H enc)
theorem proved : Rows.CrcBurstsSaid := over
end Go.Proofs.Ytpiiopppbgpbpaa.crcBursts
namespace Go.Proofs.Ytpiiopppbgpbpaa
theorem crcBursts_holds : Rows.CrcBurstsSaid := crcBursts.proved
end Go.Proofs.Ytpiiopppbgpbpaa
