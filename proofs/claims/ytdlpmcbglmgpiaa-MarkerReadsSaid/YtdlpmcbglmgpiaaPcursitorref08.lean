/- Printed by g2.py: package cursitorref08. -/
import Derived.Test.YtdlpmcbglmgpiaaGb
import Derived.Test.YtdlpmcbglmgpiaaNg
namespace Go.Proofs.Ytdlpmcbglmgpiaa.Sl
open Go.RowKit
set_option linter.unusedVariables false
set_option linter.unusedSimpArgs false
set_option maxRecDepth 100000
def ft_cursitorref08 : FTab := [(26, 0, 0), (26, 1, 1), (96, 1, 1), (96, 2, 2), (96, 3, 4), (96, 4, 6)]
theorem ft_cursitorref08_ok : (ft_cursitorref08).OK Try.prog := ⟨FOK.mk Try.runUnderlying26 rfl Try.sizeOf4 rfl, FOK.mk Try.runUnderlying26 rfl Try.sizeOf9 rfl, FOK.mk Try.runUnderlying96 rfl Try.sizeOf3 rfl, FOK.mk Try.runUnderlying96 rfl Try.sizeOf26 rfl, FOK.mk Try.runUnderlying96 rfl Try.sizeOf26 rfl, FOK.mk Try.runUnderlying96 rfl Try.sizeOf48 rfl, trivial⟩
def f_r08_ReadKey (a0 : List UInt8) : Option (Int × Int) := if (a0.length : Int) < 2 then some (0, 1) else (if 2 ≤ a0.length then ((gRInt (a0.take 2)).bind fun x3 => if x3 = 0 then (if (a0.length : Int) < 4 then some (0, 1) else (if 4 ≤ a0.length then ((gRInt ((a0.drop 2).take 2)).bind fun x8 => if x8 = 0 then (if (a0.length : Int) > 4 then some (0, 2) else some (x8, 0)) else (if x8 = 1 then (if (a0.length : Int) > 4 then some (0, 2) else some (x8, 0)) else some (0, 12))) else none)) else some (0, 7)) else none)
set_option maxRecDepth 100000 in
set_option maxHeartbeats 4000000 in
theorem f_r08_ReadKey_spec (a0 : List UInt8) (r : Int × Int) (h : f_r08_ReadKey a0 = some r) : SpecX Try.prog 109 #[.string (bsOf a0)] .triv (EmpR) (fun v A' N => v = .tuple #[.int .i64 r.1, .int .i64 r.2] ∧ A' = EmpR ∧ N = []) := by
  refine enterA Try.func109 rfl Try.ntmps109 rfl ?_
  intro F w hX
  unfold f_r08_ReadKey at h
  refine T.seq (T.region rfl ?_)
  refine TL.run ft_cursitorref08_ok [0, 1] rfl rfl ?_
  refine TL.nil (X.seq (T.seq (T.seq (T.region rfl ?_))))
  refine TL.run ft_cursitorref08_ok [0] rfl rfl ?_
  refine TL.q rfl .u (Ex.lenB rfl Try.runUnderlying9) rfl ?_
  refine TL.run ft_cursitorref08_ok [2] rfl rfl ?_
  by_cases c1 : (a0.length : Int) < 2
  · replace h := ifT c1 h
    refine TL.nil (X.seq ?_)
    refine T.yes rfl (decide_eq_true c1) ?_
    refine T.seq (T.region rfl ?_)
    refine TL.run ft_cursitorref08_ok [0, 1] rfl rfl ?_
    obtain rfl := Option.some.inj h
    exact TL.nil (X.seq (T.ret (X.rs (X.done2 [0] Try.results109 (RV.tm rfl) (RV.tm rfl) ⟨rfl, rfl, rfl⟩ (by rfl) (.inl rfl)))))
  · replace h := ifF c1 h
    refine TL.nil (X.seq ?_)
    refine T.no rfl (decide_eq_false c1) ?_
    refine T.skip (X.seq (T.seq (T.seq (T.region rfl ?_))))
    replace h := guard_some h
    obtain ⟨c2, h⟩ := h
    refine TL.run ft_cursitorref08_ok [0] rfl rfl ?_
    refine TL.q rfl .u (Ex.sSl (p := 0) (q := 2) (m := (a0.take 2)) rfl Try.runUnderlying9 .none (.some rfl rfl) (by omega) (by simp)) rfl ?_
    obtain ⟨x3, hx4, h⟩ := Option.bind_eq_some_iff.1 h
    refine TL.ce rfl .u (.fn Try.call76 rfl) (SpecX.pure (fun w => gRInt_spec (a0.take 2) _ hx4 w)) (fun _ _ => RX.reads_triv _ _) rfl ?_
    refine TL.run ft_cursitorref08_ok [3] rfl rfl ?_
    by_cases c5 : x3 = 0
    · replace h := ifT c5 h
      refine TL.nil (X.seq ?_)
      refine T.no rfl (bn_f (decide_eq_true c5)) ?_
      refine T.skip (X.seq (T.seq (T.seq (T.region rfl ?_))))
      refine TL.run ft_cursitorref08_ok [0] rfl rfl ?_
      refine TL.q rfl .u (Ex.lenB rfl Try.runUnderlying9) rfl ?_
      refine TL.run ft_cursitorref08_ok [2] rfl rfl ?_
      by_cases c6 : (a0.length : Int) < 4
      · replace h := ifT c6 h
        refine TL.nil (X.seq ?_)
        refine T.yes rfl (decide_eq_true c6) ?_
        refine T.seq (T.region rfl ?_)
        refine TL.run ft_cursitorref08_ok [0, 1] rfl rfl ?_
        obtain rfl := Option.some.inj h
        exact TL.nil (X.seq (T.ret (X.rs (X.done2 [0] Try.results109 (RV.tm rfl) (RV.tm rfl) ⟨rfl, rfl, rfl⟩ (by rfl) (.inl rfl)))))
      · replace h := ifF c6 h
        refine TL.nil (X.seq ?_)
        refine T.no rfl (decide_eq_false c6) ?_
        refine T.skip (X.seq (T.seq (T.region rfl ?_)))
        replace h := guard_some h
        obtain ⟨c7, h⟩ := h
        refine TL.run ft_cursitorref08_ok [0] rfl rfl ?_
        refine TL.q rfl .u (Ex.sSl (p := 2) (q := 4) (m := ((a0.drop 2).take 2)) rfl Try.runUnderlying9 (.some rfl rfl) (.some rfl rfl) (by omega) rfl) rfl ?_
        obtain ⟨x8, hx9, h⟩ := Option.bind_eq_some_iff.1 h
        refine TL.ce rfl .u (.fn Try.call76 rfl) (SpecX.pure (fun w => gRInt_spec ((a0.drop 2).take 2) _ hx9 w)) (fun _ _ => RX.reads_triv _ _) rfl ?_
        refine TL.run ft_cursitorref08_ok [3] rfl rfl ?_
        refine TL.nil (X.seq (T.seq (T.seq (T.region rfl ?_))))
        by_cases c10 : x8 = 0
        · replace h := ifT c10 h
          refine TL.run ft_cursitorref08_ok [0, 1, 2] rfl rfl ?_
          refine TL.no rfl (.gn rfl rfl (bn_f (decide_eq_true c10))) rfl ?_
          refine TL.no rfl (.gn rfl rfl (bn_f (decide_eq_true c10))) rfl ?_
          refine TL.q rfl .u (Ex.pn rfl (bn_f (decide_eq_true c10)) rfl) rfl ?_
          refine TL.nil (X.seq ?_)
          refine T.no rfl rfl ?_
          refine T.skip (X.seq (T.seq (T.seq (T.region rfl ?_))))
          refine TL.run ft_cursitorref08_ok [0] rfl rfl ?_
          refine TL.q rfl .u (Ex.lenB rfl Try.runUnderlying9) rfl ?_
          refine TL.run ft_cursitorref08_ok [2] rfl rfl ?_
          by_cases c11 : (a0.length : Int) > 4
          · replace h := ifT c11 h
            refine TL.nil (X.seq ?_)
            refine T.yes rfl (decide_eq_true c11) ?_
            refine T.seq (T.region rfl ?_)
            refine TL.run ft_cursitorref08_ok [0, 1] rfl rfl ?_
            obtain rfl := Option.some.inj h
            exact TL.nil (X.seq (T.ret (X.rs (X.done2 [0] Try.results109 (RV.tm rfl) (RV.tm rfl) ⟨rfl, rfl, rfl⟩ (by rfl) (.inl rfl)))))
          · replace h := ifF c11 h
            refine TL.nil (X.seq ?_)
            refine T.no rfl (decide_eq_false c11) ?_
            refine T.skip (X.seq (T.seq (T.region rfl ?_)))
            refine TL.run ft_cursitorref08_ok [0, 1, 2] rfl rfl ?_
            obtain rfl := Option.some.inj h
            exact TL.nil (X.seq (T.ret (X.done2 [0] Try.results109 (RV.tm rfl) (RV.tm rfl) ⟨rfl, rfl, rfl⟩ (by rfl) (.inl rfl))))
        · replace h := ifF c10 h
          refine TL.run ft_cursitorref08_ok [0, 1, 2] rfl rfl ?_
          refine TL.q rfl (.g rfl rfl (bn_t (decide_eq_false c10))) (Ex.ft ft_cursitorref08_ok rfl) rfl ?_
          refine TL.q rfl (.g rfl rfl (bn_t (decide_eq_false c10))) (Ex.ft ft_cursitorref08_ok rfl) rfl ?_
          refine TL.q rfl .u (Ex.py rfl (bn_t (decide_eq_false c10)) rfl) rfl ?_
          by_cases c12 : x8 = 1
          · replace h := ifT c12 h
            refine TL.nil (X.seq ?_)
            refine T.no rfl (bn_f (decide_eq_true c12)) ?_
            refine T.skip (X.seq (T.seq (T.seq (T.region rfl ?_))))
            refine TL.run ft_cursitorref08_ok [0] rfl rfl ?_
            refine TL.q rfl .u (Ex.lenB rfl Try.runUnderlying9) rfl ?_
            refine TL.run ft_cursitorref08_ok [2] rfl rfl ?_
            by_cases c13 : (a0.length : Int) > 4
            · replace h := ifT c13 h
              refine TL.nil (X.seq ?_)
              refine T.yes rfl (decide_eq_true c13) ?_
              refine T.seq (T.region rfl ?_)
              refine TL.run ft_cursitorref08_ok [0, 1] rfl rfl ?_
              obtain rfl := Option.some.inj h
              exact TL.nil (X.seq (T.ret (X.rs (X.done2 [0] Try.results109 (RV.tm rfl) (RV.tm rfl) ⟨rfl, rfl, rfl⟩ (by rfl) (.inl rfl)))))
            · replace h := ifF c13 h
              refine TL.nil (X.seq ?_)
              refine T.no rfl (decide_eq_false c13) ?_
              refine T.skip (X.seq (T.seq (T.region rfl ?_)))
              refine TL.run ft_cursitorref08_ok [0, 1, 2] rfl rfl ?_
              obtain rfl := Option.some.inj h
              exact TL.nil (X.seq (T.ret (X.done2 [0] Try.results109 (RV.tm rfl) (RV.tm rfl) ⟨rfl, rfl, rfl⟩ (by rfl) (.inl rfl))))
          · replace h := ifF c12 h
            refine TL.nil (X.seq ?_)
            refine T.yes rfl (bn_t (decide_eq_false c12)) ?_
            refine T.seq (T.region rfl ?_)
            refine TL.run ft_cursitorref08_ok [0, 1] rfl rfl ?_
            obtain rfl := Option.some.inj h
            exact TL.nil (X.seq (T.ret (X.rs (X.done2 [0] Try.results109 (RV.tm rfl) (RV.tm rfl) ⟨rfl, rfl, rfl⟩ (by rfl) (.inl rfl)))))
    · replace h := ifF c5 h
      refine TL.nil (X.seq ?_)
      refine T.yes rfl (bn_t (decide_eq_false c5)) ?_
      refine T.seq (T.region rfl ?_)
      refine TL.run ft_cursitorref08_ok [0, 1] rfl rfl ?_
      obtain rfl := Option.some.inj h
      exact TL.nil (X.seq (T.ret (X.rs (X.done2 [0] Try.results109 (RV.tm rfl) (RV.tm rfl) ⟨rfl, rfl, rfl⟩ (by rfl) (.inl rfl)))))
def f_r08_ReadValue (a0 : List UInt8) : Option (Int × Int) := if (a0.length : Int) < 2 then some (0, 1) else (if 2 ≤ a0.length then ((gRInt (a0.take 2)).bind fun x3 => if x3 = 0 then (if (a0.length : Int) < 6 then some (0, 1) else (if 6 ≤ a0.length then ((gRInt ((a0.drop 2).take 4)).bind fun x8 => if x8 < 0 then some (0, 11) else (if (a0.length : Int) > 6 then some (0, 2) else some (x8, 0))) else none)) else some (0, 7)) else none)
set_option maxRecDepth 100000 in
set_option maxHeartbeats 4000000 in
theorem f_r08_ReadValue_spec (a0 : List UInt8) (r : Int × Int) (h : f_r08_ReadValue a0 = some r) : SpecX Try.prog 110 #[.string (bsOf a0)] .triv (EmpR) (fun v A' N => v = .tuple #[.int .i64 r.1, .int .i64 r.2] ∧ A' = EmpR ∧ N = []) := by
  refine enterA Try.func110 rfl Try.ntmps110 rfl ?_
  intro F w hX
  unfold f_r08_ReadValue at h
  refine T.seq (T.region rfl ?_)
  refine TL.run ft_cursitorref08_ok [0, 1] rfl rfl ?_
  refine TL.nil (X.seq (T.seq (T.seq (T.region rfl ?_))))
  refine TL.run ft_cursitorref08_ok [0] rfl rfl ?_
  refine TL.q rfl .u (Ex.lenB rfl Try.runUnderlying9) rfl ?_
  refine TL.run ft_cursitorref08_ok [2] rfl rfl ?_
  by_cases c1 : (a0.length : Int) < 2
  · replace h := ifT c1 h
    refine TL.nil (X.seq ?_)
    refine T.yes rfl (decide_eq_true c1) ?_
    refine T.seq (T.region rfl ?_)
    refine TL.run ft_cursitorref08_ok [0, 1] rfl rfl ?_
    obtain rfl := Option.some.inj h
    exact TL.nil (X.seq (T.ret (X.rs (X.done2 [0] Try.results110 (RV.tm rfl) (RV.tm rfl) ⟨rfl, rfl, rfl⟩ (by rfl) (.inl rfl)))))
  · replace h := ifF c1 h
    refine TL.nil (X.seq ?_)
    refine T.no rfl (decide_eq_false c1) ?_
    refine T.skip (X.seq (T.seq (T.seq (T.region rfl ?_))))
    replace h := guard_some h
    obtain ⟨c2, h⟩ := h
    refine TL.run ft_cursitorref08_ok [0] rfl rfl ?_
    refine TL.q rfl .u (Ex.sSl (p := 0) (q := 2) (m := (a0.take 2)) rfl Try.runUnderlying9 .none (.some rfl rfl) (by omega) (by simp)) rfl ?_
    obtain ⟨x3, hx4, h⟩ := Option.bind_eq_some_iff.1 h
    refine TL.ce rfl .u (.fn Try.call76 rfl) (SpecX.pure (fun w => gRInt_spec (a0.take 2) _ hx4 w)) (fun _ _ => RX.reads_triv _ _) rfl ?_
    refine TL.run ft_cursitorref08_ok [3] rfl rfl ?_
    by_cases c5 : x3 = 0
    · replace h := ifT c5 h
      refine TL.nil (X.seq ?_)
      refine T.no rfl (bn_f (decide_eq_true c5)) ?_
      refine T.skip (X.seq (T.seq (T.seq (T.region rfl ?_))))
      refine TL.run ft_cursitorref08_ok [0] rfl rfl ?_
      refine TL.q rfl .u (Ex.lenB rfl Try.runUnderlying9) rfl ?_
      refine TL.run ft_cursitorref08_ok [2] rfl rfl ?_
      by_cases c6 : (a0.length : Int) < 6
      · replace h := ifT c6 h
        refine TL.nil (X.seq ?_)
        refine T.yes rfl (decide_eq_true c6) ?_
        refine T.seq (T.region rfl ?_)
        refine TL.run ft_cursitorref08_ok [0, 1] rfl rfl ?_
        obtain rfl := Option.some.inj h
        exact TL.nil (X.seq (T.ret (X.rs (X.done2 [0] Try.results110 (RV.tm rfl) (RV.tm rfl) ⟨rfl, rfl, rfl⟩ (by rfl) (.inl rfl)))))
      · replace h := ifF c6 h
        refine TL.nil (X.seq ?_)
        refine T.no rfl (decide_eq_false c6) ?_
        refine T.skip (X.seq (T.seq (T.region rfl ?_)))
        replace h := guard_some h
        obtain ⟨c7, h⟩ := h
        refine TL.run ft_cursitorref08_ok [0] rfl rfl ?_
        refine TL.q rfl .u (Ex.sSl (p := 2) (q := 6) (m := ((a0.drop 2).take 4)) rfl Try.runUnderlying9 (.some rfl rfl) (.some rfl rfl) (by omega) rfl) rfl ?_
        obtain ⟨x8, hx9, h⟩ := Option.bind_eq_some_iff.1 h
        refine TL.ce rfl .u (.fn Try.call76 rfl) (SpecX.pure (fun w => gRInt_spec ((a0.drop 2).take 4) _ hx9 w)) (fun _ _ => RX.reads_triv _ _) rfl ?_
        refine TL.run ft_cursitorref08_ok [3] rfl rfl ?_
        refine TL.nil (X.seq (T.seq (T.seq (T.region rfl ?_))))
        refine TL.run ft_cursitorref08_ok [0, 1] rfl rfl ?_
        by_cases c10 : x8 < 0
        · replace h := ifT c10 h
          refine TL.nil (X.seq ?_)
          refine T.yes rfl (decide_eq_true c10) ?_
          refine T.seq (T.region rfl ?_)
          refine TL.run ft_cursitorref08_ok [0, 1] rfl rfl ?_
          obtain rfl := Option.some.inj h
          exact TL.nil (X.seq (T.ret (X.rs (X.done2 [0] Try.results110 (RV.tm rfl) (RV.tm rfl) ⟨rfl, rfl, rfl⟩ (by rfl) (.inl rfl)))))
        · replace h := ifF c10 h
          refine TL.nil (X.seq ?_)
          refine T.no rfl (decide_eq_false c10) ?_
          refine T.skip (X.seq (T.seq (T.seq (T.region rfl ?_))))
          refine TL.run ft_cursitorref08_ok [0] rfl rfl ?_
          refine TL.q rfl .u (Ex.lenB rfl Try.runUnderlying9) rfl ?_
          refine TL.run ft_cursitorref08_ok [2] rfl rfl ?_
          by_cases c11 : (a0.length : Int) > 6
          · replace h := ifT c11 h
            refine TL.nil (X.seq ?_)
            refine T.yes rfl (decide_eq_true c11) ?_
            refine T.seq (T.region rfl ?_)
            refine TL.run ft_cursitorref08_ok [0, 1] rfl rfl ?_
            obtain rfl := Option.some.inj h
            exact TL.nil (X.seq (T.ret (X.rs (X.done2 [0] Try.results110 (RV.tm rfl) (RV.tm rfl) ⟨rfl, rfl, rfl⟩ (by rfl) (.inl rfl)))))
          · replace h := ifF c11 h
            refine TL.nil (X.seq ?_)
            refine T.no rfl (decide_eq_false c11) ?_
            refine T.skip (X.seq (T.seq (T.region rfl ?_)))
            refine TL.run ft_cursitorref08_ok [0, 1, 2] rfl rfl ?_
            obtain rfl := Option.some.inj h
            exact TL.nil (X.seq (T.ret (X.done2 [0] Try.results110 (RV.tm rfl) (RV.tm rfl) ⟨rfl, rfl, rfl⟩ (by rfl) (.inl rfl))))
    · replace h := ifF c5 h
      refine TL.nil (X.seq ?_)
      refine T.yes rfl (bn_t (decide_eq_false c5)) ?_
      refine T.seq (T.region rfl ?_)
      refine TL.run ft_cursitorref08_ok [0, 1] rfl rfl ?_
      obtain rfl := Option.some.inj h
      exact TL.nil (X.seq (T.ret (X.rs (X.done2 [0] Try.results110 (RV.tm rfl) (RV.tm rfl) ⟨rfl, rfl, rfl⟩ (by rfl) (.inl rfl)))))
def f_r08_Read (a0 : Rec) : Option (Int × Int × Int) := if a0.fKey.null = true then some (0, 0, 12) else (if a0.fValue.null = true then some (0, 0, 12) else (if (a0.fHeaders.length : Int) > 0 then some (0, 0, 12) else (if a0.fOffset = 0 then ((f_r08_ReadKey a0.fKey.data).bind fun (x8, x9) => if x9 = 0 then ((f_r08_ReadValue a0.fValue.data).bind fun (x12, x13) => if x13 = 0 then some (x8, x12, 0) else some (0, 0, x13)) else some (0, 0, x9)) else some (0, 0, 12))))
set_option maxRecDepth 100000 in
set_option maxHeartbeats 4000000 in
theorem f_r08_Read_spec (a0 : Rec) (A1 : Option Addr) (c2 : Nat) (r : Int × Int × Int) (h : f_r08_Read a0 = some r) : SpecX Try.prog 55 #[.agg #[.int .i64 a0.fTime, .int .i64 a0.fOffset, .bool a0.fKey.null, .string (bsOf a0.fKey.data), .bool a0.fValue.null, .string (bsOf a0.fValue.data), .slice A1 a0.fHeaders.length c2]] (RX.of (sliceRd 3 Hd_rd) [.slice A1 a0.fHeaders.length c2] a0.fHeaders) (EmpR) (fun v A' N => v = .tuple #[.int .i64 r.1, .int .i64 r.2.1, .int .i64 r.2.2] ∧ A' = EmpR ∧ N = []) := by
  refine enterA Try.func55 rfl Try.ntmps55 rfl ?_
  intro F w hX
  unfold f_r08_Read at h
  refine T.seq (T.region rfl ?_)
  refine TL.box rfl .u rfl rfl (fun b3 => ?_)
  refine TL.run ft_cursitorref08_ok [1, 2, 3] rfl rfl ?_
  refine TL.nil (X.seq (T.seq (T.seq (T.region rfl ?_))))
  refine TL.run ft_cursitorref08_ok [0, 1] rfl rfl ?_
  refine TL.q rfl .u (Ex.b1 0 rfl Try.isAgg4 rfl rfl) rfl ?_
  by_cases c4 : a0.fKey.null = true
  · replace h := ifT c4 h
    refine TL.run ft_cursitorref08_ok [3] rfl rfl ?_
    refine TL.no rfl (.gn rfl rfl c4) rfl ?_
    refine TL.no rfl (.gn rfl rfl c4) rfl ?_
    refine TL.no rfl (.gn rfl rfl c4) rfl ?_
    refine TL.q rfl .u (Ex.py rfl c4 rfl) rfl ?_
    refine TL.run ft_cursitorref08_ok [8] rfl rfl ?_
    refine TL.no rfl (.gn rfl rfl rfl) rfl ?_
    refine TL.no rfl (.gn rfl rfl rfl) rfl ?_
    refine TL.no rfl (.gn rfl rfl rfl) rfl ?_
    refine TL.no rfl (.gn rfl rfl rfl) rfl ?_
    refine TL.q rfl .u (Ex.py rfl rfl rfl) rfl ?_
    refine TL.run ft_cursitorref08_ok [14] rfl rfl ?_
    refine TL.no rfl (.gn rfl rfl rfl) rfl ?_
    refine TL.no rfl (.gn rfl rfl rfl) rfl ?_
    refine TL.no rfl (.gn rfl rfl rfl) rfl ?_
    refine TL.q rfl .u (Ex.py rfl rfl rfl) rfl ?_
    refine TL.nil (X.seq ?_)
    refine T.yes rfl rfl ?_
    refine T.seq (T.region rfl ?_)
    refine TL.run ft_cursitorref08_ok [0, 1, 2] rfl rfl ?_
    obtain rfl := Option.some.inj h
    exact TL.nil (X.seq (T.ret (X.rs (X.done3 [1] Try.results55 (RV.tm rfl) (RV.tm rfl) (RV.tm rfl) ⟨rfl, rfl, rfl⟩ (by rfl) (.inl rfl)))))
  · replace h := ifF c4 h
    replace c4 := eq_false_of_ne_true c4
    refine TL.run ft_cursitorref08_ok [3] rfl rfl ?_
    refine TL.q rfl (.g rfl rfl c4) (Ex.ft ft_cursitorref08_ok rfl) rfl ?_
    refine TL.q rfl (.g rfl rfl c4) (Ex.ft ft_cursitorref08_ok rfl) rfl ?_
    refine TL.q rfl (.g rfl rfl c4) (Ex.b1 0 rfl Try.isAgg4 rfl rfl) rfl ?_
    refine TL.q rfl .u (Ex.pn rfl c4 rfl) rfl ?_
    by_cases c5 : a0.fValue.null = true
    · replace h := ifT c5 h
      refine TL.run ft_cursitorref08_ok [8] rfl rfl ?_
      refine TL.no rfl (.gn rfl rfl c5) rfl ?_
      refine TL.no rfl (.gn rfl rfl c5) rfl ?_
      refine TL.no rfl (.gn rfl rfl c5) rfl ?_
      refine TL.no rfl (.gn rfl rfl c5) rfl ?_
      refine TL.q rfl .u (Ex.py rfl c5 rfl) rfl ?_
      refine TL.run ft_cursitorref08_ok [14] rfl rfl ?_
      refine TL.no rfl (.gn rfl rfl rfl) rfl ?_
      refine TL.no rfl (.gn rfl rfl rfl) rfl ?_
      refine TL.no rfl (.gn rfl rfl rfl) rfl ?_
      refine TL.q rfl .u (Ex.py rfl rfl rfl) rfl ?_
      refine TL.nil (X.seq ?_)
      refine T.yes rfl rfl ?_
      refine T.seq (T.region rfl ?_)
      refine TL.run ft_cursitorref08_ok [0, 1, 2] rfl rfl ?_
      obtain rfl := Option.some.inj h
      exact TL.nil (X.seq (T.ret (X.rs (X.done3 [1] Try.results55 (RV.tm rfl) (RV.tm rfl) (RV.tm rfl) ⟨rfl, rfl, rfl⟩ (by rfl) (.inl rfl)))))
    · replace h := ifF c5 h
      replace c5 := eq_false_of_ne_true c5
      refine TL.run ft_cursitorref08_ok [8] rfl rfl ?_
      refine TL.q rfl (.g rfl rfl c5) (Ex.ft ft_cursitorref08_ok rfl) rfl ?_
      refine TL.q rfl (.g rfl rfl c5) (Ex.b1 0 rfl Try.isAgg48 rfl rfl) rfl ?_
      refine TL.q rfl (.g rfl rfl c5) (Ex.lenS rfl Try.runUnderlying48) rfl ?_
      refine TL.q rfl (.g rfl rfl c5) (Ex.ft ft_cursitorref08_ok rfl) rfl ?_
      refine TL.q rfl .u (Ex.pn rfl c5 rfl) rfl ?_
      by_cases c6 : (a0.fHeaders.length : Int) > 0
      · replace h := ifT c6 h
        refine TL.run ft_cursitorref08_ok [14] rfl rfl ?_
        refine TL.no rfl (.gn rfl rfl (decide_eq_true c6)) rfl ?_
        refine TL.no rfl (.gn rfl rfl (decide_eq_true c6)) rfl ?_
        refine TL.no rfl (.gn rfl rfl (decide_eq_true c6)) rfl ?_
        refine TL.q rfl .u (Ex.py rfl (decide_eq_true c6) rfl) rfl ?_
        refine TL.nil (X.seq ?_)
        refine T.yes rfl rfl ?_
        refine T.seq (T.region rfl ?_)
        refine TL.run ft_cursitorref08_ok [0, 1, 2] rfl rfl ?_
        obtain rfl := Option.some.inj h
        exact TL.nil (X.seq (T.ret (X.rs (X.done3 [1] Try.results55 (RV.tm rfl) (RV.tm rfl) (RV.tm rfl) ⟨rfl, rfl, rfl⟩ (by rfl) (.inl rfl)))))
      · replace h := ifF c6 h
        refine TL.run ft_cursitorref08_ok [14] rfl rfl ?_
        refine TL.q rfl (.g rfl rfl (decide_eq_false c6)) (Ex.ft ft_cursitorref08_ok rfl) rfl ?_
        refine TL.q rfl (.g rfl rfl (decide_eq_false c6)) (Ex.b1 0 rfl Try.isAgg3 rfl rfl) rfl ?_
        refine TL.q rfl (.g rfl rfl (decide_eq_false c6)) (Ex.ft ft_cursitorref08_ok rfl) rfl ?_
        refine TL.q rfl .u (Ex.pn rfl (decide_eq_false c6) rfl) rfl ?_
        by_cases c7 : a0.fOffset = 0
        · replace h := ifT c7 h
          refine TL.nil (X.seq ?_)
          refine T.no rfl (bn_f (decide_eq_true c7)) ?_
          refine T.skip (X.seq (T.seq (T.region rfl ?_)))
          refine TL.run ft_cursitorref08_ok [0, 1] rfl rfl ?_
          refine TL.q rfl .u (Ex.b1 0 rfl Try.isAgg9 rfl rfl) rfl ?_
          obtain ⟨⟨x8, x9⟩, hx10, h⟩ := Option.bind_eq_some_iff.1 h
          try dsimp only at h
          refine TL.ce rfl .u (.fn Try.call109 rfl) (f_r08_ReadKey_spec a0.fKey.data _ hx10) (fun _ hs => (RX.reads_triv _ _)) rfl ?_
          refine TL.run ft_cursitorref08_ok [4, 5, 6, 7, 8] rfl rfl ?_
          refine TL.nil (X.seq (T.seq (T.seq (T.region rfl ?_))))
          refine TL.run ft_cursitorref08_ok [0, 1] rfl rfl ?_
          by_cases c11 : x9 = 0
          · replace h := ifT c11 h
            refine TL.nil (X.seq ?_)
            refine T.no rfl (bn_f (decide_eq_true c11)) ?_
            refine T.skip (X.seq (T.seq (T.region rfl ?_)))
            refine TL.run ft_cursitorref08_ok [0, 1] rfl rfl ?_
            refine TL.q rfl .u (Ex.b1 0 rfl Try.isAgg9 rfl rfl) rfl ?_
            obtain ⟨⟨x12, x13⟩, hx14, h⟩ := Option.bind_eq_some_iff.1 h
            try dsimp only at h
            refine TL.ce rfl .u (.fn Try.call110 rfl) (f_r08_ReadValue_spec a0.fValue.data _ hx14) (fun _ hs => (RX.reads_triv _ _)) rfl ?_
            refine TL.run ft_cursitorref08_ok [4, 5, 6, 7, 8] rfl rfl ?_
            refine TL.nil (X.seq (T.seq (T.seq (T.region rfl ?_))))
            refine TL.run ft_cursitorref08_ok [0, 1] rfl rfl ?_
            by_cases c15 : x13 = 0
            · replace h := ifT c15 h
              refine TL.nil (X.seq ?_)
              refine T.no rfl (bn_f (decide_eq_true c15)) ?_
              refine T.skip (X.seq (T.seq (T.region rfl ?_)))
              refine TL.run ft_cursitorref08_ok [0, 1, 2, 3, 4] rfl rfl ?_
              obtain rfl := Option.some.inj h
              exact TL.nil (X.seq (T.ret (X.done3 [1] Try.results55 (RV.tm rfl) (RV.tm rfl) (RV.tm rfl) ⟨rfl, rfl, rfl⟩ (by rfl) (.inl rfl))))
            · replace h := ifF c15 h
              refine TL.nil (X.seq ?_)
              refine T.yes rfl (bn_t (decide_eq_false c15)) ?_
              refine T.seq (T.region rfl ?_)
              refine TL.run ft_cursitorref08_ok [0, 1, 2, 3] rfl rfl ?_
              obtain rfl := Option.some.inj h
              exact TL.nil (X.seq (T.ret (X.rs (X.done3 [1] Try.results55 (RV.tm rfl) (RV.tm rfl) (RV.tm rfl) ⟨rfl, rfl, rfl⟩ (by rfl) (.inl rfl)))))
          · replace h := ifF c11 h
            refine TL.nil (X.seq ?_)
            refine T.yes rfl (bn_t (decide_eq_false c11)) ?_
            refine T.seq (T.region rfl ?_)
            refine TL.run ft_cursitorref08_ok [0, 1, 2, 3] rfl rfl ?_
            obtain rfl := Option.some.inj h
            exact TL.nil (X.seq (T.ret (X.rs (X.done3 [1] Try.results55 (RV.tm rfl) (RV.tm rfl) (RV.tm rfl) ⟨rfl, rfl, rfl⟩ (by rfl) (.inl rfl)))))
        · replace h := ifF c7 h
          refine TL.nil (X.seq ?_)
          refine T.yes rfl (bn_t (decide_eq_false c7)) ?_
          refine T.seq (T.region rfl ?_)
          refine TL.run ft_cursitorref08_ok [0, 1, 2] rfl rfl ?_
          obtain rfl := Option.some.inj h
          exact TL.nil (X.seq (T.ret (X.rs (X.done3 [1] Try.results55 (RV.tm rfl) (RV.tm rfl) (RV.tm rfl) ⟨rfl, rfl, rfl⟩ (by rfl) (.inl rfl)))))
end Go.Proofs.Ytdlpmcbglmgpiaa.Sl
