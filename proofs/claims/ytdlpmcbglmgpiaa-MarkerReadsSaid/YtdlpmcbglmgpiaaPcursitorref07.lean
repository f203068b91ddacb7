/- Printed by g2.py: package cursitorref07. -/
import Derived.Test.YtdlpmcbglmgpiaaGb
import Derived.Test.YtdlpmcbglmgpiaaNg
import Derived.Test.YtdlpmcbglmgpiaaPcursitorref06
namespace Go.Proofs.Ytdlpmcbglmgpiaa.Sl
open Go.RowKit
set_option linter.unusedVariables false
set_option linter.unusedSimpArgs false
set_option maxRecDepth 100000
def ft_cursitorref07 : FTab := [(26, 0, 0), (26, 1, 1), (96, 1, 1), (96, 2, 2), (96, 3, 4), (96, 4, 6)]
theorem ft_cursitorref07_ok : (ft_cursitorref07).OK Try.prog := ⟨FOK.mk Try.runUnderlying26 rfl Try.sizeOf4 rfl, FOK.mk Try.runUnderlying26 rfl Try.sizeOf9 rfl, FOK.mk Try.runUnderlying96 rfl Try.sizeOf3 rfl, FOK.mk Try.runUnderlying96 rfl Try.sizeOf26 rfl, FOK.mk Try.runUnderlying96 rfl Try.sizeOf26 rfl, FOK.mk Try.runUnderlying96 rfl Try.sizeOf48 rfl, trivial⟩
def f_r07_odd (a0 : Bl) : Option (Bool) := if a0.null = true then (if a0.data = [] then some false else some true) else some false
set_option maxRecDepth 100000 in
set_option maxHeartbeats 4000000 in
theorem f_r07_odd_spec (a0 : Bl) (r : Bool) (h : f_r07_odd a0 = some r) : SpecX Try.prog 146 #[.agg #[.bool a0.null, .string (bsOf a0.data)]] .triv (EmpR) (fun v A' N => v = .bool r ∧ A' = EmpR ∧ N = []) := by
  refine enterA Try.func146 rfl Try.ntmps146 rfl ?_
  intro F w hX
  unfold f_r07_odd at h
  refine T.seq (T.region rfl ?_)
  refine TL.box rfl .u rfl rfl (fun b1 => ?_)
  refine TL.run ft_cursitorref07_ok [1] rfl rfl ?_
  refine TL.nil (X.seq (T.seq (T.region rfl ?_)))
  refine TL.run ft_cursitorref07_ok [0] rfl rfl ?_
  refine TL.q rfl .u (Ex.b1 0 rfl Try.isAgg4 rfl rfl) rfl ?_
  by_cases c2 : a0.null = true
  · replace h := ifT c2 h
    refine TL.run ft_cursitorref07_ok [2] rfl rfl ?_
    refine TL.q rfl (.g rfl rfl c2) (Ex.ft ft_cursitorref07_ok rfl) rfl ?_
    refine TL.q rfl (.g rfl rfl c2) (Ex.b1 0 rfl Try.isAgg9 rfl rfl) rfl ?_
    refine TL.q rfl (.g rfl rfl c2) (Ex.sNe rfl (m := []) rfl) rfl ?_
    refine TL.q rfl .u (Ex.py rfl c2 rfl) rfl ?_
    refine TL.run ft_cursitorref07_ok [7] rfl rfl ?_
    by_cases c3 : a0.data = []
    · replace h := ifT c3 h
      obtain rfl := Option.some.inj h
      exact TL.nil (X.seq (T.ret (X.done1 [1] Try.results146 (RV.tm (v := .bool false) (congrArg (fun b => some (Value.bool b)) (bn_f (decide_eq_true c3)))) ⟨rfl, rfl, rfl⟩ (by rfl) (.inl rfl))))
    · replace h := ifF c3 h
      obtain rfl := Option.some.inj h
      exact TL.nil (X.seq (T.ret (X.done1 [1] Try.results146 (RV.tm (v := .bool true) (congrArg (fun b => some (Value.bool b)) (bn_t (decide_eq_false c3)))) ⟨rfl, rfl, rfl⟩ (by rfl) (.inl rfl))))
  · replace h := ifF c2 h
    replace c2 := eq_false_of_ne_true c2
    refine TL.run ft_cursitorref07_ok [2] rfl rfl ?_
    refine TL.no rfl (.gn rfl rfl c2) rfl ?_
    refine TL.no rfl (.gn rfl rfl c2) rfl ?_
    refine TL.no rfl (.gn rfl rfl c2) rfl ?_
    refine TL.q rfl .u (Ex.pn rfl c2 rfl) rfl ?_
    refine TL.run ft_cursitorref07_ok [7] rfl rfl ?_
    obtain rfl := Option.some.inj h
    exact TL.nil (X.seq (T.ret (X.done1 [1] Try.results146 (RV.tm rfl) ⟨rfl, rfl, rfl⟩ (by rfl) (.inl rfl))))
def f_r07_Right (a0 : Rec) : Option (Int) := if a0.fOffset < 0 then some 11 else (if a0.fOffset > 2147483647 then some 11 else ((f_r07_odd a0.fKey).bind fun x6 => if x6 = true then some 4 else ((f_r07_odd a0.fValue).bind fun x9 => if x9 = true then some 4 else ((f_r06_Right a0.fHeaders).bind fun x12 => if x12 = true then some 0 else some 4))))
set_option maxRecDepth 100000 in
set_option maxHeartbeats 4000000 in
theorem f_r07_Right_spec (a0 : Rec) (A1 : Option Addr) (c2 : Nat) (r : Int) (h : f_r07_Right a0 = some r) : SpecX Try.prog 107 #[.agg #[.int .i64 a0.fTime, .int .i64 a0.fOffset, .bool a0.fKey.null, .string (bsOf a0.fKey.data), .bool a0.fValue.null, .string (bsOf a0.fValue.data), .slice A1 a0.fHeaders.length c2]] (RX.of (sliceRd 3 Hd_rd) [.slice A1 a0.fHeaders.length c2] a0.fHeaders) (EmpR) (fun v A' N => v = .int .i64 r ∧ A' = EmpR ∧ N = []) := by
  refine enterA Try.func107 rfl Try.ntmps107 rfl ?_
  intro F w hX
  unfold f_r07_Right at h
  refine T.seq (T.region rfl ?_)
  refine TL.box rfl .u rfl rfl (fun b3 => ?_)
  refine TL.run ft_cursitorref07_ok [1] rfl rfl ?_
  refine TL.nil (X.seq (T.seq (T.seq (T.region rfl ?_))))
  refine TL.run ft_cursitorref07_ok [0] rfl rfl ?_
  refine TL.q rfl .u (Ex.b1 0 rfl Try.isAgg3 rfl rfl) rfl ?_
  by_cases c4 : a0.fOffset < 0
  · replace h := ifT c4 h
    refine TL.run ft_cursitorref07_ok [2, 3] rfl rfl ?_
    refine TL.no rfl (.gn rfl rfl (decide_eq_true c4)) rfl ?_
    refine TL.no rfl (.gn rfl rfl (decide_eq_true c4)) rfl ?_
    refine TL.no rfl (.gn rfl rfl (decide_eq_true c4)) rfl ?_
    refine TL.q rfl .u (Ex.py rfl (decide_eq_true c4) rfl) rfl ?_
    refine TL.nil (X.seq ?_)
    refine T.yes rfl rfl ?_
    refine T.seq (T.region rfl ?_)
    refine TL.run ft_cursitorref07_ok [0] rfl rfl ?_
    obtain rfl := Option.some.inj h
    exact TL.nil (X.seq (T.ret (X.rs (X.done1 [1] Try.results107 (RV.tm rfl) ⟨rfl, rfl, rfl⟩ (by rfl) (.inl rfl)))))
  · replace h := ifF c4 h
    refine TL.run ft_cursitorref07_ok [2, 3] rfl rfl ?_
    refine TL.q rfl (.g rfl rfl (decide_eq_false c4)) (Ex.ft ft_cursitorref07_ok rfl) rfl ?_
    refine TL.q rfl (.g rfl rfl (decide_eq_false c4)) (Ex.b1 0 rfl Try.isAgg3 rfl rfl) rfl ?_
    refine TL.q rfl (.g rfl rfl (decide_eq_false c4)) (Ex.ft ft_cursitorref07_ok rfl) rfl ?_
    refine TL.q rfl .u (Ex.pn rfl (decide_eq_false c4) rfl) rfl ?_
    by_cases c5 : a0.fOffset > 2147483647
    · replace h := ifT c5 h
      refine TL.nil (X.seq ?_)
      refine T.yes rfl (decide_eq_true c5) ?_
      refine T.seq (T.region rfl ?_)
      refine TL.run ft_cursitorref07_ok [0] rfl rfl ?_
      obtain rfl := Option.some.inj h
      exact TL.nil (X.seq (T.ret (X.rs (X.done1 [1] Try.results107 (RV.tm rfl) ⟨rfl, rfl, rfl⟩ (by rfl) (.inl rfl)))))
    · replace h := ifF c5 h
      refine TL.nil (X.seq ?_)
      refine T.no rfl (decide_eq_false c5) ?_
      refine T.skip (X.seq (T.seq (T.seq (T.region rfl ?_))))
      refine TL.run ft_cursitorref07_ok [0] rfl rfl ?_
      refine TL.q rfl .u (Ex.bS (us := [.bool a0.fKey.null, .string (bsOf a0.fKey.data)]) 0 rfl Try.isAgg26 Try.sizeOf26 rfl rfl rfl) rfl ?_
      obtain ⟨x6, hx7, h⟩ := Option.bind_eq_some_iff.1 h
      refine TL.ce rfl .u (.fn Try.call146 rfl) (f_r07_odd_spec a0.fKey _ hx7) (fun _ hs => (RX.reads_triv _ _)) rfl ?_
      by_cases c8 : x6 = true
      · replace h := ifT c8 h
        refine TL.run ft_cursitorref07_ok [3] rfl rfl ?_
        refine TL.no rfl (.gn rfl rfl c8) rfl ?_
        refine TL.no rfl (.gn rfl rfl c8) rfl ?_
        refine TL.no rfl (.gn rfl rfl c8) rfl ?_
        refine TL.q rfl .u (Ex.py rfl c8 rfl) rfl ?_
        refine TL.run ft_cursitorref07_ok [8] rfl rfl ?_
        refine TL.no rfl (.gn rfl rfl rfl) rfl ?_
        refine TL.no rfl (.gn rfl rfl rfl) rfl ?_
        refine TL.no rfl (.gn rfl rfl rfl) rfl ?_
        refine TL.no rfl (.gn rfl rfl rfl) rfl ?_
        refine TL.q rfl .u (Ex.py rfl rfl rfl) rfl ?_
        refine TL.nil (X.seq ?_)
        refine T.yes rfl rfl ?_
        refine T.seq (T.region rfl ?_)
        refine TL.run ft_cursitorref07_ok [0] rfl rfl ?_
        obtain rfl := Option.some.inj h
        exact TL.nil (X.seq (T.ret (X.rs (X.done1 [1] Try.results107 (RV.tm rfl) ⟨rfl, rfl, rfl⟩ (by rfl) (.inl rfl)))))
      · replace h := ifF c8 h
        replace c8 := eq_false_of_ne_true c8
        refine TL.run ft_cursitorref07_ok [3] rfl rfl ?_
        refine TL.q rfl (.g rfl rfl c8) (Ex.ft ft_cursitorref07_ok rfl) rfl ?_
        refine TL.q rfl (.g rfl rfl c8) (Ex.bS (us := [.bool a0.fValue.null, .string (bsOf a0.fValue.data)]) 0 rfl Try.isAgg26 Try.sizeOf26 rfl rfl rfl) rfl ?_
        obtain ⟨x9, hx10, h⟩ := Option.bind_eq_some_iff.1 h
        refine TL.ce rfl (.g rfl rfl c8) (.fn Try.call146 rfl) (f_r07_odd_spec a0.fValue _ hx10) (fun _ hs => (RX.reads_triv _ _)) rfl ?_
        refine TL.q rfl .u (Ex.pn rfl c8 rfl) rfl ?_
        by_cases c11 : x9 = true
        · replace h := ifT c11 h
          refine TL.run ft_cursitorref07_ok [8] rfl rfl ?_
          refine TL.no rfl (.gn rfl rfl c11) rfl ?_
          refine TL.no rfl (.gn rfl rfl c11) rfl ?_
          refine TL.no rfl (.gn rfl rfl c11) rfl ?_
          refine TL.no rfl (.gn rfl rfl c11) rfl ?_
          refine TL.q rfl .u (Ex.py rfl c11 rfl) rfl ?_
          refine TL.nil (X.seq ?_)
          refine T.yes rfl rfl ?_
          refine T.seq (T.region rfl ?_)
          refine TL.run ft_cursitorref07_ok [0] rfl rfl ?_
          obtain rfl := Option.some.inj h
          exact TL.nil (X.seq (T.ret (X.rs (X.done1 [1] Try.results107 (RV.tm rfl) ⟨rfl, rfl, rfl⟩ (by rfl) (.inl rfl)))))
        · replace h := ifF c11 h
          replace c11 := eq_false_of_ne_true c11
          refine TL.run ft_cursitorref07_ok [8] rfl rfl ?_
          refine TL.q rfl (.g rfl rfl c11) (Ex.ft ft_cursitorref07_ok rfl) rfl ?_
          refine TL.q rfl (.g rfl rfl c11) (Ex.b1 0 rfl Try.isAgg48 rfl rfl) rfl ?_
          obtain ⟨x12, hx13, h⟩ := Option.bind_eq_some_iff.1 h
          refine TL.ce rfl (.g rfl rfl c11) (.fn Try.call30 rfl) (f_r06_Right_spec a0.fHeaders _ _ _ hx13) (fun _ hs => (SrcE.old hs hX)) rfl ?_
          refine TL.q rfl (.g rfl rfl c11) (Ex.ft ft_cursitorref07_ok rfl) rfl ?_
          refine TL.q rfl .u (Ex.pn rfl c11 rfl) rfl ?_
          by_cases c14 : x12 = true
          · replace h := ifT c14 h
            refine TL.nil (X.seq ?_)
            refine T.no rfl (bn_f c14) ?_
            refine T.skip (X.seq (T.seq (T.region rfl ?_)))
            refine TL.run ft_cursitorref07_ok [0] rfl rfl ?_
            obtain rfl := Option.some.inj h
            exact TL.nil (X.seq (T.ret (X.done1 [1] Try.results107 (RV.tm rfl) ⟨rfl, rfl, rfl⟩ (by rfl) (.inl rfl))))
          · replace h := ifF c14 h
            replace c14 := eq_false_of_ne_true c14
            refine TL.nil (X.seq ?_)
            refine T.yes rfl (bn_t c14) ?_
            refine T.seq (T.region rfl ?_)
            refine TL.run ft_cursitorref07_ok [0] rfl rfl ?_
            obtain rfl := Option.some.inj h
            exact TL.nil (X.seq (T.ret (X.rs (X.done1 [1] Try.results107 (RV.tm rfl) ⟨rfl, rfl, rfl⟩ (by rfl) (.inl rfl)))))
end Go.Proofs.Ytdlpmcbglmgpiaa.Sl
