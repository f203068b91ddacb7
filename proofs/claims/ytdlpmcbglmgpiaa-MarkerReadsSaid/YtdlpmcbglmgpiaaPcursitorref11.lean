/- Printed by g2.py: package cursitorref11. -/
import Derived.Test.YtdlpmcbglmgpiaaGb
import Derived.Test.YtdlpmcbglmgpiaaNg
import Derived.Test.YtdlpmcbglmgpiaaPcursitorref07
import Derived.Test.YtdlpmcbglmgpiaaPcursitorref08
namespace Go.Proofs.Ytdlpmcbglmgpiaa.Sl
open Go.RowKit
set_option linter.unusedVariables false
set_option linter.unusedSimpArgs false
set_option maxRecDepth 100000
def ft_cursitorref11 : FTab := [(87, 0, 0), (87, 1, 1), (87, 2, 2), (87, 3, 3), (87, 4, 4), (87, 5, 5), (87, 6, 6), (87, 7, 7), (87, 8, 8), (87, 9, 9), (87, 10, 10), (87, 11, 11), (96, 0, 0), (96, 1, 1)]
theorem ft_cursitorref11_ok : (ft_cursitorref11).OK Try.prog := ⟨FOK.mk Try.runUnderlying87 rfl Try.sizeOf3 rfl, FOK.mk Try.runUnderlying87 rfl Try.sizeOf3 rfl, FOK.mk Try.runUnderlying87 rfl Try.sizeOf4 rfl, FOK.mk Try.runUnderlying87 rfl Try.sizeOf4 rfl, FOK.mk Try.runUnderlying87 rfl Try.sizeOf4 rfl, FOK.mk Try.runUnderlying87 rfl Try.sizeOf3 rfl, FOK.mk Try.runUnderlying87 rfl Try.sizeOf3 rfl, FOK.mk Try.runUnderlying87 rfl Try.sizeOf3 rfl, FOK.mk Try.runUnderlying87 rfl Try.sizeOf3 rfl, FOK.mk Try.runUnderlying87 rfl Try.sizeOf3 rfl, FOK.mk Try.runUnderlying87 rfl Try.sizeOf3 rfl, FOK.mk Try.runUnderlying87 rfl Try.sizeOf85 rfl, FOK.mk Try.runUnderlying96 rfl Try.sizeOf3 rfl, FOK.mk Try.runUnderlying96 rfl Try.sizeOf3 rfl, trivial⟩
theorem mix_cursitorref11 : Try.prog.follows .mixedOrders = true := by kernel_rfl
def f_r11_int32s (a0 : Int) (a1 : Int) : Option (Bool) := if a0 ≥ a1 then (if a0 ≤ 2147483647 then some true else some false) else some false
set_option maxRecDepth 100000 in
set_option maxHeartbeats 4000000 in
theorem f_r11_int32s_spec (a0 : Int) (a1 : Int) (r : Bool) (h : f_r11_int32s a0 a1 = some r) : SpecX Try.prog 105 #[.int .i64 a0, .int .i64 a1] .triv (EmpR) (fun v A' N => v = .bool r ∧ A' = EmpR ∧ N = []) := by
  refine enterA Try.func105 rfl Try.ntmps105 rfl ?_
  intro F w hX
  unfold f_r11_int32s at h
  refine T.seq (T.region rfl ?_)
  refine TL.run ft_cursitorref11_ok [0] rfl rfl ?_
  refine TL.nil (X.seq (T.seq (T.region rfl ?_)))
  by_cases c1 : a0 ≥ a1
  · replace h := ifT c1 h
    refine TL.run ft_cursitorref11_ok [0, 1, 2, 3] rfl rfl ?_
    refine TL.q rfl (.g rfl rfl (decide_eq_true c1)) (Ex.ft ft_cursitorref11_ok rfl) rfl ?_
    refine TL.q rfl (.g rfl rfl (decide_eq_true c1)) (Ex.ft ft_cursitorref11_ok rfl) rfl ?_
    refine TL.q rfl .u (Ex.py rfl (decide_eq_true c1) rfl) rfl ?_
    refine TL.run ft_cursitorref11_ok [7] rfl rfl ?_
    by_cases c2 : a0 ≤ 2147483647
    · replace h := ifT c2 h
      obtain rfl := Option.some.inj h
      exact TL.nil (X.seq (T.ret (X.done1 [0] Try.results105 (RV.tm (v := .bool true) (congrArg (fun b => some (Value.bool b)) (decide_eq_true c2))) ⟨rfl, rfl, rfl⟩ (by rfl) (.inl rfl))))
    · replace h := ifF c2 h
      obtain rfl := Option.some.inj h
      exact TL.nil (X.seq (T.ret (X.done1 [0] Try.results105 (RV.tm (v := .bool false) (congrArg (fun b => some (Value.bool b)) (decide_eq_false c2))) ⟨rfl, rfl, rfl⟩ (by rfl) (.inl rfl))))
  · replace h := ifF c1 h
    refine TL.run ft_cursitorref11_ok [0, 1, 2, 3] rfl rfl ?_
    refine TL.no rfl (.gn rfl rfl (decide_eq_false c1)) rfl ?_
    refine TL.no rfl (.gn rfl rfl (decide_eq_false c1)) rfl ?_
    refine TL.q rfl .u (Ex.pn rfl (decide_eq_false c1) rfl) rfl ?_
    refine TL.run ft_cursitorref11_ok [7] rfl rfl ?_
    obtain rfl := Option.some.inj h
    exact TL.nil (X.seq (T.ret (X.done1 [0] Try.results105 (RV.tm rfl) ⟨rfl, rfl, rfl⟩ (by rfl) (.inl rfl))))
def f_r11_producer (a0 : Bat) : Option (Bool) := if a0.fProducer = (-1) then (if a0.fEpoch = (-1) then (if a0.fSequence = (-1) then (if a0.fTxn = true then some false else some true) else some false) else some false) else (if a0.fProducer < 0 then some false else (if a0.fEpoch < 0 then some false else (if a0.fEpoch > 32767 then some false else (if a0.fControl = true then (if a0.fSequence = (-1) then some true else some false) else ((f_r11_int32s a0.fSequence 0).bind fun x13 => some x13)))))
set_option maxRecDepth 100000 in
set_option maxHeartbeats 4000000 in
theorem f_r11_producer_spec (a0 : Bat) (A1 : Option Addr) (c2 : Nat) (r : Bool) (h : f_r11_producer a0 = some r) : SpecX Try.prog 106 #[.agg #[.int .i64 a0.fBase, .int .i64 a0.fLeader, .bool a0.fAppend, .bool a0.fTxn, .bool a0.fControl, .int .i64 a0.fLast, .int .i64 a0.fFirst, .int .i64 a0.fMax, .int .i64 a0.fProducer, .int .i64 a0.fEpoch, .int .i64 a0.fSequence, .slice A1 a0.fRecords.length c2]] (RX.of (sliceRd 7 Rec_rd) [.slice A1 a0.fRecords.length c2] a0.fRecords) (EmpR) (fun v A' N => v = .bool r ∧ A' = EmpR ∧ N = []) := by
  refine enterA Try.func106 rfl Try.ntmps106 rfl ?_
  intro F w hX
  unfold f_r11_producer at h
  refine T.seq (T.region rfl ?_)
  refine TL.box rfl .u rfl rfl (fun b3 => ?_)
  refine TL.run ft_cursitorref11_ok [1] rfl rfl ?_
  refine TL.nil (X.seq (T.seq (T.seq (T.region rfl ?_))))
  refine TL.run ft_cursitorref11_ok [0] rfl rfl ?_
  refine TL.q rfl .u (Ex.b1 0 rfl Try.isAgg3 rfl rfl) rfl ?_
  refine TL.run ft_cursitorref11_ok [2] rfl rfl ?_
  by_cases c4 : a0.fProducer = (-1)
  · replace h := ifT c4 h
    refine TL.nil (X.seq ?_)
    refine T.yes rfl (decide_eq_true c4) ?_
    refine T.seq (T.region rfl ?_)
    refine TL.run ft_cursitorref11_ok [0] rfl rfl ?_
    refine TL.q rfl .u (Ex.b1 0 rfl Try.isAgg3 rfl rfl) rfl ?_
    by_cases c5 : a0.fEpoch = (-1)
    · replace h := ifT c5 h
      refine TL.run ft_cursitorref11_ok [2, 3] rfl rfl ?_
      refine TL.q rfl (.g rfl rfl (decide_eq_true c5)) (Ex.ft ft_cursitorref11_ok rfl) rfl ?_
      refine TL.q rfl (.g rfl rfl (decide_eq_true c5)) (Ex.b1 0 rfl Try.isAgg3 rfl rfl) rfl ?_
      refine TL.q rfl (.g rfl rfl (decide_eq_true c5)) (Ex.ft ft_cursitorref11_ok rfl) rfl ?_
      refine TL.q rfl .u (Ex.py rfl (decide_eq_true c5) rfl) rfl ?_
      by_cases c6 : a0.fSequence = (-1)
      · replace h := ifT c6 h
        refine TL.run ft_cursitorref11_ok [8] rfl rfl ?_
        refine TL.q rfl (.g rfl rfl (decide_eq_true c6)) (Ex.ft ft_cursitorref11_ok rfl) rfl ?_
        refine TL.q rfl (.g rfl rfl (decide_eq_true c6)) (Ex.b1 0 rfl Try.isAgg4 rfl rfl) rfl ?_
        refine TL.q rfl (.g rfl rfl (decide_eq_true c6)) (Ex.ft ft_cursitorref11_ok rfl) rfl ?_
        refine TL.q rfl .u (Ex.py rfl (decide_eq_true c6) rfl) rfl ?_
        refine TL.run ft_cursitorref11_ok [13] rfl rfl ?_
        by_cases c7 : a0.fTxn = true
        · replace h := ifT c7 h
          obtain rfl := Option.some.inj h
          exact TL.nil (X.seq (T.ret (X.rs (X.done1 [1] Try.results106 (RV.tm (v := .bool false) (congrArg (fun b => some (Value.bool b)) (bn_f c7))) ⟨rfl, rfl, rfl⟩ (by rfl) (.inl rfl)))))
        · replace h := ifF c7 h
          replace c7 := eq_false_of_ne_true c7
          obtain rfl := Option.some.inj h
          exact TL.nil (X.seq (T.ret (X.rs (X.done1 [1] Try.results106 (RV.tm (v := .bool true) (congrArg (fun b => some (Value.bool b)) (bn_t c7))) ⟨rfl, rfl, rfl⟩ (by rfl) (.inl rfl)))))
      · replace h := ifF c6 h
        refine TL.run ft_cursitorref11_ok [8] rfl rfl ?_
        refine TL.no rfl (.gn rfl rfl (decide_eq_false c6)) rfl ?_
        refine TL.no rfl (.gn rfl rfl (decide_eq_false c6)) rfl ?_
        refine TL.no rfl (.gn rfl rfl (decide_eq_false c6)) rfl ?_
        refine TL.q rfl .u (Ex.pn rfl (decide_eq_false c6) rfl) rfl ?_
        refine TL.run ft_cursitorref11_ok [13] rfl rfl ?_
        obtain rfl := Option.some.inj h
        exact TL.nil (X.seq (T.ret (X.rs (X.done1 [1] Try.results106 (RV.tm rfl) ⟨rfl, rfl, rfl⟩ (by rfl) (.inl rfl)))))
    · replace h := ifF c5 h
      refine TL.run ft_cursitorref11_ok [2, 3] rfl rfl ?_
      refine TL.no rfl (.gn rfl rfl (decide_eq_false c5)) rfl ?_
      refine TL.no rfl (.gn rfl rfl (decide_eq_false c5)) rfl ?_
      refine TL.no rfl (.gn rfl rfl (decide_eq_false c5)) rfl ?_
      refine TL.q rfl .u (Ex.pn rfl (decide_eq_false c5) rfl) rfl ?_
      refine TL.run ft_cursitorref11_ok [8] rfl rfl ?_
      refine TL.no rfl (.gn rfl rfl rfl) rfl ?_
      refine TL.no rfl (.gn rfl rfl rfl) rfl ?_
      refine TL.no rfl (.gn rfl rfl rfl) rfl ?_
      refine TL.q rfl .u (Ex.pn rfl rfl rfl) rfl ?_
      refine TL.run ft_cursitorref11_ok [13] rfl rfl ?_
      obtain rfl := Option.some.inj h
      exact TL.nil (X.seq (T.ret (X.rs (X.done1 [1] Try.results106 (RV.tm rfl) ⟨rfl, rfl, rfl⟩ (by rfl) (.inl rfl)))))
  · replace h := ifF c4 h
    refine TL.nil (X.seq ?_)
    refine T.no rfl (decide_eq_false c4) ?_
    refine T.skip (X.seq (T.seq (T.seq (T.region rfl ?_))))
    refine TL.run ft_cursitorref11_ok [0] rfl rfl ?_
    refine TL.q rfl .u (Ex.b1 0 rfl Try.isAgg3 rfl rfl) rfl ?_
    by_cases c8 : a0.fProducer < 0
    · replace h := ifT c8 h
      refine TL.run ft_cursitorref11_ok [2, 3] rfl rfl ?_
      refine TL.no rfl (.gn rfl rfl (decide_eq_true c8)) rfl ?_
      refine TL.no rfl (.gn rfl rfl (decide_eq_true c8)) rfl ?_
      refine TL.no rfl (.gn rfl rfl (decide_eq_true c8)) rfl ?_
      refine TL.q rfl .u (Ex.py rfl (decide_eq_true c8) rfl) rfl ?_
      refine TL.run ft_cursitorref11_ok [8] rfl rfl ?_
      refine TL.no rfl (.gn rfl rfl rfl) rfl ?_
      refine TL.no rfl (.gn rfl rfl rfl) rfl ?_
      refine TL.no rfl (.gn rfl rfl rfl) rfl ?_
      refine TL.q rfl .u (Ex.py rfl rfl rfl) rfl ?_
      refine TL.nil (X.seq ?_)
      refine T.yes rfl rfl ?_
      refine T.seq (T.region rfl ?_)
      refine TL.run ft_cursitorref11_ok [0] rfl rfl ?_
      obtain rfl := Option.some.inj h
      exact TL.nil (X.seq (T.ret (X.rs (X.done1 [1] Try.results106 (RV.tm rfl) ⟨rfl, rfl, rfl⟩ (by rfl) (.inl rfl)))))
    · replace h := ifF c8 h
      refine TL.run ft_cursitorref11_ok [2, 3] rfl rfl ?_
      refine TL.q rfl (.g rfl rfl (decide_eq_false c8)) (Ex.ft ft_cursitorref11_ok rfl) rfl ?_
      refine TL.q rfl (.g rfl rfl (decide_eq_false c8)) (Ex.b1 0 rfl Try.isAgg3 rfl rfl) rfl ?_
      refine TL.q rfl (.g rfl rfl (decide_eq_false c8)) (Ex.ft ft_cursitorref11_ok rfl) rfl ?_
      refine TL.q rfl .u (Ex.pn rfl (decide_eq_false c8) rfl) rfl ?_
      by_cases c9 : a0.fEpoch < 0
      · replace h := ifT c9 h
        refine TL.run ft_cursitorref11_ok [8] rfl rfl ?_
        refine TL.no rfl (.gn rfl rfl (decide_eq_true c9)) rfl ?_
        refine TL.no rfl (.gn rfl rfl (decide_eq_true c9)) rfl ?_
        refine TL.no rfl (.gn rfl rfl (decide_eq_true c9)) rfl ?_
        refine TL.q rfl .u (Ex.py rfl (decide_eq_true c9) rfl) rfl ?_
        refine TL.nil (X.seq ?_)
        refine T.yes rfl rfl ?_
        refine T.seq (T.region rfl ?_)
        refine TL.run ft_cursitorref11_ok [0] rfl rfl ?_
        obtain rfl := Option.some.inj h
        exact TL.nil (X.seq (T.ret (X.rs (X.done1 [1] Try.results106 (RV.tm rfl) ⟨rfl, rfl, rfl⟩ (by rfl) (.inl rfl)))))
      · replace h := ifF c9 h
        refine TL.run ft_cursitorref11_ok [8] rfl rfl ?_
        refine TL.q rfl (.g rfl rfl (decide_eq_false c9)) (Ex.ft ft_cursitorref11_ok rfl) rfl ?_
        refine TL.q rfl (.g rfl rfl (decide_eq_false c9)) (Ex.b1 0 rfl Try.isAgg3 rfl rfl) rfl ?_
        refine TL.q rfl (.g rfl rfl (decide_eq_false c9)) (Ex.ft ft_cursitorref11_ok rfl) rfl ?_
        refine TL.q rfl .u (Ex.pn rfl (decide_eq_false c9) rfl) rfl ?_
        by_cases c10 : a0.fEpoch > 32767
        · replace h := ifT c10 h
          refine TL.nil (X.seq ?_)
          refine T.yes rfl (decide_eq_true c10) ?_
          refine T.seq (T.region rfl ?_)
          refine TL.run ft_cursitorref11_ok [0] rfl rfl ?_
          obtain rfl := Option.some.inj h
          exact TL.nil (X.seq (T.ret (X.rs (X.done1 [1] Try.results106 (RV.tm rfl) ⟨rfl, rfl, rfl⟩ (by rfl) (.inl rfl)))))
        · replace h := ifF c10 h
          refine TL.nil (X.seq ?_)
          refine T.no rfl (decide_eq_false c10) ?_
          refine T.skip (X.seq (T.seq (T.seq (T.region rfl ?_))))
          refine TL.run ft_cursitorref11_ok [0] rfl rfl ?_
          refine TL.q rfl .u (Ex.b1 0 rfl Try.isAgg4 rfl rfl) rfl ?_
          by_cases c11 : a0.fControl = true
          · replace h := ifT c11 h
            refine TL.nil (X.seq ?_)
            refine T.yes rfl c11 ?_
            refine T.seq (T.region rfl ?_)
            refine TL.run ft_cursitorref11_ok [0] rfl rfl ?_
            refine TL.q rfl .u (Ex.b1 0 rfl Try.isAgg3 rfl rfl) rfl ?_
            refine TL.run ft_cursitorref11_ok [2, 3] rfl rfl ?_
            by_cases c12 : a0.fSequence = (-1)
            · replace h := ifT c12 h
              obtain rfl := Option.some.inj h
              exact TL.nil (X.seq (T.ret (X.rs (X.done1 [1] Try.results106 (RV.tm (v := .bool true) (congrArg (fun b => some (Value.bool b)) (decide_eq_true c12))) ⟨rfl, rfl, rfl⟩ (by rfl) (.inl rfl)))))
            · replace h := ifF c12 h
              obtain rfl := Option.some.inj h
              exact TL.nil (X.seq (T.ret (X.rs (X.done1 [1] Try.results106 (RV.tm (v := .bool false) (congrArg (fun b => some (Value.bool b)) (decide_eq_false c12))) ⟨rfl, rfl, rfl⟩ (by rfl) (.inl rfl)))))
          · replace h := ifF c11 h
            replace c11 := eq_false_of_ne_true c11
            refine TL.nil (X.seq ?_)
            refine T.no rfl c11 ?_
            refine T.skip (X.seq (T.seq (T.region rfl ?_)))
            refine TL.run ft_cursitorref11_ok [0] rfl rfl ?_
            refine TL.q rfl .u (Ex.b1 0 rfl Try.isAgg3 rfl rfl) rfl ?_
            obtain ⟨x13, hx14, h⟩ := Option.bind_eq_some_iff.1 h
            refine TL.ce rfl .u (.fn Try.call105 rfl) (f_r11_int32s_spec a0.fSequence 0 _ hx14) (fun _ hs => (RX.reads_triv _ _)) rfl ?_
            refine TL.run ft_cursitorref11_ok [3] rfl rfl ?_
            obtain rfl := Option.some.inj h
            exact TL.nil (X.seq (T.ret (X.done1 [1] Try.results106 (RV.tm rfl) ⟨rfl, rfl, rfl⟩ (by rfl) (.inl rfl))))
def f_r11_times_l1 (a0 : Bat) : Nat → Int → Int → Nat → Option (Lp Int (Int × Int × Nat))
  | 0, _, _, _ => none
  | m10 + 1, y4, y5, k6 => if (k6 : Int) < (a0.fRecords.length : Int) then ((a0.fRecords[k6]?).bind fun x15 => if -9223372036854775808 ≤ (9223372036854775807 - a0.fFirst) ∧ (9223372036854775807 - a0.fFirst) ≤ 9223372036854775807 then (if x15.fTime > (9223372036854775807 - a0.fFirst) then (some (Lp.ret (-1))) else (if -9223372036854775808 ≤ (-a0.fFirst) ∧ (-a0.fFirst) ≤ 9223372036854775807 then (if x15.fTime < (-a0.fFirst) then (some (Lp.ret (-1))) else (if -9223372036854775808 ≤ (a0.fFirst + x15.fTime) ∧ (a0.fFirst + x15.fTime) ≤ 9223372036854775807 then (if (a0.fFirst + x15.fTime) > y5 then (if -9223372036854775808 ≤ (a0.fFirst + x15.fTime) ∧ (a0.fFirst + x15.fTime) ≤ 9223372036854775807 then (if -9223372036854775808 ≤ ((k6 : Int) + 1) ∧ ((k6 : Int) + 1) ≤ 9223372036854775807 then (f_r11_times_l1 a0 m10 y4 (a0.fFirst + x15.fTime) (k6 + 1)) else none) else none) else (if -9223372036854775808 ≤ ((k6 : Int) + 1) ∧ ((k6 : Int) + 1) ≤ 9223372036854775807 then (f_r11_times_l1 a0 m10 y4 y5 (k6 + 1)) else none)) else none)) else none)) else none) else (some (Lp.go (y4, y5, k6)))
def f_r11_times (a0 : Bat) : Option (Int) := (f_r11_times_l1 a0 (((a0.fRecords.length : Int)).toNat + 1) 0 a0.fFirst 0).bind fun e => match e with | .ret r => some r | .go (y30, y31, k32) => some y31
set_option maxRecDepth 100000 in
set_option maxHeartbeats 4000000 in
theorem f_r11_times_spec (a0 : Bat) (A1 : Option Addr) (c2 : Nat) (r : Int) (h : f_r11_times a0 = some r) : SpecX Try.prog 147 #[.agg #[.int .i64 a0.fBase, .int .i64 a0.fLeader, .bool a0.fAppend, .bool a0.fTxn, .bool a0.fControl, .int .i64 a0.fLast, .int .i64 a0.fFirst, .int .i64 a0.fMax, .int .i64 a0.fProducer, .int .i64 a0.fEpoch, .int .i64 a0.fSequence, .slice A1 a0.fRecords.length c2]] (RX.of (sliceRd 7 Rec_rd) [.slice A1 a0.fRecords.length c2] a0.fRecords) (EmpR) (fun v A' N => v = .int .i64 r ∧ A' = EmpR ∧ N = []) := by
  refine enterA Try.func147 rfl Try.ntmps147 rfl ?_
  intro F w hX
  unfold f_r11_times at h
  refine T.seq (T.region rfl ?_)
  refine TL.box rfl .u rfl rfl (fun b3 => ?_)
  refine TL.run ft_cursitorref11_ok [1] rfl rfl ?_
  refine TL.nil (X.seq (T.seq (T.region rfl ?_)))
  refine TL.run ft_cursitorref11_ok [0] rfl rfl ?_
  refine TL.q rfl .u (Ex.b1 0 rfl Try.isAgg3 rfl rfl) rfl ?_
  refine TL.run ft_cursitorref11_ok [2] rfl rfl ?_
  refine TL.nil (X.seq (T.seq (T.seq (T.region rfl ?_))))
  refine TL.run ft_cursitorref11_ok [0] rfl rfl ?_
  refine TL.nil (X.seq (T.block ?_))
  obtain ⟨E7, hE8, hO9⟩ := Option.bind_eq_some_iff.1 h
  refine T.lp (fun m e Rs => ∃ (y4 : Int) (y5 : Int) (k6 : Nat), e = [(1, .pointer (some ⟨b3, 0, none⟩)), (2, .int .i64 y4), (3, .int .i64 y5), (4, .int .i64 (k6 : Int))] ∧ Rs = [BlkR b3 87 #[.int .i64 a0.fBase, .int .i64 a0.fLeader, .bool a0.fAppend, .bool a0.fTxn, .bool a0.fControl, .int .i64 a0.fLast, .int .i64 a0.fFirst, .int .i64 a0.fMax, .int .i64 a0.fProducer, .int .i64 a0.fEpoch, .int .i64 a0.fSequence, .slice A1 a0.fRecords.length c2], EmpR] ∧ f_r11_times_l1 a0 m y4 y5 k6 = some E7) (((a0.fRecords.length : Int)).toNat + 1) [0, 0] ⟨0, a0.fFirst, 0, rfl, rfl, by exact hE8⟩ (by rfl) (by rfl) ?_
  rintro m10 _ _ ⟨y4, y5, k6, rfl, rfl, hl12⟩
  clear hE8 h
  cases m10 with
  | zero =>
    rw [f_r11_times_l1] at hl12
    cases hl12
  | succ m10 =>
    have h := hl12
    clear hl12
    rw [f_r11_times_l1] at h
    refine T.seq (T.seq (T.region rfl ?_))
    refine TL.run ft_cursitorref11_ok [0, 1] rfl rfl ?_
    refine TL.q rfl .u (Ex.b1 0 rfl Try.isAgg85 rfl rfl) rfl ?_
    refine TL.q rfl .u (Ex.lenS rfl Try.runUnderlying85) rfl ?_
    refine TL.run ft_cursitorref11_ok [4] rfl rfl ?_
    by_cases c14 : (k6 : Int) < (a0.fRecords.length : Int)
    · replace h := ifT c14 h
      refine TL.nil (X.seq ?_)
      refine T.yes rfl (decide_eq_true c14) ?_
      refine T.skip (X.seq (T.seq (T.block (T.seq (T.region rfl ?_)))))
      refine TL.run ft_cursitorref11_ok [0] rfl rfl ?_
      refine TL.q rfl .u (Ex.b1 0 rfl Try.isAgg85 rfl rfl) rfl ?_
      obtain ⟨x15, hx16, h⟩ := Option.bind_eq_some_iff.1 h
      obtain ⟨gz17, oz17, rfl, z17cs, z17cl, z17cc, z17nf, z17r⟩ := RX.elem (by decide) hX hx16
      obtain ⟨z17S, z17r, z17rr⟩ := z17r
      obtain ⟨A18, c19, rfl, z17s0⟩ := z17r
      have hX20 : (RX.of (sliceRd 3 Hd_rd) [.slice A18 x15.fHeaders.length c19] x15.fHeaders).reads w F := ⟨z17S, z17s0, z17rr⟩
      refine TL.run ft_cursitorref11_ok [2] rfl rfl ?_
      refine TL.q rfl .u (Ex.ixS (k := k6) rfl rfl rfl Try.runUnderlying85 Try.sizeOf96 (List.getElem?_eq_some_iff.1 hx16).1) rfl ?_
      refine TL.run ft_cursitorref11_ok [4] rfl rfl ?_
      refine TL.q rfl .u (Ex.o1 0 rfl Try.isAgg3 z17nf z17cc rfl rfl) rfl ?_
      refine TL.run ft_cursitorref11_ok [6] rfl rfl ?_
      refine TL.nil (X.seq (T.seq (T.seq (T.region rfl ?_))))
      refine TL.run ft_cursitorref11_ok [0, 1] rfl rfl ?_
      refine TL.q rfl .u (Ex.b1 0 rfl Try.isAgg3 rfl rfl) rfl ?_
      replace h := guard_some h
      obtain ⟨c21, h⟩ := h
      refine TL.q rfl .u (Ex.sub rfl rfl c21) rfl ?_
      by_cases c22 : x15.fTime > (9223372036854775807 - a0.fFirst)
      · replace h := ifT c22 h
        refine TL.run ft_cursitorref11_ok [4, 5] rfl rfl ?_
        refine TL.no rfl (.gn rfl rfl (decide_eq_true c22)) rfl ?_
        refine TL.no rfl (.gn rfl rfl (decide_eq_true c22)) rfl ?_
        refine TL.no rfl (.gn rfl rfl (decide_eq_true c22)) rfl ?_
        refine TL.no rfl (.gn rfl rfl (decide_eq_true c22)) rfl ?_
        refine TL.no rfl (.gn rfl rfl (decide_eq_true c22)) rfl ?_
        refine TL.q rfl .u (Ex.py rfl (decide_eq_true c22) rfl) rfl ?_
        refine TL.nil (X.seq ?_)
        refine T.yes rfl rfl ?_
        refine T.seq (T.region rfl ?_)
        refine TL.run ft_cursitorref11_ok [0] rfl rfl ?_
        obtain rfl := Option.some.inj h
        replace h := hO9
        clear hO9
        try dsimp only at h
        obtain rfl := Option.some.inj h
        exact TL.nil (X.seq (T.ret (X.rs (X.rb (X.rs (X.rs (X.rb (X.rs (X.done1 [1] Try.results147 (RV.tm rfl) ⟨rfl, rfl, rfl⟩ (by rfl) (.inl rfl))))))))))
      · replace h := ifF c22 h
        refine TL.run ft_cursitorref11_ok [4, 5] rfl rfl ?_
        refine TL.q rfl (.g rfl rfl (decide_eq_false c22)) (Ex.ft ft_cursitorref11_ok rfl) rfl ?_
        refine TL.q rfl (.g rfl rfl (decide_eq_false c22)) (Ex.ft ft_cursitorref11_ok rfl) rfl ?_
        refine TL.q rfl (.g rfl rfl (decide_eq_false c22)) (Ex.b1 0 rfl Try.isAgg3 rfl rfl) rfl ?_
        replace h := guard_some h
        obtain ⟨c23, h⟩ := h
        refine TL.q rfl (.g rfl rfl (decide_eq_false c22)) (Ex.neg rfl c23) rfl ?_
        refine TL.q rfl (.g rfl rfl (decide_eq_false c22)) (Ex.ft ft_cursitorref11_ok rfl) rfl ?_
        refine TL.q rfl .u (Ex.pn rfl (decide_eq_false c22) rfl) rfl ?_
        by_cases c24 : x15.fTime < (-a0.fFirst)
        · replace h := ifT c24 h
          refine TL.nil (X.seq ?_)
          refine T.yes rfl (decide_eq_true c24) ?_
          refine T.seq (T.region rfl ?_)
          refine TL.run ft_cursitorref11_ok [0] rfl rfl ?_
          obtain rfl := Option.some.inj h
          replace h := hO9
          clear hO9
          try dsimp only at h
          obtain rfl := Option.some.inj h
          exact TL.nil (X.seq (T.ret (X.rs (X.rb (X.rs (X.rs (X.rb (X.rs (X.done1 [1] Try.results147 (RV.tm rfl) ⟨rfl, rfl, rfl⟩ (by rfl) (.inl rfl))))))))))
        · replace h := ifF c24 h
          refine TL.nil (X.seq ?_)
          refine T.no rfl (decide_eq_false c24) ?_
          refine T.skip (X.seq (T.seq (T.region rfl ?_)))
          refine TL.run ft_cursitorref11_ok [0] rfl rfl ?_
          refine TL.q rfl .u (Ex.b1 0 rfl Try.isAgg3 rfl rfl) rfl ?_
          replace h := guard_some h
          obtain ⟨c25, h⟩ := h
          refine TL.run ft_cursitorref11_ok [2] rfl rfl ?_
          refine TL.q rfl .u (Ex.add rfl rfl c25) rfl ?_
          refine TL.run ft_cursitorref11_ok [4, 5] rfl rfl ?_
          by_cases c26 : (a0.fFirst + x15.fTime) > y5
          · replace h := ifT c26 h
            refine TL.nil (X.seq ?_)
            refine T.yes rfl (decide_eq_true c26) ?_
            refine T.region rfl ?_
            refine TL.run ft_cursitorref11_ok [0] rfl rfl ?_
            refine TL.q rfl .u (Ex.b1 0 rfl Try.isAgg3 rfl rfl) rfl ?_
            replace h := guard_some h
            obtain ⟨c27, h⟩ := h
            refine TL.run ft_cursitorref11_ok [2] rfl rfl ?_
            refine TL.q rfl .u (Ex.add rfl rfl c27) rfl ?_
            refine TL.run ft_cursitorref11_ok [4] rfl rfl ?_
            refine TL.nil (X.blk (X.seq (T.region rfl ?_)))
            replace h := guard_some h
            obtain ⟨c28, h⟩ := h
            refine TL.run ft_cursitorref11_ok [0] rfl rfl ?_
            refine TL.q rfl .u (Ex.add rfl rfl c28) rfl ?_
            refine TL.run ft_cursitorref11_ok [2] rfl rfl ?_
            exact TL.nil (X.back (m' := m10) [0, 0] (by omega) ⟨y4, (a0.fFirst + x15.fTime), k6 + 1, rfl, rfl, h⟩ (by rfl) (by rfl))
          · replace h := ifF c26 h
            refine TL.nil (X.seq ?_)
            refine T.no rfl (decide_eq_false c26) ?_
            refine T.skip (X.blk (X.seq (T.region rfl ?_)))
            replace h := guard_some h
            obtain ⟨c29, h⟩ := h
            refine TL.run ft_cursitorref11_ok [0] rfl rfl ?_
            refine TL.q rfl .u (Ex.add rfl rfl c29) rfl ?_
            refine TL.run ft_cursitorref11_ok [2] rfl rfl ?_
            exact TL.nil (X.back (m' := m10) [0, 0] (by omega) ⟨y4, y5, k6 + 1, rfl, rfl, h⟩ (by rfl) (by rfl))
    · replace h := ifF c14 h
      refine TL.nil (X.seq ?_)
      refine T.no rfl (decide_eq_false c14) ?_
      obtain rfl := Option.some.inj h
      replace h := hO9
      clear hO9
      try dsimp only at h
      refine T.exit (X.exs (X.exs (X.ex (X.seq (T.seq (T.region rfl ?_))))))
      refine TL.run ft_cursitorref11_ok [0, 1] rfl rfl ?_
      obtain rfl := Option.some.inj h
      exact TL.nil (X.seq (T.ret (X.done1 [1] Try.results147 (RV.tm rfl) ⟨rfl, rfl, rfl⟩ (by rfl) (.inl rfl))))
def f_r11_orders_l1 (a0 : Bat) : Nat → Int → Nat → Option (Lp Int (Int × Nat))
  | 0, _, _ => none
  | m9 + 1, y4, k5 => if (k5 : Int) < (a0.fRecords.length : Int) then ((a0.fRecords[k5]?).bind fun x14 => if x14.fOffset > a0.fLast then some (Lp.ret 13) else (if (k5 : Int) > 0 then (if -9223372036854775808 ≤ ((k5 : Int) - 1) ∧ ((k5 : Int) - 1) ≤ 9223372036854775807 then (if 0 ≤ ((k5 : Int) - 1) then ((a0.fRecords[((k5 : Int) - 1).toNat]?).bind fun x24 => if x14.fOffset ≤ x24.fOffset then some (Lp.ret 13) else (if x14.fOffset < 0 then some (Lp.ret 13) else (if -9223372036854775808 ≤ (9223372036854775807 - a0.fFirst) ∧ (9223372036854775807 - a0.fFirst) ≤ 9223372036854775807 then (if x14.fTime > (9223372036854775807 - a0.fFirst) then some (Lp.ret 11) else (if -9223372036854775808 ≤ (-a0.fFirst) ∧ (-a0.fFirst) ≤ 9223372036854775807 then (if x14.fTime < (-a0.fFirst) then some (Lp.ret 11) else (if -9223372036854775808 ≤ ((k5 : Int) + 1) ∧ ((k5 : Int) + 1) ≤ 9223372036854775807 then (f_r11_orders_l1 a0 m9 y4 (k5 + 1)) else none)) else none)) else none))) else none) else none) else (if x14.fOffset < 0 then some (Lp.ret 13) else (if -9223372036854775808 ≤ (9223372036854775807 - a0.fFirst) ∧ (9223372036854775807 - a0.fFirst) ≤ 9223372036854775807 then (if x14.fTime > (9223372036854775807 - a0.fFirst) then some (Lp.ret 11) else (if -9223372036854775808 ≤ (-a0.fFirst) ∧ (-a0.fFirst) ≤ 9223372036854775807 then (if x14.fTime < (-a0.fFirst) then some (Lp.ret 11) else (if -9223372036854775808 ≤ ((k5 : Int) + 1) ∧ ((k5 : Int) + 1) ≤ 9223372036854775807 then (f_r11_orders_l1 a0 m9 y4 (k5 + 1)) else none)) else none)) else none)))) else (some (Lp.go (y4, k5)))
def f_r11_orders (a0 : Bat) : Option (Int) := (f_r11_orders_l1 a0 (((a0.fRecords.length : Int)).toNat + 1) 0 0).bind fun e => match e with | .ret r => some r | .go (y47, k48) => (if a0.fAppend = true then some 0 else ((f_r11_times a0).bind fun x50 => if x50 = a0.fMax then some 0 else some 11))
set_option maxRecDepth 100000 in
set_option maxHeartbeats 4000000 in
theorem f_r11_orders_spec (a0 : Bat) (A1 : Option Addr) (c2 : Nat) (r : Int) (h : f_r11_orders a0 = some r) : SpecX Try.prog 108 #[.agg #[.int .i64 a0.fBase, .int .i64 a0.fLeader, .bool a0.fAppend, .bool a0.fTxn, .bool a0.fControl, .int .i64 a0.fLast, .int .i64 a0.fFirst, .int .i64 a0.fMax, .int .i64 a0.fProducer, .int .i64 a0.fEpoch, .int .i64 a0.fSequence, .slice A1 a0.fRecords.length c2]] (RX.of (sliceRd 7 Rec_rd) [.slice A1 a0.fRecords.length c2] a0.fRecords) (EmpR) (fun v A' N => v = .int .i64 r ∧ A' = EmpR ∧ N = []) := by
  refine enterA Try.func108 rfl Try.ntmps108 rfl ?_
  intro F w hX
  unfold f_r11_orders at h
  refine T.seq (T.region rfl ?_)
  refine TL.box rfl .u rfl rfl (fun b3 => ?_)
  refine TL.run ft_cursitorref11_ok [1] rfl rfl ?_
  refine TL.nil (X.seq (T.seq (T.seq (T.region rfl ?_))))
  refine TL.run ft_cursitorref11_ok [0] rfl rfl ?_
  refine TL.nil (X.seq (T.block ?_))
  obtain ⟨E6, hE7, hO8⟩ := Option.bind_eq_some_iff.1 h
  refine T.lp (fun m e Rs => ∃ (y4 : Int) (k5 : Nat), e = [(1, .pointer (some ⟨b3, 0, none⟩)), (2, .int .i64 y4), (3, .int .i64 (k5 : Int))] ∧ Rs = [BlkR b3 87 #[.int .i64 a0.fBase, .int .i64 a0.fLeader, .bool a0.fAppend, .bool a0.fTxn, .bool a0.fControl, .int .i64 a0.fLast, .int .i64 a0.fFirst, .int .i64 a0.fMax, .int .i64 a0.fProducer, .int .i64 a0.fEpoch, .int .i64 a0.fSequence, .slice A1 a0.fRecords.length c2], EmpR] ∧ f_r11_orders_l1 a0 m y4 k5 = some E6) (((a0.fRecords.length : Int)).toNat + 1) [0, 0] ⟨0, 0, rfl, rfl, by exact hE7⟩ (by rfl) (by rfl) ?_
  rintro m9 _ _ ⟨y4, k5, rfl, rfl, hl11⟩
  clear hE7 h
  cases m9 with
  | zero =>
    rw [f_r11_orders_l1] at hl11
    cases hl11
  | succ m9 =>
    have h := hl11
    clear hl11
    rw [f_r11_orders_l1] at h
    refine T.seq (T.seq (T.region rfl ?_))
    refine TL.run ft_cursitorref11_ok [0, 1] rfl rfl ?_
    refine TL.q rfl .u (Ex.b1 0 rfl Try.isAgg85 rfl rfl) rfl ?_
    refine TL.q rfl .u (Ex.lenS rfl Try.runUnderlying85) rfl ?_
    refine TL.run ft_cursitorref11_ok [4] rfl rfl ?_
    by_cases c13 : (k5 : Int) < (a0.fRecords.length : Int)
    · replace h := ifT c13 h
      refine TL.nil (X.seq ?_)
      refine T.yes rfl (decide_eq_true c13) ?_
      refine T.skip (X.seq (T.seq (T.block (T.seq (T.region rfl ?_)))))
      refine TL.run ft_cursitorref11_ok [0] rfl rfl ?_
      refine TL.q rfl .u (Ex.b1 0 rfl Try.isAgg85 rfl rfl) rfl ?_
      obtain ⟨x14, hx15, h⟩ := Option.bind_eq_some_iff.1 h
      obtain ⟨gz16, oz16, rfl, z16cs, z16cl, z16cc, z16nf, z16r⟩ := RX.elem (by decide) hX hx15
      obtain ⟨z16S, z16r, z16rr⟩ := z16r
      obtain ⟨A17, c18, rfl, z16s0⟩ := z16r
      have hX19 : (RX.of (sliceRd 3 Hd_rd) [.slice A17 x14.fHeaders.length c18] x14.fHeaders).reads w F := ⟨z16S, z16s0, z16rr⟩
      refine TL.run ft_cursitorref11_ok [2] rfl rfl ?_
      refine TL.q rfl .u (Ex.ixS (k := k5) rfl rfl rfl Try.runUnderlying85 Try.sizeOf96 (List.getElem?_eq_some_iff.1 hx15).1) rfl ?_
      refine TL.run ft_cursitorref11_ok [4] rfl rfl ?_
      refine TL.q rfl .u (Ex.o1 1 rfl Try.isAgg3 z16nf z16cc rfl rfl) rfl ?_
      refine TL.run ft_cursitorref11_ok [6] rfl rfl ?_
      refine TL.nil (X.seq (T.seq (T.seq (T.region rfl ?_))))
      refine TL.run ft_cursitorref11_ok [0, 1] rfl rfl ?_
      refine TL.q rfl .u (Ex.b1 0 rfl Try.isAgg3 rfl rfl) rfl ?_
      by_cases c20 : x14.fOffset > a0.fLast
      · replace h := ifT c20 h
        refine TL.run ft_cursitorref11_ok [3, 4] rfl rfl ?_
        refine TL.no rfl (.gn rfl rfl (decide_eq_true c20)) rfl ?_
        refine TL.no rfl (.gn rfl rfl (decide_eq_true c20)) rfl ?_
        refine TL.no rfl (.gn rfl rfl (decide_eq_true c20)) rfl ?_
        refine TL.no rfl (.gu rfl rfl) rfl ?_
        refine TL.no rfl (.gu rfl rfl) rfl ?_
        refine TL.no rfl (.gu rfl rfl) rfl ?_
        refine TL.no rfl (.gu rfl rfl) rfl ?_
        refine TL.no rfl (.gu rfl rfl) rfl ?_
        refine TL.no rfl (.gu rfl rfl) rfl ?_
        refine TL.no rfl (.gu rfl rfl) rfl ?_
        refine TL.no rfl (.gu rfl rfl) rfl ?_
        refine TL.no rfl (.gu rfl rfl) rfl ?_
        refine TL.no rfl (.gn rfl rfl (decide_eq_true c20)) rfl ?_
        refine TL.q rfl .u (Ex.py rfl (decide_eq_true c20) rfl) rfl ?_
        refine TL.run ft_cursitorref11_ok [19] rfl rfl ?_
        refine TL.no rfl (.gn rfl rfl rfl) rfl ?_
        refine TL.no rfl (.gn rfl rfl rfl) rfl ?_
        refine TL.q rfl .u (Ex.py rfl rfl rfl) rfl ?_
        refine TL.nil (X.seq ?_)
        refine T.yes rfl rfl ?_
        refine T.seq (T.region rfl ?_)
        refine TL.run ft_cursitorref11_ok [0] rfl rfl ?_
        obtain rfl := Option.some.inj h
        replace h := hO8
        clear hO8
        try dsimp only at h
        obtain rfl := Option.some.inj h
        exact TL.nil (X.seq (T.ret (X.rs (X.rb (X.rs (X.rs (X.rb (X.rs (X.done1 [1] Try.results108 (RV.tm rfl) ⟨rfl, rfl, rfl⟩ (by rfl) (.inl rfl))))))))))
      · replace h := ifF c20 h
        refine TL.run ft_cursitorref11_ok [3, 4] rfl rfl ?_
        refine TL.q rfl (.g rfl rfl (decide_eq_false c20)) (Ex.ft ft_cursitorref11_ok rfl) rfl ?_
        refine TL.q rfl (.g rfl rfl (decide_eq_false c20)) (Ex.ft ft_cursitorref11_ok rfl) rfl ?_
        refine TL.q rfl (.g rfl rfl (decide_eq_false c20)) (Ex.ft ft_cursitorref11_ok rfl) rfl ?_
        by_cases c21 : (k5 : Int) > 0
        · replace h := ifT c21 h
          refine TL.q rfl (.g rfl rfl (decide_eq_true c21)) (Ex.ft ft_cursitorref11_ok rfl) rfl ?_
          refine TL.q rfl (.g rfl rfl (decide_eq_true c21)) (Ex.ft ft_cursitorref11_ok rfl) rfl ?_
          refine TL.q rfl (.g rfl rfl (decide_eq_true c21)) (Ex.b1 0 rfl Try.isAgg85 rfl rfl) rfl ?_
          refine TL.q rfl (.g rfl rfl (decide_eq_true c21)) (Ex.ft ft_cursitorref11_ok rfl) rfl ?_
          replace h := guard_some h
          obtain ⟨c22, h⟩ := h
          refine TL.q rfl (.g rfl rfl (decide_eq_true c21)) (Ex.sub rfl rfl c22) rfl ?_
          replace h := guard_some h
          obtain ⟨c23, h⟩ := h
          obtain ⟨x24, hx25, h⟩ := Option.bind_eq_some_iff.1 h
          obtain ⟨z26cs, z26cl, z26cc, z26nf, z26r⟩ := RX.elem' (by decide) hX hx25
          obtain ⟨z26S, z26r, z26rr⟩ := z26r
          obtain ⟨A27, c28, rfl, z26s0⟩ := z26r
          have hX29 : (RX.of (sliceRd 3 Hd_rd) [.slice A27 x24.fHeaders.length c28] x24.fHeaders).reads w F := ⟨z26S, z26s0, z26rr⟩
          refine TL.q rfl (.g rfl rfl (decide_eq_true c21)) (Ex.ixS (k := ((k5 : Int) - 1).toNat) rfl rfl ((Int.toNat_of_nonneg c23).symm) Try.runUnderlying85 Try.sizeOf96 (List.getElem?_eq_some_iff.1 hx25).1) rfl ?_
          refine TL.q rfl (.g rfl rfl (decide_eq_true c21)) (Ex.ft ft_cursitorref11_ok rfl) rfl ?_
          refine TL.q rfl (.g rfl rfl (decide_eq_true c21)) (Ex.o1 1 rfl Try.isAgg3 z26nf z26cc rfl rfl) rfl ?_
          refine TL.q rfl (.g rfl rfl (decide_eq_true c21)) (Ex.ft ft_cursitorref11_ok rfl) rfl ?_
          refine TL.q rfl (.g rfl rfl (decide_eq_false c20)) (Ex.py rfl (decide_eq_true c21) rfl) rfl ?_
          refine TL.q rfl .u (Ex.pn rfl (decide_eq_false c20) rfl) rfl ?_
          by_cases c30 : x14.fOffset ≤ x24.fOffset
          · replace h := ifT c30 h
            refine TL.run ft_cursitorref11_ok [19] rfl rfl ?_
            refine TL.no rfl (.gn rfl rfl (decide_eq_true c30)) rfl ?_
            refine TL.no rfl (.gn rfl rfl (decide_eq_true c30)) rfl ?_
            refine TL.q rfl .u (Ex.py rfl (decide_eq_true c30) rfl) rfl ?_
            refine TL.nil (X.seq ?_)
            refine T.yes rfl rfl ?_
            refine T.seq (T.region rfl ?_)
            refine TL.run ft_cursitorref11_ok [0] rfl rfl ?_
            obtain rfl := Option.some.inj h
            replace h := hO8
            clear hO8
            try dsimp only at h
            obtain rfl := Option.some.inj h
            exact TL.nil (X.seq (T.ret (X.rs (X.rb (X.rs (X.rs (X.rb (X.rs (X.done1 [1] Try.results108 (RV.tm rfl) ⟨rfl, rfl, rfl⟩ (by rfl) (.inl rfl))))))))))
          · replace h := ifF c30 h
            refine TL.run ft_cursitorref11_ok [19] rfl rfl ?_
            refine TL.q rfl (.g rfl rfl (decide_eq_false c30)) (Ex.ft ft_cursitorref11_ok rfl) rfl ?_
            refine TL.q rfl (.g rfl rfl (decide_eq_false c30)) (Ex.ft ft_cursitorref11_ok rfl) rfl ?_
            refine TL.q rfl .u (Ex.pn rfl (decide_eq_false c30) rfl) rfl ?_
            by_cases c31 : x14.fOffset < 0
            · replace h := ifT c31 h
              refine TL.nil (X.seq ?_)
              refine T.yes rfl (decide_eq_true c31) ?_
              refine T.seq (T.region rfl ?_)
              refine TL.run ft_cursitorref11_ok [0] rfl rfl ?_
              obtain rfl := Option.some.inj h
              replace h := hO8
              clear hO8
              try dsimp only at h
              obtain rfl := Option.some.inj h
              exact TL.nil (X.seq (T.ret (X.rs (X.rb (X.rs (X.rs (X.rb (X.rs (X.done1 [1] Try.results108 (RV.tm rfl) ⟨rfl, rfl, rfl⟩ (by rfl) (.inl rfl))))))))))
            · replace h := ifF c31 h
              refine TL.nil (X.seq ?_)
              refine T.no rfl (decide_eq_false c31) ?_
              refine T.skip (X.seq (T.seq (T.region rfl ?_)))
              refine TL.run ft_cursitorref11_ok [0] rfl rfl ?_
              refine TL.q rfl .u (Ex.b1 0 rfl Try.isAgg85 rfl rfl) rfl ?_
              refine TL.run ft_cursitorref11_ok [2] rfl rfl ?_
              refine TL.q rfl .u (Ex.ixS (k := k5) rfl rfl rfl Try.runUnderlying85 Try.sizeOf96 (List.getElem?_eq_some_iff.1 hx15).1) rfl ?_
              refine TL.run ft_cursitorref11_ok [4] rfl rfl ?_
              refine TL.q rfl .u (Ex.o1 0 rfl Try.isAgg3 z16nf z16cc rfl rfl) rfl ?_
              refine TL.run ft_cursitorref11_ok [6] rfl rfl ?_
              refine TL.nil (X.seq (T.seq (T.region rfl ?_)))
              refine TL.run ft_cursitorref11_ok [0, 1] rfl rfl ?_
              refine TL.q rfl .u (Ex.b1 0 rfl Try.isAgg3 rfl rfl) rfl ?_
              replace h := guard_some h
              obtain ⟨c32, h⟩ := h
              refine TL.q rfl .u (Ex.sub rfl rfl c32) rfl ?_
              by_cases c33 : x14.fTime > (9223372036854775807 - a0.fFirst)
              · replace h := ifT c33 h
                refine TL.run ft_cursitorref11_ok [4, 5] rfl rfl ?_
                refine TL.no rfl (.gn rfl rfl (decide_eq_true c33)) rfl ?_
                refine TL.no rfl (.gn rfl rfl (decide_eq_true c33)) rfl ?_
                refine TL.no rfl (.gn rfl rfl (decide_eq_true c33)) rfl ?_
                refine TL.no rfl (.gn rfl rfl (decide_eq_true c33)) rfl ?_
                refine TL.no rfl (.gn rfl rfl (decide_eq_true c33)) rfl ?_
                refine TL.q rfl .u (Ex.py rfl (decide_eq_true c33) rfl) rfl ?_
                refine TL.nil (X.seq ?_)
                refine T.yes rfl rfl ?_
                refine T.seq (T.region rfl ?_)
                refine TL.run ft_cursitorref11_ok [0] rfl rfl ?_
                obtain rfl := Option.some.inj h
                replace h := hO8
                clear hO8
                try dsimp only at h
                obtain rfl := Option.some.inj h
                exact TL.nil (X.seq (T.ret (X.rb (X.rs (X.rs (X.rb (X.rs (X.done1 [1] Try.results108 (RV.tm rfl) ⟨rfl, rfl, rfl⟩ (by rfl) (.inl rfl)))))))))
              · replace h := ifF c33 h
                refine TL.run ft_cursitorref11_ok [4, 5] rfl rfl ?_
                refine TL.q rfl (.g rfl rfl (decide_eq_false c33)) (Ex.ft ft_cursitorref11_ok rfl) rfl ?_
                refine TL.q rfl (.g rfl rfl (decide_eq_false c33)) (Ex.ft ft_cursitorref11_ok rfl) rfl ?_
                refine TL.q rfl (.g rfl rfl (decide_eq_false c33)) (Ex.b1 0 rfl Try.isAgg3 rfl rfl) rfl ?_
                replace h := guard_some h
                obtain ⟨c34, h⟩ := h
                refine TL.q rfl (.g rfl rfl (decide_eq_false c33)) (Ex.neg rfl c34) rfl ?_
                refine TL.q rfl (.g rfl rfl (decide_eq_false c33)) (Ex.ft ft_cursitorref11_ok rfl) rfl ?_
                refine TL.q rfl .u (Ex.pn rfl (decide_eq_false c33) rfl) rfl ?_
                by_cases c35 : x14.fTime < (-a0.fFirst)
                · replace h := ifT c35 h
                  refine TL.nil (X.seq ?_)
                  refine T.yes rfl (decide_eq_true c35) ?_
                  refine T.seq (T.region rfl ?_)
                  refine TL.run ft_cursitorref11_ok [0] rfl rfl ?_
                  obtain rfl := Option.some.inj h
                  replace h := hO8
                  clear hO8
                  try dsimp only at h
                  obtain rfl := Option.some.inj h
                  exact TL.nil (X.seq (T.ret (X.rb (X.rs (X.rs (X.rb (X.rs (X.done1 [1] Try.results108 (RV.tm rfl) ⟨rfl, rfl, rfl⟩ (by rfl) (.inl rfl)))))))))
                · replace h := ifF c35 h
                  refine TL.nil (X.seq ?_)
                  refine T.no rfl (decide_eq_false c35) ?_
                  refine T.skip (X.blk (X.seq (T.region rfl ?_)))
                  replace h := guard_some h
                  obtain ⟨c36, h⟩ := h
                  refine TL.run ft_cursitorref11_ok [0] rfl rfl ?_
                  refine TL.q rfl .u (Ex.add rfl rfl c36) rfl ?_
                  refine TL.run ft_cursitorref11_ok [2] rfl rfl ?_
                  exact TL.nil (X.back (m' := m9) [0, 0] (by omega) ⟨y4, k5 + 1, rfl, rfl, h⟩ (by rfl) (by rfl))
        · replace h := ifF c21 h
          refine TL.no rfl (.gn rfl rfl (decide_eq_false c21)) rfl ?_
          refine TL.no rfl (.gn rfl rfl (decide_eq_false c21)) rfl ?_
          refine TL.no rfl (.gn rfl rfl (decide_eq_false c21)) rfl ?_
          refine TL.no rfl (.gn rfl rfl (decide_eq_false c21)) rfl ?_
          refine TL.no rfl (.gn rfl rfl (decide_eq_false c21)) rfl ?_
          refine TL.no rfl (.gn rfl rfl (decide_eq_false c21)) rfl ?_
          refine TL.no rfl (.gn rfl rfl (decide_eq_false c21)) rfl ?_
          refine TL.no rfl (.gn rfl rfl (decide_eq_false c21)) rfl ?_
          refine TL.no rfl (.gn rfl rfl (decide_eq_false c21)) rfl ?_
          refine TL.q rfl (.g rfl rfl (decide_eq_false c20)) (Ex.pn rfl (decide_eq_false c21) rfl) rfl ?_
          refine TL.q rfl .u (Ex.pn rfl (decide_eq_false c20) rfl) rfl ?_
          refine TL.run ft_cursitorref11_ok [19] rfl rfl ?_
          refine TL.q rfl (.g rfl rfl rfl) (Ex.ft ft_cursitorref11_ok rfl) rfl ?_
          refine TL.q rfl (.g rfl rfl rfl) (Ex.ft ft_cursitorref11_ok rfl) rfl ?_
          refine TL.q rfl .u (Ex.pn rfl rfl rfl) rfl ?_
          by_cases c37 : x14.fOffset < 0
          · replace h := ifT c37 h
            refine TL.nil (X.seq ?_)
            refine T.yes rfl (decide_eq_true c37) ?_
            refine T.seq (T.region rfl ?_)
            refine TL.run ft_cursitorref11_ok [0] rfl rfl ?_
            obtain rfl := Option.some.inj h
            replace h := hO8
            clear hO8
            try dsimp only at h
            obtain rfl := Option.some.inj h
            exact TL.nil (X.seq (T.ret (X.rs (X.rb (X.rs (X.rs (X.rb (X.rs (X.done1 [1] Try.results108 (RV.tm rfl) ⟨rfl, rfl, rfl⟩ (by rfl) (.inl rfl))))))))))
          · replace h := ifF c37 h
            refine TL.nil (X.seq ?_)
            refine T.no rfl (decide_eq_false c37) ?_
            refine T.skip (X.seq (T.seq (T.region rfl ?_)))
            refine TL.run ft_cursitorref11_ok [0] rfl rfl ?_
            refine TL.q rfl .u (Ex.b1 0 rfl Try.isAgg85 rfl rfl) rfl ?_
            refine TL.run ft_cursitorref11_ok [2] rfl rfl ?_
            refine TL.q rfl .u (Ex.ixS (k := k5) rfl rfl rfl Try.runUnderlying85 Try.sizeOf96 (List.getElem?_eq_some_iff.1 hx15).1) rfl ?_
            refine TL.run ft_cursitorref11_ok [4] rfl rfl ?_
            refine TL.q rfl .u (Ex.o1 0 rfl Try.isAgg3 z16nf z16cc rfl rfl) rfl ?_
            refine TL.run ft_cursitorref11_ok [6] rfl rfl ?_
            refine TL.nil (X.seq (T.seq (T.region rfl ?_)))
            refine TL.run ft_cursitorref11_ok [0, 1] rfl rfl ?_
            refine TL.q rfl .u (Ex.b1 0 rfl Try.isAgg3 rfl rfl) rfl ?_
            replace h := guard_some h
            obtain ⟨c38, h⟩ := h
            refine TL.q rfl .u (Ex.sub rfl rfl c38) rfl ?_
            by_cases c39 : x14.fTime > (9223372036854775807 - a0.fFirst)
            · replace h := ifT c39 h
              refine TL.run ft_cursitorref11_ok [4, 5] rfl rfl ?_
              refine TL.no rfl (.gn rfl rfl (decide_eq_true c39)) rfl ?_
              refine TL.no rfl (.gn rfl rfl (decide_eq_true c39)) rfl ?_
              refine TL.no rfl (.gn rfl rfl (decide_eq_true c39)) rfl ?_
              refine TL.no rfl (.gn rfl rfl (decide_eq_true c39)) rfl ?_
              refine TL.no rfl (.gn rfl rfl (decide_eq_true c39)) rfl ?_
              refine TL.q rfl .u (Ex.py rfl (decide_eq_true c39) rfl) rfl ?_
              refine TL.nil (X.seq ?_)
              refine T.yes rfl rfl ?_
              refine T.seq (T.region rfl ?_)
              refine TL.run ft_cursitorref11_ok [0] rfl rfl ?_
              obtain rfl := Option.some.inj h
              replace h := hO8
              clear hO8
              try dsimp only at h
              obtain rfl := Option.some.inj h
              exact TL.nil (X.seq (T.ret (X.rb (X.rs (X.rs (X.rb (X.rs (X.done1 [1] Try.results108 (RV.tm rfl) ⟨rfl, rfl, rfl⟩ (by rfl) (.inl rfl)))))))))
            · replace h := ifF c39 h
              refine TL.run ft_cursitorref11_ok [4, 5] rfl rfl ?_
              refine TL.q rfl (.g rfl rfl (decide_eq_false c39)) (Ex.ft ft_cursitorref11_ok rfl) rfl ?_
              refine TL.q rfl (.g rfl rfl (decide_eq_false c39)) (Ex.ft ft_cursitorref11_ok rfl) rfl ?_
              refine TL.q rfl (.g rfl rfl (decide_eq_false c39)) (Ex.b1 0 rfl Try.isAgg3 rfl rfl) rfl ?_
              replace h := guard_some h
              obtain ⟨c40, h⟩ := h
              refine TL.q rfl (.g rfl rfl (decide_eq_false c39)) (Ex.neg rfl c40) rfl ?_
              refine TL.q rfl (.g rfl rfl (decide_eq_false c39)) (Ex.ft ft_cursitorref11_ok rfl) rfl ?_
              refine TL.q rfl .u (Ex.pn rfl (decide_eq_false c39) rfl) rfl ?_
              by_cases c41 : x14.fTime < (-a0.fFirst)
              · replace h := ifT c41 h
                refine TL.nil (X.seq ?_)
                refine T.yes rfl (decide_eq_true c41) ?_
                refine T.seq (T.region rfl ?_)
                refine TL.run ft_cursitorref11_ok [0] rfl rfl ?_
                obtain rfl := Option.some.inj h
                replace h := hO8
                clear hO8
                try dsimp only at h
                obtain rfl := Option.some.inj h
                exact TL.nil (X.seq (T.ret (X.rb (X.rs (X.rs (X.rb (X.rs (X.done1 [1] Try.results108 (RV.tm rfl) ⟨rfl, rfl, rfl⟩ (by rfl) (.inl rfl)))))))))
              · replace h := ifF c41 h
                refine TL.nil (X.seq ?_)
                refine T.no rfl (decide_eq_false c41) ?_
                refine T.skip (X.blk (X.seq (T.region rfl ?_)))
                replace h := guard_some h
                obtain ⟨c42, h⟩ := h
                refine TL.run ft_cursitorref11_ok [0] rfl rfl ?_
                refine TL.q rfl .u (Ex.add rfl rfl c42) rfl ?_
                refine TL.run ft_cursitorref11_ok [2] rfl rfl ?_
                exact TL.nil (X.back (m' := m9) [0, 0] (by omega) ⟨y4, k5 + 1, rfl, rfl, h⟩ (by rfl) (by rfl))
    · replace h := ifF c13 h
      refine TL.nil (X.seq ?_)
      refine T.no rfl (decide_eq_false c13) ?_
      obtain rfl := Option.some.inj h
      replace h := hO8
      clear hO8
      try dsimp only at h
      refine T.exit (X.exs (X.exs (X.ex (X.seq (T.seq (T.seq (T.draw (.q 0 (.q 1 (.q 2 (.q 3 (.q 4 (.q 6 (.q 7 (.e 5 (.q 8 (.q 9 .nil)))))))))) [0, 0] rfl mix_cursitorref11 (NoP.seq (NoP.seq np_post)) (by kernel_rfl) ?_)))))))
      refine TD.run ft_cursitorref11_ok [0] rfl rfl ?_
      refine TD.q rfl .u (Ex.b1 0 rfl Try.isAgg4 rfl rfl) rfl ?_
      by_cases c43 : a0.fAppend = true
      · replace h := ifT c43 h
        refine TD.run ft_cursitorref11_ok [2, 3] rfl rfl ?_
        refine TD.no rfl (.gn rfl rfl (bn_f c43)) rfl ?_
        refine TD.no rfl (.gn rfl rfl (bn_f c43)) rfl ?_
        refine TD.no rfl (.gn rfl rfl (bn_f c43)) rfl ?_
        refine TD.noe rfl (.gn rfl rfl (bn_f c43)) rfl [0, 0] rfl ?_
        refine TD.no rfl (.gn rfl rfl (bn_f c43)) rfl ?_
        refine TD.q rfl .u (Ex.pn rfl (bn_f c43) rfl) rfl ?_
        refine TD.nil (X.seq ?_)
        refine T.no rfl rfl ?_
        refine T.skip (X.seq (T.seq (T.region rfl ?_)))
        refine TL.run ft_cursitorref11_ok [0] rfl rfl ?_
        obtain rfl := Option.some.inj h
        exact TL.nil (X.seq (T.ret (X.done1 [1] Try.results108 (RV.tm rfl) ⟨rfl, rfl, rfl⟩ (by rfl) (.inl rfl))))
      · replace h := ifF c43 h
        replace c43 := eq_false_of_ne_true c43
        refine TD.run ft_cursitorref11_ok [2, 3] rfl rfl ?_
        refine TD.q rfl (.g rfl rfl (bn_t c43)) (Ex.bS (us := [.int .i64 a0.fBase, .int .i64 a0.fLeader, .bool a0.fAppend, .bool a0.fTxn, .bool a0.fControl, .int .i64 a0.fLast, .int .i64 a0.fFirst, .int .i64 a0.fMax, .int .i64 a0.fProducer, .int .i64 a0.fEpoch, .int .i64 a0.fSequence, .slice A1 a0.fRecords.length c2]) 0 rfl Try.isAgg87 Try.sizeOf87 rfl rfl rfl) rfl ?_
        refine TD.q rfl (.g rfl rfl (bn_t c43)) (Ex.ft ft_cursitorref11_ok rfl) rfl ?_
        refine TD.q rfl (.g rfl rfl (bn_t c43)) (Ex.b1 0 rfl Try.isAgg3 rfl rfl) rfl ?_
        obtain ⟨x44, hx45, h⟩ := Option.bind_eq_some_iff.1 h
        refine TD.ce rfl (.g rfl rfl (bn_t c43)) (.fn Try.call147 rfl) (f_r11_times_spec a0 _ _ _ hx45) (fun _ hs => (SrcE.old hs hX)) rfl [0, 0] (rfl) ?_
        refine TD.q rfl (.g rfl rfl (bn_t c43)) (Ex.ft ft_cursitorref11_ok rfl) rfl ?_
        refine TD.q rfl .u (Ex.py rfl (bn_t c43) rfl) rfl ?_
        by_cases c46 : x44 = a0.fMax
        · replace h := ifT c46 h
          refine TD.nil (X.seq ?_)
          refine T.no rfl (bn_f (decide_eq_true c46)) ?_
          refine T.skip (X.seq (T.seq (T.region rfl ?_)))
          refine TL.run ft_cursitorref11_ok [0] rfl rfl ?_
          obtain rfl := Option.some.inj h
          exact TL.nil (X.seq (T.ret (X.done1 [1] Try.results108 (RV.tm rfl) ⟨rfl, rfl, rfl⟩ (by rfl) (.inl rfl))))
        · replace h := ifF c46 h
          refine TD.nil (X.seq ?_)
          refine T.yes rfl (bn_t (decide_eq_false c46)) ?_
          refine T.seq (T.region rfl ?_)
          refine TL.run ft_cursitorref11_ok [0] rfl rfl ?_
          obtain rfl := Option.some.inj h
          exact TL.nil (X.seq (T.ret (X.rs (X.done1 [1] Try.results108 (RV.tm rfl) ⟨rfl, rfl, rfl⟩ (by rfl) (.inl rfl)))))
def f_r11_Check_l1 (a0 : Bat) : Nat → Int → Nat → Option (Lp Int (Int × Nat))
  | 0, _, _ => none
  | m26 + 1, y21, k22 => if (k22 : Int) < (a0.fRecords.length : Int) then ((a0.fRecords[k22]?).bind fun x31 => (f_r07_Right x31).bind fun x37 => if x37 = 0 then (if -9223372036854775808 ≤ ((k22 : Int) + 1) ∧ ((k22 : Int) + 1) ≤ 9223372036854775807 then (f_r11_Check_l1 a0 m26 y21 (k22 + 1)) else none) else some (Lp.ret x37)) else (some (Lp.go (y21, k22)))
def f_r11_Check_l2 (a0 : Bat) : Nat → Int → Nat → Option (Lp Int (Int × Nat))
  | 0, _, _ => none
  | m77 + 1, y72, k73 => if (k73 : Int) < (a0.fRecords.length : Int) then ((a0.fRecords[k73]?).bind fun x82 => (f_r07_Right x82).bind fun x88 => if x88 = 0 then (if -9223372036854775808 ≤ ((k73 : Int) + 1) ∧ ((k73 : Int) + 1) ≤ 9223372036854775807 then (f_r11_Check_l2 a0 m77 y72 (k73 + 1)) else none) else some (Lp.ret x88)) else (some (Lp.go (y72, k73)))
def f_r11_Check (a0 : Bat) : Option (Int) := if a0.fBase < 0 then some 11 else ((f_r11_int32s a0.fLeader (-1)).bind fun x5 => if x5 = true then ((f_r11_int32s a0.fLast 0).bind fun x8 => if x8 = true then (if -9223372036854775808 ≤ (9223372036854775807 - a0.fBase) ∧ (9223372036854775807 - a0.fBase) ≤ 9223372036854775807 then (if a0.fLast > (9223372036854775807 - a0.fBase) then some 11 else (if a0.fFirst < 0 then some 11 else (if a0.fMax < 0 then some 11 else (if a0.fControl = true then (if a0.fTxn = true then ((f_r11_producer a0).bind fun x17 => if x17 = true then (if (a0.fRecords.length : Int) = 1 then ((f_r11_Check_l1 a0 (((a0.fRecords.length : Int)).toNat + 1) 0 0).bind fun e => match e with | .ret r => some r | .go (y54, k55) => ((a0.fRecords[0]?).bind fun x56 => (f_r08_Read x56).bind fun (x62, x63, x64) => if x64 = 0 then ((f_r11_orders a0).bind fun x67 => some x67) else some x64)) else some 10) else some 11) else some 8) else ((f_r11_producer a0).bind fun x69 => if x69 = true then ((f_r11_Check_l2 a0 (((a0.fRecords.length : Int)).toNat + 1) 0 0).bind fun e => match e with | .ret r => some r | .go (y94, k95) => ((f_r11_orders a0).bind fun x96 => some x96)) else some 11))))) else none) else some 11) else some 11)
set_option maxRecDepth 100000 in
set_option maxHeartbeats 4000000 in
theorem f_r11_Check_spec (a0 : Bat) (A1 : Option Addr) (c2 : Nat) (r : Int) (h : f_r11_Check a0 = some r) : SpecX Try.prog 54 #[.agg #[.int .i64 a0.fBase, .int .i64 a0.fLeader, .bool a0.fAppend, .bool a0.fTxn, .bool a0.fControl, .int .i64 a0.fLast, .int .i64 a0.fFirst, .int .i64 a0.fMax, .int .i64 a0.fProducer, .int .i64 a0.fEpoch, .int .i64 a0.fSequence, .slice A1 a0.fRecords.length c2]] (RX.of (sliceRd 7 Rec_rd) [.slice A1 a0.fRecords.length c2] a0.fRecords) (EmpR) (fun v A' N => v = .int .i64 r ∧ A' = EmpR ∧ N = []) := by
  refine enterA Try.func54 rfl Try.ntmps54 rfl ?_
  intro F w hX
  unfold f_r11_Check at h
  refine T.seq (T.region rfl ?_)
  refine TL.box rfl .u rfl rfl (fun b3 => ?_)
  refine TL.run ft_cursitorref11_ok [1] rfl rfl ?_
  refine TL.nil (X.seq (T.seq (T.seq (T.region rfl ?_))))
  refine TL.run ft_cursitorref11_ok [0] rfl rfl ?_
  refine TL.q rfl .u (Ex.b1 0 rfl Try.isAgg3 rfl rfl) rfl ?_
  by_cases c4 : a0.fBase < 0
  · replace h := ifT c4 h
    refine TL.run ft_cursitorref11_ok [2, 3] rfl rfl ?_
    refine TL.no rfl (.gn rfl rfl (decide_eq_true c4)) rfl ?_
    refine TL.no rfl (.gn rfl rfl (decide_eq_true c4)) rfl ?_
    refine TL.no rfl (.gn rfl rfl (decide_eq_true c4)) rfl ?_
    refine TL.no rfl (.gn rfl rfl (decide_eq_true c4)) rfl ?_
    refine TL.q rfl .u (Ex.py rfl (decide_eq_true c4) rfl) rfl ?_
    refine TL.run ft_cursitorref11_ok [9] rfl rfl ?_
    refine TL.no rfl (.gn rfl rfl rfl) rfl ?_
    refine TL.no rfl (.gn rfl rfl rfl) rfl ?_
    refine TL.no rfl (.gn rfl rfl rfl) rfl ?_
    refine TL.no rfl (.gn rfl rfl rfl) rfl ?_
    refine TL.q rfl .u (Ex.py rfl rfl rfl) rfl ?_
    refine TL.run ft_cursitorref11_ok [15] rfl rfl ?_
    refine TL.no rfl (.gn rfl rfl rfl) rfl ?_
    refine TL.no rfl (.gn rfl rfl rfl) rfl ?_
    refine TL.no rfl (.gn rfl rfl rfl) rfl ?_
    refine TL.no rfl (.gn rfl rfl rfl) rfl ?_
    refine TL.no rfl (.gn rfl rfl rfl) rfl ?_
    refine TL.no rfl (.gn rfl rfl rfl) rfl ?_
    refine TL.q rfl .u (Ex.py rfl rfl rfl) rfl ?_
    refine TL.run ft_cursitorref11_ok [23] rfl rfl ?_
    refine TL.no rfl (.gn rfl rfl rfl) rfl ?_
    refine TL.no rfl (.gn rfl rfl rfl) rfl ?_
    refine TL.no rfl (.gn rfl rfl rfl) rfl ?_
    refine TL.q rfl .u (Ex.py rfl rfl rfl) rfl ?_
    refine TL.run ft_cursitorref11_ok [28] rfl rfl ?_
    refine TL.no rfl (.gn rfl rfl rfl) rfl ?_
    refine TL.no rfl (.gn rfl rfl rfl) rfl ?_
    refine TL.no rfl (.gn rfl rfl rfl) rfl ?_
    refine TL.q rfl .u (Ex.py rfl rfl rfl) rfl ?_
    refine TL.nil (X.seq ?_)
    refine T.yes rfl rfl ?_
    refine T.seq (T.region rfl ?_)
    refine TL.run ft_cursitorref11_ok [0] rfl rfl ?_
    obtain rfl := Option.some.inj h
    exact TL.nil (X.seq (T.ret (X.rs (X.done1 [1] Try.results54 (RV.tm rfl) ⟨rfl, rfl, rfl⟩ (by rfl) (.inl rfl)))))
  · replace h := ifF c4 h
    refine TL.run ft_cursitorref11_ok [2, 3] rfl rfl ?_
    refine TL.q rfl (.g rfl rfl (decide_eq_false c4)) (Ex.ft ft_cursitorref11_ok rfl) rfl ?_
    refine TL.q rfl (.g rfl rfl (decide_eq_false c4)) (Ex.b1 0 rfl Try.isAgg3 rfl rfl) rfl ?_
    obtain ⟨x5, hx6, h⟩ := Option.bind_eq_some_iff.1 h
    refine TL.ce rfl (.g rfl rfl (decide_eq_false c4)) (.fn Try.call105 rfl) (f_r11_int32s_spec a0.fLeader (-1) _ hx6) (fun _ hs => (RX.reads_triv _ _)) rfl ?_
    refine TL.q rfl (.g rfl rfl (decide_eq_false c4)) (Ex.ft ft_cursitorref11_ok rfl) rfl ?_
    refine TL.q rfl .u (Ex.pn rfl (decide_eq_false c4) rfl) rfl ?_
    by_cases c7 : x5 = true
    · replace h := ifT c7 h
      refine TL.run ft_cursitorref11_ok [9] rfl rfl ?_
      refine TL.q rfl (.g rfl rfl (bn_f c7)) (Ex.ft ft_cursitorref11_ok rfl) rfl ?_
      refine TL.q rfl (.g rfl rfl (bn_f c7)) (Ex.b1 0 rfl Try.isAgg3 rfl rfl) rfl ?_
      obtain ⟨x8, hx9, h⟩ := Option.bind_eq_some_iff.1 h
      refine TL.ce rfl (.g rfl rfl (bn_f c7)) (.fn Try.call105 rfl) (f_r11_int32s_spec a0.fLast 0 _ hx9) (fun _ hs => (RX.reads_triv _ _)) rfl ?_
      refine TL.q rfl (.g rfl rfl (bn_f c7)) (Ex.ft ft_cursitorref11_ok rfl) rfl ?_
      refine TL.q rfl .u (Ex.pn rfl (bn_f c7) rfl) rfl ?_
      by_cases c10 : x8 = true
      · replace h := ifT c10 h
        refine TL.run ft_cursitorref11_ok [15] rfl rfl ?_
        refine TL.q rfl (.g rfl rfl (bn_f c10)) (Ex.ft ft_cursitorref11_ok rfl) rfl ?_
        refine TL.q rfl (.g rfl rfl (bn_f c10)) (Ex.b1 0 rfl Try.isAgg3 rfl rfl) rfl ?_
        refine TL.q rfl (.g rfl rfl (bn_f c10)) (Ex.ft ft_cursitorref11_ok rfl) rfl ?_
        refine TL.q rfl (.g rfl rfl (bn_f c10)) (Ex.b1 0 rfl Try.isAgg3 rfl rfl) rfl ?_
        replace h := guard_some h
        obtain ⟨c11, h⟩ := h
        refine TL.q rfl (.g rfl rfl (bn_f c10)) (Ex.sub rfl rfl c11) rfl ?_
        refine TL.q rfl (.g rfl rfl (bn_f c10)) (Ex.ft ft_cursitorref11_ok rfl) rfl ?_
        refine TL.q rfl .u (Ex.pn rfl (bn_f c10) rfl) rfl ?_
        by_cases c12 : a0.fLast > (9223372036854775807 - a0.fBase)
        · replace h := ifT c12 h
          refine TL.run ft_cursitorref11_ok [23] rfl rfl ?_
          refine TL.no rfl (.gn rfl rfl (decide_eq_true c12)) rfl ?_
          refine TL.no rfl (.gn rfl rfl (decide_eq_true c12)) rfl ?_
          refine TL.no rfl (.gn rfl rfl (decide_eq_true c12)) rfl ?_
          refine TL.q rfl .u (Ex.py rfl (decide_eq_true c12) rfl) rfl ?_
          refine TL.run ft_cursitorref11_ok [28] rfl rfl ?_
          refine TL.no rfl (.gn rfl rfl rfl) rfl ?_
          refine TL.no rfl (.gn rfl rfl rfl) rfl ?_
          refine TL.no rfl (.gn rfl rfl rfl) rfl ?_
          refine TL.q rfl .u (Ex.py rfl rfl rfl) rfl ?_
          refine TL.nil (X.seq ?_)
          refine T.yes rfl rfl ?_
          refine T.seq (T.region rfl ?_)
          refine TL.run ft_cursitorref11_ok [0] rfl rfl ?_
          obtain rfl := Option.some.inj h
          exact TL.nil (X.seq (T.ret (X.rs (X.done1 [1] Try.results54 (RV.tm rfl) ⟨rfl, rfl, rfl⟩ (by rfl) (.inl rfl)))))
        · replace h := ifF c12 h
          refine TL.run ft_cursitorref11_ok [23] rfl rfl ?_
          refine TL.q rfl (.g rfl rfl (decide_eq_false c12)) (Ex.ft ft_cursitorref11_ok rfl) rfl ?_
          refine TL.q rfl (.g rfl rfl (decide_eq_false c12)) (Ex.b1 0 rfl Try.isAgg3 rfl rfl) rfl ?_
          refine TL.q rfl (.g rfl rfl (decide_eq_false c12)) (Ex.ft ft_cursitorref11_ok rfl) rfl ?_
          refine TL.q rfl .u (Ex.pn rfl (decide_eq_false c12) rfl) rfl ?_
          by_cases c13 : a0.fFirst < 0
          · replace h := ifT c13 h
            refine TL.run ft_cursitorref11_ok [28] rfl rfl ?_
            refine TL.no rfl (.gn rfl rfl (decide_eq_true c13)) rfl ?_
            refine TL.no rfl (.gn rfl rfl (decide_eq_true c13)) rfl ?_
            refine TL.no rfl (.gn rfl rfl (decide_eq_true c13)) rfl ?_
            refine TL.q rfl .u (Ex.py rfl (decide_eq_true c13) rfl) rfl ?_
            refine TL.nil (X.seq ?_)
            refine T.yes rfl rfl ?_
            refine T.seq (T.region rfl ?_)
            refine TL.run ft_cursitorref11_ok [0] rfl rfl ?_
            obtain rfl := Option.some.inj h
            exact TL.nil (X.seq (T.ret (X.rs (X.done1 [1] Try.results54 (RV.tm rfl) ⟨rfl, rfl, rfl⟩ (by rfl) (.inl rfl)))))
          · replace h := ifF c13 h
            refine TL.run ft_cursitorref11_ok [28] rfl rfl ?_
            refine TL.q rfl (.g rfl rfl (decide_eq_false c13)) (Ex.ft ft_cursitorref11_ok rfl) rfl ?_
            refine TL.q rfl (.g rfl rfl (decide_eq_false c13)) (Ex.b1 0 rfl Try.isAgg3 rfl rfl) rfl ?_
            refine TL.q rfl (.g rfl rfl (decide_eq_false c13)) (Ex.ft ft_cursitorref11_ok rfl) rfl ?_
            refine TL.q rfl .u (Ex.pn rfl (decide_eq_false c13) rfl) rfl ?_
            by_cases c14 : a0.fMax < 0
            · replace h := ifT c14 h
              refine TL.nil (X.seq ?_)
              refine T.yes rfl (decide_eq_true c14) ?_
              refine T.seq (T.region rfl ?_)
              refine TL.run ft_cursitorref11_ok [0] rfl rfl ?_
              obtain rfl := Option.some.inj h
              exact TL.nil (X.seq (T.ret (X.rs (X.done1 [1] Try.results54 (RV.tm rfl) ⟨rfl, rfl, rfl⟩ (by rfl) (.inl rfl)))))
            · replace h := ifF c14 h
              refine TL.nil (X.seq ?_)
              refine T.no rfl (decide_eq_false c14) ?_
              refine T.skip (X.seq (T.seq (T.seq (T.region rfl ?_))))
              refine TL.run ft_cursitorref11_ok [0] rfl rfl ?_
              refine TL.q rfl .u (Ex.b1 0 rfl Try.isAgg4 rfl rfl) rfl ?_
              by_cases c15 : a0.fControl = true
              · replace h := ifT c15 h
                refine TL.run ft_cursitorref11_ok [2] rfl rfl ?_
                refine TL.q rfl (.g rfl rfl c15) (Ex.ft ft_cursitorref11_ok rfl) rfl ?_
                refine TL.q rfl (.g rfl rfl c15) (Ex.b1 0 rfl Try.isAgg4 rfl rfl) rfl ?_
                refine TL.q rfl (.g rfl rfl c15) (Ex.ft ft_cursitorref11_ok rfl) rfl ?_
                refine TL.q rfl .u (Ex.py rfl c15 rfl) rfl ?_
                by_cases c16 : a0.fTxn = true
                · replace h := ifT c16 h
                  refine TL.nil (X.seq ?_)
                  refine T.no rfl (bn_f c16) ?_
                  refine T.skip (X.seq (T.seq (T.seq (T.region rfl ?_))))
                  refine TL.q rfl .u (Ex.bS (us := [.int .i64 a0.fBase, .int .i64 a0.fLeader, .bool a0.fAppend, .bool a0.fTxn, .bool a0.fControl, .int .i64 a0.fLast, .int .i64 a0.fFirst, .int .i64 a0.fMax, .int .i64 a0.fProducer, .int .i64 a0.fEpoch, .int .i64 a0.fSequence, .slice A1 a0.fRecords.length c2]) 0 rfl Try.isAgg87 Try.sizeOf87 rfl rfl rfl) rfl ?_
                  obtain ⟨x17, hx18, h⟩ := Option.bind_eq_some_iff.1 h
                  refine TL.ce rfl .u (.fn Try.call106 rfl) (f_r11_producer_spec a0 _ _ _ hx18) (fun _ hs => (SrcE.old hs hX)) rfl ?_
                  refine TL.run ft_cursitorref11_ok [2] rfl rfl ?_
                  by_cases c19 : x17 = true
                  · replace h := ifT c19 h
                    refine TL.nil (X.seq ?_)
                    refine T.no rfl (bn_f c19) ?_
                    refine T.skip (X.seq (T.seq (T.seq (T.region rfl ?_))))
                    refine TL.run ft_cursitorref11_ok [0] rfl rfl ?_
                    refine TL.q rfl .u (Ex.b1 0 rfl Try.isAgg4 rfl rfl) rfl ?_
                    refine TL.run ft_cursitorref11_ok [2] rfl rfl ?_
                    refine TL.q rfl (.g rfl rfl c15) (Ex.ft ft_cursitorref11_ok rfl) rfl ?_
                    refine TL.q rfl (.g rfl rfl c15) (Ex.b1 0 rfl Try.isAgg85 rfl rfl) rfl ?_
                    refine TL.q rfl (.g rfl rfl c15) (Ex.lenS rfl Try.runUnderlying85) rfl ?_
                    refine TL.q rfl (.g rfl rfl c15) (Ex.ft ft_cursitorref11_ok rfl) rfl ?_
                    refine TL.q rfl .u (Ex.py rfl c15 rfl) rfl ?_
                    by_cases c20 : (a0.fRecords.length : Int) = 1
                    · replace h := ifT c20 h
                      refine TL.nil (X.seq ?_)
                      refine T.no rfl (bn_f (decide_eq_true c20)) ?_
                      refine T.skip (X.seq (T.seq (T.seq (T.region rfl ?_))))
                      refine TL.run ft_cursitorref11_ok [0] rfl rfl ?_
                      refine TL.nil (X.seq (T.block ?_))
                      obtain ⟨E23, hE24, hO25⟩ := Option.bind_eq_some_iff.1 h
                      refine T.lp (fun m e Rs => ∃ (y21 : Int) (k22 : Nat), e = [(1, .pointer (some ⟨b3, 0, none⟩)), (2, .int .i64 y21), (3, .int .i64 (k22 : Int))] ∧ Rs = [BlkR b3 87 #[.int .i64 a0.fBase, .int .i64 a0.fLeader, .bool a0.fAppend, .bool a0.fTxn, .bool a0.fControl, .int .i64 a0.fLast, .int .i64 a0.fFirst, .int .i64 a0.fMax, .int .i64 a0.fProducer, .int .i64 a0.fEpoch, .int .i64 a0.fSequence, .slice A1 a0.fRecords.length c2], EmpR] ∧ f_r11_Check_l1 a0 m y21 k22 = some E23) (((a0.fRecords.length : Int)).toNat + 1) [0, 0] ⟨0, 0, rfl, rfl, by exact hE24⟩ (by rfl) (by rfl) ?_
                      rintro m26 _ _ ⟨y21, k22, rfl, rfl, hl28⟩
                      clear hE24 h
                      cases m26 with
                      | zero =>
                        rw [f_r11_Check_l1] at hl28
                        cases hl28
                      | succ m26 =>
                        have h := hl28
                        clear hl28
                        rw [f_r11_Check_l1] at h
                        refine T.seq (T.seq (T.region rfl ?_))
                        refine TL.run ft_cursitorref11_ok [0, 1] rfl rfl ?_
                        refine TL.q rfl .u (Ex.b1 0 rfl Try.isAgg85 rfl rfl) rfl ?_
                        refine TL.q rfl .u (Ex.lenS rfl Try.runUnderlying85) rfl ?_
                        refine TL.run ft_cursitorref11_ok [4] rfl rfl ?_
                        by_cases c30 : (k22 : Int) < (a0.fRecords.length : Int)
                        · replace h := ifT c30 h
                          refine TL.nil (X.seq ?_)
                          refine T.yes rfl (decide_eq_true c30) ?_
                          refine T.skip (X.seq (T.seq (T.block (T.seq (T.region rfl ?_)))))
                          refine TL.run ft_cursitorref11_ok [0] rfl rfl ?_
                          refine TL.q rfl .u (Ex.b1 0 rfl Try.isAgg85 rfl rfl) rfl ?_
                          obtain ⟨x31, hx32, h⟩ := Option.bind_eq_some_iff.1 h
                          obtain ⟨gz33, oz33, rfl, z33cs, z33cl, z33cc, z33nf, z33r⟩ := RX.elem (by decide) hX hx32
                          obtain ⟨z33S, z33r, z33rr⟩ := z33r
                          obtain ⟨A34, c35, rfl, z33s0⟩ := z33r
                          have hX36 : (RX.of (sliceRd 3 Hd_rd) [.slice A34 x31.fHeaders.length c35] x31.fHeaders).reads w F := ⟨z33S, z33s0, z33rr⟩
                          refine TL.run ft_cursitorref11_ok [2] rfl rfl ?_
                          refine TL.q rfl .u (Ex.ixS (k := k22) rfl rfl rfl Try.runUnderlying85 Try.sizeOf96 (List.getElem?_eq_some_iff.1 hx32).1) rfl ?_
                          refine TL.q rfl .u (Ex.oS (us := [.int .i64 x31.fTime, .int .i64 x31.fOffset, .bool x31.fKey.null, .string (bsOf x31.fKey.data), .bool x31.fValue.null, .string (bsOf x31.fValue.data), .slice A34 x31.fHeaders.length c35]) 0 rfl Try.isAgg96 Try.sizeOf96 z33nf z33cc rfl rfl rfl) rfl ?_
                          obtain ⟨x37, hx38, h⟩ := Option.bind_eq_some_iff.1 h
                          refine TL.ce rfl .u (.fn Try.call107 rfl) (f_r07_Right_spec x31 _ _ _ hx38) (fun _ hs => (SrcE.old hs hX36)) rfl ?_
                          refine TL.run ft_cursitorref11_ok [6] rfl rfl ?_
                          refine TL.nil (X.seq (T.seq (T.region rfl ?_)))
                          refine TL.run ft_cursitorref11_ok [0, 1] rfl rfl ?_
                          by_cases c39 : x37 = 0
                          · replace h := ifT c39 h
                            refine TL.nil (X.seq ?_)
                            refine T.no rfl (bn_f (decide_eq_true c39)) ?_
                            refine T.skip (X.blk (X.seq (T.region rfl ?_)))
                            replace h := guard_some h
                            obtain ⟨c40, h⟩ := h
                            refine TL.run ft_cursitorref11_ok [0] rfl rfl ?_
                            refine TL.q rfl .u (Ex.add rfl rfl c40) rfl ?_
                            refine TL.run ft_cursitorref11_ok [2] rfl rfl ?_
                            exact TL.nil (X.back (m' := m26) [0, 0] (by omega) ⟨y21, k22 + 1, rfl, rfl, h⟩ (by rfl) (by rfl))
                          · replace h := ifF c39 h
                            refine TL.nil (X.seq ?_)
                            refine T.yes rfl (bn_t (decide_eq_false c39)) ?_
                            refine T.seq (T.region rfl ?_)
                            refine TL.run ft_cursitorref11_ok [0, 1] rfl rfl ?_
                            obtain rfl := Option.some.inj h
                            replace h := hO25
                            clear hO25
                            try dsimp only at h
                            obtain rfl := Option.some.inj h
                            exact TL.nil (X.seq (T.ret (X.rb (X.rs (X.rs (X.rb (X.rs (X.done1 [1] Try.results54 (RV.tm rfl) ⟨rfl, rfl, rfl⟩ (by rfl) (.inl rfl)))))))))
                        · replace h := ifF c30 h
                          refine TL.nil (X.seq ?_)
                          refine T.no rfl (decide_eq_false c30) ?_
                          obtain rfl := Option.some.inj h
                          replace h := hO25
                          clear hO25
                          try dsimp only at h
                          refine T.exit (X.exs (X.exs (X.ex (X.seq (T.seq (T.seq (T.region rfl ?_)))))))
                          refine TL.run ft_cursitorref11_ok [0] rfl rfl ?_
                          refine TL.q rfl .u (Ex.b1 0 rfl Try.isAgg4 rfl rfl) rfl ?_
                          refine TL.nil (X.seq ?_)
                          refine T.yes rfl c15 ?_
                          refine T.seq (T.region rfl ?_)
                          refine TL.run ft_cursitorref11_ok [0] rfl rfl ?_
                          refine TL.q rfl .u (Ex.b1 0 rfl Try.isAgg85 rfl rfl) rfl ?_
                          obtain ⟨x41, hx42, h⟩ := Option.bind_eq_some_iff.1 h
                          obtain ⟨gz43, oz43, rfl, z43cs, z43cl, z43cc, z43nf, z43r⟩ := RX.elem (by decide) hX hx42
                          obtain ⟨z43S, z43r, z43rr⟩ := z43r
                          obtain ⟨A44, c45, rfl, z43s0⟩ := z43r
                          have hX46 : (RX.of (sliceRd 3 Hd_rd) [.slice A44 x41.fHeaders.length c45] x41.fHeaders).reads w F := ⟨z43S, z43s0, z43rr⟩
                          refine TL.q rfl .u (Ex.ixS (k := 0) rfl rfl rfl Try.runUnderlying85 Try.sizeOf96 (List.getElem?_eq_some_iff.1 hx42).1) rfl ?_
                          refine TL.q rfl .u (Ex.oS (us := [.int .i64 x41.fTime, .int .i64 x41.fOffset, .bool x41.fKey.null, .string (bsOf x41.fKey.data), .bool x41.fValue.null, .string (bsOf x41.fValue.data), .slice A44 x41.fHeaders.length c45]) 0 rfl Try.isAgg96 Try.sizeOf96 z43nf z43cc rfl rfl rfl) rfl ?_
                          obtain ⟨⟨x47, x48, x49⟩, hx50, h⟩ := Option.bind_eq_some_iff.1 h
                          try dsimp only at h
                          refine TL.ce rfl .u (.fn Try.call55 rfl) (f_r08_Read_spec x41 _ _ _ hx50) (fun _ hs => (SrcE.old hs hX46)) rfl ?_
                          refine TL.run ft_cursitorref11_ok [5, 6, 7, 8, 9, 10, 11] rfl rfl ?_
                          refine TL.nil (X.seq (T.seq (T.region rfl ?_)))
                          refine TL.run ft_cursitorref11_ok [0, 1] rfl rfl ?_
                          by_cases c51 : x49 = 0
                          · replace h := ifT c51 h
                            refine TL.nil (X.seq ?_)
                            refine T.no rfl (bn_f (decide_eq_true c51)) ?_
                            refine T.skip (X.seq (T.seq (T.region rfl ?_)))
                            refine TL.q rfl .u (Ex.bS (us := [.int .i64 a0.fBase, .int .i64 a0.fLeader, .bool a0.fAppend, .bool a0.fTxn, .bool a0.fControl, .int .i64 a0.fLast, .int .i64 a0.fFirst, .int .i64 a0.fMax, .int .i64 a0.fProducer, .int .i64 a0.fEpoch, .int .i64 a0.fSequence, .slice (some ⟨gz43, oz43, none⟩) a0.fRecords.length c2]) 0 rfl Try.isAgg87 Try.sizeOf87 rfl rfl rfl) rfl ?_
                            obtain ⟨x52, hx53, h⟩ := Option.bind_eq_some_iff.1 h
                            refine TL.ce rfl .u (.fn Try.call108 rfl) (f_r11_orders_spec a0 _ _ _ hx53) (fun _ hs => (SrcE.old hs hX)) rfl ?_
                            refine TL.run ft_cursitorref11_ok [2] rfl rfl ?_
                            obtain rfl := Option.some.inj h
                            exact TL.nil (X.seq (T.ret (X.done1 [1] Try.results54 (RV.tm rfl) ⟨rfl, rfl, rfl⟩ (by rfl) (.inl rfl))))
                          · replace h := ifF c51 h
                            refine TL.nil (X.seq ?_)
                            refine T.yes rfl (bn_t (decide_eq_false c51)) ?_
                            refine T.seq (T.region rfl ?_)
                            refine TL.run ft_cursitorref11_ok [0, 1] rfl rfl ?_
                            obtain rfl := Option.some.inj h
                            exact TL.nil (X.seq (T.ret (X.rs (X.done1 [1] Try.results54 (RV.tm rfl) ⟨rfl, rfl, rfl⟩ (by rfl) (.inl rfl)))))
                    · replace h := ifF c20 h
                      refine TL.nil (X.seq ?_)
                      refine T.yes rfl (bn_t (decide_eq_false c20)) ?_
                      refine T.seq (T.region rfl ?_)
                      refine TL.run ft_cursitorref11_ok [0] rfl rfl ?_
                      obtain rfl := Option.some.inj h
                      exact TL.nil (X.seq (T.ret (X.rs (X.done1 [1] Try.results54 (RV.tm rfl) ⟨rfl, rfl, rfl⟩ (by rfl) (.inl rfl)))))
                  · replace h := ifF c19 h
                    replace c19 := eq_false_of_ne_true c19
                    refine TL.nil (X.seq ?_)
                    refine T.yes rfl (bn_t c19) ?_
                    refine T.seq (T.region rfl ?_)
                    refine TL.run ft_cursitorref11_ok [0] rfl rfl ?_
                    obtain rfl := Option.some.inj h
                    exact TL.nil (X.seq (T.ret (X.rs (X.done1 [1] Try.results54 (RV.tm rfl) ⟨rfl, rfl, rfl⟩ (by rfl) (.inl rfl)))))
                · replace h := ifF c16 h
                  replace c16 := eq_false_of_ne_true c16
                  refine TL.nil (X.seq ?_)
                  refine T.yes rfl (bn_t c16) ?_
                  refine T.seq (T.region rfl ?_)
                  refine TL.run ft_cursitorref11_ok [0] rfl rfl ?_
                  obtain rfl := Option.some.inj h
                  exact TL.nil (X.seq (T.ret (X.rs (X.done1 [1] Try.results54 (RV.tm rfl) ⟨rfl, rfl, rfl⟩ (by rfl) (.inl rfl)))))
              · replace h := ifF c15 h
                replace c15 := eq_false_of_ne_true c15
                refine TL.run ft_cursitorref11_ok [2] rfl rfl ?_
                refine TL.no rfl (.gn rfl rfl c15) rfl ?_
                refine TL.no rfl (.gn rfl rfl c15) rfl ?_
                refine TL.no rfl (.gn rfl rfl c15) rfl ?_
                refine TL.q rfl .u (Ex.pn rfl c15 rfl) rfl ?_
                refine TL.nil (X.seq ?_)
                refine T.no rfl rfl ?_
                refine T.skip (X.seq (T.seq (T.seq (T.region rfl ?_))))
                refine TL.q rfl .u (Ex.bS (us := [.int .i64 a0.fBase, .int .i64 a0.fLeader, .bool a0.fAppend, .bool a0.fTxn, .bool a0.fControl, .int .i64 a0.fLast, .int .i64 a0.fFirst, .int .i64 a0.fMax, .int .i64 a0.fProducer, .int .i64 a0.fEpoch, .int .i64 a0.fSequence, .slice A1 a0.fRecords.length c2]) 0 rfl Try.isAgg87 Try.sizeOf87 rfl rfl rfl) rfl ?_
                obtain ⟨x69, hx70, h⟩ := Option.bind_eq_some_iff.1 h
                refine TL.ce rfl .u (.fn Try.call106 rfl) (f_r11_producer_spec a0 _ _ _ hx70) (fun _ hs => (SrcE.old hs hX)) rfl ?_
                refine TL.run ft_cursitorref11_ok [2] rfl rfl ?_
                by_cases c71 : x69 = true
                · replace h := ifT c71 h
                  refine TL.nil (X.seq ?_)
                  refine T.no rfl (bn_f c71) ?_
                  refine T.skip (X.seq (T.seq (T.seq (T.region rfl ?_))))
                  refine TL.run ft_cursitorref11_ok [0] rfl rfl ?_
                  refine TL.q rfl .u (Ex.b1 0 rfl Try.isAgg4 rfl rfl) rfl ?_
                  refine TL.run ft_cursitorref11_ok [2] rfl rfl ?_
                  refine TL.no rfl (.gn rfl rfl c15) rfl ?_
                  refine TL.no rfl (.gn rfl rfl c15) rfl ?_
                  refine TL.no rfl (.gn rfl rfl c15) rfl ?_
                  refine TL.no rfl (.gn rfl rfl c15) rfl ?_
                  refine TL.q rfl .u (Ex.pn rfl c15 rfl) rfl ?_
                  refine TL.nil (X.seq ?_)
                  refine T.no rfl rfl ?_
                  refine T.skip (X.seq (T.seq (T.seq (T.region rfl ?_))))
                  refine TL.run ft_cursitorref11_ok [0] rfl rfl ?_
                  refine TL.nil (X.seq (T.block ?_))
                  obtain ⟨E74, hE75, hO76⟩ := Option.bind_eq_some_iff.1 h
                  refine T.lp (fun m e Rs => ∃ (y72 : Int) (k73 : Nat), e = [(1, .pointer (some ⟨b3, 0, none⟩)), (2, .int .i64 y72), (3, .int .i64 (k73 : Int))] ∧ Rs = [BlkR b3 87 #[.int .i64 a0.fBase, .int .i64 a0.fLeader, .bool a0.fAppend, .bool a0.fTxn, .bool a0.fControl, .int .i64 a0.fLast, .int .i64 a0.fFirst, .int .i64 a0.fMax, .int .i64 a0.fProducer, .int .i64 a0.fEpoch, .int .i64 a0.fSequence, .slice A1 a0.fRecords.length c2], EmpR] ∧ f_r11_Check_l2 a0 m y72 k73 = some E74) (((a0.fRecords.length : Int)).toNat + 1) [0, 0] ⟨0, 0, rfl, rfl, by exact hE75⟩ (by rfl) (by rfl) ?_
                  rintro m77 _ _ ⟨y72, k73, rfl, rfl, hl79⟩
                  clear hE75 h
                  cases m77 with
                  | zero =>
                    rw [f_r11_Check_l2] at hl79
                    cases hl79
                  | succ m77 =>
                    have h := hl79
                    clear hl79
                    rw [f_r11_Check_l2] at h
                    refine T.seq (T.seq (T.region rfl ?_))
                    refine TL.run ft_cursitorref11_ok [0, 1] rfl rfl ?_
                    refine TL.q rfl .u (Ex.b1 0 rfl Try.isAgg85 rfl rfl) rfl ?_
                    refine TL.q rfl .u (Ex.lenS rfl Try.runUnderlying85) rfl ?_
                    refine TL.run ft_cursitorref11_ok [4] rfl rfl ?_
                    by_cases c81 : (k73 : Int) < (a0.fRecords.length : Int)
                    · replace h := ifT c81 h
                      refine TL.nil (X.seq ?_)
                      refine T.yes rfl (decide_eq_true c81) ?_
                      refine T.skip (X.seq (T.seq (T.block (T.seq (T.region rfl ?_)))))
                      refine TL.run ft_cursitorref11_ok [0] rfl rfl ?_
                      refine TL.q rfl .u (Ex.b1 0 rfl Try.isAgg85 rfl rfl) rfl ?_
                      obtain ⟨x82, hx83, h⟩ := Option.bind_eq_some_iff.1 h
                      obtain ⟨gz84, oz84, rfl, z84cs, z84cl, z84cc, z84nf, z84r⟩ := RX.elem (by decide) hX hx83
                      obtain ⟨z84S, z84r, z84rr⟩ := z84r
                      obtain ⟨A85, c86, rfl, z84s0⟩ := z84r
                      have hX87 : (RX.of (sliceRd 3 Hd_rd) [.slice A85 x82.fHeaders.length c86] x82.fHeaders).reads w F := ⟨z84S, z84s0, z84rr⟩
                      refine TL.run ft_cursitorref11_ok [2] rfl rfl ?_
                      refine TL.q rfl .u (Ex.ixS (k := k73) rfl rfl rfl Try.runUnderlying85 Try.sizeOf96 (List.getElem?_eq_some_iff.1 hx83).1) rfl ?_
                      refine TL.q rfl .u (Ex.oS (us := [.int .i64 x82.fTime, .int .i64 x82.fOffset, .bool x82.fKey.null, .string (bsOf x82.fKey.data), .bool x82.fValue.null, .string (bsOf x82.fValue.data), .slice A85 x82.fHeaders.length c86]) 0 rfl Try.isAgg96 Try.sizeOf96 z84nf z84cc rfl rfl rfl) rfl ?_
                      obtain ⟨x88, hx89, h⟩ := Option.bind_eq_some_iff.1 h
                      refine TL.ce rfl .u (.fn Try.call107 rfl) (f_r07_Right_spec x82 _ _ _ hx89) (fun _ hs => (SrcE.old hs hX87)) rfl ?_
                      refine TL.run ft_cursitorref11_ok [6] rfl rfl ?_
                      refine TL.nil (X.seq (T.seq (T.region rfl ?_)))
                      refine TL.run ft_cursitorref11_ok [0, 1] rfl rfl ?_
                      by_cases c90 : x88 = 0
                      · replace h := ifT c90 h
                        refine TL.nil (X.seq ?_)
                        refine T.no rfl (bn_f (decide_eq_true c90)) ?_
                        refine T.skip (X.blk (X.seq (T.region rfl ?_)))
                        replace h := guard_some h
                        obtain ⟨c91, h⟩ := h
                        refine TL.run ft_cursitorref11_ok [0] rfl rfl ?_
                        refine TL.q rfl .u (Ex.add rfl rfl c91) rfl ?_
                        refine TL.run ft_cursitorref11_ok [2] rfl rfl ?_
                        exact TL.nil (X.back (m' := m77) [0, 0] (by omega) ⟨y72, k73 + 1, rfl, rfl, h⟩ (by rfl) (by rfl))
                      · replace h := ifF c90 h
                        refine TL.nil (X.seq ?_)
                        refine T.yes rfl (bn_t (decide_eq_false c90)) ?_
                        refine T.seq (T.region rfl ?_)
                        refine TL.run ft_cursitorref11_ok [0, 1] rfl rfl ?_
                        obtain rfl := Option.some.inj h
                        replace h := hO76
                        clear hO76
                        try dsimp only at h
                        obtain rfl := Option.some.inj h
                        exact TL.nil (X.seq (T.ret (X.rb (X.rs (X.rs (X.rb (X.rs (X.done1 [1] Try.results54 (RV.tm rfl) ⟨rfl, rfl, rfl⟩ (by rfl) (.inl rfl)))))))))
                    · replace h := ifF c81 h
                      refine TL.nil (X.seq ?_)
                      refine T.no rfl (decide_eq_false c81) ?_
                      obtain rfl := Option.some.inj h
                      replace h := hO76
                      clear hO76
                      try dsimp only at h
                      refine T.exit (X.exs (X.exs (X.ex (X.seq (T.seq (T.seq (T.region rfl ?_)))))))
                      refine TL.run ft_cursitorref11_ok [0] rfl rfl ?_
                      refine TL.q rfl .u (Ex.b1 0 rfl Try.isAgg4 rfl rfl) rfl ?_
                      refine TL.nil (X.seq ?_)
                      refine T.no rfl c15 ?_
                      refine T.skip (X.seq (T.seq (T.region rfl ?_)))
                      refine TL.q rfl .u (Ex.bS (us := [.int .i64 a0.fBase, .int .i64 a0.fLeader, .bool a0.fAppend, .bool a0.fTxn, .bool a0.fControl, .int .i64 a0.fLast, .int .i64 a0.fFirst, .int .i64 a0.fMax, .int .i64 a0.fProducer, .int .i64 a0.fEpoch, .int .i64 a0.fSequence, .slice A1 a0.fRecords.length c2]) 0 rfl Try.isAgg87 Try.sizeOf87 rfl rfl rfl) rfl ?_
                      obtain ⟨x92, hx93, h⟩ := Option.bind_eq_some_iff.1 h
                      refine TL.ce rfl .u (.fn Try.call108 rfl) (f_r11_orders_spec a0 _ _ _ hx93) (fun _ hs => (SrcE.old hs hX)) rfl ?_
                      refine TL.run ft_cursitorref11_ok [2] rfl rfl ?_
                      obtain rfl := Option.some.inj h
                      exact TL.nil (X.seq (T.ret (X.done1 [1] Try.results54 (RV.tm rfl) ⟨rfl, rfl, rfl⟩ (by rfl) (.inl rfl))))
                · replace h := ifF c71 h
                  replace c71 := eq_false_of_ne_true c71
                  refine TL.nil (X.seq ?_)
                  refine T.yes rfl (bn_t c71) ?_
                  refine T.seq (T.region rfl ?_)
                  refine TL.run ft_cursitorref11_ok [0] rfl rfl ?_
                  obtain rfl := Option.some.inj h
                  exact TL.nil (X.seq (T.ret (X.rs (X.done1 [1] Try.results54 (RV.tm rfl) ⟨rfl, rfl, rfl⟩ (by rfl) (.inl rfl)))))
      · replace h := ifF c10 h
        replace c10 := eq_false_of_ne_true c10
        refine TL.run ft_cursitorref11_ok [15] rfl rfl ?_
        refine TL.no rfl (.gn rfl rfl (bn_t c10)) rfl ?_
        refine TL.no rfl (.gn rfl rfl (bn_t c10)) rfl ?_
        refine TL.no rfl (.gn rfl rfl (bn_t c10)) rfl ?_
        refine TL.no rfl (.gn rfl rfl (bn_t c10)) rfl ?_
        refine TL.no rfl (.gn rfl rfl (bn_t c10)) rfl ?_
        refine TL.no rfl (.gn rfl rfl (bn_t c10)) rfl ?_
        refine TL.q rfl .u (Ex.py rfl (bn_t c10) rfl) rfl ?_
        refine TL.run ft_cursitorref11_ok [23] rfl rfl ?_
        refine TL.no rfl (.gn rfl rfl rfl) rfl ?_
        refine TL.no rfl (.gn rfl rfl rfl) rfl ?_
        refine TL.no rfl (.gn rfl rfl rfl) rfl ?_
        refine TL.q rfl .u (Ex.py rfl rfl rfl) rfl ?_
        refine TL.run ft_cursitorref11_ok [28] rfl rfl ?_
        refine TL.no rfl (.gn rfl rfl rfl) rfl ?_
        refine TL.no rfl (.gn rfl rfl rfl) rfl ?_
        refine TL.no rfl (.gn rfl rfl rfl) rfl ?_
        refine TL.q rfl .u (Ex.py rfl rfl rfl) rfl ?_
        refine TL.nil (X.seq ?_)
        refine T.yes rfl rfl ?_
        refine T.seq (T.region rfl ?_)
        refine TL.run ft_cursitorref11_ok [0] rfl rfl ?_
        obtain rfl := Option.some.inj h
        exact TL.nil (X.seq (T.ret (X.rs (X.done1 [1] Try.results54 (RV.tm rfl) ⟨rfl, rfl, rfl⟩ (by rfl) (.inl rfl)))))
    · replace h := ifF c7 h
      replace c7 := eq_false_of_ne_true c7
      refine TL.run ft_cursitorref11_ok [9] rfl rfl ?_
      refine TL.no rfl (.gn rfl rfl (bn_t c7)) rfl ?_
      refine TL.no rfl (.gn rfl rfl (bn_t c7)) rfl ?_
      refine TL.no rfl (.gn rfl rfl (bn_t c7)) rfl ?_
      refine TL.no rfl (.gn rfl rfl (bn_t c7)) rfl ?_
      refine TL.q rfl .u (Ex.py rfl (bn_t c7) rfl) rfl ?_
      refine TL.run ft_cursitorref11_ok [15] rfl rfl ?_
      refine TL.no rfl (.gn rfl rfl rfl) rfl ?_
      refine TL.no rfl (.gn rfl rfl rfl) rfl ?_
      refine TL.no rfl (.gn rfl rfl rfl) rfl ?_
      refine TL.no rfl (.gn rfl rfl rfl) rfl ?_
      refine TL.no rfl (.gn rfl rfl rfl) rfl ?_
      refine TL.no rfl (.gn rfl rfl rfl) rfl ?_
      refine TL.q rfl .u (Ex.py rfl rfl rfl) rfl ?_
      refine TL.run ft_cursitorref11_ok [23] rfl rfl ?_
      refine TL.no rfl (.gn rfl rfl rfl) rfl ?_
      refine TL.no rfl (.gn rfl rfl rfl) rfl ?_
      refine TL.no rfl (.gn rfl rfl rfl) rfl ?_
      refine TL.q rfl .u (Ex.py rfl rfl rfl) rfl ?_
      refine TL.run ft_cursitorref11_ok [28] rfl rfl ?_
      refine TL.no rfl (.gn rfl rfl rfl) rfl ?_
      refine TL.no rfl (.gn rfl rfl rfl) rfl ?_
      refine TL.no rfl (.gn rfl rfl rfl) rfl ?_
      refine TL.q rfl .u (Ex.py rfl rfl rfl) rfl ?_
      refine TL.nil (X.seq ?_)
      refine T.yes rfl rfl ?_
      refine T.seq (T.region rfl ?_)
      refine TL.run ft_cursitorref11_ok [0] rfl rfl ?_
      obtain rfl := Option.some.inj h
      exact TL.nil (X.seq (T.ret (X.rs (X.done1 [1] Try.results54 (RV.tm rfl) ⟨rfl, rfl, rfl⟩ (by rfl) (.inl rfl)))))
end Go.Proofs.Ytdlpmcbglmgpiaa.Sl
