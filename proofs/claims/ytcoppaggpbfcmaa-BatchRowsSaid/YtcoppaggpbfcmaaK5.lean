/- batchRows_holds: part 5. -/
import Derived.Test.YtcoppaggpbfcmaaK4
namespace Go.Proofs.Ytcoppaggpbfcmaa.Sl
open Go.RowKit
set_option linter.unusedVariables false
set_option linter.unusedSimpArgs false
set_option maxRecDepth 100000
def ft_cursitorref11 : FTab := [(25, 0, 0), (25, 1, 1), (25, 2, 2), (25, 3, 3), (25, 4, 4), (25, 5, 5), (25, 6, 6), (25, 7, 7), (25, 8, 8), (25, 9, 9), (25, 10, 10), (25, 11, 11), (33, 0, 0), (33, 1, 1)]
theorem ft_cursitorref11_ok : (ft_cursitorref11).OK Try.prog := ⟨FOK.mk Try.runUnderlying25 rfl Try.sizeOf3 rfl, FOK.mk Try.runUnderlying25 rfl Try.sizeOf3 rfl, FOK.mk Try.runUnderlying25 rfl Try.sizeOf4 rfl, FOK.mk Try.runUnderlying25 rfl Try.sizeOf4 rfl, FOK.mk Try.runUnderlying25 rfl Try.sizeOf4 rfl, FOK.mk Try.runUnderlying25 rfl Try.sizeOf3 rfl, FOK.mk Try.runUnderlying25 rfl Try.sizeOf3 rfl, FOK.mk Try.runUnderlying25 rfl Try.sizeOf3 rfl, FOK.mk Try.runUnderlying25 rfl Try.sizeOf3 rfl, FOK.mk Try.runUnderlying25 rfl Try.sizeOf3 rfl, FOK.mk Try.runUnderlying25 rfl Try.sizeOf3 rfl, FOK.mk Try.runUnderlying25 rfl Try.sizeOf23 rfl, FOK.mk Try.runUnderlying33 rfl Try.sizeOf3 rfl, FOK.mk Try.runUnderlying33 rfl Try.sizeOf3 rfl, trivial⟩
theorem mix_cursitorref11 : Try.prog.follows .mixedOrders = true := by kernel_rfl
def f_r11_int32s (a0 : Int) (a1 : Int) : Option (Bool) := if a0 ≥ a1 then (if a0 ≤ 2147483647 then some true else some false) else some false
set_option maxRecDepth 100000 in
set_option maxHeartbeats 4000000 in
theorem f_r11_int32s_spec (a0 : Int) (a1 : Int) (r : Bool) (h : f_r11_int32s a0 a1 = some r) : SpecX Try.prog 33 #[.int .i64 a0, .int .i64 a1] .triv (EmpR) (fun v A' N => v = .bool r ∧ A' = EmpR ∧ N = []) := by
  refine enterA Try.func33 rfl Try.ntmps33 rfl ?_
  intro F w hX
  unfold f_r11_int32s at h
  refine T.seq (T.region rfl ?_)
  refine TL.run ft_cursitorref11_ok [0] rfl rfl ?_
  refine TL.nil (X.seq (T.seq (T.region rfl ?_)))
  by_cases c1 : a0 ≥ a1
  · replace h := ifT c1 h
    refine TL.run ft_cursitorref11_ok [0, 1, 2, 3] rfl rfl ?_
    refine TL.q rfl (.g rfl rfl (decide_eq_true c1)) (Ex.ft ft_cursitorref11_ok rfl) rfl ?_
    refine TL.q rfl (.g rfl rfl (decide_eq_true c1)) (Ex.ft ft_cursitorref11_ok rfl) rfl ?_
    refine TL.q rfl .u (Ex.py rfl (decide_eq_true c1) rfl) rfl ?_
    refine TL.run ft_cursitorref11_ok [7] rfl rfl ?_
    by_cases c2 : a0 ≤ 2147483647
    · replace h := ifT c2 h
      obtain rfl := Option.some.inj h
      exact TL.nil (X.seq (T.ret (X.done1 [0] Try.results33 (RV.tm (v := .bool true) (congrArg (fun b => some (Value.bool b)) (decide_eq_true c2))) ⟨rfl, rfl, rfl⟩ (by rfl) (.inl rfl))))
    · replace h := ifF c2 h
      obtain rfl := Option.some.inj h
      exact TL.nil (X.seq (T.ret (X.done1 [0] Try.results33 (RV.tm (v := .bool false) (congrArg (fun b => some (Value.bool b)) (decide_eq_false c2))) ⟨rfl, rfl, rfl⟩ (by rfl) (.inl rfl))))
  · replace h := ifF c1 h
    refine TL.run ft_cursitorref11_ok [0, 1, 2, 3] rfl rfl ?_
    refine TL.no rfl (.gn rfl rfl (decide_eq_false c1)) rfl ?_
    refine TL.no rfl (.gn rfl rfl (decide_eq_false c1)) rfl ?_
    refine TL.q rfl .u (Ex.pn rfl (decide_eq_false c1) rfl) rfl ?_
    refine TL.run ft_cursitorref11_ok [7] rfl rfl ?_
    obtain rfl := Option.some.inj h
    exact TL.nil (X.seq (T.ret (X.done1 [0] Try.results33 (RV.tm rfl) ⟨rfl, rfl, rfl⟩ (by rfl) (.inl rfl))))
def f_r11_producer (a0 : Bat) : Option (Bool) := if a0.fProducer = (-1) then (if a0.fEpoch = (-1) then (if a0.fSequence = (-1) then (if a0.fTxn = true then some false else some true) else some false) else some false) else (if a0.fProducer < 0 then some false else (if a0.fEpoch < 0 then some false else (if a0.fEpoch > 32767 then some false else (if a0.fControl = true then (if a0.fSequence = (-1) then some true else some false) else ((f_r11_int32s a0.fSequence 0).bind fun x13 => some x13)))))
set_option maxRecDepth 100000 in
set_option maxHeartbeats 4000000 in
theorem f_r11_producer_spec (a0 : Bat) (A1 : Option Addr) (c2 : Nat) (r : Bool) (h : f_r11_producer a0 = some r) : SpecX Try.prog 34 #[.agg #[.int .i64 a0.fBase, .int .i64 a0.fLeader, .bool a0.fAppend, .bool a0.fTxn, .bool a0.fControl, .int .i64 a0.fLast, .int .i64 a0.fFirst, .int .i64 a0.fMax, .int .i64 a0.fProducer, .int .i64 a0.fEpoch, .int .i64 a0.fSequence, .slice A1 a0.fRecords.length c2]] (RX.of (sliceRd 7 Rec_rd) [.slice A1 a0.fRecords.length c2] a0.fRecords) (EmpR) (fun v A' N => v = .bool r ∧ A' = EmpR ∧ N = []) := by
  refine enterA Try.func34 rfl Try.ntmps34 rfl ?_
  intro F w hX
  unfold f_r11_producer at h
  refine T.seq (T.region rfl ?_)
  refine TL.box rfl .u rfl rfl (fun b3 => ?_)
  refine TL.run ft_cursitorref11_ok [1] rfl rfl ?_
  refine TL.nil (X.seq (T.seq (T.seq (T.region rfl ?_))))
  refine TL.run ft_cursitorref11_ok [0] rfl rfl ?_
  refine TL.q rfl .u (Ex.b1 0 rfl Try.isAgg3 rfl rfl) rfl ?_
  refine TL.run ft_cursitorref11_ok [2] rfl rfl ?_
  by_cases c4 : a0.fProducer = (-1)
  · replace h := ifT c4 h
    refine TL.nil (X.seq ?_)
    refine T.yes rfl (decide_eq_true c4) ?_
    refine T.seq (T.region rfl ?_)
    refine TL.run ft_cursitorref11_ok [0] rfl rfl ?_
    refine TL.q rfl .u (Ex.b1 0 rfl Try.isAgg3 rfl rfl) rfl ?_
    by_cases c5 : a0.fEpoch = (-1)
    · replace h := ifT c5 h
      refine TL.run ft_cursitorref11_ok [2, 3] rfl rfl ?_
      refine TL.q rfl (.g rfl rfl (decide_eq_true c5)) (Ex.ft ft_cursitorref11_ok rfl) rfl ?_
      refine TL.q rfl (.g rfl rfl (decide_eq_true c5)) (Ex.b1 0 rfl Try.isAgg3 rfl rfl) rfl ?_
      refine TL.q rfl (.g rfl rfl (decide_eq_true c5)) (Ex.ft ft_cursitorref11_ok rfl) rfl ?_
      refine TL.q rfl .u (Ex.py rfl (decide_eq_true c5) rfl) rfl ?_
      by_cases c6 : a0.fSequence = (-1)
      · replace h := ifT c6 h
        refine TL.run ft_cursitorref11_ok [8] rfl rfl ?_
        refine TL.q rfl (.g rfl rfl (decide_eq_true c6)) (Ex.ft ft_cursitorref11_ok rfl) rfl ?_
        refine TL.q rfl (.g rfl rfl (decide_eq_true c6)) (Ex.b1 0 rfl Try.isAgg4 rfl rfl) rfl ?_
        refine TL.q rfl (.g rfl rfl (decide_eq_true c6)) (Ex.ft ft_cursitorref11_ok rfl) rfl ?_
        refine TL.q rfl .u (Ex.py rfl (decide_eq_true c6) rfl) rfl ?_
        refine TL.run ft_cursitorref11_ok [13] rfl rfl ?_
        by_cases c7 : a0.fTxn = true
        · replace h := ifT c7 h
          obtain rfl := Option.some.inj h
          exact TL.nil (X.seq (T.ret (X.rs (X.done1 [1] Try.results34 (RV.tm (v := .bool false) (congrArg (fun b => some (Value.bool b)) (bn_f c7))) ⟨rfl, rfl, rfl⟩ (by rfl) (.inl rfl)))))
        · replace h := ifF c7 h
          replace c7 := eq_false_of_ne_true c7
          obtain rfl := Option.some.inj h
          exact TL.nil (X.seq (T.ret (X.rs (X.done1 [1] Try.results34 (RV.tm (v := .bool true) (congrArg (fun b => some (Value.bool b)) (bn_t c7))) ⟨rfl, rfl, rfl⟩ (by rfl) (.inl rfl)))))
      · replace h := ifF c6 h
        refine TL.run ft_cursitorref11_ok [8] rfl rfl ?_
        refine TL.no rfl (.gn rfl rfl (decide_eq_false c6)) rfl ?_
        refine TL.no rfl (.gn rfl rfl (decide_eq_false c6)) rfl ?_
        refine TL.no rfl (.gn rfl rfl (decide_eq_false c6)) rfl ?_
        refine TL.q rfl .u (Ex.pn rfl (decide_eq_false c6) rfl) rfl ?_
        refine TL.run ft_cursitorref11_ok [13] rfl rfl ?_
        obtain rfl := Option.some.inj h
        exact TL.nil (X.seq (T.ret (X.rs (X.done1 [1] Try.results34 (RV.tm rfl) ⟨rfl, rfl, rfl⟩ (by rfl) (.inl rfl)))))
    · replace h := ifF c5 h
      refine TL.run ft_cursitorref11_ok [2, 3] rfl rfl ?_
      refine TL.no rfl (.gn rfl rfl (decide_eq_false c5)) rfl ?_
      refine TL.no rfl (.gn rfl rfl (decide_eq_false c5)) rfl ?_
      refine TL.no rfl (.gn rfl rfl (decide_eq_false c5)) rfl ?_
      refine TL.q rfl .u (Ex.pn rfl (decide_eq_false c5) rfl) rfl ?_
      refine TL.run ft_cursitorref11_ok [8] rfl rfl ?_
      refine TL.no rfl (.gn rfl rfl rfl) rfl ?_
      refine TL.no rfl (.gn rfl rfl rfl) rfl ?_
      refine TL.no rfl (.gn rfl rfl rfl) rfl ?_
      refine TL.q rfl .u (Ex.pn rfl rfl rfl) rfl ?_
      refine TL.run ft_cursitorref11_ok [13] rfl rfl ?_
      obtain rfl := Option.some.inj h
      exact TL.nil (X.seq (T.ret (X.rs (X.done1 [1] Try.results34 (RV.tm rfl) ⟨rfl, rfl, rfl⟩ (by rfl) (.inl rfl)))))
  · replace h := ifF c4 h
    refine TL.nil (X.seq ?_)
    refine T.no rfl (decide_eq_false c4) ?_
    refine T.skip (X.seq (T.seq (T.seq (T.region rfl ?_))))
    refine TL.run ft_cursitorref11_ok [0] rfl rfl ?_
    refine TL.q rfl .u (Ex.b1 0 rfl Try.isAgg3 rfl rfl) rfl ?_
    by_cases c8 : a0.fProducer < 0
    · replace h := ifT c8 h
      refine TL.run ft_cursitorref11_ok [2, 3] rfl rfl ?_
      refine TL.no rfl (.gn rfl rfl (decide_eq_true c8)) rfl ?_
      refine TL.no rfl (.gn rfl rfl (decide_eq_true c8)) rfl ?_
      refine TL.no rfl (.gn rfl rfl (decide_eq_true c8)) rfl ?_
      refine TL.q rfl .u (Ex.py rfl (decide_eq_true c8) rfl) rfl ?_
      refine TL.run ft_cursitorref11_ok [8] rfl rfl ?_
      refine TL.no rfl (.gn rfl rfl rfl) rfl ?_
      refine TL.no rfl (.gn rfl rfl rfl) rfl ?_
      refine TL.no rfl (.gn rfl rfl rfl) rfl ?_
      refine TL.q rfl .u (Ex.py rfl rfl rfl) rfl ?_
      refine TL.nil (X.seq ?_)
      refine T.yes rfl rfl ?_
      refine T.seq (T.region rfl ?_)
      refine TL.run ft_cursitorref11_ok [0] rfl rfl ?_
      obtain rfl := Option.some.inj h
      exact TL.nil (X.seq (T.ret (X.rs (X.done1 [1] Try.results34 (RV.tm rfl) ⟨rfl, rfl, rfl⟩ (by rfl) (.inl rfl)))))
    · replace h := ifF c8 h
      refine TL.run ft_cursitorref11_ok [2, 3] rfl rfl ?_
      refine TL.q rfl (.g rfl rfl (decide_eq_false c8)) (Ex.ft ft_cursitorref11_ok rfl) rfl ?_
      refine TL.q rfl (.g rfl rfl (decide_eq_false c8)) (Ex.b1 0 rfl Try.isAgg3 rfl rfl) rfl ?_
      refine TL.q rfl (.g rfl rfl (decide_eq_false c8)) (Ex.ft ft_cursitorref11_ok rfl) rfl ?_
      refine TL.q rfl .u (Ex.pn rfl (decide_eq_false c8) rfl) rfl ?_
      by_cases c9 : a0.fEpoch < 0
      · replace h := ifT c9 h
        refine TL.run ft_cursitorref11_ok [8] rfl rfl ?_
        refine TL.no rfl (.gn rfl rfl (decide_eq_true c9)) rfl ?_
        refine TL.no rfl (.gn rfl rfl (decide_eq_true c9)) rfl ?_
        refine TL.no rfl (.gn rfl rfl (decide_eq_true c9)) rfl ?_
        refine TL.q rfl .u (Ex.py rfl (decide_eq_true c9) rfl) rfl ?_
        refine TL.nil (X.seq ?_)
        refine T.yes rfl rfl ?_
        refine T.seq (T.region rfl ?_)
        refine TL.run ft_cursitorref11_ok [0] rfl rfl ?_
        obtain rfl := Option.some.inj h
        exact TL.nil (X.seq (T.ret (X.rs (X.done1 [1] Try.results34 (RV.tm rfl) ⟨rfl, rfl, rfl⟩ (by rfl) (.inl rfl)))))
      · replace h := ifF c9 h
        refine TL.run ft_cursitorref11_ok [8] rfl rfl ?_
        refine TL.q rfl (.g rfl rfl (decide_eq_false c9)) (Ex.ft ft_cursitorref11_ok rfl) rfl ?_
        refine TL.q rfl (.g rfl rfl (decide_eq_false c9)) (Ex.b1 0 rfl Try.isAgg3 rfl rfl) rfl ?_
        refine TL.q rfl (.g rfl rfl (decide_eq_false c9)) (Ex.ft ft_cursitorref11_ok rfl) rfl ?_
        refine TL.q rfl .u (Ex.pn rfl (decide_eq_false c9) rfl) rfl ?_
        by_cases c10 : a0.fEpoch > 32767
        · replace h := ifT c10 h
          refine TL.nil (X.seq ?_)
          refine T.yes rfl (decide_eq_true c10) ?_
          refine T.seq (T.region rfl ?_)
          refine TL.run ft_cursitorref11_ok [0] rfl rfl ?_
          obtain rfl := Option.some.inj h
          exact TL.nil (X.seq (T.ret (X.rs (X.done1 [1] Try.results34 (RV.tm rfl) ⟨rfl, rfl, rfl⟩ (by rfl) (.inl rfl)))))
        · replace h := ifF c10 h
          refine TL.nil (X.seq ?_)
          refine T.no rfl (decide_eq_false c10) ?_
          refine T.skip (X.seq (T.seq (T.seq (T.region rfl ?_))))
          refine TL.run ft_cursitorref11_ok [0] rfl rfl ?_
          refine TL.q rfl .u (Ex.b1 0 rfl Try.isAgg4 rfl rfl) rfl ?_
          by_cases c11 : a0.fControl = true
          · replace h := ifT c11 h
            refine TL.nil (X.seq ?_)
            refine T.yes rfl c11 ?_
            refine T.seq (T.region rfl ?_)
            refine TL.run ft_cursitorref11_ok [0] rfl rfl ?_
            refine TL.q rfl .u (Ex.b1 0 rfl Try.isAgg3 rfl rfl) rfl ?_
            refine TL.run ft_cursitorref11_ok [2, 3] rfl rfl ?_
            by_cases c12 : a0.fSequence = (-1)
            · replace h := ifT c12 h
              obtain rfl := Option.some.inj h
              exact TL.nil (X.seq (T.ret (X.rs (X.done1 [1] Try.results34 (RV.tm (v := .bool true) (congrArg (fun b => some (Value.bool b)) (decide_eq_true c12))) ⟨rfl, rfl, rfl⟩ (by rfl) (.inl rfl)))))
            · replace h := ifF c12 h
              obtain rfl := Option.some.inj h
              exact TL.nil (X.seq (T.ret (X.rs (X.done1 [1] Try.results34 (RV.tm (v := .bool false) (congrArg (fun b => some (Value.bool b)) (decide_eq_false c12))) ⟨rfl, rfl, rfl⟩ (by rfl) (.inl rfl)))))
          · replace h := ifF c11 h
            replace c11 := eq_false_of_ne_true c11
            refine TL.nil (X.seq ?_)
            refine T.no rfl c11 ?_
            refine T.skip (X.seq (T.seq (T.region rfl ?_)))
            refine TL.run ft_cursitorref11_ok [0] rfl rfl ?_
            refine TL.q rfl .u (Ex.b1 0 rfl Try.isAgg3 rfl rfl) rfl ?_
            obtain ⟨x13, hx14, h⟩ := Option.bind_eq_some_iff.1 h
            refine TL.ce rfl .u (.fn Try.call33 rfl) (f_r11_int32s_spec a0.fSequence 0 _ hx14) (fun _ hs => (RX.reads_triv _ _)) rfl ?_
            refine TL.run ft_cursitorref11_ok [3] rfl rfl ?_
            obtain rfl := Option.some.inj h
            exact TL.nil (X.seq (T.ret (X.done1 [1] Try.results34 (RV.tm rfl) ⟨rfl, rfl, rfl⟩ (by rfl) (.inl rfl))))
def f_r11_times_l1 (a0 : Bat) : Nat → Int → Int → Nat → Option (Lp Int (Int × Int × Nat))
  | 0, _, _, _ => none
  | m10 + 1, y4, y5, k6 => if (k6 : Int) < (a0.fRecords.length : Int) then ((a0.fRecords[k6]?).bind fun x15 => if -9223372036854775808 ≤ (9223372036854775807 - a0.fFirst) ∧ (9223372036854775807 - a0.fFirst) ≤ 9223372036854775807 then (if x15.fTime > (9223372036854775807 - a0.fFirst) then (some (Lp.ret (-1))) else (if -9223372036854775808 ≤ (-a0.fFirst) ∧ (-a0.fFirst) ≤ 9223372036854775807 then (if x15.fTime < (-a0.fFirst) then (some (Lp.ret (-1))) else (if -9223372036854775808 ≤ (a0.fFirst + x15.fTime) ∧ (a0.fFirst + x15.fTime) ≤ 9223372036854775807 then (if (a0.fFirst + x15.fTime) > y5 then (if -9223372036854775808 ≤ (a0.fFirst + x15.fTime) ∧ (a0.fFirst + x15.fTime) ≤ 9223372036854775807 then (if -9223372036854775808 ≤ ((k6 : Int) + 1) ∧ ((k6 : Int) + 1) ≤ 9223372036854775807 then (f_r11_times_l1 a0 m10 y4 (a0.fFirst + x15.fTime) (k6 + 1)) else none) else none) else (if -9223372036854775808 ≤ ((k6 : Int) + 1) ∧ ((k6 : Int) + 1) ≤ 9223372036854775807 then (f_r11_times_l1 a0 m10 y4 y5 (k6 + 1)) else none)) else none)) else none)) else none) else (some (Lp.go (y4, y5, k6)))
def f_r11_times (a0 : Bat) : Option (Int) := (f_r11_times_l1 a0 (((a0.fRecords.length : Int)).toNat + 1) 0 a0.fFirst 0).bind fun e => match e with | .ret r => some r | .go (y30, y31, k32) => some y31
set_option maxRecDepth 100000 in
set_option maxHeartbeats 4000000 in
theorem f_r11_times_spec (a0 : Bat) (A1 : Option Addr) (c2 : Nat) (r : Int) (h : f_r11_times a0 = some r) : SpecX Try.prog 79 #[.agg #[.int .i64 a0.fBase, .int .i64 a0.fLeader, .bool a0.fAppend, .bool a0.fTxn, .bool a0.fControl, .int .i64 a0.fLast, .int .i64 a0.fFirst, .int .i64 a0.fMax, .int .i64 a0.fProducer, .int .i64 a0.fEpoch, .int .i64 a0.fSequence, .slice A1 a0.fRecords.length c2]] (RX.of (sliceRd 7 Rec_rd) [.slice A1 a0.fRecords.length c2] a0.fRecords) (EmpR) (fun v A' N => v = .int .i64 r ∧ A' = EmpR ∧ N = []) := by
  refine enterA Try.func79 rfl Try.ntmps79 rfl ?_
  intro F w hX
  unfold f_r11_times at h
  refine T.seq (T.region rfl ?_)
  refine TL.box rfl .u rfl rfl (fun b3 => ?_)
  refine TL.run ft_cursitorref11_ok [1] rfl rfl ?_
  refine TL.nil (X.seq (T.seq (T.region rfl ?_)))
  refine TL.run ft_cursitorref11_ok [0] rfl rfl ?_
  refine TL.q rfl .u (Ex.b1 0 rfl Try.isAgg3 rfl rfl) rfl ?_
  refine TL.run ft_cursitorref11_ok [2] rfl rfl ?_
  refine TL.nil (X.seq (T.seq (T.seq (T.region rfl ?_))))
  refine TL.run ft_cursitorref11_ok [0] rfl rfl ?_
  refine TL.nil (X.seq (T.block ?_))
  obtain ⟨E7, hE8, hO9⟩ := Option.bind_eq_some_iff.1 h
  refine T.lp (fun m e Rs => ∃ (y4 : Int) (y5 : Int) (k6 : Nat), e = [(1, .pointer (some ⟨b3, 0, none⟩)), (2, .int .i64 y4), (3, .int .i64 y5), (4, .int .i64 (k6 : Int))] ∧ Rs = [BlkR b3 25 #[.int .i64 a0.fBase, .int .i64 a0.fLeader, .bool a0.fAppend, .bool a0.fTxn, .bool a0.fControl, .int .i64 a0.fLast, .int .i64 a0.fFirst, .int .i64 a0.fMax, .int .i64 a0.fProducer, .int .i64 a0.fEpoch, .int .i64 a0.fSequence, .slice A1 a0.fRecords.length c2], EmpR] ∧ f_r11_times_l1 a0 m y4 y5 k6 = some E7) (((a0.fRecords.length : Int)).toNat + 1) [0, 0] ⟨0, a0.fFirst, 0, rfl, rfl, by exact hE8⟩ (by rfl) (by rfl) ?_
  rintro m10 _ _ ⟨y4, y5, k6, rfl, rfl, hl12⟩
  clear hE8 h
  cases m10 with
  | zero =>
    rw [f_r11_times_l1] at hl12
    cases hl12
  | succ m10 =>
    have h := hl12
    clear hl12
    rw [f_r11_times_l1] at h
    refine T.seq (T.seq (T.region rfl ?_))
    refine TL.run ft_cursitorref11_ok [0, 1] rfl rfl ?_
    refine TL.q rfl .u (Ex.b1 0 rfl Try.isAgg23 rfl rfl) rfl ?_
    refine TL.q rfl .u (Ex.lenS rfl Try.runUnderlying23) rfl ?_
    refine TL.run ft_cursitorref11_ok [4] rfl rfl ?_
    by_cases c14 : (k6 : Int) < (a0.fRecords.length : Int)
    · replace h := ifT c14 h
      refine TL.nil (X.seq ?_)
      refine T.yes rfl (decide_eq_true c14) ?_
      refine T.skip (X.seq (T.seq (T.block (T.seq (T.region rfl ?_)))))
      refine TL.run ft_cursitorref11_ok [0] rfl rfl ?_
      refine TL.q rfl .u (Ex.b1 0 rfl Try.isAgg23 rfl rfl) rfl ?_
      obtain ⟨x15, hx16, h⟩ := Option.bind_eq_some_iff.1 h
      obtain ⟨gz17, oz17, rfl, z17cs, z17cl, z17cc, z17nf, z17r⟩ := RX.elem (by decide) hX hx16
      obtain ⟨z17S, z17r, z17rr⟩ := z17r
      obtain ⟨A18, c19, rfl, z17s0⟩ := z17r
      have hX20 : (RX.of (sliceRd 3 Hd_rd) [.slice A18 x15.fHeaders.length c19] x15.fHeaders).reads w F := ⟨z17S, z17s0, z17rr⟩
      refine TL.run ft_cursitorref11_ok [2] rfl rfl ?_
      refine TL.q rfl .u (Ex.ixS (k := k6) rfl rfl rfl Try.runUnderlying23 Try.sizeOf33 (List.getElem?_eq_some_iff.1 hx16).1) rfl ?_
      refine TL.run ft_cursitorref11_ok [4] rfl rfl ?_
      refine TL.q rfl .u (Ex.o1 0 rfl Try.isAgg3 z17nf z17cc rfl rfl) rfl ?_
      refine TL.run ft_cursitorref11_ok [6] rfl rfl ?_
      refine TL.nil (X.seq (T.seq (T.seq (T.region rfl ?_))))
      refine TL.run ft_cursitorref11_ok [0, 1] rfl rfl ?_
      refine TL.q rfl .u (Ex.b1 0 rfl Try.isAgg3 rfl rfl) rfl ?_
      replace h := guard_some h
      obtain ⟨c21, h⟩ := h
      refine TL.q rfl .u (Ex.sub rfl rfl c21) rfl ?_
      by_cases c22 : x15.fTime > (9223372036854775807 - a0.fFirst)
      · replace h := ifT c22 h
        refine TL.run ft_cursitorref11_ok [4, 5] rfl rfl ?_
        refine TL.no rfl (.gn rfl rfl (decide_eq_true c22)) rfl ?_
        refine TL.no rfl (.gn rfl rfl (decide_eq_true c22)) rfl ?_
        refine TL.no rfl (.gn rfl rfl (decide_eq_true c22)) rfl ?_
        refine TL.no rfl (.gn rfl rfl (decide_eq_true c22)) rfl ?_
        refine TL.no rfl (.gn rfl rfl (decide_eq_true c22)) rfl ?_
        refine TL.q rfl .u (Ex.py rfl (decide_eq_true c22) rfl) rfl ?_
        refine TL.nil (X.seq ?_)
        refine T.yes rfl rfl ?_
        refine T.seq (T.region rfl ?_)
        refine TL.run ft_cursitorref11_ok [0] rfl rfl ?_
        obtain rfl := Option.some.inj h
        replace h := hO9
        clear hO9
        try dsimp only at h
        obtain rfl := Option.some.inj h
        exact TL.nil (X.seq (T.ret (X.rs (X.rb (X.rs (X.rs (X.rb (X.rs (X.done1 [1] Try.results79 (RV.tm rfl) ⟨rfl, rfl, rfl⟩ (by rfl) (.inl rfl))))))))))
      · replace h := ifF c22 h
        refine TL.run ft_cursitorref11_ok [4, 5] rfl rfl ?_
        refine TL.q rfl (.g rfl rfl (decide_eq_false c22)) (Ex.ft ft_cursitorref11_ok rfl) rfl ?_
        refine TL.q rfl (.g rfl rfl (decide_eq_false c22)) (Ex.ft ft_cursitorref11_ok rfl) rfl ?_
        refine TL.q rfl (.g rfl rfl (decide_eq_false c22)) (Ex.b1 0 rfl Try.isAgg3 rfl rfl) rfl ?_
        replace h := guard_some h
        obtain ⟨c23, h⟩ := h
        refine TL.q rfl (.g rfl rfl (decide_eq_false c22)) (Ex.neg rfl c23) rfl ?_
        refine TL.q rfl (.g rfl rfl (decide_eq_false c22)) (Ex.ft ft_cursitorref11_ok rfl) rfl ?_
        refine TL.q rfl .u (Ex.pn rfl (decide_eq_false c22) rfl) rfl ?_
        by_cases c24 : x15.fTime < (-a0.fFirst)
        · replace h := ifT c24 h
          refine TL.nil (X.seq ?_)
          refine T.yes rfl (decide_eq_true c24) ?_
          refine T.seq (T.region rfl ?_)
          refine TL.run ft_cursitorref11_ok [0] rfl rfl ?_
          obtain rfl := Option.some.inj h
          replace h := hO9
          clear hO9
          try dsimp only at h
          obtain rfl := Option.some.inj h
          exact TL.nil (X.seq (T.ret (X.rs (X.rb (X.rs (X.rs (X.rb (X.rs (X.done1 [1] Try.results79 (RV.tm rfl) ⟨rfl, rfl, rfl⟩ (by rfl) (.inl rfl))))))))))
        · replace h := ifF c24 h
          refine TL.nil (X.seq ?_)
          refine T.no rfl (decide_eq_false c24) ?_
          refine T.skip (X.seq (T.seq (T.region rfl ?_)))
          refine TL.run ft_cursitorref11_ok [0] rfl rfl ?_
          refine TL.q rfl .u (Ex.b1 0 rfl Try.isAgg3 rfl rfl) rfl ?_
          replace h := guard_some h
          obtain ⟨c25, h⟩ := h
          refine TL.run ft_cursitorref11_ok [2] rfl rfl ?_
          refine TL.q rfl .u (Ex.add rfl rfl c25) rfl ?_
          refine TL.run ft_cursitorref11_ok [4, 5] rfl rfl ?_
          by_cases c26 : (a0.fFirst + x15.fTime) > y5
          · replace h := ifT c26 h
            refine TL.nil (X.seq ?_)
            refine T.yes rfl (decide_eq_true c26) ?_
            refine T.region rfl ?_
            refine TL.run ft_cursitorref11_ok [0] rfl rfl ?_
            refine TL.q rfl .u (Ex.b1 0 rfl Try.isAgg3 rfl rfl) rfl ?_
            replace h := guard_some h
            obtain ⟨c27, h⟩ := h
            refine TL.run ft_cursitorref11_ok [2] rfl rfl ?_
            refine TL.q rfl .u (Ex.add rfl rfl c27) rfl ?_
            refine TL.run ft_cursitorref11_ok [4] rfl rfl ?_
            refine TL.nil (X.blk (X.seq (T.region rfl ?_)))
            replace h := guard_some h
            obtain ⟨c28, h⟩ := h
            refine TL.run ft_cursitorref11_ok [0] rfl rfl ?_
            refine TL.q rfl .u (Ex.add rfl rfl c28) rfl ?_
            refine TL.run ft_cursitorref11_ok [2] rfl rfl ?_
            exact TL.nil (X.back (m' := m10) [0, 0] (by omega) ⟨y4, (a0.fFirst + x15.fTime), k6 + 1, rfl, rfl, h⟩ (by rfl) (by rfl))
          · replace h := ifF c26 h
            refine TL.nil (X.seq ?_)
            refine T.no rfl (decide_eq_false c26) ?_
            refine T.skip (X.blk (X.seq (T.region rfl ?_)))
            replace h := guard_some h
            obtain ⟨c29, h⟩ := h
            refine TL.run ft_cursitorref11_ok [0] rfl rfl ?_
            refine TL.q rfl .u (Ex.add rfl rfl c29) rfl ?_
            refine TL.run ft_cursitorref11_ok [2] rfl rfl ?_
            exact TL.nil (X.back (m' := m10) [0, 0] (by omega) ⟨y4, y5, k6 + 1, rfl, rfl, h⟩ (by rfl) (by rfl))
    · replace h := ifF c14 h
      refine TL.nil (X.seq ?_)
      refine T.no rfl (decide_eq_false c14) ?_
      obtain rfl := Option.some.inj h
      replace h := hO9
      clear hO9
      try dsimp only at h
      refine T.exit (X.exs (X.exs (X.ex (X.seq (T.seq (T.region rfl ?_))))))
      refine TL.run ft_cursitorref11_ok [0, 1] rfl rfl ?_
      obtain rfl := Option.some.inj h
      exact TL.nil (X.seq (T.ret (X.done1 [1] Try.results79 (RV.tm rfl) ⟨rfl, rfl, rfl⟩ (by rfl) (.inl rfl))))
def f_r11_orders_l1 (a0 : Bat) : Nat → Int → Nat → Option (Lp Int (Int × Nat))
  | 0, _, _ => none
  | m9 + 1, y4, k5 => if (k5 : Int) < (a0.fRecords.length : Int) then ((a0.fRecords[k5]?).bind fun x14 => if x14.fOffset > a0.fLast then some (Lp.ret 13) else (if (k5 : Int) > 0 then (if -9223372036854775808 ≤ ((k5 : Int) - 1) ∧ ((k5 : Int) - 1) ≤ 9223372036854775807 then (if 0 ≤ ((k5 : Int) - 1) then ((a0.fRecords[((k5 : Int) - 1).toNat]?).bind fun x24 => if x14.fOffset ≤ x24.fOffset then some (Lp.ret 13) else (if x14.fOffset < 0 then some (Lp.ret 13) else (if -9223372036854775808 ≤ (9223372036854775807 - a0.fFirst) ∧ (9223372036854775807 - a0.fFirst) ≤ 9223372036854775807 then (if x14.fTime > (9223372036854775807 - a0.fFirst) then some (Lp.ret 11) else (if -9223372036854775808 ≤ (-a0.fFirst) ∧ (-a0.fFirst) ≤ 9223372036854775807 then (if x14.fTime < (-a0.fFirst) then some (Lp.ret 11) else (if -9223372036854775808 ≤ ((k5 : Int) + 1) ∧ ((k5 : Int) + 1) ≤ 9223372036854775807 then (f_r11_orders_l1 a0 m9 y4 (k5 + 1)) else none)) else none)) else none))) else none) else none) else (if x14.fOffset < 0 then some (Lp.ret 13) else (if -9223372036854775808 ≤ (9223372036854775807 - a0.fFirst) ∧ (9223372036854775807 - a0.fFirst) ≤ 9223372036854775807 then (if x14.fTime > (9223372036854775807 - a0.fFirst) then some (Lp.ret 11) else (if -9223372036854775808 ≤ (-a0.fFirst) ∧ (-a0.fFirst) ≤ 9223372036854775807 then (if x14.fTime < (-a0.fFirst) then some (Lp.ret 11) else (if -9223372036854775808 ≤ ((k5 : Int) + 1) ∧ ((k5 : Int) + 1) ≤ 9223372036854775807 then (f_r11_orders_l1 a0 m9 y4 (k5 + 1)) else none)) else none)) else none)))) else (some (Lp.go (y4, k5)))
def f_r11_orders (a0 : Bat) : Option (Int) := (f_r11_orders_l1 a0 (((a0.fRecords.length : Int)).toNat + 1) 0 0).bind fun e => match e with | .ret r => some r | .go (y47, k48) => (if a0.fAppend = true then some 0 else ((f_r11_times a0).bind fun x50 => if x50 = a0.fMax then some 0 else some 11))
set_option maxRecDepth 100000 in
set_option maxHeartbeats 4000000 in
theorem f_r11_orders_spec (a0 : Bat) (A1 : Option Addr) (c2 : Nat) (r : Int) (h : f_r11_orders a0 = some r) : SpecX Try.prog 37 #[.agg #[.int .i64 a0.fBase, .int .i64 a0.fLeader, .bool a0.fAppend, .bool a0.fTxn, .bool a0.fControl, .int .i64 a0.fLast, .int .i64 a0.fFirst, .int .i64 a0.fMax, .int .i64 a0.fProducer, .int .i64 a0.fEpoch, .int .i64 a0.fSequence, .slice A1 a0.fRecords.length c2]] (RX.of (sliceRd 7 Rec_rd) [.slice A1 a0.fRecords.length c2] a0.fRecords) (EmpR) (fun v A' N => v = .int .i64 r ∧ A' = EmpR ∧ N = []) := by
  refine enterA Try.func37 rfl Try.ntmps37 rfl ?_
  intro F w hX
  unfold f_r11_orders at h
  refine T.seq (T.region rfl ?_)
  refine TL.box rfl .u rfl rfl (fun b3 => ?_)
  refine TL.run ft_cursitorref11_ok [1] rfl rfl ?_
  refine TL.nil (X.seq (T.seq (T.seq (T.region rfl ?_))))
  refine TL.run ft_cursitorref11_ok [0] rfl rfl ?_
  refine TL.nil (X.seq (T.block ?_))
  obtain ⟨E6, hE7, hO8⟩ := Option.bind_eq_some_iff.1 h
  refine T.lp (fun m e Rs => ∃ (y4 : Int) (k5 : Nat), e = [(1, .pointer (some ⟨b3, 0, none⟩)), (2, .int .i64 y4), (3, .int .i64 (k5 : Int))] ∧ Rs = [BlkR b3 25 #[.int .i64 a0.fBase, .int .i64 a0.fLeader, .bool a0.fAppend, .bool a0.fTxn, .bool a0.fControl, .int .i64 a0.fLast, .int .i64 a0.fFirst, .int .i64 a0.fMax, .int .i64 a0.fProducer, .int .i64 a0.fEpoch, .int .i64 a0.fSequence, .slice A1 a0.fRecords.length c2], EmpR] ∧ f_r11_orders_l1 a0 m y4 k5 = some E6) (((a0.fRecords.length : Int)).toNat + 1) [0, 0] ⟨0, 0, rfl, rfl, by exact hE7⟩ (by rfl) (by rfl) ?_
  rintro m9 _ _ ⟨y4, k5, rfl, rfl, hl11⟩
  clear hE7 h
  cases m9 with
  | zero =>
    rw [f_r11_orders_l1] at hl11
    cases hl11
  | succ m9 =>
    have h := hl11
    clear hl11
    rw [f_r11_orders_l1] at h
    refine T.seq (T.seq (T.region rfl ?_))
    refine TL.run ft_cursitorref11_ok [0, 1] rfl rfl ?_
    refine TL.q rfl .u (Ex.b1 0 rfl Try.isAgg23 rfl rfl) rfl ?_
    refine TL.q rfl .u (Ex.lenS rfl Try.runUnderlying23) rfl ?_
    refine TL.run ft_cursitorref11_ok [4] rfl rfl ?_
    by_cases c13 : (k5 : Int) < (a0.fRecords.length : Int)
    · replace h := ifT c13 h
      refine TL.nil (X.seq ?_)
      refine T.yes rfl (decide_eq_true c13) ?_
      refine T.skip (X.seq (T.seq (T.block (T.seq (T.region rfl ?_)))))
      refine TL.run ft_cursitorref11_ok [0] rfl rfl ?_
      refine TL.q rfl .u (Ex.b1 0 rfl Try.isAgg23 rfl rfl) rfl ?_
      obtain ⟨x14, hx15, h⟩ := Option.bind_eq_some_iff.1 h
      obtain ⟨gz16, oz16, rfl, z16cs, z16cl, z16cc, z16nf, z16r⟩ := RX.elem (by decide) hX hx15
      obtain ⟨z16S, z16r, z16rr⟩ := z16r
      obtain ⟨A17, c18, rfl, z16s0⟩ := z16r
      have hX19 : (RX.of (sliceRd 3 Hd_rd) [.slice A17 x14.fHeaders.length c18] x14.fHeaders).reads w F := ⟨z16S, z16s0, z16rr⟩
      refine TL.run ft_cursitorref11_ok [2] rfl rfl ?_
      refine TL.q rfl .u (Ex.ixS (k := k5) rfl rfl rfl Try.runUnderlying23 Try.sizeOf33 (List.getElem?_eq_some_iff.1 hx15).1) rfl ?_
      refine TL.run ft_cursitorref11_ok [4] rfl rfl ?_
      refine TL.q rfl .u (Ex.o1 1 rfl Try.isAgg3 z16nf z16cc rfl rfl) rfl ?_
      refine TL.run ft_cursitorref11_ok [6] rfl rfl ?_
      refine TL.nil (X.seq (T.seq (T.seq (T.region rfl ?_))))
      refine TL.run ft_cursitorref11_ok [0, 1] rfl rfl ?_
      refine TL.q rfl .u (Ex.b1 0 rfl Try.isAgg3 rfl rfl) rfl ?_
      by_cases c20 : x14.fOffset > a0.fLast
      · replace h := ifT c20 h
        refine TL.run ft_cursitorref11_ok [3, 4] rfl rfl ?_
        refine TL.no rfl (.gn rfl rfl (decide_eq_true c20)) rfl ?_
        refine TL.no rfl (.gn rfl rfl (decide_eq_true c20)) rfl ?_
        refine TL.no rfl (.gn rfl rfl (decide_eq_true c20)) rfl ?_
        refine TL.no rfl (.gu rfl rfl) rfl ?_
        refine TL.no rfl (.gu rfl rfl) rfl ?_
        refine TL.no rfl (.gu rfl rfl) rfl ?_
        refine TL.no rfl (.gu rfl rfl) rfl ?_
        refine TL.no rfl (.gu rfl rfl) rfl ?_
        refine TL.no rfl (.gu rfl rfl) rfl ?_
        refine TL.no rfl (.gu rfl rfl) rfl ?_
        refine TL.no rfl (.gu rfl rfl) rfl ?_
        refine TL.no rfl (.gu rfl rfl) rfl ?_
        refine TL.no rfl (.gn rfl rfl (decide_eq_true c20)) rfl ?_
        refine TL.q rfl .u (Ex.py rfl (decide_eq_true c20) rfl) rfl ?_
        refine TL.run ft_cursitorref11_ok [19] rfl rfl ?_
        refine TL.no rfl (.gn rfl rfl rfl) rfl ?_
        refine TL.no rfl (.gn rfl rfl rfl) rfl ?_
        refine TL.q rfl .u (Ex.py rfl rfl rfl) rfl ?_
        refine TL.nil (X.seq ?_)
        refine T.yes rfl rfl ?_
        refine T.seq (T.region rfl ?_)
        refine TL.run ft_cursitorref11_ok [0] rfl rfl ?_
        obtain rfl := Option.some.inj h
        replace h := hO8
        clear hO8
        try dsimp only at h
        obtain rfl := Option.some.inj h
        exact TL.nil (X.seq (T.ret (X.rs (X.rb (X.rs (X.rs (X.rb (X.rs (X.done1 [1] Try.results37 (RV.tm rfl) ⟨rfl, rfl, rfl⟩ (by rfl) (.inl rfl))))))))))
      · replace h := ifF c20 h
        refine TL.run ft_cursitorref11_ok [3, 4] rfl rfl ?_
        refine TL.q rfl (.g rfl rfl (decide_eq_false c20)) (Ex.ft ft_cursitorref11_ok rfl) rfl ?_
        refine TL.q rfl (.g rfl rfl (decide_eq_false c20)) (Ex.ft ft_cursitorref11_ok rfl) rfl ?_
        refine TL.q rfl (.g rfl rfl (decide_eq_false c20)) (Ex.ft ft_cursitorref11_ok rfl) rfl ?_
        by_cases c21 : (k5 : Int) > 0
        · replace h := ifT c21 h
          refine TL.q rfl (.g rfl rfl (decide_eq_true c21)) (Ex.ft ft_cursitorref11_ok rfl) rfl ?_
          refine TL.q rfl (.g rfl rfl (decide_eq_true c21)) (Ex.ft ft_cursitorref11_ok rfl) rfl ?_
          refine TL.q rfl (.g rfl rfl (decide_eq_true c21)) (Ex.b1 0 rfl Try.isAgg23 rfl rfl) rfl ?_
          refine TL.q rfl (.g rfl rfl (decide_eq_true c21)) (Ex.ft ft_cursitorref11_ok rfl) rfl ?_
          replace h := guard_some h
          obtain ⟨c22, h⟩ := h
          refine TL.q rfl (.g rfl rfl (decide_eq_true c21)) (Ex.sub rfl rfl c22) rfl ?_
          replace h := guard_some h
          obtain ⟨c23, h⟩ := h
          obtain ⟨x24, hx25, h⟩ := Option.bind_eq_some_iff.1 h
          obtain ⟨z26cs, z26cl, z26cc, z26nf, z26r⟩ := RX.elem' (by decide) hX hx25
          obtain ⟨z26S, z26r, z26rr⟩ := z26r
          obtain ⟨A27, c28, rfl, z26s0⟩ := z26r
          have hX29 : (RX.of (sliceRd 3 Hd_rd) [.slice A27 x24.fHeaders.length c28] x24.fHeaders).reads w F := ⟨z26S, z26s0, z26rr⟩
          refine TL.q rfl (.g rfl rfl (decide_eq_true c21)) (Ex.ixS (k := ((k5 : Int) - 1).toNat) rfl rfl ((Int.toNat_of_nonneg c23).symm) Try.runUnderlying23 Try.sizeOf33 (List.getElem?_eq_some_iff.1 hx25).1) rfl ?_
          refine TL.q rfl (.g rfl rfl (decide_eq_true c21)) (Ex.ft ft_cursitorref11_ok rfl) rfl ?_
          refine TL.q rfl (.g rfl rfl (decide_eq_true c21)) (Ex.o1 1 rfl Try.isAgg3 z26nf z26cc rfl rfl) rfl ?_
          refine TL.q rfl (.g rfl rfl (decide_eq_true c21)) (Ex.ft ft_cursitorref11_ok rfl) rfl ?_
          refine TL.q rfl (.g rfl rfl (decide_eq_false c20)) (Ex.py rfl (decide_eq_true c21) rfl) rfl ?_
          refine TL.q rfl .u (Ex.pn rfl (decide_eq_false c20) rfl) rfl ?_
          by_cases c30 : x14.fOffset ≤ x24.fOffset
          · replace h := ifT c30 h
            refine TL.run ft_cursitorref11_ok [19] rfl rfl ?_
            refine TL.no rfl (.gn rfl rfl (decide_eq_true c30)) rfl ?_
            refine TL.no rfl (.gn rfl rfl (decide_eq_true c30)) rfl ?_
            refine TL.q rfl .u (Ex.py rfl (decide_eq_true c30) rfl) rfl ?_
            refine TL.nil (X.seq ?_)
            refine T.yes rfl rfl ?_
            refine T.seq (T.region rfl ?_)
            refine TL.run ft_cursitorref11_ok [0] rfl rfl ?_
            obtain rfl := Option.some.inj h
            replace h := hO8
            clear hO8
            try dsimp only at h
            obtain rfl := Option.some.inj h
            exact TL.nil (X.seq (T.ret (X.rs (X.rb (X.rs (X.rs (X.rb (X.rs (X.done1 [1] Try.results37 (RV.tm rfl) ⟨rfl, rfl, rfl⟩ (by rfl) (.inl rfl))))))))))
          · replace h := ifF c30 h
            refine TL.run ft_cursitorref11_ok [19] rfl rfl ?_
            refine TL.q rfl (.g rfl rfl (decide_eq_false c30)) (Ex.ft ft_cursitorref11_ok rfl) rfl ?_
            refine TL.q rfl (.g rfl rfl (decide_eq_false c30)) (Ex.ft ft_cursitorref11_ok rfl) rfl ?_
            refine TL.q rfl .u (Ex.pn rfl (decide_eq_false c30) rfl) rfl ?_
            by_cases c31 : x14.fOffset < 0
            · replace h := ifT c31 h
              refine TL.nil (X.seq ?_)
              refine T.yes rfl (decide_eq_true c31) ?_
              refine T.seq (T.region rfl ?_)
              refine TL.run ft_cursitorref11_ok [0] rfl rfl ?_
              obtain rfl := Option.some.inj h
              replace h := hO8
              clear hO8
              try dsimp only at h
              obtain rfl := Option.some.inj h
              exact TL.nil (X.seq (T.ret (X.rs (X.rb (X.rs (X.rs (X.rb (X.rs (X.done1 [1] Try.results37 (RV.tm rfl) ⟨rfl, rfl, rfl⟩ (by rfl) (.inl rfl))))))))))
            · replace h := ifF c31 h
              refine TL.nil (X.seq ?_)
              refine T.no rfl (decide_eq_false c31) ?_
              refine T.skip (X.seq (T.seq (T.region rfl ?_)))
              refine TL.run ft_cursitorref11_ok [0] rfl rfl ?_
              refine TL.q rfl .u (Ex.b1 0 rfl Try.isAgg23 rfl rfl) rfl ?_
              refine TL.run ft_cursitorref11_ok [2] rfl rfl ?_
              refine TL.q rfl .u (Ex.ixS (k := k5) rfl rfl rfl Try.runUnderlying23 Try.sizeOf33 (List.getElem?_eq_some_iff.1 hx15).1) rfl ?_
              refine TL.run ft_cursitorref11_ok [4] rfl rfl ?_
              refine TL.q rfl .u (Ex.o1 0 rfl Try.isAgg3 z16nf z16cc rfl rfl) rfl ?_
              refine TL.run ft_cursitorref11_ok [6] rfl rfl ?_
              refine TL.nil (X.seq (T.seq (T.region rfl ?_)))
              refine TL.run ft_cursitorref11_ok [0, 1] rfl rfl ?_
              refine TL.q rfl .u (Ex.b1 0 rfl Try.isAgg3 rfl rfl) rfl ?_
              replace h := guard_some h
              obtain ⟨c32, h⟩ := h
              refine TL.q rfl .u (Ex.sub rfl rfl c32) rfl ?_
              by_cases c33 : x14.fTime > (9223372036854775807 - a0.fFirst)
              · replace h := ifT c33 h
                refine TL.run ft_cursitorref11_ok [4, 5] rfl rfl ?_
                refine TL.no rfl (.gn rfl rfl (decide_eq_true c33)) rfl ?_
                refine TL.no rfl (.gn rfl rfl (decide_eq_true c33)) rfl ?_
                refine TL.no rfl (.gn rfl rfl (decide_eq_true c33)) rfl ?_
                refine TL.no rfl (.gn rfl rfl (decide_eq_true c33)) rfl ?_
                refine TL.no rfl (.gn rfl rfl (decide_eq_true c33)) rfl ?_
                refine TL.q rfl .u (Ex.py rfl (decide_eq_true c33) rfl) rfl ?_
                refine TL.nil (X.seq ?_)
                refine T.yes rfl rfl ?_
                refine T.seq (T.region rfl ?_)
                refine TL.run ft_cursitorref11_ok [0] rfl rfl ?_
                obtain rfl := Option.some.inj h
                replace h := hO8
                clear hO8
                try dsimp only at h
                obtain rfl := Option.some.inj h
                exact TL.nil (X.seq (T.ret (X.rb (X.rs (X.rs (X.rb (X.rs (X.done1 [1] Try.results37 (RV.tm rfl) ⟨rfl, rfl, rfl⟩ (by rfl) (.inl rfl)))))))))
              · replace h := ifF c33 h
                refine TL.run ft_cursitorref11_ok [4, 5] rfl rfl ?_
                refine TL.q rfl (.g rfl rfl (decide_eq_false c33)) (Ex.ft ft_cursitorref11_ok rfl) rfl ?_
                refine TL.q rfl (.g rfl rfl (decide_eq_false c33)) (Ex.ft ft_cursitorref11_ok rfl) rfl ?_
                refine TL.q rfl (.g rfl rfl (decide_eq_false c33)) (Ex.b1 0 rfl Try.isAgg3 rfl rfl) rfl ?_
                replace h := guard_some h
                obtain ⟨c34, h⟩ := h
                refine TL.q rfl (.g rfl rfl (decide_eq_false c33)) (Ex.neg rfl c34) rfl ?_
                refine TL.q rfl (.g rfl rfl (decide_eq_false c33)) (Ex.ft ft_cursitorref11_ok rfl) rfl ?_
                refine TL.q rfl .u (Ex.pn rfl (decide_eq_false c33) rfl) rfl ?_
                by_cases c35 : x14.fTime < (-a0.fFirst)
                · replace h := ifT c35 h
                  refine TL.nil (X.seq ?_)
                  refine T.yes rfl (decide_eq_true c35) ?_
                  refine T.seq (T.region rfl ?_)
                  refine TL.run ft_cursitorref11_ok [0] rfl rfl ?_
                  obtain rfl := Option.some.inj h
                  replace h := hO8
                  clear hO8
                  try dsimp only at h
                  obtain rfl := Option.some.inj h
                  exact TL.nil (X.seq (T.ret (X.rb (X.rs (X.rs (X.rb (X.rs (X.done1 [1] Try.results37 (RV.tm rfl) ⟨rfl, rfl, rfl⟩ (by rfl) (.inl rfl)))))))))
                · replace h := ifF c35 h
                  refine TL.nil (X.seq ?_)
                  refine T.no rfl (decide_eq_false c35) ?_
                  refine T.skip (X.blk (X.seq (T.region rfl ?_)))
                  replace h := guard_some h
                  obtain ⟨c36, h⟩ := h
                  refine TL.run ft_cursitorref11_ok [0] rfl rfl ?_
                  refine TL.q rfl .u (Ex.add rfl rfl c36) rfl ?_
                  refine TL.run ft_cursitorref11_ok [2] rfl rfl ?_
                  exact TL.nil (X.back (m' := m9) [0, 0] (by omega) ⟨y4, k5 + 1, rfl, rfl, h⟩ (by rfl) (by rfl))
        · replace h := ifF c21 h
          refine TL.no rfl (.gn rfl rfl (decide_eq_false c21)) rfl ?_
          refine TL.no rfl (.gn rfl rfl (decide_eq_false c21)) rfl ?_
          refine TL.no rfl (.gn rfl rfl (decide_eq_false c21)) rfl ?_
          refine TL.no rfl (.gn rfl rfl (decide_eq_false c21)) rfl ?_
          refine TL.no rfl (.gn rfl rfl (decide_eq_false c21)) rfl ?_
          refine TL.no rfl (.gn rfl rfl (decide_eq_false c21)) rfl ?_
          refine TL.no rfl (.gn rfl rfl (decide_eq_false c21)) rfl ?_
          refine TL.no rfl (.gn rfl rfl (decide_eq_false c21)) rfl ?_
          refine TL.no rfl (.gn rfl rfl (decide_eq_false c21)) rfl ?_
          refine TL.q rfl (.g rfl rfl (decide_eq_false c20)) (Ex.pn rfl (decide_eq_false c21) rfl) rfl ?_
          refine TL.q rfl .u (Ex.pn rfl (decide_eq_false c20) rfl) rfl ?_
          refine TL.run ft_cursitorref11_ok [19] rfl rfl ?_
          refine TL.q rfl (.g rfl rfl rfl) (Ex.ft ft_cursitorref11_ok rfl) rfl ?_
          refine TL.q rfl (.g rfl rfl rfl) (Ex.ft ft_cursitorref11_ok rfl) rfl ?_
          refine TL.q rfl .u (Ex.pn rfl rfl rfl) rfl ?_
          by_cases c37 : x14.fOffset < 0
          · replace h := ifT c37 h
            refine TL.nil (X.seq ?_)
            refine T.yes rfl (decide_eq_true c37) ?_
            refine T.seq (T.region rfl ?_)
            refine TL.run ft_cursitorref11_ok [0] rfl rfl ?_
            obtain rfl := Option.some.inj h
            replace h := hO8
            clear hO8
            try dsimp only at h
            obtain rfl := Option.some.inj h
            exact TL.nil (X.seq (T.ret (X.rs (X.rb (X.rs (X.rs (X.rb (X.rs (X.done1 [1] Try.results37 (RV.tm rfl) ⟨rfl, rfl, rfl⟩ (by rfl) (.inl rfl))))))))))
          · replace h := ifF c37 h
            refine TL.nil (X.seq ?_)
            refine T.no rfl (decide_eq_false c37) ?_
            refine T.skip (X.seq (T.seq (T.region rfl ?_)))
            refine TL.run ft_cursitorref11_ok [0] rfl rfl ?_
            refine TL.q rfl .u (Ex.b1 0 rfl Try.isAgg23 rfl rfl) rfl ?_
            refine TL.run ft_cursitorref11_ok [2] rfl rfl ?_
            refine TL.q rfl .u (Ex.ixS (k := k5) rfl rfl rfl Try.runUnderlying23 Try.sizeOf33 (List.getElem?_eq_some_iff.1 hx15).1) rfl ?_
            refine TL.run ft_cursitorref11_ok [4] rfl rfl ?_
            refine TL.q rfl .u (Ex.o1 0 rfl Try.isAgg3 z16nf z16cc rfl rfl) rfl ?_
            refine TL.run ft_cursitorref11_ok [6] rfl rfl ?_
            refine TL.nil (X.seq (T.seq (T.region rfl ?_)))
            refine TL.run ft_cursitorref11_ok [0, 1] rfl rfl ?_
            refine TL.q rfl .u (Ex.b1 0 rfl Try.isAgg3 rfl rfl) rfl ?_
            replace h := guard_some h
            obtain ⟨c38, h⟩ := h
            refine TL.q rfl .u (Ex.sub rfl rfl c38) rfl ?_
            by_cases c39 : x14.fTime > (9223372036854775807 - a0.fFirst)
            · replace h := ifT c39 h
              refine TL.run ft_cursitorref11_ok [4, 5] rfl rfl ?_
              refine TL.no rfl (.gn rfl rfl (decide_eq_true c39)) rfl ?_
              refine TL.no rfl (.gn rfl rfl (decide_eq_true c39)) rfl ?_
              refine TL.no rfl (.gn rfl rfl (decide_eq_true c39)) rfl ?_
              refine TL.no rfl (.gn rfl rfl (decide_eq_true c39)) rfl ?_
              refine TL.no rfl (.gn rfl rfl (decide_eq_true c39)) rfl ?_
              refine TL.q rfl .u (Ex.py rfl (decide_eq_true c39) rfl) rfl ?_
              refine TL.nil (X.seq ?_)
              refine T.yes rfl rfl ?_
              refine T.seq (T.region rfl ?_)
              refine TL.run ft_cursitorref11_ok [0] rfl rfl ?_
              obtain rfl := Option.some.inj h
              replace h := hO8
              clear hO8
              try dsimp only at h
              obtain rfl := Option.some.inj h
              exact TL.nil (X.seq (T.ret (X.rb (X.rs (X.rs (X.rb (X.rs (X.done1 [1] Try.results37 (RV.tm rfl) ⟨rfl, rfl, rfl⟩ (by rfl) (.inl rfl)))))))))
            · replace h := ifF c39 h
              refine TL.run ft_cursitorref11_ok [4, 5] rfl rfl ?_
              refine TL.q rfl (.g rfl rfl (decide_eq_false c39)) (Ex.ft ft_cursitorref11_ok rfl) rfl ?_
              refine TL.q rfl (.g rfl rfl (decide_eq_false c39)) (Ex.ft ft_cursitorref11_ok rfl) rfl ?_
              refine TL.q rfl (.g rfl rfl (decide_eq_false c39)) (Ex.b1 0 rfl Try.isAgg3 rfl rfl) rfl ?_
              replace h := guard_some h
              obtain ⟨c40, h⟩ := h
              refine TL.q rfl (.g rfl rfl (decide_eq_false c39)) (Ex.neg rfl c40) rfl ?_
              refine TL.q rfl (.g rfl rfl (decide_eq_false c39)) (Ex.ft ft_cursitorref11_ok rfl) rfl ?_
              refine TL.q rfl .u (Ex.pn rfl (decide_eq_false c39) rfl) rfl ?_
              by_cases c41 : x14.fTime < (-a0.fFirst)
              · replace h := ifT c41 h
                refine TL.nil (X.seq ?_)
                refine T.yes rfl (decide_eq_true c41) ?_
                refine T.seq (T.region rfl ?_)
                refine TL.run ft_cursitorref11_ok [0] rfl rfl ?_
                obtain rfl := Option.some.inj h
                replace h := hO8
                clear hO8
                try dsimp only at h
                obtain rfl := Option.some.inj h
                exact TL.nil (X.seq (T.ret (X.rb (X.rs (X.rs (X.rb (X.rs (X.done1 [1] Try.results37 (RV.tm rfl) ⟨rfl, rfl, rfl⟩ (by rfl) (.inl rfl)))))))))
              · replace h := ifF c41 h
                refine TL.nil (X.seq ?_)
                refine T.no rfl (decide_eq_false c41) ?_
                refine T.skip (X.blk (X.seq (T.region rfl ?_)))
                replace h := guard_some h
                obtain ⟨c42, h⟩ := h
                refine TL.run ft_cursitorref11_ok [0] rfl rfl ?_
                refine TL.q rfl .u (Ex.add rfl rfl c42) rfl ?_
                refine TL.run ft_cursitorref11_ok [2] rfl rfl ?_
                exact TL.nil (X.back (m' := m9) [0, 0] (by omega) ⟨y4, k5 + 1, rfl, rfl, h⟩ (by rfl) (by rfl))
    · replace h := ifF c13 h
      refine TL.nil (X.seq ?_)
      refine T.no rfl (decide_eq_false c13) ?_
      obtain rfl := Option.some.inj h
      replace h := hO8
      clear hO8
      try dsimp only at h
      refine T.exit (X.exs (X.exs (X.ex (X.seq (T.seq (T.seq (T.draw (.q 0 (.q 1 (.q 2 (.q 3 (.q 4 (.q 6 (.q 7 (.e 5 (.q 8 (.q 9 .nil)))))))))) [0, 0] rfl mix_cursitorref11 (NoP.seq (NoP.seq np_post)) (by kernel_rfl) ?_)))))))
      refine TD.run ft_cursitorref11_ok [0] rfl rfl ?_
      refine TD.q rfl .u (Ex.b1 0 rfl Try.isAgg4 rfl rfl) rfl ?_
      by_cases c43 : a0.fAppend = true
      · replace h := ifT c43 h
        refine TD.run ft_cursitorref11_ok [2, 3] rfl rfl ?_
        refine TD.no rfl (.gn rfl rfl (bn_f c43)) rfl ?_
        refine TD.no rfl (.gn rfl rfl (bn_f c43)) rfl ?_
        refine TD.no rfl (.gn rfl rfl (bn_f c43)) rfl ?_
        refine TD.noe rfl (.gn rfl rfl (bn_f c43)) rfl [0, 0] rfl ?_
        refine TD.no rfl (.gn rfl rfl (bn_f c43)) rfl ?_
        refine TD.q rfl .u (Ex.pn rfl (bn_f c43) rfl) rfl ?_
        refine TD.nil (X.seq ?_)
        refine T.no rfl rfl ?_
        refine T.skip (X.seq (T.seq (T.region rfl ?_)))
        refine TL.run ft_cursitorref11_ok [0] rfl rfl ?_
        obtain rfl := Option.some.inj h
        exact TL.nil (X.seq (T.ret (X.done1 [1] Try.results37 (RV.tm rfl) ⟨rfl, rfl, rfl⟩ (by rfl) (.inl rfl))))
      · replace h := ifF c43 h
        replace c43 := eq_false_of_ne_true c43
        refine TD.run ft_cursitorref11_ok [2, 3] rfl rfl ?_
        refine TD.q rfl (.g rfl rfl (bn_t c43)) (Ex.bS (us := [.int .i64 a0.fBase, .int .i64 a0.fLeader, .bool a0.fAppend, .bool a0.fTxn, .bool a0.fControl, .int .i64 a0.fLast, .int .i64 a0.fFirst, .int .i64 a0.fMax, .int .i64 a0.fProducer, .int .i64 a0.fEpoch, .int .i64 a0.fSequence, .slice A1 a0.fRecords.length c2]) 0 rfl Try.isAgg25 Try.sizeOf25 rfl rfl rfl) rfl ?_
        refine TD.q rfl (.g rfl rfl (bn_t c43)) (Ex.ft ft_cursitorref11_ok rfl) rfl ?_
        refine TD.q rfl (.g rfl rfl (bn_t c43)) (Ex.b1 0 rfl Try.isAgg3 rfl rfl) rfl ?_
        obtain ⟨x44, hx45, h⟩ := Option.bind_eq_some_iff.1 h
        refine TD.ce rfl (.g rfl rfl (bn_t c43)) (.fn Try.call79 rfl) (f_r11_times_spec a0 _ _ _ hx45) (fun _ hs => (SrcE.old hs hX)) rfl [0, 0] (rfl) ?_
        refine TD.q rfl (.g rfl rfl (bn_t c43)) (Ex.ft ft_cursitorref11_ok rfl) rfl ?_
        refine TD.q rfl .u (Ex.py rfl (bn_t c43) rfl) rfl ?_
        by_cases c46 : x44 = a0.fMax
        · replace h := ifT c46 h
          refine TD.nil (X.seq ?_)
          refine T.no rfl (bn_f (decide_eq_true c46)) ?_
          refine T.skip (X.seq (T.seq (T.region rfl ?_)))
          refine TL.run ft_cursitorref11_ok [0] rfl rfl ?_
          obtain rfl := Option.some.inj h
          exact TL.nil (X.seq (T.ret (X.done1 [1] Try.results37 (RV.tm rfl) ⟨rfl, rfl, rfl⟩ (by rfl) (.inl rfl))))
        · replace h := ifF c46 h
          refine TD.nil (X.seq ?_)
          refine T.yes rfl (bn_t (decide_eq_false c46)) ?_
          refine T.seq (T.region rfl ?_)
          refine TL.run ft_cursitorref11_ok [0] rfl rfl ?_
          obtain rfl := Option.some.inj h
          exact TL.nil (X.seq (T.ret (X.rs (X.done1 [1] Try.results37 (RV.tm rfl) ⟨rfl, rfl, rfl⟩ (by rfl) (.inl rfl)))))
def f_r11_Check_l1 (a0 : Bat) : Nat → Int → Nat → Option (Lp Int (Int × Nat))
  | 0, _, _ => none
  | m26 + 1, y21, k22 => if (k22 : Int) < (a0.fRecords.length : Int) then ((a0.fRecords[k22]?).bind fun x31 => (f_r07_Right x31).bind fun x37 => if x37 = 0 then (if -9223372036854775808 ≤ ((k22 : Int) + 1) ∧ ((k22 : Int) + 1) ≤ 9223372036854775807 then (f_r11_Check_l1 a0 m26 y21 (k22 + 1)) else none) else some (Lp.ret x37)) else (some (Lp.go (y21, k22)))
def f_r11_Check_l2 (a0 : Bat) : Nat → Int → Nat → Option (Lp Int (Int × Nat))
  | 0, _, _ => none
  | m77 + 1, y72, k73 => if (k73 : Int) < (a0.fRecords.length : Int) then ((a0.fRecords[k73]?).bind fun x82 => (f_r07_Right x82).bind fun x88 => if x88 = 0 then (if -9223372036854775808 ≤ ((k73 : Int) + 1) ∧ ((k73 : Int) + 1) ≤ 9223372036854775807 then (f_r11_Check_l2 a0 m77 y72 (k73 + 1)) else none) else some (Lp.ret x88)) else (some (Lp.go (y72, k73)))
def f_r11_Check (a0 : Bat) : Option (Int) := if a0.fBase < 0 then some 11 else ((f_r11_int32s a0.fLeader (-1)).bind fun x5 => if x5 = true then ((f_r11_int32s a0.fLast 0).bind fun x8 => if x8 = true then (if -9223372036854775808 ≤ (9223372036854775807 - a0.fBase) ∧ (9223372036854775807 - a0.fBase) ≤ 9223372036854775807 then (if a0.fLast > (9223372036854775807 - a0.fBase) then some 11 else (if a0.fFirst < 0 then some 11 else (if a0.fMax < 0 then some 11 else (if a0.fControl = true then (if a0.fTxn = true then ((f_r11_producer a0).bind fun x17 => if x17 = true then (if (a0.fRecords.length : Int) = 1 then ((f_r11_Check_l1 a0 (((a0.fRecords.length : Int)).toNat + 1) 0 0).bind fun e => match e with | .ret r => some r | .go (y54, k55) => ((a0.fRecords[0]?).bind fun x56 => (f_r08_Read x56).bind fun (x62, x63, x64) => if x64 = 0 then ((f_r11_orders a0).bind fun x67 => some x67) else some x64)) else some 10) else some 11) else some 8) else ((f_r11_producer a0).bind fun x69 => if x69 = true then ((f_r11_Check_l2 a0 (((a0.fRecords.length : Int)).toNat + 1) 0 0).bind fun e => match e with | .ret r => some r | .go (y94, k95) => ((f_r11_orders a0).bind fun x96 => some x96)) else some 11))))) else none) else some 11) else some 11)
set_option maxRecDepth 100000 in
set_option maxHeartbeats 4000000 in
theorem f_r11_Check_spec (a0 : Bat) (A1 : Option Addr) (c2 : Nat) (r : Int) (h : f_r11_Check a0 = some r) : SpecX Try.prog 13 #[.agg #[.int .i64 a0.fBase, .int .i64 a0.fLeader, .bool a0.fAppend, .bool a0.fTxn, .bool a0.fControl, .int .i64 a0.fLast, .int .i64 a0.fFirst, .int .i64 a0.fMax, .int .i64 a0.fProducer, .int .i64 a0.fEpoch, .int .i64 a0.fSequence, .slice A1 a0.fRecords.length c2]] (RX.of (sliceRd 7 Rec_rd) [.slice A1 a0.fRecords.length c2] a0.fRecords) (EmpR) (fun v A' N => v = .int .i64 r ∧ A' = EmpR ∧ N = []) := by
  refine enterA Try.func13 rfl Try.ntmps13 rfl ?_
  intro F w hX
  unfold f_r11_Check at h
  refine T.seq (T.region rfl ?_)
  refine TL.box rfl .u rfl rfl (fun b3 => ?_)
  refine TL.run ft_cursitorref11_ok [1] rfl rfl ?_
  refine TL.nil (X.seq (T.seq (T.seq (T.region rfl ?_))))
  refine TL.run ft_cursitorref11_ok [0] rfl rfl ?_
  refine TL.q rfl .u (Ex.b1 0 rfl Try.isAgg3 rfl rfl) rfl ?_
  by_cases c4 : a0.fBase < 0
  · replace h := ifT c4 h
    refine TL.run ft_cursitorref11_ok [2, 3] rfl rfl ?_
    refine TL.no rfl (.gn rfl rfl (decide_eq_true c4)) rfl ?_
    refine TL.no rfl (.gn rfl rfl (decide_eq_true c4)) rfl ?_
    refine TL.no rfl (.gn rfl rfl (decide_eq_true c4)) rfl ?_
    refine TL.no rfl (.gn rfl rfl (decide_eq_true c4)) rfl ?_
    refine TL.q rfl .u (Ex.py rfl (decide_eq_true c4) rfl) rfl ?_
    refine TL.run ft_cursitorref11_ok [9] rfl rfl ?_
    refine TL.no rfl (.gn rfl rfl rfl) rfl ?_
    refine TL.no rfl (.gn rfl rfl rfl) rfl ?_
    refine TL.no rfl (.gn rfl rfl rfl) rfl ?_
    refine TL.no rfl (.gn rfl rfl rfl) rfl ?_
    refine TL.q rfl .u (Ex.py rfl rfl rfl) rfl ?_
    refine TL.run ft_cursitorref11_ok [15] rfl rfl ?_
    refine TL.no rfl (.gn rfl rfl rfl) rfl ?_
    refine TL.no rfl (.gn rfl rfl rfl) rfl ?_
    refine TL.no rfl (.gn rfl rfl rfl) rfl ?_
    refine TL.no rfl (.gn rfl rfl rfl) rfl ?_
    refine TL.no rfl (.gn rfl rfl rfl) rfl ?_
    refine TL.no rfl (.gn rfl rfl rfl) rfl ?_
    refine TL.q rfl .u (Ex.py rfl rfl rfl) rfl ?_
    refine TL.run ft_cursitorref11_ok [23] rfl rfl ?_
    refine TL.no rfl (.gn rfl rfl rfl) rfl ?_
    refine TL.no rfl (.gn rfl rfl rfl) rfl ?_
    refine TL.no rfl (.gn rfl rfl rfl) rfl ?_
    refine TL.q rfl .u (Ex.py rfl rfl rfl) rfl ?_
    refine TL.run ft_cursitorref11_ok [28] rfl rfl ?_
    refine TL.no rfl (.gn rfl rfl rfl) rfl ?_
    refine TL.no rfl (.gn rfl rfl rfl) rfl ?_
    refine TL.no rfl (.gn rfl rfl rfl) rfl ?_
    refine TL.q rfl .u (Ex.py rfl rfl rfl) rfl ?_
    refine TL.nil (X.seq ?_)
    refine T.yes rfl rfl ?_
    refine T.seq (T.region rfl ?_)
    refine TL.run ft_cursitorref11_ok [0] rfl rfl ?_
    obtain rfl := Option.some.inj h
    exact TL.nil (X.seq (T.ret (X.rs (X.done1 [1] Try.results13 (RV.tm rfl) ⟨rfl, rfl, rfl⟩ (by rfl) (.inl rfl)))))
  · replace h := ifF c4 h
    refine TL.run ft_cursitorref11_ok [2, 3] rfl rfl ?_
    refine TL.q rfl (.g rfl rfl (decide_eq_false c4)) (Ex.ft ft_cursitorref11_ok rfl) rfl ?_
    refine TL.q rfl (.g rfl rfl (decide_eq_false c4)) (Ex.b1 0 rfl Try.isAgg3 rfl rfl) rfl ?_
    obtain ⟨x5, hx6, h⟩ := Option.bind_eq_some_iff.1 h
    refine TL.ce rfl (.g rfl rfl (decide_eq_false c4)) (.fn Try.call33 rfl) (f_r11_int32s_spec a0.fLeader (-1) _ hx6) (fun _ hs => (RX.reads_triv _ _)) rfl ?_
    refine TL.q rfl (.g rfl rfl (decide_eq_false c4)) (Ex.ft ft_cursitorref11_ok rfl) rfl ?_
    refine TL.q rfl .u (Ex.pn rfl (decide_eq_false c4) rfl) rfl ?_
    by_cases c7 : x5 = true
    · replace h := ifT c7 h
      refine TL.run ft_cursitorref11_ok [9] rfl rfl ?_
      refine TL.q rfl (.g rfl rfl (bn_f c7)) (Ex.ft ft_cursitorref11_ok rfl) rfl ?_
      refine TL.q rfl (.g rfl rfl (bn_f c7)) (Ex.b1 0 rfl Try.isAgg3 rfl rfl) rfl ?_
      obtain ⟨x8, hx9, h⟩ := Option.bind_eq_some_iff.1 h
      refine TL.ce rfl (.g rfl rfl (bn_f c7)) (.fn Try.call33 rfl) (f_r11_int32s_spec a0.fLast 0 _ hx9) (fun _ hs => (RX.reads_triv _ _)) rfl ?_
      refine TL.q rfl (.g rfl rfl (bn_f c7)) (Ex.ft ft_cursitorref11_ok rfl) rfl ?_
      refine TL.q rfl .u (Ex.pn rfl (bn_f c7) rfl) rfl ?_
      by_cases c10 : x8 = true
      · replace h := ifT c10 h
        refine TL.run ft_cursitorref11_ok [15] rfl rfl ?_
        refine TL.q rfl (.g rfl rfl (bn_f c10)) (Ex.ft ft_cursitorref11_ok rfl) rfl ?_
        refine TL.q rfl (.g rfl rfl (bn_f c10)) (Ex.b1 0 rfl Try.isAgg3 rfl rfl) rfl ?_
        refine TL.q rfl (.g rfl rfl (bn_f c10)) (Ex.ft ft_cursitorref11_ok rfl) rfl ?_
        refine TL.q rfl (.g rfl rfl (bn_f c10)) (Ex.b1 0 rfl Try.isAgg3 rfl rfl) rfl ?_
        replace h := guard_some h
        obtain ⟨c11, h⟩ := h
        refine TL.q rfl (.g rfl rfl (bn_f c10)) (Ex.sub rfl rfl c11) rfl ?_
        refine TL.q rfl (.g rfl rfl (bn_f c10)) (Ex.ft ft_cursitorref11_ok rfl) rfl ?_
        refine TL.q rfl .u (Ex.pn rfl (bn_f c10) rfl) rfl ?_
        by_cases c12 : a0.fLast > (9223372036854775807 - a0.fBase)
        · replace h := ifT c12 h
          refine TL.run ft_cursitorref11_ok [23] rfl rfl ?_
          refine TL.no rfl (.gn rfl rfl (decide_eq_true c12)) rfl ?_
          refine TL.no rfl (.gn rfl rfl (decide_eq_true c12)) rfl ?_
          refine TL.no rfl (.gn rfl rfl (decide_eq_true c12)) rfl ?_
          refine TL.q rfl .u (Ex.py rfl (decide_eq_true c12) rfl) rfl ?_
          refine TL.run ft_cursitorref11_ok [28] rfl rfl ?_
          refine TL.no rfl (.gn rfl rfl rfl) rfl ?_
          refine TL.no rfl (.gn rfl rfl rfl) rfl ?_
          refine TL.no rfl (.gn rfl rfl rfl) rfl ?_
          refine TL.q rfl .u (Ex.py rfl rfl rfl) rfl ?_
          refine TL.nil (X.seq ?_)
          refine T.yes rfl rfl ?_
          refine T.seq (T.region rfl ?_)
          refine TL.run ft_cursitorref11_ok [0] rfl rfl ?_
          obtain rfl := Option.some.inj h
          exact TL.nil (X.seq (T.ret (X.rs (X.done1 [1] Try.results13 (RV.tm rfl) ⟨rfl, rfl, rfl⟩ (by rfl) (.inl rfl)))))
        · replace h := ifF c12 h
          refine TL.run ft_cursitorref11_ok [23] rfl rfl ?_
          refine TL.q rfl (.g rfl rfl (decide_eq_false c12)) (Ex.ft ft_cursitorref11_ok rfl) rfl ?_
          refine TL.q rfl (.g rfl rfl (decide_eq_false c12)) (Ex.b1 0 rfl Try.isAgg3 rfl rfl) rfl ?_
          refine TL.q rfl (.g rfl rfl (decide_eq_false c12)) (Ex.ft ft_cursitorref11_ok rfl) rfl ?_
          refine TL.q rfl .u (Ex.pn rfl (decide_eq_false c12) rfl) rfl ?_
          by_cases c13 : a0.fFirst < 0
          · replace h := ifT c13 h
            refine TL.run ft_cursitorref11_ok [28] rfl rfl ?_
            refine TL.no rfl (.gn rfl rfl (decide_eq_true c13)) rfl ?_
            refine TL.no rfl (.gn rfl rfl (decide_eq_true c13)) rfl ?_
            refine TL.no rfl (.gn rfl rfl (decide_eq_true c13)) rfl ?_
            refine TL.q rfl .u (Ex.py rfl (decide_eq_true c13) rfl) rfl ?_
            refine TL.nil (X.seq ?_)
            refine T.yes rfl rfl ?_
            refine T.seq (T.region rfl ?_)
            refine TL.run ft_cursitorref11_ok [0] rfl rfl ?_
            obtain rfl := Option.some.inj h
            exact TL.nil (X.seq (T.ret (X.rs (X.done1 [1] Try.results13 (RV.tm rfl) ⟨rfl, rfl, rfl⟩ (by rfl) (.inl rfl)))))
          · replace h := ifF c13 h
            refine TL.run ft_cursitorref11_ok [28] rfl rfl ?_
            refine TL.q rfl (.g rfl rfl (decide_eq_false c13)) (Ex.ft ft_cursitorref11_ok rfl) rfl ?_
            refine TL.q rfl (.g rfl rfl (decide_eq_false c13)) (Ex.b1 0 rfl Try.isAgg3 rfl rfl) rfl ?_
            refine TL.q rfl (.g rfl rfl (decide_eq_false c13)) (Ex.ft ft_cursitorref11_ok rfl) rfl ?_
            refine TL.q rfl .u (Ex.pn rfl (decide_eq_false c13) rfl) rfl ?_
            by_cases c14 : a0.fMax < 0
            · replace h := ifT c14 h
              refine TL.nil (X.seq ?_)
              refine T.yes rfl (decide_eq_true c14) ?_
              refine T.seq (T.region rfl ?_)
              refine TL.run ft_cursitorref11_ok [0] rfl rfl ?_
              obtain rfl := Option.some.inj h
              exact TL.nil (X.seq (T.ret (X.rs (X.done1 [1] Try.results13 (RV.tm rfl) ⟨rfl, rfl, rfl⟩ (by rfl) (.inl rfl)))))
            · replace h := ifF c14 h
              refine TL.nil (X.seq ?_)
              refine T.no rfl (decide_eq_false c14) ?_
              refine T.skip (X.seq (T.seq (T.seq (T.region rfl ?_))))
              refine TL.run ft_cursitorref11_ok [0] rfl rfl ?_
              refine TL.q rfl .u (Ex.b1 0 rfl Try.isAgg4 rfl rfl) rfl ?_
              by_cases c15 : a0.fControl = true
              · replace h := ifT c15 h
                refine TL.run ft_cursitorref11_ok [2] rfl rfl ?_
                refine TL.q rfl (.g rfl rfl c15) (Ex.ft ft_cursitorref11_ok rfl) rfl ?_
                refine TL.q rfl (.g rfl rfl c15) (Ex.b1 0 rfl Try.isAgg4 rfl rfl) rfl ?_
                refine TL.q rfl (.g rfl rfl c15) (Ex.ft ft_cursitorref11_ok rfl) rfl ?_
                refine TL.q rfl .u (Ex.py rfl c15 rfl) rfl ?_
                by_cases c16 : a0.fTxn = true
                · replace h := ifT c16 h
                  refine TL.nil (X.seq ?_)
                  refine T.no rfl (bn_f c16) ?_
                  refine T.skip (X.seq (T.seq (T.seq (T.region rfl ?_))))
                  refine TL.q rfl .u (Ex.bS (us := [.int .i64 a0.fBase, .int .i64 a0.fLeader, .bool a0.fAppend, .bool a0.fTxn, .bool a0.fControl, .int .i64 a0.fLast, .int .i64 a0.fFirst, .int .i64 a0.fMax, .int .i64 a0.fProducer, .int .i64 a0.fEpoch, .int .i64 a0.fSequence, .slice A1 a0.fRecords.length c2]) 0 rfl Try.isAgg25 Try.sizeOf25 rfl rfl rfl) rfl ?_
                  obtain ⟨x17, hx18, h⟩ := Option.bind_eq_some_iff.1 h
                  refine TL.ce rfl .u (.fn Try.call34 rfl) (f_r11_producer_spec a0 _ _ _ hx18) (fun _ hs => (SrcE.old hs hX)) rfl ?_
                  refine TL.run ft_cursitorref11_ok [2] rfl rfl ?_
                  by_cases c19 : x17 = true
                  · replace h := ifT c19 h
                    refine TL.nil (X.seq ?_)
                    refine T.no rfl (bn_f c19) ?_
                    refine T.skip (X.seq (T.seq (T.seq (T.region rfl ?_))))
                    refine TL.run ft_cursitorref11_ok [0] rfl rfl ?_
                    refine TL.q rfl .u (Ex.b1 0 rfl Try.isAgg4 rfl rfl) rfl ?_
                    refine TL.run ft_cursitorref11_ok [2] rfl rfl ?_
                    refine TL.q rfl (.g rfl rfl c15) (Ex.ft ft_cursitorref11_ok rfl) rfl ?_
                    refine TL.q rfl (.g rfl rfl c15) (Ex.b1 0 rfl Try.isAgg23 rfl rfl) rfl ?_
                    refine TL.q rfl (.g rfl rfl c15) (Ex.lenS rfl Try.runUnderlying23) rfl ?_
                    refine TL.q rfl (.g rfl rfl c15) (Ex.ft ft_cursitorref11_ok rfl) rfl ?_
                    refine TL.q rfl .u (Ex.py rfl c15 rfl) rfl ?_
                    by_cases c20 : (a0.fRecords.length : Int) = 1
                    · replace h := ifT c20 h
                      refine TL.nil (X.seq ?_)
                      refine T.no rfl (bn_f (decide_eq_true c20)) ?_
                      refine T.skip (X.seq (T.seq (T.seq (T.region rfl ?_))))
                      refine TL.run ft_cursitorref11_ok [0] rfl rfl ?_
                      refine TL.nil (X.seq (T.block ?_))
                      obtain ⟨E23, hE24, hO25⟩ := Option.bind_eq_some_iff.1 h
                      refine T.lp (fun m e Rs => ∃ (y21 : Int) (k22 : Nat), e = [(1, .pointer (some ⟨b3, 0, none⟩)), (2, .int .i64 y21), (3, .int .i64 (k22 : Int))] ∧ Rs = [BlkR b3 25 #[.int .i64 a0.fBase, .int .i64 a0.fLeader, .bool a0.fAppend, .bool a0.fTxn, .bool a0.fControl, .int .i64 a0.fLast, .int .i64 a0.fFirst, .int .i64 a0.fMax, .int .i64 a0.fProducer, .int .i64 a0.fEpoch, .int .i64 a0.fSequence, .slice A1 a0.fRecords.length c2], EmpR] ∧ f_r11_Check_l1 a0 m y21 k22 = some E23) (((a0.fRecords.length : Int)).toNat + 1) [0, 0] ⟨0, 0, rfl, rfl, by exact hE24⟩ (by rfl) (by rfl) ?_
                      rintro m26 _ _ ⟨y21, k22, rfl, rfl, hl28⟩
                      clear hE24 h
                      cases m26 with
                      | zero =>
                        rw [f_r11_Check_l1] at hl28
                        cases hl28
                      | succ m26 =>
                        have h := hl28
                        clear hl28
                        rw [f_r11_Check_l1] at h
                        refine T.seq (T.seq (T.region rfl ?_))
                        refine TL.run ft_cursitorref11_ok [0, 1] rfl rfl ?_
                        refine TL.q rfl .u (Ex.b1 0 rfl Try.isAgg23 rfl rfl) rfl ?_
                        refine TL.q rfl .u (Ex.lenS rfl Try.runUnderlying23) rfl ?_
                        refine TL.run ft_cursitorref11_ok [4] rfl rfl ?_
                        by_cases c30 : (k22 : Int) < (a0.fRecords.length : Int)
                        · replace h := ifT c30 h
                          refine TL.nil (X.seq ?_)
                          refine T.yes rfl (decide_eq_true c30) ?_
                          refine T.skip (X.seq (T.seq (T.block (T.seq (T.region rfl ?_)))))
                          refine TL.run ft_cursitorref11_ok [0] rfl rfl ?_
                          refine TL.q rfl .u (Ex.b1 0 rfl Try.isAgg23 rfl rfl) rfl ?_
                          obtain ⟨x31, hx32, h⟩ := Option.bind_eq_some_iff.1 h
                          obtain ⟨gz33, oz33, rfl, z33cs, z33cl, z33cc, z33nf, z33r⟩ := RX.elem (by decide) hX hx32
                          obtain ⟨z33S, z33r, z33rr⟩ := z33r
                          obtain ⟨A34, c35, rfl, z33s0⟩ := z33r
                          have hX36 : (RX.of (sliceRd 3 Hd_rd) [.slice A34 x31.fHeaders.length c35] x31.fHeaders).reads w F := ⟨z33S, z33s0, z33rr⟩
                          refine TL.run ft_cursitorref11_ok [2] rfl rfl ?_
                          refine TL.q rfl .u (Ex.ixS (k := k22) rfl rfl rfl Try.runUnderlying23 Try.sizeOf33 (List.getElem?_eq_some_iff.1 hx32).1) rfl ?_
                          refine TL.q rfl .u (Ex.oS (us := [.int .i64 x31.fTime, .int .i64 x31.fOffset, .bool x31.fKey.null, .string (bsOf x31.fKey.data), .bool x31.fValue.null, .string (bsOf x31.fValue.data), .slice A34 x31.fHeaders.length c35]) 0 rfl Try.isAgg33 Try.sizeOf33 z33nf z33cc rfl rfl rfl) rfl ?_
                          obtain ⟨x37, hx38, h⟩ := Option.bind_eq_some_iff.1 h
                          refine TL.ce rfl .u (.fn Try.call35 rfl) (f_r07_Right_spec x31 _ _ _ hx38) (fun _ hs => (SrcE.old hs hX36)) rfl ?_
                          refine TL.run ft_cursitorref11_ok [6] rfl rfl ?_
                          refine TL.nil (X.seq (T.seq (T.region rfl ?_)))
                          refine TL.run ft_cursitorref11_ok [0, 1] rfl rfl ?_
                          by_cases c39 : x37 = 0
                          · replace h := ifT c39 h
                            refine TL.nil (X.seq ?_)
                            refine T.no rfl (bn_f (decide_eq_true c39)) ?_
                            refine T.skip (X.blk (X.seq (T.region rfl ?_)))
                            replace h := guard_some h
                            obtain ⟨c40, h⟩ := h
                            refine TL.run ft_cursitorref11_ok [0] rfl rfl ?_
                            refine TL.q rfl .u (Ex.add rfl rfl c40) rfl ?_
                            refine TL.run ft_cursitorref11_ok [2] rfl rfl ?_
                            exact TL.nil (X.back (m' := m26) [0, 0] (by omega) ⟨y21, k22 + 1, rfl, rfl, h⟩ (by rfl) (by rfl))
                          · replace h := ifF c39 h
                            refine TL.nil (X.seq ?_)
                            refine T.yes rfl (bn_t (decide_eq_false c39)) ?_
                            refine T.seq (T.region rfl ?_)
                            refine TL.run ft_cursitorref11_ok [0, 1] rfl rfl ?_
                            obtain rfl := Option.some.inj h
                            replace h := hO25
                            clear hO25
                            try dsimp only at h
                            obtain rfl := Option.some.inj h
                            exact TL.nil (X.seq (T.ret (X.rb (X.rs (X.rs (X.rb (X.rs (X.done1 [1] Try.results13 (RV.tm rfl) ⟨rfl, rfl, rfl⟩ (by rfl) (.inl rfl)))))))))
                        · replace h := ifF c30 h
                          refine TL.nil (X.seq ?_)
                          refine T.no rfl (decide_eq_false c30) ?_
                          obtain rfl := Option.some.inj h
                          replace h := hO25
                          clear hO25
                          try dsimp only at h
                          refine T.exit (X.exs (X.exs (X.ex (X.seq (T.seq (T.seq (T.region rfl ?_)))))))
                          refine TL.run ft_cursitorref11_ok [0] rfl rfl ?_
                          refine TL.q rfl .u (Ex.b1 0 rfl Try.isAgg4 rfl rfl) rfl ?_
                          refine TL.nil (X.seq ?_)
                          refine T.yes rfl c15 ?_
                          refine T.seq (T.region rfl ?_)
                          refine TL.run ft_cursitorref11_ok [0] rfl rfl ?_
                          refine TL.q rfl .u (Ex.b1 0 rfl Try.isAgg23 rfl rfl) rfl ?_
                          obtain ⟨x41, hx42, h⟩ := Option.bind_eq_some_iff.1 h
                          obtain ⟨gz43, oz43, rfl, z43cs, z43cl, z43cc, z43nf, z43r⟩ := RX.elem (by decide) hX hx42
                          obtain ⟨z43S, z43r, z43rr⟩ := z43r
                          obtain ⟨A44, c45, rfl, z43s0⟩ := z43r
                          have hX46 : (RX.of (sliceRd 3 Hd_rd) [.slice A44 x41.fHeaders.length c45] x41.fHeaders).reads w F := ⟨z43S, z43s0, z43rr⟩
                          refine TL.q rfl .u (Ex.ixS (k := 0) rfl rfl rfl Try.runUnderlying23 Try.sizeOf33 (List.getElem?_eq_some_iff.1 hx42).1) rfl ?_
                          refine TL.q rfl .u (Ex.oS (us := [.int .i64 x41.fTime, .int .i64 x41.fOffset, .bool x41.fKey.null, .string (bsOf x41.fKey.data), .bool x41.fValue.null, .string (bsOf x41.fValue.data), .slice A44 x41.fHeaders.length c45]) 0 rfl Try.isAgg33 Try.sizeOf33 z43nf z43cc rfl rfl rfl) rfl ?_
                          obtain ⟨⟨x47, x48, x49⟩, hx50, h⟩ := Option.bind_eq_some_iff.1 h
                          try dsimp only at h
                          refine TL.ce rfl .u (.fn Try.call36 rfl) (f_r08_Read_spec x41 _ _ _ hx50) (fun _ hs => (SrcE.old hs hX46)) rfl ?_
                          refine TL.run ft_cursitorref11_ok [5, 6, 7, 8, 9, 10, 11] rfl rfl ?_
                          refine TL.nil (X.seq (T.seq (T.region rfl ?_)))
                          refine TL.run ft_cursitorref11_ok [0, 1] rfl rfl ?_
                          by_cases c51 : x49 = 0
                          · replace h := ifT c51 h
                            refine TL.nil (X.seq ?_)
                            refine T.no rfl (bn_f (decide_eq_true c51)) ?_
                            refine T.skip (X.seq (T.seq (T.region rfl ?_)))
                            refine TL.q rfl .u (Ex.bS (us := [.int .i64 a0.fBase, .int .i64 a0.fLeader, .bool a0.fAppend, .bool a0.fTxn, .bool a0.fControl, .int .i64 a0.fLast, .int .i64 a0.fFirst, .int .i64 a0.fMax, .int .i64 a0.fProducer, .int .i64 a0.fEpoch, .int .i64 a0.fSequence, .slice (some ⟨gz43, oz43, none⟩) a0.fRecords.length c2]) 0 rfl Try.isAgg25 Try.sizeOf25 rfl rfl rfl) rfl ?_
                            obtain ⟨x52, hx53, h⟩ := Option.bind_eq_some_iff.1 h
                            refine TL.ce rfl .u (.fn Try.call37 rfl) (f_r11_orders_spec a0 _ _ _ hx53) (fun _ hs => (SrcE.old hs hX)) rfl ?_
                            refine TL.run ft_cursitorref11_ok [2] rfl rfl ?_
                            obtain rfl := Option.some.inj h
                            exact TL.nil (X.seq (T.ret (X.done1 [1] Try.results13 (RV.tm rfl) ⟨rfl, rfl, rfl⟩ (by rfl) (.inl rfl))))
                          · replace h := ifF c51 h
                            refine TL.nil (X.seq ?_)
                            refine T.yes rfl (bn_t (decide_eq_false c51)) ?_
                            refine T.seq (T.region rfl ?_)
                            refine TL.run ft_cursitorref11_ok [0, 1] rfl rfl ?_
                            obtain rfl := Option.some.inj h
                            exact TL.nil (X.seq (T.ret (X.rs (X.done1 [1] Try.results13 (RV.tm rfl) ⟨rfl, rfl, rfl⟩ (by rfl) (.inl rfl)))))
                    · replace h := ifF c20 h
                      refine TL.nil (X.seq ?_)
                      refine T.yes rfl (bn_t (decide_eq_false c20)) ?_
                      refine T.seq (T.region rfl ?_)
                      refine TL.run ft_cursitorref11_ok [0] rfl rfl ?_
                      obtain rfl := Option.some.inj h
                      exact TL.nil (X.seq (T.ret (X.rs (X.done1 [1] Try.results13 (RV.tm rfl) ⟨rfl, rfl, rfl⟩ (by rfl) (.inl rfl)))))
                  · replace h := ifF c19 h
                    replace c19 := eq_false_of_ne_true c19
                    refine TL.nil (X.seq ?_)
                    refine T.yes rfl (bn_t c19) ?_
                    refine T.seq (T.region rfl ?_)
                    refine TL.run ft_cursitorref11_ok [0] rfl rfl ?_
                    obtain rfl := Option.some.inj h
                    exact TL.nil (X.seq (T.ret (X.rs (X.done1 [1] Try.results13 (RV.tm rfl) ⟨rfl, rfl, rfl⟩ (by rfl) (.inl rfl)))))
                · replace h := ifF c16 h
                  replace c16 := eq_false_of_ne_true c16
                  refine TL.nil (X.seq ?_)
                  refine T.yes rfl (bn_t c16) ?_
                  refine T.seq (T.region rfl ?_)
                  refine TL.run ft_cursitorref11_ok [0] rfl rfl ?_
                  obtain rfl := Option.some.inj h
                  exact TL.nil (X.seq (T.ret (X.rs (X.done1 [1] Try.results13 (RV.tm rfl) ⟨rfl, rfl, rfl⟩ (by rfl) (.inl rfl)))))
              · replace h := ifF c15 h
                replace c15 := eq_false_of_ne_true c15
                refine TL.run ft_cursitorref11_ok [2] rfl rfl ?_
                refine TL.no rfl (.gn rfl rfl c15) rfl ?_
                refine TL.no rfl (.gn rfl rfl c15) rfl ?_
                refine TL.no rfl (.gn rfl rfl c15) rfl ?_
                refine TL.q rfl .u (Ex.pn rfl c15 rfl) rfl ?_
                refine TL.nil (X.seq ?_)
                refine T.no rfl rfl ?_
                refine T.skip (X.seq (T.seq (T.seq (T.region rfl ?_))))
                refine TL.q rfl .u (Ex.bS (us := [.int .i64 a0.fBase, .int .i64 a0.fLeader, .bool a0.fAppend, .bool a0.fTxn, .bool a0.fControl, .int .i64 a0.fLast, .int .i64 a0.fFirst, .int .i64 a0.fMax, .int .i64 a0.fProducer, .int .i64 a0.fEpoch, .int .i64 a0.fSequence, .slice A1 a0.fRecords.length c2]) 0 rfl Try.isAgg25 Try.sizeOf25 rfl rfl rfl) rfl ?_
                obtain ⟨x69, hx70, h⟩ := Option.bind_eq_some_iff.1 h
                refine TL.ce rfl .u (.fn Try.call34 rfl) (f_r11_producer_spec a0 _ _ _ hx70) (fun _ hs => (SrcE.old hs hX)) rfl ?_
                refine TL.run ft_cursitorref11_ok [2] rfl rfl ?_
                by_cases c71 : x69 = true
                · replace h := ifT c71 h
                  refine TL.nil (X.seq ?_)
                  refine T.no rfl (bn_f c71) ?_
                  refine T.skip (X.seq (T.seq (T.seq (T.region rfl ?_))))
                  refine TL.run ft_cursitorref11_ok [0] rfl rfl ?_
                  refine TL.q rfl .u (Ex.b1 0 rfl Try.isAgg4 rfl rfl) rfl ?_
                  refine TL.run ft_cursitorref11_ok [2] rfl rfl ?_
                  refine TL.no rfl (.gn rfl rfl c15) rfl ?_
                  refine TL.no rfl (.gn rfl rfl c15) rfl ?_
                  refine TL.no rfl (.gn rfl rfl c15) rfl ?_
                  refine TL.no rfl (.gn rfl rfl c15) rfl ?_
                  refine TL.q rfl .u (Ex.pn rfl c15 rfl) rfl ?_
                  refine TL.nil (X.seq ?_)
                  refine T.no rfl rfl ?_
                  refine T.skip (X.seq (T.seq (T.seq (T.region rfl ?_))))
                  refine TL.run ft_cursitorref11_ok [0] rfl rfl ?_
                  refine TL.nil (X.seq (T.block ?_))
                  obtain ⟨E74, hE75, hO76⟩ := Option.bind_eq_some_iff.1 h
                  refine T.lp (fun m e Rs => ∃ (y72 : Int) (k73 : Nat), e = [(1, .pointer (some ⟨b3, 0, none⟩)), (2, .int .i64 y72), (3, .int .i64 (k73 : Int))] ∧ Rs = [BlkR b3 25 #[.int .i64 a0.fBase, .int .i64 a0.fLeader, .bool a0.fAppend, .bool a0.fTxn, .bool a0.fControl, .int .i64 a0.fLast, .int .i64 a0.fFirst, .int .i64 a0.fMax, .int .i64 a0.fProducer, .int .i64 a0.fEpoch, .int .i64 a0.fSequence, .slice A1 a0.fRecords.length c2], EmpR] ∧ f_r11_Check_l2 a0 m y72 k73 = some E74) (((a0.fRecords.length : Int)).toNat + 1) [0, 0] ⟨0, 0, rfl, rfl, by exact hE75⟩ (by rfl) (by rfl) ?_
                  rintro m77 _ _ ⟨y72, k73, rfl, rfl, hl79⟩
                  clear hE75 h
                  cases m77 with
                  | zero =>
                    rw [f_r11_Check_l2] at hl79
                    cases hl79
                  | succ m77 =>
                    have h := hl79
                    clear hl79
                    rw [f_r11_Check_l2] at h
                    refine T.seq (T.seq (T.region rfl ?_))
                    refine TL.run ft_cursitorref11_ok [0, 1] rfl rfl ?_
                    refine TL.q rfl .u (Ex.b1 0 rfl Try.isAgg23 rfl rfl) rfl ?_
                    refine TL.q rfl .u (Ex.lenS rfl Try.runUnderlying23) rfl ?_
                    refine TL.run ft_cursitorref11_ok [4] rfl rfl ?_
                    by_cases c81 : (k73 : Int) < (a0.fRecords.length : Int)
                    · replace h := ifT c81 h
                      refine TL.nil (X.seq ?_)
                      refine T.yes rfl (decide_eq_true c81) ?_
                      refine T.skip (X.seq (T.seq (T.block (T.seq (T.region rfl ?_)))))
                      refine TL.run ft_cursitorref11_ok [0] rfl rfl ?_
                      refine TL.q rfl .u (Ex.b1 0 rfl Try.isAgg23 rfl rfl) rfl ?_
                      obtain ⟨x82, hx83, h⟩ := Option.bind_eq_some_iff.1 h
                      obtain ⟨gz84, oz84, rfl, z84cs, z84cl, z84cc, z84nf, z84r⟩ := RX.elem (by decide) hX hx83
                      obtain ⟨z84S, z84r, z84rr⟩ := z84r
                      obtain ⟨A85, c86, rfl, z84s0⟩ := z84r
                      have hX87 : (RX.of (sliceRd 3 Hd_rd) [.slice A85 x82.fHeaders.length c86] x82.fHeaders).reads w F := ⟨z84S, z84s0, z84rr⟩
                      refine TL.run ft_cursitorref11_ok [2] rfl rfl ?_
                      refine TL.q rfl .u (Ex.ixS (k := k73) rfl rfl rfl Try.runUnderlying23 Try.sizeOf33 (List.getElem?_eq_some_iff.1 hx83).1) rfl ?_
                      refine TL.q rfl .u (Ex.oS (us := [.int .i64 x82.fTime, .int .i64 x82.fOffset, .bool x82.fKey.null, .string (bsOf x82.fKey.data), .bool x82.fValue.null, .string (bsOf x82.fValue.data), .slice A85 x82.fHeaders.length c86]) 0 rfl Try.isAgg33 Try.sizeOf33 z84nf z84cc rfl rfl rfl) rfl ?_
                      obtain ⟨x88, hx89, h⟩ := Option.bind_eq_some_iff.1 h
                      refine TL.ce rfl .u (.fn Try.call35 rfl) (f_r07_Right_spec x82 _ _ _ hx89) (fun _ hs => (SrcE.old hs hX87)) rfl ?_
                      refine TL.run ft_cursitorref11_ok [6] rfl rfl ?_
                      refine TL.nil (X.seq (T.seq (T.region rfl ?_)))
                      refine TL.run ft_cursitorref11_ok [0, 1] rfl rfl ?_
                      by_cases c90 : x88 = 0
                      · replace h := ifT c90 h
                        refine TL.nil (X.seq ?_)
                        refine T.no rfl (bn_f (decide_eq_true c90)) ?_
                        refine T.skip (X.blk (X.seq (T.region rfl ?_)))
                        replace h := guard_some h
                        obtain ⟨c91, h⟩ := h
                        refine TL.run ft_cursitorref11_ok [0] rfl rfl ?_
                        refine TL.q rfl .u (Ex.add rfl rfl c91) rfl ?_
                        refine TL.run ft_cursitorref11_ok [2] rfl rfl ?_
                        exact TL.nil (X.back (m' := m77) [0, 0] (by omega) ⟨y72, k73 + 1, rfl, rfl, h⟩ (by rfl) (by rfl))
                      · replace h := ifF c90 h
                        refine TL.nil (X.seq ?_)
                        refine T.yes rfl (bn_t (decide_eq_false c90)) ?_
                        refine T.seq (T.region rfl ?_)
                        refine TL.run ft_cursitorref11_ok [0, 1] rfl rfl ?_
                        obtain rfl := Option.some.inj h
                        replace h := hO76
                        clear hO76
                        try dsimp only at h
                        obtain rfl := Option.some.inj h
                        exact TL.nil (X.seq (T.ret (X.rb (X.rs (X.rs (X.rb (X.rs (X.done1 [1] Try.results13 (RV.tm rfl) ⟨rfl, rfl, rfl⟩ (by rfl) (.inl rfl)))))))))
                    · replace h := ifF c81 h
                      refine TL.nil (X.seq ?_)
                      refine T.no rfl (decide_eq_false c81) ?_
                      obtain rfl := Option.some.inj h
                      replace h := hO76
                      clear hO76
                      try dsimp only at h
                      refine T.exit (X.exs (X.exs (X.ex (X.seq (T.seq (T.seq (T.region rfl ?_)))))))
                      refine TL.run ft_cursitorref11_ok [0] rfl rfl ?_
                      refine TL.q rfl .u (Ex.b1 0 rfl Try.isAgg4 rfl rfl) rfl ?_
                      refine TL.nil (X.seq ?_)
                      refine T.no rfl c15 ?_
                      refine T.skip (X.seq (T.seq (T.region rfl ?_)))
                      refine TL.q rfl .u (Ex.bS (us := [.int .i64 a0.fBase, .int .i64 a0.fLeader, .bool a0.fAppend, .bool a0.fTxn, .bool a0.fControl, .int .i64 a0.fLast, .int .i64 a0.fFirst, .int .i64 a0.fMax, .int .i64 a0.fProducer, .int .i64 a0.fEpoch, .int .i64 a0.fSequence, .slice A1 a0.fRecords.length c2]) 0 rfl Try.isAgg25 Try.sizeOf25 rfl rfl rfl) rfl ?_
                      obtain ⟨x92, hx93, h⟩ := Option.bind_eq_some_iff.1 h
                      refine TL.ce rfl .u (.fn Try.call37 rfl) (f_r11_orders_spec a0 _ _ _ hx93) (fun _ hs => (SrcE.old hs hX)) rfl ?_
                      refine TL.run ft_cursitorref11_ok [2] rfl rfl ?_
                      obtain rfl := Option.some.inj h
                      exact TL.nil (X.seq (T.ret (X.done1 [1] Try.results13 (RV.tm rfl) ⟨rfl, rfl, rfl⟩ (by rfl) (.inl rfl))))
                · replace h := ifF c71 h
                  replace c71 := eq_false_of_ne_true c71
                  refine TL.nil (X.seq ?_)
                  refine T.yes rfl (bn_t c71) ?_
                  refine T.seq (T.region rfl ?_)
                  refine TL.run ft_cursitorref11_ok [0] rfl rfl ?_
                  obtain rfl := Option.some.inj h
                  exact TL.nil (X.seq (T.ret (X.rs (X.done1 [1] Try.results13 (RV.tm rfl) ⟨rfl, rfl, rfl⟩ (by rfl) (.inl rfl)))))
      · replace h := ifF c10 h
        replace c10 := eq_false_of_ne_true c10
        refine TL.run ft_cursitorref11_ok [15] rfl rfl ?_
        refine TL.no rfl (.gn rfl rfl (bn_t c10)) rfl ?_
        refine TL.no rfl (.gn rfl rfl (bn_t c10)) rfl ?_
        refine TL.no rfl (.gn rfl rfl (bn_t c10)) rfl ?_
        refine TL.no rfl (.gn rfl rfl (bn_t c10)) rfl ?_
        refine TL.no rfl (.gn rfl rfl (bn_t c10)) rfl ?_
        refine TL.no rfl (.gn rfl rfl (bn_t c10)) rfl ?_
        refine TL.q rfl .u (Ex.py rfl (bn_t c10) rfl) rfl ?_
        refine TL.run ft_cursitorref11_ok [23] rfl rfl ?_
        refine TL.no rfl (.gn rfl rfl rfl) rfl ?_
        refine TL.no rfl (.gn rfl rfl rfl) rfl ?_
        refine TL.no rfl (.gn rfl rfl rfl) rfl ?_
        refine TL.q rfl .u (Ex.py rfl rfl rfl) rfl ?_
        refine TL.run ft_cursitorref11_ok [28] rfl rfl ?_
        refine TL.no rfl (.gn rfl rfl rfl) rfl ?_
        refine TL.no rfl (.gn rfl rfl rfl) rfl ?_
        refine TL.no rfl (.gn rfl rfl rfl) rfl ?_
        refine TL.q rfl .u (Ex.py rfl rfl rfl) rfl ?_
        refine TL.nil (X.seq ?_)
        refine T.yes rfl rfl ?_
        refine T.seq (T.region rfl ?_)
        refine TL.run ft_cursitorref11_ok [0] rfl rfl ?_
        obtain rfl := Option.some.inj h
        exact TL.nil (X.seq (T.ret (X.rs (X.done1 [1] Try.results13 (RV.tm rfl) ⟨rfl, rfl, rfl⟩ (by rfl) (.inl rfl)))))
    · replace h := ifF c7 h
      replace c7 := eq_false_of_ne_true c7
      refine TL.run ft_cursitorref11_ok [9] rfl rfl ?_
      refine TL.no rfl (.gn rfl rfl (bn_t c7)) rfl ?_
      refine TL.no rfl (.gn rfl rfl (bn_t c7)) rfl ?_
      refine TL.no rfl (.gn rfl rfl (bn_t c7)) rfl ?_
      refine TL.no rfl (.gn rfl rfl (bn_t c7)) rfl ?_
      refine TL.q rfl .u (Ex.py rfl (bn_t c7) rfl) rfl ?_
      refine TL.run ft_cursitorref11_ok [15] rfl rfl ?_
      refine TL.no rfl (.gn rfl rfl rfl) rfl ?_
      refine TL.no rfl (.gn rfl rfl rfl) rfl ?_
      refine TL.no rfl (.gn rfl rfl rfl) rfl ?_
      refine TL.no rfl (.gn rfl rfl rfl) rfl ?_
      refine TL.no rfl (.gn rfl rfl rfl) rfl ?_
      refine TL.no rfl (.gn rfl rfl rfl) rfl ?_
      refine TL.q rfl .u (Ex.py rfl rfl rfl) rfl ?_
      refine TL.run ft_cursitorref11_ok [23] rfl rfl ?_
      refine TL.no rfl (.gn rfl rfl rfl) rfl ?_
      refine TL.no rfl (.gn rfl rfl rfl) rfl ?_
      refine TL.no rfl (.gn rfl rfl rfl) rfl ?_
      refine TL.q rfl .u (Ex.py rfl rfl rfl) rfl ?_
      refine TL.run ft_cursitorref11_ok [28] rfl rfl ?_
      refine TL.no rfl (.gn rfl rfl rfl) rfl ?_
      refine TL.no rfl (.gn rfl rfl rfl) rfl ?_
      refine TL.no rfl (.gn rfl rfl rfl) rfl ?_
      refine TL.q rfl .u (Ex.py rfl rfl rfl) rfl ?_
      refine TL.nil (X.seq ?_)
      refine T.yes rfl rfl ?_
      refine T.seq (T.region rfl ?_)
      refine TL.run ft_cursitorref11_ok [0] rfl rfl ?_
      obtain rfl := Option.some.inj h
      exact TL.nil (X.seq (T.ret (X.rs (X.done1 [1] Try.results13 (RV.tm rfl) ⟨rfl, rfl, rfl⟩ (by rfl) (.inl rfl)))))
def f_r11_Same_l1 (a0 : Bat) (a1 : Bat) : Nat → Bool → Nat → Option (Lp Bool (Bool × Nat))
  | 0, _, _ => none
  | m38 + 1, y33, k34 => if (k34 : Int) < (a0.fRecords.length : Int) then ((a0.fRecords[k34]?).bind fun x43 => (a1.fRecords[k34]?).bind fun x49 => (f_r07_Same x43 x49).bind fun x55 => if x55 = true then (if -9223372036854775808 ≤ ((k34 : Int) + 1) ∧ ((k34 : Int) + 1) ≤ 9223372036854775807 then (f_r11_Same_l1 a0 a1 m38 y33 (k34 + 1)) else none) else some (Lp.ret false)) else (some (Lp.go (y33, k34)))
def f_r11_Same (a0 : Bat) (a1 : Bat) : Option (Bool) := (if a0.fBase = a1.fBase then (if a0.fLeader = a1.fLeader then (if (a0.fAppend == a1.fAppend) = true then (if (a0.fTxn == a1.fTxn) = true then (if (a0.fControl == a1.fControl) = true then (if a0.fLast = a1.fLast then (if a0.fFirst = a1.fFirst then (if a0.fMax = a1.fMax then (if a0.fProducer = a1.fProducer then (if a0.fEpoch = a1.fEpoch then (if a0.fSequence = a1.fSequence then (if (a0.fRecords.length : Int) = (a1.fRecords.length : Int) then some false else some true) else some true) else some true) else some true) else some true) else some true) else some true) else some true) else some true) else some true) else some true) else some true).bind fun y18 => if y18 = true then some false else ((f_r11_Same_l1 a0 a1 (((a0.fRecords.length : Int)).toNat + 1) false 0).bind fun e => match e with | .ret r => some r | .go (y59, k60) => some true)
set_option maxRecDepth 100000 in
set_option maxHeartbeats 4000000 in
theorem f_r11_Same_spec (a0 : Bat) (A1 : Option Addr) (c2 : Nat) (a1 : Bat) (A3 : Option Addr) (c4 : Nat) (r : Bool) (h : f_r11_Same a0 a1 = some r) : SpecX Try.prog 17 #[.agg #[.int .i64 a0.fBase, .int .i64 a0.fLeader, .bool a0.fAppend, .bool a0.fTxn, .bool a0.fControl, .int .i64 a0.fLast, .int .i64 a0.fFirst, .int .i64 a0.fMax, .int .i64 a0.fProducer, .int .i64 a0.fEpoch, .int .i64 a0.fSequence, .slice A1 a0.fRecords.length c2], .agg #[.int .i64 a1.fBase, .int .i64 a1.fLeader, .bool a1.fAppend, .bool a1.fTxn, .bool a1.fControl, .int .i64 a1.fLast, .int .i64 a1.fFirst, .int .i64 a1.fMax, .int .i64 a1.fProducer, .int .i64 a1.fEpoch, .int .i64 a1.fSequence, .slice A3 a1.fRecords.length c4]] (RX.and (RX.of (sliceRd 7 Rec_rd) [.slice A1 a0.fRecords.length c2] a0.fRecords) (RX.of (sliceRd 7 Rec_rd) [.slice A3 a1.fRecords.length c4] a1.fRecords)) (EmpR) (fun v A' N => v = .bool r ∧ A' = EmpR ∧ N = []) := by
  refine enterA Try.func17 rfl Try.ntmps17 rfl ?_
  intro F w hX
  unfold f_r11_Same at h
  refine T.seq (T.region rfl ?_)
  refine TL.box rfl .u rfl rfl (fun b5 => ?_)
  refine TL.box rfl .u rfl rfl (fun b6 => ?_)
  refine TL.run ft_cursitorref11_ok [2] rfl rfl ?_
  refine TL.nil (X.seq (T.seq (T.seq ?_)))
  obtain ⟨y18, h, hk19⟩ := Option.bind_eq_some_iff.1 h
  refine T.jq (fun e Rs => e = [(2, .pointer (some ⟨b5, 0, none⟩)), (3, .pointer (some ⟨b6, 0, none⟩)), (4, .bool false), (89, .bool y18)] ∧ Rs = [BlkR b6 25 #[.int .i64 a1.fBase, .int .i64 a1.fLeader, .bool a1.fAppend, .bool a1.fTxn, .bool a1.fControl, .int .i64 a1.fLast, .int .i64 a1.fFirst, .int .i64 a1.fMax, .int .i64 a1.fProducer, .int .i64 a1.fEpoch, .int .i64 a1.fSequence, .slice A3 a1.fRecords.length c4], BlkR b5 25 #[.int .i64 a0.fBase, .int .i64 a0.fLeader, .bool a0.fAppend, .bool a0.fTxn, .bool a0.fControl, .int .i64 a0.fLast, .int .i64 a0.fFirst, .int .i64 a0.fMax, .int .i64 a0.fProducer, .int .i64 a0.fEpoch, .int .i64 a0.fSequence, .slice A1 a0.fRecords.length c2], EmpR]) ?_ ?_
  · clear hk19
    refine T.region rfl ?_
    refine TL.run ft_cursitorref11_ok [0] rfl rfl ?_
    refine TL.q rfl .u (Ex.b1 1 rfl Try.isAgg3 rfl rfl) rfl ?_
    refine TL.run ft_cursitorref11_ok [2] rfl rfl ?_
    refine TL.q rfl .u (Ex.b1 0 rfl Try.isAgg3 rfl rfl) rfl ?_
    by_cases c20 : a0.fBase = a1.fBase
    · replace h := ifT c20 h
      refine TL.run ft_cursitorref11_ok [4, 5] rfl rfl ?_
      refine TL.q rfl (.g rfl rfl (bn_f (decide_eq_true c20))) (Ex.ft ft_cursitorref11_ok rfl) rfl ?_
      refine TL.q rfl (.g rfl rfl (bn_f (decide_eq_true c20))) (Ex.b1 1 rfl Try.isAgg3 rfl rfl) rfl ?_
      refine TL.q rfl (.g rfl rfl (bn_f (decide_eq_true c20))) (Ex.ft ft_cursitorref11_ok rfl) rfl ?_
      refine TL.q rfl (.g rfl rfl (bn_f (decide_eq_true c20))) (Ex.b1 0 rfl Try.isAgg3 rfl rfl) rfl ?_
      refine TL.q rfl (.g rfl rfl (bn_f (decide_eq_true c20))) (Ex.ft ft_cursitorref11_ok rfl) rfl ?_
      refine TL.q rfl .u (Ex.pn rfl (bn_f (decide_eq_true c20)) rfl) rfl ?_
      by_cases c21 : a0.fLeader = a1.fLeader
      · replace h := ifT c21 h
        refine TL.run ft_cursitorref11_ok [12] rfl rfl ?_
        refine TL.q rfl (.g rfl rfl (bn_f (decide_eq_true c21))) (Ex.ft ft_cursitorref11_ok rfl) rfl ?_
        refine TL.q rfl (.g rfl rfl (bn_f (decide_eq_true c21))) (Ex.b1 1 rfl Try.isAgg4 rfl rfl) rfl ?_
        refine TL.q rfl (.g rfl rfl (bn_f (decide_eq_true c21))) (Ex.ft ft_cursitorref11_ok rfl) rfl ?_
        refine TL.q rfl (.g rfl rfl (bn_f (decide_eq_true c21))) (Ex.b1 0 rfl Try.isAgg4 rfl rfl) rfl ?_
        refine TL.q rfl (.g rfl rfl (bn_f (decide_eq_true c21))) (Ex.bNe rfl rfl rfl rfl Try.runUnderlying4) rfl ?_
        refine TL.q rfl .u (Ex.pn rfl (bn_f (decide_eq_true c21)) rfl) rfl ?_
        by_cases c22 : (a0.fAppend == a1.fAppend) = true
        · replace h := ifT c22 h
          refine TL.run ft_cursitorref11_ok [19] rfl rfl ?_
          refine TL.q rfl (.g rfl rfl (bn_f c22)) (Ex.ft ft_cursitorref11_ok rfl) rfl ?_
          refine TL.q rfl (.g rfl rfl (bn_f c22)) (Ex.b1 1 rfl Try.isAgg4 rfl rfl) rfl ?_
          refine TL.q rfl (.g rfl rfl (bn_f c22)) (Ex.ft ft_cursitorref11_ok rfl) rfl ?_
          refine TL.q rfl (.g rfl rfl (bn_f c22)) (Ex.b1 0 rfl Try.isAgg4 rfl rfl) rfl ?_
          refine TL.q rfl (.g rfl rfl (bn_f c22)) (Ex.bNe rfl rfl rfl rfl Try.runUnderlying4) rfl ?_
          refine TL.q rfl .u (Ex.pn rfl (bn_f c22) rfl) rfl ?_
          by_cases c23 : (a0.fTxn == a1.fTxn) = true
          · replace h := ifT c23 h
            refine TL.run ft_cursitorref11_ok [26] rfl rfl ?_
            refine TL.q rfl (.g rfl rfl (bn_f c23)) (Ex.ft ft_cursitorref11_ok rfl) rfl ?_
            refine TL.q rfl (.g rfl rfl (bn_f c23)) (Ex.b1 1 rfl Try.isAgg4 rfl rfl) rfl ?_
            refine TL.q rfl (.g rfl rfl (bn_f c23)) (Ex.ft ft_cursitorref11_ok rfl) rfl ?_
            refine TL.q rfl (.g rfl rfl (bn_f c23)) (Ex.b1 0 rfl Try.isAgg4 rfl rfl) rfl ?_
            refine TL.q rfl (.g rfl rfl (bn_f c23)) (Ex.bNe rfl rfl rfl rfl Try.runUnderlying4) rfl ?_
            refine TL.q rfl .u (Ex.pn rfl (bn_f c23) rfl) rfl ?_
            by_cases c24 : (a0.fControl == a1.fControl) = true
            · replace h := ifT c24 h
              refine TL.run ft_cursitorref11_ok [33] rfl rfl ?_
              refine TL.q rfl (.g rfl rfl (bn_f c24)) (Ex.ft ft_cursitorref11_ok rfl) rfl ?_
              refine TL.q rfl (.g rfl rfl (bn_f c24)) (Ex.b1 1 rfl Try.isAgg3 rfl rfl) rfl ?_
              refine TL.q rfl (.g rfl rfl (bn_f c24)) (Ex.ft ft_cursitorref11_ok rfl) rfl ?_
              refine TL.q rfl (.g rfl rfl (bn_f c24)) (Ex.b1 0 rfl Try.isAgg3 rfl rfl) rfl ?_
              refine TL.q rfl (.g rfl rfl (bn_f c24)) (Ex.ft ft_cursitorref11_ok rfl) rfl ?_
              refine TL.q rfl .u (Ex.pn rfl (bn_f c24) rfl) rfl ?_
              by_cases c25 : a0.fLast = a1.fLast
              · replace h := ifT c25 h
                refine TL.run ft_cursitorref11_ok [40] rfl rfl ?_
                refine TL.q rfl (.g rfl rfl (bn_f (decide_eq_true c25))) (Ex.ft ft_cursitorref11_ok rfl) rfl ?_
                refine TL.q rfl (.g rfl rfl (bn_f (decide_eq_true c25))) (Ex.b1 1 rfl Try.isAgg3 rfl rfl) rfl ?_
                refine TL.q rfl (.g rfl rfl (bn_f (decide_eq_true c25))) (Ex.ft ft_cursitorref11_ok rfl) rfl ?_
                refine TL.q rfl (.g rfl rfl (bn_f (decide_eq_true c25))) (Ex.b1 0 rfl Try.isAgg3 rfl rfl) rfl ?_
                refine TL.q rfl (.g rfl rfl (bn_f (decide_eq_true c25))) (Ex.ft ft_cursitorref11_ok rfl) rfl ?_
                refine TL.q rfl .u (Ex.pn rfl (bn_f (decide_eq_true c25)) rfl) rfl ?_
                by_cases c26 : a0.fFirst = a1.fFirst
                · replace h := ifT c26 h
                  refine TL.run ft_cursitorref11_ok [47] rfl rfl ?_
                  refine TL.q rfl (.g rfl rfl (bn_f (decide_eq_true c26))) (Ex.ft ft_cursitorref11_ok rfl) rfl ?_
                  refine TL.q rfl (.g rfl rfl (bn_f (decide_eq_true c26))) (Ex.b1 1 rfl Try.isAgg3 rfl rfl) rfl ?_
                  refine TL.q rfl (.g rfl rfl (bn_f (decide_eq_true c26))) (Ex.ft ft_cursitorref11_ok rfl) rfl ?_
                  refine TL.q rfl (.g rfl rfl (bn_f (decide_eq_true c26))) (Ex.b1 0 rfl Try.isAgg3 rfl rfl) rfl ?_
                  refine TL.q rfl (.g rfl rfl (bn_f (decide_eq_true c26))) (Ex.ft ft_cursitorref11_ok rfl) rfl ?_
                  refine TL.q rfl .u (Ex.pn rfl (bn_f (decide_eq_true c26)) rfl) rfl ?_
                  by_cases c27 : a0.fMax = a1.fMax
                  · replace h := ifT c27 h
                    refine TL.run ft_cursitorref11_ok [54] rfl rfl ?_
                    refine TL.q rfl (.g rfl rfl (bn_f (decide_eq_true c27))) (Ex.ft ft_cursitorref11_ok rfl) rfl ?_
                    refine TL.q rfl (.g rfl rfl (bn_f (decide_eq_true c27))) (Ex.b1 1 rfl Try.isAgg3 rfl rfl) rfl ?_
                    refine TL.q rfl (.g rfl rfl (bn_f (decide_eq_true c27))) (Ex.ft ft_cursitorref11_ok rfl) rfl ?_
                    refine TL.q rfl (.g rfl rfl (bn_f (decide_eq_true c27))) (Ex.b1 0 rfl Try.isAgg3 rfl rfl) rfl ?_
                    refine TL.q rfl (.g rfl rfl (bn_f (decide_eq_true c27))) (Ex.ft ft_cursitorref11_ok rfl) rfl ?_
                    refine TL.q rfl .u (Ex.pn rfl (bn_f (decide_eq_true c27)) rfl) rfl ?_
                    by_cases c28 : a0.fProducer = a1.fProducer
                    · replace h := ifT c28 h
                      refine TL.run ft_cursitorref11_ok [61] rfl rfl ?_
                      refine TL.q rfl (.g rfl rfl (bn_f (decide_eq_true c28))) (Ex.ft ft_cursitorref11_ok rfl) rfl ?_
                      refine TL.q rfl (.g rfl rfl (bn_f (decide_eq_true c28))) (Ex.b1 1 rfl Try.isAgg3 rfl rfl) rfl ?_
                      refine TL.q rfl (.g rfl rfl (bn_f (decide_eq_true c28))) (Ex.ft ft_cursitorref11_ok rfl) rfl ?_
                      refine TL.q rfl (.g rfl rfl (bn_f (decide_eq_true c28))) (Ex.b1 0 rfl Try.isAgg3 rfl rfl) rfl ?_
                      refine TL.q rfl (.g rfl rfl (bn_f (decide_eq_true c28))) (Ex.ft ft_cursitorref11_ok rfl) rfl ?_
                      refine TL.q rfl .u (Ex.pn rfl (bn_f (decide_eq_true c28)) rfl) rfl ?_
                      by_cases c29 : a0.fEpoch = a1.fEpoch
                      · replace h := ifT c29 h
                        refine TL.run ft_cursitorref11_ok [68] rfl rfl ?_
                        refine TL.q rfl (.g rfl rfl (bn_f (decide_eq_true c29))) (Ex.ft ft_cursitorref11_ok rfl) rfl ?_
                        refine TL.q rfl (.g rfl rfl (bn_f (decide_eq_true c29))) (Ex.b1 1 rfl Try.isAgg3 rfl rfl) rfl ?_
                        refine TL.q rfl (.g rfl rfl (bn_f (decide_eq_true c29))) (Ex.ft ft_cursitorref11_ok rfl) rfl ?_
                        refine TL.q rfl (.g rfl rfl (bn_f (decide_eq_true c29))) (Ex.b1 0 rfl Try.isAgg3 rfl rfl) rfl ?_
                        refine TL.q rfl (.g rfl rfl (bn_f (decide_eq_true c29))) (Ex.ft ft_cursitorref11_ok rfl) rfl ?_
                        refine TL.q rfl .u (Ex.pn rfl (bn_f (decide_eq_true c29)) rfl) rfl ?_
                        by_cases c30 : a0.fSequence = a1.fSequence
                        · replace h := ifT c30 h
                          refine TL.run ft_cursitorref11_ok [75] rfl rfl ?_
                          refine TL.q rfl (.g rfl rfl (bn_f (decide_eq_true c30))) (Ex.ft ft_cursitorref11_ok rfl) rfl ?_
                          refine TL.q rfl (.g rfl rfl (bn_f (decide_eq_true c30))) (Ex.b1 1 rfl Try.isAgg23 rfl rfl) rfl ?_
                          refine TL.q rfl (.g rfl rfl (bn_f (decide_eq_true c30))) (Ex.lenS rfl Try.runUnderlying23) rfl ?_
                          refine TL.q rfl (.g rfl rfl (bn_f (decide_eq_true c30))) (Ex.ft ft_cursitorref11_ok rfl) rfl ?_
                          refine TL.q rfl (.g rfl rfl (bn_f (decide_eq_true c30))) (Ex.b1 0 rfl Try.isAgg23 rfl rfl) rfl ?_
                          refine TL.q rfl (.g rfl rfl (bn_f (decide_eq_true c30))) (Ex.lenS rfl Try.runUnderlying23) rfl ?_
                          refine TL.q rfl (.g rfl rfl (bn_f (decide_eq_true c30))) (Ex.ft ft_cursitorref11_ok rfl) rfl ?_
                          refine TL.q rfl .u (Ex.pn rfl (bn_f (decide_eq_true c30)) rfl) rfl ?_
                          by_cases c31 : (a0.fRecords.length : Int) = (a1.fRecords.length : Int)
                          · replace h := ifT c31 h
                            cases h
                            exact TL.nil (X.as (d := 89) (v' := .bool false) rfl (congrArg Value.bool (bn_f (decide_eq_true c31))) (X.jq [0, 0, 0] ⟨rfl, rfl⟩ (by rfl) (by rfl)))
                          · replace h := ifF c31 h
                            cases h
                            exact TL.nil (X.as (d := 89) (v' := .bool true) rfl (congrArg Value.bool (bn_t (decide_eq_false c31))) (X.jq [0, 0, 0] ⟨rfl, rfl⟩ (by rfl) (by rfl)))
                        · replace h := ifF c30 h
                          refine TL.run ft_cursitorref11_ok [75] rfl rfl ?_
                          refine TL.no rfl (.gn rfl rfl (bn_t (decide_eq_false c30))) rfl ?_
                          refine TL.no rfl (.gn rfl rfl (bn_t (decide_eq_false c30))) rfl ?_
                          refine TL.no rfl (.gn rfl rfl (bn_t (decide_eq_false c30))) rfl ?_
                          refine TL.no rfl (.gn rfl rfl (bn_t (decide_eq_false c30))) rfl ?_
                          refine TL.no rfl (.gn rfl rfl (bn_t (decide_eq_false c30))) rfl ?_
                          refine TL.no rfl (.gn rfl rfl (bn_t (decide_eq_false c30))) rfl ?_
                          refine TL.no rfl (.gn rfl rfl (bn_t (decide_eq_false c30))) rfl ?_
                          refine TL.q rfl .u (Ex.py rfl (bn_t (decide_eq_false c30)) rfl) rfl ?_
                          cases h
                          exact TL.nil (X.jq [0, 0, 0] ⟨rfl, rfl⟩ (by rfl) (by rfl))
                      · replace h := ifF c29 h
                        refine TL.run ft_cursitorref11_ok [68] rfl rfl ?_
                        refine TL.no rfl (.gn rfl rfl (bn_t (decide_eq_false c29))) rfl ?_
                        refine TL.no rfl (.gn rfl rfl (bn_t (decide_eq_false c29))) rfl ?_
                        refine TL.no rfl (.gn rfl rfl (bn_t (decide_eq_false c29))) rfl ?_
                        refine TL.no rfl (.gn rfl rfl (bn_t (decide_eq_false c29))) rfl ?_
                        refine TL.no rfl (.gn rfl rfl (bn_t (decide_eq_false c29))) rfl ?_
                        refine TL.q rfl .u (Ex.py rfl (bn_t (decide_eq_false c29)) rfl) rfl ?_
                        refine TL.run ft_cursitorref11_ok [75] rfl rfl ?_
                        refine TL.no rfl (.gn rfl rfl rfl) rfl ?_
                        refine TL.no rfl (.gn rfl rfl rfl) rfl ?_
                        refine TL.no rfl (.gn rfl rfl rfl) rfl ?_
                        refine TL.no rfl (.gn rfl rfl rfl) rfl ?_
                        refine TL.no rfl (.gn rfl rfl rfl) rfl ?_
                        refine TL.no rfl (.gn rfl rfl rfl) rfl ?_
                        refine TL.no rfl (.gn rfl rfl rfl) rfl ?_
                        refine TL.q rfl .u (Ex.py rfl rfl rfl) rfl ?_
                        cases h
                        exact TL.nil (X.jq [0, 0, 0] ⟨rfl, rfl⟩ (by rfl) (by rfl))
                    · replace h := ifF c28 h
                      refine TL.run ft_cursitorref11_ok [61] rfl rfl ?_
                      refine TL.no rfl (.gn rfl rfl (bn_t (decide_eq_false c28))) rfl ?_
                      refine TL.no rfl (.gn rfl rfl (bn_t (decide_eq_false c28))) rfl ?_
                      refine TL.no rfl (.gn rfl rfl (bn_t (decide_eq_false c28))) rfl ?_
                      refine TL.no rfl (.gn rfl rfl (bn_t (decide_eq_false c28))) rfl ?_
                      refine TL.no rfl (.gn rfl rfl (bn_t (decide_eq_false c28))) rfl ?_
                      refine TL.q rfl .u (Ex.py rfl (bn_t (decide_eq_false c28)) rfl) rfl ?_
                      refine TL.run ft_cursitorref11_ok [68] rfl rfl ?_
                      refine TL.no rfl (.gn rfl rfl rfl) rfl ?_
                      refine TL.no rfl (.gn rfl rfl rfl) rfl ?_
                      refine TL.no rfl (.gn rfl rfl rfl) rfl ?_
                      refine TL.no rfl (.gn rfl rfl rfl) rfl ?_
                      refine TL.no rfl (.gn rfl rfl rfl) rfl ?_
                      refine TL.q rfl .u (Ex.py rfl rfl rfl) rfl ?_
                      refine TL.run ft_cursitorref11_ok [75] rfl rfl ?_
                      refine TL.no rfl (.gn rfl rfl rfl) rfl ?_
                      refine TL.no rfl (.gn rfl rfl rfl) rfl ?_
                      refine TL.no rfl (.gn rfl rfl rfl) rfl ?_
                      refine TL.no rfl (.gn rfl rfl rfl) rfl ?_
                      refine TL.no rfl (.gn rfl rfl rfl) rfl ?_
                      refine TL.no rfl (.gn rfl rfl rfl) rfl ?_
                      refine TL.no rfl (.gn rfl rfl rfl) rfl ?_
                      refine TL.q rfl .u (Ex.py rfl rfl rfl) rfl ?_
                      cases h
                      exact TL.nil (X.jq [0, 0, 0] ⟨rfl, rfl⟩ (by rfl) (by rfl))
                  · replace h := ifF c27 h
                    refine TL.run ft_cursitorref11_ok [54] rfl rfl ?_
                    refine TL.no rfl (.gn rfl rfl (bn_t (decide_eq_false c27))) rfl ?_
                    refine TL.no rfl (.gn rfl rfl (bn_t (decide_eq_false c27))) rfl ?_
                    refine TL.no rfl (.gn rfl rfl (bn_t (decide_eq_false c27))) rfl ?_
                    refine TL.no rfl (.gn rfl rfl (bn_t (decide_eq_false c27))) rfl ?_
                    refine TL.no rfl (.gn rfl rfl (bn_t (decide_eq_false c27))) rfl ?_
                    refine TL.q rfl .u (Ex.py rfl (bn_t (decide_eq_false c27)) rfl) rfl ?_
                    refine TL.run ft_cursitorref11_ok [61] rfl rfl ?_
                    refine TL.no rfl (.gn rfl rfl rfl) rfl ?_
                    refine TL.no rfl (.gn rfl rfl rfl) rfl ?_
                    refine TL.no rfl (.gn rfl rfl rfl) rfl ?_
                    refine TL.no rfl (.gn rfl rfl rfl) rfl ?_
                    refine TL.no rfl (.gn rfl rfl rfl) rfl ?_
                    refine TL.q rfl .u (Ex.py rfl rfl rfl) rfl ?_
                    refine TL.run ft_cursitorref11_ok [68] rfl rfl ?_
                    refine TL.no rfl (.gn rfl rfl rfl) rfl ?_
                    refine TL.no rfl (.gn rfl rfl rfl) rfl ?_
                    refine TL.no rfl (.gn rfl rfl rfl) rfl ?_
                    refine TL.no rfl (.gn rfl rfl rfl) rfl ?_
                    refine TL.no rfl (.gn rfl rfl rfl) rfl ?_
                    refine TL.q rfl .u (Ex.py rfl rfl rfl) rfl ?_
                    refine TL.run ft_cursitorref11_ok [75] rfl rfl ?_
                    refine TL.no rfl (.gn rfl rfl rfl) rfl ?_
                    refine TL.no rfl (.gn rfl rfl rfl) rfl ?_
                    refine TL.no rfl (.gn rfl rfl rfl) rfl ?_
                    refine TL.no rfl (.gn rfl rfl rfl) rfl ?_
                    refine TL.no rfl (.gn rfl rfl rfl) rfl ?_
                    refine TL.no rfl (.gn rfl rfl rfl) rfl ?_
                    refine TL.no rfl (.gn rfl rfl rfl) rfl ?_
                    refine TL.q rfl .u (Ex.py rfl rfl rfl) rfl ?_
                    cases h
                    exact TL.nil (X.jq [0, 0, 0] ⟨rfl, rfl⟩ (by rfl) (by rfl))
                · replace h := ifF c26 h
                  refine TL.run ft_cursitorref11_ok [47] rfl rfl ?_
                  refine TL.no rfl (.gn rfl rfl (bn_t (decide_eq_false c26))) rfl ?_
                  refine TL.no rfl (.gn rfl rfl (bn_t (decide_eq_false c26))) rfl ?_
                  refine TL.no rfl (.gn rfl rfl (bn_t (decide_eq_false c26))) rfl ?_
                  refine TL.no rfl (.gn rfl rfl (bn_t (decide_eq_false c26))) rfl ?_
                  refine TL.no rfl (.gn rfl rfl (bn_t (decide_eq_false c26))) rfl ?_
                  refine TL.q rfl .u (Ex.py rfl (bn_t (decide_eq_false c26)) rfl) rfl ?_
                  refine TL.run ft_cursitorref11_ok [54] rfl rfl ?_
                  refine TL.no rfl (.gn rfl rfl rfl) rfl ?_
                  refine TL.no rfl (.gn rfl rfl rfl) rfl ?_
                  refine TL.no rfl (.gn rfl rfl rfl) rfl ?_
                  refine TL.no rfl (.gn rfl rfl rfl) rfl ?_
                  refine TL.no rfl (.gn rfl rfl rfl) rfl ?_
                  refine TL.q rfl .u (Ex.py rfl rfl rfl) rfl ?_
                  refine TL.run ft_cursitorref11_ok [61] rfl rfl ?_
                  refine TL.no rfl (.gn rfl rfl rfl) rfl ?_
                  refine TL.no rfl (.gn rfl rfl rfl) rfl ?_
                  refine TL.no rfl (.gn rfl rfl rfl) rfl ?_
                  refine TL.no rfl (.gn rfl rfl rfl) rfl ?_
                  refine TL.no rfl (.gn rfl rfl rfl) rfl ?_
                  refine TL.q rfl .u (Ex.py rfl rfl rfl) rfl ?_
                  refine TL.run ft_cursitorref11_ok [68] rfl rfl ?_
                  refine TL.no rfl (.gn rfl rfl rfl) rfl ?_
                  refine TL.no rfl (.gn rfl rfl rfl) rfl ?_
                  refine TL.no rfl (.gn rfl rfl rfl) rfl ?_
                  refine TL.no rfl (.gn rfl rfl rfl) rfl ?_
                  refine TL.no rfl (.gn rfl rfl rfl) rfl ?_
                  refine TL.q rfl .u (Ex.py rfl rfl rfl) rfl ?_
                  refine TL.run ft_cursitorref11_ok [75] rfl rfl ?_
                  refine TL.no rfl (.gn rfl rfl rfl) rfl ?_
                  refine TL.no rfl (.gn rfl rfl rfl) rfl ?_
                  refine TL.no rfl (.gn rfl rfl rfl) rfl ?_
                  refine TL.no rfl (.gn rfl rfl rfl) rfl ?_
                  refine TL.no rfl (.gn rfl rfl rfl) rfl ?_
                  refine TL.no rfl (.gn rfl rfl rfl) rfl ?_
                  refine TL.no rfl (.gn rfl rfl rfl) rfl ?_
                  refine TL.q rfl .u (Ex.py rfl rfl rfl) rfl ?_
                  cases h
                  exact TL.nil (X.jq [0, 0, 0] ⟨rfl, rfl⟩ (by rfl) (by rfl))
              · replace h := ifF c25 h
                refine TL.run ft_cursitorref11_ok [40] rfl rfl ?_
                refine TL.no rfl (.gn rfl rfl (bn_t (decide_eq_false c25))) rfl ?_
                refine TL.no rfl (.gn rfl rfl (bn_t (decide_eq_false c25))) rfl ?_
                refine TL.no rfl (.gn rfl rfl (bn_t (decide_eq_false c25))) rfl ?_
                refine TL.no rfl (.gn rfl rfl (bn_t (decide_eq_false c25))) rfl ?_
                refine TL.no rfl (.gn rfl rfl (bn_t (decide_eq_false c25))) rfl ?_
                refine TL.q rfl .u (Ex.py rfl (bn_t (decide_eq_false c25)) rfl) rfl ?_
                refine TL.run ft_cursitorref11_ok [47] rfl rfl ?_
                refine TL.no rfl (.gn rfl rfl rfl) rfl ?_
                refine TL.no rfl (.gn rfl rfl rfl) rfl ?_
                refine TL.no rfl (.gn rfl rfl rfl) rfl ?_
                refine TL.no rfl (.gn rfl rfl rfl) rfl ?_
                refine TL.no rfl (.gn rfl rfl rfl) rfl ?_
                refine TL.q rfl .u (Ex.py rfl rfl rfl) rfl ?_
                refine TL.run ft_cursitorref11_ok [54] rfl rfl ?_
                refine TL.no rfl (.gn rfl rfl rfl) rfl ?_
                refine TL.no rfl (.gn rfl rfl rfl) rfl ?_
                refine TL.no rfl (.gn rfl rfl rfl) rfl ?_
                refine TL.no rfl (.gn rfl rfl rfl) rfl ?_
                refine TL.no rfl (.gn rfl rfl rfl) rfl ?_
                refine TL.q rfl .u (Ex.py rfl rfl rfl) rfl ?_
                refine TL.run ft_cursitorref11_ok [61] rfl rfl ?_
                refine TL.no rfl (.gn rfl rfl rfl) rfl ?_
                refine TL.no rfl (.gn rfl rfl rfl) rfl ?_
                refine TL.no rfl (.gn rfl rfl rfl) rfl ?_
                refine TL.no rfl (.gn rfl rfl rfl) rfl ?_
                refine TL.no rfl (.gn rfl rfl rfl) rfl ?_
                refine TL.q rfl .u (Ex.py rfl rfl rfl) rfl ?_
                refine TL.run ft_cursitorref11_ok [68] rfl rfl ?_
                refine TL.no rfl (.gn rfl rfl rfl) rfl ?_
                refine TL.no rfl (.gn rfl rfl rfl) rfl ?_
                refine TL.no rfl (.gn rfl rfl rfl) rfl ?_
                refine TL.no rfl (.gn rfl rfl rfl) rfl ?_
                refine TL.no rfl (.gn rfl rfl rfl) rfl ?_
                refine TL.q rfl .u (Ex.py rfl rfl rfl) rfl ?_
                refine TL.run ft_cursitorref11_ok [75] rfl rfl ?_
                refine TL.no rfl (.gn rfl rfl rfl) rfl ?_
                refine TL.no rfl (.gn rfl rfl rfl) rfl ?_
                refine TL.no rfl (.gn rfl rfl rfl) rfl ?_
                refine TL.no rfl (.gn rfl rfl rfl) rfl ?_
                refine TL.no rfl (.gn rfl rfl rfl) rfl ?_
                refine TL.no rfl (.gn rfl rfl rfl) rfl ?_
                refine TL.no rfl (.gn rfl rfl rfl) rfl ?_
                refine TL.q rfl .u (Ex.py rfl rfl rfl) rfl ?_
                cases h
                exact TL.nil (X.jq [0, 0, 0] ⟨rfl, rfl⟩ (by rfl) (by rfl))
            · replace h := ifF c24 h
              replace c24 := eq_false_of_ne_true c24
              refine TL.run ft_cursitorref11_ok [33] rfl rfl ?_
              refine TL.no rfl (.gn rfl rfl (bn_t c24)) rfl ?_
              refine TL.no rfl (.gn rfl rfl (bn_t c24)) rfl ?_
              refine TL.no rfl (.gn rfl rfl (bn_t c24)) rfl ?_
              refine TL.no rfl (.gn rfl rfl (bn_t c24)) rfl ?_
              refine TL.no rfl (.gn rfl rfl (bn_t c24)) rfl ?_
              refine TL.q rfl .u (Ex.py rfl (bn_t c24) rfl) rfl ?_
              refine TL.run ft_cursitorref11_ok [40] rfl rfl ?_
              refine TL.no rfl (.gn rfl rfl rfl) rfl ?_
              refine TL.no rfl (.gn rfl rfl rfl) rfl ?_
              refine TL.no rfl (.gn rfl rfl rfl) rfl ?_
              refine TL.no rfl (.gn rfl rfl rfl) rfl ?_
              refine TL.no rfl (.gn rfl rfl rfl) rfl ?_
              refine TL.q rfl .u (Ex.py rfl rfl rfl) rfl ?_
              refine TL.run ft_cursitorref11_ok [47] rfl rfl ?_
              refine TL.no rfl (.gn rfl rfl rfl) rfl ?_
              refine TL.no rfl (.gn rfl rfl rfl) rfl ?_
              refine TL.no rfl (.gn rfl rfl rfl) rfl ?_
              refine TL.no rfl (.gn rfl rfl rfl) rfl ?_
              refine TL.no rfl (.gn rfl rfl rfl) rfl ?_
              refine TL.q rfl .u (Ex.py rfl rfl rfl) rfl ?_
              refine TL.run ft_cursitorref11_ok [54] rfl rfl ?_
              refine TL.no rfl (.gn rfl rfl rfl) rfl ?_
              refine TL.no rfl (.gn rfl rfl rfl) rfl ?_
              refine TL.no rfl (.gn rfl rfl rfl) rfl ?_
              refine TL.no rfl (.gn rfl rfl rfl) rfl ?_
              refine TL.no rfl (.gn rfl rfl rfl) rfl ?_
              refine TL.q rfl .u (Ex.py rfl rfl rfl) rfl ?_
              refine TL.run ft_cursitorref11_ok [61] rfl rfl ?_
              refine TL.no rfl (.gn rfl rfl rfl) rfl ?_
              refine TL.no rfl (.gn rfl rfl rfl) rfl ?_
              refine TL.no rfl (.gn rfl rfl rfl) rfl ?_
              refine TL.no rfl (.gn rfl rfl rfl) rfl ?_
              refine TL.no rfl (.gn rfl rfl rfl) rfl ?_
              refine TL.q rfl .u (Ex.py rfl rfl rfl) rfl ?_
              refine TL.run ft_cursitorref11_ok [68] rfl rfl ?_
              refine TL.no rfl (.gn rfl rfl rfl) rfl ?_
              refine TL.no rfl (.gn rfl rfl rfl) rfl ?_
              refine TL.no rfl (.gn rfl rfl rfl) rfl ?_
              refine TL.no rfl (.gn rfl rfl rfl) rfl ?_
              refine TL.no rfl (.gn rfl rfl rfl) rfl ?_
              refine TL.q rfl .u (Ex.py rfl rfl rfl) rfl ?_
              refine TL.run ft_cursitorref11_ok [75] rfl rfl ?_
              refine TL.no rfl (.gn rfl rfl rfl) rfl ?_
              refine TL.no rfl (.gn rfl rfl rfl) rfl ?_
              refine TL.no rfl (.gn rfl rfl rfl) rfl ?_
              refine TL.no rfl (.gn rfl rfl rfl) rfl ?_
              refine TL.no rfl (.gn rfl rfl rfl) rfl ?_
              refine TL.no rfl (.gn rfl rfl rfl) rfl ?_
              refine TL.no rfl (.gn rfl rfl rfl) rfl ?_
              refine TL.q rfl .u (Ex.py rfl rfl rfl) rfl ?_
              cases h
              exact TL.nil (X.jq [0, 0, 0] ⟨rfl, rfl⟩ (by rfl) (by rfl))
          · replace h := ifF c23 h
            replace c23 := eq_false_of_ne_true c23
            refine TL.run ft_cursitorref11_ok [26] rfl rfl ?_
            refine TL.no rfl (.gn rfl rfl (bn_t c23)) rfl ?_
            refine TL.no rfl (.gn rfl rfl (bn_t c23)) rfl ?_
            refine TL.no rfl (.gn rfl rfl (bn_t c23)) rfl ?_
            refine TL.no rfl (.gn rfl rfl (bn_t c23)) rfl ?_
            refine TL.no rfl (.gn rfl rfl (bn_t c23)) rfl ?_
            refine TL.q rfl .u (Ex.py rfl (bn_t c23) rfl) rfl ?_
            refine TL.run ft_cursitorref11_ok [33] rfl rfl ?_
            refine TL.no rfl (.gn rfl rfl rfl) rfl ?_
            refine TL.no rfl (.gn rfl rfl rfl) rfl ?_
            refine TL.no rfl (.gn rfl rfl rfl) rfl ?_
            refine TL.no rfl (.gn rfl rfl rfl) rfl ?_
            refine TL.no rfl (.gn rfl rfl rfl) rfl ?_
            refine TL.q rfl .u (Ex.py rfl rfl rfl) rfl ?_
            refine TL.run ft_cursitorref11_ok [40] rfl rfl ?_
            refine TL.no rfl (.gn rfl rfl rfl) rfl ?_
            refine TL.no rfl (.gn rfl rfl rfl) rfl ?_
            refine TL.no rfl (.gn rfl rfl rfl) rfl ?_
            refine TL.no rfl (.gn rfl rfl rfl) rfl ?_
            refine TL.no rfl (.gn rfl rfl rfl) rfl ?_
            refine TL.q rfl .u (Ex.py rfl rfl rfl) rfl ?_
            refine TL.run ft_cursitorref11_ok [47] rfl rfl ?_
            refine TL.no rfl (.gn rfl rfl rfl) rfl ?_
            refine TL.no rfl (.gn rfl rfl rfl) rfl ?_
            refine TL.no rfl (.gn rfl rfl rfl) rfl ?_
            refine TL.no rfl (.gn rfl rfl rfl) rfl ?_
            refine TL.no rfl (.gn rfl rfl rfl) rfl ?_
            refine TL.q rfl .u (Ex.py rfl rfl rfl) rfl ?_
            refine TL.run ft_cursitorref11_ok [54] rfl rfl ?_
            refine TL.no rfl (.gn rfl rfl rfl) rfl ?_
            refine TL.no rfl (.gn rfl rfl rfl) rfl ?_
            refine TL.no rfl (.gn rfl rfl rfl) rfl ?_
            refine TL.no rfl (.gn rfl rfl rfl) rfl ?_
            refine TL.no rfl (.gn rfl rfl rfl) rfl ?_
            refine TL.q rfl .u (Ex.py rfl rfl rfl) rfl ?_
            refine TL.run ft_cursitorref11_ok [61] rfl rfl ?_
            refine TL.no rfl (.gn rfl rfl rfl) rfl ?_
            refine TL.no rfl (.gn rfl rfl rfl) rfl ?_
            refine TL.no rfl (.gn rfl rfl rfl) rfl ?_
            refine TL.no rfl (.gn rfl rfl rfl) rfl ?_
            refine TL.no rfl (.gn rfl rfl rfl) rfl ?_
            refine TL.q rfl .u (Ex.py rfl rfl rfl) rfl ?_
            refine TL.run ft_cursitorref11_ok [68] rfl rfl ?_
            refine TL.no rfl (.gn rfl rfl rfl) rfl ?_
            refine TL.no rfl (.gn rfl rfl rfl) rfl ?_
            refine TL.no rfl (.gn rfl rfl rfl) rfl ?_
            refine TL.no rfl (.gn rfl rfl rfl) rfl ?_
            refine TL.no rfl (.gn rfl rfl rfl) rfl ?_
            refine TL.q rfl .u (Ex.py rfl rfl rfl) rfl ?_
            refine TL.run ft_cursitorref11_ok [75] rfl rfl ?_
            refine TL.no rfl (.gn rfl rfl rfl) rfl ?_
            refine TL.no rfl (.gn rfl rfl rfl) rfl ?_
            refine TL.no rfl (.gn rfl rfl rfl) rfl ?_
            refine TL.no rfl (.gn rfl rfl rfl) rfl ?_
            refine TL.no rfl (.gn rfl rfl rfl) rfl ?_
            refine TL.no rfl (.gn rfl rfl rfl) rfl ?_
            refine TL.no rfl (.gn rfl rfl rfl) rfl ?_
            refine TL.q rfl .u (Ex.py rfl rfl rfl) rfl ?_
            cases h
            exact TL.nil (X.jq [0, 0, 0] ⟨rfl, rfl⟩ (by rfl) (by rfl))
        · replace h := ifF c22 h
          replace c22 := eq_false_of_ne_true c22
          refine TL.run ft_cursitorref11_ok [19] rfl rfl ?_
          refine TL.no rfl (.gn rfl rfl (bn_t c22)) rfl ?_
          refine TL.no rfl (.gn rfl rfl (bn_t c22)) rfl ?_
          refine TL.no rfl (.gn rfl rfl (bn_t c22)) rfl ?_
          refine TL.no rfl (.gn rfl rfl (bn_t c22)) rfl ?_
          refine TL.no rfl (.gn rfl rfl (bn_t c22)) rfl ?_
          refine TL.q rfl .u (Ex.py rfl (bn_t c22) rfl) rfl ?_
          refine TL.run ft_cursitorref11_ok [26] rfl rfl ?_
          refine TL.no rfl (.gn rfl rfl rfl) rfl ?_
          refine TL.no rfl (.gn rfl rfl rfl) rfl ?_
          refine TL.no rfl (.gn rfl rfl rfl) rfl ?_
          refine TL.no rfl (.gn rfl rfl rfl) rfl ?_
          refine TL.no rfl (.gn rfl rfl rfl) rfl ?_
          refine TL.q rfl .u (Ex.py rfl rfl rfl) rfl ?_
          refine TL.run ft_cursitorref11_ok [33] rfl rfl ?_
          refine TL.no rfl (.gn rfl rfl rfl) rfl ?_
          refine TL.no rfl (.gn rfl rfl rfl) rfl ?_
          refine TL.no rfl (.gn rfl rfl rfl) rfl ?_
          refine TL.no rfl (.gn rfl rfl rfl) rfl ?_
          refine TL.no rfl (.gn rfl rfl rfl) rfl ?_
          refine TL.q rfl .u (Ex.py rfl rfl rfl) rfl ?_
          refine TL.run ft_cursitorref11_ok [40] rfl rfl ?_
          refine TL.no rfl (.gn rfl rfl rfl) rfl ?_
          refine TL.no rfl (.gn rfl rfl rfl) rfl ?_
          refine TL.no rfl (.gn rfl rfl rfl) rfl ?_
          refine TL.no rfl (.gn rfl rfl rfl) rfl ?_
          refine TL.no rfl (.gn rfl rfl rfl) rfl ?_
          refine TL.q rfl .u (Ex.py rfl rfl rfl) rfl ?_
          refine TL.run ft_cursitorref11_ok [47] rfl rfl ?_
          refine TL.no rfl (.gn rfl rfl rfl) rfl ?_
          refine TL.no rfl (.gn rfl rfl rfl) rfl ?_
          refine TL.no rfl (.gn rfl rfl rfl) rfl ?_
          refine TL.no rfl (.gn rfl rfl rfl) rfl ?_
          refine TL.no rfl (.gn rfl rfl rfl) rfl ?_
          refine TL.q rfl .u (Ex.py rfl rfl rfl) rfl ?_
          refine TL.run ft_cursitorref11_ok [54] rfl rfl ?_
          refine TL.no rfl (.gn rfl rfl rfl) rfl ?_
          refine TL.no rfl (.gn rfl rfl rfl) rfl ?_
          refine TL.no rfl (.gn rfl rfl rfl) rfl ?_
          refine TL.no rfl (.gn rfl rfl rfl) rfl ?_
          refine TL.no rfl (.gn rfl rfl rfl) rfl ?_
          refine TL.q rfl .u (Ex.py rfl rfl rfl) rfl ?_
          refine TL.run ft_cursitorref11_ok [61] rfl rfl ?_
          refine TL.no rfl (.gn rfl rfl rfl) rfl ?_
          refine TL.no rfl (.gn rfl rfl rfl) rfl ?_
          refine TL.no rfl (.gn rfl rfl rfl) rfl ?_
          refine TL.no rfl (.gn rfl rfl rfl) rfl ?_
          refine TL.no rfl (.gn rfl rfl rfl) rfl ?_
          refine TL.q rfl .u (Ex.py rfl rfl rfl) rfl ?_
          refine TL.run ft_cursitorref11_ok [68] rfl rfl ?_
          refine TL.no rfl (.gn rfl rfl rfl) rfl ?_
          refine TL.no rfl (.gn rfl rfl rfl) rfl ?_
          refine TL.no rfl (.gn rfl rfl rfl) rfl ?_
          refine TL.no rfl (.gn rfl rfl rfl) rfl ?_
          refine TL.no rfl (.gn rfl rfl rfl) rfl ?_
          refine TL.q rfl .u (Ex.py rfl rfl rfl) rfl ?_
          refine TL.run ft_cursitorref11_ok [75] rfl rfl ?_
          refine TL.no rfl (.gn rfl rfl rfl) rfl ?_
          refine TL.no rfl (.gn rfl rfl rfl) rfl ?_
          refine TL.no rfl (.gn rfl rfl rfl) rfl ?_
          refine TL.no rfl (.gn rfl rfl rfl) rfl ?_
          refine TL.no rfl (.gn rfl rfl rfl) rfl ?_
          refine TL.no rfl (.gn rfl rfl rfl) rfl ?_
          refine TL.no rfl (.gn rfl rfl rfl) rfl ?_
          refine TL.q rfl .u (Ex.py rfl rfl rfl) rfl ?_
          cases h
          exact TL.nil (X.jq [0, 0, 0] ⟨rfl, rfl⟩ (by rfl) (by rfl))
      · replace h := ifF c21 h
        refine TL.run ft_cursitorref11_ok [12] rfl rfl ?_
        refine TL.no rfl (.gn rfl rfl (bn_t (decide_eq_false c21))) rfl ?_
        refine TL.no rfl (.gn rfl rfl (bn_t (decide_eq_false c21))) rfl ?_
        refine TL.no rfl (.gn rfl rfl (bn_t (decide_eq_false c21))) rfl ?_
        refine TL.no rfl (.gn rfl rfl (bn_t (decide_eq_false c21))) rfl ?_
        refine TL.no rfl (.gn rfl rfl (bn_t (decide_eq_false c21))) rfl ?_
        refine TL.q rfl .u (Ex.py rfl (bn_t (decide_eq_false c21)) rfl) rfl ?_
        refine TL.run ft_cursitorref11_ok [19] rfl rfl ?_
        refine TL.no rfl (.gn rfl rfl rfl) rfl ?_
        refine TL.no rfl (.gn rfl rfl rfl) rfl ?_
        refine TL.no rfl (.gn rfl rfl rfl) rfl ?_
        refine TL.no rfl (.gn rfl rfl rfl) rfl ?_
        refine TL.no rfl (.gn rfl rfl rfl) rfl ?_
        refine TL.q rfl .u (Ex.py rfl rfl rfl) rfl ?_
        refine TL.run ft_cursitorref11_ok [26] rfl rfl ?_
        refine TL.no rfl (.gn rfl rfl rfl) rfl ?_
        refine TL.no rfl (.gn rfl rfl rfl) rfl ?_
        refine TL.no rfl (.gn rfl rfl rfl) rfl ?_
        refine TL.no rfl (.gn rfl rfl rfl) rfl ?_
        refine TL.no rfl (.gn rfl rfl rfl) rfl ?_
        refine TL.q rfl .u (Ex.py rfl rfl rfl) rfl ?_
        refine TL.run ft_cursitorref11_ok [33] rfl rfl ?_
        refine TL.no rfl (.gn rfl rfl rfl) rfl ?_
        refine TL.no rfl (.gn rfl rfl rfl) rfl ?_
        refine TL.no rfl (.gn rfl rfl rfl) rfl ?_
        refine TL.no rfl (.gn rfl rfl rfl) rfl ?_
        refine TL.no rfl (.gn rfl rfl rfl) rfl ?_
        refine TL.q rfl .u (Ex.py rfl rfl rfl) rfl ?_
        refine TL.run ft_cursitorref11_ok [40] rfl rfl ?_
        refine TL.no rfl (.gn rfl rfl rfl) rfl ?_
        refine TL.no rfl (.gn rfl rfl rfl) rfl ?_
        refine TL.no rfl (.gn rfl rfl rfl) rfl ?_
        refine TL.no rfl (.gn rfl rfl rfl) rfl ?_
        refine TL.no rfl (.gn rfl rfl rfl) rfl ?_
        refine TL.q rfl .u (Ex.py rfl rfl rfl) rfl ?_
        refine TL.run ft_cursitorref11_ok [47] rfl rfl ?_
        refine TL.no rfl (.gn rfl rfl rfl) rfl ?_
        refine TL.no rfl (.gn rfl rfl rfl) rfl ?_
        refine TL.no rfl (.gn rfl rfl rfl) rfl ?_
        refine TL.no rfl (.gn rfl rfl rfl) rfl ?_
        refine TL.no rfl (.gn rfl rfl rfl) rfl ?_
        refine TL.q rfl .u (Ex.py rfl rfl rfl) rfl ?_
        refine TL.run ft_cursitorref11_ok [54] rfl rfl ?_
        refine TL.no rfl (.gn rfl rfl rfl) rfl ?_
        refine TL.no rfl (.gn rfl rfl rfl) rfl ?_
        refine TL.no rfl (.gn rfl rfl rfl) rfl ?_
        refine TL.no rfl (.gn rfl rfl rfl) rfl ?_
        refine TL.no rfl (.gn rfl rfl rfl) rfl ?_
        refine TL.q rfl .u (Ex.py rfl rfl rfl) rfl ?_
        refine TL.run ft_cursitorref11_ok [61] rfl rfl ?_
        refine TL.no rfl (.gn rfl rfl rfl) rfl ?_
        refine TL.no rfl (.gn rfl rfl rfl) rfl ?_
        refine TL.no rfl (.gn rfl rfl rfl) rfl ?_
        refine TL.no rfl (.gn rfl rfl rfl) rfl ?_
        refine TL.no rfl (.gn rfl rfl rfl) rfl ?_
        refine TL.q rfl .u (Ex.py rfl rfl rfl) rfl ?_
        refine TL.run ft_cursitorref11_ok [68] rfl rfl ?_
        refine TL.no rfl (.gn rfl rfl rfl) rfl ?_
        refine TL.no rfl (.gn rfl rfl rfl) rfl ?_
        refine TL.no rfl (.gn rfl rfl rfl) rfl ?_
        refine TL.no rfl (.gn rfl rfl rfl) rfl ?_
        refine TL.no rfl (.gn rfl rfl rfl) rfl ?_
        refine TL.q rfl .u (Ex.py rfl rfl rfl) rfl ?_
        refine TL.run ft_cursitorref11_ok [75] rfl rfl ?_
        refine TL.no rfl (.gn rfl rfl rfl) rfl ?_
        refine TL.no rfl (.gn rfl rfl rfl) rfl ?_
        refine TL.no rfl (.gn rfl rfl rfl) rfl ?_
        refine TL.no rfl (.gn rfl rfl rfl) rfl ?_
        refine TL.no rfl (.gn rfl rfl rfl) rfl ?_
        refine TL.no rfl (.gn rfl rfl rfl) rfl ?_
        refine TL.no rfl (.gn rfl rfl rfl) rfl ?_
        refine TL.q rfl .u (Ex.py rfl rfl rfl) rfl ?_
        cases h
        exact TL.nil (X.jq [0, 0, 0] ⟨rfl, rfl⟩ (by rfl) (by rfl))
    · replace h := ifF c20 h
      refine TL.run ft_cursitorref11_ok [4, 5] rfl rfl ?_
      refine TL.no rfl (.gn rfl rfl (bn_t (decide_eq_false c20))) rfl ?_
      refine TL.no rfl (.gn rfl rfl (bn_t (decide_eq_false c20))) rfl ?_
      refine TL.no rfl (.gn rfl rfl (bn_t (decide_eq_false c20))) rfl ?_
      refine TL.no rfl (.gn rfl rfl (bn_t (decide_eq_false c20))) rfl ?_
      refine TL.no rfl (.gn rfl rfl (bn_t (decide_eq_false c20))) rfl ?_
      refine TL.q rfl .u (Ex.py rfl (bn_t (decide_eq_false c20)) rfl) rfl ?_
      refine TL.run ft_cursitorref11_ok [12] rfl rfl ?_
      refine TL.no rfl (.gn rfl rfl rfl) rfl ?_
      refine TL.no rfl (.gn rfl rfl rfl) rfl ?_
      refine TL.no rfl (.gn rfl rfl rfl) rfl ?_
      refine TL.no rfl (.gn rfl rfl rfl) rfl ?_
      refine TL.no rfl (.gn rfl rfl rfl) rfl ?_
      refine TL.q rfl .u (Ex.py rfl rfl rfl) rfl ?_
      refine TL.run ft_cursitorref11_ok [19] rfl rfl ?_
      refine TL.no rfl (.gn rfl rfl rfl) rfl ?_
      refine TL.no rfl (.gn rfl rfl rfl) rfl ?_
      refine TL.no rfl (.gn rfl rfl rfl) rfl ?_
      refine TL.no rfl (.gn rfl rfl rfl) rfl ?_
      refine TL.no rfl (.gn rfl rfl rfl) rfl ?_
      refine TL.q rfl .u (Ex.py rfl rfl rfl) rfl ?_
      refine TL.run ft_cursitorref11_ok [26] rfl rfl ?_
      refine TL.no rfl (.gn rfl rfl rfl) rfl ?_
      refine TL.no rfl (.gn rfl rfl rfl) rfl ?_
      refine TL.no rfl (.gn rfl rfl rfl) rfl ?_
      refine TL.no rfl (.gn rfl rfl rfl) rfl ?_
      refine TL.no rfl (.gn rfl rfl rfl) rfl ?_
      refine TL.q rfl .u (Ex.py rfl rfl rfl) rfl ?_
      refine TL.run ft_cursitorref11_ok [33] rfl rfl ?_
      refine TL.no rfl (.gn rfl rfl rfl) rfl ?_
      refine TL.no rfl (.gn rfl rfl rfl) rfl ?_
      refine TL.no rfl (.gn rfl rfl rfl) rfl ?_
      refine TL.no rfl (.gn rfl rfl rfl) rfl ?_
      refine TL.no rfl (.gn rfl rfl rfl) rfl ?_
      refine TL.q rfl .u (Ex.py rfl rfl rfl) rfl ?_
      refine TL.run ft_cursitorref11_ok [40] rfl rfl ?_
      refine TL.no rfl (.gn rfl rfl rfl) rfl ?_
      refine TL.no rfl (.gn rfl rfl rfl) rfl ?_
      refine TL.no rfl (.gn rfl rfl rfl) rfl ?_
      refine TL.no rfl (.gn rfl rfl rfl) rfl ?_
      refine TL.no rfl (.gn rfl rfl rfl) rfl ?_
      refine TL.q rfl .u (Ex.py rfl rfl rfl) rfl ?_
      refine TL.run ft_cursitorref11_ok [47] rfl rfl ?_
      refine TL.no rfl (.gn rfl rfl rfl) rfl ?_
      refine TL.no rfl (.gn rfl rfl rfl) rfl ?_
      refine TL.no rfl (.gn rfl rfl rfl) rfl ?_
      refine TL.no rfl (.gn rfl rfl rfl) rfl ?_
      refine TL.no rfl (.gn rfl rfl rfl) rfl ?_
      refine TL.q rfl .u (Ex.py rfl rfl rfl) rfl ?_
      refine TL.run ft_cursitorref11_ok [54] rfl rfl ?_
      refine TL.no rfl (.gn rfl rfl rfl) rfl ?_
      refine TL.no rfl (.gn rfl rfl rfl) rfl ?_
      refine TL.no rfl (.gn rfl rfl rfl) rfl ?_
      refine TL.no rfl (.gn rfl rfl rfl) rfl ?_
      refine TL.no rfl (.gn rfl rfl rfl) rfl ?_
      refine TL.q rfl .u (Ex.py rfl rfl rfl) rfl ?_
      refine TL.run ft_cursitorref11_ok [61] rfl rfl ?_
      refine TL.no rfl (.gn rfl rfl rfl) rfl ?_
      refine TL.no rfl (.gn rfl rfl rfl) rfl ?_
      refine TL.no rfl (.gn rfl rfl rfl) rfl ?_
      refine TL.no rfl (.gn rfl rfl rfl) rfl ?_
      refine TL.no rfl (.gn rfl rfl rfl) rfl ?_
      refine TL.q rfl .u (Ex.py rfl rfl rfl) rfl ?_
      refine TL.run ft_cursitorref11_ok [68] rfl rfl ?_
      refine TL.no rfl (.gn rfl rfl rfl) rfl ?_
      refine TL.no rfl (.gn rfl rfl rfl) rfl ?_
      refine TL.no rfl (.gn rfl rfl rfl) rfl ?_
      refine TL.no rfl (.gn rfl rfl rfl) rfl ?_
      refine TL.no rfl (.gn rfl rfl rfl) rfl ?_
      refine TL.q rfl .u (Ex.py rfl rfl rfl) rfl ?_
      refine TL.run ft_cursitorref11_ok [75] rfl rfl ?_
      refine TL.no rfl (.gn rfl rfl rfl) rfl ?_
      refine TL.no rfl (.gn rfl rfl rfl) rfl ?_
      refine TL.no rfl (.gn rfl rfl rfl) rfl ?_
      refine TL.no rfl (.gn rfl rfl rfl) rfl ?_
      refine TL.no rfl (.gn rfl rfl rfl) rfl ?_
      refine TL.no rfl (.gn rfl rfl rfl) rfl ?_
      refine TL.no rfl (.gn rfl rfl rfl) rfl ?_
      refine TL.q rfl .u (Ex.py rfl rfl rfl) rfl ?_
      cases h
      exact TL.nil (X.jq [0, 0, 0] ⟨rfl, rfl⟩ (by rfl) (by rfl))
  · rintro _ _ ⟨rfl, rfl⟩
    clear h
    have h := hk19
    clear hk19
    try dsimp only at h
    by_cases c32 : y18 = true
    · replace h := ifT c32 h
      refine X.seq ?_
      refine T.yes rfl c32 ?_
      refine T.seq (T.region rfl ?_)
      refine TL.run ft_cursitorref11_ok [0] rfl rfl ?_
      obtain rfl := Option.some.inj h
      exact TL.nil (X.seq (T.ret (X.rs (X.done1 [2] Try.results17 (RV.tm rfl) ⟨rfl, rfl, rfl⟩ (by rfl) (.inl rfl)))))
    · replace h := ifF c32 h
      replace c32 := eq_false_of_ne_true c32
      refine X.seq ?_
      refine T.no rfl c32 ?_
      refine T.skip (X.seq (T.seq (T.seq (T.region rfl ?_))))
      refine TL.run ft_cursitorref11_ok [0] rfl rfl ?_
      refine TL.nil (X.seq (T.block ?_))
      obtain ⟨E35, hE36, hO37⟩ := Option.bind_eq_some_iff.1 h
      refine T.lp (fun m e Rs => ∃ (y33 : Bool) (k34 : Nat), e = [(2, .pointer (some ⟨b5, 0, none⟩)), (3, .pointer (some ⟨b6, 0, none⟩)), (4, .bool y33), (5, .int .i64 (k34 : Int))] ∧ Rs = [BlkR b6 25 #[.int .i64 a1.fBase, .int .i64 a1.fLeader, .bool a1.fAppend, .bool a1.fTxn, .bool a1.fControl, .int .i64 a1.fLast, .int .i64 a1.fFirst, .int .i64 a1.fMax, .int .i64 a1.fProducer, .int .i64 a1.fEpoch, .int .i64 a1.fSequence, .slice A3 a1.fRecords.length c4], BlkR b5 25 #[.int .i64 a0.fBase, .int .i64 a0.fLeader, .bool a0.fAppend, .bool a0.fTxn, .bool a0.fControl, .int .i64 a0.fLast, .int .i64 a0.fFirst, .int .i64 a0.fMax, .int .i64 a0.fProducer, .int .i64 a0.fEpoch, .int .i64 a0.fSequence, .slice A1 a0.fRecords.length c2], EmpR] ∧ f_r11_Same_l1 a0 a1 m y33 k34 = some E35) (((a0.fRecords.length : Int)).toNat + 1) [0, 0, 0] ⟨false, 0, rfl, rfl, by exact hE36⟩ (by rfl) (by rfl) ?_
      rintro m38 _ _ ⟨y33, k34, rfl, rfl, hl40⟩
      clear hE36 h
      cases m38 with
      | zero =>
        rw [f_r11_Same_l1] at hl40
        cases hl40
      | succ m38 =>
        have h := hl40
        clear hl40
        rw [f_r11_Same_l1] at h
        refine T.seq (T.seq (T.region rfl ?_))
        refine TL.run ft_cursitorref11_ok [0, 1] rfl rfl ?_
        refine TL.q rfl .u (Ex.b1 1 rfl Try.isAgg23 rfl rfl) rfl ?_
        refine TL.q rfl .u (Ex.lenS rfl Try.runUnderlying23) rfl ?_
        refine TL.run ft_cursitorref11_ok [4] rfl rfl ?_
        by_cases c42 : (k34 : Int) < (a0.fRecords.length : Int)
        · replace h := ifT c42 h
          refine TL.nil (X.seq ?_)
          refine T.yes rfl (decide_eq_true c42) ?_
          refine T.skip (X.seq (T.seq (T.block (T.seq (T.draw (.q 0 (.q 1 (.q 2 (.q 3 (.q 4 (.q 5 (.q 6 (.q 7 (.q 8 (.q 9 (.e 10 (.q 11 .nil)))))))))))) [0, 0, 0] rfl mix_cursitorref11 (NoP.seq (NoP.blk (NoP.seq (NoP.seq (NoP.blk (NoP.seq np_post)))))) (by kernel_rfl) ?_)))))
          refine TD.run ft_cursitorref11_ok [0] rfl rfl ?_
          refine TD.q rfl .u (Ex.b1 1 rfl Try.isAgg23 rfl rfl) rfl ?_
          obtain ⟨x43, hx44, h⟩ := Option.bind_eq_some_iff.1 h
          obtain ⟨gz45, oz45, rfl, z45cs, z45cl, z45cc, z45nf, z45r⟩ := RX.elem (by decide) (RX.reads_left hX) hx44
          obtain ⟨z45S, z45r, z45rr⟩ := z45r
          obtain ⟨A46, c47, rfl, z45s0⟩ := z45r
          have hX48 : (RX.of (sliceRd 3 Hd_rd) [.slice A46 x43.fHeaders.length c47] x43.fHeaders).reads w F := ⟨z45S, z45s0, z45rr⟩
          refine TD.run ft_cursitorref11_ok [2] rfl rfl ?_
          refine TD.q rfl .u (Ex.ixS (k := k34) rfl rfl rfl Try.runUnderlying23 Try.sizeOf33 (List.getElem?_eq_some_iff.1 hx44).1) rfl ?_
          refine TD.q rfl .u (Ex.oS (us := [.int .i64 x43.fTime, .int .i64 x43.fOffset, .bool x43.fKey.null, .string (bsOf x43.fKey.data), .bool x43.fValue.null, .string (bsOf x43.fValue.data), .slice A46 x43.fHeaders.length c47]) 0 rfl Try.isAgg33 Try.sizeOf33 z45nf z45cc rfl rfl rfl) rfl ?_
          refine TD.run ft_cursitorref11_ok [5] rfl rfl ?_
          refine TD.q rfl .u (Ex.b1 0 rfl Try.isAgg23 rfl rfl) rfl ?_
          obtain ⟨x49, hx50, h⟩ := Option.bind_eq_some_iff.1 h
          obtain ⟨gz51, oz51, rfl, z51cs, z51cl, z51cc, z51nf, z51r⟩ := RX.elem (by decide) (RX.reads_right hX) hx50
          obtain ⟨z51S, z51r, z51rr⟩ := z51r
          obtain ⟨A52, c53, rfl, z51s0⟩ := z51r
          have hX54 : (RX.of (sliceRd 3 Hd_rd) [.slice A52 x49.fHeaders.length c53] x49.fHeaders).reads w F := ⟨z51S, z51s0, z51rr⟩
          refine TD.run ft_cursitorref11_ok [7] rfl rfl ?_
          refine TD.q rfl .u (Ex.ixS (k := k34) rfl rfl rfl Try.runUnderlying23 Try.sizeOf33 (List.getElem?_eq_some_iff.1 hx50).1) rfl ?_
          refine TD.q rfl .u (Ex.oS (us := [.int .i64 x49.fTime, .int .i64 x49.fOffset, .bool x49.fKey.null, .string (bsOf x49.fKey.data), .bool x49.fValue.null, .string (bsOf x49.fValue.data), .slice A52 x49.fHeaders.length c53]) 0 rfl Try.isAgg33 Try.sizeOf33 z51nf z51cc rfl rfl rfl) rfl ?_
          obtain ⟨x55, hx56, h⟩ := Option.bind_eq_some_iff.1 h
          refine TD.ce rfl .u (.fn Try.call54 rfl) (f_r07_Same_spec x43 _ _ x49 _ _ _ hx56) (fun _ hs => (RX.reads_and (SrcE.old hs hX48) (SrcE.old hs hX54))) rfl [0, 0, 0] (rfl) ?_
          refine TD.run ft_cursitorref11_ok [11] rfl rfl ?_
          by_cases c57 : x55 = true
          · replace h := ifT c57 h
            refine TD.nil (X.seq ?_)
            refine T.no rfl (bn_f c57) ?_
            refine T.skip (X.blk (X.seq (T.region rfl ?_)))
            replace h := guard_some h
            obtain ⟨c58, h⟩ := h
            refine TL.run ft_cursitorref11_ok [0] rfl rfl ?_
            refine TL.q rfl .u (Ex.add rfl rfl c58) rfl ?_
            refine TL.run ft_cursitorref11_ok [2] rfl rfl ?_
            exact TL.nil (X.back (m' := m38) [0, 0, 0] (by omega) ⟨y33, k34 + 1, rfl, rfl, h⟩ (by rfl) (by rfl))
          · replace h := ifF c57 h
            replace c57 := eq_false_of_ne_true c57
            refine TD.nil (X.seq ?_)
            refine T.yes rfl (bn_t c57) ?_
            refine T.seq (T.region rfl ?_)
            refine TL.run ft_cursitorref11_ok [0] rfl rfl ?_
            obtain rfl := Option.some.inj h
            replace h := hO37
            clear hO37
            try dsimp only at h
            obtain rfl := Option.some.inj h
            exact TL.nil (X.seq (T.ret (X.rb (X.rs (X.rs (X.rb (X.rs (X.done1 [2] Try.results17 (RV.tm rfl) ⟨rfl, rfl, rfl⟩ (by rfl) (.inl rfl)))))))))
        · replace h := ifF c42 h
          refine TL.nil (X.seq ?_)
          refine T.no rfl (decide_eq_false c42) ?_
          obtain rfl := Option.some.inj h
          replace h := hO37
          clear hO37
          try dsimp only at h
          refine T.exit (X.exs (X.exs (X.ex (X.seq (T.seq (T.region rfl ?_))))))
          refine TL.run ft_cursitorref11_ok [0] rfl rfl ?_
          obtain rfl := Option.some.inj h
          exact TL.nil (X.seq (T.ret (X.done1 [2] Try.results17 (RV.tm rfl) ⟨rfl, rfl, rfl⟩ (by rfl) (.inl rfl))))
end Go.Proofs.Ytcoppaggpbfcmaa.Sl
namespace Go.Proofs.Ytcoppaggpbfcmaa.Sl
open Go.RowKit
set_option linter.unusedVariables false
set_option linter.unusedSimpArgs false
theorem iint_ok2 (l : List UInt8) (p : Nat) (h : 2 ≤ l.length) : iint ⟨l, p, 0⟩ 2 = (beInt (l.take 2), ⟨l.drop 2, p + 2, 0⟩) := iint_ok l p 2 (by decide) (by decide) h
theorem iint_ok4 (l : List UInt8) (p : Nat) (h : 4 ≤ l.length) : iint ⟨l, p, 0⟩ 4 = (beInt (l.take 4), ⟨l.drop 4, p + 4, 0⟩) := iint_ok l p 4 (by decide) (by decide) h
theorem iint_short2 (l : List UInt8) (p : Nat) (h : l.length < 2) : iint ⟨l, p, 0⟩ 2 = (0, ⟨l, p, 1⟩) := iint_short l p 2 (by decide) (by decide) (by omega)
theorem iint_short4 (l : List UInt8) (p : Nat) (h : l.length < 4) : iint ⟨l, p, 0⟩ 4 = (0, ⟨l, p, 1⟩) := iint_short l p 4 (by decide) (by decide) (by omega)
theorem iint_e (l : List UInt8) (p : Nat) (e n : Int) (h : e ≠ 0) : iint ⟨l, p, e⟩ n = (0, ⟨l, p, e⟩) := iint_err (st := ⟨l, p, e⟩) h n
theorem iclose_e (l : List UInt8) (p : Nat) (e : Int) (h : e ≠ 0) : iclose ⟨l, p, e⟩ = ⟨l, p, e⟩ := iclose_err (st := ⟨l, p, e⟩) h
theorem ifail_e (l : List UInt8) (p : Nat) (e f : Int) (h : e ≠ 0) : ifail ⟨l, p, e⟩ f = ⟨l, p, e⟩ := ifail_err (st := ⟨l, p, e⟩) h f
theorem ifail_0 (l : List UInt8) (p : Nat) (f : Int) : ifail ⟨l, p, 0⟩ f = ⟨l, p, f⟩ := by simp [ifail]
theorem iclose_0 (l : List UInt8) (p : Nat) : iclose ⟨l, p, 0⟩ = ⟨l, p, if l = [] then 0 else 2⟩ := by unfold iclose; split <;> simp_all [ifail]
theorem drop_nil_iff {l : List UInt8} {n : Nat} (h : n ≤ l.length) : l.drop n = [] ↔ ¬ (l.length : Int) > n := by rw [List.drop_eq_nil_iff]; omega
theorem read_key (l : List UInt8) (hl : l.length ≤ 9223372036854775807) : f_control_ReadKey l = f_r08_ReadKey l := by
  unfold f_control_ReadKey f_r08_ReadKey f_control_version
  simp only [gNew_eq l (by omega), gInt_eq, gClose_eq, gIFail_eq, Option.bind_some]
  by_cases h2 : l.length < 2
  · have h2i : (l.length : Int) < 2 := by omega
    simp [iint_short2 l 0 h2, iint_e, iclose_e, ifail_e, h2i]
  have h2i : ¬ (l.length : Int) < 2 := by omega
  have h2j : 2 ≤ (l.length : Int) := by omega
  rw [iint_ok2 l 0 (by omega), if_neg h2i, if_pos (show 2 ≤ l.length by omega), gRInt_eq _ (by simp; omega)]
  simp only [Option.bind_some]
  by_cases h0 : beInt (l.take 2) = 0
  · rw [if_pos h0, if_pos h0]
    simp only [Option.bind_some]
    by_cases h4 : l.length < 4
    · have h4i : (l.length : Int) < 4 := by omega
      simp [iint_short2 (l.drop 2) (0 + 2) (by simp; omega), iclose_e, h4i]
    have h4i : ¬ (l.length : Int) < 4 := by omega
    rw [iint_ok2 _ _ (by simp; omega), if_neg h4i, if_pos (show 4 ≤ l.length by omega), gRInt_eq _ (by simp; omega)]
    simp only [Option.bind_some, List.drop_drop, iclose_0, ifail_0]
    have hd := drop_nil_iff (l := l) (n := 4) (by omega)
    generalize beInt ((l.drop 2).take 2) = k
    by_cases h5 : (l.length : Int) > 4
    · have hd2 : ¬ l.drop (2 + 2) = [] := fun h => (hd.1 h) h5
      by_cases k0 : k = 0
      · simp [hd2, h5, iclose_e, k0]
      · by_cases k1 : k = 1 <;> simp [hd2, h5, iclose_e, k0, k1]
    · have hd2 : l.drop (2 + 2) = [] := hd.2 h5
      by_cases k0 : k = 0
      · simp [hd2, h5, iclose_e, k0]
      · by_cases k1 : k = 1 <;> simp [hd2, h5, iclose_e, k0, k1]
  · rw [if_neg h0, if_neg h0]
    simp [ifail_0, iint_e, iclose_e]
theorem read_value (l : List UInt8) (hl : l.length ≤ 9223372036854775807) : f_control_ReadValue l = f_r08_ReadValue l := by
  unfold f_control_ReadValue f_r08_ReadValue f_control_version
  simp only [gNew_eq l (by omega), gInt_eq, gClose_eq, gIFail_eq, Option.bind_some]
  by_cases h2 : l.length < 2
  · have h2i : (l.length : Int) < 2 := by omega
    simp [iint_short2 l 0 h2, iint_e, iclose_e, ifail_e, h2i]
  have h2i : ¬ (l.length : Int) < 2 := by omega
  have h2j : 2 ≤ (l.length : Int) := by omega
  rw [iint_ok2 l 0 (by omega), if_neg h2i, if_pos (show 2 ≤ l.length by omega), gRInt_eq _ (by simp; omega)]
  simp only [Option.bind_some]
  by_cases h0 : beInt (l.take 2) = 0
  · rw [if_pos h0, if_pos h0]
    simp only [Option.bind_some]
    by_cases h4 : l.length < 6
    · have h4i : (l.length : Int) < 6 := by omega
      simp [iint_short4 (l.drop 2) (0 + 2) (by simp; omega), iclose_e, h4i]
    have h4i : ¬ (l.length : Int) < 6 := by omega
    rw [iint_ok4 _ _ (by simp; omega), if_neg h4i, if_pos (show 6 ≤ l.length by omega), gRInt_eq _ (by simp; omega)]
    simp only [Option.bind_some, List.drop_drop, iclose_0, ifail_0]
    have hd := drop_nil_iff (l := l) (n := 6) (by omega)
    generalize beInt ((l.drop 2).take 4) = k
    by_cases h5 : (l.length : Int) > 6
    · have hd2 : ¬ l.drop (2 + 4) = [] := fun h => (hd.1 h) h5
      by_cases k0 : k < 0 <;> simp [hd2, h5, iclose_e, k0]
    · have hd2 : l.drop (2 + 4) = [] := hd.2 h5
      by_cases k0 : k < 0 <;> simp [hd2, h5, iclose_e, k0]
  · rw [if_neg h0, if_neg h0]
    simp [ifail_0, iint_e, iclose_e]
theorem read_control (r : Rec) (h1 : r.fKey.data.length ≤ 9223372036854775807) (h2 : r.fValue.data.length ≤ 9223372036854775807) : f_control_Read r = f_r08_Read r := by
  unfold f_control_Read f_r08_Read
  rw [read_key _ h1, read_value _ h2]
end Go.Proofs.Ytcoppaggpbfcmaa.Sl
namespace Go.Proofs.Ytcoppaggpbfcmaa.Sl
open Go.RowKit
set_option linter.unusedVariables false
set_option linter.unusedSimpArgs false
def firstR : List Rec → Int
  | [] => 0
  | r :: l => if rightR r = 0 then firstR l else rightR r
theorem bcheck_l1 (y : Int) : ∀ l : List Rec, (∀ r, r ∈ l → wI r.fOffset) → f_batch_Check_l1 l y = some (if firstR l = 0 then .go y else .ret (firstR l))
  | [], h => rfl
  | r :: l, h => by
    rw [f_batch_Check_l1, record_right _ (h r (.head _)), Option.bind_some, bcheck_l1 y l (fun x hx => h x (.tail _ hx)), firstR]
    by_cases hr : rightR r = 0
    · rw [if_pos hr, if_pos hr]
    · rw [if_neg hr, if_neg hr, if_neg hr]
theorem bcheck_l2 (y : Int) : ∀ l : List Rec, (∀ r, r ∈ l → wI r.fOffset) → f_batch_Check_l2 l y = some (if firstR l = 0 then .go y else .ret (firstR l))
  | [], h => rfl
  | r :: l, h => by
    rw [f_batch_Check_l2, record_right _ (h r (.head _)), Option.bind_some, bcheck_l2 y l (fun x hx => h x (.tail _ hx)), firstR]
    by_cases hr : rightR r = 0
    · rw [if_pos hr, if_pos hr]
    · rw [if_neg hr, if_neg hr, if_neg hr]
theorem rcheck_l1 (a : Bat) (hb : a.fRecords.length ≤ 1000000) (hh : ∀ r, r ∈ a.fRecords → r.fHeaders.length ≤ 1000000) (y : Int) : ∀ (l : List Rec) (k fuel : Nat), a.fRecords.drop k = l → l.length < fuel → ∃ z, f_r11_Check_l1 a fuel y k = some (if firstR l = 0 then .go (y, z) else .ret (firstR l))
  | [], k, fuel + 1, h, hf => by
    have := b_nil_drop h
    exact ⟨k, by rw [f_r11_Check_l1, if_neg (by omega)]; rfl⟩
  | r :: l, k, fuel + 1, h, hf => by
    obtain ⟨h1, h2, h3⟩ := b_at_drop h
    rw [List.length_cons] at hf
    obtain ⟨z, hz⟩ := rcheck_l1 a hb hh y l (k + 1) fuel h2 (by omega)
    rw [f_r11_Check_l1, if_pos (by omega), h1, Option.bind_some, r07_right _ (hh r (List.mem_of_getElem? h1)), Option.bind_some, firstR]
    by_cases hr : rightR r = 0
    · rw [if_pos hr, if_pos hr, if_pos (by omega)]
      exact ⟨z, hz⟩
    · rw [if_neg hr, if_neg hr]
      exact ⟨0, by rw [if_neg hr]⟩
theorem rcheck_l2 (a : Bat) : ∀ (fuel : Nat) (y : Int) (k : Nat), f_r11_Check_l2 a fuel y k = f_r11_Check_l1 a fuel y k
  | 0, y, k => rfl
  | fuel + 1, y, k => by
    rw [f_r11_Check_l2, f_r11_Check_l1]
    simp only [rcheck_l2 a fuel]
def badT (F t : Int) : Prop := t > 9223372036854775807 - F ∨ t < -F
instance (F t : Int) : Decidable (badT F t) := by unfold badT; infer_instance
def ordR (F L : Int) : Int → Int → List Rec → Except Int Int
  | p, m, [] => .ok m
  | p, m, r :: l => if r.fOffset ≤ p ∨ r.fOffset > L then .error 13 else if badT F r.fTime then .error 11 else ordR F L r.fOffset (if m < F + r.fTime then F + r.fTime else m) l
theorem wrap_time {F t : Int} (h0 : 0 ≤ F) (h1 : F ≤ 9223372036854775807) (ht : wI t) : (badT F t → (IntKind.i64.wrap (F + t) < 0)) ∧ (¬ badT F t → IntKind.i64.wrap (F + t) = F + t ∧ 0 ≤ F + t) := by
  obtain ⟨t0, t1⟩ := ht
  unfold badT
  rw [IntKind.wrap_i64]
  constructor
  · intro h
    omega
  · intro h
    omega
theorem brec_l1 (a : Bat) (h0 : 0 ≤ a.fFirst) (h1 : a.fFirst ≤ 9223372036854775807) (y : Int) : ∀ (l : List Rec) (p m : Int), (∀ r, r ∈ l → wI r.fTime) → (∃ e, ordR a.fFirst a.fLast p m l = .error e ∧ f_batch_records_l1 a l y p m = some (.ret e)) ∨ (∃ p' m', ordR a.fFirst a.fLast p m l = .ok m' ∧ f_batch_records_l1 a l y p m = some (.go (y, p', m')))
  | [], p, m, h => .inr ⟨p, m, rfl, rfl⟩
  | r :: l, p, m, h => by
    have ih := fun p m => brec_l1 a h0 h1 y l p m (fun x hx => h x (.tail _ hx))
    obtain ⟨w1, w2⟩ := wrap_time h0 h1 (h r (.head _))
    rw [f_batch_records_l1, ordR]
    by_cases c1 : r.fOffset ≤ p
    · rw [if_pos c1, if_pos (.inl c1)]
      exact .inl ⟨_, rfl, rfl⟩
    rw [if_neg c1]
    by_cases c2 : r.fOffset > a.fLast
    · rw [if_pos c2, if_pos (.inr c2)]
      exact .inl ⟨_, rfl, rfl⟩
    rw [if_neg c2, if_neg (by omega)]
    by_cases c3 : badT a.fFirst r.fTime
    · rw [if_pos c3, if_pos (w1 c3)]
      exact .inl ⟨_, rfl, rfl⟩
    obtain ⟨w3, w4⟩ := w2 c3
    rw [if_neg c3, w3, if_neg (show ¬ a.fFirst + r.fTime < 0 by omega), if_neg (show ¬ a.fFirst + r.fTime < r.fTime by omega), ite_self]
    by_cases c4 : m < a.fFirst + r.fTime
    · rw [if_pos c4, if_pos c4]
      exact ih _ _
    · rw [if_neg c4, if_neg c4]
      exact ih _ _
theorem rord_l1 (a : Bat) (h0 : 0 ≤ a.fFirst) (h1 : a.fFirst ≤ 9223372036854775807) (hb : a.fRecords.length ≤ 1000000) (y : Int) : ∀ (l : List Rec) (p m : Int) (k fuel : Nat), a.fRecords.drop k = l → l.length < fuel → (k = 0 → p = -1) → (0 < k → ∃ r, a.fRecords[k - 1]? = some r ∧ r.fOffset = p ∧ 0 ≤ p) →
    (∃ e, ordR a.fFirst a.fLast p m l = .error e ∧ f_r11_orders_l1 a fuel y k = some (.ret e)) ∨ (∃ m' z, ordR a.fFirst a.fLast p m l = .ok m' ∧ f_r11_orders_l1 a fuel y k = some (.go (y, z)))
  | [], p, m, k, fuel + 1, h, hf, hk0, hk1 => by
    have := b_nil_drop h
    exact .inr ⟨m, k, rfl, by rw [f_r11_orders_l1, if_neg (by omega)]⟩
  | r :: l, p, m, k, fuel + 1, h, hf, hk0, hk1 => by
    obtain ⟨g1, g2, g3⟩ := b_at_drop h
    rw [List.length_cons] at hf
    rw [f_r11_orders_l1, if_pos (by omega), g1, Option.bind_some, ordR]
    have hp : -1 ≤ p := by
      rcases Nat.eq_zero_or_pos k with hk | hk
      · have := hk0 hk; omega
      · obtain ⟨_, _, _, h5⟩ := hk1 hk; omega
    have ih := fun (hge : 0 ≤ r.fOffset) m => rord_l1 a h0 h1 hb y l r.fOffset m (k + 1) fuel g2 (by omega) (fun h => absurd h (by omega)) (fun _ => ⟨r, g1, rfl, hge⟩)
    have tail : 0 ≤ r.fOffset → ((if -9223372036854775808 ≤ (9223372036854775807 - a.fFirst) ∧ (9223372036854775807 - a.fFirst) ≤ 9223372036854775807 then (if r.fTime > (9223372036854775807 - a.fFirst) then some (Lp.ret (11 : Int)) else (if -9223372036854775808 ≤ (-a.fFirst) ∧ (-a.fFirst) ≤ 9223372036854775807 then (if r.fTime < (-a.fFirst) then some (Lp.ret 11) else (if -9223372036854775808 ≤ ((k : Int) + 1) ∧ ((k : Int) + 1) ≤ 9223372036854775807 then (f_r11_orders_l1 a fuel y (k + 1)) else none)) else none)) else none)) = if badT a.fFirst r.fTime then some (.ret 11) else f_r11_orders_l1 a fuel y (k + 1) := by
      intro hge
      rw [if_pos (by omega)]
      by_cases c1 : r.fTime > 9223372036854775807 - a.fFirst
      · rw [if_pos c1, if_pos (show badT a.fFirst r.fTime from .inl c1)]
      rw [if_neg c1, if_pos (by omega)]
      by_cases c2 : r.fTime < -a.fFirst
      · rw [if_pos c2, if_pos (show badT a.fFirst r.fTime from .inr c2)]
      rw [if_neg c2, if_neg (show ¬ badT a.fFirst r.fTime by unfold badT; omega), if_pos (by omega)]
    by_cases c2 : r.fOffset > a.fLast
    · rw [if_pos c2, if_pos (.inr c2)]
      exact .inl ⟨_, rfl, rfl⟩
    rw [if_neg c2]
    rcases Nat.eq_zero_or_pos k with hk | hk
    · have hp1 := hk0 hk
      rw [if_neg (show ¬ (k : Int) > 0 by omega)]
      by_cases c3 : r.fOffset < 0
      · rw [if_pos c3, if_pos (show r.fOffset ≤ p ∨ r.fOffset > a.fLast by omega)]
        exact .inl ⟨_, rfl, rfl⟩
      rw [if_neg c3, if_neg (show ¬ (r.fOffset ≤ p ∨ r.fOffset > a.fLast) by omega), tail (by omega)]
      by_cases c4 : badT a.fFirst r.fTime
      · rw [if_pos c4, if_pos c4]
        exact .inl ⟨_, rfl, rfl⟩
      · rw [if_neg c4, if_neg c4]
        exact ih (by omega) _
    · obtain ⟨q, q1, q2, q3⟩ := hk1 hk
      rw [if_pos (show (k : Int) > 0 by omega), if_pos (show -9223372036854775808 ≤ (k : Int) - 1 ∧ (k : Int) - 1 ≤ 9223372036854775807 by omega), if_pos (show 0 ≤ (k : Int) - 1 by omega), show ((k : Int) - 1).toNat = k - 1 by omega, q1, Option.bind_some, q2]
      by_cases c1 : r.fOffset ≤ p
      · rw [if_pos c1, if_pos (.inl c1)]
        exact .inl ⟨_, rfl, rfl⟩
      rw [if_neg c1, if_neg (show ¬ r.fOffset < 0 by omega), if_neg (show ¬ (r.fOffset ≤ p ∨ r.fOffset > a.fLast) by omega), tail (by omega)]
      by_cases c4 : badT a.fFirst r.fTime
      · rw [if_pos c4, if_pos c4]
        exact .inl ⟨_, rfl, rfl⟩
      · rw [if_neg c4, if_neg c4]
        exact ih (by omega) _
theorem rtim_l1 (a : Bat) (h0 : 0 ≤ a.fFirst) (h1 : a.fFirst ≤ 9223372036854775807) (hb : a.fRecords.length ≤ 1000000) (y : Int) : ∀ (l : List Rec) (p m m' : Int) (k fuel : Nat), a.fRecords.drop k = l → l.length < fuel → ordR a.fFirst a.fLast p m l = .ok m' → (∀ r, r ∈ l → wI r.fTime) → ∃ z, f_r11_times_l1 a fuel y m k = some (.go (y, m', z))
  | [], p, m, m', k, fuel + 1, h, hf, ho, hw => by
    have := b_nil_drop h
    injection ho with ho
    subst ho
    exact ⟨k, by rw [f_r11_times_l1, if_neg (by omega)]⟩
  | r :: l, p, m, m', k, fuel + 1, h, hf, ho, hw => by
    obtain ⟨g1, g2, g3⟩ := b_at_drop h
    rw [List.length_cons] at hf
    rw [ordR] at ho
    split at ho
    · exact nomatch ho
    split at ho
    · exact nomatch ho
    rename_i hb2
    have ht := hw r (.head _)
    have ht0 := ht.1
    have ht1 := ht.2
    unfold badT at hb2
    rw [f_r11_times_l1, if_pos (by omega), g1, Option.bind_some, if_pos (by omega), if_neg (by omega), if_pos (by omega), if_neg (by omega), if_pos (by omega)]
    obtain ⟨z, hz⟩ := rtim_l1 a h0 h1 hb y l r.fOffset _ m' (k + 1) fuel g2 (by omega) ho (fun x hx => hw x (.tail _ hx))
    by_cases c : m < a.fFirst + r.fTime
    · rw [if_pos c] at hz
      rw [if_pos c, if_pos (by omega), if_pos (by omega)]
      exact ⟨z, hz⟩
    · rw [if_neg c] at hz
      rw [if_neg c, if_pos (by omega)]
      exact ⟨z, hz⟩
theorem records_orders (a : Bat) (h0 : 0 ≤ a.fFirst) (h1 : a.fFirst ≤ 9223372036854775807) (hb : a.fRecords.length ≤ 1000000) (hw : ∀ r, r ∈ a.fRecords → wI r.fTime) : ∃ e, f_batch_records a = some e ∧ f_r11_orders a = some e := by
  unfold f_batch_records f_r11_orders f_r11_times
  rcases brec_l1 a h0 h1 0 a.fRecords (-1) a.fFirst hw with ⟨e, g1, g2⟩ | ⟨p', m', g1, g2⟩
  · rcases rord_l1 a h0 h1 hb 0 a.fRecords (-1) a.fFirst 0 (((a.fRecords.length : Int)).toNat + 1) rfl (by omega) (fun _ => rfl) (fun h => absurd h (by omega)) with ⟨e2, k1, k2⟩ | ⟨m2, z, k1, k2⟩
    · rw [g1] at k1
      injection k1 with k1
      subst k1
      exact ⟨e, by rw [g2]; rfl, by rw [k2]; rfl⟩
    · rw [g1] at k1
      exact nomatch k1
  · rcases rord_l1 a h0 h1 hb 0 a.fRecords (-1) a.fFirst 0 (((a.fRecords.length : Int)).toNat + 1) rfl (by omega) (fun _ => rfl) (fun h => absurd h (by omega)) with ⟨e2, k1, k2⟩ | ⟨m2, z, k1, k2⟩
    · rw [g1] at k1
      exact nomatch k1
    · obtain ⟨z2, hz2⟩ := rtim_l1 a h0 h1 hb 0 a.fRecords (-1) a.fFirst m' 0 (((a.fRecords.length : Int)).toNat + 1) rfl (by omega) g1 hw
      rw [g2, k2, hz2]
      simp only [Option.bind_some]
      by_cases ha : a.fAppend = true
      · exact ⟨0, by rw [if_pos ha], by rw [if_pos ha]⟩
      · rw [if_neg ha]
        by_cases hm : m' = a.fMax
        · exact ⟨0, by rw [if_pos hm], by rw [if_pos hm]⟩
        · exact ⟨11, by rw [if_neg hm], by rw [if_neg hm]⟩
def numOk (a : Bat) : Prop := 0 ≤ a.fBase ∧ (-1 ≤ a.fLeader ∧ a.fLeader ≤ 2147483647) ∧ (0 ≤ a.fLast ∧ a.fLast ≤ 2147483647) ∧ a.fBase + a.fLast ≤ 9223372036854775807 ∧ 0 ≤ a.fFirst ∧ 0 ≤ a.fMax
instance (a : Bat) : Decidable (numOk a) := by unfold numOk; infer_instance
theorem numbers_eq (a : Bat) (h1 : wI a.fBase) (h2 : wI a.fLeader) (h3 : wI a.fLast) : f_batch_numbers a = some (decide (numOk a)) := by
  obtain ⟨u1, u2⟩ := h1
  unfold f_batch_numbers
  rw [gFits_eq _ _ h2, gFits_eq _ _ h3, fits_4, fits_4, IntKind.wrap_i64]
  have no : ∀ {b : Bool}, ¬ numOk a → b = false → some b = some (decide (numOk a)) := fun h hb => by rw [decide_eq_false h, hb]
  by_cases c1 : a.fBase ≥ 0
  · rw [if_pos c1]
    by_cases c2 : a.fLeader ≥ -1
    · rw [if_pos c2, Option.bind_some]
      by_cases c3 : -2147483648 ≤ a.fLeader ∧ a.fLeader ≤ 2147483647
      · rw [if_pos (decide_eq_true c3)]
        by_cases c4 : a.fLast ≥ 0
        · rw [if_pos c4, Option.bind_some]
          by_cases c5 : -2147483648 ≤ a.fLast ∧ a.fLast ≤ 2147483647
          · rw [if_pos (decide_eq_true c5)]
            by_cases c6 : a.fBase + a.fLast ≤ 9223372036854775807
            · rw [if_pos (by omega)]
              by_cases c7 : a.fFirst ≥ 0
              · rw [if_pos c7]
                by_cases c8 : a.fMax ≥ 0
                · rw [if_pos c8, decide_eq_true (show numOk a from ⟨c1, ⟨c2, by omega⟩, ⟨c4, by omega⟩, c6, c7, c8⟩)]
                · rw [if_neg c8]; exact no (fun h => c8 h.2.2.2.2.2) rfl
              · rw [if_neg c7]; exact no (fun h => c7 h.2.2.2.2.1) rfl
            · rw [if_neg (by omega)]; exact no (fun h => c6 h.2.2.2.1) rfl
          · rw [if_neg (by rw [decide_eq_true_eq]; exact c5)]; exact no (fun h => by have := h.2.2.1; omega) rfl
        · rw [if_neg c4]; exact no (fun h => c4 h.2.2.1.1) rfl
      · rw [if_neg (by rw [decide_eq_true_eq]; exact c3)]; exact no (fun h => by have := h.2.1; omega) rfl
    · rw [if_neg c2]; exact no (fun h => c2 h.2.1.1) rfl
  · rw [if_neg c1]; exact no (fun h => c1 h.1) rfl
theorem int32s_eq (n k : Int) : f_r11_int32s n k = some (decide (k ≤ n ∧ n ≤ 2147483647)) := by
  unfold f_r11_int32s
  by_cases h1 : n ≥ k
  · rw [if_pos h1]
    by_cases h2 : n ≤ 2147483647
    · rw [if_pos h2, decide_eq_true ⟨h1, h2⟩]
    · rw [if_neg h2, decide_eq_false (fun h => h2 h.2)]
  · rw [if_neg h1, decide_eq_false (fun h => h1 h.1)]
def prodOk (a : Bat) : Prop := if a.fProducer = -1 then a.fEpoch = -1 ∧ a.fSequence = -1 ∧ a.fTxn = false else 0 ≤ a.fProducer ∧ (0 ≤ a.fEpoch ∧ a.fEpoch ≤ 32767) ∧ (if a.fControl = true then a.fSequence = -1 else 0 ≤ a.fSequence ∧ a.fSequence ≤ 2147483647)
instance (a : Bat) : Decidable (prodOk a) := by unfold prodOk; infer_instance
theorem b_fits_2 (n : Int) : fits n 2 = decide (-32768 ≤ n ∧ n ≤ 32767) := by
  rw [Bool.eq_iff_iff]
  unfold fits
  simp only [Bool.and_eq_true, decide_eq_true_eq]
  have : (2 : Int) ^ (8 * (2 : Int).toNat - 1) = 32768 := by decide
  omega
set_option maxHeartbeats 2000000 in
theorem producer_eq (a : Bat) (h1 : wI a.fEpoch) (h2 : wI a.fSequence) : f_batch_producer a = some (decide (prodOk a)) ∧ f_r11_producer a = some (decide (prodOk a)) := by
  unfold f_batch_producer f_r11_producer
  rw [gFits_eq _ _ h1, gFits_eq _ _ h2, fits_4, b_fits_2, int32s_eq]
  unfold prodOk
  obtain ⟨b0, b1, b2, tx, ct, b5, b6, b7, P, E, S, rs⟩ := a
  simp only
  clear h1 h2
  by_cases c1 : P = -1
  · simp only [if_pos c1]
    by_cases c2 : E = -1
    · simp only [if_pos c2]
      by_cases c3 : S = -1
      · simp only [if_pos c3]
        cases tx <;> simp [c2, c3]
      · simp [c3]
    · simp [c2]
  · simp only [if_neg c1, Option.bind_some]
    cases ct
    · simp only [Bool.false_eq_true, if_false]
      constructor
      · by_cases d1 : P ≥ 0
        · by_cases d2 : E ≥ 0
          · by_cases d3 : -32768 ≤ E ∧ E ≤ 32767
            · by_cases d4 : S ≥ 0
              · by_cases d5 : -2147483648 ≤ S ∧ S ≤ 2147483647
                · rw [if_pos d1, if_pos d2, if_pos (decide_eq_true d3), if_pos d4, if_pos (decide_eq_true d5), decide_eq_true (by omega)]
                · rw [if_pos d1, if_pos d2, if_pos (decide_eq_true d3), if_pos d4, if_neg (by rw [decide_eq_true_eq]; exact d5), decide_eq_false (by omega)]
              · rw [if_pos d1, if_pos d2, if_pos (decide_eq_true d3), if_neg d4, decide_eq_false (by omega)]
            · rw [if_pos d1, if_pos d2, if_neg (by rw [decide_eq_true_eq]; exact d3), decide_eq_false (by omega)]
          · rw [if_pos d1, if_neg d2, decide_eq_false (by omega)]
        · rw [if_neg d1, decide_eq_false (by omega)]
      · by_cases d1 : P < 0
        · rw [if_pos d1, decide_eq_false (by omega)]
        rw [if_neg d1]
        by_cases d2 : E < 0
        · rw [if_pos d2, decide_eq_false (by omega)]
        rw [if_neg d2]
        by_cases d3 : E > 32767
        · rw [if_pos d3, decide_eq_false (by omega)]
        rw [if_neg d3]
        by_cases d4 : 0 ≤ S ∧ S ≤ 2147483647
        · rw [decide_eq_true d4, decide_eq_true (by omega)]
        · rw [decide_eq_false d4, decide_eq_false (by omega)]
    · simp only [if_true]
      constructor
      · by_cases d1 : P ≥ 0
        · by_cases d2 : E ≥ 0
          · by_cases d3 : -32768 ≤ E ∧ E ≤ 32767
            · by_cases d4 : S ≥ -1
              · by_cases d5 : -2147483648 ≤ S ∧ S ≤ 2147483647
                · by_cases d6 : S = -1
                  · rw [if_pos d1, if_pos d2, if_pos (decide_eq_true d3), if_pos d4, if_pos (decide_eq_true d5), if_pos d6, decide_eq_true (by omega)]
                  · rw [if_pos d1, if_pos d2, if_pos (decide_eq_true d3), if_pos d4, if_pos (decide_eq_true d5), if_neg d6, decide_eq_false (by omega)]
                · rw [if_pos d1, if_pos d2, if_pos (decide_eq_true d3), if_pos d4, if_neg (by rw [decide_eq_true_eq]; exact d5), decide_eq_false (by omega)]
              · rw [if_pos d1, if_pos d2, if_pos (decide_eq_true d3), if_neg d4, decide_eq_false (by omega)]
            · rw [if_pos d1, if_pos d2, if_neg (by rw [decide_eq_true_eq]; exact d3), decide_eq_false (by omega)]
          · rw [if_pos d1, if_neg d2, decide_eq_false (by omega)]
        · rw [if_neg d1, decide_eq_false (by omega)]
      · by_cases d1 : P < 0
        · rw [if_pos d1, decide_eq_false (by omega)]
        rw [if_neg d1]
        by_cases d2 : E < 0
        · rw [if_pos d2, decide_eq_false (by omega)]
        rw [if_neg d2]
        by_cases d3 : E > 32767
        · rw [if_pos d3, decide_eq_false (by omega)]
        rw [if_neg d3]
        by_cases d4 : S = -1
        · rw [if_pos d4, decide_eq_true (by omega)]
        · rw [if_neg d4, decide_eq_false (by omega)]
theorem key_some (l : List UInt8) (hl : l.length ≤ 1000000) : ∃ x, f_control_ReadKey l = some x := by
  unfold f_control_ReadKey f_control_version
  simp only [gNew_eq l (by omega), gInt_eq, gClose_eq, gIFail_eq, Option.bind_some]
  generalize iint ⟨l, 0, 0⟩ 2 = x
  by_cases h : x.1 = 0
  · simp only [if_pos h, Option.bind_some]
    generalize iint x.2 2 = y
    split
    · split <;> exact ⟨_, rfl⟩
    · split
      · split <;> exact ⟨_, rfl⟩
      · split <;> exact ⟨_, rfl⟩
  · simp only [if_neg h, Option.bind_some]
    generalize iint (ifail x.2 7) 2 = y
    split
    · split <;> exact ⟨_, rfl⟩
    · split
      · split <;> exact ⟨_, rfl⟩
      · split <;> exact ⟨_, rfl⟩
theorem value_some (l : List UInt8) (hl : l.length ≤ 1000000) : ∃ x, f_control_ReadValue l = some x := by
  unfold f_control_ReadValue f_control_version
  simp only [gNew_eq l (by omega), gInt_eq, gClose_eq, gIFail_eq, Option.bind_some]
  generalize iint ⟨l, 0, 0⟩ 2 = x
  by_cases h : x.1 = 0
  · simp only [if_pos h, Option.bind_some]
    generalize iint x.2 4 = y
    split
    · split <;> exact ⟨_, rfl⟩
    · split <;> exact ⟨_, rfl⟩
  · simp only [if_neg h, Option.bind_some]
    generalize iint (ifail x.2 7) 4 = y
    split
    · split <;> exact ⟨_, rfl⟩
    · split <;> exact ⟨_, rfl⟩
theorem control_some (r : Rec) (h1 : r.fKey.data.length ≤ 1000000) (h2 : r.fValue.data.length ≤ 1000000) : ∃ x1 x2 x3, f_control_Read r = some (x1, x2, x3) := by
  obtain ⟨⟨k1, k2⟩, hk⟩ := key_some _ h1
  obtain ⟨⟨v1, v2⟩, hv⟩ := value_some _ h2
  unfold f_control_Read
  rw [hk, hv]
  simp only [Option.bind_some]
  split
  · exact ⟨_, _, _, rfl⟩
  split
  · exact ⟨_, _, _, rfl⟩
  split
  · exact ⟨_, _, _, rfl⟩
  split
  · split
    · split
      · exact ⟨_, _, _, rfl⟩
      · exact ⟨_, _, _, rfl⟩
    · exact ⟨_, _, _, rfl⟩
  · exact ⟨_, _, _, rfl⟩
def chkB (a : Bat) (cr e0 : Int) : Int := if numOk a then (if a.fControl = true then (if a.fTxn = true then (if prodOk a then (if (a.fRecords.length : Int) = 1 then (if firstR a.fRecords = 0 then (if cr = 0 then e0 else cr) else firstR a.fRecords) else 10) else 11) else 8) else (if prodOk a then (if firstR a.fRecords = 0 then e0 else firstR a.fRecords) else 11)) else 11
theorem bchk (a : Bat) (hw : wf_Bat a) (cr e0 : Int) (hc : numOk a → f_batch_records a = some e0) (hr : (a.fRecords.length : Int) = 1 → ∃ r x1 x2, a.fRecords[0]? = some r ∧ f_control_Read r = some (x1, x2, cr)) : f_batch_Check a = some (chkB a cr e0) := by
  obtain ⟨w1, w2, w3, w4, w5, w6, w7, w8, w9, w10, w11, w12⟩ := hw
  have hoff : ∀ r, r ∈ a.fRecords → wI r.fOffset := fun r h => (w12.2 r h).2.1
  unfold f_batch_Check chkB
  rw [numbers_eq a w1 w2 w6, (producer_eq a w10 w11).1, bcheck_l1 _ _ hoff, bcheck_l2 _ _ hoff]
  by_cases hn : numOk a
  · rw [decide_eq_true hn, Option.bind_some, if_pos rfl, if_pos hn, hc hn]
    by_cases hct : a.fControl = true
    · rw [if_pos hct, if_pos hct]
      by_cases ht : a.fTxn = true
      · rw [if_pos ht, if_pos ht, Option.bind_some]
        by_cases hp : prodOk a
        · rw [decide_eq_true hp, if_pos rfl, if_pos hp]
          by_cases hl : (a.fRecords.length : Int) = 1
          · obtain ⟨r, x1, x2, r1, r2⟩ := hr hl
            rw [if_pos hl, if_pos hl, r1]
            by_cases hf : firstR a.fRecords = 0
            · simp only [if_pos hf, Option.bind_some, r2]
              split <;> rfl
            · simp only [if_neg hf, Option.bind_some]
          · rw [if_neg hl, if_neg hl]
        · rw [decide_eq_false hp, if_neg (by decide), if_neg hp]
      · rw [if_neg ht, if_neg ht]
    · rw [if_neg hct, if_neg hct, Option.bind_some]
      by_cases hp : prodOk a
      · rw [decide_eq_true hp, if_pos rfl, if_pos hp]
        by_cases hf : firstR a.fRecords = 0
        · simp only [if_pos hf, Option.bind_some]
        · simp only [if_neg hf, Option.bind_some]
      · rw [decide_eq_false hp, if_neg (by decide), if_neg hp]
  · rw [decide_eq_false hn, Option.bind_some, if_neg (by decide), if_neg hn]
theorem rchk (a : Bat) (hw : wf_Bat a) (hb : a.fRecords.length ≤ 1000000) (hh : ∀ r, r ∈ a.fRecords → r.fHeaders.length ≤ 1000000) (cr e0 : Int) (hc : numOk a → f_r11_orders a = some e0) (hr : (a.fRecords.length : Int) = 1 → ∃ r x1 x2, a.fRecords[0]? = some r ∧ f_r08_Read r = some (x1, x2, cr)) : f_r11_Check a = some (chkB a cr e0) := by
  obtain ⟨w1, w2, w3, w4, w5, w6, w7, w8, w9, w10, w11, w12⟩ := hw
  obtain ⟨z, hz⟩ := rcheck_l1 a hb hh 0 a.fRecords 0 (((a.fRecords.length : Int)).toNat + 1) rfl (by omega)
  have b1 := w1.1
  have b2 := w1.2
  unfold f_r11_Check chkB
  rw [int32s_eq, int32s_eq, (producer_eq a w10 w11).2]
  simp only [rcheck_l2]
  rw [hz]
  by_cases hn : numOk a
  · obtain ⟨n1, n2, n3, n4, n5, n6⟩ := id hn
    rw [if_neg (show ¬ a.fBase < 0 by omega), decide_eq_true n2, Option.bind_some, if_pos rfl, decide_eq_true n3, Option.bind_some, if_pos rfl, if_pos (show -9223372036854775808 ≤ 9223372036854775807 - a.fBase ∧ 9223372036854775807 - a.fBase ≤ 9223372036854775807 by omega), if_neg (show ¬ a.fLast > 9223372036854775807 - a.fBase by omega), if_neg (show ¬ a.fFirst < 0 by omega), if_neg (show ¬ a.fMax < 0 by omega), if_pos hn, hc hn]
    by_cases hct : a.fControl = true
    · rw [if_pos hct, if_pos hct]
      by_cases ht : a.fTxn = true
      · rw [if_pos ht, if_pos ht, Option.bind_some]
        by_cases hp : prodOk a
        · rw [decide_eq_true hp, if_pos rfl, if_pos hp]
          by_cases hl : (a.fRecords.length : Int) = 1
          · obtain ⟨r, x1, x2, r1, r2⟩ := hr hl
            rw [if_pos hl, if_pos hl, r1]
            by_cases hf : firstR a.fRecords = 0
            · simp only [if_pos hf, Option.bind_some, r2]
              split <;> rfl
            · simp only [if_neg hf, Option.bind_some]
          · rw [if_neg hl, if_neg hl]
        · rw [decide_eq_false hp, if_neg (by decide), if_neg hp]
      · rw [if_neg ht, if_neg ht]
    · rw [if_neg hct, if_neg hct, Option.bind_some]
      by_cases hp : prodOk a
      · rw [decide_eq_true hp, if_pos rfl, if_pos hp]
        by_cases hf : firstR a.fRecords = 0
        · simp only [if_pos hf, Option.bind_some]
        · simp only [if_neg hf, Option.bind_some]
      · rw [decide_eq_false hp, if_neg (by decide), if_neg hp]
  · rw [if_neg hn]
    unfold numOk at hn
    by_cases c1 : a.fBase < 0
    · rw [if_pos c1]
    rw [if_neg c1, Option.bind_some]
    by_cases c2 : -1 ≤ a.fLeader ∧ a.fLeader ≤ 2147483647
    · rw [decide_eq_true c2, if_pos rfl, Option.bind_some]
      by_cases c3 : 0 ≤ a.fLast ∧ a.fLast ≤ 2147483647
      · rw [decide_eq_true c3, if_pos rfl, if_pos (show -9223372036854775808 ≤ 9223372036854775807 - a.fBase ∧ 9223372036854775807 - a.fBase ≤ 9223372036854775807 by omega)]
        by_cases c4 : a.fLast > 9223372036854775807 - a.fBase
        · rw [if_pos c4]
        rw [if_neg c4]
        by_cases c5 : a.fFirst < 0
        · rw [if_pos c5]
        rw [if_neg c5, if_pos (show a.fMax < 0 by omega)]
      · rw [decide_eq_false c3, if_neg (by decide)]
    · rw [decide_eq_false c2, if_neg (by decide)]
theorem check_same (a : Bat) (hw : wf_Bat a) (hb : a.fRecords.length ≤ 1000000) (hr : ∀ r, r ∈ a.fRecords → r.fHeaders.length ≤ 1000000 ∧ r.fKey.data.length ≤ 1000000 ∧ r.fValue.data.length ≤ 1000000) : ∃ cr e0, f_batch_Check a = some (chkB a cr e0) ∧ f_r11_Check a = some (chkB a cr e0) ∧ (numOk a → f_batch_records a = some e0) ∧ ((a.fRecords.length : Int) = 1 → ∃ r x1 x2, a.fRecords[0]? = some r ∧ f_control_Read r = some (x1, x2, cr) ∧ f_r08_Read r = some (x1, x2, cr)) := by
  have htim : ∀ r, r ∈ a.fRecords → wI r.fTime := fun r h => (hw.2.2.2.2.2.2.2.2.2.2.2.2 r h).1
  have hF := hw.2.2.2.2.2.2.1
  obtain ⟨e0, he⟩ : ∃ e0, numOk a → f_batch_records a = some e0 ∧ f_r11_orders a = some e0 := by
    by_cases hn : numOk a
    · obtain ⟨e0, h1, h2⟩ := records_orders a hn.2.2.2.2.1 hF.2 hb htim
      exact ⟨e0, fun _ => ⟨h1, h2⟩⟩
    · exact ⟨0, fun h => absurd h hn⟩
  obtain ⟨cr, hcr⟩ : ∃ cr, (a.fRecords.length : Int) = 1 → ∃ r x1 x2, a.fRecords[0]? = some r ∧ f_control_Read r = some (x1, x2, cr) ∧ f_r08_Read r = some (x1, x2, cr) := by
    by_cases hl : (a.fRecords.length : Int) = 1
    · obtain ⟨r, hrec⟩ : ∃ r, a.fRecords = [r] := List.length_eq_one_iff.1 (by omega)
      have h3 := hr r (by rw [hrec]; exact .head _)
      obtain ⟨x1, x2, x3, h4⟩ := control_some r h3.2.1 h3.2.2
      have h5 := read_control r (by omega) (by omega)
      exact ⟨x3, fun _ => ⟨r, x1, x2, by rw [hrec]; rfl, h4, by rw [← h5]; exact h4⟩⟩
    · exact ⟨0, fun h => absurd h hl⟩
  refine ⟨cr, e0, bchk a hw cr e0 (fun h => (he h).1) (fun h => ?_), rchk a hw hb (fun r h => (hr r h).1) cr e0 (fun h => (he h).2) (fun h => ?_), fun h => (he h).1, hcr⟩
  · obtain ⟨r, x1, x2, h1, h2, h3⟩ := hcr h
    exact ⟨r, x1, x2, h1, h2⟩
  · obtain ⟨r, x1, x2, h1, h2, h3⟩ := hcr h
    exact ⟨r, x1, x2, h1, h3⟩
end Go.Proofs.Ytcoppaggpbfcmaa.Sl
namespace Go.Proofs.Ytcoppaggpbfcmaa.Sl
open Go.RowKit
set_option linter.unusedVariables false
set_option linter.unusedSimpArgs false
abbrev Pr (α : Type) := List UInt8 → Nat → Except Int (α × Nat)
namespace Pr
variable {α β : Type}
def ret (a : α) : Pr α := fun _ q => .ok (a, q)
def err (e : Int) : Pr α := fun _ _ => .error e
def bind (p : Pr α) (f : α → Pr β) : Pr β := fun s q => match p s q with | .error e => .error e | .ok (a, r) => f a s r
theorem bind_ok {p : Pr α} {f : α → Pr β} {s : List UInt8} {q : Nat} {x : β × Nat} (h : p.bind f s q = .ok x) : ∃ a r, p s q = .ok (a, r) ∧ f a s r = .ok x := by
  unfold bind at h
  cases hp : p s q with
  | error e => rw [hp] at h; exact nomatch h
  | ok y => rw [hp] at h; exact ⟨_, _, rfl, h⟩
theorem bind_of {p : Pr α} {f : α → Pr β} {s : List UInt8} {q r : Nat} {a : α} (h : p s q = .ok (a, r)) : p.bind f s q = f a s r := by unfold bind; rw [h]
theorem bind_err {p : Pr α} {f : α → Pr β} {s : List UInt8} {q : Nat} {e : Int} (h : p s q = .error e) : p.bind f s q = .error e := by unfold bind; rw [h]
end Pr
structure CR {α : Type} (op : I → Option (α × I)) (p : Pr α) (z : α) : Prop where
  dead : ∀ st : I, st.err ≠ 0 → op st = some (z, st)
  bad : ∀ (s : List UInt8) (q : Nat) (e : Int), q ≤ s.length → p s q = .error e → ∃ st : I, op ⟨s.drop q, q, 0⟩ = some (z, st) ∧ st.err = e ∧ e ≠ 0
  good : ∀ (s : List UInt8) (q : Nat) (a : α) (r : Nat), q ≤ s.length → p s q = .ok (a, r) → op ⟨s.drop q, q, 0⟩ = some (a, ⟨s.drop r, r, 0⟩)
structure Sp {α : Type} (p : Pr α) (enc : α → List UInt8) (ok : α → Prop) : Prop where
  spell : ∀ (s : List UInt8) (q : Nat) (a : α) (r : Nat), q ≤ s.length → p s q = .ok (a, r) → q ≤ r ∧ r ≤ s.length ∧ r = q + (enc a).length ∧ s.take r = s.take q ++ enc a ∧ ok a
  back : ∀ (s t : List UInt8) (q : Nat) (a : α), q ≤ s.length → ok a → s.drop q = enc a ++ t → p s q = .ok (a, q + (enc a).length)
theorem drop_step {s x t : List UInt8} {q : Nat} (h : s.drop q = x ++ t) : s.drop (q + x.length) = t := by rw [← List.drop_drop, h, List.drop_left]
theorem take_step (s : List UInt8) (q k : Nat) : s.take (q + k) = s.take q ++ (s.drop q).take k := List.take_add
theorem c_be_snoc (q : Int) (c : UInt8) (k : Nat) : be (q * 256 + c.toNat) (k + 1) = be q k ++ [c] := by
  have hc := c.toNat_lt
  unfold be
  rw [List.range_succ, List.map_append]
  congr 1
  · apply List.map_congr_left
    intro i hi
    have hi := List.mem_range.1 hi
    have e : k + 1 - 1 - i = (k - 1 - i) + 1 := by omega
    have e2 : (q * 256 + (c.toNat : Int)) / 256 = q := by omega
    rw [e, show 8 * (k - 1 - i + 1) = 8 + 8 * (k - 1 - i) by omega, Int.pow_add, ← Int.ediv_ediv_of_nonneg (by decide), show (2 ^ 8 : Int) = 256 from rfl, e2]
  · simp only [List.map_cons, List.map_nil, Nat.add_sub_cancel, Nat.sub_self, Nat.mul_zero, Int.pow_zero, Int.ediv_one]
    congr 1
    apply UInt8.toNat_inj.1
    simp [UInt8.toNat_ofNat']
    omega
theorem c_be_fold (cs : List UInt8) : ∀ (q : Int) (k : Nat), be (cs.foldl (fun n d => n * 256 + (d.toNat : Int)) q) (k + cs.length) = be q k ++ cs := by
  induction cs with
  | nil => intro q k; simp
  | cons c cs ih =>
    intro q k
    have h := ih (q * 256 + c.toNat) (k + 1)
    rw [c_be_snoc] at h
    rw [List.foldl_cons, List.length_cons, show k + (cs.length + 1) = k + 1 + cs.length by omega, h]
    simp
theorem c_be_sgn (c : UInt8) : be (sgn c) 1 = [c] := by
  have hc := c.toNat_lt
  unfold be
  simp only [List.range_one, List.map_cons, List.map_nil, Nat.sub_self, Nat.mul_zero, Int.pow_zero, Int.ediv_one]
  congr 1
  apply UInt8.toNat_inj.1
  unfold sgn
  simp [UInt8.toNat_ofNat']
  split <;> omega
theorem c_be_beInt (l : List UInt8) (h : l ≠ []) : be (beInt l) l.length = l := by
  cases l with
  | nil => exact absurd rfl h
  | cons c cs =>
    have h := c_be_fold cs (sgn c) 1
    rw [c_be_sgn] at h
    rw [List.length_cons, Nat.add_comm]
    exact h
def pInt (k : Nat) : Pr Int := fun s q => if s.length < q + k then .error 1 else .ok (beInt ((s.drop q).take k), q + k)
theorem CR_int (k : Nat) (h1 : 1 ≤ k) (h8 : k ≤ 8) (kk : Int) (hk : kk = (k : Int)) : CR (fun st => gInt st kk) (pInt k) 0 := by
  subst hk
  refine ⟨fun st h => ?_, fun s q e hq h => ?_, fun s q a r hq h => ?_⟩
  · rw [gInt_eq, iint_err h]
  · unfold pInt at h
    split at h
    · rename_i hl
      injection h with h
      subst h
      refine ⟨⟨s.drop q, q, 1⟩, ?_, rfl, by decide⟩
      simp only [gInt_eq]
      rw [iint_short _ _ _ (by omega) (by omega) (by rw [List.length_drop]; omega)]
    · exact nomatch h
  · unfold pInt at h
    split at h
    · exact nomatch h
    · rename_i hl
      injection h with h
      obtain ⟨rfl, rfl⟩ := Prod.mk.inj h
      simp only [gInt_eq]
      rw [iint_ok _ _ _ h1 h8 (by rw [List.length_drop]; omega), List.drop_drop]
theorem Sp_int (k : Nat) (h1 : 1 ≤ k) (h8 : k ≤ 8) : Sp (pInt k) (fun n => be n k) (fun n => fits n k = true) := by
  refine ⟨fun s q a r hq h => ?_, fun s t q a hq ha h => ?_⟩
  · unfold pInt at h
    split at h
    · exact nomatch h
    · rename_i hl
      injection h with h
      obtain ⟨rfl, rfl⟩ := Prod.mk.inj h
      have hn : ((s.drop q).take k).length = k := by rw [List.length_take, List.length_drop]; omega
      have hne : (s.drop q).take k ≠ [] := fun h0 => by rw [h0] at hn; simp at hn; omega
      have hb : be (beInt ((s.drop q).take k)) k = (s.drop q).take k := by
        have := c_be_beInt _ hne
        rwa [hn] at this
      refine ⟨by omega, by omega, by rw [be_length], by rw [hb, take_step], ?_⟩
      rw [← be_fits _ _ h1 h8, hb]
  · have hl := congrArg List.length h
    rw [List.length_drop, List.length_append, be_length] at hl
    unfold pInt
    rw [if_neg (by omega), h, List.take_append_of_le_length (by rw [be_length]; omega), List.take_of_length_le (by rw [be_length]; omega), be_length, beInt_be _ _ h1 h8 ha]
def pGot (n : Int) : Pr Bl := fun s q => if n = -1 then .ok (⟨true, []⟩, q) else if n < 0 then .error 4 else if (s.length : Int) < q + n then .error 1 else .ok (⟨false, (s.drop q).take n.toNat⟩, q + n.toNat)
theorem bread_pGot (n : Int) (s : List UInt8) (q : Nat) (hq : q ≤ s.length) :
    (∃ e st, pGot n s q = .error e ∧ bread ⟨s.drop q, q, 0⟩ n = (⟨false, []⟩, st) ∧ st.err = e ∧ e ≠ 0) ∨ (∃ b r, pGot n s q = .ok (b, r) ∧ bread ⟨s.drop q, q, 0⟩ n = (b, ⟨s.drop r, r, 0⟩) ∧ q ≤ r ∧ r ≤ s.length ∧ blen b = n ∧ bright b = true ∧ s.take r = s.take q ++ b.data ∧ r = q + b.data.length) := by
  have hd : (s.drop q).length = s.length - q := List.length_drop
  unfold pGot bread
  rw [if_neg (show ¬ ((⟨s.drop q, q, 0⟩ : I).err ≠ 0) by simp)]
  by_cases h1 : n = -1
  · rw [if_pos h1, if_pos h1]
    exact .inr ⟨_, _, rfl, rfl, Nat.le_refl _, hq, h1.symm, rfl, by simp, rfl⟩
  rw [if_neg h1, if_neg h1]
  by_cases h2 : n < 0
  · rw [if_pos h2, itake_neg _ _ _ h2]
    exact .inl ⟨_, _, rfl, rfl, rfl, by decide⟩
  rw [if_neg h2]
  by_cases h3 : (s.length : Int) < q + n
  · rw [if_pos h3, itake_short _ _ _ (by omega)]
    exact .inl ⟨_, _, rfl, rfl, rfl, by decide⟩
  rw [if_neg h3]
  obtain ⟨m, rfl⟩ : ∃ m : Nat, n = (m : Int) := ⟨n.toNat, by omega⟩
  rw [Int.toNat_natCast, itake_ok _ _ _ (by omega), List.drop_drop]
  have hl : ((s.drop q).take m).length = m := by rw [List.length_take]; omega
  exact .inr ⟨_, _, rfl, rfl, by omega, by omega, by unfold blen; simp only [Bool.false_eq_true, if_false]; rw [hl], rfl, take_step s q m, by rw [hl]⟩
theorem CR_got {lenop : I → Int × I} {p : Pr Int} (hl : CR (fun st => some (lenop st)) p 0) (hs : ∀ s q a r, q ≤ s.length → p s q = .ok (a, r) → r ≤ s.length) : CR (fun st => some (bread (lenop st).2 (lenop st).1)) (p.bind pGot) (⟨false, []⟩ : Bl) := by
  refine ⟨fun st h => ?_, fun s q e hq h => ?_, fun s q a r hq h => ?_⟩
  · have h0 := Option.some.inj (hl.dead st h)
    rw [h0, bread_err h]
  · cases hp : p s q with
    | error e' =>
      rw [Pr.bind_err hp] at h
      injection h with h
      subst h
      obtain ⟨st, h1, h2, h3⟩ := hl.bad s q e' hq hp
      have h0 := Option.some.inj h1
      rw [h0, bread_err (by simp only [h2]; exact h3)]
      exact ⟨st, rfl, h2, h3⟩
    | ok x =>
      obtain ⟨n, m⟩ := x
      rw [Pr.bind_of hp] at h
      have h0 := Option.some.inj (hl.good s q n m hq hp)
      rw [h0]
      rcases bread_pGot n s m (hs _ _ _ _ hq hp) with ⟨e', st, g1, g2, g3, g4⟩ | ⟨b, r, g1, g2, _⟩
      · rw [g1] at h
        injection h with h
        subst h
        exact ⟨st, by rw [g2], g3, g4⟩
      · rw [g1] at h
        exact nomatch h
  · obtain ⟨n, m, hp, h⟩ := Pr.bind_ok h
    have h0 := Option.some.inj (hl.good s q n m hq hp)
    rw [h0]
    rcases bread_pGot n s m (hs _ _ _ _ hq hp) with ⟨e', st, g1, g2, g3, g4⟩ | ⟨b, r', g1, g2, _⟩
    · rw [g1] at h
      exact nomatch h
    · rw [g1] at h
      injection h with h
      obtain ⟨rfl, rfl⟩ := Prod.mk.inj h
      rw [g2]
theorem Sp_got {p : Pr Int} {enc : Int → List UInt8} {ok : Int → Prop} (hp : Sp p enc ok) : Sp (p.bind pGot) (fun b => enc (blen b) ++ b.data) (fun b => ok (blen b) ∧ bright b = true) := by
  refine ⟨fun s q a r hq h => ?_, fun s t q a hq ha h => ?_⟩
  · obtain ⟨n, m, h1, h⟩ := Pr.bind_ok h
    obtain ⟨a1, a2, a3, a4, a5⟩ := hp.spell _ _ _ _ hq h1
    rcases bread_pGot n s m a2 with ⟨e', st, g1, g2, g3, g4⟩ | ⟨b, r', g1, g2, b1, b2, b3, b4, b5, b6⟩
    · rw [g1] at h
      exact nomatch h
    · rw [g1] at h
      injection h with h
      obtain ⟨rfl, rfl⟩ := Prod.mk.inj h
      refine ⟨by omega, b2, by rw [List.length_append, b3]; omega, by rw [b5, a4, b3, List.append_assoc], by rw [b3]; exact a5, b4⟩
  · rw [List.append_assoc] at h
    have h1 := hp.back s _ q _ hq ha.1 h
    rw [Pr.bind_of h1, List.length_append, ← Nat.add_assoc]
    have h2 := drop_step h
    have hl := congrArg List.length h
    rw [List.length_drop, List.length_append, List.length_append] at hl
    generalize (enc (blen a)).length = m at h2 hl ⊢
    obtain ⟨nu, d⟩ := a
    unfold pGot blen
    cases nu with
    | true =>
      have : d = [] := by have := ha.2; unfold bright at this; simpa using this
      subst this
      rw [if_pos rfl, if_pos rfl]
      rfl
    | false =>
      simp only [Bool.false_eq_true, if_false]
      simp only at h2 hl
      rw [if_neg (by omega), if_neg (by omega), h2, if_neg (by omega), Int.toNat_natCast, List.take_left]
theorem c_vgo_shift (bs : Int) (a : Nat) : ∀ (l : List UInt8) (b acc i : Nat), vgo bs l (a + b) acc i = ((vgo bs l b acc i).1, ⟨(vgo bs l b acc i).2.rest, a + (vgo bs l b acc i).2.pos, (vgo bs l b acc i).2.err⟩)
  | [], b, acc, i => rfl
  | c :: l, b, acc, i => by
    have ih := c_vgo_shift bs a l (b + 1) (acc + c.toNat % 128 * 2 ^ (7 * i)) (i + 1)
    unfold vgo
    split
    · rfl
    · split
      · rw [Nat.add_assoc, ih]
      · split
        · rfl
        · rfl
theorem c_vgo_zero (bs : Int) : ∀ (l : List UInt8) (b acc i : Nat), (vgo bs l b acc i).2.err ≠ 0 → (vgo bs l b acc i).1 = 0
  | [], b, acc, i, h => rfl
  | c :: l, b, acc, i, h => by
    have ih := c_vgo_zero bs l (b + 1) (acc + c.toNat % 128 * 2 ^ (7 * i)) (i + 1)
    revert h
    unfold vgo
    split
    · exact fun _ => rfl
    · split
      · exact ih
      · split
        · exact fun _ => rfl
        · exact fun h => absurd rfl h
def pVnat (bs : Int) : Pr Nat := fun s q => if (vgo bs (s.drop q) 0 0 0).2.err = 0 then .ok ((vgo bs (s.drop q) 0 0 0).1, q + (vgo bs (s.drop q) 0 0 0).2.pos) else .error (vgo bs (s.drop q) 0 0 0).2.err
theorem vnat_good {bs : Int} {s : List UInt8} {q n r : Nat} (hq : q ≤ s.length) (h : pVnat bs s q = .ok (n, r)) : vread bs ⟨s.drop q, q, 0⟩ = (n, ⟨s.drop r, r, 0⟩) ∧ q ≤ r ∧ r ≤ s.length ∧ r = q + (vput n).length ∧ s.take r = s.take q ++ vput n := by
  have hd : (s.drop q).length = s.length - q := List.length_drop
  unfold pVnat at h
  split at h
  · rename_i he
    injection h with h
    obtain ⟨h1, h2⟩ := Prod.mk.inj h
    obtain ⟨k, v, g1, g2, g3, g4, _⟩ := vgo_ok bs (s.drop q) 0 0 0 _ _ (rfl : _ = ((vgo bs (s.drop q) 0 0 0).1, (vgo bs (s.drop q) 0 0 0).2)) he
    have g3' : (vgo bs (s.drop q) 0 0 0).1 = v := by rw [g3]; simp
    rw [g3'] at h1
    subst h1
    rw [g1] at h2
    simp only [Nat.zero_add] at h2
    have hlk : (vput v).length = k := by rw [g4, List.length_take]; omega
    refine ⟨?_, by omega, by omega, by omega, ?_⟩
    · unfold vread
      rw [if_neg (by simp)]
      have := c_vgo_shift bs q (s.drop q) 0 0 0
      rw [Nat.add_zero] at this
      simp only
      rw [this, g3', g1, ← h2, List.drop_drop]
      simp
    · rw [← h2, take_step, g4]
  · exact nomatch h
theorem vnat_bad {bs : Int} {s : List UInt8} {q : Nat} {e : Int} (h : pVnat bs s q = .error e) : ∃ st, vread bs ⟨s.drop q, q, 0⟩ = (0, st) ∧ st.err = e ∧ e ≠ 0 := by
  unfold pVnat at h
  split at h
  · exact nomatch h
  · rename_i he
    injection h with h
    subst h
    have h0 := c_vgo_zero bs (s.drop q) 0 0 0 he
    refine ⟨(vread bs ⟨s.drop q, q, 0⟩).2, ?_, ?_, he⟩
    · unfold vread
      rw [if_neg (by simp)]
      have := c_vgo_shift bs q (s.drop q) 0 0 0
      rw [Nat.add_zero] at this
      simp only
      rw [this, h0]
    · unfold vread
      rw [if_neg (by simp)]
      have := c_vgo_shift bs q (s.drop q) 0 0 0
      rw [Nat.add_zero] at this
      simp only
      rw [this]
theorem vread_dead {bs : Int} {st : I} (h : st.err ≠ 0) : vread bs st = (0, st) := if_pos h
theorem c_vgo_lt (bs : Int) (hb : bs = 32 ∨ bs = 64) : ∀ (l : List UInt8) (b acc i : Nat), acc < 2 ^ (7 * i) → (vgo bs l b acc i).2.err = 0 → (vgo bs l b acc i).1 < 2 ^ bs.toNat
  | [], b, acc, i, ha, h => by simp [vgo] at h
  | c :: l, b, acc, i, ha, h => by
    have ih := c_vgo_lt bs hb l (b + 1) (acc + c.toNat % 128 * 2 ^ (7 * i)) (i + 1)
    revert h
    unfold vgo
    split
    · exact fun h => absurd h (by simp)
    · rename_i hc
      obtain ⟨h1, h2⟩ := vacc_lt bs hb acc (c.toNat % 128) i ha (by omega) (Nat.mod_lt _ (by decide)) (fun h => hc (.inr h))
      split
      · exact ih h1
      · split
        · exact fun h => absurd h (by simp)
        · exact fun _ => h2
theorem Sp_vnat (bs : Int) (hb : bs = 32 ∨ bs = 64) : Sp (pVnat bs) vput (fun n => n < 2 ^ bs.toNat) := by
  refine ⟨fun s q a r hq h => ?_, fun s t q a hq ha h => ?_⟩
  · obtain ⟨h1, h2, h3, h4, h5⟩ := vnat_good hq h
    refine ⟨h2, h3, h4, h5, ?_⟩
    unfold pVnat at h
    split at h
    · rename_i he
      injection h with h
      rw [← (Prod.mk.inj h).1]
      exact c_vgo_lt bs hb _ _ _ _ (by simp) he
    · exact nomatch h
  · unfold pVnat
    rw [h, vgo_put bs (by omega) a 0 0 0 t (by simpa using ha) (by omega)]
    simp
def pVint (bs : Int) : Pr Int := (pVnat bs).bind fun n => .ret (vback n)
theorem CR_vint (bs : Int) (hb : bs = 32 ∨ bs = 64) : CR (fun st => some (vbackI (vread bs st))) (pVint bs) 0 := by
  refine ⟨fun st h => ?_, fun s q e hq h => ?_, fun s q a r hq h => ?_⟩
  · rw [vread_dead h]
    simp [vbackI, vback]
  · cases hp : pVnat bs s q with
    | error e' =>
      rw [pVint, Pr.bind_err hp] at h
      injection h with h
      subst h
      obtain ⟨st, h1, h2, h3⟩ := vnat_bad hp
      exact ⟨st, by rw [h1]; simp [vbackI, vback], h2, h3⟩
    | ok x =>
      rw [pVint, Pr.bind_of (a := x.1) (r := x.2) hp] at h
      exact nomatch h
  · obtain ⟨n, m, hp, h⟩ := Pr.bind_ok h
    injection h with h
    obtain ⟨rfl, rfl⟩ := Prod.mk.inj h
    rw [(vnat_good hq hp).1]
    rfl
theorem Sp_vint (bs : Int) (hb : bs = 32 ∨ bs = 64) : Sp (pVint bs) (fun n => vput (vfold n)) (fun n => vfold n < 2 ^ bs.toNat) := by
  refine ⟨fun s q a r hq h => ?_, fun s t q a hq ha h => ?_⟩
  · obtain ⟨n, m, hp, h⟩ := Pr.bind_ok h
    injection h with h
    obtain ⟨rfl, rfl⟩ := Prod.mk.inj h
    have := (Sp_vnat bs hb).spell _ _ _ _ hq hp
    rwa [vfold_back]
  · rw [pVint, Pr.bind_of ((Sp_vnat bs hb).back s t q _ hq ha h)]
    simp only [Pr.ret, vback_fold]
def pVaried : Pr Bl := (pVint 32).bind pGot
theorem CR_varied : CR gVaried pVaried (⟨false, []⟩ : Bl) :=
  CR_got (lenop := fun st => vbackI (vread 32 st)) (CR_vint 32 (.inl rfl)) (fun s q a r hq h => ((Sp_vint 32 (.inl rfl)).spell s q a r hq h).2.1)
theorem Sp_varied : Sp pVaried (fun b => vput (vfold (blen b)) ++ b.data) (fun b => vfold (blen b) < 2 ^ (32 : Int).toNat ∧ bright b = true) := Sp_got (Sp_vint 32 (.inl rfl))
def pMust (p : Pr Bl) : Pr (List UInt8) := p.bind fun b => if b.null then .err 4 else .ret b.data
theorem CR_must {op : I → Bl × I} {p : Pr Bl} (h : CR (fun st => some (op st)) p (⟨false, []⟩ : Bl)) (hb : ∀ s q a r, q ≤ s.length → p s q = .ok (a, r) → bright a = true) : CR (fun st => some (bmust (op st))) (pMust p) [] := by
  refine ⟨fun st hs => ?_, fun s q e hq he => ?_, fun s q a r hq hg => ?_⟩
  · have h0 := Option.some.inj (h.dead st hs)
    rw [h0]
    rfl
  · cases hp : p s q with
    | error e' =>
      rw [pMust, Pr.bind_err hp] at he
      injection he with he
      subst he
      obtain ⟨st, h1, h2, h3⟩ := h.bad s q _ hq hp
      have h0 := Option.some.inj h1
      rw [h0]
      exact ⟨st, rfl, h2, h3⟩
    | ok x =>
      obtain ⟨b, r⟩ := x
      rw [pMust, Pr.bind_of hp] at he
      have h0 := Option.some.inj (h.good s q b r hq hp)
      rw [h0]
      have hbr := hb _ _ _ _ hq hp
      split at he
      · rename_i hn
        injection he with he
        subst he
        have : b.data = [] := by unfold bright at hbr; rw [hn] at hbr; simpa using hbr
        refine ⟨⟨s.drop r, r, 4⟩, ?_, rfl, by decide⟩
        unfold bmust
        simp only [hn, if_true, this]
        rfl
      · exact nomatch he
  · obtain ⟨b, m, hp, hg⟩ := Pr.bind_ok hg
    have h0 := Option.some.inj (h.good s q b m hq hp)
    rw [h0]
    split at hg
    · exact nomatch hg
    · rename_i hn
      injection hg with hg
      obtain ⟨rfl, rfl⟩ := Prod.mk.inj hg
      unfold bmust
      simp only [hn, Bool.false_eq_true, if_false]
theorem Sp_must {p : Pr Bl} {enc : Bl → List UInt8} {ok : Bl → Prop} (hp : Sp p enc ok) : Sp (pMust p) (fun d => enc ⟨false, d⟩) (fun d => ok ⟨false, d⟩) := by
  refine ⟨fun s q a r hq h => ?_, fun s t q a hq ha h => ?_⟩
  · obtain ⟨b, m, h1, h⟩ := Pr.bind_ok h
    have h2 := hp.spell _ _ _ _ hq h1
    split at h
    · exact nomatch h
    · rename_i hn
      injection h with h
      obtain ⟨rfl, rfl⟩ := Prod.mk.inj h
      obtain ⟨nu, d⟩ := b
      simp only [Bool.not_eq_true] at hn
      subst hn
      exact h2
  · rw [pMust, Pr.bind_of (hp.back s t q _ hq ha h)]
    rfl
def pName : Pr (List UInt8) := pMust pVaried
theorem CR_name : CR gName pName [] := CR_must (op := bvaried) CR_varied (fun s q a r hq h => (Sp_varied.spell s q a r hq h).2.2.2.2.2)
theorem Sp_name : Sp pName (fun d => vput (vfold (d.length : Int)) ++ d) (fun d => vfold (d.length : Int) < 2 ^ (32 : Int).toNat ∧ bright ⟨false, d⟩ = true) := Sp_must Sp_varied
theorem oput_z (t l : List UInt8) : oput (t, 0) l = (t ++ l, 0) := rfl
theorem ofail_z (t : List UInt8) (e : Int) : ofail (t, 0) e = (t, e) := rfl
theorem fits_rng {n k : Int} (h : fits n k = true) : -9223372036854775808 ≤ n ∧ n ≤ 9223372036854775807 := by
  unfold fits at h
  simp only [Bool.and_eq_true, decide_eq_true_eq] at h
  obtain ⟨⟨⟨h1, h2⟩, h3⟩, h4⟩ := h
  have : (2 : Nat) ^ (8 * k.toNat - 1) ≤ 2 ^ 63 := Nat.pow_le_pow_right (by decide) (by omega)
  have h5 : ((2 : Int) ^ (8 * k.toNat - 1)) = ((2 ^ (8 * k.toNat - 1) : Nat) : Int) := by simp
  have h6 : (2 : Nat) ^ 63 = 9223372036854775808 := by decide
  omega
theorem gOInt_z {t : List UInt8} {n k : Int} (hf : fits n k = true) (ht : t.length ≤ 140737488355320) : gOInt (t, 0) n k = some (t ++ be n k.toNat, 0) := by
  rw [gOInt_eq _ _ _ ⟨fits_rng hf, by simp only; omega⟩]
  unfold oint
  rw [if_pos hf, oput_z]
theorem gPutVaried_z {t : List UInt8} {b : Bl} (hb : bright b = true) (hl : b.data.length ≤ 2147483647) (ht : t.length + b.data.length ≤ 140737488355310) : gPutVaried (t, 0) b = some (t ++ (vput (vfold (blen b)) ++ b.data), 0) := by
  rw [gPutVaried_eq _ _ (by simp only; omega)]
  unfold bputVaried bwrite vputInt
  rw [if_pos hb, if_pos (by unfold blen; split <;> omega), oput_z, oput_z, List.append_assoc]
structure CQ {α : Type} (op : I → Option (α × I)) (p : Pr α) (z : α) : Prop where
  dead : ∀ st : I, st.err ≠ 0 → op st = some (z, st)
  run : ∀ (s : List UInt8) (q : Nat), q ≤ s.length → (∃ (e : Int) (st : I), p s q = .error e ∧ op ⟨s.drop q, q, 0⟩ = some (z, st) ∧ st.err = e ∧ st.err ≠ 0) ∨ (∃ (a : α) (r : Nat), p s q = .ok (a, r) ∧ op ⟨s.drop q, q, 0⟩ = some (a, ⟨s.drop r, r, 0⟩) ∧ q ≤ r ∧ r ≤ s.length)
theorem CR.cq {α : Type} {op : I → Option (α × I)} {p : Pr α} {z : α} {enc : α → List UInt8} {ok : α → Prop} (h : CR op p z) (hs : Sp p enc ok) : CQ op p z := by
  refine ⟨h.dead, fun s q hq => ?_⟩
  cases hp : p s q with
  | error e =>
    obtain ⟨st, h1, h2, h3⟩ := h.bad s q e hq hp
    exact .inl ⟨e, st, rfl, h1, h2, by rw [h2]; exact h3⟩
  | ok x =>
    have := hs.spell s q x.1 x.2 hq hp
    exact .inr ⟨x.1, x.2, rfl, h.good s q x.1 x.2 hq hp, this.1, this.2.1⟩
theorem Q_int (k : Nat) (h1 : 1 ≤ k) (h8 : k ≤ 8) (kk : Int) (hk : kk = (k : Int)) : CQ (fun st => gInt st kk) (pInt k) 0 := (CR_int k h1 h8 kk hk).cq (Sp_int k h1 h8)
theorem Q1 : CQ (fun st => gInt st 1) (pInt 1) 0 := Q_int 1 (by decide) (by decide) 1 rfl
theorem Q2 : CQ (fun st => gInt st 2) (pInt 2) 0 := Q_int 2 (by decide) (by decide) 2 rfl
theorem Q4 : CQ (fun st => gInt st 4) (pInt 4) 0 := Q_int 4 (by decide) (by decide) 4 rfl
theorem Q8 : CQ (fun st => gInt st 8) (pInt 8) 0 := Q_int 8 (by decide) (by decide) 8 rfl
theorem ifail_z (l : List UInt8) (q : Nat) (e : Int) : ifail ⟨l, q, 0⟩ e = ⟨l, q, e⟩ := rfl
theorem QV : CQ gVaried pVaried (⟨false, []⟩ : Bl) := CR_varied.cq Sp_varied
theorem QN : CQ gName pName [] := CR_name.cq Sp_name
theorem gClose_z (q : Nat) : gClose ⟨[], q, 0⟩ = some (0, ⟨[], q, 0⟩) := rfl
theorem otx_z (t : List UInt8) : otx (t, 0) = (t, 0) := by simp [otx]
end Go.Proofs.Ytcoppaggpbfcmaa.Sl
namespace Go.Proofs.Ytcoppaggpbfcmaa.Sl
open Go.RowKit
set_option linter.unusedVariables false
set_option linter.unusedSimpArgs false
def shift {α : Type} (q : Nat) : Except Int (α × Nat) → Except Int (α × Nat)
  | .error e => .error e
  | .ok (a, r) => .ok (a, q + r)
def Sh {α : Type} (p : Pr α) : Prop := ∀ (s : List UInt8) (q k : Nat), q + k ≤ s.length → p s (q + k) = shift q (p (s.drop q) k)
theorem Sh.ret {α : Type} (a : α) : Sh (Pr.ret a) := fun s q k h => rfl
theorem Sh.err {α : Type} (e : Int) : Sh (Pr.err e : Pr α) := fun s q k h => rfl
theorem Sh.bind {α β : Type} {p : Pr α} {f : α → Pr β} {enc : α → List UInt8} {ok : α → Prop} (hp : Sh p) (hs : Sp p enc ok) (hf : ∀ a, Sh (f a)) : Sh (p.bind f) := by
  intro s q k h
  unfold Pr.bind
  rw [hp s q k h]
  cases hx : p (s.drop q) k with
  | error e => rfl
  | ok x =>
    have := (hs.spell (s.drop q) k x.1 x.2 (by rw [List.length_drop]; omega) hx).2.1
    rw [List.length_drop] at this
    exact hf x.1 s q x.2 (by omega)
theorem Sh.zero {α : Type} {p : Pr α} (h : Sh p) {s : List UInt8} {q : Nat} (hq : q ≤ s.length) : p s q = shift q (p (s.drop q) 0) := h s q 0 hq
def pLeft (each : Nat) (n : Int) : Pr Int := fun s q => if n < 0 then .error 4 else if 0 < each ∧ ((s.length - q : Nat) : Int) / each < n then .error 1 else .ok (n, q)
def pRep {α : Type} (p : Pr α) : Nat → Pr (List α)
  | 0 => .ret []
  | n + 1 => p.bind fun a => (pRep p n).bind fun l => .ret (a :: l)
def encs {α : Type} (enc : α → List UInt8) : List α → List UInt8
  | [] => []
  | a :: l => enc a ++ encs enc l
theorem Sp_rep {α : Type} {p : Pr α} {enc : α → List UInt8} {ok : α → Prop} (hp : Sp p enc ok) : ∀ n : Nat, Sp (pRep p n) (encs enc) (fun l => l.length = n ∧ ∀ x, x ∈ l → ok x)
  | 0 => by
    refine ⟨fun s q a r hq h => ?_, fun s t q a hq ha h => ?_⟩
    · injection h with h
      obtain ⟨rfl, rfl⟩ := Prod.mk.inj h
      exact ⟨Nat.le_refl _, hq, rfl, by simp [encs], rfl, fun x h => nomatch h⟩
    · obtain rfl := List.length_eq_zero_iff.1 ha.1
      rfl
  | n + 1 => by
    have ih := Sp_rep hp n
    refine ⟨fun s q a r hq h => ?_, fun s t q a hq ha h => ?_⟩
    · obtain ⟨x, q1, h1, h⟩ := Pr.bind_ok h
      obtain ⟨l, q2, h2, h⟩ := Pr.bind_ok h
      injection h with h
      obtain ⟨rfl, rfl⟩ := Prod.mk.inj h
      obtain ⟨a1, a2, a3, a4, a5⟩ := hp.spell _ _ _ _ hq h1
      obtain ⟨b1, b2, b3, b4, b5, b6⟩ := ih.spell _ _ _ _ a2 h2
      refine ⟨by omega, b2, by rw [encs, List.length_append]; omega, by rw [b4, a4, encs, List.append_assoc], by rw [List.length_cons, b5], fun y hy => ?_⟩
      rcases List.mem_cons.1 hy with rfl | hy
      · exact a5
      · exact b6 y hy
    · obtain ⟨ha1, ha2⟩ := ha
      cases a with
      | nil => exact absurd ha1 (by simp)
      | cons x l =>
        rw [encs, List.append_assoc] at h
        have hl := congrArg List.length h
        rw [List.length_drop, List.length_append] at hl
        have g1 := hp.back _ _ _ _ hq (ha2 x (.head _)) h
        have g2 := ih.back _ _ _ _ (by omega) ⟨by simpa using ha1, fun y hy => ha2 y (.tail _ hy)⟩ (drop_step h)
        rw [pRep, Pr.bind_of g1, Pr.bind_of g2]
        simp only [Pr.ret, encs, List.length_append, Nat.add_assoc]
theorem encs_ge {α : Type} {enc : α → List UInt8} {ok : α → Prop} {each : Nat} (he : ∀ x, ok x → each ≤ (enc x).length) : ∀ l : List α, (∀ x, x ∈ l → ok x) → l.length * each ≤ (encs enc l).length
  | [], h => by simp
  | x :: l, h => by
    have := encs_ge he l (fun y hy => h y (.tail _ hy))
    have := he x (h x (.head _))
    rw [encs, List.length_append, List.length_cons, Nat.add_mul]
    omega
structure CB {α : Type} (op : I → Option (α × I)) (p : Pr α) (z : α) : Prop where
  dead : ∀ st : I, st.err ≠ 0 → op st = some (z, st)
  run : ∀ (s : List UInt8) (q : Nat), s.length ≤ 1000000 → q ≤ s.length → (∃ (e : Int) (st : I), p s q = .error e ∧ op ⟨s.drop q, q, 0⟩ = some (z, st) ∧ st.err = e ∧ st.err ≠ 0) ∨ (∃ (a : α) (r : Nat), p s q = .ok (a, r) ∧ op ⟨s.drop q, q, 0⟩ = some (a, ⟨s.drop r, r, 0⟩) ∧ q ≤ r ∧ r ≤ s.length)
theorem CQ.cb {α : Type} {op : I → Option (α × I)} {p : Pr α} {z : α} (h : CQ op p z) : CB op p z := ⟨h.dead, fun s q _ hq => h.run s q hq⟩
def NZ {α : Type} (p : Pr α) : Prop := ∀ (s : List UInt8) (q : Nat) (e : Int), s.length ≤ 1000000 → q ≤ s.length → p s q = .error e → e ≠ 0
theorem NZ.ret {α : Type} (a : α) : NZ (Pr.ret a) := fun s q e _ _ h => nomatch h
theorem NZ.err {α : Type} {e : Int} (he : e ≠ 0) : NZ (Pr.err e : Pr α) := fun s q e' _ _ h => by injection h with h; rw [← h]; exact he
theorem NZ.bind {α β : Type} {p : Pr α} {f : α → Pr β} {enc : α → List UInt8} {ok : α → Prop} (hp : NZ p) (hs : Sp p enc ok) (hf : ∀ a, NZ (f a)) : NZ (p.bind f) := by
  intro s q e hl hq h
  cases hx : p s q with
  | error e' =>
    rw [Pr.bind_err hx] at h
    injection h with h
    rw [← h]
    exact hp s q e' hl hq hx
  | ok x =>
    rw [Pr.bind_of (a := x.1) (r := x.2) hx] at h
    exact hf x.1 s x.2 e hl (hs.spell s q x.1 x.2 hq hx).2.1 h
end Go.Proofs.Ytcoppaggpbfcmaa.Sl
namespace Go.Proofs.Ytcoppaggpbfcmaa.Sl
open Go.RowKit
set_option linter.unusedVariables false
set_option linter.unusedSimpArgs false
theorem Sp.congr {α : Type} {p : Pr α} {enc enc' : α → List UInt8} {ok ok' : α → Prop} (h : Sp p enc ok) (hok : ∀ a, ok a ↔ ok' a) (he : ∀ a, ok a → enc a = enc' a) : Sp p enc' ok' := by
  refine ⟨fun s q a r hq hp => ?_, fun s t q a hq ha hd => ?_⟩
  · obtain ⟨h1, h2, h3, h4, h5⟩ := h.spell s q a r hq hp
    rw [← he a h5]
    exact ⟨h1, h2, h3, h4, (hok a).1 h5⟩
  · have ha' := (hok a).2 ha
    rw [← he a ha'] at hd ⊢
    exact h.back s t q a hq ha' hd
theorem Sp.seq {α β : Type} {p : Pr α} {f : α → Pr β} {π : β → α} {enc1 : α → List UInt8} {enc2 : β → List UInt8} {ok1 : α → Prop} {ok2 : β → Prop} (hp : Sp p enc1 ok1) (hf : ∀ a, Sp (f a) enc2 (fun x => ok2 x ∧ π x = a)) :
    Sp (p.bind f) (fun x => enc1 (π x) ++ enc2 x) (fun x => ok1 (π x) ∧ ok2 x) := by
  refine ⟨fun s q x r hq h => ?_, fun s t q x hq hx hd => ?_⟩
  · obtain ⟨a, m, h1, h2⟩ := Pr.bind_ok h
    obtain ⟨a1, a2, a3, a4, a5⟩ := hp.spell s q a m hq h1
    obtain ⟨b1, b2, b3, b4, b5, b6⟩ := (hf a).spell s m x r a2 h2
    subst b6
    exact ⟨by omega, b2, by rw [List.length_append]; omega, by rw [b4, a4, List.append_assoc], a5, b5⟩
  · rw [List.append_assoc] at hd
    have h1 := hp.back s _ q (π x) hq hx.1 hd
    have hl := congrArg List.length hd
    rw [List.length_drop, List.length_append] at hl
    have h2 := (hf (π x)).back s t _ x (by omega) ⟨hx.2, rfl⟩ (drop_step hd)
    rw [Pr.bind_of h1, h2, List.length_append, Nat.add_assoc]
theorem CB.bind {α β : Type} {op1 : I → Option (α × I)} {p : Pr α} {z1 : α} {op2 : α → I → Option (β × I)} {f : α → Pr β} {z : β} (W : α → Prop) (h : CB op1 p z1)
    (hs : ∀ s q a r, s.length ≤ 1000000 → q ≤ s.length → p s q = .ok (a, r) → W a) (hz : W z1) (hf : ∀ a, W a → CB (op2 a) (f a) z) : CB (fun st => (op1 st).bind fun (a, st1) => op2 a st1) (p.bind f) z := by
  refine ⟨fun st hd => ?_, fun s q hl hq => ?_⟩
  · show (op1 st).bind _ = _
    rw [h.dead st hd, Option.bind_some]
    exact (hf z1 hz).dead st hd
  · rcases h.run s q hl hq with ⟨e, st, p1, g1, x1, y1⟩ | ⟨a, r, p1, g1, n1, l1⟩
    · refine .inl ⟨e, st, Pr.bind_err p1, ?_, x1, y1⟩
      show (op1 _).bind _ = _
      rw [g1, Option.bind_some]
      exact (hf z1 hz).dead st y1
    · have g2 : ((op1 ⟨s.drop q, q, 0⟩).bind fun (a, st1) => op2 a st1) = op2 a ⟨s.drop r, r, 0⟩ := by rw [g1, Option.bind_some]
      show (∃ e st, p.bind f s q = _ ∧ ((op1 ⟨s.drop q, q, 0⟩).bind fun (a, st1) => op2 a st1) = _ ∧ _ ∧ _) ∨ (∃ x m, p.bind f s q = _ ∧ ((op1 ⟨s.drop q, q, 0⟩).bind fun (a, st1) => op2 a st1) = _ ∧ _ ∧ _)
      rw [g2, Pr.bind_of p1]
      rcases (hf a (hs s q a r hl hq p1)).run s r hl l1 with ⟨e, st, p2, k2, x2, y2⟩ | ⟨b, m, p2, k2, n2, l2⟩
      · exact .inl ⟨e, st, p2, k2, x2, y2⟩
      · exact .inr ⟨b, m, p2, k2, by omega, l2⟩
theorem CB.congr {α : Type} {op op' : I → Option (α × I)} {p : Pr α} {z : α} (h : CB op p z) (he : ∀ st, op' st = op st) : CB op' p z := ⟨fun st hd => (he st).trans (h.dead st hd), fun s q hl hq => by rw [he]; exact h.run s q hl hq⟩
theorem CB.pr {α : Type} {op : I → Option (α × I)} {p p' : Pr α} {z : α} (h : CB op p z) (he : p = p') : CB op p' z := he ▸ h
theorem CB_chk {α : Type} {op : I → Option (α × I)} {x0 z : α} {e : Int} (h : ∀ st : I, st.err ≠ 0 → op st = some (z, st)) (h0 : ∀ st : I, st.err = 0 → op st = some (if e = 0 then (x0, st) else (z, ifail st e))) : CB op (if e = 0 then .ret x0 else .err e) z := by
  refine ⟨h, fun s q hl hq => ?_⟩
  by_cases he : e = 0
  · rw [if_pos he, h0 _ rfl, if_pos he]
    exact .inr ⟨x0, q, rfl, rfl, Nat.le_refl _, hq⟩
  · rw [if_neg he, h0 _ rfl, if_neg he]
    exact .inl ⟨e, _, rfl, rfl, rfl, he⟩
theorem CB.at {α : Type} {op : I → Option (α × I)} {p : Pr α} {z : α} {enc : α → List UInt8} {ok : α → Prop} (h : CB op p z) (hs : Sp p enc ok) {a : α} {s t : List UInt8} {q : Nat} (hl : s.length ≤ 1000000) (hq : q ≤ s.length) (ha : ok a) (hd : s.drop q = enc a ++ t) :
    op ⟨s.drop q, q, 0⟩ = some (a, ⟨s.drop (q + (enc a).length), q + (enc a).length, 0⟩) ∧ q + (enc a).length ≤ s.length ∧ s.drop (q + (enc a).length) = t := by
  have h1 := hs.back s t q a hq ha hd
  have h2 := congrArg List.length hd
  rw [List.length_drop, List.length_append] at h2
  refine ⟨?_, by omega, drop_step hd⟩
  rcases h.run s q hl hq with ⟨e, st, p1, g1, x1, y1⟩ | ⟨b, r, p1, g1, n1, l1⟩
  · rw [h1] at p1
    exact nomatch p1
  · rw [h1] at p1
    injection p1 with p1
    obtain ⟨rfl, rfl⟩ := Prod.mk.inj p1
    exact g1
end Go.Proofs.Ytcoppaggpbfcmaa.Sl
namespace Go.Proofs.Ytcoppaggpbfcmaa.Sl
open Go.RowKit
set_option linter.unusedVariables false
set_option linter.unusedSimpArgs false
theorem Pr.bind_assoc {α β γ : Type} (p : Pr α) (f : α → Pr β) (g : β → Pr γ) : (p.bind f).bind g = p.bind fun a => (f a).bind g := by
  funext s q
  unfold Pr.bind
  cases p s q with
  | error e => rfl
  | ok x => rfl
theorem Pr.ret_bind {α β : Type} (a : α) (f : α → Pr β) : (Pr.ret a).bind f = f a := by
  funext s q
  rfl
def pInts : List Nat → Pr (List Int)
  | [] => .ret []
  | k :: ks => (pInt k).bind fun a => (pInts ks).bind fun l => .ret (a :: l)
def encI : List Nat → List Int → List UInt8
  | k :: ks, x :: xs => be x k ++ encI ks xs
  | _, _ => []
def okI : List Nat → List Int → Prop
  | [], [] => True
  | k :: ks, x :: xs => fits x k = true ∧ okI ks xs
  | _, _ => False
theorem Sp_ints : ∀ ks : List Nat, (∀ k, k ∈ ks → 1 ≤ k ∧ k ≤ 8) → Sp (pInts ks) (encI ks) (okI ks)
  | [], _ => by
    refine ⟨fun s q l r hq h => ?_, fun s t q l hq hl hd => ?_⟩
    · injection h with h
      obtain ⟨rfl, rfl⟩ := Prod.mk.inj h
      exact ⟨Nat.le_refl _, hq, rfl, by simp [encI], trivial⟩
    · cases l with
      | nil => rfl
      | cons x xs => exact nomatch hl
  | k :: ks, hk => by
    have hp := Sp_int k (hk k (List.mem_cons_self ..)).1 (hk k (List.mem_cons_self ..)).2
    have ih := Sp_ints ks (fun j hj => hk j (List.mem_cons_of_mem _ hj))
    refine ⟨fun s q l r hq h => ?_, fun s t q l hq hl hd => ?_⟩
    · obtain ⟨a, m, h1, h2⟩ := Pr.bind_ok h
      obtain ⟨xs, m2, h3, h4⟩ := Pr.bind_ok h2
      injection h4 with h4
      obtain ⟨rfl, rfl⟩ := Prod.mk.inj h4
      obtain ⟨a1, a2, a3, a4, a5⟩ := hp.spell s q a m hq h1
      obtain ⟨b1, b2, b3, b4, b5⟩ := ih.spell s m xs m2 a2 h3
      exact ⟨by omega, b2, by simp only [encI, List.length_append]; omega, by rw [b4, a4, encI, List.append_assoc], a5, b5⟩
    · cases l with
      | nil => exact nomatch hl
      | cons x xs =>
        rw [encI, List.append_assoc] at hd
        have h1 := hp.back s _ q x hq hl.1 hd
        have hl2 := congrArg List.length hd
        rw [List.length_drop, List.length_append] at hl2
        have h2 := ih.back s t _ xs (by omega) hl.2 (drop_step hd)
        rw [pInts, Pr.bind_of h1, Pr.bind_of h2, encI, List.length_append, ← Nat.add_assoc]
        rfl
def KS : List Nat := [8, 4, 4, 1, 4, 2, 4, 8, 8, 8, 2, 4, 4]
theorem KS_ok : ∀ k, k ∈ KS → 1 ≤ k ∧ k ≤ 8 := by decide
def s32 (n : Int) : Int := if n > 2147483647 then n - 4294967296 else n
def toL (p : Pfx) : List Int := [p.fBase, p.fLength, p.fLeader, 2, s32 p.fSum, p.fAttr, p.fLast, p.fFirst, p.fMax, p.fProducer, p.fEpoch, p.fSequence, p.fCount]
def ckE (b m ct : Int) : Int := if m = 2 then (if b < 49 then 4 else if ct < 0 then 10 else 0) else 6
def chkP : List Int → Pr Pfx
  | [a, b, c, m, s, at', la, fi, mx, pr, ep, sq, ct] => if ckE b m ct = 0 then .ret ⟨a, b, c, s % 4294967296, at', la, fi, mx, pr, ep, sq, ct⟩ else .err (ckE b m ct)
  | _ => .err 1
def pPfx : Pr Pfx := (pInts KS).bind chkP
def encP (p : Pfx) : List UInt8 := encI KS (toL p)
def okP (p : Pfx) : Prop := okI KS (toL p) ∧ (0 ≤ p.fSum ∧ p.fSum ≤ 4294967295) ∧ 49 ≤ p.fLength ∧ 0 ≤ p.fCount
theorem okI_len : ∀ {ks : List Nat} {l : List Int}, okI ks l → l.length = ks.length
  | [], [], _ => rfl
  | k :: ks, x :: xs, h => by rw [List.length_cons, List.length_cons, okI_len h.2]
  | [], _ :: _, h => nomatch h
  | _ :: _, [], h => nomatch h
theorem encI_len : ∀ {ks : List Nat} {l : List Int}, okI ks l → (encI ks l).length = ks.sum
  | [], [], _ => rfl
  | k :: ks, x :: xs, h => by rw [encI, List.length_append, be_length, encI_len h.2, List.sum_cons]
  | [], _ :: _, h => nomatch h
  | _ :: _, [], h => nomatch h
theorem len13 {l : List Int} (h : l.length = 13) : ∃ a b c m s t la fi mx pr ep sq ct, l = [a, b, c, m, s, t, la, fi, mx, pr, ep, sq, ct] := by
  match l, h with
  | [a, b, c, m, s, t, la, fi, mx, pr, ep, sq, ct], _ => exact ⟨a, b, c, m, s, t, la, fi, mx, pr, ep, sq, ct, rfl⟩
theorem s32_back {s : Int} (h : fits s 4 = true) : s32 (s % 4294967296) = s := by
  rw [fits_4] at h
  have := of_decide_eq_true h
  unfold s32
  split <;> omega
theorem s32_mod {s : Int} (h : 0 ≤ s ∧ s ≤ 4294967295) : s32 s % 4294967296 = s := by
  unfold s32
  split <;> omega
theorem ckE_zero {b m ct : Int} (h : ckE b m ct = 0) : m = 2 ∧ 49 ≤ b ∧ 0 ≤ ct := by
  unfold ckE at h
  by_cases h1 : m = 2
  · rw [if_pos h1] at h
    by_cases h2 : b < 49
    · rw [if_pos h2] at h; cases h
    · rw [if_neg h2] at h
      by_cases h3 : ct < 0
      · rw [if_pos h3] at h; cases h
      · exact ⟨h1, by omega, by omega⟩
  · rw [if_neg h1] at h; cases h
theorem ckE_of {b ct : Int} (h1 : 49 ≤ b) (h2 : 0 ≤ ct) : ckE b 2 ct = 0 := by
  unfold ckE
  rw [if_pos rfl, if_neg (by omega), if_neg (by omega)]
theorem Sp_pfx : Sp pPfx encP okP := by
  refine ⟨fun s q p r hq h => ?_, fun s t q p hq hp hd => ?_⟩
  · obtain ⟨l, m, h1, h2⟩ := Pr.bind_ok h
    obtain ⟨a1, a2, a3, a4, a5⟩ := (Sp_ints KS KS_ok).spell s q l m hq h1
    obtain ⟨a, b, c, mg, sm, t, la, fi, mx, pr, ep, sq, ct, rfl⟩ := len13 (okI_len a5)
    have hs : fits sm 4 = true := a5.2.2.2.2.1
    unfold chkP at h2
    dsimp only at h2
    by_cases hc : ckE b mg ct = 0
    · rw [if_pos hc] at h2
      injection h2 with h2
      obtain ⟨rfl, rfl⟩ := Prod.mk.inj h2
      obtain ⟨rfl, c2, c3⟩ := ckE_zero hc
      have e : toL ⟨a, b, c, sm % 4294967296, t, la, fi, mx, pr, ep, sq, ct⟩ = [a, b, c, 2, sm, t, la, fi, mx, pr, ep, sq, ct] := by
        unfold toL
        rw [s32_back hs]
      unfold encP okP
      rw [e]
      exact ⟨a1, a2, a3, a4, a5, by show 0 ≤ sm % 4294967296 ∧ sm % 4294967296 ≤ 4294967295; omega, c2, c3⟩
    · rw [if_neg hc] at h2
      exact nomatch h2
  · have h1 := (Sp_ints KS KS_ok).back s t q (toL p) hq hp.1 hd
    rw [pPfx, Pr.bind_of h1]
    unfold toL chkP
    dsimp only
    rw [if_pos (ckE_of hp.2.2.1 hp.2.2.2), s32_mod hp.2.1]
    rfl
theorem and32 (n : Int) : Go.bits .and .i64 n 4294967295 = n % 4294967296 := by
  rw [show (4294967295 : Int) = ((4294967295 : Nat) : Int) from rfl, and_nat n _ (by decide), show (4294967295 : Nat) = 2 ^ 32 - 1 from rfl, Nat.and_two_pow_sub_one_eq_mod]
  omega
def zP : Pfx := ⟨0, 0, 0, 0, 0, 0, 0, 0, 0, 0, 0, 0⟩
def tailP (a b c m s t la fi mx pr ep sq ct : Int) (st : I) : Option (Pfx × I) := (gErr st).bind fun (x57, st58) => (if x57 = 0 then ((if m = 2 then ((if b < 49 then ((gIFail st58 4).bind fun st164 => some st164) else ((if ct < 0 then ((gIFail st58 10).bind fun st172 => some st172) else some st58).bind fun st169 => some st169)).bind fun st161 => some st161) else ((gIFail st58 6).bind fun st174 => some st174)).bind fun st147 => some st147) else some st58).bind fun st117 => (gErr st117).bind fun (x176, st177) => if x176 = 0 then (some ((⟨a, b, c, (Go.bits .and .i64 s 4294967295), t, la, fi, mx, pr, ep, sq, ct⟩ : Pfx), st177)) else (some ((⟨0, 0, 0, 0, 0, 0, 0, 0, 0, 0, 0, 0⟩ : Pfx), st177))
theorem B_tail (a b c m s t la fi mx pr ep sq ct : Int) : CB (tailP a b c m s t la fi mx pr ep sq ct) (chkP [a, b, c, m, s, t, la, fi, mx, pr, ep, sq, ct]) zP := by
  refine CB_chk (fun st h => ?_) (fun st h => ?_)
  · unfold tailP
    rw [gErr_eq, Option.bind_some]
    dsimp only
    rw [if_neg h, Option.bind_some, gErr_eq, Option.bind_some]
    dsimp only
    rw [if_neg h]
    rfl
  · obtain ⟨l, q, e⟩ := st
    obtain rfl : e = 0 := h
    unfold tailP ckE
    rw [gErr_eq, Option.bind_some]
    dsimp only
    rw [if_pos rfl, and32]
    by_cases h1 : m = 2
    · rw [if_pos h1, if_pos h1]
      by_cases h2 : b < 49
      · rw [if_pos h2, if_pos h2, if_neg (by decide)]; rfl
      · rw [if_neg h2, if_neg h2]
        by_cases h3 : ct < 0
        · rw [if_pos h3, if_pos h3, if_neg (by decide)]; rfl
        · rw [if_neg h3, if_neg h3, if_pos rfl]; rfl
    · rw [if_neg h1, if_neg h1, if_neg (by decide)]; rfl
theorem B_pfx : CB (fun st => f_prefix_Read st) pPfx zP := by
  have w : ∀ {p : Pr Int} (s : List UInt8) (q : Nat) (a : Int) (r : Nat), s.length ≤ 1000000 → q ≤ s.length → p s q = .ok (a, r) → (fun _ : Int => True) a := fun _ _ _ _ _ _ _ => trivial
  have h := CB.bind (fun _ => True) Q8.cb w trivial fun a _ => CB.bind (fun _ => True) Q4.cb w trivial fun b _ => CB.bind (fun _ => True) Q4.cb w trivial fun c _ => CB.bind (fun _ => True) Q1.cb w trivial fun m _ => CB.bind (fun _ => True) Q4.cb w trivial fun s _ =>
    CB.bind (fun _ => True) Q2.cb w trivial fun t _ => CB.bind (fun _ => True) Q4.cb w trivial fun la _ => CB.bind (fun _ => True) Q8.cb w trivial fun fi _ => CB.bind (fun _ => True) Q8.cb w trivial fun mx _ => CB.bind (fun _ => True) Q8.cb w trivial fun pr _ =>
    CB.bind (fun _ => True) Q2.cb w trivial fun ep _ => CB.bind (fun _ => True) Q4.cb w trivial fun sq _ => CB.bind (fun _ => True) Q4.cb w trivial fun ct _ => B_tail a b c m s t la fi mx pr ep sq ct
  refine (h.congr (fun st => rfl)).pr ?_
  unfold pPfx KS
  simp only [pInts, Pr.bind_assoc, Pr.ret_bind]
end Go.Proofs.Ytcoppaggpbfcmaa.Sl
namespace Go.Proofs.Ytcoppaggpbfcmaa.Sl
open Go.RowKit
set_option linter.unusedVariables false
set_option linter.unusedSimpArgs false
def wrI : List Nat → List Int → List UInt8 × Int → Option (List UInt8 × Int)
  | k :: ks, x :: xs, st => (gOInt st x (k : Int)).bind fun st => wrI ks xs st
  | _, _, st => some st
theorem wrI_ok : ∀ (ks : List Nat) (l : List Int) (t : List UInt8), okI ks l → t.length + ks.sum ≤ 1000000 → wrI ks l (t, 0) = some (t ++ encI ks l, 0)
  | [], [], t, _, _ => by unfold wrI encI; rw [List.append_nil]
  | [], _ :: _, _, h, _ => nomatch h
  | _ :: _, [], _, h, _ => nomatch h
  | k :: ks, x :: xs, t, h, hl => by
    rw [List.sum_cons] at hl
    rw [wrI, gOInt_z h.1 (by omega), Option.bind_some, Int.toNat_natCast, wrI_ok ks xs _ h.2 (by rw [List.length_append, be_length]; omega), encI, List.append_assoc]
def w32 (n : Int) : Int := IntKind.i32.wrap (IntKind.u32.wrap n)
theorem w32_rng (n : Int) : -2147483648 ≤ w32 n ∧ w32 n ≤ 2147483647 := by
  unfold w32
  rw [IntKind.wrap_i32]
  omega
theorem w32_s {n : Int} (h : 0 ≤ n ∧ n ≤ 4294967295) : w32 n = s32 n := by
  unfold w32 s32
  rw [IntKind.wrap_i32, IntKind.wrap_u32]
  split <;> omega
def toW (p : Pfx) : List Int := [p.fBase, p.fLength, p.fLeader, 2, w32 p.fSum, p.fAttr, p.fLast, p.fFirst, p.fMax, p.fProducer, p.fEpoch, p.fSequence, p.fCount]
theorem write_eq (st : List UInt8 × Int) (p : Pfx) : f_prefix_Write st p = wrI KS (toW p) (if p.fSum < 0 ∨ p.fSum > 4294967295 then ofail st 11 else st) := by
  have hw := w32_rng p.fSum
  unfold f_prefix_Write
  have e : ((if p.fSum < 0 then some true else (if p.fSum > 4294967295 then some true else some false)).bind fun y4 => (if y4 = true then ((gOFail st 11).bind fun st14 => some st14) else some st)) = some (if p.fSum < 0 ∨ p.fSum > 4294967295 then ofail st 11 else st) := by
    by_cases h1 : p.fSum < 0
    · rw [if_pos h1, Option.bind_some, if_pos rfl, if_pos (.inl h1)]; rfl
    · rw [if_neg h1]
      by_cases h2 : p.fSum > 4294967295
      · rw [if_pos h2, Option.bind_some, if_pos rfl, if_pos (.inr h2)]; rfl
      · rw [if_neg h2, Option.bind_some, if_neg (by decide), if_neg (by omega)]
  have e2 : ∀ (K : List UInt8 × Int → Option (List UInt8 × Int)), ((if p.fSum < 0 then some true else (if p.fSum > 4294967295 then some true else some false)).bind fun y4 => (if y4 = true then ((gOFail st 11).bind fun st14 => some st14) else some st).bind K) = K (if p.fSum < 0 ∨ p.fSum > 4294967295 then ofail st 11 else st) := by
    intro K
    rw [← Option.bind_assoc, e, Option.bind_some]
  rw [e2]
  show (if -9223372036854775808 ≤ w32 p.fSum ∧ w32 p.fSum ≤ 9223372036854775807 then _ else _) = _
  rw [if_pos (by omega)]
  rfl
def okW (p : Pfx) : Prop := okI KS (toL p) ∧ 0 ≤ p.fSum ∧ p.fSum ≤ 4294967295
theorem encP_len {p : Pfx} (h : okI KS (toL p)) : (encP p).length = 61 := by
  unfold encP
  rw [encI_len h]
  rfl
theorem write_ok {p : Pfx} (t : List UInt8) (h : okW p) (ht : t.length ≤ 900000) : f_prefix_Write (t, 0) p = some (t ++ encP p, 0) := by
  have e : toW p = toL p := by
    unfold toW toL
    rw [w32_s h.2]
  have h2 := h.2
  rw [write_eq, if_neg (by omega), e]
  exact wrI_ok KS (toL p) t h.1 (by show t.length + 61 ≤ _; omega)
end Go.Proofs.Ytcoppaggpbfcmaa.Sl
namespace Go.Proofs.Ytcoppaggpbfcmaa.Sl
open Go.RowKit
set_option linter.unusedVariables false
set_option linter.unusedSimpArgs false
theorem gVaried_d {st : I} (h : st.err ≠ 0) : gVaried st = some (⟨false, []⟩, st) := QV.dead st h
theorem gName_d {st : I} (h : st.err ≠ 0) : gName st = some ([], st) := QN.dead st h
theorem Q_vint : CQ gVInt (pVint 32) 0 := (CR_vint 32 (.inl rfl)).cq (Sp_vint 32 (.inl rfl))
theorem gVInt_d {st : I} (h : st.err ≠ 0) : gVInt st = some (0, st) := Q_vint.dead st h
def pCountV (each : Nat) : Pr Int := (pVint 32).bind (pLeft each)
theorem pCountV_ok {each : Nat} {s : List UInt8} {q r : Nat} {n : Int} (hq : q ≤ s.length) (h : pCountV each s q = .ok (n, r)) : 0 ≤ n ∧ (0 < each → n * each ≤ ((s.length - r : Nat) : Int)) ∧ q ≤ r ∧ r = q + (vput (vfold n)).length ∧ r ≤ s.length ∧ s.take r = s.take q ++ vput (vfold n) ∧ vfold n < 2 ^ (32 : Int).toNat := by
  obtain ⟨m, r', h2, h⟩ := Pr.bind_ok h
  obtain ⟨a1, a2, a3, a4, a5⟩ := (Sp_vint 32 (.inl rfl)).spell _ _ _ _ hq h2
  unfold pLeft at h
  split at h
  · exact nomatch h
  · rename_i hn
    split at h
    · exact nomatch h
    · rename_i he
      injection h with h
      obtain ⟨rfl, rfl⟩ := Prod.mk.inj h
      refine ⟨by omega, fun hz => ?_, a1, a3, a2, a4, a5⟩
      have : m ≤ ((s.length - r' : Nat) : Int) / each := by
        rcases Int.lt_or_le (((s.length - r' : Nat) : Int) / each) m with g | g
        · exact absurd ⟨hz, g⟩ he
        · exact g
      exact (Int.le_ediv_iff_mul_le (by omega)).1 this
theorem pCountV_of {each : Nat} {s t : List UInt8} {q : Nat} {n : Int} (hq : q ≤ s.length) (hf : vfold n < 2 ^ (32 : Int).toNat) (hn : 0 ≤ n) (h : s.drop q = vput (vfold n) ++ t) (hl : 0 < each → n * each ≤ t.length) : pCountV each s q = .ok (n, q + (vput (vfold n)).length) := by
  have g := (Sp_vint 32 (.inl rfl)).back s t q n hq hf h
  rw [pCountV, Pr.bind_of g]
  unfold pLeft
  have hlen := congrArg List.length h
  rw [List.length_drop, List.length_append] at hlen
  rw [if_neg (by omega), if_neg]
  rintro ⟨hz, hc⟩
  have := (Int.le_ediv_iff_mul_le (show (0 : Int) < each by omega)).2 (hl hz)
  rw [show s.length - (q + (vput (vfold n)).length) = t.length by omega] at hc
  omega
def pRowV {α : Type} (each : Nat) (p : Pr α) : Pr (List α) := (pCountV each).bind fun n => pRep p n.toNat
theorem Sp_rowV {α : Type} {p : Pr α} {enc : α → List UInt8} {ok : α → Prop} (each : Nat) (hp : Sp p enc ok) (he : ∀ x, ok x → each ≤ (enc x).length) : Sp (pRowV each p) (fun l => vput (vfold (l.length : Int)) ++ encs enc l) (fun l => vfold (l.length : Int) < 2 ^ (32 : Int).toNat ∧ ∀ x, x ∈ l → ok x) := by
  refine ⟨fun s q a r hq h => ?_, fun s t q a hq ha h => ?_⟩
  · obtain ⟨n, q1, g1, h⟩ := Pr.bind_ok h
    obtain ⟨a1, a2, a3, a4, a5, a6, a7⟩ := pCountV_ok hq g1
    obtain ⟨b1, b2, b3, b4, b5, b6⟩ := (Sp_rep hp n.toNat).spell _ _ _ _ a5 h
    have hn : (a.length : Int) = n := by omega
    refine ⟨by omega, b2, by rw [List.length_append, hn]; omega, by rw [b4, a6, hn, List.append_assoc], by rw [hn]; exact a7, b6⟩
  · rw [List.append_assoc] at h
    have hl := congrArg List.length h
    rw [List.length_drop, List.length_append, List.length_append] at hl
    have g1 := pCountV_of (each := each) hq ha.1 (by omega) h (fun _ => by
      have := encs_ge he a ha.2
      rw [List.length_append, Int.natCast_add, ← Int.natCast_mul]
      omega)
    have h2 := drop_step h
    have g2 := (Sp_rep hp a.length).back _ _ _ _ (by omega) ⟨rfl, ha.2⟩ h2
    rw [pRowV, Pr.bind_of g1, Int.toNat_natCast, g2, List.length_append]
    simp only [Nat.add_assoc]
end Go.Proofs.Ytcoppaggpbfcmaa.Sl
namespace Go.Proofs.Ytcoppaggpbfcmaa.Sl
open Go.RowKit
set_option linter.unusedVariables false
set_option linter.unusedSimpArgs false
def pHd : Pr Hd := pName.bind fun k => pVaried.bind fun v => .ret ⟨k, v⟩
def encHd (h : Hd) : List UInt8 := (vput (vfold (h.fKey.length : Int)) ++ h.fKey) ++ (vput (vfold (blen h.fValue)) ++ h.fValue.data)
def okHd (h : Hd) : Prop := vfold (h.fKey.length : Int) < 2 ^ (32 : Int).toNat ∧ vfold (blen h.fValue) < 2 ^ (32 : Int).toNat ∧ bright h.fValue = true
theorem Sp_hd : Sp pHd encHd okHd := by
  refine ⟨fun s q a r hq h => ?_, fun s t q a hq ha h => ?_⟩
  · obtain ⟨k, q1, h1, h⟩ := Pr.bind_ok h
    obtain ⟨v, q2, h2, h⟩ := Pr.bind_ok h
    injection h with h
    obtain ⟨rfl, rfl⟩ := Prod.mk.inj h
    obtain ⟨a1, a2, a3, a4, a5⟩ := Sp_name.spell _ _ _ _ hq h1
    obtain ⟨b1, b2, b3, b4, b5⟩ := Sp_varied.spell _ _ _ _ a2 h2
    exact ⟨by omega, b2, by simp only [encHd, List.length_append] at *; omega, by rw [b4, a4]; simp only [encHd, List.append_assoc], a5.1, b5⟩
  · obtain ⟨a1, a2, a3⟩ := ha
    have hl := congrArg List.length h
    rw [encHd, List.append_assoc] at h
    have g1 := Sp_name.back _ _ _ _ hq ⟨a1, rfl⟩ h
    have h := drop_step h
    have g2 := Sp_varied.back _ _ _ _ (by simp only [encHd, List.length_drop, List.length_append] at *; omega) ⟨a2, a3⟩ h
    rw [pHd, Pr.bind_of g1, Pr.bind_of g2]
    simp only [Pr.ret, encHd, List.length_append, Nat.add_assoc]
theorem encHd_ge (h : Hd) (ho : okHd h) : 2 ≤ (encHd h).length := by
  have h1 := vput_pos (vfold (h.fKey.length : Int))
  have h2 := vput_pos (vfold (blen h.fValue))
  simp only [encHd, List.length_append]
  omega
def pHds : Pr (List Hd) := pRowV 2 pHd
theorem Sp_hds : Sp pHds (fun l => vput (vfold (l.length : Int)) ++ encs encHd l) (fun l => vfold (l.length : Int) < 2 ^ (32 : Int).toNat ∧ ∀ h, h ∈ l → okHd h) := Sp_rowV 2 Sp_hd encHd_ge
theorem hd_loop (n : Int) (s : List UInt8) (hs : s.length ≤ 1000000) (hn : n ≤ 1000000) : ∀ (m fuel k : Nat) (acc : List Hd) (q : Nat), ((k + m : Nat) : Int) = n → m < fuel → q ≤ s.length → acc.length = k →
    (∃ (e : Int) (st : I), pRep pHd m s q = .error e ∧ f_header_Read_l1 n fuel [] acc k ⟨s.drop q, q, 0⟩ = some (.ret ([], st)) ∧ st.err = e ∧ st.err ≠ 0) ∨
    (∃ l r, pRep pHd m s q = .ok (l, r) ∧ f_header_Read_l1 n fuel [] acc k ⟨s.drop q, q, 0⟩ = some (.go ([], acc ++ l, k + m, ⟨s.drop r, r, 0⟩)) ∧ q ≤ r ∧ r ≤ s.length)
  | 0, fuel + 1, k, acc, q, h1, h2, h3, h4 => .inr ⟨[], q, rfl, by rw [f_header_Read_l1, if_neg (by omega), List.append_nil]; rfl, Nat.le_refl _, h3⟩
  | m + 1, fuel + 1, k, acc, q, h1, h2, h3, h4 => by
    rw [f_header_Read_l1, if_pos (by omega)]
    rcases QN.run s q h3 with ⟨e, st, p1, g1, x1, y1⟩ | ⟨nm, q1, p1, g1, n1, l1⟩
    · left
      refine ⟨e, st, by rw [pRep, Pr.bind_err (show pHd s q = .error e from Pr.bind_err p1)], ?_, x1, y1⟩
      rw [g1, Option.bind_some]
      simp only
      rw [gVaried_d y1, Option.bind_some]
      simp only
      rw [if_pos (by omega), gErr_eq, Option.bind_some]
      simp only
      rw [if_neg y1]
    rw [g1, Option.bind_some]
    simp only
    rcases QV.run s q1 l1 with ⟨e, st, p2, g2, x2, y2⟩ | ⟨v, q2, p2, g2, n2, l2⟩
    · left
      have ht : pHd s q = .error e := by rw [pHd, Pr.bind_of p1, Pr.bind_err p2]
      refine ⟨e, st, by rw [pRep, Pr.bind_err ht], ?_, x2, y2⟩
      rw [g2, Option.bind_some]
      simp only
      rw [if_pos (by omega), gErr_eq, Option.bind_some]
      simp only
      rw [if_neg y2]
    rw [g2, Option.bind_some]
    simp only
    rw [if_pos (by omega), gErr_eq, Option.bind_some]
    simp only [if_true]
    rw [if_pos (by omega)]
    have ht : pHd s q = .ok (⟨nm, v⟩, q2) := by rw [pHd, Pr.bind_of p1, Pr.bind_of p2]; rfl
    rw [pRep, Pr.bind_of ht]
    rcases hd_loop n s hs hn m fuel (k + 1) (acc ++ [(⟨nm, v⟩ : Hd)]) q2 (by omega) (by omega) l2 (by rw [List.length_append, h4]; rfl) with ⟨e, st, r1, r2, r3, r4⟩ | ⟨l, r, r1, r2, r3, r4⟩
    · exact .inl ⟨e, st, by rw [Pr.bind_err r1], r2, r3, r4⟩
    · refine .inr ⟨⟨nm, v⟩ :: l, r, by rw [Pr.bind_of r1]; rfl, ?_, by omega, r4⟩
      rw [r2, List.append_assoc, show k + 1 + m = k + (m + 1) by omega]
      rfl
theorem B_hds : CB f_header_Read pHds [] := by
  refine ⟨fun st h => ?_, fun s q hs hq => ?_⟩
  · unfold f_header_Read
    rw [gVInt_d h, Option.bind_some]
    simp only
    rw [gErr_eq, Option.bind_some]
    simp only
    rw [if_neg h]
  · unfold f_header_Read
    rcases Q_vint.run s q hq with ⟨e, st, p1, g1, x1, y1⟩ | ⟨c, q1, p1, g1, n1, l1⟩
    · refine .inl ⟨e, st, Pr.bind_err (Pr.bind_err p1), ?_, x1, y1⟩
      rw [g1, Option.bind_some]
      simp only
      rw [gErr_eq, Option.bind_some]
      simp only
      rw [if_neg y1]
    · rw [g1, Option.bind_some]
      simp only
      rw [gErr_eq, Option.bind_some]
      simp only [if_true]
      have hd : (s.drop q1).length = s.length - q1 := List.length_drop
      have hE : pHds s q = ((pLeft 2 c).bind fun n => pRep pHd n.toNat) s q1 := by
        unfold pHds pRowV pCountV Pr.bind
        rw [p1]
      rw [hE]
      unfold Pr.bind pLeft
      by_cases hn : c < 0
      · rw [if_pos hn, if_pos hn]
        exact .inl ⟨4, _, rfl, rfl, rfl, by simp [ifail]⟩
      rw [if_neg hn, if_neg hn, gLeft_eq, Option.bind_some]
      simp only
      rw [hd, if_pos (show 0 ≤ ((s.length - q1 : Nat) : Int) ∧ ((s.length - q1 : Nat) : Int) ≤ 9223372036854775807 by omega)]
      by_cases hc : 0 < 2 ∧ ((s.length - q1 : Nat) : Int) / ((2 : Nat) : Int) < c
      · have hc2 : c > ((s.length - q1 : Nat) : Int) / 2 := hc.2
        rw [if_pos hc, if_pos hc2]
        exact .inl ⟨1, _, rfl, rfl, rfl, by simp [ifail]⟩
      · have hc2 : ¬ c > ((s.length - q1 : Nat) : Int) / 2 := fun h => hc ⟨by decide, h⟩
        rw [if_neg hc, if_neg hc2]
        simp only
        rcases hd_loop c s hs (by omega) c.toNat (c.toNat + 1) 0 [] q1 (by omega) (by omega) l1 rfl with ⟨e, st, r1, r2, r3, r4⟩ | ⟨l, r, r1, r2, r3, r4⟩
        · exact .inl ⟨e, st, r1, by rw [r2]; rfl, r3, r4⟩
        · refine .inr ⟨l, r, r1, ?_, by omega, r4⟩
          rw [r2, List.nil_append]
          rfl
end Go.Proofs.Ytcoppaggpbfcmaa.Sl
namespace Go.Proofs.Ytcoppaggpbfcmaa.Sl
open Go.RowKit
set_option linter.unusedVariables false
set_option linter.unusedSimpArgs false
def hwt (h : Hd) : Nat := 20 + h.fKey.length + h.fValue.data.length
def hwts : List Hd → Nat
  | [] => 0
  | h :: l => hwt h + hwts l
theorem vput_small32 (n : Int) (h : -1 ≤ n) (h2 : n ≤ 2147483647) : (vput (vfold n)).length ≤ 10 := vput_ten _ (vfold_lt n (by omega) (by omega))
theorem vfold_ok (n : Int) (h : -1 ≤ n) (h2 : n ≤ 2147483647) : vfold n < 2 ^ (32 : Int).toNat := by
  rw [show 2 ^ (32 : Int).toNat = 4294967296 by decide]
  exact vfold_lt32 n ⟨by omega, h2⟩
theorem blen_small (b : Bl) (h : b.data.length ≤ 2147483647) : -1 ≤ blen b ∧ blen b ≤ 2147483647 := by unfold blen; split <;> omega
theorem encHd_len (h : Hd) (hk : h.fKey.length ≤ 1000000) (hv : h.fValue.data.length ≤ 1000000) : (encHd h).length ≤ hwt h := by
  have h1 := vput_small32 (h.fKey.length : Int) (by omega) (by omega)
  have hb := blen_small h.fValue (by omega)
  have h2 := vput_small32 (blen h.fValue) hb.1 hb.2
  simp only [encHd, List.length_append, hwt]
  omega
theorem encHds_len : ∀ l : List Hd, hwts l ≤ 1000000 → (encs encHd l).length ≤ hwts l
  | [], h => Nat.le_refl _
  | x :: l, h => by
    have h1 : hwt x ≤ hwts (x :: l) := by rw [hwts]; omega
    have h2 := encHds_len l (by rw [hwts] at h; omega)
    have h3 := encHd_len x (by unfold hwt at h1; omega) (by unfold hwt at h1; omega)
    rw [encs, List.length_append, hwts]
    omega
theorem gPutName_z {t d : List UInt8} (hf : d.length ≤ 1000000) (ht : t.length ≤ 1000000000) : gPutName (t, 0) d = some (t ++ (vput (vfold (d.length : Int)) ++ d), 0) := by
  have := gPutVaried_z (t := t) (b := ⟨false, d⟩) rfl (by simp only; omega) (by simp only; omega)
  rw [gPutName_eq _ _ (by simp only; omega)]
  rw [gPutVaried_eq _ _ (by simp only; omega)] at this
  exact this
theorem hw_l1 : ∀ (l : List Hd) (t : List UInt8), (∀ h, h ∈ l → bright h.fValue = true) → t.length + hwts l ≤ 1000000 → f_header_Write_l1 l (t, 0) = some (t ++ encs encHd l, 0)
  | [], t, h, hl => by rw [f_header_Write_l1, encs, List.append_nil]
  | x :: l, t, h, hl => by
    have hx : t.length + (hwt x + hwts l) ≤ 1000000 := hl
    have h1 := encHd_len x (by unfold hwt at hx; omega) (by unfold hwt at hx; omega)
    have h2 : (vput (vfold (x.fKey.length : Int)) ++ x.fKey).length ≤ (encHd x).length := by simp only [encHd, List.length_append]; omega
    have e : t ++ (vput (vfold (x.fKey.length : Int)) ++ x.fKey) ++ (vput (vfold (blen x.fValue)) ++ x.fValue.data) = t ++ encHd x := by simp only [encHd, List.append_assoc]
    have h3 : (t ++ (vput (vfold (x.fKey.length : Int)) ++ x.fKey)).length = t.length + (vput (vfold (x.fKey.length : Int)) ++ x.fKey).length := List.length_append
    rw [f_header_Write_l1, gPutName_z (by unfold hwt at hx; omega) (by omega), Option.bind_some, gPutVaried_z (h x (.head _)) (by unfold hwt at hx; omega) (by rw [h3]; unfold hwt at hx h1; omega), Option.bind_some, e, hw_l1 l _ (fun y hy => h y (.tail _ hy)) (by rw [List.length_append]; omega), encs, List.append_assoc]
theorem hwts_len : ∀ l : List Hd, l.length * 20 ≤ hwts l
  | [] => by simp [hwts]
  | h :: l => by have := hwts_len l; simp only [hwts, hwt, List.length_cons]; omega
theorem hwts_mem : ∀ (l : List Hd) (h : Hd), h ∈ l → hwt h ≤ hwts l
  | x :: l, h, hm => by
    rcases List.mem_cons.1 hm with rfl | hm
    · simp only [hwts]; omega
    · have := hwts_mem l h hm; simp only [hwts]; omega
theorem hwrite_z (l : List Hd) (t : List UInt8) (h : ∀ x, x ∈ l → bright x.fValue = true) (ht : t.length + 10 + hwts l ≤ 1000000) : f_header_Write (t, 0) l = some (t ++ (vput (vfold (l.length : Int)) ++ encs encHd l), 0) := by
  have hn := hwts_len l
  have h1 := vput_small32 (l.length : Int) (by omega) (by omega)
  unfold f_header_Write
  rw [gPutInt_eq _ _ ⟨by omega, by simp only; omega⟩]
  unfold vputInt
  rw [if_pos (by omega), oput_z, Option.bind_some, hw_l1 l _ h (by rw [List.length_append]; omega), List.append_assoc]
  rfl
end Go.Proofs.Ytcoppaggpbfcmaa.Sl
namespace Go.Proofs.Ytcoppaggpbfcmaa.Sl
open Go.RowKit
set_option linter.unusedVariables false
set_option linter.unusedSimpArgs false
theorem Q_vlong : CQ gVLong (pVint 64) 0 := (CR_vint 64 (.inr rfl)).cq (Sp_vint 64 (.inr rfl))
theorem gVLong_d {st : I} (h : st.err ≠ 0) : gVLong st = some (0, st) := Q_vlong.dead st h
theorem c_gClose_d {st : I} (h : st.err ≠ 0) : gClose st = some (st.err, st) := by rw [gClose_eq, iclose_err h]
def pStop : Pr Unit := fun s q => if q = s.length then .ok ((), q) else .error 2
def zRec : Rec := ⟨0, 0, ⟨false, []⟩, ⟨false, []⟩, []⟩
def pBody : Pr Rec := (pInt 1).bind fun z => if z = 0 then (pVint 64).bind fun t => (pVint 32).bind fun o => if o < 0 then .err 11 else pVaried.bind fun k => pVaried.bind fun v => pHds.bind fun h => pStop.bind fun _ => .ret ⟨t, o, k, v, h⟩ else .err 8
def bodyOp (st9 : I) : Option (Rec × Int) := (gInt st9 1).bind fun (x12, st13) => if x12 = 0 then ((gVLong st13).bind fun (x16, st17) => (gVInt st17).bind fun (x19, st20) => if x19 < 0 then ((gIFail st20 11).bind fun st24 => (gVaried st24).bind fun (x26, st27) => (gVaried st27).bind fun (x29, st30) => (f_header_Read st30).bind fun (x32, st35) => (gClose st35).bind fun (x37, st38) => some ((⟨x16, x19, x26, x29, x32⟩ : Rec), x37)) else ((gVaried st20).bind fun (x43, st44) => (gVaried st44).bind fun (x46, st47) => (f_header_Read st47).bind fun (x49, st52) => (gClose st52).bind fun (x54, st55) => some ((⟨x16, x19, x43, x46, x49⟩ : Rec), x54))) else ((gIFail st13 8).bind fun st60 => (gVLong st60).bind fun (x62, st63) => (gVInt st63).bind fun (x65, st66) => if x65 < 0 then ((gIFail st66 11).bind fun st70 => (gVaried st70).bind fun (x72, st73) => (gVaried st73).bind fun (x75, st76) => (f_header_Read st76).bind fun (x78, st81) => (gClose st81).bind fun (x83, st84) => some ((⟨x62, x65, x72, x75, x78⟩ : Rec), x83)) else ((gVaried st66).bind fun (x89, st90) => (gVaried st90).bind fun (x92, st93) => (f_header_Read st93).bind fun (x95, st98) => (gClose st98).bind fun (x100, st101) => some ((⟨x62, x65, x89, x92, x95⟩ : Rec), x100)))
theorem body_run (s : List UInt8) (hs : s.length ≤ 1000000) : (∃ e x, pBody s 0 = .error e ∧ bodyOp ⟨s, 0, 0⟩ = some (x, e) ∧ e ≠ 0) ∨ (∃ x, pBody s 0 = .ok (x, s.length) ∧ bodyOp ⟨s, 0, 0⟩ = some (x, 0)) := by
  unfold bodyOp pBody
  have r0 := Q1.run s 0 (Nat.zero_le _)
  rw [List.drop_zero] at r0
  have hB := B_hds
  rcases r0 with ⟨e, st, p0, g0, x0, y0⟩ | ⟨z, q0, p0, g0, n0, l0⟩
  · refine .inl ⟨e, ⟨0, 0, ⟨false, []⟩, ⟨false, []⟩, []⟩, Pr.bind_err p0, ?_, by rw [← x0]; exact y0⟩
    rw [g0]
    simp only [Option.bind_some, if_true, gVLong_d y0, gVInt_d y0, gVaried_d y0, hB.dead _ y0, c_gClose_d y0, x0, show ¬ (0 : Int) < 0 by decide, if_false]
  rw [g0, Option.bind_some]
  simp only
  by_cases hz : z = 0
  · rw [if_pos hz, Pr.bind_of p0, if_pos hz]
    rcases Q_vlong.run s q0 l0 with ⟨e, st, p1, g1, x1, y1⟩ | ⟨a, q1, p1, g1, n1, l1⟩
    · refine .inl ⟨e, ⟨0, 0, ⟨false, []⟩, ⟨false, []⟩, []⟩, Pr.bind_err p1, ?_, by rw [← x1]; exact y1⟩
      rw [g1]
      simp only [Option.bind_some, if_true, gVInt_d y1, gVaried_d y1, hB.dead _ y1, c_gClose_d y1, x1, show ¬ (0 : Int) < 0 by decide, if_false]
    rw [g1, Option.bind_some, Pr.bind_of p1]
    simp only
    rcases Q_vint.run s q1 l1 with ⟨e, st, p2, g2, x2, y2⟩ | ⟨o, q2, p2, g2, n2, l2⟩
    · refine .inl ⟨e, ⟨a, 0, ⟨false, []⟩, ⟨false, []⟩, []⟩, Pr.bind_err p2, ?_, by rw [← x2]; exact y2⟩
      rw [g2]
      simp only [Option.bind_some, if_true, gVaried_d y2, hB.dead _ y2, c_gClose_d y2, x2, show ¬ (0 : Int) < 0 by decide, if_false]
    rw [g2, Option.bind_some, Pr.bind_of p2]
    simp only
    by_cases ho : o < 0
    · rw [if_pos ho, if_pos ho, gIFail_eq, Option.bind_some, ifail_z]
      have y : (⟨s.drop q2, q2, 11⟩ : I).err ≠ 0 := by simp
      refine .inl ⟨11, ⟨a, o, ⟨false, []⟩, ⟨false, []⟩, []⟩, rfl, ?_, by decide⟩
      simp only [Option.bind_some, gVaried_d y, hB.dead _ y, c_gClose_d y]
    rw [if_neg ho, if_neg ho]
    rcases QV.run s q2 l2 with ⟨e, st, p3, g3, x3, y3⟩ | ⟨k, q3, p3, g3, n3, l3⟩
    · refine .inl ⟨e, ⟨a, o, ⟨false, []⟩, ⟨false, []⟩, []⟩, Pr.bind_err p3, ?_, by rw [← x3]; exact y3⟩
      rw [g3]
      simp only [Option.bind_some, gVaried_d y3, hB.dead _ y3, c_gClose_d y3, x3]
    rw [g3, Option.bind_some, Pr.bind_of p3]
    simp only
    rcases QV.run s q3 l3 with ⟨e, st, p4, g4, x4, y4⟩ | ⟨v, q4, p4, g4, n4, l4⟩
    · refine .inl ⟨e, ⟨a, o, k, ⟨false, []⟩, []⟩, Pr.bind_err p4, ?_, by rw [← x4]; exact y4⟩
      rw [g4]
      simp only [Option.bind_some, hB.dead _ y4, c_gClose_d y4, x4]
    rw [g4, Option.bind_some, Pr.bind_of p4]
    simp only
    rcases hB.run s q4 hs l4 with ⟨e, st, p5, g5, x5, y5⟩ | ⟨h, q5, p5, g5, n5, l5⟩
    · refine .inl ⟨e, ⟨a, o, k, v, []⟩, Pr.bind_err p5, ?_, by rw [← x5]; exact y5⟩
      rw [g5]
      simp only [Option.bind_some, c_gClose_d y5, x5]
    rw [g5, Option.bind_some, Pr.bind_of p5]
    simp only
    rw [gClose_eq, Option.bind_some]
    simp only
    by_cases hq : q5 = s.length
    · have he : pStop s q5 = .ok ((), q5) := by unfold pStop; rw [if_pos hq]
      have hi : (iclose ⟨s.drop q5, q5, 0⟩).err = 0 := by rw [hq, List.drop_length]; rfl
      rw [Pr.bind_of he, hi]
      exact .inr ⟨⟨a, o, k, v, h⟩, by rw [hq]; rfl, rfl⟩
    · have he : pStop s q5 = .error 2 := by unfold pStop; rw [if_neg hq]
      have hi : (iclose ⟨s.drop q5, q5, 0⟩).err = 2 := by
        unfold iclose
        rw [if_neg]
        · rfl
        · intro h0
          have := List.drop_eq_nil_iff.1 h0
          omega
      rw [Pr.bind_err he, hi]
      exact .inl ⟨2, _, rfl, rfl, by decide⟩
  · rw [if_neg hz, Pr.bind_of p0, if_neg hz, gIFail_eq, Option.bind_some, ifail_z]
    have y : (⟨s.drop q0, q0, 8⟩ : I).err ≠ 0 := by simp
    refine .inl ⟨8, ⟨0, 0, ⟨false, []⟩, ⟨false, []⟩, []⟩, rfl, ?_, by decide⟩
    simp only [Option.bind_some, if_true, gVLong_d y, gVInt_d y, gVaried_d y, hB.dead _ y, c_gClose_d y, show ¬ (0 : Int) < 0 by decide, if_false]
def pRec : Pr Rec := fun s q => match pName s q with
  | .error e => .error e
  | .ok (d, r) => match pBody d 0 with
    | .error e => .error e
    | .ok (x, _) => .ok (x, r)
theorem read_body (st9 st6 : I) (x : Rec) (e : Int) (h : bodyOp st9 = some (x, e)) : ((gInt st9 1).bind fun (x12, st13) => if x12 = 0 then ((gVLong st13).bind fun (x16, st17) => (gVInt st17).bind fun (x19, st20) => if x19 < 0 then ((gIFail st20 11).bind fun st24 => (gVaried st24).bind fun (x26, st27) => (gVaried st27).bind fun (x29, st30) => (f_header_Read st30).bind fun (x32, st35) => (gClose st35).bind fun (x37, st38) => if x37 = 0 then (some ((⟨x16, x19, x26, x29, x32⟩ : Rec), st6)) else ((gIFail st6 x37).bind fun st41 => some (zRec, st41))) else ((gVaried st20).bind fun (x43, st44) => (gVaried st44).bind fun (x46, st47) => (f_header_Read st47).bind fun (x49, st52) => (gClose st52).bind fun (x54, st55) => if x54 = 0 then (some ((⟨x16, x19, x43, x46, x49⟩ : Rec), st6)) else ((gIFail st6 x54).bind fun st58 => some (zRec, st58)))) else ((gIFail st13 8).bind fun st60 => (gVLong st60).bind fun (x62, st63) => (gVInt st63).bind fun (x65, st66) => if x65 < 0 then ((gIFail st66 11).bind fun st70 => (gVaried st70).bind fun (x72, st73) => (gVaried st73).bind fun (x75, st76) => (f_header_Read st76).bind fun (x78, st81) => (gClose st81).bind fun (x83, st84) => if x83 = 0 then (some ((⟨x62, x65, x72, x75, x78⟩ : Rec), st6)) else ((gIFail st6 x83).bind fun st87 => some (zRec, st87))) else ((gVaried st66).bind fun (x89, st90) => (gVaried st90).bind fun (x92, st93) => (f_header_Read st93).bind fun (x95, st98) => (gClose st98).bind fun (x100, st101) => if x100 = 0 then (some ((⟨x62, x65, x89, x92, x95⟩ : Rec), st6)) else ((gIFail st6 x100).bind fun st104 => some (zRec, st104))))) = if e = 0 then some (x, st6) else some (zRec, ifail st6 e) := by
  unfold bodyOp at h
  revert h
  have hop : ∀ (o : Option (List Hd × I)) (f : List Hd → Rec), ((o.bind fun (a, s1) => (gClose s1).bind fun (b, s2) => some (f a, b)) = some (x, e)) → (o.bind fun (a, s1) => (gClose s1).bind fun (b, s2) => if b = 0 then some (f a, st6) else (gIFail st6 b).bind fun s3 => some (zRec, s3)) = if e = 0 then some (x, st6) else some (zRec, ifail st6 e) := by
    intro o f h
    cases o with
    | none => exact nomatch h
    | some y =>
      rw [Option.bind_some] at h ⊢
      simp only [gClose_eq, Option.bind_some] at h ⊢
      injection h with h
      obtain ⟨rfl, rfl⟩ := Prod.mk.inj h
      by_cases hz : (iclose y.2).err = 0
      · rw [if_pos hz, if_pos hz]
      · rw [if_neg hz, if_neg hz]
        rfl
  simp only [gInt_eq, gVLong_eq, gVInt_eq, gVaried_eq, gIFail_eq, Option.bind_some]
  intro h
  split at h
  · rename_i h1
    rw [if_pos h1]
    split at h
    · rename_i h2
      rw [if_pos h2]
      exact hop _ (fun a => ⟨_, _, _, _, a⟩) h
    · rename_i h2
      rw [if_neg h2]
      exact hop _ (fun a => ⟨_, _, _, _, a⟩) h
  · rename_i h1
    rw [if_neg h1]
    split at h
    · rename_i h2
      rw [if_pos h2]
      exact hop _ (fun a => ⟨_, _, _, _, a⟩) h
    · rename_i h2
      rw [if_neg h2]
      exact hop _ (fun a => ⟨_, _, _, _, a⟩) h
theorem B_rec : CB f_record_Read pRec zRec := by
  refine ⟨fun st h => ?_, fun s q hs hq => ?_⟩
  · unfold f_record_Read
    rw [gName_d h, Option.bind_some]
    simp only
    rw [gErr_eq, Option.bind_some]
    simp only
    rw [if_neg h]
    rfl
  · unfold f_record_Read pRec
    rcases QN.run s q hq with ⟨e, st, p1, g1, x1, y1⟩ | ⟨d, r, p1, g1, n1, l1⟩
    · refine .inl ⟨e, st, by rw [p1], ?_, x1, y1⟩
      rw [g1, Option.bind_some]
      simp only
      rw [gErr_eq, Option.bind_some]
      simp only
      rw [if_neg y1]
      rfl
    · have hsp := Sp_name.spell _ _ _ _ hq p1
      have hdl : d.length ≤ 1000000 := by
        have := hsp.2.2.1
        rw [List.length_append] at this
        omega
      rw [g1, p1, Option.bind_some]
      simp only
      rw [gErr_eq, Option.bind_some]
      simp only [if_true]
      rw [gNew_eq _ (by omega), Option.bind_some]
      rcases body_run d hdl with ⟨e, x, b1, b2, b3⟩ | ⟨x, b1, b2⟩
      · have hb := read_body ⟨d, 0, 0⟩ ⟨s.drop r, r, 0⟩ x e b2
        rw [if_neg b3] at hb
        rw [b1]
        exact .inl ⟨e, _, rfl, hb, rfl, b3⟩
      · have hb := read_body ⟨d, 0, 0⟩ ⟨s.drop r, r, 0⟩ x 0 b2
        rw [if_pos rfl] at hb
        rw [b1]
        exact .inr ⟨x, r, rfl, hb, n1, l1⟩
end Go.Proofs.Ytcoppaggpbfcmaa.Sl
