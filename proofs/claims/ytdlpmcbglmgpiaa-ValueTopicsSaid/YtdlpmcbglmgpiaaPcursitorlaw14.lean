/- Printed by g2.py: package cursitorlaw14. -/
import Derived.Test.YtdlpmcbglmgpiaaGb
import Derived.Test.YtdlpmcbglmgpiaaNg
import Derived.Test.YtdlpmcbglmgpiaaPcursitorref14
import Derived.Test.YtdlpmcbglmgpiaaPvalue
namespace Go.Proofs.Ytdlpmcbglmgpiaa.Sl
open Go.RowKit
set_option linter.unusedVariables false
set_option linter.unusedSimpArgs false
set_option maxRecDepth 100000
def ft_cursitorlaw14 : FTab := [(64, 3, 3), (64, 4, 4), (64, 6, 6), (104, 0, 0), (104, 1, 1)]
theorem ft_cursitorlaw14_ok : (ft_cursitorlaw14).OK Try.prog := ⟨FOK.mk Try.runUnderlying64 rfl Try.sizeOf3 rfl, FOK.mk Try.runUnderlying64 rfl Try.sizeOf62 rfl, FOK.mk Try.runUnderlying64 rfl Try.sizeOf3 rfl, FOK.mk Try.runUnderlying104 rfl Try.sizeOf9 rfl, FOK.mk Try.runUnderlying104 rfl Try.sizeOf102 rfl, trivial⟩
theorem mix_cursitorlaw14 : Try.prog.follows .mixedOrders = true := by kernel_rfl
theorem bok_cursitorlaw14_64 : BOK Try.prog 64 #[.int .i64 0, .int .i64 0, .int .i64 0, .int .i64 0, .slice none 0 0, .int .i64 0, .int .i64 0] [(0, 1), (1, 1), (2, 1), (3, 1), (4, 1), (5, 1), (6, 1)] := BOK.mk Try.zeroValue64 Try.runUnderlying64 (by intro w; simp)
def f_l14_speaks  : Option (Bool) := (f_value_Encode (⟨0, 0, 0, 0, [], 0, -1⟩ : Val)).bind fun (x1, x2) => (f_value_Decode x1).bind fun (x4, x7) => (f_value_Encode (⟨0, 0, 0, 1, [], 0, 0⟩ : Val)).bind fun (x10, x11) => if x2 = 0 then (if (x1.length : Int) = 37 then (if x7 = 0 then (if x4.fStarted = (-1) then (if x11 = 10 then some true else some false) else some false) else some false) else some false) else some false
set_option maxRecDepth 100000 in
set_option maxHeartbeats 4000000 in
theorem f_l14_speaks_spec  (r : Bool) (h : f_l14_speaks  = some r) : SpecX Try.prog 36 #[] .triv (EmpR) (fun v A' N => v = .bool r ∧ A' = EmpR ∧ N = []) := by
  refine enterA Try.func36 rfl Try.ntmps36 rfl ?_
  intro F w hX
  unfold f_l14_speaks at h
  refine T.seq (T.region rfl ?_)
  refine TL.run ft_cursitorlaw14_ok [0] rfl rfl ?_
  refine TL.nil (X.seq (T.seq (T.region rfl ?_)))
  refine TL.q rfl .u (Ex.bld (cells := #[.int .i64 0, .int .i64 0, .int .i64 0, .int .i64 0, .slice none 0 0, .int .i64 0, .int .i64 (-1)]) bok_cursitorlaw14_64 rfl (by rfl)) rfl ?_
  obtain ⟨⟨x1, x2⟩, hx3, h⟩ := Option.bind_eq_some_iff.1 h
  try dsimp only at h
  refine TL.ce rfl .u (.fn Try.call40 rfl) (f_value_Encode_spec (⟨0, 0, 0, 0, [], 0, -1⟩ : Val) _ _ _ hx3) (fun _ hs => slice_nil_reads) rfl ?_
  refine TL.run ft_cursitorlaw14_ok [2, 3, 4, 5, 6] rfl rfl ?_
  refine TL.nil (X.seq (T.seq (T.region rfl ?_)))
  obtain ⟨⟨x4, x7⟩, hx8, h⟩ := Option.bind_eq_some_iff.1 h
  try dsimp only at h
  refine TL.run ft_cursitorlaw14_ok [0] rfl rfl ?_
  refine TL.cge rfl .u (.fn Try.call37 rfl) (f_value_Decode_spec x1 _ hx8) (fun _ hs => (RX.reads_triv _ _)) rfl ?_
  rintro _ _ _ ⟨A5, c6, rfl, rfl, rfl⟩
  refine TL.sel [0, 0] rfl ?_
  refine TL.run ft_cursitorlaw14_ok [2, 3, 4] rfl rfl ?_
  refine TL.alloc rfl .u Try.zeroValue64 rfl (fun b9 => ?_)
  refine TL.st0 (cs' := #[.int .i64 x4.fProducer, .int .i64 x4.fEpoch, .int .i64 x4.fTimeout, .int .i64 x4.fState, .slice A5 x4.fTopics.length c6, .int .i64 x4.fUpdated, .int .i64 x4.fStarted]) rfl .u rfl rfl Try.sizeOf64 rfl rfl rfl rfl ?_
  refine TL.run ft_cursitorlaw14_ok [7] rfl rfl ?_
  refine TL.nil (X.seq (T.seq (T.region rfl ?_)))
  refine TL.q rfl .u (Ex.bld (cells := #[.int .i64 0, .int .i64 0, .int .i64 0, .int .i64 1, .slice none 0 0, .int .i64 0, .int .i64 0]) bok_cursitorlaw14_64 rfl (by rfl)) rfl ?_
  obtain ⟨⟨x10, x11⟩, hx12, h⟩ := Option.bind_eq_some_iff.1 h
  try dsimp only at h
  refine TL.ce rfl .u (.fn Try.call40 rfl) (f_value_Encode_spec (⟨0, 0, 0, 1, [], 0, 0⟩ : Val) _ _ _ hx12) (fun _ hs => slice_nil_reads) rfl ?_
  refine TL.run ft_cursitorlaw14_ok [2, 3, 4, 5, 6] rfl rfl ?_
  refine TL.nil (X.seq (T.seq (T.region rfl ?_)))
  by_cases c13 : x2 = 0
  · replace h := ifT c13 h
    refine TL.run ft_cursitorlaw14_ok [0, 1, 2] rfl rfl ?_
    refine TL.q rfl (.g rfl rfl (decide_eq_true c13)) (Ex.ft ft_cursitorlaw14_ok rfl) rfl ?_
    refine TL.q rfl (.g rfl rfl (decide_eq_true c13)) (Ex.lenB rfl Try.runUnderlying9) rfl ?_
    refine TL.q rfl (.g rfl rfl (decide_eq_true c13)) (Ex.ft ft_cursitorlaw14_ok rfl) rfl ?_
    refine TL.q rfl .u (Ex.py rfl (decide_eq_true c13) rfl) rfl ?_
    by_cases c14 : (x1.length : Int) = 37
    · replace h := ifT c14 h
      refine TL.run ft_cursitorlaw14_ok [7] rfl rfl ?_
      refine TL.q rfl (.g rfl rfl (decide_eq_true c14)) (Ex.ft ft_cursitorlaw14_ok rfl) rfl ?_
      refine TL.q rfl (.g rfl rfl (decide_eq_true c14)) (Ex.ft ft_cursitorlaw14_ok rfl) rfl ?_
      refine TL.q rfl .u (Ex.py rfl (decide_eq_true c14) rfl) rfl ?_
      by_cases c15 : x7 = 0
      · replace h := ifT c15 h
        refine TL.run ft_cursitorlaw14_ok [11] rfl rfl ?_
        refine TL.q rfl (.g rfl rfl (decide_eq_true c15)) (Ex.ft ft_cursitorlaw14_ok rfl) rfl ?_
        refine TL.q rfl (.g rfl rfl (decide_eq_true c15)) (Ex.b1 0 rfl Try.isAgg3 rfl rfl) rfl ?_
        refine TL.q rfl (.g rfl rfl (decide_eq_true c15)) (Ex.ft ft_cursitorlaw14_ok rfl) rfl ?_
        refine TL.q rfl .u (Ex.py rfl (decide_eq_true c15) rfl) rfl ?_
        by_cases c16 : x4.fStarted = (-1)
        · replace h := ifT c16 h
          refine TL.run ft_cursitorlaw14_ok [16] rfl rfl ?_
          refine TL.q rfl (.g rfl rfl (decide_eq_true c16)) (Ex.ft ft_cursitorlaw14_ok rfl) rfl ?_
          refine TL.q rfl (.g rfl rfl (decide_eq_true c16)) (Ex.ft ft_cursitorlaw14_ok rfl) rfl ?_
          refine TL.q rfl .u (Ex.py rfl (decide_eq_true c16) rfl) rfl ?_
          by_cases c17 : x11 = 10
          · replace h := ifT c17 h
            refine TL.run ft_cursitorlaw14_ok [20] rfl rfl ?_
            refine TL.q rfl .u (Ex.py rfl (decide_eq_true c17) rfl) rfl ?_
            refine TL.run ft_cursitorlaw14_ok [22] rfl rfl ?_
            obtain rfl := Option.some.inj h
            exact TL.nil (X.seq (T.ret (X.done1 [2] Try.results36 (RV.tm rfl) ⟨rfl, rfl, rfl⟩ (by rfl) (.inl rfl))))
          · replace h := ifF c17 h
            refine TL.run ft_cursitorlaw14_ok [20] rfl rfl ?_
            refine TL.q rfl .u (Ex.pn rfl (decide_eq_false c17) rfl) rfl ?_
            refine TL.run ft_cursitorlaw14_ok [22] rfl rfl ?_
            obtain rfl := Option.some.inj h
            exact TL.nil (X.seq (T.ret (X.done1 [2] Try.results36 (RV.tm rfl) ⟨rfl, rfl, rfl⟩ (by rfl) (.inl rfl))))
        · replace h := ifF c16 h
          refine TL.run ft_cursitorlaw14_ok [16] rfl rfl ?_
          refine TL.no rfl (.gn rfl rfl (decide_eq_false c16)) rfl ?_
          refine TL.no rfl (.gn rfl rfl (decide_eq_false c16)) rfl ?_
          refine TL.q rfl .u (Ex.pn rfl (decide_eq_false c16) rfl) rfl ?_
          refine TL.run ft_cursitorlaw14_ok [20] rfl rfl ?_
          refine TL.q rfl .u (Ex.pn rfl rfl rfl) rfl ?_
          refine TL.run ft_cursitorlaw14_ok [22] rfl rfl ?_
          obtain rfl := Option.some.inj h
          exact TL.nil (X.seq (T.ret (X.done1 [2] Try.results36 (RV.tm rfl) ⟨rfl, rfl, rfl⟩ (by rfl) (.inl rfl))))
      · replace h := ifF c15 h
        refine TL.run ft_cursitorlaw14_ok [11] rfl rfl ?_
        refine TL.no rfl (.gn rfl rfl (decide_eq_false c15)) rfl ?_
        refine TL.no rfl (.gn rfl rfl (decide_eq_false c15)) rfl ?_
        refine TL.no rfl (.gn rfl rfl (decide_eq_false c15)) rfl ?_
        refine TL.q rfl .u (Ex.pn rfl (decide_eq_false c15) rfl) rfl ?_
        refine TL.run ft_cursitorlaw14_ok [16] rfl rfl ?_
        refine TL.no rfl (.gn rfl rfl rfl) rfl ?_
        refine TL.no rfl (.gn rfl rfl rfl) rfl ?_
        refine TL.q rfl .u (Ex.pn rfl rfl rfl) rfl ?_
        refine TL.run ft_cursitorlaw14_ok [20] rfl rfl ?_
        refine TL.q rfl .u (Ex.pn rfl rfl rfl) rfl ?_
        refine TL.run ft_cursitorlaw14_ok [22] rfl rfl ?_
        obtain rfl := Option.some.inj h
        exact TL.nil (X.seq (T.ret (X.done1 [2] Try.results36 (RV.tm rfl) ⟨rfl, rfl, rfl⟩ (by rfl) (.inl rfl))))
    · replace h := ifF c14 h
      refine TL.run ft_cursitorlaw14_ok [7] rfl rfl ?_
      refine TL.no rfl (.gn rfl rfl (decide_eq_false c14)) rfl ?_
      refine TL.no rfl (.gn rfl rfl (decide_eq_false c14)) rfl ?_
      refine TL.q rfl .u (Ex.pn rfl (decide_eq_false c14) rfl) rfl ?_
      refine TL.run ft_cursitorlaw14_ok [11] rfl rfl ?_
      refine TL.no rfl (.gn rfl rfl rfl) rfl ?_
      refine TL.no rfl (.gn rfl rfl rfl) rfl ?_
      refine TL.no rfl (.gn rfl rfl rfl) rfl ?_
      refine TL.q rfl .u (Ex.pn rfl rfl rfl) rfl ?_
      refine TL.run ft_cursitorlaw14_ok [16] rfl rfl ?_
      refine TL.no rfl (.gn rfl rfl rfl) rfl ?_
      refine TL.no rfl (.gn rfl rfl rfl) rfl ?_
      refine TL.q rfl .u (Ex.pn rfl rfl rfl) rfl ?_
      refine TL.run ft_cursitorlaw14_ok [20] rfl rfl ?_
      refine TL.q rfl .u (Ex.pn rfl rfl rfl) rfl ?_
      refine TL.run ft_cursitorlaw14_ok [22] rfl rfl ?_
      obtain rfl := Option.some.inj h
      exact TL.nil (X.seq (T.ret (X.done1 [2] Try.results36 (RV.tm rfl) ⟨rfl, rfl, rfl⟩ (by rfl) (.inl rfl))))
  · replace h := ifF c13 h
    refine TL.run ft_cursitorlaw14_ok [0, 1, 2] rfl rfl ?_
    refine TL.no rfl (.gn rfl rfl (decide_eq_false c13)) rfl ?_
    refine TL.no rfl (.gn rfl rfl (decide_eq_false c13)) rfl ?_
    refine TL.no rfl (.gn rfl rfl (decide_eq_false c13)) rfl ?_
    refine TL.q rfl .u (Ex.pn rfl (decide_eq_false c13) rfl) rfl ?_
    refine TL.run ft_cursitorlaw14_ok [7] rfl rfl ?_
    refine TL.no rfl (.gn rfl rfl rfl) rfl ?_
    refine TL.no rfl (.gn rfl rfl rfl) rfl ?_
    refine TL.q rfl .u (Ex.pn rfl rfl rfl) rfl ?_
    refine TL.run ft_cursitorlaw14_ok [11] rfl rfl ?_
    refine TL.no rfl (.gn rfl rfl rfl) rfl ?_
    refine TL.no rfl (.gn rfl rfl rfl) rfl ?_
    refine TL.no rfl (.gn rfl rfl rfl) rfl ?_
    refine TL.q rfl .u (Ex.pn rfl rfl rfl) rfl ?_
    refine TL.run ft_cursitorlaw14_ok [16] rfl rfl ?_
    refine TL.no rfl (.gn rfl rfl rfl) rfl ?_
    refine TL.no rfl (.gn rfl rfl rfl) rfl ?_
    refine TL.q rfl .u (Ex.pn rfl rfl rfl) rfl ?_
    refine TL.run ft_cursitorlaw14_ok [20] rfl rfl ?_
    refine TL.q rfl .u (Ex.pn rfl rfl rfl) rfl ?_
    refine TL.run ft_cursitorlaw14_ok [22] rfl rfl ?_
    obtain rfl := Option.some.inj h
    exact TL.nil (X.seq (T.ret (X.done1 [2] Try.results36 (RV.tm rfl) ⟨rfl, rfl, rfl⟩ (by rfl) (.inl rfl))))
def f_l14_ValueDecodes (a0 : List UInt8) : Option (Bool) := (f_l14_speaks).bind fun x1 => if x1 = true then (if (a0.length : Int) > 2000 then some true else ((f_value_Decode a0).bind fun (x5, x8) => (f_r14_Decode a0).bind fun (x11, x14) => if x8 = x14 then ((f_r14_Same x5 x11).bind fun x18 => if x18 = true then ((f_value_Encode x5).bind fun (x21, x22) => if x14 = 0 then (if x22 = 0 then (if x21 = a0 then some true else none) else none) else some true) else none) else none)) else none
set_option maxRecDepth 100000 in
set_option maxHeartbeats 4000000 in
theorem f_l14_ValueDecodes_spec (a0 : List UInt8) (r : Bool) (h : f_l14_ValueDecodes a0 = some r) : SpecX Try.prog 8 #[.string (bsOf a0)] .triv (EmpR) (fun v A' N => v = .bool r ∧ A' = EmpR ∧ N = []) := by
  refine enterA Try.func8 rfl Try.ntmps8 rfl ?_
  intro F w hX
  unfold f_l14_ValueDecodes at h
  refine T.seq (T.region rfl ?_)
  refine TL.run ft_cursitorlaw14_ok [0] rfl rfl ?_
  obtain ⟨x1, hx2, h⟩ := Option.bind_eq_some_iff.1 h
  refine TL.nil (X.seq (T.seq (T.seq (T.region rfl ?_))))
  refine TL.ce rfl .u (.fn Try.call36 rfl) (f_l14_speaks_spec _ hx2) (fun _ hs => (RX.reads_triv _ _)) rfl ?_
  refine TL.run ft_cursitorlaw14_ok [1] rfl rfl ?_
  by_cases c3 : x1 = true
  · replace h := ifT c3 h
    refine TL.nil (X.seq ?_)
    refine T.no rfl (bn_f c3) ?_
    refine T.skip (X.seq (T.seq (T.seq (T.region rfl ?_))))
    refine TL.run ft_cursitorlaw14_ok [0] rfl rfl ?_
    refine TL.q rfl .u (Ex.lenB rfl Try.runUnderlying9) rfl ?_
    refine TL.run ft_cursitorlaw14_ok [2] rfl rfl ?_
    by_cases c4 : (a0.length : Int) > 2000
    · replace h := ifT c4 h
      refine TL.nil (X.seq ?_)
      refine T.yes rfl (decide_eq_true c4) ?_
      refine T.seq (T.region rfl ?_)
      refine TL.run ft_cursitorlaw14_ok [0] rfl rfl ?_
      obtain rfl := Option.some.inj h
      exact TL.nil (X.seq (T.ret (X.rs (X.done1 [0] Try.results8 (RV.tm rfl) ⟨rfl, rfl, rfl⟩ (by rfl) (.inl rfl)))))
    · replace h := ifF c4 h
      refine TL.nil (X.seq ?_)
      refine T.no rfl (decide_eq_false c4) ?_
      refine T.skip (X.seq (T.seq (T.region rfl ?_)))
      obtain ⟨⟨x5, x8⟩, hx9, h⟩ := Option.bind_eq_some_iff.1 h
      try dsimp only at h
      refine TL.run ft_cursitorlaw14_ok [0] rfl rfl ?_
      refine TL.cge rfl .u (.fn Try.call37 rfl) (f_value_Decode_spec a0 _ hx9) (fun _ hs => (RX.reads_triv _ _)) rfl ?_
      rintro _ _ _ ⟨A6, c7, rfl, rfl, rfl⟩
      refine TL.sel [0, 0] rfl ?_
      refine TL.run ft_cursitorlaw14_ok [2, 3, 4] rfl rfl ?_
      refine TL.alloc rfl .u Try.zeroValue64 rfl (fun b10 => ?_)
      refine TL.st0 (cs' := #[.int .i64 x5.fProducer, .int .i64 x5.fEpoch, .int .i64 x5.fTimeout, .int .i64 x5.fState, .slice A6 x5.fTopics.length c7, .int .i64 x5.fUpdated, .int .i64 x5.fStarted]) rfl .u rfl rfl Try.sizeOf64 rfl rfl rfl rfl ?_
      refine TL.run ft_cursitorlaw14_ok [7] rfl rfl ?_
      refine TL.nil (X.seq (T.seq (T.region rfl ?_)))
      obtain ⟨⟨x11, x14⟩, hx15, h⟩ := Option.bind_eq_some_iff.1 h
      try dsimp only at h
      refine TL.run ft_cursitorlaw14_ok [0] rfl rfl ?_
      refine TL.cge rfl .u (.fn Try.call38 rfl) (f_r14_Decode_spec a0 _ hx15) (fun _ hs => (RX.reads_triv _ _)) rfl ?_
      rintro _ _ _ ⟨A12, c13, rfl, rfl, rfl⟩
      refine TL.sel [0, 0, 0, 0] rfl ?_
      refine TL.run ft_cursitorlaw14_ok [2, 3, 4] rfl rfl ?_
      refine TL.alloc rfl .u Try.zeroValue64 rfl (fun b16 => ?_)
      refine TL.st0 (cs' := #[.int .i64 x11.fProducer, .int .i64 x11.fEpoch, .int .i64 x11.fTimeout, .int .i64 x11.fState, .slice A12 x11.fTopics.length c13, .int .i64 x11.fUpdated, .int .i64 x11.fStarted]) rfl .u rfl rfl Try.sizeOf64 rfl rfl rfl rfl ?_
      refine TL.run ft_cursitorlaw14_ok [7] rfl rfl ?_
      refine TL.nil (X.seq (T.seq (T.seq (T.region rfl ?_))))
      by_cases c17 : x8 = x14
      · replace h := ifT c17 h
        refine TL.run ft_cursitorlaw14_ok [0, 1, 2, 3] rfl rfl ?_
        refine TL.q rfl (.g rfl rfl (bn_f (decide_eq_true c17))) (Ex.bS (us := [.int .i64 x5.fProducer, .int .i64 x5.fEpoch, .int .i64 x5.fTimeout, .int .i64 x5.fState, .slice A6 x5.fTopics.length c7, .int .i64 x5.fUpdated, .int .i64 x5.fStarted]) 2 rfl Try.isAgg64 Try.sizeOf64 rfl rfl rfl) rfl ?_
        refine TL.q rfl (.g rfl rfl (bn_f (decide_eq_true c17))) (Ex.bS (us := [.int .i64 x11.fProducer, .int .i64 x11.fEpoch, .int .i64 x11.fTimeout, .int .i64 x11.fState, .slice A12 x11.fTopics.length c13, .int .i64 x11.fUpdated, .int .i64 x11.fStarted]) 0 rfl Try.isAgg64 Try.sizeOf64 rfl rfl rfl) rfl ?_
        obtain ⟨x18, hx19, h⟩ := Option.bind_eq_some_iff.1 h
        refine TL.ce rfl (.g rfl rfl (bn_f (decide_eq_true c17))) (.fn Try.call39 rfl) (f_r14_Same_spec x5 _ _ x11 _ _ _ hx19) (fun _ hs => (RX.reads_and (SrcE.res 3 hs rfl (fun w G h => rd_reads w G h)) (SrcE.res 1 hs rfl (fun w G h => rd_reads w G h)))) rfl ?_
        refine TL.q rfl (.g rfl rfl (bn_f (decide_eq_true c17))) (Ex.ft ft_cursitorlaw14_ok rfl) rfl ?_
        refine TL.q rfl .u (Ex.pn rfl (bn_f (decide_eq_true c17)) rfl) rfl ?_
        by_cases c20 : x18 = true
        · replace h := ifT c20 h
          refine TL.nil (X.seq ?_)
          refine T.no rfl (bn_f c20) ?_
          refine T.skip (X.seq (T.seq (T.region rfl ?_)))
          refine TL.q rfl .u (Ex.bS (us := [.int .i64 x5.fProducer, .int .i64 x5.fEpoch, .int .i64 x5.fTimeout, .int .i64 x5.fState, .slice A6 x5.fTopics.length c7, .int .i64 x5.fUpdated, .int .i64 x5.fStarted]) 2 rfl Try.isAgg64 Try.sizeOf64 rfl rfl rfl) rfl ?_
          obtain ⟨⟨x21, x22⟩, hx23, h⟩ := Option.bind_eq_some_iff.1 h
          try dsimp only at h
          refine TL.ce rfl .u (.fn Try.call40 rfl) (f_value_Encode_spec x5 _ _ _ hx23) (fun _ hs => (SrcE.res 3 hs rfl (fun w G h => rd_reads w G h))) rfl ?_
          refine TL.run ft_cursitorlaw14_ok [2, 3, 4, 5, 6] rfl rfl ?_
          refine TL.nil (X.seq (T.seq (T.region rfl ?_)))
          by_cases c24 : x14 = 0
          · replace h := ifT c24 h
            refine TL.run ft_cursitorlaw14_ok [0, 1, 2] rfl rfl ?_
            refine TL.q rfl (.g rfl rfl (bn_f (decide_eq_true c24))) (Ex.ft ft_cursitorlaw14_ok rfl) rfl ?_
            refine TL.q rfl (.g rfl rfl (bn_f (decide_eq_true c24))) (Ex.ft ft_cursitorlaw14_ok rfl) rfl ?_
            refine TL.q rfl (.g rfl rfl (bn_f (decide_eq_true c24))) (Ex.ft ft_cursitorlaw14_ok rfl) rfl ?_
            by_cases c25 : x22 = 0
            · replace h := ifT c25 h
              refine TL.q rfl (.g rfl rfl (decide_eq_true c25)) (Ex.ft ft_cursitorlaw14_ok rfl) rfl ?_
              refine TL.q rfl (.g rfl rfl (decide_eq_true c25)) (Ex.ft ft_cursitorlaw14_ok rfl) rfl ?_
              refine TL.q rfl (.g rfl rfl (decide_eq_true c25)) (Ex.sEq rfl rfl) rfl ?_
              refine TL.q rfl (.g rfl rfl (bn_f (decide_eq_true c24))) (Ex.py rfl (decide_eq_true c25) rfl) rfl ?_
              refine TL.q rfl .u (Ex.pn rfl (bn_f (decide_eq_true c24)) rfl) rfl ?_
              refine TL.run ft_cursitorlaw14_ok [11] rfl rfl ?_
              by_cases c26 : x21 = a0
              · replace h := ifT c26 h
                obtain rfl := Option.some.inj h
                exact TL.nil (X.seq (T.ret (X.done1 [4] Try.results8 (RV.tm (v := .bool true) (congrArg (fun b => some (Value.bool b)) (decide_eq_true c26))) ⟨rfl, rfl, rfl⟩ (by rfl) (.inl rfl))))
              · replace h := ifF c26 h
                exact nomatch h
            · replace h := ifF c25 h
              refine TL.no rfl (.gn rfl rfl (decide_eq_false c25)) rfl ?_
              refine TL.no rfl (.gn rfl rfl (decide_eq_false c25)) rfl ?_
              refine TL.no rfl (.gn rfl rfl (decide_eq_false c25)) rfl ?_
              exact nomatch h
          · replace h := ifF c24 h
            refine TL.run ft_cursitorlaw14_ok [0, 1, 2] rfl rfl ?_
            refine TL.no rfl (.gn rfl rfl (bn_t (decide_eq_false c24))) rfl ?_
            refine TL.no rfl (.gn rfl rfl (bn_t (decide_eq_false c24))) rfl ?_
            refine TL.no rfl (.gn rfl rfl (bn_t (decide_eq_false c24))) rfl ?_
            refine TL.no rfl (.gu rfl rfl) rfl ?_
            refine TL.no rfl (.gu rfl rfl) rfl ?_
            refine TL.no rfl (.gu rfl rfl) rfl ?_
            refine TL.no rfl (.gn rfl rfl (bn_t (decide_eq_false c24))) rfl ?_
            refine TL.q rfl .u (Ex.py rfl (bn_t (decide_eq_false c24)) rfl) rfl ?_
            refine TL.run ft_cursitorlaw14_ok [11] rfl rfl ?_
            obtain rfl := Option.some.inj h
            exact TL.nil (X.seq (T.ret (X.done1 [4] Try.results8 (RV.tm rfl) ⟨rfl, rfl, rfl⟩ (by rfl) (.inl rfl))))
        · replace h := ifF c20 h
          replace c20 := eq_false_of_ne_true c20
          refine TL.nil (X.seq ?_)
          refine T.yes rfl (bn_t c20) ?_
          exact nomatch h
      · replace h := ifF c17 h
        refine TL.run ft_cursitorlaw14_ok [0, 1, 2, 3] rfl rfl ?_
        refine TL.no rfl (.gn rfl rfl (bn_t (decide_eq_false c17))) rfl ?_
        refine TL.no rfl (.gn rfl rfl (bn_t (decide_eq_false c17))) rfl ?_
        refine TL.no rfl (.gn rfl rfl (bn_t (decide_eq_false c17))) rfl ?_
        refine TL.no rfl (.gn rfl rfl (bn_t (decide_eq_false c17))) rfl ?_
        exact nomatch h
  · replace h := ifF c3 h
    replace c3 := eq_false_of_ne_true c3
    refine TL.nil (X.seq ?_)
    refine T.yes rfl (bn_t c3) ?_
    exact nomatch h
def f_l14_Few_l1 : List Top → Int → Int → Option (Lp Int (Int × Int))
  | [], y3, y4 => some (Lp.go (y3, y4))
  | x10 :: xs, y3, y4 => if -9223372036854775808 ≤ (4 * (x10.fParts.length : Int)) ∧ (4 * (x10.fParts.length : Int)) ≤ 9223372036854775807 then (if -9223372036854775808 ≤ ((x10.fName.length : Int) + (4 * (x10.fParts.length : Int))) ∧ ((x10.fName.length : Int) + (4 * (x10.fParts.length : Int))) ≤ 9223372036854775807 then (if -9223372036854775808 ≤ (((x10.fName.length : Int) + (4 * (x10.fParts.length : Int))) + 6) ∧ (((x10.fName.length : Int) + (4 * (x10.fParts.length : Int))) + 6) ≤ 9223372036854775807 then (if -9223372036854775808 ≤ (y4 + (((x10.fName.length : Int) + (4 * (x10.fParts.length : Int))) + 6)) ∧ (y4 + (((x10.fName.length : Int) + (4 * (x10.fParts.length : Int))) + 6)) ≤ 9223372036854775807 then (if (y4 + (((x10.fName.length : Int) + (4 * (x10.fParts.length : Int))) + 6)) > 1000 then some (Lp.ret 0) else (f_l14_Few_l1 xs y3 (y4 + (((x10.fName.length : Int) + (4 * (x10.fParts.length : Int))) + 6)))) else none) else none) else none) else none
def f_l14_Few (a0 : List Top) : Option (Int) := (f_l14_Few_l1 a0 0 0).bind fun e => match e with | .ret r => some r | .go (y23, y24) => some 1
set_option maxRecDepth 100000 in
set_option maxHeartbeats 4000000 in
theorem f_l14_Few_spec (a0 : List Top) (A1 : Option Addr) (c2 : Nat) (r : Int) (h : f_l14_Few a0 = some r) : SpecX Try.prog 45 #[.slice A1 a0.length c2] (RX.of (sliceRd 2 Top_rd) [.slice A1 a0.length c2] a0) (EmpR) (fun v A' N => v = .int .i64 r ∧ A' = EmpR ∧ N = []) := by
  refine enterA Try.func45 rfl Try.ntmps45 rfl ?_
  intro F w hX
  unfold f_l14_Few at h
  refine T.seq (T.region rfl ?_)
  refine TL.run ft_cursitorlaw14_ok [0] rfl rfl ?_
  refine TL.nil (X.seq (T.seq (T.region rfl ?_)))
  refine TL.run ft_cursitorlaw14_ok [0] rfl rfl ?_
  refine TL.nil (X.seq (T.seq (T.seq (T.region rfl ?_))))
  refine TL.run ft_cursitorlaw14_ok [0] rfl rfl ?_
  refine TL.q rfl .u (Ex.lenS rfl Try.runUnderlying62) rfl ?_
  refine TL.run ft_cursitorlaw14_ok [2] rfl rfl ?_
  refine TL.nil (X.seq (T.block ?_))
  obtain ⟨E6, hE7, hO8⟩ := Option.bind_eq_some_iff.1 h
  have hk12len := RX.len_le hX
  refine T.lp (fun m e Rs => ∃ (y3 : Int) (y4 : Int) (k5 : Nat), k5 + m = a0.length ∧ e = [(2, .int .i64 y3), (3, .int .i64 y4), (6, .slice A1 a0.length c2), (7, .int .i64 (a0.length : Int)), (8, .int .i64 (k5 : Int))] ∧ Rs = [EmpR] ∧ f_l14_Few_l1 (a0.drop k5) y3 y4 = some E6) (a0.length) [0] ⟨0, 0, 0, by simp, rfl, rfl, by rw [List.drop_zero]; exact hE7⟩ (by rfl) (by rfl) ?_
  rintro m9 _ _ ⟨y3, y4, k5, hk12, rfl, rfl, hl11⟩
  clear hE7 h
  cases m9 with
  | zero =>
    have h := hl11
    clear hl11
    rw [List.drop_of_length_le (by omega), f_l14_Few_l1] at h
    have hk12ge : ¬ ((k5 : Int) < (a0.length : Int)) := by omega
    refine T.seq (T.region rfl ?_)
    refine TL.run ft_cursitorlaw14_ok [0] rfl rfl ?_
    refine TL.nil (X.seq (T.seq ?_))
    refine T.no rfl (decide_eq_false hk12ge) ?_
    obtain rfl := Option.some.inj h
    replace h := hO8
    clear hO8
    try dsimp only at h
    refine T.exit (X.exs (X.exs (X.ex (X.seq (T.seq (T.region rfl ?_))))))
    refine TL.run ft_cursitorlaw14_ok [0] rfl rfl ?_
    obtain rfl := Option.some.inj h
    exact TL.nil (X.seq (T.ret (X.done1 [0] Try.results45 (RV.tm rfl) ⟨rfl, rfl, rfl⟩ (by rfl) (.inl rfl))))
  | succ m9 =>
    have h := hl11
    clear hl11
    obtain ⟨x10, hxx10⟩ : ∃ x, a0[k5]? = some x := ⟨_, List.getElem?_eq_getElem (by omega)⟩
    rw [drop_cons hxx10, f_l14_Few_l1] at h
    have hk12lt : (k5 : Int) < (a0.length : Int) := by omega
    refine T.seq (T.region rfl ?_)
    refine TL.run ft_cursitorlaw14_ok [0] rfl rfl ?_
    refine TL.nil (X.seq (T.seq ?_))
    refine T.yes rfl (decide_eq_true hk12lt) ?_
    obtain ⟨gz13, oz13, rfl, z13cs, z13cl, z13cc, z13nf, z13r⟩ := RX.elem (by decide) hX hxx10
    obtain ⟨z13S, z13r, z13rr⟩ := z13r
    obtain ⟨A14, c15, rfl, z13s0⟩ := z13r
    have hX16 : (RX.of (sliceRd 1 intE) [.slice A14 x10.fParts.length c15] x10.fParts).reads w F := ⟨z13S, z13s0, z13rr⟩
    refine T.skip (X.seq (T.seq (T.block (T.seq (T.region rfl ?_)))))
    refine TL.q rfl .u (Ex.ixS (k := k5) rfl rfl rfl Try.runUnderlying62 Try.sizeOf104 (List.getElem?_eq_some_iff.1 hxx10).1) rfl ?_
    refine TL.q rfl .u (Ex.oS (us := [.string (bsOf x10.fName), .slice A14 x10.fParts.length c15]) 0 rfl Try.isAgg104 Try.sizeOf104 z13nf z13cc rfl rfl rfl) rfl ?_
    refine TL.alloc rfl .u Try.zeroValue104 rfl (fun b17 => ?_)
    refine TL.st0 (cs' := #[.string (bsOf x10.fName), .slice A14 x10.fParts.length c15]) rfl .u rfl rfl Try.sizeOf104 rfl rfl rfl rfl ?_
    refine TL.nil (X.seq (T.seq (T.region rfl ?_)))
    refine TL.run ft_cursitorlaw14_ok [0, 1] rfl rfl ?_
    refine TL.q rfl .u (Ex.b1 0 rfl Try.isAgg9 rfl rfl) rfl ?_
    refine TL.q rfl .u (Ex.lenB rfl Try.runUnderlying9) rfl ?_
    refine TL.run ft_cursitorlaw14_ok [4] rfl rfl ?_
    refine TL.q rfl .u (Ex.b1 0 rfl Try.isAgg102 rfl rfl) rfl ?_
    refine TL.q rfl .u (Ex.lenS rfl Try.runUnderlying102) rfl ?_
    replace h := guard_some h
    obtain ⟨c18, h⟩ := h
    refine TL.q rfl .u (Ex.mul rfl rfl c18) rfl ?_
    replace h := guard_some h
    obtain ⟨c19, h⟩ := h
    refine TL.q rfl .u (Ex.add rfl rfl c19) rfl ?_
    replace h := guard_some h
    obtain ⟨c20, h⟩ := h
    refine TL.q rfl .u (Ex.add rfl rfl c20) rfl ?_
    replace h := guard_some h
    obtain ⟨c21, h⟩ := h
    refine TL.q rfl .u (Ex.add rfl rfl c21) rfl ?_
    refine TL.run ft_cursitorlaw14_ok [11] rfl rfl ?_
    refine TL.nil (X.seq (T.seq (T.region rfl ?_)))
    refine TL.run ft_cursitorlaw14_ok [0, 1] rfl rfl ?_
    by_cases c22 : (y4 + (((x10.fName.length : Int) + (4 * (x10.fParts.length : Int))) + 6)) > 1000
    · replace h := ifT c22 h
      refine TL.nil (X.seq ?_)
      refine T.yes rfl (decide_eq_true c22) ?_
      refine T.seq (T.region rfl ?_)
      refine TL.run ft_cursitorlaw14_ok [0] rfl rfl ?_
      obtain rfl := Option.some.inj h
      replace h := hO8
      clear hO8
      try dsimp only at h
      obtain rfl := Option.some.inj h
      exact TL.nil (X.seq (T.ret (X.rb (X.rs (X.rs (X.rb (X.rs (X.done1 [1] Try.results45 (RV.tm rfl) ⟨rfl, rfl, rfl⟩ (by rfl) (.inl rfl)))))))))
    · replace h := ifF c22 h
      refine TL.nil (X.seq ?_)
      refine T.no rfl (decide_eq_false c22) ?_
      refine T.skip (X.blk (X.seq (T.region rfl ?_)))
      refine TL.q rfl .u (Ex.add rfl rfl (by omega)) rfl ?_
      refine TL.run ft_cursitorlaw14_ok [1] rfl rfl ?_
      exact TL.nil (X.back (m' := m9) [1] (by omega) ⟨y3, (y4 + (((x10.fName.length : Int) + (4 * (x10.fParts.length : Int))) + 6)), k5 + 1, by omega, rfl, rfl, h⟩ (by rfl) (by rfl))
def f_l14_ValueTopics_l2 : List Int → Bool → Option (Lp Bool Bool)
  | [], y61 => some (Lp.go y61)
  | x67 :: xs, y61 => if x67 < (-2147483648) then some (Lp.ret true) else (if x67 > 2147483647 then some (Lp.ret true) else (f_l14_ValueTopics_l2 xs y61))
def f_l14_ValueTopics_l1 : List Top → Bool → Option (Lp Bool Bool)
  | [], y47 => some (Lp.go y47)
  | x53 :: xs, y47 => (f_l14_ValueTopics_l2 x53.fParts y47).bind fun e => match e with | .ret r => some (Lp.ret r) | .go y73 => (f_l14_ValueTopics_l1 xs y73)
def f_l14_ValueTopics_l4 : List Int → Bool → Option (Lp Bool Bool)
  | [], y144 => some (Lp.go y144)
  | x150 :: xs, y144 => if x150 < (-2147483648) then some (Lp.ret true) else (if x150 > 2147483647 then some (Lp.ret true) else (f_l14_ValueTopics_l4 xs y144))
def f_l14_ValueTopics_l3 : List Top → Bool → Option (Lp Bool Bool)
  | [], y130 => some (Lp.go y130)
  | x136 :: xs, y130 => (f_l14_ValueTopics_l4 x136.fParts y130).bind fun e => match e with | .ret r => some (Lp.ret r) | .go y156 => (f_l14_ValueTopics_l3 xs y156)
def f_l14_ValueTopics_l6 : List Int → Bool → Option (Lp Bool Bool)
  | [], y232 => some (Lp.go y232)
  | x238 :: xs, y232 => if x238 < (-2147483648) then some (Lp.ret true) else (if x238 > 2147483647 then some (Lp.ret true) else (f_l14_ValueTopics_l6 xs y232))
def f_l14_ValueTopics_l5 : List Top → Bool → Option (Lp Bool Bool)
  | [], y218 => some (Lp.go y218)
  | x224 :: xs, y218 => (f_l14_ValueTopics_l6 x224.fParts y218).bind fun e => match e with | .ret r => some (Lp.ret r) | .go y244 => (f_l14_ValueTopics_l5 xs y244)
def f_l14_ValueTopics_l8 : List Int → Bool → Option (Lp Bool Bool)
  | [], y315 => some (Lp.go y315)
  | x321 :: xs, y315 => if x321 < (-2147483648) then some (Lp.ret true) else (if x321 > 2147483647 then some (Lp.ret true) else (f_l14_ValueTopics_l8 xs y315))
def f_l14_ValueTopics_l7 : List Top → Bool → Option (Lp Bool Bool)
  | [], y301 => some (Lp.go y301)
  | x307 :: xs, y301 => (f_l14_ValueTopics_l8 x307.fParts y301).bind fun e => match e with | .ret r => some (Lp.ret r) | .go y327 => (f_l14_ValueTopics_l7 xs y327)
def f_l14_ValueTopics (a0 : List Top) (a1 : List Top) (a2 : List UInt8) : Option (Bool) := (f_l14_speaks).bind fun x5 => if x5 = true then ((f_l14_Few a0).bind fun x8 => if x8 = 0 then some true else ((f_l14_Few a1).bind fun x11 => if x11 = 0 then some true else (if (a2.length : Int) > 1000 then some true else ((gNew a2).bind fun st15 => (f_value_Topics st15).bind fun (x18, st21) => (f_r14_ReadTopics a2).bind fun (x23, x26, x27) => (gErr st21).bind fun (x29, st30) => if x29 = x27 then ((f_r14_SameTopics x18 x23).bind fun x33 => if x33 = true then (if x27 = 0 then ((gAt st30).bind fun (x37, st38) => if x37 = x26 then ((f_value_SameTopics a0 a1).bind fun x41 => (f_r14_SameTopics a0 a1).bind fun x43 => if x41 = true then (if x43 = true then ((f_l14_ValueTopics_l1 a0 false).bind fun e => match e with | .ret r => some r | .go y75 => ((f_value_PutTopics ([], 0) a0).bind fun st78 => (gOText st78).bind fun (x80, x81, st82) => (gNew x80).bind fun st84 => if x81 = 0 then ((f_r14_Topics a0).bind fun x88 => if x80 = x88 then ((f_value_Topics st84).bind fun (x91, st94) => (f_r14_SameTopics x91 a0).bind fun x96 => if x96 = true then ((gClose st94).bind fun (x99, st100) => if x99 = 0 then some true else none) else none) else none) else none)) else none) else (if x43 = true then none else ((f_l14_ValueTopics_l3 a0 false).bind fun e => match e with | .ret r => some r | .go y158 => ((f_value_PutTopics ([], 0) a0).bind fun st161 => (gOText st161).bind fun (x163, x164, st165) => (gNew x163).bind fun st167 => if x164 = 0 then ((f_r14_Topics a0).bind fun x171 => if x163 = x171 then ((f_value_Topics st167).bind fun (x174, st177) => (f_r14_SameTopics x174 a0).bind fun x179 => if x179 = true then ((gClose st177).bind fun (x182, st183) => if x182 = 0 then some true else none) else none) else none) else none)))) else none) else ((f_value_SameTopics a0 a1).bind fun x212 => (f_r14_SameTopics a0 a1).bind fun x214 => if x212 = true then (if x214 = true then ((f_l14_ValueTopics_l5 a0 false).bind fun e => match e with | .ret r => some r | .go y246 => ((f_value_PutTopics ([], 0) a0).bind fun st249 => (gOText st249).bind fun (x251, x252, st253) => (gNew x251).bind fun st255 => if x252 = 0 then ((f_r14_Topics a0).bind fun x259 => if x251 = x259 then ((f_value_Topics st255).bind fun (x262, st265) => (f_r14_SameTopics x262 a0).bind fun x267 => if x267 = true then ((gClose st265).bind fun (x270, st271) => if x270 = 0 then some true else none) else none) else none) else none)) else none) else (if x214 = true then none else ((f_l14_ValueTopics_l7 a0 false).bind fun e => match e with | .ret r => some r | .go y329 => ((f_value_PutTopics ([], 0) a0).bind fun st332 => (gOText st332).bind fun (x334, x335, st336) => (gNew x334).bind fun st338 => if x335 = 0 then ((f_r14_Topics a0).bind fun x342 => if x334 = x342 then ((f_value_Topics st338).bind fun (x345, st348) => (f_r14_SameTopics x345 a0).bind fun x350 => if x350 = true then ((gClose st348).bind fun (x353, st354) => if x353 = 0 then some true else none) else none) else none) else none))))) else none) else none)))) else none
set_option maxRecDepth 100000 in
set_option maxHeartbeats 4000000 in
theorem f_l14_ValueTopics_spec (a0 : List Top) (A1 : Option Addr) (c2 : Nat) (a1 : List Top) (A3 : Option Addr) (c4 : Nat) (a2 : List UInt8) (r : Bool) (h : f_l14_ValueTopics a0 a1 a2 = some r) : SpecX Try.prog 12 #[.slice A1 a0.length c2, .slice A3 a1.length c4, .string (bsOf a2)] (RX.and (RX.of (sliceRd 2 Top_rd) [.slice A1 a0.length c2] a0) (RX.of (sliceRd 2 Top_rd) [.slice A3 a1.length c4] a1)) (EmpR) (fun v A' N => v = .bool r ∧ A' = EmpR ∧ N = []) := by
  refine enterA Try.func12 rfl Try.ntmps12 rfl ?_
  intro F w hX
  unfold f_l14_ValueTopics at h
  refine T.seq (T.region rfl ?_)
  refine TL.run ft_cursitorlaw14_ok [0] rfl rfl ?_
  obtain ⟨x5, hx6, h⟩ := Option.bind_eq_some_iff.1 h
  refine TL.nil (X.seq (T.seq (T.seq (T.region rfl ?_))))
  refine TL.ce rfl .u (.fn Try.call36 rfl) (f_l14_speaks_spec _ hx6) (fun _ hs => (RX.reads_triv _ _)) rfl ?_
  refine TL.run ft_cursitorlaw14_ok [1] rfl rfl ?_
  by_cases c7 : x5 = true
  · replace h := ifT c7 h
    refine TL.nil (X.seq ?_)
    refine T.no rfl (bn_f c7) ?_
    refine T.skip (X.seq (T.seq (T.seq (T.region rfl ?_))))
    obtain ⟨x8, hx9, h⟩ := Option.bind_eq_some_iff.1 h
    refine TL.run ft_cursitorlaw14_ok [0] rfl rfl ?_
    refine TL.ce rfl .u (.fn Try.call45 rfl) (f_l14_Few_spec a0 _ _ _ hx9) (fun _ hs => (SrcE.old hs (RX.reads_left hX))) rfl ?_
    by_cases c10 : x8 = 0
    · replace h := ifT c10 h
      refine TL.run ft_cursitorlaw14_ok [2, 3] rfl rfl ?_
      refine TL.no rfl (.gn rfl rfl (decide_eq_true c10)) rfl ?_
      refine TL.no rfl (.gn rfl rfl (decide_eq_true c10)) rfl ?_
      refine TL.no rfl (.gn rfl rfl (decide_eq_true c10)) rfl ?_
      refine TL.q rfl .u (Ex.py rfl (decide_eq_true c10) rfl) rfl ?_
      refine TL.run ft_cursitorlaw14_ok [8] rfl rfl ?_
      refine TL.no rfl (.gn rfl rfl rfl) rfl ?_
      refine TL.no rfl (.gn rfl rfl rfl) rfl ?_
      refine TL.no rfl (.gn rfl rfl rfl) rfl ?_
      refine TL.q rfl .u (Ex.py rfl rfl rfl) rfl ?_
      refine TL.nil (X.seq ?_)
      refine T.yes rfl rfl ?_
      refine T.seq (T.region rfl ?_)
      refine TL.run ft_cursitorlaw14_ok [0] rfl rfl ?_
      obtain rfl := Option.some.inj h
      exact TL.nil (X.seq (T.ret (X.rs (X.done1 [0] Try.results12 (RV.tm rfl) ⟨rfl, rfl, rfl⟩ (by rfl) (.inl rfl)))))
    · replace h := ifF c10 h
      refine TL.run ft_cursitorlaw14_ok [2, 3] rfl rfl ?_
      refine TL.q rfl (.g rfl rfl (decide_eq_false c10)) (Ex.ft ft_cursitorlaw14_ok rfl) rfl ?_
      obtain ⟨x11, hx12, h⟩ := Option.bind_eq_some_iff.1 h
      refine TL.ce rfl (.g rfl rfl (decide_eq_false c10)) (.fn Try.call45 rfl) (f_l14_Few_spec a1 _ _ _ hx12) (fun _ hs => (SrcE.old hs (RX.reads_right hX))) rfl ?_
      refine TL.q rfl (.g rfl rfl (decide_eq_false c10)) (Ex.ft ft_cursitorlaw14_ok rfl) rfl ?_
      refine TL.q rfl .u (Ex.pn rfl (decide_eq_false c10) rfl) rfl ?_
      by_cases c13 : x11 = 0
      · replace h := ifT c13 h
        refine TL.run ft_cursitorlaw14_ok [8] rfl rfl ?_
        refine TL.no rfl (.gn rfl rfl (decide_eq_true c13)) rfl ?_
        refine TL.no rfl (.gn rfl rfl (decide_eq_true c13)) rfl ?_
        refine TL.no rfl (.gn rfl rfl (decide_eq_true c13)) rfl ?_
        refine TL.q rfl .u (Ex.py rfl (decide_eq_true c13) rfl) rfl ?_
        refine TL.nil (X.seq ?_)
        refine T.yes rfl rfl ?_
        refine T.seq (T.region rfl ?_)
        refine TL.run ft_cursitorlaw14_ok [0] rfl rfl ?_
        obtain rfl := Option.some.inj h
        exact TL.nil (X.seq (T.ret (X.rs (X.done1 [0] Try.results12 (RV.tm rfl) ⟨rfl, rfl, rfl⟩ (by rfl) (.inl rfl)))))
      · replace h := ifF c13 h
        refine TL.run ft_cursitorlaw14_ok [8] rfl rfl ?_
        refine TL.q rfl (.g rfl rfl (decide_eq_false c13)) (Ex.ft ft_cursitorlaw14_ok rfl) rfl ?_
        refine TL.q rfl (.g rfl rfl (decide_eq_false c13)) (Ex.lenB rfl Try.runUnderlying9) rfl ?_
        refine TL.q rfl (.g rfl rfl (decide_eq_false c13)) (Ex.ft ft_cursitorlaw14_ok rfl) rfl ?_
        refine TL.q rfl .u (Ex.pn rfl (decide_eq_false c13) rfl) rfl ?_
        by_cases c14 : (a2.length : Int) > 1000
        · replace h := ifT c14 h
          refine TL.nil (X.seq ?_)
          refine T.yes rfl (decide_eq_true c14) ?_
          refine T.seq (T.region rfl ?_)
          refine TL.run ft_cursitorlaw14_ok [0] rfl rfl ?_
          obtain rfl := Option.some.inj h
          exact TL.nil (X.seq (T.ret (X.rs (X.done1 [0] Try.results12 (RV.tm rfl) ⟨rfl, rfl, rfl⟩ (by rfl) (.inl rfl)))))
        · replace h := ifF c14 h
          refine TL.nil (X.seq ?_)
          refine T.no rfl (decide_eq_false c14) ?_
          refine T.skip (X.seq (T.seq (T.region rfl ?_)))
          obtain ⟨st15, hx16, h⟩ := Option.bind_eq_some_iff.1 h
          refine TL.run ft_cursitorlaw14_ok [0] rfl rfl ?_
          refine TL.cge rfl .u (.fn Try.call16 rfl) (gNew_spec a2 _ hx16) (fun _ hs => (RX.reads_triv _ _)) rfl ?_
          rintro _ _ _ ⟨b17, rfl, rfl, rfl⟩
          refine TL.sel [0, 0] rfl ?_
          refine TL.run ft_cursitorlaw14_ok [2] rfl rfl ?_
          refine TL.nil (X.seq (T.seq (T.region rfl ?_)))
          obtain ⟨⟨x18, st21⟩, hx22, h⟩ := Option.bind_eq_some_iff.1 h
          try dsimp only at h
          refine TL.run ft_cursitorlaw14_ok [0] rfl rfl ?_
          refine TL.cg0 rfl .u (.fn Try.call56 rfl) (f_value_Topics_spec b17 st15 _ hx22) (fun _ hs => (Src.triv _)) rfl ?_
          rintro _ _ _ ⟨A19, c20, rfl, rfl, rfl⟩
          refine TL.sel [0, 0, 0] rfl ?_
          refine TL.run ft_cursitorlaw14_ok [2] rfl rfl ?_
          refine TL.nil (X.seq (T.seq (T.region rfl ?_)))
          obtain ⟨⟨x23, x26, x27⟩, hx28, h⟩ := Option.bind_eq_some_iff.1 h
          try dsimp only at h
          refine TL.run ft_cursitorlaw14_ok [0] rfl rfl ?_
          refine TL.cge rfl .u (.fn Try.call57 rfl) (f_r14_ReadTopics_spec a2 _ hx28) (fun _ hs => (RX.reads_triv _ _)) rfl ?_
          rintro _ _ _ ⟨A24, c25, rfl, rfl, rfl⟩
          refine TL.sel [0, 0, 0, 0] rfl ?_
          refine TL.run ft_cursitorlaw14_ok [2, 3, 4, 5, 6, 7, 8] rfl rfl ?_
          refine TL.nil (X.seq (T.seq (T.seq (T.region rfl ?_))))
          obtain ⟨⟨x29, st30⟩, hx31, h⟩ := Option.bind_eq_some_iff.1 h
          try dsimp only at h
          refine TL.run ft_cursitorlaw14_ok [0] rfl rfl ?_
          refine TL.c2 rfl .u (.fn Try.call19 rfl) (gErr_spec b17 st21 _ hx31) (fun _ hs => (Src.triv _)) rfl ?_
          by_cases c32 : x29 = x27
          · replace h := ifT c32 h
            refine TL.run ft_cursitorlaw14_ok [2, 3, 4] rfl rfl ?_
            refine TL.q rfl (.g rfl rfl (bn_f (decide_eq_true c32))) (Ex.ft ft_cursitorlaw14_ok rfl) rfl ?_
            refine TL.q rfl (.g rfl rfl (bn_f (decide_eq_true c32))) (Ex.ft ft_cursitorlaw14_ok rfl) rfl ?_
            obtain ⟨x33, hx34, h⟩ := Option.bind_eq_some_iff.1 h
            refine TL.ce rfl (.g rfl rfl (bn_f (decide_eq_true c32))) (.fn Try.call58 rfl) (f_r14_SameTopics_spec x18 _ _ x23 _ _ _ hx34) (fun _ hs => (RX.reads_and (SrcE.res 1 hs rfl (fun w G h => rd_reads w G h)) (SrcE.res 0 hs rfl (fun w G h => rd_reads w G h)))) rfl ?_
            refine TL.q rfl (.g rfl rfl (bn_f (decide_eq_true c32))) (Ex.ft ft_cursitorlaw14_ok rfl) rfl ?_
            refine TL.q rfl .u (Ex.pn rfl (bn_f (decide_eq_true c32)) rfl) rfl ?_
            by_cases c35 : x33 = true
            · replace h := ifT c35 h
              refine TL.run ft_cursitorlaw14_ok [10] rfl rfl ?_
              refine TL.q rfl (.g rfl rfl (bn_f c35)) (Ex.ft ft_cursitorlaw14_ok rfl) rfl ?_
              refine TL.q rfl (.g rfl rfl (bn_f c35)) (Ex.ft ft_cursitorlaw14_ok rfl) rfl ?_
              refine TL.q rfl (.g rfl rfl (bn_f c35)) (Ex.ft ft_cursitorlaw14_ok rfl) rfl ?_
              by_cases c36 : x27 = 0
              · replace h := ifT c36 h
                refine TL.q rfl (.g rfl rfl (decide_eq_true c36)) (Ex.ft ft_cursitorlaw14_ok rfl) rfl ?_
                obtain ⟨⟨x37, st38⟩, hx39, h⟩ := Option.bind_eq_some_iff.1 h
                try dsimp only at h
                refine TL.c2 rfl (.g rfl rfl (decide_eq_true c36)) (.fn Try.call20 rfl) (gAt_spec b17 st30 _ hx39) (fun _ hs => (Src.triv _)) rfl ?_
                refine TL.q rfl (.g rfl rfl (decide_eq_true c36)) (Ex.ft ft_cursitorlaw14_ok rfl) rfl ?_
                refine TL.q rfl (.g rfl rfl (decide_eq_true c36)) (Ex.ft ft_cursitorlaw14_ok rfl) rfl ?_
                refine TL.q rfl (.g rfl rfl (bn_f c35)) (Ex.py rfl (decide_eq_true c36) rfl) rfl ?_
                refine TL.q rfl .u (Ex.pn rfl (bn_f c35) rfl) rfl ?_
                by_cases c40 : x37 = x26
                · replace h := ifT c40 h
                  refine TL.run ft_cursitorlaw14_ok [20] rfl rfl ?_
                  refine TL.q rfl (.g rfl rfl (bn_f (decide_eq_true c40))) (Ex.ft ft_cursitorlaw14_ok rfl) rfl ?_
                  refine TL.q rfl (.g rfl rfl (bn_f (decide_eq_true c40))) (Ex.ft ft_cursitorlaw14_ok rfl) rfl ?_
                  obtain ⟨x41, hx42, h⟩ := Option.bind_eq_some_iff.1 h
                  refine TL.ce rfl (.g rfl rfl (bn_f (decide_eq_true c40))) (.fn Try.call59 rfl) (f_value_SameTopics_spec a0 _ _ a1 _ _ _ hx42) (fun _ hs => (RX.reads_and (SrcE.old hs (RX.reads_left hX)) (SrcE.old hs (RX.reads_right hX)))) rfl ?_
                  refine TL.q rfl (.g rfl rfl (bn_f (decide_eq_true c40))) (Ex.ft ft_cursitorlaw14_ok rfl) rfl ?_
                  refine TL.q rfl (.g rfl rfl (bn_f (decide_eq_true c40))) (Ex.ft ft_cursitorlaw14_ok rfl) rfl ?_
                  obtain ⟨x43, hx44, h⟩ := Option.bind_eq_some_iff.1 h
                  refine TL.ce rfl (.g rfl rfl (bn_f (decide_eq_true c40))) (.fn Try.call58 rfl) (f_r14_SameTopics_spec a0 _ _ a1 _ _ _ hx44) (fun _ hs => (RX.reads_and (SrcE.old hs (RX.reads_left hX)) (SrcE.old hs (RX.reads_right hX)))) rfl ?_
                  by_cases c45 : x41 = true
                  · replace h := ifT c45 h
                    by_cases c46 : x43 = true
                    · replace h := ifT c46 h
                      refine TL.q rfl (.g rfl rfl (bn_f (decide_eq_true c40))) (Ex.bNe rfl c45 rfl c46 Try.runUnderlying4) rfl ?_
                      refine TL.q rfl .u (Ex.pn rfl (bn_f (decide_eq_true c40)) rfl) rfl ?_
                      refine TL.nil (X.seq ?_)
                      refine T.no rfl rfl ?_
                      refine T.skip (X.seq (T.seq (T.seq (T.region rfl ?_))))
                      refine TL.run ft_cursitorlaw14_ok [0] rfl rfl ?_
                      refine TL.q rfl .u (Ex.lenS rfl Try.runUnderlying62) rfl ?_
                      refine TL.run ft_cursitorlaw14_ok [2] rfl rfl ?_
                      refine TL.nil (X.seq (T.block ?_))
                      obtain ⟨E49, hE50, hO51⟩ := Option.bind_eq_some_iff.1 h
                      have hk55len := RX.len_le (RX.reads_left hX)
                      refine T.lp (fun m e Rs => ∃ (y47 : Bool) (k48 : Nat), k48 + m = a0.length ∧ e = [(0, .slice A1 a0.length c2), (6, .bool y47), (74, .slice A1 a0.length c2), (75, .int .i64 (a0.length : Int)), (76, .int .i64 (k48 : Int))] ∧ Rs = [RdR (sliceRd 2 Top_rd) [.slice A24 x23.length c25] x23, RdR (sliceRd 2 Top_rd) [.slice A19 x18.length c20] x18, InR b17 st38, EmpR] ∧ f_l14_ValueTopics_l1 (a0.drop k48) y47 = some E49) (a0.length) [0, 0, 0, 0] ⟨false, 0, by simp, rfl, rfl, by rw [List.drop_zero]; exact hE50⟩ (by rfl) (by rfl) ?_
                      rintro m52 _ _ ⟨y47, k48, hk55, rfl, rfl, hl54⟩
                      clear hE50 h
                      cases m52 with
                      | zero =>
                        have h := hl54
                        clear hl54
                        rw [List.drop_of_length_le (by omega), f_l14_ValueTopics_l1] at h
                        have hk55ge : ¬ ((k48 : Int) < (a0.length : Int)) := by omega
                        refine T.seq (T.region rfl ?_)
                        refine TL.run ft_cursitorlaw14_ok [0] rfl rfl ?_
                        refine TL.nil (X.seq (T.seq ?_))
                        refine T.no rfl (decide_eq_false hk55ge) ?_
                        obtain rfl := Option.some.inj h
                        replace h := hO51
                        clear hO51
                        try dsimp only at h
                        refine T.exit (X.exs (X.exs (X.ex (X.seq (T.seq (T.region rfl ?_))))))
                        refine TL.newout rfl .u Try.zeroValue40 rfl (fun b103 => ?_)
                        refine TL.nil (X.seq (T.seq (T.region rfl ?_)))
                        obtain ⟨st104, hx105, h⟩ := Option.bind_eq_some_iff.1 h
                        refine TL.run ft_cursitorlaw14_ok [0] rfl rfl ?_
                        refine TL.c0 rfl .u (.fn Try.call60 rfl) (f_value_PutTopics_spec b103 ([], 0) a0 _ _ _ hx105) (fun _ hs => (Src.old hs (RX.reads_left hX))) rfl ?_
                        obtain ⟨⟨x106, x107, st108⟩, hx109, h⟩ := Option.bind_eq_some_iff.1 h
                        try dsimp only at h
                        refine TL.nil (X.seq (T.seq (T.region rfl ?_)))
                        refine TL.c0 rfl .u (.fn Try.call23 rfl) (gOText_spec b103 st104 _ hx109) (fun _ hs => (Src.triv _)) rfl ?_
                        refine TL.run ft_cursitorlaw14_ok [1, 2, 3, 4, 5] rfl rfl ?_
                        refine TL.nil (X.seq (T.seq (T.region rfl ?_)))
                        obtain ⟨st110, hx111, h⟩ := Option.bind_eq_some_iff.1 h
                        refine TL.run ft_cursitorlaw14_ok [0] rfl rfl ?_
                        refine TL.cge rfl .u (.fn Try.call16 rfl) (gNew_spec x106 _ hx111) (fun _ hs => (RX.reads_triv _ _)) rfl ?_
                        rintro _ _ _ ⟨b112, rfl, rfl, rfl⟩
                        refine TL.sel [0, 0, 0, 0, 0, 0] rfl ?_
                        refine TL.run ft_cursitorlaw14_ok [2] rfl rfl ?_
                        refine TL.nil (X.seq (T.seq (T.region rfl ?_)))
                        by_cases c113 : x107 = 0
                        · replace h := ifT c113 h
                          refine TL.run ft_cursitorlaw14_ok [0, 1, 2] rfl rfl ?_
                          refine TL.q rfl (.g rfl rfl (decide_eq_true c113)) (Ex.ft ft_cursitorlaw14_ok rfl) rfl ?_
                          refine TL.q rfl (.g rfl rfl (decide_eq_true c113)) (Ex.ft ft_cursitorlaw14_ok rfl) rfl ?_
                          obtain ⟨x114, hx115, h⟩ := Option.bind_eq_some_iff.1 h
                          refine TL.ce rfl (.g rfl rfl (decide_eq_true c113)) (.fn Try.call61 rfl) (f_r14_Topics_spec a0 _ _ _ hx115) (fun _ hs => (SrcE.old hs (RX.reads_left hX))) rfl ?_
                          refine TL.q rfl (.g rfl rfl (decide_eq_true c113)) (Ex.sEq rfl rfl) rfl ?_
                          refine TL.q rfl .u (Ex.py rfl (decide_eq_true c113) rfl) rfl ?_
                          by_cases c116 : x106 = x114
                          · replace h := ifT c116 h
                            refine TL.run ft_cursitorlaw14_ok [8] rfl rfl ?_
                            refine TL.q rfl (.g rfl rfl (decide_eq_true c116)) (Ex.ft ft_cursitorlaw14_ok rfl) rfl ?_
                            obtain ⟨⟨x117, st120⟩, hx121, h⟩ := Option.bind_eq_some_iff.1 h
                            try dsimp only at h
                            refine TL.cg0 rfl (.g rfl rfl (decide_eq_true c116)) (.fn Try.call56 rfl) (f_value_Topics_spec b112 st110 _ hx121) (fun _ hs => (Src.triv _)) rfl ?_
                            rintro _ _ _ ⟨A118, c119, rfl, rfl, rfl⟩
                            refine TL.sel [0, 0, 0, 0, 0, 0, 0] rfl ?_
                            refine TL.q rfl (.g rfl rfl (decide_eq_true c116)) (Ex.ft ft_cursitorlaw14_ok rfl) rfl ?_
                            obtain ⟨x122, hx123, h⟩ := Option.bind_eq_some_iff.1 h
                            refine TL.ce rfl (.g rfl rfl (decide_eq_true c116)) (.fn Try.call58 rfl) (f_r14_SameTopics_spec x117 _ _ a0 _ _ _ hx123) (fun _ hs => (RX.reads_and (SrcE.res 0 hs rfl (fun w G h => rd_reads w G h)) (SrcE.old hs (RX.reads_left hX)))) rfl ?_
                            refine TL.q rfl .u (Ex.py rfl (decide_eq_true c116) rfl) rfl ?_
                            by_cases c124 : x122 = true
                            · replace h := ifT c124 h
                              refine TL.run ft_cursitorlaw14_ok [14] rfl rfl ?_
                              refine TL.q rfl (.g rfl rfl c124) (Ex.ft ft_cursitorlaw14_ok rfl) rfl ?_
                              obtain ⟨⟨x125, st126⟩, hx127, h⟩ := Option.bind_eq_some_iff.1 h
                              try dsimp only at h
                              refine TL.c1 rfl (.g rfl rfl c124) (.fn Try.call26 rfl) (gClose_spec b112 st120 _ hx127) (fun _ hs => (Src.triv _)) rfl ?_
                              refine TL.q rfl (.g rfl rfl c124) (Ex.ft ft_cursitorlaw14_ok rfl) rfl ?_
                              refine TL.q rfl .u (Ex.py rfl c124 rfl) rfl ?_
                              refine TL.run ft_cursitorlaw14_ok [19] rfl rfl ?_
                              by_cases c128 : x125 = 0
                              · replace h := ifT c128 h
                                obtain rfl := Option.some.inj h
                                exact TL.nil (X.seq (T.ret (X.done1 [6] Try.results12 (RV.tm (v := .bool true) (congrArg (fun b => some (Value.bool b)) (decide_eq_true c128))) ⟨rfl, rfl, rfl⟩ (by rfl) (.inl rfl))))
                              · replace h := ifF c128 h
                                exact nomatch h
                            · replace h := ifF c124 h
                              replace c124 := eq_false_of_ne_true c124
                              refine TL.run ft_cursitorlaw14_ok [14] rfl rfl ?_
                              refine TL.no rfl (.gn rfl rfl c124) rfl ?_
                              refine TL.no rfl (.gn rfl rfl c124) rfl ?_
                              refine TL.no rfl (.gn rfl rfl c124) rfl ?_
                              exact nomatch h
                          · replace h := ifF c116 h
                            refine TL.run ft_cursitorlaw14_ok [8] rfl rfl ?_
                            refine TL.no rfl (.gn rfl rfl (decide_eq_false c116)) rfl ?_
                            refine TL.no rfl (.gn rfl rfl (decide_eq_false c116)) rfl ?_
                            refine TL.no rfl (.gn rfl rfl (decide_eq_false c116)) rfl ?_
                            refine TL.no rfl (.gn rfl rfl (decide_eq_false c116)) rfl ?_
                            exact nomatch h
                        · replace h := ifF c113 h
                          refine TL.run ft_cursitorlaw14_ok [0, 1, 2] rfl rfl ?_
                          refine TL.no rfl (.gn rfl rfl (decide_eq_false c113)) rfl ?_
                          refine TL.no rfl (.gn rfl rfl (decide_eq_false c113)) rfl ?_
                          refine TL.no rfl (.gn rfl rfl (decide_eq_false c113)) rfl ?_
                          refine TL.no rfl (.gn rfl rfl (decide_eq_false c113)) rfl ?_
                          exact nomatch h
                      | succ m52 =>
                        have h := hl54
                        clear hl54
                        obtain ⟨x53, hxx53⟩ : ∃ x, a0[k48]? = some x := ⟨_, List.getElem?_eq_getElem (by omega)⟩
                        rw [drop_cons hxx53, f_l14_ValueTopics_l1] at h
                        have hk55lt : (k48 : Int) < (a0.length : Int) := by omega
                        refine T.seq (T.region rfl ?_)
                        refine TL.run ft_cursitorlaw14_ok [0] rfl rfl ?_
                        refine TL.nil (X.seq (T.seq ?_))
                        refine T.yes rfl (decide_eq_true hk55lt) ?_
                        obtain ⟨gz56, oz56, rfl, z56cs, z56cl, z56cc, z56nf, z56r⟩ := RX.elem (by decide) (RX.reads_left hX) hxx53
                        obtain ⟨z56S, z56r, z56rr⟩ := z56r
                        obtain ⟨A57, c58, rfl, z56s0⟩ := z56r
                        have hX59 : (RX.of (sliceRd 1 intE) [.slice A57 x53.fParts.length c58] x53.fParts).reads w F := ⟨z56S, z56s0, z56rr⟩
                        refine T.skip (X.seq (T.seq (T.block (T.seq (T.region rfl ?_)))))
                        refine TL.q rfl .u (Ex.ixS (k := k48) rfl rfl rfl Try.runUnderlying62 Try.sizeOf104 (List.getElem?_eq_some_iff.1 hxx53).1) rfl ?_
                        refine TL.q rfl .u (Ex.oS (us := [.string (bsOf x53.fName), .slice A57 x53.fParts.length c58]) 0 rfl Try.isAgg104 Try.sizeOf104 z56nf z56cc rfl rfl rfl) rfl ?_
                        refine TL.alloc rfl .u Try.zeroValue104 rfl (fun b60 => ?_)
                        refine TL.st0 (cs' := #[.string (bsOf x53.fName), .slice A57 x53.fParts.length c58]) rfl .u rfl rfl Try.sizeOf104 rfl rfl rfl rfl ?_
                        refine TL.nil (X.seq (T.seq (T.region rfl ?_)))
                        refine TL.run ft_cursitorlaw14_ok [0] rfl rfl ?_
                        refine TL.q rfl .u (Ex.b1 0 rfl Try.isAgg102 rfl rfl) rfl ?_
                        refine TL.q rfl .u (Ex.lenS rfl Try.runUnderlying102) rfl ?_
                        refine TL.run ft_cursitorlaw14_ok [3] rfl rfl ?_
                        refine TL.nil (X.seq (T.block ?_))
                        obtain ⟨E63, hE64, hO65⟩ := Option.bind_eq_some_iff.1 h
                        have hk69len := RX.len_le hX59
                        refine T.lp (fun m e Rs => ∃ (y61 : Bool) (k62 : Nat), k62 + m = x53.fParts.length ∧ e = [(0, .slice (some ⟨gz56, oz56, none⟩) a0.length c2), (6, .bool y61), (74, .slice (some ⟨gz56, oz56, none⟩) a0.length c2), (75, .int .i64 (a0.length : Int)), (76, .int .i64 (k48 : Int)), (81, .slice A57 x53.fParts.length c58), (82, .int .i64 (x53.fParts.length : Int)), (83, .int .i64 (k62 : Int))] ∧ Rs = [BlkR b60 104 #[.string (bsOf x53.fName), .slice A57 x53.fParts.length c58], RdR (sliceRd 2 Top_rd) [.slice A24 x23.length c25] x23, RdR (sliceRd 2 Top_rd) [.slice A19 x18.length c20] x18, InR b17 st38, EmpR] ∧ f_l14_ValueTopics_l2 (x53.fParts.drop k62) y61 = some E63) (x53.fParts.length) [0, 0, 0, 0, 0] ⟨y47, 0, by simp, rfl, rfl, by rw [List.drop_zero]; exact hE64⟩ (by rfl) (by rfl) ?_
                        rintro m66 _ _ ⟨y61, k62, hk69, rfl, rfl, hl68⟩
                        clear hE64 h
                        cases m66 with
                        | zero =>
                          have h := hl68
                          clear hl68
                          rw [List.drop_of_length_le (by omega), f_l14_ValueTopics_l2] at h
                          have hk69ge : ¬ ((k62 : Int) < (x53.fParts.length : Int)) := by omega
                          refine T.seq (T.region rfl ?_)
                          refine TL.run ft_cursitorlaw14_ok [0] rfl rfl ?_
                          refine TL.nil (X.seq (T.seq ?_))
                          refine T.no rfl (decide_eq_false hk69ge) ?_
                          obtain rfl := Option.some.inj h
                          replace h := hO65
                          clear hO65
                          try dsimp only at h
                          refine T.exit (X.exs (X.exs (X.ex (X.blk (X.seq (T.region rfl ?_))))))
                          refine TL.q rfl .u (Ex.add rfl rfl (by omega)) rfl ?_
                          refine TL.run ft_cursitorlaw14_ok [1] rfl rfl ?_
                          exact TL.nil (X.back (m' := m52) [1, 1, 1, 1] (by omega) ⟨y61, k48 + 1, by omega, rfl, rfl, h⟩ (by rfl) (by rfl))
                        | succ m66 =>
                          have h := hl68
                          clear hl68
                          obtain ⟨x67, hxx67⟩ : ∃ x, x53.fParts[k62]? = some x := ⟨_, List.getElem?_eq_getElem (by omega)⟩
                          rw [drop_cons hxx67, f_l14_ValueTopics_l2] at h
                          have hk69lt : (k62 : Int) < (x53.fParts.length : Int) := by omega
                          refine T.seq (T.region rfl ?_)
                          refine TL.run ft_cursitorlaw14_ok [0] rfl rfl ?_
                          refine TL.nil (X.seq (T.seq ?_))
                          refine T.yes rfl (decide_eq_true hk69lt) ?_
                          obtain ⟨gz70, oz70, rfl, z70cs, z70cl, z70cc, z70nf, z70r⟩ := RX.elem (by decide) hX59 hxx67
                          obtain ⟨z70S, z70r, z70rr⟩ := z70r
                          obtain rfl : z70cs = [.int .i64 x67] := z70r
                          refine T.skip (X.seq (T.seq (T.block (T.seq (T.region rfl ?_)))))
                          refine TL.q rfl .u (Ex.ixS (k := k62) rfl rfl rfl Try.runUnderlying102 Try.sizeOf3 (List.getElem?_eq_some_iff.1 hxx67).1) rfl ?_
                          refine TL.q rfl .u (Ex.o1 0 rfl Try.isAgg3 z70nf z70cc rfl rfl) rfl ?_
                          refine TL.run ft_cursitorlaw14_ok [2] rfl rfl ?_
                          refine TL.nil (X.seq (T.seq (T.region rfl ?_)))
                          by_cases c71 : x67 < (-2147483648)
                          · replace h := ifT c71 h
                            refine TL.run ft_cursitorlaw14_ok [0, 1, 2] rfl rfl ?_
                            refine TL.no rfl (.gn rfl rfl (decide_eq_true c71)) rfl ?_
                            refine TL.no rfl (.gn rfl rfl (decide_eq_true c71)) rfl ?_
                            refine TL.q rfl .u (Ex.py rfl (decide_eq_true c71) rfl) rfl ?_
                            refine TL.nil (X.seq ?_)
                            refine T.yes rfl rfl ?_
                            refine T.seq (T.region rfl ?_)
                            refine TL.run ft_cursitorlaw14_ok [0] rfl rfl ?_
                            obtain rfl := Option.some.inj h
                            replace h := hO65
                            clear hO65
                            try dsimp only at h
                            obtain rfl := Option.some.inj h
                            replace h := hO51
                            clear hO51
                            try dsimp only at h
                            obtain rfl := Option.some.inj h
                            exact TL.nil (X.seq (T.ret (X.rb (X.rs (X.rs (X.rb (X.rb (X.rs (X.rs (X.rb (X.rs (X.done1 [4] Try.results12 (RV.tm rfl) ⟨rfl, rfl, rfl⟩ (by rfl) (.inl rfl)))))))))))))
                          · replace h := ifF c71 h
                            refine TL.run ft_cursitorlaw14_ok [0, 1, 2] rfl rfl ?_
                            refine TL.q rfl (.g rfl rfl (decide_eq_false c71)) (Ex.ft ft_cursitorlaw14_ok rfl) rfl ?_
                            refine TL.q rfl (.g rfl rfl (decide_eq_false c71)) (Ex.ft ft_cursitorlaw14_ok rfl) rfl ?_
                            refine TL.q rfl .u (Ex.pn rfl (decide_eq_false c71) rfl) rfl ?_
                            by_cases c72 : x67 > 2147483647
                            · replace h := ifT c72 h
                              refine TL.nil (X.seq ?_)
                              refine T.yes rfl (decide_eq_true c72) ?_
                              refine T.seq (T.region rfl ?_)
                              refine TL.run ft_cursitorlaw14_ok [0] rfl rfl ?_
                              obtain rfl := Option.some.inj h
                              replace h := hO65
                              clear hO65
                              try dsimp only at h
                              obtain rfl := Option.some.inj h
                              replace h := hO51
                              clear hO51
                              try dsimp only at h
                              obtain rfl := Option.some.inj h
                              exact TL.nil (X.seq (T.ret (X.rb (X.rs (X.rs (X.rb (X.rb (X.rs (X.rs (X.rb (X.rs (X.done1 [4] Try.results12 (RV.tm rfl) ⟨rfl, rfl, rfl⟩ (by rfl) (.inl rfl)))))))))))))
                            · replace h := ifF c72 h
                              refine TL.nil (X.seq ?_)
                              refine T.no rfl (decide_eq_false c72) ?_
                              refine T.skip (X.blk (X.seq (T.region rfl ?_)))
                              refine TL.q rfl .u (Ex.add rfl rfl (by omega)) rfl ?_
                              refine TL.run ft_cursitorlaw14_ok [1] rfl rfl ?_
                              exact TL.nil (X.back (m' := m66) [0, 0, 0, 0, 0] (by omega) ⟨y61, k62 + 1, by omega, rfl, rfl, h⟩ (by rfl) (by rfl))
                    · replace h := ifF c46 h
                      replace c46 := eq_false_of_ne_true c46
                      refine TL.q rfl (.g rfl rfl (bn_f (decide_eq_true c40))) (Ex.bNe rfl c45 rfl c46 Try.runUnderlying4) rfl ?_
                      exact nomatch h
                  · replace h := ifF c45 h
                    replace c45 := eq_false_of_ne_true c45
                    by_cases c129 : x43 = true
                    · replace h := ifT c129 h
                      refine TL.q rfl (.g rfl rfl (bn_f (decide_eq_true c40))) (Ex.bNe rfl c45 rfl c129 Try.runUnderlying4) rfl ?_
                      exact nomatch h
                    · replace h := ifF c129 h
                      replace c129 := eq_false_of_ne_true c129
                      refine TL.q rfl (.g rfl rfl (bn_f (decide_eq_true c40))) (Ex.bNe rfl c45 rfl c129 Try.runUnderlying4) rfl ?_
                      refine TL.q rfl .u (Ex.pn rfl (bn_f (decide_eq_true c40)) rfl) rfl ?_
                      refine TL.nil (X.seq ?_)
                      refine T.no rfl rfl ?_
                      refine T.skip (X.seq (T.seq (T.seq (T.region rfl ?_))))
                      refine TL.run ft_cursitorlaw14_ok [0] rfl rfl ?_
                      refine TL.q rfl .u (Ex.lenS rfl Try.runUnderlying62) rfl ?_
                      refine TL.run ft_cursitorlaw14_ok [2] rfl rfl ?_
                      refine TL.nil (X.seq (T.block ?_))
                      obtain ⟨E132, hE133, hO134⟩ := Option.bind_eq_some_iff.1 h
                      have hk138len := RX.len_le (RX.reads_left hX)
                      refine T.lp (fun m e Rs => ∃ (y130 : Bool) (k131 : Nat), k131 + m = a0.length ∧ e = [(0, .slice A1 a0.length c2), (6, .bool y130), (74, .slice A1 a0.length c2), (75, .int .i64 (a0.length : Int)), (76, .int .i64 (k131 : Int))] ∧ Rs = [RdR (sliceRd 2 Top_rd) [.slice A24 x23.length c25] x23, RdR (sliceRd 2 Top_rd) [.slice A19 x18.length c20] x18, InR b17 st38, EmpR] ∧ f_l14_ValueTopics_l3 (a0.drop k131) y130 = some E132) (a0.length) [0, 0, 0, 0] ⟨false, 0, by simp, rfl, rfl, by rw [List.drop_zero]; exact hE133⟩ (by rfl) (by rfl) ?_
                      rintro m135 _ _ ⟨y130, k131, hk138, rfl, rfl, hl137⟩
                      clear hE133 h
                      cases m135 with
                      | zero =>
                        have h := hl137
                        clear hl137
                        rw [List.drop_of_length_le (by omega), f_l14_ValueTopics_l3] at h
                        have hk138ge : ¬ ((k131 : Int) < (a0.length : Int)) := by omega
                        refine T.seq (T.region rfl ?_)
                        refine TL.run ft_cursitorlaw14_ok [0] rfl rfl ?_
                        refine TL.nil (X.seq (T.seq ?_))
                        refine T.no rfl (decide_eq_false hk138ge) ?_
                        obtain rfl := Option.some.inj h
                        replace h := hO134
                        clear hO134
                        try dsimp only at h
                        refine T.exit (X.exs (X.exs (X.ex (X.seq (T.seq (T.region rfl ?_))))))
                        refine TL.newout rfl .u Try.zeroValue40 rfl (fun b186 => ?_)
                        refine TL.nil (X.seq (T.seq (T.region rfl ?_)))
                        obtain ⟨st187, hx188, h⟩ := Option.bind_eq_some_iff.1 h
                        refine TL.run ft_cursitorlaw14_ok [0] rfl rfl ?_
                        refine TL.c0 rfl .u (.fn Try.call60 rfl) (f_value_PutTopics_spec b186 ([], 0) a0 _ _ _ hx188) (fun _ hs => (Src.old hs (RX.reads_left hX))) rfl ?_
                        obtain ⟨⟨x189, x190, st191⟩, hx192, h⟩ := Option.bind_eq_some_iff.1 h
                        try dsimp only at h
                        refine TL.nil (X.seq (T.seq (T.region rfl ?_)))
                        refine TL.c0 rfl .u (.fn Try.call23 rfl) (gOText_spec b186 st187 _ hx192) (fun _ hs => (Src.triv _)) rfl ?_
                        refine TL.run ft_cursitorlaw14_ok [1, 2, 3, 4, 5] rfl rfl ?_
                        refine TL.nil (X.seq (T.seq (T.region rfl ?_)))
                        obtain ⟨st193, hx194, h⟩ := Option.bind_eq_some_iff.1 h
                        refine TL.run ft_cursitorlaw14_ok [0] rfl rfl ?_
                        refine TL.cge rfl .u (.fn Try.call16 rfl) (gNew_spec x189 _ hx194) (fun _ hs => (RX.reads_triv _ _)) rfl ?_
                        rintro _ _ _ ⟨b195, rfl, rfl, rfl⟩
                        refine TL.sel [0, 0, 0, 0, 0, 0] rfl ?_
                        refine TL.run ft_cursitorlaw14_ok [2] rfl rfl ?_
                        refine TL.nil (X.seq (T.seq (T.region rfl ?_)))
                        by_cases c196 : x190 = 0
                        · replace h := ifT c196 h
                          refine TL.run ft_cursitorlaw14_ok [0, 1, 2] rfl rfl ?_
                          refine TL.q rfl (.g rfl rfl (decide_eq_true c196)) (Ex.ft ft_cursitorlaw14_ok rfl) rfl ?_
                          refine TL.q rfl (.g rfl rfl (decide_eq_true c196)) (Ex.ft ft_cursitorlaw14_ok rfl) rfl ?_
                          obtain ⟨x197, hx198, h⟩ := Option.bind_eq_some_iff.1 h
                          refine TL.ce rfl (.g rfl rfl (decide_eq_true c196)) (.fn Try.call61 rfl) (f_r14_Topics_spec a0 _ _ _ hx198) (fun _ hs => (SrcE.old hs (RX.reads_left hX))) rfl ?_
                          refine TL.q rfl (.g rfl rfl (decide_eq_true c196)) (Ex.sEq rfl rfl) rfl ?_
                          refine TL.q rfl .u (Ex.py rfl (decide_eq_true c196) rfl) rfl ?_
                          by_cases c199 : x189 = x197
                          · replace h := ifT c199 h
                            refine TL.run ft_cursitorlaw14_ok [8] rfl rfl ?_
                            refine TL.q rfl (.g rfl rfl (decide_eq_true c199)) (Ex.ft ft_cursitorlaw14_ok rfl) rfl ?_
                            obtain ⟨⟨x200, st203⟩, hx204, h⟩ := Option.bind_eq_some_iff.1 h
                            try dsimp only at h
                            refine TL.cg0 rfl (.g rfl rfl (decide_eq_true c199)) (.fn Try.call56 rfl) (f_value_Topics_spec b195 st193 _ hx204) (fun _ hs => (Src.triv _)) rfl ?_
                            rintro _ _ _ ⟨A201, c202, rfl, rfl, rfl⟩
                            refine TL.sel [0, 0, 0, 0, 0, 0, 0] rfl ?_
                            refine TL.q rfl (.g rfl rfl (decide_eq_true c199)) (Ex.ft ft_cursitorlaw14_ok rfl) rfl ?_
                            obtain ⟨x205, hx206, h⟩ := Option.bind_eq_some_iff.1 h
                            refine TL.ce rfl (.g rfl rfl (decide_eq_true c199)) (.fn Try.call58 rfl) (f_r14_SameTopics_spec x200 _ _ a0 _ _ _ hx206) (fun _ hs => (RX.reads_and (SrcE.res 0 hs rfl (fun w G h => rd_reads w G h)) (SrcE.old hs (RX.reads_left hX)))) rfl ?_
                            refine TL.q rfl .u (Ex.py rfl (decide_eq_true c199) rfl) rfl ?_
                            by_cases c207 : x205 = true
                            · replace h := ifT c207 h
                              refine TL.run ft_cursitorlaw14_ok [14] rfl rfl ?_
                              refine TL.q rfl (.g rfl rfl c207) (Ex.ft ft_cursitorlaw14_ok rfl) rfl ?_
                              obtain ⟨⟨x208, st209⟩, hx210, h⟩ := Option.bind_eq_some_iff.1 h
                              try dsimp only at h
                              refine TL.c1 rfl (.g rfl rfl c207) (.fn Try.call26 rfl) (gClose_spec b195 st203 _ hx210) (fun _ hs => (Src.triv _)) rfl ?_
                              refine TL.q rfl (.g rfl rfl c207) (Ex.ft ft_cursitorlaw14_ok rfl) rfl ?_
                              refine TL.q rfl .u (Ex.py rfl c207 rfl) rfl ?_
                              refine TL.run ft_cursitorlaw14_ok [19] rfl rfl ?_
                              by_cases c211 : x208 = 0
                              · replace h := ifT c211 h
                                obtain rfl := Option.some.inj h
                                exact TL.nil (X.seq (T.ret (X.done1 [6] Try.results12 (RV.tm (v := .bool true) (congrArg (fun b => some (Value.bool b)) (decide_eq_true c211))) ⟨rfl, rfl, rfl⟩ (by rfl) (.inl rfl))))
                              · replace h := ifF c211 h
                                exact nomatch h
                            · replace h := ifF c207 h
                              replace c207 := eq_false_of_ne_true c207
                              refine TL.run ft_cursitorlaw14_ok [14] rfl rfl ?_
                              refine TL.no rfl (.gn rfl rfl c207) rfl ?_
                              refine TL.no rfl (.gn rfl rfl c207) rfl ?_
                              refine TL.no rfl (.gn rfl rfl c207) rfl ?_
                              exact nomatch h
                          · replace h := ifF c199 h
                            refine TL.run ft_cursitorlaw14_ok [8] rfl rfl ?_
                            refine TL.no rfl (.gn rfl rfl (decide_eq_false c199)) rfl ?_
                            refine TL.no rfl (.gn rfl rfl (decide_eq_false c199)) rfl ?_
                            refine TL.no rfl (.gn rfl rfl (decide_eq_false c199)) rfl ?_
                            refine TL.no rfl (.gn rfl rfl (decide_eq_false c199)) rfl ?_
                            exact nomatch h
                        · replace h := ifF c196 h
                          refine TL.run ft_cursitorlaw14_ok [0, 1, 2] rfl rfl ?_
                          refine TL.no rfl (.gn rfl rfl (decide_eq_false c196)) rfl ?_
                          refine TL.no rfl (.gn rfl rfl (decide_eq_false c196)) rfl ?_
                          refine TL.no rfl (.gn rfl rfl (decide_eq_false c196)) rfl ?_
                          refine TL.no rfl (.gn rfl rfl (decide_eq_false c196)) rfl ?_
                          exact nomatch h
                      | succ m135 =>
                        have h := hl137
                        clear hl137
                        obtain ⟨x136, hxx136⟩ : ∃ x, a0[k131]? = some x := ⟨_, List.getElem?_eq_getElem (by omega)⟩
                        rw [drop_cons hxx136, f_l14_ValueTopics_l3] at h
                        have hk138lt : (k131 : Int) < (a0.length : Int) := by omega
                        refine T.seq (T.region rfl ?_)
                        refine TL.run ft_cursitorlaw14_ok [0] rfl rfl ?_
                        refine TL.nil (X.seq (T.seq ?_))
                        refine T.yes rfl (decide_eq_true hk138lt) ?_
                        obtain ⟨gz139, oz139, rfl, z139cs, z139cl, z139cc, z139nf, z139r⟩ := RX.elem (by decide) (RX.reads_left hX) hxx136
                        obtain ⟨z139S, z139r, z139rr⟩ := z139r
                        obtain ⟨A140, c141, rfl, z139s0⟩ := z139r
                        have hX142 : (RX.of (sliceRd 1 intE) [.slice A140 x136.fParts.length c141] x136.fParts).reads w F := ⟨z139S, z139s0, z139rr⟩
                        refine T.skip (X.seq (T.seq (T.block (T.seq (T.region rfl ?_)))))
                        refine TL.q rfl .u (Ex.ixS (k := k131) rfl rfl rfl Try.runUnderlying62 Try.sizeOf104 (List.getElem?_eq_some_iff.1 hxx136).1) rfl ?_
                        refine TL.q rfl .u (Ex.oS (us := [.string (bsOf x136.fName), .slice A140 x136.fParts.length c141]) 0 rfl Try.isAgg104 Try.sizeOf104 z139nf z139cc rfl rfl rfl) rfl ?_
                        refine TL.alloc rfl .u Try.zeroValue104 rfl (fun b143 => ?_)
                        refine TL.st0 (cs' := #[.string (bsOf x136.fName), .slice A140 x136.fParts.length c141]) rfl .u rfl rfl Try.sizeOf104 rfl rfl rfl rfl ?_
                        refine TL.nil (X.seq (T.seq (T.region rfl ?_)))
                        refine TL.run ft_cursitorlaw14_ok [0] rfl rfl ?_
                        refine TL.q rfl .u (Ex.b1 0 rfl Try.isAgg102 rfl rfl) rfl ?_
                        refine TL.q rfl .u (Ex.lenS rfl Try.runUnderlying102) rfl ?_
                        refine TL.run ft_cursitorlaw14_ok [3] rfl rfl ?_
                        refine TL.nil (X.seq (T.block ?_))
                        obtain ⟨E146, hE147, hO148⟩ := Option.bind_eq_some_iff.1 h
                        have hk152len := RX.len_le hX142
                        refine T.lp (fun m e Rs => ∃ (y144 : Bool) (k145 : Nat), k145 + m = x136.fParts.length ∧ e = [(0, .slice (some ⟨gz139, oz139, none⟩) a0.length c2), (6, .bool y144), (74, .slice (some ⟨gz139, oz139, none⟩) a0.length c2), (75, .int .i64 (a0.length : Int)), (76, .int .i64 (k131 : Int)), (81, .slice A140 x136.fParts.length c141), (82, .int .i64 (x136.fParts.length : Int)), (83, .int .i64 (k145 : Int))] ∧ Rs = [BlkR b143 104 #[.string (bsOf x136.fName), .slice A140 x136.fParts.length c141], RdR (sliceRd 2 Top_rd) [.slice A24 x23.length c25] x23, RdR (sliceRd 2 Top_rd) [.slice A19 x18.length c20] x18, InR b17 st38, EmpR] ∧ f_l14_ValueTopics_l4 (x136.fParts.drop k145) y144 = some E146) (x136.fParts.length) [0, 0, 0, 0, 0] ⟨y130, 0, by simp, rfl, rfl, by rw [List.drop_zero]; exact hE147⟩ (by rfl) (by rfl) ?_
                        rintro m149 _ _ ⟨y144, k145, hk152, rfl, rfl, hl151⟩
                        clear hE147 h
                        cases m149 with
                        | zero =>
                          have h := hl151
                          clear hl151
                          rw [List.drop_of_length_le (by omega), f_l14_ValueTopics_l4] at h
                          have hk152ge : ¬ ((k145 : Int) < (x136.fParts.length : Int)) := by omega
                          refine T.seq (T.region rfl ?_)
                          refine TL.run ft_cursitorlaw14_ok [0] rfl rfl ?_
                          refine TL.nil (X.seq (T.seq ?_))
                          refine T.no rfl (decide_eq_false hk152ge) ?_
                          obtain rfl := Option.some.inj h
                          replace h := hO148
                          clear hO148
                          try dsimp only at h
                          refine T.exit (X.exs (X.exs (X.ex (X.blk (X.seq (T.region rfl ?_))))))
                          refine TL.q rfl .u (Ex.add rfl rfl (by omega)) rfl ?_
                          refine TL.run ft_cursitorlaw14_ok [1] rfl rfl ?_
                          exact TL.nil (X.back (m' := m135) [1, 1, 1, 1] (by omega) ⟨y144, k131 + 1, by omega, rfl, rfl, h⟩ (by rfl) (by rfl))
                        | succ m149 =>
                          have h := hl151
                          clear hl151
                          obtain ⟨x150, hxx150⟩ : ∃ x, x136.fParts[k145]? = some x := ⟨_, List.getElem?_eq_getElem (by omega)⟩
                          rw [drop_cons hxx150, f_l14_ValueTopics_l4] at h
                          have hk152lt : (k145 : Int) < (x136.fParts.length : Int) := by omega
                          refine T.seq (T.region rfl ?_)
                          refine TL.run ft_cursitorlaw14_ok [0] rfl rfl ?_
                          refine TL.nil (X.seq (T.seq ?_))
                          refine T.yes rfl (decide_eq_true hk152lt) ?_
                          obtain ⟨gz153, oz153, rfl, z153cs, z153cl, z153cc, z153nf, z153r⟩ := RX.elem (by decide) hX142 hxx150
                          obtain ⟨z153S, z153r, z153rr⟩ := z153r
                          obtain rfl : z153cs = [.int .i64 x150] := z153r
                          refine T.skip (X.seq (T.seq (T.block (T.seq (T.region rfl ?_)))))
                          refine TL.q rfl .u (Ex.ixS (k := k145) rfl rfl rfl Try.runUnderlying102 Try.sizeOf3 (List.getElem?_eq_some_iff.1 hxx150).1) rfl ?_
                          refine TL.q rfl .u (Ex.o1 0 rfl Try.isAgg3 z153nf z153cc rfl rfl) rfl ?_
                          refine TL.run ft_cursitorlaw14_ok [2] rfl rfl ?_
                          refine TL.nil (X.seq (T.seq (T.region rfl ?_)))
                          by_cases c154 : x150 < (-2147483648)
                          · replace h := ifT c154 h
                            refine TL.run ft_cursitorlaw14_ok [0, 1, 2] rfl rfl ?_
                            refine TL.no rfl (.gn rfl rfl (decide_eq_true c154)) rfl ?_
                            refine TL.no rfl (.gn rfl rfl (decide_eq_true c154)) rfl ?_
                            refine TL.q rfl .u (Ex.py rfl (decide_eq_true c154) rfl) rfl ?_
                            refine TL.nil (X.seq ?_)
                            refine T.yes rfl rfl ?_
                            refine T.seq (T.region rfl ?_)
                            refine TL.run ft_cursitorlaw14_ok [0] rfl rfl ?_
                            obtain rfl := Option.some.inj h
                            replace h := hO148
                            clear hO148
                            try dsimp only at h
                            obtain rfl := Option.some.inj h
                            replace h := hO134
                            clear hO134
                            try dsimp only at h
                            obtain rfl := Option.some.inj h
                            exact TL.nil (X.seq (T.ret (X.rb (X.rs (X.rs (X.rb (X.rb (X.rs (X.rs (X.rb (X.rs (X.done1 [4] Try.results12 (RV.tm rfl) ⟨rfl, rfl, rfl⟩ (by rfl) (.inl rfl)))))))))))))
                          · replace h := ifF c154 h
                            refine TL.run ft_cursitorlaw14_ok [0, 1, 2] rfl rfl ?_
                            refine TL.q rfl (.g rfl rfl (decide_eq_false c154)) (Ex.ft ft_cursitorlaw14_ok rfl) rfl ?_
                            refine TL.q rfl (.g rfl rfl (decide_eq_false c154)) (Ex.ft ft_cursitorlaw14_ok rfl) rfl ?_
                            refine TL.q rfl .u (Ex.pn rfl (decide_eq_false c154) rfl) rfl ?_
                            by_cases c155 : x150 > 2147483647
                            · replace h := ifT c155 h
                              refine TL.nil (X.seq ?_)
                              refine T.yes rfl (decide_eq_true c155) ?_
                              refine T.seq (T.region rfl ?_)
                              refine TL.run ft_cursitorlaw14_ok [0] rfl rfl ?_
                              obtain rfl := Option.some.inj h
                              replace h := hO148
                              clear hO148
                              try dsimp only at h
                              obtain rfl := Option.some.inj h
                              replace h := hO134
                              clear hO134
                              try dsimp only at h
                              obtain rfl := Option.some.inj h
                              exact TL.nil (X.seq (T.ret (X.rb (X.rs (X.rs (X.rb (X.rb (X.rs (X.rs (X.rb (X.rs (X.done1 [4] Try.results12 (RV.tm rfl) ⟨rfl, rfl, rfl⟩ (by rfl) (.inl rfl)))))))))))))
                            · replace h := ifF c155 h
                              refine TL.nil (X.seq ?_)
                              refine T.no rfl (decide_eq_false c155) ?_
                              refine T.skip (X.blk (X.seq (T.region rfl ?_)))
                              refine TL.q rfl .u (Ex.add rfl rfl (by omega)) rfl ?_
                              refine TL.run ft_cursitorlaw14_ok [1] rfl rfl ?_
                              exact TL.nil (X.back (m' := m149) [0, 0, 0, 0, 0] (by omega) ⟨y144, k145 + 1, by omega, rfl, rfl, h⟩ (by rfl) (by rfl))
                · replace h := ifF c40 h
                  refine TL.run ft_cursitorlaw14_ok [20] rfl rfl ?_
                  refine TL.no rfl (.gn rfl rfl (bn_t (decide_eq_false c40))) rfl ?_
                  refine TL.no rfl (.gn rfl rfl (bn_t (decide_eq_false c40))) rfl ?_
                  refine TL.no rfl (.gn rfl rfl (bn_t (decide_eq_false c40))) rfl ?_
                  refine TL.no rfl (.gn rfl rfl (bn_t (decide_eq_false c40))) rfl ?_
                  refine TL.no rfl (.gn rfl rfl (bn_t (decide_eq_false c40))) rfl ?_
                  refine TL.no rfl (.gn rfl rfl (bn_t (decide_eq_false c40))) rfl ?_
                  refine TL.no rfl (.gn rfl rfl (bn_t (decide_eq_false c40))) rfl ?_
                  exact nomatch h
              · replace h := ifF c36 h
                refine TL.no rfl (.gn rfl rfl (decide_eq_false c36)) rfl ?_
                refine TL.no rfl (.gn rfl rfl (decide_eq_false c36)) rfl ?_
                refine TL.no rfl (.gn rfl rfl (decide_eq_false c36)) rfl ?_
                refine TL.no rfl (.gn rfl rfl (decide_eq_false c36)) rfl ?_
                refine TL.q rfl (.g rfl rfl (bn_f c35)) (Ex.pn rfl (decide_eq_false c36) rfl) rfl ?_
                refine TL.q rfl .u (Ex.pn rfl (bn_f c35) rfl) rfl ?_
                refine TL.run ft_cursitorlaw14_ok [20] rfl rfl ?_
                refine TL.q rfl (.g rfl rfl rfl) (Ex.ft ft_cursitorlaw14_ok rfl) rfl ?_
                refine TL.q rfl (.g rfl rfl rfl) (Ex.ft ft_cursitorlaw14_ok rfl) rfl ?_
                obtain ⟨x212, hx213, h⟩ := Option.bind_eq_some_iff.1 h
                refine TL.ce rfl (.g rfl rfl rfl) (.fn Try.call59 rfl) (f_value_SameTopics_spec a0 _ _ a1 _ _ _ hx213) (fun _ hs => (RX.reads_and (SrcE.old hs (RX.reads_left hX)) (SrcE.old hs (RX.reads_right hX)))) rfl ?_
                refine TL.q rfl (.g rfl rfl rfl) (Ex.ft ft_cursitorlaw14_ok rfl) rfl ?_
                refine TL.q rfl (.g rfl rfl rfl) (Ex.ft ft_cursitorlaw14_ok rfl) rfl ?_
                obtain ⟨x214, hx215, h⟩ := Option.bind_eq_some_iff.1 h
                refine TL.ce rfl (.g rfl rfl rfl) (.fn Try.call58 rfl) (f_r14_SameTopics_spec a0 _ _ a1 _ _ _ hx215) (fun _ hs => (RX.reads_and (SrcE.old hs (RX.reads_left hX)) (SrcE.old hs (RX.reads_right hX)))) rfl ?_
                by_cases c216 : x212 = true
                · replace h := ifT c216 h
                  by_cases c217 : x214 = true
                  · replace h := ifT c217 h
                    refine TL.q rfl (.g rfl rfl rfl) (Ex.bNe rfl c216 rfl c217 Try.runUnderlying4) rfl ?_
                    refine TL.q rfl .u (Ex.pn rfl rfl rfl) rfl ?_
                    refine TL.nil (X.seq ?_)
                    refine T.no rfl rfl ?_
                    refine T.skip (X.seq (T.seq (T.seq (T.region rfl ?_))))
                    refine TL.run ft_cursitorlaw14_ok [0] rfl rfl ?_
                    refine TL.q rfl .u (Ex.lenS rfl Try.runUnderlying62) rfl ?_
                    refine TL.run ft_cursitorlaw14_ok [2] rfl rfl ?_
                    refine TL.nil (X.seq (T.block ?_))
                    obtain ⟨E220, hE221, hO222⟩ := Option.bind_eq_some_iff.1 h
                    have hk226len := RX.len_le (RX.reads_left hX)
                    refine T.lp (fun m e Rs => ∃ (y218 : Bool) (k219 : Nat), k219 + m = a0.length ∧ e = [(0, .slice A1 a0.length c2), (6, .bool y218), (74, .slice A1 a0.length c2), (75, .int .i64 (a0.length : Int)), (76, .int .i64 (k219 : Int))] ∧ Rs = [RdR (sliceRd 2 Top_rd) [.slice A24 x23.length c25] x23, RdR (sliceRd 2 Top_rd) [.slice A19 x18.length c20] x18, InR b17 st30, EmpR] ∧ f_l14_ValueTopics_l5 (a0.drop k219) y218 = some E220) (a0.length) [0, 0, 0, 0] ⟨false, 0, by simp, rfl, rfl, by rw [List.drop_zero]; exact hE221⟩ (by rfl) (by rfl) ?_
                    rintro m223 _ _ ⟨y218, k219, hk226, rfl, rfl, hl225⟩
                    clear hE221 h
                    cases m223 with
                    | zero =>
                      have h := hl225
                      clear hl225
                      rw [List.drop_of_length_le (by omega), f_l14_ValueTopics_l5] at h
                      have hk226ge : ¬ ((k219 : Int) < (a0.length : Int)) := by omega
                      refine T.seq (T.region rfl ?_)
                      refine TL.run ft_cursitorlaw14_ok [0] rfl rfl ?_
                      refine TL.nil (X.seq (T.seq ?_))
                      refine T.no rfl (decide_eq_false hk226ge) ?_
                      obtain rfl := Option.some.inj h
                      replace h := hO222
                      clear hO222
                      try dsimp only at h
                      refine T.exit (X.exs (X.exs (X.ex (X.seq (T.seq (T.region rfl ?_))))))
                      refine TL.newout rfl .u Try.zeroValue40 rfl (fun b274 => ?_)
                      refine TL.nil (X.seq (T.seq (T.region rfl ?_)))
                      obtain ⟨st275, hx276, h⟩ := Option.bind_eq_some_iff.1 h
                      refine TL.run ft_cursitorlaw14_ok [0] rfl rfl ?_
                      refine TL.c0 rfl .u (.fn Try.call60 rfl) (f_value_PutTopics_spec b274 ([], 0) a0 _ _ _ hx276) (fun _ hs => (Src.old hs (RX.reads_left hX))) rfl ?_
                      obtain ⟨⟨x277, x278, st279⟩, hx280, h⟩ := Option.bind_eq_some_iff.1 h
                      try dsimp only at h
                      refine TL.nil (X.seq (T.seq (T.region rfl ?_)))
                      refine TL.c0 rfl .u (.fn Try.call23 rfl) (gOText_spec b274 st275 _ hx280) (fun _ hs => (Src.triv _)) rfl ?_
                      refine TL.run ft_cursitorlaw14_ok [1, 2, 3, 4, 5] rfl rfl ?_
                      refine TL.nil (X.seq (T.seq (T.region rfl ?_)))
                      obtain ⟨st281, hx282, h⟩ := Option.bind_eq_some_iff.1 h
                      refine TL.run ft_cursitorlaw14_ok [0] rfl rfl ?_
                      refine TL.cge rfl .u (.fn Try.call16 rfl) (gNew_spec x277 _ hx282) (fun _ hs => (RX.reads_triv _ _)) rfl ?_
                      rintro _ _ _ ⟨b283, rfl, rfl, rfl⟩
                      refine TL.sel [0, 0, 0, 0, 0, 0] rfl ?_
                      refine TL.run ft_cursitorlaw14_ok [2] rfl rfl ?_
                      refine TL.nil (X.seq (T.seq (T.region rfl ?_)))
                      by_cases c284 : x278 = 0
                      · replace h := ifT c284 h
                        refine TL.run ft_cursitorlaw14_ok [0, 1, 2] rfl rfl ?_
                        refine TL.q rfl (.g rfl rfl (decide_eq_true c284)) (Ex.ft ft_cursitorlaw14_ok rfl) rfl ?_
                        refine TL.q rfl (.g rfl rfl (decide_eq_true c284)) (Ex.ft ft_cursitorlaw14_ok rfl) rfl ?_
                        obtain ⟨x285, hx286, h⟩ := Option.bind_eq_some_iff.1 h
                        refine TL.ce rfl (.g rfl rfl (decide_eq_true c284)) (.fn Try.call61 rfl) (f_r14_Topics_spec a0 _ _ _ hx286) (fun _ hs => (SrcE.old hs (RX.reads_left hX))) rfl ?_
                        refine TL.q rfl (.g rfl rfl (decide_eq_true c284)) (Ex.sEq rfl rfl) rfl ?_
                        refine TL.q rfl .u (Ex.py rfl (decide_eq_true c284) rfl) rfl ?_
                        by_cases c287 : x277 = x285
                        · replace h := ifT c287 h
                          refine TL.run ft_cursitorlaw14_ok [8] rfl rfl ?_
                          refine TL.q rfl (.g rfl rfl (decide_eq_true c287)) (Ex.ft ft_cursitorlaw14_ok rfl) rfl ?_
                          obtain ⟨⟨x288, st291⟩, hx292, h⟩ := Option.bind_eq_some_iff.1 h
                          try dsimp only at h
                          refine TL.cg0 rfl (.g rfl rfl (decide_eq_true c287)) (.fn Try.call56 rfl) (f_value_Topics_spec b283 st281 _ hx292) (fun _ hs => (Src.triv _)) rfl ?_
                          rintro _ _ _ ⟨A289, c290, rfl, rfl, rfl⟩
                          refine TL.sel [0, 0, 0, 0, 0, 0, 0] rfl ?_
                          refine TL.q rfl (.g rfl rfl (decide_eq_true c287)) (Ex.ft ft_cursitorlaw14_ok rfl) rfl ?_
                          obtain ⟨x293, hx294, h⟩ := Option.bind_eq_some_iff.1 h
                          refine TL.ce rfl (.g rfl rfl (decide_eq_true c287)) (.fn Try.call58 rfl) (f_r14_SameTopics_spec x288 _ _ a0 _ _ _ hx294) (fun _ hs => (RX.reads_and (SrcE.res 0 hs rfl (fun w G h => rd_reads w G h)) (SrcE.old hs (RX.reads_left hX)))) rfl ?_
                          refine TL.q rfl .u (Ex.py rfl (decide_eq_true c287) rfl) rfl ?_
                          by_cases c295 : x293 = true
                          · replace h := ifT c295 h
                            refine TL.run ft_cursitorlaw14_ok [14] rfl rfl ?_
                            refine TL.q rfl (.g rfl rfl c295) (Ex.ft ft_cursitorlaw14_ok rfl) rfl ?_
                            obtain ⟨⟨x296, st297⟩, hx298, h⟩ := Option.bind_eq_some_iff.1 h
                            try dsimp only at h
                            refine TL.c1 rfl (.g rfl rfl c295) (.fn Try.call26 rfl) (gClose_spec b283 st291 _ hx298) (fun _ hs => (Src.triv _)) rfl ?_
                            refine TL.q rfl (.g rfl rfl c295) (Ex.ft ft_cursitorlaw14_ok rfl) rfl ?_
                            refine TL.q rfl .u (Ex.py rfl c295 rfl) rfl ?_
                            refine TL.run ft_cursitorlaw14_ok [19] rfl rfl ?_
                            by_cases c299 : x296 = 0
                            · replace h := ifT c299 h
                              obtain rfl := Option.some.inj h
                              exact TL.nil (X.seq (T.ret (X.done1 [6] Try.results12 (RV.tm (v := .bool true) (congrArg (fun b => some (Value.bool b)) (decide_eq_true c299))) ⟨rfl, rfl, rfl⟩ (by rfl) (.inl rfl))))
                            · replace h := ifF c299 h
                              exact nomatch h
                          · replace h := ifF c295 h
                            replace c295 := eq_false_of_ne_true c295
                            refine TL.run ft_cursitorlaw14_ok [14] rfl rfl ?_
                            refine TL.no rfl (.gn rfl rfl c295) rfl ?_
                            refine TL.no rfl (.gn rfl rfl c295) rfl ?_
                            refine TL.no rfl (.gn rfl rfl c295) rfl ?_
                            exact nomatch h
                        · replace h := ifF c287 h
                          refine TL.run ft_cursitorlaw14_ok [8] rfl rfl ?_
                          refine TL.no rfl (.gn rfl rfl (decide_eq_false c287)) rfl ?_
                          refine TL.no rfl (.gn rfl rfl (decide_eq_false c287)) rfl ?_
                          refine TL.no rfl (.gn rfl rfl (decide_eq_false c287)) rfl ?_
                          refine TL.no rfl (.gn rfl rfl (decide_eq_false c287)) rfl ?_
                          exact nomatch h
                      · replace h := ifF c284 h
                        refine TL.run ft_cursitorlaw14_ok [0, 1, 2] rfl rfl ?_
                        refine TL.no rfl (.gn rfl rfl (decide_eq_false c284)) rfl ?_
                        refine TL.no rfl (.gn rfl rfl (decide_eq_false c284)) rfl ?_
                        refine TL.no rfl (.gn rfl rfl (decide_eq_false c284)) rfl ?_
                        refine TL.no rfl (.gn rfl rfl (decide_eq_false c284)) rfl ?_
                        exact nomatch h
                    | succ m223 =>
                      have h := hl225
                      clear hl225
                      obtain ⟨x224, hxx224⟩ : ∃ x, a0[k219]? = some x := ⟨_, List.getElem?_eq_getElem (by omega)⟩
                      rw [drop_cons hxx224, f_l14_ValueTopics_l5] at h
                      have hk226lt : (k219 : Int) < (a0.length : Int) := by omega
                      refine T.seq (T.region rfl ?_)
                      refine TL.run ft_cursitorlaw14_ok [0] rfl rfl ?_
                      refine TL.nil (X.seq (T.seq ?_))
                      refine T.yes rfl (decide_eq_true hk226lt) ?_
                      obtain ⟨gz227, oz227, rfl, z227cs, z227cl, z227cc, z227nf, z227r⟩ := RX.elem (by decide) (RX.reads_left hX) hxx224
                      obtain ⟨z227S, z227r, z227rr⟩ := z227r
                      obtain ⟨A228, c229, rfl, z227s0⟩ := z227r
                      have hX230 : (RX.of (sliceRd 1 intE) [.slice A228 x224.fParts.length c229] x224.fParts).reads w F := ⟨z227S, z227s0, z227rr⟩
                      refine T.skip (X.seq (T.seq (T.block (T.seq (T.region rfl ?_)))))
                      refine TL.q rfl .u (Ex.ixS (k := k219) rfl rfl rfl Try.runUnderlying62 Try.sizeOf104 (List.getElem?_eq_some_iff.1 hxx224).1) rfl ?_
                      refine TL.q rfl .u (Ex.oS (us := [.string (bsOf x224.fName), .slice A228 x224.fParts.length c229]) 0 rfl Try.isAgg104 Try.sizeOf104 z227nf z227cc rfl rfl rfl) rfl ?_
                      refine TL.alloc rfl .u Try.zeroValue104 rfl (fun b231 => ?_)
                      refine TL.st0 (cs' := #[.string (bsOf x224.fName), .slice A228 x224.fParts.length c229]) rfl .u rfl rfl Try.sizeOf104 rfl rfl rfl rfl ?_
                      refine TL.nil (X.seq (T.seq (T.region rfl ?_)))
                      refine TL.run ft_cursitorlaw14_ok [0] rfl rfl ?_
                      refine TL.q rfl .u (Ex.b1 0 rfl Try.isAgg102 rfl rfl) rfl ?_
                      refine TL.q rfl .u (Ex.lenS rfl Try.runUnderlying102) rfl ?_
                      refine TL.run ft_cursitorlaw14_ok [3] rfl rfl ?_
                      refine TL.nil (X.seq (T.block ?_))
                      obtain ⟨E234, hE235, hO236⟩ := Option.bind_eq_some_iff.1 h
                      have hk240len := RX.len_le hX230
                      refine T.lp (fun m e Rs => ∃ (y232 : Bool) (k233 : Nat), k233 + m = x224.fParts.length ∧ e = [(0, .slice (some ⟨gz227, oz227, none⟩) a0.length c2), (6, .bool y232), (74, .slice (some ⟨gz227, oz227, none⟩) a0.length c2), (75, .int .i64 (a0.length : Int)), (76, .int .i64 (k219 : Int)), (81, .slice A228 x224.fParts.length c229), (82, .int .i64 (x224.fParts.length : Int)), (83, .int .i64 (k233 : Int))] ∧ Rs = [BlkR b231 104 #[.string (bsOf x224.fName), .slice A228 x224.fParts.length c229], RdR (sliceRd 2 Top_rd) [.slice A24 x23.length c25] x23, RdR (sliceRd 2 Top_rd) [.slice A19 x18.length c20] x18, InR b17 st30, EmpR] ∧ f_l14_ValueTopics_l6 (x224.fParts.drop k233) y232 = some E234) (x224.fParts.length) [0, 0, 0, 0, 0] ⟨y218, 0, by simp, rfl, rfl, by rw [List.drop_zero]; exact hE235⟩ (by rfl) (by rfl) ?_
                      rintro m237 _ _ ⟨y232, k233, hk240, rfl, rfl, hl239⟩
                      clear hE235 h
                      cases m237 with
                      | zero =>
                        have h := hl239
                        clear hl239
                        rw [List.drop_of_length_le (by omega), f_l14_ValueTopics_l6] at h
                        have hk240ge : ¬ ((k233 : Int) < (x224.fParts.length : Int)) := by omega
                        refine T.seq (T.region rfl ?_)
                        refine TL.run ft_cursitorlaw14_ok [0] rfl rfl ?_
                        refine TL.nil (X.seq (T.seq ?_))
                        refine T.no rfl (decide_eq_false hk240ge) ?_
                        obtain rfl := Option.some.inj h
                        replace h := hO236
                        clear hO236
                        try dsimp only at h
                        refine T.exit (X.exs (X.exs (X.ex (X.blk (X.seq (T.region rfl ?_))))))
                        refine TL.q rfl .u (Ex.add rfl rfl (by omega)) rfl ?_
                        refine TL.run ft_cursitorlaw14_ok [1] rfl rfl ?_
                        exact TL.nil (X.back (m' := m223) [1, 1, 1, 1] (by omega) ⟨y232, k219 + 1, by omega, rfl, rfl, h⟩ (by rfl) (by rfl))
                      | succ m237 =>
                        have h := hl239
                        clear hl239
                        obtain ⟨x238, hxx238⟩ : ∃ x, x224.fParts[k233]? = some x := ⟨_, List.getElem?_eq_getElem (by omega)⟩
                        rw [drop_cons hxx238, f_l14_ValueTopics_l6] at h
                        have hk240lt : (k233 : Int) < (x224.fParts.length : Int) := by omega
                        refine T.seq (T.region rfl ?_)
                        refine TL.run ft_cursitorlaw14_ok [0] rfl rfl ?_
                        refine TL.nil (X.seq (T.seq ?_))
                        refine T.yes rfl (decide_eq_true hk240lt) ?_
                        obtain ⟨gz241, oz241, rfl, z241cs, z241cl, z241cc, z241nf, z241r⟩ := RX.elem (by decide) hX230 hxx238
                        obtain ⟨z241S, z241r, z241rr⟩ := z241r
                        obtain rfl : z241cs = [.int .i64 x238] := z241r
                        refine T.skip (X.seq (T.seq (T.block (T.seq (T.region rfl ?_)))))
                        refine TL.q rfl .u (Ex.ixS (k := k233) rfl rfl rfl Try.runUnderlying102 Try.sizeOf3 (List.getElem?_eq_some_iff.1 hxx238).1) rfl ?_
                        refine TL.q rfl .u (Ex.o1 0 rfl Try.isAgg3 z241nf z241cc rfl rfl) rfl ?_
                        refine TL.run ft_cursitorlaw14_ok [2] rfl rfl ?_
                        refine TL.nil (X.seq (T.seq (T.region rfl ?_)))
                        by_cases c242 : x238 < (-2147483648)
                        · replace h := ifT c242 h
                          refine TL.run ft_cursitorlaw14_ok [0, 1, 2] rfl rfl ?_
                          refine TL.no rfl (.gn rfl rfl (decide_eq_true c242)) rfl ?_
                          refine TL.no rfl (.gn rfl rfl (decide_eq_true c242)) rfl ?_
                          refine TL.q rfl .u (Ex.py rfl (decide_eq_true c242) rfl) rfl ?_
                          refine TL.nil (X.seq ?_)
                          refine T.yes rfl rfl ?_
                          refine T.seq (T.region rfl ?_)
                          refine TL.run ft_cursitorlaw14_ok [0] rfl rfl ?_
                          obtain rfl := Option.some.inj h
                          replace h := hO236
                          clear hO236
                          try dsimp only at h
                          obtain rfl := Option.some.inj h
                          replace h := hO222
                          clear hO222
                          try dsimp only at h
                          obtain rfl := Option.some.inj h
                          exact TL.nil (X.seq (T.ret (X.rb (X.rs (X.rs (X.rb (X.rb (X.rs (X.rs (X.rb (X.rs (X.done1 [4] Try.results12 (RV.tm rfl) ⟨rfl, rfl, rfl⟩ (by rfl) (.inl rfl)))))))))))))
                        · replace h := ifF c242 h
                          refine TL.run ft_cursitorlaw14_ok [0, 1, 2] rfl rfl ?_
                          refine TL.q rfl (.g rfl rfl (decide_eq_false c242)) (Ex.ft ft_cursitorlaw14_ok rfl) rfl ?_
                          refine TL.q rfl (.g rfl rfl (decide_eq_false c242)) (Ex.ft ft_cursitorlaw14_ok rfl) rfl ?_
                          refine TL.q rfl .u (Ex.pn rfl (decide_eq_false c242) rfl) rfl ?_
                          by_cases c243 : x238 > 2147483647
                          · replace h := ifT c243 h
                            refine TL.nil (X.seq ?_)
                            refine T.yes rfl (decide_eq_true c243) ?_
                            refine T.seq (T.region rfl ?_)
                            refine TL.run ft_cursitorlaw14_ok [0] rfl rfl ?_
                            obtain rfl := Option.some.inj h
                            replace h := hO236
                            clear hO236
                            try dsimp only at h
                            obtain rfl := Option.some.inj h
                            replace h := hO222
                            clear hO222
                            try dsimp only at h
                            obtain rfl := Option.some.inj h
                            exact TL.nil (X.seq (T.ret (X.rb (X.rs (X.rs (X.rb (X.rb (X.rs (X.rs (X.rb (X.rs (X.done1 [4] Try.results12 (RV.tm rfl) ⟨rfl, rfl, rfl⟩ (by rfl) (.inl rfl)))))))))))))
                          · replace h := ifF c243 h
                            refine TL.nil (X.seq ?_)
                            refine T.no rfl (decide_eq_false c243) ?_
                            refine T.skip (X.blk (X.seq (T.region rfl ?_)))
                            refine TL.q rfl .u (Ex.add rfl rfl (by omega)) rfl ?_
                            refine TL.run ft_cursitorlaw14_ok [1] rfl rfl ?_
                            exact TL.nil (X.back (m' := m237) [0, 0, 0, 0, 0] (by omega) ⟨y232, k233 + 1, by omega, rfl, rfl, h⟩ (by rfl) (by rfl))
                  · replace h := ifF c217 h
                    replace c217 := eq_false_of_ne_true c217
                    refine TL.q rfl (.g rfl rfl rfl) (Ex.bNe rfl c216 rfl c217 Try.runUnderlying4) rfl ?_
                    exact nomatch h
                · replace h := ifF c216 h
                  replace c216 := eq_false_of_ne_true c216
                  by_cases c300 : x214 = true
                  · replace h := ifT c300 h
                    refine TL.q rfl (.g rfl rfl rfl) (Ex.bNe rfl c216 rfl c300 Try.runUnderlying4) rfl ?_
                    exact nomatch h
                  · replace h := ifF c300 h
                    replace c300 := eq_false_of_ne_true c300
                    refine TL.q rfl (.g rfl rfl rfl) (Ex.bNe rfl c216 rfl c300 Try.runUnderlying4) rfl ?_
                    refine TL.q rfl .u (Ex.pn rfl rfl rfl) rfl ?_
                    refine TL.nil (X.seq ?_)
                    refine T.no rfl rfl ?_
                    refine T.skip (X.seq (T.seq (T.seq (T.region rfl ?_))))
                    refine TL.run ft_cursitorlaw14_ok [0] rfl rfl ?_
                    refine TL.q rfl .u (Ex.lenS rfl Try.runUnderlying62) rfl ?_
                    refine TL.run ft_cursitorlaw14_ok [2] rfl rfl ?_
                    refine TL.nil (X.seq (T.block ?_))
                    obtain ⟨E303, hE304, hO305⟩ := Option.bind_eq_some_iff.1 h
                    have hk309len := RX.len_le (RX.reads_left hX)
                    refine T.lp (fun m e Rs => ∃ (y301 : Bool) (k302 : Nat), k302 + m = a0.length ∧ e = [(0, .slice A1 a0.length c2), (6, .bool y301), (74, .slice A1 a0.length c2), (75, .int .i64 (a0.length : Int)), (76, .int .i64 (k302 : Int))] ∧ Rs = [RdR (sliceRd 2 Top_rd) [.slice A24 x23.length c25] x23, RdR (sliceRd 2 Top_rd) [.slice A19 x18.length c20] x18, InR b17 st30, EmpR] ∧ f_l14_ValueTopics_l7 (a0.drop k302) y301 = some E303) (a0.length) [0, 0, 0, 0] ⟨false, 0, by simp, rfl, rfl, by rw [List.drop_zero]; exact hE304⟩ (by rfl) (by rfl) ?_
                    rintro m306 _ _ ⟨y301, k302, hk309, rfl, rfl, hl308⟩
                    clear hE304 h
                    cases m306 with
                    | zero =>
                      have h := hl308
                      clear hl308
                      rw [List.drop_of_length_le (by omega), f_l14_ValueTopics_l7] at h
                      have hk309ge : ¬ ((k302 : Int) < (a0.length : Int)) := by omega
                      refine T.seq (T.region rfl ?_)
                      refine TL.run ft_cursitorlaw14_ok [0] rfl rfl ?_
                      refine TL.nil (X.seq (T.seq ?_))
                      refine T.no rfl (decide_eq_false hk309ge) ?_
                      obtain rfl := Option.some.inj h
                      replace h := hO305
                      clear hO305
                      try dsimp only at h
                      refine T.exit (X.exs (X.exs (X.ex (X.seq (T.seq (T.region rfl ?_))))))
                      refine TL.newout rfl .u Try.zeroValue40 rfl (fun b357 => ?_)
                      refine TL.nil (X.seq (T.seq (T.region rfl ?_)))
                      obtain ⟨st358, hx359, h⟩ := Option.bind_eq_some_iff.1 h
                      refine TL.run ft_cursitorlaw14_ok [0] rfl rfl ?_
                      refine TL.c0 rfl .u (.fn Try.call60 rfl) (f_value_PutTopics_spec b357 ([], 0) a0 _ _ _ hx359) (fun _ hs => (Src.old hs (RX.reads_left hX))) rfl ?_
                      obtain ⟨⟨x360, x361, st362⟩, hx363, h⟩ := Option.bind_eq_some_iff.1 h
                      try dsimp only at h
                      refine TL.nil (X.seq (T.seq (T.region rfl ?_)))
                      refine TL.c0 rfl .u (.fn Try.call23 rfl) (gOText_spec b357 st358 _ hx363) (fun _ hs => (Src.triv _)) rfl ?_
                      refine TL.run ft_cursitorlaw14_ok [1, 2, 3, 4, 5] rfl rfl ?_
                      refine TL.nil (X.seq (T.seq (T.region rfl ?_)))
                      obtain ⟨st364, hx365, h⟩ := Option.bind_eq_some_iff.1 h
                      refine TL.run ft_cursitorlaw14_ok [0] rfl rfl ?_
                      refine TL.cge rfl .u (.fn Try.call16 rfl) (gNew_spec x360 _ hx365) (fun _ hs => (RX.reads_triv _ _)) rfl ?_
                      rintro _ _ _ ⟨b366, rfl, rfl, rfl⟩
                      refine TL.sel [0, 0, 0, 0, 0, 0] rfl ?_
                      refine TL.run ft_cursitorlaw14_ok [2] rfl rfl ?_
                      refine TL.nil (X.seq (T.seq (T.region rfl ?_)))
                      by_cases c367 : x361 = 0
                      · replace h := ifT c367 h
                        refine TL.run ft_cursitorlaw14_ok [0, 1, 2] rfl rfl ?_
                        refine TL.q rfl (.g rfl rfl (decide_eq_true c367)) (Ex.ft ft_cursitorlaw14_ok rfl) rfl ?_
                        refine TL.q rfl (.g rfl rfl (decide_eq_true c367)) (Ex.ft ft_cursitorlaw14_ok rfl) rfl ?_
                        obtain ⟨x368, hx369, h⟩ := Option.bind_eq_some_iff.1 h
                        refine TL.ce rfl (.g rfl rfl (decide_eq_true c367)) (.fn Try.call61 rfl) (f_r14_Topics_spec a0 _ _ _ hx369) (fun _ hs => (SrcE.old hs (RX.reads_left hX))) rfl ?_
                        refine TL.q rfl (.g rfl rfl (decide_eq_true c367)) (Ex.sEq rfl rfl) rfl ?_
                        refine TL.q rfl .u (Ex.py rfl (decide_eq_true c367) rfl) rfl ?_
                        by_cases c370 : x360 = x368
                        · replace h := ifT c370 h
                          refine TL.run ft_cursitorlaw14_ok [8] rfl rfl ?_
                          refine TL.q rfl (.g rfl rfl (decide_eq_true c370)) (Ex.ft ft_cursitorlaw14_ok rfl) rfl ?_
                          obtain ⟨⟨x371, st374⟩, hx375, h⟩ := Option.bind_eq_some_iff.1 h
                          try dsimp only at h
                          refine TL.cg0 rfl (.g rfl rfl (decide_eq_true c370)) (.fn Try.call56 rfl) (f_value_Topics_spec b366 st364 _ hx375) (fun _ hs => (Src.triv _)) rfl ?_
                          rintro _ _ _ ⟨A372, c373, rfl, rfl, rfl⟩
                          refine TL.sel [0, 0, 0, 0, 0, 0, 0] rfl ?_
                          refine TL.q rfl (.g rfl rfl (decide_eq_true c370)) (Ex.ft ft_cursitorlaw14_ok rfl) rfl ?_
                          obtain ⟨x376, hx377, h⟩ := Option.bind_eq_some_iff.1 h
                          refine TL.ce rfl (.g rfl rfl (decide_eq_true c370)) (.fn Try.call58 rfl) (f_r14_SameTopics_spec x371 _ _ a0 _ _ _ hx377) (fun _ hs => (RX.reads_and (SrcE.res 0 hs rfl (fun w G h => rd_reads w G h)) (SrcE.old hs (RX.reads_left hX)))) rfl ?_
                          refine TL.q rfl .u (Ex.py rfl (decide_eq_true c370) rfl) rfl ?_
                          by_cases c378 : x376 = true
                          · replace h := ifT c378 h
                            refine TL.run ft_cursitorlaw14_ok [14] rfl rfl ?_
                            refine TL.q rfl (.g rfl rfl c378) (Ex.ft ft_cursitorlaw14_ok rfl) rfl ?_
                            obtain ⟨⟨x379, st380⟩, hx381, h⟩ := Option.bind_eq_some_iff.1 h
                            try dsimp only at h
                            refine TL.c1 rfl (.g rfl rfl c378) (.fn Try.call26 rfl) (gClose_spec b366 st374 _ hx381) (fun _ hs => (Src.triv _)) rfl ?_
                            refine TL.q rfl (.g rfl rfl c378) (Ex.ft ft_cursitorlaw14_ok rfl) rfl ?_
                            refine TL.q rfl .u (Ex.py rfl c378 rfl) rfl ?_
                            refine TL.run ft_cursitorlaw14_ok [19] rfl rfl ?_
                            by_cases c382 : x379 = 0
                            · replace h := ifT c382 h
                              obtain rfl := Option.some.inj h
                              exact TL.nil (X.seq (T.ret (X.done1 [6] Try.results12 (RV.tm (v := .bool true) (congrArg (fun b => some (Value.bool b)) (decide_eq_true c382))) ⟨rfl, rfl, rfl⟩ (by rfl) (.inl rfl))))
                            · replace h := ifF c382 h
                              exact nomatch h
                          · replace h := ifF c378 h
                            replace c378 := eq_false_of_ne_true c378
                            refine TL.run ft_cursitorlaw14_ok [14] rfl rfl ?_
                            refine TL.no rfl (.gn rfl rfl c378) rfl ?_
                            refine TL.no rfl (.gn rfl rfl c378) rfl ?_
                            refine TL.no rfl (.gn rfl rfl c378) rfl ?_
                            exact nomatch h
                        · replace h := ifF c370 h
                          refine TL.run ft_cursitorlaw14_ok [8] rfl rfl ?_
                          refine TL.no rfl (.gn rfl rfl (decide_eq_false c370)) rfl ?_
                          refine TL.no rfl (.gn rfl rfl (decide_eq_false c370)) rfl ?_
                          refine TL.no rfl (.gn rfl rfl (decide_eq_false c370)) rfl ?_
                          refine TL.no rfl (.gn rfl rfl (decide_eq_false c370)) rfl ?_
                          exact nomatch h
                      · replace h := ifF c367 h
                        refine TL.run ft_cursitorlaw14_ok [0, 1, 2] rfl rfl ?_
                        refine TL.no rfl (.gn rfl rfl (decide_eq_false c367)) rfl ?_
                        refine TL.no rfl (.gn rfl rfl (decide_eq_false c367)) rfl ?_
                        refine TL.no rfl (.gn rfl rfl (decide_eq_false c367)) rfl ?_
                        refine TL.no rfl (.gn rfl rfl (decide_eq_false c367)) rfl ?_
                        exact nomatch h
                    | succ m306 =>
                      have h := hl308
                      clear hl308
                      obtain ⟨x307, hxx307⟩ : ∃ x, a0[k302]? = some x := ⟨_, List.getElem?_eq_getElem (by omega)⟩
                      rw [drop_cons hxx307, f_l14_ValueTopics_l7] at h
                      have hk309lt : (k302 : Int) < (a0.length : Int) := by omega
                      refine T.seq (T.region rfl ?_)
                      refine TL.run ft_cursitorlaw14_ok [0] rfl rfl ?_
                      refine TL.nil (X.seq (T.seq ?_))
                      refine T.yes rfl (decide_eq_true hk309lt) ?_
                      obtain ⟨gz310, oz310, rfl, z310cs, z310cl, z310cc, z310nf, z310r⟩ := RX.elem (by decide) (RX.reads_left hX) hxx307
                      obtain ⟨z310S, z310r, z310rr⟩ := z310r
                      obtain ⟨A311, c312, rfl, z310s0⟩ := z310r
                      have hX313 : (RX.of (sliceRd 1 intE) [.slice A311 x307.fParts.length c312] x307.fParts).reads w F := ⟨z310S, z310s0, z310rr⟩
                      refine T.skip (X.seq (T.seq (T.block (T.seq (T.region rfl ?_)))))
                      refine TL.q rfl .u (Ex.ixS (k := k302) rfl rfl rfl Try.runUnderlying62 Try.sizeOf104 (List.getElem?_eq_some_iff.1 hxx307).1) rfl ?_
                      refine TL.q rfl .u (Ex.oS (us := [.string (bsOf x307.fName), .slice A311 x307.fParts.length c312]) 0 rfl Try.isAgg104 Try.sizeOf104 z310nf z310cc rfl rfl rfl) rfl ?_
                      refine TL.alloc rfl .u Try.zeroValue104 rfl (fun b314 => ?_)
                      refine TL.st0 (cs' := #[.string (bsOf x307.fName), .slice A311 x307.fParts.length c312]) rfl .u rfl rfl Try.sizeOf104 rfl rfl rfl rfl ?_
                      refine TL.nil (X.seq (T.seq (T.region rfl ?_)))
                      refine TL.run ft_cursitorlaw14_ok [0] rfl rfl ?_
                      refine TL.q rfl .u (Ex.b1 0 rfl Try.isAgg102 rfl rfl) rfl ?_
                      refine TL.q rfl .u (Ex.lenS rfl Try.runUnderlying102) rfl ?_
                      refine TL.run ft_cursitorlaw14_ok [3] rfl rfl ?_
                      refine TL.nil (X.seq (T.block ?_))
                      obtain ⟨E317, hE318, hO319⟩ := Option.bind_eq_some_iff.1 h
                      have hk323len := RX.len_le hX313
                      refine T.lp (fun m e Rs => ∃ (y315 : Bool) (k316 : Nat), k316 + m = x307.fParts.length ∧ e = [(0, .slice (some ⟨gz310, oz310, none⟩) a0.length c2), (6, .bool y315), (74, .slice (some ⟨gz310, oz310, none⟩) a0.length c2), (75, .int .i64 (a0.length : Int)), (76, .int .i64 (k302 : Int)), (81, .slice A311 x307.fParts.length c312), (82, .int .i64 (x307.fParts.length : Int)), (83, .int .i64 (k316 : Int))] ∧ Rs = [BlkR b314 104 #[.string (bsOf x307.fName), .slice A311 x307.fParts.length c312], RdR (sliceRd 2 Top_rd) [.slice A24 x23.length c25] x23, RdR (sliceRd 2 Top_rd) [.slice A19 x18.length c20] x18, InR b17 st30, EmpR] ∧ f_l14_ValueTopics_l8 (x307.fParts.drop k316) y315 = some E317) (x307.fParts.length) [0, 0, 0, 0, 0] ⟨y301, 0, by simp, rfl, rfl, by rw [List.drop_zero]; exact hE318⟩ (by rfl) (by rfl) ?_
                      rintro m320 _ _ ⟨y315, k316, hk323, rfl, rfl, hl322⟩
                      clear hE318 h
                      cases m320 with
                      | zero =>
                        have h := hl322
                        clear hl322
                        rw [List.drop_of_length_le (by omega), f_l14_ValueTopics_l8] at h
                        have hk323ge : ¬ ((k316 : Int) < (x307.fParts.length : Int)) := by omega
                        refine T.seq (T.region rfl ?_)
                        refine TL.run ft_cursitorlaw14_ok [0] rfl rfl ?_
                        refine TL.nil (X.seq (T.seq ?_))
                        refine T.no rfl (decide_eq_false hk323ge) ?_
                        obtain rfl := Option.some.inj h
                        replace h := hO319
                        clear hO319
                        try dsimp only at h
                        refine T.exit (X.exs (X.exs (X.ex (X.blk (X.seq (T.region rfl ?_))))))
                        refine TL.q rfl .u (Ex.add rfl rfl (by omega)) rfl ?_
                        refine TL.run ft_cursitorlaw14_ok [1] rfl rfl ?_
                        exact TL.nil (X.back (m' := m306) [1, 1, 1, 1] (by omega) ⟨y315, k302 + 1, by omega, rfl, rfl, h⟩ (by rfl) (by rfl))
                      | succ m320 =>
                        have h := hl322
                        clear hl322
                        obtain ⟨x321, hxx321⟩ : ∃ x, x307.fParts[k316]? = some x := ⟨_, List.getElem?_eq_getElem (by omega)⟩
                        rw [drop_cons hxx321, f_l14_ValueTopics_l8] at h
                        have hk323lt : (k316 : Int) < (x307.fParts.length : Int) := by omega
                        refine T.seq (T.region rfl ?_)
                        refine TL.run ft_cursitorlaw14_ok [0] rfl rfl ?_
                        refine TL.nil (X.seq (T.seq ?_))
                        refine T.yes rfl (decide_eq_true hk323lt) ?_
                        obtain ⟨gz324, oz324, rfl, z324cs, z324cl, z324cc, z324nf, z324r⟩ := RX.elem (by decide) hX313 hxx321
                        obtain ⟨z324S, z324r, z324rr⟩ := z324r
                        obtain rfl : z324cs = [.int .i64 x321] := z324r
                        refine T.skip (X.seq (T.seq (T.block (T.seq (T.region rfl ?_)))))
                        refine TL.q rfl .u (Ex.ixS (k := k316) rfl rfl rfl Try.runUnderlying102 Try.sizeOf3 (List.getElem?_eq_some_iff.1 hxx321).1) rfl ?_
                        refine TL.q rfl .u (Ex.o1 0 rfl Try.isAgg3 z324nf z324cc rfl rfl) rfl ?_
                        refine TL.run ft_cursitorlaw14_ok [2] rfl rfl ?_
                        refine TL.nil (X.seq (T.seq (T.region rfl ?_)))
                        by_cases c325 : x321 < (-2147483648)
                        · replace h := ifT c325 h
                          refine TL.run ft_cursitorlaw14_ok [0, 1, 2] rfl rfl ?_
                          refine TL.no rfl (.gn rfl rfl (decide_eq_true c325)) rfl ?_
                          refine TL.no rfl (.gn rfl rfl (decide_eq_true c325)) rfl ?_
                          refine TL.q rfl .u (Ex.py rfl (decide_eq_true c325) rfl) rfl ?_
                          refine TL.nil (X.seq ?_)
                          refine T.yes rfl rfl ?_
                          refine T.seq (T.region rfl ?_)
                          refine TL.run ft_cursitorlaw14_ok [0] rfl rfl ?_
                          obtain rfl := Option.some.inj h
                          replace h := hO319
                          clear hO319
                          try dsimp only at h
                          obtain rfl := Option.some.inj h
                          replace h := hO305
                          clear hO305
                          try dsimp only at h
                          obtain rfl := Option.some.inj h
                          exact TL.nil (X.seq (T.ret (X.rb (X.rs (X.rs (X.rb (X.rb (X.rs (X.rs (X.rb (X.rs (X.done1 [4] Try.results12 (RV.tm rfl) ⟨rfl, rfl, rfl⟩ (by rfl) (.inl rfl)))))))))))))
                        · replace h := ifF c325 h
                          refine TL.run ft_cursitorlaw14_ok [0, 1, 2] rfl rfl ?_
                          refine TL.q rfl (.g rfl rfl (decide_eq_false c325)) (Ex.ft ft_cursitorlaw14_ok rfl) rfl ?_
                          refine TL.q rfl (.g rfl rfl (decide_eq_false c325)) (Ex.ft ft_cursitorlaw14_ok rfl) rfl ?_
                          refine TL.q rfl .u (Ex.pn rfl (decide_eq_false c325) rfl) rfl ?_
                          by_cases c326 : x321 > 2147483647
                          · replace h := ifT c326 h
                            refine TL.nil (X.seq ?_)
                            refine T.yes rfl (decide_eq_true c326) ?_
                            refine T.seq (T.region rfl ?_)
                            refine TL.run ft_cursitorlaw14_ok [0] rfl rfl ?_
                            obtain rfl := Option.some.inj h
                            replace h := hO319
                            clear hO319
                            try dsimp only at h
                            obtain rfl := Option.some.inj h
                            replace h := hO305
                            clear hO305
                            try dsimp only at h
                            obtain rfl := Option.some.inj h
                            exact TL.nil (X.seq (T.ret (X.rb (X.rs (X.rs (X.rb (X.rb (X.rs (X.rs (X.rb (X.rs (X.done1 [4] Try.results12 (RV.tm rfl) ⟨rfl, rfl, rfl⟩ (by rfl) (.inl rfl)))))))))))))
                          · replace h := ifF c326 h
                            refine TL.nil (X.seq ?_)
                            refine T.no rfl (decide_eq_false c326) ?_
                            refine T.skip (X.blk (X.seq (T.region rfl ?_)))
                            refine TL.q rfl .u (Ex.add rfl rfl (by omega)) rfl ?_
                            refine TL.run ft_cursitorlaw14_ok [1] rfl rfl ?_
                            exact TL.nil (X.back (m' := m320) [0, 0, 0, 0, 0] (by omega) ⟨y315, k316 + 1, by omega, rfl, rfl, h⟩ (by rfl) (by rfl))
            · replace h := ifF c35 h
              replace c35 := eq_false_of_ne_true c35
              refine TL.run ft_cursitorlaw14_ok [10] rfl rfl ?_
              refine TL.no rfl (.gn rfl rfl (bn_t c35)) rfl ?_
              refine TL.no rfl (.gn rfl rfl (bn_t c35)) rfl ?_
              refine TL.no rfl (.gn rfl rfl (bn_t c35)) rfl ?_
              refine TL.no rfl (.gu rfl rfl) rfl ?_
              refine TL.no rfl (.gu rfl rfl) rfl ?_
              refine TL.no rfl (.gu rfl rfl) rfl ?_
              refine TL.no rfl (.gu rfl rfl) rfl ?_
              refine TL.no rfl (.gn rfl rfl (bn_t c35)) rfl ?_
              exact nomatch h
          · replace h := ifF c32 h
            refine TL.run ft_cursitorlaw14_ok [2, 3, 4] rfl rfl ?_
            refine TL.no rfl (.gn rfl rfl (bn_t (decide_eq_false c32))) rfl ?_
            refine TL.no rfl (.gn rfl rfl (bn_t (decide_eq_false c32))) rfl ?_
            refine TL.no rfl (.gn rfl rfl (bn_t (decide_eq_false c32))) rfl ?_
            refine TL.no rfl (.gn rfl rfl (bn_t (decide_eq_false c32))) rfl ?_
            exact nomatch h
  · replace h := ifF c7 h
    replace c7 := eq_false_of_ne_true c7
    refine TL.nil (X.seq ?_)
    refine T.yes rfl (bn_t c7) ?_
    exact nomatch h
def f_l14_ValueEncodes (a0 : Val) : Option (Bool) := (f_l14_speaks).bind fun x4 => if x4 = true then ((f_l14_Few a0.fTopics).bind fun x7 => if x7 = 0 then some true else ((f_value_Encode a0).bind fun (x10, x11) => (f_r14_Check a0).bind fun x13 => if x11 = x13 then ((f_value_Check a0).bind fun x16 => if x16 = x13 then (if x13 = 0 then ((f_value_Decode x10).bind fun (x20, x23) => (f_r14_Encode a0).bind fun x26 => if x10 = x26 then (if x23 = 0 then ((f_r14_Same x20 a0).bind fun x30 => if x30 = true then ((f_value_Same x20 a0).bind fun x33 => if x33 = true then ((f_value_Idle a0.fState).bind fun x36 => if x36 = true then (if (a0.fTopics.length : Int) = 0 then some true else none) else (if (a0.fTopics.length : Int) = 0 then none else some true)) else none) else none) else none) else none) else (if x10 = [] then some true else none)) else none) else none)) else none
set_option maxRecDepth 100000 in
set_option maxHeartbeats 4000000 in
theorem f_l14_ValueEncodes_spec (a0 : Val) (A1 : Option Addr) (c2 : Nat) (r : Bool) (h : f_l14_ValueEncodes a0 = some r) : SpecX Try.prog 13 #[.agg #[.int .i64 a0.fProducer, .int .i64 a0.fEpoch, .int .i64 a0.fTimeout, .int .i64 a0.fState, .slice A1 a0.fTopics.length c2, .int .i64 a0.fUpdated, .int .i64 a0.fStarted]] (RX.of (sliceRd 2 Top_rd) [.slice A1 a0.fTopics.length c2] a0.fTopics) (EmpR) (fun v A' N => v = .bool r ∧ A' = EmpR ∧ N = []) := by
  refine enterA Try.func13 rfl Try.ntmps13 rfl ?_
  intro F w hX
  unfold f_l14_ValueEncodes at h
  refine T.seq (T.region rfl ?_)
  refine TL.box rfl .u rfl rfl (fun b3 => ?_)
  refine TL.run ft_cursitorlaw14_ok [1] rfl rfl ?_
  obtain ⟨x4, hx5, h⟩ := Option.bind_eq_some_iff.1 h
  refine TL.nil (X.seq (T.seq (T.seq (T.region rfl ?_))))
  refine TL.ce rfl .u (.fn Try.call36 rfl) (f_l14_speaks_spec _ hx5) (fun _ hs => (RX.reads_triv _ _)) rfl ?_
  refine TL.run ft_cursitorlaw14_ok [1] rfl rfl ?_
  by_cases c6 : x4 = true
  · replace h := ifT c6 h
    refine TL.nil (X.seq ?_)
    refine T.no rfl (bn_f c6) ?_
    refine T.skip (X.seq (T.seq (T.seq (T.region rfl ?_))))
    refine TL.run ft_cursitorlaw14_ok [0] rfl rfl ?_
    refine TL.q rfl .u (Ex.b1 0 rfl Try.isAgg62 rfl rfl) rfl ?_
    obtain ⟨x7, hx8, h⟩ := Option.bind_eq_some_iff.1 h
    refine TL.ce rfl .u (.fn Try.call45 rfl) (f_l14_Few_spec a0.fTopics _ _ _ hx8) (fun _ hs => (SrcE.old hs hX)) rfl ?_
    refine TL.run ft_cursitorlaw14_ok [3] rfl rfl ?_
    by_cases c9 : x7 = 0
    · replace h := ifT c9 h
      refine TL.nil (X.seq ?_)
      refine T.yes rfl (decide_eq_true c9) ?_
      refine T.seq (T.region rfl ?_)
      refine TL.run ft_cursitorlaw14_ok [0] rfl rfl ?_
      obtain rfl := Option.some.inj h
      exact TL.nil (X.seq (T.ret (X.rs (X.done1 [1] Try.results13 (RV.tm rfl) ⟨rfl, rfl, rfl⟩ (by rfl) (.inl rfl)))))
    · replace h := ifF c9 h
      refine TL.nil (X.seq ?_)
      refine T.no rfl (decide_eq_false c9) ?_
      refine T.skip (X.seq (T.seq (T.region rfl ?_)))
      refine TL.q rfl .u (Ex.bS (us := [.int .i64 a0.fProducer, .int .i64 a0.fEpoch, .int .i64 a0.fTimeout, .int .i64 a0.fState, .slice A1 a0.fTopics.length c2, .int .i64 a0.fUpdated, .int .i64 a0.fStarted]) 0 rfl Try.isAgg64 Try.sizeOf64 rfl rfl rfl) rfl ?_
      obtain ⟨⟨x10, x11⟩, hx12, h⟩ := Option.bind_eq_some_iff.1 h
      try dsimp only at h
      refine TL.ce rfl .u (.fn Try.call40 rfl) (f_value_Encode_spec a0 _ _ _ hx12) (fun _ hs => (SrcE.old hs hX)) rfl ?_
      refine TL.run ft_cursitorlaw14_ok [2, 3, 4, 5, 6] rfl rfl ?_
      refine TL.nil (X.seq (T.seq (T.region rfl ?_)))
      refine TL.q rfl .u (Ex.bS (us := [.int .i64 a0.fProducer, .int .i64 a0.fEpoch, .int .i64 a0.fTimeout, .int .i64 a0.fState, .slice A1 a0.fTopics.length c2, .int .i64 a0.fUpdated, .int .i64 a0.fStarted]) 0 rfl Try.isAgg64 Try.sizeOf64 rfl rfl rfl) rfl ?_
      obtain ⟨x13, hx14, h⟩ := Option.bind_eq_some_iff.1 h
      refine TL.ce rfl .u (.fn Try.call62 rfl) (f_r14_Check_spec a0 _ _ _ hx14) (fun _ hs => (SrcE.old hs hX)) rfl ?_
      refine TL.run ft_cursitorlaw14_ok [2] rfl rfl ?_
      refine TL.nil (X.seq (T.seq (T.seq (T.region rfl ?_))))
      by_cases c15 : x11 = x13
      · replace h := ifT c15 h
        refine TL.run ft_cursitorlaw14_ok [0, 1, 2, 3] rfl rfl ?_
        refine TL.q rfl (.g rfl rfl (bn_f (decide_eq_true c15))) (Ex.bS (us := [.int .i64 a0.fProducer, .int .i64 a0.fEpoch, .int .i64 a0.fTimeout, .int .i64 a0.fState, .slice A1 a0.fTopics.length c2, .int .i64 a0.fUpdated, .int .i64 a0.fStarted]) 0 rfl Try.isAgg64 Try.sizeOf64 rfl rfl rfl) rfl ?_
        obtain ⟨x16, hx17, h⟩ := Option.bind_eq_some_iff.1 h
        refine TL.ce rfl (.g rfl rfl (bn_f (decide_eq_true c15))) (.fn Try.call63 rfl) (f_value_Check_spec a0 _ _ _ hx17) (fun _ hs => (SrcE.old hs hX)) rfl ?_
        refine TL.q rfl (.g rfl rfl (bn_f (decide_eq_true c15))) (Ex.ft ft_cursitorlaw14_ok rfl) rfl ?_
        refine TL.q rfl (.g rfl rfl (bn_f (decide_eq_true c15))) (Ex.ft ft_cursitorlaw14_ok rfl) rfl ?_
        refine TL.q rfl .u (Ex.pn rfl (bn_f (decide_eq_true c15)) rfl) rfl ?_
        by_cases c18 : x16 = x13
        · replace h := ifT c18 h
          refine TL.nil (X.seq ?_)
          refine T.no rfl (bn_f (decide_eq_true c18)) ?_
          refine T.skip (X.seq (T.seq (T.seq (T.region rfl ?_))))
          refine TL.run ft_cursitorlaw14_ok [0, 1] rfl rfl ?_
          by_cases c19 : x13 = 0
          · replace h := ifT c19 h
            refine TL.nil (X.seq ?_)
            refine T.no rfl (bn_f (decide_eq_true c19)) ?_
            refine T.skip (X.seq (T.seq (T.region rfl ?_)))
            obtain ⟨⟨x20, x23⟩, hx24, h⟩ := Option.bind_eq_some_iff.1 h
            try dsimp only at h
            refine TL.run ft_cursitorlaw14_ok [0] rfl rfl ?_
            refine TL.cge rfl .u (.fn Try.call37 rfl) (f_value_Decode_spec x10 _ hx24) (fun _ hs => (RX.reads_triv _ _)) rfl ?_
            rintro _ _ _ ⟨A21, c22, rfl, rfl, rfl⟩
            refine TL.sel [0, 0, 0] rfl ?_
            refine TL.run ft_cursitorlaw14_ok [2, 3, 4] rfl rfl ?_
            refine TL.alloc rfl .u Try.zeroValue64 rfl (fun b25 => ?_)
            refine TL.st0 (cs' := #[.int .i64 x20.fProducer, .int .i64 x20.fEpoch, .int .i64 x20.fTimeout, .int .i64 x20.fState, .slice A21 x20.fTopics.length c22, .int .i64 x20.fUpdated, .int .i64 x20.fStarted]) rfl .u rfl rfl Try.sizeOf64 rfl rfl rfl rfl ?_
            refine TL.run ft_cursitorlaw14_ok [7] rfl rfl ?_
            refine TL.nil (X.seq (T.seq (T.draw (.q 0 (.q 1 (.e 2 (.q 3 (.q 4 (.q 5 (.q 6 (.q 7 (.q 8 (.q 9 (.q 10 (.e 11 (.q 12 (.q 13 (.q 14 (.q 15 (.e 16 (.q 17 (.q 18 (.q 19 (.q 20 (.q 22 (.q 23 (.q 24 (.q 25 (.e 21 (.q 26 (.q 27 (.q 28 .nil))))))))))))))))))))))))))))) [0, 0, 0, 0] rfl mix_cursitorlaw14 (NoP.seq np_post) (by kernel_rfl) ?_)))
            refine TD.run ft_cursitorlaw14_ok [0] rfl rfl ?_
            refine TD.q rfl .u (Ex.bS (us := [.int .i64 a0.fProducer, .int .i64 a0.fEpoch, .int .i64 a0.fTimeout, .int .i64 a0.fState, .slice A1 a0.fTopics.length c2, .int .i64 a0.fUpdated, .int .i64 a0.fStarted]) 2 rfl Try.isAgg64 Try.sizeOf64 rfl rfl rfl) rfl ?_
            obtain ⟨x26, hx27, h⟩ := Option.bind_eq_some_iff.1 h
            refine TD.ce rfl .u (.fn Try.call64 rfl) (f_r14_Encode_spec a0 _ _ _ hx27) (fun _ hs => (SrcE.old hs hX)) rfl [0, 0, 0, 0] (rfl) ?_
            refine TD.q rfl .u (Ex.sEq rfl rfl) rfl ?_
            by_cases c28 : x10 = x26
            · replace h := ifT c28 h
              refine TD.run ft_cursitorlaw14_ok [4] rfl rfl ?_
              refine TD.q rfl (.g rfl rfl (decide_eq_true c28)) (Ex.ft ft_cursitorlaw14_ok rfl) rfl ?_
              refine TD.q rfl (.g rfl rfl (decide_eq_true c28)) (Ex.ft ft_cursitorlaw14_ok rfl) rfl ?_
              refine TD.q rfl .u (Ex.py rfl (decide_eq_true c28) rfl) rfl ?_
              by_cases c29 : x23 = 0
              · replace h := ifT c29 h
                refine TD.run ft_cursitorlaw14_ok [8] rfl rfl ?_
                refine TD.q rfl (.g rfl rfl (decide_eq_true c29)) (Ex.bS (us := [.int .i64 x20.fProducer, .int .i64 x20.fEpoch, .int .i64 x20.fTimeout, .int .i64 x20.fState, .slice A21 x20.fTopics.length c22, .int .i64 x20.fUpdated, .int .i64 x20.fStarted]) 0 rfl Try.isAgg64 Try.sizeOf64 rfl rfl rfl) rfl ?_
                refine TD.q rfl (.g rfl rfl (decide_eq_true c29)) (Ex.bS (us := [.int .i64 a0.fProducer, .int .i64 a0.fEpoch, .int .i64 a0.fTimeout, .int .i64 a0.fState, .slice A1 a0.fTopics.length c2, .int .i64 a0.fUpdated, .int .i64 a0.fStarted]) 2 rfl Try.isAgg64 Try.sizeOf64 rfl rfl rfl) rfl ?_
                obtain ⟨x30, hx31, h⟩ := Option.bind_eq_some_iff.1 h
                refine TD.ce rfl (.g rfl rfl (decide_eq_true c29)) (.fn Try.call39 rfl) (f_r14_Same_spec x20 _ _ a0 _ _ _ hx31) (fun _ hs => (RX.reads_and (SrcE.res 1 hs rfl (fun w G h => rd_reads w G h)) (SrcE.old hs hX))) rfl [0, 0, 0, 0] (rfl) ?_
                refine TD.q rfl .u (Ex.py rfl (decide_eq_true c29) rfl) rfl ?_
                by_cases c32 : x30 = true
                · replace h := ifT c32 h
                  refine TD.run ft_cursitorlaw14_ok [13] rfl rfl ?_
                  refine TD.q rfl (.g rfl rfl c32) (Ex.bS (us := [.int .i64 x20.fProducer, .int .i64 x20.fEpoch, .int .i64 x20.fTimeout, .int .i64 x20.fState, .slice A21 x20.fTopics.length c22, .int .i64 x20.fUpdated, .int .i64 x20.fStarted]) 0 rfl Try.isAgg64 Try.sizeOf64 rfl rfl rfl) rfl ?_
                  refine TD.q rfl (.g rfl rfl c32) (Ex.bS (us := [.int .i64 a0.fProducer, .int .i64 a0.fEpoch, .int .i64 a0.fTimeout, .int .i64 a0.fState, .slice A1 a0.fTopics.length c2, .int .i64 a0.fUpdated, .int .i64 a0.fStarted]) 2 rfl Try.isAgg64 Try.sizeOf64 rfl rfl rfl) rfl ?_
                  obtain ⟨x33, hx34, h⟩ := Option.bind_eq_some_iff.1 h
                  refine TD.ce rfl (.g rfl rfl c32) (.fn Try.call65 rfl) (f_value_Same_spec x20 _ _ a0 _ _ _ hx34) (fun _ hs => (RX.reads_and (SrcE.res 1 hs rfl (fun w G h => rd_reads w G h)) (SrcE.old hs hX))) rfl [0, 0, 0, 0] (rfl) ?_
                  refine TD.q rfl .u (Ex.py rfl c32 rfl) rfl ?_
                  by_cases c35 : x33 = true
                  · replace h := ifT c35 h
                    refine TD.run ft_cursitorlaw14_ok [18] rfl rfl ?_
                    refine TD.q rfl (.g rfl rfl c35) (Ex.ft ft_cursitorlaw14_ok rfl) rfl ?_
                    refine TD.q rfl (.g rfl rfl c35) (Ex.b1 2 rfl Try.isAgg3 rfl rfl) rfl ?_
                    refine TD.q rfl (.g rfl rfl c35) (Ex.ft ft_cursitorlaw14_ok rfl) rfl ?_
                    refine TD.q rfl (.g rfl rfl c35) (Ex.b1 2 rfl Try.isAgg62 rfl rfl) rfl ?_
                    refine TD.q rfl (.g rfl rfl c35) (Ex.lenS rfl Try.runUnderlying62) rfl ?_
                    refine TD.q rfl (.g rfl rfl c35) (Ex.ft ft_cursitorlaw14_ok rfl) rfl ?_
                    obtain ⟨x36, hx37, h⟩ := Option.bind_eq_some_iff.1 h
                    refine TD.ce rfl (.g rfl rfl c35) (.fn Try.call66 rfl) (f_value_Idle_spec a0.fState _ hx37) (fun _ hs => (RX.reads_triv _ _)) rfl [0, 0, 0, 0] (rfl) ?_
                    by_cases c38 : x36 = true
                    · replace h := ifT c38 h
                      by_cases c39 : (a0.fTopics.length : Int) = 0
                      · replace h := ifT c39 h
                        refine TD.q rfl (.g rfl rfl c35) (Ex.bEq rfl c38 rfl (decide_eq_true c39) Try.runUnderlying4) rfl ?_
                        refine TD.q rfl .u (Ex.py rfl c35 rfl) rfl ?_
                        refine TD.run ft_cursitorlaw14_ok [28] rfl rfl ?_
                        obtain rfl := Option.some.inj h
                        exact TD.nil (X.seq (T.ret (X.done1 [3] Try.results13 (RV.tm rfl) ⟨rfl, rfl, rfl⟩ (by rfl) (.inl rfl))))
                      · replace h := ifF c39 h
                        refine TD.q rfl (.g rfl rfl c35) (Ex.bEq rfl c38 rfl (decide_eq_false c39) Try.runUnderlying4) rfl ?_
                        exact nomatch h
                    · replace h := ifF c38 h
                      replace c38 := eq_false_of_ne_true c38
                      by_cases c40 : (a0.fTopics.length : Int) = 0
                      · replace h := ifT c40 h
                        refine TD.q rfl (.g rfl rfl c35) (Ex.bEq rfl c38 rfl (decide_eq_true c40) Try.runUnderlying4) rfl ?_
                        exact nomatch h
                      · replace h := ifF c40 h
                        refine TD.q rfl (.g rfl rfl c35) (Ex.bEq rfl c38 rfl (decide_eq_false c40) Try.runUnderlying4) rfl ?_
                        refine TD.q rfl .u (Ex.py rfl c35 rfl) rfl ?_
                        refine TD.run ft_cursitorlaw14_ok [28] rfl rfl ?_
                        obtain rfl := Option.some.inj h
                        exact TD.nil (X.seq (T.ret (X.done1 [3] Try.results13 (RV.tm rfl) ⟨rfl, rfl, rfl⟩ (by rfl) (.inl rfl))))
                  · replace h := ifF c35 h
                    replace c35 := eq_false_of_ne_true c35
                    refine TD.run ft_cursitorlaw14_ok [18] rfl rfl ?_
                    refine TD.no rfl (.gn rfl rfl c35) rfl ?_
                    refine TD.no rfl (.gn rfl rfl c35) rfl ?_
                    refine TD.no rfl (.gn rfl rfl c35) rfl ?_
                    refine TD.no rfl (.gn rfl rfl c35) rfl ?_
                    refine TD.no rfl (.gn rfl rfl c35) rfl ?_
                    refine TD.no rfl (.gn rfl rfl c35) rfl ?_
                    refine TD.noe rfl (.gn rfl rfl c35) rfl [0, 0, 0, 0] rfl ?_
                    refine TD.no rfl (.gn rfl rfl c35) rfl ?_
                    exact nomatch h
                · replace h := ifF c32 h
                  replace c32 := eq_false_of_ne_true c32
                  refine TD.run ft_cursitorlaw14_ok [13] rfl rfl ?_
                  refine TD.no rfl (.gn rfl rfl c32) rfl ?_
                  refine TD.no rfl (.gn rfl rfl c32) rfl ?_
                  refine TD.noe rfl (.gn rfl rfl c32) rfl [0, 0, 0, 0] rfl ?_
                  exact nomatch h
              · replace h := ifF c29 h
                refine TD.run ft_cursitorlaw14_ok [8] rfl rfl ?_
                refine TD.no rfl (.gn rfl rfl (decide_eq_false c29)) rfl ?_
                refine TD.no rfl (.gn rfl rfl (decide_eq_false c29)) rfl ?_
                refine TD.noe rfl (.gn rfl rfl (decide_eq_false c29)) rfl [0, 0, 0, 0] rfl ?_
                exact nomatch h
            · replace h := ifF c28 h
              refine TD.run ft_cursitorlaw14_ok [4] rfl rfl ?_
              refine TD.no rfl (.gn rfl rfl (decide_eq_false c28)) rfl ?_
              refine TD.no rfl (.gn rfl rfl (decide_eq_false c28)) rfl ?_
              exact nomatch h
          · replace h := ifF c19 h
            refine TL.nil (X.seq ?_)
            refine T.yes rfl (bn_t (decide_eq_false c19)) ?_
            refine T.seq (T.region rfl ?_)
            refine TL.run ft_cursitorlaw14_ok [0] rfl rfl ?_
            refine TL.q rfl .u (Ex.sEq rfl (m := []) rfl) rfl ?_
            refine TL.run ft_cursitorlaw14_ok [2] rfl rfl ?_
            by_cases c41 : x10 = []
            · replace h := ifT c41 h
              obtain rfl := Option.some.inj h
              exact TL.nil (X.seq (T.ret (X.rs (X.done1 [1] Try.results13 (RV.tm (v := .bool true) (congrArg (fun b => some (Value.bool b)) (decide_eq_true c41))) ⟨rfl, rfl, rfl⟩ (by rfl) (.inl rfl)))))
            · replace h := ifF c41 h
              exact nomatch h
        · replace h := ifF c18 h
          refine TL.nil (X.seq ?_)
          refine T.yes rfl (bn_t (decide_eq_false c18)) ?_
          exact nomatch h
      · replace h := ifF c15 h
        refine TL.run ft_cursitorlaw14_ok [0, 1, 2, 3] rfl rfl ?_
        refine TL.no rfl (.gn rfl rfl (bn_t (decide_eq_false c15))) rfl ?_
        refine TL.no rfl (.gn rfl rfl (bn_t (decide_eq_false c15))) rfl ?_
        refine TL.no rfl (.gn rfl rfl (bn_t (decide_eq_false c15))) rfl ?_
        refine TL.no rfl (.gn rfl rfl (bn_t (decide_eq_false c15))) rfl ?_
        exact nomatch h
  · replace h := ifF c6 h
    replace c6 := eq_false_of_ne_true c6
    refine TL.nil (X.seq ?_)
    refine T.yes rfl (bn_t c6) ?_
    exact nomatch h
end Go.Proofs.Ytdlpmcbglmgpiaa.Sl
