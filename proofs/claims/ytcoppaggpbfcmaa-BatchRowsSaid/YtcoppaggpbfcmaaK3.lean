/- batchRows_holds: part 3. -/
import Derived.Test.YtcoppaggpbfcmaaK2
namespace Go.Proofs.Ytcoppaggpbfcmaa.Sl
open Go.RowKit
set_option linter.unusedVariables false
set_option linter.unusedSimpArgs false
set_option maxRecDepth 100000
def ft_prefix : FTab := [(92, 0, 0), (92, 1, 1), (92, 2, 2), (92, 3, 3), (92, 4, 4), (92, 5, 5), (92, 6, 6), (92, 7, 7), (92, 8, 8), (92, 9, 9), (92, 10, 10), (92, 11, 11), (149, 0, 0), (149, 1, 1)]
theorem ft_prefix_ok : (ft_prefix).OK Try.prog := ⟨FOK.mk Try.runUnderlying92 rfl Try.sizeOf3 rfl, FOK.mk Try.runUnderlying92 rfl Try.sizeOf3 rfl, FOK.mk Try.runUnderlying92 rfl Try.sizeOf3 rfl, FOK.mk Try.runUnderlying92 rfl Try.sizeOf3 rfl, FOK.mk Try.runUnderlying92 rfl Try.sizeOf3 rfl, FOK.mk Try.runUnderlying92 rfl Try.sizeOf3 rfl, FOK.mk Try.runUnderlying92 rfl Try.sizeOf3 rfl, FOK.mk Try.runUnderlying92 rfl Try.sizeOf3 rfl, FOK.mk Try.runUnderlying92 rfl Try.sizeOf3 rfl, FOK.mk Try.runUnderlying92 rfl Try.sizeOf3 rfl, FOK.mk Try.runUnderlying92 rfl Try.sizeOf3 rfl, FOK.mk Try.runUnderlying92 rfl Try.sizeOf3 rfl, FOK.mk Try.runUnderlying149 rfl Try.sizeOf147 rfl, FOK.mk Try.runUnderlying149 rfl Try.sizeOf3 rfl, trivial⟩
theorem mix_prefix : Try.prog.follows .mixedOrders = true := by kernel_rfl
theorem bok_prefix_92 : BOK Try.prog 92 #[.int .i64 0, .int .i64 0, .int .i64 0, .int .i64 0, .int .i64 0, .int .i64 0, .int .i64 0, .int .i64 0, .int .i64 0, .int .i64 0, .int .i64 0, .int .i64 0] [(0, 1), (1, 1), (2, 1), (3, 1), (4, 1), (5, 1), (6, 1), (7, 1), (8, 1), (9, 1), (10, 1), (11, 1)] := BOK.mk Try.zeroValue92 Try.runUnderlying92 (by intro w; simp)
theorem bok_prefix_149 : BOK Try.prog 149 #[.pointer none, .int .i64 0] [(0, 1), (1, 1)] := BOK.mk Try.zeroValue149 Try.runUnderlying149 (by intro w; simp)
theorem sok_prefix_145_13 : SOK Try.prog 145 149 13 2 #[.pointer none, .int .i64 0, .pointer none, .int .i64 0, .pointer none, .int .i64 0, .pointer none, .int .i64 0, .pointer none, .int .i64 0, .pointer none, .int .i64 0, .pointer none, .int .i64 0, .pointer none, .int .i64 0, .pointer none, .int .i64 0, .pointer none, .int .i64 0, .pointer none, .int .i64 0, .pointer none, .int .i64 0, .pointer none, .int .i64 0] := SOK.mk Try.runUnderlying145 Try.sizeOf149 Try.zeroValue149 (by decide) (by kernel_rfl)
def f_prefix_PrefixFields (p0 : Nat) (p1 : Nat) : Option (Unit) := some ()
set_option maxRecDepth 100000 in
set_option maxHeartbeats 4000000 in
theorem f_prefix_PrefixFields_spec (p0 : Nat) (p1 : Nat) (r : Unit) (h : f_prefix_PrefixFields p0 p1 = some r) : SpecX Try.prog 83 #[.pointer (some ⟨p0, 0, none⟩), .pointer (some ⟨p1, 0, none⟩)] .triv (EmpR) (fun v A' N => ∃ q : Nat, v = .slice (some ⟨q, 0, none⟩) 13 13 ∧ A' = EmpR ∧ N = [BlkR q 149 #[.pointer (some ⟨p0, 0, none⟩), .int .i64 8, .pointer (some ⟨p0, 1, none⟩), .int .i64 4, .pointer (some ⟨p0, 2, none⟩), .int .i64 4, .pointer (some ⟨p1, 0, none⟩), .int .i64 1, .pointer (some ⟨p0, 3, none⟩), .int .i64 4, .pointer (some ⟨p0, 4, none⟩), .int .i64 2, .pointer (some ⟨p0, 5, none⟩), .int .i64 4, .pointer (some ⟨p0, 6, none⟩), .int .i64 8, .pointer (some ⟨p0, 7, none⟩), .int .i64 8, .pointer (some ⟨p0, 8, none⟩), .int .i64 8, .pointer (some ⟨p0, 9, none⟩), .int .i64 2, .pointer (some ⟨p0, 10, none⟩), .int .i64 4, .pointer (some ⟨p0, 11, none⟩), .int .i64 4]]) := by
  refine enterA Try.func83 rfl Try.ntmps83 rfl ?_
  intro F w hX
  unfold f_prefix_PrefixFields at h
  refine T.seq (T.region rfl ?_)
  refine TL.run ft_prefix_ok [0] rfl rfl ?_
  refine TL.nil (X.seq (T.seq (T.draw (.q 0 (.q 1 (.q 2 (.q 3 (.q 4 (.q 5 (.q 6 (.q 7 (.q 8 (.q 9 (.q 10 (.q 11 (.q 12 (.q 13 (.q 14 (.q 15 (.q 16 (.q 17 (.q 18 (.q 19 (.q 20 (.q 21 (.q 22 (.q 23 (.q 24 (.q 25 (.q 26 (.q 27 (.q 28 (.q 29 (.q 30 (.q 31 (.q 32 (.q 33 (.q 34 (.q 35 (.q 36 (.q 37 (.q 38 (.q 39 (.q 40 (.q 41 (.q 42 (.q 43 (.q 44 (.q 45 (.q 46 (.q 47 (.q 48 (.q 49 (.e 50 (.q 51 .nil)))))))))))))))))))))))))))))))))))))))))))))))))))) [0] rfl mix_prefix (NoP.seq np_post) (by kernel_rfl) ?_)))
  refine TD.run ft_prefix_ok [0, 1, 2] rfl rfl ?_
  refine TD.q rfl .u (Ex.bld (cells := #[.pointer (some ⟨p0, 0, none⟩), .int .i64 8]) bok_prefix_149 rfl (by kernel_rfl)) rfl ?_
  refine TD.run ft_prefix_ok [4, 5, 6] rfl rfl ?_
  refine TD.q rfl .u (Ex.bld (cells := #[.pointer (some ⟨p0, 1, none⟩), .int .i64 4]) bok_prefix_149 rfl (by kernel_rfl)) rfl ?_
  refine TD.run ft_prefix_ok [8, 9, 10] rfl rfl ?_
  refine TD.q rfl .u (Ex.bld (cells := #[.pointer (some ⟨p0, 2, none⟩), .int .i64 4]) bok_prefix_149 rfl (by kernel_rfl)) rfl ?_
  refine TD.run ft_prefix_ok [12] rfl rfl ?_
  refine TD.q rfl .u (Ex.bld (cells := #[.pointer (some ⟨p1, 0, none⟩), .int .i64 1]) bok_prefix_149 rfl (by kernel_rfl)) rfl ?_
  refine TD.run ft_prefix_ok [14, 15, 16] rfl rfl ?_
  refine TD.q rfl .u (Ex.bld (cells := #[.pointer (some ⟨p0, 3, none⟩), .int .i64 4]) bok_prefix_149 rfl (by kernel_rfl)) rfl ?_
  refine TD.run ft_prefix_ok [18, 19, 20] rfl rfl ?_
  refine TD.q rfl .u (Ex.bld (cells := #[.pointer (some ⟨p0, 4, none⟩), .int .i64 2]) bok_prefix_149 rfl (by kernel_rfl)) rfl ?_
  refine TD.run ft_prefix_ok [22, 23, 24] rfl rfl ?_
  refine TD.q rfl .u (Ex.bld (cells := #[.pointer (some ⟨p0, 5, none⟩), .int .i64 4]) bok_prefix_149 rfl (by kernel_rfl)) rfl ?_
  refine TD.run ft_prefix_ok [26, 27, 28] rfl rfl ?_
  refine TD.q rfl .u (Ex.bld (cells := #[.pointer (some ⟨p0, 6, none⟩), .int .i64 8]) bok_prefix_149 rfl (by kernel_rfl)) rfl ?_
  refine TD.run ft_prefix_ok [30, 31, 32] rfl rfl ?_
  refine TD.q rfl .u (Ex.bld (cells := #[.pointer (some ⟨p0, 7, none⟩), .int .i64 8]) bok_prefix_149 rfl (by kernel_rfl)) rfl ?_
  refine TD.run ft_prefix_ok [34, 35, 36] rfl rfl ?_
  refine TD.q rfl .u (Ex.bld (cells := #[.pointer (some ⟨p0, 8, none⟩), .int .i64 8]) bok_prefix_149 rfl (by kernel_rfl)) rfl ?_
  refine TD.run ft_prefix_ok [38, 39, 40] rfl rfl ?_
  refine TD.q rfl .u (Ex.bld (cells := #[.pointer (some ⟨p0, 9, none⟩), .int .i64 2]) bok_prefix_149 rfl (by kernel_rfl)) rfl ?_
  refine TD.run ft_prefix_ok [42, 43, 44] rfl rfl ?_
  refine TD.q rfl .u (Ex.bld (cells := #[.pointer (some ⟨p0, 10, none⟩), .int .i64 4]) bok_prefix_149 rfl (by kernel_rfl)) rfl ?_
  refine TD.run ft_prefix_ok [46, 47, 48] rfl rfl ?_
  refine TD.q rfl .u (Ex.bld (cells := #[.pointer (some ⟨p0, 11, none⟩), .int .i64 4]) bok_prefix_149 rfl (by kernel_rfl)) rfl ?_
  refine TD.lit (cells := #[.pointer (some ⟨p0, 0, none⟩), .int .i64 8, .pointer (some ⟨p0, 1, none⟩), .int .i64 4, .pointer (some ⟨p0, 2, none⟩), .int .i64 4, .pointer (some ⟨p1, 0, none⟩), .int .i64 1, .pointer (some ⟨p0, 3, none⟩), .int .i64 4, .pointer (some ⟨p0, 4, none⟩), .int .i64 2, .pointer (some ⟨p0, 5, none⟩), .int .i64 4, .pointer (some ⟨p0, 6, none⟩), .int .i64 8, .pointer (some ⟨p0, 7, none⟩), .int .i64 8, .pointer (some ⟨p0, 8, none⟩), .int .i64 8, .pointer (some ⟨p0, 9, none⟩), .int .i64 2, .pointer (some ⟨p0, 10, none⟩), .int .i64 4, .pointer (some ⟨p0, 11, none⟩), .int .i64 4]) rfl .u sok_prefix_145_13 rfl (by kernel_rfl) rfl [1] (fun _ => rfl) (fun b1 => ?_)
  refine TD.run ft_prefix_ok [51] rfl rfl ?_
  obtain rfl := Option.some.inj h
  exact TD.nil (X.seq (T.ret (X.done1 [1, 0] Try.results83 (RV.tm rfl) ⟨_, rfl, rfl, rfl⟩ (by rfl) (.inl rfl))))
def f_prefix_Write (st : List UInt8 × Int) (a1 : Pfx) : Option (List UInt8 × Int) := (if a1.fSum < 0 then some true else (if a1.fSum > 4294967295 then some true else some false)).bind fun y4 => (if y4 = true then ((gOFail st 11).bind fun st14 => some st14) else some st).bind fun st11 => if -9223372036854775808 ≤ (IntKind.i32.wrap (IntKind.u32.wrap a1.fSum)) ∧ (IntKind.i32.wrap (IntKind.u32.wrap a1.fSum)) ≤ 9223372036854775807 then ((gOInt st11 a1.fBase 8).bind fun st19 => (gOInt st19 a1.fLength 4).bind fun st22 => (gOInt st22 a1.fLeader 4).bind fun st25 => (gOInt st25 2 1).bind fun st28 => (gOInt st28 (IntKind.i32.wrap (IntKind.u32.wrap a1.fSum)) 4).bind fun st31 => (gOInt st31 a1.fAttr 2).bind fun st34 => (gOInt st34 a1.fLast 4).bind fun st37 => (gOInt st37 a1.fFirst 8).bind fun st40 => (gOInt st40 a1.fMax 8).bind fun st43 => (gOInt st43 a1.fProducer 8).bind fun st46 => (gOInt st46 a1.fEpoch 2).bind fun st49 => (gOInt st49 a1.fSequence 4).bind fun st52 => (gOInt st52 a1.fCount 4).bind fun st55 => some st55) else none
set_option maxRecDepth 100000 in
set_option maxHeartbeats 4000000 in
theorem f_prefix_Write_spec (g : Nat) (st : List UInt8 × Int) (a1 : Pfx) (r : List UInt8 × Int) (h : f_prefix_Write st a1 = some r) : SpecX Try.prog 41 #[.pointer (some ⟨g, 0, none⟩), .agg #[.int .i64 a1.fBase, .int .i64 a1.fLength, .int .i64 a1.fLeader, .int .i64 a1.fSum, .int .i64 a1.fAttr, .int .i64 a1.fLast, .int .i64 a1.fFirst, .int .i64 a1.fMax, .int .i64 a1.fProducer, .int .i64 a1.fEpoch, .int .i64 a1.fSequence, .int .i64 a1.fCount]] .triv (OutR g st) (fun v A' N => v = .tuple #[] ∧ A' = OutR g r ∧ N = []) := by
  refine enterA Try.func41 rfl Try.ntmps41 rfl ?_
  intro F w hX
  unfold f_prefix_Write at h
  refine T.seq (T.region rfl ?_)
  refine TL.box rfl .u rfl rfl (fun b1 => ?_)
  refine TL.nil (X.seq (T.seq (T.region rfl ?_)))
  refine TL.alloc rfl .u Try.zeroValue3 rfl (fun b2 => ?_)
  refine TL.st0 (cs' := #[.int .i64 2]) rfl .u rfl rfl Try.sizeOf3 rfl rfl rfl rfl ?_
  refine TL.nil (X.seq (T.seq (T.seq ?_)))
  obtain ⟨y4, h, hk5⟩ := Option.bind_eq_some_iff.1 h
  refine T.jq (fun e Rs => e = [(0, .pointer (some ⟨g, 0, none⟩)), (3, .pointer (some ⟨b1, 0, none⟩)), (4, .pointer (some ⟨b2, 0, none⟩)), (14, .bool y4)] ∧ Rs = [BlkR b2 3 #[.int .i64 2], BlkR b1 92 #[.int .i64 a1.fBase, .int .i64 a1.fLength, .int .i64 a1.fLeader, .int .i64 a1.fSum, .int .i64 a1.fAttr, .int .i64 a1.fLast, .int .i64 a1.fFirst, .int .i64 a1.fMax, .int .i64 a1.fProducer, .int .i64 a1.fEpoch, .int .i64 a1.fSequence, .int .i64 a1.fCount], OutR g st]) ?_ ?_
  · clear hk5
    refine T.region rfl ?_
    refine TL.run ft_prefix_ok [0] rfl rfl ?_
    refine TL.q rfl .u (Ex.b1 1 rfl Try.isAgg3 rfl rfl) rfl ?_
    by_cases c6 : a1.fSum < 0
    · replace h := ifT c6 h
      refine TL.run ft_prefix_ok [2, 3] rfl rfl ?_
      refine TL.no rfl (.gn rfl rfl (decide_eq_true c6)) rfl ?_
      refine TL.no rfl (.gn rfl rfl (decide_eq_true c6)) rfl ?_
      refine TL.no rfl (.gn rfl rfl (decide_eq_true c6)) rfl ?_
      refine TL.q rfl .u (Ex.py rfl (decide_eq_true c6) rfl) rfl ?_
      cases h
      exact TL.nil (X.jq [0, 0, 0] ⟨rfl, rfl⟩ (by rfl) (by rfl))
    · replace h := ifF c6 h
      refine TL.run ft_prefix_ok [2, 3] rfl rfl ?_
      refine TL.q rfl (.g rfl rfl (decide_eq_false c6)) (Ex.ft ft_prefix_ok rfl) rfl ?_
      refine TL.q rfl (.g rfl rfl (decide_eq_false c6)) (Ex.b1 1 rfl Try.isAgg3 rfl rfl) rfl ?_
      refine TL.q rfl (.g rfl rfl (decide_eq_false c6)) (Ex.ft ft_prefix_ok rfl) rfl ?_
      refine TL.q rfl .u (Ex.pn rfl (decide_eq_false c6) rfl) rfl ?_
      by_cases c7 : a1.fSum > 4294967295
      · replace h := ifT c7 h
        cases h
        exact TL.nil (X.as (d := 14) (v' := .bool true) rfl (congrArg Value.bool (decide_eq_true c7)) (X.jq [0, 0, 0] ⟨rfl, rfl⟩ (by rfl) (by rfl)))
      · replace h := ifF c7 h
        cases h
        exact TL.nil (X.as (d := 14) (v' := .bool false) rfl (congrArg Value.bool (decide_eq_false c7)) (X.jq [0, 0, 0] ⟨rfl, rfl⟩ (by rfl) (by rfl)))
  · rintro _ _ ⟨rfl, rfl⟩
    clear h
    have h := hk5
    clear hk5
    try dsimp only at h
    refine X.seq ?_
    obtain ⟨st11, h, hk12⟩ := Option.bind_eq_some_iff.1 h
    refine T.jq (fun e Rs => e = [(0, .pointer (some ⟨g, 0, none⟩)), (3, .pointer (some ⟨b1, 0, none⟩)), (4, .pointer (some ⟨b2, 0, none⟩))] ∧ Rs = [BlkR b2 3 #[.int .i64 2], BlkR b1 92 #[.int .i64 a1.fBase, .int .i64 a1.fLength, .int .i64 a1.fLeader, .int .i64 a1.fSum, .int .i64 a1.fAttr, .int .i64 a1.fLast, .int .i64 a1.fFirst, .int .i64 a1.fMax, .int .i64 a1.fProducer, .int .i64 a1.fEpoch, .int .i64 a1.fSequence, .int .i64 a1.fCount], OutR g st11]) ?_ ?_
    · clear hk12
      by_cases c13 : y4 = true
      · replace h := ifT c13 h
        refine T.yes rfl c13 ?_
        refine T.region rfl ?_
        obtain ⟨st14, hx15, h⟩ := Option.bind_eq_some_iff.1 h
        refine TL.run ft_prefix_ok [0] rfl rfl ?_
        refine TL.c2 rfl .u (.fn Try.call80 rfl) (gOFail_spec g st 11 _ hx15) (fun _ hs => (Src.triv _)) rfl ?_
        cases h
        exact TL.nil (X.jq [0, 0, 0] ⟨rfl, rfl⟩ (by rfl) (by rfl))
      · replace h := ifF c13 h
        replace c13 := eq_false_of_ne_true c13
        refine T.no rfl c13 ?_
        cases h
        exact T.skip (X.jq [0, 0, 0] ⟨rfl, rfl⟩ (by rfl) (by rfl))
    · rintro _ _ ⟨rfl, rfl⟩
      clear h
      have h := hk12
      clear hk12
      try dsimp only at h
      refine X.seq (T.seq (T.region rfl ?_))
      refine TL.run ft_prefix_ok [0] rfl rfl ?_
      refine TL.q rfl .u (Ex.b1 1 rfl Try.isAgg3 rfl rfl) rfl ?_
      refine TL.q rfl .u (Ex.conv rfl Try.runUnderlying3 Try.runUnderlying36) rfl ?_
      refine TL.q rfl .u (Ex.conv rfl Try.runUnderlying36 Try.runUnderlying21) rfl ?_
      replace h := guard_some h
      obtain ⟨c16, h⟩ := h
      refine TL.q rfl .u (Ex.conv64 rfl Try.runUnderlying21 Try.runUnderlying3 c16) rfl ?_
      refine TL.run ft_prefix_ok [5] rfl rfl ?_
      refine TL.st1 (cs' := #[.int .i64 a1.fBase, .int .i64 a1.fLength, .int .i64 a1.fLeader, .int .i64 (IntKind.i32.wrap (IntKind.u32.wrap a1.fSum)), .int .i64 a1.fAttr, .int .i64 a1.fLast, .int .i64 a1.fFirst, .int .i64 a1.fMax, .int .i64 a1.fProducer, .int .i64 a1.fEpoch, .int .i64 a1.fSequence, .int .i64 a1.fCount]) rfl .u rfl rfl Try.sizeOf3 rfl rfl rfl rfl ?_
      refine TL.nil (X.seq (T.seq (T.region rfl ?_)))
      refine TL.cge rfl .u (.fn Try.call83 rfl) (f_prefix_PrefixFields_spec b1 b2 () rfl) (fun _ hs => RX.reads_triv _ _) rfl ?_
      rintro _ _ _ ⟨b17, rfl, rfl, rfl⟩
      refine TL.sel [0, 0, 0, 0] rfl ?_
      refine TL.q rfl .u (Ex.lenS rfl Try.runUnderlying145) rfl ?_
      refine TL.run ft_prefix_ok [2] rfl rfl ?_
      refine TL.nil (X.seq (T.block ?_))
      refine T.unroll0 (TW.step (T.seq (T.region rfl ?_)))
      refine TL.run ft_prefix_ok [0] rfl rfl ?_
      refine TL.nil (X.seq (T.seq ?_))
      refine T.yes rfl (decide_eq_true (show 0 < 13 by omega)) ?_
      refine T.skip (X.seq (T.seq (T.block (T.seq (T.region rfl ?_)))))
      refine TL.q rfl .u (Ex.ixL (k := 0) (r := 0) rfl rfl rfl Try.runUnderlying145 Try.sizeOf149 (by decide) rfl) rfl ?_
      refine TL.q rfl .u (Ex.bS (us := [.pointer (some ⟨b1, 0, none⟩), .int .i64 8]) 0 rfl Try.isAgg149 Try.sizeOf149 rfl rfl rfl) rfl ?_
      refine TL.alloc rfl .u Try.zeroValue149 rfl (fun b18 => ?_)
      refine TL.st0 (cs' := #[.pointer (some ⟨b1, 0, none⟩), .int .i64 8]) rfl .u rfl rfl Try.sizeOf149 rfl rfl rfl rfl ?_
      refine TL.nil (X.seq (T.draw (.q 0 (.q 1 (.q 2 (.q 3 (.q 4 (.q 5 (.q 6 (.e 7 .nil)))))))) [0, 0, 0, 0] rfl mix_prefix (NoP.blk (NoP.seq (NoP.seq (NoP.blk np_post)))) (by kernel_rfl) ?_))
      refine TD.run ft_prefix_ok [0, 1] rfl rfl ?_
      refine TD.q rfl .u (Ex.b1 0 rfl Try.isAgg147 rfl rfl) rfl ?_
      refine TD.run ft_prefix_ok [3] rfl rfl ?_
      refine TD.q rfl .u (Ex.b1 3 rfl Try.isAgg3 rfl rfl) rfl ?_
      refine TD.run ft_prefix_ok [5] rfl rfl ?_
      refine TD.q rfl .u (Ex.b1 0 rfl Try.isAgg3 rfl rfl) rfl ?_
      obtain ⟨st19, hx20, h⟩ := Option.bind_eq_some_iff.1 h
      refine TD.c4 rfl .u (.fn Try.call84 rfl) (gOInt_spec g st11 a1.fBase 8 _ hx20) (fun _ hs => (Src.triv _)) rfl [0, 0, 0, 0] (rfl) ?_
      refine TD.nil (X.blk (X.seq (T.region rfl ?_)))
      refine TL.q rfl .u (Ex.add rfl rfl (by omega)) rfl ?_
      refine TL.run ft_prefix_ok [1] rfl rfl ?_
      refine TL.nil (X.un (TW.step (T.seq (T.region rfl ?_))))
      refine TL.run ft_prefix_ok [0] rfl rfl ?_
      refine TL.nil (X.seq (T.seq ?_))
      refine T.yes rfl (decide_eq_true (show 1 < 13 by omega)) ?_
      refine T.skip (X.seq (T.seq (T.block (T.seq (T.region rfl ?_)))))
      refine TL.q rfl .u (Ex.ixL (k := 1) (r := 2) rfl rfl rfl Try.runUnderlying145 Try.sizeOf149 (by decide) rfl) rfl ?_
      refine TL.q rfl .u (Ex.bS (us := [.pointer (some ⟨b1, 1, none⟩), .int .i64 4]) 1 rfl Try.isAgg149 Try.sizeOf149 rfl rfl rfl) rfl ?_
      refine TL.alloc rfl .u Try.zeroValue149 rfl (fun b21 => ?_)
      refine TL.st0 (cs' := #[.pointer (some ⟨b1, 1, none⟩), .int .i64 4]) rfl .u rfl rfl Try.sizeOf149 rfl rfl rfl rfl ?_
      refine TL.nil (X.seq (T.draw (.q 0 (.q 1 (.q 2 (.q 3 (.q 4 (.q 5 (.q 6 (.e 7 .nil)))))))) [0, 0, 0, 0, 0] rfl mix_prefix (NoP.blk (NoP.seq (NoP.seq (NoP.blk np_post)))) (by kernel_rfl) ?_))
      refine TD.run ft_prefix_ok [0, 1] rfl rfl ?_
      refine TD.q rfl .u (Ex.b1 0 rfl Try.isAgg147 rfl rfl) rfl ?_
      refine TD.run ft_prefix_ok [3] rfl rfl ?_
      refine TD.q rfl .u (Ex.b1 4 rfl Try.isAgg3 rfl rfl) rfl ?_
      refine TD.run ft_prefix_ok [5] rfl rfl ?_
      refine TD.q rfl .u (Ex.b1 0 rfl Try.isAgg3 rfl rfl) rfl ?_
      obtain ⟨st22, hx23, h⟩ := Option.bind_eq_some_iff.1 h
      refine TD.c5 rfl .u (.fn Try.call84 rfl) (gOInt_spec g st19 a1.fLength 4 _ hx23) (fun _ hs => (Src.triv _)) rfl [0, 0, 0, 0, 0] (rfl) ?_
      refine TD.nil (X.blk (X.seq (T.region rfl ?_)))
      refine TL.q rfl .u (Ex.add rfl rfl (by omega)) rfl ?_
      refine TL.run ft_prefix_ok [1] rfl rfl ?_
      refine TL.nil ?_
      refine X.sel [0, 1, 1, 1, 1] rfl ?_
      refine X.un (TW.step (T.seq (T.region rfl ?_)))
      refine TL.run ft_prefix_ok [0] rfl rfl ?_
      refine TL.nil (X.seq (T.seq ?_))
      refine T.yes rfl (decide_eq_true (show 2 < 13 by omega)) ?_
      refine T.skip (X.seq (T.seq (T.block (T.seq (T.region rfl ?_)))))
      refine TL.q rfl .u (Ex.ixL (k := 2) (r := 4) rfl rfl rfl Try.runUnderlying145 Try.sizeOf149 (by decide) rfl) rfl ?_
      refine TL.q rfl .u (Ex.bS (us := [.pointer (some ⟨b1, 2, none⟩), .int .i64 4]) 1 rfl Try.isAgg149 Try.sizeOf149 rfl rfl rfl) rfl ?_
      refine TL.alloc rfl .u Try.zeroValue149 rfl (fun b24 => ?_)
      refine TL.st0 (cs' := #[.pointer (some ⟨b1, 2, none⟩), .int .i64 4]) rfl .u rfl rfl Try.sizeOf149 rfl rfl rfl rfl ?_
      refine TL.nil (X.seq (T.draw (.q 0 (.q 1 (.q 2 (.q 3 (.q 4 (.q 5 (.q 6 (.e 7 .nil)))))))) [0, 0, 0, 0, 0] rfl mix_prefix (NoP.blk (NoP.seq (NoP.seq (NoP.blk np_post)))) (by kernel_rfl) ?_))
      refine TD.run ft_prefix_ok [0, 1] rfl rfl ?_
      refine TD.q rfl .u (Ex.b1 0 rfl Try.isAgg147 rfl rfl) rfl ?_
      refine TD.run ft_prefix_ok [3] rfl rfl ?_
      refine TD.q rfl .u (Ex.b1 4 rfl Try.isAgg3 rfl rfl) rfl ?_
      refine TD.run ft_prefix_ok [5] rfl rfl ?_
      refine TD.q rfl .u (Ex.b1 0 rfl Try.isAgg3 rfl rfl) rfl ?_
      obtain ⟨st25, hx26, h⟩ := Option.bind_eq_some_iff.1 h
      refine TD.c5 rfl .u (.fn Try.call84 rfl) (gOInt_spec g st22 a1.fLeader 4 _ hx26) (fun _ hs => (Src.triv _)) rfl [0, 0, 0, 0, 0] (rfl) ?_
      refine TD.nil (X.blk (X.seq (T.region rfl ?_)))
      refine TL.q rfl .u (Ex.add rfl rfl (by omega)) rfl ?_
      refine TL.run ft_prefix_ok [1] rfl rfl ?_
      refine TL.nil ?_
      refine X.sel [0, 1, 1, 1, 1] rfl ?_
      refine X.un (TW.step (T.seq (T.region rfl ?_)))
      refine TL.run ft_prefix_ok [0] rfl rfl ?_
      refine TL.nil (X.seq (T.seq ?_))
      refine T.yes rfl (decide_eq_true (show 3 < 13 by omega)) ?_
      refine T.skip (X.seq (T.seq (T.block (T.seq (T.region rfl ?_)))))
      refine TL.q rfl .u (Ex.ixL (k := 3) (r := 6) rfl rfl rfl Try.runUnderlying145 Try.sizeOf149 (by decide) rfl) rfl ?_
      refine TL.q rfl .u (Ex.bS (us := [.pointer (some ⟨b2, 0, none⟩), .int .i64 1]) 1 rfl Try.isAgg149 Try.sizeOf149 rfl rfl rfl) rfl ?_
      refine TL.alloc rfl .u Try.zeroValue149 rfl (fun b27 => ?_)
      refine TL.st0 (cs' := #[.pointer (some ⟨b2, 0, none⟩), .int .i64 1]) rfl .u rfl rfl Try.sizeOf149 rfl rfl rfl rfl ?_
      refine TL.nil (X.seq (T.draw (.q 0 (.q 1 (.q 2 (.q 3 (.q 4 (.q 5 (.q 6 (.e 7 .nil)))))))) [0, 0, 0, 0, 0] rfl mix_prefix (NoP.blk (NoP.seq (NoP.seq (NoP.blk np_post)))) (by kernel_rfl) ?_))
      refine TD.run ft_prefix_ok [0, 1] rfl rfl ?_
      refine TD.q rfl .u (Ex.b1 0 rfl Try.isAgg147 rfl rfl) rfl ?_
      refine TD.run ft_prefix_ok [3] rfl rfl ?_
      refine TD.q rfl .u (Ex.b1 3 rfl Try.isAgg3 rfl rfl) rfl ?_
      refine TD.run ft_prefix_ok [5] rfl rfl ?_
      refine TD.q rfl .u (Ex.b1 0 rfl Try.isAgg3 rfl rfl) rfl ?_
      obtain ⟨st28, hx29, h⟩ := Option.bind_eq_some_iff.1 h
      refine TD.c5 rfl .u (.fn Try.call84 rfl) (gOInt_spec g st25 2 1 _ hx29) (fun _ hs => (Src.triv _)) rfl [0, 0, 0, 0, 0] (rfl) ?_
      refine TD.nil (X.blk (X.seq (T.region rfl ?_)))
      refine TL.q rfl .u (Ex.add rfl rfl (by omega)) rfl ?_
      refine TL.run ft_prefix_ok [1] rfl rfl ?_
      refine TL.nil ?_
      refine X.sel [0, 1, 1, 1, 1] rfl ?_
      refine X.un (TW.step (T.seq (T.region rfl ?_)))
      refine TL.run ft_prefix_ok [0] rfl rfl ?_
      refine TL.nil (X.seq (T.seq ?_))
      refine T.yes rfl (decide_eq_true (show 4 < 13 by omega)) ?_
      refine T.skip (X.seq (T.seq (T.block (T.seq (T.region rfl ?_)))))
      refine TL.q rfl .u (Ex.ixL (k := 4) (r := 8) rfl rfl rfl Try.runUnderlying145 Try.sizeOf149 (by decide) rfl) rfl ?_
      refine TL.q rfl .u (Ex.bS (us := [.pointer (some ⟨b1, 3, none⟩), .int .i64 4]) 1 rfl Try.isAgg149 Try.sizeOf149 rfl rfl rfl) rfl ?_
      refine TL.alloc rfl .u Try.zeroValue149 rfl (fun b30 => ?_)
      refine TL.st0 (cs' := #[.pointer (some ⟨b1, 3, none⟩), .int .i64 4]) rfl .u rfl rfl Try.sizeOf149 rfl rfl rfl rfl ?_
      refine TL.nil (X.seq (T.draw (.q 0 (.q 1 (.q 2 (.q 3 (.q 4 (.q 5 (.q 6 (.e 7 .nil)))))))) [0, 0, 0, 0, 0] rfl mix_prefix (NoP.blk (NoP.seq (NoP.seq (NoP.blk np_post)))) (by kernel_rfl) ?_))
      refine TD.run ft_prefix_ok [0, 1] rfl rfl ?_
      refine TD.q rfl .u (Ex.b1 0 rfl Try.isAgg147 rfl rfl) rfl ?_
      refine TD.run ft_prefix_ok [3] rfl rfl ?_
      refine TD.q rfl .u (Ex.b1 4 rfl Try.isAgg3 rfl rfl) rfl ?_
      refine TD.run ft_prefix_ok [5] rfl rfl ?_
      refine TD.q rfl .u (Ex.b1 0 rfl Try.isAgg3 rfl rfl) rfl ?_
      obtain ⟨st31, hx32, h⟩ := Option.bind_eq_some_iff.1 h
      refine TD.c5 rfl .u (.fn Try.call84 rfl) (gOInt_spec g st28 (IntKind.i32.wrap (IntKind.u32.wrap a1.fSum)) 4 _ hx32) (fun _ hs => (Src.triv _)) rfl [0, 0, 0, 0, 0] (rfl) ?_
      refine TD.nil (X.blk (X.seq (T.region rfl ?_)))
      refine TL.q rfl .u (Ex.add rfl rfl (by omega)) rfl ?_
      refine TL.run ft_prefix_ok [1] rfl rfl ?_
      refine TL.nil ?_
      refine X.sel [0, 1, 1, 1, 1] rfl ?_
      refine X.un (TW.step (T.seq (T.region rfl ?_)))
      refine TL.run ft_prefix_ok [0] rfl rfl ?_
      refine TL.nil (X.seq (T.seq ?_))
      refine T.yes rfl (decide_eq_true (show 5 < 13 by omega)) ?_
      refine T.skip (X.seq (T.seq (T.block (T.seq (T.region rfl ?_)))))
      refine TL.q rfl .u (Ex.ixL (k := 5) (r := 10) rfl rfl rfl Try.runUnderlying145 Try.sizeOf149 (by decide) rfl) rfl ?_
      refine TL.q rfl .u (Ex.bS (us := [.pointer (some ⟨b1, 4, none⟩), .int .i64 2]) 1 rfl Try.isAgg149 Try.sizeOf149 rfl rfl rfl) rfl ?_
      refine TL.alloc rfl .u Try.zeroValue149 rfl (fun b33 => ?_)
      refine TL.st0 (cs' := #[.pointer (some ⟨b1, 4, none⟩), .int .i64 2]) rfl .u rfl rfl Try.sizeOf149 rfl rfl rfl rfl ?_
      refine TL.nil (X.seq (T.draw (.q 0 (.q 1 (.q 2 (.q 3 (.q 4 (.q 5 (.q 6 (.e 7 .nil)))))))) [0, 0, 0, 0, 0] rfl mix_prefix (NoP.blk (NoP.seq (NoP.seq (NoP.blk np_post)))) (by kernel_rfl) ?_))
      refine TD.run ft_prefix_ok [0, 1] rfl rfl ?_
      refine TD.q rfl .u (Ex.b1 0 rfl Try.isAgg147 rfl rfl) rfl ?_
      refine TD.run ft_prefix_ok [3] rfl rfl ?_
      refine TD.q rfl .u (Ex.b1 4 rfl Try.isAgg3 rfl rfl) rfl ?_
      refine TD.run ft_prefix_ok [5] rfl rfl ?_
      refine TD.q rfl .u (Ex.b1 0 rfl Try.isAgg3 rfl rfl) rfl ?_
      obtain ⟨st34, hx35, h⟩ := Option.bind_eq_some_iff.1 h
      refine TD.c5 rfl .u (.fn Try.call84 rfl) (gOInt_spec g st31 a1.fAttr 2 _ hx35) (fun _ hs => (Src.triv _)) rfl [0, 0, 0, 0, 0] (rfl) ?_
      refine TD.nil (X.blk (X.seq (T.region rfl ?_)))
      refine TL.q rfl .u (Ex.add rfl rfl (by omega)) rfl ?_
      refine TL.run ft_prefix_ok [1] rfl rfl ?_
      refine TL.nil ?_
      refine X.sel [0, 1, 1, 1, 1] rfl ?_
      refine X.un (TW.step (T.seq (T.region rfl ?_)))
      refine TL.run ft_prefix_ok [0] rfl rfl ?_
      refine TL.nil (X.seq (T.seq ?_))
      refine T.yes rfl (decide_eq_true (show 6 < 13 by omega)) ?_
      refine T.skip (X.seq (T.seq (T.block (T.seq (T.region rfl ?_)))))
      refine TL.q rfl .u (Ex.ixL (k := 6) (r := 12) rfl rfl rfl Try.runUnderlying145 Try.sizeOf149 (by decide) rfl) rfl ?_
      refine TL.q rfl .u (Ex.bS (us := [.pointer (some ⟨b1, 5, none⟩), .int .i64 4]) 1 rfl Try.isAgg149 Try.sizeOf149 rfl rfl rfl) rfl ?_
      refine TL.alloc rfl .u Try.zeroValue149 rfl (fun b36 => ?_)
      refine TL.st0 (cs' := #[.pointer (some ⟨b1, 5, none⟩), .int .i64 4]) rfl .u rfl rfl Try.sizeOf149 rfl rfl rfl rfl ?_
      refine TL.nil (X.seq (T.draw (.q 0 (.q 1 (.q 2 (.q 3 (.q 4 (.q 5 (.q 6 (.e 7 .nil)))))))) [0, 0, 0, 0, 0] rfl mix_prefix (NoP.blk (NoP.seq (NoP.seq (NoP.blk np_post)))) (by kernel_rfl) ?_))
      refine TD.run ft_prefix_ok [0, 1] rfl rfl ?_
      refine TD.q rfl .u (Ex.b1 0 rfl Try.isAgg147 rfl rfl) rfl ?_
      refine TD.run ft_prefix_ok [3] rfl rfl ?_
      refine TD.q rfl .u (Ex.b1 4 rfl Try.isAgg3 rfl rfl) rfl ?_
      refine TD.run ft_prefix_ok [5] rfl rfl ?_
      refine TD.q rfl .u (Ex.b1 0 rfl Try.isAgg3 rfl rfl) rfl ?_
      obtain ⟨st37, hx38, h⟩ := Option.bind_eq_some_iff.1 h
      refine TD.c5 rfl .u (.fn Try.call84 rfl) (gOInt_spec g st34 a1.fLast 4 _ hx38) (fun _ hs => (Src.triv _)) rfl [0, 0, 0, 0, 0] (rfl) ?_
      refine TD.nil (X.blk (X.seq (T.region rfl ?_)))
      refine TL.q rfl .u (Ex.add rfl rfl (by omega)) rfl ?_
      refine TL.run ft_prefix_ok [1] rfl rfl ?_
      refine TL.nil ?_
      refine X.sel [0, 1, 1, 1, 1] rfl ?_
      refine X.un (TW.step (T.seq (T.region rfl ?_)))
      refine TL.run ft_prefix_ok [0] rfl rfl ?_
      refine TL.nil (X.seq (T.seq ?_))
      refine T.yes rfl (decide_eq_true (show 7 < 13 by omega)) ?_
      refine T.skip (X.seq (T.seq (T.block (T.seq (T.region rfl ?_)))))
      refine TL.q rfl .u (Ex.ixL (k := 7) (r := 14) rfl rfl rfl Try.runUnderlying145 Try.sizeOf149 (by decide) rfl) rfl ?_
      refine TL.q rfl .u (Ex.bS (us := [.pointer (some ⟨b1, 6, none⟩), .int .i64 8]) 1 rfl Try.isAgg149 Try.sizeOf149 rfl rfl rfl) rfl ?_
      refine TL.alloc rfl .u Try.zeroValue149 rfl (fun b39 => ?_)
      refine TL.st0 (cs' := #[.pointer (some ⟨b1, 6, none⟩), .int .i64 8]) rfl .u rfl rfl Try.sizeOf149 rfl rfl rfl rfl ?_
      refine TL.nil (X.seq (T.draw (.q 0 (.q 1 (.q 2 (.q 3 (.q 4 (.q 5 (.q 6 (.e 7 .nil)))))))) [0, 0, 0, 0, 0] rfl mix_prefix (NoP.blk (NoP.seq (NoP.seq (NoP.blk np_post)))) (by kernel_rfl) ?_))
      refine TD.run ft_prefix_ok [0, 1] rfl rfl ?_
      refine TD.q rfl .u (Ex.b1 0 rfl Try.isAgg147 rfl rfl) rfl ?_
      refine TD.run ft_prefix_ok [3] rfl rfl ?_
      refine TD.q rfl .u (Ex.b1 4 rfl Try.isAgg3 rfl rfl) rfl ?_
      refine TD.run ft_prefix_ok [5] rfl rfl ?_
      refine TD.q rfl .u (Ex.b1 0 rfl Try.isAgg3 rfl rfl) rfl ?_
      obtain ⟨st40, hx41, h⟩ := Option.bind_eq_some_iff.1 h
      refine TD.c5 rfl .u (.fn Try.call84 rfl) (gOInt_spec g st37 a1.fFirst 8 _ hx41) (fun _ hs => (Src.triv _)) rfl [0, 0, 0, 0, 0] (rfl) ?_
      refine TD.nil (X.blk (X.seq (T.region rfl ?_)))
      refine TL.q rfl .u (Ex.add rfl rfl (by omega)) rfl ?_
      refine TL.run ft_prefix_ok [1] rfl rfl ?_
      refine TL.nil ?_
      refine X.sel [0, 1, 1, 1, 1] rfl ?_
      refine X.un (TW.step (T.seq (T.region rfl ?_)))
      refine TL.run ft_prefix_ok [0] rfl rfl ?_
      refine TL.nil (X.seq (T.seq ?_))
      refine T.yes rfl (decide_eq_true (show 8 < 13 by omega)) ?_
      refine T.skip (X.seq (T.seq (T.block (T.seq (T.region rfl ?_)))))
      refine TL.q rfl .u (Ex.ixL (k := 8) (r := 16) rfl rfl rfl Try.runUnderlying145 Try.sizeOf149 (by decide) rfl) rfl ?_
      refine TL.q rfl .u (Ex.bS (us := [.pointer (some ⟨b1, 7, none⟩), .int .i64 8]) 1 rfl Try.isAgg149 Try.sizeOf149 rfl rfl rfl) rfl ?_
      refine TL.alloc rfl .u Try.zeroValue149 rfl (fun b42 => ?_)
      refine TL.st0 (cs' := #[.pointer (some ⟨b1, 7, none⟩), .int .i64 8]) rfl .u rfl rfl Try.sizeOf149 rfl rfl rfl rfl ?_
      refine TL.nil (X.seq (T.draw (.q 0 (.q 1 (.q 2 (.q 3 (.q 4 (.q 5 (.q 6 (.e 7 .nil)))))))) [0, 0, 0, 0, 0] rfl mix_prefix (NoP.blk (NoP.seq (NoP.seq (NoP.blk np_post)))) (by kernel_rfl) ?_))
      refine TD.run ft_prefix_ok [0, 1] rfl rfl ?_
      refine TD.q rfl .u (Ex.b1 0 rfl Try.isAgg147 rfl rfl) rfl ?_
      refine TD.run ft_prefix_ok [3] rfl rfl ?_
      refine TD.q rfl .u (Ex.b1 4 rfl Try.isAgg3 rfl rfl) rfl ?_
      refine TD.run ft_prefix_ok [5] rfl rfl ?_
      refine TD.q rfl .u (Ex.b1 0 rfl Try.isAgg3 rfl rfl) rfl ?_
      obtain ⟨st43, hx44, h⟩ := Option.bind_eq_some_iff.1 h
      refine TD.c5 rfl .u (.fn Try.call84 rfl) (gOInt_spec g st40 a1.fMax 8 _ hx44) (fun _ hs => (Src.triv _)) rfl [0, 0, 0, 0, 0] (rfl) ?_
      refine TD.nil (X.blk (X.seq (T.region rfl ?_)))
      refine TL.q rfl .u (Ex.add rfl rfl (by omega)) rfl ?_
      refine TL.run ft_prefix_ok [1] rfl rfl ?_
      refine TL.nil ?_
      refine X.sel [0, 1, 1, 1, 1] rfl ?_
      refine X.un (TW.step (T.seq (T.region rfl ?_)))
      refine TL.run ft_prefix_ok [0] rfl rfl ?_
      refine TL.nil (X.seq (T.seq ?_))
      refine T.yes rfl (decide_eq_true (show 9 < 13 by omega)) ?_
      refine T.skip (X.seq (T.seq (T.block (T.seq (T.region rfl ?_)))))
      refine TL.q rfl .u (Ex.ixL (k := 9) (r := 18) rfl rfl rfl Try.runUnderlying145 Try.sizeOf149 (by decide) rfl) rfl ?_
      refine TL.q rfl .u (Ex.bS (us := [.pointer (some ⟨b1, 8, none⟩), .int .i64 8]) 1 rfl Try.isAgg149 Try.sizeOf149 rfl rfl rfl) rfl ?_
      refine TL.alloc rfl .u Try.zeroValue149 rfl (fun b45 => ?_)
      refine TL.st0 (cs' := #[.pointer (some ⟨b1, 8, none⟩), .int .i64 8]) rfl .u rfl rfl Try.sizeOf149 rfl rfl rfl rfl ?_
      refine TL.nil (X.seq (T.draw (.q 0 (.q 1 (.q 2 (.q 3 (.q 4 (.q 5 (.q 6 (.e 7 .nil)))))))) [0, 0, 0, 0, 0] rfl mix_prefix (NoP.blk (NoP.seq (NoP.seq (NoP.blk np_post)))) (by kernel_rfl) ?_))
      refine TD.run ft_prefix_ok [0, 1] rfl rfl ?_
      refine TD.q rfl .u (Ex.b1 0 rfl Try.isAgg147 rfl rfl) rfl ?_
      refine TD.run ft_prefix_ok [3] rfl rfl ?_
      refine TD.q rfl .u (Ex.b1 4 rfl Try.isAgg3 rfl rfl) rfl ?_
      refine TD.run ft_prefix_ok [5] rfl rfl ?_
      refine TD.q rfl .u (Ex.b1 0 rfl Try.isAgg3 rfl rfl) rfl ?_
      obtain ⟨st46, hx47, h⟩ := Option.bind_eq_some_iff.1 h
      refine TD.c5 rfl .u (.fn Try.call84 rfl) (gOInt_spec g st43 a1.fProducer 8 _ hx47) (fun _ hs => (Src.triv _)) rfl [0, 0, 0, 0, 0] (rfl) ?_
      refine TD.nil (X.blk (X.seq (T.region rfl ?_)))
      refine TL.q rfl .u (Ex.add rfl rfl (by omega)) rfl ?_
      refine TL.run ft_prefix_ok [1] rfl rfl ?_
      refine TL.nil ?_
      refine X.sel [0, 1, 1, 1, 1] rfl ?_
      refine X.un (TW.step (T.seq (T.region rfl ?_)))
      refine TL.run ft_prefix_ok [0] rfl rfl ?_
      refine TL.nil (X.seq (T.seq ?_))
      refine T.yes rfl (decide_eq_true (show 10 < 13 by omega)) ?_
      refine T.skip (X.seq (T.seq (T.block (T.seq (T.region rfl ?_)))))
      refine TL.q rfl .u (Ex.ixL (k := 10) (r := 20) rfl rfl rfl Try.runUnderlying145 Try.sizeOf149 (by decide) rfl) rfl ?_
      refine TL.q rfl .u (Ex.bS (us := [.pointer (some ⟨b1, 9, none⟩), .int .i64 2]) 1 rfl Try.isAgg149 Try.sizeOf149 rfl rfl rfl) rfl ?_
      refine TL.alloc rfl .u Try.zeroValue149 rfl (fun b48 => ?_)
      refine TL.st0 (cs' := #[.pointer (some ⟨b1, 9, none⟩), .int .i64 2]) rfl .u rfl rfl Try.sizeOf149 rfl rfl rfl rfl ?_
      refine TL.nil (X.seq (T.draw (.q 0 (.q 1 (.q 2 (.q 3 (.q 4 (.q 5 (.q 6 (.e 7 .nil)))))))) [0, 0, 0, 0, 0] rfl mix_prefix (NoP.blk (NoP.seq (NoP.seq (NoP.blk np_post)))) (by kernel_rfl) ?_))
      refine TD.run ft_prefix_ok [0, 1] rfl rfl ?_
      refine TD.q rfl .u (Ex.b1 0 rfl Try.isAgg147 rfl rfl) rfl ?_
      refine TD.run ft_prefix_ok [3] rfl rfl ?_
      refine TD.q rfl .u (Ex.b1 4 rfl Try.isAgg3 rfl rfl) rfl ?_
      refine TD.run ft_prefix_ok [5] rfl rfl ?_
      refine TD.q rfl .u (Ex.b1 0 rfl Try.isAgg3 rfl rfl) rfl ?_
      obtain ⟨st49, hx50, h⟩ := Option.bind_eq_some_iff.1 h
      refine TD.c5 rfl .u (.fn Try.call84 rfl) (gOInt_spec g st46 a1.fEpoch 2 _ hx50) (fun _ hs => (Src.triv _)) rfl [0, 0, 0, 0, 0] (rfl) ?_
      refine TD.nil (X.blk (X.seq (T.region rfl ?_)))
      refine TL.q rfl .u (Ex.add rfl rfl (by omega)) rfl ?_
      refine TL.run ft_prefix_ok [1] rfl rfl ?_
      refine TL.nil ?_
      refine X.sel [0, 1, 1, 1, 1] rfl ?_
      refine X.un (TW.step (T.seq (T.region rfl ?_)))
      refine TL.run ft_prefix_ok [0] rfl rfl ?_
      refine TL.nil (X.seq (T.seq ?_))
      refine T.yes rfl (decide_eq_true (show 11 < 13 by omega)) ?_
      refine T.skip (X.seq (T.seq (T.block (T.seq (T.region rfl ?_)))))
      refine TL.q rfl .u (Ex.ixL (k := 11) (r := 22) rfl rfl rfl Try.runUnderlying145 Try.sizeOf149 (by decide) rfl) rfl ?_
      refine TL.q rfl .u (Ex.bS (us := [.pointer (some ⟨b1, 10, none⟩), .int .i64 4]) 1 rfl Try.isAgg149 Try.sizeOf149 rfl rfl rfl) rfl ?_
      refine TL.alloc rfl .u Try.zeroValue149 rfl (fun b51 => ?_)
      refine TL.st0 (cs' := #[.pointer (some ⟨b1, 10, none⟩), .int .i64 4]) rfl .u rfl rfl Try.sizeOf149 rfl rfl rfl rfl ?_
      refine TL.nil (X.seq (T.draw (.q 0 (.q 1 (.q 2 (.q 3 (.q 4 (.q 5 (.q 6 (.e 7 .nil)))))))) [0, 0, 0, 0, 0] rfl mix_prefix (NoP.blk (NoP.seq (NoP.seq (NoP.blk np_post)))) (by kernel_rfl) ?_))
      refine TD.run ft_prefix_ok [0, 1] rfl rfl ?_
      refine TD.q rfl .u (Ex.b1 0 rfl Try.isAgg147 rfl rfl) rfl ?_
      refine TD.run ft_prefix_ok [3] rfl rfl ?_
      refine TD.q rfl .u (Ex.b1 4 rfl Try.isAgg3 rfl rfl) rfl ?_
      refine TD.run ft_prefix_ok [5] rfl rfl ?_
      refine TD.q rfl .u (Ex.b1 0 rfl Try.isAgg3 rfl rfl) rfl ?_
      obtain ⟨st52, hx53, h⟩ := Option.bind_eq_some_iff.1 h
      refine TD.c5 rfl .u (.fn Try.call84 rfl) (gOInt_spec g st49 a1.fSequence 4 _ hx53) (fun _ hs => (Src.triv _)) rfl [0, 0, 0, 0, 0] (rfl) ?_
      refine TD.nil (X.blk (X.seq (T.region rfl ?_)))
      refine TL.q rfl .u (Ex.add rfl rfl (by omega)) rfl ?_
      refine TL.run ft_prefix_ok [1] rfl rfl ?_
      refine TL.nil ?_
      refine X.sel [0, 1, 1, 1, 1] rfl ?_
      refine X.un (TW.step (T.seq (T.region rfl ?_)))
      refine TL.run ft_prefix_ok [0] rfl rfl ?_
      refine TL.nil (X.seq (T.seq ?_))
      refine T.yes rfl (decide_eq_true (show 12 < 13 by omega)) ?_
      refine T.skip (X.seq (T.seq (T.block (T.seq (T.region rfl ?_)))))
      refine TL.q rfl .u (Ex.ixL (k := 12) (r := 24) rfl rfl rfl Try.runUnderlying145 Try.sizeOf149 (by decide) rfl) rfl ?_
      refine TL.q rfl .u (Ex.bS (us := [.pointer (some ⟨b1, 11, none⟩), .int .i64 4]) 1 rfl Try.isAgg149 Try.sizeOf149 rfl rfl rfl) rfl ?_
      refine TL.alloc rfl .u Try.zeroValue149 rfl (fun b54 => ?_)
      refine TL.st0 (cs' := #[.pointer (some ⟨b1, 11, none⟩), .int .i64 4]) rfl .u rfl rfl Try.sizeOf149 rfl rfl rfl rfl ?_
      refine TL.nil (X.seq (T.draw (.q 0 (.q 1 (.q 2 (.q 3 (.q 4 (.q 5 (.q 6 (.e 7 .nil)))))))) [0, 0, 0, 0, 0] rfl mix_prefix (NoP.blk (NoP.seq (NoP.seq (NoP.blk np_post)))) (by kernel_rfl) ?_))
      refine TD.run ft_prefix_ok [0, 1] rfl rfl ?_
      refine TD.q rfl .u (Ex.b1 0 rfl Try.isAgg147 rfl rfl) rfl ?_
      refine TD.run ft_prefix_ok [3] rfl rfl ?_
      refine TD.q rfl .u (Ex.b1 4 rfl Try.isAgg3 rfl rfl) rfl ?_
      refine TD.run ft_prefix_ok [5] rfl rfl ?_
      refine TD.q rfl .u (Ex.b1 0 rfl Try.isAgg3 rfl rfl) rfl ?_
      obtain ⟨st55, hx56, h⟩ := Option.bind_eq_some_iff.1 h
      refine TD.c5 rfl .u (.fn Try.call84 rfl) (gOInt_spec g st52 a1.fCount 4 _ hx56) (fun _ hs => (Src.triv _)) rfl [0, 0, 0, 0, 0] (rfl) ?_
      refine TD.nil (X.blk (X.seq (T.region rfl ?_)))
      refine TL.q rfl .u (Ex.add rfl rfl (by omega)) rfl ?_
      refine TL.run ft_prefix_ok [1] rfl rfl ?_
      refine TL.nil ?_
      refine X.sel [0, 1, 1, 1, 1] rfl ?_
      refine X.un (TW.step (T.seq (T.region rfl ?_)))
      refine TL.run ft_prefix_ok [0] rfl rfl ?_
      refine TL.nil (X.seq (T.seq ?_))
      refine T.no rfl (decide_eq_false (show ¬ (13 < 13) by omega)) ?_
      obtain rfl := Option.some.inj h
      exact T.exit (X.exs (X.exs (X.ex (X.done0 [4] Try.results41 ⟨rfl, rfl, rfl⟩ (by rfl) (.inr rfl)))))
def f_prefix_Read (st : I)  : Option (Pfx × I) := (gInt st 8).bind fun (x6, st7) => (gInt st7 4).bind fun (x10, st11) => (gInt st11 4).bind fun (x14, st15) => (gInt st15 1).bind fun (x18, st19) => (gInt st19 4).bind fun (x22, st23) => (gInt st23 2).bind fun (x26, st27) => (gInt st27 4).bind fun (x30, st31) => (gInt st31 8).bind fun (x34, st35) => (gInt st35 8).bind fun (x38, st39) => (gInt st39 8).bind fun (x42, st43) => (gInt st43 2).bind fun (x46, st47) => (gInt st47 4).bind fun (x50, st51) => (gInt st51 4).bind fun (x54, st55) => (gErr st55).bind fun (x57, st58) => (if x57 = 0 then ((if x18 = 2 then ((if x10 < 49 then ((gIFail st58 4).bind fun st164 => some st164) else ((if x54 < 0 then ((gIFail st58 10).bind fun st172 => some st172) else some st58).bind fun st169 => some st169)).bind fun st161 => some st161) else ((gIFail st58 6).bind fun st174 => some st174)).bind fun st147 => some st147) else some st58).bind fun st117 => (gErr st117).bind fun (x176, st177) => if x176 = 0 then (some ((⟨x6, x10, x14, (Go.bits .and .i64 x22 4294967295), x26, x30, x34, x38, x42, x46, x50, x54⟩ : Pfx), st177)) else (some ((⟨0, 0, 0, 0, 0, 0, 0, 0, 0, 0, 0, 0⟩ : Pfx), st177))
set_option maxRecDepth 100000 in
set_option maxHeartbeats 4000000 in
theorem f_prefix_Read_spec (g : Nat) (st : I)  (r : Pfx × I) (h : f_prefix_Read st  = some r) : SpecX Try.prog 59 #[.pointer (some ⟨g, 0, none⟩)] .triv (InR g st) (fun v A' N => v = .agg #[.int .i64 r.1.fBase, .int .i64 r.1.fLength, .int .i64 r.1.fLeader, .int .i64 r.1.fSum, .int .i64 r.1.fAttr, .int .i64 r.1.fLast, .int .i64 r.1.fFirst, .int .i64 r.1.fMax, .int .i64 r.1.fProducer, .int .i64 r.1.fEpoch, .int .i64 r.1.fSequence, .int .i64 r.1.fCount] ∧ A' = InR g r.2 ∧ N = []) := by
  refine enterA Try.func59 rfl Try.ntmps59 rfl ?_
  intro F w hX
  unfold f_prefix_Read at h
  refine T.seq (T.region rfl ?_)
  refine TL.alloc rfl .u Try.zeroValue92 rfl (fun b1 => ?_)
  refine TL.nil (X.seq (T.seq (T.region rfl ?_)))
  refine TL.alloc rfl .u Try.zeroValue92 rfl (fun b2 => ?_)
  refine TL.nil (X.seq (T.seq (T.region rfl ?_)))
  refine TL.alloc rfl .u Try.zeroValue3 rfl (fun b3 => ?_)
  refine TL.st0 (cs' := #[.int .i64 0]) rfl .u rfl rfl Try.sizeOf3 rfl rfl rfl rfl ?_
  refine TL.nil (X.seq (T.seq (T.seq (T.region rfl ?_))))
  refine TL.cge rfl .u (.fn Try.call83 rfl) (f_prefix_PrefixFields_spec b2 b3 () rfl) (fun _ hs => RX.reads_triv _ _) rfl ?_
  rintro _ _ _ ⟨b4, rfl, rfl, rfl⟩
  refine TL.sel [0, 0, 0, 0, 0] rfl ?_
  refine TL.q rfl .u (Ex.lenS rfl Try.runUnderlying145) rfl ?_
  refine TL.run ft_prefix_ok [2] rfl rfl ?_
  refine TL.nil (X.seq (T.block ?_))
  refine T.unroll0 (TW.step (T.seq (T.region rfl ?_)))
  refine TL.run ft_prefix_ok [0] rfl rfl ?_
  refine TL.nil (X.seq (T.seq ?_))
  refine T.yes rfl (decide_eq_true (show 0 < 13 by omega)) ?_
  refine T.skip (X.seq (T.seq (T.block (T.seq (T.region rfl ?_)))))
  refine TL.q rfl .u (Ex.ixL (k := 0) (r := 0) rfl rfl rfl Try.runUnderlying145 Try.sizeOf149 (by decide) rfl) rfl ?_
  refine TL.q rfl .u (Ex.bS (us := [.pointer (some ⟨b2, 0, none⟩), .int .i64 8]) 0 rfl Try.isAgg149 Try.sizeOf149 rfl rfl rfl) rfl ?_
  refine TL.alloc rfl .u Try.zeroValue149 rfl (fun b5 => ?_)
  refine TL.st0 (cs' := #[.pointer (some ⟨b2, 0, none⟩), .int .i64 8]) rfl .u rfl rfl Try.sizeOf149 rfl rfl rfl rfl ?_
  refine TL.nil (X.seq (T.draw (.q 0 (.q 1 (.q 2 (.q 3 (.q 4 (.e 5 (.q 6 (.e 7 .nil)))))))) [0, 0, 0, 1] rfl mix_prefix (NoP.blk (NoP.seq (NoP.seq (NoP.blk (NoP.seq np_post))))) (by kernel_rfl) ?_))
  refine TD.run ft_prefix_ok [0] rfl rfl ?_
  refine TD.q rfl .u (Ex.b1 0 rfl Try.isAgg147 rfl rfl) rfl ?_
  refine TD.run ft_prefix_ok [2, 3] rfl rfl ?_
  refine TD.q rfl .u (Ex.b1 0 rfl Try.isAgg3 rfl rfl) rfl ?_
  obtain ⟨⟨x6, st7⟩, hx8, h⟩ := Option.bind_eq_some_iff.1 h
  try dsimp only at h
  refine TD.c5 rfl .u (.fn Try.call71 rfl) (gInt_spec g st 8 _ hx8) (fun _ hs => (Src.triv _)) rfl [0, 0, 0, 1] (rfl) ?_
  refine TD.run ft_prefix_ok [6] rfl rfl ?_
  refine TD.st3 (cs' := #[.int .i64 x6, .int .i64 0, .int .i64 0, .int .i64 0, .int .i64 0, .int .i64 0, .int .i64 0, .int .i64 0, .int .i64 0, .int .i64 0, .int .i64 0, .int .i64 0]) rfl .u rfl rfl Try.sizeOf3 rfl rfl rfl rfl [0, 0, 0, 1] (rfl) ?_
  refine TD.nil (X.blk (X.seq (T.region rfl ?_)))
  refine TL.q rfl .u (Ex.add rfl rfl (by omega)) rfl ?_
  refine TL.run ft_prefix_ok [1] rfl rfl ?_
  refine TL.nil (X.un (TW.step (T.seq (T.region rfl ?_))))
  refine TL.run ft_prefix_ok [0] rfl rfl ?_
  refine TL.nil (X.seq (T.seq ?_))
  refine T.yes rfl (decide_eq_true (show 1 < 13 by omega)) ?_
  refine T.skip (X.seq (T.seq (T.block (T.seq (T.region rfl ?_)))))
  refine TL.q rfl .u (Ex.ixL (k := 1) (r := 2) rfl rfl rfl Try.runUnderlying145 Try.sizeOf149 (by decide) rfl) rfl ?_
  refine TL.q rfl .u (Ex.bS (us := [.pointer (some ⟨b2, 1, none⟩), .int .i64 4]) 1 rfl Try.isAgg149 Try.sizeOf149 rfl rfl rfl) rfl ?_
  refine TL.alloc rfl .u Try.zeroValue149 rfl (fun b9 => ?_)
  refine TL.st0 (cs' := #[.pointer (some ⟨b2, 1, none⟩), .int .i64 4]) rfl .u rfl rfl Try.sizeOf149 rfl rfl rfl rfl ?_
  refine TL.nil (X.seq (T.draw (.q 0 (.q 1 (.q 2 (.q 3 (.q 4 (.e 5 (.q 6 (.e 7 .nil)))))))) [0, 0, 0, 0, 1] rfl mix_prefix (NoP.blk (NoP.seq (NoP.seq (NoP.blk (NoP.seq np_post))))) (by kernel_rfl) ?_))
  refine TD.run ft_prefix_ok [0] rfl rfl ?_
  refine TD.q rfl .u (Ex.b1 0 rfl Try.isAgg147 rfl rfl) rfl ?_
  refine TD.run ft_prefix_ok [2, 3] rfl rfl ?_
  refine TD.q rfl .u (Ex.b1 0 rfl Try.isAgg3 rfl rfl) rfl ?_
  obtain ⟨⟨x10, st11⟩, hx12, h⟩ := Option.bind_eq_some_iff.1 h
  try dsimp only at h
  refine TD.c6 rfl .u (.fn Try.call71 rfl) (gInt_spec g st7 4 _ hx12) (fun _ hs => (Src.triv _)) rfl [0, 0, 0, 0, 1] (rfl) ?_
  refine TD.run ft_prefix_ok [6] rfl rfl ?_
  refine TD.st4 (cs' := #[.int .i64 x6, .int .i64 x10, .int .i64 0, .int .i64 0, .int .i64 0, .int .i64 0, .int .i64 0, .int .i64 0, .int .i64 0, .int .i64 0, .int .i64 0, .int .i64 0]) rfl .u rfl rfl Try.sizeOf3 rfl rfl rfl rfl [0, 0, 0, 0, 1] (rfl) ?_
  refine TD.nil (X.blk (X.seq (T.region rfl ?_)))
  refine TL.q rfl .u (Ex.add rfl rfl (by omega)) rfl ?_
  refine TL.run ft_prefix_ok [1] rfl rfl ?_
  refine TL.nil ?_
  refine X.sel [0, 1, 1, 1, 1, 1] rfl ?_
  refine X.un (TW.step (T.seq (T.region rfl ?_)))
  refine TL.run ft_prefix_ok [0] rfl rfl ?_
  refine TL.nil (X.seq (T.seq ?_))
  refine T.yes rfl (decide_eq_true (show 2 < 13 by omega)) ?_
  refine T.skip (X.seq (T.seq (T.block (T.seq (T.region rfl ?_)))))
  refine TL.q rfl .u (Ex.ixL (k := 2) (r := 4) rfl rfl rfl Try.runUnderlying145 Try.sizeOf149 (by decide) rfl) rfl ?_
  refine TL.q rfl .u (Ex.bS (us := [.pointer (some ⟨b2, 2, none⟩), .int .i64 4]) 1 rfl Try.isAgg149 Try.sizeOf149 rfl rfl rfl) rfl ?_
  refine TL.alloc rfl .u Try.zeroValue149 rfl (fun b13 => ?_)
  refine TL.st0 (cs' := #[.pointer (some ⟨b2, 2, none⟩), .int .i64 4]) rfl .u rfl rfl Try.sizeOf149 rfl rfl rfl rfl ?_
  refine TL.nil (X.seq (T.draw (.q 0 (.q 1 (.q 2 (.q 3 (.q 4 (.e 5 (.q 6 (.e 7 .nil)))))))) [0, 0, 0, 0, 1] rfl mix_prefix (NoP.blk (NoP.seq (NoP.seq (NoP.blk (NoP.seq np_post))))) (by kernel_rfl) ?_))
  refine TD.run ft_prefix_ok [0] rfl rfl ?_
  refine TD.q rfl .u (Ex.b1 0 rfl Try.isAgg147 rfl rfl) rfl ?_
  refine TD.run ft_prefix_ok [2, 3] rfl rfl ?_
  refine TD.q rfl .u (Ex.b1 0 rfl Try.isAgg3 rfl rfl) rfl ?_
  obtain ⟨⟨x14, st15⟩, hx16, h⟩ := Option.bind_eq_some_iff.1 h
  try dsimp only at h
  refine TD.c6 rfl .u (.fn Try.call71 rfl) (gInt_spec g st11 4 _ hx16) (fun _ hs => (Src.triv _)) rfl [0, 0, 0, 0, 1] (rfl) ?_
  refine TD.run ft_prefix_ok [6] rfl rfl ?_
  refine TD.st4 (cs' := #[.int .i64 x6, .int .i64 x10, .int .i64 x14, .int .i64 0, .int .i64 0, .int .i64 0, .int .i64 0, .int .i64 0, .int .i64 0, .int .i64 0, .int .i64 0, .int .i64 0]) rfl .u rfl rfl Try.sizeOf3 rfl rfl rfl rfl [0, 0, 0, 0, 1] (rfl) ?_
  refine TD.nil (X.blk (X.seq (T.region rfl ?_)))
  refine TL.q rfl .u (Ex.add rfl rfl (by omega)) rfl ?_
  refine TL.run ft_prefix_ok [1] rfl rfl ?_
  refine TL.nil ?_
  refine X.sel [0, 1, 1, 1, 1, 1] rfl ?_
  refine X.un (TW.step (T.seq (T.region rfl ?_)))
  refine TL.run ft_prefix_ok [0] rfl rfl ?_
  refine TL.nil (X.seq (T.seq ?_))
  refine T.yes rfl (decide_eq_true (show 3 < 13 by omega)) ?_
  refine T.skip (X.seq (T.seq (T.block (T.seq (T.region rfl ?_)))))
  refine TL.q rfl .u (Ex.ixL (k := 3) (r := 6) rfl rfl rfl Try.runUnderlying145 Try.sizeOf149 (by decide) rfl) rfl ?_
  refine TL.q rfl .u (Ex.bS (us := [.pointer (some ⟨b3, 0, none⟩), .int .i64 1]) 1 rfl Try.isAgg149 Try.sizeOf149 rfl rfl rfl) rfl ?_
  refine TL.alloc rfl .u Try.zeroValue149 rfl (fun b17 => ?_)
  refine TL.st0 (cs' := #[.pointer (some ⟨b3, 0, none⟩), .int .i64 1]) rfl .u rfl rfl Try.sizeOf149 rfl rfl rfl rfl ?_
  refine TL.nil (X.seq (T.draw (.q 0 (.q 1 (.q 2 (.q 3 (.q 4 (.e 5 (.q 6 (.e 7 .nil)))))))) [0, 0, 0, 1, 1] rfl mix_prefix (NoP.blk (NoP.seq (NoP.seq (NoP.blk (NoP.seq np_post))))) (by kernel_rfl) ?_))
  refine TD.run ft_prefix_ok [0] rfl rfl ?_
  refine TD.q rfl .u (Ex.b1 0 rfl Try.isAgg147 rfl rfl) rfl ?_
  refine TD.run ft_prefix_ok [2, 3] rfl rfl ?_
  refine TD.q rfl .u (Ex.b1 0 rfl Try.isAgg3 rfl rfl) rfl ?_
  obtain ⟨⟨x18, st19⟩, hx20, h⟩ := Option.bind_eq_some_iff.1 h
  try dsimp only at h
  refine TD.c6 rfl .u (.fn Try.call71 rfl) (gInt_spec g st15 1 _ hx20) (fun _ hs => (Src.triv _)) rfl [0, 0, 0, 1, 1] (rfl) ?_
  refine TD.run ft_prefix_ok [6] rfl rfl ?_
  refine TD.st3 (cs' := #[.int .i64 x18]) rfl .u rfl rfl Try.sizeOf3 rfl rfl rfl rfl [0, 0, 0, 1, 1] (rfl) ?_
  refine TD.nil (X.blk (X.seq (T.region rfl ?_)))
  refine TL.q rfl .u (Ex.add rfl rfl (by omega)) rfl ?_
  refine TL.run ft_prefix_ok [1] rfl rfl ?_
  refine TL.nil ?_
  refine X.sel [0, 1, 1, 1, 1, 1] rfl ?_
  refine X.un (TW.step (T.seq (T.region rfl ?_)))
  refine TL.run ft_prefix_ok [0] rfl rfl ?_
  refine TL.nil (X.seq (T.seq ?_))
  refine T.yes rfl (decide_eq_true (show 4 < 13 by omega)) ?_
  refine T.skip (X.seq (T.seq (T.block (T.seq (T.region rfl ?_)))))
  refine TL.q rfl .u (Ex.ixL (k := 4) (r := 8) rfl rfl rfl Try.runUnderlying145 Try.sizeOf149 (by decide) rfl) rfl ?_
  refine TL.q rfl .u (Ex.bS (us := [.pointer (some ⟨b2, 3, none⟩), .int .i64 4]) 1 rfl Try.isAgg149 Try.sizeOf149 rfl rfl rfl) rfl ?_
  refine TL.alloc rfl .u Try.zeroValue149 rfl (fun b21 => ?_)
  refine TL.st0 (cs' := #[.pointer (some ⟨b2, 3, none⟩), .int .i64 4]) rfl .u rfl rfl Try.sizeOf149 rfl rfl rfl rfl ?_
  refine TL.nil (X.seq (T.draw (.q 0 (.q 1 (.q 2 (.q 3 (.q 4 (.e 5 (.q 6 (.e 7 .nil)))))))) [0, 0, 0, 0, 1] rfl mix_prefix (NoP.blk (NoP.seq (NoP.seq (NoP.blk (NoP.seq np_post))))) (by kernel_rfl) ?_))
  refine TD.run ft_prefix_ok [0] rfl rfl ?_
  refine TD.q rfl .u (Ex.b1 0 rfl Try.isAgg147 rfl rfl) rfl ?_
  refine TD.run ft_prefix_ok [2, 3] rfl rfl ?_
  refine TD.q rfl .u (Ex.b1 0 rfl Try.isAgg3 rfl rfl) rfl ?_
  obtain ⟨⟨x22, st23⟩, hx24, h⟩ := Option.bind_eq_some_iff.1 h
  try dsimp only at h
  refine TD.c6 rfl .u (.fn Try.call71 rfl) (gInt_spec g st19 4 _ hx24) (fun _ hs => (Src.triv _)) rfl [0, 0, 0, 0, 1] (rfl) ?_
  refine TD.run ft_prefix_ok [6] rfl rfl ?_
  refine TD.st4 (cs' := #[.int .i64 x6, .int .i64 x10, .int .i64 x14, .int .i64 x22, .int .i64 0, .int .i64 0, .int .i64 0, .int .i64 0, .int .i64 0, .int .i64 0, .int .i64 0, .int .i64 0]) rfl .u rfl rfl Try.sizeOf3 rfl rfl rfl rfl [0, 0, 0, 0, 1] (rfl) ?_
  refine TD.nil (X.blk (X.seq (T.region rfl ?_)))
  refine TL.q rfl .u (Ex.add rfl rfl (by omega)) rfl ?_
  refine TL.run ft_prefix_ok [1] rfl rfl ?_
  refine TL.nil ?_
  refine X.sel [0, 1, 1, 1, 1, 1] rfl ?_
  refine X.un (TW.step (T.seq (T.region rfl ?_)))
  refine TL.run ft_prefix_ok [0] rfl rfl ?_
  refine TL.nil (X.seq (T.seq ?_))
  refine T.yes rfl (decide_eq_true (show 5 < 13 by omega)) ?_
  refine T.skip (X.seq (T.seq (T.block (T.seq (T.region rfl ?_)))))
  refine TL.q rfl .u (Ex.ixL (k := 5) (r := 10) rfl rfl rfl Try.runUnderlying145 Try.sizeOf149 (by decide) rfl) rfl ?_
  refine TL.q rfl .u (Ex.bS (us := [.pointer (some ⟨b2, 4, none⟩), .int .i64 2]) 1 rfl Try.isAgg149 Try.sizeOf149 rfl rfl rfl) rfl ?_
  refine TL.alloc rfl .u Try.zeroValue149 rfl (fun b25 => ?_)
  refine TL.st0 (cs' := #[.pointer (some ⟨b2, 4, none⟩), .int .i64 2]) rfl .u rfl rfl Try.sizeOf149 rfl rfl rfl rfl ?_
  refine TL.nil (X.seq (T.draw (.q 0 (.q 1 (.q 2 (.q 3 (.q 4 (.e 5 (.q 6 (.e 7 .nil)))))))) [0, 0, 0, 0, 1] rfl mix_prefix (NoP.blk (NoP.seq (NoP.seq (NoP.blk (NoP.seq np_post))))) (by kernel_rfl) ?_))
  refine TD.run ft_prefix_ok [0] rfl rfl ?_
  refine TD.q rfl .u (Ex.b1 0 rfl Try.isAgg147 rfl rfl) rfl ?_
  refine TD.run ft_prefix_ok [2, 3] rfl rfl ?_
  refine TD.q rfl .u (Ex.b1 0 rfl Try.isAgg3 rfl rfl) rfl ?_
  obtain ⟨⟨x26, st27⟩, hx28, h⟩ := Option.bind_eq_some_iff.1 h
  try dsimp only at h
  refine TD.c6 rfl .u (.fn Try.call71 rfl) (gInt_spec g st23 2 _ hx28) (fun _ hs => (Src.triv _)) rfl [0, 0, 0, 0, 1] (rfl) ?_
  refine TD.run ft_prefix_ok [6] rfl rfl ?_
  refine TD.st4 (cs' := #[.int .i64 x6, .int .i64 x10, .int .i64 x14, .int .i64 x22, .int .i64 x26, .int .i64 0, .int .i64 0, .int .i64 0, .int .i64 0, .int .i64 0, .int .i64 0, .int .i64 0]) rfl .u rfl rfl Try.sizeOf3 rfl rfl rfl rfl [0, 0, 0, 0, 1] (rfl) ?_
  refine TD.nil (X.blk (X.seq (T.region rfl ?_)))
  refine TL.q rfl .u (Ex.add rfl rfl (by omega)) rfl ?_
  refine TL.run ft_prefix_ok [1] rfl rfl ?_
  refine TL.nil ?_
  refine X.sel [0, 1, 1, 1, 1, 1] rfl ?_
  refine X.un (TW.step (T.seq (T.region rfl ?_)))
  refine TL.run ft_prefix_ok [0] rfl rfl ?_
  refine TL.nil (X.seq (T.seq ?_))
  refine T.yes rfl (decide_eq_true (show 6 < 13 by omega)) ?_
  refine T.skip (X.seq (T.seq (T.block (T.seq (T.region rfl ?_)))))
  refine TL.q rfl .u (Ex.ixL (k := 6) (r := 12) rfl rfl rfl Try.runUnderlying145 Try.sizeOf149 (by decide) rfl) rfl ?_
  refine TL.q rfl .u (Ex.bS (us := [.pointer (some ⟨b2, 5, none⟩), .int .i64 4]) 1 rfl Try.isAgg149 Try.sizeOf149 rfl rfl rfl) rfl ?_
  refine TL.alloc rfl .u Try.zeroValue149 rfl (fun b29 => ?_)
  refine TL.st0 (cs' := #[.pointer (some ⟨b2, 5, none⟩), .int .i64 4]) rfl .u rfl rfl Try.sizeOf149 rfl rfl rfl rfl ?_
  refine TL.nil (X.seq (T.draw (.q 0 (.q 1 (.q 2 (.q 3 (.q 4 (.e 5 (.q 6 (.e 7 .nil)))))))) [0, 0, 0, 0, 1] rfl mix_prefix (NoP.blk (NoP.seq (NoP.seq (NoP.blk (NoP.seq np_post))))) (by kernel_rfl) ?_))
  refine TD.run ft_prefix_ok [0] rfl rfl ?_
  refine TD.q rfl .u (Ex.b1 0 rfl Try.isAgg147 rfl rfl) rfl ?_
  refine TD.run ft_prefix_ok [2, 3] rfl rfl ?_
  refine TD.q rfl .u (Ex.b1 0 rfl Try.isAgg3 rfl rfl) rfl ?_
  obtain ⟨⟨x30, st31⟩, hx32, h⟩ := Option.bind_eq_some_iff.1 h
  try dsimp only at h
  refine TD.c6 rfl .u (.fn Try.call71 rfl) (gInt_spec g st27 4 _ hx32) (fun _ hs => (Src.triv _)) rfl [0, 0, 0, 0, 1] (rfl) ?_
  refine TD.run ft_prefix_ok [6] rfl rfl ?_
  refine TD.st4 (cs' := #[.int .i64 x6, .int .i64 x10, .int .i64 x14, .int .i64 x22, .int .i64 x26, .int .i64 x30, .int .i64 0, .int .i64 0, .int .i64 0, .int .i64 0, .int .i64 0, .int .i64 0]) rfl .u rfl rfl Try.sizeOf3 rfl rfl rfl rfl [0, 0, 0, 0, 1] (rfl) ?_
  refine TD.nil (X.blk (X.seq (T.region rfl ?_)))
  refine TL.q rfl .u (Ex.add rfl rfl (by omega)) rfl ?_
  refine TL.run ft_prefix_ok [1] rfl rfl ?_
  refine TL.nil ?_
  refine X.sel [0, 1, 1, 1, 1, 1] rfl ?_
  refine X.un (TW.step (T.seq (T.region rfl ?_)))
  refine TL.run ft_prefix_ok [0] rfl rfl ?_
  refine TL.nil (X.seq (T.seq ?_))
  refine T.yes rfl (decide_eq_true (show 7 < 13 by omega)) ?_
  refine T.skip (X.seq (T.seq (T.block (T.seq (T.region rfl ?_)))))
  refine TL.q rfl .u (Ex.ixL (k := 7) (r := 14) rfl rfl rfl Try.runUnderlying145 Try.sizeOf149 (by decide) rfl) rfl ?_
  refine TL.q rfl .u (Ex.bS (us := [.pointer (some ⟨b2, 6, none⟩), .int .i64 8]) 1 rfl Try.isAgg149 Try.sizeOf149 rfl rfl rfl) rfl ?_
  refine TL.alloc rfl .u Try.zeroValue149 rfl (fun b33 => ?_)
  refine TL.st0 (cs' := #[.pointer (some ⟨b2, 6, none⟩), .int .i64 8]) rfl .u rfl rfl Try.sizeOf149 rfl rfl rfl rfl ?_
  refine TL.nil (X.seq (T.draw (.q 0 (.q 1 (.q 2 (.q 3 (.q 4 (.e 5 (.q 6 (.e 7 .nil)))))))) [0, 0, 0, 0, 1] rfl mix_prefix (NoP.blk (NoP.seq (NoP.seq (NoP.blk (NoP.seq np_post))))) (by kernel_rfl) ?_))
  refine TD.run ft_prefix_ok [0] rfl rfl ?_
  refine TD.q rfl .u (Ex.b1 0 rfl Try.isAgg147 rfl rfl) rfl ?_
  refine TD.run ft_prefix_ok [2, 3] rfl rfl ?_
  refine TD.q rfl .u (Ex.b1 0 rfl Try.isAgg3 rfl rfl) rfl ?_
  obtain ⟨⟨x34, st35⟩, hx36, h⟩ := Option.bind_eq_some_iff.1 h
  try dsimp only at h
  refine TD.c6 rfl .u (.fn Try.call71 rfl) (gInt_spec g st31 8 _ hx36) (fun _ hs => (Src.triv _)) rfl [0, 0, 0, 0, 1] (rfl) ?_
  refine TD.run ft_prefix_ok [6] rfl rfl ?_
  refine TD.st4 (cs' := #[.int .i64 x6, .int .i64 x10, .int .i64 x14, .int .i64 x22, .int .i64 x26, .int .i64 x30, .int .i64 x34, .int .i64 0, .int .i64 0, .int .i64 0, .int .i64 0, .int .i64 0]) rfl .u rfl rfl Try.sizeOf3 rfl rfl rfl rfl [0, 0, 0, 0, 1] (rfl) ?_
  refine TD.nil (X.blk (X.seq (T.region rfl ?_)))
  refine TL.q rfl .u (Ex.add rfl rfl (by omega)) rfl ?_
  refine TL.run ft_prefix_ok [1] rfl rfl ?_
  refine TL.nil ?_
  refine X.sel [0, 1, 1, 1, 1, 1] rfl ?_
  refine X.un (TW.step (T.seq (T.region rfl ?_)))
  refine TL.run ft_prefix_ok [0] rfl rfl ?_
  refine TL.nil (X.seq (T.seq ?_))
  refine T.yes rfl (decide_eq_true (show 8 < 13 by omega)) ?_
  refine T.skip (X.seq (T.seq (T.block (T.seq (T.region rfl ?_)))))
  refine TL.q rfl .u (Ex.ixL (k := 8) (r := 16) rfl rfl rfl Try.runUnderlying145 Try.sizeOf149 (by decide) rfl) rfl ?_
  refine TL.q rfl .u (Ex.bS (us := [.pointer (some ⟨b2, 7, none⟩), .int .i64 8]) 1 rfl Try.isAgg149 Try.sizeOf149 rfl rfl rfl) rfl ?_
  refine TL.alloc rfl .u Try.zeroValue149 rfl (fun b37 => ?_)
  refine TL.st0 (cs' := #[.pointer (some ⟨b2, 7, none⟩), .int .i64 8]) rfl .u rfl rfl Try.sizeOf149 rfl rfl rfl rfl ?_
  refine TL.nil (X.seq (T.draw (.q 0 (.q 1 (.q 2 (.q 3 (.q 4 (.e 5 (.q 6 (.e 7 .nil)))))))) [0, 0, 0, 0, 1] rfl mix_prefix (NoP.blk (NoP.seq (NoP.seq (NoP.blk (NoP.seq np_post))))) (by kernel_rfl) ?_))
  refine TD.run ft_prefix_ok [0] rfl rfl ?_
  refine TD.q rfl .u (Ex.b1 0 rfl Try.isAgg147 rfl rfl) rfl ?_
  refine TD.run ft_prefix_ok [2, 3] rfl rfl ?_
  refine TD.q rfl .u (Ex.b1 0 rfl Try.isAgg3 rfl rfl) rfl ?_
  obtain ⟨⟨x38, st39⟩, hx40, h⟩ := Option.bind_eq_some_iff.1 h
  try dsimp only at h
  refine TD.c6 rfl .u (.fn Try.call71 rfl) (gInt_spec g st35 8 _ hx40) (fun _ hs => (Src.triv _)) rfl [0, 0, 0, 0, 1] (rfl) ?_
  refine TD.run ft_prefix_ok [6] rfl rfl ?_
  refine TD.st4 (cs' := #[.int .i64 x6, .int .i64 x10, .int .i64 x14, .int .i64 x22, .int .i64 x26, .int .i64 x30, .int .i64 x34, .int .i64 x38, .int .i64 0, .int .i64 0, .int .i64 0, .int .i64 0]) rfl .u rfl rfl Try.sizeOf3 rfl rfl rfl rfl [0, 0, 0, 0, 1] (rfl) ?_
  refine TD.nil (X.blk (X.seq (T.region rfl ?_)))
  refine TL.q rfl .u (Ex.add rfl rfl (by omega)) rfl ?_
  refine TL.run ft_prefix_ok [1] rfl rfl ?_
  refine TL.nil ?_
  refine X.sel [0, 1, 1, 1, 1, 1] rfl ?_
  refine X.un (TW.step (T.seq (T.region rfl ?_)))
  refine TL.run ft_prefix_ok [0] rfl rfl ?_
  refine TL.nil (X.seq (T.seq ?_))
  refine T.yes rfl (decide_eq_true (show 9 < 13 by omega)) ?_
  refine T.skip (X.seq (T.seq (T.block (T.seq (T.region rfl ?_)))))
  refine TL.q rfl .u (Ex.ixL (k := 9) (r := 18) rfl rfl rfl Try.runUnderlying145 Try.sizeOf149 (by decide) rfl) rfl ?_
  refine TL.q rfl .u (Ex.bS (us := [.pointer (some ⟨b2, 8, none⟩), .int .i64 8]) 1 rfl Try.isAgg149 Try.sizeOf149 rfl rfl rfl) rfl ?_
  refine TL.alloc rfl .u Try.zeroValue149 rfl (fun b41 => ?_)
  refine TL.st0 (cs' := #[.pointer (some ⟨b2, 8, none⟩), .int .i64 8]) rfl .u rfl rfl Try.sizeOf149 rfl rfl rfl rfl ?_
  refine TL.nil (X.seq (T.draw (.q 0 (.q 1 (.q 2 (.q 3 (.q 4 (.e 5 (.q 6 (.e 7 .nil)))))))) [0, 0, 0, 0, 1] rfl mix_prefix (NoP.blk (NoP.seq (NoP.seq (NoP.blk (NoP.seq np_post))))) (by kernel_rfl) ?_))
  refine TD.run ft_prefix_ok [0] rfl rfl ?_
  refine TD.q rfl .u (Ex.b1 0 rfl Try.isAgg147 rfl rfl) rfl ?_
  refine TD.run ft_prefix_ok [2, 3] rfl rfl ?_
  refine TD.q rfl .u (Ex.b1 0 rfl Try.isAgg3 rfl rfl) rfl ?_
  obtain ⟨⟨x42, st43⟩, hx44, h⟩ := Option.bind_eq_some_iff.1 h
  try dsimp only at h
  refine TD.c6 rfl .u (.fn Try.call71 rfl) (gInt_spec g st39 8 _ hx44) (fun _ hs => (Src.triv _)) rfl [0, 0, 0, 0, 1] (rfl) ?_
  refine TD.run ft_prefix_ok [6] rfl rfl ?_
  refine TD.st4 (cs' := #[.int .i64 x6, .int .i64 x10, .int .i64 x14, .int .i64 x22, .int .i64 x26, .int .i64 x30, .int .i64 x34, .int .i64 x38, .int .i64 x42, .int .i64 0, .int .i64 0, .int .i64 0]) rfl .u rfl rfl Try.sizeOf3 rfl rfl rfl rfl [0, 0, 0, 0, 1] (rfl) ?_
  refine TD.nil (X.blk (X.seq (T.region rfl ?_)))
  refine TL.q rfl .u (Ex.add rfl rfl (by omega)) rfl ?_
  refine TL.run ft_prefix_ok [1] rfl rfl ?_
  refine TL.nil ?_
  refine X.sel [0, 1, 1, 1, 1, 1] rfl ?_
  refine X.un (TW.step (T.seq (T.region rfl ?_)))
  refine TL.run ft_prefix_ok [0] rfl rfl ?_
  refine TL.nil (X.seq (T.seq ?_))
  refine T.yes rfl (decide_eq_true (show 10 < 13 by omega)) ?_
  refine T.skip (X.seq (T.seq (T.block (T.seq (T.region rfl ?_)))))
  refine TL.q rfl .u (Ex.ixL (k := 10) (r := 20) rfl rfl rfl Try.runUnderlying145 Try.sizeOf149 (by decide) rfl) rfl ?_
  refine TL.q rfl .u (Ex.bS (us := [.pointer (some ⟨b2, 9, none⟩), .int .i64 2]) 1 rfl Try.isAgg149 Try.sizeOf149 rfl rfl rfl) rfl ?_
  refine TL.alloc rfl .u Try.zeroValue149 rfl (fun b45 => ?_)
  refine TL.st0 (cs' := #[.pointer (some ⟨b2, 9, none⟩), .int .i64 2]) rfl .u rfl rfl Try.sizeOf149 rfl rfl rfl rfl ?_
  refine TL.nil (X.seq (T.draw (.q 0 (.q 1 (.q 2 (.q 3 (.q 4 (.e 5 (.q 6 (.e 7 .nil)))))))) [0, 0, 0, 0, 1] rfl mix_prefix (NoP.blk (NoP.seq (NoP.seq (NoP.blk (NoP.seq np_post))))) (by kernel_rfl) ?_))
  refine TD.run ft_prefix_ok [0] rfl rfl ?_
  refine TD.q rfl .u (Ex.b1 0 rfl Try.isAgg147 rfl rfl) rfl ?_
  refine TD.run ft_prefix_ok [2, 3] rfl rfl ?_
  refine TD.q rfl .u (Ex.b1 0 rfl Try.isAgg3 rfl rfl) rfl ?_
  obtain ⟨⟨x46, st47⟩, hx48, h⟩ := Option.bind_eq_some_iff.1 h
  try dsimp only at h
  refine TD.c6 rfl .u (.fn Try.call71 rfl) (gInt_spec g st43 2 _ hx48) (fun _ hs => (Src.triv _)) rfl [0, 0, 0, 0, 1] (rfl) ?_
  refine TD.run ft_prefix_ok [6] rfl rfl ?_
  refine TD.st4 (cs' := #[.int .i64 x6, .int .i64 x10, .int .i64 x14, .int .i64 x22, .int .i64 x26, .int .i64 x30, .int .i64 x34, .int .i64 x38, .int .i64 x42, .int .i64 x46, .int .i64 0, .int .i64 0]) rfl .u rfl rfl Try.sizeOf3 rfl rfl rfl rfl [0, 0, 0, 0, 1] (rfl) ?_
  refine TD.nil (X.blk (X.seq (T.region rfl ?_)))
  refine TL.q rfl .u (Ex.add rfl rfl (by omega)) rfl ?_
  refine TL.run ft_prefix_ok [1] rfl rfl ?_
  refine TL.nil ?_
  refine X.sel [0, 1, 1, 1, 1, 1] rfl ?_
  refine X.un (TW.step (T.seq (T.region rfl ?_)))
  refine TL.run ft_prefix_ok [0] rfl rfl ?_
  refine TL.nil (X.seq (T.seq ?_))
  refine T.yes rfl (decide_eq_true (show 11 < 13 by omega)) ?_
  refine T.skip (X.seq (T.seq (T.block (T.seq (T.region rfl ?_)))))
  refine TL.q rfl .u (Ex.ixL (k := 11) (r := 22) rfl rfl rfl Try.runUnderlying145 Try.sizeOf149 (by decide) rfl) rfl ?_
  refine TL.q rfl .u (Ex.bS (us := [.pointer (some ⟨b2, 10, none⟩), .int .i64 4]) 1 rfl Try.isAgg149 Try.sizeOf149 rfl rfl rfl) rfl ?_
  refine TL.alloc rfl .u Try.zeroValue149 rfl (fun b49 => ?_)
  refine TL.st0 (cs' := #[.pointer (some ⟨b2, 10, none⟩), .int .i64 4]) rfl .u rfl rfl Try.sizeOf149 rfl rfl rfl rfl ?_
  refine TL.nil (X.seq (T.draw (.q 0 (.q 1 (.q 2 (.q 3 (.q 4 (.e 5 (.q 6 (.e 7 .nil)))))))) [0, 0, 0, 0, 1] rfl mix_prefix (NoP.blk (NoP.seq (NoP.seq (NoP.blk (NoP.seq np_post))))) (by kernel_rfl) ?_))
  refine TD.run ft_prefix_ok [0] rfl rfl ?_
  refine TD.q rfl .u (Ex.b1 0 rfl Try.isAgg147 rfl rfl) rfl ?_
  refine TD.run ft_prefix_ok [2, 3] rfl rfl ?_
  refine TD.q rfl .u (Ex.b1 0 rfl Try.isAgg3 rfl rfl) rfl ?_
  obtain ⟨⟨x50, st51⟩, hx52, h⟩ := Option.bind_eq_some_iff.1 h
  try dsimp only at h
  refine TD.c6 rfl .u (.fn Try.call71 rfl) (gInt_spec g st47 4 _ hx52) (fun _ hs => (Src.triv _)) rfl [0, 0, 0, 0, 1] (rfl) ?_
  refine TD.run ft_prefix_ok [6] rfl rfl ?_
  refine TD.st4 (cs' := #[.int .i64 x6, .int .i64 x10, .int .i64 x14, .int .i64 x22, .int .i64 x26, .int .i64 x30, .int .i64 x34, .int .i64 x38, .int .i64 x42, .int .i64 x46, .int .i64 x50, .int .i64 0]) rfl .u rfl rfl Try.sizeOf3 rfl rfl rfl rfl [0, 0, 0, 0, 1] (rfl) ?_
  refine TD.nil (X.blk (X.seq (T.region rfl ?_)))
  refine TL.q rfl .u (Ex.add rfl rfl (by omega)) rfl ?_
  refine TL.run ft_prefix_ok [1] rfl rfl ?_
  refine TL.nil ?_
  refine X.sel [0, 1, 1, 1, 1, 1] rfl ?_
  refine X.un (TW.step (T.seq (T.region rfl ?_)))
  refine TL.run ft_prefix_ok [0] rfl rfl ?_
  refine TL.nil (X.seq (T.seq ?_))
  refine T.yes rfl (decide_eq_true (show 12 < 13 by omega)) ?_
  refine T.skip (X.seq (T.seq (T.block (T.seq (T.region rfl ?_)))))
  refine TL.q rfl .u (Ex.ixL (k := 12) (r := 24) rfl rfl rfl Try.runUnderlying145 Try.sizeOf149 (by decide) rfl) rfl ?_
  refine TL.q rfl .u (Ex.bS (us := [.pointer (some ⟨b2, 11, none⟩), .int .i64 4]) 1 rfl Try.isAgg149 Try.sizeOf149 rfl rfl rfl) rfl ?_
  refine TL.alloc rfl .u Try.zeroValue149 rfl (fun b53 => ?_)
  refine TL.st0 (cs' := #[.pointer (some ⟨b2, 11, none⟩), .int .i64 4]) rfl .u rfl rfl Try.sizeOf149 rfl rfl rfl rfl ?_
  refine TL.nil (X.seq (T.draw (.q 0 (.q 1 (.q 2 (.q 3 (.q 4 (.e 5 (.q 6 (.e 7 .nil)))))))) [0, 0, 0, 0, 1] rfl mix_prefix (NoP.blk (NoP.seq (NoP.seq (NoP.blk (NoP.seq np_post))))) (by kernel_rfl) ?_))
  refine TD.run ft_prefix_ok [0] rfl rfl ?_
  refine TD.q rfl .u (Ex.b1 0 rfl Try.isAgg147 rfl rfl) rfl ?_
  refine TD.run ft_prefix_ok [2, 3] rfl rfl ?_
  refine TD.q rfl .u (Ex.b1 0 rfl Try.isAgg3 rfl rfl) rfl ?_
  obtain ⟨⟨x54, st55⟩, hx56, h⟩ := Option.bind_eq_some_iff.1 h
  try dsimp only at h
  refine TD.c6 rfl .u (.fn Try.call71 rfl) (gInt_spec g st51 4 _ hx56) (fun _ hs => (Src.triv _)) rfl [0, 0, 0, 0, 1] (rfl) ?_
  refine TD.run ft_prefix_ok [6] rfl rfl ?_
  refine TD.st4 (cs' := #[.int .i64 x6, .int .i64 x10, .int .i64 x14, .int .i64 x22, .int .i64 x26, .int .i64 x30, .int .i64 x34, .int .i64 x38, .int .i64 x42, .int .i64 x46, .int .i64 x50, .int .i64 x54]) rfl .u rfl rfl Try.sizeOf3 rfl rfl rfl rfl [0, 0, 0, 0, 1] (rfl) ?_
  refine TD.nil (X.blk (X.seq (T.region rfl ?_)))
  refine TL.q rfl .u (Ex.add rfl rfl (by omega)) rfl ?_
  refine TL.run ft_prefix_ok [1] rfl rfl ?_
  refine TL.nil ?_
  refine X.sel [0, 1, 1, 1, 1, 1] rfl ?_
  refine X.un (TW.step (T.seq (T.region rfl ?_)))
  refine TL.run ft_prefix_ok [0] rfl rfl ?_
  refine TL.nil (X.seq (T.seq ?_))
  refine T.no rfl (decide_eq_false (show ¬ (13 < 13) by omega)) ?_
  refine T.exit (X.exs (X.exs (X.ex (X.seq (T.seq (T.region rfl ?_))))))
  refine TL.run ft_prefix_ok [0] rfl rfl ?_
  refine TL.q rfl .u (Ex.b1 3 rfl Try.isAgg3 rfl rfl) rfl ?_
  refine TL.q rfl .u (Ex.bitw rfl rfl rfl) rfl ?_
  refine TL.run ft_prefix_ok [3] rfl rfl ?_
  refine TL.st3 (cs' := #[.int .i64 x6, .int .i64 x10, .int .i64 x14, .int .i64 (Go.bits .and .i64 x22 4294967295), .int .i64 x26, .int .i64 x30, .int .i64 x34, .int .i64 x38, .int .i64 x42, .int .i64 x46, .int .i64 x50, .int .i64 x54]) rfl .u rfl rfl Try.sizeOf3 rfl rfl rfl rfl ?_
  refine TL.nil (X.seq (T.seq (T.block (T.seq (T.region rfl ?_)))))
  obtain ⟨⟨x57, st58⟩, hx59, h⟩ := Option.bind_eq_some_iff.1 h
  try dsimp only at h
  refine TL.run ft_prefix_ok [0] rfl rfl ?_
  refine TL.c5 rfl .u (.fn Try.call61 rfl) (gErr_spec g st55 _ hx59) (fun _ hs => (Src.triv _)) rfl ?_
  refine TL.run ft_prefix_ok [2, 3] rfl rfl ?_
  refine TL.nil (X.seq ?_)
  obtain ⟨st117, h, hk118⟩ := Option.bind_eq_some_iff.1 h
  refine T.jq (fun e Rs => e = [(0, .pointer (some ⟨g, 0, none⟩)), (2, .pointer (some ⟨b1, 0, none⟩)), (3, .pointer (some ⟨b2, 0, none⟩))] ∧ Rs = [BlkR b53 149 #[.pointer (some ⟨b2, 11, none⟩), .int .i64 4], BlkR b4 149 #[.pointer (some ⟨b2, 0, none⟩), .int .i64 8, .pointer (some ⟨b2, 1, none⟩), .int .i64 4, .pointer (some ⟨b2, 2, none⟩), .int .i64 4, .pointer (some ⟨b3, 0, none⟩), .int .i64 1, .pointer (some ⟨b2, 3, none⟩), .int .i64 4, .pointer (some ⟨b2, 4, none⟩), .int .i64 2, .pointer (some ⟨b2, 5, none⟩), .int .i64 4, .pointer (some ⟨b2, 6, none⟩), .int .i64 8, .pointer (some ⟨b2, 7, none⟩), .int .i64 8, .pointer (some ⟨b2, 8, none⟩), .int .i64 8, .pointer (some ⟨b2, 9, none⟩), .int .i64 2, .pointer (some ⟨b2, 10, none⟩), .int .i64 4, .pointer (some ⟨b2, 11, none⟩), .int .i64 4], BlkR b3 3 #[.int .i64 x18], BlkR b2 92 #[.int .i64 x6, .int .i64 x10, .int .i64 x14, .int .i64 (Go.bits .and .i64 x22 4294967295), .int .i64 x26, .int .i64 x30, .int .i64 x34, .int .i64 x38, .int .i64 x42, .int .i64 x46, .int .i64 x50, .int .i64 x54], BlkR b1 92 #[.int .i64 0, .int .i64 0, .int .i64 0, .int .i64 0, .int .i64 0, .int .i64 0, .int .i64 0, .int .i64 0, .int .i64 0, .int .i64 0, .int .i64 0, .int .i64 0], InR g st117]) ?_ ?_
  · clear hk118
    by_cases c119 : x57 = 0
    · replace h := ifT c119 h
      refine T.no rfl (bn_f (decide_eq_true c119)) ?_
      refine T.seq (T.region rfl ?_)
      refine TL.q rfl .u (Ex.b1 2 rfl Try.isAgg3 rfl rfl) rfl ?_
      refine TL.run ft_prefix_ok [1, 2] rfl rfl ?_
      refine TL.nil (X.seq ?_)
      obtain ⟨st147, h, hk148⟩ := Option.bind_eq_some_iff.1 h
      refine T.jq (fun e Rs => e = [(0, .pointer (some ⟨g, 0, none⟩)), (2, .pointer (some ⟨b1, 0, none⟩)), (3, .pointer (some ⟨b2, 0, none⟩))] ∧ Rs = [BlkR b53 149 #[.pointer (some ⟨b2, 11, none⟩), .int .i64 4], BlkR b4 149 #[.pointer (some ⟨b2, 0, none⟩), .int .i64 8, .pointer (some ⟨b2, 1, none⟩), .int .i64 4, .pointer (some ⟨b2, 2, none⟩), .int .i64 4, .pointer (some ⟨b3, 0, none⟩), .int .i64 1, .pointer (some ⟨b2, 3, none⟩), .int .i64 4, .pointer (some ⟨b2, 4, none⟩), .int .i64 2, .pointer (some ⟨b2, 5, none⟩), .int .i64 4, .pointer (some ⟨b2, 6, none⟩), .int .i64 8, .pointer (some ⟨b2, 7, none⟩), .int .i64 8, .pointer (some ⟨b2, 8, none⟩), .int .i64 8, .pointer (some ⟨b2, 9, none⟩), .int .i64 2, .pointer (some ⟨b2, 10, none⟩), .int .i64 4, .pointer (some ⟨b2, 11, none⟩), .int .i64 4], BlkR b3 3 #[.int .i64 x18], BlkR b2 92 #[.int .i64 x6, .int .i64 x10, .int .i64 x14, .int .i64 (Go.bits .and .i64 x22 4294967295), .int .i64 x26, .int .i64 x30, .int .i64 x34, .int .i64 x38, .int .i64 x42, .int .i64 x46, .int .i64 x50, .int .i64 x54], BlkR b1 92 #[.int .i64 0, .int .i64 0, .int .i64 0, .int .i64 0, .int .i64 0, .int .i64 0, .int .i64 0, .int .i64 0, .int .i64 0, .int .i64 0, .int .i64 0, .int .i64 0], InR g st147]) ?_ ?_
      · clear hk148
        by_cases c149 : x18 = 2
        · replace h := ifT c149 h
          refine T.no rfl (bn_f (decide_eq_true c149)) ?_
          refine T.seq (T.region rfl ?_)
          refine TL.run ft_prefix_ok [0] rfl rfl ?_
          refine TL.q rfl .u (Ex.b1 3 rfl Try.isAgg3 rfl rfl) rfl ?_
          refine TL.run ft_prefix_ok [2, 3] rfl rfl ?_
          refine TL.nil (X.seq ?_)
          obtain ⟨st161, h, hk162⟩ := Option.bind_eq_some_iff.1 h
          refine T.jq (fun e Rs => e = [(0, .pointer (some ⟨g, 0, none⟩)), (2, .pointer (some ⟨b1, 0, none⟩)), (3, .pointer (some ⟨b2, 0, none⟩))] ∧ Rs = [BlkR b53 149 #[.pointer (some ⟨b2, 11, none⟩), .int .i64 4], BlkR b4 149 #[.pointer (some ⟨b2, 0, none⟩), .int .i64 8, .pointer (some ⟨b2, 1, none⟩), .int .i64 4, .pointer (some ⟨b2, 2, none⟩), .int .i64 4, .pointer (some ⟨b3, 0, none⟩), .int .i64 1, .pointer (some ⟨b2, 3, none⟩), .int .i64 4, .pointer (some ⟨b2, 4, none⟩), .int .i64 2, .pointer (some ⟨b2, 5, none⟩), .int .i64 4, .pointer (some ⟨b2, 6, none⟩), .int .i64 8, .pointer (some ⟨b2, 7, none⟩), .int .i64 8, .pointer (some ⟨b2, 8, none⟩), .int .i64 8, .pointer (some ⟨b2, 9, none⟩), .int .i64 2, .pointer (some ⟨b2, 10, none⟩), .int .i64 4, .pointer (some ⟨b2, 11, none⟩), .int .i64 4], BlkR b3 3 #[.int .i64 x18], BlkR b2 92 #[.int .i64 x6, .int .i64 x10, .int .i64 x14, .int .i64 (Go.bits .and .i64 x22 4294967295), .int .i64 x26, .int .i64 x30, .int .i64 x34, .int .i64 x38, .int .i64 x42, .int .i64 x46, .int .i64 x50, .int .i64 x54], BlkR b1 92 #[.int .i64 0, .int .i64 0, .int .i64 0, .int .i64 0, .int .i64 0, .int .i64 0, .int .i64 0, .int .i64 0, .int .i64 0, .int .i64 0, .int .i64 0, .int .i64 0], InR g st161]) ?_ ?_
          · clear hk162
            by_cases c163 : x10 < 49
            · replace h := ifT c163 h
              refine T.yes rfl (decide_eq_true c163) ?_
              refine T.region rfl ?_
              obtain ⟨st164, hx165, h⟩ := Option.bind_eq_some_iff.1 h
              refine TL.run ft_prefix_ok [0] rfl rfl ?_
              refine TL.c5 rfl .u (.fn Try.call62 rfl) (gIFail_spec g st58 4 _ hx165) (fun _ hs => (Src.triv _)) rfl ?_
              cases h
              exact TL.nil (X.jq [0, 0, 0, 0, 0, 0] ⟨rfl, rfl⟩ (by rfl) (by rfl))
            · replace h := ifF c163 h
              refine T.no rfl (decide_eq_false c163) ?_
              refine T.seq (T.region rfl ?_)
              refine TL.run ft_prefix_ok [0] rfl rfl ?_
              refine TL.q rfl .u (Ex.b1 3 rfl Try.isAgg3 rfl rfl) rfl ?_
              refine TL.run ft_prefix_ok [2, 3] rfl rfl ?_
              refine TL.nil (X.seq ?_)
              obtain ⟨st169, h, hk170⟩ := Option.bind_eq_some_iff.1 h
              refine T.jq (fun e Rs => e = [(0, .pointer (some ⟨g, 0, none⟩)), (2, .pointer (some ⟨b1, 0, none⟩)), (3, .pointer (some ⟨b2, 0, none⟩))] ∧ Rs = [BlkR b53 149 #[.pointer (some ⟨b2, 11, none⟩), .int .i64 4], BlkR b4 149 #[.pointer (some ⟨b2, 0, none⟩), .int .i64 8, .pointer (some ⟨b2, 1, none⟩), .int .i64 4, .pointer (some ⟨b2, 2, none⟩), .int .i64 4, .pointer (some ⟨b3, 0, none⟩), .int .i64 1, .pointer (some ⟨b2, 3, none⟩), .int .i64 4, .pointer (some ⟨b2, 4, none⟩), .int .i64 2, .pointer (some ⟨b2, 5, none⟩), .int .i64 4, .pointer (some ⟨b2, 6, none⟩), .int .i64 8, .pointer (some ⟨b2, 7, none⟩), .int .i64 8, .pointer (some ⟨b2, 8, none⟩), .int .i64 8, .pointer (some ⟨b2, 9, none⟩), .int .i64 2, .pointer (some ⟨b2, 10, none⟩), .int .i64 4, .pointer (some ⟨b2, 11, none⟩), .int .i64 4], BlkR b3 3 #[.int .i64 x18], BlkR b2 92 #[.int .i64 x6, .int .i64 x10, .int .i64 x14, .int .i64 (Go.bits .and .i64 x22 4294967295), .int .i64 x26, .int .i64 x30, .int .i64 x34, .int .i64 x38, .int .i64 x42, .int .i64 x46, .int .i64 x50, .int .i64 x54], BlkR b1 92 #[.int .i64 0, .int .i64 0, .int .i64 0, .int .i64 0, .int .i64 0, .int .i64 0, .int .i64 0, .int .i64 0, .int .i64 0, .int .i64 0, .int .i64 0, .int .i64 0], InR g st169]) ?_ ?_
              · clear hk170
                by_cases c171 : x54 < 0
                · replace h := ifT c171 h
                  refine T.yes rfl (decide_eq_true c171) ?_
                  refine T.region rfl ?_
                  obtain ⟨st172, hx173, h⟩ := Option.bind_eq_some_iff.1 h
                  refine TL.run ft_prefix_ok [0] rfl rfl ?_
                  refine TL.c5 rfl .u (.fn Try.call62 rfl) (gIFail_spec g st58 10 _ hx173) (fun _ hs => (Src.triv _)) rfl ?_
                  cases h
                  exact TL.nil (X.jq [0, 0, 0, 0, 0, 0] ⟨rfl, rfl⟩ (by rfl) (by rfl))
                · replace h := ifF c171 h
                  refine T.no rfl (decide_eq_false c171) ?_
                  cases h
                  exact T.skip (X.jq [0, 0, 0, 0, 0, 0] ⟨rfl, rfl⟩ (by rfl) (by rfl))
              · rintro _ _ ⟨rfl, rfl⟩
                clear h
                have h := hk170
                clear hk170
                try dsimp only at h
                cases h
                exact X.jq [0, 0, 0, 0, 0, 0] ⟨rfl, rfl⟩ (by rfl) (by rfl)
          · rintro _ _ ⟨rfl, rfl⟩
            clear h
            have h := hk162
            clear hk162
            try dsimp only at h
            cases h
            exact X.jq [0, 0, 0, 0, 0, 0] ⟨rfl, rfl⟩ (by rfl) (by rfl)
        · replace h := ifF c149 h
          refine T.yes rfl (bn_t (decide_eq_false c149)) ?_
          refine T.region rfl ?_
          obtain ⟨st174, hx175, h⟩ := Option.bind_eq_some_iff.1 h
          refine TL.run ft_prefix_ok [0] rfl rfl ?_
          refine TL.c5 rfl .u (.fn Try.call62 rfl) (gIFail_spec g st58 6 _ hx175) (fun _ hs => (Src.triv _)) rfl ?_
          cases h
          exact TL.nil (X.jq [0, 0, 0, 0, 0, 0] ⟨rfl, rfl⟩ (by rfl) (by rfl))
      · rintro _ _ ⟨rfl, rfl⟩
        clear h
        have h := hk148
        clear hk148
        try dsimp only at h
        cases h
        exact X.jq [0, 0, 0, 0, 0, 0] ⟨rfl, rfl⟩ (by rfl) (by rfl)
    · replace h := ifF c119 h
      refine T.yes rfl (bn_t (decide_eq_false c119)) ?_
      cases h
      exact T.skip (X.jq [0, 0, 0, 0, 0, 0] ⟨rfl, rfl⟩ (by rfl) (by rfl))
  · rintro _ _ ⟨rfl, rfl⟩
    clear h
    have h := hk118
    clear hk118
    try dsimp only at h
    refine X.blk (X.seq (T.seq (T.seq (T.region rfl ?_))))
    obtain ⟨⟨x176, st177⟩, hx178, h⟩ := Option.bind_eq_some_iff.1 h
    try dsimp only at h
    refine TL.run ft_prefix_ok [0] rfl rfl ?_
    refine TL.c5 rfl .u (.fn Try.call61 rfl) (gErr_spec g st117 _ hx178) (fun _ hs => (Src.triv _)) rfl ?_
    refine TL.run ft_prefix_ok [2] rfl rfl ?_
    by_cases c179 : x176 = 0
    · replace h := ifT c179 h
      refine TL.nil (X.seq ?_)
      refine T.no rfl (bn_f (decide_eq_true c179)) ?_
      refine T.skip (X.seq (T.seq (T.region rfl ?_)))
      refine TL.q rfl .u (Ex.bS (us := [.int .i64 x6, .int .i64 x10, .int .i64 x14, .int .i64 (Go.bits .and .i64 x22 4294967295), .int .i64 x26, .int .i64 x30, .int .i64 x34, .int .i64 x38, .int .i64 x42, .int .i64 x46, .int .i64 x50, .int .i64 x54]) 3 rfl Try.isAgg92 Try.sizeOf92 rfl rfl rfl) rfl ?_
      refine TL.st4 (cs' := #[.int .i64 x6, .int .i64 x10, .int .i64 x14, .int .i64 (Go.bits .and .i64 x22 4294967295), .int .i64 x26, .int .i64 x30, .int .i64 x34, .int .i64 x38, .int .i64 x42, .int .i64 x46, .int .i64 x50, .int .i64 x54]) rfl .u rfl rfl Try.sizeOf92 rfl rfl rfl rfl ?_
      obtain rfl := Option.some.inj h
      exact TL.nil (X.seq (T.ret (X.done1 [5] Try.results59 (RV.cS (us := #[.int .i64 x6, .int .i64 x10, .int .i64 x14, .int .i64 (Go.bits .and .i64 x22 4294967295), .int .i64 x26, .int .i64 x30, .int .i64 x34, .int .i64 x38, .int .i64 x42, .int .i64 x46, .int .i64 x50, .int .i64 x54]) 4 rfl Try.isAgg92 Try.sizeOf92 rfl rfl) ⟨rfl, rfl, rfl⟩ (by rfl) (.inl rfl))))
    · replace h := ifF c179 h
      refine TL.nil (X.seq ?_)
      refine T.yes rfl (bn_t (decide_eq_false c179)) ?_
      refine T.seq (T.region rfl ?_)
      refine TL.q rfl .u (Ex.bld (cells := #[.int .i64 0, .int .i64 0, .int .i64 0, .int .i64 0, .int .i64 0, .int .i64 0, .int .i64 0, .int .i64 0, .int .i64 0, .int .i64 0, .int .i64 0, .int .i64 0]) bok_prefix_92 rfl (by kernel_rfl)) rfl ?_
      refine TL.st4 (cs' := #[.int .i64 0, .int .i64 0, .int .i64 0, .int .i64 0, .int .i64 0, .int .i64 0, .int .i64 0, .int .i64 0, .int .i64 0, .int .i64 0, .int .i64 0, .int .i64 0]) rfl .u rfl rfl Try.sizeOf92 rfl rfl rfl rfl ?_
      obtain rfl := Option.some.inj h
      exact TL.nil (X.seq (T.ret (X.rs (X.done1 [5] Try.results59 (RV.cS (us := #[.int .i64 0, .int .i64 0, .int .i64 0, .int .i64 0, .int .i64 0, .int .i64 0, .int .i64 0, .int .i64 0, .int .i64 0, .int .i64 0, .int .i64 0, .int .i64 0]) 4 rfl Try.isAgg92 Try.sizeOf92 rfl rfl) ⟨rfl, rfl, rfl⟩ (by rfl) (.inl rfl)))))
end Go.Proofs.Ytcoppaggpbfcmaa.Sl
