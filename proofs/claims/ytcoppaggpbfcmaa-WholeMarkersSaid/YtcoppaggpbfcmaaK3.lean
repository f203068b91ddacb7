/- wholeMarkers_holds: part 3. -/
import Derived.Test.YtcoppaggpbfcmaaK2
namespace Go.Proofs.Ytcoppaggpbfcmaa.Sl
open Go.RowKit
set_option linter.unusedVariables false
set_option linter.unusedSimpArgs false
set_option maxRecDepth 100000
def ft_prefix : FTab := [(92, 0, 0), (92, 1, 1), (92, 2, 2), (92, 3, 3), (92, 4, 4), (92, 5, 5), (92, 6, 6), (92, 7, 7), (92, 8, 8), (92, 9, 9), (92, 10, 10), (92, 11, 11), (149, 0, 0), (149, 1, 1)]
theorem ft_prefix_ok : (ft_prefix).OK Try.prog := ⟨FOK.mk Try.runUnderlying92 rfl Try.sizeOf3 rfl, FOK.mk Try.runUnderlying92 rfl Try.sizeOf3 rfl, FOK.mk Try.runUnderlying92 rfl Try.sizeOf3 rfl, FOK.mk Try.runUnderlying92 rfl Try.sizeOf3 rfl, FOK.mk Try.runUnderlying92 rfl Try.sizeOf3 rfl, FOK.mk Try.runUnderlying92 rfl Try.sizeOf3 rfl, FOK.mk Try.runUnderlying92 rfl Try.sizeOf3 rfl, FOK.mk Try.runUnderlying92 rfl Try.sizeOf3 rfl, FOK.mk Try.runUnderlying92 rfl Try.sizeOf3 rfl, FOK.mk Try.runUnderlying92 rfl Try.sizeOf3 rfl, FOK.mk Try.runUnderlying92 rfl Try.sizeOf3 rfl, FOK.mk Try.runUnderlying92 rfl Try.sizeOf3 rfl, FOK.mk Try.runUnderlying149 rfl Try.sizeOf147 rfl, FOK.mk Try.runUnderlying149 rfl Try.sizeOf3 rfl, trivial⟩
theorem mix_prefix : Try.prog.follows .mixedOrders = true := by kernel_rfl
theorem bok_prefix_92 : BOK Try.prog 92 #[.int .i64 0, .int .i64 0, .int .i64 0, .int .i64 0, .int .i64 0, .int .i64 0, .int .i64 0, .int .i64 0, .int .i64 0, .int .i64 0, .int .i64 0, .int .i64 0] [(0, 1), (1, 1), (2, 1), (3, 1), (4, 1), (5, 1), (6, 1), (7, 1), (8, 1), (9, 1), (10, 1), (11, 1)] := BOK.mk Try.zeroValue92 Try.runUnderlying92 (by intro w; simp)
theorem bok_prefix_149 : BOK Try.prog 149 #[.pointer none, .int .i64 0] [(0, 1), (1, 1)] := BOK.mk Try.zeroValue149 Try.runUnderlying149 (by intro w; simp)
theorem sok_prefix_145_13 : SOK Try.prog 145 149 13 2 #[.pointer none, .int .i64 0, .pointer none, .int .i64 0, .pointer none, .int .i64 0, .pointer none, .int .i64 0, .pointer none, .int .i64 0, .pointer none, .int .i64 0, .pointer none, .int .i64 0, .pointer none, .int .i64 0, .pointer none, .int .i64 0, .pointer none, .int .i64 0, .pointer none, .int .i64 0, .pointer none, .int .i64 0, .pointer none, .int .i64 0] := SOK.mk Try.runUnderlying145 Try.sizeOf149 Try.zeroValue149 (by decide) (by kernel_rfl)
def f_prefix_PrefixFields (p0 : Nat) (p1 : Nat) : Option (Unit) := some ()
set_option maxRecDepth 100000 in
set_option maxHeartbeats 4000000 in
theorem f_prefix_PrefixFields_spec (p0 : Nat) (p1 : Nat) (r : Unit) (h : f_prefix_PrefixFields p0 p1 = some r) : SpecX Try.prog 83 #[.pointer (some ⟨p0, 0, none⟩), .pointer (some ⟨p1, 0, none⟩)] .triv (EmpR) (fun v A' N => ∃ q : Nat, v = .slice (some ⟨q, 0, none⟩) 13 13 ∧ A' = EmpR ∧ N = [BlkR q 149 #[.pointer (some ⟨p0, 0, none⟩), .int .i64 8, .pointer (some ⟨p0, 1, none⟩), .int .i64 4, .pointer (some ⟨p0, 2, none⟩), .int .i64 4, .pointer (some ⟨p1, 0, none⟩), .int .i64 1, .pointer (some ⟨p0, 3, none⟩), .int .i64 4, .pointer (some ⟨p0, 4, none⟩), .int .i64 2, .pointer (some ⟨p0, 5, none⟩), .int .i64 4, .pointer (some ⟨p0, 6, none⟩), .int .i64 8, .pointer (some ⟨p0, 7, none⟩), .int .i64 8, .pointer (some ⟨p0, 8, none⟩), .int .i64 8, .pointer (some ⟨p0, 9, none⟩), .int .i64 2, .pointer (some ⟨p0, 10, none⟩), .int .i64 4, .pointer (some ⟨p0, 11, none⟩), .int .i64 4]]) := by
  refine enterA Try.func83 rfl Try.ntmps83 rfl ?_
  intro F w hX
  unfold f_prefix_PrefixFields at h
  refine T.seq (T.region rfl ?_)
  refine TL.run ft_prefix_ok [0] rfl rfl ?_
  refine TL.nil (X.seq (T.seq (T.draw (.q 0 (.q 1 (.q 2 (.q 3 (.q 4 (.q 5 (.q 6 (.q 7 (.q 8 (.q 9 (.q 10 (.q 11 (.q 12 (.q 13 (.q 14 (.q 15 (.q 16 (.q 17 (.q 18 (.q 19 (.q 20 (.q 21 (.q 22 (.q 23 (.q 24 (.q 25 (.q 26 (.q 27 (.q 28 (.q 29 (.q 30 (.q 31 (.q 32 (.q 33 (.q 34 (.q 35 (.q 36 (.q 37 (.q 38 (.q 39 (.q 40 (.q 41 (.q 42 (.q 43 (.q 44 (.q 45 (.q 46 (.q 47 (.q 48 (.q 49 (.e 50 (.q 51 .nil)))))))))))))))))))))))))))))))))))))))))))))))))))) [0] rfl mix_prefix (NoP.seq np_post) (by kernel_rfl) ?_)))
  refine TD.run ft_prefix_ok [0, 1, 2] rfl rfl ?_
  refine TD.q rfl .u (Ex.bld (cells := #[.pointer (some ⟨p0, 0, none⟩), .int .i64 8]) bok_prefix_149 rfl (by kernel_rfl)) rfl ?_
  refine TD.run ft_prefix_ok [4, 5, 6] rfl rfl ?_
  refine TD.q rfl .u (Ex.bld (cells := #[.pointer (some ⟨p0, 1, none⟩), .int .i64 4]) bok_prefix_149 rfl (by kernel_rfl)) rfl ?_
  refine TD.run ft_prefix_ok [8, 9, 10] rfl rfl ?_
  refine TD.q rfl .u (Ex.bld (cells := #[.pointer (some ⟨p0, 2, none⟩), .int .i64 4]) bok_prefix_149 rfl (by kernel_rfl)) rfl ?_
  refine TD.run ft_prefix_ok [12] rfl rfl ?_
  refine TD.q rfl .u (Ex.bld (cells := #[.pointer (some ⟨p1, 0, none⟩), .int .i64 1]) bok_prefix_149 rfl (by kernel_rfl)) rfl ?_
  refine TD.run ft_prefix_ok [14, 15, 16] rfl rfl ?_
  refine TD.q rfl .u (Ex.bld (cells := #[.pointer (some ⟨p0, 3, none⟩), .int .i64 4]) bok_prefix_149 rfl (by kernel_rfl)) rfl ?_
  refine TD.run ft_prefix_ok [18, 19, 20] rfl rfl ?_
  refine TD.q rfl .u (Ex.bld (cells := #[.pointer (some ⟨p0, 4, none⟩), .int .i64 2]) bok_prefix_149 rfl (by kernel_rfl)) rfl ?_
  refine TD.run ft_prefix_ok [22, 23, 24] rfl rfl ?_
  refine TD.q rfl .u (Ex.bld (cells := #[.pointer (some ⟨p0, 5, none⟩), .int .i64 4]) bok_prefix_149 rfl (by kernel_rfl)) rfl ?_
  refine TD.run ft_prefix_ok [26, 27, 28] rfl rfl ?_
  refine TD.q rfl .u (Ex.bld (cells := #[.pointer (some ⟨p0, 6, none⟩), .int .i64 8]) bok_prefix_149 rfl (by kernel_rfl)) rfl ?_
  refine TD.run ft_prefix_ok [30, 31, 32] rfl rfl ?_
  refine TD.q rfl .u (Ex.bld (cells := #[.pointer (some ⟨p0, 7, none⟩), .int .i64 8]) bok_prefix_149 rfl (by kernel_rfl)) rfl ?_
  refine TD.run ft_prefix_ok [34, 35, 36] rfl rfl ?_
  refine TD.q rfl .u (Ex.bld (cells := #[.pointer (some ⟨p0, 8, none⟩), .int .i64 8]) bok_prefix_149 rfl (by kernel_rfl)) rfl ?_
  refine TD.run ft_prefix_ok [38, 39, 40] rfl rfl ?_
  refine TD.q rfl .u (Ex.bld (cells := #[.pointer (some ⟨p0, 9, none⟩), .int .i64 2]) bok_prefix_149 rfl (by kernel_rfl)) rfl ?_
  refine TD.run ft_prefix_ok [42, 43, 44] rfl rfl ?_
  refine TD.q rfl .u (Ex.bld (cells := #[.pointer (some ⟨p0, 10, none⟩), .int .i64 4]) bok_prefix_149 rfl (by kernel_rfl)) rfl ?_
  refine TD.run ft_prefix_ok [46, 47, 48] rfl rfl ?_
  refine TD.q rfl .u (Ex.bld (cells := #[.pointer (some ⟨p0, 11, none⟩), .int .i64 4]) bok_prefix_149 rfl (by kernel_rfl)) rfl ?_
  refine TD.lit (cells := #[.pointer (some ⟨p0, 0, none⟩), .int .i64 8, .pointer (some ⟨p0, 1, none⟩), .int .i64 4, .pointer (some ⟨p0, 2, none⟩), .int .i64 4, .pointer (some ⟨p1, 0, none⟩), .int .i64 1, .pointer (some ⟨p0, 3, none⟩), .int .i64 4, .pointer (some ⟨p0, 4, none⟩), .int .i64 2, .pointer (some ⟨p0, 5, none⟩), .int .i64 4, .pointer (some ⟨p0, 6, none⟩), .int .i64 8, .pointer (some ⟨p0, 7, none⟩), .int .i64 8, .pointer (some ⟨p0, 8, none⟩), .int .i64 8, .pointer (some ⟨p0, 9, none⟩), .int .i64 2, .pointer (some ⟨p0, 10, none⟩), .int .i64 4, .pointer (some ⟨p0, 11, none⟩), .int .i64 4]) rfl .u sok_prefix_145_13 rfl (by kernel_rfl) rfl [1] (fun _ => rfl) (fun b1 => ?_)
  refine TD.run ft_prefix_ok [51] rfl rfl ?_
  obtain rfl := Option.some.inj h
  exact TD.nil (X.seq (T.ret (X.done1 [1, 0] Try.results83 (RV.tm rfl) ⟨_, rfl, rfl, rfl⟩ (by rfl) (.inl rfl))))
def f_prefix_Write (st : List UInt8 × Int) (a1 : Pfx) : Option (List UInt8 × Int) := (if a1.fSum < 0 then some true else (if a1.fSum > 4294967295 then some true else some false)).bind fun y4 => (if y4 = true then ((gOFail st 11).bind fun st14 => some st14) else some st).bind fun st11 => if -9223372036854775808 ≤ (IntKind.i32.wrap (IntKind.u32.wrap a1.fSum)) ∧ (IntKind.i32.wrap (IntKind.u32.wrap a1.fSum)) ≤ 9223372036854775807 then ((gOInt st11 a1.fBase 8).bind fun st19 => (gOInt st19 a1.fLength 4).bind fun st22 => (gOInt st22 a1.fLeader 4).bind fun st25 => (gOInt st25 2 1).bind fun st28 => (gOInt st28 (IntKind.i32.wrap (IntKind.u32.wrap a1.fSum)) 4).bind fun st31 => (gOInt st31 a1.fAttr 2).bind fun st34 => (gOInt st34 a1.fLast 4).bind fun st37 => (gOInt st37 a1.fFirst 8).bind fun st40 => (gOInt st40 a1.fMax 8).bind fun st43 => (gOInt st43 a1.fProducer 8).bind fun st46 => (gOInt st46 a1.fEpoch 2).bind fun st49 => (gOInt st49 a1.fSequence 4).bind fun st52 => (gOInt st52 a1.fCount 4).bind fun st55 => some st55) else none
set_option maxRecDepth 100000 in
set_option maxHeartbeats 4000000 in
theorem f_prefix_Write_spec (g : Nat) (st : List UInt8 × Int) (a1 : Pfx) (r : List UInt8 × Int) (h : f_prefix_Write st a1 = some r) : SpecX Try.prog 41 #[.pointer (some ⟨g, 0, none⟩), .agg #[.int .i64 a1.fBase, .int .i64 a1.fLength, .int .i64 a1.fLeader, .int .i64 a1.fSum, .int .i64 a1.fAttr, .int .i64 a1.fLast, .int .i64 a1.fFirst, .int .i64 a1.fMax, .int .i64 a1.fProducer, .int .i64 a1.fEpoch, .int .i64 a1.fSequence, .int .i64 a1.fCount]] .triv (OutR g st) (fun v A' N => v = .tuple #[] ∧ A' = OutR g r ∧ N = []) := by
  refine enterA Try.func41 rfl Try.ntmps41 rfl ?_
  intro F w hX
  unfold f_prefix_Write at h
  refine T.seq (T.region rfl ?_)
  refine TL.box rfl .u rfl rfl (fun b1 => ?_)
  refine TL.nil (X.seq (T.seq (T.region rfl ?_)))
  refine TL.alloc rfl .u Try.zeroValue3 rfl (fun b2 => ?_)
  refine TL.st0 (cs' := #[.int .i64 2]) rfl .u rfl rfl Try.sizeOf3 rfl rfl rfl rfl ?_
  refine TL.nil (X.seq (T.seq (T.seq ?_)))
  obtain ⟨y4, h, hk5⟩ := Option.bind_eq_some_iff.1 h
  refine T.jq (fun e Rs => e = [(0, .pointer (some ⟨g, 0, none⟩)), (3, .pointer (some ⟨b1, 0, none⟩)), (4, .pointer (some ⟨b2, 0, none⟩)), (14, .bool y4)] ∧ Rs = [BlkR b2 3 #[.int .i64 2], BlkR b1 92 #[.int .i64 a1.fBase, .int .i64 a1.fLength, .int .i64 a1.fLeader, .int .i64 a1.fSum, .int .i64 a1.fAttr, .int .i64 a1.fLast, .int .i64 a1.fFirst, .int .i64 a1.fMax, .int .i64 a1.fProducer, .int .i64 a1.fEpoch, .int .i64 a1.fSequence, .int .i64 a1.fCount], OutR g st]) ?_ ?_
  · clear hk5
    refine T.region rfl ?_
    refine TL.run ft_prefix_ok [0] rfl rfl ?_
    refine TL.q rfl .u (Ex.b1 1 rfl Try.isAgg3 rfl rfl) rfl ?_
    by_cases c6 : a1.fSum < 0
    · replace h := ifT c6 h
      refine TL.run ft_prefix_ok [2, 3] rfl rfl ?_
      refine TL.no rfl (.gn rfl rfl (decide_eq_true c6)) rfl ?_
      refine TL.no rfl (.gn rfl rfl (decide_eq_true c6)) rfl ?_
      refine TL.no rfl (.gn rfl rfl (decide_eq_true c6)) rfl ?_
      refine TL.q rfl .u (Ex.py rfl (decide_eq_true c6) rfl) rfl ?_
      cases h
      exact TL.nil (X.jq [0, 0, 0] ⟨rfl, rfl⟩ (by rfl) (by rfl))
    · replace h := ifF c6 h
      refine TL.run ft_prefix_ok [2, 3] rfl rfl ?_
      refine TL.q rfl (.g rfl rfl (decide_eq_false c6)) (Ex.ft ft_prefix_ok rfl) rfl ?_
      refine TL.q rfl (.g rfl rfl (decide_eq_false c6)) (Ex.b1 1 rfl Try.isAgg3 rfl rfl) rfl ?_
      refine TL.q rfl (.g rfl rfl (decide_eq_false c6)) (Ex.ft ft_prefix_ok rfl) rfl ?_
      refine TL.q rfl .u (Ex.pn rfl (decide_eq_false c6) rfl) rfl ?_
      by_cases c7 : a1.fSum > 4294967295
      · replace h := ifT c7 h
        cases h
        exact TL.nil (X.as (d := 14) (v' := .bool true) rfl (congrArg Value.bool (decide_eq_true c7)) (X.jq [0, 0, 0] ⟨rfl, rfl⟩ (by rfl) (by rfl)))
      · replace h := ifF c7 h
        cases h
        exact TL.nil (X.as (d := 14) (v' := .bool false) rfl (congrArg Value.bool (decide_eq_false c7)) (X.jq [0, 0, 0] ⟨rfl, rfl⟩ (by rfl) (by rfl)))
  · rintro _ _ ⟨rfl, rfl⟩
    clear h
    have h := hk5
    clear hk5
    try dsimp only at h
    refine X.seq ?_
    obtain ⟨st11, h, hk12⟩ := Option.bind_eq_some_iff.1 h
    refine T.jq (fun e Rs => e = [(0, .pointer (some ⟨g, 0, none⟩)), (3, .pointer (some ⟨b1, 0, none⟩)), (4, .pointer (some ⟨b2, 0, none⟩))] ∧ Rs = [BlkR b2 3 #[.int .i64 2], BlkR b1 92 #[.int .i64 a1.fBase, .int .i64 a1.fLength, .int .i64 a1.fLeader, .int .i64 a1.fSum, .int .i64 a1.fAttr, .int .i64 a1.fLast, .int .i64 a1.fFirst, .int .i64 a1.fMax, .int .i64 a1.fProducer, .int .i64 a1.fEpoch, .int .i64 a1.fSequence, .int .i64 a1.fCount], OutR g st11]) ?_ ?_
    · clear hk12
      by_cases c13 : y4 = true
      · replace h := ifT c13 h
        refine T.yes rfl c13 ?_
        refine T.region rfl ?_
        obtain ⟨st14, hx15, h⟩ := Option.bind_eq_some_iff.1 h
        refine TL.run ft_prefix_ok [0] rfl rfl ?_
        refine TL.c2 rfl .u (.fn Try.call80 rfl) (gOFail_spec g st 11 _ hx15) (fun _ hs => (Src.triv _)) rfl ?_
        cases h
        exact TL.nil (X.jq [0, 0, 0] ⟨rfl, rfl⟩ (by rfl) (by rfl))
      · replace h := ifF c13 h
        replace c13 := eq_false_of_ne_true c13
        refine T.no rfl c13 ?_
        cases h
        exact T.skip (X.jq [0, 0, 0] ⟨rfl, rfl⟩ (by rfl) (by rfl))
    · rintro _ _ ⟨rfl, rfl⟩
      clear h
      have h := hk12
      clear hk12
      try dsimp only at h
      refine X.seq (T.seq (T.region rfl ?_))
      refine TL.run ft_prefix_ok [0] rfl rfl ?_
      refine TL.q rfl .u (Ex.b1 1 rfl Try.isAgg3 rfl rfl) rfl ?_
      refine TL.q rfl .u (Ex.conv rfl Try.runUnderlying3 Try.runUnderlying36) rfl ?_
      refine TL.q rfl .u (Ex.conv rfl Try.runUnderlying36 Try.runUnderlying21) rfl ?_
      replace h := guard_some h
      obtain ⟨c16, h⟩ := h
      refine TL.q rfl .u (Ex.conv64 rfl Try.runUnderlying21 Try.runUnderlying3 c16) rfl ?_
      refine TL.run ft_prefix_ok [5] rfl rfl ?_
      refine TL.st1 (cs' := #[.int .i64 a1.fBase, .int .i64 a1.fLength, .int .i64 a1.fLeader, .int .i64 (IntKind.i32.wrap (IntKind.u32.wrap a1.fSum)), .int .i64 a1.fAttr, .int .i64 a1.fLast, .int .i64 a1.fFirst, .int .i64 a1.fMax, .int .i64 a1.fProducer, .int .i64 a1.fEpoch, .int .i64 a1.fSequence, .int .i64 a1.fCount]) rfl .u rfl rfl Try.sizeOf3 rfl rfl rfl rfl ?_
      refine TL.nil (X.seq (T.seq (T.region rfl ?_)))
      refine TL.cge rfl .u (.fn Try.call83 rfl) (f_prefix_PrefixFields_spec b1 b2 () rfl) (fun _ hs => RX.reads_triv _ _) rfl ?_
      rintro _ _ _ ⟨b17, rfl, rfl, rfl⟩
      refine TL.sel [0, 0, 0, 0] rfl ?_
      refine TL.q rfl .u (Ex.lenS rfl Try.runUnderlying145) rfl ?_
      refine TL.run ft_prefix_ok [2] rfl rfl ?_
      refine TL.nil (X.seq (T.block ?_))
      refine T.unroll0 (TW.step (T.seq (T.region rfl ?_)))
      refine TL.run ft_prefix_ok [0] rfl rfl ?_
      refine TL.nil (X.seq (T.seq ?_))
      refine T.yes rfl (decide_eq_true (show 0 < 13 by omega)) ?_
      refine T.skip (X.seq (T.seq (T.block (T.seq (T.region rfl ?_)))))
      refine TL.q rfl .u (Ex.ixL (k := 0) (r := 0) rfl rfl rfl Try.runUnderlying145 Try.sizeOf149 (by decide) rfl) rfl ?_
      refine TL.q rfl .u (Ex.bS (us := [.pointer (some ⟨b1, 0, none⟩), .int .i64 8]) 0 rfl Try.isAgg149 Try.sizeOf149 rfl rfl rfl) rfl ?_
      refine TL.alloc rfl .u Try.zeroValue149 rfl (fun b18 => ?_)
      refine TL.st0 (cs' := #[.pointer (some ⟨b1, 0, none⟩), .int .i64 8]) rfl .u rfl rfl Try.sizeOf149 rfl rfl rfl rfl ?_
      refine TL.nil (X.seq (T.draw (.q 0 (.q 1 (.q 2 (.q 3 (.q 4 (.q 5 (.q 6 (.e 7 .nil)))))))) [0, 0, 0, 0] rfl mix_prefix (NoP.blk (NoP.seq (NoP.seq (NoP.blk np_post)))) (by kernel_rfl) ?_))
      refine TD.run ft_prefix_ok [0, 1] rfl rfl ?_
      refine TD.q rfl .u (Ex.b1 0 rfl Try.isAgg147 rfl rfl) rfl ?_
      refine TD.run ft_prefix_ok [3] rfl rfl ?_
      refine TD.q rfl .u (Ex.b1 3 rfl Try.isAgg3 rfl rfl) rfl ?_
      refine TD.run ft_prefix_ok [5] rfl rfl ?_
      refine TD.q rfl .u (Ex.b1 0 rfl Try.isAgg3 rfl rfl) rfl ?_
      obtain ⟨st19, hx20, h⟩ := Option.bind_eq_some_iff.1 h
      refine TD.c4 rfl .u (.fn Try.call84 rfl) (gOInt_spec g st11 a1.fBase 8 _ hx20) (fun _ hs => (Src.triv _)) rfl [0, 0, 0, 0] (rfl) ?_
      refine TD.nil (X.blk (X.seq (T.region rfl ?_)))
      refine TL.q rfl .u (Ex.add rfl rfl (by omega)) rfl ?_
      refine TL.run ft_prefix_ok [1] rfl rfl ?_
      refine TL.nil (X.un (TW.step (T.seq (T.region rfl ?_))))
      refine TL.run ft_prefix_ok [0] rfl rfl ?_
      refine TL.nil (X.seq (T.seq ?_))
      refine T.yes rfl (decide_eq_true (show 1 < 13 by omega)) ?_
      refine T.skip (X.seq (T.seq (T.block (T.seq (T.region rfl ?_)))))
      refine TL.q rfl .u (Ex.ixL (k := 1) (r := 2) rfl rfl rfl Try.runUnderlying145 Try.sizeOf149 (by decide) rfl) rfl ?_
      refine TL.q rfl .u (Ex.bS (us := [.pointer (some ⟨b1, 1, none⟩), .int .i64 4]) 1 rfl Try.isAgg149 Try.sizeOf149 rfl rfl rfl) rfl ?_
      refine TL.alloc rfl .u Try.zeroValue149 rfl (fun b21 => ?_)
      refine TL.st0 (cs' := #[.pointer (some ⟨b1, 1, none⟩), .int .i64 4]) rfl .u rfl rfl Try.sizeOf149 rfl rfl rfl rfl ?_
      refine TL.nil (X.seq (T.draw (.q 0 (.q 1 (.q 2 (.q 3 (.q 4 (.q 5 (.q 6 (.e 7 .nil)))))))) [0, 0, 0, 0, 0] rfl mix_prefix (NoP.blk (NoP.seq (NoP.seq (NoP.blk np_post)))) (by kernel_rfl) ?_))
      refine TD.run ft_prefix_ok [0, 1] rfl rfl ?_
      refine TD.q rfl .u (Ex.b1 0 rfl Try.isAgg147 rfl rfl) rfl ?_
      refine TD.run ft_prefix_ok [3] rfl rfl ?_
      refine TD.q rfl .u (Ex.b1 4 rfl Try.isAgg3 rfl rfl) rfl ?_
      refine TD.run ft_prefix_ok [5] rfl rfl ?_
      refine TD.q rfl .u (Ex.b1 0 rfl Try.isAgg3 rfl rfl) rfl ?_
      obtain ⟨st22, hx23, h⟩ := Option.bind_eq_some_iff.1 h
      refine TD.c5 rfl .u (.fn Try.call84 rfl) (gOInt_spec g st19 a1.fLength 4 _ hx23) (fun _ hs => (Src.triv _)) rfl [0, 0, 0, 0, 0] (rfl) ?_
      refine TD.nil (X.blk (X.seq (T.region rfl ?_)))
      refine TL.q rfl .u (Ex.add rfl rfl (by omega)) rfl ?_
      refine TL.run ft_prefix_ok [1] rfl rfl ?_
      refine TL.nil ?_
      refine X.sel [0, 1, 1, 1, 1] rfl ?_
      refine X.un (TW.step (T.seq (T.region rfl ?_)))
      refine TL.run ft_prefix_ok [0] rfl rfl ?_
      refine TL.nil (X.seq (T.seq ?_))
      refine T.yes rfl (decide_eq_true (show 2 < 13 by omega)) ?_
      refine T.skip (X.seq (T.seq (T.block (T.seq (T.region rfl ?_)))))
      refine TL.q rfl .u (Ex.ixL (k := 2) (r := 4) rfl rfl rfl Try.runUnderlying145 Try.sizeOf149 (by decide) rfl) rfl ?_
      refine TL.q rfl .u (Ex.bS (us := [.pointer (some ⟨b1, 2, none⟩), .int .i64 4]) 1 rfl Try.isAgg149 Try.sizeOf149 rfl rfl rfl) rfl ?_
      refine TL.alloc rfl .u Try.zeroValue149 rfl (fun b24 => ?_)
      refine TL.st0 (cs' := #[.pointer (some ⟨b1, 2, none⟩), .int .i64 4]) rfl .u rfl rfl Try.sizeOf149 rfl rfl rfl rfl ?_
      refine TL.nil (X.seq (T.draw (.q 0 (.q 1 (.q 2 (.q 3 (.q 4 (.q 5 (.q 6 (.e 7 .nil)))))))) [0, 0, 0, 0, 0] rfl mix_prefix (NoP.blk (NoP.seq (NoP.seq (NoP.blk np_post)))) (by kernel_rfl) ?_))
      refine TD.run ft_prefix_ok [0, 1] rfl rfl ?_
      refine TD.q rfl .u (Ex.b1 0 rfl Try.isAgg147 rfl rfl) rfl ?_
      refine TD.run ft_prefix_ok [3] rfl rfl ?_
      refine TD.q rfl .u (Ex.b1 4 rfl Try.isAgg3 rfl rfl) rfl ?_
      refine TD.run ft_prefix_ok [5] rfl rfl ?_
      refine TD.q rfl .u (Ex.b1 0 rfl Try.isAgg3 rfl rfl) rfl ?_
      obtain ⟨st25, hx26, h⟩ := Option.bind_eq_some_iff.1 h
      refine TD.c5 rfl .u (.fn Try.call84 rfl) (gOInt_spec g st22 a1.fLeader 4 _ hx26) (fun _ hs => (Src.triv _)) rfl [0, 0, 0, 0, 0] (rfl) ?_
      refine TD.nil (X.blk (X.seq (T.region rfl ?_)))
      refine TL.q rfl .u (Ex.add rfl rfl (by omega)) rfl ?_
      refine TL.run ft_prefix_ok [1] rfl rfl ?_
      refine TL.nil ?_
      refine X.sel [0, 1, 1, 1, 1] rfl ?_
      refine X.un (TW.step (T.seq (T.region rfl ?_)))
      refine TL.run ft_prefix_ok [0] rfl rfl ?_
      refine TL.nil (X.seq (T.seq ?_))
      refine T.yes rfl (decide_eq_true (show 3 < 13 by omega)) ?_
      refine T.skip (X.seq (T.seq (T.block (T.seq (T.region rfl ?_)))))
      refine TL.q rfl .u (Ex.ixL (k := 3) (r := 6) rfl rfl rfl Try.runUnderlying145 Try.sizeOf149 (by decide) rfl) rfl ?_
      refine TL.q rfl .u (Ex.bS (us := [.pointer (some ⟨b2, 0, none⟩), .int .i64 1]) 1 rfl Try.isAgg149 Try.sizeOf149 rfl rfl rfl) rfl ?_
      refine TL.alloc rfl .u Try.zeroValue149 rfl (fun b27 => ?_)
      refine TL.st0 (cs' := #[.pointer (some ⟨b2, 0, none⟩), .int .i64 1]) rfl .u rfl rfl Try.sizeOf149 rfl rfl rfl rfl ?_
      refine TL.nil (X.seq (T.draw (.q 0 (.q 1 (.q 2 (.q 3 (.q 4 (.q 5 (.q 6 (.e 7 .nil)))))))) [0, 0, 0, 0, 0] rfl mix_prefix (NoP.blk (NoP.seq (NoP.seq (NoP.blk np_post)))) (by kernel_rfl) ?_))
      refine TD.run ft_prefix_ok [0, 1] rfl rfl ?_
      refine TD.q rfl .u (Ex.b1 0 rfl Try.isAgg147 rfl rfl) rfl ?_
      refine TD.run ft_prefix_ok [3] rfl rfl ?_
      refine TD.q rfl .u (Ex.b1 3 rfl Try.isAgg3 rfl rfl) rfl ?_
      refine TD.run ft_prefix_ok [5] rfl rfl ?_
      refine TD.q rfl .u (Ex.b1 0 rfl Try.isAgg3 rfl rfl) rfl ?_
      obtain ⟨st28, hx29, h⟩ := Option.bind_eq_some_iff.1 h
      refine TD.c5 rfl .u (.fn Try.call84 rfl) (gOInt_spec g st25 2 1 _ hx29) (fun _ hs => (Src.triv _)) rfl [0, 0, 0, 0, 0] (rfl) ?_
      refine TD.nil (X.blk (X.seq (T.region rfl ?_)))
      refine TL.q rfl .u (Ex.add rfl rfl (by omega)) rfl ?_
      refine TL.run ft_prefix_ok [1] rfl rfl ?_
      refine TL.nil ?_
      refine X.sel [0, 1, 1, 1, 1] rfl ?_
      refine X.un (TW.step (T.seq (T.region rfl ?_)))
      refine TL.run ft_prefix_ok [0] rfl rfl ?_
      refine TL.nil (X.seq (T.seq ?_))
      refine T.yes rfl (decide_eq_true (show 4 < 13 by omega)) ?_
      refine T.skip (X.seq (T.seq (T.block (T.seq (T.region rfl ?_)))))
      refine TL.q rfl .u (Ex.ixL (k := 4) (r := 8) rfl rfl rfl Try.runUnderlying145 Try.sizeOf149 (by decide) rfl) rfl ?_
      refine TL.q rfl .u (Ex.bS (us := [.pointer (some ⟨b1, 3, none⟩), .int .i64 4]) 1 rfl Try.isAgg149 Try.sizeOf149 rfl rfl rfl) rfl ?_
      refine TL.alloc rfl .u Try.zeroValue149 rfl (fun b30 => ?_)
      refine TL.st0 (cs' := #[.pointer (some ⟨b1, 3, none⟩), .int .i64 4]) rfl .u rfl rfl Try.sizeOf149 rfl rfl rfl rfl ?_
      refine TL.nil (X.seq (T.draw (.q 0 (.q 1 (.q 2 (.q 3 (.q 4 (.q 5 (.q 6 (.e 7 .nil)))))))) [0, 0, 0, 0, 0] rfl mix_prefix (NoP.blk (NoP.seq (NoP.seq (NoP.blk np_post)))) (by kernel_rfl) ?_))
      refine TD.run ft_prefix_ok [0, 1] rfl rfl ?_
      refine TD.q rfl .u (Ex.b1 0 rfl Try.isAgg147 rfl rfl) rfl ?_
      refine TD.run ft_prefix_ok [3] rfl rfl ?_
      refine TD.q rfl .u (Ex.b1 4 rfl Try.isAgg3 rfl rfl) rfl ?_
      refine TD.run ft_prefix_ok [5] rfl rfl ?_
      refine TD.q rfl .u (Ex.b1 0 rfl Try.isAgg3 rfl rfl) rfl ?_
      obtain ⟨st31, hx32, h⟩ := Option.bind_eq_some_iff.1 h
      refine TD.c5 rfl .u (.fn Try.call84 rfl) (gOInt_spec g st28 (IntKind.i32.wrap (IntKind.u32.wrap a1.fSum)) 4 _ hx32) (fun _ hs => (Src.triv _)) rfl [0, 0, 0, 0, 0] (rfl) ?_
      refine TD.nil (X.blk (X.seq (T.region rfl ?_)))
      refine TL.q rfl .u (Ex.add rfl rfl (by omega)) rfl ?_
      refine TL.run ft_prefix_ok [1] rfl rfl ?_
      refine TL.nil ?_
      refine X.sel [0, 1, 1, 1, 1] rfl ?_
      refine X.un (TW.step (T.seq (T.region rfl ?_)))
      refine TL.run ft_prefix_ok [0] rfl rfl ?_
      refine TL.nil (X.seq (T.seq ?_))
      refine T.yes rfl (decide_eq_true (show 5 < 13 by omega)) ?_
      refine T.skip (X.seq (T.seq (T.block (T.seq (T.region rfl ?_)))))
      refine TL.q rfl .u (Ex.ixL (k := 5) (r := 10) rfl rfl rfl Try.runUnderlying145 Try.sizeOf149 (by decide) rfl) rfl ?_
      refine TL.q rfl .u (Ex.bS (us := [.pointer (some ⟨b1, 4, none⟩), .int .i64 2]) 1 rfl Try.isAgg149 Try.sizeOf149 rfl rfl rfl) rfl ?_
      refine TL.alloc rfl .u Try.zeroValue149 rfl (fun b33 => ?_)
      refine TL.st0 (cs' := #[.pointer (some ⟨b1, 4, none⟩), .int .i64 2]) rfl .u rfl rfl Try.sizeOf149 rfl rfl rfl rfl ?_
      refine TL.nil (X.seq (T.draw (.q 0 (.q 1 (.q 2 (.q 3 (.q 4 (.q 5 (.q 6 (.e 7 .nil)))))))) [0, 0, 0, 0, 0] rfl mix_prefix (NoP.blk (NoP.seq (NoP.seq (NoP.blk np_post)))) (by kernel_rfl) ?_))
      refine TD.run ft_prefix_ok [0, 1] rfl rfl ?_
      refine TD.q rfl .u (Ex.b1 0 rfl Try.isAgg147 rfl rfl) rfl ?_
      refine TD.run ft_prefix_ok [3] rfl rfl ?_
      refine TD.q rfl .u (Ex.b1 4 rfl Try.isAgg3 rfl rfl) rfl ?_
      refine TD.run ft_prefix_ok [5] rfl rfl ?_
      refine TD.q rfl .u (Ex.b1 0 rfl Try.isAgg3 rfl rfl) rfl ?_
      obtain ⟨st34, hx35, h⟩ := Option.bind_eq_some_iff.1 h
      refine TD.c5 rfl .u (.fn Try.call84 rfl) (gOInt_spec g st31 a1.fAttr 2 _ hx35) (fun _ hs => (Src.triv _)) rfl [0, 0, 0, 0, 0] (rfl) ?_
      refine TD.nil (X.blk (X.seq (T.region rfl ?_)))
      refine TL.q rfl .u (Ex.add rfl rfl (by omega)) rfl ?_
      refine TL.run ft_prefix_ok [1] rfl rfl ?_
      refine TL.nil ?_
      refine X.sel [0, 1, 1, 1, 1] rfl ?_
      refine X.un (TW.step (T.seq (T.region rfl ?_)))
      refine TL.run ft_prefix_ok [0] rfl rfl ?_
      refine TL.nil (X.seq (T.seq ?_))
      refine T.yes rfl (decide_eq_true (show 6 < 13 by omega)) ?_
      refine T.skip (X.seq (T.seq (T.block (T.seq (T.region rfl ?_)))))
      refine TL.q rfl .u (Ex.ixL (k := 6) (r := 12) rfl rfl rfl Try.runUnderlying145 Try.sizeOf149 (by decide) rfl) rfl ?_
      refine TL.q rfl .u (Ex.bS (us := [.pointer (some ⟨b1, 5, none⟩), .int .i64 4]) 1 rfl Try.isAgg149 Try.sizeOf149 rfl rfl rfl) rfl ?_
      refine TL.alloc rfl .u Try.zeroValue149 rfl (fun b36 => ?_)
      refine TL.st0 (cs' := #[.pointer (some ⟨b1, 5, none⟩), .int .i64 4]) rfl .u rfl rfl Try.sizeOf149 rfl rfl rfl rfl ?_
      refine TL.nil (X.seq (T.draw (.q 0 (.q 1 (.q 2 (.q 3 (.q 4 (.q 5 (.q 6 (.e 7 .nil)))))))) [0, 0, 0, 0, 0] rfl mix_prefix (NoP.blk (NoP.seq (NoP.seq (NoP.blk np_post)))) (by kernel_rfl) ?_))
      refine TD.run ft_prefix_ok [0, 1] rfl rfl ?_
      refine TD.q rfl .u (Ex.b1 0 rfl Try.isAgg147 rfl rfl) rfl ?_
      refine TD.run ft_prefix_ok [3] rfl rfl ?_
      refine TD.q rfl .u (Ex.b1 4 rfl Try.isAgg3 rfl rfl) rfl ?_
      refine TD.run ft_prefix_ok [5] rfl rfl ?_
      refine TD.q rfl .u (Ex.b1 0 rfl Try.isAgg3 rfl rfl) rfl ?_
      obtain ⟨st37, hx38, h⟩ := Option.bind_eq_some_iff.1 h
      refine TD.c5 rfl .u (.fn Try.call84 rfl) (gOInt_spec g st34 a1.fLast 4 _ hx38) (fun _ hs => (Src.triv _)) rfl [0, 0, 0, 0, 0] (rfl) ?_
      refine TD.nil (X.blk (X.seq (T.region rfl ?_)))
      refine TL.q rfl .u (Ex.add rfl rfl (by omega)) rfl ?_
      refine TL.run ft_prefix_ok [1] rfl rfl ?_
      refine TL.nil ?_
      refine X.sel [0, 1, 1, 1, 1] rfl ?_
      refine X.un (TW.step (T.seq (T.region rfl ?_)))
      refine TL.run ft_prefix_ok [0] rfl rfl ?_
      refine TL.nil (X.seq (T.seq ?_))
      refine T.yes rfl (decide_eq_true (show 7 < 13 by omega)) ?_
      refine T.skip (X.seq (T.seq (T.block (T.seq (T.region rfl ?_)))))
      refine TL.q rfl .u (Ex.ixL (k := 7) (r := 14) rfl rfl rfl Try.runUnderlying145 Try.sizeOf149 (by decide) rfl) rfl ?_
      refine TL.q rfl .u (Ex.bS (us := [.pointer (some ⟨b1, 6, none⟩), .int .i64 8]) 1 rfl Try.isAgg149 Try.sizeOf149 rfl rfl rfl) rfl ?_
      refine TL.alloc rfl .u Try.zeroValue149 rfl (fun b39 => ?_)
      refine TL.st0 (cs' := #[.pointer (some ⟨b1, 6, none⟩), .int .i64 8]) rfl .u rfl rfl Try.sizeOf149 rfl rfl rfl rfl ?_
      refine TL.nil (X.seq (T.draw (.q 0 (.q 1 (.q 2 (.q 3 (.q 4 (.q 5 (.q 6 (.e 7 .nil)))))))) [0, 0, 0, 0, 0] rfl mix_prefix (NoP.blk (NoP.seq (NoP.seq (NoP.blk np_post)))) (by kernel_rfl) ?_))
      refine TD.run ft_prefix_ok [0, 1] rfl rfl ?_
      refine TD.q rfl .u (Ex.b1 0 rfl Try.isAgg147 rfl rfl) rfl ?_
      refine TD.run ft_prefix_ok [3] rfl rfl ?_
      refine TD.q rfl .u (Ex.b1 4 rfl Try.isAgg3 rfl rfl) rfl ?_
      refine TD.run ft_prefix_ok [5] rfl rfl ?_
      refine TD.q rfl .u (Ex.b1 0 rfl Try.isAgg3 rfl rfl) rfl ?_
      obtain ⟨st40, hx41, h⟩ := Option.bind_eq_some_iff.1 h
      refine TD.c5 rfl .u (.fn Try.call84 rfl) (gOInt_spec g st37 a1.fFirst 8 _ hx41) (fun _ hs => (Src.triv _)) rfl [0, 0, 0, 0, 0] (rfl) ?_
      refine TD.nil (X.blk (X.seq (T.region rfl ?_)))
      refine TL.q rfl .u (Ex.add rfl rfl (by omega)) rfl ?_
      refine TL.run ft_prefix_ok [1] rfl rfl ?_
      refine TL.nil ?_
      refine X.sel [0, 1, 1, 1, 1] rfl ?_
      refine X.un (TW.step (T.seq (T.region rfl ?_)))
      refine TL.run ft_prefix_ok [0] rfl rfl ?_
      refine TL.nil (X.seq (T.seq ?_))
      refine T.yes rfl (decide_eq_true (show 8 < 13 by omega)) ?_
      refine T.skip (X.seq (T.seq (T.block (T.seq (T.region rfl ?_)))))
      refine TL.q rfl .u (Ex.ixL (k := 8) (r := 16) rfl rfl rfl Try.runUnderlying145 Try.sizeOf149 (by decide) rfl) rfl ?_
      refine TL.q rfl .u (Ex.bS (us := [.pointer (some ⟨b1, 7, none⟩), .int .i64 8]) 1 rfl Try.isAgg149 Try.sizeOf149 rfl rfl rfl) rfl ?_
      refine TL.alloc rfl .u Try.zeroValue149 rfl (fun b42 => ?_)
      refine TL.st0 (cs' := #[.pointer (some ⟨b1, 7, none⟩), .int .i64 8]) rfl .u rfl rfl Try.sizeOf149 rfl rfl rfl rfl ?_
      refine TL.nil (X.seq (T.draw (.q 0 (.q 1 (.q 2 (.q 3 (.q 4 (.q 5 (.q 6 (.e 7 .nil)))))))) [0, 0, 0, 0, 0] rfl mix_prefix (NoP.blk (NoP.seq (NoP.seq (NoP.blk np_post)))) (by kernel_rfl) ?_))
      refine TD.run ft_prefix_ok [0, 1] rfl rfl ?_
      refine TD.q rfl .u (Ex.b1 0 rfl Try.isAgg147 rfl rfl) rfl ?_
      refine TD.run ft_prefix_ok [3] rfl rfl ?_
      refine TD.q rfl .u (Ex.b1 4 rfl Try.isAgg3 rfl rfl) rfl ?_
      refine TD.run ft_prefix_ok [5] rfl rfl ?_
      refine TD.q rfl .u (Ex.b1 0 rfl Try.isAgg3 rfl rfl) rfl ?_
      obtain ⟨st43, hx44, h⟩ := Option.bind_eq_some_iff.1 h
      refine TD.c5 rfl .u (.fn Try.call84 rfl) (gOInt_spec g st40 a1.fMax 8 _ hx44) (fun _ hs => (Src.triv _)) rfl [0, 0, 0, 0, 0] (rfl) ?_
      refine TD.nil (X.blk (X.seq (T.region rfl ?_)))
      refine TL.q rfl .u (Ex.add rfl rfl (by omega)) rfl ?_
      refine TL.run ft_prefix_ok [1] rfl rfl ?_
      refine TL.nil ?_
      refine X.sel [0, 1, 1, 1, 1] rfl ?_
      refine X.un (TW.step (T.seq (T.region rfl ?_)))
      refine TL.run ft_prefix_ok [0] rfl rfl ?_
      refine TL.nil (X.seq (T.seq ?_))
      refine T.yes rfl (decide_eq_true (show 9 < 13 by omega)) ?_
      refine T.skip (X.seq (T.seq (T.block (T.seq (T.region rfl ?_)))))
      refine TL.q rfl .u (Ex.ixL (k := 9) (r := 18) rfl rfl rfl Try.runUnderlying145 Try.sizeOf149 (by decide) rfl) rfl ?_
      refine TL.q rfl .u (Ex.bS (us := [.pointer (some ⟨b1, 8, none⟩), .int .i64 8]) 1 rfl Try.isAgg149 Try.sizeOf149 rfl rfl rfl) rfl ?_
      refine TL.alloc rfl .u Try.zeroValue149 rfl (fun b45 => ?_)
      refine TL.st0 (cs' := #[.pointer (some ⟨b1, 8, none⟩), .int .i64 8]) rfl .u rfl rfl Try.sizeOf149 rfl rfl rfl rfl ?_
      refine TL.nil (X.seq (T.draw (.q 0 (.q 1 (.q 2 (.q 3 (.q 4 (.q 5 (.q 6 (.e 7 .nil)))))))) [0, 0, 0, 0, 0] rfl mix_prefix (NoP.blk (NoP.seq (NoP.seq (NoP.blk np_post)))) (by kernel_rfl) ?_))
      refine TD.run ft_prefix_ok [0, 1] rfl rfl ?_
      refine TD.q rfl .u (Ex.b1 0 rfl Try.isAgg147 rfl rfl) rfl ?_
      refine TD.run ft_prefix_ok [3] rfl rfl ?_
      refine TD.q rfl .u (Ex.b1 4 rfl Try.isAgg3 rfl rfl) rfl ?_
      refine TD.run ft_prefix_ok [5] rfl rfl ?_
      refine TD.q rfl .u (Ex.b1 0 rfl Try.isAgg3 rfl rfl) rfl ?_
      obtain ⟨st46, hx47, h⟩ := Option.bind_eq_some_iff.1 h
      refine TD.c5 rfl .u (.fn Try.call84 rfl) (gOInt_spec g st43 a1.fProducer 8 _ hx47) (fun _ hs => (Src.triv _)) rfl [0, 0, 0, 0, 0] (rfl) ?_
      refine TD.nil (X.blk (X.seq (T.region rfl ?_)))
      refine TL.q rfl .u (Ex.add rfl rfl (by omega)) rfl ?_
      refine TL.run ft_prefix_ok [1] rfl rfl ?_
      refine TL.nil ?_
      refine X.sel [0, 1, 1, 1, 1] rfl ?_
      refine X.un (TW.step (T.seq (T.region rfl ?_)))
      refine TL.run ft_prefix_ok [0] rfl rfl ?_
      refine TL.nil (X.seq (T.seq ?_))
      refine T.yes rfl (decide_eq_true (show 10 < 13 by omega)) ?_
      refine T.skip (X.seq (T.seq (T.block (T.seq (T.region rfl ?_)))))
      refine TL.q rfl .u (Ex.ixL (k := 10) (r := 20) rfl rfl rfl Try.runUnderlying145 Try.sizeOf149 (by decide) rfl) rfl ?_
      refine TL.q rfl .u (Ex.bS (us := [.pointer (some ⟨b1, 9, none⟩), .int .i64 2]) 1 rfl Try.isAgg149 Try.sizeOf149 rfl rfl rfl) rfl ?_
      refine TL.alloc rfl .u Try.zeroValue149 rfl (fun b48 => ?_)
      refine TL.st0 (cs' := #[.pointer (some ⟨b1, 9, none⟩), .int .i64 2]) rfl .u rfl rfl Try.sizeOf149 rfl rfl rfl rfl ?_
      refine TL.nil (X.seq (T.draw (.q 0 (.q 1 (.q 2 (.q 3 (.q 4 (.q 5 (.q 6 (.e 7 .nil)))))))) [0, 0, 0, 0, 0] rfl mix_prefix (NoP.blk (NoP.seq (NoP.seq (NoP.blk np_post)))) (by kernel_rfl) ?_))
      refine TD.run ft_prefix_ok [0, 1] rfl rfl ?_
      refine TD.q rfl .u (Ex.b1 0 rfl Try.isAgg147 rfl rfl) rfl ?_
      refine TD.run ft_prefix_ok [3] rfl rfl ?_
      refine TD.q rfl .u (Ex.b1 4 rfl Try.isAgg3 rfl rfl) rfl ?_
      refine TD.run ft_prefix_ok [5] rfl rfl ?_
      refine TD.q rfl .u (Ex.b1 0 rfl Try.isAgg3 rfl rfl) rfl ?_
      obtain ⟨st49, hx50, h⟩ := Option.bind_eq_some_iff.1 h
      refine TD.c5 rfl .u (.fn Try.call84 rfl) (gOInt_spec g st46 a1.fEpoch 2 _ hx50) (fun _ hs => (Src.triv _)) rfl [0, 0, 0, 0, 0] (rfl) ?_
      refine TD.nil (X.blk (X.seq (T.region rfl ?_)))
      refine TL.q rfl .u (Ex.add rfl rfl (by omega)) rfl ?_
      refine TL.run ft_prefix_ok [1] rfl rfl ?_
      refine TL.nil ?_
      refine X.sel [0, 1, 1, 1, 1] rfl ?_
      refine X.un (TW.step (T.seq (T.region rfl ?_)))
      refine TL.run ft_prefix_ok [0] rfl rfl ?_
      refine TL.nil (X.seq (T.seq ?_))
      refine T.yes rfl (decide_eq_true (show 11 < 13 by omega)) ?_
      refine T.skip (X.seq (T.seq (T.block (T.seq (T.region rfl ?_)))))
      refine TL.q rfl .u (Ex.ixL (k := 11) (r := 22) rfl rfl rfl Try.runUnderlying145 Try.sizeOf149 (by decide) rfl) rfl ?_
      refine TL.q rfl .u (Ex.bS (us := [.pointer (some ⟨b1, 10, none⟩), .int .i64 4]) 1 rfl Try.isAgg149 Try.sizeOf149 rfl rfl rfl) rfl ?_
      refine TL.alloc rfl .u Try.zeroValue149 rfl (fun b51 => ?_)
      refine TL.st0 (cs' := #[.pointer (some ⟨b1, 10, none⟩), .int .i64 4]) rfl .u rfl rfl Try.sizeOf149 rfl rfl rfl rfl ?_
      refine TL.nil (X.seq (T.draw (.q 0 (.q 1 (.q 2 (.q 3 (.q 4 (.q 5 (.q 6 (.e 7 .nil)))))))) [0, 0, 0, 0, 0] rfl mix_prefix (NoP.blk (NoP.seq (NoP.seq (NoP.blk np_post)))) (by kernel_rfl) ?_))
      refine TD.run ft_prefix_ok [0, 1] rfl rfl ?_
      refine TD.q rfl .u (Ex.b1 0 rfl Try.isAgg147 rfl rfl) rfl ?_
      refine TD.run ft_prefix_ok [3] rfl rfl ?_
      refine TD.q rfl .u (Ex.b1 4 rfl Try.isAgg3 rfl rfl) rfl ?_
      refine TD.run ft_prefix_ok [5] rfl rfl ?_
      refine TD.q rfl .u (Ex.b1 0 rfl Try.isAgg3 rfl rfl) rfl ?_
      obtain ⟨st52, hx53, h⟩ := Option.bind_eq_some_iff.1 h
      refine TD.c5 rfl .u (.fn Try.call84 rfl) (gOInt_spec g st49 a1.fSequence 4 _ hx53) (fun _ hs => (Src.triv _)) rfl [0, 0, 0, 0, 0] (rfl) ?_
      refine TD.nil (X.blk (X.seq (T.region rfl ?_)))
      refine TL.q rfl .u (Ex.add rfl rfl (by omega)) rfl ?_
      refine TL.run ft_prefix_ok [1] rfl rfl ?_
      refine TL.nil ?_
      refine X.sel [0, 1, 1, 1, 1] rfl ?_
      refine X.un (TW.step (T.seq (T.region rfl ?_)))
      refine TL.run ft_prefix_ok [0] rfl rfl ?_
      refine TL.nil (X.seq (T.seq ?_))
      refine T.yes rfl (decide_eq_true (show 12 < 13 by omega)) ?_
      refine T.skip (X.seq (T.seq (T.block (T.seq (T.region rfl ?_)))))
      refine TL.q rfl .u (Ex.ixL (k := 12) (r := 24) rfl rfl rfl Try.runUnderlying145 Try.sizeOf149 (by decide) rfl) rfl ?_
      refine TL.q rfl .u (Ex.bS (us := [.pointer (some ⟨b1, 11, none⟩), .int .i64 4]) 1 rfl Try.isAgg149 Try.sizeOf149 rfl rfl rfl) rfl ?_
      refine TL.alloc rfl .u Try.zeroValue149 rfl (fun b54 => ?_)
      refine TL.st0 (cs' := #[.pointer (some ⟨b1, 11, none⟩), .int .i64 4]) rfl .u rfl rfl Try.sizeOf149 rfl rfl rfl rfl ?_
      refine TL.nil (X.seq (T.draw (.q 0 (.q 1 (.q 2 (.q 3 (.q 4 (.q 5 (.q 6 (.e 7 .nil)))))))) [0, 0, 0, 0, 0] rfl mix_prefix (NoP.blk (NoP.seq (NoP.seq (NoP.blk np_post)))) (by kernel_rfl) ?_))
      refine TD.run ft_prefix_ok [0, 1] rfl rfl ?_
      refine TD.q rfl .u (Ex.b1 0 rfl Try.isAgg147 rfl rfl) rfl ?_
      refine TD.run ft_prefix_ok [3] rfl rfl ?_
      refine TD.q rfl .u (Ex.b1 4 rfl Try.isAgg3 rfl rfl) rfl ?_
      refine TD.run ft_prefix_ok [5] rfl rfl ?_
      refine TD.q rfl .u (Ex.b1 0 rfl Try.isAgg3 rfl rfl) rfl ?_
      obtain ⟨st55, hx56, h⟩ := Option.bind_eq_some_iff.1 h
      refine TD.c5 rfl .u (.fn Try.call84 rfl) (gOInt_spec g st52 a1.fCount 4 _ hx56) (fun _ hs => (Src.triv _)) rfl [0, 0, 0, 0, 0] (rfl) ?_
      refine TD.nil (X.blk (X.seq (T.region rfl ?_)))
      refine TL.q rfl .u (Ex.add rfl rfl (by omega)) rfl ?_
      refine TL.run ft_prefix_ok [1] rfl rfl ?_
      refine TL.nil ?_
      refine X.sel [0, 1, 1, 1, 1] rfl ?_
      refine X.un (TW.step (T.seq (T.region rfl ?_)))
      refine TL.run ft_prefix_ok [0] rfl rfl ?_
      refine TL.nil (X.seq (T.seq ?_))
      refine T.no rfl (decide_eq_false (show ¬ (13 < 13) by omega)) ?_
      obtain rfl := Option.some.inj h
      exact T.exit (X.exs (X.exs (X.ex (X.done0 [4] Try.results41 ⟨rfl, rfl, rfl⟩ (by rfl) (.inr rfl)))))
def f_prefix_Read (st : I)  : Option (Pfx × I) := (gInt st 8).bind fun (x6, st7) => (gInt st7 4).bind fun (x10, st11) => (gInt st11 4).bind fun (x14, st15) => (gInt st15 1).bind fun (x18, st19) => (gInt st19 4).bind fun (x22, st23) => (gInt st23 2).bind fun (x26, st27) => (gInt st27 4).bind fun (x30, st31) => (gInt st31 8).bind fun (x34, st35) => (gInt st35 8).bind fun (x38, st39) => (gInt st39 8).bind fun (x42, st43) => (gInt st43 2).bind fun (x46, st47) => (gInt st47 4).bind fun (x50, st51) => (gInt st51 4).bind fun (x54, st55) => (gErr st55).bind fun (x57, st58) => (if x57 = 0 then ((if x18 = 2 then ((if x10 < 49 then ((gIFail st58 4).bind fun st164 => some st164) else ((if x54 < 0 then ((gIFail st58 10).bind fun st172 => some st172) else some st58).bind fun st169 => some st169)).bind fun st161 => some st161) else ((gIFail st58 6).bind fun st174 => some st174)).bind fun st147 => some st147) else some st58).bind fun st117 => (gErr st117).bind fun (x176, st177) => if x176 = 0 then (some ((⟨x6, x10, x14, (Go.bits .and .i64 x22 4294967295), x26, x30, x34, x38, x42, x46, x50, x54⟩ : Pfx), st177)) else (some ((⟨0, 0, 0, 0, 0, 0, 0, 0, 0, 0, 0, 0⟩ : Pfx), st177))
set_option maxRecDepth 100000 in
set_option maxHeartbeats 4000000 in
theorem f_prefix_Read_spec (g : Nat) (st : I)  (r : Pfx × I) (h : f_prefix_Read st  = some r) : SpecX Try.prog 59 #[.pointer (some ⟨g, 0, none⟩)] .triv (InR g st) (fun v A' N => v = .agg #[.int .i64 r.1.fBase, .int .i64 r.1.fLength, .int .i64 r.1.fLeader, .int .i64 r.1.fSum, .int .i64 r.1.fAttr, .int .i64 r.1.fLast, .int .i64 r.1.fFirst, .int .i64 r.1.fMax, .int .i64 r.1.fProducer, .int .i64 r.1.fEpoch, .int .i64 r.1.fSequence, .int .i64 r.1.fCount] ∧ A' = InR g r.2 ∧ N = []) := by
  refine enterA Try.func59 rfl Try.ntmps59 rfl ?_
  intro F w hX
  unfold f_prefix_Read at h
  refine T.seq (T.region rfl ?_)
  refine TL.alloc rfl .u Try.zeroValue92 rfl (fun b1 => ?_)
  refine TL.nil (X.seq (T.seq (T.region rfl ?_)))
  refine TL.alloc rfl .u Try.zeroValue92 rfl (fun b2 => ?_)
  refine TL.nil (X.seq (T.seq (T.region rfl ?_)))
  refine TL.alloc rfl .u Try.zeroValue3 rfl (fun b3 => ?_)
  refine TL.st0 (cs' := #[.int .i64 0]) rfl .u rfl rfl Try.sizeOf3 rfl rfl rfl rfl ?_
  refine TL.nil (X.seq (T.seq (T.seq (T.region rfl ?_))))
  refine TL.cge rfl .u (.fn Try.call83 rfl) (f_prefix_PrefixFields_spec b2 b3 () rfl) (fun _ hs => RX.reads_triv _ _) rfl ?_
  rintro _ _ _ ⟨b4, rfl, rfl, rfl⟩
  refine TL.sel [0, 0, 0, 0, 0] rfl ?_
  refine TL.q rfl .u (Ex.lenS rfl Try.runUnderlying145) rfl ?_
  refine TL.run ft_prefix_ok [2] rfl rfl ?_
  refine TL.nil (X.seq (T.block ?_))
  refine T.unroll0 (TW.step (T.seq (T.region rfl ?_)))
  refine TL.run ft_prefix_ok [0] rfl rfl ?_
  refine TL.nil (X.seq (T.seq ?_))
  refine T.yes rfl (decide_eq_true (show 0 < 13 by omega)) ?_
  refine T.skip (X.seq (T.seq (T.block (T.seq (T.region rfl ?_)))))
  refine TL.q rfl .u (Ex.ixL (k := 0) (r := 0) rfl rfl rfl Try.runUnderlying145 Try.sizeOf149 (by decide) rfl) rfl ?_
  refine TL.q rfl .u (Ex.bS (us := [.pointer (some ⟨b2, 0, none⟩), .int .i64 8]) 0 rfl Try.isAgg149 Try.sizeOf149 rfl rfl rfl) rfl ?_
  refine TL.alloc rfl .u Try.zeroValue149 rfl (fun b5 => ?_)
  refine TL.st0 (cs' := #[.pointer (some ⟨b2, 0, none⟩), .int .i64 8]) rfl .u rfl rfl Try.sizeOf149 rfl rfl rfl rfl ?_
  refine TL.nil (X.seq (T.draw (.q 0 (.q 1 (.q 2 (.q 3 (.q 4 (.e 5 (.q 6 (.e 7 .nil)))))))) [0, 0, 0, 1] rfl mix_prefix (NoP.blk (NoP.seq (NoP.seq (NoP.blk (NoP.seq np_post))))) (by kernel_rfl) ?_))
  refine TD.run ft_prefix_ok [0] rfl rfl ?_
  refine TD.q rfl .u (Ex.b1 0 rfl Try.isAgg147 rfl rfl) rfl ?_
  refine TD.run ft_prefix_ok [2, 3] rfl rfl ?_
  refine TD.q rfl .u (Ex.b1 0 rfl Try.isAgg3 rfl rfl) rfl ?_
  obtain ⟨⟨x6, st7⟩, hx8, h⟩ := Option.bind_eq_some_iff.1 h
  try dsimp only at h
  refine TD.c5 rfl .u (.fn Try.call71 rfl) (gInt_spec g st 8 _ hx8) (fun _ hs => (Src.triv _)) rfl [0, 0, 0, 1] (rfl) ?_
  refine TD.run ft_prefix_ok [6] rfl rfl ?_
  refine TD.st3 (cs' := #[.int .i64 x6, .int .i64 0, .int .i64 0, .int .i64 0, .int .i64 0, .int .i64 0, .int .i64 0, .int .i64 0, .int .i64 0, .int .i64 0, .int .i64 0, .int .i64 0]) rfl .u rfl rfl Try.sizeOf3 rfl rfl rfl rfl [0, 0, 0, 1] (rfl) ?_
  refine TD.nil (X.blk (X.seq (T.region rfl ?_)))
  refine TL.q rfl .u (Ex.add rfl rfl (by omega)) rfl ?_
  refine TL.run ft_prefix_ok [1] rfl rfl ?_
  refine TL.nil (X.un (TW.step (T.seq (T.region rfl ?_))))
  refine TL.run ft_prefix_ok [0] rfl rfl ?_
  refine TL.nil (X.seq (T.seq ?_))
  refine T.yes rfl (decide_eq_true (show 1 < 13 by omega)) ?_
  refine T.skip (X.seq (T.seq (T.block (T.seq (T.region rfl ?_)))))
  refine TL.q rfl .u (Ex.ixL (k := 1) (r := 2) rfl rfl rfl Try.runUnderlying145 Try.sizeOf149 (by decide) rfl) rfl ?_
  refine TL.q rfl .u (Ex.bS (us := [.pointer (some ⟨b2, 1, none⟩), .int .i64 4]) 1 rfl Try.isAgg149 Try.sizeOf149 rfl rfl rfl) rfl ?_
  refine TL.alloc rfl .u Try.zeroValue149 rfl (fun b9 => ?_)
  refine TL.st0 (cs' := #[.pointer (some ⟨b2, 1, none⟩), .int .i64 4]) rfl .u rfl rfl Try.sizeOf149 rfl rfl rfl rfl ?_
  refine TL.nil (X.seq (T.draw (.q 0 (.q 1 (.q 2 (.q 3 (.q 4 (.e 5 (.q 6 (.e 7 .nil)))))))) [0, 0, 0, 0, 1] rfl mix_prefix (NoP.blk (NoP.seq (NoP.seq (NoP.blk (NoP.seq np_post))))) (by kernel_rfl) ?_))
  refine TD.run ft_prefix_ok [0] rfl rfl ?_
  refine TD.q rfl .u (Ex.b1 0 rfl Try.isAgg147 rfl rfl) rfl ?_
  refine TD.run ft_prefix_ok [2, 3] rfl rfl ?_
  refine TD.q rfl .u (Ex.b1 0 rfl Try.isAgg3 rfl rfl) rfl ?_
  obtain ⟨⟨x10, st11⟩, hx12, h⟩ := Option.bind_eq_some_iff.1 h
  try dsimp only at h
  refine TD.c6 rfl .u (.fn Try.call71 rfl) (gInt_spec g st7 4 _ hx12) (fun _ hs => (Src.triv _)) rfl [0, 0, 0, 0, 1] (rfl) ?_
  refine TD.run ft_prefix_ok [6] rfl rfl ?_
  refine TD.st4 (cs' := #[.int .i64 x6, .int .i64 x10, .int .i64 0, .int .i64 0, .int .i64 0, .int .i64 0, .int .i64 0, .int .i64 0, .int .i64 0, .int .i64 0, .int .i64 0, .int .i64 0]) rfl .u rfl rfl Try.sizeOf3 rfl rfl rfl rfl [0, 0, 0, 0, 1] (rfl) ?_
  refine TD.nil (X.blk (X.seq (T.region rfl ?_)))
  refine TL.q rfl .u (Ex.add rfl rfl (by omega)) rfl ?_
  refine TL.run ft_prefix_ok [1] rfl rfl ?_
  refine TL.nil ?_
  refine X.sel [0, 1, 1, 1, 1, 1] rfl ?_
  refine X.un (TW.step (T.seq (T.region rfl ?_)))
  refine TL.run ft_prefix_ok [0] rfl rfl ?_
  refine TL.nil (X.seq (T.seq ?_))
  refine T.yes rfl (decide_eq_true (show 2 < 13 by omega)) ?_
  refine T.skip (X.seq (T.seq (T.block (T.seq (T.region rfl ?_)))))
  refine TL.q rfl .u (Ex.ixL (k := 2) (r := 4) rfl rfl rfl Try.runUnderlying145 Try.sizeOf149 (by decide) rfl) rfl ?_
  refine TL.q rfl .u (Ex.bS (us := [.pointer (some ⟨b2, 2, none⟩), .int .i64 4]) 1 rfl Try.isAgg149 Try.sizeOf149 rfl rfl rfl) rfl ?_
  refine TL.alloc rfl .u Try.zeroValue149 rfl (fun b13 => ?_)
  refine TL.st0 (cs' := #[.pointer (some ⟨b2, 2, none⟩), .int .i64 4]) rfl .u rfl rfl Try.sizeOf149 rfl rfl rfl rfl ?_
  refine TL.nil (X.seq (T.draw (.q 0 (.q 1 (.q 2 (.q 3 (.q 4 (.e 5 (.q 6 (.e 7 .nil)))))))) [0, 0, 0, 0, 1] rfl mix_prefix (NoP.blk (NoP.seq (NoP.seq (NoP.blk (NoP.seq np_post))))) (by kernel_rfl) ?_))
  refine TD.run ft_prefix_ok [0] rfl rfl ?_
  refine TD.q rfl .u (Ex.b1 0 rfl Try.isAgg147 rfl rfl) rfl ?_
  refine TD.run ft_prefix_ok [2, 3] rfl rfl ?_
  refine TD.q rfl .u (Ex.b1 0 rfl Try.isAgg3 rfl rfl) rfl ?_
  obtain ⟨⟨x14, st15⟩, hx16, h⟩ := Option.bind_eq_some_iff.1 h
  try dsimp only at h
  refine TD.c6 rfl .u (.fn Try.call71 rfl) (gInt_spec g st11 4 _ hx16) (fun _ hs => (Src.triv _)) rfl [0, 0, 0, 0, 1] (rfl) ?_
  refine TD.run ft_prefix_ok [6] rfl rfl ?_
  refine TD.st4 (cs' := #[.int .i64 x6, .int .i64 x10, .int .i64 x14, .int .i64 0, .int .i64 0, .int .i64 0, .int .i64 0, .int .i64 0, .int .i64 0, .int .i64 0, .int .i64 0, .int .i64 0]) rfl .u rfl rfl Try.sizeOf3 rfl rfl rfl rfl [0, 0, 0, 0, 1] (rfl) ?_
  refine TD.nil (X.blk (X.seq (T.region rfl ?_)))
  refine TL.q rfl .u (Ex.add rfl rfl (by omega)) rfl ?_
  refine TL.run ft_prefix_ok [1] rfl rfl ?_
  refine TL.nil ?_
  refine X.sel [0, 1, 1, 1, 1, 1] rfl ?_
  refine X.un (TW.step (T.seq (T.region rfl ?_)))
  refine TL.run ft_prefix_ok [0] rfl rfl ?_
  refine TL.nil (X.seq (T.seq ?_))
  refine T.yes rfl (decide_eq_true (show 3 < 13 by omega)) ?_
  refine T.skip (X.seq (T.seq (T.block (T.seq (T.region rfl ?_)))))
  refine TL.q rfl .u (Ex.ixL (k := 3) (r := 6) rfl rfl rfl Try.runUnderlying145 Try.sizeOf149 (by decide) rfl) rfl ?_
  refine TL.q rfl .u (Ex.bS (us := [.pointer (some ⟨b3, 0, none⟩), .int .i64 1]) 1 rfl Try.isAgg149 Try.sizeOf149 rfl rfl rfl) rfl ?_
  refine TL.alloc rfl .u Try.zeroValue149 rfl (fun b17 => ?_)
  refine TL.st0 (cs' := #[.pointer (some ⟨b3, 0, none⟩), .int .i64 1]) rfl .u rfl rfl Try.sizeOf149 rfl rfl rfl rfl ?_
  refine TL.nil (X.seq (T.draw (.q 0 (.q 1 (.q 2 (.q 3 (.q 4 (.e 5 (.q 6 (.e 7 .nil)))))))) [0, 0, 0, 1, 1] rfl mix_prefix (NoP.blk (NoP.seq (NoP.seq (NoP.blk (NoP.seq np_post))))) (by kernel_rfl) ?_))
  refine TD.run ft_prefix_ok [0] rfl rfl ?_
  refine TD.q rfl .u (Ex.b1 0 rfl Try.isAgg147 rfl rfl) rfl ?_
  refine TD.run ft_prefix_ok [2, 3] rfl rfl ?_
  refine TD.q rfl .u (Ex.b1 0 rfl Try.isAgg3 rfl rfl) rfl ?_
  obtain ⟨⟨x18, st19⟩, hx20, h⟩ := Option.bind_eq_some_iff.1 h
  try dsimp only at h
  refine TD.c6 rfl .u (.fn Try.call71 rfl) (gInt_spec g st15 1 _ hx20) (fun _ hs => (Src.triv _)) rfl [0, 0, 0, 1, 1] (rfl) ?_
  refine TD.run ft_prefix_ok [6] rfl rfl ?_
  refine TD.st3 (cs' := #[.int .i64 x18]) rfl .u rfl rfl Try.sizeOf3 rfl rfl rfl rfl [0, 0, 0, 1, 1] (rfl) ?_
  refine TD.nil (X.blk (X.seq (T.region rfl ?_)))
  refine TL.q rfl .u (Ex.add rfl rfl (by omega)) rfl ?_
  refine TL.run ft_prefix_ok [1] rfl rfl ?_
  refine TL.nil ?_
  refine X.sel [0, 1, 1, 1, 1, 1] rfl ?_
  refine X.un (TW.step (T.seq (T.region rfl ?_)))
  refine TL.run ft_prefix_ok [0] rfl rfl ?_
  refine TL.nil (X.seq (T.seq ?_))
  refine T.yes rfl (decide_eq_true (show 4 < 13 by omega)) ?_
  refine T.skip (X.seq (T.seq (T.block (T.seq (T.region rfl ?_)))))
  refine TL.q rfl .u (Ex.ixL (k := 4) (r := 8) rfl rfl rfl Try.runUnderlying145 Try.sizeOf149 (by decide) rfl) rfl ?_
  refine TL.q rfl .u (Ex.bS (us := [.pointer (some ⟨b2, 3, none⟩), .int .i64 4]) 1 rfl Try.isAgg149 Try.sizeOf149 rfl rfl rfl) rfl ?_
  refine TL.alloc rfl .u Try.zeroValue149 rfl (fun b21 => ?_)
  refine TL.st0 (cs' := #[.pointer (some ⟨b2, 3, none⟩), .int .i64 4]) rfl .u rfl rfl Try.sizeOf149 rfl rfl rfl rfl ?_
  refine TL.nil (X.seq (T.draw (.q 0 (.q 1 (.q 2 (.q 3 (.q 4 (.e 5 (.q 6 (.e 7 .nil)))))))) [0, 0, 0, 0, 1] rfl mix_prefix (NoP.blk (NoP.seq (NoP.seq (NoP.blk (NoP.seq np_post))))) (by kernel_rfl) ?_))
  refine TD.run ft_prefix_ok [0] rfl rfl ?_
  refine TD.q rfl .u (Ex.b1 0 rfl Try.isAgg147 rfl rfl) rfl ?_
  refine TD.run ft_prefix_ok [2, 3] rfl rfl ?_
  refine TD.q rfl .u (Ex.b1 0 rfl Try.isAgg3 rfl rfl) rfl ?_
  obtain ⟨⟨x22, st23⟩, hx24, h⟩ := Option.bind_eq_some_iff.1 h
  try dsimp only at h
  refine TD.c6 rfl .u (.fn Try.call71 rfl) (gInt_spec g st19 4 _ hx24) (fun _ hs => (Src.triv _)) rfl [0, 0, 0, 0, 1] (rfl) ?_
  refine TD.run ft_prefix_ok [6] rfl rfl ?_
  refine TD.st4 (cs' := #[.int .i64 x6, .int .i64 x10, .int .i64 x14, .int .i64 x22, .int .i64 0, .int .i64 0, .int .i64 0, .int .i64 0, .int .i64 0, .int .i64 0, .int .i64 0, .int .i64 0]) rfl .u rfl rfl Try.sizeOf3 rfl rfl rfl rfl [0, 0, 0, 0, 1] (rfl) ?_
  refine TD.nil (X.blk (X.seq (T.region rfl ?_)))
  refine TL.q rfl .u (Ex.add rfl rfl (by omega)) rfl ?_
  refine TL.run ft_prefix_ok [1] rfl rfl ?_
  refine TL.nil ?_
  refine X.sel [0, 1, 1, 1, 1, 1] rfl ?_
  refine X.un (TW.step (T.seq (T.region rfl ?_)))
  refine TL.run ft_prefix_ok [0] rfl rfl ?_
  refine TL.nil (X.seq (T.seq ?_))
  refine T.yes rfl (decide_eq_true (show 5 < 13 by omega)) ?_
  refine T.skip (X.seq (T.seq (T.block (T.seq (T.region rfl ?_)))))
  refine TL.q rfl .u (Ex.ixL (k := 5) (r := 10) rfl rfl rfl Try.runUnderlying145 Try.sizeOf149 (by decide) rfl) rfl ?_
  refine TL.q rfl .u (Ex.bS (us := [.pointer (some ⟨b2, 4, none⟩), .int .i64 2]) 1 rfl Try.isAgg149 Try.sizeOf149 rfl rfl rfl) rfl ?_
  refine TL.alloc rfl .u Try.zeroValue149 rfl (fun b25 => ?_)
  refine TL.st0 (cs' := #[.pointer (some ⟨b2, 4, none⟩), .int .i64 2]) rfl .u rfl rfl Try.sizeOf149 rfl rfl rfl rfl ?_
  refine TL.nil (X.seq (T.draw (.q 0 (.q 1 (.q 2 (.q 3 (.q 4 (.e 5 (.q 6 (.e 7 .nil)))))))) [0, 0, 0, 0, 1] rfl mix_prefix (NoP.blk (NoP.seq (NoP.seq (NoP.blk (NoP.seq np_post))))) (by kernel_rfl) ?_))
  refine TD.run ft_prefix_ok [0] rfl rfl ?_
  refine TD.q rfl .u (Ex.b1 0 rfl Try.isAgg147 rfl rfl) rfl ?_
  refine TD.run ft_prefix_ok [2, 3] rfl rfl ?_
  refine TD.q rfl .u (Ex.b1 0 rfl Try.isAgg3 rfl rfl) rfl ?_
  obtain ⟨⟨x26, st27⟩, hx28, h⟩ := Option.bind_eq_some_iff.1 h
  try dsimp only at h
  refine TD.c6 rfl .u (.fn Try.call71 rfl) (gInt_spec g st23 2 _ hx28) (fun _ hs => (Src.triv _)) rfl [0, 0, 0, 0, 1] (rfl) ?_
  refine TD.run ft_prefix_ok [6] rfl rfl ?_
  refine TD.st4 (cs' := #[.int .i64 x6, .int .i64 x10, .int .i64 x14, .int .i64 x22, .int .i64 x26, .int .i64 0, .int .i64 0, .int .i64 0, .int .i64 0, .int .i64 0, .int .i64 0, .int .i64 0]) rfl .u rfl rfl Try.sizeOf3 rfl rfl rfl rfl [0, 0, 0, 0, 1] (rfl) ?_
  refine TD.nil (X.blk (X.seq (T.region rfl ?_)))
  refine TL.q rfl .u (Ex.add rfl rfl (by omega)) rfl ?_
  refine TL.run ft_prefix_ok [1] rfl rfl ?_
  refine TL.nil ?_
  refine X.sel [0, 1, 1, 1, 1, 1] rfl ?_
  refine X.un (TW.step (T.seq (T.region rfl ?_)))
  refine TL.run ft_prefix_ok [0] rfl rfl ?_
  refine TL.nil (X.seq (T.seq ?_))
  refine T.yes rfl (decide_eq_true (show 6 < 13 by omega)) ?_
  refine T.skip (X.seq (T.seq (T.block (T.seq (T.region rfl ?_)))))
  refine TL.q rfl .u (Ex.ixL (k := 6) (r := 12) rfl rfl rfl Try.runUnderlying145 Try.sizeOf149 (by decide) rfl) rfl ?_
  refine TL.q rfl .u (Ex.bS (us := [.pointer (some ⟨b2, 5, none⟩), .int .i64 4]) 1 rfl Try.isAgg149 Try.sizeOf149 rfl rfl rfl) rfl ?_
  refine TL.alloc rfl .u Try.zeroValue149 rfl (fun b29 => ?_)
  refine TL.st0 (cs' := #[.pointer (some ⟨b2, 5, none⟩), .int .i64 4]) rfl .u rfl rfl Try.sizeOf149 rfl rfl rfl rfl ?_
  refine TL.nil (X.seq (T.draw (.q 0 (.q 1 (.q 2 (.q 3 (.q 4 (.e 5 (.q 6 (.e 7 .nil)))))))) [0, 0, 0, 0, 1] rfl mix_prefix (NoP.blk (NoP.seq (NoP.seq (NoP.blk (NoP.seq np_post))))) (by kernel_rfl) ?_))
  refine TD.run ft_prefix_ok [0] rfl rfl ?_
  refine TD.q rfl .u (Ex.b1 0 rfl Try.isAgg147 rfl rfl) rfl ?_
  refine TD.run ft_prefix_ok [2, 3] rfl rfl ?_
  refine TD.q rfl .u (Ex.b1 0 rfl Try.isAgg3 rfl rfl) rfl ?_
  obtain ⟨⟨x30, st31⟩, hx32, h⟩ := Option.bind_eq_some_iff.1 h
  try dsimp only at h
  refine TD.c6 rfl .u (.fn Try.call71 rfl) (gInt_spec g st27 4 _ hx32) (fun _ hs => (Src.triv _)) rfl [0, 0, 0, 0, 1] (rfl) ?_
  refine TD.run ft_prefix_ok [6] rfl rfl ?_
  refine TD.st4 (cs' := #[.int .i64 x6, .int .i64 x10, .int .i64 x14, .int .i64 x22, .int .i64 x26, .int .i64 x30, .int .i64 0, .int .i64 0, .int .i64 0, .int .i64 0, .int .i64 0, .int .i64 0]) rfl .u rfl rfl Try.sizeOf3 rfl rfl rfl rfl [0, 0, 0, 0, 1] (rfl) ?_
  refine TD.nil (X.blk (X.seq (T.region rfl ?_)))
  refine TL.q rfl .u (Ex.add rfl rfl (by omega)) rfl ?_
  refine TL.run ft_prefix_ok [1] rfl rfl ?_
  refine TL.nil ?_
  refine X.sel [0, 1, 1, 1, 1, 1] rfl ?_
  refine X.un (TW.step (T.seq (T.region rfl ?_)))
  refine TL.run ft_prefix_ok [0] rfl rfl ?_
  refine TL.nil (X.seq (T.seq ?_))
  refine T.yes rfl (decide_eq_true (show 7 < 13 by omega)) ?_
  refine T.skip (X.seq (T.seq (T.block (T.seq (T.region rfl ?_)))))
  refine TL.q rfl .u (Ex.ixL (k := 7) (r := 14) rfl rfl rfl Try.runUnderlying145 Try.sizeOf149 (by decide) rfl) rfl ?_
  refine TL.q rfl .u (Ex.bS (us := [.pointer (some ⟨b2, 6, none⟩), .int .i64 8]) 1 rfl Try.isAgg149 Try.sizeOf149 rfl rfl rfl) rfl ?_
  refine TL.alloc rfl .u Try.zeroValue149 rfl (fun b33 => ?_)
  refine TL.st0 (cs' := #[.pointer (some ⟨b2, 6, none⟩), .int .i64 8]) rfl .u rfl rfl Try.sizeOf149 rfl rfl rfl rfl ?_
  refine TL.nil (X.seq (T.draw (.q 0 (.q 1 (.q 2 (.q 3 (.q 4 (.e 5 (.q 6 (.e 7 .nil)))))))) [0, 0, 0, 0, 1] rfl mix_prefix (NoP.blk (NoP.seq (NoP.seq (NoP.blk (NoP.seq np_post))))) (by kernel_rfl) ?_))
  refine TD.run ft_prefix_ok [0] rfl rfl ?_
  refine TD.q rfl .u (Ex.b1 0 rfl Try.isAgg147 rfl rfl) rfl ?_
  refine TD.run ft_prefix_ok [2, 3] rfl rfl ?_
  refine TD.q rfl .u (Ex.b1 0 rfl Try.isAgg3 rfl rfl) rfl ?_
  obtain ⟨⟨x34, st35⟩, hx36, h⟩ := Option.bind_eq_some_iff.1 h
  try dsimp only at h
  refine TD.c6 rfl .u (.fn Try.call71 rfl) (gInt_spec g st31 8 _ hx36) (fun _ hs => (Src.triv _)) rfl [0, 0, 0, 0, 1] (rfl) ?_
  refine TD.run ft_prefix_ok [6] rfl rfl ?_
  refine TD.st4 (cs' := #[.int .i64 x6, .int .i64 x10, .int .i64 x14, .int .i64 x22, .int .i64 x26, .int .i64 x30, .int .i64 x34, .int .i64 0, .int .i64 0, .int .i64 0, .int .i64 0, .int .i64 0]) rfl .u rfl rfl Try.sizeOf3 rfl rfl rfl rfl [0, 0, 0, 0, 1] (rfl) ?_
  refine TD.nil (X.blk (X.seq (T.region rfl ?_)))
  refine TL.q rfl .u (Ex.add rfl rfl (by omega)) rfl ?_
  refine TL.run ft_prefix_ok [1] rfl rfl ?_
  refine TL.nil ?_
  refine X.sel [0, 1, 1, 1, 1, 1] rfl ?_
  refine X.un (TW.step (T.seq (T.region rfl ?_)))
  refine TL.run ft_prefix_ok [0] rfl rfl ?_
  refine TL.nil (X.seq (T.seq ?_))
  refine T.yes rfl (decide_eq_true (show 8 < 13 by omega)) ?_
  refine T.skip (X.seq (T.seq (T.block (T.seq (T.region rfl ?_)))))
  refine TL.q rfl .u (Ex.ixL (k := 8) (r := 16) rfl rfl rfl Try.runUnderlying145 Try.sizeOf149 (by decide) rfl) rfl ?_
  refine TL.q rfl .u (Ex.bS (us := [.pointer (some ⟨b2, 7, none⟩), .int .i64 8]) 1 rfl Try.isAgg149 Try.sizeOf149 rfl rfl rfl) rfl ?_
  refine TL.alloc rfl .u Try.zeroValue149 rfl (fun b37 => ?_)
  refine TL.st0 (cs' := #[.pointer (some ⟨b2, 7, none⟩), .int .i64 8]) rfl .u rfl rfl Try.sizeOf149 rfl rfl rfl rfl ?_
  refine TL.nil (X.seq (T.draw (.q 0 (.q 1 (.q 2 (.q 3 (.q 4 (.e 5 (.q 6 (.e 7 .nil)))))))) [0, 0, 0, 0, 1] rfl mix_prefix (NoP.blk (NoP.seq (NoP.seq (NoP.blk (NoP.seq np_post))))) (by kernel_rfl) ?_))
  refine TD.run ft_prefix_ok [0] rfl rfl ?_
  refine TD.q rfl .u (Ex.b1 0 rfl Try.isAgg147 rfl rfl) rfl ?_
  refine TD.run ft_prefix_ok [2, 3] rfl rfl ?_
  refine TD.q rfl .u (Ex.b1 0 rfl Try.isAgg3 rfl rfl) rfl ?_
  obtain ⟨⟨x38, st39⟩, hx40, h⟩ := Option.bind_eq_some_iff.1 h
  try dsimp only at h
  refine TD.c6 rfl .u (.fn Try.call71 rfl) (gInt_spec g st35 8 _ hx40) (fun _ hs => (Src.triv _)) rfl [0, 0, 0, 0, 1] (rfl) ?_
  refine TD.run ft_prefix_ok [6] rfl rfl ?_
  refine TD.st4 (cs' := #[.int .i64 x6, .int .i64 x10, .int .i64 x14, .int .i64 x22, .int .i64 x26, .int .i64 x30, .int .i64 x34, .int .i64 x38, .int .i64 0, .int .i64 0, .int .i64 0, .int .i64 0]) rfl .u rfl rfl Try.sizeOf3 rfl rfl rfl rfl [0, 0, 0, 0, 1] (rfl) ?_
  refine TD.nil (X.blk (X.seq (T.region rfl ?_)))
  refine TL.q rfl .u (Ex.add rfl rfl (by omega)) rfl ?_
  refine TL.run ft_prefix_ok [1] rfl rfl ?_
  refine TL.nil ?_
  refine X.sel [0, 1, 1, 1, 1, 1] rfl ?_
  refine X.un (TW.step (T.seq (T.region rfl ?_)))
  refine TL.run ft_prefix_ok [0] rfl rfl ?_
  refine TL.nil (X.seq (T.seq ?_))
  refine T.yes rfl (decide_eq_true (show 9 < 13 by omega)) ?_
  refine T.skip (X.seq (T.seq (T.block (T.seq (T.region rfl ?_)))))
  refine TL.q rfl .u (Ex.ixL (k := 9) (r := 18) rfl rfl rfl Try.runUnderlying145 Try.sizeOf149 (by decide) rfl) rfl ?_
  refine TL.q rfl .u (Ex.bS (us := [.pointer (some ⟨b2, 8, none⟩), .int .i64 8]) 1 rfl Try.isAgg149 Try.sizeOf149 rfl rfl rfl) rfl ?_
  refine TL.alloc rfl .u Try.zeroValue149 rfl (fun b41 => ?_)
  refine TL.st0 (cs' := #[.pointer (some ⟨b2, 8, none⟩), .int .i64 8]) rfl .u rfl rfl Try.sizeOf149 rfl rfl rfl rfl ?_
  refine TL.nil (X.seq (T.draw (.q 0 (.q 1 (.q 2 (.q 3 (.q 4 (.e 5 (.q 6 (.e 7 .nil)))))))) [0, 0, 0, 0, 1] rfl mix_prefix (NoP.blk (NoP.seq (NoP.seq (NoP.blk (NoP.seq np_post))))) (by kernel_rfl) ?_))
  refine TD.run ft_prefix_ok [0] rfl rfl ?_
  refine TD.q rfl .u (Ex.b1 0 rfl Try.isAgg147 rfl rfl) rfl ?_
  refine TD.run ft_prefix_ok [2, 3] rfl rfl ?_
  refine TD.q rfl .u (Ex.b1 0 rfl Try.isAgg3 rfl rfl) rfl ?_
  obtain ⟨⟨x42, st43⟩, hx44, h⟩ := Option.bind_eq_some_iff.1 h
  try dsimp only at h
  refine TD.c6 rfl .u (.fn Try.call71 rfl) (gInt_spec g st39 8 _ hx44) (fun _ hs => (Src.triv _)) rfl [0, 0, 0, 0, 1] (rfl) ?_
  refine TD.run ft_prefix_ok [6] rfl rfl ?_
  refine TD.st4 (cs' := #[.int .i64 x6, .int .i64 x10, .int .i64 x14, .int .i64 x22, .int .i64 x26, .int .i64 x30, .int .i64 x34, .int .i64 x38, .int .i64 x42, .int .i64 0, .int .i64 0, .int .i64 0]) rfl .u rfl rfl Try.sizeOf3 rfl rfl rfl rfl [0, 0, 0, 0, 1] (rfl) ?_
  refine TD.nil (X.blk (X.seq (T.region rfl ?_)))
  refine TL.q rfl .u (Ex.add rfl rfl (by omega)) rfl ?_
  refine TL.run ft_prefix_ok [1] rfl rfl ?_
  refine TL.nil ?_
  refine X.sel [0, 1, 1, 1, 1, 1] rfl ?_
  refine X.un (TW.step (T.seq (T.region rfl ?_)))
  refine TL.run ft_prefix_ok [0] rfl rfl ?_
  refine TL.nil (X.seq (T.seq ?_))
  refine T.yes rfl (decide_eq_true (show 10 < 13 by omega)) ?_
  refine T.skip (X.seq (T.seq (T.block (T.seq (T.region rfl ?_)))))
  refine TL.q rfl .u (Ex.ixL (k := 10) (r := 20) rfl rfl rfl Try.runUnderlying145 Try.sizeOf149 (by decide) rfl) rfl ?_
  refine TL.q rfl .u (Ex.bS (us := [.pointer (some ⟨b2, 9, none⟩), .int .i64 2]) 1 rfl Try.isAgg149 Try.sizeOf149 rfl rfl rfl) rfl ?_
  refine TL.alloc rfl .u Try.zeroValue149 rfl (fun b45 => ?_)
  refine TL.st0 (cs' := #[.pointer (some ⟨b2, 9, none⟩), .int .i64 2]) rfl .u rfl rfl Try.sizeOf149 rfl rfl rfl rfl ?_
  refine TL.nil (X.seq (T.draw (.q 0 (.q 1 (.q 2 (.q 3 (.q 4 (.e 5 (.q 6 (.e 7 .nil)))))))) [0, 0, 0, 0, 1] rfl mix_prefix (NoP.blk (NoP.seq (NoP.seq (NoP.blk (NoP.seq np_post))))) (by kernel_rfl) ?_))
  refine TD.run ft_prefix_ok [0] rfl rfl ?_
  refine TD.q rfl .u (Ex.b1 0 rfl Try.isAgg147 rfl rfl) rfl ?_
  refine TD.run ft_prefix_ok [2, 3] rfl rfl ?_
  refine TD.q rfl .u (Ex.b1 0 rfl Try.isAgg3 rfl rfl) rfl ?_
  obtain ⟨⟨x46, st47⟩, hx48, h⟩ := Option.bind_eq_some_iff.1 h
  try dsimp only at h
  refine TD.c6 rfl .u (.fn Try.call71 rfl) (gInt_spec g st43 2 _ hx48) (fun _ hs => (Src.triv _)) rfl [0, 0, 0, 0, 1] (rfl) ?_
  refine TD.run ft_prefix_ok [6] rfl rfl ?_
  refine TD.st4 (cs' := #[.int .i64 x6, .int .i64 x10, .int .i64 x14, .int .i64 x22, .int .i64 x26, .int .i64 x30, .int .i64 x34, .int .i64 x38, .int .i64 x42, .int .i64 x46, .int .i64 0, .int .i64 0]) rfl .u rfl rfl Try.sizeOf3 rfl rfl rfl rfl [0, 0, 0, 0, 1] (rfl) ?_
  refine TD.nil (X.blk (X.seq (T.region rfl ?_)))
  refine TL.q rfl .u (Ex.add rfl rfl (by omega)) rfl ?_
  refine TL.run ft_prefix_ok [1] rfl rfl ?_
  refine TL.nil ?_
  refine X.sel [0, 1, 1, 1, 1, 1] rfl ?_
  refine X.un (TW.step (T.seq (T.region rfl ?_)))
  refine TL.run ft_prefix_ok [0] rfl rfl ?_
  refine TL.nil (X.seq (T.seq ?_))
  refine T.yes rfl (decide_eq_true (show 11 < 13 by omega)) ?_
  refine T.skip (X.seq (T.seq (T.block (T.seq (T.region rfl ?_)))))
  refine TL.q rfl .u (Ex.ixL (k := 11) (r := 22) rfl rfl rfl Try.runUnderlying145 Try.sizeOf149 (by decide) rfl) rfl ?_
  refine TL.q rfl .u (Ex.bS (us := [.pointer (some ⟨b2, 10, none⟩), .int .i64 4]) 1 rfl Try.isAgg149 Try.sizeOf149 rfl rfl rfl) rfl ?_
  refine TL.alloc rfl .u Try.zeroValue149 rfl (fun b49 => ?_)
  refine TL.st0 (cs' := #[.pointer (some ⟨b2, 10, none⟩), .int .i64 4]) rfl .u rfl rfl Try.sizeOf149 rfl rfl rfl rfl ?_
  refine TL.nil (X.seq (T.draw (.q 0 (.q 1 (.q 2 (.q 3 (.q 4 (.e 5 (.q 6 (.e 7 .nil)))))))) [0, 0, 0, 0, 1] rfl mix_prefix (NoP.blk (NoP.seq (NoP.seq (NoP.blk (NoP.seq np_post))))) (by kernel_rfl) ?_))
  refine TD.run ft_prefix_ok [0] rfl rfl ?_
  refine TD.q rfl .u (Ex.b1 0 rfl Try.isAgg147 rfl rfl) rfl ?_
  refine TD.run ft_prefix_ok [2, 3] rfl rfl ?_
  refine TD.q rfl .u (Ex.b1 0 rfl Try.isAgg3 rfl rfl) rfl ?_
  obtain ⟨⟨x50, st51⟩, hx52, h⟩ := Option.bind_eq_some_iff.1 h
  try dsimp only at h
  refine TD.c6 rfl .u (.fn Try.call71 rfl) (gInt_spec g st47 4 _ hx52) (fun _ hs => (Src.triv _)) rfl [0, 0, 0, 0, 1] (rfl) ?_
  refine TD.run ft_prefix_ok [6] rfl rfl ?_
  refine TD.st4 (cs' := #[.int .i64 x6, .int .i64 x10, .int .i64 x14, .int .i64 x22, .int .i64 x26, .int .i64 x30, .int .i64 x34, .int .i64 x38, .int .i64 x42, .int .i64 x46, .int .i64 x50, .int .i64 0]) rfl .u rfl rfl Try.sizeOf3 rfl rfl rfl rfl [0, 0, 0, 0, 1] (rfl) ?_
  refine TD.nil (X.blk (X.seq (T.region rfl ?_)))
  refine TL.q rfl .u (Ex.add rfl rfl (by omega)) rfl ?_
  refine TL.run ft_prefix_ok [1] rfl rfl ?_
  refine TL.nil ?_
  refine X.sel [0, 1, 1, 1, 1, 1] rfl ?_
  refine X.un (TW.step (T.seq (T.region rfl ?_)))
  refine TL.run ft_prefix_ok [0] rfl rfl ?_
  refine TL.nil (X.seq (T.seq ?_))
  refine T.yes rfl (decide_eq_true (show 12 < 13 by omega)) ?_
  refine T.skip (X.seq (T.seq (T.block (T.seq (T.region rfl ?_)))))
  refine TL.q rfl .u (Ex.ixL (k := 12) (r := 24) rfl rfl rfl Try.runUnderlying145 Try.sizeOf149 (by decide) rfl) rfl ?_
  refine TL.q rfl .u (Ex.bS (us := [.pointer (some ⟨b2, 11, none⟩), .int .i64 4]) 1 rfl Try.isAgg149 Try.sizeOf149 rfl rfl rfl) rfl ?_
  refine TL.alloc rfl .u Try.zeroValue149 rfl (fun b53 => ?_)
  refine TL.st0 (cs' := #[.pointer (some ⟨b2, 11, none⟩), .int .i64 4]) rfl .u rfl rfl Try.sizeOf149 rfl rfl rfl rfl ?_
  refine TL.nil (X.seq (T.draw (.q 0 (.q 1 (.q 2 (.q 3 (.q 4 (.e 5 (.q 6 (.e 7 .nil)))))))) [0, 0, 0, 0, 1] rfl mix_prefix (NoP.blk (NoP.seq (NoP.seq (NoP.blk (NoP.seq np_post))))) (by kernel_rfl) ?_))
  refine TD.run ft_prefix_ok [0] rfl rfl ?_
  refine TD.q rfl .u (Ex.b1 0 rfl Try.isAgg147 rfl rfl) rfl ?_
  refine TD.run ft_prefix_ok [2, 3] rfl rfl ?_
  refine TD.q rfl .u (Ex.b1 0 rfl Try.isAgg3 rfl rfl) rfl ?_
  obtain ⟨⟨x54, st55⟩, hx56, h⟩ := Option.bind_eq_some_iff.1 h
  try dsimp only at h
  refine TD.c6 rfl .u (.fn Try.call71 rfl) (gInt_spec g st51 4 _ hx56) (fun _ hs => (Src.triv _)) rfl [0, 0, 0, 0, 1] (rfl) ?_
  refine TD.run ft_prefix_ok [6] rfl rfl ?_
  refine TD.st4 (cs' := #[.int .i64 x6, .int .i64 x10, .int .i64 x14, .int .i64 x22, .int .i64 x26, .int .i64 x30, .int .i64 x34, .int .i64 x38, .int .i64 x42, .int .i64 x46, .int .i64 x50, .int .i64 x54]) rfl .u rfl rfl Try.sizeOf3 rfl rfl rfl rfl [0, 0, 0, 0, 1] (rfl) ?_
  refine TD.nil (X.blk (X.seq (T.region rfl ?_)))
  refine TL.q rfl .u (Ex.add rfl rfl (by omega)) rfl ?_
  refine TL.run ft_prefix_ok [1] rfl rfl ?_
  refine TL.nil ?_
  refine X.sel [0, 1, 1, 1, 1, 1] rfl ?_
  refine X.un (TW.step (T.seq (T.region rfl ?_)))
  refine TL.run ft_prefix_ok [0] rfl rfl ?_
  refine TL.nil (X.seq (T.seq ?_))
  refine T.no rfl (decide_eq_false (show ¬ (13 < 13) by omega)) ?_
  refine T.exit (X.exs (X.exs (X.ex (X.seq (T.seq (T.region rfl ?_))))))
  refine TL.run ft_prefix_ok [0] rfl rfl ?_
  refine TL.q rfl .u (Ex.b1 3 rfl Try.isAgg3 rfl rfl) rfl ?_
  refine TL.q rfl .u (Ex.bitw rfl rfl rfl) rfl ?_
  refine TL.run ft_prefix_ok [3] rfl rfl ?_
  refine TL.st3 (cs' := #[.int .i64 x6, .int .i64 x10, .int .i64 x14, .int .i64 (Go.bits .and .i64 x22 4294967295), .int .i64 x26, .int .i64 x30, .int .i64 x34, .int .i64 x38, .int .i64 x42, .int .i64 x46, .int .i64 x50, .int .i64 x54]) rfl .u rfl rfl Try.sizeOf3 rfl rfl rfl rfl ?_
  refine TL.nil (X.seq (T.seq (T.block (T.seq (T.region rfl ?_)))))
  obtain ⟨⟨x57, st58⟩, hx59, h⟩ := Option.bind_eq_some_iff.1 h
  try dsimp only at h
  refine TL.run ft_prefix_ok [0] rfl rfl ?_
  refine TL.c5 rfl .u (.fn Try.call61 rfl) (gErr_spec g st55 _ hx59) (fun _ hs => (Src.triv _)) rfl ?_
  refine TL.run ft_prefix_ok [2, 3] rfl rfl ?_
  refine TL.nil (X.seq ?_)
  obtain ⟨st117, h, hk118⟩ := Option.bind_eq_some_iff.1 h
  refine T.jq (fun e Rs => e = [(0, .pointer (some ⟨g, 0, none⟩)), (2, .pointer (some ⟨b1, 0, none⟩)), (3, .pointer (some ⟨b2, 0, none⟩))] ∧ Rs = [BlkR b53 149 #[.pointer (some ⟨b2, 11, none⟩), .int .i64 4], BlkR b4 149 #[.pointer (some ⟨b2, 0, none⟩), .int .i64 8, .pointer (some ⟨b2, 1, none⟩), .int .i64 4, .pointer (some ⟨b2, 2, none⟩), .int .i64 4, .pointer (some ⟨b3, 0, none⟩), .int .i64 1, .pointer (some ⟨b2, 3, none⟩), .int .i64 4, .pointer (some ⟨b2, 4, none⟩), .int .i64 2, .pointer (some ⟨b2, 5, none⟩), .int .i64 4, .pointer (some ⟨b2, 6, none⟩), .int .i64 8, .pointer (some ⟨b2, 7, none⟩), .int .i64 8, .pointer (some ⟨b2, 8, none⟩), .int .i64 8, .pointer (some ⟨b2, 9, none⟩), .int .i64 2, .pointer (some ⟨b2, 10, none⟩), .int .i64 4, .pointer (some ⟨b2, 11, none⟩), .int .i64 4], BlkR b3 3 #[.int .i64 x18], BlkR b2 92 #[.int .i64 x6, .int .i64 x10, .int .i64 x14, .int .i64 (Go.bits .and .i64 x22 4294967295), .int .i64 x26, .int .i64 x30, .int .i64 x34, .int .i64 x38, .int .i64 x42, .int .i64 x46, .int .i64 x50, .int .i64 x54], BlkR b1 92 #[.int .i64 0, .int .i64 0, .int .i64 0, .int .i64 0, .int .i64 0, .int .i64 0, .int .i64 0, .int .i64 0, .int .i64 0, .int .i64 0, .int .i64 0, .int .i64 0], InR g st117]) ?_ ?_
  · clear hk118
    by_cases c119 : x57 = 0
    · replace h := ifT c119 h
      refine T.no rfl (bn_f (decide_eq_true c119)) ?_
      refine T.seq (T.region rfl ?_)
      refine TL.q rfl .u (Ex.b1 2 rfl Try.isAgg3 rfl rfl) rfl ?_
      refine TL.run ft_prefix_ok [1, 2] rfl rfl ?_
      refine TL.nil (X.seq ?_)
      obtain ⟨st147, h, hk148⟩ := Option.bind_eq_some_iff.1 h
      refine T.jq (fun e Rs => e = [(0, .pointer (some ⟨g, 0, none⟩)), (2, .pointer (some ⟨b1, 0, none⟩)), (3, .pointer (some ⟨b2, 0, none⟩))] ∧ Rs = [BlkR b53 149 #[.pointer (some ⟨b2, 11, none⟩), .int .i64 4], BlkR b4 149 #[.pointer (some ⟨b2, 0, none⟩), .int .i64 8, .pointer (some ⟨b2, 1, none⟩), .int .i64 4, .pointer (some ⟨b2, 2, none⟩), .int .i64 4, .pointer (some ⟨b3, 0, none⟩), .int .i64 1, .pointer (some ⟨b2, 3, none⟩), .int .i64 4, .pointer (some ⟨b2, 4, none⟩), .int .i64 2, .pointer (some ⟨b2, 5, none⟩), .int .i64 4, .pointer (some ⟨b2, 6, none⟩), .int .i64 8, .pointer (some ⟨b2, 7, none⟩), .int .i64 8, .pointer (some ⟨b2, 8, none⟩), .int .i64 8, .pointer (some ⟨b2, 9, none⟩), .int .i64 2, .pointer (some ⟨b2, 10, none⟩), .int .i64 4, .pointer (some ⟨b2, 11, none⟩), .int .i64 4], BlkR b3 3 #[.int .i64 x18], BlkR b2 92 #[.int .i64 x6, .int .i64 x10, .int .i64 x14, .int .i64 (Go.bits .and .i64 x22 4294967295), .int .i64 x26, .int .i64 x30, .int .i64 x34, .int .i64 x38, .int .i64 x42, .int .i64 x46, .int .i64 x50, .int .i64 x54], BlkR b1 92 #[.int .i64 0, .int .i64 0, .int .i64 0, .int .i64 0, .int .i64 0, .int .i64 0, .int .i64 0, .int .i64 0, .int .i64 0, .int .i64 0, .int .i64 0, .int .i64 0], InR g st147]) ?_ ?_
      · clear hk148
        by_cases c149 : x18 = 2
        · replace h := ifT c149 h
          refine T.no rfl (bn_f (decide_eq_true c149)) ?_
          refine T.seq (T.region rfl ?_)
          refine TL.run ft_prefix_ok [0] rfl rfl ?_
          refine TL.q rfl .u (Ex.b1 3 rfl Try.isAgg3 rfl rfl) rfl ?_
          refine TL.run ft_prefix_ok [2, 3] rfl rfl ?_
          refine TL.nil (X.seq ?_)
          obtain ⟨st161, h, hk162⟩ := Option.bind_eq_some_iff.1 h
          refine T.jq (fun e Rs => e = [(0, .pointer (some ⟨g, 0, none⟩)), (2, .pointer (some ⟨b1, 0, none⟩)), (3, .pointer (some ⟨b2, 0, none⟩))] ∧ Rs = [BlkR b53 149 #[.pointer (some ⟨b2, 11, none⟩), .int .i64 4], BlkR b4 149 #[.pointer (some ⟨b2, 0, none⟩), .int .i64 8, .pointer (some ⟨b2, 1, none⟩), .int .i64 4, .pointer (some ⟨b2, 2, none⟩), .int .i64 4, .pointer (some ⟨b3, 0, none⟩), .int .i64 1, .pointer (some ⟨b2, 3, none⟩), .int .i64 4, .pointer (some ⟨b2, 4, none⟩), .int .i64 2, .pointer (some ⟨b2, 5, none⟩), .int .i64 4, .pointer (some ⟨b2, 6, none⟩), .int .i64 8, .pointer (some ⟨b2, 7, none⟩), .int .i64 8, .pointer (some ⟨b2, 8, none⟩), .int .i64 8, .pointer (some ⟨b2, 9, none⟩), .int .i64 2, .pointer (some ⟨b2, 10, none⟩), .int .i64 4, .pointer (some ⟨b2, 11, none⟩), .int .i64 4], BlkR b3 3 #[.int .i64 x18], BlkR b2 92 #[.int .i64 x6, .int .i64 x10, .int .i64 x14, .int .i64 (Go.bits .and .i64 x22 4294967295), .int .i64 x26, .int .i64 x30, .int .i64 x34, .int .i64 x38, .int .i64 x42, .int .i64 x46, .int .i64 x50, .int .i64 x54], BlkR b1 92 #[.int .i64 0, .int .i64 0, .int .i64 0, .int .i64 0, .int .i64 0, .int .i64 0, .int .i64 0, .int .i64 0, .int .i64 0, .int .i64 0, .int .i64 0, .int .i64 0], InR g st161]) ?_ ?_
          · clear hk162
            by_cases c163 : x10 < 49
            · replace h := ifT c163 h
              refine T.yes rfl (decide_eq_true c163) ?_
              refine T.region rfl ?_
              obtain ⟨st164, hx165, h⟩ := Option.bind_eq_some_iff.1 h
              refine TL.run ft_prefix_ok [0] rfl rfl ?_
              refine TL.c5 rfl .u (.fn Try.call62 rfl) (gIFail_spec g st58 4 _ hx165) (fun _ hs => (Src.triv _)) rfl ?_
              cases h
              exact TL.nil (X.jq [0, 0, 0, 0, 0, 0] ⟨rfl, rfl⟩ (by rfl) (by rfl))
            · replace h := ifF c163 h
              refine T.no rfl (decide_eq_false c163) ?_
              refine T.seq (T.region rfl ?_)
              refine TL.run ft_prefix_ok [0] rfl rfl ?_
              refine TL.q rfl .u (Ex.b1 3 rfl Try.isAgg3 rfl rfl) rfl ?_
              refine TL.run ft_prefix_ok [2, 3] rfl rfl ?_
              refine TL.nil (X.seq ?_)
              obtain ⟨st169, h, hk170⟩ := Option.bind_eq_some_iff.1 h
              refine T.jq (fun e Rs => e = [(0, .pointer (some ⟨g, 0, none⟩)), (2, .pointer (some ⟨b1, 0, none⟩)), (3, .pointer (some ⟨b2, 0, none⟩))] ∧ Rs = [BlkR b53 149 #[.pointer (some ⟨b2, 11, none⟩), .int .i64 4], BlkR b4 149 #[.pointer (some ⟨b2, 0, none⟩), .int .i64 8, .pointer (some ⟨b2, 1, none⟩), .int .i64 4, .pointer (some ⟨b2, 2, none⟩), .int .i64 4, .pointer (some ⟨b3, 0, none⟩), .int .i64 1, .pointer (some ⟨b2, 3, none⟩), .int .i64 4, .pointer (some ⟨b2, 4, none⟩), .int .i64 2, .pointer (some ⟨b2, 5, none⟩), .int .i64 4, .pointer (some ⟨b2, 6, none⟩), .int .i64 8, .pointer (some ⟨b2, 7, none⟩), .int .i64 8, .pointer (some ⟨b2, 8, none⟩), .int .i64 8, .pointer (some ⟨b2, 9, none⟩), .int .i64 2, .pointer (some ⟨b2, 10, none⟩), .int .i64 4, .pointer (some ⟨b2, 11, none⟩), .int .i64 4], BlkR b3 3 #[.int .i64 x18], BlkR b2 92 #[.int .i64 x6, .int .i64 x10, .int .i64 x14, .int .i64 (Go.bits .and .i64 x22 4294967295), .int .i64 x26, .int .i64 x30, .int .i64 x34, .int .i64 x38, .int .i64 x42, .int .i64 x46, .int .i64 x50, .int .i64 x54], BlkR b1 92 #[.int .i64 0, .int .i64 0, .int .i64 0, .int .i64 0, .int .i64 0, .int .i64 0, .int .i64 0, .int .i64 0, .int .i64 0, .int .i64 0, .int .i64 0, .int .i64 0], InR g st169]) ?_ ?_
              · clear hk170
                by_cases c171 : x54 < 0
                · replace h := ifT c171 h
                  refine T.yes rfl (decide_eq_true c171) ?_
                  refine T.region rfl ?_
                  obtain ⟨st172, hx173, h⟩ := Option.bind_eq_some_iff.1 h
                  refine TL.run ft_prefix_ok [0] rfl rfl ?_
                  refine TL.c5 rfl .u (.fn Try.call62 rfl) (gIFail_spec g st58 10 _ hx173) (fun _ hs => (Src.triv _)) rfl ?_
                  cases h
                  exact TL.nil (X.jq [0, 0, 0, 0, 0, 0] ⟨rfl, rfl⟩ (by rfl) (by rfl))
                · replace h := ifF c171 h
                  refine T.no rfl (decide_eq_false c171) ?_
                  cases h
                  exact T.skip (X.jq [0, 0, 0, 0, 0, 0] ⟨rfl, rfl⟩ (by rfl) (by rfl))
              · rintro _ _ ⟨rfl, rfl⟩
                clear h
                have h := hk170
                clear hk170
                try dsimp only at h
                cases h
                exact X.jq [0, 0, 0, 0, 0, 0] ⟨rfl, rfl⟩ (by rfl) (by rfl)
          · rintro _ _ ⟨rfl, rfl⟩
            clear h
            have h := hk162
            clear hk162
            try dsimp only at h
            cases h
            exact X.jq [0, 0, 0, 0, 0, 0] ⟨rfl, rfl⟩ (by rfl) (by rfl)
        · replace h := ifF c149 h
          refine T.yes rfl (bn_t (decide_eq_false c149)) ?_
          refine T.region rfl ?_
          obtain ⟨st174, hx175, h⟩ := Option.bind_eq_some_iff.1 h
          refine TL.run ft_prefix_ok [0] rfl rfl ?_
          refine TL.c5 rfl .u (.fn Try.call62 rfl) (gIFail_spec g st58 6 _ hx175) (fun _ hs => (Src.triv _)) rfl ?_
          cases h
          exact TL.nil (X.jq [0, 0, 0, 0, 0, 0] ⟨rfl, rfl⟩ (by rfl) (by rfl))
      · rintro _ _ ⟨rfl, rfl⟩
        clear h
        have h := hk148
        clear hk148
        try dsimp only at h
        cases h
        exact X.jq [0, 0, 0, 0, 0, 0] ⟨rfl, rfl⟩ (by rfl) (by rfl)
    · replace h := ifF c119 h
      refine T.yes rfl (bn_t (decide_eq_false c119)) ?_
      cases h
      exact T.skip (X.jq [0, 0, 0, 0, 0, 0] ⟨rfl, rfl⟩ (by rfl) (by rfl))
  · rintro _ _ ⟨rfl, rfl⟩
    clear h
    have h := hk118
    clear hk118
    try dsimp only at h
    refine X.blk (X.seq (T.seq (T.seq (T.region rfl ?_))))
    obtain ⟨⟨x176, st177⟩, hx178, h⟩ := Option.bind_eq_some_iff.1 h
    try dsimp only at h
    refine TL.run ft_prefix_ok [0] rfl rfl ?_
    refine TL.c5 rfl .u (.fn Try.call61 rfl) (gErr_spec g st117 _ hx178) (fun _ hs => (Src.triv _)) rfl ?_
    refine TL.run ft_prefix_ok [2] rfl rfl ?_
    by_cases c179 : x176 = 0
    · replace h := ifT c179 h
      refine TL.nil (X.seq ?_)
      refine T.no rfl (bn_f (decide_eq_true c179)) ?_
      refine T.skip (X.seq (T.seq (T.region rfl ?_)))
      refine TL.q rfl .u (Ex.bS (us := [.int .i64 x6, .int .i64 x10, .int .i64 x14, .int .i64 (Go.bits .and .i64 x22 4294967295), .int .i64 x26, .int .i64 x30, .int .i64 x34, .int .i64 x38, .int .i64 x42, .int .i64 x46, .int .i64 x50, .int .i64 x54]) 3 rfl Try.isAgg92 Try.sizeOf92 rfl rfl rfl) rfl ?_
      refine TL.st4 (cs' := #[.int .i64 x6, .int .i64 x10, .int .i64 x14, .int .i64 (Go.bits .and .i64 x22 4294967295), .int .i64 x26, .int .i64 x30, .int .i64 x34, .int .i64 x38, .int .i64 x42, .int .i64 x46, .int .i64 x50, .int .i64 x54]) rfl .u rfl rfl Try.sizeOf92 rfl rfl rfl rfl ?_
      obtain rfl := Option.some.inj h
      exact TL.nil (X.seq (T.ret (X.done1 [5] Try.results59 (RV.cS (us := #[.int .i64 x6, .int .i64 x10, .int .i64 x14, .int .i64 (Go.bits .and .i64 x22 4294967295), .int .i64 x26, .int .i64 x30, .int .i64 x34, .int .i64 x38, .int .i64 x42, .int .i64 x46, .int .i64 x50, .int .i64 x54]) 4 rfl Try.isAgg92 Try.sizeOf92 rfl rfl) ⟨rfl, rfl, rfl⟩ (by rfl) (.inl rfl))))
    · replace h := ifF c179 h
      refine TL.nil (X.seq ?_)
      refine T.yes rfl (bn_t (decide_eq_false c179)) ?_
      refine T.seq (T.region rfl ?_)
      refine TL.q rfl .u (Ex.bld (cells := #[.int .i64 0, .int .i64 0, .int .i64 0, .int .i64 0, .int .i64 0, .int .i64 0, .int .i64 0, .int .i64 0, .int .i64 0, .int .i64 0, .int .i64 0, .int .i64 0]) bok_prefix_92 rfl (by kernel_rfl)) rfl ?_
      refine TL.st4 (cs' := #[.int .i64 0, .int .i64 0, .int .i64 0, .int .i64 0, .int .i64 0, .int .i64 0, .int .i64 0, .int .i64 0, .int .i64 0, .int .i64 0, .int .i64 0, .int .i64 0]) rfl .u rfl rfl Try.sizeOf92 rfl rfl rfl rfl ?_
      obtain rfl := Option.some.inj h
      exact TL.nil (X.seq (T.ret (X.rs (X.done1 [5] Try.results59 (RV.cS (us := #[.int .i64 0, .int .i64 0, .int .i64 0, .int .i64 0, .int .i64 0, .int .i64 0, .int .i64 0, .int .i64 0, .int .i64 0, .int .i64 0, .int .i64 0, .int .i64 0]) 4 rfl Try.isAgg92 Try.sizeOf92 rfl rfl) ⟨rfl, rfl, rfl⟩ (by rfl) (.inl rfl)))))
end Go.Proofs.Ytcoppaggpbfcmaa.Sl
namespace Go.Proofs.Ytcoppaggpbfcmaa.Sl
open Go.RowKit
set_option linter.unusedVariables false
set_option linter.unusedSimpArgs false
set_option maxRecDepth 100000
def ft_batch : FTab := [(25, 0, 0), (25, 1, 1), (25, 2, 2), (25, 3, 3), (25, 4, 4), (25, 5, 5), (25, 6, 6), (25, 7, 7), (25, 8, 8), (25, 9, 9), (25, 10, 10), (25, 11, 11), (33, 0, 0), (33, 1, 1), (92, 0, 0), (92, 1, 1), (92, 2, 2), (92, 3, 3), (92, 4, 4), (92, 5, 5), (92, 6, 6), (92, 7, 7), (92, 8, 8), (92, 9, 9), (92, 10, 10), (92, 11, 11)]
theorem ft_batch_ok : (ft_batch).OK Try.prog := ⟨FOK.mk Try.runUnderlying25 rfl Try.sizeOf3 rfl, FOK.mk Try.runUnderlying25 rfl Try.sizeOf3 rfl, FOK.mk Try.runUnderlying25 rfl Try.sizeOf4 rfl, FOK.mk Try.runUnderlying25 rfl Try.sizeOf4 rfl, FOK.mk Try.runUnderlying25 rfl Try.sizeOf4 rfl, FOK.mk Try.runUnderlying25 rfl Try.sizeOf3 rfl, FOK.mk Try.runUnderlying25 rfl Try.sizeOf3 rfl, FOK.mk Try.runUnderlying25 rfl Try.sizeOf3 rfl, FOK.mk Try.runUnderlying25 rfl Try.sizeOf3 rfl, FOK.mk Try.runUnderlying25 rfl Try.sizeOf3 rfl, FOK.mk Try.runUnderlying25 rfl Try.sizeOf3 rfl, FOK.mk Try.runUnderlying25 rfl Try.sizeOf23 rfl, FOK.mk Try.runUnderlying33 rfl Try.sizeOf3 rfl, FOK.mk Try.runUnderlying33 rfl Try.sizeOf3 rfl, FOK.mk Try.runUnderlying92 rfl Try.sizeOf3 rfl, FOK.mk Try.runUnderlying92 rfl Try.sizeOf3 rfl, FOK.mk Try.runUnderlying92 rfl Try.sizeOf3 rfl, FOK.mk Try.runUnderlying92 rfl Try.sizeOf3 rfl, FOK.mk Try.runUnderlying92 rfl Try.sizeOf3 rfl, FOK.mk Try.runUnderlying92 rfl Try.sizeOf3 rfl, FOK.mk Try.runUnderlying92 rfl Try.sizeOf3 rfl, FOK.mk Try.runUnderlying92 rfl Try.sizeOf3 rfl, FOK.mk Try.runUnderlying92 rfl Try.sizeOf3 rfl, FOK.mk Try.runUnderlying92 rfl Try.sizeOf3 rfl, FOK.mk Try.runUnderlying92 rfl Try.sizeOf3 rfl, FOK.mk Try.runUnderlying92 rfl Try.sizeOf3 rfl, trivial⟩
theorem mix_batch : Try.prog.follows .mixedOrders = true := by kernel_rfl
theorem bok_batch_25 : BOK Try.prog 25 #[.int .i64 0, .int .i64 0, .bool false, .bool false, .bool false, .int .i64 0, .int .i64 0, .int .i64 0, .int .i64 0, .int .i64 0, .int .i64 0, .slice none 0 0] [(0, 1), (1, 1), (2, 1), (3, 1), (4, 1), (5, 1), (6, 1), (7, 1), (8, 1), (9, 1), (10, 1), (11, 1)] := BOK.mk Try.zeroValue25 Try.runUnderlying25 (by intro w; simp)
theorem bok_batch_87 : BOK Try.prog 87 #[.slice none 0 0, .int .i64 0] [(0, 1), (1, 1)] := BOK.mk Try.zeroValue87 Try.runUnderlying87 (by intro w; simp)
theorem bok_batch_92 : BOK Try.prog 92 #[.int .i64 0, .int .i64 0, .int .i64 0, .int .i64 0, .int .i64 0, .int .i64 0, .int .i64 0, .int .i64 0, .int .i64 0, .int .i64 0, .int .i64 0, .int .i64 0] [(0, 1), (1, 1), (2, 1), (3, 1), (4, 1), (5, 1), (6, 1), (7, 1), (8, 1), (9, 1), (10, 1), (11, 1)] := BOK.mk Try.zeroValue92 Try.runUnderlying92 (by intro w; simp)
theorem sok_batch_23_1 : SOK Try.prog 23 33 1 7 #[.int .i64 0, .int .i64 0, .bool false, .string ⟨#[]⟩, .bool false, .string ⟨#[]⟩, .slice none 0 0] := SOK.mk Try.runUnderlying23 Try.sizeOf33 Try.zeroValue33 (by decide) (by kernel_rfl)
theorem sok_batch_154_2 : SOK Try.prog 154 9 2 1 #[.string ⟨#[]⟩, .string ⟨#[]⟩] := SOK.mk Try.runUnderlying154 Try.sizeOf9 Try.zeroValue9 (by decide) (by kernel_rfl)
theorem inf_batch_33 : (Try.prog.info? 33).map (fun i => (i.zero, i.size, i.bytes)) = some (some (.agg #[.int .i64 0, .int .i64 0, .bool false, .string ⟨#[]⟩, .bool false, .string ⟨#[]⟩, .slice none 0 0]), 7, 88) := by kernel_rfl
def f_batch_numbers (a0 : Bat) : Option (Bool) := if a0.fBase ≥ 0 then (if a0.fLeader ≥ (-1) then ((gFits a0.fLeader 4).bind fun x6 => if x6 = true then (if a0.fLast ≥ 0 then ((gFits a0.fLast 4).bind fun x10 => if x10 = true then (if (IntKind.i64.wrap (a0.fBase + a0.fLast)) ≥ 0 then (if a0.fFirst ≥ 0 then (if a0.fMax ≥ 0 then some true else some false) else some false) else some false) else some false) else some false) else some false) else some false) else some false
set_option maxRecDepth 100000 in
set_option maxHeartbeats 4000000 in
theorem f_batch_numbers_spec (a0 : Bat) (A1 : Option Addr) (c2 : Nat) (r : Bool) (h : f_batch_numbers a0 = some r) : SpecX Try.prog 45 #[.agg #[.int .i64 a0.fBase, .int .i64 a0.fLeader, .bool a0.fAppend, .bool a0.fTxn, .bool a0.fControl, .int .i64 a0.fLast, .int .i64 a0.fFirst, .int .i64 a0.fMax, .int .i64 a0.fProducer, .int .i64 a0.fEpoch, .int .i64 a0.fSequence, .slice A1 a0.fRecords.length c2]] (RX.of (sliceRd 7 Rec_rd) [.slice A1 a0.fRecords.length c2] a0.fRecords) (EmpR) (fun v A' N => v = .bool r ∧ A' = EmpR ∧ N = []) := by
  refine enterA Try.func45 rfl Try.ntmps45 rfl ?_
  intro F w hX
  unfold f_batch_numbers at h
  refine T.seq (T.region rfl ?_)
  refine TL.box rfl .u rfl rfl (fun b3 => ?_)
  refine TL.run ft_batch_ok [1] rfl rfl ?_
  refine TL.nil (X.seq (T.seq (T.region rfl ?_)))
  refine TL.run ft_batch_ok [0] rfl rfl ?_
  refine TL.q rfl .u (Ex.b1 0 rfl Try.isAgg3 rfl rfl) rfl ?_
  by_cases c4 : a0.fBase ≥ 0
  · replace h := ifT c4 h
    refine TL.run ft_batch_ok [2, 3] rfl rfl ?_
    refine TL.q rfl (.g rfl rfl (decide_eq_true c4)) (Ex.ft ft_batch_ok rfl) rfl ?_
    refine TL.q rfl (.g rfl rfl (decide_eq_true c4)) (Ex.b1 0 rfl Try.isAgg3 rfl rfl) rfl ?_
    refine TL.q rfl (.g rfl rfl (decide_eq_true c4)) (Ex.ft ft_batch_ok rfl) rfl ?_
    refine TL.q rfl .u (Ex.py rfl (decide_eq_true c4) rfl) rfl ?_
    by_cases c5 : a0.fLeader ≥ (-1)
    · replace h := ifT c5 h
      refine TL.run ft_batch_ok [8] rfl rfl ?_
      refine TL.q rfl (.g rfl rfl (decide_eq_true c5)) (Ex.ft ft_batch_ok rfl) rfl ?_
      refine TL.q rfl (.g rfl rfl (decide_eq_true c5)) (Ex.b1 0 rfl Try.isAgg3 rfl rfl) rfl ?_
      obtain ⟨x6, hx7, h⟩ := Option.bind_eq_some_iff.1 h
      refine TL.ce rfl (.g rfl rfl (decide_eq_true c5)) (.fn Try.call86 rfl) (SpecX.pure (fun w => gFits_spec a0.fLeader 4 _ hx7 w)) (fun _ _ => RX.reads_triv _ _) rfl ?_
      refine TL.q rfl .u (Ex.py rfl (decide_eq_true c5) rfl) rfl ?_
      by_cases c8 : x6 = true
      · replace h := ifT c8 h
        refine TL.run ft_batch_ok [13] rfl rfl ?_
        refine TL.q rfl (.g rfl rfl c8) (Ex.ft ft_batch_ok rfl) rfl ?_
        refine TL.q rfl (.g rfl rfl c8) (Ex.b1 0 rfl Try.isAgg3 rfl rfl) rfl ?_
        refine TL.q rfl (.g rfl rfl c8) (Ex.ft ft_batch_ok rfl) rfl ?_
        refine TL.q rfl .u (Ex.py rfl c8 rfl) rfl ?_
        by_cases c9 : a0.fLast ≥ 0
        · replace h := ifT c9 h
          refine TL.run ft_batch_ok [18] rfl rfl ?_
          refine TL.q rfl (.g rfl rfl (decide_eq_true c9)) (Ex.ft ft_batch_ok rfl) rfl ?_
          refine TL.q rfl (.g rfl rfl (decide_eq_true c9)) (Ex.b1 0 rfl Try.isAgg3 rfl rfl) rfl ?_
          obtain ⟨x10, hx11, h⟩ := Option.bind_eq_some_iff.1 h
          refine TL.ce rfl (.g rfl rfl (decide_eq_true c9)) (.fn Try.call86 rfl) (SpecX.pure (fun w => gFits_spec a0.fLast 4 _ hx11 w)) (fun _ _ => RX.reads_triv _ _) rfl ?_
          refine TL.q rfl .u (Ex.py rfl (decide_eq_true c9) rfl) rfl ?_
          by_cases c12 : x10 = true
          · replace h := ifT c12 h
            refine TL.run ft_batch_ok [23] rfl rfl ?_
            refine TL.q rfl (.g rfl rfl c12) (Ex.ft ft_batch_ok rfl) rfl ?_
            refine TL.q rfl (.g rfl rfl c12) (Ex.b1 0 rfl Try.isAgg3 rfl rfl) rfl ?_
            refine TL.q rfl (.g rfl rfl c12) (Ex.ft ft_batch_ok rfl) rfl ?_
            refine TL.q rfl (.g rfl rfl c12) (Ex.b1 0 rfl Try.isAgg3 rfl rfl) rfl ?_
            refine TL.q rfl (.g rfl rfl c12) (Ex.addw rfl rfl) rfl ?_
            refine TL.q rfl (.g rfl rfl c12) (Ex.ft ft_batch_ok rfl) rfl ?_
            refine TL.q rfl .u (Ex.py rfl c12 rfl) rfl ?_
            by_cases c13 : (IntKind.i64.wrap (a0.fBase + a0.fLast)) ≥ 0
            · replace h := ifT c13 h
              refine TL.run ft_batch_ok [31] rfl rfl ?_
              refine TL.q rfl (.g rfl rfl (decide_eq_true c13)) (Ex.ft ft_batch_ok rfl) rfl ?_
              refine TL.q rfl (.g rfl rfl (decide_eq_true c13)) (Ex.b1 0 rfl Try.isAgg3 rfl rfl) rfl ?_
              refine TL.q rfl (.g rfl rfl (decide_eq_true c13)) (Ex.ft ft_batch_ok rfl) rfl ?_
              refine TL.q rfl .u (Ex.py rfl (decide_eq_true c13) rfl) rfl ?_
              by_cases c14 : a0.fFirst ≥ 0
              · replace h := ifT c14 h
                refine TL.run ft_batch_ok [36] rfl rfl ?_
                refine TL.q rfl (.g rfl rfl (decide_eq_true c14)) (Ex.ft ft_batch_ok rfl) rfl ?_
                refine TL.q rfl (.g rfl rfl (decide_eq_true c14)) (Ex.b1 0 rfl Try.isAgg3 rfl rfl) rfl ?_
                refine TL.q rfl (.g rfl rfl (decide_eq_true c14)) (Ex.ft ft_batch_ok rfl) rfl ?_
                refine TL.q rfl .u (Ex.py rfl (decide_eq_true c14) rfl) rfl ?_
                refine TL.run ft_batch_ok [41] rfl rfl ?_
                by_cases c15 : a0.fMax ≥ 0
                · replace h := ifT c15 h
                  obtain rfl := Option.some.inj h
                  exact TL.nil (X.seq (T.ret (X.done1 [1] Try.results45 (RV.tm (v := .bool true) (congrArg (fun b => some (Value.bool b)) (decide_eq_true c15))) ⟨rfl, rfl, rfl⟩ (by rfl) (.inl rfl))))
                · replace h := ifF c15 h
                  obtain rfl := Option.some.inj h
                  exact TL.nil (X.seq (T.ret (X.done1 [1] Try.results45 (RV.tm (v := .bool false) (congrArg (fun b => some (Value.bool b)) (decide_eq_false c15))) ⟨rfl, rfl, rfl⟩ (by rfl) (.inl rfl))))
              · replace h := ifF c14 h
                refine TL.run ft_batch_ok [36] rfl rfl ?_
                refine TL.no rfl (.gn rfl rfl (decide_eq_false c14)) rfl ?_
                refine TL.no rfl (.gn rfl rfl (decide_eq_false c14)) rfl ?_
                refine TL.no rfl (.gn rfl rfl (decide_eq_false c14)) rfl ?_
                refine TL.q rfl .u (Ex.pn rfl (decide_eq_false c14) rfl) rfl ?_
                refine TL.run ft_batch_ok [41] rfl rfl ?_
                obtain rfl := Option.some.inj h
                exact TL.nil (X.seq (T.ret (X.done1 [1] Try.results45 (RV.tm rfl) ⟨rfl, rfl, rfl⟩ (by rfl) (.inl rfl))))
            · replace h := ifF c13 h
              refine TL.run ft_batch_ok [31] rfl rfl ?_
              refine TL.no rfl (.gn rfl rfl (decide_eq_false c13)) rfl ?_
              refine TL.no rfl (.gn rfl rfl (decide_eq_false c13)) rfl ?_
              refine TL.no rfl (.gn rfl rfl (decide_eq_false c13)) rfl ?_
              refine TL.q rfl .u (Ex.pn rfl (decide_eq_false c13) rfl) rfl ?_
              refine TL.run ft_batch_ok [36] rfl rfl ?_
              refine TL.no rfl (.gn rfl rfl rfl) rfl ?_
              refine TL.no rfl (.gn rfl rfl rfl) rfl ?_
              refine TL.no rfl (.gn rfl rfl rfl) rfl ?_
              refine TL.q rfl .u (Ex.pn rfl rfl rfl) rfl ?_
              refine TL.run ft_batch_ok [41] rfl rfl ?_
              obtain rfl := Option.some.inj h
              exact TL.nil (X.seq (T.ret (X.done1 [1] Try.results45 (RV.tm rfl) ⟨rfl, rfl, rfl⟩ (by rfl) (.inl rfl))))
          · replace h := ifF c12 h
            replace c12 := eq_false_of_ne_true c12
            refine TL.run ft_batch_ok [23] rfl rfl ?_
            refine TL.no rfl (.gn rfl rfl c12) rfl ?_
            refine TL.no rfl (.gn rfl rfl c12) rfl ?_
            refine TL.no rfl (.gn rfl rfl c12) rfl ?_
            refine TL.no rfl (.gn rfl rfl c12) rfl ?_
            refine TL.no rfl (.gn rfl rfl c12) rfl ?_
            refine TL.no rfl (.gn rfl rfl c12) rfl ?_
            refine TL.q rfl .u (Ex.pn rfl c12 rfl) rfl ?_
            refine TL.run ft_batch_ok [31] rfl rfl ?_
            refine TL.no rfl (.gn rfl rfl rfl) rfl ?_
            refine TL.no rfl (.gn rfl rfl rfl) rfl ?_
            refine TL.no rfl (.gn rfl rfl rfl) rfl ?_
            refine TL.q rfl .u (Ex.pn rfl rfl rfl) rfl ?_
            refine TL.run ft_batch_ok [36] rfl rfl ?_
            refine TL.no rfl (.gn rfl rfl rfl) rfl ?_
            refine TL.no rfl (.gn rfl rfl rfl) rfl ?_
            refine TL.no rfl (.gn rfl rfl rfl) rfl ?_
            refine TL.q rfl .u (Ex.pn rfl rfl rfl) rfl ?_
            refine TL.run ft_batch_ok [41] rfl rfl ?_
            obtain rfl := Option.some.inj h
            exact TL.nil (X.seq (T.ret (X.done1 [1] Try.results45 (RV.tm rfl) ⟨rfl, rfl, rfl⟩ (by rfl) (.inl rfl))))
        · replace h := ifF c9 h
          refine TL.run ft_batch_ok [18] rfl rfl ?_
          refine TL.no rfl (.gn rfl rfl (decide_eq_false c9)) rfl ?_
          refine TL.no rfl (.gn rfl rfl (decide_eq_false c9)) rfl ?_
          refine TL.no rfl (.gn rfl rfl (decide_eq_false c9)) rfl ?_
          refine TL.q rfl .u (Ex.pn rfl (decide_eq_false c9) rfl) rfl ?_
          refine TL.run ft_batch_ok [23] rfl rfl ?_
          refine TL.no rfl (.gn rfl rfl rfl) rfl ?_
          refine TL.no rfl (.gn rfl rfl rfl) rfl ?_
          refine TL.no rfl (.gn rfl rfl rfl) rfl ?_
          refine TL.no rfl (.gn rfl rfl rfl) rfl ?_
          refine TL.no rfl (.gn rfl rfl rfl) rfl ?_
          refine TL.no rfl (.gn rfl rfl rfl) rfl ?_
          refine TL.q rfl .u (Ex.pn rfl rfl rfl) rfl ?_
          refine TL.run ft_batch_ok [31] rfl rfl ?_
          refine TL.no rfl (.gn rfl rfl rfl) rfl ?_
          refine TL.no rfl (.gn rfl rfl rfl) rfl ?_
          refine TL.no rfl (.gn rfl rfl rfl) rfl ?_
          refine TL.q rfl .u (Ex.pn rfl rfl rfl) rfl ?_
          refine TL.run ft_batch_ok [36] rfl rfl ?_
          refine TL.no rfl (.gn rfl rfl rfl) rfl ?_
          refine TL.no rfl (.gn rfl rfl rfl) rfl ?_
          refine TL.no rfl (.gn rfl rfl rfl) rfl ?_
          refine TL.q rfl .u (Ex.pn rfl rfl rfl) rfl ?_
          refine TL.run ft_batch_ok [41] rfl rfl ?_
          obtain rfl := Option.some.inj h
          exact TL.nil (X.seq (T.ret (X.done1 [1] Try.results45 (RV.tm rfl) ⟨rfl, rfl, rfl⟩ (by rfl) (.inl rfl))))
      · replace h := ifF c8 h
        replace c8 := eq_false_of_ne_true c8
        refine TL.run ft_batch_ok [13] rfl rfl ?_
        refine TL.no rfl (.gn rfl rfl c8) rfl ?_
        refine TL.no rfl (.gn rfl rfl c8) rfl ?_
        refine TL.no rfl (.gn rfl rfl c8) rfl ?_
        refine TL.q rfl .u (Ex.pn rfl c8 rfl) rfl ?_
        refine TL.run ft_batch_ok [18] rfl rfl ?_
        refine TL.no rfl (.gn rfl rfl rfl) rfl ?_
        refine TL.no rfl (.gn rfl rfl rfl) rfl ?_
        refine TL.no rfl (.gn rfl rfl rfl) rfl ?_
        refine TL.q rfl .u (Ex.pn rfl rfl rfl) rfl ?_
        refine TL.run ft_batch_ok [23] rfl rfl ?_
        refine TL.no rfl (.gn rfl rfl rfl) rfl ?_
        refine TL.no rfl (.gn rfl rfl rfl) rfl ?_
        refine TL.no rfl (.gn rfl rfl rfl) rfl ?_
        refine TL.no rfl (.gn rfl rfl rfl) rfl ?_
        refine TL.no rfl (.gn rfl rfl rfl) rfl ?_
        refine TL.no rfl (.gn rfl rfl rfl) rfl ?_
        refine TL.q rfl .u (Ex.pn rfl rfl rfl) rfl ?_
        refine TL.run ft_batch_ok [31] rfl rfl ?_
        refine TL.no rfl (.gn rfl rfl rfl) rfl ?_
        refine TL.no rfl (.gn rfl rfl rfl) rfl ?_
        refine TL.no rfl (.gn rfl rfl rfl) rfl ?_
        refine TL.q rfl .u (Ex.pn rfl rfl rfl) rfl ?_
        refine TL.run ft_batch_ok [36] rfl rfl ?_
        refine TL.no rfl (.gn rfl rfl rfl) rfl ?_
        refine TL.no rfl (.gn rfl rfl rfl) rfl ?_
        refine TL.no rfl (.gn rfl rfl rfl) rfl ?_
        refine TL.q rfl .u (Ex.pn rfl rfl rfl) rfl ?_
        refine TL.run ft_batch_ok [41] rfl rfl ?_
        obtain rfl := Option.some.inj h
        exact TL.nil (X.seq (T.ret (X.done1 [1] Try.results45 (RV.tm rfl) ⟨rfl, rfl, rfl⟩ (by rfl) (.inl rfl))))
    · replace h := ifF c5 h
      refine TL.run ft_batch_ok [8] rfl rfl ?_
      refine TL.no rfl (.gn rfl rfl (decide_eq_false c5)) rfl ?_
      refine TL.no rfl (.gn rfl rfl (decide_eq_false c5)) rfl ?_
      refine TL.no rfl (.gn rfl rfl (decide_eq_false c5)) rfl ?_
      refine TL.q rfl .u (Ex.pn rfl (decide_eq_false c5) rfl) rfl ?_
      refine TL.run ft_batch_ok [13] rfl rfl ?_
      refine TL.no rfl (.gn rfl rfl rfl) rfl ?_
      refine TL.no rfl (.gn rfl rfl rfl) rfl ?_
      refine TL.no rfl (.gn rfl rfl rfl) rfl ?_
      refine TL.q rfl .u (Ex.pn rfl rfl rfl) rfl ?_
      refine TL.run ft_batch_ok [18] rfl rfl ?_
      refine TL.no rfl (.gn rfl rfl rfl) rfl ?_
      refine TL.no rfl (.gn rfl rfl rfl) rfl ?_
      refine TL.no rfl (.gn rfl rfl rfl) rfl ?_
      refine TL.q rfl .u (Ex.pn rfl rfl rfl) rfl ?_
      refine TL.run ft_batch_ok [23] rfl rfl ?_
      refine TL.no rfl (.gn rfl rfl rfl) rfl ?_
      refine TL.no rfl (.gn rfl rfl rfl) rfl ?_
      refine TL.no rfl (.gn rfl rfl rfl) rfl ?_
      refine TL.no rfl (.gn rfl rfl rfl) rfl ?_
      refine TL.no rfl (.gn rfl rfl rfl) rfl ?_
      refine TL.no rfl (.gn rfl rfl rfl) rfl ?_
      refine TL.q rfl .u (Ex.pn rfl rfl rfl) rfl ?_
      refine TL.run ft_batch_ok [31] rfl rfl ?_
      refine TL.no rfl (.gn rfl rfl rfl) rfl ?_
      refine TL.no rfl (.gn rfl rfl rfl) rfl ?_
      refine TL.no rfl (.gn rfl rfl rfl) rfl ?_
      refine TL.q rfl .u (Ex.pn rfl rfl rfl) rfl ?_
      refine TL.run ft_batch_ok [36] rfl rfl ?_
      refine TL.no rfl (.gn rfl rfl rfl) rfl ?_
      refine TL.no rfl (.gn rfl rfl rfl) rfl ?_
      refine TL.no rfl (.gn rfl rfl rfl) rfl ?_
      refine TL.q rfl .u (Ex.pn rfl rfl rfl) rfl ?_
      refine TL.run ft_batch_ok [41] rfl rfl ?_
      obtain rfl := Option.some.inj h
      exact TL.nil (X.seq (T.ret (X.done1 [1] Try.results45 (RV.tm rfl) ⟨rfl, rfl, rfl⟩ (by rfl) (.inl rfl))))
  · replace h := ifF c4 h
    refine TL.run ft_batch_ok [2, 3] rfl rfl ?_
    refine TL.no rfl (.gn rfl rfl (decide_eq_false c4)) rfl ?_
    refine TL.no rfl (.gn rfl rfl (decide_eq_false c4)) rfl ?_
    refine TL.no rfl (.gn rfl rfl (decide_eq_false c4)) rfl ?_
    refine TL.q rfl .u (Ex.pn rfl (decide_eq_false c4) rfl) rfl ?_
    refine TL.run ft_batch_ok [8] rfl rfl ?_
    refine TL.no rfl (.gn rfl rfl rfl) rfl ?_
    refine TL.no rfl (.gn rfl rfl rfl) rfl ?_
    refine TL.no rfl (.gn rfl rfl rfl) rfl ?_
    refine TL.q rfl .u (Ex.pn rfl rfl rfl) rfl ?_
    refine TL.run ft_batch_ok [13] rfl rfl ?_
    refine TL.no rfl (.gn rfl rfl rfl) rfl ?_
    refine TL.no rfl (.gn rfl rfl rfl) rfl ?_
    refine TL.no rfl (.gn rfl rfl rfl) rfl ?_
    refine TL.q rfl .u (Ex.pn rfl rfl rfl) rfl ?_
    refine TL.run ft_batch_ok [18] rfl rfl ?_
    refine TL.no rfl (.gn rfl rfl rfl) rfl ?_
    refine TL.no rfl (.gn rfl rfl rfl) rfl ?_
    refine TL.no rfl (.gn rfl rfl rfl) rfl ?_
    refine TL.q rfl .u (Ex.pn rfl rfl rfl) rfl ?_
    refine TL.run ft_batch_ok [23] rfl rfl ?_
    refine TL.no rfl (.gn rfl rfl rfl) rfl ?_
    refine TL.no rfl (.gn rfl rfl rfl) rfl ?_
    refine TL.no rfl (.gn rfl rfl rfl) rfl ?_
    refine TL.no rfl (.gn rfl rfl rfl) rfl ?_
    refine TL.no rfl (.gn rfl rfl rfl) rfl ?_
    refine TL.no rfl (.gn rfl rfl rfl) rfl ?_
    refine TL.q rfl .u (Ex.pn rfl rfl rfl) rfl ?_
    refine TL.run ft_batch_ok [31] rfl rfl ?_
    refine TL.no rfl (.gn rfl rfl rfl) rfl ?_
    refine TL.no rfl (.gn rfl rfl rfl) rfl ?_
    refine TL.no rfl (.gn rfl rfl rfl) rfl ?_
    refine TL.q rfl .u (Ex.pn rfl rfl rfl) rfl ?_
    refine TL.run ft_batch_ok [36] rfl rfl ?_
    refine TL.no rfl (.gn rfl rfl rfl) rfl ?_
    refine TL.no rfl (.gn rfl rfl rfl) rfl ?_
    refine TL.no rfl (.gn rfl rfl rfl) rfl ?_
    refine TL.q rfl .u (Ex.pn rfl rfl rfl) rfl ?_
    refine TL.run ft_batch_ok [41] rfl rfl ?_
    obtain rfl := Option.some.inj h
    exact TL.nil (X.seq (T.ret (X.done1 [1] Try.results45 (RV.tm rfl) ⟨rfl, rfl, rfl⟩ (by rfl) (.inl rfl))))
def f_batch_producer (a0 : Bat) : Option (Bool) := if a0.fProducer = (-1) then (if a0.fEpoch = (-1) then (if a0.fSequence = (-1) then (if a0.fTxn = true then some false else some true) else some false) else some false) else (if a0.fControl = true then (if a0.fProducer ≥ 0 then (if a0.fEpoch ≥ 0 then ((gFits a0.fEpoch 2).bind fun x11 => if x11 = true then (if a0.fSequence ≥ (-1) then ((gFits a0.fSequence 4).bind fun x15 => if x15 = true then (if a0.fSequence = (-1) then some true else some false) else some false) else some false) else some false) else some false) else some false) else (if a0.fProducer ≥ 0 then (if a0.fEpoch ≥ 0 then ((gFits a0.fEpoch 2).bind fun x21 => if x21 = true then (if a0.fSequence ≥ 0 then ((gFits a0.fSequence 4).bind fun x25 => if x25 = true then some true else some false) else some false) else some false) else some false) else some false))
set_option maxRecDepth 100000 in
set_option maxHeartbeats 4000000 in
theorem f_batch_producer_spec (a0 : Bat) (A1 : Option Addr) (c2 : Nat) (r : Bool) (h : f_batch_producer a0 = some r) : SpecX Try.prog 46 #[.agg #[.int .i64 a0.fBase, .int .i64 a0.fLeader, .bool a0.fAppend, .bool a0.fTxn, .bool a0.fControl, .int .i64 a0.fLast, .int .i64 a0.fFirst, .int .i64 a0.fMax, .int .i64 a0.fProducer, .int .i64 a0.fEpoch, .int .i64 a0.fSequence, .slice A1 a0.fRecords.length c2]] (RX.of (sliceRd 7 Rec_rd) [.slice A1 a0.fRecords.length c2] a0.fRecords) (EmpR) (fun v A' N => v = .bool r ∧ A' = EmpR ∧ N = []) := by
  refine enterA Try.func46 rfl Try.ntmps46 rfl ?_
  intro F w hX
  unfold f_batch_producer at h
  refine T.seq (T.region rfl ?_)
  refine TL.box rfl .u rfl rfl (fun b3 => ?_)
  refine TL.run ft_batch_ok [1] rfl rfl ?_
  refine TL.nil (X.seq (T.seq (T.seq (T.region rfl ?_))))
  refine TL.run ft_batch_ok [0] rfl rfl ?_
  refine TL.q rfl .u (Ex.b1 0 rfl Try.isAgg3 rfl rfl) rfl ?_
  refine TL.run ft_batch_ok [2] rfl rfl ?_
  by_cases c4 : a0.fProducer = (-1)
  · replace h := ifT c4 h
    refine TL.nil (X.seq ?_)
    refine T.yes rfl (decide_eq_true c4) ?_
    refine T.seq (T.region rfl ?_)
    refine TL.run ft_batch_ok [0] rfl rfl ?_
    refine TL.q rfl .u (Ex.b1 0 rfl Try.isAgg3 rfl rfl) rfl ?_
    by_cases c5 : a0.fEpoch = (-1)
    · replace h := ifT c5 h
      refine TL.run ft_batch_ok [2, 3] rfl rfl ?_
      refine TL.q rfl (.g rfl rfl (decide_eq_true c5)) (Ex.ft ft_batch_ok rfl) rfl ?_
      refine TL.q rfl (.g rfl rfl (decide_eq_true c5)) (Ex.b1 0 rfl Try.isAgg3 rfl rfl) rfl ?_
      refine TL.q rfl (.g rfl rfl (decide_eq_true c5)) (Ex.ft ft_batch_ok rfl) rfl ?_
      refine TL.q rfl .u (Ex.py rfl (decide_eq_true c5) rfl) rfl ?_
      by_cases c6 : a0.fSequence = (-1)
      · replace h := ifT c6 h
        refine TL.run ft_batch_ok [8] rfl rfl ?_
        refine TL.q rfl (.g rfl rfl (decide_eq_true c6)) (Ex.ft ft_batch_ok rfl) rfl ?_
        refine TL.q rfl (.g rfl rfl (decide_eq_true c6)) (Ex.b1 0 rfl Try.isAgg4 rfl rfl) rfl ?_
        refine TL.q rfl (.g rfl rfl (decide_eq_true c6)) (Ex.ft ft_batch_ok rfl) rfl ?_
        refine TL.q rfl .u (Ex.py rfl (decide_eq_true c6) rfl) rfl ?_
        refine TL.run ft_batch_ok [13] rfl rfl ?_
        by_cases c7 : a0.fTxn = true
        · replace h := ifT c7 h
          obtain rfl := Option.some.inj h
          exact TL.nil (X.seq (T.ret (X.rs (X.done1 [1] Try.results46 (RV.tm (v := .bool false) (congrArg (fun b => some (Value.bool b)) (bn_f c7))) ⟨rfl, rfl, rfl⟩ (by rfl) (.inl rfl)))))
        · replace h := ifF c7 h
          replace c7 := eq_false_of_ne_true c7
          obtain rfl := Option.some.inj h
          exact TL.nil (X.seq (T.ret (X.rs (X.done1 [1] Try.results46 (RV.tm (v := .bool true) (congrArg (fun b => some (Value.bool b)) (bn_t c7))) ⟨rfl, rfl, rfl⟩ (by rfl) (.inl rfl)))))
      · replace h := ifF c6 h
        refine TL.run ft_batch_ok [8] rfl rfl ?_
        refine TL.no rfl (.gn rfl rfl (decide_eq_false c6)) rfl ?_
        refine TL.no rfl (.gn rfl rfl (decide_eq_false c6)) rfl ?_
        refine TL.no rfl (.gn rfl rfl (decide_eq_false c6)) rfl ?_
        refine TL.q rfl .u (Ex.pn rfl (decide_eq_false c6) rfl) rfl ?_
        refine TL.run ft_batch_ok [13] rfl rfl ?_
        obtain rfl := Option.some.inj h
        exact TL.nil (X.seq (T.ret (X.rs (X.done1 [1] Try.results46 (RV.tm rfl) ⟨rfl, rfl, rfl⟩ (by rfl) (.inl rfl)))))
    · replace h := ifF c5 h
      refine TL.run ft_batch_ok [2, 3] rfl rfl ?_
      refine TL.no rfl (.gn rfl rfl (decide_eq_false c5)) rfl ?_
      refine TL.no rfl (.gn rfl rfl (decide_eq_false c5)) rfl ?_
      refine TL.no rfl (.gn rfl rfl (decide_eq_false c5)) rfl ?_
      refine TL.q rfl .u (Ex.pn rfl (decide_eq_false c5) rfl) rfl ?_
      refine TL.run ft_batch_ok [8] rfl rfl ?_
      refine TL.no rfl (.gn rfl rfl rfl) rfl ?_
      refine TL.no rfl (.gn rfl rfl rfl) rfl ?_
      refine TL.no rfl (.gn rfl rfl rfl) rfl ?_
      refine TL.q rfl .u (Ex.pn rfl rfl rfl) rfl ?_
      refine TL.run ft_batch_ok [13] rfl rfl ?_
      obtain rfl := Option.some.inj h
      exact TL.nil (X.seq (T.ret (X.rs (X.done1 [1] Try.results46 (RV.tm rfl) ⟨rfl, rfl, rfl⟩ (by rfl) (.inl rfl)))))
  · replace h := ifF c4 h
    refine TL.nil (X.seq ?_)
    refine T.no rfl (decide_eq_false c4) ?_
    refine T.skip (X.seq (T.seq (T.region rfl ?_)))
    refine TL.run ft_batch_ok [0] rfl rfl ?_
    refine TL.nil (X.seq (T.seq (T.seq (T.region rfl ?_))))
    refine TL.run ft_batch_ok [0] rfl rfl ?_
    refine TL.q rfl .u (Ex.b1 0 rfl Try.isAgg4 rfl rfl) rfl ?_
    by_cases c8 : a0.fControl = true
    · replace h := ifT c8 h
      refine TL.nil (X.seq ?_)
      refine T.yes rfl c8 ?_
      refine T.region rfl ?_
      refine TL.run ft_batch_ok [0] rfl rfl ?_
      refine TL.nil (X.seq (T.seq (T.region rfl ?_)))
      refine TL.run ft_batch_ok [0] rfl rfl ?_
      refine TL.q rfl .u (Ex.b1 0 rfl Try.isAgg3 rfl rfl) rfl ?_
      by_cases c9 : a0.fProducer ≥ 0
      · replace h := ifT c9 h
        refine TL.run ft_batch_ok [2, 3] rfl rfl ?_
        refine TL.q rfl (.g rfl rfl (decide_eq_true c9)) (Ex.ft ft_batch_ok rfl) rfl ?_
        refine TL.q rfl (.g rfl rfl (decide_eq_true c9)) (Ex.b1 0 rfl Try.isAgg3 rfl rfl) rfl ?_
        refine TL.q rfl (.g rfl rfl (decide_eq_true c9)) (Ex.ft ft_batch_ok rfl) rfl ?_
        refine TL.q rfl .u (Ex.py rfl (decide_eq_true c9) rfl) rfl ?_
        by_cases c10 : a0.fEpoch ≥ 0
        · replace h := ifT c10 h
          refine TL.run ft_batch_ok [8] rfl rfl ?_
          refine TL.q rfl (.g rfl rfl (decide_eq_true c10)) (Ex.ft ft_batch_ok rfl) rfl ?_
          refine TL.q rfl (.g rfl rfl (decide_eq_true c10)) (Ex.b1 0 rfl Try.isAgg3 rfl rfl) rfl ?_
          obtain ⟨x11, hx12, h⟩ := Option.bind_eq_some_iff.1 h
          refine TL.ce rfl (.g rfl rfl (decide_eq_true c10)) (.fn Try.call86 rfl) (SpecX.pure (fun w => gFits_spec a0.fEpoch 2 _ hx12 w)) (fun _ _ => RX.reads_triv _ _) rfl ?_
          refine TL.q rfl .u (Ex.py rfl (decide_eq_true c10) rfl) rfl ?_
          by_cases c13 : x11 = true
          · replace h := ifT c13 h
            refine TL.run ft_batch_ok [13] rfl rfl ?_
            refine TL.q rfl (.g rfl rfl c13) (Ex.ft ft_batch_ok rfl) rfl ?_
            refine TL.q rfl (.g rfl rfl c13) (Ex.b1 0 rfl Try.isAgg3 rfl rfl) rfl ?_
            refine TL.q rfl (.g rfl rfl c13) (Ex.ft ft_batch_ok rfl) rfl ?_
            refine TL.q rfl (.g rfl rfl c13) (Ex.ft ft_batch_ok rfl) rfl ?_
            refine TL.q rfl .u (Ex.py rfl c13 rfl) rfl ?_
            by_cases c14 : a0.fSequence ≥ (-1)
            · replace h := ifT c14 h
              refine TL.run ft_batch_ok [19] rfl rfl ?_
              refine TL.q rfl (.g rfl rfl (decide_eq_true c14)) (Ex.ft ft_batch_ok rfl) rfl ?_
              refine TL.q rfl (.g rfl rfl (decide_eq_true c14)) (Ex.b1 0 rfl Try.isAgg3 rfl rfl) rfl ?_
              obtain ⟨x15, hx16, h⟩ := Option.bind_eq_some_iff.1 h
              refine TL.ce rfl (.g rfl rfl (decide_eq_true c14)) (.fn Try.call86 rfl) (SpecX.pure (fun w => gFits_spec a0.fSequence 4 _ hx16 w)) (fun _ _ => RX.reads_triv _ _) rfl ?_
              refine TL.q rfl .u (Ex.py rfl (decide_eq_true c14) rfl) rfl ?_
              by_cases c17 : x15 = true
              · replace h := ifT c17 h
                refine TL.run ft_batch_ok [24] rfl rfl ?_
                refine TL.q rfl (.g rfl rfl c17) (Ex.ft ft_batch_ok rfl) rfl ?_
                refine TL.q rfl (.g rfl rfl c17) (Ex.b1 0 rfl Try.isAgg4 rfl rfl) rfl ?_
                refine TL.q rfl (.g rfl rfl c17) (Ex.ft ft_batch_ok rfl) rfl ?_
                refine TL.q rfl (.g rfl rfl c17) (Ex.ft ft_batch_ok rfl) rfl ?_
                refine TL.q rfl (.g rfl rfl (bn_f c8)) (Ex.ft ft_batch_ok rfl) rfl ?_
                refine TL.q rfl (.g rfl rfl (bn_f c8)) (Ex.b1 0 rfl Try.isAgg3 rfl rfl) rfl ?_
                refine TL.q rfl (.g rfl rfl (bn_f c8)) (Ex.ft ft_batch_ok rfl) rfl ?_
                refine TL.q rfl (.g rfl rfl c17) (Ex.pn rfl (bn_f c8) rfl) rfl ?_
                refine TL.q rfl .u (Ex.py rfl c17 rfl) rfl ?_
                refine TL.run ft_batch_ok [34] rfl rfl ?_
                by_cases c18 : a0.fSequence = (-1)
                · replace h := ifT c18 h
                  obtain rfl := Option.some.inj h
                  exact TL.nil (X.seq (T.ret (X.done1 [1] Try.results46 (RV.tm (v := .bool true) (congrArg (fun b => some (Value.bool b)) (decide_eq_true c18))) ⟨rfl, rfl, rfl⟩ (by rfl) (.inl rfl))))
                · replace h := ifF c18 h
                  obtain rfl := Option.some.inj h
                  exact TL.nil (X.seq (T.ret (X.done1 [1] Try.results46 (RV.tm (v := .bool false) (congrArg (fun b => some (Value.bool b)) (decide_eq_false c18))) ⟨rfl, rfl, rfl⟩ (by rfl) (.inl rfl))))
              · replace h := ifF c17 h
                replace c17 := eq_false_of_ne_true c17
                refine TL.run ft_batch_ok [24] rfl rfl ?_
                refine TL.no rfl (.gn rfl rfl c17) rfl ?_
                refine TL.no rfl (.gn rfl rfl c17) rfl ?_
                refine TL.no rfl (.gn rfl rfl c17) rfl ?_
                refine TL.no rfl (.gn rfl rfl c17) rfl ?_
                refine TL.no rfl (.gu rfl rfl) rfl ?_
                refine TL.no rfl (.gu rfl rfl) rfl ?_
                refine TL.no rfl (.gu rfl rfl) rfl ?_
                refine TL.no rfl (.gn rfl rfl c17) rfl ?_
                refine TL.q rfl .u (Ex.pn rfl c17 rfl) rfl ?_
                refine TL.run ft_batch_ok [34] rfl rfl ?_
                obtain rfl := Option.some.inj h
                exact TL.nil (X.seq (T.ret (X.done1 [1] Try.results46 (RV.tm rfl) ⟨rfl, rfl, rfl⟩ (by rfl) (.inl rfl))))
            · replace h := ifF c14 h
              refine TL.run ft_batch_ok [19] rfl rfl ?_
              refine TL.no rfl (.gn rfl rfl (decide_eq_false c14)) rfl ?_
              refine TL.no rfl (.gn rfl rfl (decide_eq_false c14)) rfl ?_
              refine TL.no rfl (.gn rfl rfl (decide_eq_false c14)) rfl ?_
              refine TL.q rfl .u (Ex.pn rfl (decide_eq_false c14) rfl) rfl ?_
              refine TL.run ft_batch_ok [24] rfl rfl ?_
              refine TL.no rfl (.gn rfl rfl rfl) rfl ?_
              refine TL.no rfl (.gn rfl rfl rfl) rfl ?_
              refine TL.no rfl (.gn rfl rfl rfl) rfl ?_
              refine TL.no rfl (.gn rfl rfl rfl) rfl ?_
              refine TL.no rfl (.gu rfl rfl) rfl ?_
              refine TL.no rfl (.gu rfl rfl) rfl ?_
              refine TL.no rfl (.gu rfl rfl) rfl ?_
              refine TL.no rfl (.gn rfl rfl rfl) rfl ?_
              refine TL.q rfl .u (Ex.pn rfl rfl rfl) rfl ?_
              refine TL.run ft_batch_ok [34] rfl rfl ?_
              obtain rfl := Option.some.inj h
              exact TL.nil (X.seq (T.ret (X.done1 [1] Try.results46 (RV.tm rfl) ⟨rfl, rfl, rfl⟩ (by rfl) (.inl rfl))))
          · replace h := ifF c13 h
            replace c13 := eq_false_of_ne_true c13
            refine TL.run ft_batch_ok [13] rfl rfl ?_
            refine TL.no rfl (.gn rfl rfl c13) rfl ?_
            refine TL.no rfl (.gn rfl rfl c13) rfl ?_
            refine TL.no rfl (.gn rfl rfl c13) rfl ?_
            refine TL.no rfl (.gn rfl rfl c13) rfl ?_
            refine TL.q rfl .u (Ex.pn rfl c13 rfl) rfl ?_
            refine TL.run ft_batch_ok [19] rfl rfl ?_
            refine TL.no rfl (.gn rfl rfl rfl) rfl ?_
            refine TL.no rfl (.gn rfl rfl rfl) rfl ?_
            refine TL.no rfl (.gn rfl rfl rfl) rfl ?_
            refine TL.q rfl .u (Ex.pn rfl rfl rfl) rfl ?_
            refine TL.run ft_batch_ok [24] rfl rfl ?_
            refine TL.no rfl (.gn rfl rfl rfl) rfl ?_
            refine TL.no rfl (.gn rfl rfl rfl) rfl ?_
            refine TL.no rfl (.gn rfl rfl rfl) rfl ?_
            refine TL.no rfl (.gn rfl rfl rfl) rfl ?_
            refine TL.no rfl (.gu rfl rfl) rfl ?_
            refine TL.no rfl (.gu rfl rfl) rfl ?_
            refine TL.no rfl (.gu rfl rfl) rfl ?_
            refine TL.no rfl (.gn rfl rfl rfl) rfl ?_
            refine TL.q rfl .u (Ex.pn rfl rfl rfl) rfl ?_
            refine TL.run ft_batch_ok [34] rfl rfl ?_
            obtain rfl := Option.some.inj h
            exact TL.nil (X.seq (T.ret (X.done1 [1] Try.results46 (RV.tm rfl) ⟨rfl, rfl, rfl⟩ (by rfl) (.inl rfl))))
        · replace h := ifF c10 h
          refine TL.run ft_batch_ok [8] rfl rfl ?_
          refine TL.no rfl (.gn rfl rfl (decide_eq_false c10)) rfl ?_
          refine TL.no rfl (.gn rfl rfl (decide_eq_false c10)) rfl ?_
          refine TL.no rfl (.gn rfl rfl (decide_eq_false c10)) rfl ?_
          refine TL.q rfl .u (Ex.pn rfl (decide_eq_false c10) rfl) rfl ?_
          refine TL.run ft_batch_ok [13] rfl rfl ?_
          refine TL.no rfl (.gn rfl rfl rfl) rfl ?_
          refine TL.no rfl (.gn rfl rfl rfl) rfl ?_
          refine TL.no rfl (.gn rfl rfl rfl) rfl ?_
          refine TL.no rfl (.gn rfl rfl rfl) rfl ?_
          refine TL.q rfl .u (Ex.pn rfl rfl rfl) rfl ?_
          refine TL.run ft_batch_ok [19] rfl rfl ?_
          refine TL.no rfl (.gn rfl rfl rfl) rfl ?_
          refine TL.no rfl (.gn rfl rfl rfl) rfl ?_
          refine TL.no rfl (.gn rfl rfl rfl) rfl ?_
          refine TL.q rfl .u (Ex.pn rfl rfl rfl) rfl ?_
          refine TL.run ft_batch_ok [24] rfl rfl ?_
          refine TL.no rfl (.gn rfl rfl rfl) rfl ?_
          refine TL.no rfl (.gn rfl rfl rfl) rfl ?_
          refine TL.no rfl (.gn rfl rfl rfl) rfl ?_
          refine TL.no rfl (.gn rfl rfl rfl) rfl ?_
          refine TL.no rfl (.gu rfl rfl) rfl ?_
          refine TL.no rfl (.gu rfl rfl) rfl ?_
          refine TL.no rfl (.gu rfl rfl) rfl ?_
          refine TL.no rfl (.gn rfl rfl rfl) rfl ?_
          refine TL.q rfl .u (Ex.pn rfl rfl rfl) rfl ?_
          refine TL.run ft_batch_ok [34] rfl rfl ?_
          obtain rfl := Option.some.inj h
          exact TL.nil (X.seq (T.ret (X.done1 [1] Try.results46 (RV.tm rfl) ⟨rfl, rfl, rfl⟩ (by rfl) (.inl rfl))))
      · replace h := ifF c9 h
        refine TL.run ft_batch_ok [2, 3] rfl rfl ?_
        refine TL.no rfl (.gn rfl rfl (decide_eq_false c9)) rfl ?_
        refine TL.no rfl (.gn rfl rfl (decide_eq_false c9)) rfl ?_
        refine TL.no rfl (.gn rfl rfl (decide_eq_false c9)) rfl ?_
        refine TL.q rfl .u (Ex.pn rfl (decide_eq_false c9) rfl) rfl ?_
        refine TL.run ft_batch_ok [8] rfl rfl ?_
        refine TL.no rfl (.gn rfl rfl rfl) rfl ?_
        refine TL.no rfl (.gn rfl rfl rfl) rfl ?_
        refine TL.no rfl (.gn rfl rfl rfl) rfl ?_
        refine TL.q rfl .u (Ex.pn rfl rfl rfl) rfl ?_
        refine TL.run ft_batch_ok [13] rfl rfl ?_
        refine TL.no rfl (.gn rfl rfl rfl) rfl ?_
        refine TL.no rfl (.gn rfl rfl rfl) rfl ?_
        refine TL.no rfl (.gn rfl rfl rfl) rfl ?_
        refine TL.no rfl (.gn rfl rfl rfl) rfl ?_
        refine TL.q rfl .u (Ex.pn rfl rfl rfl) rfl ?_
        refine TL.run ft_batch_ok [19] rfl rfl ?_
        refine TL.no rfl (.gn rfl rfl rfl) rfl ?_
        refine TL.no rfl (.gn rfl rfl rfl) rfl ?_
        refine TL.no rfl (.gn rfl rfl rfl) rfl ?_
        refine TL.q rfl .u (Ex.pn rfl rfl rfl) rfl ?_
        refine TL.run ft_batch_ok [24] rfl rfl ?_
        refine TL.no rfl (.gn rfl rfl rfl) rfl ?_
        refine TL.no rfl (.gn rfl rfl rfl) rfl ?_
        refine TL.no rfl (.gn rfl rfl rfl) rfl ?_
        refine TL.no rfl (.gn rfl rfl rfl) rfl ?_
        refine TL.no rfl (.gu rfl rfl) rfl ?_
        refine TL.no rfl (.gu rfl rfl) rfl ?_
        refine TL.no rfl (.gu rfl rfl) rfl ?_
        refine TL.no rfl (.gn rfl rfl rfl) rfl ?_
        refine TL.q rfl .u (Ex.pn rfl rfl rfl) rfl ?_
        refine TL.run ft_batch_ok [34] rfl rfl ?_
        obtain rfl := Option.some.inj h
        exact TL.nil (X.seq (T.ret (X.done1 [1] Try.results46 (RV.tm rfl) ⟨rfl, rfl, rfl⟩ (by rfl) (.inl rfl))))
    · replace h := ifF c8 h
      replace c8 := eq_false_of_ne_true c8
      refine TL.nil (X.seq ?_)
      refine T.no rfl c8 ?_
      refine T.skip (X.seq (T.seq (T.region rfl ?_)))
      refine TL.run ft_batch_ok [0] rfl rfl ?_
      refine TL.q rfl .u (Ex.b1 0 rfl Try.isAgg3 rfl rfl) rfl ?_
      by_cases c19 : a0.fProducer ≥ 0
      · replace h := ifT c19 h
        refine TL.run ft_batch_ok [2, 3] rfl rfl ?_
        refine TL.q rfl (.g rfl rfl (decide_eq_true c19)) (Ex.ft ft_batch_ok rfl) rfl ?_
        refine TL.q rfl (.g rfl rfl (decide_eq_true c19)) (Ex.b1 0 rfl Try.isAgg3 rfl rfl) rfl ?_
        refine TL.q rfl (.g rfl rfl (decide_eq_true c19)) (Ex.ft ft_batch_ok rfl) rfl ?_
        refine TL.q rfl .u (Ex.py rfl (decide_eq_true c19) rfl) rfl ?_
        by_cases c20 : a0.fEpoch ≥ 0
        · replace h := ifT c20 h
          refine TL.run ft_batch_ok [8] rfl rfl ?_
          refine TL.q rfl (.g rfl rfl (decide_eq_true c20)) (Ex.ft ft_batch_ok rfl) rfl ?_
          refine TL.q rfl (.g rfl rfl (decide_eq_true c20)) (Ex.b1 0 rfl Try.isAgg3 rfl rfl) rfl ?_
          obtain ⟨x21, hx22, h⟩ := Option.bind_eq_some_iff.1 h
          refine TL.ce rfl (.g rfl rfl (decide_eq_true c20)) (.fn Try.call86 rfl) (SpecX.pure (fun w => gFits_spec a0.fEpoch 2 _ hx22 w)) (fun _ _ => RX.reads_triv _ _) rfl ?_
          refine TL.q rfl .u (Ex.py rfl (decide_eq_true c20) rfl) rfl ?_
          by_cases c23 : x21 = true
          · replace h := ifT c23 h
            refine TL.run ft_batch_ok [13] rfl rfl ?_
            refine TL.q rfl (.g rfl rfl c23) (Ex.ft ft_batch_ok rfl) rfl ?_
            refine TL.q rfl (.g rfl rfl c23) (Ex.b1 0 rfl Try.isAgg3 rfl rfl) rfl ?_
            refine TL.q rfl (.g rfl rfl c23) (Ex.ft ft_batch_ok rfl) rfl ?_
            refine TL.q rfl (.g rfl rfl c23) (Ex.ft ft_batch_ok rfl) rfl ?_
            refine TL.q rfl .u (Ex.py rfl c23 rfl) rfl ?_
            by_cases c24 : a0.fSequence ≥ 0
            · replace h := ifT c24 h
              refine TL.run ft_batch_ok [19] rfl rfl ?_
              refine TL.q rfl (.g rfl rfl (decide_eq_true c24)) (Ex.ft ft_batch_ok rfl) rfl ?_
              refine TL.q rfl (.g rfl rfl (decide_eq_true c24)) (Ex.b1 0 rfl Try.isAgg3 rfl rfl) rfl ?_
              obtain ⟨x25, hx26, h⟩ := Option.bind_eq_some_iff.1 h
              refine TL.ce rfl (.g rfl rfl (decide_eq_true c24)) (.fn Try.call86 rfl) (SpecX.pure (fun w => gFits_spec a0.fSequence 4 _ hx26 w)) (fun _ _ => RX.reads_triv _ _) rfl ?_
              refine TL.q rfl .u (Ex.py rfl (decide_eq_true c24) rfl) rfl ?_
              by_cases c27 : x25 = true
              · replace h := ifT c27 h
                refine TL.run ft_batch_ok [24] rfl rfl ?_
                refine TL.q rfl (.g rfl rfl c27) (Ex.ft ft_batch_ok rfl) rfl ?_
                refine TL.q rfl (.g rfl rfl c27) (Ex.b1 0 rfl Try.isAgg4 rfl rfl) rfl ?_
                refine TL.q rfl (.g rfl rfl c27) (Ex.ft ft_batch_ok rfl) rfl ?_
                refine TL.q rfl (.g rfl rfl c27) (Ex.ft ft_batch_ok rfl) rfl ?_
                refine TL.no rfl (.gn rfl rfl (bn_t c8)) rfl ?_
                refine TL.no rfl (.gn rfl rfl (bn_t c8)) rfl ?_
                refine TL.no rfl (.gn rfl rfl (bn_t c8)) rfl ?_
                refine TL.q rfl (.g rfl rfl c27) (Ex.py rfl (bn_t c8) rfl) rfl ?_
                refine TL.q rfl .u (Ex.py rfl c27 rfl) rfl ?_
                refine TL.run ft_batch_ok [34] rfl rfl ?_
                obtain rfl := Option.some.inj h
                exact TL.nil (X.seq (T.ret (X.done1 [1] Try.results46 (RV.tm rfl) ⟨rfl, rfl, rfl⟩ (by rfl) (.inl rfl))))
              · replace h := ifF c27 h
                replace c27 := eq_false_of_ne_true c27
                refine TL.run ft_batch_ok [24] rfl rfl ?_
                refine TL.no rfl (.gn rfl rfl c27) rfl ?_
                refine TL.no rfl (.gn rfl rfl c27) rfl ?_
                refine TL.no rfl (.gn rfl rfl c27) rfl ?_
                refine TL.no rfl (.gn rfl rfl c27) rfl ?_
                refine TL.no rfl (.gu rfl rfl) rfl ?_
                refine TL.no rfl (.gu rfl rfl) rfl ?_
                refine TL.no rfl (.gu rfl rfl) rfl ?_
                refine TL.no rfl (.gn rfl rfl c27) rfl ?_
                refine TL.q rfl .u (Ex.pn rfl c27 rfl) rfl ?_
                refine TL.run ft_batch_ok [34] rfl rfl ?_
                obtain rfl := Option.some.inj h
                exact TL.nil (X.seq (T.ret (X.done1 [1] Try.results46 (RV.tm rfl) ⟨rfl, rfl, rfl⟩ (by rfl) (.inl rfl))))
            · replace h := ifF c24 h
              refine TL.run ft_batch_ok [19] rfl rfl ?_
              refine TL.no rfl (.gn rfl rfl (decide_eq_false c24)) rfl ?_
              refine TL.no rfl (.gn rfl rfl (decide_eq_false c24)) rfl ?_
              refine TL.no rfl (.gn rfl rfl (decide_eq_false c24)) rfl ?_
              refine TL.q rfl .u (Ex.pn rfl (decide_eq_false c24) rfl) rfl ?_
              refine TL.run ft_batch_ok [24] rfl rfl ?_
              refine TL.no rfl (.gn rfl rfl rfl) rfl ?_
              refine TL.no rfl (.gn rfl rfl rfl) rfl ?_
              refine TL.no rfl (.gn rfl rfl rfl) rfl ?_
              refine TL.no rfl (.gn rfl rfl rfl) rfl ?_
              refine TL.no rfl (.gu rfl rfl) rfl ?_
              refine TL.no rfl (.gu rfl rfl) rfl ?_
              refine TL.no rfl (.gu rfl rfl) rfl ?_
              refine TL.no rfl (.gn rfl rfl rfl) rfl ?_
              refine TL.q rfl .u (Ex.pn rfl rfl rfl) rfl ?_
              refine TL.run ft_batch_ok [34] rfl rfl ?_
              obtain rfl := Option.some.inj h
              exact TL.nil (X.seq (T.ret (X.done1 [1] Try.results46 (RV.tm rfl) ⟨rfl, rfl, rfl⟩ (by rfl) (.inl rfl))))
          · replace h := ifF c23 h
            replace c23 := eq_false_of_ne_true c23
            refine TL.run ft_batch_ok [13] rfl rfl ?_
            refine TL.no rfl (.gn rfl rfl c23) rfl ?_
            refine TL.no rfl (.gn rfl rfl c23) rfl ?_
            refine TL.no rfl (.gn rfl rfl c23) rfl ?_
            refine TL.no rfl (.gn rfl rfl c23) rfl ?_
            refine TL.q rfl .u (Ex.pn rfl c23 rfl) rfl ?_
            refine TL.run ft_batch_ok [19] rfl rfl ?_
            refine TL.no rfl (.gn rfl rfl rfl) rfl ?_
            refine TL.no rfl (.gn rfl rfl rfl) rfl ?_
            refine TL.no rfl (.gn rfl rfl rfl) rfl ?_
            refine TL.q rfl .u (Ex.pn rfl rfl rfl) rfl ?_
            refine TL.run ft_batch_ok [24] rfl rfl ?_
            refine TL.no rfl (.gn rfl rfl rfl) rfl ?_
            refine TL.no rfl (.gn rfl rfl rfl) rfl ?_
            refine TL.no rfl (.gn rfl rfl rfl) rfl ?_
            refine TL.no rfl (.gn rfl rfl rfl) rfl ?_
            refine TL.no rfl (.gu rfl rfl) rfl ?_
            refine TL.no rfl (.gu rfl rfl) rfl ?_
            refine TL.no rfl (.gu rfl rfl) rfl ?_
            refine TL.no rfl (.gn rfl rfl rfl) rfl ?_
            refine TL.q rfl .u (Ex.pn rfl rfl rfl) rfl ?_
            refine TL.run ft_batch_ok [34] rfl rfl ?_
            obtain rfl := Option.some.inj h
            exact TL.nil (X.seq (T.ret (X.done1 [1] Try.results46 (RV.tm rfl) ⟨rfl, rfl, rfl⟩ (by rfl) (.inl rfl))))
        · replace h := ifF c20 h
          refine TL.run ft_batch_ok [8] rfl rfl ?_
          refine TL.no rfl (.gn rfl rfl (decide_eq_false c20)) rfl ?_
          refine TL.no rfl (.gn rfl rfl (decide_eq_false c20)) rfl ?_
          refine TL.no rfl (.gn rfl rfl (decide_eq_false c20)) rfl ?_
          refine TL.q rfl .u (Ex.pn rfl (decide_eq_false c20) rfl) rfl ?_
          refine TL.run ft_batch_ok [13] rfl rfl ?_
          refine TL.no rfl (.gn rfl rfl rfl) rfl ?_
          refine TL.no rfl (.gn rfl rfl rfl) rfl ?_
          refine TL.no rfl (.gn rfl rfl rfl) rfl ?_
          refine TL.no rfl (.gn rfl rfl rfl) rfl ?_
          refine TL.q rfl .u (Ex.pn rfl rfl rfl) rfl ?_
          refine TL.run ft_batch_ok [19] rfl rfl ?_
          refine TL.no rfl (.gn rfl rfl rfl) rfl ?_
          refine TL.no rfl (.gn rfl rfl rfl) rfl ?_
          refine TL.no rfl (.gn rfl rfl rfl) rfl ?_
          refine TL.q rfl .u (Ex.pn rfl rfl rfl) rfl ?_
          refine TL.run ft_batch_ok [24] rfl rfl ?_
          refine TL.no rfl (.gn rfl rfl rfl) rfl ?_
          refine TL.no rfl (.gn rfl rfl rfl) rfl ?_
          refine TL.no rfl (.gn rfl rfl rfl) rfl ?_
          refine TL.no rfl (.gn rfl rfl rfl) rfl ?_
          refine TL.no rfl (.gu rfl rfl) rfl ?_
          refine TL.no rfl (.gu rfl rfl) rfl ?_
          refine TL.no rfl (.gu rfl rfl) rfl ?_
          refine TL.no rfl (.gn rfl rfl rfl) rfl ?_
          refine TL.q rfl .u (Ex.pn rfl rfl rfl) rfl ?_
          refine TL.run ft_batch_ok [34] rfl rfl ?_
          obtain rfl := Option.some.inj h
          exact TL.nil (X.seq (T.ret (X.done1 [1] Try.results46 (RV.tm rfl) ⟨rfl, rfl, rfl⟩ (by rfl) (.inl rfl))))
      · replace h := ifF c19 h
        refine TL.run ft_batch_ok [2, 3] rfl rfl ?_
        refine TL.no rfl (.gn rfl rfl (decide_eq_false c19)) rfl ?_
        refine TL.no rfl (.gn rfl rfl (decide_eq_false c19)) rfl ?_
        refine TL.no rfl (.gn rfl rfl (decide_eq_false c19)) rfl ?_
        refine TL.q rfl .u (Ex.pn rfl (decide_eq_false c19) rfl) rfl ?_
        refine TL.run ft_batch_ok [8] rfl rfl ?_
        refine TL.no rfl (.gn rfl rfl rfl) rfl ?_
        refine TL.no rfl (.gn rfl rfl rfl) rfl ?_
        refine TL.no rfl (.gn rfl rfl rfl) rfl ?_
        refine TL.q rfl .u (Ex.pn rfl rfl rfl) rfl ?_
        refine TL.run ft_batch_ok [13] rfl rfl ?_
        refine TL.no rfl (.gn rfl rfl rfl) rfl ?_
        refine TL.no rfl (.gn rfl rfl rfl) rfl ?_
        refine TL.no rfl (.gn rfl rfl rfl) rfl ?_
        refine TL.no rfl (.gn rfl rfl rfl) rfl ?_
        refine TL.q rfl .u (Ex.pn rfl rfl rfl) rfl ?_
        refine TL.run ft_batch_ok [19] rfl rfl ?_
        refine TL.no rfl (.gn rfl rfl rfl) rfl ?_
        refine TL.no rfl (.gn rfl rfl rfl) rfl ?_
        refine TL.no rfl (.gn rfl rfl rfl) rfl ?_
        refine TL.q rfl .u (Ex.pn rfl rfl rfl) rfl ?_
        refine TL.run ft_batch_ok [24] rfl rfl ?_
        refine TL.no rfl (.gn rfl rfl rfl) rfl ?_
        refine TL.no rfl (.gn rfl rfl rfl) rfl ?_
        refine TL.no rfl (.gn rfl rfl rfl) rfl ?_
        refine TL.no rfl (.gn rfl rfl rfl) rfl ?_
        refine TL.no rfl (.gu rfl rfl) rfl ?_
        refine TL.no rfl (.gu rfl rfl) rfl ?_
        refine TL.no rfl (.gu rfl rfl) rfl ?_
        refine TL.no rfl (.gn rfl rfl rfl) rfl ?_
        refine TL.q rfl .u (Ex.pn rfl rfl rfl) rfl ?_
        refine TL.run ft_batch_ok [34] rfl rfl ?_
        obtain rfl := Option.some.inj h
        exact TL.nil (X.seq (T.ret (X.done1 [1] Try.results46 (RV.tm rfl) ⟨rfl, rfl, rfl⟩ (by rfl) (.inl rfl))))
def f_batch_records_l1 (a0 : Bat) : List Rec → Int → Int → Int → Option (Lp Int (Int × Int × Int))
  | [], y4, y5, y6 => some (Lp.go (y4, y5, y6))
  | x12 :: xs, y4, y5, y6 => if x12.fOffset ≤ y5 then some (Lp.ret 13) else (if x12.fOffset > a0.fLast then some (Lp.ret 13) else (if (IntKind.i64.wrap (a0.fFirst + x12.fTime)) < 0 then some (Lp.ret 11) else (if x12.fTime > 0 then (if (IntKind.i64.wrap (a0.fFirst + x12.fTime)) < x12.fTime then some (Lp.ret 11) else (if y6 < (IntKind.i64.wrap (a0.fFirst + x12.fTime)) then (f_batch_records_l1 a0 xs y4 x12.fOffset (IntKind.i64.wrap (a0.fFirst + x12.fTime))) else (f_batch_records_l1 a0 xs y4 x12.fOffset y6))) else (if y6 < (IntKind.i64.wrap (a0.fFirst + x12.fTime)) then (f_batch_records_l1 a0 xs y4 x12.fOffset (IntKind.i64.wrap (a0.fFirst + x12.fTime))) else (f_batch_records_l1 a0 xs y4 x12.fOffset y6)))))
def f_batch_records (a0 : Bat) : Option (Int) := (f_batch_records_l1 a0 a0.fRecords 0 (-1) a0.fFirst).bind fun e => match e with | .ret r => some r | .go (y27, y28, y29) => (if a0.fAppend = true then some 0 else (if y29 = a0.fMax then some 0 else some 11))
set_option maxRecDepth 100000 in
set_option maxHeartbeats 4000000 in
theorem f_batch_records_spec (a0 : Bat) (A1 : Option Addr) (c2 : Nat) (r : Int) (h : f_batch_records a0 = some r) : SpecX Try.prog 49 #[.agg #[.int .i64 a0.fBase, .int .i64 a0.fLeader, .bool a0.fAppend, .bool a0.fTxn, .bool a0.fControl, .int .i64 a0.fLast, .int .i64 a0.fFirst, .int .i64 a0.fMax, .int .i64 a0.fProducer, .int .i64 a0.fEpoch, .int .i64 a0.fSequence, .slice A1 a0.fRecords.length c2]] (RX.of (sliceRd 7 Rec_rd) [.slice A1 a0.fRecords.length c2] a0.fRecords) (EmpR) (fun v A' N => v = .int .i64 r ∧ A' = EmpR ∧ N = []) := by
  refine enterA Try.func49 rfl Try.ntmps49 rfl ?_
  intro F w hX
  unfold f_batch_records at h
  refine T.seq (T.region rfl ?_)
  refine TL.box rfl .u rfl rfl (fun b3 => ?_)
  refine TL.run ft_batch_ok [1] rfl rfl ?_
  refine TL.nil (X.seq (T.seq (T.draw (.q 0 (.q 1 (.q 2 (.q 3 .nil)))) [0, 0] rfl mix_batch (NoP.seq np_post) (by kernel_rfl) ?_)))
  refine TD.run ft_batch_ok [0] rfl rfl ?_
  refine TD.q rfl .u (Ex.b1 0 rfl Try.isAgg3 rfl rfl) rfl ?_
  refine TD.run ft_batch_ok [2, 3] rfl rfl ?_
  refine TD.nil (X.seq (T.seq (T.seq (T.region rfl ?_))))
  refine TL.run ft_batch_ok [0] rfl rfl ?_
  refine TL.q rfl .u (Ex.b1 0 rfl Try.isAgg23 rfl rfl) rfl ?_
  refine TL.q rfl .u (Ex.lenS rfl Try.runUnderlying23) rfl ?_
  refine TL.run ft_batch_ok [3] rfl rfl ?_
  refine TL.nil (X.seq (T.block ?_))
  obtain ⟨E8, hE9, hO10⟩ := Option.bind_eq_some_iff.1 h
  have hk14len := RX.len_le hX
  refine T.lp (fun m e Rs => ∃ (y4 : Int) (y5 : Int) (y6 : Int) (k7 : Nat), k7 + m = a0.fRecords.length ∧ e = [(1, .pointer (some ⟨b3, 0, none⟩)), (2, .int .i64 y4), (3, .int .i64 y5), (4, .int .i64 y6), (11, .slice A1 a0.fRecords.length c2), (12, .int .i64 (a0.fRecords.length : Int)), (13, .int .i64 (k7 : Int))] ∧ Rs = [BlkR b3 25 #[.int .i64 a0.fBase, .int .i64 a0.fLeader, .bool a0.fAppend, .bool a0.fTxn, .bool a0.fControl, .int .i64 a0.fLast, .int .i64 a0.fFirst, .int .i64 a0.fMax, .int .i64 a0.fProducer, .int .i64 a0.fEpoch, .int .i64 a0.fSequence, .slice A1 a0.fRecords.length c2], EmpR] ∧ f_batch_records_l1 a0 (a0.fRecords.drop k7) y4 y5 y6 = some E8) (a0.fRecords.length) [0, 0] ⟨0, (-1), a0.fFirst, 0, by simp, rfl, rfl, by rw [List.drop_zero]; exact hE9⟩ (by rfl) (by rfl) ?_
  rintro m11 _ _ ⟨y4, y5, y6, k7, hk14, rfl, rfl, hl13⟩
  clear hE9 h
  cases m11 with
  | zero =>
    have h := hl13
    clear hl13
    rw [List.drop_of_length_le (by omega), f_batch_records_l1] at h
    have hk14ge : ¬ ((k7 : Int) < (a0.fRecords.length : Int)) := by omega
    refine T.seq (T.region rfl ?_)
    refine TL.run ft_batch_ok [0] rfl rfl ?_
    refine TL.nil (X.seq (T.seq ?_))
    refine T.no rfl (decide_eq_false hk14ge) ?_
    obtain rfl := Option.some.inj h
    replace h := hO10
    clear hO10
    try dsimp only at h
    refine T.exit (X.exs (X.exs (X.ex (X.seq (T.seq (T.seq (T.region rfl ?_)))))))
    refine TL.run ft_batch_ok [0] rfl rfl ?_
    refine TL.q rfl .u (Ex.b1 0 rfl Try.isAgg4 rfl rfl) rfl ?_
    by_cases c33 : a0.fAppend = true
    · replace h := ifT c33 h
      refine TL.run ft_batch_ok [2, 3] rfl rfl ?_
      refine TL.no rfl (.gn rfl rfl (bn_f c33)) rfl ?_
      refine TL.no rfl (.gn rfl rfl (bn_f c33)) rfl ?_
      refine TL.no rfl (.gn rfl rfl (bn_f c33)) rfl ?_
      refine TL.no rfl (.gn rfl rfl (bn_f c33)) rfl ?_
      refine TL.q rfl .u (Ex.pn rfl (bn_f c33) rfl) rfl ?_
      refine TL.nil (X.seq ?_)
      refine T.no rfl rfl ?_
      refine T.skip (X.seq (T.seq (T.region rfl ?_)))
      refine TL.run ft_batch_ok [0] rfl rfl ?_
      obtain rfl := Option.some.inj h
      exact TL.nil (X.seq (T.ret (X.done1 [1] Try.results49 (RV.tm rfl) ⟨rfl, rfl, rfl⟩ (by rfl) (.inl rfl))))
    · replace h := ifF c33 h
      replace c33 := eq_false_of_ne_true c33
      refine TL.run ft_batch_ok [2, 3] rfl rfl ?_
      refine TL.q rfl (.g rfl rfl (bn_t c33)) (Ex.ft ft_batch_ok rfl) rfl ?_
      refine TL.q rfl (.g rfl rfl (bn_t c33)) (Ex.ft ft_batch_ok rfl) rfl ?_
      refine TL.q rfl (.g rfl rfl (bn_t c33)) (Ex.b1 0 rfl Try.isAgg3 rfl rfl) rfl ?_
      refine TL.q rfl (.g rfl rfl (bn_t c33)) (Ex.ft ft_batch_ok rfl) rfl ?_
      refine TL.q rfl .u (Ex.py rfl (bn_t c33) rfl) rfl ?_
      by_cases c34 : y6 = a0.fMax
      · replace h := ifT c34 h
        refine TL.nil (X.seq ?_)
        refine T.no rfl (bn_f (decide_eq_true c34)) ?_
        refine T.skip (X.seq (T.seq (T.region rfl ?_)))
        refine TL.run ft_batch_ok [0] rfl rfl ?_
        obtain rfl := Option.some.inj h
        exact TL.nil (X.seq (T.ret (X.done1 [1] Try.results49 (RV.tm rfl) ⟨rfl, rfl, rfl⟩ (by rfl) (.inl rfl))))
      · replace h := ifF c34 h
        refine TL.nil (X.seq ?_)
        refine T.yes rfl (bn_t (decide_eq_false c34)) ?_
        refine T.seq (T.region rfl ?_)
        refine TL.run ft_batch_ok [0] rfl rfl ?_
        obtain rfl := Option.some.inj h
        exact TL.nil (X.seq (T.ret (X.rs (X.done1 [1] Try.results49 (RV.tm rfl) ⟨rfl, rfl, rfl⟩ (by rfl) (.inl rfl)))))
  | succ m11 =>
    have h := hl13
    clear hl13
    obtain ⟨x12, hxx12⟩ : ∃ x, a0.fRecords[k7]? = some x := ⟨_, List.getElem?_eq_getElem (by omega)⟩
    rw [drop_cons hxx12, f_batch_records_l1] at h
    have hk14lt : (k7 : Int) < (a0.fRecords.length : Int) := by omega
    refine T.seq (T.region rfl ?_)
    refine TL.run ft_batch_ok [0] rfl rfl ?_
    refine TL.nil (X.seq (T.seq ?_))
    refine T.yes rfl (decide_eq_true hk14lt) ?_
    obtain ⟨gz15, oz15, rfl, z15cs, z15cl, z15cc, z15nf, z15r⟩ := RX.elem (by decide) hX hxx12
    obtain ⟨z15S, z15r, z15rr⟩ := z15r
    obtain ⟨A16, c17, rfl, z15s0⟩ := z15r
    have hX18 : (RX.of (sliceRd 3 Hd_rd) [.slice A16 x12.fHeaders.length c17] x12.fHeaders).reads w F := ⟨z15S, z15s0, z15rr⟩
    refine T.skip (X.seq (T.seq (T.block (T.seq (T.region rfl ?_)))))
    refine TL.q rfl .u (Ex.ixS (k := k7) rfl rfl rfl Try.runUnderlying23 Try.sizeOf33 (List.getElem?_eq_some_iff.1 hxx12).1) rfl ?_
    refine TL.q rfl .u (Ex.oS (us := [.int .i64 x12.fTime, .int .i64 x12.fOffset, .bool x12.fKey.null, .string (bsOf x12.fKey.data), .bool x12.fValue.null, .string (bsOf x12.fValue.data), .slice A16 x12.fHeaders.length c17]) 0 rfl Try.isAgg33 Try.sizeOf33 z15nf z15cc rfl rfl rfl) rfl ?_
    refine TL.alloc rfl .u Try.zeroValue33 rfl (fun b19 => ?_)
    refine TL.st0 (cs' := #[.int .i64 x12.fTime, .int .i64 x12.fOffset, .bool x12.fKey.null, .string (bsOf x12.fKey.data), .bool x12.fValue.null, .string (bsOf x12.fValue.data), .slice A16 x12.fHeaders.length c17]) rfl .u rfl rfl Try.sizeOf33 rfl rfl rfl rfl ?_
    refine TL.nil (X.seq (T.seq (T.seq (T.region rfl ?_))))
    refine TL.run ft_batch_ok [0] rfl rfl ?_
    refine TL.q rfl .u (Ex.b1 0 rfl Try.isAgg3 rfl rfl) rfl ?_
    by_cases c20 : x12.fOffset ≤ y5
    · replace h := ifT c20 h
      refine TL.run ft_batch_ok [2, 3, 4] rfl rfl ?_
      refine TL.no rfl (.gn rfl rfl (decide_eq_true c20)) rfl ?_
      refine TL.no rfl (.gn rfl rfl (decide_eq_true c20)) rfl ?_
      refine TL.no rfl (.gn rfl rfl (decide_eq_true c20)) rfl ?_
      refine TL.no rfl (.gn rfl rfl (decide_eq_true c20)) rfl ?_
      refine TL.no rfl (.gn rfl rfl (decide_eq_true c20)) rfl ?_
      refine TL.q rfl .u (Ex.py rfl (decide_eq_true c20) rfl) rfl ?_
      refine TL.nil (X.seq ?_)
      refine T.yes rfl rfl ?_
      refine T.seq (T.region rfl ?_)
      refine TL.run ft_batch_ok [0] rfl rfl ?_
      obtain rfl := Option.some.inj h
      replace h := hO10
      clear hO10
      try dsimp only at h
      obtain rfl := Option.some.inj h
      exact TL.nil (X.seq (T.ret (X.rs (X.rb (X.rs (X.rs (X.rb (X.rs (X.done1 [2] Try.results49 (RV.tm rfl) ⟨rfl, rfl, rfl⟩ (by rfl) (.inl rfl))))))))))
    · replace h := ifF c20 h
      refine TL.run ft_batch_ok [2, 3, 4] rfl rfl ?_
      refine TL.q rfl (.g rfl rfl (decide_eq_false c20)) (Ex.ft ft_batch_ok rfl) rfl ?_
      refine TL.q rfl (.g rfl rfl (decide_eq_false c20)) (Ex.b1 0 rfl Try.isAgg3 rfl rfl) rfl ?_
      refine TL.q rfl (.g rfl rfl (decide_eq_false c20)) (Ex.ft ft_batch_ok rfl) rfl ?_
      refine TL.q rfl (.g rfl rfl (decide_eq_false c20)) (Ex.b1 1 rfl Try.isAgg3 rfl rfl) rfl ?_
      refine TL.q rfl (.g rfl rfl (decide_eq_false c20)) (Ex.ft ft_batch_ok rfl) rfl ?_
      refine TL.q rfl .u (Ex.pn rfl (decide_eq_false c20) rfl) rfl ?_
      by_cases c21 : x12.fOffset > a0.fLast
      · replace h := ifT c21 h
        refine TL.nil (X.seq ?_)
        refine T.yes rfl (decide_eq_true c21) ?_
        refine T.seq (T.region rfl ?_)
        refine TL.run ft_batch_ok [0] rfl rfl ?_
        obtain rfl := Option.some.inj h
        replace h := hO10
        clear hO10
        try dsimp only at h
        obtain rfl := Option.some.inj h
        exact TL.nil (X.seq (T.ret (X.rs (X.rb (X.rs (X.rs (X.rb (X.rs (X.done1 [2] Try.results49 (RV.tm rfl) ⟨rfl, rfl, rfl⟩ (by rfl) (.inl rfl))))))))))
      · replace h := ifF c21 h
        refine TL.nil (X.seq ?_)
        refine T.no rfl (decide_eq_false c21) ?_
        refine T.skip (X.seq (T.seq (T.region rfl ?_)))
        refine TL.run ft_batch_ok [0] rfl rfl ?_
        refine TL.q rfl .u (Ex.b1 0 rfl Try.isAgg3 rfl rfl) rfl ?_
        refine TL.run ft_batch_ok [2] rfl rfl ?_
        refine TL.nil (X.seq (T.seq (T.region rfl ?_)))
        refine TL.run ft_batch_ok [0] rfl rfl ?_
        refine TL.q rfl .u (Ex.b1 1 rfl Try.isAgg3 rfl rfl) rfl ?_
        refine TL.run ft_batch_ok [2] rfl rfl ?_
        refine TL.q rfl .u (Ex.b1 0 rfl Try.isAgg3 rfl rfl) rfl ?_
        refine TL.q rfl .u (Ex.addw rfl rfl) rfl ?_
        refine TL.run ft_batch_ok [5] rfl rfl ?_
        refine TL.nil (X.seq (T.seq (T.seq (T.region rfl ?_))))
        by_cases c22 : (IntKind.i64.wrap (a0.fFirst + x12.fTime)) < 0
        · replace h := ifT c22 h
          refine TL.run ft_batch_ok [0, 1, 2] rfl rfl ?_
          refine TL.no rfl (.gn rfl rfl (decide_eq_true c22)) rfl ?_
          refine TL.no rfl (.gn rfl rfl (decide_eq_true c22)) rfl ?_
          refine TL.no rfl (.gn rfl rfl (decide_eq_true c22)) rfl ?_
          refine TL.no rfl (.gn rfl rfl (decide_eq_true c22)) rfl ?_
          refine TL.no rfl (.gu rfl rfl) rfl ?_
          refine TL.no rfl (.gu rfl rfl) rfl ?_
          refine TL.no rfl (.gu rfl rfl) rfl ?_
          refine TL.no rfl (.gu rfl rfl) rfl ?_
          refine TL.no rfl (.gn rfl rfl (decide_eq_true c22)) rfl ?_
          refine TL.q rfl .u (Ex.py rfl (decide_eq_true c22) rfl) rfl ?_
          refine TL.nil (X.seq ?_)
          refine T.yes rfl rfl ?_
          refine T.seq (T.region rfl ?_)
          refine TL.run ft_batch_ok [0] rfl rfl ?_
          obtain rfl := Option.some.inj h
          replace h := hO10
          clear hO10
          try dsimp only at h
          obtain rfl := Option.some.inj h
          exact TL.nil (X.seq (T.ret (X.rs (X.rb (X.rs (X.rs (X.rb (X.rs (X.done1 [2] Try.results49 (RV.tm rfl) ⟨rfl, rfl, rfl⟩ (by rfl) (.inl rfl))))))))))
        · replace h := ifF c22 h
          refine TL.run ft_batch_ok [0, 1, 2] rfl rfl ?_
          refine TL.q rfl (.g rfl rfl (decide_eq_false c22)) (Ex.ft ft_batch_ok rfl) rfl ?_
          refine TL.q rfl (.g rfl rfl (decide_eq_false c22)) (Ex.b1 0 rfl Try.isAgg3 rfl rfl) rfl ?_
          refine TL.q rfl (.g rfl rfl (decide_eq_false c22)) (Ex.ft ft_batch_ok rfl) rfl ?_
          refine TL.q rfl (.g rfl rfl (decide_eq_false c22)) (Ex.ft ft_batch_ok rfl) rfl ?_
          by_cases c23 : x12.fTime > 0
          · replace h := ifT c23 h
            refine TL.q rfl (.g rfl rfl (decide_eq_true c23)) (Ex.ft ft_batch_ok rfl) rfl ?_
            refine TL.q rfl (.g rfl rfl (decide_eq_true c23)) (Ex.ft ft_batch_ok rfl) rfl ?_
            refine TL.q rfl (.g rfl rfl (decide_eq_true c23)) (Ex.b1 0 rfl Try.isAgg3 rfl rfl) rfl ?_
            refine TL.q rfl (.g rfl rfl (decide_eq_true c23)) (Ex.ft ft_batch_ok rfl) rfl ?_
            refine TL.q rfl (.g rfl rfl (decide_eq_false c22)) (Ex.py rfl (decide_eq_true c23) rfl) rfl ?_
            refine TL.q rfl .u (Ex.pn rfl (decide_eq_false c22) rfl) rfl ?_
            by_cases c24 : (IntKind.i64.wrap (a0.fFirst + x12.fTime)) < x12.fTime
            · replace h := ifT c24 h
              refine TL.nil (X.seq ?_)
              refine T.yes rfl (decide_eq_true c24) ?_
              refine T.seq (T.region rfl ?_)
              refine TL.run ft_batch_ok [0] rfl rfl ?_
              obtain rfl := Option.some.inj h
              replace h := hO10
              clear hO10
              try dsimp only at h
              obtain rfl := Option.some.inj h
              exact TL.nil (X.seq (T.ret (X.rs (X.rb (X.rs (X.rs (X.rb (X.rs (X.done1 [2] Try.results49 (RV.tm rfl) ⟨rfl, rfl, rfl⟩ (by rfl) (.inl rfl))))))))))
            · replace h := ifF c24 h
              refine TL.nil (X.seq ?_)
              refine T.no rfl (decide_eq_false c24) ?_
              refine T.skip (X.seq (T.region rfl ?_))
              by_cases c25 : y6 < (IntKind.i64.wrap (a0.fFirst + x12.fTime))
              · replace h := ifT c25 h
                refine TL.run ft_batch_ok [0, 1] rfl rfl ?_
                refine TL.q rfl .u (Ex.maxy rfl rfl c25) rfl ?_
                refine TL.run ft_batch_ok [3] rfl rfl ?_
                refine TL.nil (X.blk (X.seq (T.region rfl ?_)))
                refine TL.q rfl .u (Ex.add rfl rfl (by omega)) rfl ?_
                refine TL.run ft_batch_ok [1] rfl rfl ?_
                exact TL.nil (X.back (m' := m11) [1, 1] (by omega) ⟨y4, x12.fOffset, (IntKind.i64.wrap (a0.fFirst + x12.fTime)), k7 + 1, by omega, rfl, rfl, h⟩ (by rfl) (by rfl))
              · replace h := ifF c25 h
                refine TL.run ft_batch_ok [0, 1] rfl rfl ?_
                refine TL.q rfl .u (Ex.maxx rfl rfl c25) rfl ?_
                refine TL.run ft_batch_ok [3] rfl rfl ?_
                refine TL.nil (X.blk (X.seq (T.region rfl ?_)))
                refine TL.q rfl .u (Ex.add rfl rfl (by omega)) rfl ?_
                refine TL.run ft_batch_ok [1] rfl rfl ?_
                exact TL.nil (X.back (m' := m11) [1, 1] (by omega) ⟨y4, x12.fOffset, y6, k7 + 1, by omega, rfl, rfl, h⟩ (by rfl) (by rfl))
          · replace h := ifF c23 h
            refine TL.no rfl (.gn rfl rfl (decide_eq_false c23)) rfl ?_
            refine TL.no rfl (.gn rfl rfl (decide_eq_false c23)) rfl ?_
            refine TL.no rfl (.gn rfl rfl (decide_eq_false c23)) rfl ?_
            refine TL.no rfl (.gn rfl rfl (decide_eq_false c23)) rfl ?_
            refine TL.q rfl (.g rfl rfl (decide_eq_false c22)) (Ex.pn rfl (decide_eq_false c23) rfl) rfl ?_
            refine TL.q rfl .u (Ex.pn rfl (decide_eq_false c22) rfl) rfl ?_
            refine TL.nil (X.seq ?_)
            refine T.no rfl rfl ?_
            refine T.skip (X.seq (T.region rfl ?_))
            by_cases c26 : y6 < (IntKind.i64.wrap (a0.fFirst + x12.fTime))
            · replace h := ifT c26 h
              refine TL.run ft_batch_ok [0, 1] rfl rfl ?_
              refine TL.q rfl .u (Ex.maxy rfl rfl c26) rfl ?_
              refine TL.run ft_batch_ok [3] rfl rfl ?_
              refine TL.nil (X.blk (X.seq (T.region rfl ?_)))
              refine TL.q rfl .u (Ex.add rfl rfl (by omega)) rfl ?_
              refine TL.run ft_batch_ok [1] rfl rfl ?_
              exact TL.nil (X.back (m' := m11) [1, 1] (by omega) ⟨y4, x12.fOffset, (IntKind.i64.wrap (a0.fFirst + x12.fTime)), k7 + 1, by omega, rfl, rfl, h⟩ (by rfl) (by rfl))
            · replace h := ifF c26 h
              refine TL.run ft_batch_ok [0, 1] rfl rfl ?_
              refine TL.q rfl .u (Ex.maxx rfl rfl c26) rfl ?_
              refine TL.run ft_batch_ok [3] rfl rfl ?_
              refine TL.nil (X.blk (X.seq (T.region rfl ?_)))
              refine TL.q rfl .u (Ex.add rfl rfl (by omega)) rfl ?_
              refine TL.run ft_batch_ok [1] rfl rfl ?_
              exact TL.nil (X.back (m' := m11) [1, 1] (by omega) ⟨y4, x12.fOffset, y6, k7 + 1, by omega, rfl, rfl, h⟩ (by rfl) (by rfl))
def f_batch_Check_l1 : List Rec → Int → Option (Lp Int Int)
  | [], y13 => some (Lp.go y13)
  | x19 :: xs, y13 => (f_record_Right x19).bind fun x27 => if x27 = 0 then (f_batch_Check_l1 xs y13) else some (Lp.ret x27)
def f_batch_Check_l2 : List Rec → Int → Option (Lp Int Int)
  | [], y61 => some (Lp.go y61)
  | x67 :: xs, y61 => (f_record_Right x67).bind fun x75 => if x75 = 0 then (f_batch_Check_l2 xs y61) else some (Lp.ret x75)
def f_batch_Check (a0 : Bat) : Option (Int) := (f_batch_numbers a0).bind fun x4 => if x4 = true then (if a0.fControl = true then (if a0.fTxn = true then ((f_batch_producer a0).bind fun x9 => if x9 = true then (if (a0.fRecords.length : Int) = 1 then ((f_batch_Check_l1 a0.fRecords 0).bind fun e => match e with | .ret r => some r | .go y30 => ((a0.fRecords[0]?).bind fun x32 => (f_control_Read x32).bind fun (x38, x39, x40) => if x40 = 0 then ((f_batch_records a0).bind fun x43 => some x43) else some x40)) else some 10) else some 11) else some 8) else ((f_batch_producer a0).bind fun x58 => if x58 = true then ((f_batch_Check_l2 a0.fRecords 0).bind fun e => match e with | .ret r => some r | .go y78 => ((f_batch_records a0).bind fun x80 => some x80)) else some 11)) else some 11
set_option maxRecDepth 100000 in
set_option maxHeartbeats 4000000 in
theorem f_batch_Check_spec (a0 : Bat) (A1 : Option Addr) (c2 : Nat) (r : Int) (h : f_batch_Check a0 = some r) : SpecX Try.prog 15 #[.agg #[.int .i64 a0.fBase, .int .i64 a0.fLeader, .bool a0.fAppend, .bool a0.fTxn, .bool a0.fControl, .int .i64 a0.fLast, .int .i64 a0.fFirst, .int .i64 a0.fMax, .int .i64 a0.fProducer, .int .i64 a0.fEpoch, .int .i64 a0.fSequence, .slice A1 a0.fRecords.length c2]] (RX.of (sliceRd 7 Rec_rd) [.slice A1 a0.fRecords.length c2] a0.fRecords) (EmpR) (fun v A' N => v = .int .i64 r ∧ A' = EmpR ∧ N = []) := by
  refine enterA Try.func15 rfl Try.ntmps15 rfl ?_
  intro F w hX
  unfold f_batch_Check at h
  refine T.seq (T.region rfl ?_)
  refine TL.box rfl .u rfl rfl (fun b3 => ?_)
  refine TL.run ft_batch_ok [1] rfl rfl ?_
  refine TL.nil (X.seq (T.seq (T.block (T.seq (T.region rfl ?_)))))
  refine TL.q rfl .u (Ex.bS (us := [.int .i64 a0.fBase, .int .i64 a0.fLeader, .bool a0.fAppend, .bool a0.fTxn, .bool a0.fControl, .int .i64 a0.fLast, .int .i64 a0.fFirst, .int .i64 a0.fMax, .int .i64 a0.fProducer, .int .i64 a0.fEpoch, .int .i64 a0.fSequence, .slice A1 a0.fRecords.length c2]) 0 rfl Try.isAgg25 Try.sizeOf25 rfl rfl rfl) rfl ?_
  obtain ⟨x4, hx5, h⟩ := Option.bind_eq_some_iff.1 h
  refine TL.ce rfl .u (.fn Try.call45 rfl) (f_batch_numbers_spec a0 _ _ _ hx5) (fun _ hs => (SrcE.old hs hX)) rfl ?_
  refine TL.run ft_batch_ok [2, 3] rfl rfl ?_
  by_cases c6 : x4 = true
  · replace h := ifT c6 h
    refine TL.nil (X.seq ?_)
    refine T.no rfl (bn_f c6) ?_
    refine T.seq (T.region rfl ?_)
    refine TL.run ft_batch_ok [0] rfl rfl ?_
    refine TL.q rfl .u (Ex.b1 0 rfl Try.isAgg4 rfl rfl) rfl ?_
    by_cases c7 : a0.fControl = true
    · replace h := ifT c7 h
      refine TL.run ft_batch_ok [2] rfl rfl ?_
      refine TL.q rfl (.g rfl rfl c7) (Ex.ft ft_batch_ok rfl) rfl ?_
      refine TL.q rfl (.g rfl rfl c7) (Ex.b1 0 rfl Try.isAgg4 rfl rfl) rfl ?_
      refine TL.q rfl (.g rfl rfl c7) (Ex.ft ft_batch_ok rfl) rfl ?_
      refine TL.q rfl .u (Ex.py rfl c7 rfl) rfl ?_
      refine TL.run ft_batch_ok [7] rfl rfl ?_
      by_cases c8 : a0.fTxn = true
      · replace h := ifT c8 h
        refine TL.nil (X.seq ?_)
        refine T.no rfl (bn_f c8) ?_
        refine T.seq (T.region rfl ?_)
        refine TL.q rfl .u (Ex.bS (us := [.int .i64 a0.fBase, .int .i64 a0.fLeader, .bool a0.fAppend, .bool a0.fTxn, .bool a0.fControl, .int .i64 a0.fLast, .int .i64 a0.fFirst, .int .i64 a0.fMax, .int .i64 a0.fProducer, .int .i64 a0.fEpoch, .int .i64 a0.fSequence, .slice A1 a0.fRecords.length c2]) 0 rfl Try.isAgg25 Try.sizeOf25 rfl rfl rfl) rfl ?_
        obtain ⟨x9, hx10, h⟩ := Option.bind_eq_some_iff.1 h
        refine TL.ce rfl .u (.fn Try.call46 rfl) (f_batch_producer_spec a0 _ _ _ hx10) (fun _ hs => (SrcE.old hs hX)) rfl ?_
        refine TL.run ft_batch_ok [2, 3] rfl rfl ?_
        by_cases c11 : x9 = true
        · replace h := ifT c11 h
          refine TL.nil (X.seq ?_)
          refine T.no rfl (bn_f c11) ?_
          refine T.seq (T.region rfl ?_)
          refine TL.run ft_batch_ok [0] rfl rfl ?_
          refine TL.q rfl .u (Ex.b1 0 rfl Try.isAgg4 rfl rfl) rfl ?_
          refine TL.run ft_batch_ok [2] rfl rfl ?_
          refine TL.q rfl (.g rfl rfl c7) (Ex.ft ft_batch_ok rfl) rfl ?_
          refine TL.q rfl (.g rfl rfl c7) (Ex.b1 0 rfl Try.isAgg23 rfl rfl) rfl ?_
          refine TL.q rfl (.g rfl rfl c7) (Ex.lenS rfl Try.runUnderlying23) rfl ?_
          refine TL.q rfl (.g rfl rfl c7) (Ex.ft ft_batch_ok rfl) rfl ?_
          refine TL.q rfl .u (Ex.py rfl c7 rfl) rfl ?_
          refine TL.run ft_batch_ok [8] rfl rfl ?_
          by_cases c12 : (a0.fRecords.length : Int) = 1
          · replace h := ifT c12 h
            refine TL.nil (X.seq ?_)
            refine T.no rfl (bn_f (decide_eq_true c12)) ?_
            refine T.skip (X.blk (X.seq (T.seq (T.seq (T.region rfl ?_)))))
            refine TL.run ft_batch_ok [0] rfl rfl ?_
            refine TL.q rfl .u (Ex.b1 0 rfl Try.isAgg23 rfl rfl) rfl ?_
            refine TL.q rfl .u (Ex.lenS rfl Try.runUnderlying23) rfl ?_
            refine TL.run ft_batch_ok [3] rfl rfl ?_
            refine TL.nil (X.seq (T.block ?_))
            obtain ⟨E15, hE16, hO17⟩ := Option.bind_eq_some_iff.1 h
            have hk21len := RX.len_le hX
            refine T.lp (fun m e Rs => ∃ (y13 : Int) (k14 : Nat), k14 + m = a0.fRecords.length ∧ e = [(1, .pointer (some ⟨b3, 0, none⟩)), (2, .int .i64 y13), (35, .slice A1 a0.fRecords.length c2), (36, .int .i64 (a0.fRecords.length : Int)), (37, .int .i64 (k14 : Int))] ∧ Rs = [BlkR b3 25 #[.int .i64 a0.fBase, .int .i64 a0.fLeader, .bool a0.fAppend, .bool a0.fTxn, .bool a0.fControl, .int .i64 a0.fLast, .int .i64 a0.fFirst, .int .i64 a0.fMax, .int .i64 a0.fProducer, .int .i64 a0.fEpoch, .int .i64 a0.fSequence, .slice A1 a0.fRecords.length c2], EmpR] ∧ f_batch_Check_l1 (a0.fRecords.drop k14) y13 = some E15) (a0.fRecords.length) [0, 0] ⟨0, 0, by simp, rfl, rfl, by rw [List.drop_zero]; exact hE16⟩ (by rfl) (by rfl) ?_
            rintro m18 _ _ ⟨y13, k14, hk21, rfl, rfl, hl20⟩
            clear hE16 h
            cases m18 with
            | zero =>
              have h := hl20
              clear hl20
              rw [List.drop_of_length_le (by omega), f_batch_Check_l1] at h
              have hk21ge : ¬ ((k14 : Int) < (a0.fRecords.length : Int)) := by omega
              refine T.seq (T.region rfl ?_)
              refine TL.run ft_batch_ok [0] rfl rfl ?_
              refine TL.nil (X.seq (T.seq ?_))
              refine T.no rfl (decide_eq_false hk21ge) ?_
              obtain rfl := Option.some.inj h
              replace h := hO17
              clear hO17
              try dsimp only at h
              refine T.exit (X.exs (X.exs (X.ex (X.seq (T.seq (T.seq (T.region rfl ?_)))))))
              refine TL.run ft_batch_ok [0] rfl rfl ?_
              refine TL.q rfl .u (Ex.b1 0 rfl Try.isAgg4 rfl rfl) rfl ?_
              refine TL.nil (X.seq ?_)
              refine T.yes rfl c7 ?_
              refine T.seq (T.region rfl ?_)
              refine TL.run ft_batch_ok [0] rfl rfl ?_
              refine TL.q rfl .u (Ex.b1 0 rfl Try.isAgg23 rfl rfl) rfl ?_
              obtain ⟨x45, hx46, h⟩ := Option.bind_eq_some_iff.1 h
              obtain ⟨gz47, oz47, rfl, z47cs, z47cl, z47cc, z47nf, z47r⟩ := RX.elem (by decide) hX hx46
              obtain ⟨z47S, z47r, z47rr⟩ := z47r
              obtain ⟨A48, c49, rfl, z47s0⟩ := z47r
              have hX50 : (RX.of (sliceRd 3 Hd_rd) [.slice A48 x45.fHeaders.length c49] x45.fHeaders).reads w F := ⟨z47S, z47s0, z47rr⟩
              refine TL.q rfl .u (Ex.ixS (k := 0) rfl rfl rfl Try.runUnderlying23 Try.sizeOf33 (List.getElem?_eq_some_iff.1 hx46).1) rfl ?_
              refine TL.q rfl .u (Ex.oS (us := [.int .i64 x45.fTime, .int .i64 x45.fOffset, .bool x45.fKey.null, .string (bsOf x45.fKey.data), .bool x45.fValue.null, .string (bsOf x45.fValue.data), .slice A48 x45.fHeaders.length c49]) 0 rfl Try.isAgg33 Try.sizeOf33 z47nf z47cc rfl rfl rfl) rfl ?_
              obtain ⟨⟨x51, x52, x53⟩, hx54, h⟩ := Option.bind_eq_some_iff.1 h
              try dsimp only at h
              refine TL.ce rfl .u (.fn Try.call48 rfl) (f_control_Read_spec x45 _ _ _ hx54) (fun _ hs => (SrcE.old hs hX50)) rfl ?_
              refine TL.run ft_batch_ok [5, 6, 7, 8, 9, 10, 11] rfl rfl ?_
              refine TL.nil (X.seq (T.seq (T.region rfl ?_)))
              refine TL.run ft_batch_ok [0, 1] rfl rfl ?_
              by_cases c55 : x53 = 0
              · replace h := ifT c55 h
                refine TL.nil (X.seq ?_)
                refine T.no rfl (bn_f (decide_eq_true c55)) ?_
                refine T.skip (X.seq (T.seq (T.region rfl ?_)))
                refine TL.q rfl .u (Ex.bS (us := [.int .i64 a0.fBase, .int .i64 a0.fLeader, .bool a0.fAppend, .bool a0.fTxn, .bool a0.fControl, .int .i64 a0.fLast, .int .i64 a0.fFirst, .int .i64 a0.fMax, .int .i64 a0.fProducer, .int .i64 a0.fEpoch, .int .i64 a0.fSequence, .slice (some ⟨gz47, oz47, none⟩) a0.fRecords.length c2]) 0 rfl Try.isAgg25 Try.sizeOf25 rfl rfl rfl) rfl ?_
                obtain ⟨x56, hx57, h⟩ := Option.bind_eq_some_iff.1 h
                refine TL.ce rfl .u (.fn Try.call49 rfl) (f_batch_records_spec a0 _ _ _ hx57) (fun _ hs => (SrcE.old hs hX)) rfl ?_
                refine TL.run ft_batch_ok [2] rfl rfl ?_
                obtain rfl := Option.some.inj h
                exact TL.nil (X.seq (T.ret (X.done1 [1] Try.results15 (RV.tm rfl) ⟨rfl, rfl, rfl⟩ (by rfl) (.inl rfl))))
              · replace h := ifF c55 h
                refine TL.nil (X.seq ?_)
                refine T.yes rfl (bn_t (decide_eq_false c55)) ?_
                refine T.seq (T.region rfl ?_)
                refine TL.run ft_batch_ok [0, 1] rfl rfl ?_
                obtain rfl := Option.some.inj h
                exact TL.nil (X.seq (T.ret (X.rs (X.done1 [1] Try.results15 (RV.tm rfl) ⟨rfl, rfl, rfl⟩ (by rfl) (.inl rfl)))))
            | succ m18 =>
              have h := hl20
              clear hl20
              obtain ⟨x19, hxx19⟩ : ∃ x, a0.fRecords[k14]? = some x := ⟨_, List.getElem?_eq_getElem (by omega)⟩
              rw [drop_cons hxx19, f_batch_Check_l1] at h
              have hk21lt : (k14 : Int) < (a0.fRecords.length : Int) := by omega
              refine T.seq (T.region rfl ?_)
              refine TL.run ft_batch_ok [0] rfl rfl ?_
              refine TL.nil (X.seq (T.seq ?_))
              refine T.yes rfl (decide_eq_true hk21lt) ?_
              obtain ⟨gz22, oz22, rfl, z22cs, z22cl, z22cc, z22nf, z22r⟩ := RX.elem (by decide) hX hxx19
              obtain ⟨z22S, z22r, z22rr⟩ := z22r
              obtain ⟨A23, c24, rfl, z22s0⟩ := z22r
              have hX25 : (RX.of (sliceRd 3 Hd_rd) [.slice A23 x19.fHeaders.length c24] x19.fHeaders).reads w F := ⟨z22S, z22s0, z22rr⟩
              refine T.skip (X.seq (T.seq (T.block (T.seq (T.region rfl ?_)))))
              refine TL.q rfl .u (Ex.ixS (k := k14) rfl rfl rfl Try.runUnderlying23 Try.sizeOf33 (List.getElem?_eq_some_iff.1 hxx19).1) rfl ?_
              refine TL.q rfl .u (Ex.oS (us := [.int .i64 x19.fTime, .int .i64 x19.fOffset, .bool x19.fKey.null, .string (bsOf x19.fKey.data), .bool x19.fValue.null, .string (bsOf x19.fValue.data), .slice A23 x19.fHeaders.length c24]) 0 rfl Try.isAgg33 Try.sizeOf33 z22nf z22cc rfl rfl rfl) rfl ?_
              refine TL.alloc rfl .u Try.zeroValue33 rfl (fun b26 => ?_)
              refine TL.st0 (cs' := #[.int .i64 x19.fTime, .int .i64 x19.fOffset, .bool x19.fKey.null, .string (bsOf x19.fKey.data), .bool x19.fValue.null, .string (bsOf x19.fValue.data), .slice A23 x19.fHeaders.length c24]) rfl .u rfl rfl Try.sizeOf33 rfl rfl rfl rfl ?_
              refine TL.nil (X.seq (T.seq (T.region rfl ?_)))
              refine TL.q rfl .u (Ex.bS (us := [.int .i64 x19.fTime, .int .i64 x19.fOffset, .bool x19.fKey.null, .string (bsOf x19.fKey.data), .bool x19.fValue.null, .string (bsOf x19.fValue.data), .slice A23 x19.fHeaders.length c24]) 0 rfl Try.isAgg33 Try.sizeOf33 rfl rfl rfl) rfl ?_
              obtain ⟨x27, hx28, h⟩ := Option.bind_eq_some_iff.1 h
              refine TL.ce rfl .u (.fn Try.call47 rfl) (f_record_Right_spec x19 _ _ _ hx28) (fun _ hs => (SrcE.old hs hX25)) rfl ?_
              refine TL.run ft_batch_ok [2] rfl rfl ?_
              refine TL.nil (X.seq (T.seq (T.region rfl ?_)))
              refine TL.run ft_batch_ok [0, 1] rfl rfl ?_
              by_cases c29 : x27 = 0
              · replace h := ifT c29 h
                refine TL.nil (X.seq ?_)
                refine T.no rfl (bn_f (decide_eq_true c29)) ?_
                refine T.skip (X.blk (X.seq (T.region rfl ?_)))
                refine TL.q rfl .u (Ex.add rfl rfl (by omega)) rfl ?_
                refine TL.run ft_batch_ok [1] rfl rfl ?_
                exact TL.nil (X.back (m' := m18) [1, 1] (by omega) ⟨y13, k14 + 1, by omega, rfl, rfl, h⟩ (by rfl) (by rfl))
              · replace h := ifF c29 h
                refine TL.nil (X.seq ?_)
                refine T.yes rfl (bn_t (decide_eq_false c29)) ?_
                refine T.seq (T.region rfl ?_)
                refine TL.run ft_batch_ok [0, 1] rfl rfl ?_
                obtain rfl := Option.some.inj h
                replace h := hO17
                clear hO17
                try dsimp only at h
                obtain rfl := Option.some.inj h
                exact TL.nil (X.seq (T.ret (X.rb (X.rs (X.rs (X.rb (X.rs (X.done1 [2] Try.results15 (RV.tm rfl) ⟨rfl, rfl, rfl⟩ (by rfl) (.inl rfl)))))))))
          · replace h := ifF c12 h
            refine TL.nil (X.seq ?_)
            refine T.yes rfl (bn_t (decide_eq_false c12)) ?_
            refine T.seq (T.region rfl ?_)
            refine TL.run ft_batch_ok [0] rfl rfl ?_
            obtain rfl := Option.some.inj h
            exact TL.nil (X.seq (T.ret (X.rb (X.rs (X.done1 [1] Try.results15 (RV.tm rfl) ⟨rfl, rfl, rfl⟩ (by rfl) (.inl rfl))))))
        · replace h := ifF c11 h
          replace c11 := eq_false_of_ne_true c11
          refine TL.nil (X.seq ?_)
          refine T.yes rfl (bn_t c11) ?_
          refine T.seq (T.region rfl ?_)
          refine TL.run ft_batch_ok [0] rfl rfl ?_
          obtain rfl := Option.some.inj h
          exact TL.nil (X.seq (T.ret (X.rb (X.rs (X.done1 [1] Try.results15 (RV.tm rfl) ⟨rfl, rfl, rfl⟩ (by rfl) (.inl rfl))))))
      · replace h := ifF c8 h
        replace c8 := eq_false_of_ne_true c8
        refine TL.nil (X.seq ?_)
        refine T.yes rfl (bn_t c8) ?_
        refine T.seq (T.region rfl ?_)
        refine TL.run ft_batch_ok [0] rfl rfl ?_
        obtain rfl := Option.some.inj h
        exact TL.nil (X.seq (T.ret (X.rb (X.rs (X.done1 [1] Try.results15 (RV.tm rfl) ⟨rfl, rfl, rfl⟩ (by rfl) (.inl rfl))))))
    · replace h := ifF c7 h
      replace c7 := eq_false_of_ne_true c7
      refine TL.run ft_batch_ok [2] rfl rfl ?_
      refine TL.no rfl (.gn rfl rfl c7) rfl ?_
      refine TL.no rfl (.gn rfl rfl c7) rfl ?_
      refine TL.no rfl (.gn rfl rfl c7) rfl ?_
      refine TL.q rfl .u (Ex.pn rfl c7 rfl) rfl ?_
      refine TL.run ft_batch_ok [7] rfl rfl ?_
      refine TL.nil (X.seq ?_)
      refine T.no rfl rfl ?_
      refine T.seq (T.region rfl ?_)
      refine TL.q rfl .u (Ex.bS (us := [.int .i64 a0.fBase, .int .i64 a0.fLeader, .bool a0.fAppend, .bool a0.fTxn, .bool a0.fControl, .int .i64 a0.fLast, .int .i64 a0.fFirst, .int .i64 a0.fMax, .int .i64 a0.fProducer, .int .i64 a0.fEpoch, .int .i64 a0.fSequence, .slice A1 a0.fRecords.length c2]) 0 rfl Try.isAgg25 Try.sizeOf25 rfl rfl rfl) rfl ?_
      obtain ⟨x58, hx59, h⟩ := Option.bind_eq_some_iff.1 h
      refine TL.ce rfl .u (.fn Try.call46 rfl) (f_batch_producer_spec a0 _ _ _ hx59) (fun _ hs => (SrcE.old hs hX)) rfl ?_
      refine TL.run ft_batch_ok [2, 3] rfl rfl ?_
      by_cases c60 : x58 = true
      · replace h := ifT c60 h
        refine TL.nil (X.seq ?_)
        refine T.no rfl (bn_f c60) ?_
        refine T.seq (T.region rfl ?_)
        refine TL.run ft_batch_ok [0] rfl rfl ?_
        refine TL.q rfl .u (Ex.b1 0 rfl Try.isAgg4 rfl rfl) rfl ?_
        refine TL.run ft_batch_ok [2] rfl rfl ?_
        refine TL.no rfl (.gn rfl rfl c7) rfl ?_
        refine TL.no rfl (.gn rfl rfl c7) rfl ?_
        refine TL.no rfl (.gn rfl rfl c7) rfl ?_
        refine TL.no rfl (.gn rfl rfl c7) rfl ?_
        refine TL.q rfl .u (Ex.pn rfl c7 rfl) rfl ?_
        refine TL.run ft_batch_ok [8] rfl rfl ?_
        refine TL.nil (X.seq ?_)
        refine T.no rfl rfl ?_
        refine T.skip (X.blk (X.seq (T.seq (T.seq (T.region rfl ?_)))))
        refine TL.run ft_batch_ok [0] rfl rfl ?_
        refine TL.q rfl .u (Ex.b1 0 rfl Try.isAgg23 rfl rfl) rfl ?_
        refine TL.q rfl .u (Ex.lenS rfl Try.runUnderlying23) rfl ?_
        refine TL.run ft_batch_ok [3] rfl rfl ?_
        refine TL.nil (X.seq (T.block ?_))
        obtain ⟨E63, hE64, hO65⟩ := Option.bind_eq_some_iff.1 h
        have hk69len := RX.len_le hX
        refine T.lp (fun m e Rs => ∃ (y61 : Int) (k62 : Nat), k62 + m = a0.fRecords.length ∧ e = [(1, .pointer (some ⟨b3, 0, none⟩)), (2, .int .i64 y61), (35, .slice A1 a0.fRecords.length c2), (36, .int .i64 (a0.fRecords.length : Int)), (37, .int .i64 (k62 : Int))] ∧ Rs = [BlkR b3 25 #[.int .i64 a0.fBase, .int .i64 a0.fLeader, .bool a0.fAppend, .bool a0.fTxn, .bool a0.fControl, .int .i64 a0.fLast, .int .i64 a0.fFirst, .int .i64 a0.fMax, .int .i64 a0.fProducer, .int .i64 a0.fEpoch, .int .i64 a0.fSequence, .slice A1 a0.fRecords.length c2], EmpR] ∧ f_batch_Check_l2 (a0.fRecords.drop k62) y61 = some E63) (a0.fRecords.length) [0, 0] ⟨0, 0, by simp, rfl, rfl, by rw [List.drop_zero]; exact hE64⟩ (by rfl) (by rfl) ?_
        rintro m66 _ _ ⟨y61, k62, hk69, rfl, rfl, hl68⟩
        clear hE64 h
        cases m66 with
        | zero =>
          have h := hl68
          clear hl68
          rw [List.drop_of_length_le (by omega), f_batch_Check_l2] at h
          have hk69ge : ¬ ((k62 : Int) < (a0.fRecords.length : Int)) := by omega
          refine T.seq (T.region rfl ?_)
          refine TL.run ft_batch_ok [0] rfl rfl ?_
          refine TL.nil (X.seq (T.seq ?_))
          refine T.no rfl (decide_eq_false hk69ge) ?_
          obtain rfl := Option.some.inj h
          replace h := hO65
          clear hO65
          try dsimp only at h
          refine T.exit (X.exs (X.exs (X.ex (X.seq (T.seq (T.seq (T.region rfl ?_)))))))
          refine TL.run ft_batch_ok [0] rfl rfl ?_
          refine TL.q rfl .u (Ex.b1 0 rfl Try.isAgg4 rfl rfl) rfl ?_
          refine TL.nil (X.seq ?_)
          refine T.no rfl c7 ?_
          refine T.skip (X.seq (T.seq (T.region rfl ?_)))
          refine TL.q rfl .u (Ex.bS (us := [.int .i64 a0.fBase, .int .i64 a0.fLeader, .bool a0.fAppend, .bool a0.fTxn, .bool a0.fControl, .int .i64 a0.fLast, .int .i64 a0.fFirst, .int .i64 a0.fMax, .int .i64 a0.fProducer, .int .i64 a0.fEpoch, .int .i64 a0.fSequence, .slice A1 a0.fRecords.length c2]) 0 rfl Try.isAgg25 Try.sizeOf25 rfl rfl rfl) rfl ?_
          obtain ⟨x82, hx83, h⟩ := Option.bind_eq_some_iff.1 h
          refine TL.ce rfl .u (.fn Try.call49 rfl) (f_batch_records_spec a0 _ _ _ hx83) (fun _ hs => (SrcE.old hs hX)) rfl ?_
          refine TL.run ft_batch_ok [2] rfl rfl ?_
          obtain rfl := Option.some.inj h
          exact TL.nil (X.seq (T.ret (X.done1 [1] Try.results15 (RV.tm rfl) ⟨rfl, rfl, rfl⟩ (by rfl) (.inl rfl))))
        | succ m66 =>
          have h := hl68
          clear hl68
          obtain ⟨x67, hxx67⟩ : ∃ x, a0.fRecords[k62]? = some x := ⟨_, List.getElem?_eq_getElem (by omega)⟩
          rw [drop_cons hxx67, f_batch_Check_l2] at h
          have hk69lt : (k62 : Int) < (a0.fRecords.length : Int) := by omega
          refine T.seq (T.region rfl ?_)
          refine TL.run ft_batch_ok [0] rfl rfl ?_
          refine TL.nil (X.seq (T.seq ?_))
          refine T.yes rfl (decide_eq_true hk69lt) ?_
          obtain ⟨gz70, oz70, rfl, z70cs, z70cl, z70cc, z70nf, z70r⟩ := RX.elem (by decide) hX hxx67
          obtain ⟨z70S, z70r, z70rr⟩ := z70r
          obtain ⟨A71, c72, rfl, z70s0⟩ := z70r
          have hX73 : (RX.of (sliceRd 3 Hd_rd) [.slice A71 x67.fHeaders.length c72] x67.fHeaders).reads w F := ⟨z70S, z70s0, z70rr⟩
          refine T.skip (X.seq (T.seq (T.block (T.seq (T.region rfl ?_)))))
          refine TL.q rfl .u (Ex.ixS (k := k62) rfl rfl rfl Try.runUnderlying23 Try.sizeOf33 (List.getElem?_eq_some_iff.1 hxx67).1) rfl ?_
          refine TL.q rfl .u (Ex.oS (us := [.int .i64 x67.fTime, .int .i64 x67.fOffset, .bool x67.fKey.null, .string (bsOf x67.fKey.data), .bool x67.fValue.null, .string (bsOf x67.fValue.data), .slice A71 x67.fHeaders.length c72]) 0 rfl Try.isAgg33 Try.sizeOf33 z70nf z70cc rfl rfl rfl) rfl ?_
          refine TL.alloc rfl .u Try.zeroValue33 rfl (fun b74 => ?_)
          refine TL.st0 (cs' := #[.int .i64 x67.fTime, .int .i64 x67.fOffset, .bool x67.fKey.null, .string (bsOf x67.fKey.data), .bool x67.fValue.null, .string (bsOf x67.fValue.data), .slice A71 x67.fHeaders.length c72]) rfl .u rfl rfl Try.sizeOf33 rfl rfl rfl rfl ?_
          refine TL.nil (X.seq (T.seq (T.region rfl ?_)))
          refine TL.q rfl .u (Ex.bS (us := [.int .i64 x67.fTime, .int .i64 x67.fOffset, .bool x67.fKey.null, .string (bsOf x67.fKey.data), .bool x67.fValue.null, .string (bsOf x67.fValue.data), .slice A71 x67.fHeaders.length c72]) 0 rfl Try.isAgg33 Try.sizeOf33 rfl rfl rfl) rfl ?_
          obtain ⟨x75, hx76, h⟩ := Option.bind_eq_some_iff.1 h
          refine TL.ce rfl .u (.fn Try.call47 rfl) (f_record_Right_spec x67 _ _ _ hx76) (fun _ hs => (SrcE.old hs hX73)) rfl ?_
          refine TL.run ft_batch_ok [2] rfl rfl ?_
          refine TL.nil (X.seq (T.seq (T.region rfl ?_)))
          refine TL.run ft_batch_ok [0, 1] rfl rfl ?_
          by_cases c77 : x75 = 0
          · replace h := ifT c77 h
            refine TL.nil (X.seq ?_)
            refine T.no rfl (bn_f (decide_eq_true c77)) ?_
            refine T.skip (X.blk (X.seq (T.region rfl ?_)))
            refine TL.q rfl .u (Ex.add rfl rfl (by omega)) rfl ?_
            refine TL.run ft_batch_ok [1] rfl rfl ?_
            exact TL.nil (X.back (m' := m66) [1, 1] (by omega) ⟨y61, k62 + 1, by omega, rfl, rfl, h⟩ (by rfl) (by rfl))
          · replace h := ifF c77 h
            refine TL.nil (X.seq ?_)
            refine T.yes rfl (bn_t (decide_eq_false c77)) ?_
            refine T.seq (T.region rfl ?_)
            refine TL.run ft_batch_ok [0, 1] rfl rfl ?_
            obtain rfl := Option.some.inj h
            replace h := hO65
            clear hO65
            try dsimp only at h
            obtain rfl := Option.some.inj h
            exact TL.nil (X.seq (T.ret (X.rb (X.rs (X.rs (X.rb (X.rs (X.done1 [2] Try.results15 (RV.tm rfl) ⟨rfl, rfl, rfl⟩ (by rfl) (.inl rfl)))))))))
      · replace h := ifF c60 h
        replace c60 := eq_false_of_ne_true c60
        refine TL.nil (X.seq ?_)
        refine T.yes rfl (bn_t c60) ?_
        refine T.seq (T.region rfl ?_)
        refine TL.run ft_batch_ok [0] rfl rfl ?_
        obtain rfl := Option.some.inj h
        exact TL.nil (X.seq (T.ret (X.rb (X.rs (X.done1 [1] Try.results15 (RV.tm rfl) ⟨rfl, rfl, rfl⟩ (by rfl) (.inl rfl))))))
  · replace h := ifF c6 h
    replace c6 := eq_false_of_ne_true c6
    refine TL.nil (X.seq ?_)
    refine T.yes rfl (bn_t c6) ?_
    refine T.seq (T.region rfl ?_)
    refine TL.run ft_batch_ok [0] rfl rfl ?_
    obtain rfl := Option.some.inj h
    exact TL.nil (X.seq (T.ret (X.rb (X.rs (X.done1 [1] Try.results15 (RV.tm rfl) ⟨rfl, rfl, rfl⟩ (by rfl) (.inl rfl))))))
def f_batch_open_l1 (a0 : Pfx) : Nat → Int → Nat → List Rec → I → Option (Lp (Bat × Int) (Int × Nat × List Rec × I))
  | 0, _, _, _, _ => none
  | m23 + 1, y14, k15, y16, st19 => if (k15 : Int) < a0.fCount then ((gLeft st19).bind fun (x28, st29) => if x28 = 0 then (some (Lp.ret ((⟨0, 0, false, false, false, 0, 0, 0, 0, 0, 0, []⟩ : Bat), 10))) else ((f_record_Read st29).bind fun (x32, st35) => (gErr st35).bind fun (x38, st39) => if x38 = 0 then (if (y16.length + 1) * 88 ≤ 140737488355328 then (if -9223372036854775808 ≤ ((k15 : Int) + 1) ∧ ((k15 : Int) + 1) ≤ 9223372036854775807 then (f_batch_open_l1 a0 m23 y14 (k15 + 1) (y16 ++ [x32]) st39) else none) else none) else (some (Lp.ret ((⟨0, 0, false, false, false, 0, 0, 0, 0, 0, 0, []⟩ : Bat), x38))))) else (some (Lp.go (y14, k15, y16, st19)))
def f_batch_open (a0 : Pfx) (a1 : List UInt8) : Option (Bat × Int) := (gACheck a0.fAttr).bind fun x3 => if x3 = 0 then ((gARead a0.fAttr).bind fun (x7, x8, x9) => (gNew a1).bind fun st11 => (f_batch_open_l1 a0 ((a0.fCount).toNat + 1) 0 0 [] st11).bind fun e => match e with | .ret r => some r | .go (y53, k54, y55, st58) => ((gLeft st58).bind fun (x59, st60) => if x59 > 0 then (some ((⟨0, 0, false, false, false, 0, 0, 0, 0, 0, 0, []⟩ : Bat), 10)) else ((f_batch_Check (⟨a0.fBase, a0.fLeader, x7, x8, x9, a0.fLast, a0.fFirst, a0.fMax, a0.fProducer, a0.fEpoch, a0.fSequence, y55⟩ : Bat)).bind fun x63 => some ((⟨a0.fBase, a0.fLeader, x7, x8, x9, a0.fLast, a0.fFirst, a0.fMax, a0.fProducer, a0.fEpoch, a0.fSequence, y55⟩ : Bat), x63)))) else (some ((⟨0, 0, false, false, false, 0, 0, 0, 0, 0, 0, []⟩ : Bat), x3))
set_option maxRecDepth 100000 in
set_option maxHeartbeats 4000000 in
theorem f_batch_open_spec (a0 : Pfx) (a1 : List UInt8) (r : Bat × Int) (h : f_batch_open a0 a1 = some r) : SpecX Try.prog 63 #[.agg #[.int .i64 a0.fBase, .int .i64 a0.fLength, .int .i64 a0.fLeader, .int .i64 a0.fSum, .int .i64 a0.fAttr, .int .i64 a0.fLast, .int .i64 a0.fFirst, .int .i64 a0.fMax, .int .i64 a0.fProducer, .int .i64 a0.fEpoch, .int .i64 a0.fSequence, .int .i64 a0.fCount], .string (bsOf a1)] .triv (EmpR) (fun v A' N => ∃ (A65 : Option Addr) (c66 : Nat), v = .tuple #[.agg #[.int .i64 r.1.fBase, .int .i64 r.1.fLeader, .bool r.1.fAppend, .bool r.1.fTxn, .bool r.1.fControl, .int .i64 r.1.fLast, .int .i64 r.1.fFirst, .int .i64 r.1.fMax, .int .i64 r.1.fProducer, .int .i64 r.1.fEpoch, .int .i64 r.1.fSequence, .slice A65 r.1.fRecords.length c66], .int .i64 r.2] ∧ A' = EmpR ∧ N = [RdR (sliceRd 7 Rec_rd) [.slice A65 r.1.fRecords.length c66] r.1.fRecords]) := by
  refine enterA Try.func63 rfl Try.ntmps63 rfl ?_
  intro F w hX
  unfold f_batch_open at h
  refine T.seq (T.region rfl ?_)
  refine TL.box rfl .u rfl rfl (fun b1 => ?_)
  refine TL.alloc rfl .u Try.zeroValue25 rfl (fun b2 => ?_)
  refine TL.run ft_batch_ok [2] rfl rfl ?_
  refine TL.nil (X.seq (T.seq (T.seq (T.region rfl ?_))))
  refine TL.run ft_batch_ok [0] rfl rfl ?_
  refine TL.q rfl .u (Ex.b1 1 rfl Try.isAgg3 rfl rfl) rfl ?_
  obtain ⟨x3, hx4, h⟩ := Option.bind_eq_some_iff.1 h
  refine TL.ce rfl .u (.fn Try.call100 rfl) (SpecX.pure (fun w => gACheck_spec a0.fAttr _ hx4 w)) (fun _ _ => RX.reads_triv _ _) rfl ?_
  refine TL.run ft_batch_ok [3] rfl rfl ?_
  refine TL.nil (X.seq (T.seq (T.region rfl ?_)))
  refine TL.run ft_batch_ok [0, 1] rfl rfl ?_
  by_cases c5 : x3 = 0
  · replace h := ifT c5 h
    refine TL.nil (X.seq ?_)
    refine T.no rfl (bn_f (decide_eq_true c5)) ?_
    refine T.skip (X.seq (T.seq (T.region rfl ?_)))
    refine TL.run ft_batch_ok [0] rfl rfl ?_
    refine TL.q rfl .u (Ex.b1 1 rfl Try.isAgg3 rfl rfl) rfl ?_
    refine TL.run ft_batch_ok [2] rfl rfl ?_
    refine TL.q rfl .u (Ex.b1 1 rfl Try.isAgg3 rfl rfl) rfl ?_
    refine TL.run ft_batch_ok [4] rfl rfl ?_
    refine TL.q rfl .u (Ex.b1 1 rfl Try.isAgg3 rfl rfl) rfl ?_
    refine TL.run ft_batch_ok [6] rfl rfl ?_
    refine TL.q rfl .u (Ex.b1 1 rfl Try.isAgg3 rfl rfl) rfl ?_
    refine TL.run ft_batch_ok [8] rfl rfl ?_
    refine TL.q rfl .u (Ex.b1 1 rfl Try.isAgg3 rfl rfl) rfl ?_
    refine TL.run ft_batch_ok [10] rfl rfl ?_
    refine TL.q rfl .u (Ex.b1 1 rfl Try.isAgg3 rfl rfl) rfl ?_
    refine TL.run ft_batch_ok [12] rfl rfl ?_
    refine TL.q rfl .u (Ex.b1 1 rfl Try.isAgg3 rfl rfl) rfl ?_
    refine TL.run ft_batch_ok [14] rfl rfl ?_
    refine TL.q rfl .u (Ex.b1 1 rfl Try.isAgg3 rfl rfl) rfl ?_
    refine TL.q rfl .u (Ex.bld (cells := #[.int .i64 a0.fBase, .int .i64 a0.fLeader, .bool false, .bool false, .bool false, .int .i64 a0.fLast, .int .i64 a0.fFirst, .int .i64 a0.fMax, .int .i64 a0.fProducer, .int .i64 a0.fEpoch, .int .i64 a0.fSequence, .slice none 0 0]) bok_batch_25 rfl (by kernel_rfl)) rfl ?_
    refine TL.alloc rfl .u Try.zeroValue25 rfl (fun b6 => ?_)
    refine TL.st0 (cs' := #[.int .i64 a0.fBase, .int .i64 a0.fLeader, .bool false, .bool false, .bool false, .int .i64 a0.fLast, .int .i64 a0.fFirst, .int .i64 a0.fMax, .int .i64 a0.fProducer, .int .i64 a0.fEpoch, .int .i64 a0.fSequence, .slice none 0 0]) rfl .u rfl rfl Try.sizeOf25 rfl rfl rfl rfl ?_
    refine TL.nil (X.seq (T.seq (T.region rfl ?_)))
    refine TL.run ft_batch_ok [0] rfl rfl ?_
    refine TL.q rfl .u (Ex.b1 2 rfl Try.isAgg3 rfl rfl) rfl ?_
    obtain ⟨⟨x7, x8, x9⟩, hx10, h⟩ := Option.bind_eq_some_iff.1 h
    try dsimp only at h
    refine TL.ce rfl .u (.fn Try.call101 rfl) (SpecX.pure (fun w => gARead_spec a0.fAttr _ hx10 w)) (fun _ _ => RX.reads_triv _ _) rfl ?_
    refine TL.run ft_batch_ok [3, 4, 5, 6, 7] rfl rfl ?_
    refine TL.st0 (cs' := #[.int .i64 a0.fBase, .int .i64 a0.fLeader, .bool x7, .bool false, .bool false, .int .i64 a0.fLast, .int .i64 a0.fFirst, .int .i64 a0.fMax, .int .i64 a0.fProducer, .int .i64 a0.fEpoch, .int .i64 a0.fSequence, .slice none 0 0]) rfl .u rfl rfl Try.sizeOf4 rfl rfl rfl rfl ?_
    refine TL.run ft_batch_ok [9] rfl rfl ?_
    refine TL.st0 (cs' := #[.int .i64 a0.fBase, .int .i64 a0.fLeader, .bool x7, .bool x8, .bool false, .int .i64 a0.fLast, .int .i64 a0.fFirst, .int .i64 a0.fMax, .int .i64 a0.fProducer, .int .i64 a0.fEpoch, .int .i64 a0.fSequence, .slice none 0 0]) rfl .u rfl rfl Try.sizeOf4 rfl rfl rfl rfl ?_
    refine TL.run ft_batch_ok [11] rfl rfl ?_
    refine TL.st0 (cs' := #[.int .i64 a0.fBase, .int .i64 a0.fLeader, .bool x7, .bool x8, .bool x9, .int .i64 a0.fLast, .int .i64 a0.fFirst, .int .i64 a0.fMax, .int .i64 a0.fProducer, .int .i64 a0.fEpoch, .int .i64 a0.fSequence, .slice none 0 0]) rfl .u rfl rfl Try.sizeOf4 rfl rfl rfl rfl ?_
    refine TL.nil (X.seq (T.seq (T.region rfl ?_)))
    obtain ⟨st11, hx12, h⟩ := Option.bind_eq_some_iff.1 h
    refine TL.run ft_batch_ok [0] rfl rfl ?_
    refine TL.cge rfl .u (.fn Try.call20 rfl) (gNew_spec a1 _ hx12) (fun _ hs => (RX.reads_triv _ _)) rfl ?_
    rintro _ _ _ ⟨b13, rfl, rfl, rfl⟩
    refine TL.sel [0, 0, 0, 0, 0] rfl ?_
    refine TL.run ft_batch_ok [2] rfl rfl ?_
    refine TL.nil (X.seq (T.seq (T.seq (T.region rfl ?_))))
    refine TL.run ft_batch_ok [0] rfl rfl ?_
    refine TL.q rfl .u (Ex.b1 3 rfl Try.isAgg3 rfl rfl) rfl ?_
    refine TL.run ft_batch_ok [2] rfl rfl ?_
    refine TL.nil (X.seq (T.block ?_))
    refine T.nilrow 33 7 Rec_rd ?_
    obtain ⟨E20, hE21, hO22⟩ := Option.bind_eq_some_iff.1 h
    refine T.lp (fun m e Rs => ∃ (y14 : Int) (k15 : Nat) (y16 : List Rec) (A17 : Option Addr) (c18 : Nat) (st19 : I), e = [(4, .pointer (some ⟨b2, 0, none⟩)), (5, .int .i64 y14), (7, .pointer (some ⟨b6, 0, none⟩)), (8, .pointer (some ⟨b13, 0, none⟩)), (48, .int .i64 a0.fCount), (49, .int .i64 (k15 : Int))] ∧ Rs = [OwnR 33 7 Rec_rd (.slice A17 y16.length c18) y16, InR b13 st19, BlkR b6 25 #[.int .i64 a0.fBase, .int .i64 a0.fLeader, .bool x7, .bool x8, .bool x9, .int .i64 a0.fLast, .int .i64 a0.fFirst, .int .i64 a0.fMax, .int .i64 a0.fProducer, .int .i64 a0.fEpoch, .int .i64 a0.fSequence, .slice A17 y16.length c18], BlkR b2 25 #[.int .i64 0, .int .i64 0, .bool false, .bool false, .bool false, .int .i64 0, .int .i64 0, .int .i64 0, .int .i64 0, .int .i64 0, .int .i64 0, .slice none 0 0], BlkR b1 92 #[.int .i64 a0.fBase, .int .i64 a0.fLength, .int .i64 a0.fLeader, .int .i64 a0.fSum, .int .i64 a0.fAttr, .int .i64 a0.fLast, .int .i64 a0.fFirst, .int .i64 a0.fMax, .int .i64 a0.fProducer, .int .i64 a0.fEpoch, .int .i64 a0.fSequence, .int .i64 a0.fCount], EmpR] ∧ f_batch_open_l1 a0 m y14 k15 y16 st19 = some E20) ((a0.fCount).toNat + 1) [0, 0, 0, 0, 0, 0] ⟨0, 0, [], none, 0, st11, rfl, rfl, by exact hE21⟩ (by rfl) (by rfl) ?_
    rintro m23 _ _ ⟨y14, k15, y16, A17, c18, st19, rfl, rfl, hl25⟩
    clear hE21 h
    cases m23 with
    | zero =>
      rw [f_batch_open_l1] at hl25
      cases hl25
    | succ m23 =>
      have h := hl25
      clear hl25
      rw [f_batch_open_l1] at h
      refine T.seq (T.region rfl ?_)
      refine TL.run ft_batch_ok [0] rfl rfl ?_
      by_cases c27 : (k15 : Int) < a0.fCount
      · replace h := ifT c27 h
        refine TL.nil (X.seq (T.seq ?_))
        refine T.yes rfl (decide_eq_true c27) ?_
        refine T.skip (X.seq (T.seq (T.block (T.seq (T.seq (T.region rfl ?_))))))
        obtain ⟨⟨x28, st29⟩, hx30, h⟩ := Option.bind_eq_some_iff.1 h
        try dsimp only at h
        refine TL.run ft_batch_ok [0] rfl rfl ?_
        refine TL.c1 rfl .u (.fn Try.call64 rfl) (gLeft_spec b13 st19 _ hx30) (fun _ hs => (Src.triv _)) rfl ?_
        refine TL.run ft_batch_ok [2] rfl rfl ?_
        by_cases c31 : x28 = 0
        · replace h := ifT c31 h
          refine TL.nil (X.seq ?_)
          refine T.yes rfl (decide_eq_true c31) ?_
          refine T.seq (T.region rfl ?_)
          refine TL.q rfl .u (Ex.bld (cells := #[.int .i64 0, .int .i64 0, .bool false, .bool false, .bool false, .int .i64 0, .int .i64 0, .int .i64 0, .int .i64 0, .int .i64 0, .int .i64 0, .slice none 0 0]) bok_batch_25 rfl (by kernel_rfl)) rfl ?_
          refine TL.st3 (cs' := #[.int .i64 0, .int .i64 0, .bool false, .bool false, .bool false, .int .i64 0, .int .i64 0, .int .i64 0, .int .i64 0, .int .i64 0, .int .i64 0, .slice none 0 0]) rfl .u rfl rfl Try.sizeOf25 rfl rfl rfl rfl ?_
          refine TL.run ft_batch_ok [2] rfl rfl ?_
          obtain rfl := Option.some.inj h
          replace h := hO22
          clear hO22
          try dsimp only at h
          obtain rfl := Option.some.inj h
          refine TL.nil (X.seq (T.ret (X.rs (X.rb (X.rs (X.rs (X.rb (X.rs ?_))))))))
          refine X.nilrd 7 Rec_rd ?_
          exact X.done2 [6, 0] Try.results63 (RV.cS (us := #[.int .i64 0, .int .i64 0, .bool false, .bool false, .bool false, .int .i64 0, .int .i64 0, .int .i64 0, .int .i64 0, .int .i64 0, .int .i64 0, .slice none 0 0]) 4 rfl Try.isAgg25 Try.sizeOf25 rfl rfl) (RV.tm rfl) ⟨_, _, rfl, rfl, rfl⟩ (by rfl) (.inl rfl)
        · replace h := ifF c31 h
          refine TL.nil (X.seq ?_)
          refine T.no rfl (decide_eq_false c31) ?_
          refine T.skip (X.seq (T.seq (T.region rfl ?_)))
          obtain ⟨⟨x32, st35⟩, hx36, h⟩ := Option.bind_eq_some_iff.1 h
          try dsimp only at h
          refine TL.run ft_batch_ok [0] rfl rfl ?_
          refine TL.cg1 rfl .u (.fn Try.call102 rfl) (f_record_Read_spec b13 st29 _ hx36) (fun _ hs => (Src.triv _)) rfl ?_
          rintro _ _ _ ⟨A33, c34, rfl, rfl, rfl⟩
          refine TL.sel [0, 0, 0, 0, 0, 0, 0] rfl ?_
          refine TL.alloc rfl .u Try.zeroValue33 rfl (fun b37 => ?_)
          refine TL.st0 (cs' := #[.int .i64 x32.fTime, .int .i64 x32.fOffset, .bool x32.fKey.null, .string (bsOf x32.fKey.data), .bool x32.fValue.null, .string (bsOf x32.fValue.data), .slice A33 x32.fHeaders.length c34]) rfl .u rfl rfl Try.sizeOf33 rfl rfl rfl rfl ?_
          refine TL.nil (X.seq (T.seq (T.seq (T.region rfl ?_))))
          obtain ⟨⟨x38, st39⟩, hx40, h⟩ := Option.bind_eq_some_iff.1 h
          try dsimp only at h
          refine TL.run ft_batch_ok [0] rfl rfl ?_
          refine TL.c3 rfl .u (.fn Try.call61 rfl) (gErr_spec b13 st35 _ hx40) (fun _ hs => (Src.triv _)) rfl ?_
          refine TL.run ft_batch_ok [2] rfl rfl ?_
          refine TL.nil (X.seq (T.seq (T.region rfl ?_)))
          refine TL.run ft_batch_ok [0, 1] rfl rfl ?_
          by_cases c41 : x38 = 0
          · replace h := ifT c41 h
            refine TL.nil (X.seq ?_)
            refine T.no rfl (bn_f (decide_eq_true c41)) ?_
            refine T.skip (X.seq (T.region rfl ?_))
            refine TL.run ft_batch_ok [0] rfl rfl ?_
            refine TL.q rfl .u (Ex.b1 4 rfl Try.isAgg23 rfl rfl) rfl ?_
            refine TL.q rfl .u (Ex.bS (us := [.int .i64 x32.fTime, .int .i64 x32.fOffset, .bool x32.fKey.null, .string (bsOf x32.fKey.data), .bool x32.fValue.null, .string (bsOf x32.fValue.data), .slice A33 x32.fHeaders.length c34]) 0 rfl Try.isAgg33 Try.sizeOf33 rfl rfl rfl) rfl ?_
            refine TL.lit (cells := #[.int .i64 x32.fTime, .int .i64 x32.fOffset, .bool x32.fKey.null, .string (bsOf x32.fKey.data), .bool x32.fValue.null, .string (bsOf x32.fValue.data), .slice A33 x32.fHeaders.length c34]) rfl .u sok_batch_23_1 rfl (by kernel_rfl) rfl (fun b42 => ?_)
            replace h := guard_some h
            obtain ⟨c43, h⟩ := h
            refine TL.app2 2 1 rfl .u (us := [.int .i64 x32.fTime, .int .i64 x32.fOffset, .bool x32.fKey.null, .string (bsOf x32.fKey.data), .bool x32.fValue.null, .string (bsOf x32.fValue.data), .slice A33 x32.fHeaders.length c34]) (u := x32) (l := y16) (E := Rec_rd) Try.underlying23 inf_batch_33 rfl (by decide) rfl rfl rfl rfl rfl rfl rfl (fun w G hG => ⟨_, _, rfl, hG.1⟩) (by have hq := c43; omega) (by have hq := c43; omega) rfl (fun A44 c45 => ?_)
            refine TL.sel [0, 0, 0, 0, 0, 0, 0] rfl ?_
            refine TL.run ft_batch_ok [5] rfl rfl ?_
            refine TL.st3 (cs' := #[.int .i64 a0.fBase, .int .i64 a0.fLeader, .bool x7, .bool x8, .bool x9, .int .i64 a0.fLast, .int .i64 a0.fFirst, .int .i64 a0.fMax, .int .i64 a0.fProducer, .int .i64 a0.fEpoch, .int .i64 a0.fSequence, .slice A44 (y16 ++ [x32]).length c45]) rfl .u rfl rfl Try.sizeOf23 rfl rfl rfl rfl ?_
            replace h := guard_some h
            obtain ⟨c46, h⟩ := h
            refine TL.nil (X.blk (X.seq (T.region rfl ?_)))
            refine TL.q rfl .u (Ex.add rfl rfl c46) rfl ?_
            refine TL.run ft_batch_ok [1] rfl rfl ?_
            exact TL.nil (X.back (m' := m23) [0, 1, 1, 1, 1, 1] (by omega) ⟨y14, k15 + 1, (y16 ++ [x32]), A44, c45, st39, rfl, rfl, h⟩ (by rfl) (by rfl))
          · replace h := ifF c41 h
            refine TL.nil (X.seq ?_)
            refine T.yes rfl (bn_t (decide_eq_false c41)) ?_
            refine T.seq (T.region rfl ?_)
            refine TL.q rfl .u (Ex.bld (cells := #[.int .i64 0, .int .i64 0, .bool false, .bool false, .bool false, .int .i64 0, .int .i64 0, .int .i64 0, .int .i64 0, .int .i64 0, .int .i64 0, .slice none 0 0]) bok_batch_25 rfl (by kernel_rfl)) rfl ?_
            refine TL.run ft_batch_ok [1] rfl rfl ?_
            refine TL.st5 (cs' := #[.int .i64 0, .int .i64 0, .bool false, .bool false, .bool false, .int .i64 0, .int .i64 0, .int .i64 0, .int .i64 0, .int .i64 0, .int .i64 0, .slice none 0 0]) rfl .u rfl rfl Try.sizeOf25 rfl rfl rfl rfl ?_
            refine TL.run ft_batch_ok [3] rfl rfl ?_
            obtain rfl := Option.some.inj h
            replace h := hO22
            clear hO22
            try dsimp only at h
            obtain rfl := Option.some.inj h
            refine TL.nil (X.seq (T.ret (X.rs (X.rb (X.rs (X.rs (X.rb (X.rs ?_))))))))
            refine X.nilrd 7 Rec_rd ?_
            exact X.done2 [8, 0] Try.results63 (RV.cS (us := #[.int .i64 0, .int .i64 0, .bool false, .bool false, .bool false, .int .i64 0, .int .i64 0, .int .i64 0, .int .i64 0, .int .i64 0, .int .i64 0, .slice none 0 0]) 6 rfl Try.isAgg25 Try.sizeOf25 rfl rfl) (RV.tm rfl) ⟨_, _, rfl, rfl, rfl⟩ (by rfl) (.inl rfl)
      · replace h := ifF c27 h
        refine TL.nil (X.seq (T.seq ?_))
        refine T.no rfl (decide_eq_false c27) ?_
        obtain rfl := Option.some.inj h
        replace h := hO22
        clear hO22
        try dsimp only at h
        refine T.exit (X.exs (X.exs (X.ex (X.seq (T.seq (T.seq (T.region rfl ?_)))))))
        obtain ⟨⟨x47, st48⟩, hx49, h⟩ := Option.bind_eq_some_iff.1 h
        try dsimp only at h
        refine TL.run ft_batch_ok [0] rfl rfl ?_
        refine TL.c1 rfl .u (.fn Try.call64 rfl) (gLeft_spec b13 st19 _ hx49) (fun _ hs => (Src.triv _)) rfl ?_
        refine TL.run ft_batch_ok [2] rfl rfl ?_
        by_cases c50 : x47 > 0
        · replace h := ifT c50 h
          refine TL.nil (X.seq ?_)
          refine T.yes rfl (decide_eq_true c50) ?_
          refine T.seq (T.region rfl ?_)
          refine TL.q rfl .u (Ex.bld (cells := #[.int .i64 0, .int .i64 0, .bool false, .bool false, .bool false, .int .i64 0, .int .i64 0, .int .i64 0, .int .i64 0, .int .i64 0, .int .i64 0, .slice none 0 0]) bok_batch_25 rfl (by kernel_rfl)) rfl ?_
          refine TL.st3 (cs' := #[.int .i64 0, .int .i64 0, .bool false, .bool false, .bool false, .int .i64 0, .int .i64 0, .int .i64 0, .int .i64 0, .int .i64 0, .int .i64 0, .slice none 0 0]) rfl .u rfl rfl Try.sizeOf25 rfl rfl rfl rfl ?_
          refine TL.run ft_batch_ok [2] rfl rfl ?_
          obtain rfl := Option.some.inj h
          refine TL.nil (X.seq (T.ret (X.rs ?_)))
          refine X.nilrd 7 Rec_rd ?_
          exact X.done2 [6, 0] Try.results63 (RV.cS (us := #[.int .i64 0, .int .i64 0, .bool false, .bool false, .bool false, .int .i64 0, .int .i64 0, .int .i64 0, .int .i64 0, .int .i64 0, .int .i64 0, .slice none 0 0]) 4 rfl Try.isAgg25 Try.sizeOf25 rfl rfl) (RV.tm rfl) ⟨_, _, rfl, rfl, rfl⟩ (by rfl) (.inl rfl)
        · replace h := ifF c50 h
          refine TL.nil (X.seq ?_)
          refine T.no rfl (decide_eq_false c50) ?_
          refine T.skip (X.seq (T.seq (T.draw (.q 0 (.q 1 (.e 2 (.e 3 (.q 4 .nil))))) [0, 0, 0, 1, 1] rfl mix_batch (NoP.seq np_post) (by kernel_rfl) ?_)))
          refine TD.q rfl .u (Ex.bS (us := [.int .i64 a0.fBase, .int .i64 a0.fLeader, .bool x7, .bool x8, .bool x9, .int .i64 a0.fLast, .int .i64 a0.fFirst, .int .i64 a0.fMax, .int .i64 a0.fProducer, .int .i64 a0.fEpoch, .int .i64 a0.fSequence, .slice A17 y16.length c18]) 2 rfl Try.isAgg25 Try.sizeOf25 rfl rfl rfl) rfl ?_
          refine TD.q rfl .u (Ex.bS (us := [.int .i64 a0.fBase, .int .i64 a0.fLeader, .bool x7, .bool x8, .bool x9, .int .i64 a0.fLast, .int .i64 a0.fFirst, .int .i64 a0.fMax, .int .i64 a0.fProducer, .int .i64 a0.fEpoch, .int .i64 a0.fSequence, .slice A17 y16.length c18]) 2 rfl Try.isAgg25 Try.sizeOf25 rfl rfl rfl) rfl ?_
          obtain ⟨x51, hx52, h⟩ := Option.bind_eq_some_iff.1 h
          refine TD.ce rfl .u (.fn Try.call15 rfl) (f_batch_Check_spec (⟨a0.fBase, a0.fLeader, x7, x8, x9, a0.fLast, a0.fFirst, a0.fMax, a0.fProducer, a0.fEpoch, a0.fSequence, y16⟩ : Bat) _ _ _ hx52) (fun _ hs => (SrcE.res 0 hs rfl (fun w G h => own_reads (by decide) w G h))) rfl [0, 0, 0, 1, 1] (rfl) ?_
          refine TD.st3 (cs' := #[.int .i64 a0.fBase, .int .i64 a0.fLeader, .bool x7, .bool x8, .bool x9, .int .i64 a0.fLast, .int .i64 a0.fFirst, .int .i64 a0.fMax, .int .i64 a0.fProducer, .int .i64 a0.fEpoch, .int .i64 a0.fSequence, .slice A17 y16.length c18]) rfl .u rfl rfl Try.sizeOf25 rfl rfl rfl rfl [0, 0, 0, 1, 1] (rfl) ?_
          refine TD.run ft_batch_ok [4] rfl rfl ?_
          obtain rfl := Option.some.inj h
          refine TD.nil (X.seq (T.ret ?_))
          refine X.shut (by decide) 0 rfl ?_
          refine X.sel [0, 0, 0, 0, 0, 0] rfl ?_
          exact X.done2 [5, 0] Try.results63 (RV.cS (us := #[.int .i64 a0.fBase, .int .i64 a0.fLeader, .bool x7, .bool x8, .bool x9, .int .i64 a0.fLast, .int .i64 a0.fFirst, .int .i64 a0.fMax, .int .i64 a0.fProducer, .int .i64 a0.fEpoch, .int .i64 a0.fSequence, .slice A17 y16.length c18]) 3 rfl Try.isAgg25 Try.sizeOf25 rfl rfl) (RV.tm rfl) ⟨_, _, rfl, rfl, rfl⟩ (by rfl) (.inl rfl)
  · replace h := ifF c5 h
    refine TL.nil (X.seq ?_)
    refine T.yes rfl (bn_t (decide_eq_false c5)) ?_
    refine T.seq (T.region rfl ?_)
    refine TL.q rfl .u (Ex.bld (cells := #[.int .i64 0, .int .i64 0, .bool false, .bool false, .bool false, .int .i64 0, .int .i64 0, .int .i64 0, .int .i64 0, .int .i64 0, .int .i64 0, .slice none 0 0]) bok_batch_25 rfl (by kernel_rfl)) rfl ?_
    refine TL.run ft_batch_ok [1] rfl rfl ?_
    refine TL.st0 (cs' := #[.int .i64 0, .int .i64 0, .bool false, .bool false, .bool false, .int .i64 0, .int .i64 0, .int .i64 0, .int .i64 0, .int .i64 0, .int .i64 0, .slice none 0 0]) rfl .u rfl rfl Try.sizeOf25 rfl rfl rfl rfl ?_
    refine TL.run ft_batch_ok [3] rfl rfl ?_
    obtain rfl := Option.some.inj h
    refine TL.nil (X.seq (T.ret (X.rs ?_)))
    refine X.nilrd 7 Rec_rd ?_
    exact X.done2 [3, 0] Try.results63 (RV.cS (us := #[.int .i64 0, .int .i64 0, .bool false, .bool false, .bool false, .int .i64 0, .int .i64 0, .int .i64 0, .int .i64 0, .int .i64 0, .int .i64 0, .slice none 0 0]) 1 rfl Try.isAgg25 Try.sizeOf25 rfl rfl) (RV.tm rfl) ⟨_, _, rfl, rfl, rfl⟩ (by rfl) (.inl rfl)
def f_batch_Read (st : I)  : Option (Bat × I) := (f_prefix_Read st).bind fun (x3, st4) => if -9223372036854775808 ≤ (x3.fLength - 49) ∧ (x3.fLength - 49) ≤ 9223372036854775807 then ((gTake st4 (x3.fLength - 49)).bind fun (x8, st9) => (gErr st9).bind fun (x11, st12) => if x11 = 0 then ((f_prefix_Write ([], 0) x3).bind fun st15 => (gOText st15).bind fun (x17, x18, st19) => (f_crc_New).bind fun st21 => if 21 ≤ x17.length then ((f_crc_TableSum st21 [(x17.drop 21), x8]).bind fun (x26, st27) => if -9223372036854775808 ≤ x26 ∧ x26 ≤ 9223372036854775807 then (if x26 = x3.fSum then ((f_batch_open x3 x8).bind fun (x31, x34) => if x34 = 0 then some (x31, st12) else ((gIFail st12 x34).bind fun st38 => some ((⟨0, 0, false, false, false, 0, 0, 0, 0, 0, 0, []⟩ : Bat), st38))) else ((gIFail st12 5).bind fun st40 => some ((⟨0, 0, false, false, false, 0, 0, 0, 0, 0, 0, []⟩ : Bat), st40))) else none) else none) else (some ((⟨0, 0, false, false, false, 0, 0, 0, 0, 0, 0, []⟩ : Bat), st12))) else none
set_option maxRecDepth 100000 in
set_option maxHeartbeats 4000000 in
theorem f_batch_Read_spec (g : Nat) (st : I)  (r : Bat × I) (h : f_batch_Read st  = some r) : SpecX Try.prog 21 #[.pointer (some ⟨g, 0, none⟩)] .triv (InR g st) (fun v A' N => ∃ (A42 : Option Addr) (c43 : Nat), v = .agg #[.int .i64 r.1.fBase, .int .i64 r.1.fLeader, .bool r.1.fAppend, .bool r.1.fTxn, .bool r.1.fControl, .int .i64 r.1.fLast, .int .i64 r.1.fFirst, .int .i64 r.1.fMax, .int .i64 r.1.fProducer, .int .i64 r.1.fEpoch, .int .i64 r.1.fSequence, .slice A42 r.1.fRecords.length c43] ∧ A' = InR g r.2 ∧ N = [RdR (sliceRd 7 Rec_rd) [.slice A42 r.1.fRecords.length c43] r.1.fRecords]) := by
  refine enterA Try.func21 rfl Try.ntmps21 rfl ?_
  intro F w hX
  unfold f_batch_Read at h
  refine T.seq (T.region rfl ?_)
  refine TL.alloc rfl .u Try.zeroValue25 rfl (fun b1 => ?_)
  refine TL.nil (X.seq (T.seq (T.region rfl ?_)))
  refine TL.newout rfl .u Try.zeroValue87 rfl (fun b2 => ?_)
  refine TL.nil (X.seq (T.seq (T.region rfl ?_)))
  obtain ⟨⟨x3, st4⟩, hx5, h⟩ := Option.bind_eq_some_iff.1 h
  try dsimp only at h
  refine TL.run ft_batch_ok [0] rfl rfl ?_
  refine TL.c2 rfl .u (.fn Try.call59 rfl) (f_prefix_Read_spec g st _ hx5) (fun _ hs => (Src.triv _)) rfl ?_
  refine TL.alloc rfl .u Try.zeroValue92 rfl (fun b6 => ?_)
  refine TL.st0 (cs' := #[.int .i64 x3.fBase, .int .i64 x3.fLength, .int .i64 x3.fLeader, .int .i64 x3.fSum, .int .i64 x3.fAttr, .int .i64 x3.fLast, .int .i64 x3.fFirst, .int .i64 x3.fMax, .int .i64 x3.fProducer, .int .i64 x3.fEpoch, .int .i64 x3.fSequence, .int .i64 x3.fCount]) rfl .u rfl rfl Try.sizeOf92 rfl rfl rfl rfl ?_
  refine TL.nil (X.seq (T.seq (T.region rfl ?_)))
  refine TL.run ft_batch_ok [0, 1] rfl rfl ?_
  refine TL.q rfl .u (Ex.b1 0 rfl Try.isAgg3 rfl rfl) rfl ?_
  replace h := guard_some h
  obtain ⟨c7, h⟩ := h
  refine TL.q rfl .u (Ex.sub rfl rfl c7) rfl ?_
  obtain ⟨⟨x8, st9⟩, hx10, h⟩ := Option.bind_eq_some_iff.1 h
  try dsimp only at h
  refine TL.c3 rfl .u (.fn Try.call60 rfl) (gTake_spec g st4 (x3.fLength - 49) _ hx10) (fun _ hs => (Src.triv _)) rfl ?_
  refine TL.run ft_batch_ok [5] rfl rfl ?_
  refine TL.nil (X.seq (T.seq (T.seq (T.region rfl ?_))))
  obtain ⟨⟨x11, st12⟩, hx13, h⟩ := Option.bind_eq_some_iff.1 h
  try dsimp only at h
  refine TL.run ft_batch_ok [0] rfl rfl ?_
  refine TL.c3 rfl .u (.fn Try.call61 rfl) (gErr_spec g st9 _ hx13) (fun _ hs => (Src.triv _)) rfl ?_
  refine TL.run ft_batch_ok [2] rfl rfl ?_
  by_cases c14 : x11 = 0
  · replace h := ifT c14 h
    refine TL.nil (X.seq ?_)
    refine T.no rfl (bn_f (decide_eq_true c14)) ?_
    refine T.skip (X.seq (T.seq (T.region rfl ?_)))
    refine TL.q rfl .u (Ex.bS (us := [.int .i64 x3.fBase, .int .i64 x3.fLength, .int .i64 x3.fLeader, .int .i64 x3.fSum, .int .i64 x3.fAttr, .int .i64 x3.fLast, .int .i64 x3.fFirst, .int .i64 x3.fMax, .int .i64 x3.fProducer, .int .i64 x3.fEpoch, .int .i64 x3.fSequence, .int .i64 x3.fCount]) 0 rfl Try.isAgg92 Try.sizeOf92 rfl rfl rfl) rfl ?_
    obtain ⟨st15, hx16, h⟩ := Option.bind_eq_some_iff.1 h
    refine TL.c1 rfl .u (.fn Try.call41 rfl) (f_prefix_Write_spec b2 ([], 0) x3 _ hx16) (fun _ hs => (Src.triv _)) rfl ?_
    obtain ⟨⟨x17, x18, st19⟩, hx20, h⟩ := Option.bind_eq_some_iff.1 h
    try dsimp only at h
    refine TL.nil (X.seq (T.seq (T.region rfl ?_)))
    refine TL.c1 rfl .u (.fn Try.call39 rfl) (gOText_spec b2 st15 _ hx20) (fun _ hs => (Src.triv _)) rfl ?_
    refine TL.run ft_batch_ok [1, 2, 3, 4, 5] rfl rfl ?_
    obtain ⟨st21, hx22, h⟩ := Option.bind_eq_some_iff.1 h
    replace h := guard_some h
    obtain ⟨c24, h⟩ := h
    obtain ⟨⟨x26, st27⟩, hx28, h⟩ := Option.bind_eq_some_iff.1 h
    try dsimp only at h
    replace h := guard_some h
    obtain ⟨c29, h⟩ := h
    refine TL.nil (X.seq (T.seq (T.seq ?_)))
    refine T.join (fun e Rs => ∃ (b23 : Nat) (b25 : Nat), e = [(0, .pointer (some ⟨g, 0, none⟩)), (2, .pointer (some ⟨b1, 0, none⟩)), (3, .pointer (some ⟨b2, 0, none⟩)), (4, .pointer (some ⟨b6, 0, none⟩)), (5, .string (bsOf x8)), (10, .pointer (some ⟨g, 0, none⟩)), (11, .agg #[.int .i64 x3.fBase, .int .i64 x3.fLength, .int .i64 x3.fLeader, .int .i64 x3.fSum, .int .i64 x3.fAttr, .int .i64 x3.fLast, .int .i64 x3.fFirst, .int .i64 x3.fMax, .int .i64 x3.fProducer, .int .i64 x3.fEpoch, .int .i64 x3.fSequence, .int .i64 x3.fCount]), (12, .pointer (some ⟨g, 0, none⟩)), (13, .pointer (some ⟨b6, 1, none⟩)), (14, .int .i64 x3.fLength), (15, .int .i64 (x3.fLength - 49)), (16, .string (bsOf x8)), (17, .pointer (some ⟨g, 0, none⟩)), (18, .int .i64 x11), (19, .bool (!(decide (x11 = 0)))), (21, .agg #[.int .i64 x3.fBase, .int .i64 x3.fLength, .int .i64 x3.fLeader, .int .i64 x3.fSum, .int .i64 x3.fAttr, .int .i64 x3.fLast, .int .i64 x3.fFirst, .int .i64 x3.fMax, .int .i64 x3.fProducer, .int .i64 x3.fEpoch, .int .i64 x3.fSequence, .int .i64 x3.fCount]), (23, .tuple #[.string (bsOf x17), .int .i64 x18]), (24, .tuple #[.string (bsOf x17), .int .i64 x18]), (25, .string (bsOf x17)), (26, .int .i64 x18), (36, .bool (!(decide (x26 = x3.fSum))))] ∧ Rs = [OwnR 9 1 strE (.slice (some ⟨b25, 0, none⟩) 2 2) [(x17.drop 21), x8], TabR 152 b23 st27, BlkR b6 92 #[.int .i64 x3.fBase, .int .i64 x3.fLength, .int .i64 x3.fLeader, .int .i64 x3.fSum, .int .i64 x3.fAttr, .int .i64 x3.fLast, .int .i64 x3.fFirst, .int .i64 x3.fMax, .int .i64 x3.fProducer, .int .i64 x3.fEpoch, .int .i64 x3.fSequence, .int .i64 x3.fCount], OutR b2 st19, BlkR b1 25 #[.int .i64 0, .int .i64 0, .bool false, .bool false, .bool false, .int .i64 0, .int .i64 0, .int .i64 0, .int .i64 0, .int .i64 0, .int .i64 0, .slice none 0 0], InR g st12]) ?_ ?_
    · refine T.draw (.q 1 (.q 2 (.q 3 (.q 7 (.q 8 (.br 0 (.e 4 (.e 5 (.q 6 (.q 9 .nil)))) (.e 4 (.e 0 (.e 5 (.q 6 (.q 9 .nil))))))))))) [0, 0, 0, 0] rfl mix_batch np_jq (by kernel_rfl) ?_
      refine TD.run ft_batch_ok [1] rfl rfl ?_
      refine TD.q rfl .u (Ex.sSl (p := 21) (q := x17.length) (m := (x17.drop 21)) rfl Try.runUnderlying9 (.some rfl rfl) .none (by first | omega | (dsimp only; omega)) (sl_drop _ _)) rfl ?_
      refine TD.run ft_batch_ok [3, 7] rfl rfl ?_
      refine TD.q rfl .u (Ex.b1 0 rfl Try.isAgg3 rfl rfl) rfl ?_
      refine TD.br ?_ ?_
      · refine TD.cge rfl .u (.fn Try.call42 rfl) (f_crc_New_spec _ hx22) (fun _ hs => (RX.reads_triv _ _)) rfl [1, 1, 1, 1] ?_ ?_
        · rintro _ _ _ ⟨b23, rfl, rfl, rfl⟩
          rfl
        rintro _ _ _ ⟨b23, rfl, rfl, rfl⟩
        refine TD.sel [0, 0, 0, 0, 0] rfl ?_
        refine TD.lit (cells := #[.string (bsOf (x17.drop 21)), .string (bsOf x8)]) rfl .u sok_batch_154_2 rfl (by rfl) rfl [2, 2, 2, 2] (fun _ => rfl) (fun b25 => ?_)
        refine TD.rowOf (us := [.string (bsOf (x17.drop 21)), .string (bsOf x8)]) (xs := [(x17.drop 21), x8]) (E := strE) (z := 1) rfl (Nat.le_of_ble_eq_true rfl) (fun _ => ⟨rfl, rfl, ⟨rfl, rfl, rfl⟩⟩) ?_
        refine TD.c1 rfl .u (.fn Try.call43 rfl) (f_crc_TableSum_spec b23 st21 [(x17.drop 21), x8] _ _ _ hx28) (fun _ hs => (Src.res 0 rfl (fun w G h => own_reads (by decide) w G h))) rfl [2, 2, 2, 2] (rfl) ?_
        refine TD.q rfl .u (Ex.conv64 rfl Try.runUnderlying36 Try.runUnderlying3 c29) rfl ?_
        refine TD.run ft_batch_ok [9] rfl rfl ?_
        exact TD.nil (X.jn [0, 0, 0, 0, 0, 0] ⟨b23, b25, rfl, rfl⟩ (by rfl) (by rfl))
      · refine TD.lit (cells := #[.string (bsOf (x17.drop 21)), .string (bsOf x8)]) rfl .u sok_batch_154_2 rfl (by rfl) rfl [1, 1, 1, 1] (fun _ => rfl) (fun b25 => ?_)
        refine TD.rowOf (us := [.string (bsOf (x17.drop 21)), .string (bsOf x8)]) (xs := [(x17.drop 21), x8]) (E := strE) (z := 1) rfl (Nat.le_of_ble_eq_true rfl) (fun _ => ⟨rfl, rfl, ⟨rfl, rfl, rfl⟩⟩) ?_
        refine TD.cge rfl .u (.fn Try.call42 rfl) (f_crc_New_spec _ hx22) (fun _ hs => (RX.reads_triv _ _)) rfl [2, 2, 2, 2] ?_ ?_
        · rintro _ _ _ ⟨b23, rfl, rfl, rfl⟩
          rfl
        rintro _ _ _ ⟨b23, rfl, rfl, rfl⟩
        refine TD.sel [0, 0, 0, 0, 0, 0] rfl ?_
        refine TD.c0 rfl .u (.fn Try.call43 rfl) (f_crc_TableSum_spec b23 st21 [(x17.drop 21), x8] _ _ _ hx28) (fun _ hs => (Src.res 0 rfl (fun w G h => own_reads (by decide) w G h))) rfl [2, 2, 2, 2] (rfl) ?_
        refine TD.q rfl .u (Ex.conv64 rfl Try.runUnderlying36 Try.runUnderlying3 c29) rfl ?_
        refine TD.run ft_batch_ok [9] rfl rfl ?_
        exact TD.nil (X.jn [1, 0, 0, 0, 0, 0] ⟨b23, b25, rfl, rfl⟩ (by rfl) (by rfl))
    · rintro _ _ ⟨b23, b25, rfl, rfl⟩
      by_cases c30 : x26 = x3.fSum
      · replace h := ifT c30 h
        refine X.seq ?_
        refine T.no rfl (bn_f (decide_eq_true c30)) ?_
        refine T.skip (X.seq (T.seq (T.region rfl ?_)))
        refine TL.q rfl .u (Ex.bS (us := [.int .i64 x3.fBase, .int .i64 x3.fLength, .int .i64 x3.fLeader, .int .i64 x3.fSum, .int .i64 x3.fAttr, .int .i64 x3.fLast, .int .i64 x3.fFirst, .int .i64 x3.fMax, .int .i64 x3.fProducer, .int .i64 x3.fEpoch, .int .i64 x3.fSequence, .int .i64 x3.fCount]) 2 rfl Try.isAgg92 Try.sizeOf92 rfl rfl rfl) rfl ?_
        obtain ⟨⟨x31, x34⟩, hx35, h⟩ := Option.bind_eq_some_iff.1 h
        try dsimp only at h
        refine TL.run ft_batch_ok [1] rfl rfl ?_
        refine TL.cge rfl .u (.fn Try.call63 rfl) (f_batch_open_spec x3 x8 _ hx35) (fun _ hs => (RX.reads_triv _ _)) rfl ?_
        rintro _ _ _ ⟨A32, c33, rfl, rfl, rfl⟩
        refine TL.sel [0, 0, 0, 0, 0, 0, 0] rfl ?_
        refine TL.run ft_batch_ok [3, 4, 5] rfl rfl ?_
        refine TL.alloc rfl .u Try.zeroValue25 rfl (fun b36 => ?_)
        refine TL.st0 (cs' := #[.int .i64 x31.fBase, .int .i64 x31.fLeader, .bool x31.fAppend, .bool x31.fTxn, .bool x31.fControl, .int .i64 x31.fLast, .int .i64 x31.fFirst, .int .i64 x31.fMax, .int .i64 x31.fProducer, .int .i64 x31.fEpoch, .int .i64 x31.fSequence, .slice A32 x31.fRecords.length c33]) rfl .u rfl rfl Try.sizeOf25 rfl rfl rfl rfl ?_
        refine TL.run ft_batch_ok [8] rfl rfl ?_
        refine TL.nil (X.seq (T.seq (T.seq (T.region rfl ?_))))
        refine TL.run ft_batch_ok [0, 1] rfl rfl ?_
        by_cases c37 : x34 = 0
        · replace h := ifT c37 h
          refine TL.nil (X.seq ?_)
          refine T.no rfl (bn_f (decide_eq_true c37)) ?_
          refine T.skip (X.seq (T.seq (T.region rfl ?_)))
          refine TL.q rfl .u (Ex.bS (us := [.int .i64 x31.fBase, .int .i64 x31.fLeader, .bool x31.fAppend, .bool x31.fTxn, .bool x31.fControl, .int .i64 x31.fLast, .int .i64 x31.fFirst, .int .i64 x31.fMax, .int .i64 x31.fProducer, .int .i64 x31.fEpoch, .int .i64 x31.fSequence, .slice A32 x31.fRecords.length c33]) 0 rfl Try.isAgg25 Try.sizeOf25 rfl rfl rfl) rfl ?_
          refine TL.st6 (cs' := #[.int .i64 x31.fBase, .int .i64 x31.fLeader, .bool x31.fAppend, .bool x31.fTxn, .bool x31.fControl, .int .i64 x31.fLast, .int .i64 x31.fFirst, .int .i64 x31.fMax, .int .i64 x31.fProducer, .int .i64 x31.fEpoch, .int .i64 x31.fSequence, .slice A32 x31.fRecords.length c33]) rfl .u rfl rfl Try.sizeOf25 rfl rfl rfl rfl ?_
          obtain rfl := Option.some.inj h
          exact TL.nil (X.seq (T.ret (X.done1 [7, 1] Try.results21 (RV.cS (us := #[.int .i64 x31.fBase, .int .i64 x31.fLeader, .bool x31.fAppend, .bool x31.fTxn, .bool x31.fControl, .int .i64 x31.fLast, .int .i64 x31.fFirst, .int .i64 x31.fMax, .int .i64 x31.fProducer, .int .i64 x31.fEpoch, .int .i64 x31.fSequence, .slice A32 x31.fRecords.length c33]) 6 rfl Try.isAgg25 Try.sizeOf25 rfl rfl) ⟨_, _, rfl, rfl, rfl⟩ (by rfl) (.inl rfl))))
        · replace h := ifF c37 h
          refine TL.nil (X.seq ?_)
          refine T.yes rfl (bn_t (decide_eq_false c37)) ?_
          refine T.seq (T.region rfl ?_)
          obtain ⟨st38, hx39, h⟩ := Option.bind_eq_some_iff.1 h
          refine TL.run ft_batch_ok [0, 1] rfl rfl ?_
          refine TL.c7 rfl .u (.fn Try.call62 rfl) (gIFail_spec g st12 x34 _ hx39) (fun _ hs => (Src.triv _)) rfl ?_
          refine TL.nil (X.seq (T.seq (T.region rfl ?_)))
          refine TL.q rfl .u (Ex.bld (cells := #[.int .i64 0, .int .i64 0, .bool false, .bool false, .bool false, .int .i64 0, .int .i64 0, .int .i64 0, .int .i64 0, .int .i64 0, .int .i64 0, .slice none 0 0]) bok_batch_25 rfl (by kernel_rfl)) rfl ?_
          refine TL.st6 (cs' := #[.int .i64 0, .int .i64 0, .bool false, .bool false, .bool false, .int .i64 0, .int .i64 0, .int .i64 0, .int .i64 0, .int .i64 0, .int .i64 0, .slice none 0 0]) rfl .u rfl rfl Try.sizeOf25 rfl rfl rfl rfl ?_
          obtain rfl := Option.some.inj h
          refine TL.nil (X.seq (T.ret (X.rs ?_)))
          refine X.nilrd 7 Rec_rd ?_
          exact X.done1 [8, 0] Try.results21 (RV.cS (us := #[.int .i64 0, .int .i64 0, .bool false, .bool false, .bool false, .int .i64 0, .int .i64 0, .int .i64 0, .int .i64 0, .int .i64 0, .int .i64 0, .slice none 0 0]) 7 rfl Try.isAgg25 Try.sizeOf25 rfl rfl) ⟨_, _, rfl, rfl, rfl⟩ (by rfl) (.inl rfl)
      · replace h := ifF c30 h
        refine X.seq ?_
        refine T.yes rfl (bn_t (decide_eq_false c30)) ?_
        refine T.seq (T.region rfl ?_)
        obtain ⟨st40, hx41, h⟩ := Option.bind_eq_some_iff.1 h
        refine TL.run ft_batch_ok [0] rfl rfl ?_
        refine TL.c5 rfl .u (.fn Try.call62 rfl) (gIFail_spec g st12 5 _ hx41) (fun _ hs => (Src.triv _)) rfl ?_
        refine TL.nil (X.seq (T.seq (T.region rfl ?_)))
        refine TL.q rfl .u (Ex.bld (cells := #[.int .i64 0, .int .i64 0, .bool false, .bool false, .bool false, .int .i64 0, .int .i64 0, .int .i64 0, .int .i64 0, .int .i64 0, .int .i64 0, .slice none 0 0]) bok_batch_25 rfl (by kernel_rfl)) rfl ?_
        refine TL.st4 (cs' := #[.int .i64 0, .int .i64 0, .bool false, .bool false, .bool false, .int .i64 0, .int .i64 0, .int .i64 0, .int .i64 0, .int .i64 0, .int .i64 0, .slice none 0 0]) rfl .u rfl rfl Try.sizeOf25 rfl rfl rfl rfl ?_
        obtain rfl := Option.some.inj h
        refine TL.nil (X.seq (T.ret (X.rs ?_)))
        refine X.nilrd 7 Rec_rd ?_
        exact X.done1 [6, 0] Try.results21 (RV.cS (us := #[.int .i64 0, .int .i64 0, .bool false, .bool false, .bool false, .int .i64 0, .int .i64 0, .int .i64 0, .int .i64 0, .int .i64 0, .int .i64 0, .slice none 0 0]) 5 rfl Try.isAgg25 Try.sizeOf25 rfl rfl) ⟨_, _, rfl, rfl, rfl⟩ (by rfl) (.inl rfl)
  · replace h := ifF c14 h
    refine TL.nil (X.seq ?_)
    refine T.yes rfl (bn_t (decide_eq_false c14)) ?_
    refine T.seq (T.region rfl ?_)
    refine TL.q rfl .u (Ex.bld (cells := #[.int .i64 0, .int .i64 0, .bool false, .bool false, .bool false, .int .i64 0, .int .i64 0, .int .i64 0, .int .i64 0, .int .i64 0, .int .i64 0, .slice none 0 0]) bok_batch_25 rfl (by kernel_rfl)) rfl ?_
    refine TL.st2 (cs' := #[.int .i64 0, .int .i64 0, .bool false, .bool false, .bool false, .int .i64 0, .int .i64 0, .int .i64 0, .int .i64 0, .int .i64 0, .int .i64 0, .slice none 0 0]) rfl .u rfl rfl Try.sizeOf25 rfl rfl rfl rfl ?_
    obtain rfl := Option.some.inj h
    refine TL.nil (X.seq (T.ret (X.rs ?_)))
    refine X.nilrd 7 Rec_rd ?_
    exact X.done1 [4, 0] Try.results21 (RV.cS (us := #[.int .i64 0, .int .i64 0, .bool false, .bool false, .bool false, .int .i64 0, .int .i64 0, .int .i64 0, .int .i64 0, .int .i64 0, .int .i64 0, .slice none 0 0]) 3 rfl Try.isAgg25 Try.sizeOf25 rfl rfl) ⟨_, _, rfl, rfl, rfl⟩ (by rfl) (.inl rfl)
def f_batch_Encode_l1 : List Rec → (List UInt8 × Int) → Option (List UInt8 × Int)
  | [], st9 => some st9
  | x14 :: xs, st9 => (f_record_Write st9 x14).bind fun st22 => f_batch_Encode_l1 xs st22
def f_batch_Encode (a0 : Bat) : Option (List UInt8 × Int) := (f_batch_Check a0).bind fun x4 => if x4 = 0 then ((f_batch_Encode_l1 a0.fRecords ([], 0)).bind fun st25 => (gOText st25).bind fun (x26, x27, st28) => if -9223372036854775808 ≤ (49 + (x26.length : Int)) ∧ (49 + (x26.length : Int)) ≤ 9223372036854775807 then ((gAOf a0).bind fun x31 => (f_prefix_Write ([], 0) (⟨a0.fBase, (49 + (x26.length : Int)), a0.fLeader, 0, x31, a0.fLast, a0.fFirst, a0.fMax, a0.fProducer, a0.fEpoch, a0.fSequence, (a0.fRecords.length : Int)⟩ : Pfx)).bind fun st35 => (gOText st35).bind fun (x37, x38, st39) => (if x27 = 0 then (if x38 = 0 then some false else some true) else some true).bind fun y42 => if y42 = true then some ([], 11) else ((f_crc_New).bind fun st47 => if 21 ≤ x37.length then ((f_crc_TableSum st47 [(x37.drop 21), x26]).bind fun (x52, st53) => if -9223372036854775808 ≤ x52 ∧ x52 ≤ 9223372036854775807 then ((f_prefix_Write ([], 0) (⟨a0.fBase, (49 + (x26.length : Int)), a0.fLeader, x52, x31, a0.fLast, a0.fFirst, a0.fMax, a0.fProducer, a0.fEpoch, a0.fSequence, (a0.fRecords.length : Int)⟩ : Pfx)).bind fun st56 => (gOPut st56 x26).bind fun st58 => (gOText st58).bind fun (x60, x61, st62) => some (x60, x61)) else none) else none)) else none) else some ([], x4)
set_option maxRecDepth 100000 in
set_option maxHeartbeats 4000000 in
theorem f_batch_Encode_spec (a0 : Bat) (A1 : Option Addr) (c2 : Nat) (r : List UInt8 × Int) (h : f_batch_Encode a0 = some r) : SpecX Try.prog 14 #[.agg #[.int .i64 a0.fBase, .int .i64 a0.fLeader, .bool a0.fAppend, .bool a0.fTxn, .bool a0.fControl, .int .i64 a0.fLast, .int .i64 a0.fFirst, .int .i64 a0.fMax, .int .i64 a0.fProducer, .int .i64 a0.fEpoch, .int .i64 a0.fSequence, .slice A1 a0.fRecords.length c2]] (RX.of (sliceRd 7 Rec_rd) [.slice A1 a0.fRecords.length c2] a0.fRecords) (EmpR) (fun v A' N => v = .tuple #[.string (bsOf r.1), .int .i64 r.2] ∧ A' = EmpR ∧ N = []) := by
  refine enterA Try.func14 rfl Try.ntmps14 rfl ?_
  intro F w hX
  unfold f_batch_Encode at h
  refine T.seq (T.region rfl ?_)
  refine TL.box rfl .u rfl rfl (fun b3 => ?_)
  refine TL.run ft_batch_ok [1, 2] rfl rfl ?_
  refine TL.nil (X.seq (T.seq (T.seq (T.region rfl ?_))))
  refine TL.q rfl .u (Ex.bS (us := [.int .i64 a0.fBase, .int .i64 a0.fLeader, .bool a0.fAppend, .bool a0.fTxn, .bool a0.fControl, .int .i64 a0.fLast, .int .i64 a0.fFirst, .int .i64 a0.fMax, .int .i64 a0.fProducer, .int .i64 a0.fEpoch, .int .i64 a0.fSequence, .slice A1 a0.fRecords.length c2]) 0 rfl Try.isAgg25 Try.sizeOf25 rfl rfl rfl) rfl ?_
  obtain ⟨x4, hx5, h⟩ := Option.bind_eq_some_iff.1 h
  refine TL.ce rfl .u (.fn Try.call15 rfl) (f_batch_Check_spec a0 _ _ _ hx5) (fun _ hs => (SrcE.old hs hX)) rfl ?_
  refine TL.run ft_batch_ok [2] rfl rfl ?_
  refine TL.nil (X.seq (T.seq (T.region rfl ?_)))
  refine TL.run ft_batch_ok [0, 1] rfl rfl ?_
  by_cases c6 : x4 = 0
  · replace h := ifT c6 h
    refine TL.nil (X.seq ?_)
    refine T.no rfl (bn_f (decide_eq_true c6)) ?_
    refine T.skip (X.seq (T.seq (T.region rfl ?_)))
    refine TL.newout rfl .u Try.zeroValue87 rfl (fun b7 => ?_)
    refine TL.nil (X.seq (T.seq (T.seq (T.region rfl ?_))))
    refine TL.run ft_batch_ok [0] rfl rfl ?_
    refine TL.q rfl .u (Ex.b1 1 rfl Try.isAgg23 rfl rfl) rfl ?_
    refine TL.q rfl .u (Ex.lenS rfl Try.runUnderlying23) rfl ?_
    refine TL.run ft_batch_ok [3] rfl rfl ?_
    refine TL.nil (X.seq (T.block ?_))
    obtain ⟨E10, hE11, hO12⟩ := Option.bind_eq_some_iff.1 h
    have hk16len := RX.len_le hX
    refine T.lp (fun m e Rs => ∃ (k8 : Nat) (st9 : List UInt8 × Int), k8 + m = a0.fRecords.length ∧ e = [(1, .pointer (some ⟨b3, 0, none⟩)), (2, .string ⟨#[]⟩), (3, .int .i64 0), (5, .pointer (some ⟨b7, 0, none⟩)), (20, .slice A1 a0.fRecords.length c2), (21, .int .i64 (a0.fRecords.length : Int)), (22, .int .i64 (k8 : Int))] ∧ Rs = [OutR b7 st9, BlkR b3 25 #[.int .i64 a0.fBase, .int .i64 a0.fLeader, .bool a0.fAppend, .bool a0.fTxn, .bool a0.fControl, .int .i64 a0.fLast, .int .i64 a0.fFirst, .int .i64 a0.fMax, .int .i64 a0.fProducer, .int .i64 a0.fEpoch, .int .i64 a0.fSequence, .slice A1 a0.fRecords.length c2], EmpR] ∧ f_batch_Encode_l1 (a0.fRecords.drop k8) st9 = some E10) (a0.fRecords.length) [0, 0, 0] ⟨0, ([], 0), by simp, rfl, rfl, by rw [List.drop_zero]; exact hE11⟩ (by rfl) (by rfl) ?_
    rintro m13 _ _ ⟨k8, st9, hk16, rfl, rfl, hl15⟩
    clear hE11 h
    cases m13 with
    | zero =>
      have h := hl15
      clear hl15
      rw [List.drop_of_length_le (by omega), f_batch_Encode_l1] at h
      have hk16ge : ¬ ((k8 : Int) < (a0.fRecords.length : Int)) := by omega
      refine T.seq (T.region rfl ?_)
      refine TL.run ft_batch_ok [0] rfl rfl ?_
      refine TL.nil (X.seq (T.seq ?_))
      refine T.no rfl (decide_eq_false hk16ge) ?_
      obtain rfl := Option.some.inj h
      replace h := hO12
      clear hO12
      try dsimp only at h
      obtain ⟨⟨x64, x65, st66⟩, hx67, h⟩ := Option.bind_eq_some_iff.1 h
      try dsimp only at h
      refine T.exit (X.exs (X.exs (X.ex (X.seq (T.seq (T.region rfl ?_))))))
      refine TL.c0 rfl .u (.fn Try.call39 rfl) (gOText_spec b7 st9 _ hx67) (fun _ hs => (Src.triv _)) rfl ?_
      refine TL.run ft_batch_ok [1, 2, 3, 4, 5] rfl rfl ?_
      replace h := guard_some h
      obtain ⟨c68, h⟩ := h
      obtain ⟨x69, hx70, h⟩ := Option.bind_eq_some_iff.1 h
      refine TL.nil (X.seq (T.seq ?_))
      refine T.join (fun e Rs => ∃ (b71 : Nat), e = [(1, .pointer (some ⟨b3, 0, none⟩)), (2, .string ⟨#[]⟩), (3, .int .i64 0), (5, .pointer (some ⟨b7, 0, none⟩)), (8, .string (bsOf x64)), (9, .int .i64 x65), (10, .pointer (some ⟨b71, 0, none⟩)), (20, .slice A1 a0.fRecords.length c2), (21, .int .i64 (a0.fRecords.length : Int)), (22, .int .i64 (k8 : Int)), (23, .bool (decide ((k8 : Int) < (a0.fRecords.length : Int)))), (29, .tuple #[.string (bsOf x64), .int .i64 x65]), (30, .tuple #[.string (bsOf x64), .int .i64 x65]), (31, .string (bsOf x64)), (32, .int .i64 x65)] ∧ Rs = [BlkR b71 92 #[.int .i64 a0.fBase, .int .i64 (49 + (x64.length : Int)), .int .i64 a0.fLeader, .int .i64 0, .int .i64 x69, .int .i64 a0.fLast, .int .i64 a0.fFirst, .int .i64 a0.fMax, .int .i64 a0.fProducer, .int .i64 a0.fEpoch, .int .i64 a0.fSequence, .int .i64 (a0.fRecords.length : Int)], OutR b7 st66, BlkR b3 25 #[.int .i64 a0.fBase, .int .i64 a0.fLeader, .bool a0.fAppend, .bool a0.fTxn, .bool a0.fControl, .int .i64 a0.fLast, .int .i64 a0.fFirst, .int .i64 a0.fMax, .int .i64 a0.fProducer, .int .i64 a0.fEpoch, .int .i64 a0.fSequence, .slice A1 a0.fRecords.length c2], EmpR]) ?_ ?_
      · refine T.draw (.q 0 (.q 1 (.q 2 (.q 3 (.q 4 (.q 5 (.q 6 (.q 7 (.q 9 (.q 10 (.q 11 (.q 12 (.q 13 (.q 14 (.q 15 (.q 16 (.q 17 (.q 18 (.q 19 (.q 20 (.q 21 (.q 22 (.q 23 (.br 8 (.q 24 (.e 25 (.e 26 .nil))) (.e 25 (.e 8 (.q 24 (.e 26 .nil)))))))))))))))))))))))))))) [0, 0, 0] rfl mix_batch np_jq (by kernel_rfl) ?_
        refine TD.run ft_batch_ok [0] rfl rfl ?_
        refine TD.q rfl .u (Ex.b1 1 rfl Try.isAgg3 rfl rfl) rfl ?_
        refine TD.run ft_batch_ok [2] rfl rfl ?_
        refine TD.q rfl .u (Ex.lenB rfl Try.runUnderlying9) rfl ?_
        refine TD.q rfl .u (Ex.add rfl rfl c68) rfl ?_
        refine TD.run ft_batch_ok [5] rfl rfl ?_
        refine TD.q rfl .u (Ex.b1 1 rfl Try.isAgg3 rfl rfl) rfl ?_
        refine TD.q rfl .u (Ex.bS (us := [.int .i64 a0.fBase, .int .i64 a0.fLeader, .bool a0.fAppend, .bool a0.fTxn, .bool a0.fControl, .int .i64 a0.fLast, .int .i64 a0.fFirst, .int .i64 a0.fMax, .int .i64 a0.fProducer, .int .i64 a0.fEpoch, .int .i64 a0.fSequence, .slice A1 a0.fRecords.length c2]) 1 rfl Try.isAgg25 Try.sizeOf25 rfl rfl rfl) rfl ?_
        refine TD.run ft_batch_ok [9] rfl rfl ?_
        refine TD.q rfl .u (Ex.b1 1 rfl Try.isAgg3 rfl rfl) rfl ?_
        refine TD.run ft_batch_ok [11] rfl rfl ?_
        refine TD.q rfl .u (Ex.b1 1 rfl Try.isAgg3 rfl rfl) rfl ?_
        refine TD.run ft_batch_ok [13] rfl rfl ?_
        refine TD.q rfl .u (Ex.b1 1 rfl Try.isAgg3 rfl rfl) rfl ?_
        refine TD.run ft_batch_ok [15] rfl rfl ?_
        refine TD.q rfl .u (Ex.b1 1 rfl Try.isAgg3 rfl rfl) rfl ?_
        refine TD.run ft_batch_ok [17] rfl rfl ?_
        refine TD.q rfl .u (Ex.b1 1 rfl Try.isAgg3 rfl rfl) rfl ?_
        refine TD.run ft_batch_ok [19] rfl rfl ?_
        refine TD.q rfl .u (Ex.b1 1 rfl Try.isAgg3 rfl rfl) rfl ?_
        refine TD.run ft_batch_ok [21] rfl rfl ?_
        refine TD.q rfl .u (Ex.b1 1 rfl Try.isAgg23 rfl rfl) rfl ?_
        refine TD.q rfl .u (Ex.lenS rfl Try.runUnderlying23) rfl ?_
        refine TD.br ?_ ?_
        · refine TD.ce rfl .u (.fn Try.call40 rfl) (gAOf_spec a0 _ _ _ hx70) (fun _ hs => (SrcE.old hs hX)) rfl [0, 0, 0] (rfl) ?_
          refine TD.q rfl .u (Ex.bld (cells := #[.int .i64 a0.fBase, .int .i64 (49 + (x64.length : Int)), .int .i64 a0.fLeader, .int .i64 0, .int .i64 x69, .int .i64 a0.fLast, .int .i64 a0.fFirst, .int .i64 a0.fMax, .int .i64 a0.fProducer, .int .i64 a0.fEpoch, .int .i64 a0.fSequence, .int .i64 (a0.fRecords.length : Int)]) bok_batch_92 rfl (by kernel_rfl)) rfl ?_
          refine TD.alloc rfl .u Try.zeroValue92 rfl [1, 1, 1] (fun _ => rfl) (fun b71 => ?_)
          refine TD.st0 (cs' := #[.int .i64 a0.fBase, .int .i64 (49 + (x64.length : Int)), .int .i64 a0.fLeader, .int .i64 0, .int .i64 x69, .int .i64 a0.fLast, .int .i64 a0.fFirst, .int .i64 a0.fMax, .int .i64 a0.fProducer, .int .i64 a0.fEpoch, .int .i64 a0.fSequence, .int .i64 (a0.fRecords.length : Int)]) rfl .u rfl rfl Try.sizeOf92 rfl rfl rfl rfl [1, 1, 1] (rfl) ?_
          exact TD.nil (X.jn [0, 0, 0, 0] ⟨b71, rfl, rfl⟩ (by rfl) (by rfl))
        · refine TD.alloc rfl .u Try.zeroValue92 rfl [1, 1, 1] (fun _ => rfl) (fun b71 => ?_)
          refine TD.ce rfl .u (.fn Try.call40 rfl) (gAOf_spec a0 _ _ _ hx70) (fun _ hs => (SrcE.old hs hX)) rfl [1, 1, 1] (rfl) ?_
          refine TD.q rfl .u (Ex.bld (cells := #[.int .i64 a0.fBase, .int .i64 (49 + (x64.length : Int)), .int .i64 a0.fLeader, .int .i64 0, .int .i64 x69, .int .i64 a0.fLast, .int .i64 a0.fFirst, .int .i64 a0.fMax, .int .i64 a0.fProducer, .int .i64 a0.fEpoch, .int .i64 a0.fSequence, .int .i64 (a0.fRecords.length : Int)]) bok_batch_92 rfl (by kernel_rfl)) rfl ?_
          refine TD.st0 (cs' := #[.int .i64 a0.fBase, .int .i64 (49 + (x64.length : Int)), .int .i64 a0.fLeader, .int .i64 0, .int .i64 x69, .int .i64 a0.fLast, .int .i64 a0.fFirst, .int .i64 a0.fMax, .int .i64 a0.fProducer, .int .i64 a0.fEpoch, .int .i64 a0.fSequence, .int .i64 (a0.fRecords.length : Int)]) rfl .u rfl rfl Try.sizeOf92 rfl rfl rfl rfl [1, 1, 1] (rfl) ?_
          exact TD.nil (X.jn [0, 0, 0, 0] ⟨b71, rfl, rfl⟩ (by rfl) (by rfl))
      · rintro _ _ ⟨b71, rfl, rfl⟩
        refine X.seq (T.seq (T.region rfl ?_))
        refine TL.newout rfl .u Try.zeroValue87 rfl (fun b72 => ?_)
        refine TL.nil (X.seq (T.seq (T.region rfl ?_)))
        refine TL.q rfl .u (Ex.bS (us := [.int .i64 a0.fBase, .int .i64 (49 + (x64.length : Int)), .int .i64 a0.fLeader, .int .i64 0, .int .i64 x69, .int .i64 a0.fLast, .int .i64 a0.fFirst, .int .i64 a0.fMax, .int .i64 a0.fProducer, .int .i64 a0.fEpoch, .int .i64 a0.fSequence, .int .i64 (a0.fRecords.length : Int)]) 1 rfl Try.isAgg92 Try.sizeOf92 rfl rfl rfl) rfl ?_
        obtain ⟨st73, hx74, h⟩ := Option.bind_eq_some_iff.1 h
        refine TL.c0 rfl .u (.fn Try.call41 rfl) (f_prefix_Write_spec b72 ([], 0) (⟨a0.fBase, (49 + (x64.length : Int)), a0.fLeader, 0, x69, a0.fLast, a0.fFirst, a0.fMax, a0.fProducer, a0.fEpoch, a0.fSequence, (a0.fRecords.length : Int)⟩ : Pfx) _ hx74) (fun _ hs => (Src.triv _)) rfl ?_
        obtain ⟨⟨x75, x76, st77⟩, hx78, h⟩ := Option.bind_eq_some_iff.1 h
        try dsimp only at h
        refine TL.nil (X.seq (T.seq (T.region rfl ?_)))
        refine TL.c0 rfl .u (.fn Try.call39 rfl) (gOText_spec b72 st73 _ hx78) (fun _ hs => (Src.triv _)) rfl ?_
        refine TL.run ft_batch_ok [1, 2, 3, 4, 5] rfl rfl ?_
        refine TL.nil (X.seq (T.seq (T.seq ?_)))
        obtain ⟨y80, h, hk81⟩ := Option.bind_eq_some_iff.1 h
        refine T.jq (fun e Rs => e = [(2, .string ⟨#[]⟩), (3, .int .i64 0), (8, .string (bsOf x64)), (10, .pointer (some ⟨b71, 0, none⟩)), (11, .pointer (some ⟨b72, 0, none⟩)), (12, .string (bsOf x75)), (69, .bool y80)] ∧ Rs = [OutR b72 st77, BlkR b71 92 #[.int .i64 a0.fBase, .int .i64 (49 + (x64.length : Int)), .int .i64 a0.fLeader, .int .i64 0, .int .i64 x69, .int .i64 a0.fLast, .int .i64 a0.fFirst, .int .i64 a0.fMax, .int .i64 a0.fProducer, .int .i64 a0.fEpoch, .int .i64 a0.fSequence, .int .i64 (a0.fRecords.length : Int)], OutR b7 st66, BlkR b3 25 #[.int .i64 a0.fBase, .int .i64 a0.fLeader, .bool a0.fAppend, .bool a0.fTxn, .bool a0.fControl, .int .i64 a0.fLast, .int .i64 a0.fFirst, .int .i64 a0.fMax, .int .i64 a0.fProducer, .int .i64 a0.fEpoch, .int .i64 a0.fSequence, .slice A1 a0.fRecords.length c2], EmpR]) ?_ ?_
        · clear hk81
          refine T.region rfl ?_
          by_cases c82 : x65 = 0
          · replace h := ifT c82 h
            refine TL.run ft_batch_ok [0, 1, 2] rfl rfl ?_
            refine TL.q rfl (.g rfl rfl (bn_f (decide_eq_true c82))) (Ex.ft ft_batch_ok rfl) rfl ?_
            refine TL.q rfl (.g rfl rfl (bn_f (decide_eq_true c82))) (Ex.ft ft_batch_ok rfl) rfl ?_
            refine TL.q rfl .u (Ex.pn rfl (bn_f (decide_eq_true c82)) rfl) rfl ?_
            by_cases c83 : x76 = 0
            · replace h := ifT c83 h
              cases h
              exact TL.nil (X.as (d := 69) (v' := .bool false) rfl (congrArg Value.bool (bn_f (decide_eq_true c83))) (X.jq [0, 0, 0, 0, 0] ⟨rfl, rfl⟩ (by rfl) (by rfl)))
            · replace h := ifF c83 h
              cases h
              exact TL.nil (X.as (d := 69) (v' := .bool true) rfl (congrArg Value.bool (bn_t (decide_eq_false c83))) (X.jq [0, 0, 0, 0, 0] ⟨rfl, rfl⟩ (by rfl) (by rfl)))
          · replace h := ifF c82 h
            refine TL.run ft_batch_ok [0, 1, 2] rfl rfl ?_
            refine TL.no rfl (.gn rfl rfl (bn_t (decide_eq_false c82))) rfl ?_
            refine TL.no rfl (.gn rfl rfl (bn_t (decide_eq_false c82))) rfl ?_
            refine TL.q rfl .u (Ex.py rfl (bn_t (decide_eq_false c82)) rfl) rfl ?_
            cases h
            exact TL.nil (X.jq [0, 0, 0, 0, 0] ⟨rfl, rfl⟩ (by rfl) (by rfl))
        · rintro _ _ ⟨rfl, rfl⟩
          clear h
          have h := hk81
          clear hk81
          try dsimp only at h
          by_cases c84 : y80 = true
          · replace h := ifT c84 h
            refine X.seq ?_
            refine T.yes rfl c84 ?_
            refine T.seq (T.region rfl ?_)
            refine TL.run ft_batch_ok [0, 1] rfl rfl ?_
            obtain rfl := Option.some.inj h
            exact TL.nil (X.seq (T.ret (X.rs (X.done2 [4] Try.results14 (RV.tm rfl) (RV.tm rfl) ⟨rfl, rfl, rfl⟩ (by rfl) (.inl rfl)))))
          · replace h := ifF c84 h
            replace c84 := eq_false_of_ne_true c84
            refine X.seq ?_
            refine T.no rfl c84 ?_
            obtain ⟨st85, hx86, h⟩ := Option.bind_eq_some_iff.1 h
            replace h := guard_some h
            obtain ⟨c88, h⟩ := h
            obtain ⟨⟨x90, st91⟩, hx92, h⟩ := Option.bind_eq_some_iff.1 h
            try dsimp only at h
            replace h := guard_some h
            obtain ⟨c93, h⟩ := h
            refine T.skip (X.seq (T.seq ?_))
            refine T.join (fun e Rs => ∃ (b87 : Nat) (b89 : Nat), e = [(2, .string ⟨#[]⟩), (3, .int .i64 0), (8, .string (bsOf x64)), (10, .pointer (some ⟨b71, 0, none⟩)), (11, .pointer (some ⟨b72, 0, none⟩)), (69, .bool y80)] ∧ Rs = [OwnR 9 1 strE (.slice (some ⟨b89, 0, none⟩) 2 2) [(x75.drop 21), x64], TabR 152 b87 st91, OutR b72 st77, BlkR b71 92 #[.int .i64 a0.fBase, .int .i64 (49 + (x64.length : Int)), .int .i64 a0.fLeader, .int .i64 x90, .int .i64 x69, .int .i64 a0.fLast, .int .i64 a0.fFirst, .int .i64 a0.fMax, .int .i64 a0.fProducer, .int .i64 a0.fEpoch, .int .i64 a0.fSequence, .int .i64 (a0.fRecords.length : Int)], OutR b7 st66, BlkR b3 25 #[.int .i64 a0.fBase, .int .i64 a0.fLeader, .bool a0.fAppend, .bool a0.fTxn, .bool a0.fControl, .int .i64 a0.fLast, .int .i64 a0.fFirst, .int .i64 a0.fMax, .int .i64 a0.fProducer, .int .i64 a0.fEpoch, .int .i64 a0.fSequence, .slice A1 a0.fRecords.length c2], EmpR]) ?_ ?_
            · refine T.draw (.q 1 (.q 2 (.q 3 (.br 0 (.e 4 (.e 5 (.q 6 (.q 7 (.e 8 .nil))))) (.e 4 (.e 0 (.e 5 (.q 6 (.q 7 (.e 8 .nil)))))))))) [0, 1, 1, 1] rfl mix_batch np_jq (by kernel_rfl) ?_
              refine TD.run ft_batch_ok [1] rfl rfl ?_
              refine TD.q rfl .u (Ex.sSl (p := 21) (q := x75.length) (m := (x75.drop 21)) rfl Try.runUnderlying9 (.some rfl rfl) .none (by first | omega | (dsimp only; omega)) (sl_drop _ _)) rfl ?_
              refine TD.run ft_batch_ok [3] rfl rfl ?_
              refine TD.br ?_ ?_
              · refine TD.cge rfl .u (.fn Try.call42 rfl) (f_crc_New_spec _ hx86) (fun _ hs => (RX.reads_triv _ _)) rfl [1, 2, 2, 2] ?_ ?_
                · rintro _ _ _ ⟨b87, rfl, rfl, rfl⟩
                  rfl
                rintro _ _ _ ⟨b87, rfl, rfl, rfl⟩
                refine TD.sel [0, 0, 0, 0, 0, 0] rfl ?_
                refine TD.lit (cells := #[.string (bsOf (x75.drop 21)), .string (bsOf x64)]) rfl .u sok_batch_154_2 rfl (by rfl) rfl [2, 3, 3, 3] (fun _ => rfl) (fun b89 => ?_)
                refine TD.rowOf (us := [.string (bsOf (x75.drop 21)), .string (bsOf x64)]) (xs := [(x75.drop 21), x64]) (E := strE) (z := 1) rfl (Nat.le_of_ble_eq_true rfl) (fun _ => ⟨rfl, rfl, ⟨rfl, rfl, rfl⟩⟩) ?_
                refine TD.c1 rfl .u (.fn Try.call43 rfl) (f_crc_TableSum_spec b87 st85 [(x75.drop 21), x64] _ _ _ hx92) (fun _ hs => (Src.res 0 rfl (fun w G h => own_reads (by decide) w G h))) rfl [2, 3, 3, 3] (rfl) ?_
                refine TD.q rfl .u (Ex.conv64 rfl Try.runUnderlying36 Try.runUnderlying3 c93) rfl ?_
                refine TD.run ft_batch_ok [7] rfl rfl ?_
                refine TD.st3 (cs' := #[.int .i64 a0.fBase, .int .i64 (49 + (x64.length : Int)), .int .i64 a0.fLeader, .int .i64 x90, .int .i64 x69, .int .i64 a0.fLast, .int .i64 a0.fFirst, .int .i64 a0.fMax, .int .i64 a0.fProducer, .int .i64 a0.fEpoch, .int .i64 a0.fSequence, .int .i64 (a0.fRecords.length : Int)]) rfl .u rfl rfl Try.sizeOf3 rfl rfl rfl rfl [2, 3, 3, 3] (rfl) ?_
                exact TD.nil (X.jn [0, 0, 0, 0, 0, 0, 0] ⟨b87, b89, rfl, rfl⟩ (by rfl) (by rfl))
              · refine TD.lit (cells := #[.string (bsOf (x75.drop 21)), .string (bsOf x64)]) rfl .u sok_batch_154_2 rfl (by rfl) rfl [1, 2, 2, 2] (fun _ => rfl) (fun b89 => ?_)
                refine TD.rowOf (us := [.string (bsOf (x75.drop 21)), .string (bsOf x64)]) (xs := [(x75.drop 21), x64]) (E := strE) (z := 1) rfl (Nat.le_of_ble_eq_true rfl) (fun _ => ⟨rfl, rfl, ⟨rfl, rfl, rfl⟩⟩) ?_
                refine TD.cge rfl .u (.fn Try.call42 rfl) (f_crc_New_spec _ hx86) (fun _ hs => (RX.reads_triv _ _)) rfl [2, 3, 3, 3] ?_ ?_
                · rintro _ _ _ ⟨b87, rfl, rfl, rfl⟩
                  rfl
                rintro _ _ _ ⟨b87, rfl, rfl, rfl⟩
                refine TD.sel [0, 0, 0, 0, 0, 0, 0] rfl ?_
                refine TD.c0 rfl .u (.fn Try.call43 rfl) (f_crc_TableSum_spec b87 st85 [(x75.drop 21), x64] _ _ _ hx92) (fun _ hs => (Src.res 0 rfl (fun w G h => own_reads (by decide) w G h))) rfl [2, 3, 3, 3] (rfl) ?_
                refine TD.q rfl .u (Ex.conv64 rfl Try.runUnderlying36 Try.runUnderlying3 c93) rfl ?_
                refine TD.run ft_batch_ok [7] rfl rfl ?_
                refine TD.st3 (cs' := #[.int .i64 a0.fBase, .int .i64 (49 + (x64.length : Int)), .int .i64 a0.fLeader, .int .i64 x90, .int .i64 x69, .int .i64 a0.fLast, .int .i64 a0.fFirst, .int .i64 a0.fMax, .int .i64 a0.fProducer, .int .i64 a0.fEpoch, .int .i64 a0.fSequence, .int .i64 (a0.fRecords.length : Int)]) rfl .u rfl rfl Try.sizeOf3 rfl rfl rfl rfl [2, 3, 3, 3] (rfl) ?_
                exact TD.nil (X.jn [1, 0, 0, 0, 0, 0, 0] ⟨b87, b89, rfl, rfl⟩ (by rfl) (by rfl))
            · rintro _ _ ⟨b87, b89, rfl, rfl⟩
              refine X.seq (T.seq (T.region rfl ?_))
              refine TL.q rfl .u (Ex.bld (cells := #[.slice none 0 0, .int .i64 0]) bok_batch_87 rfl (by kernel_rfl)) rfl ?_
              refine TL.outZ 2 rfl .u rfl rfl Try.sizeOf87 rfl ?_
              refine TL.sel [0, 0, 0, 0, 0, 0, 0] rfl ?_
              refine TL.nil (X.seq (T.seq (T.region rfl ?_)))
              refine TL.q rfl .u (Ex.bS (us := [.int .i64 a0.fBase, .int .i64 (49 + (x64.length : Int)), .int .i64 a0.fLeader, .int .i64 x90, .int .i64 x69, .int .i64 a0.fLast, .int .i64 a0.fFirst, .int .i64 a0.fMax, .int .i64 a0.fProducer, .int .i64 a0.fEpoch, .int .i64 a0.fSequence, .int .i64 (a0.fRecords.length : Int)]) 3 rfl Try.isAgg92 Try.sizeOf92 rfl rfl rfl) rfl ?_
              obtain ⟨st94, hx95, h⟩ := Option.bind_eq_some_iff.1 h
              refine TL.c2 rfl .u (.fn Try.call41 rfl) (f_prefix_Write_spec b72 ([], 0) (⟨a0.fBase, (49 + (x64.length : Int)), a0.fLeader, x90, x69, a0.fLast, a0.fFirst, a0.fMax, a0.fProducer, a0.fEpoch, a0.fSequence, (a0.fRecords.length : Int)⟩ : Pfx) _ hx95) (fun _ hs => (Src.triv _)) rfl ?_
              refine TL.nil (X.seq (T.seq (T.region rfl ?_)))
              obtain ⟨st96, hx97, h⟩ := Option.bind_eq_some_iff.1 h
              refine TL.run ft_batch_ok [0] rfl rfl ?_
              refine TL.c2 rfl .u (.fn Try.call44 rfl) (gOPut_spec b72 st94 x64 _ hx97) (fun _ hs => (Src.triv _)) rfl ?_
              obtain ⟨⟨x98, x99, st100⟩, hx101, h⟩ := Option.bind_eq_some_iff.1 h
              try dsimp only at h
              refine TL.nil (X.seq (T.seq (T.region rfl ?_)))
              refine TL.c2 rfl .u (.fn Try.call39 rfl) (gOText_spec b72 st96 _ hx101) (fun _ hs => (Src.triv _)) rfl ?_
              refine TL.run ft_batch_ok [1, 2, 3, 4] rfl rfl ?_
              obtain rfl := Option.some.inj h
              exact TL.nil (X.seq (T.ret (X.done2 [6] Try.results14 (RV.tm rfl) (RV.tm rfl) ⟨rfl, rfl, rfl⟩ (by rfl) (.inl rfl))))
    | succ m13 =>
      have h := hl15
      clear hl15
      obtain ⟨x14, hxx14⟩ : ∃ x, a0.fRecords[k8]? = some x := ⟨_, List.getElem?_eq_getElem (by omega)⟩
      rw [drop_cons hxx14, f_batch_Encode_l1] at h
      have hk16lt : (k8 : Int) < (a0.fRecords.length : Int) := by omega
      refine T.seq (T.region rfl ?_)
      refine TL.run ft_batch_ok [0] rfl rfl ?_
      refine TL.nil (X.seq (T.seq ?_))
      refine T.yes rfl (decide_eq_true hk16lt) ?_
      obtain ⟨gz17, oz17, rfl, z17cs, z17cl, z17cc, z17nf, z17r⟩ := RX.elem (by decide) hX hxx14
      obtain ⟨z17S, z17r, z17rr⟩ := z17r
      obtain ⟨A18, c19, rfl, z17s0⟩ := z17r
      have hX20 : (RX.of (sliceRd 3 Hd_rd) [.slice A18 x14.fHeaders.length c19] x14.fHeaders).reads w F := ⟨z17S, z17s0, z17rr⟩
      refine T.skip (X.seq (T.seq (T.block (T.seq (T.region rfl ?_)))))
      refine TL.q rfl .u (Ex.ixS (k := k8) rfl rfl rfl Try.runUnderlying23 Try.sizeOf33 (List.getElem?_eq_some_iff.1 hxx14).1) rfl ?_
      refine TL.q rfl .u (Ex.oS (us := [.int .i64 x14.fTime, .int .i64 x14.fOffset, .bool x14.fKey.null, .string (bsOf x14.fKey.data), .bool x14.fValue.null, .string (bsOf x14.fValue.data), .slice A18 x14.fHeaders.length c19]) 0 rfl Try.isAgg33 Try.sizeOf33 z17nf z17cc rfl rfl rfl) rfl ?_
      refine TL.alloc rfl .u Try.zeroValue33 rfl (fun b21 => ?_)
      refine TL.st0 (cs' := #[.int .i64 x14.fTime, .int .i64 x14.fOffset, .bool x14.fKey.null, .string (bsOf x14.fKey.data), .bool x14.fValue.null, .string (bsOf x14.fValue.data), .slice A18 x14.fHeaders.length c19]) rfl .u rfl rfl Try.sizeOf33 rfl rfl rfl rfl ?_
      refine TL.nil (X.seq (T.region rfl ?_))
      refine TL.q rfl .u (Ex.bS (us := [.int .i64 x14.fTime, .int .i64 x14.fOffset, .bool x14.fKey.null, .string (bsOf x14.fKey.data), .bool x14.fValue.null, .string (bsOf x14.fValue.data), .slice A18 x14.fHeaders.length c19]) 0 rfl Try.isAgg33 Try.sizeOf33 rfl rfl rfl) rfl ?_
      obtain ⟨st22, hx23, h⟩ := Option.bind_eq_some_iff.1 h
      refine TL.c1 rfl .u (.fn Try.call38 rfl) (f_record_Write_spec b7 st9 x14 _ _ _ hx23) (fun _ hs => (Src.old hs hX20)) rfl ?_
      refine TL.nil (X.blk (X.seq (T.region rfl ?_)))
      refine TL.q rfl .u (Ex.add rfl rfl (by omega)) rfl ?_
      refine TL.run ft_batch_ok [1] rfl rfl ?_
      exact TL.nil (X.back (m' := m13) [1, 1, 1] (by omega) ⟨k8 + 1, st22, by omega, rfl, rfl, h⟩ (by rfl) (by rfl))
  · replace h := ifF c6 h
    refine TL.nil (X.seq ?_)
    refine T.yes rfl (bn_t (decide_eq_false c6)) ?_
    refine T.seq (T.region rfl ?_)
    refine TL.run ft_batch_ok [0, 1, 2] rfl rfl ?_
    obtain rfl := Option.some.inj h
    exact TL.nil (X.seq (T.ret (X.rs (X.done2 [1] Try.results14 (RV.tm rfl) (RV.tm rfl) ⟨rfl, rfl, rfl⟩ (by rfl) (.inl rfl)))))
end Go.Proofs.Ytcoppaggpbfcmaa.Sl
