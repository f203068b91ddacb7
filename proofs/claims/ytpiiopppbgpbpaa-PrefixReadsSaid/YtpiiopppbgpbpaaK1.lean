/- PrefixReads: for every input the law returns true, and its arguments read behind the call as they did before. -/
import Derived.Test.YtpiiopppbgpbpaaRows
import Derived.WalkKit
import Derived.ProofKit
import Derived.OpenShut
import Derived.ShutString
import Derived.ChangeOld
import Derived.Below
import Derived.SizedLaws
import Derived.Test.YtpiiopppbgpbpaaK0
namespace Go.Proofs.Ytpiiopppbgpbpaa.Sl
open Go.RowKit
set_option linter.unusedVariables false
set_option linter.unusedSimpArgs false
set_option maxRecDepth 100000
def ft_prefix : FTab := [(38, 0, 0), (38, 1, 1), (38, 2, 2), (38, 3, 3), (38, 4, 4), (38, 5, 5), (38, 6, 6), (38, 7, 7), (38, 8, 8), (38, 9, 9), (38, 10, 10), (38, 11, 11), (127, 0, 0), (127, 1, 1)]
theorem ft_prefix_ok : (ft_prefix).OK Try.prog := ⟨FOK.mk Try.runUnderlying38 rfl Try.sizeOf3 rfl, FOK.mk Try.runUnderlying38 rfl Try.sizeOf3 rfl, FOK.mk Try.runUnderlying38 rfl Try.sizeOf3 rfl, FOK.mk Try.runUnderlying38 rfl Try.sizeOf3 rfl, FOK.mk Try.runUnderlying38 rfl Try.sizeOf3 rfl, FOK.mk Try.runUnderlying38 rfl Try.sizeOf3 rfl, FOK.mk Try.runUnderlying38 rfl Try.sizeOf3 rfl, FOK.mk Try.runUnderlying38 rfl Try.sizeOf3 rfl, FOK.mk Try.runUnderlying38 rfl Try.sizeOf3 rfl, FOK.mk Try.runUnderlying38 rfl Try.sizeOf3 rfl, FOK.mk Try.runUnderlying38 rfl Try.sizeOf3 rfl, FOK.mk Try.runUnderlying38 rfl Try.sizeOf3 rfl, FOK.mk Try.runUnderlying127 rfl Try.sizeOf125 rfl, FOK.mk Try.runUnderlying127 rfl Try.sizeOf3 rfl, trivial⟩
theorem mix_prefix : Try.prog.follows .mixedOrders = true := by kernel_rfl
theorem bok_prefix_38 : BOK Try.prog 38 #[.int .i64 0, .int .i64 0, .int .i64 0, .int .i64 0, .int .i64 0, .int .i64 0, .int .i64 0, .int .i64 0, .int .i64 0, .int .i64 0, .int .i64 0, .int .i64 0] [(0, 1), (1, 1), (2, 1), (3, 1), (4, 1), (5, 1), (6, 1), (7, 1), (8, 1), (9, 1), (10, 1), (11, 1)] := BOK.mk Try.zeroValue38 Try.runUnderlying38 (by intro w; simp)
theorem bok_prefix_127 : BOK Try.prog 127 #[.pointer none, .int .i64 0] [(0, 1), (1, 1)] := BOK.mk Try.zeroValue127 Try.runUnderlying127 (by intro w; simp)
theorem sok_prefix_123_13 : SOK Try.prog 123 127 13 2 #[.pointer none, .int .i64 0, .pointer none, .int .i64 0, .pointer none, .int .i64 0, .pointer none, .int .i64 0, .pointer none, .int .i64 0, .pointer none, .int .i64 0, .pointer none, .int .i64 0, .pointer none, .int .i64 0, .pointer none, .int .i64 0, .pointer none, .int .i64 0, .pointer none, .int .i64 0, .pointer none, .int .i64 0, .pointer none, .int .i64 0] := SOK.mk Try.runUnderlying123 Try.sizeOf127 Try.zeroValue127 (by decide) (by kernel_rfl)
def f_prefix_PrefixFields (p0 : Nat) (p1 : Nat) : Option (Unit) := some ()
set_option maxRecDepth 100000 in
set_option maxHeartbeats 4000000 in
theorem f_prefix_PrefixFields_spec (p0 : Nat) (p1 : Nat) (r : Unit) (h : f_prefix_PrefixFields p0 p1 = some r) : SpecX Try.prog 75 #[.pointer (some ⟨p0, 0, none⟩), .pointer (some ⟨p1, 0, none⟩)] .triv (EmpR) (fun v A' N => ∃ q : Nat, v = .slice (some ⟨q, 0, none⟩) 13 13 ∧ A' = EmpR ∧ N = [BlkR q 127 #[.pointer (some ⟨p0, 0, none⟩), .int .i64 8, .pointer (some ⟨p0, 1, none⟩), .int .i64 4, .pointer (some ⟨p0, 2, none⟩), .int .i64 4, .pointer (some ⟨p1, 0, none⟩), .int .i64 1, .pointer (some ⟨p0, 3, none⟩), .int .i64 4, .pointer (some ⟨p0, 4, none⟩), .int .i64 2, .pointer (some ⟨p0, 5, none⟩), .int .i64 4, .pointer (some ⟨p0, 6, none⟩), .int .i64 8, .pointer (some ⟨p0, 7, none⟩), .int .i64 8, .pointer (some ⟨p0, 8, none⟩), .int .i64 8, .pointer (some ⟨p0, 9, none⟩), .int .i64 2, .pointer (some ⟨p0, 10, none⟩), .int .i64 4, .pointer (some ⟨p0, 11, none⟩), .int .i64 4]]) := by
  refine enterA Try.func75 rfl Try.ntmps75 rfl ?_
  intro F w hX
  unfold f_prefix_PrefixFields at h
  refine T.seq (T.region rfl ?_)
  refine TL.run ft_prefix_ok [0] rfl rfl ?_
  refine TL.nil (X.seq (T.seq (T.draw (.q 0 (.q 1 (.q 2 (.q 3 (.q 4 (.q 5 (.q 6 (.q 7 (.q 8 (.q 9 (.q 10 (.q 11 (.q 12 (.q 13 (.q 14 (.q 15 (.q 16 (.q 17 (.q 18 (.q 19 (.q 20 (.q 21 (.q 22 (.q 23 (.q 24 (.q 25 (.q 26 (.q 27 (.q 28 (.q 29 (.q 30 (.q 31 (.q 32 (.q 33 (.q 34 (.q 35 (.q 36 (.q 37 (.q 38 (.q 39 (.q 40 (.q 41 (.q 42 (.q 43 (.q 44 (.q 45 (.q 46 (.q 47 (.q 48 (.q 49 (.e 50 (.q 51 .nil)))))))))))))))))))))))))))))))))))))))))))))))))))) [0] rfl mix_prefix (NoP.seq np_post) (by kernel_rfl) ?_)))
  refine TD.run ft_prefix_ok [0, 1, 2] rfl rfl ?_
  refine TD.q rfl .u (Ex.bld (cells := #[.pointer (some ⟨p0, 0, none⟩), .int .i64 8]) bok_prefix_127 rfl (by kernel_rfl)) rfl ?_
  refine TD.run ft_prefix_ok [4, 5, 6] rfl rfl ?_
  refine TD.q rfl .u (Ex.bld (cells := #[.pointer (some ⟨p0, 1, none⟩), .int .i64 4]) bok_prefix_127 rfl (by kernel_rfl)) rfl ?_
  refine TD.run ft_prefix_ok [8, 9, 10] rfl rfl ?_
  refine TD.q rfl .u (Ex.bld (cells := #[.pointer (some ⟨p0, 2, none⟩), .int .i64 4]) bok_prefix_127 rfl (by kernel_rfl)) rfl ?_
  refine TD.run ft_prefix_ok [12] rfl rfl ?_
  refine TD.q rfl .u (Ex.bld (cells := #[.pointer (some ⟨p1, 0, none⟩), .int .i64 1]) bok_prefix_127 rfl (by kernel_rfl)) rfl ?_
  refine TD.run ft_prefix_ok [14, 15, 16] rfl rfl ?_
  refine TD.q rfl .u (Ex.bld (cells := #[.pointer (some ⟨p0, 3, none⟩), .int .i64 4]) bok_prefix_127 rfl (by kernel_rfl)) rfl ?_
  refine TD.run ft_prefix_ok [18, 19, 20] rfl rfl ?_
  refine TD.q rfl .u (Ex.bld (cells := #[.pointer (some ⟨p0, 4, none⟩), .int .i64 2]) bok_prefix_127 rfl (by kernel_rfl)) rfl ?_
  refine TD.run ft_prefix_ok [22, 23, 24] rfl rfl ?_
  refine TD.q rfl .u (Ex.bld (cells := #[.pointer (some ⟨p0, 5, none⟩), .int .i64 4]) bok_prefix_127 rfl (by kernel_rfl)) rfl ?_
  refine TD.run ft_prefix_ok [26, 27, 28] rfl rfl ?_
  refine TD.q rfl .u (Ex.bld (cells := #[.pointer (some ⟨p0, 6, none⟩), .int .i64 8]) bok_prefix_127 rfl (by kernel_rfl)) rfl ?_
  refine TD.run ft_prefix_ok [30, 31, 32] rfl rfl ?_
  refine TD.q rfl .u (Ex.bld (cells := #[.pointer (some ⟨p0, 7, none⟩), .int .i64 8]) bok_prefix_127 rfl (by kernel_rfl)) rfl ?_
  refine TD.run ft_prefix_ok [34, 35, 36] rfl rfl ?_
  refine TD.q rfl .u (Ex.bld (cells := #[.pointer (some ⟨p0, 8, none⟩), .int .i64 8]) bok_prefix_127 rfl (by kernel_rfl)) rfl ?_
  refine TD.run ft_prefix_ok [38, 39, 40] rfl rfl ?_
  refine TD.q rfl .u (Ex.bld (cells := #[.pointer (some ⟨p0, 9, none⟩), .int .i64 2]) bok_prefix_127 rfl (by kernel_rfl)) rfl ?_
  refine TD.run ft_prefix_ok [42, 43, 44] rfl rfl ?_
  refine TD.q rfl .u (Ex.bld (cells := #[.pointer (some ⟨p0, 10, none⟩), .int .i64 4]) bok_prefix_127 rfl (by kernel_rfl)) rfl ?_
  refine TD.run ft_prefix_ok [46, 47, 48] rfl rfl ?_
  refine TD.q rfl .u (Ex.bld (cells := #[.pointer (some ⟨p0, 11, none⟩), .int .i64 4]) bok_prefix_127 rfl (by kernel_rfl)) rfl ?_
  refine TD.lit (cells := #[.pointer (some ⟨p0, 0, none⟩), .int .i64 8, .pointer (some ⟨p0, 1, none⟩), .int .i64 4, .pointer (some ⟨p0, 2, none⟩), .int .i64 4, .pointer (some ⟨p1, 0, none⟩), .int .i64 1, .pointer (some ⟨p0, 3, none⟩), .int .i64 4, .pointer (some ⟨p0, 4, none⟩), .int .i64 2, .pointer (some ⟨p0, 5, none⟩), .int .i64 4, .pointer (some ⟨p0, 6, none⟩), .int .i64 8, .pointer (some ⟨p0, 7, none⟩), .int .i64 8, .pointer (some ⟨p0, 8, none⟩), .int .i64 8, .pointer (some ⟨p0, 9, none⟩), .int .i64 2, .pointer (some ⟨p0, 10, none⟩), .int .i64 4, .pointer (some ⟨p0, 11, none⟩), .int .i64 4]) rfl .u sok_prefix_123_13 rfl (by kernel_rfl) rfl [1] (fun _ => rfl) (fun b1 => ?_)
  refine TD.run ft_prefix_ok [51] rfl rfl ?_
  obtain rfl := Option.some.inj h
  exact TD.nil (X.seq (T.ret (X.done1 [1, 0] Try.results75 (RV.tm rfl) ⟨_, rfl, rfl, rfl⟩ (by rfl) (.inl rfl))))
def f_prefix_Write (st : List UInt8 × Int) (a1 : Pfx) : Option (List UInt8 × Int) := (if a1.fSum < 0 then some true else (if a1.fSum > 4294967295 then some true else some false)).bind fun y4 => (if y4 = true then ((gOFail st 11).bind fun st14 => some st14) else some st).bind fun st11 => if -9223372036854775808 ≤ (IntKind.i32.wrap (IntKind.u32.wrap a1.fSum)) ∧ (IntKind.i32.wrap (IntKind.u32.wrap a1.fSum)) ≤ 9223372036854775807 then ((gOInt st11 a1.fBase 8).bind fun st19 => (gOInt st19 a1.fLength 4).bind fun st22 => (gOInt st22 a1.fLeader 4).bind fun st25 => (gOInt st25 2 1).bind fun st28 => (gOInt st28 (IntKind.i32.wrap (IntKind.u32.wrap a1.fSum)) 4).bind fun st31 => (gOInt st31 a1.fAttr 2).bind fun st34 => (gOInt st34 a1.fLast 4).bind fun st37 => (gOInt st37 a1.fFirst 8).bind fun st40 => (gOInt st40 a1.fMax 8).bind fun st43 => (gOInt st43 a1.fProducer 8).bind fun st46 => (gOInt st46 a1.fEpoch 2).bind fun st49 => (gOInt st49 a1.fSequence 4).bind fun st52 => (gOInt st52 a1.fCount 4).bind fun st55 => some st55) else none
set_option maxRecDepth 100000 in
set_option maxHeartbeats 4000000 in
theorem f_prefix_Write_spec (g : Nat) (st : List UInt8 × Int) (a1 : Pfx) (r : List UInt8 × Int) (h : f_prefix_Write st a1 = some r) : SpecX Try.prog 23 #[.pointer (some ⟨g, 0, none⟩), .agg #[.int .i64 a1.fBase, .int .i64 a1.fLength, .int .i64 a1.fLeader, .int .i64 a1.fSum, .int .i64 a1.fAttr, .int .i64 a1.fLast, .int .i64 a1.fFirst, .int .i64 a1.fMax, .int .i64 a1.fProducer, .int .i64 a1.fEpoch, .int .i64 a1.fSequence, .int .i64 a1.fCount]] .triv (OutR g st) (fun v A' N => v = .tuple #[] ∧ A' = OutR g r ∧ N = []) := by
  refine enterA Try.func23 rfl Try.ntmps23 rfl ?_
  intro F w hX
  unfold f_prefix_Write at h
  refine T.seq (T.region rfl ?_)
  refine TL.box rfl .u rfl rfl (fun b1 => ?_)
  refine TL.nil (X.seq (T.seq (T.region rfl ?_)))
  refine TL.alloc rfl .u Try.zeroValue3 rfl (fun b2 => ?_)
  refine TL.st0 (cs' := #[.int .i64 2]) rfl .u rfl rfl Try.sizeOf3 rfl rfl rfl rfl ?_
  refine TL.nil (X.seq (T.seq (T.seq ?_)))
  obtain ⟨y4, h, hk5⟩ := Option.bind_eq_some_iff.1 h
  refine T.jq (fun e Rs => e = [(0, .pointer (some ⟨g, 0, none⟩)), (3, .pointer (some ⟨b1, 0, none⟩)), (4, .pointer (some ⟨b2, 0, none⟩)), (14, .bool y4)] ∧ Rs = [BlkR b2 3 #[.int .i64 2], BlkR b1 38 #[.int .i64 a1.fBase, .int .i64 a1.fLength, .int .i64 a1.fLeader, .int .i64 a1.fSum, .int .i64 a1.fAttr, .int .i64 a1.fLast, .int .i64 a1.fFirst, .int .i64 a1.fMax, .int .i64 a1.fProducer, .int .i64 a1.fEpoch, .int .i64 a1.fSequence, .int .i64 a1.fCount], OutR g st]) ?_ ?_
  · clear hk5
    refine T.region rfl ?_
    refine TL.run ft_prefix_ok [0] rfl rfl ?_
    refine TL.q rfl .u (Ex.b1 1 rfl Try.isAgg3 rfl rfl) rfl ?_
    by_cases c6 : a1.fSum < 0
    · replace h := ifT c6 h
      refine TL.run ft_prefix_ok [2, 3] rfl rfl ?_
      refine TL.no rfl (.gn rfl rfl (decide_eq_true c6)) rfl ?_
      refine TL.no rfl (.gn rfl rfl (decide_eq_true c6)) rfl ?_
      refine TL.no rfl (.gn rfl rfl (decide_eq_true c6)) rfl ?_
      refine TL.q rfl .u (Ex.py rfl (decide_eq_true c6) rfl) rfl ?_
      cases h
      exact TL.nil (X.jq [0, 0, 0] ⟨rfl, rfl⟩ (by rfl) (by rfl))
    · replace h := ifF c6 h
      refine TL.run ft_prefix_ok [2, 3] rfl rfl ?_
      refine TL.q rfl (.g rfl rfl (decide_eq_false c6)) (Ex.ft ft_prefix_ok rfl) rfl ?_
      refine TL.q rfl (.g rfl rfl (decide_eq_false c6)) (Ex.b1 1 rfl Try.isAgg3 rfl rfl) rfl ?_
      refine TL.q rfl (.g rfl rfl (decide_eq_false c6)) (Ex.ft ft_prefix_ok rfl) rfl ?_
      refine TL.q rfl .u (Ex.pn rfl (decide_eq_false c6) rfl) rfl ?_
      by_cases c7 : a1.fSum > 4294967295
      · replace h := ifT c7 h
        cases h
        exact TL.nil (X.as (d := 14) (v' := .bool true) rfl (congrArg Value.bool (decide_eq_true c7)) (X.jq [0, 0, 0] ⟨rfl, rfl⟩ (by rfl) (by rfl)))
      · replace h := ifF c7 h
        cases h
        exact TL.nil (X.as (d := 14) (v' := .bool false) rfl (congrArg Value.bool (decide_eq_false c7)) (X.jq [0, 0, 0] ⟨rfl, rfl⟩ (by rfl) (by rfl)))
  · rintro _ _ ⟨rfl, rfl⟩
    clear h
    have h := hk5
    clear hk5
    try dsimp only at h
    refine X.seq ?_
    obtain ⟨st11, h, hk12⟩ := Option.bind_eq_some_iff.1 h
    refine T.jq (fun e Rs => e = [(0, .pointer (some ⟨g, 0, none⟩)), (3, .pointer (some ⟨b1, 0, none⟩)), (4, .pointer (some ⟨b2, 0, none⟩))] ∧ Rs = [BlkR b2 3 #[.int .i64 2], BlkR b1 38 #[.int .i64 a1.fBase, .int .i64 a1.fLength, .int .i64 a1.fLeader, .int .i64 a1.fSum, .int .i64 a1.fAttr, .int .i64 a1.fLast, .int .i64 a1.fFirst, .int .i64 a1.fMax, .int .i64 a1.fProducer, .int .i64 a1.fEpoch, .int .i64 a1.fSequence, .int .i64 a1.fCount], OutR g st11]) ?_ ?_
    · clear hk12
      by_cases c13 : y4 = true
      · replace h := ifT c13 h
        refine T.yes rfl c13 ?_
        refine T.region rfl ?_
        obtain ⟨st14, hx15, h⟩ := Option.bind_eq_some_iff.1 h
        refine TL.run ft_prefix_ok [0] rfl rfl ?_
        refine TL.c2 rfl .u (.fn Try.call74 rfl) (gOFail_spec g st 11 _ hx15) (fun _ hs => (Src.triv _)) rfl ?_
        cases h
        exact TL.nil (X.jq [0, 0, 0] ⟨rfl, rfl⟩ (by rfl) (by rfl))
      · replace h := ifF c13 h
        replace c13 := eq_false_of_ne_true c13
        refine T.no rfl c13 ?_
        cases h
        exact T.skip (X.jq [0, 0, 0] ⟨rfl, rfl⟩ (by rfl) (by rfl))
    · rintro _ _ ⟨rfl, rfl⟩
      clear h
      have h := hk12
      clear hk12
      try dsimp only at h
      refine X.seq (T.seq (T.region rfl ?_))
      refine TL.run ft_prefix_ok [0] rfl rfl ?_
      refine TL.q rfl .u (Ex.b1 1 rfl Try.isAgg3 rfl rfl) rfl ?_
      refine TL.q rfl .u (Ex.conv rfl Try.runUnderlying3 Try.runUnderlying87) rfl ?_
      refine TL.q rfl .u (Ex.conv rfl Try.runUnderlying87 Try.runUnderlying21) rfl ?_
      replace h := guard_some h
      obtain ⟨c16, h⟩ := h
      refine TL.q rfl .u (Ex.conv64 rfl Try.runUnderlying21 Try.runUnderlying3 c16) rfl ?_
      refine TL.run ft_prefix_ok [5] rfl rfl ?_
      refine TL.st1 (cs' := #[.int .i64 a1.fBase, .int .i64 a1.fLength, .int .i64 a1.fLeader, .int .i64 (IntKind.i32.wrap (IntKind.u32.wrap a1.fSum)), .int .i64 a1.fAttr, .int .i64 a1.fLast, .int .i64 a1.fFirst, .int .i64 a1.fMax, .int .i64 a1.fProducer, .int .i64 a1.fEpoch, .int .i64 a1.fSequence, .int .i64 a1.fCount]) rfl .u rfl rfl Try.sizeOf3 rfl rfl rfl rfl ?_
      refine TL.nil (X.seq (T.seq (T.region rfl ?_)))
      refine TL.cge rfl .u (.fn Try.call75 rfl) (f_prefix_PrefixFields_spec b1 b2 () rfl) (fun _ hs => RX.reads_triv _ _) rfl ?_
      rintro _ _ _ ⟨b17, rfl, rfl, rfl⟩
      refine TL.sel [0, 0, 0, 0] rfl ?_
      refine TL.q rfl .u (Ex.lenS rfl Try.runUnderlying123) rfl ?_
      refine TL.run ft_prefix_ok [2] rfl rfl ?_
      refine TL.nil (X.seq (T.block ?_))
      refine T.unroll0 (TW.step (T.seq (T.region rfl ?_)))
      refine TL.run ft_prefix_ok [0] rfl rfl ?_
      refine TL.nil (X.seq (T.seq ?_))
      refine T.yes rfl (decide_eq_true (show 0 < 13 by omega)) ?_
      refine T.skip (X.seq (T.seq (T.block (T.seq (T.region rfl ?_)))))
      refine TL.q rfl .u (Ex.ixL (k := 0) (r := 0) rfl rfl rfl Try.runUnderlying123 Try.sizeOf127 (by decide) rfl) rfl ?_
      refine TL.q rfl .u (Ex.bS (us := [.pointer (some ⟨b1, 0, none⟩), .int .i64 8]) 0 rfl Try.isAgg127 Try.sizeOf127 rfl rfl rfl) rfl ?_
      refine TL.alloc rfl .u Try.zeroValue127 rfl (fun b18 => ?_)
      refine TL.st0 (cs' := #[.pointer (some ⟨b1, 0, none⟩), .int .i64 8]) rfl .u rfl rfl Try.sizeOf127 rfl rfl rfl rfl ?_
      refine TL.nil (X.seq (T.draw (.q 0 (.q 1 (.q 2 (.q 3 (.q 4 (.q 5 (.q 6 (.e 7 .nil)))))))) [0, 0, 0, 0] rfl mix_prefix (NoP.blk (NoP.seq (NoP.seq (NoP.blk np_post)))) (by kernel_rfl) ?_))
      refine TD.run ft_prefix_ok [0, 1] rfl rfl ?_
      refine TD.q rfl .u (Ex.b1 0 rfl Try.isAgg125 rfl rfl) rfl ?_
      refine TD.run ft_prefix_ok [3] rfl rfl ?_
      refine TD.q rfl .u (Ex.b1 3 rfl Try.isAgg3 rfl rfl) rfl ?_
      refine TD.run ft_prefix_ok [5] rfl rfl ?_
      refine TD.q rfl .u (Ex.b1 0 rfl Try.isAgg3 rfl rfl) rfl ?_
      obtain ⟨st19, hx20, h⟩ := Option.bind_eq_some_iff.1 h
      refine TD.c4 rfl .u (.fn Try.call34 rfl) (gOInt_spec g st11 a1.fBase 8 _ hx20) (fun _ hs => (Src.triv _)) rfl [0, 0, 0, 0] (rfl) ?_
      refine TD.nil (X.blk (X.seq (T.region rfl ?_)))
      refine TL.q rfl .u (Ex.add rfl rfl (by omega)) rfl ?_
      refine TL.run ft_prefix_ok [1] rfl rfl ?_
      refine TL.nil (X.un (TW.step (T.seq (T.region rfl ?_))))
      refine TL.run ft_prefix_ok [0] rfl rfl ?_
      refine TL.nil (X.seq (T.seq ?_))
      refine T.yes rfl (decide_eq_true (show 1 < 13 by omega)) ?_
      refine T.skip (X.seq (T.seq (T.block (T.seq (T.region rfl ?_)))))
      refine TL.q rfl .u (Ex.ixL (k := 1) (r := 2) rfl rfl rfl Try.runUnderlying123 Try.sizeOf127 (by decide) rfl) rfl ?_
      refine TL.q rfl .u (Ex.bS (us := [.pointer (some ⟨b1, 1, none⟩), .int .i64 4]) 1 rfl Try.isAgg127 Try.sizeOf127 rfl rfl rfl) rfl ?_
      refine TL.alloc rfl .u Try.zeroValue127 rfl (fun b21 => ?_)
      refine TL.st0 (cs' := #[.pointer (some ⟨b1, 1, none⟩), .int .i64 4]) rfl .u rfl rfl Try.sizeOf127 rfl rfl rfl rfl ?_
      refine TL.nil (X.seq (T.draw (.q 0 (.q 1 (.q 2 (.q 3 (.q 4 (.q 5 (.q 6 (.e 7 .nil)))))))) [0, 0, 0, 0, 0] rfl mix_prefix (NoP.blk (NoP.seq (NoP.seq (NoP.blk np_post)))) (by kernel_rfl) ?_))
      refine TD.run ft_prefix_ok [0, 1] rfl rfl ?_
      refine TD.q rfl .u (Ex.b1 0 rfl Try.isAgg125 rfl rfl) rfl ?_
      refine TD.run ft_prefix_ok [3] rfl rfl ?_
      refine TD.q rfl .u (Ex.b1 4 rfl Try.isAgg3 rfl rfl) rfl ?_
      refine TD.run ft_prefix_ok [5] rfl rfl ?_
      refine TD.q rfl .u (Ex.b1 0 rfl Try.isAgg3 rfl rfl) rfl ?_
      obtain ⟨st22, hx23, h⟩ := Option.bind_eq_some_iff.1 h
      refine TD.c5 rfl .u (.fn Try.call34 rfl) (gOInt_spec g st19 a1.fLength 4 _ hx23) (fun _ hs => (Src.triv _)) rfl [0, 0, 0, 0, 0] (rfl) ?_
      refine TD.nil (X.blk (X.seq (T.region rfl ?_)))
      refine TL.q rfl .u (Ex.add rfl rfl (by omega)) rfl ?_
      refine TL.run ft_prefix_ok [1] rfl rfl ?_
      refine TL.nil ?_
      refine X.sel [0, 1, 1, 1, 1] rfl ?_
      refine X.un (TW.step (T.seq (T.region rfl ?_)))
      refine TL.run ft_prefix_ok [0] rfl rfl ?_
      refine TL.nil (X.seq (T.seq ?_))
      refine T.yes rfl (decide_eq_true (show 2 < 13 by omega)) ?_
      refine T.skip (X.seq (T.seq (T.block (T.seq (T.region rfl ?_)))))
      refine TL.q rfl .u (Ex.ixL (k := 2) (r := 4) rfl rfl rfl Try.runUnderlying123 Try.sizeOf127 (by decide) rfl) rfl ?_
      refine TL.q rfl .u (Ex.bS (us := [.pointer (some ⟨b1, 2, none⟩), .int .i64 4]) 1 rfl Try.isAgg127 Try.sizeOf127 rfl rfl rfl) rfl ?_
      refine TL.alloc rfl .u Try.zeroValue127 rfl (fun b24 => ?_)
      refine TL.st0 (cs' := #[.pointer (some ⟨b1, 2, none⟩), .int .i64 4]) rfl .u rfl rfl Try.sizeOf127 rfl rfl rfl rfl ?_
      refine TL.nil (X.seq (T.draw (.q 0 (.q 1 (.q 2 (.q 3 (.q 4 (.q 5 (.q 6 (.e 7 .nil)))))))) [0, 0, 0, 0, 0] rfl mix_prefix (NoP.blk (NoP.seq (NoP.seq (NoP.blk np_post)))) (by kernel_rfl) ?_))
      refine TD.run ft_prefix_ok [0, 1] rfl rfl ?_
      refine TD.q rfl .u (Ex.b1 0 rfl Try.isAgg125 rfl rfl) rfl ?_
      refine TD.run ft_prefix_ok [3] rfl rfl ?_
      refine TD.q rfl .u (Ex.b1 4 rfl Try.isAgg3 rfl rfl) rfl ?_
      refine TD.run ft_prefix_ok [5] rfl rfl ?_
      refine TD.q rfl .u (Ex.b1 0 rfl Try.isAgg3 rfl rfl) rfl ?_
      obtain ⟨st25, hx26, h⟩ := Option.bind_eq_some_iff.1 h
      refine TD.c5 rfl .u (.fn Try.call34 rfl) (gOInt_spec g st22 a1.fLeader 4 _ hx26) (fun _ hs => (Src.triv _)) rfl [0, 0, 0, 0, 0] (rfl) ?_
      refine TD.nil (X.blk (X.seq (T.region rfl ?_)))
      refine TL.q rfl .u (Ex.add rfl rfl (by omega)) rfl ?_
      refine TL.run ft_prefix_ok [1] rfl rfl ?_
      refine TL.nil ?_
      refine X.sel [0, 1, 1, 1, 1] rfl ?_
      refine X.un (TW.step (T.seq (T.region rfl ?_)))
      refine TL.run ft_prefix_ok [0] rfl rfl ?_
      refine TL.nil (X.seq (T.seq ?_))
      refine T.yes rfl (decide_eq_true (show 3 < 13 by omega)) ?_
      refine T.skip (X.seq (T.seq (T.block (T.seq (T.region rfl ?_)))))
      refine TL.q rfl .u (Ex.ixL (k := 3) (r := 6) rfl rfl rfl Try.runUnderlying123 Try.sizeOf127 (by decide) rfl) rfl ?_
      refine TL.q rfl .u (Ex.bS (us := [.pointer (some ⟨b2, 0, none⟩), .int .i64 1]) 1 rfl Try.isAgg127 Try.sizeOf127 rfl rfl rfl) rfl ?_
      refine TL.alloc rfl .u Try.zeroValue127 rfl (fun b27 => ?_)
      refine TL.st0 (cs' := #[.pointer (some ⟨b2, 0, none⟩), .int .i64 1]) rfl .u rfl rfl Try.sizeOf127 rfl rfl rfl rfl ?_
      refine TL.nil (X.seq (T.draw (.q 0 (.q 1 (.q 2 (.q 3 (.q 4 (.q 5 (.q 6 (.e 7 .nil)))))))) [0, 0, 0, 0, 0] rfl mix_prefix (NoP.blk (NoP.seq (NoP.seq (NoP.blk np_post)))) (by kernel_rfl) ?_))
      refine TD.run ft_prefix_ok [0, 1] rfl rfl ?_
      refine TD.q rfl .u (Ex.b1 0 rfl Try.isAgg125 rfl rfl) rfl ?_
      refine TD.run ft_prefix_ok [3] rfl rfl ?_
      refine TD.q rfl .u (Ex.b1 3 rfl Try.isAgg3 rfl rfl) rfl ?_
      refine TD.run ft_prefix_ok [5] rfl rfl ?_
      refine TD.q rfl .u (Ex.b1 0 rfl Try.isAgg3 rfl rfl) rfl ?_
      obtain ⟨st28, hx29, h⟩ := Option.bind_eq_some_iff.1 h
      refine TD.c5 rfl .u (.fn Try.call34 rfl) (gOInt_spec g st25 2 1 _ hx29) (fun _ hs => (Src.triv _)) rfl [0, 0, 0, 0, 0] (rfl) ?_
      refine TD.nil (X.blk (X.seq (T.region rfl ?_)))
      refine TL.q rfl .u (Ex.add rfl rfl (by omega)) rfl ?_
      refine TL.run ft_prefix_ok [1] rfl rfl ?_
      refine TL.nil ?_
      refine X.sel [0, 1, 1, 1, 1] rfl ?_
      refine X.un (TW.step (T.seq (T.region rfl ?_)))
      refine TL.run ft_prefix_ok [0] rfl rfl ?_
      refine TL.nil (X.seq (T.seq ?_))
      refine T.yes rfl (decide_eq_true (show 4 < 13 by omega)) ?_
      refine T.skip (X.seq (T.seq (T.block (T.seq (T.region rfl ?_)))))
      refine TL.q rfl .u (Ex.ixL (k := 4) (r := 8) rfl rfl rfl Try.runUnderlying123 Try.sizeOf127 (by decide) rfl) rfl ?_
      refine TL.q rfl .u (Ex.bS (us := [.pointer (some ⟨b1, 3, none⟩), .int .i64 4]) 1 rfl Try.isAgg127 Try.sizeOf127 rfl rfl rfl) rfl ?_
      refine TL.alloc rfl .u Try.zeroValue127 rfl (fun b30 => ?_)
      refine TL.st0 (cs' := #[.pointer (some ⟨b1, 3, none⟩), .int .i64 4]) rfl .u rfl rfl Try.sizeOf127 rfl rfl rfl rfl ?_
      refine TL.nil (X.seq (T.draw (.q 0 (.q 1 (.q 2 (.q 3 (.q 4 (.q 5 (.q 6 (.e 7 .nil)))))))) [0, 0, 0, 0, 0] rfl mix_prefix (NoP.blk (NoP.seq (NoP.seq (NoP.blk np_post)))) (by kernel_rfl) ?_))
      refine TD.run ft_prefix_ok [0, 1] rfl rfl ?_
      refine TD.q rfl .u (Ex.b1 0 rfl Try.isAgg125 rfl rfl) rfl ?_
      refine TD.run ft_prefix_ok [3] rfl rfl ?_
      refine TD.q rfl .u (Ex.b1 4 rfl Try.isAgg3 rfl rfl) rfl ?_
      refine TD.run ft_prefix_ok [5] rfl rfl ?_
      refine TD.q rfl .u (Ex.b1 0 rfl Try.isAgg3 rfl rfl) rfl ?_
      obtain ⟨st31, hx32, h⟩ := Option.bind_eq_some_iff.1 h
      refine TD.c5 rfl .u (.fn Try.call34 rfl) (gOInt_spec g st28 (IntKind.i32.wrap (IntKind.u32.wrap a1.fSum)) 4 _ hx32) (fun _ hs => (Src.triv _)) rfl [0, 0, 0, 0, 0] (rfl) ?_
      refine TD.nil (X.blk (X.seq (T.region rfl ?_)))
      refine TL.q rfl .u (Ex.add rfl rfl (by omega)) rfl ?_
      refine TL.run ft_prefix_ok [1] rfl rfl ?_
      refine TL.nil ?_
      refine X.sel [0, 1, 1, 1, 1] rfl ?_
      refine X.un (TW.step (T.seq (T.region rfl ?_)))
      refine TL.run ft_prefix_ok [0] rfl rfl ?_
      refine TL.nil (X.seq (T.seq ?_))
      refine T.yes rfl (decide_eq_true (show 5 < 13 by omega)) ?_
      refine T.skip (X.seq (T.seq (T.block (T.seq (T.region rfl ?_)))))
      refine TL.q rfl .u (Ex.ixL (k := 5) (r := 10) rfl rfl rfl Try.runUnderlying123 Try.sizeOf127 (by decide) rfl) rfl ?_
      refine TL.q rfl .u (Ex.bS (us := [.pointer (some ⟨b1, 4, none⟩), .int .i64 2]) 1 rfl Try.isAgg127 Try.sizeOf127 rfl rfl rfl) rfl ?_
      refine TL.alloc rfl .u Try.zeroValue127 rfl (fun b33 => ?_)
      refine TL.st0 (cs' := #[.pointer (some ⟨b1, 4, none⟩), .int .i64 2]) rfl .u rfl rfl Try.sizeOf127 rfl rfl rfl rfl ?_
      refine TL.nil (X.seq (T.draw (.q 0 (.q 1 (.q 2 (.q 3 (.q 4 (.q 5 (.q 6 (.e 7 .nil)))))))) [0, 0, 0, 0, 0] rfl mix_prefix (NoP.blk (NoP.seq (NoP.seq (NoP.blk np_post)))) (by kernel_rfl) ?_))
      refine TD.run ft_prefix_ok [0, 1] rfl rfl ?_
      refine TD.q rfl .u (Ex.b1 0 rfl Try.isAgg125 rfl rfl) rfl ?_
      refine TD.run ft_prefix_ok [3] rfl rfl ?_
      refine TD.q rfl .u (Ex.b1 4 rfl Try.isAgg3 rfl rfl) rfl ?_
      refine TD.run ft_prefix_ok [5] rfl rfl ?_
      refine TD.q rfl .u (Ex.b1 0 rfl Try.isAgg3 rfl rfl) rfl ?_
      obtain ⟨st34, hx35, h⟩ := Option.bind_eq_some_iff.1 h
      refine TD.c5 rfl .u (.fn Try.call34 rfl) (gOInt_spec g st31 a1.fAttr 2 _ hx35) (fun _ hs => (Src.triv _)) rfl [0, 0, 0, 0, 0] (rfl) ?_
      refine TD.nil (X.blk (X.seq (T.region rfl ?_)))
      refine TL.q rfl .u (Ex.add rfl rfl (by omega)) rfl ?_
      refine TL.run ft_prefix_ok [1] rfl rfl ?_
      refine TL.nil ?_
      refine X.sel [0, 1, 1, 1, 1] rfl ?_
      refine X.un (TW.step (T.seq (T.region rfl ?_)))
      refine TL.run ft_prefix_ok [0] rfl rfl ?_
      refine TL.nil (X.seq (T.seq ?_))
      refine T.yes rfl (decide_eq_true (show 6 < 13 by omega)) ?_
      refine T.skip (X.seq (T.seq (T.block (T.seq (T.region rfl ?_)))))
      refine TL.q rfl .u (Ex.ixL (k := 6) (r := 12) rfl rfl rfl Try.runUnderlying123 Try.sizeOf127 (by decide) rfl) rfl ?_
      refine TL.q rfl .u (Ex.bS (us := [.pointer (some ⟨b1, 5, none⟩), .int .i64 4]) 1 rfl Try.isAgg127 Try.sizeOf127 rfl rfl rfl) rfl ?_
      refine TL.alloc rfl .u Try.zeroValue127 rfl (fun b36 => ?_)
      refine TL.st0 (cs' := #[.pointer (some ⟨b1, 5, none⟩), .int .i64 4]) rfl .u rfl rfl Try.sizeOf127 rfl rfl rfl rfl ?_
      refine TL.nil (X.seq (T.draw (.q 0 (.q 1 (.q 2 (.q 3 (.q 4 (.q 5 (.q 6 (.e 7 .nil)))))))) [0, 0, 0, 0, 0] rfl mix_prefix (NoP.blk (NoP.seq (NoP.seq (NoP.blk np_post)))) (by kernel_rfl) ?_))
      refine TD.run ft_prefix_ok [0, 1] rfl rfl ?_
      refine TD.q rfl .u (Ex.b1 0 rfl Try.isAgg125 rfl rfl) rfl ?_
      refine TD.run ft_prefix_ok [3] rfl rfl ?_
      refine TD.q rfl .u (Ex.b1 4 rfl Try.isAgg3 rfl rfl) rfl ?_
      refine TD.run ft_prefix_ok [5] rfl rfl ?_
      refine TD.q rfl .u (Ex.b1 0 rfl Try.isAgg3 rfl rfl) rfl ?_
      obtain ⟨st37, hx38, h⟩ := Option.bind_eq_some_iff.1 h
      refine TD.c5 rfl .u (.fn Try.call34 rfl) (gOInt_spec g st34 a1.fLast 4 _ hx38) (fun _ hs => (Src.triv _)) rfl [0, 0, 0, 0, 0] (rfl) ?_
      refine TD.nil (X.blk (X.seq (T.region rfl ?_)))
      refine TL.q rfl .u (Ex.add rfl rfl (by omega)) rfl ?_
      refine TL.run ft_prefix_ok [1] rfl rfl ?_
      refine TL.nil ?_
      refine X.sel [0, 1, 1, 1, 1] rfl ?_
      refine X.un (TW.step (T.seq (T.region rfl ?_)))
      refine TL.run ft_prefix_ok [0] rfl rfl ?_
      refine TL.nil (X.seq (T.seq ?_))
      refine T.yes rfl (decide_eq_true (show 7 < 13 by omega)) ?_
      refine T.skip (X.seq (T.seq (T.block (T.seq (T.region rfl ?_)))))
      refine TL.q rfl .u (Ex.ixL (k := 7) (r := 14) rfl rfl rfl Try.runUnderlying123 Try.sizeOf127 (by decide) rfl) rfl ?_
      refine TL.q rfl .u (Ex.bS (us := [.pointer (some ⟨b1, 6, none⟩), .int .i64 8]) 1 rfl Try.isAgg127 Try.sizeOf127 rfl rfl rfl) rfl ?_
      refine TL.alloc rfl .u Try.zeroValue127 rfl (fun b39 => ?_)
      refine TL.st0 (cs' := #[.pointer (some ⟨b1, 6, none⟩), .int .i64 8]) rfl .u rfl rfl Try.sizeOf127 rfl rfl rfl rfl ?_
      refine TL.nil (X.seq (T.draw (.q 0 (.q 1 (.q 2 (.q 3 (.q 4 (.q 5 (.q 6 (.e 7 .nil)))))))) [0, 0, 0, 0, 0] rfl mix_prefix (NoP.blk (NoP.seq (NoP.seq (NoP.blk np_post)))) (by kernel_rfl) ?_))
      refine TD.run ft_prefix_ok [0, 1] rfl rfl ?_
      refine TD.q rfl .u (Ex.b1 0 rfl Try.isAgg125 rfl rfl) rfl ?_
      refine TD.run ft_prefix_ok [3] rfl rfl ?_
      refine TD.q rfl .u (Ex.b1 4 rfl Try.isAgg3 rfl rfl) rfl ?_
      refine TD.run ft_prefix_ok [5] rfl rfl ?_
      refine TD.q rfl .u (Ex.b1 0 rfl Try.isAgg3 rfl rfl) rfl ?_
      obtain ⟨st40, hx41, h⟩ := Option.bind_eq_some_iff.1 h
      refine TD.c5 rfl .u (.fn Try.call34 rfl) (gOInt_spec g st37 a1.fFirst 8 _ hx41) (fun _ hs => (Src.triv _)) rfl [0, 0, 0, 0, 0] (rfl) ?_
      refine TD.nil (X.blk (X.seq (T.region rfl ?_)))
      refine TL.q rfl .u (Ex.add rfl rfl (by omega)) rfl ?_
      refine TL.run ft_prefix_ok [1] rfl rfl ?_
      refine TL.nil ?_
      refine X.sel [0, 1, 1, 1, 1] rfl ?_
      refine X.un (TW.step (T.seq (T.region rfl ?_)))
      refine TL.run ft_prefix_ok [0] rfl rfl ?_
      refine TL.nil (X.seq (T.seq ?_))
      refine T.yes rfl (decide_eq_true (show 8 < 13 by omega)) ?_
      refine T.skip (X.seq (T.seq (T.block (T.seq (T.region rfl ?_)))))
      refine TL.q rfl .u (Ex.ixL (k := 8) (r := 16) rfl rfl rfl Try.runUnderlying123 Try.sizeOf127 (by decide) rfl) rfl ?_
      refine TL.q rfl .u (Ex.bS (us := [.pointer (some ⟨b1, 7, none⟩), .int .i64 8]) 1 rfl Try.isAgg127 Try.sizeOf127 rfl rfl rfl) rfl ?_
      refine TL.alloc rfl .u Try.zeroValue127 rfl (fun b42 => ?_)
      refine TL.st0 (cs' := #[.pointer (some ⟨b1, 7, none⟩), .int .i64 8]) rfl .u rfl rfl Try.sizeOf127 rfl rfl rfl rfl ?_
      refine TL.nil (X.seq (T.draw (.q 0 (.q 1 (.q 2 (.q 3 (.q 4 (.q 5 (.q 6 (.e 7 .nil)))))))) [0, 0, 0, 0, 0] rfl mix_prefix (NoP.blk (NoP.seq (NoP.seq (NoP.blk np_post)))) (by kernel_rfl) ?_))
      refine TD.run ft_prefix_ok [0, 1] rfl rfl ?_
      refine TD.q rfl .u (Ex.b1 0 rfl Try.isAgg125 rfl rfl) rfl ?_
      refine TD.run ft_prefix_ok [3] rfl rfl ?_
      refine TD.q rfl .u (Ex.b1 4 rfl Try.isAgg3 rfl rfl) rfl ?_
      refine TD.run ft_prefix_ok [5] rfl rfl ?_
      refine TD.q rfl .u (Ex.b1 0 rfl Try.isAgg3 rfl rfl) rfl ?_
      obtain ⟨st43, hx44, h⟩ := Option.bind_eq_some_iff.1 h
      refine TD.c5 rfl .u (.fn Try.call34 rfl) (gOInt_spec g st40 a1.fMax 8 _ hx44) (fun _ hs => (Src.triv _)) rfl [0, 0, 0, 0, 0] (rfl) ?_
      refine TD.nil (X.blk (X.seq (T.region rfl ?_)))
      refine TL.q rfl .u (Ex.add rfl rfl (by omega)) rfl ?_
      refine TL.run ft_prefix_ok [1] rfl rfl ?_
      refine TL.nil ?_
      refine X.sel [0, 1, 1, 1, 1] rfl ?_
      refine X.un (TW.step (T.seq (T.region rfl ?_)))
      refine TL.run ft_prefix_ok [0] rfl rfl ?_
      refine TL.nil (X.seq (T.seq ?_))
      refine T.yes rfl (decide_eq_true (show 9 < 13 by omega)) ?_
      refine T.skip (X.seq (T.seq (T.block (T.seq (T.region rfl ?_)))))
      refine TL.q rfl .u (Ex.ixL (k := 9) (r := 18) rfl rfl rfl Try.runUnderlying123 Try.sizeOf127 (by decide) rfl) rfl ?_
      refine TL.q rfl .u (Ex.bS (us := [.pointer (some ⟨b1, 8, none⟩), .int .i64 8]) 1 rfl Try.isAgg127 Try.sizeOf127 rfl rfl rfl) rfl ?_
      refine TL.alloc rfl .u Try.zeroValue127 rfl (fun b45 => ?_)
      refine TL.st0 (cs' := #[.pointer (some ⟨b1, 8, none⟩), .int .i64 8]) rfl .u rfl rfl Try.sizeOf127 rfl rfl rfl rfl ?_
      refine TL.nil (X.seq (T.draw (.q 0 (.q 1 (.q 2 (.q 3 (.q 4 (.q 5 (.q 6 (.e 7 .nil)))))))) [0, 0, 0, 0, 0] rfl mix_prefix (NoP.blk (NoP.seq (NoP.seq (NoP.blk np_post)))) (by kernel_rfl) ?_))
      refine TD.run ft_prefix_ok [0, 1] rfl rfl ?_
      refine TD.q rfl .u (Ex.b1 0 rfl Try.isAgg125 rfl rfl) rfl ?_
      refine TD.run ft_prefix_ok [3] rfl rfl ?_
      refine TD.q rfl .u (Ex.b1 4 rfl Try.isAgg3 rfl rfl) rfl ?_
      refine TD.run ft_prefix_ok [5] rfl rfl ?_
      refine TD.q rfl .u (Ex.b1 0 rfl Try.isAgg3 rfl rfl) rfl ?_
      obtain ⟨st46, hx47, h⟩ := Option.bind_eq_some_iff.1 h
      refine TD.c5 rfl .u (.fn Try.call34 rfl) (gOInt_spec g st43 a1.fProducer 8 _ hx47) (fun _ hs => (Src.triv _)) rfl [0, 0, 0, 0, 0] (rfl) ?_
      refine TD.nil (X.blk (X.seq (T.region rfl ?_)))
      refine TL.q rfl .u (Ex.add rfl rfl (by omega)) rfl ?_
      refine TL.run ft_prefix_ok [1] rfl rfl ?_
      refine TL.nil ?_
      refine X.sel [0, 1, 1, 1, 1] rfl ?_
      refine X.un (TW.step (T.seq (T.region rfl ?_)))
      refine TL.run ft_prefix_ok [0] rfl rfl ?_
      refine TL.nil (X.seq (T.seq ?_))
      refine T.yes rfl (decide_eq_true (show 10 < 13 by omega)) ?_
      refine T.skip (X.seq (T.seq (T.block (T.seq (T.region rfl ?_)))))
      refine TL.q rfl .u (Ex.ixL (k := 10) (r := 20) rfl rfl rfl Try.runUnderlying123 Try.sizeOf127 (by decide) rfl) rfl ?_
      refine TL.q rfl .u (Ex.bS (us := [.pointer (some ⟨b1, 9, none⟩), .int .i64 2]) 1 rfl Try.isAgg127 Try.sizeOf127 rfl rfl rfl) rfl ?_
      refine TL.alloc rfl .u Try.zeroValue127 rfl (fun b48 => ?_)
      refine TL.st0 (cs' := #[.pointer (some ⟨b1, 9, none⟩), .int .i64 2]) rfl .u rfl rfl Try.sizeOf127 rfl rfl rfl rfl ?_
      refine TL.nil (X.seq (T.draw (.q 0 (.q 1 (.q 2 (.q 3 (.q 4 (.q 5 (.q 6 (.e 7 .nil)))))))) [0, 0, 0, 0, 0] rfl mix_prefix (NoP.blk (NoP.seq (NoP.seq (NoP.blk np_post)))) (by kernel_rfl) ?_))
      refine TD.run ft_prefix_ok [0, 1] rfl rfl ?_
      refine TD.q rfl .u (Ex.b1 0 rfl Try.isAgg125 rfl rfl) rfl ?_
      refine TD.run ft_prefix_ok [3] rfl rfl ?_
      refine TD.q rfl .u (Ex.b1 4 rfl Try.isAgg3 rfl rfl) rfl ?_
      refine TD.run ft_prefix_ok [5] rfl rfl ?_
      refine TD.q rfl .u (Ex.b1 0 rfl Try.isAgg3 rfl rfl) rfl ?_
      obtain ⟨st49, hx50, h⟩ := Option.bind_eq_some_iff.1 h
      refine TD.c5 rfl .u (.fn Try.call34 rfl) (gOInt_spec g st46 a1.fEpoch 2 _ hx50) (fun _ hs => (Src.triv _)) rfl [0, 0, 0, 0, 0] (rfl) ?_
      refine TD.nil (X.blk (X.seq (T.region rfl ?_)))
      refine TL.q rfl .u (Ex.add rfl rfl (by omega)) rfl ?_
      refine TL.run ft_prefix_ok [1] rfl rfl ?_
      refine TL.nil ?_
      refine X.sel [0, 1, 1, 1, 1] rfl ?_
      refine X.un (TW.step (T.seq (T.region rfl ?_)))
      refine TL.run ft_prefix_ok [0] rfl rfl ?_
      refine TL.nil (X.seq (T.seq ?_))
      refine T.yes rfl (decide_eq_true (show 11 < 13 by omega)) ?_
      refine T.skip (X.seq (T.seq (T.block (T.seq (T.region rfl ?_)))))
      refine TL.q rfl .u (Ex.ixL (k := 11) (r := 22) rfl rfl rfl Try.runUnderlying123 Try.sizeOf127 (by decide) rfl) rfl ?_
      refine TL.q rfl .u (Ex.bS (us := [.pointer (some ⟨b1, 10, none⟩), .int .i64 4]) 1 rfl Try.isAgg127 Try.sizeOf127 rfl rfl rfl) rfl ?_
      refine TL.alloc rfl .u Try.zeroValue127 rfl (fun b51 => ?_)
      refine TL.st0 (cs' := #[.pointer (some ⟨b1, 10, none⟩), .int .i64 4]) rfl .u rfl rfl Try.sizeOf127 rfl rfl rfl rfl ?_
      refine TL.nil (X.seq (T.draw (.q 0 (.q 1 (.q 2 (.q 3 (.q 4 (.q 5 (.q 6 (.e 7 .nil)))))))) [0, 0, 0, 0, 0] rfl mix_prefix (NoP.blk (NoP.seq (NoP.seq (NoP.blk np_post)))) (by kernel_rfl) ?_))
      refine TD.run ft_prefix_ok [0, 1] rfl rfl ?_
      refine TD.q rfl .u (Ex.b1 0 rfl Try.isAgg125 rfl rfl) rfl ?_
      refine TD.run ft_prefix_ok [3] rfl rfl ?_
      refine TD.q rfl .u (Ex.b1 4 rfl Try.isAgg3 rfl rfl) rfl ?_
      refine TD.run ft_prefix_ok [5] rfl rfl ?_
      refine TD.q rfl .u (Ex.b1 0 rfl Try.isAgg3 rfl rfl) rfl ?_
      obtain ⟨st52, hx53, h⟩ := Option.bind_eq_some_iff.1 h
      refine TD.c5 rfl .u (.fn Try.call34 rfl) (gOInt_spec g st49 a1.fSequence 4 _ hx53) (fun _ hs => (Src.triv _)) rfl [0, 0, 0, 0, 0] (rfl) ?_
      refine TD.nil (X.blk (X.seq (T.region rfl ?_)))
      refine TL.q rfl .u (Ex.add rfl rfl (by omega)) rfl ?_
      refine TL.run ft_prefix_ok [1] rfl rfl ?_
      refine TL.nil ?_
      refine X.sel [0, 1, 1, 1, 1] rfl ?_
      refine X.un (TW.step (T.seq (T.region rfl ?_)))
      refine TL.run ft_prefix_ok [0] rfl rfl ?_
      refine TL.nil (X.seq (T.seq ?_))
      refine T.yes rfl (decide_eq_true (show 12 < 13 by omega)) ?_
      refine T.skip (X.seq (T.seq (T.block (T.seq (T.region rfl ?_)))))
      refine TL.q rfl .u (Ex.ixL (k := 12) (r := 24) rfl rfl rfl Try.runUnderlying123 Try.sizeOf127 (by decide) rfl) rfl ?_
      refine TL.q rfl .u (Ex.bS (us := [.pointer (some ⟨b1, 11, none⟩), .int .i64 4]) 1 rfl Try.isAgg127 Try.sizeOf127 rfl rfl rfl) rfl ?_
      refine TL.alloc rfl .u Try.zeroValue127 rfl (fun b54 => ?_)
      refine TL.st0 (cs' := #[.pointer (some ⟨b1, 11, none⟩), .int .i64 4]) rfl .u rfl rfl Try.sizeOf127 rfl rfl rfl rfl ?_
      refine TL.nil (X.seq (T.draw (.q 0 (.q 1 (.q 2 (.q 3 (.q 4 (.q 5 (.q 6 (.e 7 .nil)))))))) [0, 0, 0, 0, 0] rfl mix_prefix (NoP.blk (NoP.seq (NoP.seq (NoP.blk np_post)))) (by kernel_rfl) ?_))
      refine TD.run ft_prefix_ok [0, 1] rfl rfl ?_
      refine TD.q rfl .u (Ex.b1 0 rfl Try.isAgg125 rfl rfl) rfl ?_
      refine TD.run ft_prefix_ok [3] rfl rfl ?_
      refine TD.q rfl .u (Ex.b1 4 rfl Try.isAgg3 rfl rfl) rfl ?_
      refine TD.run ft_prefix_ok [5] rfl rfl ?_
      refine TD.q rfl .u (Ex.b1 0 rfl Try.isAgg3 rfl rfl) rfl ?_
      obtain ⟨st55, hx56, h⟩ := Option.bind_eq_some_iff.1 h
      refine TD.c5 rfl .u (.fn Try.call34 rfl) (gOInt_spec g st52 a1.fCount 4 _ hx56) (fun _ hs => (Src.triv _)) rfl [0, 0, 0, 0, 0] (rfl) ?_
      refine TD.nil (X.blk (X.seq (T.region rfl ?_)))
      refine TL.q rfl .u (Ex.add rfl rfl (by omega)) rfl ?_
      refine TL.run ft_prefix_ok [1] rfl rfl ?_
      refine TL.nil ?_
      refine X.sel [0, 1, 1, 1, 1] rfl ?_
      refine X.un (TW.step (T.seq (T.region rfl ?_)))
      refine TL.run ft_prefix_ok [0] rfl rfl ?_
      refine TL.nil (X.seq (T.seq ?_))
      refine T.no rfl (decide_eq_false (show ¬ (13 < 13) by omega)) ?_
      obtain rfl := Option.some.inj h
      exact T.exit (X.exs (X.exs (X.ex (X.done0 [4] Try.results23 ⟨rfl, rfl, rfl⟩ (by rfl) (.inr rfl)))))
def f_prefix_Read (st : I)  : Option (Pfx × I) := (gInt st 8).bind fun (x6, st7) => (gInt st7 4).bind fun (x10, st11) => (gInt st11 4).bind fun (x14, st15) => (gInt st15 1).bind fun (x18, st19) => (gInt st19 4).bind fun (x22, st23) => (gInt st23 2).bind fun (x26, st27) => (gInt st27 4).bind fun (x30, st31) => (gInt st31 8).bind fun (x34, st35) => (gInt st35 8).bind fun (x38, st39) => (gInt st39 8).bind fun (x42, st43) => (gInt st43 2).bind fun (x46, st47) => (gInt st47 4).bind fun (x50, st51) => (gInt st51 4).bind fun (x54, st55) => (gErr st55).bind fun (x57, st58) => (if x57 = 0 then ((if x18 = 2 then ((if x10 < 49 then ((gIFail st58 4).bind fun st164 => some st164) else ((if x54 < 0 then ((gIFail st58 10).bind fun st172 => some st172) else some st58).bind fun st169 => some st169)).bind fun st161 => some st161) else ((gIFail st58 6).bind fun st174 => some st174)).bind fun st147 => some st147) else some st58).bind fun st117 => (gErr st117).bind fun (x176, st177) => if x176 = 0 then (some ((⟨x6, x10, x14, (Go.bits .and .i64 x22 4294967295), x26, x30, x34, x38, x42, x46, x50, x54⟩ : Pfx), st177)) else (some ((⟨0, 0, 0, 0, 0, 0, 0, 0, 0, 0, 0, 0⟩ : Pfx), st177))
set_option maxRecDepth 100000 in
set_option maxHeartbeats 4000000 in
theorem f_prefix_Read_spec (g : Nat) (st : I)  (r : Pfx × I) (h : f_prefix_Read st  = some r) : SpecX Try.prog 28 #[.pointer (some ⟨g, 0, none⟩)] .triv (InR g st) (fun v A' N => v = .agg #[.int .i64 r.1.fBase, .int .i64 r.1.fLength, .int .i64 r.1.fLeader, .int .i64 r.1.fSum, .int .i64 r.1.fAttr, .int .i64 r.1.fLast, .int .i64 r.1.fFirst, .int .i64 r.1.fMax, .int .i64 r.1.fProducer, .int .i64 r.1.fEpoch, .int .i64 r.1.fSequence, .int .i64 r.1.fCount] ∧ A' = InR g r.2 ∧ N = []) := by
  refine enterA Try.func28 rfl Try.ntmps28 rfl ?_
  intro F w hX
  unfold f_prefix_Read at h
  refine T.seq (T.region rfl ?_)
  refine TL.alloc rfl .u Try.zeroValue38 rfl (fun b1 => ?_)
  refine TL.nil (X.seq (T.seq (T.region rfl ?_)))
  refine TL.alloc rfl .u Try.zeroValue38 rfl (fun b2 => ?_)
  refine TL.nil (X.seq (T.seq (T.region rfl ?_)))
  refine TL.alloc rfl .u Try.zeroValue3 rfl (fun b3 => ?_)
  refine TL.st0 (cs' := #[.int .i64 0]) rfl .u rfl rfl Try.sizeOf3 rfl rfl rfl rfl ?_
  refine TL.nil (X.seq (T.seq (T.seq (T.region rfl ?_))))
  refine TL.cge rfl .u (.fn Try.call75 rfl) (f_prefix_PrefixFields_spec b2 b3 () rfl) (fun _ hs => RX.reads_triv _ _) rfl ?_
  rintro _ _ _ ⟨b4, rfl, rfl, rfl⟩
  refine TL.sel [0, 0, 0, 0, 0] rfl ?_
  refine TL.q rfl .u (Ex.lenS rfl Try.runUnderlying123) rfl ?_
  refine TL.run ft_prefix_ok [2] rfl rfl ?_
  refine TL.nil (X.seq (T.block ?_))
  refine T.unroll0 (TW.step (T.seq (T.region rfl ?_)))
  refine TL.run ft_prefix_ok [0] rfl rfl ?_
  refine TL.nil (X.seq (T.seq ?_))
  refine T.yes rfl (decide_eq_true (show 0 < 13 by omega)) ?_
  refine T.skip (X.seq (T.seq (T.block (T.seq (T.region rfl ?_)))))
  refine TL.q rfl .u (Ex.ixL (k := 0) (r := 0) rfl rfl rfl Try.runUnderlying123 Try.sizeOf127 (by decide) rfl) rfl ?_
  refine TL.q rfl .u (Ex.bS (us := [.pointer (some ⟨b2, 0, none⟩), .int .i64 8]) 0 rfl Try.isAgg127 Try.sizeOf127 rfl rfl rfl) rfl ?_
  refine TL.alloc rfl .u Try.zeroValue127 rfl (fun b5 => ?_)
  refine TL.st0 (cs' := #[.pointer (some ⟨b2, 0, none⟩), .int .i64 8]) rfl .u rfl rfl Try.sizeOf127 rfl rfl rfl rfl ?_
  refine TL.nil (X.seq (T.draw (.q 0 (.q 1 (.q 2 (.q 3 (.q 4 (.e 5 (.q 6 (.e 7 .nil)))))))) [0, 0, 0, 1] rfl mix_prefix (NoP.blk (NoP.seq (NoP.seq (NoP.blk (NoP.seq np_post))))) (by kernel_rfl) ?_))
  refine TD.run ft_prefix_ok [0] rfl rfl ?_
  refine TD.q rfl .u (Ex.b1 0 rfl Try.isAgg125 rfl rfl) rfl ?_
  refine TD.run ft_prefix_ok [2, 3] rfl rfl ?_
  refine TD.q rfl .u (Ex.b1 0 rfl Try.isAgg3 rfl rfl) rfl ?_
  obtain ⟨⟨x6, st7⟩, hx8, h⟩ := Option.bind_eq_some_iff.1 h
  try dsimp only at h
  refine TD.c5 rfl .u (.fn Try.call37 rfl) (gInt_spec g st 8 _ hx8) (fun _ hs => (Src.triv _)) rfl [0, 0, 0, 1] (rfl) ?_
  refine TD.run ft_prefix_ok [6] rfl rfl ?_
  refine TD.st3 (cs' := #[.int .i64 x6, .int .i64 0, .int .i64 0, .int .i64 0, .int .i64 0, .int .i64 0, .int .i64 0, .int .i64 0, .int .i64 0, .int .i64 0, .int .i64 0, .int .i64 0]) rfl .u rfl rfl Try.sizeOf3 rfl rfl rfl rfl [0, 0, 0, 1] (rfl) ?_
  refine TD.nil (X.blk (X.seq (T.region rfl ?_)))
  refine TL.q rfl .u (Ex.add rfl rfl (by omega)) rfl ?_
  refine TL.run ft_prefix_ok [1] rfl rfl ?_
  refine TL.nil (X.un (TW.step (T.seq (T.region rfl ?_))))
  refine TL.run ft_prefix_ok [0] rfl rfl ?_
  refine TL.nil (X.seq (T.seq ?_))
  refine T.yes rfl (decide_eq_true (show 1 < 13 by omega)) ?_
  refine T.skip (X.seq (T.seq (T.block (T.seq (T.region rfl ?_)))))
  refine TL.q rfl .u (Ex.ixL (k := 1) (r := 2) rfl rfl rfl Try.runUnderlying123 Try.sizeOf127 (by decide) rfl) rfl ?_
  refine TL.q rfl .u (Ex.bS (us := [.pointer (some ⟨b2, 1, none⟩), .int .i64 4]) 1 rfl Try.isAgg127 Try.sizeOf127 rfl rfl rfl) rfl ?_
  refine TL.alloc rfl .u Try.zeroValue127 rfl (fun b9 => ?_)
  refine TL.st0 (cs' := #[.pointer (some ⟨b2, 1, none⟩), .int .i64 4]) rfl .u rfl rfl Try.sizeOf127 rfl rfl rfl rfl ?_
  refine TL.nil (X.seq (T.draw (.q 0 (.q 1 (.q 2 (.q 3 (.q 4 (.e 5 (.q 6 (.e 7 .nil)))))))) [0, 0, 0, 0, 1] rfl mix_prefix (NoP.blk (NoP.seq (NoP.seq (NoP.blk (NoP.seq np_post))))) (by kernel_rfl) ?_))
  refine TD.run ft_prefix_ok [0] rfl rfl ?_
  refine TD.q rfl .u (Ex.b1 0 rfl Try.isAgg125 rfl rfl) rfl ?_
  refine TD.run ft_prefix_ok [2, 3] rfl rfl ?_
  refine TD.q rfl .u (Ex.b1 0 rfl Try.isAgg3 rfl rfl) rfl ?_
  obtain ⟨⟨x10, st11⟩, hx12, h⟩ := Option.bind_eq_some_iff.1 h
  try dsimp only at h
  refine TD.c6 rfl .u (.fn Try.call37 rfl) (gInt_spec g st7 4 _ hx12) (fun _ hs => (Src.triv _)) rfl [0, 0, 0, 0, 1] (rfl) ?_
  refine TD.run ft_prefix_ok [6] rfl rfl ?_
  refine TD.st4 (cs' := #[.int .i64 x6, .int .i64 x10, .int .i64 0, .int .i64 0, .int .i64 0, .int .i64 0, .int .i64 0, .int .i64 0, .int .i64 0, .int .i64 0, .int .i64 0, .int .i64 0]) rfl .u rfl rfl Try.sizeOf3 rfl rfl rfl rfl [0, 0, 0, 0, 1] (rfl) ?_
  refine TD.nil (X.blk (X.seq (T.region rfl ?_)))
  refine TL.q rfl .u (Ex.add rfl rfl (by omega)) rfl ?_
  refine TL.run ft_prefix_ok [1] rfl rfl ?_
  refine TL.nil ?_
  refine X.sel [0, 1, 1, 1, 1, 1] rfl ?_
  refine X.un (TW.step (T.seq (T.region rfl ?_)))
  refine TL.run ft_prefix_ok [0] rfl rfl ?_
  refine TL.nil (X.seq (T.seq ?_))
  refine T.yes rfl (decide_eq_true (show 2 < 13 by omega)) ?_
  refine T.skip (X.seq (T.seq (T.block (T.seq (T.region rfl ?_)))))
  refine TL.q rfl .u (Ex.ixL (k := 2) (r := 4) rfl rfl rfl Try.runUnderlying123 Try.sizeOf127 (by decide) rfl) rfl ?_
  refine TL.q rfl .u (Ex.bS (us := [.pointer (some ⟨b2, 2, none⟩), .int .i64 4]) 1 rfl Try.isAgg127 Try.sizeOf127 rfl rfl rfl) rfl ?_
  refine TL.alloc rfl .u Try.zeroValue127 rfl (fun b13 => ?_)
  refine TL.st0 (cs' := #[.pointer (some ⟨b2, 2, none⟩), .int .i64 4]) rfl .u rfl rfl Try.sizeOf127 rfl rfl rfl rfl ?_
  refine TL.nil (X.seq (T.draw (.q 0 (.q 1 (.q 2 (.q 3 (.q 4 (.e 5 (.q 6 (.e 7 .nil)))))))) [0, 0, 0, 0, 1] rfl mix_prefix (NoP.blk (NoP.seq (NoP.seq (NoP.blk (NoP.seq np_post))))) (by kernel_rfl) ?_))
  refine TD.run ft_prefix_ok [0] rfl rfl ?_
  refine TD.q rfl .u (Ex.b1 0 rfl Try.isAgg125 rfl rfl) rfl ?_
  refine TD.run ft_prefix_ok [2, 3] rfl rfl ?_
  refine TD.q rfl .u (Ex.b1 0 rfl Try.isAgg3 rfl rfl) rfl ?_
  obtain ⟨⟨x14, st15⟩, hx16, h⟩ := Option.bind_eq_some_iff.1 h
  try dsimp only at h
  refine TD.c6 rfl .u (.fn Try.call37 rfl) (gInt_spec g st11 4 _ hx16) (fun _ hs => (Src.triv _)) rfl [0, 0, 0, 0, 1] (rfl) ?_
  refine TD.run ft_prefix_ok [6] rfl rfl ?_
  refine TD.st4 (cs' := #[.int .i64 x6, .int .i64 x10, .int .i64 x14, .int .i64 0, .int .i64 0, .int .i64 0, .int .i64 0, .int .i64 0, .int .i64 0, .int .i64 0, .int .i64 0, .int .i64 0]) rfl .u rfl rfl Try.sizeOf3 rfl rfl rfl rfl [0, 0, 0, 0, 1] (rfl) ?_
  refine TD.nil (X.blk (X.seq (T.region rfl ?_)))
  refine TL.q rfl .u (Ex.add rfl rfl (by omega)) rfl ?_
  refine TL.run ft_prefix_ok [1] rfl rfl ?_
  refine TL.nil ?_
  refine X.sel [0, 1, 1, 1, 1, 1] rfl ?_
  refine X.un (TW.step (T.seq (T.region rfl ?_)))
  refine TL.run ft_prefix_ok [0] rfl rfl ?_
  refine TL.nil (X.seq (T.seq ?_))
  refine T.yes rfl (decide_eq_true (show 3 < 13 by omega)) ?_
  refine T.skip (X.seq (T.seq (T.block (T.seq (T.region rfl ?_)))))
  refine TL.q rfl .u (Ex.ixL (k := 3) (r := 6) rfl rfl rfl Try.runUnderlying123 Try.sizeOf127 (by decide) rfl) rfl ?_
  refine TL.q rfl .u (Ex.bS (us := [.pointer (some ⟨b3, 0, none⟩), .int .i64 1]) 1 rfl Try.isAgg127 Try.sizeOf127 rfl rfl rfl) rfl ?_
  refine TL.alloc rfl .u Try.zeroValue127 rfl (fun b17 => ?_)
  refine TL.st0 (cs' := #[.pointer (some ⟨b3, 0, none⟩), .int .i64 1]) rfl .u rfl rfl Try.sizeOf127 rfl rfl rfl rfl ?_
  refine TL.nil (X.seq (T.draw (.q 0 (.q 1 (.q 2 (.q 3 (.q 4 (.e 5 (.q 6 (.e 7 .nil)))))))) [0, 0, 0, 1, 1] rfl mix_prefix (NoP.blk (NoP.seq (NoP.seq (NoP.blk (NoP.seq np_post))))) (by kernel_rfl) ?_))
  refine TD.run ft_prefix_ok [0] rfl rfl ?_
  refine TD.q rfl .u (Ex.b1 0 rfl Try.isAgg125 rfl rfl) rfl ?_
  refine TD.run ft_prefix_ok [2, 3] rfl rfl ?_
  refine TD.q rfl .u (Ex.b1 0 rfl Try.isAgg3 rfl rfl) rfl ?_
  obtain ⟨⟨x18, st19⟩, hx20, h⟩ := Option.bind_eq_some_iff.1 h
  try dsimp only at h
  refine TD.c6 rfl .u (.fn Try.call37 rfl) (gInt_spec g st15 1 _ hx20) (fun _ hs => (Src.triv _)) rfl [0, 0, 0, 1, 1] (rfl) ?_
  refine TD.run ft_prefix_ok [6] rfl rfl ?_
  refine TD.st3 (cs' := #[.int .i64 x18]) rfl .u rfl rfl Try.sizeOf3 rfl rfl rfl rfl [0, 0, 0, 1, 1] (rfl) ?_
  refine TD.nil (X.blk (X.seq (T.region rfl ?_)))
  refine TL.q rfl .u (Ex.add rfl rfl (by omega)) rfl ?_
  refine TL.run ft_prefix_ok [1] rfl rfl ?_
  refine TL.nil ?_
  refine X.sel [0, 1, 1, 1, 1, 1] rfl ?_
  refine X.un (TW.step (T.seq (T.region rfl ?_)))
  refine TL.run ft_prefix_ok [0] rfl rfl ?_
  refine TL.nil (X.seq (T.seq ?_))
  refine T.yes rfl (decide_eq_true (show 4 < 13 by omega)) ?_
  refine T.skip (X.seq (T.seq (T.block (T.seq (T.region rfl ?_)))))
  refine TL.q rfl .u (Ex.ixL (k := 4) (r := 8) rfl rfl rfl Try.runUnderlying123 Try.sizeOf127 (by decide) rfl) rfl ?_
  refine TL.q rfl .u (Ex.bS (us := [.pointer (some ⟨b2, 3, none⟩), .int .i64 4]) 1 rfl Try.isAgg127 Try.sizeOf127 rfl rfl rfl) rfl ?_
  refine TL.alloc rfl .u Try.zeroValue127 rfl (fun b21 => ?_)
  refine TL.st0 (cs' := #[.pointer (some ⟨b2, 3, none⟩), .int .i64 4]) rfl .u rfl rfl Try.sizeOf127 rfl rfl rfl rfl ?_
  refine TL.nil (X.seq (T.draw (.q 0 (.q 1 (.q 2 (.q 3 (.q 4 (.e 5 (.q 6 (.e 7 .nil)))))))) [0, 0, 0, 0, 1] rfl mix_prefix (NoP.blk (NoP.seq (NoP.seq (NoP.blk (NoP.seq np_post))))) (by kernel_rfl) ?_))
  refine TD.run ft_prefix_ok [0] rfl rfl ?_
  refine TD.q rfl .u (Ex.b1 0 rfl Try.isAgg125 rfl rfl) rfl ?_
  refine TD.run ft_prefix_ok [2, 3] rfl rfl ?_
  refine TD.q rfl .u (Ex.b1 0 rfl Try.isAgg3 rfl rfl) rfl ?_
  obtain ⟨⟨x22, st23⟩, hx24, h⟩ := Option.bind_eq_some_iff.1 h
  try dsimp only at h
  refine TD.c6 rfl .u (.fn Try.call37 rfl) (gInt_spec g st19 4 _ hx24) (fun _ hs => (Src.triv _)) rfl [0, 0, 0, 0, 1] (rfl) ?_
  refine TD.run ft_prefix_ok [6] rfl rfl ?_
  refine TD.st4 (cs' := #[.int .i64 x6, .int .i64 x10, .int .i64 x14, .int .i64 x22, .int .i64 0, .int .i64 0, .int .i64 0, .int .i64 0, .int .i64 0, .int .i64 0, .int .i64 0, .int .i64 0]) rfl .u rfl rfl Try.sizeOf3 rfl rfl rfl rfl [0, 0, 0, 0, 1] (rfl) ?_
  refine TD.nil (X.blk (X.seq (T.region rfl ?_)))
  refine TL.q rfl .u (Ex.add rfl rfl (by omega)) rfl ?_
  refine TL.run ft_prefix_ok [1] rfl rfl ?_
  refine TL.nil ?_
  refine X.sel [0, 1, 1, 1, 1, 1] rfl ?_
  refine X.un (TW.step (T.seq (T.region rfl ?_)))
  refine TL.run ft_prefix_ok [0] rfl rfl ?_
  refine TL.nil (X.seq (T.seq ?_))
  refine T.yes rfl (decide_eq_true (show 5 < 13 by omega)) ?_
  refine T.skip (X.seq (T.seq (T.block (T.seq (T.region rfl ?_)))))
  refine TL.q rfl .u (Ex.ixL (k := 5) (r := 10) rfl rfl rfl Try.runUnderlying123 Try.sizeOf127 (by decide) rfl) rfl ?_
  refine TL.q rfl .u (Ex.bS (us := [.pointer (some ⟨b2, 4, none⟩), .int .i64 2]) 1 rfl Try.isAgg127 Try.sizeOf127 rfl rfl rfl) rfl ?_
  refine TL.alloc rfl .u Try.zeroValue127 rfl (fun b25 => ?_)
  refine TL.st0 (cs' := #[.pointer (some ⟨b2, 4, none⟩), .int .i64 2]) rfl .u rfl rfl Try.sizeOf127 rfl rfl rfl rfl ?_
  refine TL.nil (X.seq (T.draw (.q 0 (.q 1 (.q 2 (.q 3 (.q 4 (.e 5 (.q 6 (.e 7 .nil)))))))) [0, 0, 0, 0, 1] rfl mix_prefix (NoP.blk (NoP.seq (NoP.seq (NoP.blk (NoP.seq np_post))))) (by kernel_rfl) ?_))
  refine TD.run ft_prefix_ok [0] rfl rfl ?_
  refine TD.q rfl .u (Ex.b1 0 rfl Try.isAgg125 rfl rfl) rfl ?_
  refine TD.run ft_prefix_ok [2, 3] rfl rfl ?_
  refine TD.q rfl .u (Ex.b1 0 rfl Try.isAgg3 rfl rfl) rfl ?_
  obtain ⟨⟨x26, st27⟩, hx28, h⟩ := Option.bind_eq_some_iff.1 h
  try dsimp only at h
  refine TD.c6 rfl .u (.fn Try.call37 rfl) (gInt_spec g st23 2 _ hx28) (fun _ hs => (Src.triv _)) rfl [0, 0, 0, 0, 1] (rfl) ?_
  refine TD.run ft_prefix_ok [6] rfl rfl ?_
  refine TD.st4 (cs' := #[.int .i64 x6, .int .i64 x10, .int .i64 x14, .int .i64 x22, .int .i64 x26, .int .i64 0, .int .i64 0, .int .i64 0, .int .i64 0, .int .i64 0, .int .i64 0, .int .i64 0]) rfl .u rfl rfl Try.sizeOf3 rfl rfl rfl rfl [0, 0, 0, 0, 1] (rfl) ?_
  refine TD.nil (X.blk (X.seq (T.region rfl ?_)))
  refine TL.q rfl .u (Ex.add rfl rfl (by omega)) rfl ?_
  refine TL.run ft_prefix_ok [1] rfl rfl ?_
  refine TL.nil ?_
  refine X.sel [0, 1, 1, 1, 1, 1] rfl ?_
  refine X.un (TW.step (T.seq (T.region rfl ?_)))
  refine TL.run ft_prefix_ok [0] rfl rfl ?_
  refine TL.nil (X.seq (T.seq ?_))
  refine T.yes rfl (decide_eq_true (show 6 < 13 by omega)) ?_
  refine T.skip (X.seq (T.seq (T.block (T.seq (T.region rfl ?_)))))
  refine TL.q rfl .u (Ex.ixL (k := 6) (r := 12) rfl rfl rfl Try.runUnderlying123 Try.sizeOf127 (by decide) rfl) rfl ?_
  refine TL.q rfl .u (Ex.bS (us := [.pointer (some ⟨b2, 5, none⟩), .int .i64 4]) 1 rfl Try.isAgg127 Try.sizeOf127 rfl rfl rfl) rfl ?_
  refine TL.alloc rfl .u Try.zeroValue127 rfl (fun b29 => ?_)
  refine TL.st0 (cs' := #[.pointer (some ⟨b2, 5, none⟩), .int .i64 4]) rfl .u rfl rfl Try.sizeOf127 rfl rfl rfl rfl ?_
  refine TL.nil (X.seq (T.draw (.q 0 (.q 1 (.q 2 (.q 3 (.q 4 (.e 5 (.q 6 (.e 7 .nil)))))))) [0, 0, 0, 0, 1] rfl mix_prefix (NoP.blk (NoP.seq (NoP.seq (NoP.blk (NoP.seq np_post))))) (by kernel_rfl) ?_))
  refine TD.run ft_prefix_ok [0] rfl rfl ?_
  refine TD.q rfl .u (Ex.b1 0 rfl Try.isAgg125 rfl rfl) rfl ?_
  refine TD.run ft_prefix_ok [2, 3] rfl rfl ?_
  refine TD.q rfl .u (Ex.b1 0 rfl Try.isAgg3 rfl rfl) rfl ?_
  obtain ⟨⟨x30, st31⟩, hx32, h⟩ := Option.bind_eq_some_iff.1 h
  try dsimp only at h
  refine TD.c6 rfl .u (.fn Try.call37 rfl) (gInt_spec g st27 4 _ hx32) (fun _ hs => (Src.triv _)) rfl [0, 0, 0, 0, 1] (rfl) ?_
  refine TD.run ft_prefix_ok [6] rfl rfl ?_
  refine TD.st4 (cs' := #[.int .i64 x6, .int .i64 x10, .int .i64 x14, .int .i64 x22, .int .i64 x26, .int .i64 x30, .int .i64 0, .int .i64 0, .int .i64 0, .int .i64 0, .int .i64 0, .int .i64 0]) rfl .u rfl rfl Try.sizeOf3 rfl rfl rfl rfl [0, 0, 0, 0, 1] (rfl) ?_
  refine TD.nil (X.blk (X.seq (T.region rfl ?_)))
  refine TL.q rfl .u (Ex.add rfl rfl (by omega)) rfl ?_
  refine TL.run ft_prefix_ok [1] rfl rfl ?_
  refine TL.nil ?_
  refine X.sel [0, 1, 1, 1, 1, 1] rfl ?_
  refine X.un (TW.step (T.seq (T.region rfl ?_)))
  refine TL.run ft_prefix_ok [0] rfl rfl ?_
  refine TL.nil (X.seq (T.seq ?_))
  refine T.yes rfl (decide_eq_true (show 7 < 13 by omega)) ?_
  refine T.skip (X.seq (T.seq (T.block (T.seq (T.region rfl ?_)))))
  refine TL.q rfl .u (Ex.ixL (k := 7) (r := 14) rfl rfl rfl Try.runUnderlying123 Try.sizeOf127 (by decide) rfl) rfl ?_
  refine TL.q rfl .u (Ex.bS (us := [.pointer (some ⟨b2, 6, none⟩), .int .i64 8]) 1 rfl Try.isAgg127 Try.sizeOf127 rfl rfl rfl) rfl ?_
  refine TL.alloc rfl .u Try.zeroValue127 rfl (fun b33 => ?_)
  refine TL.st0 (cs' := #[.pointer (some ⟨b2, 6, none⟩), .int .i64 8]) rfl .u rfl rfl Try.sizeOf127 rfl rfl rfl rfl ?_
  refine TL.nil (X.seq (T.draw (.q 0 (.q 1 (.q 2 (.q 3 (.q 4 (.e 5 (.q 6 (.e 7 .nil)))))))) [0, 0, 0, 0, 1] rfl mix_prefix (NoP.blk (NoP.seq (NoP.seq (NoP.blk (NoP.seq np_post))))) (by kernel_rfl) ?_))
  refine TD.run ft_prefix_ok [0] rfl rfl ?_
  refine TD.q rfl .u (Ex.b1 0 rfl Try.isAgg125 rfl rfl) rfl ?_
  refine TD.run ft_prefix_ok [2, 3] rfl rfl ?_
  refine TD.q rfl .u (Ex.b1 0 rfl Try.isAgg3 rfl rfl) rfl ?_
  obtain ⟨⟨x34, st35⟩, hx36, h⟩ := Option.bind_eq_some_iff.1 h
  try dsimp only at h
  refine TD.c6 rfl .u (.fn Try.call37 rfl) (gInt_spec g st31 8 _ hx36) (fun _ hs => (Src.triv _)) rfl [0, 0, 0, 0, 1] (rfl) ?_
  refine TD.run ft_prefix_ok [6] rfl rfl ?_
  refine TD.st4 (cs' := #[.int .i64 x6, .int .i64 x10, .int .i64 x14, .int .i64 x22, .int .i64 x26, .int .i64 x30, .int .i64 x34, .int .i64 0, .int .i64 0, .int .i64 0, .int .i64 0, .int .i64 0]) rfl .u rfl rfl Try.sizeOf3 rfl rfl rfl rfl [0, 0, 0, 0, 1] (rfl) ?_
  refine TD.nil (X.blk (X.seq (T.region rfl ?_)))
  refine TL.q rfl .u (Ex.add rfl rfl (by omega)) rfl ?_
  refine TL.run ft_prefix_ok [1] rfl rfl ?_
  refine TL.nil ?_
  refine X.sel [0, 1, 1, 1, 1, 1] rfl ?_
  refine X.un (TW.step (T.seq (T.region rfl ?_)))
  refine TL.run ft_prefix_ok [0] rfl rfl ?_
  refine TL.nil (X.seq (T.seq ?_))
  refine T.yes rfl (decide_eq_true (show 8 < 13 by omega)) ?_
  refine T.skip (X.seq (T.seq (T.block (T.seq (T.region rfl ?_)))))
  refine TL.q rfl .u (Ex.ixL (k := 8) (r := 16) rfl rfl rfl Try.runUnderlying123 Try.sizeOf127 (by decide) rfl) rfl ?_
  refine TL.q rfl .u (Ex.bS (us := [.pointer (some ⟨b2, 7, none⟩), .int .i64 8]) 1 rfl Try.isAgg127 Try.sizeOf127 rfl rfl rfl) rfl ?_
  refine TL.alloc rfl .u Try.zeroValue127 rfl (fun b37 => ?_)
  refine TL.st0 (cs' := #[.pointer (some ⟨b2, 7, none⟩), .int .i64 8]) rfl .u rfl rfl Try.sizeOf127 rfl rfl rfl rfl ?_
  refine TL.nil (X.seq (T.draw (.q 0 (.q 1 (.q 2 (.q 3 (.q 4 (.e 5 (.q 6 (.e 7 .nil)))))))) [0, 0, 0, 0, 1] rfl mix_prefix (NoP.blk (NoP.seq (NoP.seq (NoP.blk (NoP.seq np_post))))) (by kernel_rfl) ?_))
  refine TD.run ft_prefix_ok [0] rfl rfl ?_
  refine TD.q rfl .u (Ex.b1 0 rfl Try.isAgg125 rfl rfl) rfl ?_
  refine TD.run ft_prefix_ok [2, 3] rfl rfl ?_
  refine TD.q rfl .u (Ex.b1 0 rfl Try.isAgg3 rfl rfl) rfl ?_
  obtain ⟨⟨x38, st39⟩, hx40, h⟩ := Option.bind_eq_some_iff.1 h
  try dsimp only at h
  refine TD.c6 rfl .u (.fn Try.call37 rfl) (gInt_spec g st35 8 _ hx40) (fun _ hs => (Src.triv _)) rfl [0, 0, 0, 0, 1] (rfl) ?_
  refine TD.run ft_prefix_ok [6] rfl rfl ?_
  refine TD.st4 (cs' := #[.int .i64 x6, .int .i64 x10, .int .i64 x14, .int .i64 x22, .int .i64 x26, .int .i64 x30, .int .i64 x34, .int .i64 x38, .int .i64 0, .int .i64 0, .int .i64 0, .int .i64 0]) rfl .u rfl rfl Try.sizeOf3 rfl rfl rfl rfl [0, 0, 0, 0, 1] (rfl) ?_
  refine TD.nil (X.blk (X.seq (T.region rfl ?_)))
  refine TL.q rfl .u (Ex.add rfl rfl (by omega)) rfl ?_
  refine TL.run ft_prefix_ok [1] rfl rfl ?_
  refine TL.nil ?_
  refine X.sel [0, 1, 1, 1, 1, 1] rfl ?_
  refine X.un (TW.step (T.seq (T.region rfl ?_)))
  refine TL.run ft_prefix_ok [0] rfl rfl ?_
  refine TL.nil (X.seq (T.seq ?_))
  refine T.yes rfl (decide_eq_true (show 9 < 13 by omega)) ?_
  refine T.skip (X.seq (T.seq (T.block (T.seq (T.region rfl ?_)))))
  refine TL.q rfl .u (Ex.ixL (k := 9) (r := 18) rfl rfl rfl Try.runUnderlying123 Try.sizeOf127 (by decide) rfl) rfl ?_
  refine TL.q rfl .u (Ex.bS (us := [.pointer (some ⟨b2, 8, none⟩), .int .i64 8]) 1 rfl Try.isAgg127 Try.sizeOf127 rfl rfl rfl) rfl ?_
  refine TL.alloc rfl .u Try.zeroValue127 rfl (fun b41 => ?_)
  refine TL.st0 (cs' := #[.pointer (some ⟨b2, 8, none⟩), .int .i64 8]) rfl .u rfl rfl Try.sizeOf127 rfl rfl rfl rfl ?_
  refine TL.nil (X.seq (T.draw (.q 0 (.q 1 (.q 2 (.q 3 (.q 4 (.e 5 (.q 6 (.e 7 .nil)))))))) [0, 0, 0, 0, 1] rfl mix_prefix (NoP.blk (NoP.seq (NoP.seq (NoP.blk (NoP.seq np_post))))) (by kernel_rfl) ?_))
  refine TD.run ft_prefix_ok [0] rfl rfl ?_
  refine TD.q rfl .u (Ex.b1 0 rfl Try.isAgg125 rfl rfl) rfl ?_
  refine TD.run ft_prefix_ok [2, 3] rfl rfl ?_
  refine TD.q rfl .u (Ex.b1 0 rfl Try.isAgg3 rfl rfl) rfl ?_
  obtain ⟨⟨x42, st43⟩, hx44, h⟩ := Option.bind_eq_some_iff.1 h
  try dsimp only at h
  refine TD.c6 rfl .u (.fn Try.call37 rfl) (gInt_spec g st39 8 _ hx44) (fun _ hs => (Src.triv _)) rfl [0, 0, 0, 0, 1] (rfl) ?_
  refine TD.run ft_prefix_ok [6] rfl rfl ?_
  refine TD.st4 (cs' := #[.int .i64 x6, .int .i64 x10, .int .i64 x14, .int .i64 x22, .int .i64 x26, .int .i64 x30, .int .i64 x34, .int .i64 x38, .int .i64 x42, .int .i64 0, .int .i64 0, .int .i64 0]) rfl .u rfl rfl Try.sizeOf3 rfl rfl rfl rfl [0, 0, 0, 0, 1] (rfl) ?_
  refine TD.nil (X.blk (X.seq (T.region rfl ?_)))
  refine TL.q rfl .u (Ex.add rfl rfl (by omega)) rfl ?_
  refine TL.run ft_prefix_ok [1] rfl rfl ?_
  refine TL.nil ?_
  refine X.sel [0, 1, 1, 1, 1, 1] rfl ?_
  refine X.un (TW.step (T.seq (T.region rfl ?_)))
  refine TL.run ft_prefix_ok [0] rfl rfl ?_
  refine TL.nil (X.seq (T.seq ?_))
  refine T.yes rfl (decide_eq_true (show 10 < 13 by omega)) ?_
  refine T.skip (X.seq (T.seq (T.block (T.seq (T.region rfl ?_)))))
  refine TL.q rfl .u (Ex.ixL (k := 10) (r := 20) rfl rfl rfl Try.runUnderlying123 Try.sizeOf127 (by decide) rfl) rfl ?_
  refine TL.q rfl .u (Ex.bS (us := [.pointer (some ⟨b2, 9, none⟩), .int .i64 2]) 1 rfl Try.isAgg127 Try.sizeOf127 rfl rfl rfl) rfl ?_
  refine TL.alloc rfl .u Try.zeroValue127 rfl (fun b45 => ?_)
  refine TL.st0 (cs' := #[.pointer (some ⟨b2, 9, none⟩), .int .i64 2]) rfl .u rfl rfl Try.sizeOf127 rfl rfl rfl rfl ?_
  refine TL.nil (X.seq (T.draw (.q 0 (.q 1 (.q 2 (.q 3 (.q 4 (.e 5 (.q 6 (.e 7 .nil)))))))) [0, 0, 0, 0, 1] rfl mix_prefix (NoP.blk (NoP.seq (NoP.seq (NoP.blk (NoP.seq np_post))))) (by kernel_rfl) ?_))
  refine TD.run ft_prefix_ok [0] rfl rfl ?_
  refine TD.q rfl .u (Ex.b1 0 rfl Try.isAgg125 rfl rfl) rfl ?_
  refine TD.run ft_prefix_ok [2, 3] rfl rfl ?_
  refine TD.q rfl .u (Ex.b1 0 rfl Try.isAgg3 rfl rfl) rfl ?_
  obtain ⟨⟨x46, st47⟩, hx48, h⟩ := Option.bind_eq_some_iff.1 h
  try dsimp only at h
  refine TD.c6 rfl .u (.fn Try.call37 rfl) (gInt_spec g st43 2 _ hx48) (fun _ hs => (Src.triv _)) rfl [0, 0, 0, 0, 1] (rfl) ?_
  refine TD.run ft_prefix_ok [6] rfl rfl ?_
  refine TD.st4 (cs' := #[.int .i64 x6, .int .i64 x10, .int .i64 x14, .int .i64 x22, .int .i64 x26, .int .i64 x30, .int .i64 x34, .int .i64 x38, .int .i64 x42, .int .i64 x46, .int .i64 0, .int .i64 0]) rfl .u rfl rfl Try.sizeOf3 rfl rfl rfl rfl [0, 0, 0, 0, 1] (rfl) ?_
  refine TD.nil (X.blk (X.seq (T.region rfl ?_)))
  refine TL.q rfl .u (Ex.add rfl rfl (by omega)) rfl ?_
  refine TL.run ft_prefix_ok [1] rfl rfl ?_
  refine TL.nil ?_
  refine X.sel [0, 1, 1, 1, 1, 1] rfl ?_
  refine X.un (TW.step (T.seq (T.region rfl ?_)))
  refine TL.run ft_prefix_ok [0] rfl rfl ?_
  refine TL.nil (X.seq (T.seq ?_))
  refine T.yes rfl (decide_eq_true (show 11 < 13 by omega)) ?_
  refine T.skip (X.seq (T.seq (T.block (T.seq (T.region rfl ?_)))))
  refine TL.q rfl .u (Ex.ixL (k := 11) (r := 22) rfl rfl rfl Try.runUnderlying123 Try.sizeOf127 (by decide) rfl) rfl ?_
  refine TL.q rfl .u (Ex.bS (us := [.pointer (some ⟨b2, 10, none⟩), .int .i64 4]) 1 rfl Try.isAgg127 Try.sizeOf127 rfl rfl rfl) rfl ?_
  refine TL.alloc rfl .u Try.zeroValue127 rfl (fun b49 => ?_)
  refine TL.st0 (cs' := #[.pointer (some ⟨b2, 10, none⟩), .int .i64 4]) rfl .u rfl rfl Try.sizeOf127 rfl rfl rfl rfl ?_
  refine TL.nil (X.seq (T.draw (.q 0 (.q 1 (.q 2 (.q 3 (.q 4 (.e 5 (.q 6 (.e 7 .nil)))))))) [0, 0, 0, 0, 1] rfl mix_prefix (NoP.blk (NoP.seq (NoP.seq (NoP.blk (NoP.seq np_post))))) (by kernel_rfl) ?_))
  refine TD.run ft_prefix_ok [0] rfl rfl ?_
  refine TD.q rfl .u (Ex.b1 0 rfl Try.isAgg125 rfl rfl) rfl ?_
  refine TD.run ft_prefix_ok [2, 3] rfl rfl ?_
  refine TD.q rfl .u (Ex.b1 0 rfl Try.isAgg3 rfl rfl) rfl ?_
  obtain ⟨⟨x50, st51⟩, hx52, h⟩ := Option.bind_eq_some_iff.1 h
  try dsimp only at h
  refine TD.c6 rfl .u (.fn Try.call37 rfl) (gInt_spec g st47 4 _ hx52) (fun _ hs => (Src.triv _)) rfl [0, 0, 0, 0, 1] (rfl) ?_
  refine TD.run ft_prefix_ok [6] rfl rfl ?_
  refine TD.st4 (cs' := #[.int .i64 x6, .int .i64 x10, .int .i64 x14, .int .i64 x22, .int .i64 x26, .int .i64 x30, .int .i64 x34, .int .i64 x38, .int .i64 x42, .int .i64 x46, .int .i64 x50, .int .i64 0]) rfl .u rfl rfl Try.sizeOf3 rfl rfl rfl rfl [0, 0, 0, 0, 1] (rfl) ?_
  refine TD.nil (X.blk (X.seq (T.region rfl ?_)))
  refine TL.q rfl .u (Ex.add rfl rfl (by omega)) rfl ?_
  refine TL.run ft_prefix_ok [1] rfl rfl ?_
  refine TL.nil ?_
  refine X.sel [0, 1, 1, 1, 1, 1] rfl ?_
  refine X.un (TW.step (T.seq (T.region rfl ?_)))
  refine TL.run ft_prefix_ok [0] rfl rfl ?_
  refine TL.nil (X.seq (T.seq ?_))
  refine T.yes rfl (decide_eq_true (show 12 < 13 by omega)) ?_
  refine T.skip (X.seq (T.seq (T.block (T.seq (T.region rfl ?_)))))
  refine TL.q rfl .u (Ex.ixL (k := 12) (r := 24) rfl rfl rfl Try.runUnderlying123 Try.sizeOf127 (by decide) rfl) rfl ?_
  refine TL.q rfl .u (Ex.bS (us := [.pointer (some ⟨b2, 11, none⟩), .int .i64 4]) 1 rfl Try.isAgg127 Try.sizeOf127 rfl rfl rfl) rfl ?_
  refine TL.alloc rfl .u Try.zeroValue127 rfl (fun b53 => ?_)
  refine TL.st0 (cs' := #[.pointer (some ⟨b2, 11, none⟩), .int .i64 4]) rfl .u rfl rfl Try.sizeOf127 rfl rfl rfl rfl ?_
  refine TL.nil (X.seq (T.draw (.q 0 (.q 1 (.q 2 (.q 3 (.q 4 (.e 5 (.q 6 (.e 7 .nil)))))))) [0, 0, 0, 0, 1] rfl mix_prefix (NoP.blk (NoP.seq (NoP.seq (NoP.blk (NoP.seq np_post))))) (by kernel_rfl) ?_))
  refine TD.run ft_prefix_ok [0] rfl rfl ?_
  refine TD.q rfl .u (Ex.b1 0 rfl Try.isAgg125 rfl rfl) rfl ?_
  refine TD.run ft_prefix_ok [2, 3] rfl rfl ?_
  refine TD.q rfl .u (Ex.b1 0 rfl Try.isAgg3 rfl rfl) rfl ?_
  obtain ⟨⟨x54, st55⟩, hx56, h⟩ := Option.bind_eq_some_iff.1 h
  try dsimp only at h
  refine TD.c6 rfl .u (.fn Try.call37 rfl) (gInt_spec g st51 4 _ hx56) (fun _ hs => (Src.triv _)) rfl [0, 0, 0, 0, 1] (rfl) ?_
  refine TD.run ft_prefix_ok [6] rfl rfl ?_
  refine TD.st4 (cs' := #[.int .i64 x6, .int .i64 x10, .int .i64 x14, .int .i64 x22, .int .i64 x26, .int .i64 x30, .int .i64 x34, .int .i64 x38, .int .i64 x42, .int .i64 x46, .int .i64 x50, .int .i64 x54]) rfl .u rfl rfl Try.sizeOf3 rfl rfl rfl rfl [0, 0, 0, 0, 1] (rfl) ?_
  refine TD.nil (X.blk (X.seq (T.region rfl ?_)))
  refine TL.q rfl .u (Ex.add rfl rfl (by omega)) rfl ?_
  refine TL.run ft_prefix_ok [1] rfl rfl ?_
  refine TL.nil ?_
  refine X.sel [0, 1, 1, 1, 1, 1] rfl ?_
  refine X.un (TW.step (T.seq (T.region rfl ?_)))
  refine TL.run ft_prefix_ok [0] rfl rfl ?_
  refine TL.nil (X.seq (T.seq ?_))
  refine T.no rfl (decide_eq_false (show ¬ (13 < 13) by omega)) ?_
  refine T.exit (X.exs (X.exs (X.ex (X.seq (T.seq (T.region rfl ?_))))))
  refine TL.run ft_prefix_ok [0] rfl rfl ?_
  refine TL.q rfl .u (Ex.b1 3 rfl Try.isAgg3 rfl rfl) rfl ?_
  refine TL.q rfl .u (Ex.bitw rfl rfl rfl) rfl ?_
  refine TL.run ft_prefix_ok [3] rfl rfl ?_
  refine TL.st3 (cs' := #[.int .i64 x6, .int .i64 x10, .int .i64 x14, .int .i64 (Go.bits .and .i64 x22 4294967295), .int .i64 x26, .int .i64 x30, .int .i64 x34, .int .i64 x38, .int .i64 x42, .int .i64 x46, .int .i64 x50, .int .i64 x54]) rfl .u rfl rfl Try.sizeOf3 rfl rfl rfl rfl ?_
  refine TL.nil (X.seq (T.seq (T.block (T.seq (T.region rfl ?_)))))
  obtain ⟨⟨x57, st58⟩, hx59, h⟩ := Option.bind_eq_some_iff.1 h
  try dsimp only at h
  refine TL.run ft_prefix_ok [0] rfl rfl ?_
  refine TL.c5 rfl .u (.fn Try.call29 rfl) (gErr_spec g st55 _ hx59) (fun _ hs => (Src.triv _)) rfl ?_
  refine TL.run ft_prefix_ok [2, 3] rfl rfl ?_
  refine TL.nil (X.seq ?_)
  obtain ⟨st117, h, hk118⟩ := Option.bind_eq_some_iff.1 h
  refine T.jq (fun e Rs => e = [(0, .pointer (some ⟨g, 0, none⟩)), (2, .pointer (some ⟨b1, 0, none⟩)), (3, .pointer (some ⟨b2, 0, none⟩))] ∧ Rs = [BlkR b53 127 #[.pointer (some ⟨b2, 11, none⟩), .int .i64 4], BlkR b4 127 #[.pointer (some ⟨b2, 0, none⟩), .int .i64 8, .pointer (some ⟨b2, 1, none⟩), .int .i64 4, .pointer (some ⟨b2, 2, none⟩), .int .i64 4, .pointer (some ⟨b3, 0, none⟩), .int .i64 1, .pointer (some ⟨b2, 3, none⟩), .int .i64 4, .pointer (some ⟨b2, 4, none⟩), .int .i64 2, .pointer (some ⟨b2, 5, none⟩), .int .i64 4, .pointer (some ⟨b2, 6, none⟩), .int .i64 8, .pointer (some ⟨b2, 7, none⟩), .int .i64 8, .pointer (some ⟨b2, 8, none⟩), .int .i64 8, .pointer (some ⟨b2, 9, none⟩), .int .i64 2, .pointer (some ⟨b2, 10, none⟩), .int .i64 4, .pointer (some ⟨b2, 11, none⟩), .int .i64 4], BlkR b3 3 #[.int .i64 x18], BlkR b2 38 #[.int .i64 x6, .int .i64 x10, .int .i64 x14, .int .i64 (Go.bits .and .i64 x22 4294967295), .int .i64 x26, .int .i64 x30, .int .i64 x34, .int .i64 x38, .int .i64 x42, .int .i64 x46, .int .i64 x50, .int .i64 x54], BlkR b1 38 #[.int .i64 0, .int .i64 0, .int .i64 0, .int .i64 0, .int .i64 0, .int .i64 0, .int .i64 0, .int .i64 0, .int .i64 0, .int .i64 0, .int .i64 0, .int .i64 0], InR g st117]) ?_ ?_
  · clear hk118
    by_cases c119 : x57 = 0
    · replace h := ifT c119 h
      refine T.no rfl (bn_f (decide_eq_true c119)) ?_
      refine T.seq (T.region rfl ?_)
      refine TL.q rfl .u (Ex.b1 2 rfl Try.isAgg3 rfl rfl) rfl ?_
      refine TL.run ft_prefix_ok [1, 2] rfl rfl ?_
      refine TL.nil (X.seq ?_)
      obtain ⟨st147, h, hk148⟩ := Option.bind_eq_some_iff.1 h
      refine T.jq (fun e Rs => e = [(0, .pointer (some ⟨g, 0, none⟩)), (2, .pointer (some ⟨b1, 0, none⟩)), (3, .pointer (some ⟨b2, 0, none⟩))] ∧ Rs = [BlkR b53 127 #[.pointer (some ⟨b2, 11, none⟩), .int .i64 4], BlkR b4 127 #[.pointer (some ⟨b2, 0, none⟩), .int .i64 8, .pointer (some ⟨b2, 1, none⟩), .int .i64 4, .pointer (some ⟨b2, 2, none⟩), .int .i64 4, .pointer (some ⟨b3, 0, none⟩), .int .i64 1, .pointer (some ⟨b2, 3, none⟩), .int .i64 4, .pointer (some ⟨b2, 4, none⟩), .int .i64 2, .pointer (some ⟨b2, 5, none⟩), .int .i64 4, .pointer (some ⟨b2, 6, none⟩), .int .i64 8, .pointer (some ⟨b2, 7, none⟩), .int .i64 8, .pointer (some ⟨b2, 8, none⟩), .int .i64 8, .pointer (some ⟨b2, 9, none⟩), .int .i64 2, .pointer (some ⟨b2, 10, none⟩), .int .i64 4, .pointer (some ⟨b2, 11, none⟩), .int .i64 4], BlkR b3 3 #[.int .i64 x18], BlkR b2 38 #[.int .i64 x6, .int .i64 x10, .int .i64 x14, .int .i64 (Go.bits .and .i64 x22 4294967295), .int .i64 x26, .int .i64 x30, .int .i64 x34, .int .i64 x38, .int .i64 x42, .int .i64 x46, .int .i64 x50, .int .i64 x54], BlkR b1 38 #[.int .i64 0, .int .i64 0, .int .i64 0, .int .i64 0, .int .i64 0, .int .i64 0, .int .i64 0, .int .i64 0, .int .i64 0, .int .i64 0, .int .i64 0, .int .i64 0], InR g st147]) ?_ ?_
      · clear hk148
        by_cases c149 : x18 = 2
        · replace h := ifT c149 h
          refine T.no rfl (bn_f (decide_eq_true c149)) ?_
          refine T.seq (T.region rfl ?_)
          refine TL.run ft_prefix_ok [0] rfl rfl ?_
          refine TL.q rfl .u (Ex.b1 3 rfl Try.isAgg3 rfl rfl) rfl ?_
          refine TL.run ft_prefix_ok [2, 3] rfl rfl ?_
          refine TL.nil (X.seq ?_)
          obtain ⟨st161, h, hk162⟩ := Option.bind_eq_some_iff.1 h
          refine T.jq (fun e Rs => e = [(0, .pointer (some ⟨g, 0, none⟩)), (2, .pointer (some ⟨b1, 0, none⟩)), (3, .pointer (some ⟨b2, 0, none⟩))] ∧ Rs = [BlkR b53 127 #[.pointer (some ⟨b2, 11, none⟩), .int .i64 4], BlkR b4 127 #[.pointer (some ⟨b2, 0, none⟩), .int .i64 8, .pointer (some ⟨b2, 1, none⟩), .int .i64 4, .pointer (some ⟨b2, 2, none⟩), .int .i64 4, .pointer (some ⟨b3, 0, none⟩), .int .i64 1, .pointer (some ⟨b2, 3, none⟩), .int .i64 4, .pointer (some ⟨b2, 4, none⟩), .int .i64 2, .pointer (some ⟨b2, 5, none⟩), .int .i64 4, .pointer (some ⟨b2, 6, none⟩), .int .i64 8, .pointer (some ⟨b2, 7, none⟩), .int .i64 8, .pointer (some ⟨b2, 8, none⟩), .int .i64 8, .pointer (some ⟨b2, 9, none⟩), .int .i64 2, .pointer (some ⟨b2, 10, none⟩), .int .i64 4, .pointer (some ⟨b2, 11, none⟩), .int .i64 4], BlkR b3 3 #[.int .i64 x18], BlkR b2 38 #[.int .i64 x6, .int .i64 x10, .int .i64 x14, .int .i64 (Go.bits .and .i64 x22 4294967295), .int .i64 x26, .int .i64 x30, .int .i64 x34, .int .i64 x38, .int .i64 x42, .int .i64 x46, .int .i64 x50, .int .i64 x54], BlkR b1 38 #[.int .i64 0, .int .i64 0, .int .i64 0, .int .i64 0, .int .i64 0, .int .i64 0, .int .i64 0, .int .i64 0, .int .i64 0, .int .i64 0, .int .i64 0, .int .i64 0], InR g st161]) ?_ ?_
          · clear hk162
            by_cases c163 : x10 < 49
            · replace h := ifT c163 h
              refine T.yes rfl (decide_eq_true c163) ?_
              refine T.region rfl ?_
              obtain ⟨st164, hx165, h⟩ := Option.bind_eq_some_iff.1 h
              refine TL.run ft_prefix_ok [0] rfl rfl ?_
              refine TL.c5 rfl .u (.fn Try.call61 rfl) (gIFail_spec g st58 4 _ hx165) (fun _ hs => (Src.triv _)) rfl ?_
              cases h
              exact TL.nil (X.jq [0, 0, 0, 0, 0, 0] ⟨rfl, rfl⟩ (by rfl) (by rfl))
            · replace h := ifF c163 h
              refine T.no rfl (decide_eq_false c163) ?_
              refine T.seq (T.region rfl ?_)
              refine TL.run ft_prefix_ok [0] rfl rfl ?_
              refine TL.q rfl .u (Ex.b1 3 rfl Try.isAgg3 rfl rfl) rfl ?_
              refine TL.run ft_prefix_ok [2, 3] rfl rfl ?_
              refine TL.nil (X.seq ?_)
              obtain ⟨st169, h, hk170⟩ := Option.bind_eq_some_iff.1 h
              refine T.jq (fun e Rs => e = [(0, .pointer (some ⟨g, 0, none⟩)), (2, .pointer (some ⟨b1, 0, none⟩)), (3, .pointer (some ⟨b2, 0, none⟩))] ∧ Rs = [BlkR b53 127 #[.pointer (some ⟨b2, 11, none⟩), .int .i64 4], BlkR b4 127 #[.pointer (some ⟨b2, 0, none⟩), .int .i64 8, .pointer (some ⟨b2, 1, none⟩), .int .i64 4, .pointer (some ⟨b2, 2, none⟩), .int .i64 4, .pointer (some ⟨b3, 0, none⟩), .int .i64 1, .pointer (some ⟨b2, 3, none⟩), .int .i64 4, .pointer (some ⟨b2, 4, none⟩), .int .i64 2, .pointer (some ⟨b2, 5, none⟩), .int .i64 4, .pointer (some ⟨b2, 6, none⟩), .int .i64 8, .pointer (some ⟨b2, 7, none⟩), .int .i64 8, .pointer (some ⟨b2, 8, none⟩), .int .i64 8, .pointer (some ⟨b2, 9, none⟩), .int .i64 2, .pointer (some ⟨b2, 10, none⟩), .int .i64 4, .pointer (some ⟨b2, 11, none⟩), .int .i64 4], BlkR b3 3 #[.int .i64 x18], BlkR b2 38 #[.int .i64 x6, .int .i64 x10, .int .i64 x14, .int .i64 (Go.bits .and .i64 x22 4294967295), .int .i64 x26, .int .i64 x30, .int .i64 x34, .int .i64 x38, .int .i64 x42, .int .i64 x46, .int .i64 x50, .int .i64 x54], BlkR b1 38 #[.int .i64 0, .int .i64 0, .int .i64 0, .int .i64 0, .int .i64 0, .int .i64 0, .int .i64 0, .int .i64 0, .int .i64 0, .int .i64 0, .int .i64 0, .int .i64 0], InR g st169]) ?_ ?_
              · clear hk170
                by_cases c171 : x54 < 0
                · replace h := ifT c171 h
                  refine T.yes rfl (decide_eq_true c171) ?_
                  refine T.region rfl ?_
                  obtain ⟨st172, hx173, h⟩ := Option.bind_eq_some_iff.1 h
                  refine TL.run ft_prefix_ok [0] rfl rfl ?_
                  refine TL.c5 rfl .u (.fn Try.call61 rfl) (gIFail_spec g st58 10 _ hx173) (fun _ hs => (Src.triv _)) rfl ?_
                  cases h
                  exact TL.nil (X.jq [0, 0, 0, 0, 0, 0] ⟨rfl, rfl⟩ (by rfl) (by rfl))
                · replace h := ifF c171 h
                  refine T.no rfl (decide_eq_false c171) ?_
                  cases h
                  exact T.skip (X.jq [0, 0, 0, 0, 0, 0] ⟨rfl, rfl⟩ (by rfl) (by rfl))
              · rintro _ _ ⟨rfl, rfl⟩
                clear h
                have h := hk170
                clear hk170
                try dsimp only at h
                cases h
                exact X.jq [0, 0, 0, 0, 0, 0] ⟨rfl, rfl⟩ (by rfl) (by rfl)
          · rintro _ _ ⟨rfl, rfl⟩
            clear h
            have h := hk162
            clear hk162
            try dsimp only at h
            cases h
            exact X.jq [0, 0, 0, 0, 0, 0] ⟨rfl, rfl⟩ (by rfl) (by rfl)
        · replace h := ifF c149 h
          refine T.yes rfl (bn_t (decide_eq_false c149)) ?_
          refine T.region rfl ?_
          obtain ⟨st174, hx175, h⟩ := Option.bind_eq_some_iff.1 h
          refine TL.run ft_prefix_ok [0] rfl rfl ?_
          refine TL.c5 rfl .u (.fn Try.call61 rfl) (gIFail_spec g st58 6 _ hx175) (fun _ hs => (Src.triv _)) rfl ?_
          cases h
          exact TL.nil (X.jq [0, 0, 0, 0, 0, 0] ⟨rfl, rfl⟩ (by rfl) (by rfl))
      · rintro _ _ ⟨rfl, rfl⟩
        clear h
        have h := hk148
        clear hk148
        try dsimp only at h
        cases h
        exact X.jq [0, 0, 0, 0, 0, 0] ⟨rfl, rfl⟩ (by rfl) (by rfl)
    · replace h := ifF c119 h
      refine T.yes rfl (bn_t (decide_eq_false c119)) ?_
      cases h
      exact T.skip (X.jq [0, 0, 0, 0, 0, 0] ⟨rfl, rfl⟩ (by rfl) (by rfl))
  · rintro _ _ ⟨rfl, rfl⟩
    clear h
    have h := hk118
    clear hk118
    try dsimp only at h
    refine X.blk (X.seq (T.seq (T.seq (T.region rfl ?_))))
    obtain ⟨⟨x176, st177⟩, hx178, h⟩ := Option.bind_eq_some_iff.1 h
    try dsimp only at h
    refine TL.run ft_prefix_ok [0] rfl rfl ?_
    refine TL.c5 rfl .u (.fn Try.call29 rfl) (gErr_spec g st117 _ hx178) (fun _ hs => (Src.triv _)) rfl ?_
    refine TL.run ft_prefix_ok [2] rfl rfl ?_
    by_cases c179 : x176 = 0
    · replace h := ifT c179 h
      refine TL.nil (X.seq ?_)
      refine T.no rfl (bn_f (decide_eq_true c179)) ?_
      refine T.skip (X.seq (T.seq (T.region rfl ?_)))
      refine TL.q rfl .u (Ex.bS (us := [.int .i64 x6, .int .i64 x10, .int .i64 x14, .int .i64 (Go.bits .and .i64 x22 4294967295), .int .i64 x26, .int .i64 x30, .int .i64 x34, .int .i64 x38, .int .i64 x42, .int .i64 x46, .int .i64 x50, .int .i64 x54]) 3 rfl Try.isAgg38 Try.sizeOf38 rfl rfl rfl) rfl ?_
      refine TL.st4 (cs' := #[.int .i64 x6, .int .i64 x10, .int .i64 x14, .int .i64 (Go.bits .and .i64 x22 4294967295), .int .i64 x26, .int .i64 x30, .int .i64 x34, .int .i64 x38, .int .i64 x42, .int .i64 x46, .int .i64 x50, .int .i64 x54]) rfl .u rfl rfl Try.sizeOf38 rfl rfl rfl rfl ?_
      obtain rfl := Option.some.inj h
      exact TL.nil (X.seq (T.ret (X.done1 [5] Try.results28 (RV.cS (us := #[.int .i64 x6, .int .i64 x10, .int .i64 x14, .int .i64 (Go.bits .and .i64 x22 4294967295), .int .i64 x26, .int .i64 x30, .int .i64 x34, .int .i64 x38, .int .i64 x42, .int .i64 x46, .int .i64 x50, .int .i64 x54]) 4 rfl Try.isAgg38 Try.sizeOf38 rfl rfl) ⟨rfl, rfl, rfl⟩ (by rfl) (.inl rfl))))
    · replace h := ifF c179 h
      refine TL.nil (X.seq ?_)
      refine T.yes rfl (bn_t (decide_eq_false c179)) ?_
      refine T.seq (T.region rfl ?_)
      refine TL.q rfl .u (Ex.bld (cells := #[.int .i64 0, .int .i64 0, .int .i64 0, .int .i64 0, .int .i64 0, .int .i64 0, .int .i64 0, .int .i64 0, .int .i64 0, .int .i64 0, .int .i64 0, .int .i64 0]) bok_prefix_38 rfl (by kernel_rfl)) rfl ?_
      refine TL.st4 (cs' := #[.int .i64 0, .int .i64 0, .int .i64 0, .int .i64 0, .int .i64 0, .int .i64 0, .int .i64 0, .int .i64 0, .int .i64 0, .int .i64 0, .int .i64 0, .int .i64 0]) rfl .u rfl rfl Try.sizeOf38 rfl rfl rfl rfl ?_
      obtain rfl := Option.some.inj h
      exact TL.nil (X.seq (T.ret (X.rs (X.done1 [5] Try.results28 (RV.cS (us := #[.int .i64 0, .int .i64 0, .int .i64 0, .int .i64 0, .int .i64 0, .int .i64 0, .int .i64 0, .int .i64 0, .int .i64 0, .int .i64 0, .int .i64 0, .int .i64 0]) 4 rfl Try.isAgg38 Try.sizeOf38 rfl rfl) ⟨rfl, rfl, rfl⟩ (by rfl) (.inl rfl)))))
def f_prefix_Peek (a0 : List UInt8) : Option (Int × Int) := if (a0.length : Int) < 61 then some (0, 0) else (if 61 ≤ a0.length then ((gNew (a0.take 61)).bind fun st3 => (f_prefix_Read st3).bind fun (x6, st7) => (gErr st7).bind fun (x10, st11) => if x10 = 0 then (if -9223372036854775808 ≤ (x6.fLength + 12) ∧ (x6.fLength + 12) ≤ 9223372036854775807 then (some ((x6.fLength + 12), 0)) else none) else some (0, x10)) else none)
set_option maxRecDepth 100000 in
set_option maxHeartbeats 4000000 in
theorem f_prefix_Peek_spec (a0 : List UInt8) (r : Int × Int) (h : f_prefix_Peek a0 = some r) : SpecX Try.prog 32 #[.string (bsOf a0)] .triv (EmpR) (fun v A' N => v = .tuple #[.int .i64 r.1, .int .i64 r.2] ∧ A' = EmpR ∧ N = []) := by
  refine enterA Try.func32 rfl Try.ntmps32 rfl ?_
  intro F w hX
  unfold f_prefix_Peek at h
  refine T.seq (T.region rfl ?_)
  refine TL.run ft_prefix_ok [0, 1] rfl rfl ?_
  refine TL.nil (X.seq (T.seq (T.seq (T.region rfl ?_))))
  refine TL.run ft_prefix_ok [0] rfl rfl ?_
  refine TL.q rfl .u (Ex.lenB rfl Try.runUnderlying9) rfl ?_
  refine TL.run ft_prefix_ok [2] rfl rfl ?_
  by_cases c1 : (a0.length : Int) < 61
  · replace h := ifT c1 h
    refine TL.nil (X.seq ?_)
    refine T.yes rfl (decide_eq_true c1) ?_
    refine T.seq (T.region rfl ?_)
    refine TL.run ft_prefix_ok [0, 1] rfl rfl ?_
    obtain rfl := Option.some.inj h
    exact TL.nil (X.seq (T.ret (X.rs (X.done2 [0] Try.results32 (RV.tm rfl) (RV.tm rfl) ⟨rfl, rfl, rfl⟩ (by rfl) (.inl rfl)))))
  · replace h := ifF c1 h
    refine TL.nil (X.seq ?_)
    refine T.no rfl (decide_eq_false c1) ?_
    refine T.skip (X.seq (T.seq (T.region rfl ?_)))
    replace h := guard_some h
    obtain ⟨c2, h⟩ := h
    refine TL.run ft_prefix_ok [0] rfl rfl ?_
    replace c2 : 61 ≤ a0.length := c2
    refine TL.q rfl .u (Ex.sSl (p := 0) (q := 61) (m := (a0.take 61)) rfl Try.runUnderlying9 .none (.some rfl rfl) (by first | omega | (dsimp only; omega)) (by simp)) rfl ?_
    obtain ⟨st3, hx4, h⟩ := Option.bind_eq_some_iff.1 h
    refine TL.cge rfl .u (.fn Try.call27 rfl) (gNew_spec (a0.take 61) _ hx4) (fun _ hs => (RX.reads_triv _ _)) rfl ?_
    rintro _ _ _ ⟨b5, rfl, rfl, rfl⟩
    refine TL.sel [0, 0] rfl ?_
    refine TL.run ft_prefix_ok [3] rfl rfl ?_
    refine TL.nil (X.seq (T.seq (T.region rfl ?_)))
    obtain ⟨⟨x6, st7⟩, hx8, h⟩ := Option.bind_eq_some_iff.1 h
    try dsimp only at h
    refine TL.run ft_prefix_ok [0] rfl rfl ?_
    refine TL.c0 rfl .u (.fn Try.call28 rfl) (f_prefix_Read_spec b5 st3 _ hx8) (fun _ hs => (Src.triv _)) rfl ?_
    refine TL.alloc rfl .u Try.zeroValue38 rfl (fun b9 => ?_)
    refine TL.st0 (cs' := #[.int .i64 x6.fBase, .int .i64 x6.fLength, .int .i64 x6.fLeader, .int .i64 x6.fSum, .int .i64 x6.fAttr, .int .i64 x6.fLast, .int .i64 x6.fFirst, .int .i64 x6.fMax, .int .i64 x6.fProducer, .int .i64 x6.fEpoch, .int .i64 x6.fSequence, .int .i64 x6.fCount]) rfl .u rfl rfl Try.sizeOf38 rfl rfl rfl rfl ?_
    refine TL.nil (X.seq (T.seq (T.seq (T.region rfl ?_))))
    obtain ⟨⟨x10, st11⟩, hx12, h⟩ := Option.bind_eq_some_iff.1 h
    try dsimp only at h
    refine TL.run ft_prefix_ok [0] rfl rfl ?_
    refine TL.c1 rfl .u (.fn Try.call29 rfl) (gErr_spec b5 st7 _ hx12) (fun _ hs => (Src.triv _)) rfl ?_
    refine TL.run ft_prefix_ok [2] rfl rfl ?_
    refine TL.nil (X.seq (T.seq (T.region rfl ?_)))
    refine TL.run ft_prefix_ok [0, 1] rfl rfl ?_
    by_cases c13 : x10 = 0
    · replace h := ifT c13 h
      refine TL.nil (X.seq ?_)
      refine T.no rfl (bn_f (decide_eq_true c13)) ?_
      refine T.skip (X.seq (T.seq (T.region rfl ?_)))
      refine TL.run ft_prefix_ok [0] rfl rfl ?_
      refine TL.q rfl .u (Ex.b1 0 rfl Try.isAgg3 rfl rfl) rfl ?_
      replace h := guard_some h
      obtain ⟨c14, h⟩ := h
      refine TL.q rfl .u (Ex.add rfl rfl c14) rfl ?_
      refine TL.run ft_prefix_ok [3, 4] rfl rfl ?_
      obtain rfl := Option.some.inj h
      exact TL.nil (X.seq (T.ret (X.done2 [2] Try.results32 (RV.tm rfl) (RV.tm rfl) ⟨rfl, rfl, rfl⟩ (by rfl) (.inl rfl))))
    · replace h := ifF c13 h
      refine TL.nil (X.seq ?_)
      refine T.yes rfl (bn_t (decide_eq_false c13)) ?_
      refine T.seq (T.region rfl ?_)
      refine TL.run ft_prefix_ok [0, 1, 2] rfl rfl ?_
      obtain rfl := Option.some.inj h
      exact TL.nil (X.seq (T.ret (X.rs (X.done2 [2] Try.results32 (RV.tm rfl) (RV.tm rfl) ⟨rfl, rfl, rfl⟩ (by rfl) (.inl rfl)))))
end Go.Proofs.Ytpiiopppbgpbpaa.Sl
namespace Go.Proofs.Ytpiiopppbgpbpaa.Sl
open Go.RowKit
set_option linter.unusedVariables false
set_option linter.unusedSimpArgs false
theorem Pr.bind_assoc {α β γ : Type} (p : Pr α) (f : α → Pr β) (g : β → Pr γ) : (p.bind f).bind g = p.bind fun a => (f a).bind g := by
  funext s q
  unfold Pr.bind
  cases p s q with
  | error e => rfl
  | ok x => rfl
theorem Pr.ret_bind {α β : Type} (a : α) (f : α → Pr β) : (Pr.ret a).bind f = f a := by
  funext s q
  rfl
def pInts : List Nat → Pr (List Int)
  | [] => .ret []
  | k :: ks => (pInt k).bind fun a => (pInts ks).bind fun l => .ret (a :: l)
def encI : List Nat → List Int → List UInt8
  | k :: ks, x :: xs => be x k ++ encI ks xs
  | _, _ => []
def okI : List Nat → List Int → Prop
  | [], [] => True
  | k :: ks, x :: xs => fits x k = true ∧ okI ks xs
  | _, _ => False
theorem Sp_ints : ∀ ks : List Nat, (∀ k, k ∈ ks → 1 ≤ k ∧ k ≤ 8) → Sp (pInts ks) (encI ks) (okI ks)
  | [], _ => by
    refine ⟨fun s q l r hq h => ?_, fun s t q l hq hl hd => ?_⟩
    · injection h with h
      obtain ⟨rfl, rfl⟩ := Prod.mk.inj h
      exact ⟨Nat.le_refl _, hq, rfl, by simp [encI], trivial⟩
    · cases l with
      | nil => rfl
      | cons x xs => exact nomatch hl
  | k :: ks, hk => by
    have hp := Sp_int k (hk k (List.mem_cons_self ..)).1 (hk k (List.mem_cons_self ..)).2
    have ih := Sp_ints ks (fun j hj => hk j (List.mem_cons_of_mem _ hj))
    refine ⟨fun s q l r hq h => ?_, fun s t q l hq hl hd => ?_⟩
    · obtain ⟨a, m, h1, h2⟩ := Pr.bind_ok h
      obtain ⟨xs, m2, h3, h4⟩ := Pr.bind_ok h2
      injection h4 with h4
      obtain ⟨rfl, rfl⟩ := Prod.mk.inj h4
      obtain ⟨a1, a2, a3, a4, a5⟩ := hp.spell s q a m hq h1
      obtain ⟨b1, b2, b3, b4, b5⟩ := ih.spell s m xs m2 a2 h3
      exact ⟨by omega, b2, by simp only [encI, List.length_append]; omega, by rw [b4, a4, encI, List.append_assoc], a5, b5⟩
    · cases l with
      | nil => exact nomatch hl
      | cons x xs =>
        rw [encI, List.append_assoc] at hd
        have h1 := hp.back s _ q x hq hl.1 hd
        have hl2 := congrArg List.length hd
        rw [List.length_drop, List.length_append] at hl2
        have h2 := ih.back s t _ xs (by omega) hl.2 (drop_step hd)
        rw [pInts, Pr.bind_of h1, Pr.bind_of h2, encI, List.length_append, ← Nat.add_assoc]
        rfl
def KS : List Nat := [8, 4, 4, 1, 4, 2, 4, 8, 8, 8, 2, 4, 4]
theorem KS_ok : ∀ k, k ∈ KS → 1 ≤ k ∧ k ≤ 8 := by decide
def ckE (b m ct : Int) : Int := if m = 2 then (if b < 49 then 4 else if ct < 0 then 10 else 0) else 6
def chkP : List Int → Pr Pfx
  | [a, b, c, m, s, at', la, fi, mx, pr, ep, sq, ct] => if ckE b m ct = 0 then .ret ⟨a, b, c, s % 4294967296, at', la, fi, mx, pr, ep, sq, ct⟩ else .err (ckE b m ct)
  | _ => .err 1
def pPfx : Pr Pfx := (pInts KS).bind chkP
theorem and32 (n : Int) : Go.bits .and .i64 n 4294967295 = n % 4294967296 := by
  rw [show (4294967295 : Int) = ((4294967295 : Nat) : Int) from rfl, and_nat n _ (by decide), show (4294967295 : Nat) = 2 ^ 32 - 1 from rfl, Nat.and_two_pow_sub_one_eq_mod]
  omega
def zP : Pfx := ⟨0, 0, 0, 0, 0, 0, 0, 0, 0, 0, 0, 0⟩
def tailP (a b c m s t la fi mx pr ep sq ct : Int) (st : I) : Option (Pfx × I) := (gErr st).bind fun (x57, st58) => (if x57 = 0 then ((if m = 2 then ((if b < 49 then ((gIFail st58 4).bind fun st164 => some st164) else ((if ct < 0 then ((gIFail st58 10).bind fun st172 => some st172) else some st58).bind fun st169 => some st169)).bind fun st161 => some st161) else ((gIFail st58 6).bind fun st174 => some st174)).bind fun st147 => some st147) else some st58).bind fun st117 => (gErr st117).bind fun (x176, st177) => if x176 = 0 then (some ((⟨a, b, c, (Go.bits .and .i64 s 4294967295), t, la, fi, mx, pr, ep, sq, ct⟩ : Pfx), st177)) else (some ((⟨0, 0, 0, 0, 0, 0, 0, 0, 0, 0, 0, 0⟩ : Pfx), st177))
theorem B_tail (a b c m s t la fi mx pr ep sq ct : Int) : CB (tailP a b c m s t la fi mx pr ep sq ct) (chkP [a, b, c, m, s, t, la, fi, mx, pr, ep, sq, ct]) zP := by
  refine CB_chk (fun st h => ?_) (fun st h => ?_)
  · unfold tailP
    rw [gErr_eq, Option.bind_some]
    dsimp only
    rw [if_neg h, Option.bind_some, gErr_eq, Option.bind_some]
    dsimp only
    rw [if_neg h]
    rfl
  · obtain ⟨l, q, e⟩ := st
    obtain rfl : e = 0 := h
    unfold tailP ckE
    rw [gErr_eq, Option.bind_some]
    dsimp only
    rw [if_pos rfl, and32]
    by_cases h1 : m = 2
    · rw [if_pos h1, if_pos h1]
      by_cases h2 : b < 49
      · rw [if_pos h2, if_pos h2, if_neg (by decide)]; rfl
      · rw [if_neg h2, if_neg h2]
        by_cases h3 : ct < 0
        · rw [if_pos h3, if_pos h3, if_neg (by decide)]; rfl
        · rw [if_neg h3, if_neg h3, if_pos rfl]; rfl
    · rw [if_neg h1, if_neg h1, if_neg (by decide)]; rfl
theorem B_pfx : CB (fun st => f_prefix_Read st) pPfx zP := by
  have w : ∀ {p : Pr Int} (s : List UInt8) (q : Nat) (a : Int) (r : Nat), s.length ≤ 1000000 → q ≤ s.length → p s q = .ok (a, r) → (fun _ : Int => True) a := fun _ _ _ _ _ _ _ => trivial
  have h := CB.bind (fun _ => True) Q8.cb w trivial fun a _ => CB.bind (fun _ => True) Q4.cb w trivial fun b _ => CB.bind (fun _ => True) Q4.cb w trivial fun c _ => CB.bind (fun _ => True) Q1.cb w trivial fun m _ => CB.bind (fun _ => True) Q4.cb w trivial fun s _ =>
    CB.bind (fun _ => True) Q2.cb w trivial fun t _ => CB.bind (fun _ => True) Q4.cb w trivial fun la _ => CB.bind (fun _ => True) Q8.cb w trivial fun fi _ => CB.bind (fun _ => True) Q8.cb w trivial fun mx _ => CB.bind (fun _ => True) Q8.cb w trivial fun pr _ =>
    CB.bind (fun _ => True) Q2.cb w trivial fun ep _ => CB.bind (fun _ => True) Q4.cb w trivial fun sq _ => CB.bind (fun _ => True) Q4.cb w trivial fun ct _ => B_tail a b c m s t la fi mx pr ep sq ct
  refine (h.congr (fun st => rfl)).pr ?_
  unfold pPfx KS
  simp only [pInts, Pr.bind_assoc, Pr.ret_bind]
end Go.Proofs.Ytpiiopppbgpbpaa.Sl
namespace Go.Proofs.Ytpiiopppbgpbpaa.Sl
open Go.RowKit
set_option linter.unusedVariables false
set_option linter.unusedSimpArgs false
set_option maxRecDepth 100000
def ft_cursitorref10 : FTab := []
theorem ft_cursitorref10_ok : (ft_cursitorref10).OK Try.prog := trivial
theorem sok_cursitorref10_25_12 : SOK Try.prog 25 3 12 1 #[.int .i64 0, .int .i64 0, .int .i64 0, .int .i64 0, .int .i64 0, .int .i64 0, .int .i64 0, .int .i64 0, .int .i64 0, .int .i64 0, .int .i64 0, .int .i64 0] := SOK.mk Try.runUnderlying25 Try.sizeOf3 Try.zeroValue3 (by decide) (by kernel_rfl)
def f_r10_at (a0 : List UInt8) (a1 : Int) (a2 : Int) : Option (Int) := if -9223372036854775808 ≤ (a1 + a2) ∧ (a1 + a2) ≤ 9223372036854775807 then (if 0 ≤ a1 ∧ 0 ≤ (a1 + a2) ∧ a1.toNat ≤ (a1 + a2).toNat ∧ (a1 + a2).toNat ≤ a0.length then ((gRInt ((a0.drop a1.toNat).take (((a1 + a2).toNat) - a1.toNat))).bind fun x3 => some x3) else none) else none
set_option maxRecDepth 100000 in
set_option maxHeartbeats 4000000 in
theorem f_r10_at_spec (a0 : List UInt8) (a1 : Int) (a2 : Int) (r : Int) (h : f_r10_at a0 a1 a2 = some r) : SpecX Try.prog 77 #[.string (bsOf a0), .int .i64 a1, .int .i64 a2] .triv (EmpR) (fun v A' N => v = .int .i64 r ∧ A' = EmpR ∧ N = []) := by
  refine enterA Try.func77 rfl Try.ntmps77 rfl ?_
  intro F w hX
  unfold f_r10_at at h
  refine T.seq (T.region rfl ?_)
  refine TL.run ft_cursitorref10_ok [0] rfl rfl ?_
  refine TL.nil (X.seq (T.seq (T.region rfl ?_)))
  replace h := guard_some h
  obtain ⟨c1, h⟩ := h
  refine TL.run ft_cursitorref10_ok [0, 1, 2, 3] rfl rfl ?_
  refine TL.q rfl .u (Ex.add rfl rfl c1) rfl ?_
  replace h := guard_some h
  obtain ⟨c2, h⟩ := h
  replace c2 : 0 ≤ a1 ∧ 0 ≤ (a1 + a2) ∧ a1.toNat ≤ (a1 + a2).toNat ∧ (a1 + a2).toNat ≤ a0.length := c2
  refine TL.q rfl .u (Ex.sSl (p := a1.toNat) (q := (a1 + a2).toNat) (m := ((a0.drop a1.toNat).take (((a1 + a2).toNat) - a1.toNat))) rfl Try.runUnderlying9 (.some rfl ((Int.toNat_of_nonneg c2.1).symm)) (.some rfl ((Int.toNat_of_nonneg c2.2.1).symm)) (by first | omega | (dsimp only; omega)) rfl) rfl ?_
  obtain ⟨x3, hx4, h⟩ := Option.bind_eq_some_iff.1 h
  refine TL.ce rfl .u (.fn Try.call59 rfl) (SpecX.pure (fun w => gRInt_spec ((a0.drop a1.toNat).take (((a1 + a2).toNat) - a1.toNat)) _ hx4 w)) (fun _ _ => RX.reads_triv _ _) rfl ?_
  refine TL.run ft_cursitorref10_ok [7] rfl rfl ?_
  obtain rfl := Option.some.inj h
  exact TL.nil (X.seq (T.ret (X.done1 [0] Try.results77 (RV.tm rfl) ⟨rfl, rfl, rfl⟩ (by rfl) (.inl rfl))))
def f_r10_Fields (a0 : List UInt8) : Option (List Int × Int) := if (a0.length : Int) < 61 then some ([], 1) else ((f_r10_at a0 17 4).bind fun x2 => (if x2 < 0 then (if -9223372036854775808 ≤ (x2 + 4294967296) ∧ (x2 + 4294967296) ≤ 9223372036854775807 then some (x2 + 4294967296) else none) else some x2).bind fun y6 => (f_r10_at a0 0 8).bind fun x10 => (f_r10_at a0 8 4).bind fun x12 => (f_r10_at a0 12 4).bind fun x14 => (f_r10_at a0 21 2).bind fun x16 => (f_r10_at a0 23 4).bind fun x18 => (f_r10_at a0 27 8).bind fun x20 => (f_r10_at a0 35 8).bind fun x22 => (f_r10_at a0 43 8).bind fun x24 => (f_r10_at a0 51 2).bind fun x26 => (f_r10_at a0 53 4).bind fun x28 => (f_r10_at a0 57 4).bind fun x30 => (f_r10_at a0 16 1).bind fun x33 => if x33 = 2 then (([x10, x12, x14, y6, x16, x18, x20, x22, x24, x26, x28, x30][1]?).bind fun x36 => if x36 < 49 then some ([], 4) else (([x10, x12, x14, y6, x16, x18, x20, x22, x24, x26, x28, x30][11]?).bind fun x40 => if x40 < 0 then some ([], 10) else some ([x10, x12, x14, y6, x16, x18, x20, x22, x24, x26, x28, x30], 0))) else some ([], 6))
set_option maxRecDepth 100000 in
set_option maxHeartbeats 4000000 in
theorem f_r10_Fields_spec (a0 : List UInt8) (r : List Int × Int) (h : f_r10_Fields a0 = some r) : SpecX Try.prog 31 #[.string (bsOf a0)] .triv (EmpR) (fun v A' N => ∃ (A44 : Option Addr) (c45 : Nat), v = .tuple #[.slice A44 r.1.length c45, .int .i64 r.2] ∧ A' = EmpR ∧ N = [RdR (sliceRd 1 intE) [.slice A44 r.1.length c45] r.1]) := by
  refine enterA Try.func31 rfl Try.ntmps31 rfl ?_
  intro F w hX
  unfold f_r10_Fields at h
  refine T.seq (T.region rfl ?_)
  refine TL.run ft_cursitorref10_ok [0, 1] rfl rfl ?_
  refine TL.nil (X.seq (T.seq (T.seq (T.region rfl ?_))))
  refine TL.run ft_cursitorref10_ok [0] rfl rfl ?_
  refine TL.q rfl .u (Ex.lenB rfl Try.runUnderlying9) rfl ?_
  refine TL.run ft_cursitorref10_ok [2] rfl rfl ?_
  by_cases c1 : (a0.length : Int) < 61
  · replace h := ifT c1 h
    refine TL.nil (X.seq ?_)
    refine T.yes rfl (decide_eq_true c1) ?_
    refine T.seq (T.region rfl ?_)
    refine TL.run ft_cursitorref10_ok [0, 1] rfl rfl ?_
    obtain rfl := Option.some.inj h
    refine TL.nil (X.seq (T.ret (X.rs ?_)))
    refine X.nilrd 1 intE ?_
    exact X.done2 [1, 0] Try.results31 (RV.tm rfl) (RV.tm rfl) ⟨_, _, rfl, rfl, rfl⟩ (by rfl) (.inl rfl)
  · replace h := ifF c1 h
    refine TL.nil (X.seq ?_)
    refine T.no rfl (decide_eq_false c1) ?_
    refine T.skip (X.seq (T.seq (T.region rfl ?_)))
    obtain ⟨x2, hx3, h⟩ := Option.bind_eq_some_iff.1 h
    refine TL.run ft_cursitorref10_ok [0] rfl rfl ?_
    refine TL.ce rfl .u (.fn Try.call77 rfl) (f_r10_at_spec a0 17 4 _ hx3) (fun _ hs => (RX.reads_triv _ _)) rfl ?_
    refine TL.run ft_cursitorref10_ok [2] rfl rfl ?_
    refine TL.nil (X.seq (T.seq (T.seq (T.region rfl ?_))))
    refine TL.run ft_cursitorref10_ok [0, 1] rfl rfl ?_
    refine TL.nil (X.seq ?_)
    obtain ⟨y6, h, hk7⟩ := Option.bind_eq_some_iff.1 h
    refine T.jq (fun e Rs => e = [(0, .string (bsOf a0)), (2, .slice none 0 0), (3, .int .i64 0), (4, .int .i64 y6)] ∧ Rs = [EmpR]) ?_ ?_
    · clear hk7
      by_cases c8 : x2 < 0
      · replace h := ifT c8 h
        refine T.yes rfl (decide_eq_true c8) ?_
        refine T.region rfl ?_
        replace h := guard_some h
        obtain ⟨c9, h⟩ := h
        refine TL.run ft_cursitorref10_ok [0] rfl rfl ?_
        refine TL.q rfl .u (Ex.add rfl rfl c9) rfl ?_
        refine TL.run ft_cursitorref10_ok [2] rfl rfl ?_
        cases h
        exact TL.nil (X.jq [0] ⟨rfl, rfl⟩ (by rfl) (by rfl))
      · replace h := ifF c8 h
        refine T.no rfl (decide_eq_false c8) ?_
        cases h
        exact T.skip (X.jq [0] ⟨rfl, rfl⟩ (by rfl) (by rfl))
    · rintro _ _ ⟨rfl, rfl⟩
      clear h
      have h := hk7
      clear hk7
      try dsimp only at h
      refine X.seq (T.seq (T.region rfl ?_))
      obtain ⟨x10, hx11, h⟩ := Option.bind_eq_some_iff.1 h
      refine TL.run ft_cursitorref10_ok [0] rfl rfl ?_
      refine TL.ce rfl .u (.fn Try.call77 rfl) (f_r10_at_spec a0 0 8 _ hx11) (fun _ hs => (RX.reads_triv _ _)) rfl ?_
      obtain ⟨x12, hx13, h⟩ := Option.bind_eq_some_iff.1 h
      refine TL.run ft_cursitorref10_ok [2] rfl rfl ?_
      refine TL.ce rfl .u (.fn Try.call77 rfl) (f_r10_at_spec a0 8 4 _ hx13) (fun _ hs => (RX.reads_triv _ _)) rfl ?_
      obtain ⟨x14, hx15, h⟩ := Option.bind_eq_some_iff.1 h
      refine TL.run ft_cursitorref10_ok [4] rfl rfl ?_
      refine TL.ce rfl .u (.fn Try.call77 rfl) (f_r10_at_spec a0 12 4 _ hx15) (fun _ hs => (RX.reads_triv _ _)) rfl ?_
      obtain ⟨x16, hx17, h⟩ := Option.bind_eq_some_iff.1 h
      refine TL.run ft_cursitorref10_ok [6, 7] rfl rfl ?_
      refine TL.ce rfl .u (.fn Try.call77 rfl) (f_r10_at_spec a0 21 2 _ hx17) (fun _ hs => (RX.reads_triv _ _)) rfl ?_
      obtain ⟨x18, hx19, h⟩ := Option.bind_eq_some_iff.1 h
      refine TL.run ft_cursitorref10_ok [9] rfl rfl ?_
      refine TL.ce rfl .u (.fn Try.call77 rfl) (f_r10_at_spec a0 23 4 _ hx19) (fun _ hs => (RX.reads_triv _ _)) rfl ?_
      obtain ⟨x20, hx21, h⟩ := Option.bind_eq_some_iff.1 h
      refine TL.run ft_cursitorref10_ok [11] rfl rfl ?_
      refine TL.ce rfl .u (.fn Try.call77 rfl) (f_r10_at_spec a0 27 8 _ hx21) (fun _ hs => (RX.reads_triv _ _)) rfl ?_
      obtain ⟨x22, hx23, h⟩ := Option.bind_eq_some_iff.1 h
      refine TL.run ft_cursitorref10_ok [13] rfl rfl ?_
      refine TL.ce rfl .u (.fn Try.call77 rfl) (f_r10_at_spec a0 35 8 _ hx23) (fun _ hs => (RX.reads_triv _ _)) rfl ?_
      obtain ⟨x24, hx25, h⟩ := Option.bind_eq_some_iff.1 h
      refine TL.run ft_cursitorref10_ok [15] rfl rfl ?_
      refine TL.ce rfl .u (.fn Try.call77 rfl) (f_r10_at_spec a0 43 8 _ hx25) (fun _ hs => (RX.reads_triv _ _)) rfl ?_
      obtain ⟨x26, hx27, h⟩ := Option.bind_eq_some_iff.1 h
      refine TL.run ft_cursitorref10_ok [17] rfl rfl ?_
      refine TL.ce rfl .u (.fn Try.call77 rfl) (f_r10_at_spec a0 51 2 _ hx27) (fun _ hs => (RX.reads_triv _ _)) rfl ?_
      obtain ⟨x28, hx29, h⟩ := Option.bind_eq_some_iff.1 h
      refine TL.run ft_cursitorref10_ok [19] rfl rfl ?_
      refine TL.ce rfl .u (.fn Try.call77 rfl) (f_r10_at_spec a0 53 4 _ hx29) (fun _ hs => (RX.reads_triv _ _)) rfl ?_
      obtain ⟨x30, hx31, h⟩ := Option.bind_eq_some_iff.1 h
      refine TL.run ft_cursitorref10_ok [21] rfl rfl ?_
      refine TL.ce rfl .u (.fn Try.call77 rfl) (f_r10_at_spec a0 57 4 _ hx31) (fun _ hs => (RX.reads_triv _ _)) rfl ?_
      refine TL.lit (cells := #[.int .i64 x10, .int .i64 x12, .int .i64 x14, .int .i64 y6, .int .i64 x16, .int .i64 x18, .int .i64 x20, .int .i64 x22, .int .i64 x24, .int .i64 x26, .int .i64 x28, .int .i64 x30]) rfl .u sok_cursitorref10_25_12 rfl (by kernel_rfl) rfl (fun b32 => ?_)
      refine TL.rowOf (us := [.int .i64 x10, .int .i64 x12, .int .i64 x14, .int .i64 y6, .int .i64 x16, .int .i64 x18, .int .i64 x20, .int .i64 x22, .int .i64 x24, .int .i64 x26, .int .i64 x28, .int .i64 x30]) (xs := [x10, x12, x14, y6, x16, x18, x20, x22, x24, x26, x28, x30]) (E := intE) (z := 1) rfl (Nat.le_of_ble_eq_true rfl) (fun _ => ⟨rfl, rfl, ⟨rfl, rfl, ⟨rfl, rfl, ⟨rfl, rfl, ⟨rfl, rfl, ⟨rfl, rfl, ⟨rfl, rfl, ⟨rfl, rfl, ⟨rfl, rfl, ⟨rfl, rfl, ⟨rfl, rfl, ⟨rfl, rfl, rfl⟩⟩⟩⟩⟩⟩⟩⟩⟩⟩⟩⟩) ?_
      refine TL.run ft_cursitorref10_ok [24] rfl rfl ?_
      refine TL.nil (X.seq (T.seq (T.seq (T.region rfl ?_))))
      obtain ⟨x33, hx34, h⟩ := Option.bind_eq_some_iff.1 h
      refine TL.run ft_cursitorref10_ok [0] rfl rfl ?_
      refine TL.ce rfl .u (.fn Try.call77 rfl) (f_r10_at_spec a0 16 1 _ hx34) (fun _ hs => (RX.reads_triv _ _)) rfl ?_
      refine TL.run ft_cursitorref10_ok [2] rfl rfl ?_
      by_cases c35 : x33 = 2
      · replace h := ifT c35 h
        refine TL.nil (X.seq ?_)
        refine T.no rfl (bn_f (decide_eq_true c35)) ?_
        refine T.skip (X.seq (T.seq (T.seq (T.region rfl ?_))))
        obtain ⟨x36, hx37, h⟩ := Option.bind_eq_some_iff.1 h
        refine TL.run ft_cursitorref10_ok [0] rfl rfl ?_
        refine TL.foc (E := intE) (k := 1) 0 rfl (fun w G h => own_reads (by decide) w G h) (by decide) hx37 ?_
        rintro gg oo z38cs hA z38cl ⟨_, _, z38r⟩
        cases hA
        obtain rfl : z38cs = [.int .i64 x36] := z38r
        clear z38cl
        refine TL.sel [0, 0] rfl ?_
        refine TL.q rfl .u (Ex.ixS (k := 1) rfl rfl rfl Try.runUnderlying25 Try.sizeOf3 (List.getElem?_eq_some_iff.1 hx37).1) rfl ?_
        refine TL.q rfl .u (Ex.k1 (cs := [.int .i64 x36]) 0 0 rfl Try.isAgg3 rfl (fun _ _ h => h.2.2.1) rfl) rfl ?_
        refine TL.run ft_cursitorref10_ok [3] rfl rfl ?_
        by_cases c39 : x36 < 49
        · replace h := ifT c39 h
          refine TL.nil (X.seq ?_)
          refine T.yes rfl (decide_eq_true c39) ?_
          refine T.seq (T.region rfl ?_)
          refine TL.run ft_cursitorref10_ok [0, 1] rfl rfl ?_
          obtain rfl := Option.some.inj h
          refine TL.nil (X.seq (T.ret (X.rs ?_)))
          refine X.nilrd 1 intE ?_
          exact X.done2 [2, 0] Try.results31 (RV.tm rfl) (RV.tm rfl) ⟨_, _, rfl, rfl, rfl⟩ (by rfl) (.inl rfl)
        · replace h := ifF c39 h
          refine TL.nil (X.seq ?_)
          refine T.no rfl (decide_eq_false c39) ?_
          refine T.skip (X.seq (T.seq (T.seq (T.region rfl ?_))))
          obtain ⟨x40, hx41, h⟩ := Option.bind_eq_some_iff.1 h
          refine TL.run ft_cursitorref10_ok [0] rfl rfl ?_
          refine TL.foc (E := intE) (k := 11) 0 rfl (fun w G h => own_reads (by decide) w G h.1) (by decide) hx41 ?_
          rintro gg oo z42cs hA z42cl ⟨_, _, z42r⟩
          cases hA
          obtain rfl : z42cs = [.int .i64 x40] := z42r
          clear z42cl
          refine TL.sel [0, 0] rfl ?_
          refine TL.q rfl .u (Ex.ixS (k := 11) rfl rfl rfl Try.runUnderlying25 Try.sizeOf3 (List.getElem?_eq_some_iff.1 hx41).1) rfl ?_
          refine TL.q rfl .u (Ex.k1 (cs := [.int .i64 x40]) 0 0 rfl Try.isAgg3 rfl (fun _ _ h => h.2.2.1) rfl) rfl ?_
          refine TL.run ft_cursitorref10_ok [3] rfl rfl ?_
          by_cases c43 : x40 < 0
          · replace h := ifT c43 h
            refine TL.nil (X.seq ?_)
            refine T.yes rfl (decide_eq_true c43) ?_
            refine T.seq (T.region rfl ?_)
            refine TL.run ft_cursitorref10_ok [0, 1] rfl rfl ?_
            obtain rfl := Option.some.inj h
            refine TL.nil (X.seq (T.ret (X.rs ?_)))
            refine X.nilrd 1 intE ?_
            exact X.done2 [2, 0] Try.results31 (RV.tm rfl) (RV.tm rfl) ⟨_, _, rfl, rfl, rfl⟩ (by rfl) (.inl rfl)
          · replace h := ifF c43 h
            refine TL.nil (X.seq ?_)
            refine T.no rfl (decide_eq_false c43) ?_
            refine T.skip (X.seq (T.seq (T.region rfl ?_)))
            refine TL.run ft_cursitorref10_ok [0, 1, 2] rfl rfl ?_
            obtain rfl := Option.some.inj h
            refine TL.nil (X.seq (T.ret ?_))
            refine X.unf 0 rfl ?_
            refine X.sel [0, 0] rfl ?_
            refine X.unf 0 rfl ?_
            refine X.sel [0, 0] rfl ?_
            refine X.shut (by decide) 0 rfl ?_
            refine X.sel [0, 0] rfl ?_
            exact X.done2 [1, 0] Try.results31 (RV.tm rfl) (RV.tm rfl) ⟨_, _, rfl, rfl, rfl⟩ (by rfl) (.inl rfl)
      · replace h := ifF c35 h
        refine TL.nil (X.seq ?_)
        refine T.yes rfl (bn_t (decide_eq_false c35)) ?_
        refine T.seq (T.region rfl ?_)
        refine TL.run ft_cursitorref10_ok [0, 1] rfl rfl ?_
        obtain rfl := Option.some.inj h
        refine TL.nil (X.seq (T.ret (X.rs ?_)))
        refine X.nilrd 1 intE ?_
        exact X.done2 [2, 0] Try.results31 (RV.tm rfl) (RV.tm rfl) ⟨_, _, rfl, rfl, rfl⟩ (by rfl) (.inl rfl)
end Go.Proofs.Ytpiiopppbgpbpaa.Sl
namespace Go.Proofs.Ytpiiopppbgpbpaa.Sl
open Go.RowKit
set_option linter.unusedVariables false
set_option linter.unusedSimpArgs false
def listP (p : Pfx) : List Int := [p.fBase, p.fLength, p.fLeader, p.fSum, p.fAttr, p.fLast, p.fFirst, p.fMax, p.fProducer, p.fEpoch, p.fSequence, p.fCount]
end Go.Proofs.Ytpiiopppbgpbpaa.Sl
namespace Go.Proofs.Ytpiiopppbgpbpaa.Sl
open Go.RowKit
set_option linter.unusedVariables false
set_option linter.unusedSimpArgs false
set_option maxRecDepth 100000
def ft_cursitorlaw10 : FTab := [(38, 0, 0), (38, 1, 1), (38, 2, 2), (38, 3, 3), (38, 4, 4), (38, 5, 5), (38, 6, 6), (38, 7, 7), (38, 8, 8), (38, 9, 9), (38, 10, 10), (38, 11, 11)]
theorem ft_cursitorlaw10_ok : (ft_cursitorlaw10).OK Try.prog := ⟨FOK.mk Try.runUnderlying38 rfl Try.sizeOf3 rfl, FOK.mk Try.runUnderlying38 rfl Try.sizeOf3 rfl, FOK.mk Try.runUnderlying38 rfl Try.sizeOf3 rfl, FOK.mk Try.runUnderlying38 rfl Try.sizeOf3 rfl, FOK.mk Try.runUnderlying38 rfl Try.sizeOf3 rfl, FOK.mk Try.runUnderlying38 rfl Try.sizeOf3 rfl, FOK.mk Try.runUnderlying38 rfl Try.sizeOf3 rfl, FOK.mk Try.runUnderlying38 rfl Try.sizeOf3 rfl, FOK.mk Try.runUnderlying38 rfl Try.sizeOf3 rfl, FOK.mk Try.runUnderlying38 rfl Try.sizeOf3 rfl, FOK.mk Try.runUnderlying38 rfl Try.sizeOf3 rfl, FOK.mk Try.runUnderlying38 rfl Try.sizeOf3 rfl, trivial⟩
theorem mix_cursitorlaw10 : Try.prog.follows .mixedOrders = true := by kernel_rfl
theorem flat_cursitorlaw10_38 : Flat Try.prog 2 38 [.int .i64, .int .i64, .int .i64, .int .i64, .int .i64, .int .i64, .int .i64, .int .i64, .int .i64, .int .i64, .int .i64, .int .i64] true := (Flat.struct Try.isAgg38 Try.sizeOf38 rfl Try.underlying38 Try.stoodInHeld38 ⟨by decide, rfl, [.int .i64], [.int .i64, .int .i64, .int .i64, .int .i64, .int .i64, .int .i64, .int .i64, .int .i64, .int .i64, .int .i64, .int .i64], false, rfl, (Flat.one_ Try.isAgg3 Try.sizeOf3 Try.underlying3), ⟨by decide, rfl, [.int .i64], [.int .i64, .int .i64, .int .i64, .int .i64, .int .i64, .int .i64, .int .i64, .int .i64, .int .i64, .int .i64], false, rfl, (Flat.one_ Try.isAgg3 Try.sizeOf3 Try.underlying3), ⟨by decide, rfl, [.int .i64], [.int .i64, .int .i64, .int .i64, .int .i64, .int .i64, .int .i64, .int .i64, .int .i64, .int .i64], false, rfl, (Flat.one_ Try.isAgg3 Try.sizeOf3 Try.underlying3), ⟨by decide, rfl, [.int .i64], [.int .i64, .int .i64, .int .i64, .int .i64, .int .i64, .int .i64, .int .i64, .int .i64], false, rfl, (Flat.one_ Try.isAgg3 Try.sizeOf3 Try.underlying3), ⟨by decide, rfl, [.int .i64], [.int .i64, .int .i64, .int .i64, .int .i64, .int .i64, .int .i64, .int .i64], false, rfl, (Flat.one_ Try.isAgg3 Try.sizeOf3 Try.underlying3), ⟨by decide, rfl, [.int .i64], [.int .i64, .int .i64, .int .i64, .int .i64, .int .i64, .int .i64], false, rfl, (Flat.one_ Try.isAgg3 Try.sizeOf3 Try.underlying3), ⟨by decide, rfl, [.int .i64], [.int .i64, .int .i64, .int .i64, .int .i64, .int .i64], false, rfl, (Flat.one_ Try.isAgg3 Try.sizeOf3 Try.underlying3), ⟨by decide, rfl, [.int .i64], [.int .i64, .int .i64, .int .i64, .int .i64], false, rfl, (Flat.one_ Try.isAgg3 Try.sizeOf3 Try.underlying3), ⟨by decide, rfl, [.int .i64], [.int .i64, .int .i64, .int .i64], false, rfl, (Flat.one_ Try.isAgg3 Try.sizeOf3 Try.underlying3), ⟨by decide, rfl, [.int .i64], [.int .i64, .int .i64], false, rfl, (Flat.one_ Try.isAgg3 Try.sizeOf3 Try.underlying3), ⟨by decide, rfl, [.int .i64], [.int .i64], false, rfl, (Flat.one_ Try.isAgg3 Try.sizeOf3 Try.underlying3), ⟨by decide, rfl, [.int .i64], [], false, rfl, (Flat.one_ Try.isAgg3 Try.sizeOf3 Try.underlying3), rfl⟩⟩⟩⟩⟩⟩⟩⟩⟩⟩⟩⟩)
theorem bok_cursitorlaw10_38 : BOK Try.prog 38 #[.int .i64 0, .int .i64 0, .int .i64 0, .int .i64 0, .int .i64 0, .int .i64 0, .int .i64 0, .int .i64 0, .int .i64 0, .int .i64 0, .int .i64 0, .int .i64 0] [(0, 1), (1, 1), (2, 1), (3, 1), (4, 1), (5, 1), (6, 1), (7, 1), (8, 1), (9, 1), (10, 1), (11, 1)] := BOK.mk Try.zeroValue38 Try.runUnderlying38 (by intro w; simp)
theorem sok_cursitorlaw10_25_12 : SOK Try.prog 25 3 12 1 #[.int .i64 0, .int .i64 0, .int .i64 0, .int .i64 0, .int .i64 0, .int .i64 0, .int .i64 0, .int .i64 0, .int .i64 0, .int .i64 0, .int .i64 0, .int .i64 0] := SOK.mk Try.runUnderlying25 Try.sizeOf3 Try.zeroValue3 (by decide) (by kernel_rfl)
def f_l10_speaks  : Option (Bool) := (f_prefix_Write ([], 0) (⟨0, 49, 0, 4294967295, 0, 0, 0, 0, -1, 0, 0, 0⟩ : Pfx)).bind fun st3 => (gOText st3).bind fun (x5, x6, st7) => (gNew x5).bind fun st9 => (if x6 = 0 then (if (x5.length : Int) = 61 then ((x5[16]?).bind fun ch21 => if (ch21.toNat : Int) = 2 then some false else some true) else some true) else some true).bind fun y17 => if y17 = true then some false else ((f_prefix_Peek x5).bind fun (x25, x26) => ((f_prefix_Read st9).bind fun (x51, st52) => if x51.fBase = 0 then (if x51.fLength = 49 then (if x51.fLeader = 0 then (if x51.fSum = 4294967295 then (if x51.fAttr = 0 then (if x51.fLast = 0 then (if x51.fFirst = 0 then (if x51.fMax = 0 then (if x51.fProducer = (-1) then (if x51.fEpoch = 0 then (if x51.fSequence = 0 then (if x51.fCount = 0 then ((gClose st52).bind fun (x66, st67) => if x66 = 0 then (if x25 = 61 then (if x26 = 0 then some (true, st67) else some (false, st67)) else some (false, st67)) else some (false, st67)) else some (false, st52)) else some (false, st52)) else some (false, st52)) else some (false, st52)) else some (false, st52)) else some (false, st52)) else some (false, st52)) else some (false, st52)) else some (false, st52)) else some (false, st52)) else some (false, st52)) else some (false, st52)).bind fun (y48, st49) => some y48)
set_option maxRecDepth 100000 in
set_option maxHeartbeats 4000000 in
theorem f_l10_speaks_spec  (r : Bool) (h : f_l10_speaks  = some r) : SpecX Try.prog 22 #[] .triv (EmpR) (fun v A' N => v = .bool r ∧ A' = EmpR ∧ N = []) := by
  refine enterA Try.func22 rfl Try.ntmps22 rfl ?_
  intro F w hX
  unfold f_l10_speaks at h
  refine T.seq (T.region rfl ?_)
  refine TL.run ft_cursitorlaw10_ok [0] rfl rfl ?_
  refine TL.nil (X.seq (T.seq (T.region rfl ?_)))
  refine TL.newout rfl .u Try.zeroValue42 rfl (fun b1 => ?_)
  refine TL.nil (X.seq (T.seq (T.region rfl ?_)))
  refine TL.q rfl .u (Ex.bld (cells := #[.int .i64 0, .int .i64 49, .int .i64 0, .int .i64 4294967295, .int .i64 0, .int .i64 0, .int .i64 0, .int .i64 0, .int .i64 (-1), .int .i64 0, .int .i64 0, .int .i64 0]) bok_cursitorlaw10_38 rfl (by kernel_rfl)) rfl ?_
  refine TL.alloc rfl .u Try.zeroValue38 rfl (fun b2 => ?_)
  refine TL.st0 (cs' := #[.int .i64 0, .int .i64 49, .int .i64 0, .int .i64 4294967295, .int .i64 0, .int .i64 0, .int .i64 0, .int .i64 0, .int .i64 (-1), .int .i64 0, .int .i64 0, .int .i64 0]) rfl .u rfl rfl Try.sizeOf38 rfl rfl rfl rfl ?_
  refine TL.nil (X.seq (T.seq (T.region rfl ?_)))
  refine TL.q rfl .u (Ex.bS (us := [.int .i64 0, .int .i64 49, .int .i64 0, .int .i64 4294967295, .int .i64 0, .int .i64 0, .int .i64 0, .int .i64 0, .int .i64 (-1), .int .i64 0, .int .i64 0, .int .i64 0]) 0 rfl Try.isAgg38 Try.sizeOf38 rfl rfl rfl) rfl ?_
  obtain ⟨st3, hx4, h⟩ := Option.bind_eq_some_iff.1 h
  refine TL.c1 rfl .u (.fn Try.call23 rfl) (f_prefix_Write_spec b1 ([], 0) (⟨0, 49, 0, 4294967295, 0, 0, 0, 0, -1, 0, 0, 0⟩ : Pfx) _ hx4) (fun _ hs => (Src.triv _)) rfl ?_
  obtain ⟨⟨x5, x6, st7⟩, hx8, h⟩ := Option.bind_eq_some_iff.1 h
  try dsimp only at h
  refine TL.nil (X.seq (T.seq (T.region rfl ?_)))
  refine TL.c1 rfl .u (.fn Try.call24 rfl) (gOText_spec b1 st3 _ hx8) (fun _ hs => (Src.triv _)) rfl ?_
  refine TL.run ft_cursitorlaw10_ok [1, 2, 3, 4, 5] rfl rfl ?_
  refine TL.nil (X.seq (T.seq (T.region rfl ?_)))
  obtain ⟨st9, hx10, h⟩ := Option.bind_eq_some_iff.1 h
  refine TL.run ft_cursitorlaw10_ok [0] rfl rfl ?_
  refine TL.cge rfl .u (.fn Try.call27 rfl) (gNew_spec x5 _ hx10) (fun _ hs => (RX.reads_triv _ _)) rfl ?_
  rintro _ _ _ ⟨b11, rfl, rfl, rfl⟩
  refine TL.sel [0, 0, 0, 0] rfl ?_
  refine TL.run ft_cursitorlaw10_ok [2] rfl rfl ?_
  refine TL.nil (X.seq (T.seq (T.seq ?_)))
  obtain ⟨y17, h, hk18⟩ := Option.bind_eq_some_iff.1 h
  refine T.jq (fun e Rs => e = [(0, .bool false), (2, .pointer (some ⟨b2, 0, none⟩)), (3, .string (bsOf x5)), (5, .pointer (some ⟨b11, 0, none⟩)), (32, .bool y17)] ∧ Rs = [InR b11 st9, BlkR b2 38 #[.int .i64 0, .int .i64 49, .int .i64 0, .int .i64 4294967295, .int .i64 0, .int .i64 0, .int .i64 0, .int .i64 0, .int .i64 (-1), .int .i64 0, .int .i64 0, .int .i64 0], OutR b1 st7, EmpR]) ?_ ?_
  · clear hk18
    refine T.region rfl ?_
    by_cases c19 : x6 = 0
    · replace h := ifT c19 h
      refine TL.run ft_cursitorlaw10_ok [0, 1, 2] rfl rfl ?_
      refine TL.q rfl (.g rfl rfl (bn_f (decide_eq_true c19))) (Ex.ft ft_cursitorlaw10_ok rfl) rfl ?_
      refine TL.q rfl (.g rfl rfl (bn_f (decide_eq_true c19))) (Ex.lenB rfl Try.runUnderlying9) rfl ?_
      refine TL.q rfl (.g rfl rfl (bn_f (decide_eq_true c19))) (Ex.ft ft_cursitorlaw10_ok rfl) rfl ?_
      refine TL.q rfl .u (Ex.pn rfl (bn_f (decide_eq_true c19)) rfl) rfl ?_
      by_cases c20 : (x5.length : Int) = 61
      · replace h := ifT c20 h
        refine TL.run ft_cursitorlaw10_ok [7] rfl rfl ?_
        refine TL.q rfl (.g rfl rfl (bn_f (decide_eq_true c20))) (Ex.ft ft_cursitorlaw10_ok rfl) rfl ?_
        obtain ⟨ch21, hc22, h⟩ := Option.bind_eq_some_iff.1 h
        refine TL.q rfl (.g rfl rfl (bn_f (decide_eq_true c20))) (Ex.sIx rfl rfl rfl Try.underlying9 hc22) rfl ?_
        refine TL.q rfl (.g rfl rfl (bn_f (decide_eq_true c20))) (Ex.ft ft_cursitorlaw10_ok rfl) rfl ?_
        refine TL.q rfl .u (Ex.pn rfl (bn_f (decide_eq_true c20)) rfl) rfl ?_
        by_cases c23 : (ch21.toNat : Int) = 2
        · replace h := ifT c23 h
          refine TL.run ft_cursitorlaw10_ok [12] rfl rfl ?_
          refine TL.q rfl (.g rfl rfl (bn_f (decide_eq_true c23))) (Ex.ft ft_cursitorlaw10_ok rfl) rfl ?_
          refine TL.q rfl (.g rfl rfl (bn_f (decide_eq_true c23))) (Ex.pNe (.inl ⟨rfl, rfl⟩) rfl rfl Try.runUnderlying50) rfl ?_
          refine TL.q rfl .u (Ex.pn rfl (bn_f (decide_eq_true c23)) rfl) rfl ?_
          cases h
          exact TL.nil (X.jq [0, 0, 0, 0] ⟨rfl, rfl⟩ (by rfl) (by rfl))
        · replace h := ifF c23 h
          refine TL.run ft_cursitorlaw10_ok [12] rfl rfl ?_
          refine TL.no rfl (.gn rfl rfl (bn_t (decide_eq_false c23))) rfl ?_
          refine TL.no rfl (.gn rfl rfl (bn_t (decide_eq_false c23))) rfl ?_
          refine TL.q rfl .u (Ex.py rfl (bn_t (decide_eq_false c23)) rfl) rfl ?_
          cases h
          exact TL.nil (X.jq [0, 0, 0, 0] ⟨rfl, rfl⟩ (by rfl) (by rfl))
      · replace h := ifF c20 h
        refine TL.run ft_cursitorlaw10_ok [7] rfl rfl ?_
        refine TL.no rfl (.gn rfl rfl (bn_t (decide_eq_false c20))) rfl ?_
        refine TL.no rfl (.gn rfl rfl (bn_t (decide_eq_false c20))) rfl ?_
        refine TL.no rfl (.gn rfl rfl (bn_t (decide_eq_false c20))) rfl ?_
        refine TL.q rfl .u (Ex.py rfl (bn_t (decide_eq_false c20)) rfl) rfl ?_
        refine TL.run ft_cursitorlaw10_ok [12] rfl rfl ?_
        refine TL.no rfl (.gn rfl rfl rfl) rfl ?_
        refine TL.no rfl (.gn rfl rfl rfl) rfl ?_
        refine TL.q rfl .u (Ex.py rfl rfl rfl) rfl ?_
        cases h
        exact TL.nil (X.jq [0, 0, 0, 0] ⟨rfl, rfl⟩ (by rfl) (by rfl))
    · replace h := ifF c19 h
      refine TL.run ft_cursitorlaw10_ok [0, 1, 2] rfl rfl ?_
      refine TL.no rfl (.gn rfl rfl (bn_t (decide_eq_false c19))) rfl ?_
      refine TL.no rfl (.gn rfl rfl (bn_t (decide_eq_false c19))) rfl ?_
      refine TL.no rfl (.gn rfl rfl (bn_t (decide_eq_false c19))) rfl ?_
      refine TL.q rfl .u (Ex.py rfl (bn_t (decide_eq_false c19)) rfl) rfl ?_
      refine TL.run ft_cursitorlaw10_ok [7] rfl rfl ?_
      refine TL.no rfl (.gn rfl rfl rfl) rfl ?_
      refine TL.no rfl (.gn rfl rfl rfl) rfl ?_
      refine TL.no rfl (.gn rfl rfl rfl) rfl ?_
      refine TL.q rfl .u (Ex.py rfl rfl rfl) rfl ?_
      refine TL.run ft_cursitorlaw10_ok [12] rfl rfl ?_
      refine TL.no rfl (.gn rfl rfl rfl) rfl ?_
      refine TL.no rfl (.gn rfl rfl rfl) rfl ?_
      refine TL.q rfl .u (Ex.py rfl rfl rfl) rfl ?_
      cases h
      exact TL.nil (X.jq [0, 0, 0, 0] ⟨rfl, rfl⟩ (by rfl) (by rfl))
  · rintro _ _ ⟨rfl, rfl⟩
    clear h
    have h := hk18
    clear hk18
    try dsimp only at h
    by_cases c24 : y17 = true
    · replace h := ifT c24 h
      refine X.seq ?_
      refine T.yes rfl c24 ?_
      refine T.seq (T.region rfl ?_)
      refine TL.run ft_cursitorlaw10_ok [0] rfl rfl ?_
      obtain rfl := Option.some.inj h
      exact TL.nil (X.seq (T.ret (X.rs (X.done1 [3] Try.results22 (RV.tm rfl) ⟨rfl, rfl, rfl⟩ (by rfl) (.inl rfl)))))
    · replace h := ifF c24 h
      replace c24 := eq_false_of_ne_true c24
      refine X.seq ?_
      refine T.no rfl c24 ?_
      refine T.skip (X.seq (T.seq (T.region rfl ?_)))
      obtain ⟨⟨x25, x26⟩, hx27, h⟩ := Option.bind_eq_some_iff.1 h
      try dsimp only at h
      refine TL.run ft_cursitorlaw10_ok [0] rfl rfl ?_
      refine TL.ce rfl .u (.fn Try.call32 rfl) (f_prefix_Peek_spec x5 _ hx27) (fun _ hs => (RX.reads_triv _ _)) rfl ?_
      refine TL.run ft_cursitorlaw10_ok [2, 3, 4, 5, 6] rfl rfl ?_
      refine TL.nil (X.seq (T.seq ?_))
      obtain ⟨⟨y48, st49⟩, h, hk50⟩ := Option.bind_eq_some_iff.1 h
      refine T.jq (fun e Rs => e = [(0, .bool y48)] ∧ Rs = [InR b11 st49, BlkR b2 38 #[.int .i64 0, .int .i64 49, .int .i64 0, .int .i64 4294967295, .int .i64 0, .int .i64 0, .int .i64 0, .int .i64 0, .int .i64 (-1), .int .i64 0, .int .i64 0, .int .i64 0], OutR b1 st7, EmpR]) ?_ ?_
      · clear hk50
        refine T.draw (.q 0 (.q 2 (.e 1 (.q 3 (.q 4 (.q 5 (.e 6 (.q 7 (.q 8 (.q 9 (.q 10 (.q 11 (.q 12 (.q 13 (.q 14 (.q 15 (.q 16 (.q 17 .nil)))))))))))))))))) [1, 1, 1] rfl mix_cursitorlaw10 (NoP.seq (NoP.seq np_post)) (by kernel_rfl) ?_
        refine TD.run ft_cursitorlaw10_ok [0] rfl rfl ?_
        refine TD.q rfl .u (Ex.bS (us := [.int .i64 0, .int .i64 49, .int .i64 0, .int .i64 4294967295, .int .i64 0, .int .i64 0, .int .i64 0, .int .i64 0, .int .i64 (-1), .int .i64 0, .int .i64 0, .int .i64 0]) 0 rfl Try.isAgg38 Try.sizeOf38 rfl rfl rfl) rfl ?_
        obtain ⟨⟨x51, st52⟩, hx53, h⟩ := Option.bind_eq_some_iff.1 h
        try dsimp only at h
        refine TD.c0 rfl .u (.fn Try.call28 rfl) (f_prefix_Read_spec b11 st9 _ hx53) (fun _ hs => (Src.triv _)) rfl [1, 1, 1] (rfl) ?_
        by_cases c54 : x51.fBase = 0
        · replace h := ifT c54 h
          by_cases c55 : x51.fLength = 49
          · replace h := ifT c55 h
            by_cases c56 : x51.fLeader = 0
            · replace h := ifT c56 h
              by_cases c57 : x51.fSum = 4294967295
              · replace h := ifT c57 h
                by_cases c58 : x51.fAttr = 0
                · replace h := ifT c58 h
                  by_cases c59 : x51.fLast = 0
                  · replace h := ifT c59 h
                    by_cases c60 : x51.fFirst = 0
                    · replace h := ifT c60 h
                      by_cases c61 : x51.fMax = 0
                      · replace h := ifT c61 h
                        by_cases c62 : x51.fProducer = (-1)
                        · replace h := ifT c62 h
                          by_cases c63 : x51.fEpoch = 0
                          · replace h := ifT c63 h
                            by_cases c64 : x51.fSequence = 0
                            · replace h := ifT c64 h
                              by_cases c65 : x51.fCount = 0
                              · replace h := ifT c65 h
                                refine TD.q rfl .u (Ex.aEq (us := [.int .i64 x51.fBase, .int .i64 x51.fLength, .int .i64 x51.fLeader, .int .i64 x51.fSum, .int .i64 x51.fAttr, .int .i64 x51.fLast, .int .i64 x51.fFirst, .int .i64 x51.fMax, .int .i64 x51.fProducer, .int .i64 x51.fEpoch, .int .i64 x51.fSequence, .int .i64 x51.fCount]) (vs := [.int .i64 0, .int .i64 49, .int .i64 0, .int .i64 4294967295, .int .i64 0, .int .i64 0, .int .i64 0, .int .i64 0, .int .i64 (-1), .int .i64 0, .int .i64 0, .int .i64 0]) flat_cursitorlaw10_38 rfl Try.eqGuardType38 rfl rfl rfl rfl (eqL_t (eqV_i c54) (eqL_t (eqV_i c55) (eqL_t (eqV_i c56) (eqL_t (eqV_i c57) (eqL_t (eqV_i c58) (eqL_t (eqV_i c59) (eqL_t (eqV_i c60) (eqL_t (eqV_i c61) (eqL_t (eqV_i c62) (eqL_t (eqV_i c63) (eqL_t (eqV_i c64) (eqL_t (eqV_i c65) rfl))))))))))))) rfl ?_
                                refine TD.run ft_cursitorlaw10_ok [4] rfl rfl ?_
                                refine TD.q rfl (.g rfl rfl rfl) (Ex.ft ft_cursitorlaw10_ok rfl) rfl ?_
                                obtain ⟨⟨x66, st67⟩, hx68, h⟩ := Option.bind_eq_some_iff.1 h
                                try dsimp only at h
                                refine TD.c0 rfl (.g rfl rfl rfl) (.fn Try.call30 rfl) (gClose_spec b11 st52 _ hx68) (fun _ hs => (Src.triv _)) rfl [1, 1, 1] (rfl) ?_
                                refine TD.q rfl (.g rfl rfl rfl) (Ex.ft ft_cursitorlaw10_ok rfl) rfl ?_
                                refine TD.q rfl .u (Ex.py rfl rfl rfl) rfl ?_
                                by_cases c69 : x66 = 0
                                · replace h := ifT c69 h
                                  refine TD.run ft_cursitorlaw10_ok [9] rfl rfl ?_
                                  refine TD.q rfl (.g rfl rfl (decide_eq_true c69)) (Ex.ft ft_cursitorlaw10_ok rfl) rfl ?_
                                  refine TD.q rfl (.g rfl rfl (decide_eq_true c69)) (Ex.ft ft_cursitorlaw10_ok rfl) rfl ?_
                                  refine TD.q rfl .u (Ex.py rfl (decide_eq_true c69) rfl) rfl ?_
                                  by_cases c70 : x25 = 61
                                  · replace h := ifT c70 h
                                    refine TD.run ft_cursitorlaw10_ok [13] rfl rfl ?_
                                    refine TD.q rfl (.g rfl rfl (decide_eq_true c70)) (Ex.ft ft_cursitorlaw10_ok rfl) rfl ?_
                                    refine TD.q rfl (.g rfl rfl (decide_eq_true c70)) (Ex.ft ft_cursitorlaw10_ok rfl) rfl ?_
                                    refine TD.q rfl .u (Ex.py rfl (decide_eq_true c70) rfl) rfl ?_
                                    refine TD.run ft_cursitorlaw10_ok [17] rfl rfl ?_
                                    by_cases c71 : x26 = 0
                                    · replace h := ifT c71 h
                                      cases h
                                      exact TD.nil (X.as (d := 0) (v' := .bool true) rfl (congrArg Value.bool (decide_eq_true c71)) (X.jq [0, 0, 0, 0] ⟨rfl, rfl⟩ (by rfl) (by rfl)))
                                    · replace h := ifF c71 h
                                      cases h
                                      exact TD.nil (X.as (d := 0) (v' := .bool false) rfl (congrArg Value.bool (decide_eq_false c71)) (X.jq [0, 0, 0, 0] ⟨rfl, rfl⟩ (by rfl) (by rfl)))
                                  · replace h := ifF c70 h
                                    refine TD.run ft_cursitorlaw10_ok [13] rfl rfl ?_
                                    refine TD.no rfl (.gn rfl rfl (decide_eq_false c70)) rfl ?_
                                    refine TD.no rfl (.gn rfl rfl (decide_eq_false c70)) rfl ?_
                                    refine TD.q rfl .u (Ex.pn rfl (decide_eq_false c70) rfl) rfl ?_
                                    refine TD.run ft_cursitorlaw10_ok [17] rfl rfl ?_
                                    cases h
                                    exact TD.nil (X.jq [0, 0, 0, 0] ⟨rfl, rfl⟩ (by rfl) (by rfl))
                                · replace h := ifF c69 h
                                  refine TD.run ft_cursitorlaw10_ok [9] rfl rfl ?_
                                  refine TD.no rfl (.gn rfl rfl (decide_eq_false c69)) rfl ?_
                                  refine TD.no rfl (.gn rfl rfl (decide_eq_false c69)) rfl ?_
                                  refine TD.q rfl .u (Ex.pn rfl (decide_eq_false c69) rfl) rfl ?_
                                  refine TD.run ft_cursitorlaw10_ok [13] rfl rfl ?_
                                  refine TD.no rfl (.gn rfl rfl rfl) rfl ?_
                                  refine TD.no rfl (.gn rfl rfl rfl) rfl ?_
                                  refine TD.q rfl .u (Ex.pn rfl rfl rfl) rfl ?_
                                  refine TD.run ft_cursitorlaw10_ok [17] rfl rfl ?_
                                  cases h
                                  exact TD.nil (X.jq [0, 0, 0, 0] ⟨rfl, rfl⟩ (by rfl) (by rfl))
                              · replace h := ifF c65 h
                                refine TD.q rfl .u (Ex.aEq (us := [.int .i64 x51.fBase, .int .i64 x51.fLength, .int .i64 x51.fLeader, .int .i64 x51.fSum, .int .i64 x51.fAttr, .int .i64 x51.fLast, .int .i64 x51.fFirst, .int .i64 x51.fMax, .int .i64 x51.fProducer, .int .i64 x51.fEpoch, .int .i64 x51.fSequence, .int .i64 x51.fCount]) (vs := [.int .i64 0, .int .i64 49, .int .i64 0, .int .i64 4294967295, .int .i64 0, .int .i64 0, .int .i64 0, .int .i64 0, .int .i64 (-1), .int .i64 0, .int .i64 0, .int .i64 0]) flat_cursitorlaw10_38 rfl Try.eqGuardType38 rfl rfl rfl rfl (eqL_t (eqV_i c54) (eqL_t (eqV_i c55) (eqL_t (eqV_i c56) (eqL_t (eqV_i c57) (eqL_t (eqV_i c58) (eqL_t (eqV_i c59) (eqL_t (eqV_i c60) (eqL_t (eqV_i c61) (eqL_t (eqV_i c62) (eqL_t (eqV_i c63) (eqL_t (eqV_i c64) (eqL_f (eqV_in c65)))))))))))))) rfl ?_
                                refine TD.run ft_cursitorlaw10_ok [4] rfl rfl ?_
                                refine TD.no rfl (.gn rfl rfl rfl) rfl ?_
                                refine TD.noe rfl (.gn rfl rfl rfl) rfl [1, 1, 1] rfl ?_
                                refine TD.no rfl (.gn rfl rfl rfl) rfl ?_
                                refine TD.q rfl .u (Ex.pn rfl rfl rfl) rfl ?_
                                refine TD.run ft_cursitorlaw10_ok [9] rfl rfl ?_
                                refine TD.no rfl (.gn rfl rfl rfl) rfl ?_
                                refine TD.no rfl (.gn rfl rfl rfl) rfl ?_
                                refine TD.q rfl .u (Ex.pn rfl rfl rfl) rfl ?_
                                refine TD.run ft_cursitorlaw10_ok [13] rfl rfl ?_
                                refine TD.no rfl (.gn rfl rfl rfl) rfl ?_
                                refine TD.no rfl (.gn rfl rfl rfl) rfl ?_
                                refine TD.q rfl .u (Ex.pn rfl rfl rfl) rfl ?_
                                refine TD.run ft_cursitorlaw10_ok [17] rfl rfl ?_
                                cases h
                                exact TD.nil (X.jq [0, 0, 0, 0] ⟨rfl, rfl⟩ (by rfl) (by rfl))
                            · replace h := ifF c64 h
                              refine TD.q rfl .u (Ex.aEq (us := [.int .i64 x51.fBase, .int .i64 x51.fLength, .int .i64 x51.fLeader, .int .i64 x51.fSum, .int .i64 x51.fAttr, .int .i64 x51.fLast, .int .i64 x51.fFirst, .int .i64 x51.fMax, .int .i64 x51.fProducer, .int .i64 x51.fEpoch, .int .i64 x51.fSequence, .int .i64 x51.fCount]) (vs := [.int .i64 0, .int .i64 49, .int .i64 0, .int .i64 4294967295, .int .i64 0, .int .i64 0, .int .i64 0, .int .i64 0, .int .i64 (-1), .int .i64 0, .int .i64 0, .int .i64 0]) flat_cursitorlaw10_38 rfl Try.eqGuardType38 rfl rfl rfl rfl (eqL_t (eqV_i c54) (eqL_t (eqV_i c55) (eqL_t (eqV_i c56) (eqL_t (eqV_i c57) (eqL_t (eqV_i c58) (eqL_t (eqV_i c59) (eqL_t (eqV_i c60) (eqL_t (eqV_i c61) (eqL_t (eqV_i c62) (eqL_t (eqV_i c63) (eqL_f (eqV_in c64))))))))))))) rfl ?_
                              refine TD.run ft_cursitorlaw10_ok [4] rfl rfl ?_
                              refine TD.no rfl (.gn rfl rfl rfl) rfl ?_
                              refine TD.noe rfl (.gn rfl rfl rfl) rfl [1, 1, 1] rfl ?_
                              refine TD.no rfl (.gn rfl rfl rfl) rfl ?_
                              refine TD.q rfl .u (Ex.pn rfl rfl rfl) rfl ?_
                              refine TD.run ft_cursitorlaw10_ok [9] rfl rfl ?_
                              refine TD.no rfl (.gn rfl rfl rfl) rfl ?_
                              refine TD.no rfl (.gn rfl rfl rfl) rfl ?_
                              refine TD.q rfl .u (Ex.pn rfl rfl rfl) rfl ?_
                              refine TD.run ft_cursitorlaw10_ok [13] rfl rfl ?_
                              refine TD.no rfl (.gn rfl rfl rfl) rfl ?_
                              refine TD.no rfl (.gn rfl rfl rfl) rfl ?_
                              refine TD.q rfl .u (Ex.pn rfl rfl rfl) rfl ?_
                              refine TD.run ft_cursitorlaw10_ok [17] rfl rfl ?_
                              cases h
                              exact TD.nil (X.jq [0, 0, 0, 0] ⟨rfl, rfl⟩ (by rfl) (by rfl))
                          · replace h := ifF c63 h
                            refine TD.q rfl .u (Ex.aEq (us := [.int .i64 x51.fBase, .int .i64 x51.fLength, .int .i64 x51.fLeader, .int .i64 x51.fSum, .int .i64 x51.fAttr, .int .i64 x51.fLast, .int .i64 x51.fFirst, .int .i64 x51.fMax, .int .i64 x51.fProducer, .int .i64 x51.fEpoch, .int .i64 x51.fSequence, .int .i64 x51.fCount]) (vs := [.int .i64 0, .int .i64 49, .int .i64 0, .int .i64 4294967295, .int .i64 0, .int .i64 0, .int .i64 0, .int .i64 0, .int .i64 (-1), .int .i64 0, .int .i64 0, .int .i64 0]) flat_cursitorlaw10_38 rfl Try.eqGuardType38 rfl rfl rfl rfl (eqL_t (eqV_i c54) (eqL_t (eqV_i c55) (eqL_t (eqV_i c56) (eqL_t (eqV_i c57) (eqL_t (eqV_i c58) (eqL_t (eqV_i c59) (eqL_t (eqV_i c60) (eqL_t (eqV_i c61) (eqL_t (eqV_i c62) (eqL_f (eqV_in c63)))))))))))) rfl ?_
                            refine TD.run ft_cursitorlaw10_ok [4] rfl rfl ?_
                            refine TD.no rfl (.gn rfl rfl rfl) rfl ?_
                            refine TD.noe rfl (.gn rfl rfl rfl) rfl [1, 1, 1] rfl ?_
                            refine TD.no rfl (.gn rfl rfl rfl) rfl ?_
                            refine TD.q rfl .u (Ex.pn rfl rfl rfl) rfl ?_
                            refine TD.run ft_cursitorlaw10_ok [9] rfl rfl ?_
                            refine TD.no rfl (.gn rfl rfl rfl) rfl ?_
                            refine TD.no rfl (.gn rfl rfl rfl) rfl ?_
                            refine TD.q rfl .u (Ex.pn rfl rfl rfl) rfl ?_
                            refine TD.run ft_cursitorlaw10_ok [13] rfl rfl ?_
                            refine TD.no rfl (.gn rfl rfl rfl) rfl ?_
                            refine TD.no rfl (.gn rfl rfl rfl) rfl ?_
                            refine TD.q rfl .u (Ex.pn rfl rfl rfl) rfl ?_
                            refine TD.run ft_cursitorlaw10_ok [17] rfl rfl ?_
                            cases h
                            exact TD.nil (X.jq [0, 0, 0, 0] ⟨rfl, rfl⟩ (by rfl) (by rfl))
                        · replace h := ifF c62 h
                          refine TD.q rfl .u (Ex.aEq (us := [.int .i64 x51.fBase, .int .i64 x51.fLength, .int .i64 x51.fLeader, .int .i64 x51.fSum, .int .i64 x51.fAttr, .int .i64 x51.fLast, .int .i64 x51.fFirst, .int .i64 x51.fMax, .int .i64 x51.fProducer, .int .i64 x51.fEpoch, .int .i64 x51.fSequence, .int .i64 x51.fCount]) (vs := [.int .i64 0, .int .i64 49, .int .i64 0, .int .i64 4294967295, .int .i64 0, .int .i64 0, .int .i64 0, .int .i64 0, .int .i64 (-1), .int .i64 0, .int .i64 0, .int .i64 0]) flat_cursitorlaw10_38 rfl Try.eqGuardType38 rfl rfl rfl rfl (eqL_t (eqV_i c54) (eqL_t (eqV_i c55) (eqL_t (eqV_i c56) (eqL_t (eqV_i c57) (eqL_t (eqV_i c58) (eqL_t (eqV_i c59) (eqL_t (eqV_i c60) (eqL_t (eqV_i c61) (eqL_f (eqV_in c62))))))))))) rfl ?_
                          refine TD.run ft_cursitorlaw10_ok [4] rfl rfl ?_
                          refine TD.no rfl (.gn rfl rfl rfl) rfl ?_
                          refine TD.noe rfl (.gn rfl rfl rfl) rfl [1, 1, 1] rfl ?_
                          refine TD.no rfl (.gn rfl rfl rfl) rfl ?_
                          refine TD.q rfl .u (Ex.pn rfl rfl rfl) rfl ?_
                          refine TD.run ft_cursitorlaw10_ok [9] rfl rfl ?_
                          refine TD.no rfl (.gn rfl rfl rfl) rfl ?_
                          refine TD.no rfl (.gn rfl rfl rfl) rfl ?_
                          refine TD.q rfl .u (Ex.pn rfl rfl rfl) rfl ?_
                          refine TD.run ft_cursitorlaw10_ok [13] rfl rfl ?_
                          refine TD.no rfl (.gn rfl rfl rfl) rfl ?_
                          refine TD.no rfl (.gn rfl rfl rfl) rfl ?_
                          refine TD.q rfl .u (Ex.pn rfl rfl rfl) rfl ?_
                          refine TD.run ft_cursitorlaw10_ok [17] rfl rfl ?_
                          cases h
                          exact TD.nil (X.jq [0, 0, 0, 0] ⟨rfl, rfl⟩ (by rfl) (by rfl))
                      · replace h := ifF c61 h
                        refine TD.q rfl .u (Ex.aEq (us := [.int .i64 x51.fBase, .int .i64 x51.fLength, .int .i64 x51.fLeader, .int .i64 x51.fSum, .int .i64 x51.fAttr, .int .i64 x51.fLast, .int .i64 x51.fFirst, .int .i64 x51.fMax, .int .i64 x51.fProducer, .int .i64 x51.fEpoch, .int .i64 x51.fSequence, .int .i64 x51.fCount]) (vs := [.int .i64 0, .int .i64 49, .int .i64 0, .int .i64 4294967295, .int .i64 0, .int .i64 0, .int .i64 0, .int .i64 0, .int .i64 (-1), .int .i64 0, .int .i64 0, .int .i64 0]) flat_cursitorlaw10_38 rfl Try.eqGuardType38 rfl rfl rfl rfl (eqL_t (eqV_i c54) (eqL_t (eqV_i c55) (eqL_t (eqV_i c56) (eqL_t (eqV_i c57) (eqL_t (eqV_i c58) (eqL_t (eqV_i c59) (eqL_t (eqV_i c60) (eqL_f (eqV_in c61)))))))))) rfl ?_
                        refine TD.run ft_cursitorlaw10_ok [4] rfl rfl ?_
                        refine TD.no rfl (.gn rfl rfl rfl) rfl ?_
                        refine TD.noe rfl (.gn rfl rfl rfl) rfl [1, 1, 1] rfl ?_
                        refine TD.no rfl (.gn rfl rfl rfl) rfl ?_
                        refine TD.q rfl .u (Ex.pn rfl rfl rfl) rfl ?_
                        refine TD.run ft_cursitorlaw10_ok [9] rfl rfl ?_
                        refine TD.no rfl (.gn rfl rfl rfl) rfl ?_
                        refine TD.no rfl (.gn rfl rfl rfl) rfl ?_
                        refine TD.q rfl .u (Ex.pn rfl rfl rfl) rfl ?_
                        refine TD.run ft_cursitorlaw10_ok [13] rfl rfl ?_
                        refine TD.no rfl (.gn rfl rfl rfl) rfl ?_
                        refine TD.no rfl (.gn rfl rfl rfl) rfl ?_
                        refine TD.q rfl .u (Ex.pn rfl rfl rfl) rfl ?_
                        refine TD.run ft_cursitorlaw10_ok [17] rfl rfl ?_
                        cases h
                        exact TD.nil (X.jq [0, 0, 0, 0] ⟨rfl, rfl⟩ (by rfl) (by rfl))
                    · replace h := ifF c60 h
                      refine TD.q rfl .u (Ex.aEq (us := [.int .i64 x51.fBase, .int .i64 x51.fLength, .int .i64 x51.fLeader, .int .i64 x51.fSum, .int .i64 x51.fAttr, .int .i64 x51.fLast, .int .i64 x51.fFirst, .int .i64 x51.fMax, .int .i64 x51.fProducer, .int .i64 x51.fEpoch, .int .i64 x51.fSequence, .int .i64 x51.fCount]) (vs := [.int .i64 0, .int .i64 49, .int .i64 0, .int .i64 4294967295, .int .i64 0, .int .i64 0, .int .i64 0, .int .i64 0, .int .i64 (-1), .int .i64 0, .int .i64 0, .int .i64 0]) flat_cursitorlaw10_38 rfl Try.eqGuardType38 rfl rfl rfl rfl (eqL_t (eqV_i c54) (eqL_t (eqV_i c55) (eqL_t (eqV_i c56) (eqL_t (eqV_i c57) (eqL_t (eqV_i c58) (eqL_t (eqV_i c59) (eqL_f (eqV_in c60))))))))) rfl ?_
                      refine TD.run ft_cursitorlaw10_ok [4] rfl rfl ?_
                      refine TD.no rfl (.gn rfl rfl rfl) rfl ?_
                      refine TD.noe rfl (.gn rfl rfl rfl) rfl [1, 1, 1] rfl ?_
                      refine TD.no rfl (.gn rfl rfl rfl) rfl ?_
                      refine TD.q rfl .u (Ex.pn rfl rfl rfl) rfl ?_
                      refine TD.run ft_cursitorlaw10_ok [9] rfl rfl ?_
                      refine TD.no rfl (.gn rfl rfl rfl) rfl ?_
                      refine TD.no rfl (.gn rfl rfl rfl) rfl ?_
                      refine TD.q rfl .u (Ex.pn rfl rfl rfl) rfl ?_
                      refine TD.run ft_cursitorlaw10_ok [13] rfl rfl ?_
                      refine TD.no rfl (.gn rfl rfl rfl) rfl ?_
                      refine TD.no rfl (.gn rfl rfl rfl) rfl ?_
                      refine TD.q rfl .u (Ex.pn rfl rfl rfl) rfl ?_
                      refine TD.run ft_cursitorlaw10_ok [17] rfl rfl ?_
                      cases h
                      exact TD.nil (X.jq [0, 0, 0, 0] ⟨rfl, rfl⟩ (by rfl) (by rfl))
                  · replace h := ifF c59 h
                    refine TD.q rfl .u (Ex.aEq (us := [.int .i64 x51.fBase, .int .i64 x51.fLength, .int .i64 x51.fLeader, .int .i64 x51.fSum, .int .i64 x51.fAttr, .int .i64 x51.fLast, .int .i64 x51.fFirst, .int .i64 x51.fMax, .int .i64 x51.fProducer, .int .i64 x51.fEpoch, .int .i64 x51.fSequence, .int .i64 x51.fCount]) (vs := [.int .i64 0, .int .i64 49, .int .i64 0, .int .i64 4294967295, .int .i64 0, .int .i64 0, .int .i64 0, .int .i64 0, .int .i64 (-1), .int .i64 0, .int .i64 0, .int .i64 0]) flat_cursitorlaw10_38 rfl Try.eqGuardType38 rfl rfl rfl rfl (eqL_t (eqV_i c54) (eqL_t (eqV_i c55) (eqL_t (eqV_i c56) (eqL_t (eqV_i c57) (eqL_t (eqV_i c58) (eqL_f (eqV_in c59)))))))) rfl ?_
                    refine TD.run ft_cursitorlaw10_ok [4] rfl rfl ?_
                    refine TD.no rfl (.gn rfl rfl rfl) rfl ?_
                    refine TD.noe rfl (.gn rfl rfl rfl) rfl [1, 1, 1] rfl ?_
                    refine TD.no rfl (.gn rfl rfl rfl) rfl ?_
                    refine TD.q rfl .u (Ex.pn rfl rfl rfl) rfl ?_
                    refine TD.run ft_cursitorlaw10_ok [9] rfl rfl ?_
                    refine TD.no rfl (.gn rfl rfl rfl) rfl ?_
                    refine TD.no rfl (.gn rfl rfl rfl) rfl ?_
                    refine TD.q rfl .u (Ex.pn rfl rfl rfl) rfl ?_
                    refine TD.run ft_cursitorlaw10_ok [13] rfl rfl ?_
                    refine TD.no rfl (.gn rfl rfl rfl) rfl ?_
                    refine TD.no rfl (.gn rfl rfl rfl) rfl ?_
                    refine TD.q rfl .u (Ex.pn rfl rfl rfl) rfl ?_
                    refine TD.run ft_cursitorlaw10_ok [17] rfl rfl ?_
                    cases h
                    exact TD.nil (X.jq [0, 0, 0, 0] ⟨rfl, rfl⟩ (by rfl) (by rfl))
                · replace h := ifF c58 h
                  refine TD.q rfl .u (Ex.aEq (us := [.int .i64 x51.fBase, .int .i64 x51.fLength, .int .i64 x51.fLeader, .int .i64 x51.fSum, .int .i64 x51.fAttr, .int .i64 x51.fLast, .int .i64 x51.fFirst, .int .i64 x51.fMax, .int .i64 x51.fProducer, .int .i64 x51.fEpoch, .int .i64 x51.fSequence, .int .i64 x51.fCount]) (vs := [.int .i64 0, .int .i64 49, .int .i64 0, .int .i64 4294967295, .int .i64 0, .int .i64 0, .int .i64 0, .int .i64 0, .int .i64 (-1), .int .i64 0, .int .i64 0, .int .i64 0]) flat_cursitorlaw10_38 rfl Try.eqGuardType38 rfl rfl rfl rfl (eqL_t (eqV_i c54) (eqL_t (eqV_i c55) (eqL_t (eqV_i c56) (eqL_t (eqV_i c57) (eqL_f (eqV_in c58))))))) rfl ?_
                  refine TD.run ft_cursitorlaw10_ok [4] rfl rfl ?_
                  refine TD.no rfl (.gn rfl rfl rfl) rfl ?_
                  refine TD.noe rfl (.gn rfl rfl rfl) rfl [1, 1, 1] rfl ?_
                  refine TD.no rfl (.gn rfl rfl rfl) rfl ?_
                  refine TD.q rfl .u (Ex.pn rfl rfl rfl) rfl ?_
                  refine TD.run ft_cursitorlaw10_ok [9] rfl rfl ?_
                  refine TD.no rfl (.gn rfl rfl rfl) rfl ?_
                  refine TD.no rfl (.gn rfl rfl rfl) rfl ?_
                  refine TD.q rfl .u (Ex.pn rfl rfl rfl) rfl ?_
                  refine TD.run ft_cursitorlaw10_ok [13] rfl rfl ?_
                  refine TD.no rfl (.gn rfl rfl rfl) rfl ?_
                  refine TD.no rfl (.gn rfl rfl rfl) rfl ?_
                  refine TD.q rfl .u (Ex.pn rfl rfl rfl) rfl ?_
                  refine TD.run ft_cursitorlaw10_ok [17] rfl rfl ?_
                  cases h
                  exact TD.nil (X.jq [0, 0, 0, 0] ⟨rfl, rfl⟩ (by rfl) (by rfl))
              · replace h := ifF c57 h
                refine TD.q rfl .u (Ex.aEq (us := [.int .i64 x51.fBase, .int .i64 x51.fLength, .int .i64 x51.fLeader, .int .i64 x51.fSum, .int .i64 x51.fAttr, .int .i64 x51.fLast, .int .i64 x51.fFirst, .int .i64 x51.fMax, .int .i64 x51.fProducer, .int .i64 x51.fEpoch, .int .i64 x51.fSequence, .int .i64 x51.fCount]) (vs := [.int .i64 0, .int .i64 49, .int .i64 0, .int .i64 4294967295, .int .i64 0, .int .i64 0, .int .i64 0, .int .i64 0, .int .i64 (-1), .int .i64 0, .int .i64 0, .int .i64 0]) flat_cursitorlaw10_38 rfl Try.eqGuardType38 rfl rfl rfl rfl (eqL_t (eqV_i c54) (eqL_t (eqV_i c55) (eqL_t (eqV_i c56) (eqL_f (eqV_in c57)))))) rfl ?_
                refine TD.run ft_cursitorlaw10_ok [4] rfl rfl ?_
                refine TD.no rfl (.gn rfl rfl rfl) rfl ?_
                refine TD.noe rfl (.gn rfl rfl rfl) rfl [1, 1, 1] rfl ?_
                refine TD.no rfl (.gn rfl rfl rfl) rfl ?_
                refine TD.q rfl .u (Ex.pn rfl rfl rfl) rfl ?_
                refine TD.run ft_cursitorlaw10_ok [9] rfl rfl ?_
                refine TD.no rfl (.gn rfl rfl rfl) rfl ?_
                refine TD.no rfl (.gn rfl rfl rfl) rfl ?_
                refine TD.q rfl .u (Ex.pn rfl rfl rfl) rfl ?_
                refine TD.run ft_cursitorlaw10_ok [13] rfl rfl ?_
                refine TD.no rfl (.gn rfl rfl rfl) rfl ?_
                refine TD.no rfl (.gn rfl rfl rfl) rfl ?_
                refine TD.q rfl .u (Ex.pn rfl rfl rfl) rfl ?_
                refine TD.run ft_cursitorlaw10_ok [17] rfl rfl ?_
                cases h
                exact TD.nil (X.jq [0, 0, 0, 0] ⟨rfl, rfl⟩ (by rfl) (by rfl))
            · replace h := ifF c56 h
              refine TD.q rfl .u (Ex.aEq (us := [.int .i64 x51.fBase, .int .i64 x51.fLength, .int .i64 x51.fLeader, .int .i64 x51.fSum, .int .i64 x51.fAttr, .int .i64 x51.fLast, .int .i64 x51.fFirst, .int .i64 x51.fMax, .int .i64 x51.fProducer, .int .i64 x51.fEpoch, .int .i64 x51.fSequence, .int .i64 x51.fCount]) (vs := [.int .i64 0, .int .i64 49, .int .i64 0, .int .i64 4294967295, .int .i64 0, .int .i64 0, .int .i64 0, .int .i64 0, .int .i64 (-1), .int .i64 0, .int .i64 0, .int .i64 0]) flat_cursitorlaw10_38 rfl Try.eqGuardType38 rfl rfl rfl rfl (eqL_t (eqV_i c54) (eqL_t (eqV_i c55) (eqL_f (eqV_in c56))))) rfl ?_
              refine TD.run ft_cursitorlaw10_ok [4] rfl rfl ?_
              refine TD.no rfl (.gn rfl rfl rfl) rfl ?_
              refine TD.noe rfl (.gn rfl rfl rfl) rfl [1, 1, 1] rfl ?_
              refine TD.no rfl (.gn rfl rfl rfl) rfl ?_
              refine TD.q rfl .u (Ex.pn rfl rfl rfl) rfl ?_
              refine TD.run ft_cursitorlaw10_ok [9] rfl rfl ?_
              refine TD.no rfl (.gn rfl rfl rfl) rfl ?_
              refine TD.no rfl (.gn rfl rfl rfl) rfl ?_
              refine TD.q rfl .u (Ex.pn rfl rfl rfl) rfl ?_
              refine TD.run ft_cursitorlaw10_ok [13] rfl rfl ?_
              refine TD.no rfl (.gn rfl rfl rfl) rfl ?_
              refine TD.no rfl (.gn rfl rfl rfl) rfl ?_
              refine TD.q rfl .u (Ex.pn rfl rfl rfl) rfl ?_
              refine TD.run ft_cursitorlaw10_ok [17] rfl rfl ?_
              cases h
              exact TD.nil (X.jq [0, 0, 0, 0] ⟨rfl, rfl⟩ (by rfl) (by rfl))
          · replace h := ifF c55 h
            refine TD.q rfl .u (Ex.aEq (us := [.int .i64 x51.fBase, .int .i64 x51.fLength, .int .i64 x51.fLeader, .int .i64 x51.fSum, .int .i64 x51.fAttr, .int .i64 x51.fLast, .int .i64 x51.fFirst, .int .i64 x51.fMax, .int .i64 x51.fProducer, .int .i64 x51.fEpoch, .int .i64 x51.fSequence, .int .i64 x51.fCount]) (vs := [.int .i64 0, .int .i64 49, .int .i64 0, .int .i64 4294967295, .int .i64 0, .int .i64 0, .int .i64 0, .int .i64 0, .int .i64 (-1), .int .i64 0, .int .i64 0, .int .i64 0]) flat_cursitorlaw10_38 rfl Try.eqGuardType38 rfl rfl rfl rfl (eqL_t (eqV_i c54) (eqL_f (eqV_in c55)))) rfl ?_
            refine TD.run ft_cursitorlaw10_ok [4] rfl rfl ?_
            refine TD.no rfl (.gn rfl rfl rfl) rfl ?_
            refine TD.noe rfl (.gn rfl rfl rfl) rfl [1, 1, 1] rfl ?_
            refine TD.no rfl (.gn rfl rfl rfl) rfl ?_
            refine TD.q rfl .u (Ex.pn rfl rfl rfl) rfl ?_
            refine TD.run ft_cursitorlaw10_ok [9] rfl rfl ?_
            refine TD.no rfl (.gn rfl rfl rfl) rfl ?_
            refine TD.no rfl (.gn rfl rfl rfl) rfl ?_
            refine TD.q rfl .u (Ex.pn rfl rfl rfl) rfl ?_
            refine TD.run ft_cursitorlaw10_ok [13] rfl rfl ?_
            refine TD.no rfl (.gn rfl rfl rfl) rfl ?_
            refine TD.no rfl (.gn rfl rfl rfl) rfl ?_
            refine TD.q rfl .u (Ex.pn rfl rfl rfl) rfl ?_
            refine TD.run ft_cursitorlaw10_ok [17] rfl rfl ?_
            cases h
            exact TD.nil (X.jq [0, 0, 0, 0] ⟨rfl, rfl⟩ (by rfl) (by rfl))
        · replace h := ifF c54 h
          refine TD.q rfl .u (Ex.aEq (us := [.int .i64 x51.fBase, .int .i64 x51.fLength, .int .i64 x51.fLeader, .int .i64 x51.fSum, .int .i64 x51.fAttr, .int .i64 x51.fLast, .int .i64 x51.fFirst, .int .i64 x51.fMax, .int .i64 x51.fProducer, .int .i64 x51.fEpoch, .int .i64 x51.fSequence, .int .i64 x51.fCount]) (vs := [.int .i64 0, .int .i64 49, .int .i64 0, .int .i64 4294967295, .int .i64 0, .int .i64 0, .int .i64 0, .int .i64 0, .int .i64 (-1), .int .i64 0, .int .i64 0, .int .i64 0]) flat_cursitorlaw10_38 rfl Try.eqGuardType38 rfl rfl rfl rfl (eqL_f (eqV_in c54))) rfl ?_
          refine TD.run ft_cursitorlaw10_ok [4] rfl rfl ?_
          refine TD.no rfl (.gn rfl rfl rfl) rfl ?_
          refine TD.noe rfl (.gn rfl rfl rfl) rfl [1, 1, 1] rfl ?_
          refine TD.no rfl (.gn rfl rfl rfl) rfl ?_
          refine TD.q rfl .u (Ex.pn rfl rfl rfl) rfl ?_
          refine TD.run ft_cursitorlaw10_ok [9] rfl rfl ?_
          refine TD.no rfl (.gn rfl rfl rfl) rfl ?_
          refine TD.no rfl (.gn rfl rfl rfl) rfl ?_
          refine TD.q rfl .u (Ex.pn rfl rfl rfl) rfl ?_
          refine TD.run ft_cursitorlaw10_ok [13] rfl rfl ?_
          refine TD.no rfl (.gn rfl rfl rfl) rfl ?_
          refine TD.no rfl (.gn rfl rfl rfl) rfl ?_
          refine TD.q rfl .u (Ex.pn rfl rfl rfl) rfl ?_
          refine TD.run ft_cursitorlaw10_ok [17] rfl rfl ?_
          cases h
          exact TD.nil (X.jq [0, 0, 0, 0] ⟨rfl, rfl⟩ (by rfl) (by rfl))
      · rintro _ _ ⟨rfl, rfl⟩
        clear h
        have h := hk50
        clear hk50
        try dsimp only at h
        obtain rfl := Option.some.inj h
        exact X.seq (T.ret (X.done1 [3] Try.results22 (RV.tm rfl) ⟨rfl, rfl, rfl⟩ (by rfl) (.inl rfl)))
def f_l10_list (a0 : Pfx) : Option (List Int) := some [a0.fBase, a0.fLength, a0.fLeader, a0.fSum, a0.fAttr, a0.fLast, a0.fFirst, a0.fMax, a0.fProducer, a0.fEpoch, a0.fSequence, a0.fCount]
set_option maxRecDepth 100000 in
set_option maxHeartbeats 4000000 in
theorem f_l10_list_spec (a0 : Pfx) (r : List Int) (h : f_l10_list a0 = some r) : SpecX Try.prog 26 #[.agg #[.int .i64 a0.fBase, .int .i64 a0.fLength, .int .i64 a0.fLeader, .int .i64 a0.fSum, .int .i64 a0.fAttr, .int .i64 a0.fLast, .int .i64 a0.fFirst, .int .i64 a0.fMax, .int .i64 a0.fProducer, .int .i64 a0.fEpoch, .int .i64 a0.fSequence, .int .i64 a0.fCount]] .triv (EmpR) (fun v A' N => ∃ (A3 : Option Addr) (c4 : Nat), v = .slice A3 r.length c4 ∧ A' = EmpR ∧ N = [RdR (sliceRd 1 intE) [.slice A3 r.length c4] r]) := by
  refine enterA Try.func26 rfl Try.ntmps26 rfl ?_
  intro F w hX
  unfold f_l10_list at h
  refine T.seq (T.region rfl ?_)
  refine TL.box rfl .u rfl rfl (fun b1 => ?_)
  refine TL.run ft_cursitorlaw10_ok [1] rfl rfl ?_
  refine TL.nil (X.seq (T.seq (T.region rfl ?_)))
  refine TL.run ft_cursitorlaw10_ok [0] rfl rfl ?_
  refine TL.q rfl .u (Ex.b1 0 rfl Try.isAgg3 rfl rfl) rfl ?_
  refine TL.run ft_cursitorlaw10_ok [2] rfl rfl ?_
  refine TL.q rfl .u (Ex.b1 0 rfl Try.isAgg3 rfl rfl) rfl ?_
  refine TL.run ft_cursitorlaw10_ok [4] rfl rfl ?_
  refine TL.q rfl .u (Ex.b1 0 rfl Try.isAgg3 rfl rfl) rfl ?_
  refine TL.run ft_cursitorlaw10_ok [6] rfl rfl ?_
  refine TL.q rfl .u (Ex.b1 0 rfl Try.isAgg3 rfl rfl) rfl ?_
  refine TL.run ft_cursitorlaw10_ok [8] rfl rfl ?_
  refine TL.q rfl .u (Ex.b1 0 rfl Try.isAgg3 rfl rfl) rfl ?_
  refine TL.run ft_cursitorlaw10_ok [10] rfl rfl ?_
  refine TL.q rfl .u (Ex.b1 0 rfl Try.isAgg3 rfl rfl) rfl ?_
  refine TL.run ft_cursitorlaw10_ok [12] rfl rfl ?_
  refine TL.q rfl .u (Ex.b1 0 rfl Try.isAgg3 rfl rfl) rfl ?_
  refine TL.run ft_cursitorlaw10_ok [14] rfl rfl ?_
  refine TL.q rfl .u (Ex.b1 0 rfl Try.isAgg3 rfl rfl) rfl ?_
  refine TL.run ft_cursitorlaw10_ok [16] rfl rfl ?_
  refine TL.q rfl .u (Ex.b1 0 rfl Try.isAgg3 rfl rfl) rfl ?_
  refine TL.run ft_cursitorlaw10_ok [18] rfl rfl ?_
  refine TL.q rfl .u (Ex.b1 0 rfl Try.isAgg3 rfl rfl) rfl ?_
  refine TL.run ft_cursitorlaw10_ok [20] rfl rfl ?_
  refine TL.q rfl .u (Ex.b1 0 rfl Try.isAgg3 rfl rfl) rfl ?_
  refine TL.run ft_cursitorlaw10_ok [22] rfl rfl ?_
  refine TL.q rfl .u (Ex.b1 0 rfl Try.isAgg3 rfl rfl) rfl ?_
  refine TL.lit (cells := #[.int .i64 a0.fBase, .int .i64 a0.fLength, .int .i64 a0.fLeader, .int .i64 a0.fSum, .int .i64 a0.fAttr, .int .i64 a0.fLast, .int .i64 a0.fFirst, .int .i64 a0.fMax, .int .i64 a0.fProducer, .int .i64 a0.fEpoch, .int .i64 a0.fSequence, .int .i64 a0.fCount]) rfl .u sok_cursitorlaw10_25_12 rfl (by kernel_rfl) rfl (fun b2 => ?_)
  refine TL.rowOf (us := [.int .i64 a0.fBase, .int .i64 a0.fLength, .int .i64 a0.fLeader, .int .i64 a0.fSum, .int .i64 a0.fAttr, .int .i64 a0.fLast, .int .i64 a0.fFirst, .int .i64 a0.fMax, .int .i64 a0.fProducer, .int .i64 a0.fEpoch, .int .i64 a0.fSequence, .int .i64 a0.fCount]) (xs := [a0.fBase, a0.fLength, a0.fLeader, a0.fSum, a0.fAttr, a0.fLast, a0.fFirst, a0.fMax, a0.fProducer, a0.fEpoch, a0.fSequence, a0.fCount]) (E := intE) (z := 1) rfl (Nat.le_of_ble_eq_true rfl) (fun _ => ⟨rfl, rfl, ⟨rfl, rfl, ⟨rfl, rfl, ⟨rfl, rfl, ⟨rfl, rfl, ⟨rfl, rfl, ⟨rfl, rfl, ⟨rfl, rfl, ⟨rfl, rfl, ⟨rfl, rfl, ⟨rfl, rfl, ⟨rfl, rfl, rfl⟩⟩⟩⟩⟩⟩⟩⟩⟩⟩⟩⟩) ?_
  refine TL.run ft_cursitorlaw10_ok [25] rfl rfl ?_
  obtain rfl := Option.some.inj h
  refine TL.nil (X.seq (T.ret ?_))
  refine X.shut (by decide) 0 rfl ?_
  refine X.sel [0, 0, 0] rfl ?_
  exact X.done1 [2, 0] Try.results26 (RV.tm rfl) ⟨_, _, rfl, rfl, rfl⟩ (by rfl) (.inl rfl)
def f_l10_PrefixReads_l1 (x12 : List Int) : List Int → Bool → Nat → Option (Lp Bool Bool)
  | [], y59, k60 => some (Lp.go y59)
  | x65 :: xs, y59, k60 => (x12[k60]?).bind fun x74 => if x65 = x74 then (f_l10_PrefixReads_l1 x12 xs y59 (k60 + 1)) else none
def f_l10_PrefixReads (a0 : List UInt8) : Option (Bool) := (f_l10_speaks).bind fun x1 => if x1 = true then (if (a0.length : Int) > 500 then some true else ((gNew a0).bind fun st5 => (f_prefix_Read st5).bind fun (x8, st9) => (f_r10_Fields a0).bind fun (x12, x15) => (f_prefix_Peek a0).bind fun (x17, x18) => (gErr st9).bind fun (x20, st21) => if x20 = x15 then (if (a0.length : Int) < 61 then ((if x8.fBase = 0 then (if x8.fLength = 0 then (if x8.fLeader = 0 then (if x8.fSum = 0 then (if x8.fAttr = 0 then (if x8.fLast = 0 then (if x8.fFirst = 0 then (if x8.fMax = 0 then (if x8.fProducer = 0 then (if x8.fEpoch = 0 then (if x8.fSequence = 0 then (if x8.fCount = 0 then (if x17 = 0 then (if x18 = 0 then some true else some false) else some false) else some false) else some false) else some false) else some false) else some false) else some false) else some false) else some false) else some false) else some false) else some false) else some false).bind fun y38 => some y38) else (if x15 = 0 then ((f_l10_list x8).bind fun x55 => (f_l10_PrefixReads_l1 x12 x55 false 0).bind fun e => match e with | .ret r => some r | .go y78 => (((gAt st21).bind fun (x92, st93) => if x92 = 61 then ((x12[1]?).bind fun x96 => if -9223372036854775808 ≤ (x96 + 12) ∧ (x96 + 12) ≤ 9223372036854775807 then (if x17 = (x96 + 12) then (if x18 = 0 then some (true, st93) else some (false, st93)) else some (false, st93)) else none) else some (false, st93)).bind fun (y89, st90) => some y89)) else ((if x8.fBase = 0 then (if x8.fLength = 0 then (if x8.fLeader = 0 then (if x8.fSum = 0 then (if x8.fAttr = 0 then (if x8.fLast = 0 then (if x8.fFirst = 0 then (if x8.fMax = 0 then (if x8.fProducer = 0 then (if x8.fEpoch = 0 then (if x8.fSequence = 0 then (if x8.fCount = 0 then (if x17 = 0 then (if x18 = x15 then some true else some false) else some false) else some false) else some false) else some false) else some false) else some false) else some false) else some false) else some false) else some false) else some false) else some false) else some false).bind fun y137 => some y137))) else none)) else none
set_option maxRecDepth 100000 in
set_option maxHeartbeats 4000000 in
theorem f_l10_PrefixReads_spec (a0 : List UInt8) (r : Bool) (h : f_l10_PrefixReads a0 = some r) : SpecX Try.prog 5 #[.string (bsOf a0)] .triv (EmpR) (fun v A' N => v = .bool r ∧ A' = EmpR ∧ N = []) := by
  refine enterA Try.func5 rfl Try.ntmps5 rfl ?_
  intro F w hX
  unfold f_l10_PrefixReads at h
  refine T.seq (T.region rfl ?_)
  refine TL.run ft_cursitorlaw10_ok [0] rfl rfl ?_
  obtain ⟨x1, hx2, h⟩ := Option.bind_eq_some_iff.1 h
  refine TL.nil (X.seq (T.seq (T.seq (T.region rfl ?_))))
  refine TL.ce rfl .u (.fn Try.call22 rfl) (f_l10_speaks_spec _ hx2) (fun _ hs => (RX.reads_triv _ _)) rfl ?_
  refine TL.run ft_cursitorlaw10_ok [1] rfl rfl ?_
  by_cases c3 : x1 = true
  · replace h := ifT c3 h
    refine TL.nil (X.seq ?_)
    refine T.no rfl (bn_f c3) ?_
    refine T.skip (X.seq (T.seq (T.seq (T.region rfl ?_))))
    refine TL.run ft_cursitorlaw10_ok [0] rfl rfl ?_
    refine TL.q rfl .u (Ex.lenB rfl Try.runUnderlying9) rfl ?_
    refine TL.run ft_cursitorlaw10_ok [2] rfl rfl ?_
    by_cases c4 : (a0.length : Int) > 500
    · replace h := ifT c4 h
      refine TL.nil (X.seq ?_)
      refine T.yes rfl (decide_eq_true c4) ?_
      refine T.seq (T.region rfl ?_)
      refine TL.run ft_cursitorlaw10_ok [0] rfl rfl ?_
      obtain rfl := Option.some.inj h
      exact TL.nil (X.seq (T.ret (X.rs (X.done1 [0] Try.results5 (RV.tm rfl) ⟨rfl, rfl, rfl⟩ (by rfl) (.inl rfl)))))
    · replace h := ifF c4 h
      refine TL.nil (X.seq ?_)
      refine T.no rfl (decide_eq_false c4) ?_
      refine T.skip (X.seq (T.seq (T.region rfl ?_)))
      obtain ⟨st5, hx6, h⟩ := Option.bind_eq_some_iff.1 h
      refine TL.run ft_cursitorlaw10_ok [0] rfl rfl ?_
      refine TL.cge rfl .u (.fn Try.call27 rfl) (gNew_spec a0 _ hx6) (fun _ hs => (RX.reads_triv _ _)) rfl ?_
      rintro _ _ _ ⟨b7, rfl, rfl, rfl⟩
      refine TL.sel [0, 0] rfl ?_
      refine TL.run ft_cursitorlaw10_ok [2] rfl rfl ?_
      refine TL.nil (X.seq (T.seq (T.region rfl ?_)))
      obtain ⟨⟨x8, st9⟩, hx10, h⟩ := Option.bind_eq_some_iff.1 h
      try dsimp only at h
      refine TL.run ft_cursitorlaw10_ok [0] rfl rfl ?_
      refine TL.c0 rfl .u (.fn Try.call28 rfl) (f_prefix_Read_spec b7 st5 _ hx10) (fun _ hs => (Src.triv _)) rfl ?_
      refine TL.alloc rfl .u Try.zeroValue38 rfl (fun b11 => ?_)
      refine TL.st0 (cs' := #[.int .i64 x8.fBase, .int .i64 x8.fLength, .int .i64 x8.fLeader, .int .i64 x8.fSum, .int .i64 x8.fAttr, .int .i64 x8.fLast, .int .i64 x8.fFirst, .int .i64 x8.fMax, .int .i64 x8.fProducer, .int .i64 x8.fEpoch, .int .i64 x8.fSequence, .int .i64 x8.fCount]) rfl .u rfl rfl Try.sizeOf38 rfl rfl rfl rfl ?_
      refine TL.nil (X.seq (T.seq (T.region rfl ?_)))
      obtain ⟨⟨x12, x15⟩, hx16, h⟩ := Option.bind_eq_some_iff.1 h
      try dsimp only at h
      refine TL.run ft_cursitorlaw10_ok [0] rfl rfl ?_
      refine TL.cge rfl .u (.fn Try.call31 rfl) (f_r10_Fields_spec a0 _ hx16) (fun _ hs => (RX.reads_triv _ _)) rfl ?_
      rintro _ _ _ ⟨A13, c14, rfl, rfl, rfl⟩
      refine TL.sel [0, 0, 0, 0] rfl ?_
      refine TL.run ft_cursitorlaw10_ok [2, 3, 4, 5, 6] rfl rfl ?_
      refine TL.nil (X.seq (T.seq (T.region rfl ?_)))
      obtain ⟨⟨x17, x18⟩, hx19, h⟩ := Option.bind_eq_some_iff.1 h
      try dsimp only at h
      refine TL.run ft_cursitorlaw10_ok [0] rfl rfl ?_
      refine TL.ce rfl .u (.fn Try.call32 rfl) (f_prefix_Peek_spec a0 _ hx19) (fun _ hs => (RX.reads_triv _ _)) rfl ?_
      refine TL.run ft_cursitorlaw10_ok [2, 3, 4, 5, 6] rfl rfl ?_
      refine TL.nil (X.seq (T.seq (T.seq (T.region rfl ?_))))
      obtain ⟨⟨x20, st21⟩, hx22, h⟩ := Option.bind_eq_some_iff.1 h
      try dsimp only at h
      refine TL.run ft_cursitorlaw10_ok [0] rfl rfl ?_
      refine TL.c2 rfl .u (.fn Try.call29 rfl) (gErr_spec b7 st9 _ hx22) (fun _ hs => (Src.triv _)) rfl ?_
      refine TL.run ft_cursitorlaw10_ok [2, 3] rfl rfl ?_
      by_cases c23 : x20 = x15
      · replace h := ifT c23 h
        refine TL.nil (X.seq ?_)
        refine T.no rfl (bn_f (decide_eq_true c23)) ?_
        refine T.skip (X.seq (T.seq (T.block (T.seq (T.region rfl ?_)))))
        refine TL.run ft_cursitorlaw10_ok [0] rfl rfl ?_
        refine TL.q rfl .u (Ex.lenB rfl Try.runUnderlying9) rfl ?_
        refine TL.run ft_cursitorlaw10_ok [2, 3] rfl rfl ?_
        by_cases c24 : (a0.length : Int) < 61
        · replace h := ifT c24 h
          refine TL.nil (X.seq ?_)
          refine T.yes rfl (decide_eq_true c24) ?_
          refine T.seq ?_
          obtain ⟨y38, h, hk39⟩ := Option.bind_eq_some_iff.1 h
          refine T.jq (fun e Rs => e = [(2, .bool y38), (3, .pointer (some ⟨b7, 0, none⟩)), (4, .pointer (some ⟨b11, 0, none⟩)), (5, .slice A13 x12.length c14), (6, .int .i64 x15), (7, .int .i64 x17), (8, .int .i64 x18)] ∧ Rs = [RdR (sliceRd 1 intE) [.slice A13 x12.length c14] x12, BlkR b11 38 #[.int .i64 x8.fBase, .int .i64 x8.fLength, .int .i64 x8.fLeader, .int .i64 x8.fSum, .int .i64 x8.fAttr, .int .i64 x8.fLast, .int .i64 x8.fFirst, .int .i64 x8.fMax, .int .i64 x8.fProducer, .int .i64 x8.fEpoch, .int .i64 x8.fSequence, .int .i64 x8.fCount], InR b7 st21, EmpR]) ?_ ?_
          · clear hk39
            refine T.region rfl ?_
            refine TL.q rfl .u (Ex.bS (us := [.int .i64 x8.fBase, .int .i64 x8.fLength, .int .i64 x8.fLeader, .int .i64 x8.fSum, .int .i64 x8.fAttr, .int .i64 x8.fLast, .int .i64 x8.fFirst, .int .i64 x8.fMax, .int .i64 x8.fProducer, .int .i64 x8.fEpoch, .int .i64 x8.fSequence, .int .i64 x8.fCount]) 1 rfl Try.isAgg38 Try.sizeOf38 rfl rfl rfl) rfl ?_
            refine TL.q rfl .u (Ex.bld (cells := #[.int .i64 0, .int .i64 0, .int .i64 0, .int .i64 0, .int .i64 0, .int .i64 0, .int .i64 0, .int .i64 0, .int .i64 0, .int .i64 0, .int .i64 0, .int .i64 0]) bok_cursitorlaw10_38 rfl (by kernel_rfl)) rfl ?_
            by_cases c40 : x8.fBase = 0
            · replace h := ifT c40 h
              by_cases c41 : x8.fLength = 0
              · replace h := ifT c41 h
                by_cases c42 : x8.fLeader = 0
                · replace h := ifT c42 h
                  by_cases c43 : x8.fSum = 0
                  · replace h := ifT c43 h
                    by_cases c44 : x8.fAttr = 0
                    · replace h := ifT c44 h
                      by_cases c45 : x8.fLast = 0
                      · replace h := ifT c45 h
                        by_cases c46 : x8.fFirst = 0
                        · replace h := ifT c46 h
                          by_cases c47 : x8.fMax = 0
                          · replace h := ifT c47 h
                            by_cases c48 : x8.fProducer = 0
                            · replace h := ifT c48 h
                              by_cases c49 : x8.fEpoch = 0
                              · replace h := ifT c49 h
                                by_cases c50 : x8.fSequence = 0
                                · replace h := ifT c50 h
                                  by_cases c51 : x8.fCount = 0
                                  · replace h := ifT c51 h
                                    refine TL.q rfl .u (Ex.aEq (us := [.int .i64 x8.fBase, .int .i64 x8.fLength, .int .i64 x8.fLeader, .int .i64 x8.fSum, .int .i64 x8.fAttr, .int .i64 x8.fLast, .int .i64 x8.fFirst, .int .i64 x8.fMax, .int .i64 x8.fProducer, .int .i64 x8.fEpoch, .int .i64 x8.fSequence, .int .i64 x8.fCount]) (vs := [.int .i64 0, .int .i64 0, .int .i64 0, .int .i64 0, .int .i64 0, .int .i64 0, .int .i64 0, .int .i64 0, .int .i64 0, .int .i64 0, .int .i64 0, .int .i64 0]) flat_cursitorlaw10_38 rfl Try.eqGuardType38 rfl rfl rfl rfl (eqL_t (eqV_i c40) (eqL_t (eqV_i c41) (eqL_t (eqV_i c42) (eqL_t (eqV_i c43) (eqL_t (eqV_i c44) (eqL_t (eqV_i c45) (eqL_t (eqV_i c46) (eqL_t (eqV_i c47) (eqL_t (eqV_i c48) (eqL_t (eqV_i c49) (eqL_t (eqV_i c50) (eqL_t (eqV_i c51) rfl))))))))))))) rfl ?_
                                    refine TL.run ft_cursitorlaw10_ok [3] rfl rfl ?_
                                    refine TL.q rfl (.g rfl rfl rfl) (Ex.ft ft_cursitorlaw10_ok rfl) rfl ?_
                                    refine TL.q rfl (.g rfl rfl rfl) (Ex.ft ft_cursitorlaw10_ok rfl) rfl ?_
                                    refine TL.q rfl .u (Ex.py rfl rfl rfl) rfl ?_
                                    by_cases c52 : x17 = 0
                                    · replace h := ifT c52 h
                                      refine TL.run ft_cursitorlaw10_ok [7] rfl rfl ?_
                                      refine TL.q rfl (.g rfl rfl (decide_eq_true c52)) (Ex.ft ft_cursitorlaw10_ok rfl) rfl ?_
                                      refine TL.q rfl (.g rfl rfl (decide_eq_true c52)) (Ex.ft ft_cursitorlaw10_ok rfl) rfl ?_
                                      refine TL.q rfl .u (Ex.py rfl (decide_eq_true c52) rfl) rfl ?_
                                      refine TL.run ft_cursitorlaw10_ok [11] rfl rfl ?_
                                      by_cases c53 : x18 = 0
                                      · replace h := ifT c53 h
                                        cases h
                                        exact TL.nil (X.as (d := 2) (v' := .bool true) rfl (congrArg Value.bool (decide_eq_true c53)) (X.jq [0, 0, 0, 0] ⟨rfl, rfl⟩ (by rfl) (by rfl)))
                                      · replace h := ifF c53 h
                                        cases h
                                        exact TL.nil (X.as (d := 2) (v' := .bool false) rfl (congrArg Value.bool (decide_eq_false c53)) (X.jq [0, 0, 0, 0] ⟨rfl, rfl⟩ (by rfl) (by rfl)))
                                    · replace h := ifF c52 h
                                      refine TL.run ft_cursitorlaw10_ok [7] rfl rfl ?_
                                      refine TL.no rfl (.gn rfl rfl (decide_eq_false c52)) rfl ?_
                                      refine TL.no rfl (.gn rfl rfl (decide_eq_false c52)) rfl ?_
                                      refine TL.q rfl .u (Ex.pn rfl (decide_eq_false c52) rfl) rfl ?_
                                      refine TL.run ft_cursitorlaw10_ok [11] rfl rfl ?_
                                      cases h
                                      exact TL.nil (X.jq [0, 0, 0, 0] ⟨rfl, rfl⟩ (by rfl) (by rfl))
                                  · replace h := ifF c51 h
                                    refine TL.q rfl .u (Ex.aEq (us := [.int .i64 x8.fBase, .int .i64 x8.fLength, .int .i64 x8.fLeader, .int .i64 x8.fSum, .int .i64 x8.fAttr, .int .i64 x8.fLast, .int .i64 x8.fFirst, .int .i64 x8.fMax, .int .i64 x8.fProducer, .int .i64 x8.fEpoch, .int .i64 x8.fSequence, .int .i64 x8.fCount]) (vs := [.int .i64 0, .int .i64 0, .int .i64 0, .int .i64 0, .int .i64 0, .int .i64 0, .int .i64 0, .int .i64 0, .int .i64 0, .int .i64 0, .int .i64 0, .int .i64 0]) flat_cursitorlaw10_38 rfl Try.eqGuardType38 rfl rfl rfl rfl (eqL_t (eqV_i c40) (eqL_t (eqV_i c41) (eqL_t (eqV_i c42) (eqL_t (eqV_i c43) (eqL_t (eqV_i c44) (eqL_t (eqV_i c45) (eqL_t (eqV_i c46) (eqL_t (eqV_i c47) (eqL_t (eqV_i c48) (eqL_t (eqV_i c49) (eqL_t (eqV_i c50) (eqL_f (eqV_in c51)))))))))))))) rfl ?_
                                    refine TL.run ft_cursitorlaw10_ok [3] rfl rfl ?_
                                    refine TL.no rfl (.gn rfl rfl rfl) rfl ?_
                                    refine TL.no rfl (.gn rfl rfl rfl) rfl ?_
                                    refine TL.q rfl .u (Ex.pn rfl rfl rfl) rfl ?_
                                    refine TL.run ft_cursitorlaw10_ok [7] rfl rfl ?_
                                    refine TL.no rfl (.gn rfl rfl rfl) rfl ?_
                                    refine TL.no rfl (.gn rfl rfl rfl) rfl ?_
                                    refine TL.q rfl .u (Ex.pn rfl rfl rfl) rfl ?_
                                    refine TL.run ft_cursitorlaw10_ok [11] rfl rfl ?_
                                    cases h
                                    exact TL.nil (X.jq [0, 0, 0, 0] ⟨rfl, rfl⟩ (by rfl) (by rfl))
                                · replace h := ifF c50 h
                                  refine TL.q rfl .u (Ex.aEq (us := [.int .i64 x8.fBase, .int .i64 x8.fLength, .int .i64 x8.fLeader, .int .i64 x8.fSum, .int .i64 x8.fAttr, .int .i64 x8.fLast, .int .i64 x8.fFirst, .int .i64 x8.fMax, .int .i64 x8.fProducer, .int .i64 x8.fEpoch, .int .i64 x8.fSequence, .int .i64 x8.fCount]) (vs := [.int .i64 0, .int .i64 0, .int .i64 0, .int .i64 0, .int .i64 0, .int .i64 0, .int .i64 0, .int .i64 0, .int .i64 0, .int .i64 0, .int .i64 0, .int .i64 0]) flat_cursitorlaw10_38 rfl Try.eqGuardType38 rfl rfl rfl rfl (eqL_t (eqV_i c40) (eqL_t (eqV_i c41) (eqL_t (eqV_i c42) (eqL_t (eqV_i c43) (eqL_t (eqV_i c44) (eqL_t (eqV_i c45) (eqL_t (eqV_i c46) (eqL_t (eqV_i c47) (eqL_t (eqV_i c48) (eqL_t (eqV_i c49) (eqL_f (eqV_in c50))))))))))))) rfl ?_
                                  refine TL.run ft_cursitorlaw10_ok [3] rfl rfl ?_
                                  refine TL.no rfl (.gn rfl rfl rfl) rfl ?_
                                  refine TL.no rfl (.gn rfl rfl rfl) rfl ?_
                                  refine TL.q rfl .u (Ex.pn rfl rfl rfl) rfl ?_
                                  refine TL.run ft_cursitorlaw10_ok [7] rfl rfl ?_
                                  refine TL.no rfl (.gn rfl rfl rfl) rfl ?_
                                  refine TL.no rfl (.gn rfl rfl rfl) rfl ?_
                                  refine TL.q rfl .u (Ex.pn rfl rfl rfl) rfl ?_
                                  refine TL.run ft_cursitorlaw10_ok [11] rfl rfl ?_
                                  cases h
                                  exact TL.nil (X.jq [0, 0, 0, 0] ⟨rfl, rfl⟩ (by rfl) (by rfl))
                              · replace h := ifF c49 h
                                refine TL.q rfl .u (Ex.aEq (us := [.int .i64 x8.fBase, .int .i64 x8.fLength, .int .i64 x8.fLeader, .int .i64 x8.fSum, .int .i64 x8.fAttr, .int .i64 x8.fLast, .int .i64 x8.fFirst, .int .i64 x8.fMax, .int .i64 x8.fProducer, .int .i64 x8.fEpoch, .int .i64 x8.fSequence, .int .i64 x8.fCount]) (vs := [.int .i64 0, .int .i64 0, .int .i64 0, .int .i64 0, .int .i64 0, .int .i64 0, .int .i64 0, .int .i64 0, .int .i64 0, .int .i64 0, .int .i64 0, .int .i64 0]) flat_cursitorlaw10_38 rfl Try.eqGuardType38 rfl rfl rfl rfl (eqL_t (eqV_i c40) (eqL_t (eqV_i c41) (eqL_t (eqV_i c42) (eqL_t (eqV_i c43) (eqL_t (eqV_i c44) (eqL_t (eqV_i c45) (eqL_t (eqV_i c46) (eqL_t (eqV_i c47) (eqL_t (eqV_i c48) (eqL_f (eqV_in c49)))))))))))) rfl ?_
                                refine TL.run ft_cursitorlaw10_ok [3] rfl rfl ?_
                                refine TL.no rfl (.gn rfl rfl rfl) rfl ?_
                                refine TL.no rfl (.gn rfl rfl rfl) rfl ?_
                                refine TL.q rfl .u (Ex.pn rfl rfl rfl) rfl ?_
                                refine TL.run ft_cursitorlaw10_ok [7] rfl rfl ?_
                                refine TL.no rfl (.gn rfl rfl rfl) rfl ?_
                                refine TL.no rfl (.gn rfl rfl rfl) rfl ?_
                                refine TL.q rfl .u (Ex.pn rfl rfl rfl) rfl ?_
                                refine TL.run ft_cursitorlaw10_ok [11] rfl rfl ?_
                                cases h
                                exact TL.nil (X.jq [0, 0, 0, 0] ⟨rfl, rfl⟩ (by rfl) (by rfl))
                            · replace h := ifF c48 h
                              refine TL.q rfl .u (Ex.aEq (us := [.int .i64 x8.fBase, .int .i64 x8.fLength, .int .i64 x8.fLeader, .int .i64 x8.fSum, .int .i64 x8.fAttr, .int .i64 x8.fLast, .int .i64 x8.fFirst, .int .i64 x8.fMax, .int .i64 x8.fProducer, .int .i64 x8.fEpoch, .int .i64 x8.fSequence, .int .i64 x8.fCount]) (vs := [.int .i64 0, .int .i64 0, .int .i64 0, .int .i64 0, .int .i64 0, .int .i64 0, .int .i64 0, .int .i64 0, .int .i64 0, .int .i64 0, .int .i64 0, .int .i64 0]) flat_cursitorlaw10_38 rfl Try.eqGuardType38 rfl rfl rfl rfl (eqL_t (eqV_i c40) (eqL_t (eqV_i c41) (eqL_t (eqV_i c42) (eqL_t (eqV_i c43) (eqL_t (eqV_i c44) (eqL_t (eqV_i c45) (eqL_t (eqV_i c46) (eqL_t (eqV_i c47) (eqL_f (eqV_in c48))))))))))) rfl ?_
                              refine TL.run ft_cursitorlaw10_ok [3] rfl rfl ?_
                              refine TL.no rfl (.gn rfl rfl rfl) rfl ?_
                              refine TL.no rfl (.gn rfl rfl rfl) rfl ?_
                              refine TL.q rfl .u (Ex.pn rfl rfl rfl) rfl ?_
                              refine TL.run ft_cursitorlaw10_ok [7] rfl rfl ?_
                              refine TL.no rfl (.gn rfl rfl rfl) rfl ?_
                              refine TL.no rfl (.gn rfl rfl rfl) rfl ?_
                              refine TL.q rfl .u (Ex.pn rfl rfl rfl) rfl ?_
                              refine TL.run ft_cursitorlaw10_ok [11] rfl rfl ?_
                              cases h
                              exact TL.nil (X.jq [0, 0, 0, 0] ⟨rfl, rfl⟩ (by rfl) (by rfl))
                          · replace h := ifF c47 h
                            refine TL.q rfl .u (Ex.aEq (us := [.int .i64 x8.fBase, .int .i64 x8.fLength, .int .i64 x8.fLeader, .int .i64 x8.fSum, .int .i64 x8.fAttr, .int .i64 x8.fLast, .int .i64 x8.fFirst, .int .i64 x8.fMax, .int .i64 x8.fProducer, .int .i64 x8.fEpoch, .int .i64 x8.fSequence, .int .i64 x8.fCount]) (vs := [.int .i64 0, .int .i64 0, .int .i64 0, .int .i64 0, .int .i64 0, .int .i64 0, .int .i64 0, .int .i64 0, .int .i64 0, .int .i64 0, .int .i64 0, .int .i64 0]) flat_cursitorlaw10_38 rfl Try.eqGuardType38 rfl rfl rfl rfl (eqL_t (eqV_i c40) (eqL_t (eqV_i c41) (eqL_t (eqV_i c42) (eqL_t (eqV_i c43) (eqL_t (eqV_i c44) (eqL_t (eqV_i c45) (eqL_t (eqV_i c46) (eqL_f (eqV_in c47)))))))))) rfl ?_
                            refine TL.run ft_cursitorlaw10_ok [3] rfl rfl ?_
                            refine TL.no rfl (.gn rfl rfl rfl) rfl ?_
                            refine TL.no rfl (.gn rfl rfl rfl) rfl ?_
                            refine TL.q rfl .u (Ex.pn rfl rfl rfl) rfl ?_
                            refine TL.run ft_cursitorlaw10_ok [7] rfl rfl ?_
                            refine TL.no rfl (.gn rfl rfl rfl) rfl ?_
                            refine TL.no rfl (.gn rfl rfl rfl) rfl ?_
                            refine TL.q rfl .u (Ex.pn rfl rfl rfl) rfl ?_
                            refine TL.run ft_cursitorlaw10_ok [11] rfl rfl ?_
                            cases h
                            exact TL.nil (X.jq [0, 0, 0, 0] ⟨rfl, rfl⟩ (by rfl) (by rfl))
                        · replace h := ifF c46 h
                          refine TL.q rfl .u (Ex.aEq (us := [.int .i64 x8.fBase, .int .i64 x8.fLength, .int .i64 x8.fLeader, .int .i64 x8.fSum, .int .i64 x8.fAttr, .int .i64 x8.fLast, .int .i64 x8.fFirst, .int .i64 x8.fMax, .int .i64 x8.fProducer, .int .i64 x8.fEpoch, .int .i64 x8.fSequence, .int .i64 x8.fCount]) (vs := [.int .i64 0, .int .i64 0, .int .i64 0, .int .i64 0, .int .i64 0, .int .i64 0, .int .i64 0, .int .i64 0, .int .i64 0, .int .i64 0, .int .i64 0, .int .i64 0]) flat_cursitorlaw10_38 rfl Try.eqGuardType38 rfl rfl rfl rfl (eqL_t (eqV_i c40) (eqL_t (eqV_i c41) (eqL_t (eqV_i c42) (eqL_t (eqV_i c43) (eqL_t (eqV_i c44) (eqL_t (eqV_i c45) (eqL_f (eqV_in c46))))))))) rfl ?_
                          refine TL.run ft_cursitorlaw10_ok [3] rfl rfl ?_
                          refine TL.no rfl (.gn rfl rfl rfl) rfl ?_
                          refine TL.no rfl (.gn rfl rfl rfl) rfl ?_
                          refine TL.q rfl .u (Ex.pn rfl rfl rfl) rfl ?_
                          refine TL.run ft_cursitorlaw10_ok [7] rfl rfl ?_
                          refine TL.no rfl (.gn rfl rfl rfl) rfl ?_
                          refine TL.no rfl (.gn rfl rfl rfl) rfl ?_
                          refine TL.q rfl .u (Ex.pn rfl rfl rfl) rfl ?_
                          refine TL.run ft_cursitorlaw10_ok [11] rfl rfl ?_
                          cases h
                          exact TL.nil (X.jq [0, 0, 0, 0] ⟨rfl, rfl⟩ (by rfl) (by rfl))
                      · replace h := ifF c45 h
                        refine TL.q rfl .u (Ex.aEq (us := [.int .i64 x8.fBase, .int .i64 x8.fLength, .int .i64 x8.fLeader, .int .i64 x8.fSum, .int .i64 x8.fAttr, .int .i64 x8.fLast, .int .i64 x8.fFirst, .int .i64 x8.fMax, .int .i64 x8.fProducer, .int .i64 x8.fEpoch, .int .i64 x8.fSequence, .int .i64 x8.fCount]) (vs := [.int .i64 0, .int .i64 0, .int .i64 0, .int .i64 0, .int .i64 0, .int .i64 0, .int .i64 0, .int .i64 0, .int .i64 0, .int .i64 0, .int .i64 0, .int .i64 0]) flat_cursitorlaw10_38 rfl Try.eqGuardType38 rfl rfl rfl rfl (eqL_t (eqV_i c40) (eqL_t (eqV_i c41) (eqL_t (eqV_i c42) (eqL_t (eqV_i c43) (eqL_t (eqV_i c44) (eqL_f (eqV_in c45)))))))) rfl ?_
                        refine TL.run ft_cursitorlaw10_ok [3] rfl rfl ?_
                        refine TL.no rfl (.gn rfl rfl rfl) rfl ?_
                        refine TL.no rfl (.gn rfl rfl rfl) rfl ?_
                        refine TL.q rfl .u (Ex.pn rfl rfl rfl) rfl ?_
                        refine TL.run ft_cursitorlaw10_ok [7] rfl rfl ?_
                        refine TL.no rfl (.gn rfl rfl rfl) rfl ?_
                        refine TL.no rfl (.gn rfl rfl rfl) rfl ?_
                        refine TL.q rfl .u (Ex.pn rfl rfl rfl) rfl ?_
                        refine TL.run ft_cursitorlaw10_ok [11] rfl rfl ?_
                        cases h
                        exact TL.nil (X.jq [0, 0, 0, 0] ⟨rfl, rfl⟩ (by rfl) (by rfl))
                    · replace h := ifF c44 h
                      refine TL.q rfl .u (Ex.aEq (us := [.int .i64 x8.fBase, .int .i64 x8.fLength, .int .i64 x8.fLeader, .int .i64 x8.fSum, .int .i64 x8.fAttr, .int .i64 x8.fLast, .int .i64 x8.fFirst, .int .i64 x8.fMax, .int .i64 x8.fProducer, .int .i64 x8.fEpoch, .int .i64 x8.fSequence, .int .i64 x8.fCount]) (vs := [.int .i64 0, .int .i64 0, .int .i64 0, .int .i64 0, .int .i64 0, .int .i64 0, .int .i64 0, .int .i64 0, .int .i64 0, .int .i64 0, .int .i64 0, .int .i64 0]) flat_cursitorlaw10_38 rfl Try.eqGuardType38 rfl rfl rfl rfl (eqL_t (eqV_i c40) (eqL_t (eqV_i c41) (eqL_t (eqV_i c42) (eqL_t (eqV_i c43) (eqL_f (eqV_in c44))))))) rfl ?_
                      refine TL.run ft_cursitorlaw10_ok [3] rfl rfl ?_
                      refine TL.no rfl (.gn rfl rfl rfl) rfl ?_
                      refine TL.no rfl (.gn rfl rfl rfl) rfl ?_
                      refine TL.q rfl .u (Ex.pn rfl rfl rfl) rfl ?_
                      refine TL.run ft_cursitorlaw10_ok [7] rfl rfl ?_
                      refine TL.no rfl (.gn rfl rfl rfl) rfl ?_
                      refine TL.no rfl (.gn rfl rfl rfl) rfl ?_
                      refine TL.q rfl .u (Ex.pn rfl rfl rfl) rfl ?_
                      refine TL.run ft_cursitorlaw10_ok [11] rfl rfl ?_
                      cases h
                      exact TL.nil (X.jq [0, 0, 0, 0] ⟨rfl, rfl⟩ (by rfl) (by rfl))
                  · replace h := ifF c43 h
                    refine TL.q rfl .u (Ex.aEq (us := [.int .i64 x8.fBase, .int .i64 x8.fLength, .int .i64 x8.fLeader, .int .i64 x8.fSum, .int .i64 x8.fAttr, .int .i64 x8.fLast, .int .i64 x8.fFirst, .int .i64 x8.fMax, .int .i64 x8.fProducer, .int .i64 x8.fEpoch, .int .i64 x8.fSequence, .int .i64 x8.fCount]) (vs := [.int .i64 0, .int .i64 0, .int .i64 0, .int .i64 0, .int .i64 0, .int .i64 0, .int .i64 0, .int .i64 0, .int .i64 0, .int .i64 0, .int .i64 0, .int .i64 0]) flat_cursitorlaw10_38 rfl Try.eqGuardType38 rfl rfl rfl rfl (eqL_t (eqV_i c40) (eqL_t (eqV_i c41) (eqL_t (eqV_i c42) (eqL_f (eqV_in c43)))))) rfl ?_
                    refine TL.run ft_cursitorlaw10_ok [3] rfl rfl ?_
                    refine TL.no rfl (.gn rfl rfl rfl) rfl ?_
                    refine TL.no rfl (.gn rfl rfl rfl) rfl ?_
                    refine TL.q rfl .u (Ex.pn rfl rfl rfl) rfl ?_
                    refine TL.run ft_cursitorlaw10_ok [7] rfl rfl ?_
                    refine TL.no rfl (.gn rfl rfl rfl) rfl ?_
                    refine TL.no rfl (.gn rfl rfl rfl) rfl ?_
                    refine TL.q rfl .u (Ex.pn rfl rfl rfl) rfl ?_
                    refine TL.run ft_cursitorlaw10_ok [11] rfl rfl ?_
                    cases h
                    exact TL.nil (X.jq [0, 0, 0, 0] ⟨rfl, rfl⟩ (by rfl) (by rfl))
                · replace h := ifF c42 h
                  refine TL.q rfl .u (Ex.aEq (us := [.int .i64 x8.fBase, .int .i64 x8.fLength, .int .i64 x8.fLeader, .int .i64 x8.fSum, .int .i64 x8.fAttr, .int .i64 x8.fLast, .int .i64 x8.fFirst, .int .i64 x8.fMax, .int .i64 x8.fProducer, .int .i64 x8.fEpoch, .int .i64 x8.fSequence, .int .i64 x8.fCount]) (vs := [.int .i64 0, .int .i64 0, .int .i64 0, .int .i64 0, .int .i64 0, .int .i64 0, .int .i64 0, .int .i64 0, .int .i64 0, .int .i64 0, .int .i64 0, .int .i64 0]) flat_cursitorlaw10_38 rfl Try.eqGuardType38 rfl rfl rfl rfl (eqL_t (eqV_i c40) (eqL_t (eqV_i c41) (eqL_f (eqV_in c42))))) rfl ?_
                  refine TL.run ft_cursitorlaw10_ok [3] rfl rfl ?_
                  refine TL.no rfl (.gn rfl rfl rfl) rfl ?_
                  refine TL.no rfl (.gn rfl rfl rfl) rfl ?_
                  refine TL.q rfl .u (Ex.pn rfl rfl rfl) rfl ?_
                  refine TL.run ft_cursitorlaw10_ok [7] rfl rfl ?_
                  refine TL.no rfl (.gn rfl rfl rfl) rfl ?_
                  refine TL.no rfl (.gn rfl rfl rfl) rfl ?_
                  refine TL.q rfl .u (Ex.pn rfl rfl rfl) rfl ?_
                  refine TL.run ft_cursitorlaw10_ok [11] rfl rfl ?_
                  cases h
                  exact TL.nil (X.jq [0, 0, 0, 0] ⟨rfl, rfl⟩ (by rfl) (by rfl))
              · replace h := ifF c41 h
                refine TL.q rfl .u (Ex.aEq (us := [.int .i64 x8.fBase, .int .i64 x8.fLength, .int .i64 x8.fLeader, .int .i64 x8.fSum, .int .i64 x8.fAttr, .int .i64 x8.fLast, .int .i64 x8.fFirst, .int .i64 x8.fMax, .int .i64 x8.fProducer, .int .i64 x8.fEpoch, .int .i64 x8.fSequence, .int .i64 x8.fCount]) (vs := [.int .i64 0, .int .i64 0, .int .i64 0, .int .i64 0, .int .i64 0, .int .i64 0, .int .i64 0, .int .i64 0, .int .i64 0, .int .i64 0, .int .i64 0, .int .i64 0]) flat_cursitorlaw10_38 rfl Try.eqGuardType38 rfl rfl rfl rfl (eqL_t (eqV_i c40) (eqL_f (eqV_in c41)))) rfl ?_
                refine TL.run ft_cursitorlaw10_ok [3] rfl rfl ?_
                refine TL.no rfl (.gn rfl rfl rfl) rfl ?_
                refine TL.no rfl (.gn rfl rfl rfl) rfl ?_
                refine TL.q rfl .u (Ex.pn rfl rfl rfl) rfl ?_
                refine TL.run ft_cursitorlaw10_ok [7] rfl rfl ?_
                refine TL.no rfl (.gn rfl rfl rfl) rfl ?_
                refine TL.no rfl (.gn rfl rfl rfl) rfl ?_
                refine TL.q rfl .u (Ex.pn rfl rfl rfl) rfl ?_
                refine TL.run ft_cursitorlaw10_ok [11] rfl rfl ?_
                cases h
                exact TL.nil (X.jq [0, 0, 0, 0] ⟨rfl, rfl⟩ (by rfl) (by rfl))
            · replace h := ifF c40 h
              refine TL.q rfl .u (Ex.aEq (us := [.int .i64 x8.fBase, .int .i64 x8.fLength, .int .i64 x8.fLeader, .int .i64 x8.fSum, .int .i64 x8.fAttr, .int .i64 x8.fLast, .int .i64 x8.fFirst, .int .i64 x8.fMax, .int .i64 x8.fProducer, .int .i64 x8.fEpoch, .int .i64 x8.fSequence, .int .i64 x8.fCount]) (vs := [.int .i64 0, .int .i64 0, .int .i64 0, .int .i64 0, .int .i64 0, .int .i64 0, .int .i64 0, .int .i64 0, .int .i64 0, .int .i64 0, .int .i64 0, .int .i64 0]) flat_cursitorlaw10_38 rfl Try.eqGuardType38 rfl rfl rfl rfl (eqL_f (eqV_in c40))) rfl ?_
              refine TL.run ft_cursitorlaw10_ok [3] rfl rfl ?_
              refine TL.no rfl (.gn rfl rfl rfl) rfl ?_
              refine TL.no rfl (.gn rfl rfl rfl) rfl ?_
              refine TL.q rfl .u (Ex.pn rfl rfl rfl) rfl ?_
              refine TL.run ft_cursitorlaw10_ok [7] rfl rfl ?_
              refine TL.no rfl (.gn rfl rfl rfl) rfl ?_
              refine TL.no rfl (.gn rfl rfl rfl) rfl ?_
              refine TL.q rfl .u (Ex.pn rfl rfl rfl) rfl ?_
              refine TL.run ft_cursitorlaw10_ok [11] rfl rfl ?_
              cases h
              exact TL.nil (X.jq [0, 0, 0, 0] ⟨rfl, rfl⟩ (by rfl) (by rfl))
          · rintro _ _ ⟨rfl, rfl⟩
            clear h
            have h := hk39
            clear hk39
            try dsimp only at h
            obtain rfl := Option.some.inj h
            exact X.seq (T.ret (X.rb (X.rs (X.done1 [3] Try.results5 (RV.tm rfl) ⟨rfl, rfl, rfl⟩ (by rfl) (.inl rfl)))))
        · replace h := ifF c24 h
          refine TL.nil (X.seq ?_)
          refine T.no rfl (decide_eq_false c24) ?_
          refine T.seq (T.region rfl ?_)
          refine TL.run ft_cursitorlaw10_ok [0, 1, 2] rfl rfl ?_
          by_cases c54 : x15 = 0
          · replace h := ifT c54 h
            refine TL.nil (X.seq ?_)
            refine T.no rfl (bn_f (decide_eq_true c54)) ?_
            refine T.skip (X.blk (X.seq (T.seq (T.seq (T.region rfl ?_)))))
            refine TL.q rfl .u (Ex.bS (us := [.int .i64 x8.fBase, .int .i64 x8.fLength, .int .i64 x8.fLeader, .int .i64 x8.fSum, .int .i64 x8.fAttr, .int .i64 x8.fLast, .int .i64 x8.fFirst, .int .i64 x8.fMax, .int .i64 x8.fProducer, .int .i64 x8.fEpoch, .int .i64 x8.fSequence, .int .i64 x8.fCount]) 1 rfl Try.isAgg38 Try.sizeOf38 rfl rfl rfl) rfl ?_
            obtain ⟨x55, hx58, h⟩ := Option.bind_eq_some_iff.1 h
            refine TL.cge rfl .u (.fn Try.call26 rfl) (f_l10_list_spec x8 _ hx58) (fun _ hs => (RX.reads_triv _ _)) rfl ?_
            rintro _ _ _ ⟨A56, c57, rfl, rfl, rfl⟩
            refine TL.sel [0, 0, 0, 0, 0] rfl ?_
            refine TL.q rfl .u (Ex.lenS rfl Try.runUnderlying25) rfl ?_
            refine TL.run ft_cursitorlaw10_ok [3] rfl rfl ?_
            refine TL.nil (X.seq (T.block ?_))
            obtain ⟨E61, hE62, hO63⟩ := Option.bind_eq_some_iff.1 h
            refine T.blen 0 rfl (fun w G h => rd_reads w G h) (fun hk67len => ?_)
            refine T.lp (fun m e Rs => ∃ (y59 : Bool) (k60 : Nat), k60 + m = x55.length ∧ e = [(2, .bool y59), (3, .pointer (some ⟨b7, 0, none⟩)), (5, .slice A13 x12.length c14), (7, .int .i64 x17), (8, .int .i64 x18), (65, .slice A56 x55.length c57), (66, .int .i64 (x55.length : Int)), (67, .int .i64 (k60 : Int))] ∧ Rs = [RdR (sliceRd 1 intE) [.slice A56 x55.length c57] x55, RdR (sliceRd 1 intE) [.slice A13 x12.length c14] x12, BlkR b11 38 #[.int .i64 x8.fBase, .int .i64 x8.fLength, .int .i64 x8.fLeader, .int .i64 x8.fSum, .int .i64 x8.fAttr, .int .i64 x8.fLast, .int .i64 x8.fFirst, .int .i64 x8.fMax, .int .i64 x8.fProducer, .int .i64 x8.fEpoch, .int .i64 x8.fSequence, .int .i64 x8.fCount], InR b7 st21, EmpR] ∧ f_l10_PrefixReads_l1 x12 (x55.drop k60) y59 k60 = some E61) (x55.length) [0, 0, 0, 0, 0] ⟨false, 0, by simp, rfl, rfl, by rw [List.drop_zero]; exact hE62⟩ (by rfl) (by rfl) ?_
            rintro m64 _ _ ⟨y59, k60, hk67, rfl, rfl, hl66⟩
            clear hE62 h
            cases m64 with
            | zero =>
              have h := hl66
              clear hl66
              rw [List.drop_of_length_le (by omega), f_l10_PrefixReads_l1] at h
              have hk67ge : ¬ ((k60 : Int) < (x55.length : Int)) := by omega
              refine T.seq (T.region rfl ?_)
              refine TL.run ft_cursitorlaw10_ok [0] rfl rfl ?_
              refine TL.nil (X.seq (T.seq ?_))
              refine T.no rfl (decide_eq_false hk67ge) ?_
              obtain rfl := Option.some.inj h
              replace h := hO63
              clear hO63
              try dsimp only at h
              refine T.exit (X.exs (X.exs (X.ex (X.seq (T.seq ?_)))))
              obtain ⟨⟨y111, st112⟩, h, hk113⟩ := Option.bind_eq_some_iff.1 h
              refine T.jq (fun e Rs => e = [(2, .bool y111)] ∧ Rs = [RdR (sliceRd 1 intE) [.slice A56 x55.length c57] x55, RdR (sliceRd 1 intE) [.slice A13 x12.length c14] x12, BlkR b11 38 #[.int .i64 x8.fBase, .int .i64 x8.fLength, .int .i64 x8.fLeader, .int .i64 x8.fSum, .int .i64 x8.fAttr, .int .i64 x8.fLast, .int .i64 x8.fFirst, .int .i64 x8.fMax, .int .i64 x8.fProducer, .int .i64 x8.fEpoch, .int .i64 x8.fSequence, .int .i64 x8.fCount], InR b7 st112, EmpR]) ?_ ?_
              · clear hk113
                refine T.region rfl ?_
                obtain ⟨⟨x114, st115⟩, hx116, h⟩ := Option.bind_eq_some_iff.1 h
                try dsimp only at h
                refine TL.run ft_cursitorlaw10_ok [0] rfl rfl ?_
                refine TL.c3 rfl .u (.fn Try.call33 rfl) (gAt_spec b7 st21 _ hx116) (fun _ hs => (Src.triv _)) rfl ?_
                by_cases c117 : x114 = 61
                · replace h := ifT c117 h
                  refine TL.run ft_cursitorlaw10_ok [2, 3] rfl rfl ?_
                  refine TL.q rfl (.g rfl rfl (decide_eq_true c117)) (Ex.ft ft_cursitorlaw10_ok rfl) rfl ?_
                  refine TL.q rfl (.g rfl rfl (decide_eq_true c117)) (Ex.ft ft_cursitorlaw10_ok rfl) rfl ?_
                  obtain ⟨x118, hx119, h⟩ := Option.bind_eq_some_iff.1 h
                  refine TL.foc (E := intE) (k := 1) 1 rfl (fun w G h => rd_reads w G h) (by decide) hx119 ?_
                  rintro gz120 oz120 z120cs hA z120cl ⟨_, _, z120r⟩
                  cases hA
                  obtain rfl : z120cs = [.int .i64 x118] := z120r
                  clear z120cl
                  refine TL.sel [0, 0, 0, 0, 0] rfl ?_
                  refine TL.q rfl (.g rfl rfl (decide_eq_true c117)) (Ex.ixS (k := 1) rfl rfl rfl Try.runUnderlying25 Try.sizeOf3 (List.getElem?_eq_some_iff.1 hx119).1) rfl ?_
                  refine TL.q rfl (.g rfl rfl (decide_eq_true c117)) (Ex.k1 (cs := [.int .i64 x118]) 1 0 rfl Try.isAgg3 rfl (fun _ _ h => h.2.2.1) rfl) rfl ?_
                  replace h := guard_some h
                  obtain ⟨c121, h⟩ := h
                  refine TL.q rfl (.g rfl rfl (decide_eq_true c117)) (Ex.add rfl rfl c121) rfl ?_
                  refine TL.q rfl (.g rfl rfl (decide_eq_true c117)) (Ex.ft ft_cursitorlaw10_ok rfl) rfl ?_
                  refine TL.q rfl .u (Ex.py rfl (decide_eq_true c117) rfl) rfl ?_
                  by_cases c122 : x17 = (x118 + 12)
                  · replace h := ifT c122 h
                    refine TL.run ft_cursitorlaw10_ok [11] rfl rfl ?_
                    refine TL.q rfl (.g rfl rfl (decide_eq_true c122)) (Ex.ft ft_cursitorlaw10_ok rfl) rfl ?_
                    refine TL.q rfl (.g rfl rfl (decide_eq_true c122)) (Ex.ft ft_cursitorlaw10_ok rfl) rfl ?_
                    refine TL.q rfl .u (Ex.py rfl (decide_eq_true c122) rfl) rfl ?_
                    refine TL.run ft_cursitorlaw10_ok [15] rfl rfl ?_
                    by_cases c123 : x18 = 0
                    · replace h := ifT c123 h
                      refine TL.nil (X.as (d := 2) (v' := .bool true) rfl (congrArg Value.bool (decide_eq_true c123)) ?_)
                      refine X.unf 1 rfl ?_
                      refine X.sel [0, 0, 0, 0, 0] rfl ?_
                      cases h
                      exact X.jq [0, 0, 0, 0, 0] ⟨rfl, rfl⟩ (by rfl) (by rfl)
                    · replace h := ifF c123 h
                      refine TL.nil (X.as (d := 2) (v' := .bool false) rfl (congrArg Value.bool (decide_eq_false c123)) ?_)
                      refine X.unf 1 rfl ?_
                      refine X.sel [0, 0, 0, 0, 0] rfl ?_
                      cases h
                      exact X.jq [0, 0, 0, 0, 0] ⟨rfl, rfl⟩ (by rfl) (by rfl)
                  · replace h := ifF c122 h
                    refine TL.run ft_cursitorlaw10_ok [11] rfl rfl ?_
                    refine TL.no rfl (.gn rfl rfl (decide_eq_false c122)) rfl ?_
                    refine TL.no rfl (.gn rfl rfl (decide_eq_false c122)) rfl ?_
                    refine TL.q rfl .u (Ex.pn rfl (decide_eq_false c122) rfl) rfl ?_
                    refine TL.run ft_cursitorlaw10_ok [15] rfl rfl ?_
                    refine TL.nil ?_
                    refine X.unf 1 rfl ?_
                    refine X.sel [0, 0, 0, 0, 0] rfl ?_
                    cases h
                    exact X.jq [0, 0, 0, 0, 0] ⟨rfl, rfl⟩ (by rfl) (by rfl)
                · replace h := ifF c117 h
                  refine TL.run ft_cursitorlaw10_ok [2, 3] rfl rfl ?_
                  refine TL.no rfl (.gn rfl rfl (decide_eq_false c117)) rfl ?_
                  refine TL.no rfl (.gn rfl rfl (decide_eq_false c117)) rfl ?_
                  refine TL.no rfl (.gn rfl rfl (decide_eq_false c117)) rfl ?_
                  refine TL.no rfl (.gn rfl rfl (decide_eq_false c117)) rfl ?_
                  refine TL.no rfl (.gn rfl rfl (decide_eq_false c117)) rfl ?_
                  refine TL.no rfl (.gn rfl rfl (decide_eq_false c117)) rfl ?_
                  refine TL.q rfl .u (Ex.pn rfl (decide_eq_false c117) rfl) rfl ?_
                  refine TL.run ft_cursitorlaw10_ok [11] rfl rfl ?_
                  refine TL.no rfl (.gn rfl rfl rfl) rfl ?_
                  refine TL.no rfl (.gn rfl rfl rfl) rfl ?_
                  refine TL.q rfl .u (Ex.pn rfl rfl rfl) rfl ?_
                  refine TL.run ft_cursitorlaw10_ok [15] rfl rfl ?_
                  cases h
                  exact TL.nil (X.jq [0, 0, 0, 0, 0] ⟨rfl, rfl⟩ (by rfl) (by rfl))
              · rintro _ _ ⟨rfl, rfl⟩
                clear h
                have h := hk113
                clear hk113
                try dsimp only at h
                obtain rfl := Option.some.inj h
                exact X.seq (T.ret (X.done1 [4] Try.results5 (RV.tm rfl) ⟨rfl, rfl, rfl⟩ (by rfl) (.inl rfl)))
            | succ m64 =>
              have h := hl66
              clear hl66
              obtain ⟨x65, hxx65⟩ : ∃ x, x55[k60]? = some x := ⟨_, List.getElem?_eq_getElem (by omega)⟩
              rw [drop_cons hxx65, f_l10_PrefixReads_l1] at h
              have hk67lt : (k60 : Int) < (x55.length : Int) := by omega
              refine T.seq (T.region rfl ?_)
              refine TL.run ft_cursitorlaw10_ok [0] rfl rfl ?_
              refine TL.nil (X.seq (T.seq ?_))
              refine T.yes rfl (decide_eq_true hk67lt) ?_
              refine T.skip (X.seq (T.seq (T.block (T.seq (T.region rfl ?_)))))
              refine TL.run ft_cursitorlaw10_ok [0] rfl rfl ?_
              refine TL.foc (E := intE) (k := k60) 0 rfl (fun w G h => rd_reads w G h) (by decide) hxx65 ?_
              rintro gz73 oz73 z73cs hA z73cl ⟨_, _, z73r⟩
              cases hA
              obtain rfl : z73cs = [.int .i64 x65] := z73r
              clear z73cl
              refine TL.sel [0, 0, 0, 0, 0] rfl ?_
              refine TL.q rfl .u (Ex.ixS (k := k60) rfl rfl rfl Try.runUnderlying25 Try.sizeOf3 (List.getElem?_eq_some_iff.1 hxx65).1) rfl ?_
              refine TL.q rfl .u (Ex.k1 (cs := [.int .i64 x65]) 0 0 rfl Try.isAgg3 rfl (fun _ _ h => h.2.2.1) rfl) rfl ?_
              refine TL.run ft_cursitorlaw10_ok [3, 4] rfl rfl ?_
              refine TL.nil (X.seq (T.seq (T.region rfl ?_)))
              obtain ⟨x74, hx75, h⟩ := Option.bind_eq_some_iff.1 h
              refine TL.run ft_cursitorlaw10_ok [0, 1, 2] rfl rfl ?_
              refine TL.foc (E := intE) (k := k60) 1 rfl (fun w G h => rd_reads w G h) (by decide) hx75 ?_
              rintro gz76 oz76 z76cs hA z76cl ⟨_, _, z76r⟩
              cases hA
              obtain rfl : z76cs = [.int .i64 x74] := z76r
              clear z76cl
              refine TL.sel [0, 0, 0, 0, 0] rfl ?_
              refine TL.q rfl .u (Ex.ixS (k := k60) rfl rfl rfl Try.runUnderlying25 Try.sizeOf3 (List.getElem?_eq_some_iff.1 hx75).1) rfl ?_
              refine TL.q rfl .u (Ex.k1 (cs := [.int .i64 x74]) 1 0 rfl Try.isAgg3 rfl (fun _ _ h => h.2.2.1) rfl) rfl ?_
              refine TL.run ft_cursitorlaw10_ok [5] rfl rfl ?_
              by_cases c77 : x65 = x74
              · replace h := ifT c77 h
                refine TL.nil (X.seq ?_)
                refine T.no rfl (bn_f (decide_eq_true c77)) ?_
                refine T.skip (X.blk (X.seq (T.region rfl ?_)))
                refine TL.q rfl .u (Ex.add rfl rfl (by omega)) rfl ?_
                refine TL.run ft_cursitorlaw10_ok [1] rfl rfl ?_
                refine TL.nil ?_
                refine X.unf 0 rfl ?_
                refine X.sel [0, 0, 0, 0, 0] rfl ?_
                refine X.unf 1 rfl ?_
                refine X.sel [0, 0, 0, 0, 0] rfl ?_
                exact X.back (m' := m64) [0, 0, 0, 0, 0] (by omega) ⟨y59, k60 + 1, by omega, rfl, rfl, h⟩ (by rfl) (by rfl)
              · replace h := ifF c77 h
                refine TL.nil (X.seq ?_)
                refine T.yes rfl (bn_t (decide_eq_false c77)) ?_
                exact nomatch h
          · replace h := ifF c54 h
            refine TL.nil (X.seq ?_)
            refine T.yes rfl (bn_t (decide_eq_false c54)) ?_
            refine T.seq ?_
            obtain ⟨y137, h, hk138⟩ := Option.bind_eq_some_iff.1 h
            refine T.jq (fun e Rs => e = [(2, .bool y137), (3, .pointer (some ⟨b7, 0, none⟩)), (4, .pointer (some ⟨b11, 0, none⟩)), (5, .slice A13 x12.length c14), (7, .int .i64 x17), (8, .int .i64 x18)] ∧ Rs = [RdR (sliceRd 1 intE) [.slice A13 x12.length c14] x12, BlkR b11 38 #[.int .i64 x8.fBase, .int .i64 x8.fLength, .int .i64 x8.fLeader, .int .i64 x8.fSum, .int .i64 x8.fAttr, .int .i64 x8.fLast, .int .i64 x8.fFirst, .int .i64 x8.fMax, .int .i64 x8.fProducer, .int .i64 x8.fEpoch, .int .i64 x8.fSequence, .int .i64 x8.fCount], InR b7 st21, EmpR]) ?_ ?_
            · clear hk138
              refine T.region rfl ?_
              refine TL.q rfl .u (Ex.bS (us := [.int .i64 x8.fBase, .int .i64 x8.fLength, .int .i64 x8.fLeader, .int .i64 x8.fSum, .int .i64 x8.fAttr, .int .i64 x8.fLast, .int .i64 x8.fFirst, .int .i64 x8.fMax, .int .i64 x8.fProducer, .int .i64 x8.fEpoch, .int .i64 x8.fSequence, .int .i64 x8.fCount]) 1 rfl Try.isAgg38 Try.sizeOf38 rfl rfl rfl) rfl ?_
              refine TL.q rfl .u (Ex.bld (cells := #[.int .i64 0, .int .i64 0, .int .i64 0, .int .i64 0, .int .i64 0, .int .i64 0, .int .i64 0, .int .i64 0, .int .i64 0, .int .i64 0, .int .i64 0, .int .i64 0]) bok_cursitorlaw10_38 rfl (by kernel_rfl)) rfl ?_
              by_cases c139 : x8.fBase = 0
              · replace h := ifT c139 h
                by_cases c140 : x8.fLength = 0
                · replace h := ifT c140 h
                  by_cases c141 : x8.fLeader = 0
                  · replace h := ifT c141 h
                    by_cases c142 : x8.fSum = 0
                    · replace h := ifT c142 h
                      by_cases c143 : x8.fAttr = 0
                      · replace h := ifT c143 h
                        by_cases c144 : x8.fLast = 0
                        · replace h := ifT c144 h
                          by_cases c145 : x8.fFirst = 0
                          · replace h := ifT c145 h
                            by_cases c146 : x8.fMax = 0
                            · replace h := ifT c146 h
                              by_cases c147 : x8.fProducer = 0
                              · replace h := ifT c147 h
                                by_cases c148 : x8.fEpoch = 0
                                · replace h := ifT c148 h
                                  by_cases c149 : x8.fSequence = 0
                                  · replace h := ifT c149 h
                                    by_cases c150 : x8.fCount = 0
                                    · replace h := ifT c150 h
                                      refine TL.q rfl .u (Ex.aEq (us := [.int .i64 x8.fBase, .int .i64 x8.fLength, .int .i64 x8.fLeader, .int .i64 x8.fSum, .int .i64 x8.fAttr, .int .i64 x8.fLast, .int .i64 x8.fFirst, .int .i64 x8.fMax, .int .i64 x8.fProducer, .int .i64 x8.fEpoch, .int .i64 x8.fSequence, .int .i64 x8.fCount]) (vs := [.int .i64 0, .int .i64 0, .int .i64 0, .int .i64 0, .int .i64 0, .int .i64 0, .int .i64 0, .int .i64 0, .int .i64 0, .int .i64 0, .int .i64 0, .int .i64 0]) flat_cursitorlaw10_38 rfl Try.eqGuardType38 rfl rfl rfl rfl (eqL_t (eqV_i c139) (eqL_t (eqV_i c140) (eqL_t (eqV_i c141) (eqL_t (eqV_i c142) (eqL_t (eqV_i c143) (eqL_t (eqV_i c144) (eqL_t (eqV_i c145) (eqL_t (eqV_i c146) (eqL_t (eqV_i c147) (eqL_t (eqV_i c148) (eqL_t (eqV_i c149) (eqL_t (eqV_i c150) rfl))))))))))))) rfl ?_
                                      refine TL.run ft_cursitorlaw10_ok [3] rfl rfl ?_
                                      refine TL.q rfl (.g rfl rfl rfl) (Ex.ft ft_cursitorlaw10_ok rfl) rfl ?_
                                      refine TL.q rfl (.g rfl rfl rfl) (Ex.ft ft_cursitorlaw10_ok rfl) rfl ?_
                                      refine TL.q rfl .u (Ex.py rfl rfl rfl) rfl ?_
                                      by_cases c151 : x17 = 0
                                      · replace h := ifT c151 h
                                        refine TL.run ft_cursitorlaw10_ok [7] rfl rfl ?_
                                        refine TL.q rfl (.g rfl rfl (decide_eq_true c151)) (Ex.ft ft_cursitorlaw10_ok rfl) rfl ?_
                                        refine TL.q rfl (.g rfl rfl (decide_eq_true c151)) (Ex.ft ft_cursitorlaw10_ok rfl) rfl ?_
                                        refine TL.q rfl (.g rfl rfl (decide_eq_true c151)) (Ex.ft ft_cursitorlaw10_ok rfl) rfl ?_
                                        refine TL.q rfl .u (Ex.py rfl (decide_eq_true c151) rfl) rfl ?_
                                        refine TL.run ft_cursitorlaw10_ok [12] rfl rfl ?_
                                        by_cases c152 : x18 = x15
                                        · replace h := ifT c152 h
                                          cases h
                                          exact TL.nil (X.as (d := 2) (v' := .bool true) rfl (congrArg Value.bool (decide_eq_true c152)) (X.jq [0, 0, 0, 0] ⟨rfl, rfl⟩ (by rfl) (by rfl)))
                                        · replace h := ifF c152 h
                                          cases h
                                          exact TL.nil (X.as (d := 2) (v' := .bool false) rfl (congrArg Value.bool (decide_eq_false c152)) (X.jq [0, 0, 0, 0] ⟨rfl, rfl⟩ (by rfl) (by rfl)))
                                      · replace h := ifF c151 h
                                        refine TL.run ft_cursitorlaw10_ok [7] rfl rfl ?_
                                        refine TL.no rfl (.gn rfl rfl (decide_eq_false c151)) rfl ?_
                                        refine TL.no rfl (.gn rfl rfl (decide_eq_false c151)) rfl ?_
                                        refine TL.no rfl (.gn rfl rfl (decide_eq_false c151)) rfl ?_
                                        refine TL.q rfl .u (Ex.pn rfl (decide_eq_false c151) rfl) rfl ?_
                                        refine TL.run ft_cursitorlaw10_ok [12] rfl rfl ?_
                                        cases h
                                        exact TL.nil (X.jq [0, 0, 0, 0] ⟨rfl, rfl⟩ (by rfl) (by rfl))
                                    · replace h := ifF c150 h
                                      refine TL.q rfl .u (Ex.aEq (us := [.int .i64 x8.fBase, .int .i64 x8.fLength, .int .i64 x8.fLeader, .int .i64 x8.fSum, .int .i64 x8.fAttr, .int .i64 x8.fLast, .int .i64 x8.fFirst, .int .i64 x8.fMax, .int .i64 x8.fProducer, .int .i64 x8.fEpoch, .int .i64 x8.fSequence, .int .i64 x8.fCount]) (vs := [.int .i64 0, .int .i64 0, .int .i64 0, .int .i64 0, .int .i64 0, .int .i64 0, .int .i64 0, .int .i64 0, .int .i64 0, .int .i64 0, .int .i64 0, .int .i64 0]) flat_cursitorlaw10_38 rfl Try.eqGuardType38 rfl rfl rfl rfl (eqL_t (eqV_i c139) (eqL_t (eqV_i c140) (eqL_t (eqV_i c141) (eqL_t (eqV_i c142) (eqL_t (eqV_i c143) (eqL_t (eqV_i c144) (eqL_t (eqV_i c145) (eqL_t (eqV_i c146) (eqL_t (eqV_i c147) (eqL_t (eqV_i c148) (eqL_t (eqV_i c149) (eqL_f (eqV_in c150)))))))))))))) rfl ?_
                                      refine TL.run ft_cursitorlaw10_ok [3] rfl rfl ?_
                                      refine TL.no rfl (.gn rfl rfl rfl) rfl ?_
                                      refine TL.no rfl (.gn rfl rfl rfl) rfl ?_
                                      refine TL.q rfl .u (Ex.pn rfl rfl rfl) rfl ?_
                                      refine TL.run ft_cursitorlaw10_ok [7] rfl rfl ?_
                                      refine TL.no rfl (.gn rfl rfl rfl) rfl ?_
                                      refine TL.no rfl (.gn rfl rfl rfl) rfl ?_
                                      refine TL.no rfl (.gn rfl rfl rfl) rfl ?_
                                      refine TL.q rfl .u (Ex.pn rfl rfl rfl) rfl ?_
                                      refine TL.run ft_cursitorlaw10_ok [12] rfl rfl ?_
                                      cases h
                                      exact TL.nil (X.jq [0, 0, 0, 0] ⟨rfl, rfl⟩ (by rfl) (by rfl))
                                  · replace h := ifF c149 h
                                    refine TL.q rfl .u (Ex.aEq (us := [.int .i64 x8.fBase, .int .i64 x8.fLength, .int .i64 x8.fLeader, .int .i64 x8.fSum, .int .i64 x8.fAttr, .int .i64 x8.fLast, .int .i64 x8.fFirst, .int .i64 x8.fMax, .int .i64 x8.fProducer, .int .i64 x8.fEpoch, .int .i64 x8.fSequence, .int .i64 x8.fCount]) (vs := [.int .i64 0, .int .i64 0, .int .i64 0, .int .i64 0, .int .i64 0, .int .i64 0, .int .i64 0, .int .i64 0, .int .i64 0, .int .i64 0, .int .i64 0, .int .i64 0]) flat_cursitorlaw10_38 rfl Try.eqGuardType38 rfl rfl rfl rfl (eqL_t (eqV_i c139) (eqL_t (eqV_i c140) (eqL_t (eqV_i c141) (eqL_t (eqV_i c142) (eqL_t (eqV_i c143) (eqL_t (eqV_i c144) (eqL_t (eqV_i c145) (eqL_t (eqV_i c146) (eqL_t (eqV_i c147) (eqL_t (eqV_i c148) (eqL_f (eqV_in c149))))))))))))) rfl ?_
                                    refine TL.run ft_cursitorlaw10_ok [3] rfl rfl ?_
                                    refine TL.no rfl (.gn rfl rfl rfl) rfl ?_
                                    refine TL.no rfl (.gn rfl rfl rfl) rfl ?_
                                    refine TL.q rfl .u (Ex.pn rfl rfl rfl) rfl ?_
                                    refine TL.run ft_cursitorlaw10_ok [7] rfl rfl ?_
                                    refine TL.no rfl (.gn rfl rfl rfl) rfl ?_
                                    refine TL.no rfl (.gn rfl rfl rfl) rfl ?_
                                    refine TL.no rfl (.gn rfl rfl rfl) rfl ?_
                                    refine TL.q rfl .u (Ex.pn rfl rfl rfl) rfl ?_
                                    refine TL.run ft_cursitorlaw10_ok [12] rfl rfl ?_
                                    cases h
                                    exact TL.nil (X.jq [0, 0, 0, 0] ⟨rfl, rfl⟩ (by rfl) (by rfl))
                                · replace h := ifF c148 h
                                  refine TL.q rfl .u (Ex.aEq (us := [.int .i64 x8.fBase, .int .i64 x8.fLength, .int .i64 x8.fLeader, .int .i64 x8.fSum, .int .i64 x8.fAttr, .int .i64 x8.fLast, .int .i64 x8.fFirst, .int .i64 x8.fMax, .int .i64 x8.fProducer, .int .i64 x8.fEpoch, .int .i64 x8.fSequence, .int .i64 x8.fCount]) (vs := [.int .i64 0, .int .i64 0, .int .i64 0, .int .i64 0, .int .i64 0, .int .i64 0, .int .i64 0, .int .i64 0, .int .i64 0, .int .i64 0, .int .i64 0, .int .i64 0]) flat_cursitorlaw10_38 rfl Try.eqGuardType38 rfl rfl rfl rfl (eqL_t (eqV_i c139) (eqL_t (eqV_i c140) (eqL_t (eqV_i c141) (eqL_t (eqV_i c142) (eqL_t (eqV_i c143) (eqL_t (eqV_i c144) (eqL_t (eqV_i c145) (eqL_t (eqV_i c146) (eqL_t (eqV_i c147) (eqL_f (eqV_in c148)))))))))))) rfl ?_
                                  refine TL.run ft_cursitorlaw10_ok [3] rfl rfl ?_
                                  refine TL.no rfl (.gn rfl rfl rfl) rfl ?_
                                  refine TL.no rfl (.gn rfl rfl rfl) rfl ?_
                                  refine TL.q rfl .u (Ex.pn rfl rfl rfl) rfl ?_
                                  refine TL.run ft_cursitorlaw10_ok [7] rfl rfl ?_
                                  refine TL.no rfl (.gn rfl rfl rfl) rfl ?_
                                  refine TL.no rfl (.gn rfl rfl rfl) rfl ?_
                                  refine TL.no rfl (.gn rfl rfl rfl) rfl ?_
                                  refine TL.q rfl .u (Ex.pn rfl rfl rfl) rfl ?_
                                  refine TL.run ft_cursitorlaw10_ok [12] rfl rfl ?_
                                  cases h
                                  exact TL.nil (X.jq [0, 0, 0, 0] ⟨rfl, rfl⟩ (by rfl) (by rfl))
                              · replace h := ifF c147 h
                                refine TL.q rfl .u (Ex.aEq (us := [.int .i64 x8.fBase, .int .i64 x8.fLength, .int .i64 x8.fLeader, .int .i64 x8.fSum, .int .i64 x8.fAttr, .int .i64 x8.fLast, .int .i64 x8.fFirst, .int .i64 x8.fMax, .int .i64 x8.fProducer, .int .i64 x8.fEpoch, .int .i64 x8.fSequence, .int .i64 x8.fCount]) (vs := [.int .i64 0, .int .i64 0, .int .i64 0, .int .i64 0, .int .i64 0, .int .i64 0, .int .i64 0, .int .i64 0, .int .i64 0, .int .i64 0, .int .i64 0, .int .i64 0]) flat_cursitorlaw10_38 rfl Try.eqGuardType38 rfl rfl rfl rfl (eqL_t (eqV_i c139) (eqL_t (eqV_i c140) (eqL_t (eqV_i c141) (eqL_t (eqV_i c142) (eqL_t (eqV_i c143) (eqL_t (eqV_i c144) (eqL_t (eqV_i c145) (eqL_t (eqV_i c146) (eqL_f (eqV_in c147))))))))))) rfl ?_
                                refine TL.run ft_cursitorlaw10_ok [3] rfl rfl ?_
                                refine TL.no rfl (.gn rfl rfl rfl) rfl ?_
                                refine TL.no rfl (.gn rfl rfl rfl) rfl ?_
                                refine TL.q rfl .u (Ex.pn rfl rfl rfl) rfl ?_
                                refine TL.run ft_cursitorlaw10_ok [7] rfl rfl ?_
                                refine TL.no rfl (.gn rfl rfl rfl) rfl ?_
                                refine TL.no rfl (.gn rfl rfl rfl) rfl ?_
                                refine TL.no rfl (.gn rfl rfl rfl) rfl ?_
                                refine TL.q rfl .u (Ex.pn rfl rfl rfl) rfl ?_
                                refine TL.run ft_cursitorlaw10_ok [12] rfl rfl ?_
                                cases h
                                exact TL.nil (X.jq [0, 0, 0, 0] ⟨rfl, rfl⟩ (by rfl) (by rfl))
                            · replace h := ifF c146 h
                              refine TL.q rfl .u (Ex.aEq (us := [.int .i64 x8.fBase, .int .i64 x8.fLength, .int .i64 x8.fLeader, .int .i64 x8.fSum, .int .i64 x8.fAttr, .int .i64 x8.fLast, .int .i64 x8.fFirst, .int .i64 x8.fMax, .int .i64 x8.fProducer, .int .i64 x8.fEpoch, .int .i64 x8.fSequence, .int .i64 x8.fCount]) (vs := [.int .i64 0, .int .i64 0, .int .i64 0, .int .i64 0, .int .i64 0, .int .i64 0, .int .i64 0, .int .i64 0, .int .i64 0, .int .i64 0, .int .i64 0, .int .i64 0]) flat_cursitorlaw10_38 rfl Try.eqGuardType38 rfl rfl rfl rfl (eqL_t (eqV_i c139) (eqL_t (eqV_i c140) (eqL_t (eqV_i c141) (eqL_t (eqV_i c142) (eqL_t (eqV_i c143) (eqL_t (eqV_i c144) (eqL_t (eqV_i c145) (eqL_f (eqV_in c146)))))))))) rfl ?_
                              refine TL.run ft_cursitorlaw10_ok [3] rfl rfl ?_
                              refine TL.no rfl (.gn rfl rfl rfl) rfl ?_
                              refine TL.no rfl (.gn rfl rfl rfl) rfl ?_
                              refine TL.q rfl .u (Ex.pn rfl rfl rfl) rfl ?_
                              refine TL.run ft_cursitorlaw10_ok [7] rfl rfl ?_
                              refine TL.no rfl (.gn rfl rfl rfl) rfl ?_
                              refine TL.no rfl (.gn rfl rfl rfl) rfl ?_
                              refine TL.no rfl (.gn rfl rfl rfl) rfl ?_
                              refine TL.q rfl .u (Ex.pn rfl rfl rfl) rfl ?_
                              refine TL.run ft_cursitorlaw10_ok [12] rfl rfl ?_
                              cases h
                              exact TL.nil (X.jq [0, 0, 0, 0] ⟨rfl, rfl⟩ (by rfl) (by rfl))
                          · replace h := ifF c145 h
                            refine TL.q rfl .u (Ex.aEq (us := [.int .i64 x8.fBase, .int .i64 x8.fLength, .int .i64 x8.fLeader, .int .i64 x8.fSum, .int .i64 x8.fAttr, .int .i64 x8.fLast, .int .i64 x8.fFirst, .int .i64 x8.fMax, .int .i64 x8.fProducer, .int .i64 x8.fEpoch, .int .i64 x8.fSequence, .int .i64 x8.fCount]) (vs := [.int .i64 0, .int .i64 0, .int .i64 0, .int .i64 0, .int .i64 0, .int .i64 0, .int .i64 0, .int .i64 0, .int .i64 0, .int .i64 0, .int .i64 0, .int .i64 0]) flat_cursitorlaw10_38 rfl Try.eqGuardType38 rfl rfl rfl rfl (eqL_t (eqV_i c139) (eqL_t (eqV_i c140) (eqL_t (eqV_i c141) (eqL_t (eqV_i c142) (eqL_t (eqV_i c143) (eqL_t (eqV_i c144) (eqL_f (eqV_in c145))))))))) rfl ?_
                            refine TL.run ft_cursitorlaw10_ok [3] rfl rfl ?_
                            refine TL.no rfl (.gn rfl rfl rfl) rfl ?_
                            refine TL.no rfl (.gn rfl rfl rfl) rfl ?_
                            refine TL.q rfl .u (Ex.pn rfl rfl rfl) rfl ?_
                            refine TL.run ft_cursitorlaw10_ok [7] rfl rfl ?_
                            refine TL.no rfl (.gn rfl rfl rfl) rfl ?_
                            refine TL.no rfl (.gn rfl rfl rfl) rfl ?_
                            refine TL.no rfl (.gn rfl rfl rfl) rfl ?_
                            refine TL.q rfl .u (Ex.pn rfl rfl rfl) rfl ?_
                            refine TL.run ft_cursitorlaw10_ok [12] rfl rfl ?_
                            cases h
                            exact TL.nil (X.jq [0, 0, 0, 0] ⟨rfl, rfl⟩ (by rfl) (by rfl))
                        · replace h := ifF c144 h
                          refine TL.q rfl .u (Ex.aEq (us := [.int .i64 x8.fBase, .int .i64 x8.fLength, .int .i64 x8.fLeader, .int .i64 x8.fSum, .int .i64 x8.fAttr, .int .i64 x8.fLast, .int .i64 x8.fFirst, .int .i64 x8.fMax, .int .i64 x8.fProducer, .int .i64 x8.fEpoch, .int .i64 x8.fSequence, .int .i64 x8.fCount]) (vs := [.int .i64 0, .int .i64 0, .int .i64 0, .int .i64 0, .int .i64 0, .int .i64 0, .int .i64 0, .int .i64 0, .int .i64 0, .int .i64 0, .int .i64 0, .int .i64 0]) flat_cursitorlaw10_38 rfl Try.eqGuardType38 rfl rfl rfl rfl (eqL_t (eqV_i c139) (eqL_t (eqV_i c140) (eqL_t (eqV_i c141) (eqL_t (eqV_i c142) (eqL_t (eqV_i c143) (eqL_f (eqV_in c144)))))))) rfl ?_
                          refine TL.run ft_cursitorlaw10_ok [3] rfl rfl ?_
                          refine TL.no rfl (.gn rfl rfl rfl) rfl ?_
                          refine TL.no rfl (.gn rfl rfl rfl) rfl ?_
                          refine TL.q rfl .u (Ex.pn rfl rfl rfl) rfl ?_
                          refine TL.run ft_cursitorlaw10_ok [7] rfl rfl ?_
                          refine TL.no rfl (.gn rfl rfl rfl) rfl ?_
                          refine TL.no rfl (.gn rfl rfl rfl) rfl ?_
                          refine TL.no rfl (.gn rfl rfl rfl) rfl ?_
                          refine TL.q rfl .u (Ex.pn rfl rfl rfl) rfl ?_
                          refine TL.run ft_cursitorlaw10_ok [12] rfl rfl ?_
                          cases h
                          exact TL.nil (X.jq [0, 0, 0, 0] ⟨rfl, rfl⟩ (by rfl) (by rfl))
                      · replace h := ifF c143 h
                        refine TL.q rfl .u (Ex.aEq (us := [.int .i64 x8.fBase, .int .i64 x8.fLength, .int .i64 x8.fLeader, .int .i64 x8.fSum, .int .i64 x8.fAttr, .int .i64 x8.fLast, .int .i64 x8.fFirst, .int .i64 x8.fMax, .int .i64 x8.fProducer, .int .i64 x8.fEpoch, .int .i64 x8.fSequence, .int .i64 x8.fCount]) (vs := [.int .i64 0, .int .i64 0, .int .i64 0, .int .i64 0, .int .i64 0, .int .i64 0, .int .i64 0, .int .i64 0, .int .i64 0, .int .i64 0, .int .i64 0, .int .i64 0]) flat_cursitorlaw10_38 rfl Try.eqGuardType38 rfl rfl rfl rfl (eqL_t (eqV_i c139) (eqL_t (eqV_i c140) (eqL_t (eqV_i c141) (eqL_t (eqV_i c142) (eqL_f (eqV_in c143))))))) rfl ?_
                        refine TL.run ft_cursitorlaw10_ok [3] rfl rfl ?_
                        refine TL.no rfl (.gn rfl rfl rfl) rfl ?_
                        refine TL.no rfl (.gn rfl rfl rfl) rfl ?_
                        refine TL.q rfl .u (Ex.pn rfl rfl rfl) rfl ?_
                        refine TL.run ft_cursitorlaw10_ok [7] rfl rfl ?_
                        refine TL.no rfl (.gn rfl rfl rfl) rfl ?_
                        refine TL.no rfl (.gn rfl rfl rfl) rfl ?_
                        refine TL.no rfl (.gn rfl rfl rfl) rfl ?_
                        refine TL.q rfl .u (Ex.pn rfl rfl rfl) rfl ?_
                        refine TL.run ft_cursitorlaw10_ok [12] rfl rfl ?_
                        cases h
                        exact TL.nil (X.jq [0, 0, 0, 0] ⟨rfl, rfl⟩ (by rfl) (by rfl))
                    · replace h := ifF c142 h
                      refine TL.q rfl .u (Ex.aEq (us := [.int .i64 x8.fBase, .int .i64 x8.fLength, .int .i64 x8.fLeader, .int .i64 x8.fSum, .int .i64 x8.fAttr, .int .i64 x8.fLast, .int .i64 x8.fFirst, .int .i64 x8.fMax, .int .i64 x8.fProducer, .int .i64 x8.fEpoch, .int .i64 x8.fSequence, .int .i64 x8.fCount]) (vs := [.int .i64 0, .int .i64 0, .int .i64 0, .int .i64 0, .int .i64 0, .int .i64 0, .int .i64 0, .int .i64 0, .int .i64 0, .int .i64 0, .int .i64 0, .int .i64 0]) flat_cursitorlaw10_38 rfl Try.eqGuardType38 rfl rfl rfl rfl (eqL_t (eqV_i c139) (eqL_t (eqV_i c140) (eqL_t (eqV_i c141) (eqL_f (eqV_in c142)))))) rfl ?_
                      refine TL.run ft_cursitorlaw10_ok [3] rfl rfl ?_
                      refine TL.no rfl (.gn rfl rfl rfl) rfl ?_
                      refine TL.no rfl (.gn rfl rfl rfl) rfl ?_
                      refine TL.q rfl .u (Ex.pn rfl rfl rfl) rfl ?_
                      refine TL.run ft_cursitorlaw10_ok [7] rfl rfl ?_
                      refine TL.no rfl (.gn rfl rfl rfl) rfl ?_
                      refine TL.no rfl (.gn rfl rfl rfl) rfl ?_
                      refine TL.no rfl (.gn rfl rfl rfl) rfl ?_
                      refine TL.q rfl .u (Ex.pn rfl rfl rfl) rfl ?_
                      refine TL.run ft_cursitorlaw10_ok [12] rfl rfl ?_
                      cases h
                      exact TL.nil (X.jq [0, 0, 0, 0] ⟨rfl, rfl⟩ (by rfl) (by rfl))
                  · replace h := ifF c141 h
                    refine TL.q rfl .u (Ex.aEq (us := [.int .i64 x8.fBase, .int .i64 x8.fLength, .int .i64 x8.fLeader, .int .i64 x8.fSum, .int .i64 x8.fAttr, .int .i64 x8.fLast, .int .i64 x8.fFirst, .int .i64 x8.fMax, .int .i64 x8.fProducer, .int .i64 x8.fEpoch, .int .i64 x8.fSequence, .int .i64 x8.fCount]) (vs := [.int .i64 0, .int .i64 0, .int .i64 0, .int .i64 0, .int .i64 0, .int .i64 0, .int .i64 0, .int .i64 0, .int .i64 0, .int .i64 0, .int .i64 0, .int .i64 0]) flat_cursitorlaw10_38 rfl Try.eqGuardType38 rfl rfl rfl rfl (eqL_t (eqV_i c139) (eqL_t (eqV_i c140) (eqL_f (eqV_in c141))))) rfl ?_
                    refine TL.run ft_cursitorlaw10_ok [3] rfl rfl ?_
                    refine TL.no rfl (.gn rfl rfl rfl) rfl ?_
                    refine TL.no rfl (.gn rfl rfl rfl) rfl ?_
                    refine TL.q rfl .u (Ex.pn rfl rfl rfl) rfl ?_
                    refine TL.run ft_cursitorlaw10_ok [7] rfl rfl ?_
                    refine TL.no rfl (.gn rfl rfl rfl) rfl ?_
                    refine TL.no rfl (.gn rfl rfl rfl) rfl ?_
                    refine TL.no rfl (.gn rfl rfl rfl) rfl ?_
                    refine TL.q rfl .u (Ex.pn rfl rfl rfl) rfl ?_
                    refine TL.run ft_cursitorlaw10_ok [12] rfl rfl ?_
                    cases h
                    exact TL.nil (X.jq [0, 0, 0, 0] ⟨rfl, rfl⟩ (by rfl) (by rfl))
                · replace h := ifF c140 h
                  refine TL.q rfl .u (Ex.aEq (us := [.int .i64 x8.fBase, .int .i64 x8.fLength, .int .i64 x8.fLeader, .int .i64 x8.fSum, .int .i64 x8.fAttr, .int .i64 x8.fLast, .int .i64 x8.fFirst, .int .i64 x8.fMax, .int .i64 x8.fProducer, .int .i64 x8.fEpoch, .int .i64 x8.fSequence, .int .i64 x8.fCount]) (vs := [.int .i64 0, .int .i64 0, .int .i64 0, .int .i64 0, .int .i64 0, .int .i64 0, .int .i64 0, .int .i64 0, .int .i64 0, .int .i64 0, .int .i64 0, .int .i64 0]) flat_cursitorlaw10_38 rfl Try.eqGuardType38 rfl rfl rfl rfl (eqL_t (eqV_i c139) (eqL_f (eqV_in c140)))) rfl ?_
                  refine TL.run ft_cursitorlaw10_ok [3] rfl rfl ?_
                  refine TL.no rfl (.gn rfl rfl rfl) rfl ?_
                  refine TL.no rfl (.gn rfl rfl rfl) rfl ?_
                  refine TL.q rfl .u (Ex.pn rfl rfl rfl) rfl ?_
                  refine TL.run ft_cursitorlaw10_ok [7] rfl rfl ?_
                  refine TL.no rfl (.gn rfl rfl rfl) rfl ?_
                  refine TL.no rfl (.gn rfl rfl rfl) rfl ?_
                  refine TL.no rfl (.gn rfl rfl rfl) rfl ?_
                  refine TL.q rfl .u (Ex.pn rfl rfl rfl) rfl ?_
                  refine TL.run ft_cursitorlaw10_ok [12] rfl rfl ?_
                  cases h
                  exact TL.nil (X.jq [0, 0, 0, 0] ⟨rfl, rfl⟩ (by rfl) (by rfl))
              · replace h := ifF c139 h
                refine TL.q rfl .u (Ex.aEq (us := [.int .i64 x8.fBase, .int .i64 x8.fLength, .int .i64 x8.fLeader, .int .i64 x8.fSum, .int .i64 x8.fAttr, .int .i64 x8.fLast, .int .i64 x8.fFirst, .int .i64 x8.fMax, .int .i64 x8.fProducer, .int .i64 x8.fEpoch, .int .i64 x8.fSequence, .int .i64 x8.fCount]) (vs := [.int .i64 0, .int .i64 0, .int .i64 0, .int .i64 0, .int .i64 0, .int .i64 0, .int .i64 0, .int .i64 0, .int .i64 0, .int .i64 0, .int .i64 0, .int .i64 0]) flat_cursitorlaw10_38 rfl Try.eqGuardType38 rfl rfl rfl rfl (eqL_f (eqV_in c139))) rfl ?_
                refine TL.run ft_cursitorlaw10_ok [3] rfl rfl ?_
                refine TL.no rfl (.gn rfl rfl rfl) rfl ?_
                refine TL.no rfl (.gn rfl rfl rfl) rfl ?_
                refine TL.q rfl .u (Ex.pn rfl rfl rfl) rfl ?_
                refine TL.run ft_cursitorlaw10_ok [7] rfl rfl ?_
                refine TL.no rfl (.gn rfl rfl rfl) rfl ?_
                refine TL.no rfl (.gn rfl rfl rfl) rfl ?_
                refine TL.no rfl (.gn rfl rfl rfl) rfl ?_
                refine TL.q rfl .u (Ex.pn rfl rfl rfl) rfl ?_
                refine TL.run ft_cursitorlaw10_ok [12] rfl rfl ?_
                cases h
                exact TL.nil (X.jq [0, 0, 0, 0] ⟨rfl, rfl⟩ (by rfl) (by rfl))
            · rintro _ _ ⟨rfl, rfl⟩
              clear h
              have h := hk138
              clear hk138
              try dsimp only at h
              obtain rfl := Option.some.inj h
              exact X.seq (T.ret (X.rb (X.rs (X.done1 [3] Try.results5 (RV.tm rfl) ⟨rfl, rfl, rfl⟩ (by rfl) (.inl rfl)))))
      · replace h := ifF c23 h
        refine TL.nil (X.seq ?_)
        refine T.yes rfl (bn_t (decide_eq_false c23)) ?_
        exact nomatch h
  · replace h := ifF c3 h
    replace c3 := eq_false_of_ne_true c3
    refine TL.nil (X.seq ?_)
    refine T.yes rfl (bn_t c3) ?_
    exact nomatch h
end Go.Proofs.Ytpiiopppbgpbpaa.Sl
namespace Go.Proofs.Ytpiiopppbgpbpaa.Sl
open Go.RowKit
set_option linter.unusedVariables false
set_option linter.unusedSimpArgs false
theorem l10_speaks : f_l10_speaks = some true := by decide +kernel
def vI (s : List UInt8) (q k : Nat) : Int := beInt ((s.drop q).take k)
def vals (s : List UInt8) : List Nat → Nat → List Int
  | [], _ => []
  | k :: ks, q => vI s q k :: vals s ks (q + k)
theorem pInts_at (s : List UInt8) : ∀ (ks : List Nat) (q : Nat), q + ks.sum ≤ s.length → pInts ks s q = .ok (vals s ks q, q + ks.sum)
  | [], q, _ => rfl
  | k :: ks, q, h => by
    rw [List.sum_cons] at h
    have h1 : pInt k s q = .ok (vI s q k, q + k) := by unfold pInt; rw [if_neg (by omega)]; rfl
    rw [pInts, Pr.bind_of h1, Pr.bind_of (pInts_at s ks (q + k) (by omega)), List.sum_cons, ← Nat.add_assoc]
    rfl
theorem pInts_short (s : List UInt8) : ∀ (ks : List Nat) (q : Nat), q ≤ s.length → s.length < q + ks.sum → pInts ks s q = .error 1
  | [], q, h1, h2 => by rw [List.sum_nil] at h2; omega
  | k :: ks, q, h1, h2 => by
    rw [List.sum_cons] at h2
    rw [pInts]
    by_cases h : s.length < q + k
    · exact Pr.bind_err (by unfold pInt; rw [if_pos h])
    · have h3 : pInt k s q = .ok (vI s q k, q + k) := by unfold pInt; rw [if_neg h]; rfl
      rw [Pr.bind_of h3, Pr.bind_err (pInts_short s ks (q + k) (by omega) (by omega))]
theorem vals_take (s : List UInt8) (n : Nat) : ∀ (ks : List Nat) (q : Nat), q + ks.sum ≤ n → vals (s.take n) ks q = vals s ks q
  | [], _, _ => rfl
  | k :: ks, q, h => by
    rw [List.sum_cons] at h
    unfold vals
    rw [vals_take s n ks (q + k) (by omega)]
    congr 1
    unfold vI
    rw [List.drop_take, List.take_take, Nat.min_eq_left (by omega)]
def pOf (s : List UInt8) : Pfx := ⟨vI s 0 8, vI s 8 4, vI s 12 4, vI s 17 4 % 4294967296, vI s 21 2, vI s 23 4, vI s 27 8, vI s 35 8, vI s 43 8, vI s 51 2, vI s 53 4, vI s 57 4⟩
def eOf (s : List UInt8) : Int := ckE (vI s 8 4) (vI s 16 1) (vI s 57 4)
theorem pPfx_at (s : List UInt8) (h : 61 ≤ s.length) : pPfx s 0 = if eOf s = 0 then .ok (pOf s, 61) else .error (eOf s) := by
  rw [pPfx, Pr.bind_of (pInts_at s KS 0 (by show 0 + 61 ≤ _; omega))]
  show (if eOf s = 0 then Pr.ret (pOf s) else Pr.err (eOf s)) s 61 = _
  by_cases he : eOf s = 0
  · rw [if_pos he, if_pos he]; rfl
  · rw [if_neg he, if_neg he]; rfl
theorem read_at (s : List UInt8) (h : 61 ≤ s.length) (hl : s.length ≤ 1000000) : (eOf s = 0 ∧ f_prefix_Read ⟨s, 0, 0⟩ = some (pOf s, ⟨s.drop 61, 61, 0⟩)) ∨ (eOf s ≠ 0 ∧ ∃ st : I, f_prefix_Read ⟨s, 0, 0⟩ = some (zP, st) ∧ st.err = eOf s) := by
  have h1 := pPfx_at s h
  rcases B_pfx.run s 0 hl (Nat.zero_le _) with ⟨e, st, p1, g1, x1, y1⟩ | ⟨b, r, p1, g1, n1, l1⟩
  · rw [p1] at h1
    by_cases he : eOf s = 0
    · rw [if_pos he] at h1; exact nomatch h1
    · rw [if_neg he] at h1
      injection h1 with h1
      exact .inr ⟨he, st, g1, by rw [x1, h1]⟩
  · rw [p1] at h1
    by_cases he : eOf s = 0
    · rw [if_pos he] at h1
      injection h1 with h1
      obtain ⟨rfl, rfl⟩ := Prod.mk.inj h1
      exact .inl ⟨he, g1⟩
    · rw [if_neg he] at h1; exact nomatch h1
theorem read_short (s : List UInt8) (h : s.length < 61) : ∃ st : I, f_prefix_Read ⟨s, 0, 0⟩ = some (zP, st) ∧ st.err = 1 := by
  have h1 : pPfx s 0 = .error 1 := Pr.bind_err (pInts_short s KS 0 (Nat.zero_le _) (by show _ < 0 + 61; omega))
  rcases B_pfx.run s 0 (by omega) (Nat.zero_le _) with ⟨e, st, p1, g1, x1, y1⟩ | ⟨b, r, p1, g1, n1, l1⟩
  · rw [h1] at p1
    injection p1 with p1
    exact ⟨st, g1, by rw [x1, p1]⟩
  · rw [h1] at p1
    exact nomatch p1
theorem vals_fits (s : List UInt8) (h : 61 ≤ s.length) : okI KS (vals s KS 0) := ((Sp_ints KS KS_ok).spell s 0 _ _ (Nat.zero_le _) (pInts_at s KS 0 (by show 0 + 61 ≤ _; omega))).2.2.2.2
theorem r10_at (s : List UInt8) (a k : Nat) (h : a + k ≤ s.length) (hk : k ≤ 8) (hl : s.length ≤ 1000000) : f_r10_at s (a : Int) (k : Int) = some (vI s a k) := by
  unfold f_r10_at
  rw [if_pos (by omega), if_pos (by omega), show ((a : Int) + (k : Int)).toNat - (a : Int).toNat = k by omega, Int.toNat_natCast, gRInt_eq _ (by rw [List.length_take]; omega)]
  rfl
theorem r10_fields (s : List UInt8) (h : 61 ≤ s.length) (hl : s.length ≤ 1000000) : f_r10_Fields s = some (if eOf s = 0 then (listP (pOf s), 0) else ([], eOf s)) := by
  have hf := (vals_fits s h).2.2.2.2.1
  have hs : fits (vI s 17 4) 4 = true := hf
  rw [fits_4] at hs
  have hs := of_decide_eq_true hs
  have hy : (if vI s 17 4 < 0 then (if -9223372036854775808 ≤ (vI s 17 4 + 4294967296) ∧ (vI s 17 4 + 4294967296) ≤ 9223372036854775807 then some (vI s 17 4 + 4294967296) else none) else some (vI s 17 4)) = some (vI s 17 4 % 4294967296) := by
    by_cases q : vI s 17 4 < 0
    · rw [if_pos q, if_pos (by omega)]; congr 1; omega
    · rw [if_neg q]; congr 1; omega
  unfold f_r10_Fields
  rw [if_neg (by omega)]
  have A := fun (a k : Nat) (h1 : a + k ≤ 61) (h2 : k ≤ 8) => r10_at s a k (by omega) h2 hl
  have a1 := A 17 4 (by decide) (by decide)
  have a2 := A 0 8 (by decide) (by decide)
  have a3 := A 8 4 (by decide) (by decide)
  have a4 := A 12 4 (by decide) (by decide)
  have a5 := A 21 2 (by decide) (by decide)
  have a6 := A 23 4 (by decide) (by decide)
  have a7 := A 27 8 (by decide) (by decide)
  have a8 := A 35 8 (by decide) (by decide)
  have a9 := A 43 8 (by decide) (by decide)
  have a10 := A 51 2 (by decide) (by decide)
  have a11 := A 53 4 (by decide) (by decide)
  have a12 := A 57 4 (by decide) (by decide)
  have a13 := A 16 1 (by decide) (by decide)
  simp only [Int.cast_ofNat_Int] at a1 a2 a3 a4 a5 a6 a7 a8 a9 a10 a11 a12 a13
  rw [a1, Option.bind_some, hy, Option.bind_some, a2, Option.bind_some, a3, Option.bind_some, a4, Option.bind_some, a5, Option.bind_some, a6, Option.bind_some, a7, Option.bind_some, a8, Option.bind_some, a9, Option.bind_some, a10, Option.bind_some, a11, Option.bind_some, a12, Option.bind_some, a13, Option.bind_some]
  unfold eOf ckE
  by_cases h1 : vI s 16 1 = 2
  · rw [if_pos h1, if_pos h1]
    show ((some (vI s 8 4)).bind _) = _
    rw [Option.bind_some]
    by_cases h2 : vI s 8 4 < 49
    · rw [if_pos h2, if_pos h2, if_neg (by decide)]
    · rw [if_neg h2, if_neg h2]
      show ((some (vI s 57 4)).bind _) = _
      rw [Option.bind_some]
      by_cases h3 : vI s 57 4 < 0
      · rw [if_pos h3, if_pos h3, if_neg (by decide)]
      · rw [if_neg h3, if_neg h3, if_pos rfl]
        rfl
  · rw [if_neg h1, if_neg h1, if_neg (by decide)]
theorem pr_l1 (l : List Int) : ∀ (xs : List Int) (y : Bool) (k : Nat), (∀ i, i < xs.length → xs[i]? = l[k + i]?) → f_l10_PrefixReads_l1 l xs y k = some (.go y)
  | [], _, _, _ => by rw [f_l10_PrefixReads_l1]
  | x :: xs, y, k, h => by
    have h1 := h 0 (by simp)
    rw [Nat.add_zero] at h1
    rw [f_l10_PrefixReads_l1, ← h1]
    show ((some x).bind _) = _
    rw [Option.bind_some, if_pos rfl]
    exact pr_l1 l xs y (k + 1) (fun i hi => by
      have := h (i + 1) (by simpa using hi)
      rw [show k + 1 + i = k + (i + 1) by omega, ← this]
      rfl)
theorem peek_at (s : List UInt8) (h : 61 ≤ s.length) (hl : s.length ≤ 1000000) : f_prefix_Peek s = some (if eOf s = 0 then (vI s 8 4 + 12, 0) else (0, eOf s)) := by
  have hv := (vals_fits s h).2.1
  have hb : fits (vI s 8 4) 4 = true := hv
  rw [fits_4] at hb
  have hb := of_decide_eq_true hb
  have ht : (s.take 61).length = 61 := by rw [List.length_take]; omega
  have e0 := vals_take s 61 KS 0 (by decide)
  have e1 : pOf (s.take 61) = pOf s := by
    have := congrArg (fun l : List Int => (l[0]?, l[1]?, l[2]?, l[4]?, l[5]?, l[6]?, l[7]?, l[8]?, l[9]?, l[10]?, l[11]?, l[12]?)) e0
    simp only [vals, KS, List.getElem?_cons_zero, List.getElem?_cons_succ, Prod.mk.injEq, Option.some.injEq, Nat.zero_add, Nat.reduceAdd] at this
    obtain ⟨q1, q2, q3, q4, q5, q6, q7, q8, q9, q10, q11, q12⟩ := this
    unfold pOf
    rw [q1, q2, q3, q4, q5, q6, q7, q8, q9, q10, q11, q12]
  have e2 : eOf (s.take 61) = eOf s := by
    have := congrArg (fun l : List Int => (l[1]?, l[3]?, l[12]?)) e0
    simp only [vals, KS, List.getElem?_cons_zero, List.getElem?_cons_succ, Prod.mk.injEq, Option.some.injEq, Nat.zero_add, Nat.reduceAdd] at this
    obtain ⟨q1, q2, q3⟩ := this
    unfold eOf
    rw [q1, q2, q3]
  unfold f_prefix_Peek
  rw [if_neg (by omega), if_pos h, gNew_eq _ (by rw [ht]; decide), Option.bind_some]
  rcases read_at (s.take 61) (by omega) (by omega) with ⟨r1, r2⟩ | ⟨r1, st, r2, r3⟩
  · rw [r2, Option.bind_some]
    rw [e2] at r1
    dsimp only
    rw [gErr_eq, Option.bind_some]
    dsimp only
    rw [if_pos rfl, e1, if_pos r1]
    show (if -9223372036854775808 ≤ vI s 8 4 + 12 ∧ vI s 8 4 + 12 ≤ 9223372036854775807 then _ else _) = _
    rw [if_pos (by omega)]
    rfl
  · rw [r2, Option.bind_some]
    rw [e2] at r1 r3
    dsimp only
    rw [gErr_eq, Option.bind_some]
    dsimp only
    rw [r3, if_neg r1, if_neg r1]
theorem pure_PrefixReads (a0 : List UInt8) (w0 : a0.length ≤ 140737488351232) : f_l10_PrefixReads a0 = some true := by
  unfold f_l10_PrefixReads
  rw [l10_speaks, Option.bind_some, if_pos rfl]
  by_cases hl : (a0.length : Int) > 500
  · rw [if_pos hl]
  rw [if_neg hl, gNew_eq _ (by omega), Option.bind_some]
  by_cases h : a0.length < 61
  · obtain ⟨st, r1, r2⟩ := read_short a0 h
    have hF : f_r10_Fields a0 = some ([], 1) := by unfold f_r10_Fields; rw [if_pos (by omega)]
    have hK : f_prefix_Peek a0 = some (0, 0) := by unfold f_prefix_Peek; rw [if_pos (by omega)]
    rw [r1, Option.bind_some]
    dsimp only
    rw [hF, Option.bind_some]
    dsimp only
    rw [hK, Option.bind_some]
    dsimp only
    rw [gErr_eq, Option.bind_some]
    dsimp only
    rw [if_pos r2, if_pos (by omega)]
    simp only [zP, if_true, Option.bind_some]
  · have h61 : 61 ≤ a0.length := by omega
    have hb : fits (vI a0 8 4) 4 = true := (vals_fits a0 h61).2.1
    rw [fits_4] at hb
    have hb := of_decide_eq_true hb
    rcases read_at a0 h61 (by omega) with ⟨r1, r2⟩ | ⟨r1, st, r2, r3⟩
    · rw [r2, Option.bind_some]
      dsimp only
      rw [r10_fields a0 h61 (by omega), if_pos r1, Option.bind_some]
      dsimp only
      rw [peek_at a0 h61 (by omega), if_pos r1, Option.bind_some]
      dsimp only
      rw [gErr_eq, Option.bind_some]
      dsimp only
      rw [if_pos rfl, if_neg (by omega), if_pos rfl, show f_l10_list (pOf a0) = some (listP (pOf a0)) from rfl, Option.bind_some, pr_l1 (listP (pOf a0)) (listP (pOf a0)) false 0 (fun i _ => by rw [Nat.zero_add]), Option.bind_some]
      dsimp only
      rw [gAt_eq, Option.bind_some]
      dsimp only
      rw [if_pos rfl, show (listP (pOf a0))[1]? = some (vI a0 8 4) from rfl, Option.bind_some, if_pos (by omega), if_pos rfl, if_pos (by omega)]
      rfl
    · rw [r2, Option.bind_some]
      dsimp only
      rw [r10_fields a0 h61 (by omega), if_neg r1, Option.bind_some]
      dsimp only
      rw [peek_at a0 h61 (by omega), if_neg r1, Option.bind_some]
      dsimp only
      rw [gErr_eq, Option.bind_some]
      dsimp only
      rw [if_pos r3, if_neg (by omega), if_neg r1]
      simp only [zP, if_true, Option.bind_some]
end Go.Proofs.Ytpiiopppbgpbpaa.Sl
namespace Go.Proofs.Ytpiiopppbgpbpaa.prefixReads
open Go.ChangeShapes Go.WideShapes Go.ChangeAt Go.RowKit
open Go.ChangeMaps (open_string shut_string)
set_option linter.unusedVariables false
theorem own : ownKnob Try.prog.godebug = none := by kernel_rfl
set_option maxRecDepth 100000 in
set_option maxHeartbeats 1000000 in
theorem lifted (os : Os) (started : os.Started) (H : Type) (enc : TypeId × Value → H) :
    ReturnsInHanded {} Try.checked os 5 .any (Rows.prefixReadsSpec.pre6 enc Try.prog Try.f5 Rows.prefixReadsRow.domain false) (Rows.prefixReadsSpec.post enc Try.prog Try.f5 false true false false) := by
  refine returnsInHanded_of_change_sized (C := Try.checked) own started (by kernel_rfl) Try.func5
    (ChangeSpec.witness6 (enc := enc) (C := Try.checked) false ⟨#[], #[.string ByteArray.empty], []⟩ 8 (by kernel_rfl) (by kernel_rfl) (by kernel_rfl) (by kernel_rfl)) ?_
  intro W base args ds gs before hval0 hW hcnd hsz0 _
  have hsz : (DataW.weightsEach Try.prog (Try.f5.params.toList ++ Rows.prefixReadsSpec.plain.varTypes Try.prog) (ds ++ gs)).all (· ≤ reachBytes) = true := hsz0
  have hval : ∀ (j : Nat) t v, Try.f5.params[j]? = some t → args[j]? = some v → Value.okWide Try.prog W .any base t v := hval0
  have hW' := hW
  obtain ⟨p, q, hA0, hV, rfl, hfz, hnd⟩ := hW
  have hA : DataW.TrodAll enc Try.prog W 0 (fun _ => true) true Try.f5.params.toList args.toList ds p := hA0
  rw [Try.params5] at hA hval hsz
  obtain ⟨v0, vs0, d0, ds0, p0, q0, hargs, rfl, rfl, h0, r0⟩ := trodAll_cons hA
  obtain ⟨rfl, rfl, rfl⟩ := trodAll_nil r0
  obtain rfl : args = #[v0] := by cases args; simp_all
  obtain ⟨rfl, rfl⟩ := trodVars_none hV
  obtain ⟨s0, rfl, rfl, rfl, y0⟩ := open_string Try.underlying9 (hval 0 9 v0 rfl rfl) h0
  have z0 : s0.size ≤ 140737488351232 := by
    have z := sized_string hsz (j := 0) (t := 9) rfl rfl
    rw [Array.length_toList] at z
    exact z
  obtain ⟨a0, rfl⟩ := Sl.bsOf_of s0
  have w0 : a0.length ≤ 140737488351232 := by rwa [Sl.bsOf_size] at z0
  clear hA0 hval0 hsz0 hsz
  refine (Sl.f_l10_PrefixReads_spec a0 true (Sl.pure_PrefixReads a0 w0) (fun _ => False) W (fun _ h => h) (Sl.RX.reads_triv _ _)).mono fun e W' hP => ?_
  obtain ⟨v, A', Ns, rfl, ⟨rfl, rfl, rfl⟩, hst⟩ := hP
  have bel := Sl.St.below hst
  exact ⟨_, rfl, _, _, _, [], _, [], hW', trodAll_mk1 (shut_bool Try.underlying4 _), (trodAll_cons_mk (shut_string Try.underlying9 y0) trodAll_mk0), rfl, bel.frame _, fun h => by cases h⟩
theorem over : Rows.prefixReadsRow.holds Try.pinned (OpenSpec.ofChange Rows.prefixReadsSpec) :=
  OpenClaim.holds_of_wide 5 Try.f5 rfl rfl rfl rfl rfl rfl rfl ⟨rfl, rfl, rfl, rfl, rfl⟩ rfl rfl rfl rfl rfl (by kernel_rfl) Try.func5 (by kernel_rfl)
    (of_decide_eq_true (by kernel_rfl)) (by unfold Func.isWrapper; first | (rw [if_pos (by decide +kernel)]; kernel_rfl) | (rw [if_neg (by decide +kernel)]; exact ⟨rfl, rfl⟩))
    (fun os started H enc _ => lifted os started H enc)
theorem proved : Rows.PrefixReadsSaid := over
end Go.Proofs.Ytpiiopppbgpbpaa.prefixReads
namespace Go.Proofs.Ytpiiopppbgpbpaa
theorem prefixReads_holds : Rows.PrefixReadsSaid := prefixReads.proved
end Go.Proofs.Ytpiiopppbgpbpaa
