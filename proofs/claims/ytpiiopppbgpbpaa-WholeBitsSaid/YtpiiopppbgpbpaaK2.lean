/- WholeBits: for every input the law returns true, and its arguments read behind the call as they did before. -/
import Derived.OpenShut
import Derived.Test.YtpiiopppbgpbpaaRows
import Derived.WalkKit
import Derived.ProofKit
import Derived.ShutString
import Derived.ChangeOld
import Derived.Below
import Derived.SizedLaws
import Derived.Test.YtpiiopppbgpbpaaK1
namespace Go.Proofs.Ytpiiopppbgpbpaa.Sl
open Go.RowKit
set_option linter.unusedVariables false
set_option linter.unusedSimpArgs false
set_option maxRecDepth 100000
def ft_cursitortop : FTab := [(38, 1, 1), (38, 4, 4), (38, 11, 11), (64, 0, 0), (64, 1, 1)]
theorem ft_cursitortop_ok : (ft_cursitortop).OK Try.prog := ⟨FOK.mk Try.runUnderlying38 rfl Try.sizeOf3 rfl, FOK.mk Try.runUnderlying38 rfl Try.sizeOf3 rfl, FOK.mk Try.runUnderlying38 rfl Try.sizeOf3 rfl, FOK.mk Try.runUnderlying64 rfl Try.sizeOf3 rfl, FOK.mk Try.runUnderlying64 rfl Try.sizeOf3 rfl, trivial⟩
theorem flat_cursitortop_38 : Flat Try.prog 2 38 [.int .i64, .int .i64, .int .i64, .int .i64, .int .i64, .int .i64, .int .i64, .int .i64, .int .i64, .int .i64, .int .i64, .int .i64] true := (Flat.struct Try.isAgg38 Try.sizeOf38 rfl Try.underlying38 Try.stoodInHeld38 ⟨by decide, rfl, [.int .i64], [.int .i64, .int .i64, .int .i64, .int .i64, .int .i64, .int .i64, .int .i64, .int .i64, .int .i64, .int .i64, .int .i64], false, rfl, (Flat.one_ Try.isAgg3 Try.sizeOf3 Try.underlying3), ⟨by decide, rfl, [.int .i64], [.int .i64, .int .i64, .int .i64, .int .i64, .int .i64, .int .i64, .int .i64, .int .i64, .int .i64, .int .i64], false, rfl, (Flat.one_ Try.isAgg3 Try.sizeOf3 Try.underlying3), ⟨by decide, rfl, [.int .i64], [.int .i64, .int .i64, .int .i64, .int .i64, .int .i64, .int .i64, .int .i64, .int .i64, .int .i64], false, rfl, (Flat.one_ Try.isAgg3 Try.sizeOf3 Try.underlying3), ⟨by decide, rfl, [.int .i64], [.int .i64, .int .i64, .int .i64, .int .i64, .int .i64, .int .i64, .int .i64, .int .i64], false, rfl, (Flat.one_ Try.isAgg3 Try.sizeOf3 Try.underlying3), ⟨by decide, rfl, [.int .i64], [.int .i64, .int .i64, .int .i64, .int .i64, .int .i64, .int .i64, .int .i64], false, rfl, (Flat.one_ Try.isAgg3 Try.sizeOf3 Try.underlying3), ⟨by decide, rfl, [.int .i64], [.int .i64, .int .i64, .int .i64, .int .i64, .int .i64, .int .i64], false, rfl, (Flat.one_ Try.isAgg3 Try.sizeOf3 Try.underlying3), ⟨by decide, rfl, [.int .i64], [.int .i64, .int .i64, .int .i64, .int .i64, .int .i64], false, rfl, (Flat.one_ Try.isAgg3 Try.sizeOf3 Try.underlying3), ⟨by decide, rfl, [.int .i64], [.int .i64, .int .i64, .int .i64, .int .i64], false, rfl, (Flat.one_ Try.isAgg3 Try.sizeOf3 Try.underlying3), ⟨by decide, rfl, [.int .i64], [.int .i64, .int .i64, .int .i64], false, rfl, (Flat.one_ Try.isAgg3 Try.sizeOf3 Try.underlying3), ⟨by decide, rfl, [.int .i64], [.int .i64, .int .i64], false, rfl, (Flat.one_ Try.isAgg3 Try.sizeOf3 Try.underlying3), ⟨by decide, rfl, [.int .i64], [.int .i64], false, rfl, (Flat.one_ Try.isAgg3 Try.sizeOf3 Try.underlying3), ⟨by decide, rfl, [.int .i64], [], false, rfl, (Flat.one_ Try.isAgg3 Try.sizeOf3 Try.underlying3), rfl⟩⟩⟩⟩⟩⟩⟩⟩⟩⟩⟩⟩)
theorem bok_cursitortop_116 : BOK Try.prog 116 #[.int .i64 0, .int .i64 0, .bool false, .bool false, .bool false, .int .i64 0, .int .i64 0, .int .i64 0, .int .i64 0, .int .i64 0, .int .i64 0, .slice none 0 0] [(0, 1), (1, 1), (2, 1), (3, 1), (4, 1), (5, 1), (6, 1), (7, 1), (8, 1), (9, 1), (10, 1), (11, 1)] := BOK.mk Try.zeroValue116 Try.runUnderlying116 (by intro w; simp)
def f_top_WholeBits (a0 : Bool × Bool × Bool) (a1 : Pfx) (a2 : Int) : Option (Bool) := ((gAOf (⟨0, 0, true, false, false, 0, 0, 0, 0, 0, 0, []⟩ : Bat)).bind fun x8 => if x8 = 8 then some false else some true).bind fun y6 => if y6 = true then none else ((gAOf (⟨0, 0, a0.1, a0.2.1, a0.2.2, 0, 0, 0, 0, 0, 0, []⟩ : Bat)).bind fun x12 => (f_prefix_Write ([], 0) (⟨a1.fBase, a1.fLength, a1.fLeader, a1.fSum, x12, a1.fLast, a1.fFirst, a1.fMax, a1.fProducer, a1.fEpoch, a1.fSequence, a1.fCount⟩ : Pfx)).bind fun st15 => (gOText st15).bind fun (x17, x18, st19) => (if x18 = 0 then (if a1.fLength < 49 then some true else (if a1.fCount < 0 then some true else some false)) else some true).bind fun y23 => if y23 = true then some true else ((gNew x17).bind fun st29 => (f_prefix_Read st29).bind fun (x32, st33) => (gARead x32.fAttr).bind fun (x36, x37, x38) => ((bsI x17)[21]?).bind fun x42 => (((bsI x17).set 21 (IntKind.u8.wrap (shrK .u16 a2 8)))[22]?).bind fun x44 => (gNew (toBs (((bsI x17).set 21 (IntKind.u8.wrap (shrK .u16 a2 8))).set 22 (IntKind.u8.wrap a2)))).bind fun st46 => (f_prefix_Read st46).bind fun (x49, st50) => (f_prefix_Peek (toBs (((bsI x17).set 21 (IntKind.u8.wrap (shrK .u16 a2 8))).set 22 (IntKind.u8.wrap a2)))).bind fun (x53, x54) => (if x32.fBase = a1.fBase then (if x32.fLength = a1.fLength then (if x32.fLeader = a1.fLeader then (if x32.fSum = a1.fSum then (if x32.fAttr = x12 then (if x32.fLast = a1.fLast then (if x32.fFirst = a1.fFirst then (if x32.fMax = a1.fMax then (if x32.fProducer = a1.fProducer then (if x32.fEpoch = a1.fEpoch then (if x32.fSequence = a1.fSequence then (if x32.fCount = a1.fCount then (if x36 = true then (if a0.1 = true then (if x37 = true then (if a0.2.1 = true then (if x38 = true then (if a0.2.2 = true then (if -9223372036854775808 ≤ (a1.fLength + 12) ∧ (a1.fLength + 12) ≤ 9223372036854775807 then (if x53 = (a1.fLength + 12) then (if x54 = 0 then (if -9223372036854775808 ≤ (IntKind.i16.wrap a2) ∧ (IntKind.i16.wrap a2) ≤ 9223372036854775807 then (if x49.fAttr = (IntKind.i16.wrap a2) then some false else some true) else none) else some true) else some true) else none) else some true) else (if a0.2.2 = true then some true else (if -9223372036854775808 ≤ (a1.fLength + 12) ∧ (a1.fLength + 12) ≤ 9223372036854775807 then (if x53 = (a1.fLength + 12) then (if x54 = 0 then (if -9223372036854775808 ≤ (IntKind.i16.wrap a2) ∧ (IntKind.i16.wrap a2) ≤ 9223372036854775807 then (if x49.fAttr = (IntKind.i16.wrap a2) then some false else some true) else none) else some true) else some true) else none))) else some true) else (if a0.2.1 = true then some true else (if x38 = true then (if a0.2.2 = true then (if -9223372036854775808 ≤ (a1.fLength + 12) ∧ (a1.fLength + 12) ≤ 9223372036854775807 then (if x53 = (a1.fLength + 12) then (if x54 = 0 then (if -9223372036854775808 ≤ (IntKind.i16.wrap a2) ∧ (IntKind.i16.wrap a2) ≤ 9223372036854775807 then (if x49.fAttr = (IntKind.i16.wrap a2) then some false else some true) else none) else some true) else some true) else none) else some true) else (if a0.2.2 = true then some true else (if -9223372036854775808 ≤ (a1.fLength + 12) ∧ (a1.fLength + 12) ≤ 9223372036854775807 then (if x53 = (a1.fLength + 12) then (if x54 = 0 then (if -9223372036854775808 ≤ (IntKind.i16.wrap a2) ∧ (IntKind.i16.wrap a2) ≤ 9223372036854775807 then (if x49.fAttr = (IntKind.i16.wrap a2) then some false else some true) else none) else some true) else some true) else none))))) else some true) else (if a0.1 = true then some true else (if x37 = true then (if a0.2.1 = true then (if x38 = true then (if a0.2.2 = true then (if -9223372036854775808 ≤ (a1.fLength + 12) ∧ (a1.fLength + 12) ≤ 9223372036854775807 then (if x53 = (a1.fLength + 12) then (if x54 = 0 then (if -9223372036854775808 ≤ (IntKind.i16.wrap a2) ∧ (IntKind.i16.wrap a2) ≤ 9223372036854775807 then (if x49.fAttr = (IntKind.i16.wrap a2) then some false else some true) else none) else some true) else some true) else none) else some true) else (if a0.2.2 = true then some true else (if -9223372036854775808 ≤ (a1.fLength + 12) ∧ (a1.fLength + 12) ≤ 9223372036854775807 then (if x53 = (a1.fLength + 12) then (if x54 = 0 then (if -9223372036854775808 ≤ (IntKind.i16.wrap a2) ∧ (IntKind.i16.wrap a2) ≤ 9223372036854775807 then (if x49.fAttr = (IntKind.i16.wrap a2) then some false else some true) else none) else some true) else some true) else none))) else some true) else (if a0.2.1 = true then some true else (if x38 = true then (if a0.2.2 = true then (if -9223372036854775808 ≤ (a1.fLength + 12) ∧ (a1.fLength + 12) ≤ 9223372036854775807 then (if x53 = (a1.fLength + 12) then (if x54 = 0 then (if -9223372036854775808 ≤ (IntKind.i16.wrap a2) ∧ (IntKind.i16.wrap a2) ≤ 9223372036854775807 then (if x49.fAttr = (IntKind.i16.wrap a2) then some false else some true) else none) else some true) else some true) else none) else some true) else (if a0.2.2 = true then some true else (if -9223372036854775808 ≤ (a1.fLength + 12) ∧ (a1.fLength + 12) ≤ 9223372036854775807 then (if x53 = (a1.fLength + 12) then (if x54 = 0 then (if -9223372036854775808 ≤ (IntKind.i16.wrap a2) ∧ (IntKind.i16.wrap a2) ≤ 9223372036854775807 then (if x49.fAttr = (IntKind.i16.wrap a2) then some false else some true) else none) else some true) else some true) else none))))))) else some true) else some true) else some true) else some true) else some true) else some true) else some true) else some true) else some true) else some true) else some true) else some true).bind fun y121 => if y121 = true then none else (if x49.fBase = a1.fBase then (if x49.fLength = a1.fLength then (if x49.fLeader = a1.fLeader then (if x49.fSum = a1.fSum then (if x49.fLast = a1.fLast then (if x49.fFirst = a1.fFirst then (if x49.fMax = a1.fMax then (if x49.fProducer = a1.fProducer then (if x49.fEpoch = a1.fEpoch then (if x49.fSequence = a1.fSequence then (if x49.fCount = a1.fCount then some true else none) else none) else none) else none) else none) else none) else none) else none) else none) else none) else none)))
set_option maxRecDepth 100000 in
set_option maxHeartbeats 4000000 in
theorem f_top_WholeBits_spec (a0 : Bool × Bool × Bool) (a1 : Pfx) (a2 : Int) (r : Bool) (h : f_top_WholeBits a0 a1 a2 = some r) : SpecX Try.prog 14 #[.agg #[.bool a0.1, .bool a0.2.1, .bool a0.2.2], .agg #[.int .i64 a1.fBase, .int .i64 a1.fLength, .int .i64 a1.fLeader, .int .i64 a1.fSum, .int .i64 a1.fAttr, .int .i64 a1.fLast, .int .i64 a1.fFirst, .int .i64 a1.fMax, .int .i64 a1.fProducer, .int .i64 a1.fEpoch, .int .i64 a1.fSequence, .int .i64 a1.fCount], .int .u16 a2] .triv (EmpR) (fun v A' N => v = .bool r ∧ A' = EmpR ∧ N = []) := by
  refine enterA Try.func14 rfl Try.ntmps14 rfl ?_
  intro F w hX
  unfold f_top_WholeBits at h
  refine T.seq (T.region rfl ?_)
  refine TL.box rfl .u rfl rfl (fun b1 => ?_)
  refine TL.box rfl .u rfl rfl (fun b2 => ?_)
  refine TL.run ft_cursitortop_ok [2] rfl rfl ?_
  refine TL.nil (X.seq (T.seq (T.seq ?_)))
  obtain ⟨y6, h, hk7⟩ := Option.bind_eq_some_iff.1 h
  refine T.jq (fun e Rs => e = [(2, .int .u16 a2), (3, .pointer (some ⟨b1, 0, none⟩)), (4, .pointer (some ⟨b2, 0, none⟩)), (6, .bool false), (22, .bool y6)] ∧ Rs = [BlkR b2 38 #[.int .i64 a1.fBase, .int .i64 a1.fLength, .int .i64 a1.fLeader, .int .i64 a1.fSum, .int .i64 a1.fAttr, .int .i64 a1.fLast, .int .i64 a1.fFirst, .int .i64 a1.fMax, .int .i64 a1.fProducer, .int .i64 a1.fEpoch, .int .i64 a1.fSequence, .int .i64 a1.fCount], BlkR b1 112 #[.bool a0.1, .bool a0.2.1, .bool a0.2.2], EmpR]) ?_ ?_
  · clear hk7
    refine T.region rfl ?_
    refine TL.q rfl .u (Ex.bld (cells := #[.int .i64 0, .int .i64 0, .bool true, .bool false, .bool false, .int .i64 0, .int .i64 0, .int .i64 0, .int .i64 0, .int .i64 0, .int .i64 0, .slice none 0 0]) bok_cursitortop_116 rfl (by kernel_rfl)) rfl ?_
    obtain ⟨x8, hx9, h⟩ := Option.bind_eq_some_iff.1 h
    refine TL.ce rfl .u (.fn Try.call72 rfl) (gAOf_spec (⟨0, 0, true, false, false, 0, 0, 0, 0, 0, 0, []⟩ : Bat) _ _ _ hx9) (fun _ hs => slice_nil_reads) rfl ?_
    by_cases c10 : x8 = 8
    · replace h := ifT c10 h
      refine TL.run ft_cursitortop_ok [2, 3] rfl rfl ?_
      refine TL.q rfl .u (Ex.pn rfl (bn_f (decide_eq_true c10)) rfl) rfl ?_
      cases h
      exact TL.nil (X.jq [0, 0, 0] ⟨rfl, rfl⟩ (by rfl) (by rfl))
    · replace h := ifF c10 h
      refine TL.run ft_cursitortop_ok [2, 3] rfl rfl ?_
      refine TL.q rfl .u (Ex.py rfl (bn_t (decide_eq_false c10)) rfl) rfl ?_
      cases h
      exact TL.nil (X.jq [0, 0, 0] ⟨rfl, rfl⟩ (by rfl) (by rfl))
  · rintro _ _ ⟨rfl, rfl⟩
    clear h
    have h := hk7
    clear hk7
    try dsimp only at h
    by_cases c11 : y6 = true
    · replace h := ifT c11 h
      refine X.seq ?_
      refine T.yes rfl c11 ?_
      exact nomatch h
    · replace h := ifF c11 h
      replace c11 := eq_false_of_ne_true c11
      refine X.seq ?_
      refine T.no rfl c11 ?_
      refine T.skip (X.seq (T.seq (T.region rfl ?_)))
      refine TL.q rfl .u (Ex.ixP (k := 0) rfl rfl rfl Try.runUnderlying112 Try.sizeOf4 (by decide)) rfl ?_
      refine TL.q rfl .u (Ex.b1 1 rfl Try.isAgg4 rfl rfl) rfl ?_
      refine TL.q rfl .u (Ex.ixP (k := 1) rfl rfl rfl Try.runUnderlying112 Try.sizeOf4 (by decide)) rfl ?_
      refine TL.q rfl .u (Ex.b1 1 rfl Try.isAgg4 rfl rfl) rfl ?_
      refine TL.q rfl .u (Ex.ixP (k := 2) rfl rfl rfl Try.runUnderlying112 Try.sizeOf4 (by decide)) rfl ?_
      refine TL.q rfl .u (Ex.b1 1 rfl Try.isAgg4 rfl rfl) rfl ?_
      refine TL.q rfl .u (Ex.bld (cells := #[.int .i64 0, .int .i64 0, .bool a0.1, .bool a0.2.1, .bool a0.2.2, .int .i64 0, .int .i64 0, .int .i64 0, .int .i64 0, .int .i64 0, .int .i64 0, .slice none 0 0]) bok_cursitortop_116 rfl (by kernel_rfl)) rfl ?_
      obtain ⟨x12, hx13, h⟩ := Option.bind_eq_some_iff.1 h
      refine TL.ce rfl .u (.fn Try.call72 rfl) (gAOf_spec (⟨0, 0, a0.1, a0.2.1, a0.2.2, 0, 0, 0, 0, 0, 0, []⟩ : Bat) _ _ _ hx13) (fun _ hs => slice_nil_reads) rfl ?_
      refine TL.run ft_cursitortop_ok [8] rfl rfl ?_
      refine TL.st0 (cs' := #[.int .i64 a1.fBase, .int .i64 a1.fLength, .int .i64 a1.fLeader, .int .i64 a1.fSum, .int .i64 x12, .int .i64 a1.fLast, .int .i64 a1.fFirst, .int .i64 a1.fMax, .int .i64 a1.fProducer, .int .i64 a1.fEpoch, .int .i64 a1.fSequence, .int .i64 a1.fCount]) rfl .u rfl rfl Try.sizeOf3 rfl rfl rfl rfl ?_
      refine TL.nil (X.seq (T.seq (T.region rfl ?_)))
      refine TL.newout rfl .u Try.zeroValue42 rfl (fun b14 => ?_)
      refine TL.nil (X.seq (T.seq (T.region rfl ?_)))
      refine TL.q rfl .u (Ex.bS (us := [.int .i64 a1.fBase, .int .i64 a1.fLength, .int .i64 a1.fLeader, .int .i64 a1.fSum, .int .i64 x12, .int .i64 a1.fLast, .int .i64 a1.fFirst, .int .i64 a1.fMax, .int .i64 a1.fProducer, .int .i64 a1.fEpoch, .int .i64 a1.fSequence, .int .i64 a1.fCount]) 1 rfl Try.isAgg38 Try.sizeOf38 rfl rfl rfl) rfl ?_
      obtain ⟨st15, hx16, h⟩ := Option.bind_eq_some_iff.1 h
      refine TL.c0 rfl .u (.fn Try.call23 rfl) (f_prefix_Write_spec b14 ([], 0) (⟨a1.fBase, a1.fLength, a1.fLeader, a1.fSum, x12, a1.fLast, a1.fFirst, a1.fMax, a1.fProducer, a1.fEpoch, a1.fSequence, a1.fCount⟩ : Pfx) _ hx16) (fun _ hs => (Src.triv _)) rfl ?_
      obtain ⟨⟨x17, x18, st19⟩, hx20, h⟩ := Option.bind_eq_some_iff.1 h
      try dsimp only at h
      refine TL.nil (X.seq (T.seq (T.region rfl ?_)))
      refine TL.c0 rfl .u (.fn Try.call24 rfl) (gOText_spec b14 st15 _ hx20) (fun _ hs => (Src.triv _)) rfl ?_
      refine TL.run ft_cursitortop_ok [1, 2, 3, 4, 5] rfl rfl ?_
      refine TL.nil (X.seq (T.seq (T.seq ?_)))
      obtain ⟨y23, h, hk24⟩ := Option.bind_eq_some_iff.1 h
      refine T.jq (fun e Rs => e = [(2, .int .u16 a2), (3, .pointer (some ⟨b1, 0, none⟩)), (4, .pointer (some ⟨b2, 0, none⟩)), (6, .bool false), (8, .string (bsOf x17)), (49, .bool y23)] ∧ Rs = [OutR b14 st19, BlkR b2 38 #[.int .i64 a1.fBase, .int .i64 a1.fLength, .int .i64 a1.fLeader, .int .i64 a1.fSum, .int .i64 x12, .int .i64 a1.fLast, .int .i64 a1.fFirst, .int .i64 a1.fMax, .int .i64 a1.fProducer, .int .i64 a1.fEpoch, .int .i64 a1.fSequence, .int .i64 a1.fCount], BlkR b1 112 #[.bool a0.1, .bool a0.2.1, .bool a0.2.2], EmpR]) ?_ ?_
      · clear hk24
        refine T.region rfl ?_
        by_cases c25 : x18 = 0
        · replace h := ifT c25 h
          refine TL.run ft_cursitortop_ok [0, 1, 2] rfl rfl ?_
          refine TL.q rfl (.g rfl rfl (bn_f (decide_eq_true c25))) (Ex.ft ft_cursitortop_ok rfl) rfl ?_
          refine TL.q rfl (.g rfl rfl (bn_f (decide_eq_true c25))) (Ex.b1 1 rfl Try.isAgg3 rfl rfl) rfl ?_
          refine TL.q rfl (.g rfl rfl (bn_f (decide_eq_true c25))) (Ex.ft ft_cursitortop_ok rfl) rfl ?_
          refine TL.q rfl .u (Ex.pn rfl (bn_f (decide_eq_true c25)) rfl) rfl ?_
          by_cases c26 : a1.fLength < 49
          · replace h := ifT c26 h
            refine TL.run ft_cursitortop_ok [7] rfl rfl ?_
            refine TL.no rfl (.gn rfl rfl (decide_eq_true c26)) rfl ?_
            refine TL.no rfl (.gn rfl rfl (decide_eq_true c26)) rfl ?_
            refine TL.no rfl (.gn rfl rfl (decide_eq_true c26)) rfl ?_
            refine TL.q rfl .u (Ex.py rfl (decide_eq_true c26) rfl) rfl ?_
            cases h
            exact TL.nil (X.jq [0, 0, 0, 0] ⟨rfl, rfl⟩ (by rfl) (by rfl))
          · replace h := ifF c26 h
            refine TL.run ft_cursitortop_ok [7] rfl rfl ?_
            refine TL.q rfl (.g rfl rfl (decide_eq_false c26)) (Ex.ft ft_cursitortop_ok rfl) rfl ?_
            refine TL.q rfl (.g rfl rfl (decide_eq_false c26)) (Ex.b1 1 rfl Try.isAgg3 rfl rfl) rfl ?_
            refine TL.q rfl (.g rfl rfl (decide_eq_false c26)) (Ex.ft ft_cursitortop_ok rfl) rfl ?_
            refine TL.q rfl .u (Ex.pn rfl (decide_eq_false c26) rfl) rfl ?_
            by_cases c27 : a1.fCount < 0
            · replace h := ifT c27 h
              cases h
              exact TL.nil (X.as (d := 49) (v' := .bool true) rfl (congrArg Value.bool (decide_eq_true c27)) (X.jq [0, 0, 0, 0] ⟨rfl, rfl⟩ (by rfl) (by rfl)))
            · replace h := ifF c27 h
              cases h
              exact TL.nil (X.as (d := 49) (v' := .bool false) rfl (congrArg Value.bool (decide_eq_false c27)) (X.jq [0, 0, 0, 0] ⟨rfl, rfl⟩ (by rfl) (by rfl)))
        · replace h := ifF c25 h
          refine TL.run ft_cursitortop_ok [0, 1, 2] rfl rfl ?_
          refine TL.no rfl (.gn rfl rfl (bn_t (decide_eq_false c25))) rfl ?_
          refine TL.no rfl (.gn rfl rfl (bn_t (decide_eq_false c25))) rfl ?_
          refine TL.no rfl (.gn rfl rfl (bn_t (decide_eq_false c25))) rfl ?_
          refine TL.q rfl .u (Ex.py rfl (bn_t (decide_eq_false c25)) rfl) rfl ?_
          refine TL.run ft_cursitortop_ok [7] rfl rfl ?_
          refine TL.no rfl (.gn rfl rfl rfl) rfl ?_
          refine TL.no rfl (.gn rfl rfl rfl) rfl ?_
          refine TL.no rfl (.gn rfl rfl rfl) rfl ?_
          refine TL.q rfl .u (Ex.py rfl rfl rfl) rfl ?_
          cases h
          exact TL.nil (X.jq [0, 0, 0, 0] ⟨rfl, rfl⟩ (by rfl) (by rfl))
      · rintro _ _ ⟨rfl, rfl⟩
        clear h
        have h := hk24
        clear hk24
        try dsimp only at h
        by_cases c28 : y23 = true
        · replace h := ifT c28 h
          refine X.seq ?_
          refine T.yes rfl c28 ?_
          refine T.seq (T.region rfl ?_)
          refine TL.run ft_cursitortop_ok [0] rfl rfl ?_
          obtain rfl := Option.some.inj h
          exact TL.nil (X.seq (T.ret (X.rs (X.done1 [3] Try.results14 (RV.tm rfl) ⟨rfl, rfl, rfl⟩ (by rfl) (.inl rfl)))))
        · replace h := ifF c28 h
          replace c28 := eq_false_of_ne_true c28
          refine X.seq ?_
          refine T.no rfl c28 ?_
          refine T.skip (X.seq (T.seq (T.region rfl ?_)))
          obtain ⟨st29, hx30, h⟩ := Option.bind_eq_some_iff.1 h
          refine TL.run ft_cursitortop_ok [0] rfl rfl ?_
          refine TL.cge rfl .u (.fn Try.call27 rfl) (gNew_spec x17 _ hx30) (fun _ hs => (RX.reads_triv _ _)) rfl ?_
          rintro _ _ _ ⟨b31, rfl, rfl, rfl⟩
          refine TL.sel [0, 0, 0, 0, 0] rfl ?_
          obtain ⟨⟨x32, st33⟩, hx34, h⟩ := Option.bind_eq_some_iff.1 h
          try dsimp only at h
          refine TL.c0 rfl .u (.fn Try.call28 rfl) (f_prefix_Read_spec b31 st29 _ hx34) (fun _ hs => (Src.triv _)) rfl ?_
          refine TL.alloc rfl .u Try.zeroValue38 rfl (fun b35 => ?_)
          refine TL.st0 (cs' := #[.int .i64 x32.fBase, .int .i64 x32.fLength, .int .i64 x32.fLeader, .int .i64 x32.fSum, .int .i64 x32.fAttr, .int .i64 x32.fLast, .int .i64 x32.fFirst, .int .i64 x32.fMax, .int .i64 x32.fProducer, .int .i64 x32.fEpoch, .int .i64 x32.fSequence, .int .i64 x32.fCount]) rfl .u rfl rfl Try.sizeOf38 rfl rfl rfl rfl ?_
          refine TL.nil (X.seq (T.seq (T.region rfl ?_)))
          refine TL.run ft_cursitortop_ok [0] rfl rfl ?_
          refine TL.q rfl .u (Ex.b1 0 rfl Try.isAgg3 rfl rfl) rfl ?_
          obtain ⟨⟨x36, x37, x38⟩, hx39, h⟩ := Option.bind_eq_some_iff.1 h
          try dsimp only at h
          refine TL.ce rfl .u (.fn Try.call73 rfl) (SpecX.pure (fun w => gARead_spec x32.fAttr _ hx39 w)) (fun _ _ => RX.reads_triv _ _) rfl ?_
          refine TL.run ft_cursitortop_ok [3, 4, 5, 6, 7, 8, 9] rfl rfl ?_
          refine TL.nil (X.seq (T.seq (T.region rfl ?_)))
          refine TL.run ft_cursitortop_ok [0] rfl rfl ?_
          refine TL.toBs rfl .u rfl Try.underlying9 Try.underlying39 Try.underlying5 rfl (fun b40 c41 => ?_)
          refine TL.run ft_cursitortop_ok [2] rfl rfl ?_
          refine TL.nil (X.seq (T.seq (T.region rfl ?_)))
          refine TL.run ft_cursitortop_ok [0, 1, 2] rfl rfl ?_
          refine TL.q rfl .u (Ex.shr rfl rfl (by decide)) rfl ?_
          refine TL.q rfl .u (Ex.conv rfl Try.runUnderlying79 Try.runUnderlying5) rfl ?_
          refine TL.run ft_cursitortop_ok [5] rfl rfl ?_
          refine TL.q rfl .u (Ex.conv rfl Try.runUnderlying79 Try.runUnderlying5) rfl ?_
          obtain ⟨x42, hx43, h⟩ := Option.bind_eq_some_iff.1 h
          refine TL.q rfl .u (Ex.bsIx (xs := (bsI x17)) (k := 21) rfl rfl rfl Try.runUnderlying39 Try.sizeOf5 hx43 rfl) rfl ?_
          refine TL.bsSt (k := 21) 0 rfl .u rfl rfl Try.sizeOf5 rfl hx43 ?_
          refine TL.sel [0, 0, 0, 0, 0, 0, 0] rfl ?_
          refine TL.as (d := 14) (v' := .slice (some ⟨b40, 0, none⟩) ((bsI x17).set 21 (IntKind.u8.wrap (shrK .u16 a2 8))).length c41) rfl (congrArg (fun m => Value.slice (some ⟨b40, 0, none⟩) m c41) (List.length_set ..).symm) ?_
          refine TL.as (d := 61) (v' := .slice (some ⟨b40, 0, none⟩) ((bsI x17).set 21 (IntKind.u8.wrap (shrK .u16 a2 8))).length c41) rfl (congrArg (fun m => Value.slice (some ⟨b40, 0, none⟩) m c41) (List.length_set ..).symm) ?_
          refine TL.as (d := 62) (v' := .slice (some ⟨b40, 0, none⟩) ((bsI x17).set 21 (IntKind.u8.wrap (shrK .u16 a2 8))).length c41) rfl (congrArg (fun m => Value.slice (some ⟨b40, 0, none⟩) m c41) (List.length_set ..).symm) ?_
          refine TL.as (d := 63) (v' := .slice (some ⟨b40, 0, none⟩) ((bsI x17).set 21 (IntKind.u8.wrap (shrK .u16 a2 8))).length c41) rfl (congrArg (fun m => Value.slice (some ⟨b40, 0, none⟩) m c41) (List.length_set ..).symm) ?_
          obtain ⟨x44, hx45, h⟩ := Option.bind_eq_some_iff.1 h
          refine TL.q rfl .u (Ex.bsIx (xs := ((bsI x17).set 21 (IntKind.u8.wrap (shrK .u16 a2 8)))) (k := 22) rfl rfl rfl Try.runUnderlying39 Try.sizeOf5 hx45 rfl) rfl ?_
          refine TL.bsSt (k := 22) 0 rfl .u rfl rfl Try.sizeOf5 rfl hx45 ?_
          refine TL.sel [0, 0, 0, 0, 0, 0, 0] rfl ?_
          refine TL.as (d := 14) (v' := .slice (some ⟨b40, 0, none⟩) (((bsI x17).set 21 (IntKind.u8.wrap (shrK .u16 a2 8))).set 22 (IntKind.u8.wrap a2)).length c41) rfl (congrArg (fun m => Value.slice (some ⟨b40, 0, none⟩) m c41) (List.length_set ..).symm) ?_
          refine TL.as (d := 61) (v' := .slice (some ⟨b40, 0, none⟩) (((bsI x17).set 21 (IntKind.u8.wrap (shrK .u16 a2 8))).set 22 (IntKind.u8.wrap a2)).length c41) rfl (congrArg (fun m => Value.slice (some ⟨b40, 0, none⟩) m c41) (List.length_set ..).symm) ?_
          refine TL.as (d := 62) (v' := .slice (some ⟨b40, 0, none⟩) (((bsI x17).set 21 (IntKind.u8.wrap (shrK .u16 a2 8))).set 22 (IntKind.u8.wrap a2)).length c41) rfl (congrArg (fun m => Value.slice (some ⟨b40, 0, none⟩) m c41) (List.length_set ..).symm) ?_
          refine TL.as (d := 63) (v' := .slice (some ⟨b40, 0, none⟩) (((bsI x17).set 21 (IntKind.u8.wrap (shrK .u16 a2 8))).set 22 (IntKind.u8.wrap a2)).length c41) rfl (congrArg (fun m => Value.slice (some ⟨b40, 0, none⟩) m c41) (List.length_set ..).symm) ?_
          refine TL.nil (X.seq (T.seq (T.region rfl ?_)))
          refine TL.run ft_cursitortop_ok [0] rfl rfl ?_
          refine TL.q rfl .u (Ex.bsStr 0 rfl rfl Try.runUnderlying39 Try.runUnderlying9 Try.runUnderlying5 rfl) rfl ?_
          obtain ⟨st46, hx47, h⟩ := Option.bind_eq_some_iff.1 h
          refine TL.cge rfl .u (.fn Try.call27 rfl) (gNew_spec (toBs (((bsI x17).set 21 (IntKind.u8.wrap (shrK .u16 a2 8))).set 22 (IntKind.u8.wrap a2))) _ hx47) (fun _ hs => (RX.reads_triv _ _)) rfl ?_
          rintro _ _ _ ⟨b48, rfl, rfl, rfl⟩
          refine TL.sel [0, 0, 0, 0, 0, 0, 0, 0] rfl ?_
          obtain ⟨⟨x49, st50⟩, hx51, h⟩ := Option.bind_eq_some_iff.1 h
          try dsimp only at h
          refine TL.c0 rfl .u (.fn Try.call28 rfl) (f_prefix_Read_spec b48 st46 _ hx51) (fun _ hs => (Src.triv _)) rfl ?_
          refine TL.alloc rfl .u Try.zeroValue38 rfl (fun b52 => ?_)
          refine TL.st0 (cs' := #[.int .i64 x49.fBase, .int .i64 x49.fLength, .int .i64 x49.fLeader, .int .i64 x49.fSum, .int .i64 x49.fAttr, .int .i64 x49.fLast, .int .i64 x49.fFirst, .int .i64 x49.fMax, .int .i64 x49.fProducer, .int .i64 x49.fEpoch, .int .i64 x49.fSequence, .int .i64 x49.fCount]) rfl .u rfl rfl Try.sizeOf38 rfl rfl rfl rfl ?_
          refine TL.nil (X.seq (T.seq (T.region rfl ?_)))
          refine TL.run ft_cursitortop_ok [0] rfl rfl ?_
          refine TL.q rfl .u (Ex.bsStr 2 rfl rfl Try.runUnderlying39 Try.runUnderlying9 Try.runUnderlying5 rfl) rfl ?_
          obtain ⟨⟨x53, x54⟩, hx55, h⟩ := Option.bind_eq_some_iff.1 h
          try dsimp only at h
          refine TL.ce rfl .u (.fn Try.call32 rfl) (f_prefix_Peek_spec (toBs (((bsI x17).set 21 (IntKind.u8.wrap (shrK .u16 a2 8))).set 22 (IntKind.u8.wrap a2))) _ hx55) (fun _ hs => (RX.reads_triv _ _)) rfl ?_
          refine TL.run ft_cursitortop_ok [3, 4, 5, 6, 7] rfl rfl ?_
          refine TL.nil (X.seq (T.seq (T.seq ?_)))
          obtain ⟨y121, h, hk122⟩ := Option.bind_eq_some_iff.1 h
          refine T.jq (fun e Rs => e = [(4, .pointer (some ⟨b2, 0, none⟩)), (6, .bool false), (15, .pointer (some ⟨b52, 0, none⟩)), (120, .bool y121)] ∧ Rs = [BlkR b52 38 #[.int .i64 x49.fBase, .int .i64 x49.fLength, .int .i64 x49.fLeader, .int .i64 x49.fSum, .int .i64 x49.fAttr, .int .i64 x49.fLast, .int .i64 x49.fFirst, .int .i64 x49.fMax, .int .i64 x49.fProducer, .int .i64 x49.fEpoch, .int .i64 x49.fSequence, .int .i64 x49.fCount], InR b48 st50, BsR 5 b40 c41 (((bsI x17).set 21 (IntKind.u8.wrap (shrK .u16 a2 8))).set 22 (IntKind.u8.wrap a2)), BlkR b35 38 #[.int .i64 x32.fBase, .int .i64 x32.fLength, .int .i64 x32.fLeader, .int .i64 x32.fSum, .int .i64 x32.fAttr, .int .i64 x32.fLast, .int .i64 x32.fFirst, .int .i64 x32.fMax, .int .i64 x32.fProducer, .int .i64 x32.fEpoch, .int .i64 x32.fSequence, .int .i64 x32.fCount], InR b31 st33, OutR b14 st19, BlkR b2 38 #[.int .i64 a1.fBase, .int .i64 a1.fLength, .int .i64 a1.fLeader, .int .i64 a1.fSum, .int .i64 x12, .int .i64 a1.fLast, .int .i64 a1.fFirst, .int .i64 a1.fMax, .int .i64 a1.fProducer, .int .i64 a1.fEpoch, .int .i64 a1.fSequence, .int .i64 a1.fCount], BlkR b1 112 #[.bool a0.1, .bool a0.2.1, .bool a0.2.2], EmpR]) ?_ ?_
          · clear hk122
            refine T.region rfl ?_
            refine TL.q rfl .u (Ex.bS (us := [.int .i64 x32.fBase, .int .i64 x32.fLength, .int .i64 x32.fLeader, .int .i64 x32.fSum, .int .i64 x32.fAttr, .int .i64 x32.fLast, .int .i64 x32.fFirst, .int .i64 x32.fMax, .int .i64 x32.fProducer, .int .i64 x32.fEpoch, .int .i64 x32.fSequence, .int .i64 x32.fCount]) 3 rfl Try.isAgg38 Try.sizeOf38 rfl rfl rfl) rfl ?_
            refine TL.q rfl .u (Ex.bS (us := [.int .i64 a1.fBase, .int .i64 a1.fLength, .int .i64 a1.fLeader, .int .i64 a1.fSum, .int .i64 x12, .int .i64 a1.fLast, .int .i64 a1.fFirst, .int .i64 a1.fMax, .int .i64 a1.fProducer, .int .i64 a1.fEpoch, .int .i64 a1.fSequence, .int .i64 a1.fCount]) 6 rfl Try.isAgg38 Try.sizeOf38 rfl rfl rfl) rfl ?_
            by_cases c123 : x32.fBase = a1.fBase
            · replace h := ifT c123 h
              by_cases c124 : x32.fLength = a1.fLength
              · replace h := ifT c124 h
                by_cases c125 : x32.fLeader = a1.fLeader
                · replace h := ifT c125 h
                  by_cases c126 : x32.fSum = a1.fSum
                  · replace h := ifT c126 h
                    by_cases c127 : x32.fAttr = x12
                    · replace h := ifT c127 h
                      by_cases c128 : x32.fLast = a1.fLast
                      · replace h := ifT c128 h
                        by_cases c129 : x32.fFirst = a1.fFirst
                        · replace h := ifT c129 h
                          by_cases c130 : x32.fMax = a1.fMax
                          · replace h := ifT c130 h
                            by_cases c131 : x32.fProducer = a1.fProducer
                            · replace h := ifT c131 h
                              by_cases c132 : x32.fEpoch = a1.fEpoch
                              · replace h := ifT c132 h
                                by_cases c133 : x32.fSequence = a1.fSequence
                                · replace h := ifT c133 h
                                  by_cases c134 : x32.fCount = a1.fCount
                                  · replace h := ifT c134 h
                                    refine TL.q rfl .u (Ex.aNe (us := [.int .i64 x32.fBase, .int .i64 x32.fLength, .int .i64 x32.fLeader, .int .i64 x32.fSum, .int .i64 x32.fAttr, .int .i64 x32.fLast, .int .i64 x32.fFirst, .int .i64 x32.fMax, .int .i64 x32.fProducer, .int .i64 x32.fEpoch, .int .i64 x32.fSequence, .int .i64 x32.fCount]) (vs := [.int .i64 a1.fBase, .int .i64 a1.fLength, .int .i64 a1.fLeader, .int .i64 a1.fSum, .int .i64 x12, .int .i64 a1.fLast, .int .i64 a1.fFirst, .int .i64 a1.fMax, .int .i64 a1.fProducer, .int .i64 a1.fEpoch, .int .i64 a1.fSequence, .int .i64 a1.fCount]) flat_cursitortop_38 rfl Try.eqGuardType38 rfl rfl rfl rfl (eqL_t (eqV_i c123) (eqL_t (eqV_i c124) (eqL_t (eqV_i c125) (eqL_t (eqV_i c126) (eqL_t (eqV_i c127) (eqL_t (eqV_i c128) (eqL_t (eqV_i c129) (eqL_t (eqV_i c130) (eqL_t (eqV_i c131) (eqL_t (eqV_i c132) (eqL_t (eqV_i c133) (eqL_t (eqV_i c134) rfl))))))))))))) rfl ?_
                                    refine TL.run ft_cursitortop_ok [3] rfl rfl ?_
                                    refine TL.q rfl (.g rfl rfl rfl) (Ex.ft ft_cursitortop_ok rfl) rfl ?_
                                    refine TL.q rfl (.g rfl rfl rfl) (Ex.ixP (k := 0) rfl rfl rfl Try.runUnderlying112 Try.sizeOf4 (by decide)) rfl ?_
                                    refine TL.q rfl (.g rfl rfl rfl) (Ex.b1 7 rfl Try.isAgg4 rfl rfl) rfl ?_
                                    by_cases c135 : x36 = true
                                    · replace h := ifT c135 h
                                      by_cases c136 : a0.1 = true
                                      · replace h := ifT c136 h
                                        refine TL.q rfl (.g rfl rfl rfl) (Ex.bNe rfl c135 rfl c136 Try.runUnderlying4) rfl ?_
                                        refine TL.q rfl .u (Ex.pn rfl rfl rfl) rfl ?_
                                        refine TL.run ft_cursitortop_ok [9] rfl rfl ?_
                                        refine TL.q rfl (.g rfl rfl rfl) (Ex.ft ft_cursitortop_ok rfl) rfl ?_
                                        refine TL.q rfl (.g rfl rfl rfl) (Ex.ixP (k := 1) rfl rfl rfl Try.runUnderlying112 Try.sizeOf4 (by decide)) rfl ?_
                                        refine TL.q rfl (.g rfl rfl rfl) (Ex.b1 7 rfl Try.isAgg4 rfl rfl) rfl ?_
                                        by_cases c137 : x37 = true
                                        · replace h := ifT c137 h
                                          by_cases c138 : a0.2.1 = true
                                          · replace h := ifT c138 h
                                            refine TL.q rfl (.g rfl rfl rfl) (Ex.bNe rfl c137 rfl c138 Try.runUnderlying4) rfl ?_
                                            refine TL.q rfl .u (Ex.pn rfl rfl rfl) rfl ?_
                                            refine TL.run ft_cursitortop_ok [15] rfl rfl ?_
                                            refine TL.q rfl (.g rfl rfl rfl) (Ex.ft ft_cursitortop_ok rfl) rfl ?_
                                            refine TL.q rfl (.g rfl rfl rfl) (Ex.ixP (k := 2) rfl rfl rfl Try.runUnderlying112 Try.sizeOf4 (by decide)) rfl ?_
                                            refine TL.q rfl (.g rfl rfl rfl) (Ex.b1 7 rfl Try.isAgg4 rfl rfl) rfl ?_
                                            by_cases c139 : x38 = true
                                            · replace h := ifT c139 h
                                              by_cases c140 : a0.2.2 = true
                                              · replace h := ifT c140 h
                                                refine TL.q rfl (.g rfl rfl rfl) (Ex.bNe rfl c139 rfl c140 Try.runUnderlying4) rfl ?_
                                                refine TL.q rfl .u (Ex.pn rfl rfl rfl) rfl ?_
                                                refine TL.run ft_cursitortop_ok [21] rfl rfl ?_
                                                refine TL.q rfl (.g rfl rfl rfl) (Ex.ft ft_cursitortop_ok rfl) rfl ?_
                                                refine TL.q rfl (.g rfl rfl rfl) (Ex.ft ft_cursitortop_ok rfl) rfl ?_
                                                refine TL.q rfl (.g rfl rfl rfl) (Ex.b1 6 rfl Try.isAgg3 rfl rfl) rfl ?_
                                                replace h := guard_some h
                                                obtain ⟨c141, h⟩ := h
                                                refine TL.q rfl (.g rfl rfl rfl) (Ex.add rfl rfl c141) rfl ?_
                                                refine TL.q rfl (.g rfl rfl rfl) (Ex.ft ft_cursitortop_ok rfl) rfl ?_
                                                refine TL.q rfl .u (Ex.pn rfl rfl rfl) rfl ?_
                                                by_cases c142 : x53 = (a1.fLength + 12)
                                                · replace h := ifT c142 h
                                                  refine TL.run ft_cursitortop_ok [28] rfl rfl ?_
                                                  refine TL.q rfl (.g rfl rfl (bn_f (decide_eq_true c142))) (Ex.ft ft_cursitortop_ok rfl) rfl ?_
                                                  refine TL.q rfl (.g rfl rfl (bn_f (decide_eq_true c142))) (Ex.ft ft_cursitortop_ok rfl) rfl ?_
                                                  refine TL.q rfl .u (Ex.pn rfl (bn_f (decide_eq_true c142)) rfl) rfl ?_
                                                  by_cases c143 : x54 = 0
                                                  · replace h := ifT c143 h
                                                    refine TL.run ft_cursitortop_ok [32] rfl rfl ?_
                                                    refine TL.q rfl (.g rfl rfl (bn_f (decide_eq_true c143))) (Ex.ft ft_cursitortop_ok rfl) rfl ?_
                                                    refine TL.q rfl (.g rfl rfl (bn_f (decide_eq_true c143))) (Ex.b1 0 rfl Try.isAgg3 rfl rfl) rfl ?_
                                                    refine TL.q rfl (.g rfl rfl (bn_f (decide_eq_true c143))) (Ex.ft ft_cursitortop_ok rfl) rfl ?_
                                                    refine TL.q rfl (.g rfl rfl (bn_f (decide_eq_true c143))) (Ex.conv rfl Try.runUnderlying79 Try.runUnderlying120) rfl ?_
                                                    replace h := guard_some h
                                                    obtain ⟨c144, h⟩ := h
                                                    refine TL.q rfl (.g rfl rfl (bn_f (decide_eq_true c143))) (Ex.conv64 rfl Try.runUnderlying120 Try.runUnderlying3 c144) rfl ?_
                                                    refine TL.q rfl (.g rfl rfl (bn_f (decide_eq_true c143))) (Ex.ft ft_cursitortop_ok rfl) rfl ?_
                                                    refine TL.q rfl .u (Ex.pn rfl (bn_f (decide_eq_true c143)) rfl) rfl ?_
                                                    by_cases c145 : x49.fAttr = (IntKind.i16.wrap a2)
                                                    · replace h := ifT c145 h
                                                      cases h
                                                      exact TL.nil (X.as (d := 120) (v' := .bool false) rfl (congrArg Value.bool (bn_f (decide_eq_true c145))) (X.jq [0, 0, 0, 0, 0, 0, 0, 0, 0] ⟨rfl, rfl⟩ (by rfl) (by rfl)))
                                                    · replace h := ifF c145 h
                                                      cases h
                                                      exact TL.nil (X.as (d := 120) (v' := .bool true) rfl (congrArg Value.bool (bn_t (decide_eq_false c145))) (X.jq [0, 0, 0, 0, 0, 0, 0, 0, 0] ⟨rfl, rfl⟩ (by rfl) (by rfl)))
                                                  · replace h := ifF c143 h
                                                    refine TL.run ft_cursitortop_ok [32] rfl rfl ?_
                                                    refine TL.no rfl (.gn rfl rfl (bn_t (decide_eq_false c143))) rfl ?_
                                                    refine TL.no rfl (.gn rfl rfl (bn_t (decide_eq_false c143))) rfl ?_
                                                    refine TL.no rfl (.gn rfl rfl (bn_t (decide_eq_false c143))) rfl ?_
                                                    refine TL.no rfl (.gn rfl rfl (bn_t (decide_eq_false c143))) rfl ?_
                                                    refine TL.no rfl (.gn rfl rfl (bn_t (decide_eq_false c143))) rfl ?_
                                                    refine TL.no rfl (.gn rfl rfl (bn_t (decide_eq_false c143))) rfl ?_
                                                    refine TL.q rfl .u (Ex.py rfl (bn_t (decide_eq_false c143)) rfl) rfl ?_
                                                    cases h
                                                    exact TL.nil (X.jq [0, 0, 0, 0, 0, 0, 0, 0, 0] ⟨rfl, rfl⟩ (by rfl) (by rfl))
                                                · replace h := ifF c142 h
                                                  refine TL.run ft_cursitortop_ok [28] rfl rfl ?_
                                                  refine TL.no rfl (.gn rfl rfl (bn_t (decide_eq_false c142))) rfl ?_
                                                  refine TL.no rfl (.gn rfl rfl (bn_t (decide_eq_false c142))) rfl ?_
                                                  refine TL.q rfl .u (Ex.py rfl (bn_t (decide_eq_false c142)) rfl) rfl ?_
                                                  refine TL.run ft_cursitortop_ok [32] rfl rfl ?_
                                                  refine TL.no rfl (.gn rfl rfl rfl) rfl ?_
                                                  refine TL.no rfl (.gn rfl rfl rfl) rfl ?_
                                                  refine TL.no rfl (.gn rfl rfl rfl) rfl ?_
                                                  refine TL.no rfl (.gn rfl rfl rfl) rfl ?_
                                                  refine TL.no rfl (.gn rfl rfl rfl) rfl ?_
                                                  refine TL.no rfl (.gn rfl rfl rfl) rfl ?_
                                                  refine TL.q rfl .u (Ex.py rfl rfl rfl) rfl ?_
                                                  cases h
                                                  exact TL.nil (X.jq [0, 0, 0, 0, 0, 0, 0, 0, 0] ⟨rfl, rfl⟩ (by rfl) (by rfl))
                                              · replace h := ifF c140 h
                                                replace c140 := eq_false_of_ne_true c140
                                                refine TL.q rfl (.g rfl rfl rfl) (Ex.bNe rfl c139 rfl c140 Try.runUnderlying4) rfl ?_
                                                refine TL.q rfl .u (Ex.pn rfl rfl rfl) rfl ?_
                                                refine TL.run ft_cursitortop_ok [21] rfl rfl ?_
                                                refine TL.no rfl (.gn rfl rfl rfl) rfl ?_
                                                refine TL.no rfl (.gn rfl rfl rfl) rfl ?_
                                                refine TL.no rfl (.gn rfl rfl rfl) rfl ?_
                                                refine TL.no rfl (.gn rfl rfl rfl) rfl ?_
                                                refine TL.no rfl (.gn rfl rfl rfl) rfl ?_
                                                refine TL.q rfl .u (Ex.py rfl rfl rfl) rfl ?_
                                                refine TL.run ft_cursitortop_ok [28] rfl rfl ?_
                                                refine TL.no rfl (.gn rfl rfl rfl) rfl ?_
                                                refine TL.no rfl (.gn rfl rfl rfl) rfl ?_
                                                refine TL.q rfl .u (Ex.py rfl rfl rfl) rfl ?_
                                                refine TL.run ft_cursitortop_ok [32] rfl rfl ?_
                                                refine TL.no rfl (.gn rfl rfl rfl) rfl ?_
                                                refine TL.no rfl (.gn rfl rfl rfl) rfl ?_
                                                refine TL.no rfl (.gn rfl rfl rfl) rfl ?_
                                                refine TL.no rfl (.gn rfl rfl rfl) rfl ?_
                                                refine TL.no rfl (.gn rfl rfl rfl) rfl ?_
                                                refine TL.no rfl (.gn rfl rfl rfl) rfl ?_
                                                refine TL.q rfl .u (Ex.py rfl rfl rfl) rfl ?_
                                                cases h
                                                exact TL.nil (X.jq [0, 0, 0, 0, 0, 0, 0, 0, 0] ⟨rfl, rfl⟩ (by rfl) (by rfl))
                                            · replace h := ifF c139 h
                                              replace c139 := eq_false_of_ne_true c139
                                              by_cases c146 : a0.2.2 = true
                                              · replace h := ifT c146 h
                                                refine TL.q rfl (.g rfl rfl rfl) (Ex.bNe rfl c139 rfl c146 Try.runUnderlying4) rfl ?_
                                                refine TL.q rfl .u (Ex.pn rfl rfl rfl) rfl ?_
                                                refine TL.run ft_cursitortop_ok [21] rfl rfl ?_
                                                refine TL.no rfl (.gn rfl rfl rfl) rfl ?_
                                                refine TL.no rfl (.gn rfl rfl rfl) rfl ?_
                                                refine TL.no rfl (.gn rfl rfl rfl) rfl ?_
                                                refine TL.no rfl (.gn rfl rfl rfl) rfl ?_
                                                refine TL.no rfl (.gn rfl rfl rfl) rfl ?_
                                                refine TL.q rfl .u (Ex.py rfl rfl rfl) rfl ?_
                                                refine TL.run ft_cursitortop_ok [28] rfl rfl ?_
                                                refine TL.no rfl (.gn rfl rfl rfl) rfl ?_
                                                refine TL.no rfl (.gn rfl rfl rfl) rfl ?_
                                                refine TL.q rfl .u (Ex.py rfl rfl rfl) rfl ?_
                                                refine TL.run ft_cursitortop_ok [32] rfl rfl ?_
                                                refine TL.no rfl (.gn rfl rfl rfl) rfl ?_
                                                refine TL.no rfl (.gn rfl rfl rfl) rfl ?_
                                                refine TL.no rfl (.gn rfl rfl rfl) rfl ?_
                                                refine TL.no rfl (.gn rfl rfl rfl) rfl ?_
                                                refine TL.no rfl (.gn rfl rfl rfl) rfl ?_
                                                refine TL.no rfl (.gn rfl rfl rfl) rfl ?_
                                                refine TL.q rfl .u (Ex.py rfl rfl rfl) rfl ?_
                                                cases h
                                                exact TL.nil (X.jq [0, 0, 0, 0, 0, 0, 0, 0, 0] ⟨rfl, rfl⟩ (by rfl) (by rfl))
                                              · replace h := ifF c146 h
                                                replace c146 := eq_false_of_ne_true c146
                                                refine TL.q rfl (.g rfl rfl rfl) (Ex.bNe rfl c139 rfl c146 Try.runUnderlying4) rfl ?_
                                                refine TL.q rfl .u (Ex.pn rfl rfl rfl) rfl ?_
                                                refine TL.run ft_cursitortop_ok [21] rfl rfl ?_
                                                refine TL.q rfl (.g rfl rfl rfl) (Ex.ft ft_cursitortop_ok rfl) rfl ?_
                                                refine TL.q rfl (.g rfl rfl rfl) (Ex.ft ft_cursitortop_ok rfl) rfl ?_
                                                refine TL.q rfl (.g rfl rfl rfl) (Ex.b1 6 rfl Try.isAgg3 rfl rfl) rfl ?_
                                                replace h := guard_some h
                                                obtain ⟨c147, h⟩ := h
                                                refine TL.q rfl (.g rfl rfl rfl) (Ex.add rfl rfl c147) rfl ?_
                                                refine TL.q rfl (.g rfl rfl rfl) (Ex.ft ft_cursitortop_ok rfl) rfl ?_
                                                refine TL.q rfl .u (Ex.pn rfl rfl rfl) rfl ?_
                                                by_cases c148 : x53 = (a1.fLength + 12)
                                                · replace h := ifT c148 h
                                                  refine TL.run ft_cursitortop_ok [28] rfl rfl ?_
                                                  refine TL.q rfl (.g rfl rfl (bn_f (decide_eq_true c148))) (Ex.ft ft_cursitortop_ok rfl) rfl ?_
                                                  refine TL.q rfl (.g rfl rfl (bn_f (decide_eq_true c148))) (Ex.ft ft_cursitortop_ok rfl) rfl ?_
                                                  refine TL.q rfl .u (Ex.pn rfl (bn_f (decide_eq_true c148)) rfl) rfl ?_
                                                  by_cases c149 : x54 = 0
                                                  · replace h := ifT c149 h
                                                    refine TL.run ft_cursitortop_ok [32] rfl rfl ?_
                                                    refine TL.q rfl (.g rfl rfl (bn_f (decide_eq_true c149))) (Ex.ft ft_cursitortop_ok rfl) rfl ?_
                                                    refine TL.q rfl (.g rfl rfl (bn_f (decide_eq_true c149))) (Ex.b1 0 rfl Try.isAgg3 rfl rfl) rfl ?_
                                                    refine TL.q rfl (.g rfl rfl (bn_f (decide_eq_true c149))) (Ex.ft ft_cursitortop_ok rfl) rfl ?_
                                                    refine TL.q rfl (.g rfl rfl (bn_f (decide_eq_true c149))) (Ex.conv rfl Try.runUnderlying79 Try.runUnderlying120) rfl ?_
                                                    replace h := guard_some h
                                                    obtain ⟨c150, h⟩ := h
                                                    refine TL.q rfl (.g rfl rfl (bn_f (decide_eq_true c149))) (Ex.conv64 rfl Try.runUnderlying120 Try.runUnderlying3 c150) rfl ?_
                                                    refine TL.q rfl (.g rfl rfl (bn_f (decide_eq_true c149))) (Ex.ft ft_cursitortop_ok rfl) rfl ?_
                                                    refine TL.q rfl .u (Ex.pn rfl (bn_f (decide_eq_true c149)) rfl) rfl ?_
                                                    by_cases c151 : x49.fAttr = (IntKind.i16.wrap a2)
                                                    · replace h := ifT c151 h
                                                      cases h
                                                      exact TL.nil (X.as (d := 120) (v' := .bool false) rfl (congrArg Value.bool (bn_f (decide_eq_true c151))) (X.jq [0, 0, 0, 0, 0, 0, 0, 0, 0] ⟨rfl, rfl⟩ (by rfl) (by rfl)))
                                                    · replace h := ifF c151 h
                                                      cases h
                                                      exact TL.nil (X.as (d := 120) (v' := .bool true) rfl (congrArg Value.bool (bn_t (decide_eq_false c151))) (X.jq [0, 0, 0, 0, 0, 0, 0, 0, 0] ⟨rfl, rfl⟩ (by rfl) (by rfl)))
                                                  · replace h := ifF c149 h
                                                    refine TL.run ft_cursitortop_ok [32] rfl rfl ?_
                                                    refine TL.no rfl (.gn rfl rfl (bn_t (decide_eq_false c149))) rfl ?_
                                                    refine TL.no rfl (.gn rfl rfl (bn_t (decide_eq_false c149))) rfl ?_
                                                    refine TL.no rfl (.gn rfl rfl (bn_t (decide_eq_false c149))) rfl ?_
                                                    refine TL.no rfl (.gn rfl rfl (bn_t (decide_eq_false c149))) rfl ?_
                                                    refine TL.no rfl (.gn rfl rfl (bn_t (decide_eq_false c149))) rfl ?_
                                                    refine TL.no rfl (.gn rfl rfl (bn_t (decide_eq_false c149))) rfl ?_
                                                    refine TL.q rfl .u (Ex.py rfl (bn_t (decide_eq_false c149)) rfl) rfl ?_
                                                    cases h
                                                    exact TL.nil (X.jq [0, 0, 0, 0, 0, 0, 0, 0, 0] ⟨rfl, rfl⟩ (by rfl) (by rfl))
                                                · replace h := ifF c148 h
                                                  refine TL.run ft_cursitortop_ok [28] rfl rfl ?_
                                                  refine TL.no rfl (.gn rfl rfl (bn_t (decide_eq_false c148))) rfl ?_
                                                  refine TL.no rfl (.gn rfl rfl (bn_t (decide_eq_false c148))) rfl ?_
                                                  refine TL.q rfl .u (Ex.py rfl (bn_t (decide_eq_false c148)) rfl) rfl ?_
                                                  refine TL.run ft_cursitortop_ok [32] rfl rfl ?_
                                                  refine TL.no rfl (.gn rfl rfl rfl) rfl ?_
                                                  refine TL.no rfl (.gn rfl rfl rfl) rfl ?_
                                                  refine TL.no rfl (.gn rfl rfl rfl) rfl ?_
                                                  refine TL.no rfl (.gn rfl rfl rfl) rfl ?_
                                                  refine TL.no rfl (.gn rfl rfl rfl) rfl ?_
                                                  refine TL.no rfl (.gn rfl rfl rfl) rfl ?_
                                                  refine TL.q rfl .u (Ex.py rfl rfl rfl) rfl ?_
                                                  cases h
                                                  exact TL.nil (X.jq [0, 0, 0, 0, 0, 0, 0, 0, 0] ⟨rfl, rfl⟩ (by rfl) (by rfl))
                                          · replace h := ifF c138 h
                                            replace c138 := eq_false_of_ne_true c138
                                            refine TL.q rfl (.g rfl rfl rfl) (Ex.bNe rfl c137 rfl c138 Try.runUnderlying4) rfl ?_
                                            refine TL.q rfl .u (Ex.pn rfl rfl rfl) rfl ?_
                                            refine TL.run ft_cursitortop_ok [15] rfl rfl ?_
                                            refine TL.no rfl (.gn rfl rfl rfl) rfl ?_
                                            refine TL.no rfl (.gn rfl rfl rfl) rfl ?_
                                            refine TL.no rfl (.gn rfl rfl rfl) rfl ?_
                                            refine TL.no rfl (.gn rfl rfl rfl) rfl ?_
                                            refine TL.q rfl .u (Ex.py rfl rfl rfl) rfl ?_
                                            refine TL.run ft_cursitortop_ok [21] rfl rfl ?_
                                            refine TL.no rfl (.gn rfl rfl rfl) rfl ?_
                                            refine TL.no rfl (.gn rfl rfl rfl) rfl ?_
                                            refine TL.no rfl (.gn rfl rfl rfl) rfl ?_
                                            refine TL.no rfl (.gn rfl rfl rfl) rfl ?_
                                            refine TL.no rfl (.gn rfl rfl rfl) rfl ?_
                                            refine TL.q rfl .u (Ex.py rfl rfl rfl) rfl ?_
                                            refine TL.run ft_cursitortop_ok [28] rfl rfl ?_
                                            refine TL.no rfl (.gn rfl rfl rfl) rfl ?_
                                            refine TL.no rfl (.gn rfl rfl rfl) rfl ?_
                                            refine TL.q rfl .u (Ex.py rfl rfl rfl) rfl ?_
                                            refine TL.run ft_cursitortop_ok [32] rfl rfl ?_
                                            refine TL.no rfl (.gn rfl rfl rfl) rfl ?_
                                            refine TL.no rfl (.gn rfl rfl rfl) rfl ?_
                                            refine TL.no rfl (.gn rfl rfl rfl) rfl ?_
                                            refine TL.no rfl (.gn rfl rfl rfl) rfl ?_
                                            refine TL.no rfl (.gn rfl rfl rfl) rfl ?_
                                            refine TL.no rfl (.gn rfl rfl rfl) rfl ?_
                                            refine TL.q rfl .u (Ex.py rfl rfl rfl) rfl ?_
                                            cases h
                                            exact TL.nil (X.jq [0, 0, 0, 0, 0, 0, 0, 0, 0] ⟨rfl, rfl⟩ (by rfl) (by rfl))
                                        · replace h := ifF c137 h
                                          replace c137 := eq_false_of_ne_true c137
                                          by_cases c152 : a0.2.1 = true
                                          · replace h := ifT c152 h
                                            refine TL.q rfl (.g rfl rfl rfl) (Ex.bNe rfl c137 rfl c152 Try.runUnderlying4) rfl ?_
                                            refine TL.q rfl .u (Ex.pn rfl rfl rfl) rfl ?_
                                            refine TL.run ft_cursitortop_ok [15] rfl rfl ?_
                                            refine TL.no rfl (.gn rfl rfl rfl) rfl ?_
                                            refine TL.no rfl (.gn rfl rfl rfl) rfl ?_
                                            refine TL.no rfl (.gn rfl rfl rfl) rfl ?_
                                            refine TL.no rfl (.gn rfl rfl rfl) rfl ?_
                                            refine TL.q rfl .u (Ex.py rfl rfl rfl) rfl ?_
                                            refine TL.run ft_cursitortop_ok [21] rfl rfl ?_
                                            refine TL.no rfl (.gn rfl rfl rfl) rfl ?_
                                            refine TL.no rfl (.gn rfl rfl rfl) rfl ?_
                                            refine TL.no rfl (.gn rfl rfl rfl) rfl ?_
                                            refine TL.no rfl (.gn rfl rfl rfl) rfl ?_
                                            refine TL.no rfl (.gn rfl rfl rfl) rfl ?_
                                            refine TL.q rfl .u (Ex.py rfl rfl rfl) rfl ?_
                                            refine TL.run ft_cursitortop_ok [28] rfl rfl ?_
                                            refine TL.no rfl (.gn rfl rfl rfl) rfl ?_
                                            refine TL.no rfl (.gn rfl rfl rfl) rfl ?_
                                            refine TL.q rfl .u (Ex.py rfl rfl rfl) rfl ?_
                                            refine TL.run ft_cursitortop_ok [32] rfl rfl ?_
                                            refine TL.no rfl (.gn rfl rfl rfl) rfl ?_
                                            refine TL.no rfl (.gn rfl rfl rfl) rfl ?_
                                            refine TL.no rfl (.gn rfl rfl rfl) rfl ?_
                                            refine TL.no rfl (.gn rfl rfl rfl) rfl ?_
                                            refine TL.no rfl (.gn rfl rfl rfl) rfl ?_
                                            refine TL.no rfl (.gn rfl rfl rfl) rfl ?_
                                            refine TL.q rfl .u (Ex.py rfl rfl rfl) rfl ?_
                                            cases h
                                            exact TL.nil (X.jq [0, 0, 0, 0, 0, 0, 0, 0, 0] ⟨rfl, rfl⟩ (by rfl) (by rfl))
                                          · replace h := ifF c152 h
                                            replace c152 := eq_false_of_ne_true c152
                                            refine TL.q rfl (.g rfl rfl rfl) (Ex.bNe rfl c137 rfl c152 Try.runUnderlying4) rfl ?_
                                            refine TL.q rfl .u (Ex.pn rfl rfl rfl) rfl ?_
                                            refine TL.run ft_cursitortop_ok [15] rfl rfl ?_
                                            refine TL.q rfl (.g rfl rfl rfl) (Ex.ft ft_cursitortop_ok rfl) rfl ?_
                                            refine TL.q rfl (.g rfl rfl rfl) (Ex.ixP (k := 2) rfl rfl rfl Try.runUnderlying112 Try.sizeOf4 (by decide)) rfl ?_
                                            refine TL.q rfl (.g rfl rfl rfl) (Ex.b1 7 rfl Try.isAgg4 rfl rfl) rfl ?_
                                            by_cases c153 : x38 = true
                                            · replace h := ifT c153 h
                                              by_cases c154 : a0.2.2 = true
                                              · replace h := ifT c154 h
                                                refine TL.q rfl (.g rfl rfl rfl) (Ex.bNe rfl c153 rfl c154 Try.runUnderlying4) rfl ?_
                                                refine TL.q rfl .u (Ex.pn rfl rfl rfl) rfl ?_
                                                refine TL.run ft_cursitortop_ok [21] rfl rfl ?_
                                                refine TL.q rfl (.g rfl rfl rfl) (Ex.ft ft_cursitortop_ok rfl) rfl ?_
                                                refine TL.q rfl (.g rfl rfl rfl) (Ex.ft ft_cursitortop_ok rfl) rfl ?_
                                                refine TL.q rfl (.g rfl rfl rfl) (Ex.b1 6 rfl Try.isAgg3 rfl rfl) rfl ?_
                                                replace h := guard_some h
                                                obtain ⟨c155, h⟩ := h
                                                refine TL.q rfl (.g rfl rfl rfl) (Ex.add rfl rfl c155) rfl ?_
                                                refine TL.q rfl (.g rfl rfl rfl) (Ex.ft ft_cursitortop_ok rfl) rfl ?_
                                                refine TL.q rfl .u (Ex.pn rfl rfl rfl) rfl ?_
                                                by_cases c156 : x53 = (a1.fLength + 12)
                                                · replace h := ifT c156 h
                                                  refine TL.run ft_cursitortop_ok [28] rfl rfl ?_
                                                  refine TL.q rfl (.g rfl rfl (bn_f (decide_eq_true c156))) (Ex.ft ft_cursitortop_ok rfl) rfl ?_
                                                  refine TL.q rfl (.g rfl rfl (bn_f (decide_eq_true c156))) (Ex.ft ft_cursitortop_ok rfl) rfl ?_
                                                  refine TL.q rfl .u (Ex.pn rfl (bn_f (decide_eq_true c156)) rfl) rfl ?_
                                                  by_cases c157 : x54 = 0
                                                  · replace h := ifT c157 h
                                                    refine TL.run ft_cursitortop_ok [32] rfl rfl ?_
                                                    refine TL.q rfl (.g rfl rfl (bn_f (decide_eq_true c157))) (Ex.ft ft_cursitortop_ok rfl) rfl ?_
                                                    refine TL.q rfl (.g rfl rfl (bn_f (decide_eq_true c157))) (Ex.b1 0 rfl Try.isAgg3 rfl rfl) rfl ?_
                                                    refine TL.q rfl (.g rfl rfl (bn_f (decide_eq_true c157))) (Ex.ft ft_cursitortop_ok rfl) rfl ?_
                                                    refine TL.q rfl (.g rfl rfl (bn_f (decide_eq_true c157))) (Ex.conv rfl Try.runUnderlying79 Try.runUnderlying120) rfl ?_
                                                    replace h := guard_some h
                                                    obtain ⟨c158, h⟩ := h
                                                    refine TL.q rfl (.g rfl rfl (bn_f (decide_eq_true c157))) (Ex.conv64 rfl Try.runUnderlying120 Try.runUnderlying3 c158) rfl ?_
                                                    refine TL.q rfl (.g rfl rfl (bn_f (decide_eq_true c157))) (Ex.ft ft_cursitortop_ok rfl) rfl ?_
                                                    refine TL.q rfl .u (Ex.pn rfl (bn_f (decide_eq_true c157)) rfl) rfl ?_
                                                    by_cases c159 : x49.fAttr = (IntKind.i16.wrap a2)
                                                    · replace h := ifT c159 h
                                                      cases h
                                                      exact TL.nil (X.as (d := 120) (v' := .bool false) rfl (congrArg Value.bool (bn_f (decide_eq_true c159))) (X.jq [0, 0, 0, 0, 0, 0, 0, 0, 0] ⟨rfl, rfl⟩ (by rfl) (by rfl)))
                                                    · replace h := ifF c159 h
                                                      cases h
                                                      exact TL.nil (X.as (d := 120) (v' := .bool true) rfl (congrArg Value.bool (bn_t (decide_eq_false c159))) (X.jq [0, 0, 0, 0, 0, 0, 0, 0, 0] ⟨rfl, rfl⟩ (by rfl) (by rfl)))
                                                  · replace h := ifF c157 h
                                                    refine TL.run ft_cursitortop_ok [32] rfl rfl ?_
                                                    refine TL.no rfl (.gn rfl rfl (bn_t (decide_eq_false c157))) rfl ?_
                                                    refine TL.no rfl (.gn rfl rfl (bn_t (decide_eq_false c157))) rfl ?_
                                                    refine TL.no rfl (.gn rfl rfl (bn_t (decide_eq_false c157))) rfl ?_
                                                    refine TL.no rfl (.gn rfl rfl (bn_t (decide_eq_false c157))) rfl ?_
                                                    refine TL.no rfl (.gn rfl rfl (bn_t (decide_eq_false c157))) rfl ?_
                                                    refine TL.no rfl (.gn rfl rfl (bn_t (decide_eq_false c157))) rfl ?_
                                                    refine TL.q rfl .u (Ex.py rfl (bn_t (decide_eq_false c157)) rfl) rfl ?_
                                                    cases h
                                                    exact TL.nil (X.jq [0, 0, 0, 0, 0, 0, 0, 0, 0] ⟨rfl, rfl⟩ (by rfl) (by rfl))
                                                · replace h := ifF c156 h
                                                  refine TL.run ft_cursitortop_ok [28] rfl rfl ?_
                                                  refine TL.no rfl (.gn rfl rfl (bn_t (decide_eq_false c156))) rfl ?_
                                                  refine TL.no rfl (.gn rfl rfl (bn_t (decide_eq_false c156))) rfl ?_
                                                  refine TL.q rfl .u (Ex.py rfl (bn_t (decide_eq_false c156)) rfl) rfl ?_
                                                  refine TL.run ft_cursitortop_ok [32] rfl rfl ?_
                                                  refine TL.no rfl (.gn rfl rfl rfl) rfl ?_
                                                  refine TL.no rfl (.gn rfl rfl rfl) rfl ?_
                                                  refine TL.no rfl (.gn rfl rfl rfl) rfl ?_
                                                  refine TL.no rfl (.gn rfl rfl rfl) rfl ?_
                                                  refine TL.no rfl (.gn rfl rfl rfl) rfl ?_
                                                  refine TL.no rfl (.gn rfl rfl rfl) rfl ?_
                                                  refine TL.q rfl .u (Ex.py rfl rfl rfl) rfl ?_
                                                  cases h
                                                  exact TL.nil (X.jq [0, 0, 0, 0, 0, 0, 0, 0, 0] ⟨rfl, rfl⟩ (by rfl) (by rfl))
                                              · replace h := ifF c154 h
                                                replace c154 := eq_false_of_ne_true c154
                                                refine TL.q rfl (.g rfl rfl rfl) (Ex.bNe rfl c153 rfl c154 Try.runUnderlying4) rfl ?_
                                                refine TL.q rfl .u (Ex.pn rfl rfl rfl) rfl ?_
                                                refine TL.run ft_cursitortop_ok [21] rfl rfl ?_
                                                refine TL.no rfl (.gn rfl rfl rfl) rfl ?_
                                                refine TL.no rfl (.gn rfl rfl rfl) rfl ?_
                                                refine TL.no rfl (.gn rfl rfl rfl) rfl ?_
                                                refine TL.no rfl (.gn rfl rfl rfl) rfl ?_
                                                refine TL.no rfl (.gn rfl rfl rfl) rfl ?_
                                                refine TL.q rfl .u (Ex.py rfl rfl rfl) rfl ?_
                                                refine TL.run ft_cursitortop_ok [28] rfl rfl ?_
                                                refine TL.no rfl (.gn rfl rfl rfl) rfl ?_
                                                refine TL.no rfl (.gn rfl rfl rfl) rfl ?_
                                                refine TL.q rfl .u (Ex.py rfl rfl rfl) rfl ?_
                                                refine TL.run ft_cursitortop_ok [32] rfl rfl ?_
                                                refine TL.no rfl (.gn rfl rfl rfl) rfl ?_
                                                refine TL.no rfl (.gn rfl rfl rfl) rfl ?_
                                                refine TL.no rfl (.gn rfl rfl rfl) rfl ?_
                                                refine TL.no rfl (.gn rfl rfl rfl) rfl ?_
                                                refine TL.no rfl (.gn rfl rfl rfl) rfl ?_
                                                refine TL.no rfl (.gn rfl rfl rfl) rfl ?_
                                                refine TL.q rfl .u (Ex.py rfl rfl rfl) rfl ?_
                                                cases h
                                                exact TL.nil (X.jq [0, 0, 0, 0, 0, 0, 0, 0, 0] ⟨rfl, rfl⟩ (by rfl) (by rfl))
                                            · replace h := ifF c153 h
                                              replace c153 := eq_false_of_ne_true c153
                                              by_cases c160 : a0.2.2 = true
                                              · replace h := ifT c160 h
                                                refine TL.q rfl (.g rfl rfl rfl) (Ex.bNe rfl c153 rfl c160 Try.runUnderlying4) rfl ?_
                                                refine TL.q rfl .u (Ex.pn rfl rfl rfl) rfl ?_
                                                refine TL.run ft_cursitortop_ok [21] rfl rfl ?_
                                                refine TL.no rfl (.gn rfl rfl rfl) rfl ?_
                                                refine TL.no rfl (.gn rfl rfl rfl) rfl ?_
                                                refine TL.no rfl (.gn rfl rfl rfl) rfl ?_
                                                refine TL.no rfl (.gn rfl rfl rfl) rfl ?_
                                                refine TL.no rfl (.gn rfl rfl rfl) rfl ?_
                                                refine TL.q rfl .u (Ex.py rfl rfl rfl) rfl ?_
                                                refine TL.run ft_cursitortop_ok [28] rfl rfl ?_
                                                refine TL.no rfl (.gn rfl rfl rfl) rfl ?_
                                                refine TL.no rfl (.gn rfl rfl rfl) rfl ?_
                                                refine TL.q rfl .u (Ex.py rfl rfl rfl) rfl ?_
                                                refine TL.run ft_cursitortop_ok [32] rfl rfl ?_
                                                refine TL.no rfl (.gn rfl rfl rfl) rfl ?_
                                                refine TL.no rfl (.gn rfl rfl rfl) rfl ?_
                                                refine TL.no rfl (.gn rfl rfl rfl) rfl ?_
                                                refine TL.no rfl (.gn rfl rfl rfl) rfl ?_
                                                refine TL.no rfl (.gn rfl rfl rfl) rfl ?_
                                                refine TL.no rfl (.gn rfl rfl rfl) rfl ?_
                                                refine TL.q rfl .u (Ex.py rfl rfl rfl) rfl ?_
                                                cases h
                                                exact TL.nil (X.jq [0, 0, 0, 0, 0, 0, 0, 0, 0] ⟨rfl, rfl⟩ (by rfl) (by rfl))
                                              · replace h := ifF c160 h
                                                replace c160 := eq_false_of_ne_true c160
                                                refine TL.q rfl (.g rfl rfl rfl) (Ex.bNe rfl c153 rfl c160 Try.runUnderlying4) rfl ?_
                                                refine TL.q rfl .u (Ex.pn rfl rfl rfl) rfl ?_
                                                refine TL.run ft_cursitortop_ok [21] rfl rfl ?_
                                                refine TL.q rfl (.g rfl rfl rfl) (Ex.ft ft_cursitortop_ok rfl) rfl ?_
                                                refine TL.q rfl (.g rfl rfl rfl) (Ex.ft ft_cursitortop_ok rfl) rfl ?_
                                                refine TL.q rfl (.g rfl rfl rfl) (Ex.b1 6 rfl Try.isAgg3 rfl rfl) rfl ?_
                                                replace h := guard_some h
                                                obtain ⟨c161, h⟩ := h
                                                refine TL.q rfl (.g rfl rfl rfl) (Ex.add rfl rfl c161) rfl ?_
                                                refine TL.q rfl (.g rfl rfl rfl) (Ex.ft ft_cursitortop_ok rfl) rfl ?_
                                                refine TL.q rfl .u (Ex.pn rfl rfl rfl) rfl ?_
                                                by_cases c162 : x53 = (a1.fLength + 12)
                                                · replace h := ifT c162 h
                                                  refine TL.run ft_cursitortop_ok [28] rfl rfl ?_
                                                  refine TL.q rfl (.g rfl rfl (bn_f (decide_eq_true c162))) (Ex.ft ft_cursitortop_ok rfl) rfl ?_
                                                  refine TL.q rfl (.g rfl rfl (bn_f (decide_eq_true c162))) (Ex.ft ft_cursitortop_ok rfl) rfl ?_
                                                  refine TL.q rfl .u (Ex.pn rfl (bn_f (decide_eq_true c162)) rfl) rfl ?_
                                                  by_cases c163 : x54 = 0
                                                  · replace h := ifT c163 h
                                                    refine TL.run ft_cursitortop_ok [32] rfl rfl ?_
                                                    refine TL.q rfl (.g rfl rfl (bn_f (decide_eq_true c163))) (Ex.ft ft_cursitortop_ok rfl) rfl ?_
                                                    refine TL.q rfl (.g rfl rfl (bn_f (decide_eq_true c163))) (Ex.b1 0 rfl Try.isAgg3 rfl rfl) rfl ?_
                                                    refine TL.q rfl (.g rfl rfl (bn_f (decide_eq_true c163))) (Ex.ft ft_cursitortop_ok rfl) rfl ?_
                                                    refine TL.q rfl (.g rfl rfl (bn_f (decide_eq_true c163))) (Ex.conv rfl Try.runUnderlying79 Try.runUnderlying120) rfl ?_
                                                    replace h := guard_some h
                                                    obtain ⟨c164, h⟩ := h
                                                    refine TL.q rfl (.g rfl rfl (bn_f (decide_eq_true c163))) (Ex.conv64 rfl Try.runUnderlying120 Try.runUnderlying3 c164) rfl ?_
                                                    refine TL.q rfl (.g rfl rfl (bn_f (decide_eq_true c163))) (Ex.ft ft_cursitortop_ok rfl) rfl ?_
                                                    refine TL.q rfl .u (Ex.pn rfl (bn_f (decide_eq_true c163)) rfl) rfl ?_
                                                    by_cases c165 : x49.fAttr = (IntKind.i16.wrap a2)
                                                    · replace h := ifT c165 h
                                                      cases h
                                                      exact TL.nil (X.as (d := 120) (v' := .bool false) rfl (congrArg Value.bool (bn_f (decide_eq_true c165))) (X.jq [0, 0, 0, 0, 0, 0, 0, 0, 0] ⟨rfl, rfl⟩ (by rfl) (by rfl)))
                                                    · replace h := ifF c165 h
                                                      cases h
                                                      exact TL.nil (X.as (d := 120) (v' := .bool true) rfl (congrArg Value.bool (bn_t (decide_eq_false c165))) (X.jq [0, 0, 0, 0, 0, 0, 0, 0, 0] ⟨rfl, rfl⟩ (by rfl) (by rfl)))
                                                  · replace h := ifF c163 h
                                                    refine TL.run ft_cursitortop_ok [32] rfl rfl ?_
                                                    refine TL.no rfl (.gn rfl rfl (bn_t (decide_eq_false c163))) rfl ?_
                                                    refine TL.no rfl (.gn rfl rfl (bn_t (decide_eq_false c163))) rfl ?_
                                                    refine TL.no rfl (.gn rfl rfl (bn_t (decide_eq_false c163))) rfl ?_
                                                    refine TL.no rfl (.gn rfl rfl (bn_t (decide_eq_false c163))) rfl ?_
                                                    refine TL.no rfl (.gn rfl rfl (bn_t (decide_eq_false c163))) rfl ?_
                                                    refine TL.no rfl (.gn rfl rfl (bn_t (decide_eq_false c163))) rfl ?_
                                                    refine TL.q rfl .u (Ex.py rfl (bn_t (decide_eq_false c163)) rfl) rfl ?_
                                                    cases h
                                                    exact TL.nil (X.jq [0, 0, 0, 0, 0, 0, 0, 0, 0] ⟨rfl, rfl⟩ (by rfl) (by rfl))
                                                · replace h := ifF c162 h
                                                  refine TL.run ft_cursitortop_ok [28] rfl rfl ?_
                                                  refine TL.no rfl (.gn rfl rfl (bn_t (decide_eq_false c162))) rfl ?_
                                                  refine TL.no rfl (.gn rfl rfl (bn_t (decide_eq_false c162))) rfl ?_
                                                  refine TL.q rfl .u (Ex.py rfl (bn_t (decide_eq_false c162)) rfl) rfl ?_
                                                  refine TL.run ft_cursitortop_ok [32] rfl rfl ?_
                                                  refine TL.no rfl (.gn rfl rfl rfl) rfl ?_
                                                  refine TL.no rfl (.gn rfl rfl rfl) rfl ?_
                                                  refine TL.no rfl (.gn rfl rfl rfl) rfl ?_
                                                  refine TL.no rfl (.gn rfl rfl rfl) rfl ?_
                                                  refine TL.no rfl (.gn rfl rfl rfl) rfl ?_
                                                  refine TL.no rfl (.gn rfl rfl rfl) rfl ?_
                                                  refine TL.q rfl .u (Ex.py rfl rfl rfl) rfl ?_
                                                  cases h
                                                  exact TL.nil (X.jq [0, 0, 0, 0, 0, 0, 0, 0, 0] ⟨rfl, rfl⟩ (by rfl) (by rfl))
                                      · replace h := ifF c136 h
                                        replace c136 := eq_false_of_ne_true c136
                                        refine TL.q rfl (.g rfl rfl rfl) (Ex.bNe rfl c135 rfl c136 Try.runUnderlying4) rfl ?_
                                        refine TL.q rfl .u (Ex.pn rfl rfl rfl) rfl ?_
                                        refine TL.run ft_cursitortop_ok [9] rfl rfl ?_
                                        refine TL.no rfl (.gn rfl rfl rfl) rfl ?_
                                        refine TL.no rfl (.gn rfl rfl rfl) rfl ?_
                                        refine TL.no rfl (.gn rfl rfl rfl) rfl ?_
                                        refine TL.no rfl (.gn rfl rfl rfl) rfl ?_
                                        refine TL.q rfl .u (Ex.py rfl rfl rfl) rfl ?_
                                        refine TL.run ft_cursitortop_ok [15] rfl rfl ?_
                                        refine TL.no rfl (.gn rfl rfl rfl) rfl ?_
                                        refine TL.no rfl (.gn rfl rfl rfl) rfl ?_
                                        refine TL.no rfl (.gn rfl rfl rfl) rfl ?_
                                        refine TL.no rfl (.gn rfl rfl rfl) rfl ?_
                                        refine TL.q rfl .u (Ex.py rfl rfl rfl) rfl ?_
                                        refine TL.run ft_cursitortop_ok [21] rfl rfl ?_
                                        refine TL.no rfl (.gn rfl rfl rfl) rfl ?_
                                        refine TL.no rfl (.gn rfl rfl rfl) rfl ?_
                                        refine TL.no rfl (.gn rfl rfl rfl) rfl ?_
                                        refine TL.no rfl (.gn rfl rfl rfl) rfl ?_
                                        refine TL.no rfl (.gn rfl rfl rfl) rfl ?_
                                        refine TL.q rfl .u (Ex.py rfl rfl rfl) rfl ?_
                                        refine TL.run ft_cursitortop_ok [28] rfl rfl ?_
                                        refine TL.no rfl (.gn rfl rfl rfl) rfl ?_
                                        refine TL.no rfl (.gn rfl rfl rfl) rfl ?_
                                        refine TL.q rfl .u (Ex.py rfl rfl rfl) rfl ?_
                                        refine TL.run ft_cursitortop_ok [32] rfl rfl ?_
                                        refine TL.no rfl (.gn rfl rfl rfl) rfl ?_
                                        refine TL.no rfl (.gn rfl rfl rfl) rfl ?_
                                        refine TL.no rfl (.gn rfl rfl rfl) rfl ?_
                                        refine TL.no rfl (.gn rfl rfl rfl) rfl ?_
                                        refine TL.no rfl (.gn rfl rfl rfl) rfl ?_
                                        refine TL.no rfl (.gn rfl rfl rfl) rfl ?_
                                        refine TL.q rfl .u (Ex.py rfl rfl rfl) rfl ?_
                                        cases h
                                        exact TL.nil (X.jq [0, 0, 0, 0, 0, 0, 0, 0, 0] ⟨rfl, rfl⟩ (by rfl) (by rfl))
                                    · replace h := ifF c135 h
                                      replace c135 := eq_false_of_ne_true c135
                                      by_cases c166 : a0.1 = true
                                      · replace h := ifT c166 h
                                        refine TL.q rfl (.g rfl rfl rfl) (Ex.bNe rfl c135 rfl c166 Try.runUnderlying4) rfl ?_
                                        refine TL.q rfl .u (Ex.pn rfl rfl rfl) rfl ?_
                                        refine TL.run ft_cursitortop_ok [9] rfl rfl ?_
                                        refine TL.no rfl (.gn rfl rfl rfl) rfl ?_
                                        refine TL.no rfl (.gn rfl rfl rfl) rfl ?_
                                        refine TL.no rfl (.gn rfl rfl rfl) rfl ?_
                                        refine TL.no rfl (.gn rfl rfl rfl) rfl ?_
                                        refine TL.q rfl .u (Ex.py rfl rfl rfl) rfl ?_
                                        refine TL.run ft_cursitortop_ok [15] rfl rfl ?_
                                        refine TL.no rfl (.gn rfl rfl rfl) rfl ?_
                                        refine TL.no rfl (.gn rfl rfl rfl) rfl ?_
                                        refine TL.no rfl (.gn rfl rfl rfl) rfl ?_
                                        refine TL.no rfl (.gn rfl rfl rfl) rfl ?_
                                        refine TL.q rfl .u (Ex.py rfl rfl rfl) rfl ?_
                                        refine TL.run ft_cursitortop_ok [21] rfl rfl ?_
                                        refine TL.no rfl (.gn rfl rfl rfl) rfl ?_
                                        refine TL.no rfl (.gn rfl rfl rfl) rfl ?_
                                        refine TL.no rfl (.gn rfl rfl rfl) rfl ?_
                                        refine TL.no rfl (.gn rfl rfl rfl) rfl ?_
                                        refine TL.no rfl (.gn rfl rfl rfl) rfl ?_
                                        refine TL.q rfl .u (Ex.py rfl rfl rfl) rfl ?_
                                        refine TL.run ft_cursitortop_ok [28] rfl rfl ?_
                                        refine TL.no rfl (.gn rfl rfl rfl) rfl ?_
                                        refine TL.no rfl (.gn rfl rfl rfl) rfl ?_
                                        refine TL.q rfl .u (Ex.py rfl rfl rfl) rfl ?_
                                        refine TL.run ft_cursitortop_ok [32] rfl rfl ?_
                                        refine TL.no rfl (.gn rfl rfl rfl) rfl ?_
                                        refine TL.no rfl (.gn rfl rfl rfl) rfl ?_
                                        refine TL.no rfl (.gn rfl rfl rfl) rfl ?_
                                        refine TL.no rfl (.gn rfl rfl rfl) rfl ?_
                                        refine TL.no rfl (.gn rfl rfl rfl) rfl ?_
                                        refine TL.no rfl (.gn rfl rfl rfl) rfl ?_
                                        refine TL.q rfl .u (Ex.py rfl rfl rfl) rfl ?_
                                        cases h
                                        exact TL.nil (X.jq [0, 0, 0, 0, 0, 0, 0, 0, 0] ⟨rfl, rfl⟩ (by rfl) (by rfl))
                                      · replace h := ifF c166 h
                                        replace c166 := eq_false_of_ne_true c166
                                        refine TL.q rfl (.g rfl rfl rfl) (Ex.bNe rfl c135 rfl c166 Try.runUnderlying4) rfl ?_
                                        refine TL.q rfl .u (Ex.pn rfl rfl rfl) rfl ?_
                                        refine TL.run ft_cursitortop_ok [9] rfl rfl ?_
                                        refine TL.q rfl (.g rfl rfl rfl) (Ex.ft ft_cursitortop_ok rfl) rfl ?_
                                        refine TL.q rfl (.g rfl rfl rfl) (Ex.ixP (k := 1) rfl rfl rfl Try.runUnderlying112 Try.sizeOf4 (by decide)) rfl ?_
                                        refine TL.q rfl (.g rfl rfl rfl) (Ex.b1 7 rfl Try.isAgg4 rfl rfl) rfl ?_
                                        by_cases c167 : x37 = true
                                        · replace h := ifT c167 h
                                          by_cases c168 : a0.2.1 = true
                                          · replace h := ifT c168 h
                                            refine TL.q rfl (.g rfl rfl rfl) (Ex.bNe rfl c167 rfl c168 Try.runUnderlying4) rfl ?_
                                            refine TL.q rfl .u (Ex.pn rfl rfl rfl) rfl ?_
                                            refine TL.run ft_cursitortop_ok [15] rfl rfl ?_
                                            refine TL.q rfl (.g rfl rfl rfl) (Ex.ft ft_cursitortop_ok rfl) rfl ?_
                                            refine TL.q rfl (.g rfl rfl rfl) (Ex.ixP (k := 2) rfl rfl rfl Try.runUnderlying112 Try.sizeOf4 (by decide)) rfl ?_
                                            refine TL.q rfl (.g rfl rfl rfl) (Ex.b1 7 rfl Try.isAgg4 rfl rfl) rfl ?_
                                            by_cases c169 : x38 = true
                                            · replace h := ifT c169 h
                                              by_cases c170 : a0.2.2 = true
                                              · replace h := ifT c170 h
                                                refine TL.q rfl (.g rfl rfl rfl) (Ex.bNe rfl c169 rfl c170 Try.runUnderlying4) rfl ?_
                                                refine TL.q rfl .u (Ex.pn rfl rfl rfl) rfl ?_
                                                refine TL.run ft_cursitortop_ok [21] rfl rfl ?_
                                                refine TL.q rfl (.g rfl rfl rfl) (Ex.ft ft_cursitortop_ok rfl) rfl ?_
                                                refine TL.q rfl (.g rfl rfl rfl) (Ex.ft ft_cursitortop_ok rfl) rfl ?_
                                                refine TL.q rfl (.g rfl rfl rfl) (Ex.b1 6 rfl Try.isAgg3 rfl rfl) rfl ?_
                                                replace h := guard_some h
                                                obtain ⟨c171, h⟩ := h
                                                refine TL.q rfl (.g rfl rfl rfl) (Ex.add rfl rfl c171) rfl ?_
                                                refine TL.q rfl (.g rfl rfl rfl) (Ex.ft ft_cursitortop_ok rfl) rfl ?_
                                                refine TL.q rfl .u (Ex.pn rfl rfl rfl) rfl ?_
                                                by_cases c172 : x53 = (a1.fLength + 12)
                                                · replace h := ifT c172 h
                                                  refine TL.run ft_cursitortop_ok [28] rfl rfl ?_
                                                  refine TL.q rfl (.g rfl rfl (bn_f (decide_eq_true c172))) (Ex.ft ft_cursitortop_ok rfl) rfl ?_
                                                  refine TL.q rfl (.g rfl rfl (bn_f (decide_eq_true c172))) (Ex.ft ft_cursitortop_ok rfl) rfl ?_
                                                  refine TL.q rfl .u (Ex.pn rfl (bn_f (decide_eq_true c172)) rfl) rfl ?_
                                                  by_cases c173 : x54 = 0
                                                  · replace h := ifT c173 h
                                                    refine TL.run ft_cursitortop_ok [32] rfl rfl ?_
                                                    refine TL.q rfl (.g rfl rfl (bn_f (decide_eq_true c173))) (Ex.ft ft_cursitortop_ok rfl) rfl ?_
                                                    refine TL.q rfl (.g rfl rfl (bn_f (decide_eq_true c173))) (Ex.b1 0 rfl Try.isAgg3 rfl rfl) rfl ?_
                                                    refine TL.q rfl (.g rfl rfl (bn_f (decide_eq_true c173))) (Ex.ft ft_cursitortop_ok rfl) rfl ?_
                                                    refine TL.q rfl (.g rfl rfl (bn_f (decide_eq_true c173))) (Ex.conv rfl Try.runUnderlying79 Try.runUnderlying120) rfl ?_
                                                    replace h := guard_some h
                                                    obtain ⟨c174, h⟩ := h
                                                    refine TL.q rfl (.g rfl rfl (bn_f (decide_eq_true c173))) (Ex.conv64 rfl Try.runUnderlying120 Try.runUnderlying3 c174) rfl ?_
                                                    refine TL.q rfl (.g rfl rfl (bn_f (decide_eq_true c173))) (Ex.ft ft_cursitortop_ok rfl) rfl ?_
                                                    refine TL.q rfl .u (Ex.pn rfl (bn_f (decide_eq_true c173)) rfl) rfl ?_
                                                    by_cases c175 : x49.fAttr = (IntKind.i16.wrap a2)
                                                    · replace h := ifT c175 h
                                                      cases h
                                                      exact TL.nil (X.as (d := 120) (v' := .bool false) rfl (congrArg Value.bool (bn_f (decide_eq_true c175))) (X.jq [0, 0, 0, 0, 0, 0, 0, 0, 0] ⟨rfl, rfl⟩ (by rfl) (by rfl)))
                                                    · replace h := ifF c175 h
                                                      cases h
                                                      exact TL.nil (X.as (d := 120) (v' := .bool true) rfl (congrArg Value.bool (bn_t (decide_eq_false c175))) (X.jq [0, 0, 0, 0, 0, 0, 0, 0, 0] ⟨rfl, rfl⟩ (by rfl) (by rfl)))
                                                  · replace h := ifF c173 h
                                                    refine TL.run ft_cursitortop_ok [32] rfl rfl ?_
                                                    refine TL.no rfl (.gn rfl rfl (bn_t (decide_eq_false c173))) rfl ?_
                                                    refine TL.no rfl (.gn rfl rfl (bn_t (decide_eq_false c173))) rfl ?_
                                                    refine TL.no rfl (.gn rfl rfl (bn_t (decide_eq_false c173))) rfl ?_
                                                    refine TL.no rfl (.gn rfl rfl (bn_t (decide_eq_false c173))) rfl ?_
                                                    refine TL.no rfl (.gn rfl rfl (bn_t (decide_eq_false c173))) rfl ?_
                                                    refine TL.no rfl (.gn rfl rfl (bn_t (decide_eq_false c173))) rfl ?_
                                                    refine TL.q rfl .u (Ex.py rfl (bn_t (decide_eq_false c173)) rfl) rfl ?_
                                                    cases h
                                                    exact TL.nil (X.jq [0, 0, 0, 0, 0, 0, 0, 0, 0] ⟨rfl, rfl⟩ (by rfl) (by rfl))
                                                · replace h := ifF c172 h
                                                  refine TL.run ft_cursitortop_ok [28] rfl rfl ?_
                                                  refine TL.no rfl (.gn rfl rfl (bn_t (decide_eq_false c172))) rfl ?_
                                                  refine TL.no rfl (.gn rfl rfl (bn_t (decide_eq_false c172))) rfl ?_
                                                  refine TL.q rfl .u (Ex.py rfl (bn_t (decide_eq_false c172)) rfl) rfl ?_
                                                  refine TL.run ft_cursitortop_ok [32] rfl rfl ?_
                                                  refine TL.no rfl (.gn rfl rfl rfl) rfl ?_
                                                  refine TL.no rfl (.gn rfl rfl rfl) rfl ?_
                                                  refine TL.no rfl (.gn rfl rfl rfl) rfl ?_
                                                  refine TL.no rfl (.gn rfl rfl rfl) rfl ?_
                                                  refine TL.no rfl (.gn rfl rfl rfl) rfl ?_
                                                  refine TL.no rfl (.gn rfl rfl rfl) rfl ?_
                                                  refine TL.q rfl .u (Ex.py rfl rfl rfl) rfl ?_
                                                  cases h
                                                  exact TL.nil (X.jq [0, 0, 0, 0, 0, 0, 0, 0, 0] ⟨rfl, rfl⟩ (by rfl) (by rfl))
                                              · replace h := ifF c170 h
                                                replace c170 := eq_false_of_ne_true c170
                                                refine TL.q rfl (.g rfl rfl rfl) (Ex.bNe rfl c169 rfl c170 Try.runUnderlying4) rfl ?_
                                                refine TL.q rfl .u (Ex.pn rfl rfl rfl) rfl ?_
                                                refine TL.run ft_cursitortop_ok [21] rfl rfl ?_
                                                refine TL.no rfl (.gn rfl rfl rfl) rfl ?_
                                                refine TL.no rfl (.gn rfl rfl rfl) rfl ?_
                                                refine TL.no rfl (.gn rfl rfl rfl) rfl ?_
                                                refine TL.no rfl (.gn rfl rfl rfl) rfl ?_
                                                refine TL.no rfl (.gn rfl rfl rfl) rfl ?_
                                                refine TL.q rfl .u (Ex.py rfl rfl rfl) rfl ?_
                                                refine TL.run ft_cursitortop_ok [28] rfl rfl ?_
                                                refine TL.no rfl (.gn rfl rfl rfl) rfl ?_
                                                refine TL.no rfl (.gn rfl rfl rfl) rfl ?_
                                                refine TL.q rfl .u (Ex.py rfl rfl rfl) rfl ?_
                                                refine TL.run ft_cursitortop_ok [32] rfl rfl ?_
                                                refine TL.no rfl (.gn rfl rfl rfl) rfl ?_
                                                refine TL.no rfl (.gn rfl rfl rfl) rfl ?_
                                                refine TL.no rfl (.gn rfl rfl rfl) rfl ?_
                                                refine TL.no rfl (.gn rfl rfl rfl) rfl ?_
                                                refine TL.no rfl (.gn rfl rfl rfl) rfl ?_
                                                refine TL.no rfl (.gn rfl rfl rfl) rfl ?_
                                                refine TL.q rfl .u (Ex.py rfl rfl rfl) rfl ?_
                                                cases h
                                                exact TL.nil (X.jq [0, 0, 0, 0, 0, 0, 0, 0, 0] ⟨rfl, rfl⟩ (by rfl) (by rfl))
                                            · replace h := ifF c169 h
                                              replace c169 := eq_false_of_ne_true c169
                                              by_cases c176 : a0.2.2 = true
                                              · replace h := ifT c176 h
                                                refine TL.q rfl (.g rfl rfl rfl) (Ex.bNe rfl c169 rfl c176 Try.runUnderlying4) rfl ?_
                                                refine TL.q rfl .u (Ex.pn rfl rfl rfl) rfl ?_
                                                refine TL.run ft_cursitortop_ok [21] rfl rfl ?_
                                                refine TL.no rfl (.gn rfl rfl rfl) rfl ?_
                                                refine TL.no rfl (.gn rfl rfl rfl) rfl ?_
                                                refine TL.no rfl (.gn rfl rfl rfl) rfl ?_
                                                refine TL.no rfl (.gn rfl rfl rfl) rfl ?_
                                                refine TL.no rfl (.gn rfl rfl rfl) rfl ?_
                                                refine TL.q rfl .u (Ex.py rfl rfl rfl) rfl ?_
                                                refine TL.run ft_cursitortop_ok [28] rfl rfl ?_
                                                refine TL.no rfl (.gn rfl rfl rfl) rfl ?_
                                                refine TL.no rfl (.gn rfl rfl rfl) rfl ?_
                                                refine TL.q rfl .u (Ex.py rfl rfl rfl) rfl ?_
                                                refine TL.run ft_cursitortop_ok [32] rfl rfl ?_
                                                refine TL.no rfl (.gn rfl rfl rfl) rfl ?_
                                                refine TL.no rfl (.gn rfl rfl rfl) rfl ?_
                                                refine TL.no rfl (.gn rfl rfl rfl) rfl ?_
                                                refine TL.no rfl (.gn rfl rfl rfl) rfl ?_
                                                refine TL.no rfl (.gn rfl rfl rfl) rfl ?_
                                                refine TL.no rfl (.gn rfl rfl rfl) rfl ?_
                                                refine TL.q rfl .u (Ex.py rfl rfl rfl) rfl ?_
                                                cases h
                                                exact TL.nil (X.jq [0, 0, 0, 0, 0, 0, 0, 0, 0] ⟨rfl, rfl⟩ (by rfl) (by rfl))
                                              · replace h := ifF c176 h
                                                replace c176 := eq_false_of_ne_true c176
                                                refine TL.q rfl (.g rfl rfl rfl) (Ex.bNe rfl c169 rfl c176 Try.runUnderlying4) rfl ?_
                                                refine TL.q rfl .u (Ex.pn rfl rfl rfl) rfl ?_
                                                refine TL.run ft_cursitortop_ok [21] rfl rfl ?_
                                                refine TL.q rfl (.g rfl rfl rfl) (Ex.ft ft_cursitortop_ok rfl) rfl ?_
                                                refine TL.q rfl (.g rfl rfl rfl) (Ex.ft ft_cursitortop_ok rfl) rfl ?_
                                                refine TL.q rfl (.g rfl rfl rfl) (Ex.b1 6 rfl Try.isAgg3 rfl rfl) rfl ?_
                                                replace h := guard_some h
                                                obtain ⟨c177, h⟩ := h
                                                refine TL.q rfl (.g rfl rfl rfl) (Ex.add rfl rfl c177) rfl ?_
                                                refine TL.q rfl (.g rfl rfl rfl) (Ex.ft ft_cursitortop_ok rfl) rfl ?_
                                                refine TL.q rfl .u (Ex.pn rfl rfl rfl) rfl ?_
                                                by_cases c178 : x53 = (a1.fLength + 12)
                                                · replace h := ifT c178 h
                                                  refine TL.run ft_cursitortop_ok [28] rfl rfl ?_
                                                  refine TL.q rfl (.g rfl rfl (bn_f (decide_eq_true c178))) (Ex.ft ft_cursitortop_ok rfl) rfl ?_
                                                  refine TL.q rfl (.g rfl rfl (bn_f (decide_eq_true c178))) (Ex.ft ft_cursitortop_ok rfl) rfl ?_
                                                  refine TL.q rfl .u (Ex.pn rfl (bn_f (decide_eq_true c178)) rfl) rfl ?_
                                                  by_cases c179 : x54 = 0
                                                  · replace h := ifT c179 h
                                                    refine TL.run ft_cursitortop_ok [32] rfl rfl ?_
                                                    refine TL.q rfl (.g rfl rfl (bn_f (decide_eq_true c179))) (Ex.ft ft_cursitortop_ok rfl) rfl ?_
                                                    refine TL.q rfl (.g rfl rfl (bn_f (decide_eq_true c179))) (Ex.b1 0 rfl Try.isAgg3 rfl rfl) rfl ?_
                                                    refine TL.q rfl (.g rfl rfl (bn_f (decide_eq_true c179))) (Ex.ft ft_cursitortop_ok rfl) rfl ?_
                                                    refine TL.q rfl (.g rfl rfl (bn_f (decide_eq_true c179))) (Ex.conv rfl Try.runUnderlying79 Try.runUnderlying120) rfl ?_
                                                    replace h := guard_some h
                                                    obtain ⟨c180, h⟩ := h
                                                    refine TL.q rfl (.g rfl rfl (bn_f (decide_eq_true c179))) (Ex.conv64 rfl Try.runUnderlying120 Try.runUnderlying3 c180) rfl ?_
                                                    refine TL.q rfl (.g rfl rfl (bn_f (decide_eq_true c179))) (Ex.ft ft_cursitortop_ok rfl) rfl ?_
                                                    refine TL.q rfl .u (Ex.pn rfl (bn_f (decide_eq_true c179)) rfl) rfl ?_
                                                    by_cases c181 : x49.fAttr = (IntKind.i16.wrap a2)
                                                    · replace h := ifT c181 h
                                                      cases h
                                                      exact TL.nil (X.as (d := 120) (v' := .bool false) rfl (congrArg Value.bool (bn_f (decide_eq_true c181))) (X.jq [0, 0, 0, 0, 0, 0, 0, 0, 0] ⟨rfl, rfl⟩ (by rfl) (by rfl)))
                                                    · replace h := ifF c181 h
                                                      cases h
                                                      exact TL.nil (X.as (d := 120) (v' := .bool true) rfl (congrArg Value.bool (bn_t (decide_eq_false c181))) (X.jq [0, 0, 0, 0, 0, 0, 0, 0, 0] ⟨rfl, rfl⟩ (by rfl) (by rfl)))
                                                  · replace h := ifF c179 h
                                                    refine TL.run ft_cursitortop_ok [32] rfl rfl ?_
                                                    refine TL.no rfl (.gn rfl rfl (bn_t (decide_eq_false c179))) rfl ?_
                                                    refine TL.no rfl (.gn rfl rfl (bn_t (decide_eq_false c179))) rfl ?_
                                                    refine TL.no rfl (.gn rfl rfl (bn_t (decide_eq_false c179))) rfl ?_
                                                    refine TL.no rfl (.gn rfl rfl (bn_t (decide_eq_false c179))) rfl ?_
                                                    refine TL.no rfl (.gn rfl rfl (bn_t (decide_eq_false c179))) rfl ?_
                                                    refine TL.no rfl (.gn rfl rfl (bn_t (decide_eq_false c179))) rfl ?_
                                                    refine TL.q rfl .u (Ex.py rfl (bn_t (decide_eq_false c179)) rfl) rfl ?_
                                                    cases h
                                                    exact TL.nil (X.jq [0, 0, 0, 0, 0, 0, 0, 0, 0] ⟨rfl, rfl⟩ (by rfl) (by rfl))
                                                · replace h := ifF c178 h
                                                  refine TL.run ft_cursitortop_ok [28] rfl rfl ?_
                                                  refine TL.no rfl (.gn rfl rfl (bn_t (decide_eq_false c178))) rfl ?_
                                                  refine TL.no rfl (.gn rfl rfl (bn_t (decide_eq_false c178))) rfl ?_
                                                  refine TL.q rfl .u (Ex.py rfl (bn_t (decide_eq_false c178)) rfl) rfl ?_
                                                  refine TL.run ft_cursitortop_ok [32] rfl rfl ?_
                                                  refine TL.no rfl (.gn rfl rfl rfl) rfl ?_
                                                  refine TL.no rfl (.gn rfl rfl rfl) rfl ?_
                                                  refine TL.no rfl (.gn rfl rfl rfl) rfl ?_
                                                  refine TL.no rfl (.gn rfl rfl rfl) rfl ?_
                                                  refine TL.no rfl (.gn rfl rfl rfl) rfl ?_
                                                  refine TL.no rfl (.gn rfl rfl rfl) rfl ?_
                                                  refine TL.q rfl .u (Ex.py rfl rfl rfl) rfl ?_
                                                  cases h
                                                  exact TL.nil (X.jq [0, 0, 0, 0, 0, 0, 0, 0, 0] ⟨rfl, rfl⟩ (by rfl) (by rfl))
                                          · replace h := ifF c168 h
                                            replace c168 := eq_false_of_ne_true c168
                                            refine TL.q rfl (.g rfl rfl rfl) (Ex.bNe rfl c167 rfl c168 Try.runUnderlying4) rfl ?_
                                            refine TL.q rfl .u (Ex.pn rfl rfl rfl) rfl ?_
                                            refine TL.run ft_cursitortop_ok [15] rfl rfl ?_
                                            refine TL.no rfl (.gn rfl rfl rfl) rfl ?_
                                            refine TL.no rfl (.gn rfl rfl rfl) rfl ?_
                                            refine TL.no rfl (.gn rfl rfl rfl) rfl ?_
                                            refine TL.no rfl (.gn rfl rfl rfl) rfl ?_
                                            refine TL.q rfl .u (Ex.py rfl rfl rfl) rfl ?_
                                            refine TL.run ft_cursitortop_ok [21] rfl rfl ?_
                                            refine TL.no rfl (.gn rfl rfl rfl) rfl ?_
                                            refine TL.no rfl (.gn rfl rfl rfl) rfl ?_
                                            refine TL.no rfl (.gn rfl rfl rfl) rfl ?_
                                            refine TL.no rfl (.gn rfl rfl rfl) rfl ?_
                                            refine TL.no rfl (.gn rfl rfl rfl) rfl ?_
                                            refine TL.q rfl .u (Ex.py rfl rfl rfl) rfl ?_
                                            refine TL.run ft_cursitortop_ok [28] rfl rfl ?_
                                            refine TL.no rfl (.gn rfl rfl rfl) rfl ?_
                                            refine TL.no rfl (.gn rfl rfl rfl) rfl ?_
                                            refine TL.q rfl .u (Ex.py rfl rfl rfl) rfl ?_
                                            refine TL.run ft_cursitortop_ok [32] rfl rfl ?_
                                            refine TL.no rfl (.gn rfl rfl rfl) rfl ?_
                                            refine TL.no rfl (.gn rfl rfl rfl) rfl ?_
                                            refine TL.no rfl (.gn rfl rfl rfl) rfl ?_
                                            refine TL.no rfl (.gn rfl rfl rfl) rfl ?_
                                            refine TL.no rfl (.gn rfl rfl rfl) rfl ?_
                                            refine TL.no rfl (.gn rfl rfl rfl) rfl ?_
                                            refine TL.q rfl .u (Ex.py rfl rfl rfl) rfl ?_
                                            cases h
                                            exact TL.nil (X.jq [0, 0, 0, 0, 0, 0, 0, 0, 0] ⟨rfl, rfl⟩ (by rfl) (by rfl))
                                        · replace h := ifF c167 h
                                          replace c167 := eq_false_of_ne_true c167
                                          by_cases c182 : a0.2.1 = true
                                          · replace h := ifT c182 h
                                            refine TL.q rfl (.g rfl rfl rfl) (Ex.bNe rfl c167 rfl c182 Try.runUnderlying4) rfl ?_
                                            refine TL.q rfl .u (Ex.pn rfl rfl rfl) rfl ?_
                                            refine TL.run ft_cursitortop_ok [15] rfl rfl ?_
                                            refine TL.no rfl (.gn rfl rfl rfl) rfl ?_
                                            refine TL.no rfl (.gn rfl rfl rfl) rfl ?_
                                            refine TL.no rfl (.gn rfl rfl rfl) rfl ?_
                                            refine TL.no rfl (.gn rfl rfl rfl) rfl ?_
                                            refine TL.q rfl .u (Ex.py rfl rfl rfl) rfl ?_
                                            refine TL.run ft_cursitortop_ok [21] rfl rfl ?_
                                            refine TL.no rfl (.gn rfl rfl rfl) rfl ?_
                                            refine TL.no rfl (.gn rfl rfl rfl) rfl ?_
                                            refine TL.no rfl (.gn rfl rfl rfl) rfl ?_
                                            refine TL.no rfl (.gn rfl rfl rfl) rfl ?_
                                            refine TL.no rfl (.gn rfl rfl rfl) rfl ?_
                                            refine TL.q rfl .u (Ex.py rfl rfl rfl) rfl ?_
                                            refine TL.run ft_cursitortop_ok [28] rfl rfl ?_
                                            refine TL.no rfl (.gn rfl rfl rfl) rfl ?_
                                            refine TL.no rfl (.gn rfl rfl rfl) rfl ?_
                                            refine TL.q rfl .u (Ex.py rfl rfl rfl) rfl ?_
                                            refine TL.run ft_cursitortop_ok [32] rfl rfl ?_
                                            refine TL.no rfl (.gn rfl rfl rfl) rfl ?_
                                            refine TL.no rfl (.gn rfl rfl rfl) rfl ?_
                                            refine TL.no rfl (.gn rfl rfl rfl) rfl ?_
                                            refine TL.no rfl (.gn rfl rfl rfl) rfl ?_
                                            refine TL.no rfl (.gn rfl rfl rfl) rfl ?_
                                            refine TL.no rfl (.gn rfl rfl rfl) rfl ?_
                                            refine TL.q rfl .u (Ex.py rfl rfl rfl) rfl ?_
                                            cases h
                                            exact TL.nil (X.jq [0, 0, 0, 0, 0, 0, 0, 0, 0] ⟨rfl, rfl⟩ (by rfl) (by rfl))
                                          · replace h := ifF c182 h
                                            replace c182 := eq_false_of_ne_true c182
                                            refine TL.q rfl (.g rfl rfl rfl) (Ex.bNe rfl c167 rfl c182 Try.runUnderlying4) rfl ?_
                                            refine TL.q rfl .u (Ex.pn rfl rfl rfl) rfl ?_
                                            refine TL.run ft_cursitortop_ok [15] rfl rfl ?_
                                            refine TL.q rfl (.g rfl rfl rfl) (Ex.ft ft_cursitortop_ok rfl) rfl ?_
                                            refine TL.q rfl (.g rfl rfl rfl) (Ex.ixP (k := 2) rfl rfl rfl Try.runUnderlying112 Try.sizeOf4 (by decide)) rfl ?_
                                            refine TL.q rfl (.g rfl rfl rfl) (Ex.b1 7 rfl Try.isAgg4 rfl rfl) rfl ?_
                                            by_cases c183 : x38 = true
                                            · replace h := ifT c183 h
                                              by_cases c184 : a0.2.2 = true
                                              · replace h := ifT c184 h
                                                refine TL.q rfl (.g rfl rfl rfl) (Ex.bNe rfl c183 rfl c184 Try.runUnderlying4) rfl ?_
                                                refine TL.q rfl .u (Ex.pn rfl rfl rfl) rfl ?_
                                                refine TL.run ft_cursitortop_ok [21] rfl rfl ?_
                                                refine TL.q rfl (.g rfl rfl rfl) (Ex.ft ft_cursitortop_ok rfl) rfl ?_
                                                refine TL.q rfl (.g rfl rfl rfl) (Ex.ft ft_cursitortop_ok rfl) rfl ?_
                                                refine TL.q rfl (.g rfl rfl rfl) (Ex.b1 6 rfl Try.isAgg3 rfl rfl) rfl ?_
                                                replace h := guard_some h
                                                obtain ⟨c185, h⟩ := h
                                                refine TL.q rfl (.g rfl rfl rfl) (Ex.add rfl rfl c185) rfl ?_
                                                refine TL.q rfl (.g rfl rfl rfl) (Ex.ft ft_cursitortop_ok rfl) rfl ?_
                                                refine TL.q rfl .u (Ex.pn rfl rfl rfl) rfl ?_
                                                by_cases c186 : x53 = (a1.fLength + 12)
                                                · replace h := ifT c186 h
                                                  refine TL.run ft_cursitortop_ok [28] rfl rfl ?_
                                                  refine TL.q rfl (.g rfl rfl (bn_f (decide_eq_true c186))) (Ex.ft ft_cursitortop_ok rfl) rfl ?_
                                                  refine TL.q rfl (.g rfl rfl (bn_f (decide_eq_true c186))) (Ex.ft ft_cursitortop_ok rfl) rfl ?_
                                                  refine TL.q rfl .u (Ex.pn rfl (bn_f (decide_eq_true c186)) rfl) rfl ?_
                                                  by_cases c187 : x54 = 0
                                                  · replace h := ifT c187 h
                                                    refine TL.run ft_cursitortop_ok [32] rfl rfl ?_
                                                    refine TL.q rfl (.g rfl rfl (bn_f (decide_eq_true c187))) (Ex.ft ft_cursitortop_ok rfl) rfl ?_
                                                    refine TL.q rfl (.g rfl rfl (bn_f (decide_eq_true c187))) (Ex.b1 0 rfl Try.isAgg3 rfl rfl) rfl ?_
                                                    refine TL.q rfl (.g rfl rfl (bn_f (decide_eq_true c187))) (Ex.ft ft_cursitortop_ok rfl) rfl ?_
                                                    refine TL.q rfl (.g rfl rfl (bn_f (decide_eq_true c187))) (Ex.conv rfl Try.runUnderlying79 Try.runUnderlying120) rfl ?_
                                                    replace h := guard_some h
                                                    obtain ⟨c188, h⟩ := h
                                                    refine TL.q rfl (.g rfl rfl (bn_f (decide_eq_true c187))) (Ex.conv64 rfl Try.runUnderlying120 Try.runUnderlying3 c188) rfl ?_
                                                    refine TL.q rfl (.g rfl rfl (bn_f (decide_eq_true c187))) (Ex.ft ft_cursitortop_ok rfl) rfl ?_
                                                    refine TL.q rfl .u (Ex.pn rfl (bn_f (decide_eq_true c187)) rfl) rfl ?_
                                                    by_cases c189 : x49.fAttr = (IntKind.i16.wrap a2)
                                                    · replace h := ifT c189 h
                                                      cases h
                                                      exact TL.nil (X.as (d := 120) (v' := .bool false) rfl (congrArg Value.bool (bn_f (decide_eq_true c189))) (X.jq [0, 0, 0, 0, 0, 0, 0, 0, 0] ⟨rfl, rfl⟩ (by rfl) (by rfl)))
                                                    · replace h := ifF c189 h
                                                      cases h
                                                      exact TL.nil (X.as (d := 120) (v' := .bool true) rfl (congrArg Value.bool (bn_t (decide_eq_false c189))) (X.jq [0, 0, 0, 0, 0, 0, 0, 0, 0] ⟨rfl, rfl⟩ (by rfl) (by rfl)))
                                                  · replace h := ifF c187 h
                                                    refine TL.run ft_cursitortop_ok [32] rfl rfl ?_
                                                    refine TL.no rfl (.gn rfl rfl (bn_t (decide_eq_false c187))) rfl ?_
                                                    refine TL.no rfl (.gn rfl rfl (bn_t (decide_eq_false c187))) rfl ?_
                                                    refine TL.no rfl (.gn rfl rfl (bn_t (decide_eq_false c187))) rfl ?_
                                                    refine TL.no rfl (.gn rfl rfl (bn_t (decide_eq_false c187))) rfl ?_
                                                    refine TL.no rfl (.gn rfl rfl (bn_t (decide_eq_false c187))) rfl ?_
                                                    refine TL.no rfl (.gn rfl rfl (bn_t (decide_eq_false c187))) rfl ?_
                                                    refine TL.q rfl .u (Ex.py rfl (bn_t (decide_eq_false c187)) rfl) rfl ?_
                                                    cases h
                                                    exact TL.nil (X.jq [0, 0, 0, 0, 0, 0, 0, 0, 0] ⟨rfl, rfl⟩ (by rfl) (by rfl))
                                                · replace h := ifF c186 h
                                                  refine TL.run ft_cursitortop_ok [28] rfl rfl ?_
                                                  refine TL.no rfl (.gn rfl rfl (bn_t (decide_eq_false c186))) rfl ?_
                                                  refine TL.no rfl (.gn rfl rfl (bn_t (decide_eq_false c186))) rfl ?_
                                                  refine TL.q rfl .u (Ex.py rfl (bn_t (decide_eq_false c186)) rfl) rfl ?_
                                                  refine TL.run ft_cursitortop_ok [32] rfl rfl ?_
                                                  refine TL.no rfl (.gn rfl rfl rfl) rfl ?_
                                                  refine TL.no rfl (.gn rfl rfl rfl) rfl ?_
                                                  refine TL.no rfl (.gn rfl rfl rfl) rfl ?_
                                                  refine TL.no rfl (.gn rfl rfl rfl) rfl ?_
                                                  refine TL.no rfl (.gn rfl rfl rfl) rfl ?_
                                                  refine TL.no rfl (.gn rfl rfl rfl) rfl ?_
                                                  refine TL.q rfl .u (Ex.py rfl rfl rfl) rfl ?_
                                                  cases h
                                                  exact TL.nil (X.jq [0, 0, 0, 0, 0, 0, 0, 0, 0] ⟨rfl, rfl⟩ (by rfl) (by rfl))
                                              · replace h := ifF c184 h
                                                replace c184 := eq_false_of_ne_true c184
                                                refine TL.q rfl (.g rfl rfl rfl) (Ex.bNe rfl c183 rfl c184 Try.runUnderlying4) rfl ?_
                                                refine TL.q rfl .u (Ex.pn rfl rfl rfl) rfl ?_
                                                refine TL.run ft_cursitortop_ok [21] rfl rfl ?_
                                                refine TL.no rfl (.gn rfl rfl rfl) rfl ?_
                                                refine TL.no rfl (.gn rfl rfl rfl) rfl ?_
                                                refine TL.no rfl (.gn rfl rfl rfl) rfl ?_
                                                refine TL.no rfl (.gn rfl rfl rfl) rfl ?_
                                                refine TL.no rfl (.gn rfl rfl rfl) rfl ?_
                                                refine TL.q rfl .u (Ex.py rfl rfl rfl) rfl ?_
                                                refine TL.run ft_cursitortop_ok [28] rfl rfl ?_
                                                refine TL.no rfl (.gn rfl rfl rfl) rfl ?_
                                                refine TL.no rfl (.gn rfl rfl rfl) rfl ?_
                                                refine TL.q rfl .u (Ex.py rfl rfl rfl) rfl ?_
                                                refine TL.run ft_cursitortop_ok [32] rfl rfl ?_
                                                refine TL.no rfl (.gn rfl rfl rfl) rfl ?_
                                                refine TL.no rfl (.gn rfl rfl rfl) rfl ?_
                                                refine TL.no rfl (.gn rfl rfl rfl) rfl ?_
                                                refine TL.no rfl (.gn rfl rfl rfl) rfl ?_
                                                refine TL.no rfl (.gn rfl rfl rfl) rfl ?_
                                                refine TL.no rfl (.gn rfl rfl rfl) rfl ?_
                                                refine TL.q rfl .u (Ex.py rfl rfl rfl) rfl ?_
                                                cases h
                                                exact TL.nil (X.jq [0, 0, 0, 0, 0, 0, 0, 0, 0] ⟨rfl, rfl⟩ (by rfl) (by rfl))
                                            · replace h := ifF c183 h
                                              replace c183 := eq_false_of_ne_true c183
                                              by_cases c190 : a0.2.2 = true
                                              · replace h := ifT c190 h
                                                refine TL.q rfl (.g rfl rfl rfl) (Ex.bNe rfl c183 rfl c190 Try.runUnderlying4) rfl ?_
                                                refine TL.q rfl .u (Ex.pn rfl rfl rfl) rfl ?_
                                                refine TL.run ft_cursitortop_ok [21] rfl rfl ?_
                                                refine TL.no rfl (.gn rfl rfl rfl) rfl ?_
                                                refine TL.no rfl (.gn rfl rfl rfl) rfl ?_
                                                refine TL.no rfl (.gn rfl rfl rfl) rfl ?_
                                                refine TL.no rfl (.gn rfl rfl rfl) rfl ?_
                                                refine TL.no rfl (.gn rfl rfl rfl) rfl ?_
                                                refine TL.q rfl .u (Ex.py rfl rfl rfl) rfl ?_
                                                refine TL.run ft_cursitortop_ok [28] rfl rfl ?_
                                                refine TL.no rfl (.gn rfl rfl rfl) rfl ?_
                                                refine TL.no rfl (.gn rfl rfl rfl) rfl ?_
                                                refine TL.q rfl .u (Ex.py rfl rfl rfl) rfl ?_
                                                refine TL.run ft_cursitortop_ok [32] rfl rfl ?_
                                                refine TL.no rfl (.gn rfl rfl rfl) rfl ?_
                                                refine TL.no rfl (.gn rfl rfl rfl) rfl ?_
                                                refine TL.no rfl (.gn rfl rfl rfl) rfl ?_
                                                refine TL.no rfl (.gn rfl rfl rfl) rfl ?_
                                                refine TL.no rfl (.gn rfl rfl rfl) rfl ?_
                                                refine TL.no rfl (.gn rfl rfl rfl) rfl ?_
                                                refine TL.q rfl .u (Ex.py rfl rfl rfl) rfl ?_
                                                cases h
                                                exact TL.nil (X.jq [0, 0, 0, 0, 0, 0, 0, 0, 0] ⟨rfl, rfl⟩ (by rfl) (by rfl))
                                              · replace h := ifF c190 h
                                                replace c190 := eq_false_of_ne_true c190
                                                refine TL.q rfl (.g rfl rfl rfl) (Ex.bNe rfl c183 rfl c190 Try.runUnderlying4) rfl ?_
                                                refine TL.q rfl .u (Ex.pn rfl rfl rfl) rfl ?_
                                                refine TL.run ft_cursitortop_ok [21] rfl rfl ?_
                                                refine TL.q rfl (.g rfl rfl rfl) (Ex.ft ft_cursitortop_ok rfl) rfl ?_
                                                refine TL.q rfl (.g rfl rfl rfl) (Ex.ft ft_cursitortop_ok rfl) rfl ?_
                                                refine TL.q rfl (.g rfl rfl rfl) (Ex.b1 6 rfl Try.isAgg3 rfl rfl) rfl ?_
                                                replace h := guard_some h
                                                obtain ⟨c191, h⟩ := h
                                                refine TL.q rfl (.g rfl rfl rfl) (Ex.add rfl rfl c191) rfl ?_
                                                refine TL.q rfl (.g rfl rfl rfl) (Ex.ft ft_cursitortop_ok rfl) rfl ?_
                                                refine TL.q rfl .u (Ex.pn rfl rfl rfl) rfl ?_
                                                by_cases c192 : x53 = (a1.fLength + 12)
                                                · replace h := ifT c192 h
                                                  refine TL.run ft_cursitortop_ok [28] rfl rfl ?_
                                                  refine TL.q rfl (.g rfl rfl (bn_f (decide_eq_true c192))) (Ex.ft ft_cursitortop_ok rfl) rfl ?_
                                                  refine TL.q rfl (.g rfl rfl (bn_f (decide_eq_true c192))) (Ex.ft ft_cursitortop_ok rfl) rfl ?_
                                                  refine TL.q rfl .u (Ex.pn rfl (bn_f (decide_eq_true c192)) rfl) rfl ?_
                                                  by_cases c193 : x54 = 0
                                                  · replace h := ifT c193 h
                                                    refine TL.run ft_cursitortop_ok [32] rfl rfl ?_
                                                    refine TL.q rfl (.g rfl rfl (bn_f (decide_eq_true c193))) (Ex.ft ft_cursitortop_ok rfl) rfl ?_
                                                    refine TL.q rfl (.g rfl rfl (bn_f (decide_eq_true c193))) (Ex.b1 0 rfl Try.isAgg3 rfl rfl) rfl ?_
                                                    refine TL.q rfl (.g rfl rfl (bn_f (decide_eq_true c193))) (Ex.ft ft_cursitortop_ok rfl) rfl ?_
                                                    refine TL.q rfl (.g rfl rfl (bn_f (decide_eq_true c193))) (Ex.conv rfl Try.runUnderlying79 Try.runUnderlying120) rfl ?_
                                                    replace h := guard_some h
                                                    obtain ⟨c194, h⟩ := h
                                                    refine TL.q rfl (.g rfl rfl (bn_f (decide_eq_true c193))) (Ex.conv64 rfl Try.runUnderlying120 Try.runUnderlying3 c194) rfl ?_
                                                    refine TL.q rfl (.g rfl rfl (bn_f (decide_eq_true c193))) (Ex.ft ft_cursitortop_ok rfl) rfl ?_
                                                    refine TL.q rfl .u (Ex.pn rfl (bn_f (decide_eq_true c193)) rfl) rfl ?_
                                                    by_cases c195 : x49.fAttr = (IntKind.i16.wrap a2)
                                                    · replace h := ifT c195 h
                                                      cases h
                                                      exact TL.nil (X.as (d := 120) (v' := .bool false) rfl (congrArg Value.bool (bn_f (decide_eq_true c195))) (X.jq [0, 0, 0, 0, 0, 0, 0, 0, 0] ⟨rfl, rfl⟩ (by rfl) (by rfl)))
                                                    · replace h := ifF c195 h
                                                      cases h
                                                      exact TL.nil (X.as (d := 120) (v' := .bool true) rfl (congrArg Value.bool (bn_t (decide_eq_false c195))) (X.jq [0, 0, 0, 0, 0, 0, 0, 0, 0] ⟨rfl, rfl⟩ (by rfl) (by rfl)))
                                                  · replace h := ifF c193 h
                                                    refine TL.run ft_cursitortop_ok [32] rfl rfl ?_
                                                    refine TL.no rfl (.gn rfl rfl (bn_t (decide_eq_false c193))) rfl ?_
                                                    refine TL.no rfl (.gn rfl rfl (bn_t (decide_eq_false c193))) rfl ?_
                                                    refine TL.no rfl (.gn rfl rfl (bn_t (decide_eq_false c193))) rfl ?_
                                                    refine TL.no rfl (.gn rfl rfl (bn_t (decide_eq_false c193))) rfl ?_
                                                    refine TL.no rfl (.gn rfl rfl (bn_t (decide_eq_false c193))) rfl ?_
                                                    refine TL.no rfl (.gn rfl rfl (bn_t (decide_eq_false c193))) rfl ?_
                                                    refine TL.q rfl .u (Ex.py rfl (bn_t (decide_eq_false c193)) rfl) rfl ?_
                                                    cases h
                                                    exact TL.nil (X.jq [0, 0, 0, 0, 0, 0, 0, 0, 0] ⟨rfl, rfl⟩ (by rfl) (by rfl))
                                                · replace h := ifF c192 h
                                                  refine TL.run ft_cursitortop_ok [28] rfl rfl ?_
                                                  refine TL.no rfl (.gn rfl rfl (bn_t (decide_eq_false c192))) rfl ?_
                                                  refine TL.no rfl (.gn rfl rfl (bn_t (decide_eq_false c192))) rfl ?_
                                                  refine TL.q rfl .u (Ex.py rfl (bn_t (decide_eq_false c192)) rfl) rfl ?_
                                                  refine TL.run ft_cursitortop_ok [32] rfl rfl ?_
                                                  refine TL.no rfl (.gn rfl rfl rfl) rfl ?_
                                                  refine TL.no rfl (.gn rfl rfl rfl) rfl ?_
                                                  refine TL.no rfl (.gn rfl rfl rfl) rfl ?_
                                                  refine TL.no rfl (.gn rfl rfl rfl) rfl ?_
                                                  refine TL.no rfl (.gn rfl rfl rfl) rfl ?_
                                                  refine TL.no rfl (.gn rfl rfl rfl) rfl ?_
                                                  refine TL.q rfl .u (Ex.py rfl rfl rfl) rfl ?_
                                                  cases h
                                                  exact TL.nil (X.jq [0, 0, 0, 0, 0, 0, 0, 0, 0] ⟨rfl, rfl⟩ (by rfl) (by rfl))
                                  · replace h := ifF c134 h
                                    refine TL.q rfl .u (Ex.aNe (us := [.int .i64 x32.fBase, .int .i64 x32.fLength, .int .i64 x32.fLeader, .int .i64 x32.fSum, .int .i64 x32.fAttr, .int .i64 x32.fLast, .int .i64 x32.fFirst, .int .i64 x32.fMax, .int .i64 x32.fProducer, .int .i64 x32.fEpoch, .int .i64 x32.fSequence, .int .i64 x32.fCount]) (vs := [.int .i64 a1.fBase, .int .i64 a1.fLength, .int .i64 a1.fLeader, .int .i64 a1.fSum, .int .i64 x12, .int .i64 a1.fLast, .int .i64 a1.fFirst, .int .i64 a1.fMax, .int .i64 a1.fProducer, .int .i64 a1.fEpoch, .int .i64 a1.fSequence, .int .i64 a1.fCount]) flat_cursitortop_38 rfl Try.eqGuardType38 rfl rfl rfl rfl (eqL_t (eqV_i c123) (eqL_t (eqV_i c124) (eqL_t (eqV_i c125) (eqL_t (eqV_i c126) (eqL_t (eqV_i c127) (eqL_t (eqV_i c128) (eqL_t (eqV_i c129) (eqL_t (eqV_i c130) (eqL_t (eqV_i c131) (eqL_t (eqV_i c132) (eqL_t (eqV_i c133) (eqL_f (eqV_in c134)))))))))))))) rfl ?_
                                    refine TL.run ft_cursitortop_ok [3] rfl rfl ?_
                                    refine TL.no rfl (.gn rfl rfl rfl) rfl ?_
                                    refine TL.no rfl (.gn rfl rfl rfl) rfl ?_
                                    refine TL.no rfl (.gn rfl rfl rfl) rfl ?_
                                    refine TL.no rfl (.gn rfl rfl rfl) rfl ?_
                                    refine TL.q rfl .u (Ex.py rfl rfl rfl) rfl ?_
                                    refine TL.run ft_cursitortop_ok [9] rfl rfl ?_
                                    refine TL.no rfl (.gn rfl rfl rfl) rfl ?_
                                    refine TL.no rfl (.gn rfl rfl rfl) rfl ?_
                                    refine TL.no rfl (.gn rfl rfl rfl) rfl ?_
                                    refine TL.no rfl (.gn rfl rfl rfl) rfl ?_
                                    refine TL.q rfl .u (Ex.py rfl rfl rfl) rfl ?_
                                    refine TL.run ft_cursitortop_ok [15] rfl rfl ?_
                                    refine TL.no rfl (.gn rfl rfl rfl) rfl ?_
                                    refine TL.no rfl (.gn rfl rfl rfl) rfl ?_
                                    refine TL.no rfl (.gn rfl rfl rfl) rfl ?_
                                    refine TL.no rfl (.gn rfl rfl rfl) rfl ?_
                                    refine TL.q rfl .u (Ex.py rfl rfl rfl) rfl ?_
                                    refine TL.run ft_cursitortop_ok [21] rfl rfl ?_
                                    refine TL.no rfl (.gn rfl rfl rfl) rfl ?_
                                    refine TL.no rfl (.gn rfl rfl rfl) rfl ?_
                                    refine TL.no rfl (.gn rfl rfl rfl) rfl ?_
                                    refine TL.no rfl (.gn rfl rfl rfl) rfl ?_
                                    refine TL.no rfl (.gn rfl rfl rfl) rfl ?_
                                    refine TL.q rfl .u (Ex.py rfl rfl rfl) rfl ?_
                                    refine TL.run ft_cursitortop_ok [28] rfl rfl ?_
                                    refine TL.no rfl (.gn rfl rfl rfl) rfl ?_
                                    refine TL.no rfl (.gn rfl rfl rfl) rfl ?_
                                    refine TL.q rfl .u (Ex.py rfl rfl rfl) rfl ?_
                                    refine TL.run ft_cursitortop_ok [32] rfl rfl ?_
                                    refine TL.no rfl (.gn rfl rfl rfl) rfl ?_
                                    refine TL.no rfl (.gn rfl rfl rfl) rfl ?_
                                    refine TL.no rfl (.gn rfl rfl rfl) rfl ?_
                                    refine TL.no rfl (.gn rfl rfl rfl) rfl ?_
                                    refine TL.no rfl (.gn rfl rfl rfl) rfl ?_
                                    refine TL.no rfl (.gn rfl rfl rfl) rfl ?_
                                    refine TL.q rfl .u (Ex.py rfl rfl rfl) rfl ?_
                                    cases h
                                    exact TL.nil (X.jq [0, 0, 0, 0, 0, 0, 0, 0, 0] ⟨rfl, rfl⟩ (by rfl) (by rfl))
                                · replace h := ifF c133 h
                                  refine TL.q rfl .u (Ex.aNe (us := [.int .i64 x32.fBase, .int .i64 x32.fLength, .int .i64 x32.fLeader, .int .i64 x32.fSum, .int .i64 x32.fAttr, .int .i64 x32.fLast, .int .i64 x32.fFirst, .int .i64 x32.fMax, .int .i64 x32.fProducer, .int .i64 x32.fEpoch, .int .i64 x32.fSequence, .int .i64 x32.fCount]) (vs := [.int .i64 a1.fBase, .int .i64 a1.fLength, .int .i64 a1.fLeader, .int .i64 a1.fSum, .int .i64 x12, .int .i64 a1.fLast, .int .i64 a1.fFirst, .int .i64 a1.fMax, .int .i64 a1.fProducer, .int .i64 a1.fEpoch, .int .i64 a1.fSequence, .int .i64 a1.fCount]) flat_cursitortop_38 rfl Try.eqGuardType38 rfl rfl rfl rfl (eqL_t (eqV_i c123) (eqL_t (eqV_i c124) (eqL_t (eqV_i c125) (eqL_t (eqV_i c126) (eqL_t (eqV_i c127) (eqL_t (eqV_i c128) (eqL_t (eqV_i c129) (eqL_t (eqV_i c130) (eqL_t (eqV_i c131) (eqL_t (eqV_i c132) (eqL_f (eqV_in c133))))))))))))) rfl ?_
                                  refine TL.run ft_cursitortop_ok [3] rfl rfl ?_
                                  refine TL.no rfl (.gn rfl rfl rfl) rfl ?_
                                  refine TL.no rfl (.gn rfl rfl rfl) rfl ?_
                                  refine TL.no rfl (.gn rfl rfl rfl) rfl ?_
                                  refine TL.no rfl (.gn rfl rfl rfl) rfl ?_
                                  refine TL.q rfl .u (Ex.py rfl rfl rfl) rfl ?_
                                  refine TL.run ft_cursitortop_ok [9] rfl rfl ?_
                                  refine TL.no rfl (.gn rfl rfl rfl) rfl ?_
                                  refine TL.no rfl (.gn rfl rfl rfl) rfl ?_
                                  refine TL.no rfl (.gn rfl rfl rfl) rfl ?_
                                  refine TL.no rfl (.gn rfl rfl rfl) rfl ?_
                                  refine TL.q rfl .u (Ex.py rfl rfl rfl) rfl ?_
                                  refine TL.run ft_cursitortop_ok [15] rfl rfl ?_
                                  refine TL.no rfl (.gn rfl rfl rfl) rfl ?_
                                  refine TL.no rfl (.gn rfl rfl rfl) rfl ?_
                                  refine TL.no rfl (.gn rfl rfl rfl) rfl ?_
                                  refine TL.no rfl (.gn rfl rfl rfl) rfl ?_
                                  refine TL.q rfl .u (Ex.py rfl rfl rfl) rfl ?_
                                  refine TL.run ft_cursitortop_ok [21] rfl rfl ?_
                                  refine TL.no rfl (.gn rfl rfl rfl) rfl ?_
                                  refine TL.no rfl (.gn rfl rfl rfl) rfl ?_
                                  refine TL.no rfl (.gn rfl rfl rfl) rfl ?_
                                  refine TL.no rfl (.gn rfl rfl rfl) rfl ?_
                                  refine TL.no rfl (.gn rfl rfl rfl) rfl ?_
                                  refine TL.q rfl .u (Ex.py rfl rfl rfl) rfl ?_
                                  refine TL.run ft_cursitortop_ok [28] rfl rfl ?_
                                  refine TL.no rfl (.gn rfl rfl rfl) rfl ?_
                                  refine TL.no rfl (.gn rfl rfl rfl) rfl ?_
                                  refine TL.q rfl .u (Ex.py rfl rfl rfl) rfl ?_
                                  refine TL.run ft_cursitortop_ok [32] rfl rfl ?_
                                  refine TL.no rfl (.gn rfl rfl rfl) rfl ?_
                                  refine TL.no rfl (.gn rfl rfl rfl) rfl ?_
                                  refine TL.no rfl (.gn rfl rfl rfl) rfl ?_
                                  refine TL.no rfl (.gn rfl rfl rfl) rfl ?_
                                  refine TL.no rfl (.gn rfl rfl rfl) rfl ?_
                                  refine TL.no rfl (.gn rfl rfl rfl) rfl ?_
                                  refine TL.q rfl .u (Ex.py rfl rfl rfl) rfl ?_
                                  cases h
                                  exact TL.nil (X.jq [0, 0, 0, 0, 0, 0, 0, 0, 0] ⟨rfl, rfl⟩ (by rfl) (by rfl))
                              · replace h := ifF c132 h
                                refine TL.q rfl .u (Ex.aNe (us := [.int .i64 x32.fBase, .int .i64 x32.fLength, .int .i64 x32.fLeader, .int .i64 x32.fSum, .int .i64 x32.fAttr, .int .i64 x32.fLast, .int .i64 x32.fFirst, .int .i64 x32.fMax, .int .i64 x32.fProducer, .int .i64 x32.fEpoch, .int .i64 x32.fSequence, .int .i64 x32.fCount]) (vs := [.int .i64 a1.fBase, .int .i64 a1.fLength, .int .i64 a1.fLeader, .int .i64 a1.fSum, .int .i64 x12, .int .i64 a1.fLast, .int .i64 a1.fFirst, .int .i64 a1.fMax, .int .i64 a1.fProducer, .int .i64 a1.fEpoch, .int .i64 a1.fSequence, .int .i64 a1.fCount]) flat_cursitortop_38 rfl Try.eqGuardType38 rfl rfl rfl rfl (eqL_t (eqV_i c123) (eqL_t (eqV_i c124) (eqL_t (eqV_i c125) (eqL_t (eqV_i c126) (eqL_t (eqV_i c127) (eqL_t (eqV_i c128) (eqL_t (eqV_i c129) (eqL_t (eqV_i c130) (eqL_t (eqV_i c131) (eqL_f (eqV_in c132)))))))))))) rfl ?_
                                refine TL.run ft_cursitortop_ok [3] rfl rfl ?_
                                refine TL.no rfl (.gn rfl rfl rfl) rfl ?_
                                refine TL.no rfl (.gn rfl rfl rfl) rfl ?_
                                refine TL.no rfl (.gn rfl rfl rfl) rfl ?_
                                refine TL.no rfl (.gn rfl rfl rfl) rfl ?_
                                refine TL.q rfl .u (Ex.py rfl rfl rfl) rfl ?_
                                refine TL.run ft_cursitortop_ok [9] rfl rfl ?_
                                refine TL.no rfl (.gn rfl rfl rfl) rfl ?_
                                refine TL.no rfl (.gn rfl rfl rfl) rfl ?_
                                refine TL.no rfl (.gn rfl rfl rfl) rfl ?_
                                refine TL.no rfl (.gn rfl rfl rfl) rfl ?_
                                refine TL.q rfl .u (Ex.py rfl rfl rfl) rfl ?_
                                refine TL.run ft_cursitortop_ok [15] rfl rfl ?_
                                refine TL.no rfl (.gn rfl rfl rfl) rfl ?_
                                refine TL.no rfl (.gn rfl rfl rfl) rfl ?_
                                refine TL.no rfl (.gn rfl rfl rfl) rfl ?_
                                refine TL.no rfl (.gn rfl rfl rfl) rfl ?_
                                refine TL.q rfl .u (Ex.py rfl rfl rfl) rfl ?_
                                refine TL.run ft_cursitortop_ok [21] rfl rfl ?_
                                refine TL.no rfl (.gn rfl rfl rfl) rfl ?_
                                refine TL.no rfl (.gn rfl rfl rfl) rfl ?_
                                refine TL.no rfl (.gn rfl rfl rfl) rfl ?_
                                refine TL.no rfl (.gn rfl rfl rfl) rfl ?_
                                refine TL.no rfl (.gn rfl rfl rfl) rfl ?_
                                refine TL.q rfl .u (Ex.py rfl rfl rfl) rfl ?_
                                refine TL.run ft_cursitortop_ok [28] rfl rfl ?_
                                refine TL.no rfl (.gn rfl rfl rfl) rfl ?_
                                refine TL.no rfl (.gn rfl rfl rfl) rfl ?_
                                refine TL.q rfl .u (Ex.py rfl rfl rfl) rfl ?_
                                refine TL.run ft_cursitortop_ok [32] rfl rfl ?_
                                refine TL.no rfl (.gn rfl rfl rfl) rfl ?_
                                refine TL.no rfl (.gn rfl rfl rfl) rfl ?_
                                refine TL.no rfl (.gn rfl rfl rfl) rfl ?_
                                refine TL.no rfl (.gn rfl rfl rfl) rfl ?_
                                refine TL.no rfl (.gn rfl rfl rfl) rfl ?_
                                refine TL.no rfl (.gn rfl rfl rfl) rfl ?_
                                refine TL.q rfl .u (Ex.py rfl rfl rfl) rfl ?_
                                cases h
                                exact TL.nil (X.jq [0, 0, 0, 0, 0, 0, 0, 0, 0] ⟨rfl, rfl⟩ (by rfl) (by rfl))
                            · replace h := ifF c131 h
                              refine TL.q rfl .u (Ex.aNe (us := [.int .i64 x32.fBase, .int .i64 x32.fLength, .int .i64 x32.fLeader, .int .i64 x32.fSum, .int .i64 x32.fAttr, .int .i64 x32.fLast, .int .i64 x32.fFirst, .int .i64 x32.fMax, .int .i64 x32.fProducer, .int .i64 x32.fEpoch, .int .i64 x32.fSequence, .int .i64 x32.fCount]) (vs := [.int .i64 a1.fBase, .int .i64 a1.fLength, .int .i64 a1.fLeader, .int .i64 a1.fSum, .int .i64 x12, .int .i64 a1.fLast, .int .i64 a1.fFirst, .int .i64 a1.fMax, .int .i64 a1.fProducer, .int .i64 a1.fEpoch, .int .i64 a1.fSequence, .int .i64 a1.fCount]) flat_cursitortop_38 rfl Try.eqGuardType38 rfl rfl rfl rfl (eqL_t (eqV_i c123) (eqL_t (eqV_i c124) (eqL_t (eqV_i c125) (eqL_t (eqV_i c126) (eqL_t (eqV_i c127) (eqL_t (eqV_i c128) (eqL_t (eqV_i c129) (eqL_t (eqV_i c130) (eqL_f (eqV_in c131))))))))))) rfl ?_
                              refine TL.run ft_cursitortop_ok [3] rfl rfl ?_
                              refine TL.no rfl (.gn rfl rfl rfl) rfl ?_
                              refine TL.no rfl (.gn rfl rfl rfl) rfl ?_
                              refine TL.no rfl (.gn rfl rfl rfl) rfl ?_
                              refine TL.no rfl (.gn rfl rfl rfl) rfl ?_
                              refine TL.q rfl .u (Ex.py rfl rfl rfl) rfl ?_
                              refine TL.run ft_cursitortop_ok [9] rfl rfl ?_
                              refine TL.no rfl (.gn rfl rfl rfl) rfl ?_
                              refine TL.no rfl (.gn rfl rfl rfl) rfl ?_
                              refine TL.no rfl (.gn rfl rfl rfl) rfl ?_
                              refine TL.no rfl (.gn rfl rfl rfl) rfl ?_
                              refine TL.q rfl .u (Ex.py rfl rfl rfl) rfl ?_
                              refine TL.run ft_cursitortop_ok [15] rfl rfl ?_
                              refine TL.no rfl (.gn rfl rfl rfl) rfl ?_
                              refine TL.no rfl (.gn rfl rfl rfl) rfl ?_
                              refine TL.no rfl (.gn rfl rfl rfl) rfl ?_
                              refine TL.no rfl (.gn rfl rfl rfl) rfl ?_
                              refine TL.q rfl .u (Ex.py rfl rfl rfl) rfl ?_
                              refine TL.run ft_cursitortop_ok [21] rfl rfl ?_
                              refine TL.no rfl (.gn rfl rfl rfl) rfl ?_
                              refine TL.no rfl (.gn rfl rfl rfl) rfl ?_
                              refine TL.no rfl (.gn rfl rfl rfl) rfl ?_
                              refine TL.no rfl (.gn rfl rfl rfl) rfl ?_
                              refine TL.no rfl (.gn rfl rfl rfl) rfl ?_
                              refine TL.q rfl .u (Ex.py rfl rfl rfl) rfl ?_
                              refine TL.run ft_cursitortop_ok [28] rfl rfl ?_
                              refine TL.no rfl (.gn rfl rfl rfl) rfl ?_
                              refine TL.no rfl (.gn rfl rfl rfl) rfl ?_
                              refine TL.q rfl .u (Ex.py rfl rfl rfl) rfl ?_
                              refine TL.run ft_cursitortop_ok [32] rfl rfl ?_
                              refine TL.no rfl (.gn rfl rfl rfl) rfl ?_
                              refine TL.no rfl (.gn rfl rfl rfl) rfl ?_
                              refine TL.no rfl (.gn rfl rfl rfl) rfl ?_
                              refine TL.no rfl (.gn rfl rfl rfl) rfl ?_
                              refine TL.no rfl (.gn rfl rfl rfl) rfl ?_
                              refine TL.no rfl (.gn rfl rfl rfl) rfl ?_
                              refine TL.q rfl .u (Ex.py rfl rfl rfl) rfl ?_
                              cases h
                              exact TL.nil (X.jq [0, 0, 0, 0, 0, 0, 0, 0, 0] ⟨rfl, rfl⟩ (by rfl) (by rfl))
                          · replace h := ifF c130 h
                            refine TL.q rfl .u (Ex.aNe (us := [.int .i64 x32.fBase, .int .i64 x32.fLength, .int .i64 x32.fLeader, .int .i64 x32.fSum, .int .i64 x32.fAttr, .int .i64 x32.fLast, .int .i64 x32.fFirst, .int .i64 x32.fMax, .int .i64 x32.fProducer, .int .i64 x32.fEpoch, .int .i64 x32.fSequence, .int .i64 x32.fCount]) (vs := [.int .i64 a1.fBase, .int .i64 a1.fLength, .int .i64 a1.fLeader, .int .i64 a1.fSum, .int .i64 x12, .int .i64 a1.fLast, .int .i64 a1.fFirst, .int .i64 a1.fMax, .int .i64 a1.fProducer, .int .i64 a1.fEpoch, .int .i64 a1.fSequence, .int .i64 a1.fCount]) flat_cursitortop_38 rfl Try.eqGuardType38 rfl rfl rfl rfl (eqL_t (eqV_i c123) (eqL_t (eqV_i c124) (eqL_t (eqV_i c125) (eqL_t (eqV_i c126) (eqL_t (eqV_i c127) (eqL_t (eqV_i c128) (eqL_t (eqV_i c129) (eqL_f (eqV_in c130)))))))))) rfl ?_
                            refine TL.run ft_cursitortop_ok [3] rfl rfl ?_
                            refine TL.no rfl (.gn rfl rfl rfl) rfl ?_
                            refine TL.no rfl (.gn rfl rfl rfl) rfl ?_
                            refine TL.no rfl (.gn rfl rfl rfl) rfl ?_
                            refine TL.no rfl (.gn rfl rfl rfl) rfl ?_
                            refine TL.q rfl .u (Ex.py rfl rfl rfl) rfl ?_
                            refine TL.run ft_cursitortop_ok [9] rfl rfl ?_
                            refine TL.no rfl (.gn rfl rfl rfl) rfl ?_
                            refine TL.no rfl (.gn rfl rfl rfl) rfl ?_
                            refine TL.no rfl (.gn rfl rfl rfl) rfl ?_
                            refine TL.no rfl (.gn rfl rfl rfl) rfl ?_
                            refine TL.q rfl .u (Ex.py rfl rfl rfl) rfl ?_
                            refine TL.run ft_cursitortop_ok [15] rfl rfl ?_
                            refine TL.no rfl (.gn rfl rfl rfl) rfl ?_
                            refine TL.no rfl (.gn rfl rfl rfl) rfl ?_
                            refine TL.no rfl (.gn rfl rfl rfl) rfl ?_
                            refine TL.no rfl (.gn rfl rfl rfl) rfl ?_
                            refine TL.q rfl .u (Ex.py rfl rfl rfl) rfl ?_
                            refine TL.run ft_cursitortop_ok [21] rfl rfl ?_
                            refine TL.no rfl (.gn rfl rfl rfl) rfl ?_
                            refine TL.no rfl (.gn rfl rfl rfl) rfl ?_
                            refine TL.no rfl (.gn rfl rfl rfl) rfl ?_
                            refine TL.no rfl (.gn rfl rfl rfl) rfl ?_
                            refine TL.no rfl (.gn rfl rfl rfl) rfl ?_
                            refine TL.q rfl .u (Ex.py rfl rfl rfl) rfl ?_
                            refine TL.run ft_cursitortop_ok [28] rfl rfl ?_
                            refine TL.no rfl (.gn rfl rfl rfl) rfl ?_
                            refine TL.no rfl (.gn rfl rfl rfl) rfl ?_
                            refine TL.q rfl .u (Ex.py rfl rfl rfl) rfl ?_
                            refine TL.run ft_cursitortop_ok [32] rfl rfl ?_
                            refine TL.no rfl (.gn rfl rfl rfl) rfl ?_
                            refine TL.no rfl (.gn rfl rfl rfl) rfl ?_
                            refine TL.no rfl (.gn rfl rfl rfl) rfl ?_
                            refine TL.no rfl (.gn rfl rfl rfl) rfl ?_
                            refine TL.no rfl (.gn rfl rfl rfl) rfl ?_
                            refine TL.no rfl (.gn rfl rfl rfl) rfl ?_
                            refine TL.q rfl .u (Ex.py rfl rfl rfl) rfl ?_
                            cases h
                            exact TL.nil (X.jq [0, 0, 0, 0, 0, 0, 0, 0, 0] ⟨rfl, rfl⟩ (by rfl) (by rfl))
                        · replace h := ifF c129 h
                          refine TL.q rfl .u (Ex.aNe (us := [.int .i64 x32.fBase, .int .i64 x32.fLength, .int .i64 x32.fLeader, .int .i64 x32.fSum, .int .i64 x32.fAttr, .int .i64 x32.fLast, .int .i64 x32.fFirst, .int .i64 x32.fMax, .int .i64 x32.fProducer, .int .i64 x32.fEpoch, .int .i64 x32.fSequence, .int .i64 x32.fCount]) (vs := [.int .i64 a1.fBase, .int .i64 a1.fLength, .int .i64 a1.fLeader, .int .i64 a1.fSum, .int .i64 x12, .int .i64 a1.fLast, .int .i64 a1.fFirst, .int .i64 a1.fMax, .int .i64 a1.fProducer, .int .i64 a1.fEpoch, .int .i64 a1.fSequence, .int .i64 a1.fCount]) flat_cursitortop_38 rfl Try.eqGuardType38 rfl rfl rfl rfl (eqL_t (eqV_i c123) (eqL_t (eqV_i c124) (eqL_t (eqV_i c125) (eqL_t (eqV_i c126) (eqL_t (eqV_i c127) (eqL_t (eqV_i c128) (eqL_f (eqV_in c129))))))))) rfl ?_
                          refine TL.run ft_cursitortop_ok [3] rfl rfl ?_
                          refine TL.no rfl (.gn rfl rfl rfl) rfl ?_
                          refine TL.no rfl (.gn rfl rfl rfl) rfl ?_
                          refine TL.no rfl (.gn rfl rfl rfl) rfl ?_
                          refine TL.no rfl (.gn rfl rfl rfl) rfl ?_
                          refine TL.q rfl .u (Ex.py rfl rfl rfl) rfl ?_
                          refine TL.run ft_cursitortop_ok [9] rfl rfl ?_
                          refine TL.no rfl (.gn rfl rfl rfl) rfl ?_
                          refine TL.no rfl (.gn rfl rfl rfl) rfl ?_
                          refine TL.no rfl (.gn rfl rfl rfl) rfl ?_
                          refine TL.no rfl (.gn rfl rfl rfl) rfl ?_
                          refine TL.q rfl .u (Ex.py rfl rfl rfl) rfl ?_
                          refine TL.run ft_cursitortop_ok [15] rfl rfl ?_
                          refine TL.no rfl (.gn rfl rfl rfl) rfl ?_
                          refine TL.no rfl (.gn rfl rfl rfl) rfl ?_
                          refine TL.no rfl (.gn rfl rfl rfl) rfl ?_
                          refine TL.no rfl (.gn rfl rfl rfl) rfl ?_
                          refine TL.q rfl .u (Ex.py rfl rfl rfl) rfl ?_
                          refine TL.run ft_cursitortop_ok [21] rfl rfl ?_
                          refine TL.no rfl (.gn rfl rfl rfl) rfl ?_
                          refine TL.no rfl (.gn rfl rfl rfl) rfl ?_
                          refine TL.no rfl (.gn rfl rfl rfl) rfl ?_
                          refine TL.no rfl (.gn rfl rfl rfl) rfl ?_
                          refine TL.no rfl (.gn rfl rfl rfl) rfl ?_
                          refine TL.q rfl .u (Ex.py rfl rfl rfl) rfl ?_
                          refine TL.run ft_cursitortop_ok [28] rfl rfl ?_
                          refine TL.no rfl (.gn rfl rfl rfl) rfl ?_
                          refine TL.no rfl (.gn rfl rfl rfl) rfl ?_
                          refine TL.q rfl .u (Ex.py rfl rfl rfl) rfl ?_
                          refine TL.run ft_cursitortop_ok [32] rfl rfl ?_
                          refine TL.no rfl (.gn rfl rfl rfl) rfl ?_
                          refine TL.no rfl (.gn rfl rfl rfl) rfl ?_
                          refine TL.no rfl (.gn rfl rfl rfl) rfl ?_
                          refine TL.no rfl (.gn rfl rfl rfl) rfl ?_
                          refine TL.no rfl (.gn rfl rfl rfl) rfl ?_
                          refine TL.no rfl (.gn rfl rfl rfl) rfl ?_
                          refine TL.q rfl .u (Ex.py rfl rfl rfl) rfl ?_
                          cases h
                          exact TL.nil (X.jq [0, 0, 0, 0, 0, 0, 0, 0, 0] ⟨rfl, rfl⟩ (by rfl) (by rfl))
                      · replace h := ifF c128 h
                        refine TL.q rfl .u (Ex.aNe (us := [.int .i64 x32.fBase, .int .i64 x32.fLength, .int .i64 x32.fLeader, .int .i64 x32.fSum, .int .i64 x32.fAttr, .int .i64 x32.fLast, .int .i64 x32.fFirst, .int .i64 x32.fMax, .int .i64 x32.fProducer, .int .i64 x32.fEpoch, .int .i64 x32.fSequence, .int .i64 x32.fCount]) (vs := [.int .i64 a1.fBase, .int .i64 a1.fLength, .int .i64 a1.fLeader, .int .i64 a1.fSum, .int .i64 x12, .int .i64 a1.fLast, .int .i64 a1.fFirst, .int .i64 a1.fMax, .int .i64 a1.fProducer, .int .i64 a1.fEpoch, .int .i64 a1.fSequence, .int .i64 a1.fCount]) flat_cursitortop_38 rfl Try.eqGuardType38 rfl rfl rfl rfl (eqL_t (eqV_i c123) (eqL_t (eqV_i c124) (eqL_t (eqV_i c125) (eqL_t (eqV_i c126) (eqL_t (eqV_i c127) (eqL_f (eqV_in c128)))))))) rfl ?_
                        refine TL.run ft_cursitortop_ok [3] rfl rfl ?_
                        refine TL.no rfl (.gn rfl rfl rfl) rfl ?_
                        refine TL.no rfl (.gn rfl rfl rfl) rfl ?_
                        refine TL.no rfl (.gn rfl rfl rfl) rfl ?_
                        refine TL.no rfl (.gn rfl rfl rfl) rfl ?_
                        refine TL.q rfl .u (Ex.py rfl rfl rfl) rfl ?_
                        refine TL.run ft_cursitortop_ok [9] rfl rfl ?_
                        refine TL.no rfl (.gn rfl rfl rfl) rfl ?_
                        refine TL.no rfl (.gn rfl rfl rfl) rfl ?_
                        refine TL.no rfl (.gn rfl rfl rfl) rfl ?_
                        refine TL.no rfl (.gn rfl rfl rfl) rfl ?_
                        refine TL.q rfl .u (Ex.py rfl rfl rfl) rfl ?_
                        refine TL.run ft_cursitortop_ok [15] rfl rfl ?_
                        refine TL.no rfl (.gn rfl rfl rfl) rfl ?_
                        refine TL.no rfl (.gn rfl rfl rfl) rfl ?_
                        refine TL.no rfl (.gn rfl rfl rfl) rfl ?_
                        refine TL.no rfl (.gn rfl rfl rfl) rfl ?_
                        refine TL.q rfl .u (Ex.py rfl rfl rfl) rfl ?_
                        refine TL.run ft_cursitortop_ok [21] rfl rfl ?_
                        refine TL.no rfl (.gn rfl rfl rfl) rfl ?_
                        refine TL.no rfl (.gn rfl rfl rfl) rfl ?_
                        refine TL.no rfl (.gn rfl rfl rfl) rfl ?_
                        refine TL.no rfl (.gn rfl rfl rfl) rfl ?_
                        refine TL.no rfl (.gn rfl rfl rfl) rfl ?_
                        refine TL.q rfl .u (Ex.py rfl rfl rfl) rfl ?_
                        refine TL.run ft_cursitortop_ok [28] rfl rfl ?_
                        refine TL.no rfl (.gn rfl rfl rfl) rfl ?_
                        refine TL.no rfl (.gn rfl rfl rfl) rfl ?_
                        refine TL.q rfl .u (Ex.py rfl rfl rfl) rfl ?_
                        refine TL.run ft_cursitortop_ok [32] rfl rfl ?_
                        refine TL.no rfl (.gn rfl rfl rfl) rfl ?_
                        refine TL.no rfl (.gn rfl rfl rfl) rfl ?_
                        refine TL.no rfl (.gn rfl rfl rfl) rfl ?_
                        refine TL.no rfl (.gn rfl rfl rfl) rfl ?_
                        refine TL.no rfl (.gn rfl rfl rfl) rfl ?_
                        refine TL.no rfl (.gn rfl rfl rfl) rfl ?_
                        refine TL.q rfl .u (Ex.py rfl rfl rfl) rfl ?_
                        cases h
                        exact TL.nil (X.jq [0, 0, 0, 0, 0, 0, 0, 0, 0] ⟨rfl, rfl⟩ (by rfl) (by rfl))
                    · replace h := ifF c127 h
                      refine TL.q rfl .u (Ex.aNe (us := [.int .i64 x32.fBase, .int .i64 x32.fLength, .int .i64 x32.fLeader, .int .i64 x32.fSum, .int .i64 x32.fAttr, .int .i64 x32.fLast, .int .i64 x32.fFirst, .int .i64 x32.fMax, .int .i64 x32.fProducer, .int .i64 x32.fEpoch, .int .i64 x32.fSequence, .int .i64 x32.fCount]) (vs := [.int .i64 a1.fBase, .int .i64 a1.fLength, .int .i64 a1.fLeader, .int .i64 a1.fSum, .int .i64 x12, .int .i64 a1.fLast, .int .i64 a1.fFirst, .int .i64 a1.fMax, .int .i64 a1.fProducer, .int .i64 a1.fEpoch, .int .i64 a1.fSequence, .int .i64 a1.fCount]) flat_cursitortop_38 rfl Try.eqGuardType38 rfl rfl rfl rfl (eqL_t (eqV_i c123) (eqL_t (eqV_i c124) (eqL_t (eqV_i c125) (eqL_t (eqV_i c126) (eqL_f (eqV_in c127))))))) rfl ?_
                      refine TL.run ft_cursitortop_ok [3] rfl rfl ?_
                      refine TL.no rfl (.gn rfl rfl rfl) rfl ?_
                      refine TL.no rfl (.gn rfl rfl rfl) rfl ?_
                      refine TL.no rfl (.gn rfl rfl rfl) rfl ?_
                      refine TL.no rfl (.gn rfl rfl rfl) rfl ?_
                      refine TL.q rfl .u (Ex.py rfl rfl rfl) rfl ?_
                      refine TL.run ft_cursitortop_ok [9] rfl rfl ?_
                      refine TL.no rfl (.gn rfl rfl rfl) rfl ?_
                      refine TL.no rfl (.gn rfl rfl rfl) rfl ?_
                      refine TL.no rfl (.gn rfl rfl rfl) rfl ?_
                      refine TL.no rfl (.gn rfl rfl rfl) rfl ?_
                      refine TL.q rfl .u (Ex.py rfl rfl rfl) rfl ?_
                      refine TL.run ft_cursitortop_ok [15] rfl rfl ?_
                      refine TL.no rfl (.gn rfl rfl rfl) rfl ?_
                      refine TL.no rfl (.gn rfl rfl rfl) rfl ?_
                      refine TL.no rfl (.gn rfl rfl rfl) rfl ?_
                      refine TL.no rfl (.gn rfl rfl rfl) rfl ?_
                      refine TL.q rfl .u (Ex.py rfl rfl rfl) rfl ?_
                      refine TL.run ft_cursitortop_ok [21] rfl rfl ?_
                      refine TL.no rfl (.gn rfl rfl rfl) rfl ?_
                      refine TL.no rfl (.gn rfl rfl rfl) rfl ?_
                      refine TL.no rfl (.gn rfl rfl rfl) rfl ?_
                      refine TL.no rfl (.gn rfl rfl rfl) rfl ?_
                      refine TL.no rfl (.gn rfl rfl rfl) rfl ?_
                      refine TL.q rfl .u (Ex.py rfl rfl rfl) rfl ?_
                      refine TL.run ft_cursitortop_ok [28] rfl rfl ?_
                      refine TL.no rfl (.gn rfl rfl rfl) rfl ?_
                      refine TL.no rfl (.gn rfl rfl rfl) rfl ?_
                      refine TL.q rfl .u (Ex.py rfl rfl rfl) rfl ?_
                      refine TL.run ft_cursitortop_ok [32] rfl rfl ?_
                      refine TL.no rfl (.gn rfl rfl rfl) rfl ?_
                      refine TL.no rfl (.gn rfl rfl rfl) rfl ?_
                      refine TL.no rfl (.gn rfl rfl rfl) rfl ?_
                      refine TL.no rfl (.gn rfl rfl rfl) rfl ?_
                      refine TL.no rfl (.gn rfl rfl rfl) rfl ?_
                      refine TL.no rfl (.gn rfl rfl rfl) rfl ?_
                      refine TL.q rfl .u (Ex.py rfl rfl rfl) rfl ?_
                      cases h
                      exact TL.nil (X.jq [0, 0, 0, 0, 0, 0, 0, 0, 0] ⟨rfl, rfl⟩ (by rfl) (by rfl))
                  · replace h := ifF c126 h
                    refine TL.q rfl .u (Ex.aNe (us := [.int .i64 x32.fBase, .int .i64 x32.fLength, .int .i64 x32.fLeader, .int .i64 x32.fSum, .int .i64 x32.fAttr, .int .i64 x32.fLast, .int .i64 x32.fFirst, .int .i64 x32.fMax, .int .i64 x32.fProducer, .int .i64 x32.fEpoch, .int .i64 x32.fSequence, .int .i64 x32.fCount]) (vs := [.int .i64 a1.fBase, .int .i64 a1.fLength, .int .i64 a1.fLeader, .int .i64 a1.fSum, .int .i64 x12, .int .i64 a1.fLast, .int .i64 a1.fFirst, .int .i64 a1.fMax, .int .i64 a1.fProducer, .int .i64 a1.fEpoch, .int .i64 a1.fSequence, .int .i64 a1.fCount]) flat_cursitortop_38 rfl Try.eqGuardType38 rfl rfl rfl rfl (eqL_t (eqV_i c123) (eqL_t (eqV_i c124) (eqL_t (eqV_i c125) (eqL_f (eqV_in c126)))))) rfl ?_
                    refine TL.run ft_cursitortop_ok [3] rfl rfl ?_
                    refine TL.no rfl (.gn rfl rfl rfl) rfl ?_
                    refine TL.no rfl (.gn rfl rfl rfl) rfl ?_
                    refine TL.no rfl (.gn rfl rfl rfl) rfl ?_
                    refine TL.no rfl (.gn rfl rfl rfl) rfl ?_
                    refine TL.q rfl .u (Ex.py rfl rfl rfl) rfl ?_
                    refine TL.run ft_cursitortop_ok [9] rfl rfl ?_
                    refine TL.no rfl (.gn rfl rfl rfl) rfl ?_
                    refine TL.no rfl (.gn rfl rfl rfl) rfl ?_
                    refine TL.no rfl (.gn rfl rfl rfl) rfl ?_
                    refine TL.no rfl (.gn rfl rfl rfl) rfl ?_
                    refine TL.q rfl .u (Ex.py rfl rfl rfl) rfl ?_
                    refine TL.run ft_cursitortop_ok [15] rfl rfl ?_
                    refine TL.no rfl (.gn rfl rfl rfl) rfl ?_
                    refine TL.no rfl (.gn rfl rfl rfl) rfl ?_
                    refine TL.no rfl (.gn rfl rfl rfl) rfl ?_
                    refine TL.no rfl (.gn rfl rfl rfl) rfl ?_
                    refine TL.q rfl .u (Ex.py rfl rfl rfl) rfl ?_
                    refine TL.run ft_cursitortop_ok [21] rfl rfl ?_
                    refine TL.no rfl (.gn rfl rfl rfl) rfl ?_
                    refine TL.no rfl (.gn rfl rfl rfl) rfl ?_
                    refine TL.no rfl (.gn rfl rfl rfl) rfl ?_
                    refine TL.no rfl (.gn rfl rfl rfl) rfl ?_
                    refine TL.no rfl (.gn rfl rfl rfl) rfl ?_
                    refine TL.q rfl .u (Ex.py rfl rfl rfl) rfl ?_
                    refine TL.run ft_cursitortop_ok [28] rfl rfl ?_
                    refine TL.no rfl (.gn rfl rfl rfl) rfl ?_
                    refine TL.no rfl (.gn rfl rfl rfl) rfl ?_
                    refine TL.q rfl .u (Ex.py rfl rfl rfl) rfl ?_
                    refine TL.run ft_cursitortop_ok [32] rfl rfl ?_
                    refine TL.no rfl (.gn rfl rfl rfl) rfl ?_
                    refine TL.no rfl (.gn rfl rfl rfl) rfl ?_
                    refine TL.no rfl (.gn rfl rfl rfl) rfl ?_
                    refine TL.no rfl (.gn rfl rfl rfl) rfl ?_
                    refine TL.no rfl (.gn rfl rfl rfl) rfl ?_
                    refine TL.no rfl (.gn rfl rfl rfl) rfl ?_
                    refine TL.q rfl .u (Ex.py rfl rfl rfl) rfl ?_
                    cases h
                    exact TL.nil (X.jq [0, 0, 0, 0, 0, 0, 0, 0, 0] ⟨rfl, rfl⟩ (by rfl) (by rfl))
                · replace h := ifF c125 h
                  refine TL.q rfl .u (Ex.aNe (us := [.int .i64 x32.fBase, .int .i64 x32.fLength, .int .i64 x32.fLeader, .int .i64 x32.fSum, .int .i64 x32.fAttr, .int .i64 x32.fLast, .int .i64 x32.fFirst, .int .i64 x32.fMax, .int .i64 x32.fProducer, .int .i64 x32.fEpoch, .int .i64 x32.fSequence, .int .i64 x32.fCount]) (vs := [.int .i64 a1.fBase, .int .i64 a1.fLength, .int .i64 a1.fLeader, .int .i64 a1.fSum, .int .i64 x12, .int .i64 a1.fLast, .int .i64 a1.fFirst, .int .i64 a1.fMax, .int .i64 a1.fProducer, .int .i64 a1.fEpoch, .int .i64 a1.fSequence, .int .i64 a1.fCount]) flat_cursitortop_38 rfl Try.eqGuardType38 rfl rfl rfl rfl (eqL_t (eqV_i c123) (eqL_t (eqV_i c124) (eqL_f (eqV_in c125))))) rfl ?_
                  refine TL.run ft_cursitortop_ok [3] rfl rfl ?_
                  refine TL.no rfl (.gn rfl rfl rfl) rfl ?_
                  refine TL.no rfl (.gn rfl rfl rfl) rfl ?_
                  refine TL.no rfl (.gn rfl rfl rfl) rfl ?_
                  refine TL.no rfl (.gn rfl rfl rfl) rfl ?_
                  refine TL.q rfl .u (Ex.py rfl rfl rfl) rfl ?_
                  refine TL.run ft_cursitortop_ok [9] rfl rfl ?_
                  refine TL.no rfl (.gn rfl rfl rfl) rfl ?_
                  refine TL.no rfl (.gn rfl rfl rfl) rfl ?_
                  refine TL.no rfl (.gn rfl rfl rfl) rfl ?_
                  refine TL.no rfl (.gn rfl rfl rfl) rfl ?_
                  refine TL.q rfl .u (Ex.py rfl rfl rfl) rfl ?_
                  refine TL.run ft_cursitortop_ok [15] rfl rfl ?_
                  refine TL.no rfl (.gn rfl rfl rfl) rfl ?_
                  refine TL.no rfl (.gn rfl rfl rfl) rfl ?_
                  refine TL.no rfl (.gn rfl rfl rfl) rfl ?_
                  refine TL.no rfl (.gn rfl rfl rfl) rfl ?_
                  refine TL.q rfl .u (Ex.py rfl rfl rfl) rfl ?_
                  refine TL.run ft_cursitortop_ok [21] rfl rfl ?_
                  refine TL.no rfl (.gn rfl rfl rfl) rfl ?_
                  refine TL.no rfl (.gn rfl rfl rfl) rfl ?_
                  refine TL.no rfl (.gn rfl rfl rfl) rfl ?_
                  refine TL.no rfl (.gn rfl rfl rfl) rfl ?_
                  refine TL.no rfl (.gn rfl rfl rfl) rfl ?_
                  refine TL.q rfl .u (Ex.py rfl rfl rfl) rfl ?_
                  refine TL.run ft_cursitortop_ok [28] rfl rfl ?_
                  refine TL.no rfl (.gn rfl rfl rfl) rfl ?_
                  refine TL.no rfl (.gn rfl rfl rfl) rfl ?_
                  refine TL.q rfl .u (Ex.py rfl rfl rfl) rfl ?_
                  refine TL.run ft_cursitortop_ok [32] rfl rfl ?_
                  refine TL.no rfl (.gn rfl rfl rfl) rfl ?_
                  refine TL.no rfl (.gn rfl rfl rfl) rfl ?_
                  refine TL.no rfl (.gn rfl rfl rfl) rfl ?_
                  refine TL.no rfl (.gn rfl rfl rfl) rfl ?_
                  refine TL.no rfl (.gn rfl rfl rfl) rfl ?_
                  refine TL.no rfl (.gn rfl rfl rfl) rfl ?_
                  refine TL.q rfl .u (Ex.py rfl rfl rfl) rfl ?_
                  cases h
                  exact TL.nil (X.jq [0, 0, 0, 0, 0, 0, 0, 0, 0] ⟨rfl, rfl⟩ (by rfl) (by rfl))
              · replace h := ifF c124 h
                refine TL.q rfl .u (Ex.aNe (us := [.int .i64 x32.fBase, .int .i64 x32.fLength, .int .i64 x32.fLeader, .int .i64 x32.fSum, .int .i64 x32.fAttr, .int .i64 x32.fLast, .int .i64 x32.fFirst, .int .i64 x32.fMax, .int .i64 x32.fProducer, .int .i64 x32.fEpoch, .int .i64 x32.fSequence, .int .i64 x32.fCount]) (vs := [.int .i64 a1.fBase, .int .i64 a1.fLength, .int .i64 a1.fLeader, .int .i64 a1.fSum, .int .i64 x12, .int .i64 a1.fLast, .int .i64 a1.fFirst, .int .i64 a1.fMax, .int .i64 a1.fProducer, .int .i64 a1.fEpoch, .int .i64 a1.fSequence, .int .i64 a1.fCount]) flat_cursitortop_38 rfl Try.eqGuardType38 rfl rfl rfl rfl (eqL_t (eqV_i c123) (eqL_f (eqV_in c124)))) rfl ?_
                refine TL.run ft_cursitortop_ok [3] rfl rfl ?_
                refine TL.no rfl (.gn rfl rfl rfl) rfl ?_
                refine TL.no rfl (.gn rfl rfl rfl) rfl ?_
                refine TL.no rfl (.gn rfl rfl rfl) rfl ?_
                refine TL.no rfl (.gn rfl rfl rfl) rfl ?_
                refine TL.q rfl .u (Ex.py rfl rfl rfl) rfl ?_
                refine TL.run ft_cursitortop_ok [9] rfl rfl ?_
                refine TL.no rfl (.gn rfl rfl rfl) rfl ?_
                refine TL.no rfl (.gn rfl rfl rfl) rfl ?_
                refine TL.no rfl (.gn rfl rfl rfl) rfl ?_
                refine TL.no rfl (.gn rfl rfl rfl) rfl ?_
                refine TL.q rfl .u (Ex.py rfl rfl rfl) rfl ?_
                refine TL.run ft_cursitortop_ok [15] rfl rfl ?_
                refine TL.no rfl (.gn rfl rfl rfl) rfl ?_
                refine TL.no rfl (.gn rfl rfl rfl) rfl ?_
                refine TL.no rfl (.gn rfl rfl rfl) rfl ?_
                refine TL.no rfl (.gn rfl rfl rfl) rfl ?_
                refine TL.q rfl .u (Ex.py rfl rfl rfl) rfl ?_
                refine TL.run ft_cursitortop_ok [21] rfl rfl ?_
                refine TL.no rfl (.gn rfl rfl rfl) rfl ?_
                refine TL.no rfl (.gn rfl rfl rfl) rfl ?_
                refine TL.no rfl (.gn rfl rfl rfl) rfl ?_
                refine TL.no rfl (.gn rfl rfl rfl) rfl ?_
                refine TL.no rfl (.gn rfl rfl rfl) rfl ?_
                refine TL.q rfl .u (Ex.py rfl rfl rfl) rfl ?_
                refine TL.run ft_cursitortop_ok [28] rfl rfl ?_
                refine TL.no rfl (.gn rfl rfl rfl) rfl ?_
                refine TL.no rfl (.gn rfl rfl rfl) rfl ?_
                refine TL.q rfl .u (Ex.py rfl rfl rfl) rfl ?_
                refine TL.run ft_cursitortop_ok [32] rfl rfl ?_
                refine TL.no rfl (.gn rfl rfl rfl) rfl ?_
                refine TL.no rfl (.gn rfl rfl rfl) rfl ?_
                refine TL.no rfl (.gn rfl rfl rfl) rfl ?_
                refine TL.no rfl (.gn rfl rfl rfl) rfl ?_
                refine TL.no rfl (.gn rfl rfl rfl) rfl ?_
                refine TL.no rfl (.gn rfl rfl rfl) rfl ?_
                refine TL.q rfl .u (Ex.py rfl rfl rfl) rfl ?_
                cases h
                exact TL.nil (X.jq [0, 0, 0, 0, 0, 0, 0, 0, 0] ⟨rfl, rfl⟩ (by rfl) (by rfl))
            · replace h := ifF c123 h
              refine TL.q rfl .u (Ex.aNe (us := [.int .i64 x32.fBase, .int .i64 x32.fLength, .int .i64 x32.fLeader, .int .i64 x32.fSum, .int .i64 x32.fAttr, .int .i64 x32.fLast, .int .i64 x32.fFirst, .int .i64 x32.fMax, .int .i64 x32.fProducer, .int .i64 x32.fEpoch, .int .i64 x32.fSequence, .int .i64 x32.fCount]) (vs := [.int .i64 a1.fBase, .int .i64 a1.fLength, .int .i64 a1.fLeader, .int .i64 a1.fSum, .int .i64 x12, .int .i64 a1.fLast, .int .i64 a1.fFirst, .int .i64 a1.fMax, .int .i64 a1.fProducer, .int .i64 a1.fEpoch, .int .i64 a1.fSequence, .int .i64 a1.fCount]) flat_cursitortop_38 rfl Try.eqGuardType38 rfl rfl rfl rfl (eqL_f (eqV_in c123))) rfl ?_
              refine TL.run ft_cursitortop_ok [3] rfl rfl ?_
              refine TL.no rfl (.gn rfl rfl rfl) rfl ?_
              refine TL.no rfl (.gn rfl rfl rfl) rfl ?_
              refine TL.no rfl (.gn rfl rfl rfl) rfl ?_
              refine TL.no rfl (.gn rfl rfl rfl) rfl ?_
              refine TL.q rfl .u (Ex.py rfl rfl rfl) rfl ?_
              refine TL.run ft_cursitortop_ok [9] rfl rfl ?_
              refine TL.no rfl (.gn rfl rfl rfl) rfl ?_
              refine TL.no rfl (.gn rfl rfl rfl) rfl ?_
              refine TL.no rfl (.gn rfl rfl rfl) rfl ?_
              refine TL.no rfl (.gn rfl rfl rfl) rfl ?_
              refine TL.q rfl .u (Ex.py rfl rfl rfl) rfl ?_
              refine TL.run ft_cursitortop_ok [15] rfl rfl ?_
              refine TL.no rfl (.gn rfl rfl rfl) rfl ?_
              refine TL.no rfl (.gn rfl rfl rfl) rfl ?_
              refine TL.no rfl (.gn rfl rfl rfl) rfl ?_
              refine TL.no rfl (.gn rfl rfl rfl) rfl ?_
              refine TL.q rfl .u (Ex.py rfl rfl rfl) rfl ?_
              refine TL.run ft_cursitortop_ok [21] rfl rfl ?_
              refine TL.no rfl (.gn rfl rfl rfl) rfl ?_
              refine TL.no rfl (.gn rfl rfl rfl) rfl ?_
              refine TL.no rfl (.gn rfl rfl rfl) rfl ?_
              refine TL.no rfl (.gn rfl rfl rfl) rfl ?_
              refine TL.no rfl (.gn rfl rfl rfl) rfl ?_
              refine TL.q rfl .u (Ex.py rfl rfl rfl) rfl ?_
              refine TL.run ft_cursitortop_ok [28] rfl rfl ?_
              refine TL.no rfl (.gn rfl rfl rfl) rfl ?_
              refine TL.no rfl (.gn rfl rfl rfl) rfl ?_
              refine TL.q rfl .u (Ex.py rfl rfl rfl) rfl ?_
              refine TL.run ft_cursitortop_ok [32] rfl rfl ?_
              refine TL.no rfl (.gn rfl rfl rfl) rfl ?_
              refine TL.no rfl (.gn rfl rfl rfl) rfl ?_
              refine TL.no rfl (.gn rfl rfl rfl) rfl ?_
              refine TL.no rfl (.gn rfl rfl rfl) rfl ?_
              refine TL.no rfl (.gn rfl rfl rfl) rfl ?_
              refine TL.no rfl (.gn rfl rfl rfl) rfl ?_
              refine TL.q rfl .u (Ex.py rfl rfl rfl) rfl ?_
              cases h
              exact TL.nil (X.jq [0, 0, 0, 0, 0, 0, 0, 0, 0] ⟨rfl, rfl⟩ (by rfl) (by rfl))
          · rintro _ _ ⟨rfl, rfl⟩
            clear h
            have h := hk122
            clear hk122
            try dsimp only at h
            by_cases c196 : y121 = true
            · replace h := ifT c196 h
              refine X.seq ?_
              refine T.yes rfl c196 ?_
              exact nomatch h
            · replace h := ifF c196 h
              replace c196 := eq_false_of_ne_true c196
              refine X.seq ?_
              refine T.no rfl c196 ?_
              refine T.skip (X.seq (T.seq (T.region rfl ?_)))
              refine TL.run ft_cursitortop_ok [0] rfl rfl ?_
              refine TL.q rfl .u (Ex.b1 6 rfl Try.isAgg3 rfl rfl) rfl ?_
              refine TL.run ft_cursitortop_ok [2] rfl rfl ?_
              refine TL.st0 (cs' := #[.int .i64 x49.fBase, .int .i64 x49.fLength, .int .i64 x49.fLeader, .int .i64 x49.fSum, .int .i64 x12, .int .i64 x49.fLast, .int .i64 x49.fFirst, .int .i64 x49.fMax, .int .i64 x49.fProducer, .int .i64 x49.fEpoch, .int .i64 x49.fSequence, .int .i64 x49.fCount]) rfl .u rfl rfl Try.sizeOf3 rfl rfl rfl rfl ?_
              refine TL.nil (X.seq (T.seq (T.region rfl ?_)))
              refine TL.q rfl .u (Ex.bS (us := [.int .i64 x49.fBase, .int .i64 x49.fLength, .int .i64 x49.fLeader, .int .i64 x49.fSum, .int .i64 x12, .int .i64 x49.fLast, .int .i64 x49.fFirst, .int .i64 x49.fMax, .int .i64 x49.fProducer, .int .i64 x49.fEpoch, .int .i64 x49.fSequence, .int .i64 x49.fCount]) 0 rfl Try.isAgg38 Try.sizeOf38 rfl rfl rfl) rfl ?_
              refine TL.q rfl .u (Ex.bS (us := [.int .i64 a1.fBase, .int .i64 a1.fLength, .int .i64 a1.fLeader, .int .i64 a1.fSum, .int .i64 x12, .int .i64 a1.fLast, .int .i64 a1.fFirst, .int .i64 a1.fMax, .int .i64 a1.fProducer, .int .i64 a1.fEpoch, .int .i64 a1.fSequence, .int .i64 a1.fCount]) 6 rfl Try.isAgg38 Try.sizeOf38 rfl rfl rfl) rfl ?_
              by_cases c197 : x49.fBase = a1.fBase
              · replace h := ifT c197 h
                by_cases c198 : x49.fLength = a1.fLength
                · replace h := ifT c198 h
                  by_cases c199 : x49.fLeader = a1.fLeader
                  · replace h := ifT c199 h
                    by_cases c200 : x49.fSum = a1.fSum
                    · replace h := ifT c200 h
                      by_cases c201 : x49.fLast = a1.fLast
                      · replace h := ifT c201 h
                        by_cases c202 : x49.fFirst = a1.fFirst
                        · replace h := ifT c202 h
                          by_cases c203 : x49.fMax = a1.fMax
                          · replace h := ifT c203 h
                            by_cases c204 : x49.fProducer = a1.fProducer
                            · replace h := ifT c204 h
                              by_cases c205 : x49.fEpoch = a1.fEpoch
                              · replace h := ifT c205 h
                                by_cases c206 : x49.fSequence = a1.fSequence
                                · replace h := ifT c206 h
                                  by_cases c207 : x49.fCount = a1.fCount
                                  · replace h := ifT c207 h
                                    refine TL.q rfl .u (Ex.aEq (us := [.int .i64 x49.fBase, .int .i64 x49.fLength, .int .i64 x49.fLeader, .int .i64 x49.fSum, .int .i64 x12, .int .i64 x49.fLast, .int .i64 x49.fFirst, .int .i64 x49.fMax, .int .i64 x49.fProducer, .int .i64 x49.fEpoch, .int .i64 x49.fSequence, .int .i64 x49.fCount]) (vs := [.int .i64 a1.fBase, .int .i64 a1.fLength, .int .i64 a1.fLeader, .int .i64 a1.fSum, .int .i64 x12, .int .i64 a1.fLast, .int .i64 a1.fFirst, .int .i64 a1.fMax, .int .i64 a1.fProducer, .int .i64 a1.fEpoch, .int .i64 a1.fSequence, .int .i64 a1.fCount]) flat_cursitortop_38 rfl Try.eqGuardType38 rfl rfl rfl rfl (eqL_t (eqV_i c197) (eqL_t (eqV_i c198) (eqL_t (eqV_i c199) (eqL_t (eqV_i c200) (eqL_t (eqV_i rfl) (eqL_t (eqV_i c201) (eqL_t (eqV_i c202) (eqL_t (eqV_i c203) (eqL_t (eqV_i c204) (eqL_t (eqV_i c205) (eqL_t (eqV_i c206) (eqL_t (eqV_i c207) rfl))))))))))))) rfl ?_
                                    refine TL.run ft_cursitortop_ok [3] rfl rfl ?_
                                    obtain rfl := Option.some.inj h
                                    exact TL.nil (X.seq (T.ret (X.done1 [8] Try.results14 (RV.tm rfl) ⟨rfl, rfl, rfl⟩ (by rfl) (.inl rfl))))
                                  · replace h := ifF c207 h
                                    refine TL.q rfl .u (Ex.aEq (us := [.int .i64 x49.fBase, .int .i64 x49.fLength, .int .i64 x49.fLeader, .int .i64 x49.fSum, .int .i64 x12, .int .i64 x49.fLast, .int .i64 x49.fFirst, .int .i64 x49.fMax, .int .i64 x49.fProducer, .int .i64 x49.fEpoch, .int .i64 x49.fSequence, .int .i64 x49.fCount]) (vs := [.int .i64 a1.fBase, .int .i64 a1.fLength, .int .i64 a1.fLeader, .int .i64 a1.fSum, .int .i64 x12, .int .i64 a1.fLast, .int .i64 a1.fFirst, .int .i64 a1.fMax, .int .i64 a1.fProducer, .int .i64 a1.fEpoch, .int .i64 a1.fSequence, .int .i64 a1.fCount]) flat_cursitortop_38 rfl Try.eqGuardType38 rfl rfl rfl rfl (eqL_t (eqV_i c197) (eqL_t (eqV_i c198) (eqL_t (eqV_i c199) (eqL_t (eqV_i c200) (eqL_t (eqV_i rfl) (eqL_t (eqV_i c201) (eqL_t (eqV_i c202) (eqL_t (eqV_i c203) (eqL_t (eqV_i c204) (eqL_t (eqV_i c205) (eqL_t (eqV_i c206) (eqL_f (eqV_in c207)))))))))))))) rfl ?_
                                    exact nomatch h
                                · replace h := ifF c206 h
                                  refine TL.q rfl .u (Ex.aEq (us := [.int .i64 x49.fBase, .int .i64 x49.fLength, .int .i64 x49.fLeader, .int .i64 x49.fSum, .int .i64 x12, .int .i64 x49.fLast, .int .i64 x49.fFirst, .int .i64 x49.fMax, .int .i64 x49.fProducer, .int .i64 x49.fEpoch, .int .i64 x49.fSequence, .int .i64 x49.fCount]) (vs := [.int .i64 a1.fBase, .int .i64 a1.fLength, .int .i64 a1.fLeader, .int .i64 a1.fSum, .int .i64 x12, .int .i64 a1.fLast, .int .i64 a1.fFirst, .int .i64 a1.fMax, .int .i64 a1.fProducer, .int .i64 a1.fEpoch, .int .i64 a1.fSequence, .int .i64 a1.fCount]) flat_cursitortop_38 rfl Try.eqGuardType38 rfl rfl rfl rfl (eqL_t (eqV_i c197) (eqL_t (eqV_i c198) (eqL_t (eqV_i c199) (eqL_t (eqV_i c200) (eqL_t (eqV_i rfl) (eqL_t (eqV_i c201) (eqL_t (eqV_i c202) (eqL_t (eqV_i c203) (eqL_t (eqV_i c204) (eqL_t (eqV_i c205) (eqL_f (eqV_in c206))))))))))))) rfl ?_
                                  exact nomatch h
                              · replace h := ifF c205 h
                                refine TL.q rfl .u (Ex.aEq (us := [.int .i64 x49.fBase, .int .i64 x49.fLength, .int .i64 x49.fLeader, .int .i64 x49.fSum, .int .i64 x12, .int .i64 x49.fLast, .int .i64 x49.fFirst, .int .i64 x49.fMax, .int .i64 x49.fProducer, .int .i64 x49.fEpoch, .int .i64 x49.fSequence, .int .i64 x49.fCount]) (vs := [.int .i64 a1.fBase, .int .i64 a1.fLength, .int .i64 a1.fLeader, .int .i64 a1.fSum, .int .i64 x12, .int .i64 a1.fLast, .int .i64 a1.fFirst, .int .i64 a1.fMax, .int .i64 a1.fProducer, .int .i64 a1.fEpoch, .int .i64 a1.fSequence, .int .i64 a1.fCount]) flat_cursitortop_38 rfl Try.eqGuardType38 rfl rfl rfl rfl (eqL_t (eqV_i c197) (eqL_t (eqV_i c198) (eqL_t (eqV_i c199) (eqL_t (eqV_i c200) (eqL_t (eqV_i rfl) (eqL_t (eqV_i c201) (eqL_t (eqV_i c202) (eqL_t (eqV_i c203) (eqL_t (eqV_i c204) (eqL_f (eqV_in c205)))))))))))) rfl ?_
                                exact nomatch h
                            · replace h := ifF c204 h
                              refine TL.q rfl .u (Ex.aEq (us := [.int .i64 x49.fBase, .int .i64 x49.fLength, .int .i64 x49.fLeader, .int .i64 x49.fSum, .int .i64 x12, .int .i64 x49.fLast, .int .i64 x49.fFirst, .int .i64 x49.fMax, .int .i64 x49.fProducer, .int .i64 x49.fEpoch, .int .i64 x49.fSequence, .int .i64 x49.fCount]) (vs := [.int .i64 a1.fBase, .int .i64 a1.fLength, .int .i64 a1.fLeader, .int .i64 a1.fSum, .int .i64 x12, .int .i64 a1.fLast, .int .i64 a1.fFirst, .int .i64 a1.fMax, .int .i64 a1.fProducer, .int .i64 a1.fEpoch, .int .i64 a1.fSequence, .int .i64 a1.fCount]) flat_cursitortop_38 rfl Try.eqGuardType38 rfl rfl rfl rfl (eqL_t (eqV_i c197) (eqL_t (eqV_i c198) (eqL_t (eqV_i c199) (eqL_t (eqV_i c200) (eqL_t (eqV_i rfl) (eqL_t (eqV_i c201) (eqL_t (eqV_i c202) (eqL_t (eqV_i c203) (eqL_f (eqV_in c204))))))))))) rfl ?_
                              exact nomatch h
                          · replace h := ifF c203 h
                            refine TL.q rfl .u (Ex.aEq (us := [.int .i64 x49.fBase, .int .i64 x49.fLength, .int .i64 x49.fLeader, .int .i64 x49.fSum, .int .i64 x12, .int .i64 x49.fLast, .int .i64 x49.fFirst, .int .i64 x49.fMax, .int .i64 x49.fProducer, .int .i64 x49.fEpoch, .int .i64 x49.fSequence, .int .i64 x49.fCount]) (vs := [.int .i64 a1.fBase, .int .i64 a1.fLength, .int .i64 a1.fLeader, .int .i64 a1.fSum, .int .i64 x12, .int .i64 a1.fLast, .int .i64 a1.fFirst, .int .i64 a1.fMax, .int .i64 a1.fProducer, .int .i64 a1.fEpoch, .int .i64 a1.fSequence, .int .i64 a1.fCount]) flat_cursitortop_38 rfl Try.eqGuardType38 rfl rfl rfl rfl (eqL_t (eqV_i c197) (eqL_t (eqV_i c198) (eqL_t (eqV_i c199) (eqL_t (eqV_i c200) (eqL_t (eqV_i rfl) (eqL_t (eqV_i c201) (eqL_t (eqV_i c202) (eqL_f (eqV_in c203)))))))))) rfl ?_
                            exact nomatch h
                        · replace h := ifF c202 h
                          refine TL.q rfl .u (Ex.aEq (us := [.int .i64 x49.fBase, .int .i64 x49.fLength, .int .i64 x49.fLeader, .int .i64 x49.fSum, .int .i64 x12, .int .i64 x49.fLast, .int .i64 x49.fFirst, .int .i64 x49.fMax, .int .i64 x49.fProducer, .int .i64 x49.fEpoch, .int .i64 x49.fSequence, .int .i64 x49.fCount]) (vs := [.int .i64 a1.fBase, .int .i64 a1.fLength, .int .i64 a1.fLeader, .int .i64 a1.fSum, .int .i64 x12, .int .i64 a1.fLast, .int .i64 a1.fFirst, .int .i64 a1.fMax, .int .i64 a1.fProducer, .int .i64 a1.fEpoch, .int .i64 a1.fSequence, .int .i64 a1.fCount]) flat_cursitortop_38 rfl Try.eqGuardType38 rfl rfl rfl rfl (eqL_t (eqV_i c197) (eqL_t (eqV_i c198) (eqL_t (eqV_i c199) (eqL_t (eqV_i c200) (eqL_t (eqV_i rfl) (eqL_t (eqV_i c201) (eqL_f (eqV_in c202))))))))) rfl ?_
                          exact nomatch h
                      · replace h := ifF c201 h
                        refine TL.q rfl .u (Ex.aEq (us := [.int .i64 x49.fBase, .int .i64 x49.fLength, .int .i64 x49.fLeader, .int .i64 x49.fSum, .int .i64 x12, .int .i64 x49.fLast, .int .i64 x49.fFirst, .int .i64 x49.fMax, .int .i64 x49.fProducer, .int .i64 x49.fEpoch, .int .i64 x49.fSequence, .int .i64 x49.fCount]) (vs := [.int .i64 a1.fBase, .int .i64 a1.fLength, .int .i64 a1.fLeader, .int .i64 a1.fSum, .int .i64 x12, .int .i64 a1.fLast, .int .i64 a1.fFirst, .int .i64 a1.fMax, .int .i64 a1.fProducer, .int .i64 a1.fEpoch, .int .i64 a1.fSequence, .int .i64 a1.fCount]) flat_cursitortop_38 rfl Try.eqGuardType38 rfl rfl rfl rfl (eqL_t (eqV_i c197) (eqL_t (eqV_i c198) (eqL_t (eqV_i c199) (eqL_t (eqV_i c200) (eqL_t (eqV_i rfl) (eqL_f (eqV_in c201)))))))) rfl ?_
                        exact nomatch h
                    · replace h := ifF c200 h
                      refine TL.q rfl .u (Ex.aEq (us := [.int .i64 x49.fBase, .int .i64 x49.fLength, .int .i64 x49.fLeader, .int .i64 x49.fSum, .int .i64 x12, .int .i64 x49.fLast, .int .i64 x49.fFirst, .int .i64 x49.fMax, .int .i64 x49.fProducer, .int .i64 x49.fEpoch, .int .i64 x49.fSequence, .int .i64 x49.fCount]) (vs := [.int .i64 a1.fBase, .int .i64 a1.fLength, .int .i64 a1.fLeader, .int .i64 a1.fSum, .int .i64 x12, .int .i64 a1.fLast, .int .i64 a1.fFirst, .int .i64 a1.fMax, .int .i64 a1.fProducer, .int .i64 a1.fEpoch, .int .i64 a1.fSequence, .int .i64 a1.fCount]) flat_cursitortop_38 rfl Try.eqGuardType38 rfl rfl rfl rfl (eqL_t (eqV_i c197) (eqL_t (eqV_i c198) (eqL_t (eqV_i c199) (eqL_f (eqV_in c200)))))) rfl ?_
                      exact nomatch h
                  · replace h := ifF c199 h
                    refine TL.q rfl .u (Ex.aEq (us := [.int .i64 x49.fBase, .int .i64 x49.fLength, .int .i64 x49.fLeader, .int .i64 x49.fSum, .int .i64 x12, .int .i64 x49.fLast, .int .i64 x49.fFirst, .int .i64 x49.fMax, .int .i64 x49.fProducer, .int .i64 x49.fEpoch, .int .i64 x49.fSequence, .int .i64 x49.fCount]) (vs := [.int .i64 a1.fBase, .int .i64 a1.fLength, .int .i64 a1.fLeader, .int .i64 a1.fSum, .int .i64 x12, .int .i64 a1.fLast, .int .i64 a1.fFirst, .int .i64 a1.fMax, .int .i64 a1.fProducer, .int .i64 a1.fEpoch, .int .i64 a1.fSequence, .int .i64 a1.fCount]) flat_cursitortop_38 rfl Try.eqGuardType38 rfl rfl rfl rfl (eqL_t (eqV_i c197) (eqL_t (eqV_i c198) (eqL_f (eqV_in c199))))) rfl ?_
                    exact nomatch h
                · replace h := ifF c198 h
                  refine TL.q rfl .u (Ex.aEq (us := [.int .i64 x49.fBase, .int .i64 x49.fLength, .int .i64 x49.fLeader, .int .i64 x49.fSum, .int .i64 x12, .int .i64 x49.fLast, .int .i64 x49.fFirst, .int .i64 x49.fMax, .int .i64 x49.fProducer, .int .i64 x49.fEpoch, .int .i64 x49.fSequence, .int .i64 x49.fCount]) (vs := [.int .i64 a1.fBase, .int .i64 a1.fLength, .int .i64 a1.fLeader, .int .i64 a1.fSum, .int .i64 x12, .int .i64 a1.fLast, .int .i64 a1.fFirst, .int .i64 a1.fMax, .int .i64 a1.fProducer, .int .i64 a1.fEpoch, .int .i64 a1.fSequence, .int .i64 a1.fCount]) flat_cursitortop_38 rfl Try.eqGuardType38 rfl rfl rfl rfl (eqL_t (eqV_i c197) (eqL_f (eqV_in c198)))) rfl ?_
                  exact nomatch h
              · replace h := ifF c197 h
                refine TL.q rfl .u (Ex.aEq (us := [.int .i64 x49.fBase, .int .i64 x49.fLength, .int .i64 x49.fLeader, .int .i64 x49.fSum, .int .i64 x12, .int .i64 x49.fLast, .int .i64 x49.fFirst, .int .i64 x49.fMax, .int .i64 x49.fProducer, .int .i64 x49.fEpoch, .int .i64 x49.fSequence, .int .i64 x49.fCount]) (vs := [.int .i64 a1.fBase, .int .i64 a1.fLength, .int .i64 a1.fLeader, .int .i64 a1.fSum, .int .i64 x12, .int .i64 a1.fLast, .int .i64 a1.fFirst, .int .i64 a1.fMax, .int .i64 a1.fProducer, .int .i64 a1.fEpoch, .int .i64 a1.fSequence, .int .i64 a1.fCount]) flat_cursitortop_38 rfl Try.eqGuardType38 rfl rfl rfl rfl (eqL_f (eqV_in c197))) rfl ?_
                exact nomatch h
end Go.Proofs.Ytpiiopppbgpbpaa.Sl
namespace Go.Proofs.Ytpiiopppbgpbpaa.Sl
open Go.RowKit
set_option linter.unusedVariables false
set_option linter.unusedSimpArgs false
def preP (p : Pfx) : List UInt8 := be p.fBase 8 ++ (be p.fLength 4 ++ (be p.fLeader 4 ++ (be 2 1 ++ be (s32 p.fSum) 4)))
def postP (p : Pfx) : List UInt8 := encI [4, 8, 8, 8, 2, 4, 4] [p.fLast, p.fFirst, p.fMax, p.fProducer, p.fEpoch, p.fSequence, p.fCount]
theorem encP_parts (p : Pfx) : encP p = preP p ++ (be p.fAttr 2 ++ postP p) := by
  unfold encP KS toL preP postP
  simp only [encI, List.append_assoc]
theorem preP_len (p : Pfx) : (preP p).length = 21 := by
  unfold preP
  simp only [List.length_append, be_length]
theorem set_mid (l m : List UInt8) (a b c d : UInt8) (hl : l.length = 21) : ((l ++ ([a, b] ++ m)).set 21 c).set 22 d = l ++ ([c, d] ++ m) := by
  rw [List.set_append_right _ _ (by omega), List.set_append_right _ _ (by omega), hl]
  rfl
theorem wrap_i16_ (n : Int) : IntKind.i16.wrap n = (n + 32768) % 65536 - 32768 := by
  simp [IntKind.wrap, IntKind.bits, IntKind.signed]
  split <;> omega
theorem be2_eq (n : Int) : be n 2 = [UInt8.ofNat (n / 256 % 256).toNat, UInt8.ofNat (n % 256).toNat] := by
  show [UInt8.ofNat (n / (2 ^ 8) % 256).toNat, UInt8.ofNat (n / (2 ^ 0) % 256).toNat] = _
  rw [show (2 : Int) ^ 8 = 256 by decide, Int.pow_zero, Int.ediv_one]
theorem be2 (N : Nat) (hN : N < 65536) : be (IntKind.i16.wrap (N : Int)) 2 = [UInt8.ofNat (N / 256), UInt8.ofNat (N % 256)] := by
  rw [be2_eq, wrap_i16_, show ((((N : Int) + 32768) % 65536 - 32768) / 256 % 256).toNat = N / 256 by omega, show ((((N : Int) + 32768) % 65536 - 32768) % 256).toNat = N % 256 by omega]
theorem peek_of {X : List UInt8} {p : Pfx} {n : Nat} (h61 : 61 ≤ X.length) (hl : X.length ≤ 1000000) (hr : f_prefix_Read ⟨X, 0, 0⟩ = some (p, ⟨[], n, 0⟩)) : f_prefix_Peek X = some (p.fLength + 12, 0) := by
  rw [peek_at X h61 hl]
  rcases read_at X h61 hl with ⟨r1, r2⟩ | ⟨r1, st, r2, r3⟩
  · rw [hr] at r2
    injection r2 with r2
    obtain ⟨r4, _⟩ := Prod.mk.inj r2
    rw [if_pos r1, r4]
    rfl
  · rw [hr] at r2
    injection r2 with r2
    obtain ⟨_, r4⟩ := Prod.mk.inj r2
    rw [← r4] at r3
    exact absurd r3.symm r1
theorem be2_any (n : Int) : ∃ a b, be n 2 = [a, b] := ⟨_, _, rfl⟩
theorem shr8_u16 (a : Nat) : shrK .u16 (a : Int) 8 = ((a / 256 : Nat) : Int) := by
  show Int.fdiv (a : Int) 256 = _
  rw [Int.fdiv_eq_ediv_of_nonneg _ (by decide)]
  omega
theorem bits_back : ∀ a b c : Bool, bitAt (ofBits a b c) 3 = a ∧ bitAt (ofBits a b c) 4 = b ∧ bitAt (ofBits a b c) 5 = c := by decide
theorem ofBits_rng : ∀ a b c : Bool, 0 ≤ ofBits a b c ∧ ofBits a b c ≤ 56 := by decide
theorem pure_WholeBits (a0 : Bool × Bool × Bool) (a1 : Pfx) (a2 : Int) (w0 : (fun a : Bool × Bool × Bool => wB a.1 ∧ wB a.2.1 ∧ wB a.2.2) a0) (w1 : wf_Pfx a1) (w2 : 0 ≤ a2 ∧ a2 ≤ 65535) : f_top_WholeBits a0 a1 a2 = some true := by
  obtain ⟨b0, b1, b2⟩ := a0
  obtain ⟨N, rfl⟩ : ∃ N : Nat, a2 = (N : Int) := ⟨a2.toNat, by omega⟩
  obtain ⟨q1, q2, q3, q4, q5, q6, q7, q8, q9, q10, q11, q12⟩ := w1
  unfold f_top_WholeBits
  rw [gAOf_eq, Option.bind_some, show ofBits true false false = 8 from rfl, if_pos rfl, Option.bind_some, if_neg (by decide), gAOf_eq, Option.bind_some]
  dsimp only
  obtain ⟨B1, B2, B3⟩ := bits_back b0 b1 b2
  obtain ⟨A0, A1⟩ := ofBits_rng b0 b1 b2
  generalize ofBits b0 b1 b2 = A at B1 B2 B3 A0 A1
  have hp : wP ⟨a1.fBase, a1.fLength, a1.fLeader, a1.fSum, A, a1.fLast, a1.fFirst, a1.fMax, a1.fProducer, a1.fEpoch, a1.fSequence, a1.fCount⟩ := ⟨q1, q2, q3, q4, ⟨by dsimp only; omega, by dsimp only; omega⟩, q6, q7, q8, q9, q10, q11, q12⟩
  by_cases h : okW ⟨a1.fBase, a1.fLength, a1.fLeader, a1.fSum, A, a1.fLast, a1.fFirst, a1.fMax, a1.fProducer, a1.fEpoch, a1.fSequence, a1.fCount⟩
  rotate_left
  · obtain ⟨t, ht⟩ := write_no h hp
    rw [ht, Option.bind_some, gOText_eq, Option.bind_some]
    dsimp only
    rw [otx_e t 11 (by decide)]
    dsimp only
    rw [if_neg (by decide), Option.bind_some, if_pos rfl]
  rw [write_ok [] h (by decide), Option.bind_some, List.nil_append, gOText_eq, Option.bind_some]
  dsimp only
  rw [otx_z]
  dsimp only
  rw [if_pos rfl]
  by_cases c1 : a1.fLength < 49
  · rw [if_pos c1, Option.bind_some, if_pos rfl]
  rw [if_neg c1]
  by_cases c2 : a1.fCount < 0
  · rw [if_pos c2, Option.bind_some, if_pos rfl]
  rw [if_neg c2, Option.bind_some, if_neg (by decide)]
  have hX := encP_len h.1
  have hok : okP ⟨a1.fBase, a1.fLength, a1.fLeader, a1.fSum, A, a1.fLast, a1.fFirst, a1.fMax, a1.fProducer, a1.fEpoch, a1.fSequence, a1.fCount⟩ := ⟨h.1, h.2, by dsimp only; omega, by dsimp only; omega⟩
  have hr := B_pfx.whole Sp_pfx (by rw [hX]; decide) hok
  have hi : -32768 ≤ IntKind.i16.wrap (N : Int) ∧ IntKind.i16.wrap (N : Int) ≤ 32767 := by rw [wrap_i16_]; omega
  have hf2 : fits (IntKind.i16.wrap (N : Int)) ((2 : Nat) : Int) = true := fits_small (.inl rfl) hi.1 hi.2
  have hok2 : okP ⟨a1.fBase, a1.fLength, a1.fLeader, a1.fSum, IntKind.i16.wrap (N : Int), a1.fLast, a1.fFirst, a1.fMax, a1.fProducer, a1.fEpoch, a1.fSequence, a1.fCount⟩ := by
    refine ⟨?_, h.2, by dsimp only; omega, by dsimp only; omega⟩
    obtain ⟨k1, k2, k3, k4, k5, k6, k7⟩ := h.1
    exact ⟨k1, k2, k3, k4, k5, hf2, k7⟩
  obtain ⟨ca, cb, hc⟩ := be2_any A
  have hY : toBs (((bsI (encP ⟨a1.fBase, a1.fLength, a1.fLeader, a1.fSum, A, a1.fLast, a1.fFirst, a1.fMax, a1.fProducer, a1.fEpoch, a1.fSequence, a1.fCount⟩)).set 21 (IntKind.u8.wrap (shrK .u16 (N : Int) 8))).set 22 (IntKind.u8.wrap (N : Int))) = encP ⟨a1.fBase, a1.fLength, a1.fLeader, a1.fSum, IntKind.i16.wrap (N : Int), a1.fLast, a1.fFirst, a1.fMax, a1.fProducer, a1.fEpoch, a1.fSequence, a1.fCount⟩ := by
    have e1 : IntKind.u8.wrap (shrK .u16 (N : Int) 8) = ((UInt8.ofNat (N / 256)).toNat : Int) := by
      rw [shr8_u16, wrap_u8, UInt8.toNat_ofNat']
    have e2 : IntKind.u8.wrap (N : Int) = ((UInt8.ofNat (N % 256)).toNat : Int) := by
      rw [wrap_u8, UInt8.toNat_ofNat']
      omega
    rw [e1, e2, bsI_set, bsI_set, toBs_bsI, encP_parts, encP_parts]
    dsimp only
    rw [hc, set_mid _ _ _ _ _ _ (preP_len _), be2 N (by omega)]
    rfl
  have hY2 := encP_len hok2.1
  have hr2 := B_pfx.whole Sp_pfx (by rw [hY2]; decide) hok2
  have g21 := bsI_get (l := encP ⟨a1.fBase, a1.fLength, a1.fLeader, a1.fSum, A, a1.fLast, a1.fFirst, a1.fMax, a1.fProducer, a1.fEpoch, a1.fSequence, a1.fCount⟩) (k := 21) (by omega)
  have g22 : ∃ u, ((bsI (encP ⟨a1.fBase, a1.fLength, a1.fLeader, a1.fSum, A, a1.fLast, a1.fFirst, a1.fMax, a1.fProducer, a1.fEpoch, a1.fSequence, a1.fCount⟩)).set 21 (IntKind.u8.wrap (shrK .u16 (N : Int) 8)))[22]? = some u := ⟨_, List.getElem?_eq_getElem (by rw [List.length_set, bsI_length]; omega)⟩
  obtain ⟨u22, g22⟩ := g22
  have hpk : f_prefix_Peek (encP ⟨a1.fBase, a1.fLength, a1.fLeader, a1.fSum, IntKind.i16.wrap (N : Int), a1.fLast, a1.fFirst, a1.fMax, a1.fProducer, a1.fEpoch, a1.fSequence, a1.fCount⟩) = some (a1.fLength + 12, 0) := by
    have hk := peek_of (by rw [hY2]; decide) (by rw [hY2]; decide) hr2
    exact hk
  have hb := hok2.1.2.1
  have hb' : fits a1.fLength 4 = true := hb
  rw [fits_4] at hb'
  have hb2 := of_decide_eq_true hb'
  rw [gNew_eq _ (by rw [hX]; decide), Option.bind_some, hr, Option.bind_some]
  dsimp only
  rw [gARead_eq, Option.bind_some, B1, B2, B3]
  dsimp only
  rw [g21, Option.bind_some, g22, Option.bind_some, hY, gNew_eq _ (by rw [hY2]; decide), Option.bind_some, hr2, Option.bind_some]
  dsimp only
  rw [hpk, Option.bind_some]
  dsimp only
  have L1 : -9223372036854775808 ≤ a1.fLength + 12 ∧ a1.fLength + 12 ≤ 9223372036854775807 := by omega
  have L2 : -9223372036854775808 ≤ IntKind.i16.wrap (N : Int) ∧ IntKind.i16.wrap (N : Int) ≤ 9223372036854775807 := by omega
  cases b0 <;> cases b1 <;> cases b2 <;> simp only [if_true, if_pos L1, if_pos L2, Bool.false_eq_true, if_false, Option.bind_some]
end Go.Proofs.Ytpiiopppbgpbpaa.Sl
namespace Go.Proofs.Ytpiiopppbgpbpaa.Sl
open Go.RowKit Go.Deep Go.ChangeShapes
set_option linter.unusedVariables false
def eqRd {α : Type} (f : α → List Value) : Rd α := ⟨fun _ _ cs a => cs = f a, fun h _ => h, fun h _ => h⟩
section
variable {H : Type} {enc : TypeId × Value → H} {P : Program} {α β : Type}
theorem op_arr {t e : TypeId} {E : Rd α} {W : α → Prop} (n : Nat) (g : α → Value) (mk : (Nat → α) → β) (cells : β → List Value) (Wb : β → Prop) (hn : 0 < n) (ht : P.underlying t = some (.array n e)) (hc : P.cellsOf e = 1) (hct : P.cellsOf t = n) (he : OpensW enc P e (andRd E W))
    (hE : ∀ w S cs x, E.P w S cs x → cs = [g x]) (hm : ∀ f, cells (mk f) = (List.range n).map (fun i => g (f i))) (hw : ∀ f, (∀ i, i < n → W (f i)) → Wb (mk f)) : OpensW enc P t (andRd (eqRd cells) Wb) := by
  intro w fuel cs x hx hwt
  obtain ⟨xs, m, rfl, rfl, hl, hxl, hf⟩ := DataW.trod_array ht hx
  have each : ∀ i : Fin n, ∃ y : α, (andRd E W).P w (fun k => k < w.heap.size) ((cs.drop i.val).take 1) y := by
    intro i
    have h1 := hf i.val i.isLt
    rw [hc, Nat.mul_one, List.getElem?_eq_getElem (by omega)] at h1
    refine he _ _ _ _ h1 (fun z hz => hwt z ?_)
    simp only [DataW.weights, ht]
    exact weightsAll_mem (d := xs[i.val].1) (List.mem_map.2 ⟨_, List.getElem_mem _, rfl⟩) hz
  obtain ⟨f, hff⟩ := Classical.axiomOfChoice each
  let f' : Nat → α := fun i => if h : i < n then f ⟨i, h⟩ else f ⟨0, hn⟩
  have hf' : ∀ i, i < n → (andRd E W).P w (fun k => k < w.heap.size) ((cs.drop i).take 1) (f' i) := by
    intro i hi
    have := hff ⟨i, hi⟩
    show (andRd E W).P _ _ _ (if h : i < n then f ⟨i, h⟩ else f ⟨0, hn⟩)
    rw [dif_pos hi]
    exact this
  refine ⟨mk f', ?_, hw f' (fun i hi => (hf' i hi).2)⟩
  show cs = cells (mk f')
  rw [hm]
  apply List.ext_getElem?
  intro i
  by_cases hi : i < n
  · have h1 := hE _ _ _ _ (hf' i hi).1
    have h2 : cs[i]? = ((cs.drop i).take 1)[0]? := by simp
    rw [h2, h1]
    simp [hi]
  · rw [List.getElem?_eq_none (by omega), List.getElem?_eq_none (by simp; omega)]
theorem opens_arg3 {t e : TypeId} {n : Nat} {E : Rd α} {r : Reach} {b0 : Nat} {w : World} {v : Value} {d : DataW H} {p : List MemPlace} (ht : P.underlying t = some (.array n e)) (hval : Value.okWide P w r b0 t v) (h : OpensW enc P t E)
    (hv : DataW.Trod enc P w 0 (fun _ => true) true t v d p) (hw : ∀ m, m ∈ d.weights P t → m ≤ reachBytes) : ∃ a cs, v = .agg cs ∧ E.P w (fun k => k < w.heap.size) cs.toList a := by
  have hv0 : ∃ cs, v = .agg cs := by
    simp only [Value.okWide, ht] at hval
    obtain ⟨cs, h1, _⟩ := hval
    exact ⟨cs, h1⟩
  obtain ⟨cs, rfl⟩ := hv0
  obtain ⟨fuel, hf⟩ := hv
  obtain ⟨a, ha⟩ := h _ _ _ _ hf hw
  exact ⟨a, cs, rfl, ha⟩
end
end Go.Proofs.Ytpiiopppbgpbpaa.Sl
namespace Go.Proofs.Ytpiiopppbgpbpaa.Sl
open Go.RowKit Go.Deep Go.ChangeShapes
set_option linter.unusedVariables false
theorem op_ar112 {H : Type} {enc : TypeId × Value → H} : OpensW enc Try.prog 112 (andRd (eqRd (fun a : Bool × Bool × Bool => [.bool a.1, .bool a.2.1, .bool a.2.2])) (fun a : Bool × Bool × Bool => wB a.1 ∧ wB a.2.1 ∧ wB a.2.2)) :=
  op_arr 3 (fun x => .bool x) (fun f => (f 0, f 1, f 2)) _ _ (by decide) Try.underlying112 (by kernel_rfl) (by kernel_rfl) (op_bool Try.underlying4) (fun _ _ _ _ h => h) (fun f => rfl) (fun f h => ⟨h 0 (by decide), h 1 (by decide), h 2 (by decide)⟩)
theorem op_Pfx {H : Type} {enc : TypeId × Value → H} : OpensW enc Try.prog 38 (andRd Pfx_rd wf_Pfx) :=
  opensW_weak (fun x => ⟨x.1, x.2.1, x.2.2.1, x.2.2.2.1, x.2.2.2.2.1, x.2.2.2.2.2.1, x.2.2.2.2.2.2.1, x.2.2.2.2.2.2.2.1, x.2.2.2.2.2.2.2.2.1, x.2.2.2.2.2.2.2.2.2.1, x.2.2.2.2.2.2.2.2.2.2.1, x.2.2.2.2.2.2.2.2.2.2.2.1⟩) (opensW_struct Try.underlying38 (by kernel_rfl) (opensWFs_cons 1 (by kernel_rfl) (by kernel_rfl) (op_i64 Try.underlying3) (opensWFs_cons 1 (by kernel_rfl) (by kernel_rfl) (op_i64 Try.underlying3) (opensWFs_cons 1 (by kernel_rfl) (by kernel_rfl) (op_i64 Try.underlying3) (opensWFs_cons 1 (by kernel_rfl) (by kernel_rfl) (op_i64 Try.underlying3) (opensWFs_cons 1 (by kernel_rfl) (by kernel_rfl) (op_i64 Try.underlying3) (opensWFs_cons 1 (by kernel_rfl) (by kernel_rfl) (op_i64 Try.underlying3) (opensWFs_cons 1 (by kernel_rfl) (by kernel_rfl) (op_i64 Try.underlying3) (opensWFs_cons 1 (by kernel_rfl) (by kernel_rfl) (op_i64 Try.underlying3) (opensWFs_cons 1 (by kernel_rfl) (by kernel_rfl) (op_i64 Try.underlying3) (opensWFs_cons 1 (by kernel_rfl) (by kernel_rfl) (op_i64 Try.underlying3) (opensWFs_cons 1 (by kernel_rfl) (by kernel_rfl) (op_i64 Try.underlying3) (opensWFs_cons 1 (by kernel_rfl) (by kernel_rfl) (op_i64 Try.underlying3) (opensWFs_nil _)))))))))))))) (by
    rintro w S cs ⟨x0, x1, x2, x3, x4, x5, x6, x7, x8, x9, x10, x11, _⟩ ⟨_, _, rfl, ⟨p0, q0⟩, _, _, rfl, ⟨p1, q1⟩, _, _, rfl, ⟨p2, q2⟩, _, _, rfl, ⟨p3, q3⟩, _, _, rfl, ⟨p4, q4⟩, _, _, rfl, ⟨p5, q5⟩, _, _, rfl, ⟨p6, q6⟩, _, _, rfl, ⟨p7, q7⟩, _, _, rfl, ⟨p8, q8⟩, _, _, rfl, ⟨p9, q9⟩, _, _, rfl, ⟨p10, q10⟩, _, _, rfl, ⟨p11, q11⟩, rfl⟩
    obtain rfl := p0
    obtain rfl := p1
    obtain rfl := p2
    obtain rfl := p3
    obtain rfl := p4
    obtain rfl := p5
    obtain rfl := p6
    obtain rfl := p7
    obtain rfl := p8
    obtain rfl := p9
    obtain rfl := p10
    obtain rfl := p11
    exact ⟨rfl, q0, q1, q2, q3, q4, q5, q6, q7, q8, q9, q10, q11⟩)
end Go.Proofs.Ytpiiopppbgpbpaa.Sl
namespace Go.Proofs.Ytpiiopppbgpbpaa.wholeBits
open Go.ChangeShapes Go.WideShapes Go.ChangeAt Go.RowKit
open Go.ChangeMaps (open_string shut_string)
set_option linter.unusedVariables false
theorem own : ownKnob Try.prog.godebug = none := by kernel_rfl
theorem laidOut : laidOutB Try.prog = true := by kernel_rfl
set_option maxRecDepth 100000 in
set_option maxHeartbeats 1000000 in
theorem lifted (os : Os) (started : os.Started) (H : Type) (enc : TypeId × Value → H) :
    ReturnsInHanded {} Try.checked os 14 .any (Rows.wholeBitsSpec.pre6 enc Try.prog Try.f14 Rows.wholeBitsRow.domain false) (Rows.wholeBitsSpec.post enc Try.prog Try.f14 false true false false) := by
  refine returnsInHanded_of_change_sized (C := Try.checked) own started (by kernel_rfl) Try.func14
    (ChangeSpec.witness6 (enc := enc) (C := Try.checked) false ⟨#[], #[.agg #[.bool false, .bool false, .bool false], .agg #[.int .i64 0, .int .i64 0, .int .i64 0, .int .i64 0, .int .i64 0, .int .i64 0, .int .i64 0, .int .i64 0, .int .i64 0, .int .i64 0, .int .i64 0, .int .i64 0], .int .u16 0], []⟩ 8 (by kernel_rfl) (by kernel_rfl) (by kernel_rfl) (by kernel_rfl)) ?_
  intro W base args ds gs before hval0 hW hcnd hsz0 _
  have hsz : (DataW.weightsEach Try.prog (Try.f14.params.toList ++ Rows.wholeBitsSpec.plain.varTypes Try.prog) (ds ++ gs)).all (· ≤ reachBytes) = true := hsz0
  have hval : ∀ (j : Nat) t v, Try.f14.params[j]? = some t → args[j]? = some v → Value.okWide Try.prog W .any base t v := hval0
  have hW' := hW
  obtain ⟨p, q, hA0, hV, rfl, hfz, hnd⟩ := hW
  have hA : DataW.TrodAll enc Try.prog W 0 (fun _ => true) true Try.f14.params.toList args.toList ds p := hA0
  rw [Try.params14] at hA hval hsz
  obtain ⟨v0, vs0, d0, ds0, p0, q0, hargs, rfl, rfl, h0, r0⟩ := trodAll_cons hA
  obtain ⟨v1, vs1, d1, ds1, p1, q1, rfl, rfl, rfl, h1, r1⟩ := trodAll_cons r0
  obtain ⟨v2, vs2, d2, ds2, p2, q2, rfl, rfl, rfl, h2, r2⟩ := trodAll_cons r1
  obtain ⟨rfl, rfl, rfl⟩ := trodAll_nil r2
  obtain rfl : args = #[v0, v1, v2] := by cases args; simp_all
  obtain ⟨rfl, rfl⟩ := trodVars_none hV
  have k0 := h0
  have lt0 : ∀ x ∈ p0, x.block < W.heap.size := by obtain ⟨m, hm⟩ := k0; exact DataW.trod_lt m _ _ _ hm
  obtain ⟨a0, cs0, rfl, r_0, w0⟩ := Sl.opens_arg3 Try.underlying112 (hval 0 112 v0 rfl rfl) Sl.op_ar112 h0 (fun x hx => of_decide_eq_true (List.all_eq_true.1 hsz x (Sl.weights_in 0 rfl rfl hx)))
  have e0 : cs0.toList = _ := r_0
  obtain rfl : cs0 = #[.bool a0.1, .bool a0.2.1, .bool a0.2.2] := by apply Array.toList_inj.1; exact e0
  have k1 := h1
  have lt1 : ∀ x ∈ p1, x.block < W.heap.size := by obtain ⟨m, hm⟩ := k1; exact DataW.trod_lt m _ _ _ hm
  obtain ⟨a1, cs1, rfl, r_1, w1⟩ := Sl.opens_arg2 Try.underlying38 (hval 1 38 v1 rfl rfl) Sl.op_Pfx h1 (fun x hx => of_decide_eq_true (List.all_eq_true.1 hsz x (Sl.weights_in 1 rfl rfl hx)))
  have e1 : cs1.toList = _ := r_1
  obtain rfl : cs1 = #[.int .i64 a1.fBase, .int .i64 a1.fLength, .int .i64 a1.fLeader, .int .i64 a1.fSum, .int .i64 a1.fAttr, .int .i64 a1.fLast, .int .i64 a1.fFirst, .int .i64 a1.fMax, .int .i64 a1.fProducer, .int .i64 a1.fEpoch, .int .i64 a1.fSequence, .int .i64 a1.fCount] := by apply Array.toList_inj.1; exact e1
  obtain ⟨a2, rfl, rfl, rfl, u2⟩ := open_int Try.underlying79 (hval 2 79 v2 rfl rfl) h2
  have w2 := Go.bounds_u16 u2
  clear hA0 hval0 hsz0 hsz
  refine (Sl.f_top_WholeBits_spec a0 a1 a2 true (Sl.pure_WholeBits a0 a1 a2 w0 w1 w2) (fun _ => False) W (fun _ h => h) (Sl.RX.reads_triv _ _)).mono fun e W' hP => ?_
  obtain ⟨v, A', Ns, rfl, ⟨rfl, rfl, rfl⟩, hst⟩ := hP
  have bel := Sl.St.below hst
  exact ⟨_, rfl, _, _, _, [], _, [], hW', trodAll_mk1 (shut_bool Try.underlying4 _), (trodAll_cons_mk (Below.trod laidOut (by kernel_rfl) (of_decide_eq_true (by kernel_rfl)) k0 bel lt0) (trodAll_cons_mk (Below.trod laidOut (by kernel_rfl) (of_decide_eq_true (by kernel_rfl)) k1 bel lt1) (trodAll_cons_mk (shut_int Try.underlying79 u2) trodAll_mk0))), rfl, bel.frame _, fun h => by cases h⟩
theorem over : Rows.wholeBitsRow.holds Try.pinned (OpenSpec.ofChange Rows.wholeBitsSpec) :=
  OpenClaim.holds_of_wide 14 Try.f14 rfl rfl rfl rfl rfl rfl rfl ⟨rfl, rfl, rfl, rfl, rfl⟩ rfl rfl rfl rfl rfl (by kernel_rfl) Try.func14 (by kernel_rfl)
    (of_decide_eq_true (by kernel_rfl)) (by unfold Func.isWrapper; first | (rw [if_pos (by decide +kernel)]; kernel_rfl) | (rw [if_neg (by decide +kernel)]; exact ⟨rfl, rfl⟩))
    (fun os started H enc _ => lifted os started H enc)
theorem proved : Rows.WholeBitsSaid := over
end Go.Proofs.Ytpiiopppbgpbpaa.wholeBits
namespace Go.Proofs.Ytpiiopppbgpbpaa
theorem wholeBits_holds : Rows.WholeBitsSaid := wholeBits.proved
end Go.Proofs.Ytpiiopppbgpbpaa
