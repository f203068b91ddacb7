/- WholeLog: for every input the law returns true, and its arguments read behind the call as they did before. -/
import Derived.Maps.RangeWalk
import Derived.Test.YtlhgogjcaegehaaRows
import Derived.WalkKit
import Derived.ProofKit
import Derived.OpenShut
import Derived.ShutString
import Derived.ChangeOld
import Derived.Below
import Derived.SizedLaws
import Derived.Test.YtlhgogjcaegehaaK2
namespace Go.Proofs.Ytlhgogjcaegehaa.Sl
open Go.RowKit
set_option linter.unusedVariables false
set_option linter.unusedSimpArgs false
set_option maxRecDepth 100000
def ft_journal : FTab := [(24, 4, 4), (28, 0, 0), (28, 1, 1), (30, 0, 0), (30, 1, 1), (46, 0, 0), (46, 1, 1), (81, 0, 0), (81, 1, 1)]
theorem ft_journal_ok : (ft_journal).OK Try.prog := ⟨FOK.mk Try.runUnderlying24 rfl Try.sizeOf22 rfl, FOK.mk Try.runUnderlying28 rfl Try.sizeOf4 rfl, FOK.mk Try.runUnderlying28 rfl Try.sizeOf9 rfl, FOK.mk Try.runUnderlying30 rfl Try.sizeOf9 rfl, FOK.mk Try.runUnderlying30 rfl Try.sizeOf28 rfl, FOK.mk Try.runUnderlying46 rfl Try.sizeOf9 rfl, FOK.mk Try.runUnderlying46 rfl Try.sizeOf44 rfl, FOK.mk Try.runUnderlying81 rfl Try.sizeOf79 rfl, FOK.mk Try.runUnderlying81 rfl Try.sizeOf3 rfl, trivial⟩
def nt_journal : List Nat := [3, 4, 9, 22, 79]
theorem nt_journal_ok : NOK Try.prog nt_journal := ⟨Try.isAgg3, Try.isAgg4, Try.isAgg9, Try.isAgg22, Try.isAgg79, trivial⟩
theorem mix_journal : Try.prog.follows .mixedOrders = true := by kernel_rfl
theorem bok_journal_30 : BOK Try.prog 30 #[.string ⟨#[]⟩, .bool false, .string ⟨#[]⟩] [(0, 1), (1, 2)] := BOK.mk Try.zeroValue30 Try.runUnderlying30 (by intro w; simp)
theorem bok_journal_46 : BOK Try.prog 46 #[.string ⟨#[]⟩, .slice none 0 0] [(0, 1), (1, 1)] := BOK.mk Try.zeroValue46 Try.runUnderlying46 (by intro w; simp)
theorem bok_journal_81 : BOK Try.prog 81 #[.map none, .int .i64 0] [(0, 1), (1, 1)] := BOK.mk Try.zeroValue81 Try.runUnderlying81 (by intro w; simp)
theorem sok_journal_22_1 : SOK Try.prog 22 46 1 2 #[.string ⟨#[]⟩, .slice none 0 0] := SOK.mk Try.runUnderlying22 Try.sizeOf46 Try.zeroValue46 (by decide) (by kernel_rfl)
theorem sok_journal_51_1 : SOK Try.prog 51 30 1 3 #[.string ⟨#[]⟩, .bool false, .string ⟨#[]⟩] := SOK.mk Try.runUnderlying51 Try.sizeOf30 Try.zeroValue30 (by decide) (by kernel_rfl)
theorem inf_journal_30 : (Try.prog.info? 30).map (fun i => (i.zero, i.size, i.bytes)) = some (some (.agg #[.string ⟨#[]⟩, .bool false, .string ⟨#[]⟩]), 3, 40) := by kernel_rfl
theorem inf_journal_46 : (Try.prog.info? 46).map (fun i => (i.zero, i.size, i.bytes)) = some (some (.agg #[.string ⟨#[]⟩, .slice none 0 0]), 2, 40) := by kernel_rfl
def f_journal_Put (a0 : List UInt8) (a1 : Val) : Option (JournalEntry × Int) := (gKEncode a0).bind fun (x5, x6) => if x6 = 0 then ((f_value_Encode a1).bind fun (x9, x10) => if x10 = 0 then ((gOf x9).bind fun x13 => some ((⟨x5, x13⟩ : JournalEntry), 0)) else (some ((⟨[], (⟨false, []⟩ : Bl)⟩ : JournalEntry), x10))) else (some ((⟨[], (⟨false, []⟩ : Bl)⟩ : JournalEntry), x6))
set_option maxRecDepth 100000 in
set_option maxHeartbeats 4000000 in
theorem f_journal_Put_spec (a0 : List UInt8) (a1 : Val) (A1 : Option Addr) (c2 : Nat) (r : JournalEntry × Int) (h : f_journal_Put a0 a1 = some r) : SpecX Try.prog 8 #[.string (bsOf a0), .agg #[.int .i64 a1.fProducer, .int .i64 a1.fEpoch, .int .i64 a1.fTimeout, .int .i64 a1.fState, .slice A1 a1.fTopics.length c2, .int .i64 a1.fUpdated, .int .i64 a1.fStarted]] (RX.of (sliceRd 2 Top_rd) [.slice A1 a1.fTopics.length c2] a1.fTopics) (EmpR) (fun v A' N => v = .tuple #[.agg #[.string (bsOf r.1.fKey), .bool r.1.fValue.null, .string (bsOf r.1.fValue.data)], .int .i64 r.2] ∧ A' = EmpR ∧ N = []) := by
  refine enterA Try.func8 rfl Try.ntmps8 rfl ?_
  intro F w hX
  unfold f_journal_Put at h
  refine T.seq (T.region rfl ?_)
  refine TL.box rfl .u rfl rfl (fun b3 => ?_)
  refine TL.alloc rfl .u Try.zeroValue30 rfl (fun b4 => ?_)
  refine TL.run ft_journal_ok [2] rfl rfl ?_
  refine TL.nil (X.seq (T.seq (T.region rfl ?_)))
  obtain ⟨⟨x5, x6⟩, hx7, h⟩ := Option.bind_eq_some_iff.1 h
  try dsimp only at h
  refine TL.run ft_journal_ok [0] rfl rfl ?_
  refine TL.ce rfl .u (.fn Try.call10 rfl) (gKEncode_spec a0 _ hx7) (fun _ hs => (RX.reads_triv _ _)) rfl ?_
  refine TL.run ft_journal_ok [2, 3, 4, 5, 6] rfl rfl ?_
  refine TL.nil (X.seq (T.seq (T.seq (T.region rfl ?_))))
  refine TL.run ft_journal_ok [0, 1] rfl rfl ?_
  by_cases c8 : x6 = 0
  · replace h := ifT c8 h
    refine TL.nil (X.seq ?_)
    refine T.no rfl (bn_f (decide_eq_true c8)) ?_
    refine T.skip (X.seq (T.seq (T.region rfl ?_)))
    refine TL.q rfl .u (Ex.bS (us := [.int .i64 a1.fProducer, .int .i64 a1.fEpoch, .int .i64 a1.fTimeout, .int .i64 a1.fState, .slice A1 a1.fTopics.length c2, .int .i64 a1.fUpdated, .int .i64 a1.fStarted]) 1 rfl Try.isAgg24 Try.sizeOf24 rfl rfl rfl) rfl ?_
    obtain ⟨⟨x9, x10⟩, hx11, h⟩ := Option.bind_eq_some_iff.1 h
    try dsimp only at h
    refine TL.ce rfl .u (.fn Try.call26 rfl) (f_value_Encode_spec a1 _ _ _ hx11) (fun _ hs => (SrcE.old hs hX)) rfl ?_
    refine TL.run ft_journal_ok [2, 3, 4, 5, 6] rfl rfl ?_
    refine TL.nil (X.seq (T.seq (T.seq (T.region rfl ?_))))
    refine TL.run ft_journal_ok [0, 1] rfl rfl ?_
    by_cases c12 : x10 = 0
    · replace h := ifT c12 h
      refine TL.nil (X.seq ?_)
      refine T.no rfl (bn_f (decide_eq_true c12)) ?_
      refine T.skip (X.seq (T.seq (T.region rfl ?_)))
      obtain ⟨x13, hx14, h⟩ := Option.bind_eq_some_iff.1 h
      refine TL.run ft_journal_ok [0, 1] rfl rfl ?_
      refine TL.ce rfl .u (.fn Try.call27 rfl) (gOf_spec x9 _ hx14) (fun _ hs => (RX.reads_triv _ _)) rfl ?_
      refine TL.q rfl .u (Ex.bld (cells := #[.string (bsOf x5), .bool x13.null, .string (bsOf x13.data)]) bok_journal_30 rfl (by kernel_rfl)) rfl ?_
      refine TL.st0 (cs' := #[.string (bsOf x5), .bool x13.null, .string (bsOf x13.data)]) rfl .u rfl rfl Try.sizeOf30 rfl rfl rfl rfl ?_
      refine TL.run ft_journal_ok [5] rfl rfl ?_
      obtain rfl := Option.some.inj h
      exact TL.nil (X.seq (T.ret (X.done2 [2] Try.results8 (RV.cS (us := #[.string (bsOf x5), .bool x13.null, .string (bsOf x13.data)]) 0 rfl Try.isAgg30 Try.sizeOf30 rfl rfl) (RV.tm rfl) ⟨rfl, rfl, rfl⟩ (by rfl) (.inl rfl))))
    · replace h := ifF c12 h
      refine TL.nil (X.seq ?_)
      refine T.yes rfl (bn_t (decide_eq_false c12)) ?_
      refine T.seq (T.region rfl ?_)
      refine TL.q rfl .u (Ex.bld (cells := #[.string ⟨#[]⟩, .bool false, .string ⟨#[]⟩]) bok_journal_30 rfl (by kernel_rfl)) rfl ?_
      refine TL.run ft_journal_ok [1] rfl rfl ?_
      refine TL.st0 (cs' := #[.string ⟨#[]⟩, .bool false, .string ⟨#[]⟩]) rfl .u rfl rfl Try.sizeOf30 rfl rfl rfl rfl ?_
      refine TL.run ft_journal_ok [3] rfl rfl ?_
      obtain rfl := Option.some.inj h
      exact TL.nil (X.seq (T.ret (X.rs (X.done2 [2] Try.results8 (RV.cS (us := #[.string ⟨#[]⟩, .bool false, .string ⟨#[]⟩]) 0 rfl Try.isAgg30 Try.sizeOf30 rfl rfl) (RV.tm rfl) ⟨rfl, rfl, rfl⟩ (by rfl) (.inl rfl)))))
  · replace h := ifF c8 h
    refine TL.nil (X.seq ?_)
    refine T.yes rfl (bn_t (decide_eq_false c8)) ?_
    refine T.seq (T.region rfl ?_)
    refine TL.q rfl .u (Ex.bld (cells := #[.string ⟨#[]⟩, .bool false, .string ⟨#[]⟩]) bok_journal_30 rfl (by kernel_rfl)) rfl ?_
    refine TL.run ft_journal_ok [1] rfl rfl ?_
    refine TL.st0 (cs' := #[.string ⟨#[]⟩, .bool false, .string ⟨#[]⟩]) rfl .u rfl rfl Try.sizeOf30 rfl rfl rfl rfl ?_
    refine TL.run ft_journal_ok [3] rfl rfl ?_
    obtain rfl := Option.some.inj h
    exact TL.nil (X.seq (T.ret (X.rs (X.done2 [2] Try.results8 (RV.cS (us := #[.string ⟨#[]⟩, .bool false, .string ⟨#[]⟩]) 0 rfl Try.isAgg30 Try.sizeOf30 rfl rfl) (RV.tm rfl) ⟨rfl, rfl, rfl⟩ (by rfl) (.inl rfl)))))
def f_journal_Drop (a0 : List UInt8) : Option (JournalEntry × Int) := (gKEncode a0).bind fun (x2, x3) => if x3 = 0 then ((gNone).bind fun x6 => some ((⟨x2, x6⟩ : JournalEntry), 0)) else (some ((⟨[], (⟨false, []⟩ : Bl)⟩ : JournalEntry), x3))
set_option maxRecDepth 100000 in
set_option maxHeartbeats 4000000 in
theorem f_journal_Drop_spec (a0 : List UInt8) (r : JournalEntry × Int) (h : f_journal_Drop a0 = some r) : SpecX Try.prog 9 #[.string (bsOf a0)] .triv (EmpR) (fun v A' N => v = .tuple #[.agg #[.string (bsOf r.1.fKey), .bool r.1.fValue.null, .string (bsOf r.1.fValue.data)], .int .i64 r.2] ∧ A' = EmpR ∧ N = []) := by
  refine enterA Try.func9 rfl Try.ntmps9 rfl ?_
  intro F w hX
  unfold f_journal_Drop at h
  refine T.seq (T.region rfl ?_)
  refine TL.alloc rfl .u Try.zeroValue30 rfl (fun b1 => ?_)
  refine TL.run ft_journal_ok [1] rfl rfl ?_
  refine TL.nil (X.seq (T.seq (T.region rfl ?_)))
  obtain ⟨⟨x2, x3⟩, hx4, h⟩ := Option.bind_eq_some_iff.1 h
  try dsimp only at h
  refine TL.run ft_journal_ok [0] rfl rfl ?_
  refine TL.ce rfl .u (.fn Try.call10 rfl) (gKEncode_spec a0 _ hx4) (fun _ hs => (RX.reads_triv _ _)) rfl ?_
  refine TL.run ft_journal_ok [2, 3, 4, 5, 6] rfl rfl ?_
  refine TL.nil (X.seq (T.seq (T.seq (T.region rfl ?_))))
  refine TL.run ft_journal_ok [0, 1] rfl rfl ?_
  by_cases c5 : x3 = 0
  · replace h := ifT c5 h
    refine TL.nil (X.seq ?_)
    refine T.no rfl (bn_f (decide_eq_true c5)) ?_
    refine T.skip (X.seq (T.seq (T.region rfl ?_)))
    obtain ⟨x6, hx7, h⟩ := Option.bind_eq_some_iff.1 h
    refine TL.run ft_journal_ok [0] rfl rfl ?_
    refine TL.ce rfl .u (.fn Try.call28 rfl) (gNone_spec _ hx7) (fun _ hs => (RX.reads_triv _ _)) rfl ?_
    refine TL.q rfl .u (Ex.bld (cells := #[.string (bsOf x2), .bool x6.null, .string (bsOf x6.data)]) bok_journal_30 rfl (by kernel_rfl)) rfl ?_
    refine TL.st0 (cs' := #[.string (bsOf x2), .bool x6.null, .string (bsOf x6.data)]) rfl .u rfl rfl Try.sizeOf30 rfl rfl rfl rfl ?_
    refine TL.run ft_journal_ok [4] rfl rfl ?_
    obtain rfl := Option.some.inj h
    exact TL.nil (X.seq (T.ret (X.done2 [1] Try.results9 (RV.cS (us := #[.string (bsOf x2), .bool x6.null, .string (bsOf x6.data)]) 0 rfl Try.isAgg30 Try.sizeOf30 rfl rfl) (RV.tm rfl) ⟨rfl, rfl, rfl⟩ (by rfl) (.inl rfl))))
  · replace h := ifF c5 h
    refine TL.nil (X.seq ?_)
    refine T.yes rfl (bn_t (decide_eq_false c5)) ?_
    refine T.seq (T.region rfl ?_)
    refine TL.q rfl .u (Ex.bld (cells := #[.string ⟨#[]⟩, .bool false, .string ⟨#[]⟩]) bok_journal_30 rfl (by kernel_rfl)) rfl ?_
    refine TL.run ft_journal_ok [1] rfl rfl ?_
    refine TL.st0 (cs' := #[.string ⟨#[]⟩, .bool false, .string ⟨#[]⟩]) rfl .u rfl rfl Try.sizeOf30 rfl rfl rfl rfl ?_
    refine TL.run ft_journal_ok [3] rfl rfl ?_
    obtain rfl := Option.some.inj h
    exact TL.nil (X.seq (T.ret (X.rs (X.done2 [1] Try.results9 (RV.cS (us := #[.string ⟨#[]⟩, .bool false, .string ⟨#[]⟩]) 0 rfl Try.isAgg30 Try.sizeOf30 rfl rfl) (RV.tm rfl) ⟨rfl, rfl, rfl⟩ (by rfl) (.inl rfl)))))
def f_journal_New  : Option (JournalJournal) := some (⟨[], 0⟩ : JournalJournal)
set_option maxRecDepth 100000 in
set_option maxHeartbeats 4000000 in
theorem f_journal_New_spec  (r : JournalJournal) (h : f_journal_New  = some r) : SpecX Try.prog 12 #[] .triv (EmpR) (fun v A' N => ∃ q : Nat, v = .pointer (some ⟨q, 0, none⟩) ∧ A' = EmpR ∧ N = [MbR_JournalJournal q r]) := by
  refine enterA Try.func12 rfl Try.ntmps12 rfl ?_
  intro F w hX
  unfold f_journal_New at h
  refine T.seq (T.region rfl ?_)
  refine TL.run ft_journal_ok [0] rfl rfl ?_
  refine TL.nil (X.seq (T.seq (T.region rfl ?_)))
  refine TL.mkmap (kt := 9) Val_rd rfl .u rfl (fun b1 => ?_)
  refine TL.q rfl .u (Ex.bld (cells := #[.map (some b1), .int .i64 0]) bok_journal_81 rfl (by kernel_rfl)) rfl ?_
  refine TL.box rfl .u rfl rfl (fun b2 => ?_)
  refine TL.run ft_journal_ok [3] rfl rfl ?_
  obtain rfl := Option.some.inj h
  refine TL.nil (X.seq (T.ret ?_))
  refine X.sel [0, 0, 0] rfl ?_
  refine MbR_JournalJournal_shut b2 (⟨[], 0⟩ : JournalJournal) b1 rfl ?_
  exact X.done1 [1, 0] Try.results12 (RV.tm rfl) ⟨_, rfl, rfl, rfl⟩ (by rfl) (.inl rfl)
def f_journal_JournalApply (st : JournalJournal) (a1 : JournalEntry) : Option (Int × JournalJournal) := (gKDecode a1.fKey).bind fun (x3, x4) => if x4 = 0 then ((gRight a1.fValue).bind fun x7 => if x7 = true then (if a1.fValue.null = true then (if x3.length ≤ 140737488355328 then (if -9223372036854775808 ≤ (st.fmany + 1) ∧ (st.fmany + 1) ≤ 9223372036854775807 then (some (0, (⟨(mrem x3 st.fknown), (st.fmany + 1)⟩ : JournalJournal))) else none) else none) else ((f_value_Decode a1.fValue.data).bind fun (x13, x16) => if x16 = 0 then (if st.fknown.length + 1 ≤ 140737488355328 ∧ x3.length ≤ 140737488355328 then (if -9223372036854775808 ≤ (st.fmany + 1) ∧ (st.fmany + 1) ≤ 9223372036854775807 then (some (0, (⟨(mput x3 x13 st.fknown), (st.fmany + 1)⟩ : JournalJournal))) else none) else none) else some (x16, st))) else some (4, st)) else some (x4, st)
set_option maxRecDepth 100000 in
set_option maxHeartbeats 4000000 in
theorem f_journal_JournalApply_spec (g : Nat) (st : JournalJournal) (a1 : JournalEntry) (r : Int × JournalJournal) (h : f_journal_JournalApply st a1 = some r) : SpecX Try.prog 14 #[.pointer (some ⟨g, 0, none⟩), .agg #[.string (bsOf a1.fKey), .bool a1.fValue.null, .string (bsOf a1.fValue.data)]] .triv (MbR_JournalJournal g st) (fun v A' N => v = .int .i64 r.1 ∧ A' = MbR_JournalJournal g r.2 ∧ N = []) := by
  refine enterA Try.func14 rfl Try.ntmps14 rfl ?_
  intro F w hX
  refine T.pakOpen 0 rfl ?_
  rintro b1
  refine T.sel [0, 0] rfl ?_
  unfold f_journal_JournalApply at h
  refine T.seq (T.region rfl ?_)
  refine TL.box rfl .u rfl rfl (fun b2 => ?_)
  refine TL.run ft_journal_ok [1] rfl rfl ?_
  refine TL.nil (X.seq (T.seq (T.region rfl ?_)))
  obtain ⟨⟨x3, x4⟩, hx5, h⟩ := Option.bind_eq_some_iff.1 h
  try dsimp only at h
  refine TL.rb ft_journal_ok nt_journal_ok 0 rfl 2 rfl rfl ?_
  refine TL.ce rfl .u (.fn Try.call18 rfl) (gKDecode_spec a1.fKey _ hx5) (fun _ hs => (RX.reads_triv _ _)) rfl ?_
  refine TL.run ft_journal_ok [3, 4, 5, 6, 7] rfl rfl ?_
  refine TL.nil (X.seq (T.seq (T.seq (T.region rfl ?_))))
  refine TL.run ft_journal_ok [0, 1] rfl rfl ?_
  by_cases c6 : x4 = 0
  · replace h := ifT c6 h
    refine TL.nil (X.seq ?_)
    refine T.no rfl (bn_f (decide_eq_true c6)) ?_
    refine T.skip (X.seq (T.seq (T.seq (T.region rfl ?_))))
    refine TL.run ft_journal_ok [0] rfl rfl ?_
    refine TL.q rfl .u (Ex.bS (us := [.bool a1.fValue.null, .string (bsOf a1.fValue.data)]) 0 rfl Try.isAgg28 Try.sizeOf28 rfl rfl rfl) rfl ?_
    obtain ⟨x7, hx8, h⟩ := Option.bind_eq_some_iff.1 h
    refine TL.ce rfl .u (.fn Try.call36 rfl) (gRight_spec a1.fValue _ hx8) (fun _ hs => (RX.reads_triv _ _)) rfl ?_
    refine TL.run ft_journal_ok [3] rfl rfl ?_
    by_cases c9 : x7 = true
    · replace h := ifT c9 h
      refine TL.nil (X.seq ?_)
      refine T.no rfl (bn_f c9) ?_
      refine T.skip (X.seq (T.seq (T.seq (T.region rfl ?_))))
      refine TL.rb ft_journal_ok nt_journal_ok 0 rfl 3 rfl rfl ?_
      by_cases c10 : a1.fValue.null = true
      · replace h := ifT c10 h
        refine TL.nil (X.seq ?_)
        refine T.yes rfl c10 ?_
        refine T.region rfl ?_
        replace h := guard_some h
        obtain ⟨c11, h⟩ := h
        refine TL.rb ft_journal_ok nt_journal_ok 1 rfl 5 rfl rfl ?_
        refine TL.mdel (k := x3) 2 rfl .u rfl rfl Try.underlying79 Try.underlying9 c11 rfl rfl ?_
        refine TL.sel [0, 0, 0] rfl ?_
        refine TL.nil (X.seq (T.seq (T.region rfl ?_)))
        replace h := guard_some h
        obtain ⟨c12, h⟩ := h
        refine TL.rb ft_journal_ok nt_journal_ok 1 rfl 4 rfl rfl ?_
        refine TL.q rfl .u (Ex.add rfl rfl c12) rfl ?_
        refine TL.run ft_journal_ok [5, 6] rfl rfl ?_
        refine TL.st1 (cs' := #[.map (some b1), .int .i64 (st.fmany + 1)]) rfl .u rfl rfl Try.sizeOf3 rfl rfl rfl rfl ?_
        refine TL.nil (X.seq (T.seq (T.region rfl ?_)))
        refine TL.run ft_journal_ok [0] rfl rfl ?_
        obtain rfl := Option.some.inj h
        refine TL.nil (X.seq (T.ret ?_))
        refine X.sel [1, 1, 0] rfl ?_
        refine MbR_JournalJournal_shut g (⟨(mrem x3 st.fknown), (st.fmany + 1)⟩ : JournalJournal) b1 rfl ?_
        exact X.done1 [0] Try.results14 (RV.tm rfl) ⟨rfl, rfl, rfl⟩ (by rfl) (.inl rfl)
      · replace h := ifF c10 h
        replace c10 := eq_false_of_ne_true c10
        refine TL.nil (X.seq ?_)
        refine T.no rfl c10 ?_
        refine T.seq (T.region rfl ?_)
        obtain ⟨⟨x13, x16⟩, hx17, h⟩ := Option.bind_eq_some_iff.1 h
        try dsimp only at h
        refine TL.rb ft_journal_ok nt_journal_ok 0 rfl 3 rfl rfl ?_
        refine TL.cge rfl .u (.fn Try.call20 rfl) (f_value_Decode_spec a1.fValue.data _ hx17) (fun _ hs => (RX.reads_triv _ _)) rfl ?_
        rintro _ _ _ ⟨A14, c15, rfl, rfl, rfl⟩
        refine TL.sel [0, 0, 0, 0] rfl ?_
        refine TL.run ft_journal_ok [4, 5, 6] rfl rfl ?_
        refine TL.alloc rfl .u Try.zeroValue24 rfl (fun b18 => ?_)
        refine TL.st0 (cs' := #[.int .i64 x13.fProducer, .int .i64 x13.fEpoch, .int .i64 x13.fTimeout, .int .i64 x13.fState, .slice A14 x13.fTopics.length c15, .int .i64 x13.fUpdated, .int .i64 x13.fStarted]) rfl .u rfl rfl Try.sizeOf24 rfl rfl rfl rfl ?_
        refine TL.run ft_journal_ok [9] rfl rfl ?_
        refine TL.nil (X.seq (T.seq (T.seq (T.region rfl ?_))))
        refine TL.run ft_journal_ok [0, 1] rfl rfl ?_
        by_cases c19 : x16 = 0
        · replace h := ifT c19 h
          refine TL.nil (X.seq ?_)
          refine T.no rfl (bn_f (decide_eq_true c19)) ?_
          refine T.skip (X.seq (T.draw (.q 0 (.q 1 (.q 2 (.q 3 (.q 4 (.q 5 (.e 6 .nil))))))) [0, 1, 1] rfl mix_journal (NoP.seq np_post) (by kernel_rfl) ?_))
          refine TD.run ft_journal_ok [0, 1, 2] rfl rfl ?_
          refine TD.q rfl .u (Ex.b1 2 rfl Try.isAgg79 rfl rfl) rfl ?_
          refine TD.run ft_journal_ok [4] rfl rfl ?_
          refine TD.q rfl .u (Ex.bS (us := [.int .i64 x13.fProducer, .int .i64 x13.fEpoch, .int .i64 x13.fTimeout, .int .i64 x13.fState, .slice A14 x13.fTopics.length c15, .int .i64 x13.fUpdated, .int .i64 x13.fStarted]) 0 rfl Try.isAgg24 Try.sizeOf24 rfl rfl rfl) rfl ?_
          replace h := guard_some h
          obtain ⟨c20, h⟩ := h
          refine TD.mset 4 1 (cs := [.int .i64 x13.fProducer, .int .i64 x13.fEpoch, .int .i64 x13.fTimeout, .int .i64 x13.fState, .slice A14 x13.fTopics.length c15, .int .i64 x13.fUpdated, .int .i64 x13.fStarted]) (u := x13) (k := x3) rfl .u rfl rfl rfl Try.underlying79 Try.underlying9 c20 rfl rfl (fun w G hG => ⟨_, _, rfl, hG.1⟩) [1, 1, 1] rfl ?_
          refine TD.sel [0, 0, 0, 0] rfl ?_
          refine TD.nil (X.seq (T.seq (T.region rfl ?_)))
          replace h := guard_some h
          obtain ⟨c21, h⟩ := h
          refine TL.rb ft_journal_ok nt_journal_ok 3 rfl 4 rfl rfl ?_
          refine TL.q rfl .u (Ex.add rfl rfl c21) rfl ?_
          refine TL.run ft_journal_ok [5, 6] rfl rfl ?_
          refine TL.st3 (cs' := #[.map (some b1), .int .i64 (st.fmany + 1)]) rfl .u rfl rfl Try.sizeOf3 rfl rfl rfl rfl ?_
          refine TL.nil (X.seq (T.seq (T.region rfl ?_)))
          refine TL.run ft_journal_ok [0] rfl rfl ?_
          obtain rfl := Option.some.inj h
          refine TL.nil (X.seq (T.ret ?_))
          refine X.sel [3, 0, 0, 0] rfl ?_
          refine MbR_JournalJournal_shut g (⟨(mput x3 x13 st.fknown), (st.fmany + 1)⟩ : JournalJournal) b1 rfl ?_
          exact X.done1 [0] Try.results14 (RV.tm rfl) ⟨rfl, rfl, rfl⟩ (by rfl) (.inl rfl)
        · replace h := ifF c19 h
          refine TL.nil (X.seq ?_)
          refine T.yes rfl (bn_t (decide_eq_false c19)) ?_
          refine T.seq (T.region rfl ?_)
          refine TL.run ft_journal_ok [0, 1] rfl rfl ?_
          obtain rfl := Option.some.inj h
          refine TL.nil (X.seq (T.ret (X.rs (X.rs ?_))))
          refine X.sel [3, 3, 0, 0, 0] rfl ?_
          refine MbR_JournalJournal_shut g st b1 rfl ?_
          exact X.done1 [0] Try.results14 (RV.tm rfl) ⟨rfl, rfl, rfl⟩ (by rfl) (.inl rfl)
    · replace h := ifF c9 h
      replace c9 := eq_false_of_ne_true c9
      refine TL.nil (X.seq ?_)
      refine T.yes rfl (bn_t c9) ?_
      refine T.seq (T.region rfl ?_)
      refine TL.run ft_journal_ok [0] rfl rfl ?_
      obtain rfl := Option.some.inj h
      refine TL.nil (X.seq (T.ret (X.rs ?_)))
      refine X.sel [1, 1, 0] rfl ?_
      refine MbR_JournalJournal_shut g st b1 rfl ?_
      exact X.done1 [0] Try.results14 (RV.tm rfl) ⟨rfl, rfl, rfl⟩ (by rfl) (.inl rfl)
  · replace h := ifF c6 h
    refine TL.nil (X.seq ?_)
    refine T.yes rfl (bn_t (decide_eq_false c6)) ?_
    refine T.seq (T.region rfl ?_)
    refine TL.run ft_journal_ok [0, 1] rfl rfl ?_
    obtain rfl := Option.some.inj h
    refine TL.nil (X.seq (T.ret (X.rs ?_)))
    refine X.sel [1, 1, 0] rfl ?_
    refine MbR_JournalJournal_shut g st b1 rfl ?_
    exact X.done1 [0] Try.results14 (RV.tm rfl) ⟨rfl, rfl, rfl⟩ (by rfl) (.inl rfl)
def f_journal_copied_l1 : List Top → List Top → Option (List Top)
  | [], y5 => some y5
  | x13 :: xs, y5 => (gClone x13.fParts).bind fun x21 => if (y5.length + 1) * 40 ≤ 140737488355328 then (f_journal_copied_l1 xs (y5 ++ [(⟨x13.fName, x21⟩ : Top)])) else none
def f_journal_copied (a0 : Val) : Option (Val) := (f_journal_copied_l1 a0.fTopics []).bind fun y29 => some (⟨a0.fProducer, a0.fEpoch, a0.fTimeout, a0.fState, y29, a0.fUpdated, a0.fStarted⟩ : Val)
set_option maxRecDepth 100000 in
set_option maxHeartbeats 4000000 in
theorem f_journal_copied_spec (a0 : Val) (A1 : Option Addr) (c2 : Nat) (r : Val) (h : f_journal_copied a0 = some r) : SpecX Try.prog 37 #[.agg #[.int .i64 a0.fProducer, .int .i64 a0.fEpoch, .int .i64 a0.fTimeout, .int .i64 a0.fState, .slice A1 a0.fTopics.length c2, .int .i64 a0.fUpdated, .int .i64 a0.fStarted]] (RX.of (sliceRd 2 Top_rd) [.slice A1 a0.fTopics.length c2] a0.fTopics) (EmpR) (fun v A' N => ∃ (A33 : Option Addr) (c34 : Nat), v = .agg #[.int .i64 r.fProducer, .int .i64 r.fEpoch, .int .i64 r.fTimeout, .int .i64 r.fState, .slice A33 r.fTopics.length c34, .int .i64 r.fUpdated, .int .i64 r.fStarted] ∧ A' = EmpR ∧ N = [OwnR 46 2 Top_cop (.slice A33 r.fTopics.length c34) r.fTopics]) := by
  refine enterA Try.func37 rfl Try.ntmps37 rfl ?_
  intro F w hX
  unfold f_journal_copied at h
  refine T.seq (T.region rfl ?_)
  refine TL.box rfl .u rfl rfl (fun b3 => ?_)
  refine TL.alloc rfl .u Try.zeroValue24 rfl (fun b4 => ?_)
  refine TL.nil (X.seq (T.seq (T.region rfl ?_)))
  refine TL.run ft_journal_ok [0] rfl rfl ?_
  refine TL.nil (X.seq (T.seq (T.seq (T.region rfl ?_))))
  refine TL.rb ft_journal_ok nt_journal_ok 1 rfl 2 rfl rfl ?_
  refine TL.q rfl .u (Ex.lenS rfl Try.runUnderlying22) rfl ?_
  refine TL.run ft_journal_ok [3] rfl rfl ?_
  refine TL.nil (X.seq (T.block ?_))
  refine T.nilrow 46 2 Top_cop ?_
  obtain ⟨E9, hE10, hO11⟩ := Option.bind_eq_some_iff.1 h
  have hk15len := RX.len_le hX
  refine T.lp (fun m e Rs => ∃ (y5 : List Top) (A6 : Option Addr) (c7 : Nat) (k8 : Nat), k8 + m = a0.fTopics.length ∧ e = [(1, .pointer (some ⟨b3, 0, none⟩)), (2, .pointer (some ⟨b4, 0, none⟩)), (3, .slice A6 y5.length c7), (7, .slice A1 a0.fTopics.length c2), (8, .int .i64 (a0.fTopics.length : Int)), (9, .int .i64 (k8 : Int))] ∧ Rs = [OwnR 46 2 Top_cop (.slice A6 y5.length c7) y5, BlkR b4 24 #[.int .i64 0, .int .i64 0, .int .i64 0, .int .i64 0, .slice none 0 0, .int .i64 0, .int .i64 0], BlkR b3 24 #[.int .i64 a0.fProducer, .int .i64 a0.fEpoch, .int .i64 a0.fTimeout, .int .i64 a0.fState, .slice A1 a0.fTopics.length c2, .int .i64 a0.fUpdated, .int .i64 a0.fStarted], EmpR] ∧ f_journal_copied_l1 (a0.fTopics.drop k8) y5 = some E9) (a0.fTopics.length) [0, 0, 0, 0] ⟨[], none, 0, 0, by simp, rfl, rfl, by rw [List.drop_zero]; exact hE10⟩ (by rfl) (by rfl) ?_
  rintro m12 _ _ ⟨y5, A6, c7, k8, hk15, rfl, rfl, hl14⟩
  clear hE10 h
  cases m12 with
  | zero =>
    have h := hl14
    clear hl14
    rw [List.drop_of_length_le (by omega), f_journal_copied_l1] at h
    have hk15ge : ¬ ((k8 : Int) < (a0.fTopics.length : Int)) := by omega
    refine T.seq (T.region rfl ?_)
    refine TL.run ft_journal_ok [0] rfl rfl ?_
    refine TL.nil (X.seq (T.seq ?_))
    refine T.no rfl (decide_eq_false hk15ge) ?_
    obtain rfl := Option.some.inj h
    replace h := hO11
    clear hO11
    try dsimp only at h
    refine T.exit (X.exs (X.exs (X.ex (X.seq (T.seq (T.region rfl ?_))))))
    refine TL.run ft_journal_ok [0, 1] rfl rfl ?_
    refine TL.st2 (cs' := #[.int .i64 a0.fProducer, .int .i64 a0.fEpoch, .int .i64 a0.fTimeout, .int .i64 a0.fState, .slice A6 y5.length c7, .int .i64 a0.fUpdated, .int .i64 a0.fStarted]) rfl .u rfl rfl Try.sizeOf22 rfl rfl rfl rfl ?_
    refine TL.nil (X.seq (T.seq (T.region rfl ?_)))
    refine TL.q rfl .u (Ex.bS (us := [.int .i64 a0.fProducer, .int .i64 a0.fEpoch, .int .i64 a0.fTimeout, .int .i64 a0.fState, .slice A6 y5.length c7, .int .i64 a0.fUpdated, .int .i64 a0.fStarted]) 2 rfl Try.isAgg24 Try.sizeOf24 rfl rfl rfl) rfl ?_
    refine TL.st1 (cs' := #[.int .i64 a0.fProducer, .int .i64 a0.fEpoch, .int .i64 a0.fTimeout, .int .i64 a0.fState, .slice A6 y5.length c7, .int .i64 a0.fUpdated, .int .i64 a0.fStarted]) rfl .u rfl rfl Try.sizeOf24 rfl rfl rfl rfl ?_
    obtain rfl := Option.some.inj h
    exact TL.nil (X.seq (T.ret (X.done1 [3, 0] Try.results37 (RV.cS (us := #[.int .i64 a0.fProducer, .int .i64 a0.fEpoch, .int .i64 a0.fTimeout, .int .i64 a0.fState, .slice A6 y5.length c7, .int .i64 a0.fUpdated, .int .i64 a0.fStarted]) 1 rfl Try.isAgg24 Try.sizeOf24 rfl rfl) ⟨_, _, rfl, rfl, rfl⟩ (by rfl) (.inl rfl))))
  | succ m12 =>
    have h := hl14
    clear hl14
    obtain ⟨x13, hxx13⟩ : ∃ x, a0.fTopics[k8]? = some x := ⟨_, List.getElem?_eq_getElem (by omega)⟩
    rw [drop_cons hxx13, f_journal_copied_l1] at h
    have hk15lt : (k8 : Int) < (a0.fTopics.length : Int) := by omega
    refine T.seq (T.region rfl ?_)
    refine TL.run ft_journal_ok [0] rfl rfl ?_
    refine TL.nil (X.seq (T.seq ?_))
    refine T.yes rfl (decide_eq_true hk15lt) ?_
    obtain ⟨gz16, oz16, rfl, z16cs, z16cl, z16cc, z16nf, z16r⟩ := RX.elem (by decide) hX hxx13
    obtain ⟨z16S, z16r, z16rr⟩ := z16r
    obtain ⟨A17, c18, rfl, z16s0⟩ := z16r
    have hX19 : (RX.of (sliceRd 1 intE) [.slice A17 x13.fParts.length c18] x13.fParts).reads w F := ⟨z16S, z16s0, z16rr⟩
    refine T.skip (X.seq (T.seq (T.block (T.seq (T.region rfl ?_)))))
    refine TL.q rfl .u (Ex.ixS (k := k8) rfl rfl rfl Try.runUnderlying22 Try.sizeOf46 (List.getElem?_eq_some_iff.1 hxx13).1) rfl ?_
    refine TL.q rfl .u (Ex.oS (us := [.string (bsOf x13.fName), .slice A17 x13.fParts.length c18]) 0 rfl Try.isAgg46 Try.sizeOf46 z16nf z16cc rfl rfl rfl) rfl ?_
    refine TL.alloc rfl .u Try.zeroValue46 rfl (fun b20 => ?_)
    refine TL.st0 (cs' := #[.string (bsOf x13.fName), .slice A17 x13.fParts.length c18]) rfl .u rfl rfl Try.sizeOf46 rfl rfl rfl rfl ?_
    refine TL.nil (X.seq (T.draw (.q 0 (.q 1 (.q 2 (.q 3 (.q 4 (.e 5 (.q 6 (.e 7 (.e 8 (.q 9 .nil)))))))))) [0, 1, 1, 1] rfl mix_journal (NoP.blk (NoP.seq (NoP.seq (NoP.blk (NoP.seq np_post))))) (by kernel_rfl) ?_))
    refine TD.run ft_journal_ok [0, 1] rfl rfl ?_
    refine TD.q rfl .u (Ex.b1 0 rfl Try.isAgg9 rfl rfl) rfl ?_
    refine TD.run ft_journal_ok [3] rfl rfl ?_
    refine TD.q rfl .u (Ex.b1 0 rfl Try.isAgg44 rfl rfl) rfl ?_
    obtain ⟨x21, hx24, h⟩ := Option.bind_eq_some_iff.1 h
    refine TD.cge rfl .u (.fn Try.call57 rfl) (gClone_spec x13.fParts _ _ _ hx24) (fun _ hs => (SrcE.old hs hX19)) rfl [1, 2, 2, 2] ?_ ?_
    · rintro _ _ _ ⟨A22, c23, rfl, rfl, rfl⟩
      rfl
    rintro _ _ _ ⟨A22, c23, rfl, rfl, rfl⟩
    refine TD.sel [0, 0, 0, 0, 0, 0] rfl ?_
    refine TD.q rfl .u (Ex.bld (cells := #[.string (bsOf x13.fName), .slice A22 x21.length c23]) bok_journal_46 rfl (by kernel_rfl)) rfl ?_
    refine TD.lit (cells := #[.string (bsOf x13.fName), .slice A22 x21.length c23]) rfl .u sok_journal_22_1 rfl (by rfl) rfl [2, 3, 3, 3] (fun _ => rfl) (fun b25 => ?_)
    replace h := guard_some h
    obtain ⟨c26, h⟩ := h
    refine TD.app2 2 0 rfl .u (us := [.string (bsOf x13.fName), .slice A22 x21.length c23]) (u := (⟨x13.fName, x21⟩ : Top)) (l := y5) (E := Top_cop) Try.underlying22 inf_journal_46 rfl (by decide) rfl rfl rfl rfl rfl rfl rfl (fun w G hG => ⟨_, _, rfl, G, hG, fun _ h => h⟩) (by have hq := c26; omega) (by have hq := c26; omega) rfl [1, 1, 1, 1] (fun _ _ => rfl) (fun A27 c28 => ?_)
    refine TD.sel [0, 0, 0, 0, 0] rfl ?_
    refine TD.run ft_journal_ok [9] rfl rfl ?_
    refine TD.nil (X.blk (X.seq (T.region rfl ?_)))
    refine TL.q rfl .u (Ex.add rfl rfl (by omega)) rfl ?_
    refine TL.run ft_journal_ok [1] rfl rfl ?_
    exact TL.nil (X.back (m' := m12) [0, 1, 1, 1] (by omega) ⟨(y5 ++ [(⟨x13.fName, x21⟩ : Top)]), A27, c28, k8 + 1, by omega, rfl, rfl, h⟩ (by rfl) (by rfl))
def f_journal_JournalGet (st : JournalJournal) (a1 : List UInt8) : Option (Val × Bool × JournalJournal) := if (mhas a1 st.fknown) = true then (if a1.length ≤ 140737488355328 then ((mget a1 st.fknown).bind fun x5 => (f_journal_copied x5).bind fun x11 => some (x11, true, st)) else none) else (if a1.length ≤ 140737488355328 then ((f_journal_copied (⟨0, 0, 0, 0, [], 0, 0⟩ : Val)).bind fun x17 => some (x17, false, st)) else none)
set_option maxRecDepth 100000 in
set_option maxHeartbeats 4000000 in
theorem f_journal_JournalGet_spec (g : Nat) (st : JournalJournal) (a1 : List UInt8) (r : Val × Bool × JournalJournal) (h : f_journal_JournalGet st a1 = some r) : SpecX Try.prog 15 #[.pointer (some ⟨g, 0, none⟩), .string (bsOf a1)] .triv (MbR_JournalJournal g st) (fun v A' N => ∃ (A21 : Option Addr) (c22 : Nat), v = .tuple #[.agg #[.int .i64 r.1.fProducer, .int .i64 r.1.fEpoch, .int .i64 r.1.fTimeout, .int .i64 r.1.fState, .slice A21 r.1.fTopics.length c22, .int .i64 r.1.fUpdated, .int .i64 r.1.fStarted], .bool r.2.1] ∧ A' = MbR_JournalJournal g r.2.2 ∧ N = [OwnR 46 2 Top_cop (.slice A21 r.1.fTopics.length c22) r.1.fTopics]) := by
  refine enterA Try.func15 rfl Try.ntmps15 rfl ?_
  intro F w hX
  refine T.pakOpen 0 rfl ?_
  rintro b1
  refine T.sel [0, 0] rfl ?_
  unfold f_journal_JournalGet at h
  refine T.seq (T.region rfl ?_)
  refine TL.alloc rfl .u Try.zeroValue24 rfl (fun b2 => ?_)
  refine TL.run ft_journal_ok [1] rfl rfl ?_
  refine TL.nil (X.seq (T.seq (T.region rfl ?_)))
  by_cases c3 : (mhas a1 st.fknown) = true
  · replace h := ifT c3 h
    replace h := guard_some h
    obtain ⟨c4, h⟩ := h
    obtain ⟨x5, hx6, h⟩ := Option.bind_eq_some_iff.1 h
    refine TL.rb ft_journal_ok nt_journal_ok 1 rfl 5 rfl rfl ?_
    refine TL.focM 2 rfl hx6 ?_
    rintro z7cs ⟨_, _, z7r⟩
    obtain ⟨A8, c9, rfl, _⟩ := z7r
    refine TL.sel [0, 0, 0] rfl ?_
    refine TL.q rfl .u (Ex.lookT (k := a1) (cs := [.int .i64 x5.fProducer, .int .i64 x5.fEpoch, .int .i64 x5.fTimeout, .int .i64 x5.fState, .slice A8 x5.fTopics.length c9, .int .i64 x5.fUpdated, .int .i64 x5.fStarted]) 2 rfl rfl Try.underlying79 Try.underlying9 Try.zeroValue24 c4 rfl (fun _ _ h => h.2.2.1)) rfl ?_
    refine TL.run ft_journal_ok [6, 7, 8] rfl rfl ?_
    refine TL.alloc rfl .u Try.zeroValue24 rfl (fun b10 => ?_)
    refine TL.st0 (cs' := #[.int .i64 x5.fProducer, .int .i64 x5.fEpoch, .int .i64 x5.fTimeout, .int .i64 x5.fState, .slice A8 x5.fTopics.length c9, .int .i64 x5.fUpdated, .int .i64 x5.fStarted]) rfl .u rfl rfl Try.sizeOf24 rfl rfl rfl rfl ?_
    refine TL.run ft_journal_ok [11] rfl rfl ?_
    refine TL.nil (X.seq (T.seq (T.region rfl ?_)))
    refine TL.q rfl .u (Ex.bS (us := [.int .i64 x5.fProducer, .int .i64 x5.fEpoch, .int .i64 x5.fTimeout, .int .i64 x5.fState, .slice A8 x5.fTopics.length c9, .int .i64 x5.fUpdated, .int .i64 x5.fStarted]) 0 rfl Try.isAgg24 Try.sizeOf24 rfl rfl rfl) rfl ?_
    obtain ⟨x11, hx14, h⟩ := Option.bind_eq_some_iff.1 h
    refine TL.cge rfl .u (.fn Try.call37 rfl) (f_journal_copied_spec x5 _ _ _ hx14) (fun _ hs => (SrcE.res 3 hs rfl (fun _ _ h => by obtain ⟨_, _, hc, hs⟩ := h.2.2.2; cases hc; exact hs))) rfl ?_
    rintro _ _ _ ⟨A12, c13, rfl, rfl, rfl⟩
    refine TL.sel [0, 0, 0, 0, 0] rfl ?_
    refine TL.run ft_journal_ok [2] rfl rfl ?_
    refine TL.st2 (cs' := #[.int .i64 x11.fProducer, .int .i64 x11.fEpoch, .int .i64 x11.fTimeout, .int .i64 x11.fState, .slice A12 x11.fTopics.length c13, .int .i64 x11.fUpdated, .int .i64 x11.fStarted]) rfl .u rfl rfl Try.sizeOf24 rfl rfl rfl rfl ?_
    refine TL.run ft_journal_ok [4] rfl rfl ?_
    obtain rfl := Option.some.inj h
    refine TL.nil (X.seq (T.ret ?_))
    refine X.unfM 4 rfl ?_
    refine X.sel [0, 0, 0, 0, 0] rfl ?_
    refine X.sel [3, 3, 0, 0, 0] rfl ?_
    refine MbR_JournalJournal_shut g st b1 rfl ?_
    exact X.done2 [0, 0] Try.results15 (RV.cS (us := #[.int .i64 x11.fProducer, .int .i64 x11.fEpoch, .int .i64 x11.fTimeout, .int .i64 x11.fState, .slice A12 x11.fTopics.length c13, .int .i64 x11.fUpdated, .int .i64 x11.fStarted]) 3 rfl Try.isAgg24 Try.sizeOf24 rfl rfl) (RV.tm rfl) ⟨_, _, rfl, rfl, rfl⟩ (by rfl) (.inl rfl)
  · replace h := ifF c3 h
    replace c3 := eq_false_of_ne_true c3
    replace h := guard_some h
    obtain ⟨c15, h⟩ := h
    refine TL.rb ft_journal_ok nt_journal_ok 1 rfl 5 rfl rfl ?_
    refine TL.q rfl .u (Ex.lookF (k := a1) 2 rfl rfl Try.underlying79 Try.underlying9 Try.zeroValue24 c15 rfl c3) rfl ?_
    refine TL.run ft_journal_ok [6, 7, 8] rfl rfl ?_
    refine TL.alloc rfl .u Try.zeroValue24 rfl (fun b16 => ?_)
    refine TL.st0 (cs' := #[.int .i64 0, .int .i64 0, .int .i64 0, .int .i64 0, .slice none 0 0, .int .i64 0, .int .i64 0]) rfl .u rfl rfl Try.sizeOf24 rfl rfl rfl rfl ?_
    refine TL.run ft_journal_ok [11] rfl rfl ?_
    refine TL.nil (X.seq (T.seq (T.region rfl ?_)))
    refine TL.q rfl .u (Ex.bS (us := [.int .i64 0, .int .i64 0, .int .i64 0, .int .i64 0, .slice none 0 0, .int .i64 0, .int .i64 0]) 0 rfl Try.isAgg24 Try.sizeOf24 rfl rfl rfl) rfl ?_
    obtain ⟨x17, hx20, h⟩ := Option.bind_eq_some_iff.1 h
    refine TL.cge rfl .u (.fn Try.call37 rfl) (f_journal_copied_spec (⟨0, 0, 0, 0, [], 0, 0⟩ : Val) _ _ _ hx20) (fun _ hs => slice_nil_reads) rfl ?_
    rintro _ _ _ ⟨A18, c19, rfl, rfl, rfl⟩
    refine TL.sel [0, 0, 0, 0, 0] rfl ?_
    refine TL.run ft_journal_ok [2] rfl rfl ?_
    refine TL.st2 (cs' := #[.int .i64 x17.fProducer, .int .i64 x17.fEpoch, .int .i64 x17.fTimeout, .int .i64 x17.fState, .slice A18 x17.fTopics.length c19, .int .i64 x17.fUpdated, .int .i64 x17.fStarted]) rfl .u rfl rfl Try.sizeOf24 rfl rfl rfl rfl ?_
    refine TL.run ft_journal_ok [4] rfl rfl ?_
    obtain rfl := Option.some.inj h
    refine TL.nil (X.seq (T.ret ?_))
    refine X.sel [3, 3, 0, 0, 0] rfl ?_
    refine MbR_JournalJournal_shut g st b1 rfl ?_
    exact X.done2 [0, 0] Try.results15 (RV.cS (us := #[.int .i64 x17.fProducer, .int .i64 x17.fEpoch, .int .i64 x17.fTimeout, .int .i64 x17.fState, .slice A18 x17.fTopics.length c19, .int .i64 x17.fUpdated, .int .i64 x17.fStarted]) 3 rfl Try.isAgg24 Try.sizeOf24 rfl rfl) (RV.tm rfl) ⟨_, _, rfl, rfl, rfl⟩ (by rfl) (.inl rfl)
def f_journal_JournalMany (st : JournalJournal)  : Option (Int × JournalJournal) := some (st.fmany, st)
set_option maxRecDepth 100000 in
set_option maxHeartbeats 4000000 in
theorem f_journal_JournalMany_spec (g : Nat) (st : JournalJournal)  (r : Int × JournalJournal) (h : f_journal_JournalMany st  = some r) : SpecX Try.prog 22 #[.pointer (some ⟨g, 0, none⟩)] .triv (MbR_JournalJournal g st) (fun v A' N => v = .int .i64 r.1 ∧ A' = MbR_JournalJournal g r.2 ∧ N = []) := by
  refine enterA Try.func22 rfl Try.ntmps22 rfl ?_
  intro F w hX
  refine T.pakOpen 0 rfl ?_
  rintro b1
  refine T.sel [0, 0] rfl ?_
  unfold f_journal_JournalMany at h
  refine T.seq (T.region rfl ?_)
  refine TL.run ft_journal_ok [0] rfl rfl ?_
  refine TL.nil (X.seq (T.seq (T.region rfl ?_)))
  refine TL.rb ft_journal_ok nt_journal_ok 0 rfl 5 rfl rfl ?_
  obtain rfl := Option.some.inj h
  refine TL.nil (X.seq (T.ret ?_))
  refine X.sel [0, 0] rfl ?_
  refine MbR_JournalJournal_shut g st b1 rfl ?_
  exact X.done1 [0] Try.results22 (RV.tm rfl) ⟨rfl, rfl, rfl⟩ (by rfl) (.inl rfl)
def f_journal_JournalCompact_l1 (st5 : JournalJournal) : List (List UInt8) → List JournalEntry → Option (List JournalEntry)
  | [], y8 => some y8
  | x16 :: xs, y8 => if x16.length ≤ 140737488355328 then ((mget x16 st5.fknown).bind fun x21 => (f_journal_Put x16 x21).bind fun (x26, x27) => if (y8.length + 1) * 40 ≤ 140737488355328 then (f_journal_JournalCompact_l1 st5 xs (y8 ++ [x26])) else none) else none
def f_journal_JournalCompact (st : JournalJournal)  : Option (List JournalEntry × JournalJournal) := (gJIDs st).bind fun (x2, st5) => (f_journal_JournalCompact_l1 st5 x2 []).bind fun y34 => some (y34, st5)
set_option maxRecDepth 100000 in
set_option maxHeartbeats 4000000 in
theorem f_journal_JournalCompact_spec (g : Nat) (st : JournalJournal)  (r : List JournalEntry × JournalJournal) (h : f_journal_JournalCompact st  = some r) : SpecX Try.prog 24 #[.pointer (some ⟨g, 0, none⟩)] .triv (MbR_JournalJournal g st) (fun v A' N => ∃ (A38 : Option Addr) (c39 : Nat), v = .slice A38 r.1.length c39 ∧ A' = MbR_JournalJournal g r.2 ∧ N = [RdR (sliceRd 3 JournalEntry_rd) [.slice A38 r.1.length c39] r.1]) := by
  refine enterA Try.func24 rfl Try.ntmps24 rfl ?_
  intro F w hX
  refine T.pakOpen 0 rfl ?_
  rintro b1
  refine T.sel [0, 0] rfl ?_
  unfold f_journal_JournalCompact at h
  refine T.seq (T.region rfl ?_)
  refine TL.run ft_journal_ok [0] rfl rfl ?_
  refine TL.nil (X.seq (T.seq (T.region rfl ?_)))
  refine TL.run ft_journal_ok [0] rfl rfl ?_
  refine TL.nil (X.seq (T.seq (T.seq (T.region rfl ?_))))
  refine TL.run ft_journal_ok [0] rfl rfl ?_
  refine TL.sel [0, 0] rfl ?_
  refine MbR_JournalJournal_shutL g st b1 rfl ?_
  obtain ⟨⟨x2, st5⟩, hx6, h⟩ := Option.bind_eq_some_iff.1 h
  try dsimp only at h
  refine TL.cg0 rfl .u (.fn Try.call17 rfl) (gJIDs_spec g st _ hx6) (fun _ hs => (Src.triv _)) rfl ?_
  rintro _ _ _ ⟨A3, c4, rfl, rfl, rfl⟩
  refine TL.sel [0, 0] rfl ?_
  refine TL.pakOpen 1 rfl ?_
  rintro b7
  refine TL.sel [0, 0, 0] rfl ?_
  refine TL.q rfl .u (Ex.lenS rfl Try.runUnderlying48) rfl ?_
  refine TL.run ft_journal_ok [3] rfl rfl ?_
  refine TL.nil (X.seq (T.block ?_))
  refine T.nilrow 30 3 JournalEntry_rd ?_
  obtain ⟨E12, hE13, hO14⟩ := Option.bind_eq_some_iff.1 h
  refine T.blen 3 rfl (fun w G h => own_reads (by decide) w G h) (fun hk18len => ?_)
  try dsimp only at hk18len
  refine T.lp (fun m e Rs => ∃ (y8 : List JournalEntry) (A9 : Option Addr) (c10 : Nat) (k11 : Nat), k11 + m = x2.length ∧ e = [(0, .pointer (some ⟨g, 0, none⟩)), (2, .slice none 0 0), (3, .slice A9 y8.length c10), (9, .slice A3 x2.length c4), (10, .int .i64 (x2.length : Int)), (11, .int .i64 (k11 : Int))] ∧ Rs = [OwnR 30 3 JournalEntry_rd (.slice A9 y8.length c10) y8, BlkR g 81 #[.map (some b7), .int .i64 st5.fmany], MapR Try.prog 9 Val_rd b7 st5.fknown, OwnR 9 1 strE (.slice A3 x2.length c4) x2] ∧ f_journal_JournalCompact_l1 st5 (x2.drop k11) y8 = some E12) (x2.length) [0, 0, 0, 0] ⟨[], none, 0, 0, by simp, rfl, rfl, by rw [List.drop_zero]; exact hE13⟩ (by rfl) (by rfl) ?_
  rintro m15 _ _ ⟨y8, A9, c10, k11, hk18, rfl, rfl, hl17⟩
  clear hE13 h
  cases m15 with
  | zero =>
    have h := hl17
    clear hl17
    rw [List.drop_of_length_le (by omega), f_journal_JournalCompact_l1] at h
    have hk18ge : ¬ ((k11 : Int) < (x2.length : Int)) := by omega
    refine T.seq (T.region rfl ?_)
    refine TL.run ft_journal_ok [0] rfl rfl ?_
    refine TL.nil (X.seq (T.seq ?_))
    refine T.no rfl (decide_eq_false hk18ge) ?_
    obtain rfl := Option.some.inj h
    replace h := hO14
    clear hO14
    try dsimp only at h
    refine T.exit (X.exs (X.exs (X.ex (X.seq (T.seq (T.region rfl ?_))))))
    refine TL.run ft_journal_ok [0, 1] rfl rfl ?_
    obtain rfl := Option.some.inj h
    refine TL.nil (X.seq (T.ret ?_))
    refine X.shut (by decide) 0 rfl ?_
    refine X.sel [0, 0, 0, 0] rfl ?_
    refine X.sel [1, 1, 0, 0] rfl ?_
    refine MbR_JournalJournal_shut g st5 b7 rfl ?_
    exact X.done1 [0, 0] Try.results24 (RV.tm rfl) ⟨_, _, rfl, rfl, rfl⟩ (by rfl) (.inl rfl)
  | succ m15 =>
    have h := hl17
    clear hl17
    obtain ⟨x16, hxx16⟩ : ∃ x, x2[k11]? = some x := ⟨_, List.getElem?_eq_getElem (by omega)⟩
    rw [drop_cons hxx16, f_journal_JournalCompact_l1] at h
    have hk18lt : (k11 : Int) < (x2.length : Int) := by omega
    refine T.seq (T.region rfl ?_)
    refine TL.run ft_journal_ok [0] rfl rfl ?_
    refine TL.nil (X.seq (T.seq ?_))
    refine T.yes rfl (decide_eq_true hk18lt) ?_
    refine T.skip (X.seq (T.seq (T.block (T.seq (T.region rfl ?_)))))
    refine TL.foc (E := strE) (k := k11) 3 rfl (fun w G h => own_reads (by decide) w G h) (by decide) hxx16 ?_
    rintro gz19 oz19 z19cs hA z19cl ⟨_, _, z19r⟩
    cases hA
    obtain rfl : z19cs = [.string (bsOf x16)] := z19r
    clear z19cl
    refine TL.sel [0, 0, 0, 0] rfl ?_
    refine TL.q rfl .u (Ex.ixS (k := k11) rfl rfl rfl Try.runUnderlying48 Try.sizeOf9 (List.getElem?_eq_some_iff.1 hxx16).1) rfl ?_
    refine TL.q rfl .u (Ex.k1 (cs := [.string (bsOf x16)]) 3 0 rfl Try.isAgg9 rfl (fun _ _ h => h.2.2.1) rfl) rfl ?_
    refine TL.run ft_journal_ok [2] rfl rfl ?_
    refine TL.nil (X.seq (T.seq (T.region rfl ?_)))
    replace h := guard_some h
    obtain ⟨c20, h⟩ := h
    obtain ⟨x21, hx22, h⟩ := Option.bind_eq_some_iff.1 h
    refine TL.rb ft_journal_ok nt_journal_ok 1 rfl 6 rfl rfl ?_
    refine TL.focM 2 rfl hx22 ?_
    rintro z23cs ⟨_, _, z23r⟩
    obtain ⟨A24, c25, rfl, _⟩ := z23r
    refine TL.sel [0, 0, 0, 0] rfl ?_
    refine TL.q rfl .u (Ex.look1 (k := x16) (cs := [.int .i64 x21.fProducer, .int .i64 x21.fEpoch, .int .i64 x21.fTimeout, .int .i64 x21.fState, .slice A24 x21.fTopics.length c25, .int .i64 x21.fUpdated, .int .i64 x21.fStarted]) 2 rfl rfl Try.underlying79 Try.underlying9 Try.zeroValue24 c20 rfl (fun _ _ h => h.2.2.1)) rfl ?_
    obtain ⟨⟨x26, x27⟩, hx28, h⟩ := Option.bind_eq_some_iff.1 h
    try dsimp only at h
    refine TL.ce rfl .u (.fn Try.call8 rfl) (f_journal_Put_spec x16 x21 _ _ _ hx28) (fun _ hs => (SrcE.res 2 hs rfl (fun _ _ h => by obtain ⟨_, _, hc, hs⟩ := h.2.2.2; cases hc; exact hs))) rfl ?_
    refine TL.run ft_journal_ok [8, 9, 10] rfl rfl ?_
    refine TL.alloc rfl .u Try.zeroValue30 rfl (fun b29 => ?_)
    refine TL.st0 (cs' := #[.string (bsOf x26.fKey), .bool x26.fValue.null, .string (bsOf x26.fValue.data)]) rfl .u rfl rfl Try.sizeOf30 rfl rfl rfl rfl ?_
    refine TL.run ft_journal_ok [13] rfl rfl ?_
    refine TL.nil (X.seq (T.region rfl ?_))
    refine TL.run ft_journal_ok [0] rfl rfl ?_
    refine TL.q rfl .u (Ex.bS (us := [.string (bsOf x26.fKey), .bool x26.fValue.null, .string (bsOf x26.fValue.data)]) 0 rfl Try.isAgg30 Try.sizeOf30 rfl rfl rfl) rfl ?_
    refine TL.lit (cells := #[.string (bsOf x26.fKey), .bool x26.fValue.null, .string (bsOf x26.fValue.data)]) rfl .u sok_journal_51_1 rfl (by kernel_rfl) rfl (fun b30 => ?_)
    replace h := guard_some h
    obtain ⟨c31, h⟩ := h
    refine TL.app1 1 rfl .u (us := [.string (bsOf x26.fKey), .bool x26.fValue.null, .string (bsOf x26.fValue.data)]) (u := x26) (l := y8) (E := JournalEntry_rd) Try.underlying51 inf_journal_30 rfl (by decide) rfl rfl rfl rfl rfl rfl (fun _ _ => rfl) (by have hq := c31; omega) (by have hq := c31; omega) rfl (fun A32 c33 => ?_)
    refine TL.sel [0, 0, 0, 0, 0] rfl ?_
    refine TL.run ft_journal_ok [4] rfl rfl ?_
    refine TL.nil (X.blk (X.seq (T.region rfl ?_)))
    refine TL.q rfl .u (Ex.add rfl rfl (by omega)) rfl ?_
    refine TL.run ft_journal_ok [1] rfl rfl ?_
    refine TL.nil ?_
    refine X.unfM 3 rfl ?_
    refine X.sel [0, 0, 0, 0, 0] rfl ?_
    refine X.unf 4 rfl ?_
    refine X.sel [0, 0, 0, 0, 0] rfl ?_
    exact X.back (m' := m15) [1, 1, 1, 1] (by omega) ⟨(y8 ++ [x26]), A32, c33, k11 + 1, by omega, rfl, rfl, h⟩ (by rfl) (by rfl)
end Go.Proofs.Ytlhgogjcaegehaa.Sl
namespace Go.Proofs.Ytlhgogjcaegehaa.Sl
open Go.RowKit
set_option linter.unusedVariables false
set_option linter.unusedSimpArgs false
set_option maxRecDepth 100000
def f_l15_find_l1 (a1 : List UInt8) : List L15Known → Bool → Option (Lp (Val × Bool) Bool)
  | [], y4 => some (Lp.go y4)
  | x10 :: xs, y4 => if x10.fid = a1 then (some (Lp.ret (x10.fv, true))) else (f_l15_find_l1 a1 xs y4)
def f_l15_find (a0 : List L15Known) (a1 : List UInt8) : Option (Val × Bool) := (f_l15_find_l1 a1 a0 false).bind fun e => match e with | .ret r => some r | .go y19 => (some ((⟨0, 0, 0, 0, [], 0, 0⟩ : Val), false))
def f_l15_JournalApplies_l2 : List JournalEntry → Bool → JournalJournal → Option (Lp Bool (Bool × JournalJournal))
  | [], y173, st175 => some (Lp.go (y173, st175))
  | x180 :: xs, y173, st175 => (f_journal_JournalApply st175 x180).bind fun (x185, st186) => if x185 = 0 then (f_l15_JournalApplies_l2 xs y173 st186) else none
end Go.Proofs.Ytlhgogjcaegehaa.Sl
namespace Go.Proofs.Ytlhgogjcaegehaa.Sl
open Go.RowKit
set_option linter.unusedVariables false
set_option linter.unusedSimpArgs false
theorem gClone_z {l : List Int} (h : l.length ≤ 1000000) : gClone l = some l := if_pos (by omega)
theorem copied_loop : ∀ (l acc : List Top), (∀ t, t ∈ l → t.fParts.length ≤ 1000000) → acc.length + l.length ≤ 1000000 → f_journal_copied_l1 l acc = some (acc ++ l)
  | [], acc, _, _ => by rw [f_journal_copied_l1, List.append_nil]
  | x :: xs, acc, hx, hl => by
    rw [f_journal_copied_l1, gClone_z (hx x List.mem_cons_self), Option.bind_some, if_pos (by simp only [List.length_cons] at hl; omega), copied_loop xs _ (fun t ht => hx t (List.mem_cons_of_mem _ ht)) (by simp only [List.length_append, List.length_cons, List.length_nil] at hl ⊢; omega), List.append_assoc]
    rfl
theorem copied_eq (v : Val) (hl : v.fTopics.length ≤ 1000000) (hx : ∀ t, t ∈ v.fTopics → t.fParts.length ≤ 1000000) : f_journal_copied v = some v := by
  unfold f_journal_copied
  rw [copied_loop _ _ hx (by simpa using hl)]
  rfl
theorem encK_len {l : List UInt8} (h : kright l = true) : (encK l).length ≤ 40000 := by
  obtain ⟨h1, h2, h3⟩ := kr_fits h
  simp only [encK, List.length_append, be_length]
  omega
theorem r14same_refl (v : Val) (hl : v.fTopics.length ≤ 1000000) (ha : ∀ t, t ∈ v.fTopics → t.fParts.length ≤ 140737488355328) : f_r14_Same v v = some true := by
  unfold f_r14_Same
  rw [rsame_eq _ _ hl ha, sameTs_refl]
  simp
theorem dec_enc {v : Val} (hw : wf_Val v) (hl : wTs v.fTopics ≤ 2000) (hc : chkV v = 0) : okV v ∧ decV (encV v) = (v, 0) := by
  obtain ⟨h1, h2, h3, h4⟩ := chk_zero hc
  have hn := wTs_len v.fTopics
  obtain ⟨w1, w2, w3, w4, w5, w6, w7⟩ := id hw
  have f8 : ∀ n : Int, wI n → fits n 8 = true := fun n h => by rw [fits_8]; exact decide_eq_true h
  have hok : okV v := by
    unfold badR at h1
    exact ⟨f8 _ w1, by rw [fits_2]; exact decide_eq_true (by omega), by rw [fits_4]; exact decide_eq_true (by omega), by rw [fits_1]; exact decide_eq_true (by omega), ⟨fits_small (.inr (.inl rfl)) (by omega) (by omega), okts_ok h4 (by omega)⟩, f8 _ w6, f8 _ w7⟩
  obtain ⟨r, hr⟩ := val_back hok
  refine ⟨hok, ?_⟩
  unfold decV
  rw [hr]
  simp only [if_pos hc]
theorem apply_put {st : JournalJournal} {k : List UInt8} {v : Val} (hk : kright k = true) (hw : wf_Val v) (hl : wTs v.fTopics ≤ 1900) (hc : chkV v = 0) (hm : -9223372036854775808 ≤ st.fmany + 1 ∧ st.fmany + 1 ≤ 9223372036854775807) (hn : st.fknown.length + 1 ≤ 140737488355328) :
    f_journal_JournalApply st ⟨encK k, ⟨false, encV v⟩⟩ = some (0, ⟨mput k v st.fknown, st.fmany + 1⟩) := by
  obtain ⟨hok, hd⟩ := dec_enc hw (by omega) hc
  obtain ⟨-, k2, -⟩ := kr_fits hk
  unfold f_journal_JournalApply
  simp only
  rw [gKDecode_eq _ (by have := encK_len hk; omega), kdec_enc hk]
  simp only [Option.bind_some, if_true]
  rw [gRight_eq, Option.bind_some, show bright ⟨false, encV v⟩ = true from rfl, if_pos rfl, if_neg (by decide), vdecode_eq _ (by rw [encV_len]; have := encV_len v; omega), hd]
  simp only [Option.bind_some, if_true]
  rw [if_pos ⟨hn, by omega⟩, if_pos hm]
theorem put_eq {k : List UInt8} {v : Val} (hw : wf_Val v) (hl : wTs v.fTopics ≤ 2000) : f_journal_Put k v = some (if kright k = true then (if chkV v = 0 then (⟨encK k, ⟨false, encV v⟩⟩, 0) else (⟨[], ⟨false, []⟩⟩, chkV v)) else (⟨[], ⟨false, []⟩⟩, 4)) := by
  unfold f_journal_Put
  rw [gKEncode_eq, Option.bind_some]
  cases hk : kright k with
  | false => rw [kenc_bad hk]; rfl
  | true =>
    rw [kenc_good hk]
    simp only [if_true]
    rw [encode_eq v hw hl, Option.bind_some]
    by_cases hc : chkV v = 0
    · rw [if_pos hc, if_pos hc]; rfl
    · rw [if_neg hc, if_neg hc]
      simp only
      rw [if_neg hc]
theorem drop_eq (k : List UInt8) : f_journal_Drop k = some (if kright k = true then (⟨encK k, ⟨true, []⟩⟩, 0) else (⟨[], ⟨false, []⟩⟩, 4)) := by
  unfold f_journal_Drop
  rw [gKEncode_eq, Option.bind_some]
  cases hk : kright k with
  | false => rw [kenc_bad hk]; rfl
  | true => rw [kenc_good hk]; rfl
end Go.Proofs.Ytlhgogjcaegehaa.Sl
namespace Go.Proofs.Ytlhgogjcaegehaa.Sl
open Go.RowKit Go.WideMaps
set_option linter.unusedVariables false
set_option linter.unusedSimpArgs false
theorem bb_irr : ∀ a : List UInt8, bytesBefore a a = false
  | [] => rfl
  | x :: a => by
    show (decide (x < x) || (x == x && bytesBefore a a)) = false
    rw [bb_irr a]
    simp
theorem bb_tot : ∀ {a b : List UInt8}, a ≠ b → bytesBefore a b = false → bytesBefore b a = true
  | [], [], h, _ => absurd rfl h
  | [], _ :: _, _, h => by cases h
  | _ :: _, [], _, _ => rfl
  | x :: a, y :: b, h, h2 => by
    have h2 : (decide (x < y) || (x == y && bytesBefore a b)) = false := h2
    show (decide (y < x) || (y == x && bytesBefore b a)) = true
    rw [Bool.or_eq_false_iff] at h2
    by_cases e : x = y
    · subst e
      have h3 : bytesBefore a b = false := by simpa using h2.2
      have := bb_tot (fun q => h (by rw [q])) h3
      simp [this]
    · have h4 : ¬ x < y := of_decide_eq_false h2.1
      have h5 : y < x := by
        rcases Nat.lt_trichotomy x.toNat y.toNat with q | q | q
        · exact absurd q h4
        · exact absurd (UInt8.toNat_inj.1 q) e
        · exact q
      simp [h5]
section
variable {α : Type}
theorem mrem_filter (k : List UInt8) : ∀ l : List (List UInt8 × α), mrem k l = l.filter (fun p => !(p.1 == k))
  | [] => rfl
  | y :: r => by
    rw [mrem, List.filter_cons, mrem_filter k r]
    cases y.1 == k <;> rfl
theorem mins_perm (k : List UInt8) (x : α) : ∀ l : List (List UInt8 × α), (mins k x l).Perm ((k, x) :: l)
  | [] => .refl _
  | y :: r => by
    rw [mins]
    split
    · exact .refl _
    · exact ((mins_perm k x r).cons y).trans (.swap _ _ _)
theorem rise_nil : Rise ([] : List (List UInt8 × α)) := List.Pairwise.nil
theorem rise_rem {k : List UInt8} {l : List (List UInt8 × α)} (h : Rise l) : Rise (mrem k l) := by
  rw [mrem_filter]
  exact List.Pairwise.sublist (List.filter_sublist.map _) h
theorem bb_trans {a b c : List UInt8} (h : bytesBefore a b = true) (k : bytesBefore b c = true) : bytesBefore a c = true := by
  have h3 := List.lt_trans (before_lt h) (before_lt k)
  by_cases e : a = c
  · subst e
    exact absurd h3 (List.lt_irrefl a)
  · cases h5 : bytesBefore a c with
    | true => rfl
    | false => exact absurd (List.lt_trans h3 (before_lt (bb_tot e h5))) (List.lt_irrefl a)
theorem rise_ins {k : List UInt8} {x : α} : ∀ {l : List (List UInt8 × α)}, Rise l → (∀ p, p ∈ l → p.1 ≠ k) → Rise (mins k x l)
  | [], _, _ => List.pairwise_singleton _ _
  | y :: r, h, hn => by
    have h' : (∀ b, b ∈ r.map Prod.fst → bytesBefore y.1 b = true) ∧ (r.map Prod.fst).Pairwise (fun a b => bytesBefore a b = true) := List.pairwise_cons.1 h
    rw [mins]
    split
    · rename_i c
      refine List.pairwise_cons.2 ⟨fun b hb => ?_, h⟩
      rcases List.mem_cons.1 hb with rfl | hb
      · exact c
      · exact bb_trans c (h'.1 b hb)
    · rename_i c
      have c : bytesBefore k y.1 = false := by simpa using c
      refine List.pairwise_cons.2 ⟨fun b hb => ?_, rise_ins h'.2 (fun p hp => hn p (List.mem_cons_of_mem _ hp))⟩
      have hb := ((mins_perm k x r).map Prod.fst).mem_iff.1 hb
      rcases List.mem_cons.1 hb with rfl | hb
      · exact bb_tot (fun e => hn y List.mem_cons_self e.symm) c
      · exact h'.1 b hb
theorem rem_not {k : List UInt8} {l : List (List UInt8 × α)} : ∀ p, p ∈ mrem k l → p.1 ≠ k := fun p hp => by
  rw [mrem_filter] at hp
  have := (List.mem_filter.1 hp).2
  simpa using this
theorem rise_put {k : List UInt8} {x : α} {l : List (List UInt8 × α)} (h : Rise l) : Rise (mput k x l) := rise_ins (rise_rem h) rem_not
theorem rise_one {l : List (List UInt8 × α)} (h : Rise l) {k : List UInt8} {u v : α} (hu : (k, u) ∈ l) (hv : (k, v) ∈ l) : u = v := by
  induction l with
  | nil => cases hu
  | cons y r ih =>
    have h' : (∀ b, b ∈ r.map Prod.fst → bytesBefore y.1 b = true) ∧ (r.map Prod.fst).Pairwise (fun a b => bytesBefore a b = true) := List.pairwise_cons.1 h
    have no : ∀ z, (k, z) ∈ r → y.1 = k → False := fun z hz e => by
      have := h'.1 k (List.mem_map.2 ⟨_, hz, rfl⟩)
      rw [e, bb_irr] at this
      cases this
    rcases List.mem_cons.1 hu with e1 | hu <;> rcases List.mem_cons.1 hv with e2 | hv
    · exact congrArg Prod.snd (e1.trans e2.symm)
    · exact (no _ hv (by rw [← e1])).elim
    · exact (no _ hu (by rw [← e2])).elim
    · exact ih h'.2 hu hv
theorem get_mem {k : List UInt8} {v : α} : ∀ {l : List (List UInt8 × α)}, mget k l = some v → (k, v) ∈ l
  | [], h => by cases h
  | y :: r, h => by
    rw [mget] at h
    split at h
    · rename_i c
      have c : y.1 = k := by simpa using c
      injection h with h
      rw [← c, ← h]
      exact List.mem_cons_self
    · exact List.mem_cons_of_mem _ (get_mem h)
theorem mem_get {k : List UInt8} {v : α} {l : List (List UInt8 × α)} (h : Rise l) (hm : (k, v) ∈ l) : mget k l = some v := by
  have : ∃ u, mget k l = some u := by
    clear h
    induction l with
    | nil => cases hm
    | cons y r ih =>
      rw [mget]
      split
      · exact ⟨_, rfl⟩
      · rename_i c
        rcases List.mem_cons.1 hm with e | hm
        · rw [← e] at c
          simp at c
        · exact ih hm
  obtain ⟨u, hu⟩ := this
  rw [hu, rise_one h (get_mem hu) hm]
theorem rem_len (k : List UInt8) (l : List (List UInt8 × α)) : (mrem k l).length ≤ l.length := by
  rw [mrem_filter]
  exact List.length_filter_le _ _
theorem put_len (k : List UInt8) (x : α) (l : List (List UInt8 × α)) : (mput k x l).length ≤ l.length + 1 := by
  have := (mins_perm k x (mrem k l)).length_eq
  have h2 := rem_len k l
  unfold mput
  simp only [List.length_cons] at this
  omega
theorem put_mem {k : List UInt8} {x : α} {l : List (List UInt8 × α)} {p : List UInt8 × α} (h : p ∈ mput k x l) : p = (k, x) ∨ p ∈ l := by
  have := (mins_perm k x (mrem k l)).mem_iff.1 h
  rcases List.mem_cons.1 this with e | h
  · exact .inl e
  · rw [mrem_filter] at h
    exact .inr (List.mem_filter.1 h).1
theorem rem_mem {k : List UInt8} {l : List (List UInt8 × α)} {p : List UInt8 × α} (h : p ∈ mrem k l) : p ∈ l := by
  rw [mrem_filter] at h
  exact (List.mem_filter.1 h).1
end
def prK (x : L15Known) : List UInt8 × Val := (x.fid, x.fv)
theorem find_loop {k : List UInt8} {v : Val} (y : Bool) : ∀ {l : List L15Known}, (k, v) ∈ l.map prK → (∀ u, (k, u) ∈ l.map prK → u = v) → f_l15_find_l1 k l y = some (.ret (v, true))
  | [], h, _ => by cases h
  | x :: xs, h, h2 => by
    rw [f_l15_find_l1]
    by_cases c : x.fid = k
    · rw [if_pos c, h2 x.fv (by rw [← c]; exact List.mem_cons_self)]
    · rw [if_neg c]
      rcases List.mem_cons.1 h with e | h
      · exact absurd (congrArg Prod.fst e).symm c
      · exact find_loop y h (fun u hu => h2 u (List.mem_cons_of_mem _ hu))
theorem find_eq {k : List UInt8} {v : Val} {l : List L15Known} (h : (k, v) ∈ l.map prK) (h2 : ∀ u, (k, u) ∈ l.map prK → u = v) : f_l15_find l k = some (v, true) := by
  unfold f_l15_find
  rw [find_loop false h h2]
  rfl
def goodP (p : List UInt8 × Val) : Prop := kright p.1 = true ∧ wf_Val p.2 ∧ chkV p.2 = 0 ∧ wTs p.2.fTopics ≤ 1000
theorem goodP.copied {p : List UInt8 × Val} (h : goodP p) : f_journal_copied p.2 = some p.2 := by
  have hn := wTs_len p.2.fTopics
  exact copied_eq _ (by have := h.2.2.2; omega) (fun t ht => by have := wTs_mem _ t ht; have := h.2.2.2; unfold wT at *; omega)
theorem goodP.same {p : List UInt8 × Val} (h : goodP p) : f_r14_Same p.2 p.2 = some true := by
  have hn := wTs_len p.2.fTopics
  exact r14same_refl _ (by have := h.2.2.2; omega) (fun t ht => by have := wTs_mem _ t ht; have := h.2.2.2; unfold wT at *; omega)
structure Both (st : JournalJournal) (all : List L15Known) : Prop where
  perm : (all.map prK).Perm st.fknown
  rise : Rise st.fknown
  good : ∀ p, p ∈ st.fknown → goodP p
  len : st.fknown.length ≤ 1000
theorem Both.one {st : JournalJournal} {all : List L15Known} (h : Both st all) {k : List UInt8} {v : Val} (hm : (k, v) ∈ st.fknown) : f_l15_find all k = some (v, true) ∧ f_journal_JournalGet st k = some (v, true, st) := by
  refine ⟨find_eq (h.perm.mem_iff.2 hm) (fun u hu => rise_one h.rise (h.perm.mem_iff.1 hu) hm), ?_⟩
  have hg := h.good _ hm
  have hk := (kr_fits hg.1).2.1
  unfold f_journal_JournalGet
  have e := mem_get h.rise hm
  simp only [mhas, e, Option.isSome_some, if_true]
  rw [if_pos (by simp only at hk; omega), Option.bind_some, hg.copied, Option.bind_some]
theorem filter_prK (k : List UInt8) (l : List L15Known) : (l.filter (fun x => !(x.fid == k))).map prK = (l.map prK).filter (fun p => !(p.1 == k)) := by
  rw [List.filter_map]
  rfl
theorem Both.drop {st : JournalJournal} {all : List L15Known} (h : Both st all) (k : List UInt8) (m : Int) : Both ⟨mrem k st.fknown, m⟩ (all.filter (fun x => !(x.fid == k))) := by
  refine ⟨?_, rise_rem h.rise, fun p hp => h.good p (rem_mem hp), Nat.le_trans (rem_len _ _) h.len⟩
  rw [filter_prK]
  show List.Perm _ (mrem k st.fknown)
  rw [mrem_filter]
  exact h.perm.filter _
theorem Both.put {st : JournalJournal} {all : List L15Known} (h : Both st all) (k : List UInt8) (v : Val) (m : Int) (hg : goodP (k, v)) (hl : st.fknown.length < 1000) : Both ⟨mput k v st.fknown, m⟩ (all.filter (fun x => !(x.fid == k)) ++ [⟨k, v⟩]) := by
  refine ⟨?_, rise_put h.rise, fun p hp => (put_mem hp).elim (fun e => e ▸ hg) (h.good p), Nat.le_trans (put_len _ _ _) (by omega)⟩
  rw [List.map_append, filter_prK]
  show List.Perm _ (mput k v st.fknown)
  refine (List.perm_append_comm).trans ?_
  refine List.Perm.trans ?_ (mins_perm k v _).symm
  rw [mrem_filter]
  exact (h.perm.filter _).cons _
theorem many_eq (st : JournalJournal) : f_journal_JournalMany st = some (st.fmany, st) := rfl
def entE (p : List UInt8 × Val) : JournalEntry := ⟨encK p.1, ⟨false, encV p.2⟩⟩
theorem compact_loop {st : JournalJournal} (hr : Rise st.fknown) (hg : ∀ p, p ∈ st.fknown → goodP p) : ∀ (xs : List (List UInt8 × Val)) (acc : List JournalEntry), (∀ p, p ∈ xs → p ∈ st.fknown) → acc.length + xs.length ≤ 100000 → f_journal_JournalCompact_l1 st (xs.map Prod.fst) acc = some (acc ++ xs.map entE)
  | [], acc, _, _ => by rw [List.map_nil, f_journal_JournalCompact_l1, List.map_nil, List.append_nil]
  | p :: xs, acc, hx, hl => by
    simp only [List.length_cons] at hl
    have hm := hx p List.mem_cons_self
    obtain ⟨g1, g2, g3, g4⟩ := hg p hm
    have hk := (kr_fits g1).2.1
    rw [List.map_cons, f_journal_JournalCompact_l1, if_pos (by omega), mem_get (v := p.2) hr hm, Option.bind_some, put_eq g2 (by omega), if_pos g1, if_pos g3]
    simp only [Option.bind_some]
    rw [if_pos (by omega), compact_loop hr hg xs _ (fun q hq => hx q (List.mem_cons_of_mem _ hq)) (by simp only [List.length_append, List.length_cons, List.length_nil]; omega), List.append_assoc]
    rfl
theorem again_loop (y : Bool) : ∀ (xs : List (List UInt8 × Val)) (st : JournalJournal), (∀ p, p ∈ xs → goodP p) → Rise st.fknown → (∀ p, p ∈ xs → ∀ q, q ∈ st.fknown → q.1 ≠ p.1) → (xs.map Prod.fst).Pairwise (fun a b => a ≠ b) → st.fknown.length + xs.length ≤ 1000 → st.fmany = st.fknown.length →
    ∃ st', f_l15_JournalApplies_l2 (xs.map entE) y st = some (.go (y, st')) ∧ st'.fknown.Perm (xs ++ st.fknown) ∧ Rise st'.fknown ∧ st'.fmany = st'.fknown.length
  | [], st, _, hr, _, _, _, hm => ⟨st, by rw [List.map_nil, f_l15_JournalApplies_l2], .refl _, hr, hm⟩
  | p :: xs, st, hg, hr, hn, hd, hl, hm => by
    simp only [List.length_cons] at hl
    obtain ⟨g1, g2, g3, g4⟩ := hg p List.mem_cons_self
    have hd' : (∀ b, b ∈ xs.map Prod.fst → p.1 ≠ b) ∧ (xs.map Prod.fst).Pairwise (fun a b => a ≠ b) := List.pairwise_cons.1 hd
    have hrem : mrem p.1 st.fknown = st.fknown := by
      rw [mrem_filter, List.filter_eq_self]
      intro q hq
      have := hn p List.mem_cons_self q hq
      simpa using this
    have hp : (mput p.1 p.2 st.fknown).Perm (p :: st.fknown) := by
      unfold mput
      rw [hrem]
      exact mins_perm _ _ _
    rw [List.map_cons, f_l15_JournalApplies_l2]
    unfold entE
    rw [apply_put g1 g2 (by omega) g3 (by omega) (by omega)]
    simp only [Option.bind_some, if_true]
    obtain ⟨st', e1, e2, e3, e4⟩ := again_loop y xs ⟨mput p.1 p.2 st.fknown, st.fmany + 1⟩ (fun q hq => hg q (List.mem_cons_of_mem _ hq)) (rise_put hr) (fun q hq u hu => by
      rcases List.mem_cons.1 (hp.mem_iff.1 hu) with rfl | hu
      · exact hd'.1 q.1 (List.mem_map.2 ⟨_, hq, rfl⟩)
      · exact hn q (List.mem_cons_of_mem _ hq) u hu) hd'.2 (by have := hp.length_eq; simp only [List.length_cons] at this; simp only; omega) (by have := hp.length_eq; simp only [List.length_cons] at this; simp only; omega)
    refine ⟨st', e1, ?_, e3, e4⟩
    refine e2.trans ?_
    exact ((hp.append_left xs).trans List.perm_middle)
end Go.Proofs.Ytlhgogjcaegehaa.Sl
namespace Go.Proofs.Ytlhgogjcaegehaa.Sl
open Go.RowKit Go.Maps Go.WideMaps
set_option linter.unusedVariables false
set_option linter.unusedSimpArgs false
noncomputable def anyOrd {β γ : Type} (f : List β → Option γ) (m : List β) : Option γ := open Classical in if h : ∃ r, ∀ l : List β, l.Perm m → f l = some r then some h.choose else none
theorem anyOrd_of {β γ : Type} {f : List β → Option γ} {m : List β} {r : γ} (h : ∀ l : List β, l.Perm m → f l = some r) : anyOrd f m = some r := by
  have h1 : ∃ r, ∀ l : List β, l.Perm m → f l = some r := ⟨r, h⟩
  unfold anyOrd
  rw [dif_pos h1, ← h1.choose_spec m (.refl _), h m (.refl _)]
theorem anyOrd_all {β γ : Type} {f : List β → Option γ} {m : List β} {r : γ} (h : anyOrd f m = some r) : ∀ l : List β, l.Perm m → f l = some r := by
  unfold anyOrd at h
  split at h
  · rename_i h1
    have h2 := Option.some.inj h
    have h3 := h1.choose_spec
    rw [h2] at h3
    exact h3
  · cases h
theorem ord_step {β γ σ : Type} {f : List β → σ → Option γ} {b : β → σ → Option σ} (hf : ∀ x xs s, f (x :: xs) s = (b x s).bind (f xs)) {rem rem' : List β} {x : β} {s : σ} {r : γ} (h : ∀ l : List β, l.Perm rem → f l s = some r) (hp : (x :: rem').Perm rem) :
    ∃ s', b x s = some s' ∧ ∀ l : List β, l.Perm rem' → f l s' = some r := by
  have h1 := h _ hp
  rw [hf] at h1
  obtain ⟨s', e1, _⟩ := Option.bind_eq_some_iff.1 h1
  refine ⟨s', e1, fun l hl => ?_⟩
  have h2 := h _ ((hl.cons x).trans hp)
  rw [hf, e1, Option.bind_some] at h2
  exact h2
section
variable {α : Type} {E : Rd α} {w w' : World} {S : Nat → Prop} {k : List UInt8} {x : α}
theorem Ents.there : ∀ {es : List (Lit × DataW Value)} {l : List (List UInt8 × α)}, Ents E w S es l → ∀ y, y ∈ l → has (.map es) (.string y.1) = true
  | [], [], _, _, h => by cases h
  | p :: es, y :: l, ⟨h1, _, h3⟩, z, hz => by
    have eh : has (.map (p :: es)) (.string z.1) = (p.1.sameKey (.string z.1) || has (.map es) (.string z.1)) := rfl
    rw [eh]
    rcases List.mem_cons.1 hz with rfl | hz
    · rw [h1]
      show ((z.1 == z.1) || _) = true
      simp
    · rw [Ents.there h3 z hz, Bool.or_true]
  | [], _ :: _, h, _, _ => h.elim
  | _ :: _, [], h, _, _ => h.elim
theorem Ents.from_ : ∀ {es : List (Lit × DataW Value)} {l : List (List UInt8 × α)}, Ents E w S es l → ∀ p, p ∈ es → ∃ y, y ∈ l ∧ p.1 = .string y.1
  | [], [], _, _, h => by cases h
  | p :: es, y :: l, ⟨h1, _, h3⟩, q, hq => by
    rcases List.mem_cons.1 hq with rfl | hq
    · exact ⟨y, List.mem_cons_self, h1⟩
    · obtain ⟨z, hz, e⟩ := Ents.from_ h3 q hq
      exact ⟨z, List.mem_cons_of_mem _ hz, e⟩
  | [], _ :: _, h, _, _ => h.elim
  | _ :: _, [], h, _, _ => h.elim
theorem got_mem {v : α} : ∀ {l : List (List UInt8 × α)}, mget k l = some v → (k, v) ∈ l
  | [], h => by cases h
  | y :: r, h => by
    rw [mget] at h
    split at h
    · rename_i c
      have c : y.1 = k := by simpa using c
      injection h with h
      rw [← c, ← h]
      exact List.mem_cons_self
    · exact List.mem_cons_of_mem _ (got_mem h)
theorem perm_out {u : α} : ∀ {l : List (List UInt8 × α)}, (l.map Prod.fst).Nodup → (k, u) ∈ l → ((k, u) :: l.filter (fun p => !(p.1 == k))).Perm l
  | [], _, h => by cases h
  | y :: r, hn, h => by
    have hn' := List.nodup_cons.1 hn
    by_cases c : y.1 = k
    · have e : (y :: r).filter (fun p => !(p.1 == k)) = r := by
        rw [List.filter_cons, if_neg (by simp [c]), List.filter_eq_self]
        intro q hq
        have : q.1 ≠ k := fun e => hn'.1 (by rw [c, ← e]; exact List.mem_map.2 ⟨q, hq, rfl⟩)
        simpa using this
      rw [e]
      rcases List.mem_cons.1 h with h | h
      · rw [h]
      · exact absurd (by rw [c]; exact List.mem_map.2 ⟨_, h, rfl⟩) hn'.1
    · rw [List.filter_cons, if_pos (by simp [c])]
      rcases List.mem_cons.1 h with h | h
      · exact absurd (congrArg Prod.fst h).symm c
      · exact (List.Perm.swap _ _ _).trans ((perm_out hn'.2 h).cons y)
end
theorem entry_local {P : Program} {w W : World} {b r since c0 clock : Nat} {seen : Array Nat} {es : Array MapEntry} {v : Value} (hb : w.heap[b]? = some (.map es clock)) (hr : w.heap[r]? = some (.mapIter (some b) since seen c0)) (hb' : W.heap[b]? = w.heap[b]?) (hr' : W.heap[r]? = w.heap[r]?)
    (h : (Instr.entry (.pointer (some ⟨r, 0, none⟩))).run P w = .ok v w) : (Instr.entry (.pointer (some ⟨r, 0, none⟩))).run P W = .ok v W := by
  rw [hb] at hb'
  rw [hr] at hr'
  simp only [Instr.entry, getObj, Sem.run_bind, Sem.run, hr, hb, Result.andThen] at h
  simp only [Instr.entry, getObj, Sem.run_bind, Sem.run, hr', hb', Result.andThen]
  cases hs : seen.back? with
  | none => rw [hs] at h; cases h
  | some stamp =>
    rw [hs] at h
    simp only [Sem.run_bind, Sem.run, hr, hb, Result.andThen] at h
    simp only [Sem.run_bind, Sem.run, hr', hb', Result.andThen]
    cases hc : (clock != c0) with
    | true => rw [hc] at h; cases h
    | false =>
      rw [hc] at h
      simp only [Bool.false_eq_true, if_false] at h ⊢
      cases hf : es.find? (·.born == stamp) with
      | none => rw [hf] at h; cases h
      | some e =>
        rw [hf] at h
        have h' : (Result.ok (Value.tuple #[e.key, e.val]) w : Result Value) = .ok v w := h
        injection h' with h1
        rw [← h1]
        rfl
theorem ranges_move {P : Program} {kt : TypeId} {w w' : World} {b r n : Nat} {D : DataW Value} {left : Lit → Bool} {cnt : Nat} (h : w.ranges P kt tokR b r n D left cnt) (h1 : w'.heap[b]? = w.heap[b]?) (h2 : w'.heap[r]? = w.heap[r]?) : w'.ranges P kt tokR b r n D left cnt := by
  obtain ⟨es, clock, since, seen, c0, hb, F, hs, hD, hr, rest⟩ := h
  exact ⟨es, clock, since, seen, c0, h1.trans hb, F, hs, hD, h2.trans hr, rest⟩
def RangR {α : Type} (P : Program) (kt : TypeId) (E : Rd α) (b r : Nat) (l rem : List (List UInt8 × α)) : Res where
  P := fun w G => ∃ es S n cnt left, w.ranges P kt tokR b r n (.map es) left cnt ∧ Ents E w S es l ∧ rem = l.filter (fun p => left (.string p.1)) ∧ (∀ k, S k → k < w.heap.size) ∧ ¬ S b ∧ ¬ S r ∧ (l.map Prod.fst).Nodup ∧ ∀ k, G k ↔ k = b ∨ k = r ∨ S k
  lt := by
    rintro w G ⟨es, S, n, cnt, left, h1, h2, h3, h4, h5, h6, h7, h8⟩ k hk
    rcases (h8 k).1 hk with rfl | rfl | h
    · exact h1.owns.lt
    · exact h1.lt
    · exact h4 k h
  move := by
    rintro w w' G ⟨es, S, n, cnt, left, h1, h2, h3, h4, h5, h6, h7, h8⟩ hm
    refine ⟨es, S, n, cnt, left, ranges_move h1 (hm b ((h8 b).2 (.inl rfl))) (hm r ((h8 r).2 (.inr (.inl rfl)))), h2.move (fun k hk => hm k ((h8 k).2 (.inr (.inr hk)))), h3, fun k hk => ?_, h5, h6, h7, h8⟩
    have h9 := h4 k hk
    have h10 := hm k ((h8 k).2 (.inr (.inr hk)))
    rw [Array.getElem?_eq_getElem h9] at h10
    exact (Array.getElem?_eq_some_iff.1 h10).1
def EntAt (P : Program) (w : World) (b r : Nat) (v : Value) : Prop := ∀ W : World, W.heap[b]? = w.heap[b]? → W.heap[r]? = w.heap[r]? → (Instr.entry (.pointer (some ⟨r, 0, none⟩))).run P W = .ok v W
def NxtK {α : Type} (B : Res) (P : Program) (b r : Nat) (E : Rd α) (k : List UInt8) (cs : List Value) (x : α) : Res where
  P := fun w G => B.P w G ∧ (G b ∧ G r) ∧ EntAt P w b r (.tuple #[.string (bsOf k), .agg cs.toArray]) ∧ E.P w G cs x
  lt := fun h => B.lt h.1
  move := fun {w w' G} h hm => ⟨B.move h.1 hm, h.2.1, fun W h1 h2 => h.2.2.1 W (h1.trans (hm b h.2.1.1)) (h2.trans (hm r h.2.1.2)), E.move h.2.2.2 hm⟩
section
variable {α : Type} {P : Program} {n : Nat} {F0 S0 : Nat → Prop} {w0 w : World} {e : Env} {Rs Rf : List Res} {Q : Exit → Act → World → Prop} {ops : Array Oper} {d : Option Tmp} {i dd : Nat} {ty t kt et b r : Nat} {pos : String} {af : Array Edge} {gd : Option (Nat × Bool)} {x y m : Operand} {lr : List Nat} {lo : Sch} {c : Code} {E : Rd α} {l rem : List (List UInt8 × α)} {k : List UInt8} {u : α} {B : Res} {cs : List Value} {zv : Value}
theorem rise_nodup (h : (l.map Prod.fst).Pairwise (fun a b => bytesBefore a b = true)) : (l.map Prod.fst).Nodup := by
  refine h.imp (fun {a b} hab e => ?_)
  subst e
  exact absurd hab (by
    have : ∀ a : List UInt8, bytesBefore a a = false := by
      intro a
      induction a with
      | nil => rfl
      | cons x a ih =>
        show (decide (x < x) || (x == x && bytesBefore a a)) = false
        rw [ih]
        simp
    rw [this a]
    decide)
theorem Ef.range (j : Nat) (hm : e.ev m = some (.map (some b))) (ht : P.underlying t = some (.map kt et)) (hk : P.underlying kt = some .string) (hi : Rs[j]? = some (MapR P kt E b l)) (hd : okd d n = true) :
    Ef P n F0 w0 e Rs ⟨d, .range t m, ty, pos, af, gd⟩ (fun e' Rs' => ∃ r : Nat, e' = envput d (.pointer (some ⟨r, 0, none⟩)) e ∧ Rs' = Rs.set j (RangR P kt E b r l l)) := by
  intro a w K Q ha hs hk'
  obtain ⟨G0, ⟨es0, S0, k01, _⟩, _⟩ := hs.get j hi
  obtain ⟨w', r1, r2, r3, r4⟩ := k01.range (string_keyed hk) ht
  have h1 : (execOp a.eval ⟨d, .range t m, ty, pos, af, gd⟩).run P w = .ok (.value (.pointer (some ⟨w.heap.size, 0, none⟩))) w' := by
    simp [execOp, ha.ev hm, r1]
  unfold Oper.wp
  rw [h1]
  refine hk' _ _ ⟨_, rfl, rfl⟩ _ _ (ha.putd hd) (hs.step j hi (Ns := []) (fun G hG => ?_))
  obtain ⟨es, S, k1, k2, k3, k4, k5⟩ := hG
  have hb := k1.lt
  obtain ⟨w'', q1, q2, q3, q4⟩ := k1.range (string_keyed hk) ht
  have ew : w'' = w' := by
    rw [r1] at q1
    injection q1 with _ q1
    exact q1.symm
  subst ew
  have hmv : ∀ z, z < w.heap.size → w''.heap[z]? = w.heap[z]? := fun z hz => q3.block z hz (by simp)
  have hnd : (l.map Prod.fst).Nodup := by
    obtain ⟨es', clock, hb', F, hs', hD⟩ := k1
    injection hD with hD
    have h1 := sorted_sorted (string_keyed hk).one _ (fit_keys F) (fit_apart (string_keyed hk) F)
    rw [← hD] at h1
    have h2 : (es.map Prod.fst).Pairwise (fun a b => a.before b = true) := List.pairwise_map.2 h1
    have h3 : es.map Prod.fst = (l.map Prod.fst).map Lit.string := by
      clear h1 h2 hD hs'
      have : ∀ {es : List (Lit × DataW Value)} {l : List (List UInt8 × α)}, Ents E w S es l → es.map Prod.fst = (l.map Prod.fst).map Lit.string := by
        intro es
        induction es with
        | nil => intro l h; cases l with | nil => rfl | cons _ _ => exact h.elim
        | cons p es ih => intro l h; cases l with | nil => exact h.elim | cons y l => obtain ⟨h1, _, h4⟩ := h; rw [List.map_cons, List.map_cons, List.map_cons, h1, ih h4]
      exact this k2
    rw [h3] at h2
    exact rise_nodup (List.pairwise_map.1 h2)
  refine ⟨Fr.of_grown q3 (fun z hz => by cases hz), fun z => G z ∨ z = w.heap.size, ⟨es, S, _, _, _, q2, k2.move (fun z hz => hmv z (k3 z hz)), ?_, fun z hz => Nat.lt_of_lt_of_le (k3 z hz) q3.size, k4, fun h => absurd (k3 _ h) (Nat.lt_irrefl _), hnd, fun z => ?_⟩, fun z hz => hz.elim .inl (fun h => .inr (by omega)), trivial⟩
  · exact (List.filter_eq_self.2 (fun y hy => k2.there y hy)).symm
  · show (G z ∨ z = w.heap.size) ↔ _
    rw [k5 z]
    constructor
    · rintro ((h | h) | h)
      · exact .inl h
      · exact .inr (.inr h)
      · exact .inr (.inl h)
    · rintro (h | h | h)
      · exact .inl (.inl h)
      · exact .inr h
      · exact .inl (.inr h)
theorem TL.range (j : Nat) (ho : ops[i]? = some ⟨some dd, .range t m, ty, pos, af, gd⟩) (hw : Wd n ops e ⟨some dd, .range t m, ty, pos, af, gd⟩ true) (hm : e.ev m = some (.map (some b))) (ht : P.underlying t = some (.map kt et)) (hk : P.underlying kt = some .string) (hi : Rs[j]? = some (MapR P kt E b l)) (hd : Nat.blt dd n = true)
    (h : ∀ r : Nat, TL P n F0 w0 ops lr ((dd, .pointer (some ⟨r, 0, none⟩)) :: e) (Rs.set j (RangR P kt E b r l l)) Q) : TL P n F0 w0 ops (i :: lr) e Rs Q := by
  refine TL.ef ho hw (Ef.range (d := some dd) j hm ht hk hi hd) ?_
  rintro _ _ ⟨r, rfl, rfl⟩
  exact h r
theorem Ef.next0 (j : Nat) (hm : e.ev m = some (.pointer (some ⟨r, 0, none⟩))) (hk : P.underlying kt = some .string) (hi : Rs[j]? = some (RangR P kt E b r l [])) (hd : okd d n = true) :
    Ef P n F0 w0 e Rs ⟨d, .next m false, ty, pos, af, gd⟩ (fun e' Rs' => e' = envput d (.tuple #[.bool false]) e ∧ Rs' = Rs) := by
  intro a w K Q ha hs hk'
  obtain ⟨G, ⟨es, S, nn, cnt, left, h1, h2, h3, h4, h5, h6, h7, h8⟩, _⟩ := hs.get j hi
  rcases h1.next (string_keyed hk) ty with ⟨_, _, hrun⟩ | ⟨key, v, kl, y, w', cnt', q1, q2, q3, q4, q5, q6, q7, q8, q9, q10⟩
  · have e1 : (execOp a.eval ⟨d, .next m false, ty, pos, af, gd⟩).run P w = .ok (.value (.tuple #[.bool false])) w := by
      simp [execOp, ha.ev hm, hrun]
    unfold Oper.wp
    rw [e1]
    exact hk' _ _ ⟨rfl, rfl⟩ _ _ (ha.putd hd) hs
  · exfalso
    obtain ⟨es', clock, since, seen, c0, _, F, _, hD, _, _, _, _, hl2, _⟩ := h1
    obtain ⟨x0, hx0, e0⟩ := hl2 kl q2
    injection hD with hD
    have hm1 : WideElems.rg P kt tokR x0 ∈ es := by
      rw [hD]
      exact mem_sorted.2 (List.mem_map.2 ⟨x0, hx0, rfl⟩)
    obtain ⟨z, hz, ez⟩ := h2.from_ _ hm1
    rw [e0] at ez
    have : z ∈ ([] : List (List UInt8 × α)) := by
      rw [h3]
      exact List.mem_filter.2 ⟨hz, by rw [← ez]; exact q2⟩
    cases this
theorem TL.next0 (j : Nat) (ho : ops[i]? = some ⟨some dd, .next m false, ty, pos, af, gd⟩) (hw : Wd n ops e ⟨some dd, .next m false, ty, pos, af, gd⟩ true) (hm : e.ev m = some (.pointer (some ⟨r, 0, none⟩))) (hk : P.underlying kt = some .string) (hi : Rs[j]? = some (RangR P kt E b r l [])) (hd : Nat.blt dd n = true)
    (h : TL P n F0 w0 ops lr ((dd, .tuple #[.bool false]) :: e) Rs Q) : TL P n F0 w0 ops (i :: lr) e Rs Q := by
  refine TL.ef ho hw (Ef.next0 (d := some dd) j hm hk hi hd) ?_
  rintro _ _ ⟨rfl, rfl⟩
  exact h
theorem Ef.next1 (j : Nat) (hn : rem ≠ []) (hm : e.ev m = some (.pointer (some ⟨r, 0, none⟩))) (hk : P.underlying kt = some .string) (hi : Rs[j]? = some (RangR P kt E b r l rem)) (hd : okd d n = true) :
    Ef P n F0 w0 e Rs ⟨d, .next m false, ty, pos, af, gd⟩ (fun e' Rs' => ∃ (k : List UInt8) (u : α) (cs : List Value) (rem' : List (List UInt8 × α)), ((k, u) :: rem').Perm rem ∧ (∃ w' S, E.P w' S cs u ∧ St F0 w0 Rs' w') ∧ e' = envput d (.tuple #[.bool true, .string (bsOf k), .agg cs.toArray]) e ∧ Rs' = Rs.set j (NxtK (RangR P kt E b r l rem') P b r E k cs u)) := by
  intro a w K Q ha hs hk'
  have hs' := hs
  obtain ⟨f, hp⟩ := hs'
  obtain ⟨G, hG, g2, g3⟩ := Sep.pick j hi hp
  obtain ⟨es, S, nn, cnt, left, h1, h2, h3, h4, h5, h6, h7, h8⟩ := hG
  have hother := h1
  rcases h1.next (string_keyed hk) ty with ⟨_, hl, hrun⟩ | ⟨key, v, kl, y, w', cnt', q1, q2, q3, q4, q5, q6, q7, q8, q9, q10⟩
  · refine absurd ?_ hn
    rw [h3]
    exact List.filter_eq_nil_iff.2 (fun p _ => by rw [hl]; decide)
  obtain ⟨es', clock, since, seen, c0, hb0, F, _, hD, hr0, _, _, _, hl2, _⟩ := h1
  obtain ⟨x0, hx0, e0⟩ := hl2 kl q2
  injection hD with hD
  have hm1 : WideElems.rg P kt tokR x0 ∈ es := by
    rw [hD]
    exact mem_sorted.2 (List.mem_map.2 ⟨x0, hx0, rfl⟩)
  obtain ⟨z, hz, ez⟩ := h2.from_ _ hm1
  rw [e0] at ez
  subst ez
  obtain ⟨zk, zv⟩ := z
  rcases h2.find (k := zk) with ⟨_, _, i3⟩ | ⟨cs, u, i1, i2, i3, i4⟩
  · rw [h2.there _ hz] at i3
    cases i3
  have hkey : key = .string (bsOf zk) := by
    cases key <;> simp [keyOf, hk, mapKey] at q1
    rename_i s
    obtain ⟨s', rfl⟩ := bsOf_of s
    obtain ⟨_, q1⟩ := q1
    rw [bsOf_list] at q1
    rw [q1]
  have hv : v = .agg cs.toArray := by
    have e1 : y = (.held v, []) := (Option.some.inj q3).symm
    have e2 := q4 (.held v)
    rw [i2, e1] at e2
    injection e2 with e2
    exact e2.symm
  subst hkey hv
  have e1 : (execOp a.eval ⟨d, .next m false, ty, pos, af, gd⟩).run P w = .ok (.value (.tuple #[.bool true, .string (bsOf zk), .agg cs.toArray])) w' := by
    simp [execOp, ha.ev hm, q5]
  have hGb : G b := (h8 b).2 (.inl rfl)
  have hGr : G r := (h8 r).2 (.inr (.inl rfl))
  have hmS : ∀ q, S q → w'.heap[q]? = w.heap[q]? := fun q hq => q8.block q (h4 q hq) (fun h => h6 (by injection h with h; exact h ▸ hq))
  have hrem : rem.filter (fun p => !(p.1 == zk)) = l.filter (fun p => (left (.string p.1) && !(Lit.string p.1).sameKey (.string zk))) := by
    rw [h3, List.filter_filter]
    refine List.filter_congr (fun p _ => ?_)
    rw [Bool.and_comm]
    rfl
  have hu : (zk, u) ∈ rem := by
    rw [h3]
    exact List.mem_filter.2 ⟨got_mem i1, q2⟩
  have hnd : (rem.map Prod.fst).Nodup := by
    rw [h3]
    exact List.Nodup.sublist (List.filter_sublist.map _) h7
  have hR : RangR P kt E b r l (rem.filter (fun p => !(p.1 == zk))) |>.P w' G := ⟨es, S, _, _, _, q6, h2.move hmS, hrem, fun q hq => Nat.lt_of_lt_of_le (h4 q hq) q8.size, h5, h6, h7, h8⟩
  have hEnt : EntAt P w' b r (.tuple #[.string (bsOf zk), .agg cs.toArray]) := by
    obtain ⟨es2, clock2, since2, seen2, c2, hb2, _, _, _, hr2, _⟩ := q6
    exact fun W w1 w2 => entry_local hb2 hr2 w1 w2 q10
  have hE : E.P w' G cs u := E.mono (E.move i4 hmS) (fun q hq => (h8 q).2 (.inr (.inr hq)))
  have hF : Fr G w w' := Fr.of_grown q8 (fun q hq => by injection hq with hq; exact hq ▸ hGr)
  have hst : St F0 w0 (Rs.set j (NxtK (RangR P kt E b r l (rem.filter (fun p => !(p.1 == zk)))) P b r E zk cs u)) w' := by
    refine ⟨f.trans hF g2, Sep.back j hi ⟨hR, ⟨hGb, hGr⟩, hEnt, hE⟩ g2 ?_⟩
    exact (g3.inside.move (fun q hq _ => q8.block q hq.2 (fun h => hq.1.2 (by injection h with h; exact h ▸ hGr)))).mono (fun q hq => hq.1)
  unfold Oper.wp
  rw [e1]
  exact hk' _ _ ⟨zk, u, cs, _, perm_out hnd hu, ⟨w', G, hE, hst⟩, rfl, rfl⟩ _ _ (ha.putd hd) hst
theorem TL.next1 (j : Nat) (hn : rem ≠ []) (ho : ops[i]? = some ⟨some dd, .next m false, ty, pos, af, gd⟩) (hw : Wd n ops e ⟨some dd, .next m false, ty, pos, af, gd⟩ true) (hm : e.ev m = some (.pointer (some ⟨r, 0, none⟩))) (hk : P.underlying kt = some .string) (hi : Rs[j]? = some (RangR P kt E b r l rem)) (hd : Nat.blt dd n = true)
    (h : ∀ (k : List UInt8) (u : α) (cs : List Value) (rem' : List (List UInt8 × α)), ((k, u) :: rem').Perm rem → (∃ w S, E.P w S cs u) → TL P n F0 w0 ops lr ((dd, .tuple #[.bool true, .string (bsOf k), .agg cs.toArray]) :: e) (Rs.set j (NxtK (RangR P kt E b r l rem') P b r E k cs u)) Q) : TL P n F0 w0 ops (i :: lr) e Rs Q := by
  refine TL.ef ho hw (Ef.next1 (d := some dd) j hn hm hk hi hd) ?_
  rintro _ _ ⟨k, u, cs, rem', h1, ⟨w', S, h2, _⟩, rfl, rfl⟩
  exact h k u cs rem' h1 ⟨w', S, h2⟩
theorem TL.nextO (j : Nat) (hn : rem ≠ []) (hSF : ∀ k, S0 k → ¬ F0 k ∧ k < w0.heap.size) (ho : ops[i]? = some ⟨some dd, .next m false, ty, pos, af, gd⟩) (hw : Wd n ops e ⟨some dd, .next m false, ty, pos, af, gd⟩ true) (hm : e.ev m = some (.pointer (some ⟨r, 0, none⟩))) (hk : P.underlying kt = some .string) (hi : Rs[j]? = some (RangR P kt (oldRd w0 S0 E) b r l rem)) (hd : Nat.blt dd n = true)
    (h : ∀ (k : List UInt8) (u : α) (cs : List Value) (rem' : List (List UInt8 × α)), ((k, u) :: rem').Perm rem → (∃ w S, E.P w S cs u) → TL P n F0 w0 ops lr ((dd, .tuple #[.bool true, .string (bsOf k), .agg cs.toArray]) :: e) (Rs.set j (NxtK (RangR P kt (oldRd w0 S0 E) b r l rem') P b r (oldRd w0 S0 E) k cs u)) Q) : TL P n F0 w0 ops (i :: lr) e Rs Q := by
  refine TL.ef ho hw (Ef.next1 (d := some dd) j hn hm hk hi hd) ?_
  rintro _ _ ⟨k, u, cs, rem', h1, ⟨w', S, h2, h3⟩, rfl, rfl⟩
  have hfr := h3.fr
  exact h k u cs rem' h1 ⟨w', _, h2 w' (fun _ _ => rfl) (fun q hq => hfr.block q (hSF q hq).2 (hSF q hq).1)⟩
theorem Ex.entry (j : Nat) (hm : e.ev m = some (.pointer (some ⟨r, 0, none⟩))) (hi : Rs[j]? = some (NxtK B P b r E k cs u)) : Ex P n e (St F0 w0 Rs) ⟨d, .entry m, ty, pos, af, gd⟩ (.tuple #[.string (bsOf k), .agg cs.toArray]) := by
  intro a w ha hs
  obtain ⟨G, hG, _⟩ := hs.get j hi
  have := hG.2.2.1 w rfl rfl
  simp [execOp, ha.ev hm, this]
theorem X.unfR {z : Exit} (j : Nat) (hi : Rs[j]? = some (NxtK B P b r E k cs u)) (h : X n F0 w0 e (Rs.set j B) z Q) : X n F0 w0 e Rs z Q := fun a w ha hs => h a w ha (hs.weaken j hi (fun G hG => hG.1))
theorem TL.unfR (j : Nat) (hi : Rs[j]? = some (NxtK B P b r E k cs u)) (h : TL P n F0 w0 ops lr e (Rs.set j B) Q) : TL P n F0 w0 ops lr e Rs Q := fun a w ha hs => h a w ha (hs.weaken j hi (fun G hG => hG.1))
theorem T.unfR (j : Nat) (hi : Rs[j]? = some (NxtK B P b r E k cs u)) (h : T P n F0 w0 e (Rs.set j B) c Q) : T P n F0 w0 e Rs c Q := fun a w ha hs => h a w ha (hs.weaken j hi (fun G hG => hG.1))
end
end Go.Proofs.Ytlhgogjcaegehaa.Sl
namespace Go.Proofs.Ytlhgogjcaegehaa.Sl
open Go.RowKit
set_option linter.unusedVariables false
set_option linter.unusedSimpArgs false
set_option maxRecDepth 100000
def ft_version : FTab := [(103, 0, 0), (103, 1, 1)]
theorem ft_version_ok : (ft_version).OK Try.prog := ⟨FOK.mk Try.runUnderlying103 rfl Try.sizeOf3 rfl, FOK.mk Try.runUnderlying103 rfl Try.sizeOf9 rfl, trivial⟩
def nt_version : List Nat := [3, 9]
theorem nt_version_ok : NOK Try.prog nt_version := ⟨Try.isAgg3, Try.isAgg9, trivial⟩
theorem bok_version_103 : BOK Try.prog 103 #[.int .i64 0, .string ⟨#[]⟩, .int .i64 0, .int .i64 0] [(0, 1), (1, 1), (2, 1), (3, 1)] := BOK.mk Try.zeroValue103 Try.runUnderlying103 (by intro w; simp)
theorem bok_version_123 : BOK Try.prog 123 #[.int .i64 0, .string ⟨#[]⟩, .int .i64 0, .int .i64 0, .int .i64 0, .string ⟨#[]⟩, .int .i64 0, .int .i64 0, .int .i64 0, .string ⟨#[]⟩, .int .i64 0, .int .i64 0, .int .i64 0, .string ⟨#[]⟩, .int .i64 0, .int .i64 0, .int .i64 0, .string ⟨#[]⟩, .int .i64 0, .int .i64 0] [(0, 4), (4, 4), (8, 4), (12, 4), (16, 4)] := BOK.mkA Try.zeroValue123 Try.runUnderlying123 Try.sizeOf103 (by decide)
def f_version_table  : Option (VersionRow × VersionRow × VersionRow × VersionRow × VersionRow) := some ((⟨0, [112, 114, 111, 100, 117, 99, 101], 3, 4⟩ : VersionRow), (⟨22, [98, 101, 103, 105, 110], 0, 1⟩ : VersionRow), (⟨24, [97, 100, 100], 0, 0⟩ : VersionRow), (⟨26, [101, 110, 100], 0, 0⟩ : VersionRow), (⟨27, [109, 97, 114, 107], 0, 1⟩ : VersionRow))
set_option maxRecDepth 100000 in
set_option maxHeartbeats 4000000 in
theorem f_version_table_spec  (r : VersionRow × VersionRow × VersionRow × VersionRow × VersionRow) (h : f_version_table  = some r) : SpecX Try.prog 70 #[] .triv (EmpR) (fun v A' N => v = .agg #[.int .i64 r.1.fkind, .string (bsOf r.1.fname), .int .i64 r.1.fleast, .int .i64 r.1.fmost, .int .i64 r.2.1.fkind, .string (bsOf r.2.1.fname), .int .i64 r.2.1.fleast, .int .i64 r.2.1.fmost, .int .i64 r.2.2.1.fkind, .string (bsOf r.2.2.1.fname), .int .i64 r.2.2.1.fleast, .int .i64 r.2.2.1.fmost, .int .i64 r.2.2.2.1.fkind, .string (bsOf r.2.2.2.1.fname), .int .i64 r.2.2.2.1.fleast, .int .i64 r.2.2.2.1.fmost, .int .i64 r.2.2.2.2.fkind, .string (bsOf r.2.2.2.2.fname), .int .i64 r.2.2.2.2.fleast, .int .i64 r.2.2.2.2.fmost] ∧ A' = EmpR ∧ N = []) := by
  refine enterA Try.func70 rfl Try.ntmps70 rfl ?_
  intro F w hX
  unfold f_version_table at h
  refine T.seq (T.region rfl ?_)
  refine TL.alloc rfl .u Try.zeroValue123 rfl (fun b1 => ?_)
  refine TL.nil (X.seq (T.seq (T.region rfl ?_)))
  refine TL.q rfl .u (Ex.bld (cells := #[.int .i64 0, .string ⟨#[112, 114, 111, 100, 117, 99, 101]⟩, .int .i64 3, .int .i64 4]) bok_version_103 rfl (by kernel_rfl)) rfl ?_
  refine TL.q rfl .u (Ex.bld (cells := #[.int .i64 22, .string ⟨#[98, 101, 103, 105, 110]⟩, .int .i64 0, .int .i64 1]) bok_version_103 rfl (by kernel_rfl)) rfl ?_
  refine TL.q rfl .u (Ex.bld (cells := #[.int .i64 24, .string ⟨#[97, 100, 100]⟩, .int .i64 0, .int .i64 0]) bok_version_103 rfl (by kernel_rfl)) rfl ?_
  refine TL.q rfl .u (Ex.bld (cells := #[.int .i64 26, .string ⟨#[101, 110, 100]⟩, .int .i64 0, .int .i64 0]) bok_version_103 rfl (by kernel_rfl)) rfl ?_
  refine TL.q rfl .u (Ex.bld (cells := #[.int .i64 27, .string ⟨#[109, 97, 114, 107]⟩, .int .i64 0, .int .i64 1]) bok_version_103 rfl (by kernel_rfl)) rfl ?_
  refine TL.q rfl .u (Ex.bld (cells := #[.int .i64 0, .string ⟨#[112, 114, 111, 100, 117, 99, 101]⟩, .int .i64 3, .int .i64 4, .int .i64 22, .string ⟨#[98, 101, 103, 105, 110]⟩, .int .i64 0, .int .i64 1, .int .i64 24, .string ⟨#[97, 100, 100]⟩, .int .i64 0, .int .i64 0, .int .i64 26, .string ⟨#[101, 110, 100]⟩, .int .i64 0, .int .i64 0, .int .i64 27, .string ⟨#[109, 97, 114, 107]⟩, .int .i64 0, .int .i64 1]) bok_version_123 rfl (by kernel_rfl)) rfl ?_
  refine TL.st0 (cs' := #[.int .i64 0, .string ⟨#[112, 114, 111, 100, 117, 99, 101]⟩, .int .i64 3, .int .i64 4, .int .i64 22, .string ⟨#[98, 101, 103, 105, 110]⟩, .int .i64 0, .int .i64 1, .int .i64 24, .string ⟨#[97, 100, 100]⟩, .int .i64 0, .int .i64 0, .int .i64 26, .string ⟨#[101, 110, 100]⟩, .int .i64 0, .int .i64 0, .int .i64 27, .string ⟨#[109, 97, 114, 107]⟩, .int .i64 0, .int .i64 1]) rfl .u rfl rfl Try.sizeOf123 rfl rfl rfl rfl ?_
  obtain rfl := Option.some.inj h
  exact TL.nil (X.seq (T.ret (X.done1 [1] Try.results70 (RV.cS (us := #[.int .i64 0, .string ⟨#[112, 114, 111, 100, 117, 99, 101]⟩, .int .i64 3, .int .i64 4, .int .i64 22, .string ⟨#[98, 101, 103, 105, 110]⟩, .int .i64 0, .int .i64 1, .int .i64 24, .string ⟨#[97, 100, 100]⟩, .int .i64 0, .int .i64 0, .int .i64 26, .string ⟨#[101, 110, 100]⟩, .int .i64 0, .int .i64 0, .int .i64 27, .string ⟨#[109, 97, 114, 107]⟩, .int .i64 0, .int .i64 1]) 0 rfl Try.isAgg123 Try.sizeOf123 rfl rfl) ⟨rfl, rfl, rfl⟩ (by rfl) (.inl rfl))))
def f_version_find_l1 (a0 : Int) (x2 : VersionRow × VersionRow × VersionRow × VersionRow × VersionRow) : Nat → Bool → Nat → Option (Lp (VersionRow × Bool) (Bool × Nat))
  | 0, _, _ => none
  | m9 + 1, y4, k5 => if (k5 : Int) < 5 then (if (k5 : Int) = 0 then (if x2.1.fkind = a0 then (some (Lp.ret ((⟨x2.1.fkind, x2.1.fname, x2.1.fleast, x2.1.fmost⟩ : VersionRow), true))) else (if -9223372036854775808 ≤ ((k5 : Int) + 1) ∧ ((k5 : Int) + 1) ≤ 9223372036854775807 then (f_version_find_l1 a0 x2 m9 y4 (k5 + 1)) else none)) else (if (k5 : Int) = 1 then (if x2.2.1.fkind = a0 then (some (Lp.ret ((⟨x2.2.1.fkind, x2.2.1.fname, x2.2.1.fleast, x2.2.1.fmost⟩ : VersionRow), true))) else (if -9223372036854775808 ≤ ((k5 : Int) + 1) ∧ ((k5 : Int) + 1) ≤ 9223372036854775807 then (f_version_find_l1 a0 x2 m9 y4 (k5 + 1)) else none)) else (if (k5 : Int) = 2 then (if x2.2.2.1.fkind = a0 then (some (Lp.ret ((⟨x2.2.2.1.fkind, x2.2.2.1.fname, x2.2.2.1.fleast, x2.2.2.1.fmost⟩ : VersionRow), true))) else (if -9223372036854775808 ≤ ((k5 : Int) + 1) ∧ ((k5 : Int) + 1) ≤ 9223372036854775807 then (f_version_find_l1 a0 x2 m9 y4 (k5 + 1)) else none)) else (if (k5 : Int) = 3 then (if x2.2.2.2.1.fkind = a0 then (some (Lp.ret ((⟨x2.2.2.2.1.fkind, x2.2.2.2.1.fname, x2.2.2.2.1.fleast, x2.2.2.2.1.fmost⟩ : VersionRow), true))) else (if -9223372036854775808 ≤ ((k5 : Int) + 1) ∧ ((k5 : Int) + 1) ≤ 9223372036854775807 then (f_version_find_l1 a0 x2 m9 y4 (k5 + 1)) else none)) else (if (k5 : Int) = 4 then (if x2.2.2.2.2.fkind = a0 then (some (Lp.ret ((⟨x2.2.2.2.2.fkind, x2.2.2.2.2.fname, x2.2.2.2.2.fleast, x2.2.2.2.2.fmost⟩ : VersionRow), true))) else (if -9223372036854775808 ≤ ((k5 : Int) + 1) ∧ ((k5 : Int) + 1) ≤ 9223372036854775807 then (f_version_find_l1 a0 x2 m9 y4 (k5 + 1)) else none)) else none))))) else (some (Lp.go (y4, k5)))
def f_version_find (a0 : Int) : Option (VersionRow × Bool) := (f_version_table).bind fun x2 => (f_version_find_l1 a0 x2 ((5 : Int).toNat + 1) false 0).bind fun e => match e with | .ret r => some r | .go (y34, k35) => (some ((⟨0, [], 0, 0⟩ : VersionRow), false))
set_option maxRecDepth 100000 in
set_option maxHeartbeats 4000000 in
theorem f_version_find_spec (a0 : Int) (r : VersionRow × Bool) (h : f_version_find a0 = some r) : SpecX Try.prog 49 #[.int .i64 a0] .triv (EmpR) (fun v A' N => v = .tuple #[.agg #[.int .i64 r.1.fkind, .string (bsOf r.1.fname), .int .i64 r.1.fleast, .int .i64 r.1.fmost], .bool r.2] ∧ A' = EmpR ∧ N = []) := by
  refine enterA Try.func49 rfl Try.ntmps49 rfl ?_
  intro F w hX
  unfold f_version_find at h
  refine T.seq (T.region rfl ?_)
  refine TL.alloc rfl .u Try.zeroValue103 rfl (fun b1 => ?_)
  refine TL.run ft_version_ok [1] rfl rfl ?_
  obtain ⟨x2, hx3, h⟩ := Option.bind_eq_some_iff.1 h
  refine TL.nil (X.seq (T.seq (T.seq (T.region rfl ?_))))
  refine TL.ce rfl .u (.fn Try.call70 rfl) (f_version_table_spec _ hx3) (fun _ hs => (RX.reads_triv _ _)) rfl ?_
  refine TL.run ft_version_ok [1] rfl rfl ?_
  refine TL.nil (X.seq (T.block ?_))
  obtain ⟨E6, hE7, hO8⟩ := Option.bind_eq_some_iff.1 h
  refine T.lp (fun m e Rs => ∃ (y4 : Bool) (k5 : Nat), e = [(0, .int .i64 a0), (2, .pointer (some ⟨b1, 0, none⟩)), (3, .bool y4), (6, .agg #[.int .i64 x2.1.fkind, .string (bsOf x2.1.fname), .int .i64 x2.1.fleast, .int .i64 x2.1.fmost, .int .i64 x2.2.1.fkind, .string (bsOf x2.2.1.fname), .int .i64 x2.2.1.fleast, .int .i64 x2.2.1.fmost, .int .i64 x2.2.2.1.fkind, .string (bsOf x2.2.2.1.fname), .int .i64 x2.2.2.1.fleast, .int .i64 x2.2.2.1.fmost, .int .i64 x2.2.2.2.1.fkind, .string (bsOf x2.2.2.2.1.fname), .int .i64 x2.2.2.2.1.fleast, .int .i64 x2.2.2.2.1.fmost, .int .i64 x2.2.2.2.2.fkind, .string (bsOf x2.2.2.2.2.fname), .int .i64 x2.2.2.2.2.fleast, .int .i64 x2.2.2.2.2.fmost]), (7, .int .i64 (k5 : Int))] ∧ Rs = [BlkR b1 103 #[.int .i64 0, .string ⟨#[]⟩, .int .i64 0, .int .i64 0], EmpR] ∧ f_version_find_l1 a0 x2 m y4 k5 = some E6) ((5 : Int).toNat + 1) [0, 0] ⟨false, 0, rfl, rfl, by exact hE7⟩ (by rfl) (by rfl) ?_
  rintro m9 _ _ ⟨y4, k5, rfl, rfl, hl11⟩
  clear hE7 h
  cases m9 with
  | zero =>
    rw [f_version_find_l1] at hl11
    cases hl11
  | succ m9 =>
    have h := hl11
    clear hl11
    rw [f_version_find_l1] at h
    refine T.seq (T.region rfl ?_)
    refine TL.run ft_version_ok [0] rfl rfl ?_
    by_cases c13 : (k5 : Int) < 5
    · replace h := ifT c13 h
      refine TL.nil (X.seq (T.seq ?_))
      refine T.yes rfl (decide_eq_true c13) ?_
      by_cases c14 : (k5 : Int) = 0
      · replace h := ifT c14 h
        refine T.skip (X.seq (T.seq (T.block (T.seq (T.region rfl ?_)))))
        refine TL.q rfl .u (Ex.ixAS (cs := [.int .i64 x2.1.fkind, .string (bsOf x2.1.fname), .int .i64 x2.1.fleast, .int .i64 x2.1.fmost, .int .i64 x2.2.1.fkind, .string (bsOf x2.2.1.fname), .int .i64 x2.2.1.fleast, .int .i64 x2.2.1.fmost, .int .i64 x2.2.2.1.fkind, .string (bsOf x2.2.2.1.fname), .int .i64 x2.2.2.1.fleast, .int .i64 x2.2.2.1.fmost, .int .i64 x2.2.2.2.1.fkind, .string (bsOf x2.2.2.2.1.fname), .int .i64 x2.2.2.2.1.fleast, .int .i64 x2.2.2.2.1.fmost, .int .i64 x2.2.2.2.2.fkind, .string (bsOf x2.2.2.2.2.fname), .int .i64 x2.2.2.2.2.fleast, .int .i64 x2.2.2.2.2.fmost]) (us := [.int .i64 x2.1.fkind, .string (bsOf x2.1.fname), .int .i64 x2.1.fleast, .int .i64 x2.1.fmost]) (k := 0) rfl rfl c14 Try.runUnderlying123 Try.sizeOf103 Try.isAgg103 (by decide) rfl) rfl ?_
        refine TL.alloc rfl .u Try.zeroValue103 rfl (fun b15 => ?_)
        refine TL.st0 (cs' := #[.int .i64 x2.1.fkind, .string (bsOf x2.1.fname), .int .i64 x2.1.fleast, .int .i64 x2.1.fmost]) rfl .u rfl rfl Try.sizeOf103 rfl rfl rfl rfl ?_
        refine TL.nil (X.seq (T.seq (T.region rfl ?_)))
        refine TL.rb ft_version_ok nt_version_ok 0 rfl 4 rfl rfl ?_
        by_cases c16 : x2.1.fkind = a0
        · replace h := ifT c16 h
          refine TL.nil (X.seq ?_)
          refine T.yes rfl (decide_eq_true c16) ?_
          refine T.seq (T.region rfl ?_)
          refine TL.q rfl .u (Ex.bS (us := [.int .i64 x2.1.fkind, .string (bsOf x2.1.fname), .int .i64 x2.1.fleast, .int .i64 x2.1.fmost]) 0 rfl Try.isAgg103 Try.sizeOf103 rfl rfl rfl) rfl ?_
          refine TL.st1 (cs' := #[.int .i64 x2.1.fkind, .string (bsOf x2.1.fname), .int .i64 x2.1.fleast, .int .i64 x2.1.fmost]) rfl .u rfl rfl Try.sizeOf103 rfl rfl rfl rfl ?_
          refine TL.run ft_version_ok [2] rfl rfl ?_
          obtain rfl := Option.some.inj h
          replace h := hO8
          clear hO8
          try dsimp only at h
          obtain rfl := Option.some.inj h
          exact TL.nil (X.seq (T.ret (X.rb (X.rs (X.rs (X.rb (X.rs (X.done2 [2] Try.results49 (RV.cS (us := #[.int .i64 x2.1.fkind, .string (bsOf x2.1.fname), .int .i64 x2.1.fleast, .int .i64 x2.1.fmost]) 1 rfl Try.isAgg103 Try.sizeOf103 rfl rfl) (RV.tm rfl) ⟨rfl, rfl, rfl⟩ (by rfl) (.inl rfl)))))))))
        · replace h := ifF c16 h
          refine TL.nil (X.seq ?_)
          refine T.no rfl (decide_eq_false c16) ?_
          replace h := guard_some h
          obtain ⟨c17, h⟩ := h
          refine T.skip (X.blk (X.seq (T.region rfl ?_)))
          refine TL.q rfl .u (Ex.add rfl rfl c17) rfl ?_
          refine TL.run ft_version_ok [1] rfl rfl ?_
          exact TL.nil (X.back (m' := m9) [1, 1] (by omega) ⟨y4, k5 + 1, rfl, rfl, h⟩ (by rfl) (by rfl))
      · replace h := ifF c14 h
        by_cases c18 : (k5 : Int) = 1
        · replace h := ifT c18 h
          refine T.skip (X.seq (T.seq (T.block (T.seq (T.region rfl ?_)))))
          refine TL.q rfl .u (Ex.ixAS (cs := [.int .i64 x2.1.fkind, .string (bsOf x2.1.fname), .int .i64 x2.1.fleast, .int .i64 x2.1.fmost, .int .i64 x2.2.1.fkind, .string (bsOf x2.2.1.fname), .int .i64 x2.2.1.fleast, .int .i64 x2.2.1.fmost, .int .i64 x2.2.2.1.fkind, .string (bsOf x2.2.2.1.fname), .int .i64 x2.2.2.1.fleast, .int .i64 x2.2.2.1.fmost, .int .i64 x2.2.2.2.1.fkind, .string (bsOf x2.2.2.2.1.fname), .int .i64 x2.2.2.2.1.fleast, .int .i64 x2.2.2.2.1.fmost, .int .i64 x2.2.2.2.2.fkind, .string (bsOf x2.2.2.2.2.fname), .int .i64 x2.2.2.2.2.fleast, .int .i64 x2.2.2.2.2.fmost]) (us := [.int .i64 x2.2.1.fkind, .string (bsOf x2.2.1.fname), .int .i64 x2.2.1.fleast, .int .i64 x2.2.1.fmost]) (k := 1) rfl rfl c18 Try.runUnderlying123 Try.sizeOf103 Try.isAgg103 (by decide) rfl) rfl ?_
          refine TL.alloc rfl .u Try.zeroValue103 rfl (fun b19 => ?_)
          refine TL.st0 (cs' := #[.int .i64 x2.2.1.fkind, .string (bsOf x2.2.1.fname), .int .i64 x2.2.1.fleast, .int .i64 x2.2.1.fmost]) rfl .u rfl rfl Try.sizeOf103 rfl rfl rfl rfl ?_
          refine TL.nil (X.seq (T.seq (T.region rfl ?_)))
          refine TL.rb ft_version_ok nt_version_ok 0 rfl 4 rfl rfl ?_
          by_cases c20 : x2.2.1.fkind = a0
          · replace h := ifT c20 h
            refine TL.nil (X.seq ?_)
            refine T.yes rfl (decide_eq_true c20) ?_
            refine T.seq (T.region rfl ?_)
            refine TL.q rfl .u (Ex.bS (us := [.int .i64 x2.2.1.fkind, .string (bsOf x2.2.1.fname), .int .i64 x2.2.1.fleast, .int .i64 x2.2.1.fmost]) 0 rfl Try.isAgg103 Try.sizeOf103 rfl rfl rfl) rfl ?_
            refine TL.st1 (cs' := #[.int .i64 x2.2.1.fkind, .string (bsOf x2.2.1.fname), .int .i64 x2.2.1.fleast, .int .i64 x2.2.1.fmost]) rfl .u rfl rfl Try.sizeOf103 rfl rfl rfl rfl ?_
            refine TL.run ft_version_ok [2] rfl rfl ?_
            obtain rfl := Option.some.inj h
            replace h := hO8
            clear hO8
            try dsimp only at h
            obtain rfl := Option.some.inj h
            exact TL.nil (X.seq (T.ret (X.rb (X.rs (X.rs (X.rb (X.rs (X.done2 [2] Try.results49 (RV.cS (us := #[.int .i64 x2.2.1.fkind, .string (bsOf x2.2.1.fname), .int .i64 x2.2.1.fleast, .int .i64 x2.2.1.fmost]) 1 rfl Try.isAgg103 Try.sizeOf103 rfl rfl) (RV.tm rfl) ⟨rfl, rfl, rfl⟩ (by rfl) (.inl rfl)))))))))
          · replace h := ifF c20 h
            refine TL.nil (X.seq ?_)
            refine T.no rfl (decide_eq_false c20) ?_
            replace h := guard_some h
            obtain ⟨c21, h⟩ := h
            refine T.skip (X.blk (X.seq (T.region rfl ?_)))
            refine TL.q rfl .u (Ex.add rfl rfl c21) rfl ?_
            refine TL.run ft_version_ok [1] rfl rfl ?_
            exact TL.nil (X.back (m' := m9) [1, 1] (by omega) ⟨y4, k5 + 1, rfl, rfl, h⟩ (by rfl) (by rfl))
        · replace h := ifF c18 h
          by_cases c22 : (k5 : Int) = 2
          · replace h := ifT c22 h
            refine T.skip (X.seq (T.seq (T.block (T.seq (T.region rfl ?_)))))
            refine TL.q rfl .u (Ex.ixAS (cs := [.int .i64 x2.1.fkind, .string (bsOf x2.1.fname), .int .i64 x2.1.fleast, .int .i64 x2.1.fmost, .int .i64 x2.2.1.fkind, .string (bsOf x2.2.1.fname), .int .i64 x2.2.1.fleast, .int .i64 x2.2.1.fmost, .int .i64 x2.2.2.1.fkind, .string (bsOf x2.2.2.1.fname), .int .i64 x2.2.2.1.fleast, .int .i64 x2.2.2.1.fmost, .int .i64 x2.2.2.2.1.fkind, .string (bsOf x2.2.2.2.1.fname), .int .i64 x2.2.2.2.1.fleast, .int .i64 x2.2.2.2.1.fmost, .int .i64 x2.2.2.2.2.fkind, .string (bsOf x2.2.2.2.2.fname), .int .i64 x2.2.2.2.2.fleast, .int .i64 x2.2.2.2.2.fmost]) (us := [.int .i64 x2.2.2.1.fkind, .string (bsOf x2.2.2.1.fname), .int .i64 x2.2.2.1.fleast, .int .i64 x2.2.2.1.fmost]) (k := 2) rfl rfl c22 Try.runUnderlying123 Try.sizeOf103 Try.isAgg103 (by decide) rfl) rfl ?_
            refine TL.alloc rfl .u Try.zeroValue103 rfl (fun b23 => ?_)
            refine TL.st0 (cs' := #[.int .i64 x2.2.2.1.fkind, .string (bsOf x2.2.2.1.fname), .int .i64 x2.2.2.1.fleast, .int .i64 x2.2.2.1.fmost]) rfl .u rfl rfl Try.sizeOf103 rfl rfl rfl rfl ?_
            refine TL.nil (X.seq (T.seq (T.region rfl ?_)))
            refine TL.rb ft_version_ok nt_version_ok 0 rfl 4 rfl rfl ?_
            by_cases c24 : x2.2.2.1.fkind = a0
            · replace h := ifT c24 h
              refine TL.nil (X.seq ?_)
              refine T.yes rfl (decide_eq_true c24) ?_
              refine T.seq (T.region rfl ?_)
              refine TL.q rfl .u (Ex.bS (us := [.int .i64 x2.2.2.1.fkind, .string (bsOf x2.2.2.1.fname), .int .i64 x2.2.2.1.fleast, .int .i64 x2.2.2.1.fmost]) 0 rfl Try.isAgg103 Try.sizeOf103 rfl rfl rfl) rfl ?_
              refine TL.st1 (cs' := #[.int .i64 x2.2.2.1.fkind, .string (bsOf x2.2.2.1.fname), .int .i64 x2.2.2.1.fleast, .int .i64 x2.2.2.1.fmost]) rfl .u rfl rfl Try.sizeOf103 rfl rfl rfl rfl ?_
              refine TL.run ft_version_ok [2] rfl rfl ?_
              obtain rfl := Option.some.inj h
              replace h := hO8
              clear hO8
              try dsimp only at h
              obtain rfl := Option.some.inj h
              exact TL.nil (X.seq (T.ret (X.rb (X.rs (X.rs (X.rb (X.rs (X.done2 [2] Try.results49 (RV.cS (us := #[.int .i64 x2.2.2.1.fkind, .string (bsOf x2.2.2.1.fname), .int .i64 x2.2.2.1.fleast, .int .i64 x2.2.2.1.fmost]) 1 rfl Try.isAgg103 Try.sizeOf103 rfl rfl) (RV.tm rfl) ⟨rfl, rfl, rfl⟩ (by rfl) (.inl rfl)))))))))
            · replace h := ifF c24 h
              refine TL.nil (X.seq ?_)
              refine T.no rfl (decide_eq_false c24) ?_
              replace h := guard_some h
              obtain ⟨c25, h⟩ := h
              refine T.skip (X.blk (X.seq (T.region rfl ?_)))
              refine TL.q rfl .u (Ex.add rfl rfl c25) rfl ?_
              refine TL.run ft_version_ok [1] rfl rfl ?_
              exact TL.nil (X.back (m' := m9) [1, 1] (by omega) ⟨y4, k5 + 1, rfl, rfl, h⟩ (by rfl) (by rfl))
          · replace h := ifF c22 h
            by_cases c26 : (k5 : Int) = 3
            · replace h := ifT c26 h
              refine T.skip (X.seq (T.seq (T.block (T.seq (T.region rfl ?_)))))
              refine TL.q rfl .u (Ex.ixAS (cs := [.int .i64 x2.1.fkind, .string (bsOf x2.1.fname), .int .i64 x2.1.fleast, .int .i64 x2.1.fmost, .int .i64 x2.2.1.fkind, .string (bsOf x2.2.1.fname), .int .i64 x2.2.1.fleast, .int .i64 x2.2.1.fmost, .int .i64 x2.2.2.1.fkind, .string (bsOf x2.2.2.1.fname), .int .i64 x2.2.2.1.fleast, .int .i64 x2.2.2.1.fmost, .int .i64 x2.2.2.2.1.fkind, .string (bsOf x2.2.2.2.1.fname), .int .i64 x2.2.2.2.1.fleast, .int .i64 x2.2.2.2.1.fmost, .int .i64 x2.2.2.2.2.fkind, .string (bsOf x2.2.2.2.2.fname), .int .i64 x2.2.2.2.2.fleast, .int .i64 x2.2.2.2.2.fmost]) (us := [.int .i64 x2.2.2.2.1.fkind, .string (bsOf x2.2.2.2.1.fname), .int .i64 x2.2.2.2.1.fleast, .int .i64 x2.2.2.2.1.fmost]) (k := 3) rfl rfl c26 Try.runUnderlying123 Try.sizeOf103 Try.isAgg103 (by decide) rfl) rfl ?_
              refine TL.alloc rfl .u Try.zeroValue103 rfl (fun b27 => ?_)
              refine TL.st0 (cs' := #[.int .i64 x2.2.2.2.1.fkind, .string (bsOf x2.2.2.2.1.fname), .int .i64 x2.2.2.2.1.fleast, .int .i64 x2.2.2.2.1.fmost]) rfl .u rfl rfl Try.sizeOf103 rfl rfl rfl rfl ?_
              refine TL.nil (X.seq (T.seq (T.region rfl ?_)))
              refine TL.rb ft_version_ok nt_version_ok 0 rfl 4 rfl rfl ?_
              by_cases c28 : x2.2.2.2.1.fkind = a0
              · replace h := ifT c28 h
                refine TL.nil (X.seq ?_)
                refine T.yes rfl (decide_eq_true c28) ?_
                refine T.seq (T.region rfl ?_)
                refine TL.q rfl .u (Ex.bS (us := [.int .i64 x2.2.2.2.1.fkind, .string (bsOf x2.2.2.2.1.fname), .int .i64 x2.2.2.2.1.fleast, .int .i64 x2.2.2.2.1.fmost]) 0 rfl Try.isAgg103 Try.sizeOf103 rfl rfl rfl) rfl ?_
                refine TL.st1 (cs' := #[.int .i64 x2.2.2.2.1.fkind, .string (bsOf x2.2.2.2.1.fname), .int .i64 x2.2.2.2.1.fleast, .int .i64 x2.2.2.2.1.fmost]) rfl .u rfl rfl Try.sizeOf103 rfl rfl rfl rfl ?_
                refine TL.run ft_version_ok [2] rfl rfl ?_
                obtain rfl := Option.some.inj h
                replace h := hO8
                clear hO8
                try dsimp only at h
                obtain rfl := Option.some.inj h
                exact TL.nil (X.seq (T.ret (X.rb (X.rs (X.rs (X.rb (X.rs (X.done2 [2] Try.results49 (RV.cS (us := #[.int .i64 x2.2.2.2.1.fkind, .string (bsOf x2.2.2.2.1.fname), .int .i64 x2.2.2.2.1.fleast, .int .i64 x2.2.2.2.1.fmost]) 1 rfl Try.isAgg103 Try.sizeOf103 rfl rfl) (RV.tm rfl) ⟨rfl, rfl, rfl⟩ (by rfl) (.inl rfl)))))))))
              · replace h := ifF c28 h
                refine TL.nil (X.seq ?_)
                refine T.no rfl (decide_eq_false c28) ?_
                replace h := guard_some h
                obtain ⟨c29, h⟩ := h
                refine T.skip (X.blk (X.seq (T.region rfl ?_)))
                refine TL.q rfl .u (Ex.add rfl rfl c29) rfl ?_
                refine TL.run ft_version_ok [1] rfl rfl ?_
                exact TL.nil (X.back (m' := m9) [1, 1] (by omega) ⟨y4, k5 + 1, rfl, rfl, h⟩ (by rfl) (by rfl))
            · replace h := ifF c26 h
              replace h := guard_some h
              obtain ⟨c30, h⟩ := h
              refine T.skip (X.seq (T.seq (T.block (T.seq (T.region rfl ?_)))))
              refine TL.q rfl .u (Ex.ixAS (cs := [.int .i64 x2.1.fkind, .string (bsOf x2.1.fname), .int .i64 x2.1.fleast, .int .i64 x2.1.fmost, .int .i64 x2.2.1.fkind, .string (bsOf x2.2.1.fname), .int .i64 x2.2.1.fleast, .int .i64 x2.2.1.fmost, .int .i64 x2.2.2.1.fkind, .string (bsOf x2.2.2.1.fname), .int .i64 x2.2.2.1.fleast, .int .i64 x2.2.2.1.fmost, .int .i64 x2.2.2.2.1.fkind, .string (bsOf x2.2.2.2.1.fname), .int .i64 x2.2.2.2.1.fleast, .int .i64 x2.2.2.2.1.fmost, .int .i64 x2.2.2.2.2.fkind, .string (bsOf x2.2.2.2.2.fname), .int .i64 x2.2.2.2.2.fleast, .int .i64 x2.2.2.2.2.fmost]) (us := [.int .i64 x2.2.2.2.2.fkind, .string (bsOf x2.2.2.2.2.fname), .int .i64 x2.2.2.2.2.fleast, .int .i64 x2.2.2.2.2.fmost]) (k := 4) rfl rfl c30 Try.runUnderlying123 Try.sizeOf103 Try.isAgg103 (by decide) rfl) rfl ?_
              refine TL.alloc rfl .u Try.zeroValue103 rfl (fun b31 => ?_)
              refine TL.st0 (cs' := #[.int .i64 x2.2.2.2.2.fkind, .string (bsOf x2.2.2.2.2.fname), .int .i64 x2.2.2.2.2.fleast, .int .i64 x2.2.2.2.2.fmost]) rfl .u rfl rfl Try.sizeOf103 rfl rfl rfl rfl ?_
              refine TL.nil (X.seq (T.seq (T.region rfl ?_)))
              refine TL.rb ft_version_ok nt_version_ok 0 rfl 4 rfl rfl ?_
              by_cases c32 : x2.2.2.2.2.fkind = a0
              · replace h := ifT c32 h
                refine TL.nil (X.seq ?_)
                refine T.yes rfl (decide_eq_true c32) ?_
                refine T.seq (T.region rfl ?_)
                refine TL.q rfl .u (Ex.bS (us := [.int .i64 x2.2.2.2.2.fkind, .string (bsOf x2.2.2.2.2.fname), .int .i64 x2.2.2.2.2.fleast, .int .i64 x2.2.2.2.2.fmost]) 0 rfl Try.isAgg103 Try.sizeOf103 rfl rfl rfl) rfl ?_
                refine TL.st1 (cs' := #[.int .i64 x2.2.2.2.2.fkind, .string (bsOf x2.2.2.2.2.fname), .int .i64 x2.2.2.2.2.fleast, .int .i64 x2.2.2.2.2.fmost]) rfl .u rfl rfl Try.sizeOf103 rfl rfl rfl rfl ?_
                refine TL.run ft_version_ok [2] rfl rfl ?_
                obtain rfl := Option.some.inj h
                replace h := hO8
                clear hO8
                try dsimp only at h
                obtain rfl := Option.some.inj h
                exact TL.nil (X.seq (T.ret (X.rb (X.rs (X.rs (X.rb (X.rs (X.done2 [2] Try.results49 (RV.cS (us := #[.int .i64 x2.2.2.2.2.fkind, .string (bsOf x2.2.2.2.2.fname), .int .i64 x2.2.2.2.2.fleast, .int .i64 x2.2.2.2.2.fmost]) 1 rfl Try.isAgg103 Try.sizeOf103 rfl rfl) (RV.tm rfl) ⟨rfl, rfl, rfl⟩ (by rfl) (.inl rfl)))))))))
              · replace h := ifF c32 h
                refine TL.nil (X.seq ?_)
                refine T.no rfl (decide_eq_false c32) ?_
                replace h := guard_some h
                obtain ⟨c33, h⟩ := h
                refine T.skip (X.blk (X.seq (T.region rfl ?_)))
                refine TL.q rfl .u (Ex.add rfl rfl c33) rfl ?_
                refine TL.run ft_version_ok [1] rfl rfl ?_
                exact TL.nil (X.back (m' := m9) [1, 1] (by omega) ⟨y4, k5 + 1, rfl, rfl, h⟩ (by rfl) (by rfl))
    · replace h := ifF c13 h
      refine TL.nil (X.seq (T.seq ?_))
      refine T.no rfl (decide_eq_false c13) ?_
      obtain rfl := Option.some.inj h
      replace h := hO8
      clear hO8
      try dsimp only at h
      refine T.exit (X.exs (X.exs (X.ex (X.seq (T.seq (T.region rfl ?_))))))
      refine TL.q rfl .u (Ex.bld (cells := #[.int .i64 0, .string ⟨#[]⟩, .int .i64 0, .int .i64 0]) bok_version_103 rfl (by kernel_rfl)) rfl ?_
      refine TL.st0 (cs' := #[.int .i64 0, .string ⟨#[]⟩, .int .i64 0, .int .i64 0]) rfl .u rfl rfl Try.sizeOf103 rfl rfl rfl rfl ?_
      refine TL.run ft_version_ok [2] rfl rfl ?_
      obtain rfl := Option.some.inj h
      exact TL.nil (X.seq (T.ret (X.done2 [1] Try.results49 (RV.cS (us := #[.int .i64 0, .string ⟨#[]⟩, .int .i64 0, .int .i64 0]) 0 rfl Try.isAgg103 Try.sizeOf103 rfl rfl) (RV.tm rfl) ⟨rfl, rfl, rfl⟩ (by rfl) (.inl rfl))))
def f_version_Name (a0 : Int) : Option (List UInt8) := (f_version_find a0).bind fun (x1, x2) => some x1.fname
set_option maxRecDepth 100000 in
set_option maxHeartbeats 4000000 in
theorem f_version_Name_spec (a0 : Int) (r : List UInt8) (h : f_version_Name a0 = some r) : SpecX Try.prog 25 #[.int .i64 a0] .triv (EmpR) (fun v A' N => v = .string (bsOf r) ∧ A' = EmpR ∧ N = []) := by
  refine enterA Try.func25 rfl Try.ntmps25 rfl ?_
  intro F w hX
  unfold f_version_Name at h
  refine T.seq (T.region rfl ?_)
  refine TL.run ft_version_ok [0] rfl rfl ?_
  refine TL.nil (X.seq (T.seq (T.region rfl ?_)))
  obtain ⟨⟨x1, x2⟩, hx3, h⟩ := Option.bind_eq_some_iff.1 h
  try dsimp only at h
  refine TL.run ft_version_ok [0] rfl rfl ?_
  refine TL.ce rfl .u (.fn Try.call49 rfl) (f_version_find_spec a0 _ hx3) (fun _ hs => (RX.reads_triv _ _)) rfl ?_
  refine TL.run ft_version_ok [2, 3, 4] rfl rfl ?_
  refine TL.alloc rfl .u Try.zeroValue103 rfl (fun b4 => ?_)
  refine TL.st0 (cs' := #[.int .i64 x1.fkind, .string (bsOf x1.fname), .int .i64 x1.fleast, .int .i64 x1.fmost]) rfl .u rfl rfl Try.sizeOf103 rfl rfl rfl rfl ?_
  refine TL.run ft_version_ok [7] rfl rfl ?_
  refine TL.nil (X.seq (T.seq (T.region rfl ?_)))
  refine TL.rb ft_version_ok nt_version_ok 0 rfl 3 rfl rfl ?_
  obtain rfl := Option.some.inj h
  exact TL.nil (X.seq (T.ret (X.done1 [1] Try.results25 (RV.tm rfl) ⟨rfl, rfl, rfl⟩ (by rfl) (.inl rfl))))
end Go.Proofs.Ytlhgogjcaegehaa.Sl
namespace Go.Proofs.Ytlhgogjcaegehaa.Sl
open Go.RowKit
set_option linter.unusedVariables false
set_option linter.unusedSimpArgs false
set_option maxRecDepth 100000
def ft_cursitortop : FTab := [(24, 4, 4), (65, 0, 0), (65, 1, 1), (65, 2, 2)]
theorem ft_cursitortop_ok : (ft_cursitortop).OK Try.prog := ⟨FOK.mk Try.runUnderlying24 rfl Try.sizeOf22 rfl, FOK.mk Try.runUnderlying65 rfl Try.sizeOf9 rfl, FOK.mk Try.runUnderlying65 rfl Try.sizeOf4 rfl, FOK.mk Try.runUnderlying65 rfl Try.sizeOf24 rfl, trivial⟩
def nt_cursitortop : List Nat := [4, 9, 22]
theorem nt_cursitortop_ok : NOK Try.prog nt_cursitortop := ⟨Try.isAgg4, Try.isAgg9, Try.isAgg22, trivial⟩
def f_top_WholeLog_l1 : List CursitortopChange → Bool → (List (List UInt8 × CursitortopChange)) → JournalJournal → JournalJournal → Option (Lp Bool (Bool × (List (List UInt8 × CursitortopChange)) × JournalJournal × JournalJournal))
  | [], y14, st16, st17, st18 => some (Lp.go (y14, st16, st17, st18))
  | x23 :: xs, y14, st16, st17, st18 => if (x23.fID.length : Int) > 500 then some (Lp.ret true) else ((f_l14_Few x23.fV.fTopics).bind fun x32 => if x32 = 0 then some (Lp.ret true) else ((f_journal_Put x23.fID x23.fV).bind fun (x35, x36) => if x23.fDrop = true then ((f_journal_Drop x23.fID).bind fun (x40, x41) => if x41 = 0 then ((f_journal_JournalApply st18 x40).bind fun (x44, st45) => if x44 = 0 then ((f_journal_JournalApply st17 x40).bind fun (x48, st49) => if x48 = 0 then ((f_journal_JournalApply st49 x40).bind fun (x52, st53) => if x52 = 0 then (if st16.length + 1 ≤ 140737488355328 ∧ x23.fID.length ≤ 140737488355328 then (f_top_WholeLog_l1 xs y14 (mput x23.fID x23 st16) st53 st45) else none) else none) else none) else none) else (f_top_WholeLog_l1 xs y14 st16 st17 st18)) else (if x36 = 0 then ((f_journal_JournalApply st18 x35).bind fun (x58, st59) => if x58 = 0 then ((f_journal_JournalApply st17 x35).bind fun (x62, st63) => if x62 = 0 then ((f_journal_JournalApply st63 x35).bind fun (x66, st67) => if x66 = 0 then (if st16.length + 1 ≤ 140737488355328 ∧ x23.fID.length ≤ 140737488355328 then (f_top_WholeLog_l1 xs y14 (mput x23.fID x23 st16) st67 st59) else none) else none) else none) else none) else (f_top_WholeLog_l1 xs y14 st16 st17 st18))))
def f_top_WholeLog_l2 : List JournalEntry → Bool → JournalJournal → Option (Lp Bool (Bool × JournalJournal))
  | [], y305, st307 => some (Lp.go (y305, st307))
  | x312 :: xs, y305, st307 => (f_journal_JournalApply st307 x312).bind fun (x317, st318) => if x317 = 0 then (f_top_WholeLog_l2 xs y305 st318) else none
def f_top_WholeLog_l3_b : List UInt8 × CursitortopChange → (Bool × Int × JournalJournal × JournalJournal × JournalJournal) → Option (Bool × Int × JournalJournal × JournalJournal × JournalJournal)
  | (k436, u437), (y422, y423, st424, st425, st426) => (f_journal_JournalGet st426 k436).bind fun (x446, x449, st450) => (f_journal_JournalGet st424 k436).bind fun (x453, x456, st457) => (f_journal_JournalGet st425 k436).bind fun (x460, x463, st464) => if (x449 == u437.fDrop) = true then none else (if (x449 == x456) = true then (if (x449 == x463) = true then (if x449 = true then ((f_r14_Same x446 u437.fV).bind fun x471 => if x471 = true then ((f_r14_Same x446 x453).bind fun x474 => if x474 = true then ((f_r14_Same x446 x460).bind fun x477 => if x477 = true then (if -9223372036854775808 ≤ (y423 + 1) ∧ (y423 + 1) ≤ 9223372036854775807 then (some (y422, (y423 + 1), st457, st464, st450)) else none) else none) else none) else none) else some (y422, y423, st457, st464, st450)) else none) else none)
def f_top_WholeLog_l3 : List (List UInt8 × CursitortopChange) → (Bool × Int × JournalJournal × JournalJournal × JournalJournal) → Option (Lp Bool (Bool × Int × JournalJournal × JournalJournal × JournalJournal))
  | [], s => some (Lp.go s)
  | x :: xs, s => (f_top_WholeLog_l3_b x s).bind (f_top_WholeLog_l3 xs)
theorem f_top_WholeLog_l3_c : ∀ x xs s, f_top_WholeLog_l3 (x :: xs) s = (f_top_WholeLog_l3_b x s).bind (f_top_WholeLog_l3 xs) := fun _ _ _ => rfl
noncomputable def f_top_WholeLog (a0 : List CursitortopChange) : Option (Bool) := (f_version_Name 26).bind fun x3 => if x3 = [101, 110, 100] then (if (a0.length : Int) > 30 then some true else ((f_journal_New).bind fun st7 => (f_journal_New).bind fun st10 => (f_top_WholeLog_l1 a0 false [] st10 st7).bind fun e => match e with | .ret r => some r | .go (y71, st73, st74, st75) => ((f_journal_New).bind fun st76 => (f_journal_JournalCompact st75).bind fun (x79, st82) => (f_top_WholeLog_l2 x79 y71 st76).bind fun e => match e with | .ret r => some r | .go (y100, st102) => ((anyOrd (fun l => f_top_WholeLog_l3 l (y100, 0, st102, st74, st82)) st73).bind fun e => match e with | .ret r => some r | .go (y163, y164, st165, st166, st167) => ((gJIDs st167).bind fun (x168, st171) => if (x168.length : Int) = y164 then ((gJIDs st165).bind fun (x174, st177) => if (x174.length : Int) = y164 then ((f_journal_JournalMany st177).bind fun (x180, st181) => if x180 = y164 then some true else none) else none) else none))))) else none
set_option maxRecDepth 100000 in
set_option maxHeartbeats 4000000 in
theorem f_top_WholeLog_spec (a0 : List CursitortopChange) (A1 : Option Addr) (c2 : Nat) (r : Bool) (h : f_top_WholeLog a0 = some r) : SpecX Try.prog 5 #[.slice A1 a0.length c2] (RX.of (sliceRd 9 CursitortopChange_rd) [.slice A1 a0.length c2] a0) (EmpR) (fun v A' N => v = .bool r ∧ A' = EmpR ∧ N = []) := by
  refine enterA Try.func5 rfl Try.ntmps5 rfl ?_
  intro F w hX
  obtain ⟨S, hS, hSF⟩ := hX
  have hX : (RX.of (sliceRd 9 CursitortopChange_rd) [.slice A1 a0.length c2] a0).reads w F := ⟨S, hS, hSF⟩
  unfold f_top_WholeLog at h
  refine T.seq (T.region rfl ?_)
  refine TL.run ft_cursitortop_ok [0] rfl rfl ?_
  obtain ⟨x3, hx4, h⟩ := Option.bind_eq_some_iff.1 h
  refine TL.nil (X.seq (T.seq (T.seq (T.region rfl ?_))))
  refine TL.ce rfl .u (.fn Try.call25 rfl) (f_version_Name_spec 26 _ hx4) (fun _ hs => (RX.reads_triv _ _)) rfl ?_
  refine TL.q rfl .u (Ex.sNe rfl (m := [101, 110, 100]) rfl) rfl ?_
  by_cases c5 : x3 = [101, 110, 100]
  · replace h := ifT c5 h
    refine TL.nil (X.seq ?_)
    refine T.no rfl (bn_f (decide_eq_true c5)) ?_
    refine T.skip (X.seq (T.seq (T.seq (T.region rfl ?_))))
    refine TL.run ft_cursitortop_ok [0] rfl rfl ?_
    refine TL.q rfl .u (Ex.lenS rfl Try.runUnderlying61) rfl ?_
    refine TL.run ft_cursitortop_ok [2] rfl rfl ?_
    by_cases c6 : (a0.length : Int) > 30
    · replace h := ifT c6 h
      refine TL.nil (X.seq ?_)
      refine T.yes rfl (decide_eq_true c6) ?_
      refine T.seq (T.region rfl ?_)
      refine TL.run ft_cursitortop_ok [0] rfl rfl ?_
      obtain rfl := Option.some.inj h
      exact TL.nil (X.seq (T.ret (X.rs (X.done1 [0] Try.results5 (RV.tm rfl) ⟨rfl, rfl, rfl⟩ (by rfl) (.inl rfl)))))
    · replace h := ifF c6 h
      refine TL.nil (X.seq ?_)
      refine T.no rfl (decide_eq_false c6) ?_
      obtain ⟨st7, hx8, h⟩ := Option.bind_eq_some_iff.1 h
      refine T.skip (X.seq (T.seq (T.region rfl ?_)))
      refine TL.cge rfl .u (.fn Try.call12 rfl) (f_journal_New_spec _ hx8) (fun _ hs => (RX.reads_triv _ _)) rfl ?_
      rintro _ _ _ ⟨b9, rfl, rfl, rfl⟩
      refine TL.sel [0, 0] rfl ?_
      obtain ⟨st10, hx11, h⟩ := Option.bind_eq_some_iff.1 h
      refine TL.cge rfl .u (.fn Try.call12 rfl) (f_journal_New_spec _ hx11) (fun _ hs => (RX.reads_triv _ _)) rfl ?_
      rintro _ _ _ ⟨b12, rfl, rfl, rfl⟩
      refine TL.sel [0, 0, 0] rfl ?_
      refine TL.run ft_cursitortop_ok [2, 3] rfl rfl ?_
      refine TL.nil (X.seq (T.seq (T.seq (T.region rfl ?_))))
      refine TL.run ft_cursitortop_ok [0] rfl rfl ?_
      refine TL.q rfl .u (Ex.pNe (.inl ⟨rfl, rfl⟩) rfl rfl Try.runUnderlying38) rfl ?_
      refine TL.rw ft_cursitortop_ok 2 rfl ?_
      refine TL.q rfl (.g rfl rfl rfl) (Ex.pNe (.inl ⟨rfl, rfl⟩) rfl rfl Try.runUnderlying38) rfl ?_
      refine TL.rw ft_cursitortop_ok 1 rfl ?_
      refine TL.nil (X.seq ?_)
      refine T.no rfl rfl ?_
      refine T.skip (X.seq (T.seq (T.region rfl ?_)))
      refine TL.mkmap (kt := 9) (oldRd w S CursitortopChange_rd) rfl .u rfl (fun b13 => ?_)
      refine TL.run ft_cursitortop_ok [1] rfl rfl ?_
      refine TL.nil (X.seq (T.seq (T.seq (T.region rfl ?_))))
      refine TL.run ft_cursitortop_ok [0] rfl rfl ?_
      refine TL.q rfl .u (Ex.lenS rfl Try.runUnderlying61) rfl ?_
      refine TL.run ft_cursitortop_ok [2] rfl rfl ?_
      refine TL.nil (X.seq (T.block ?_))
      obtain ⟨E19, hE20, hO21⟩ := Option.bind_eq_some_iff.1 h
      have hk25len := RX.len_le hX
      refine T.lp (fun m e Rs => ∃ (y14 : Bool) (k15 : Nat) (st16 : List (List UInt8 × CursitortopChange)) (st17 : JournalJournal) (st18 : JournalJournal), k15 + m = a0.length ∧ e = [(2, .bool y14), (3, .pointer (some ⟨b9, 0, none⟩)), (4, .pointer (some ⟨b12, 0, none⟩)), (5, .map (some b13)), (36, .slice A1 a0.length c2), (37, .int .i64 (a0.length : Int)), (38, .int .i64 (k15 : Int))] ∧ Rs = [MapR Try.prog 9 (oldRd w S CursitortopChange_rd) b13 st16, MbR_JournalJournal b12 st17, MbR_JournalJournal b9 st18, EmpR] ∧ f_top_WholeLog_l1 (a0.drop k15) y14 st16 st17 st18 = some E19) (a0.length) [0, 0, 0, 0] ⟨false, 0, [], st10, st7, by simp, rfl, rfl, by rw [List.drop_zero]; exact hE20⟩ (by rfl) (by rfl) ?_
      rintro m22 _ _ ⟨y14, k15, st16, st17, st18, hk25, rfl, rfl, hl24⟩
      clear hE20 h
      cases m22 with
      | zero =>
        have h := hl24
        clear hl24
        rw [List.drop_of_length_le (by omega), f_top_WholeLog_l1] at h
        have hk25ge : ¬ ((k15 : Int) < (a0.length : Int)) := by omega
        refine T.seq (T.region rfl ?_)
        refine TL.run ft_cursitortop_ok [0] rfl rfl ?_
        refine TL.nil (X.seq (T.seq ?_))
        refine T.no rfl (decide_eq_false hk25ge) ?_
        obtain rfl := Option.some.inj h
        replace h := hO21
        clear hO21
        try dsimp only at h
        obtain ⟨st297, hx298, h⟩ := Option.bind_eq_some_iff.1 h
        refine T.exit (X.exs (X.exs (X.ex (X.seq (T.seq (T.region rfl ?_))))))
        refine TL.cge rfl .u (.fn Try.call12 rfl) (f_journal_New_spec _ hx298) (fun _ hs => (RX.reads_triv _ _)) rfl ?_
        rintro _ _ _ ⟨b299, rfl, rfl, rfl⟩
        refine TL.sel [0, 0, 0, 0, 0] rfl ?_
        refine TL.run ft_cursitortop_ok [1] rfl rfl ?_
        refine TL.nil (X.seq (T.seq (T.seq (T.region rfl ?_))))
        obtain ⟨⟨x300, st303⟩, hx304, h⟩ := Option.bind_eq_some_iff.1 h
        try dsimp only at h
        refine TL.run ft_cursitortop_ok [0] rfl rfl ?_
        refine TL.cg3 rfl .u (.fn Try.call24 rfl) (f_journal_JournalCompact_spec b9 st18 _ hx304) (fun _ hs => (Src.triv _)) rfl ?_
        rintro _ _ _ ⟨A301, c302, rfl, rfl, rfl⟩
        refine TL.sel [0, 0, 0, 0, 0, 0] rfl ?_
        refine TL.q rfl .u (Ex.lenS rfl Try.runUnderlying51) rfl ?_
        refine TL.run ft_cursitortop_ok [3] rfl rfl ?_
        refine TL.nil (X.seq (T.block ?_))
        obtain ⟨E308, hE309, hO310⟩ := Option.bind_eq_some_iff.1 h
        refine T.blen 0 rfl (fun w G h => rd_reads w G h) (fun hk314len => ?_)
        try dsimp only at hk314len
        refine T.lp (fun m e Rs => ∃ (y305 : Bool) (k306 : Nat) (st307 : JournalJournal), k306 + m = x300.length ∧ e = [(2, .bool y305), (3, .pointer (some ⟨b9, 0, none⟩)), (4, .pointer (some ⟨b12, 0, none⟩)), (5, .map (some b13)), (10, .pointer (some ⟨b299, 0, none⟩)), (94, .slice A301 x300.length c302), (95, .int .i64 (x300.length : Int)), (96, .int .i64 (k306 : Int))] ∧ Rs = [RdR (sliceRd 3 JournalEntry_rd) [.slice A301 x300.length c302] x300, MbR_JournalJournal b299 st307, MapR Try.prog 9 (oldRd w S CursitortopChange_rd) b13 st16, MbR_JournalJournal b12 st17, MbR_JournalJournal b9 st303, EmpR] ∧ f_top_WholeLog_l2 (x300.drop k306) y305 st307 = some E308) (x300.length) [0, 0, 0, 0, 0, 0] ⟨y14, 0, st297, by simp, rfl, rfl, by rw [List.drop_zero]; exact hE309⟩ (by rfl) (by rfl) ?_
        rintro m311 _ _ ⟨y305, k306, st307, hk314, rfl, rfl, hl313⟩
        clear hE309 h
        cases m311 with
        | zero =>
          have h := hl313
          clear hl313
          rw [List.drop_of_length_le (by omega), f_top_WholeLog_l2] at h
          have hk314ge : ¬ ((k306 : Int) < (x300.length : Int)) := by omega
          refine T.seq (T.region rfl ?_)
          refine TL.run ft_cursitortop_ok [0] rfl rfl ?_
          refine TL.nil (X.seq (T.seq ?_))
          refine T.no rfl (decide_eq_false hk314ge) ?_
          obtain rfl := Option.some.inj h
          replace h := hO310
          clear hO310
          try dsimp only at h
          refine T.exit (X.exs (X.exs (X.ex (X.seq (T.seq (T.region rfl ?_))))))
          refine TL.run ft_cursitortop_ok [0] rfl rfl ?_
          refine TL.nil (X.seq (T.seq (T.seq (T.region rfl ?_))))
          refine TL.run ft_cursitortop_ok [0] rfl rfl ?_
          refine TL.range 2 rfl .u rfl Try.underlying63 Try.underlying9 rfl rfl (fun b421 => ?_)
          refine TL.sel [0, 0, 0, 0, 0, 0] rfl ?_
          refine TL.nil (X.seq (T.block ?_))
          obtain ⟨E427, hE428, hO429⟩ := Option.bind_eq_some_iff.1 h
          replace hE428 := anyOrd_all hE428
          refine T.lp (fun m e Rs => ∃ (y422 : Bool) (y423 : Int) (st424 : JournalJournal) (st425 : JournalJournal) (st426 : JournalJournal) (rem434 : List (List UInt8 × CursitortopChange)), rem434.length = m ∧ e = [(2, .bool y422), (3, .pointer (some ⟨b9, 0, none⟩)), (4, .pointer (some ⟨b12, 0, none⟩)), (10, .pointer (some ⟨b299, 0, none⟩)), (13, .int .i64 y423), (106, .pointer (some ⟨b421, 0, none⟩))] ∧ Rs = [RdR (sliceRd 3 JournalEntry_rd) [.slice A301 x300.length c302] x300, MbR_JournalJournal b299 st424, RangR Try.prog 9 (oldRd w S CursitortopChange_rd) b13 b421 st16 rem434, MbR_JournalJournal b12 st425, MbR_JournalJournal b9 st426, EmpR] ∧ ∀ l, List.Perm l rem434 → f_top_WholeLog_l3 l (y422, y423, st424, st425, st426) = some E427) (st16.length) [0, 0, 0, 0, 0, 0] ⟨y305, 0, st307, st17, st303, st16, rfl, rfl, rfl, hE428⟩ (by rfl) (by rfl) ?_
          rintro m430 _ _ ⟨y422, y423, st424, st425, st426, rem434, hk433, rfl, rfl, hl432⟩
          clear hE428 h
          cases m430 with
          | zero =>
            obtain rfl := List.length_eq_zero_iff.1 hk433
            have h := hl432 [] (.refl _)
            clear hl432
            rw [f_top_WholeLog_l3] at h
            refine T.seq (T.region rfl ?_)
            refine TL.next0 2 rfl .u rfl Try.underlying9 rfl rfl ?_
            refine TL.run ft_cursitortop_ok [1] rfl rfl ?_
            refine TL.nil (X.seq (T.seq ?_))
            refine T.no rfl rfl ?_
            obtain rfl := Option.some.inj h
            replace h := hO429
            clear hO429
            try dsimp only at h
            refine T.exit (X.exs (X.exs (X.ex (X.seq (T.seq (T.region rfl ?_))))))
            obtain ⟨⟨x502, st505⟩, hx506, h⟩ := Option.bind_eq_some_iff.1 h
            try dsimp only at h
            refine TL.run ft_cursitortop_ok [0] rfl rfl ?_
            refine TL.cg4 rfl .u (.fn Try.call17 rfl) (gJIDs_spec b9 st426 _ hx506) (fun _ hs => (Src.triv _)) rfl ?_
            rintro _ _ _ ⟨A503, c504, rfl, rfl, rfl⟩
            refine TL.sel [0, 0, 0, 0, 0, 0, 0] rfl ?_
            refine TL.q rfl .u (Ex.lenS rfl Try.runUnderlying48) rfl ?_
            by_cases c507 : (x502.length : Int) = y423
            · replace h := ifT c507 h
              refine TL.run ft_cursitortop_ok [3, 4, 5] rfl rfl ?_
              refine TL.hv 174 rfl (decide_eq_true c507) ?_
              obtain ⟨⟨x508, st511⟩, hx512, h⟩ := Option.bind_eq_some_iff.1 h
              try dsimp only at h
              refine TL.rw ft_cursitortop_ok 1 rfl ?_
              refine TL.cg2 rfl (.g rfl rfl rfl) (.fn Try.call17 rfl) (gJIDs_spec b299 st424 _ hx512) (fun _ hs => (Src.triv _)) rfl ?_
              rintro _ _ _ ⟨A509, c510, rfl, rfl, rfl⟩
              refine TL.sel [0, 0, 0, 0, 0, 0, 0, 0] rfl ?_
              refine TL.q rfl (.g rfl rfl rfl) (Ex.lenS rfl Try.runUnderlying48) rfl ?_
              by_cases c513 : (x508.length : Int) = y423
              · replace h := ifT c513 h
                refine TL.rw ft_cursitortop_ok 4 rfl ?_
                refine TL.hv 181 rfl (decide_eq_true c513) ?_
                obtain ⟨⟨x514, st515⟩, hx516, h⟩ := Option.bind_eq_some_iff.1 h
                try dsimp only at h
                refine TL.rw ft_cursitortop_ok 1 rfl ?_
                refine TL.c3 rfl (.g rfl rfl rfl) (.fn Try.call22 rfl) (f_journal_JournalMany_spec b299 st511 _ hx516) (fun _ hs => (Src.triv _)) rfl ?_
                refine TL.rw ft_cursitortop_ok 4 rfl ?_
                by_cases c517 : x514 = y423
                · replace h := ifT c517 h
                  obtain rfl := Option.some.inj h
                  exact TL.nil (X.seq (T.ret (X.done1 [7] Try.results5 (RV.tm (v := .bool true) (congrArg (fun b => some (Value.bool b)) (decide_eq_true c517))) ⟨rfl, rfl, rfl⟩ (by rfl) (.inl rfl))))
                · replace h := ifF c517 h
                  exact nomatch h
              · replace h := ifF c513 h
                refine TL.rw ft_cursitortop_ok 4 rfl ?_
                refine TL.hv 181 rfl (decide_eq_false c513) ?_
                exact nomatch h
            · replace h := ifF c507 h
              refine TL.run ft_cursitortop_ok [3, 4, 5] rfl rfl ?_
              refine TL.hv 174 rfl (decide_eq_false c507) ?_
              exact nomatch h
          | succ m430 =>
            have hn438 : rem434 ≠ [] := fun e => by rw [e] at hk433; cases hk433
            refine T.seq (T.region rfl ?_)
            refine TL.nextO 2 hn438 hSF rfl .u rfl Try.underlying9 rfl rfl ?_
            rintro k436 u437 z442cs rem435 hp439 ⟨_, _, z442r⟩
            obtain ⟨A443, c444, rfl, _⟩ := z442r
            refine TL.sel [0, 0, 0, 0, 0, 0] rfl ?_
            obtain ⟨s441, h, hl440⟩ := ord_step (f_top_WholeLog_l3_c) hl432 hp439
            rw [f_top_WholeLog_l3_b] at h
            refine TL.run ft_cursitortop_ok [1] rfl rfl ?_
            refine TL.nil (X.seq (T.seq ?_))
            refine T.yes rfl rfl ?_
            refine T.skip (X.seq (T.block (T.seq (T.region rfl ?_))))
            refine TL.q rfl .u (Ex.entry 2 rfl rfl) rfl ?_
            refine TL.run ft_cursitortop_ok [1, 2] rfl rfl ?_
            refine TL.alloc rfl .u Try.zeroValue65 rfl (fun b445 => ?_)
            refine TL.run ft_cursitortop_ok [4] rfl rfl ?_
            refine TL.st0 (cs' := #[.string (bsOf u437.fID), .bool u437.fDrop, .int .i64 u437.fV.fProducer, .int .i64 u437.fV.fEpoch, .int .i64 u437.fV.fTimeout, .int .i64 u437.fV.fState, .slice A443 u437.fV.fTopics.length c444, .int .i64 u437.fV.fUpdated, .int .i64 u437.fV.fStarted]) rfl .u rfl rfl Try.sizeOf65 rfl rfl rfl rfl ?_
            refine TL.nil (X.seq (T.seq (T.region rfl ?_)))
            obtain ⟨⟨x446, x449, st450⟩, hx451, h⟩ := Option.bind_eq_some_iff.1 h
            try dsimp only at h
            refine TL.run ft_cursitortop_ok [0, 1] rfl rfl ?_
            refine TL.cg5 rfl .u (.fn Try.call15 rfl) (f_journal_JournalGet_spec b9 st426 k436 _ hx451) (fun _ hs => (Src.triv _)) rfl ?_
            rintro _ _ _ ⟨A447, c448, rfl, rfl, rfl⟩
            refine TL.sel [0, 0, 0, 0, 0, 0, 0, 0] rfl ?_
            refine TL.copRd 0 rfl ?_
            refine TL.sel [0, 0, 0, 0, 0, 0, 0, 0] rfl ?_
            refine TL.run ft_cursitortop_ok [3, 4, 5] rfl rfl ?_
            refine TL.alloc rfl .u Try.zeroValue24 rfl (fun b452 => ?_)
            refine TL.st0 (cs' := #[.int .i64 x446.fProducer, .int .i64 x446.fEpoch, .int .i64 x446.fTimeout, .int .i64 x446.fState, .slice A447 x446.fTopics.length c448, .int .i64 x446.fUpdated, .int .i64 x446.fStarted]) rfl .u rfl rfl Try.sizeOf24 rfl rfl rfl rfl ?_
            refine TL.run ft_cursitortop_ok [8] rfl rfl ?_
            refine TL.nil (X.seq (T.seq (T.region rfl ?_)))
            obtain ⟨⟨x453, x456, st457⟩, hx458, h⟩ := Option.bind_eq_some_iff.1 h
            try dsimp only at h
            refine TL.run ft_cursitortop_ok [0, 1] rfl rfl ?_
            refine TL.cg4 rfl .u (.fn Try.call15 rfl) (f_journal_JournalGet_spec b299 st424 k436 _ hx458) (fun _ hs => (Src.triv _)) rfl ?_
            rintro _ _ _ ⟨A454, c455, rfl, rfl, rfl⟩
            refine TL.sel [0, 0, 0, 0, 0, 0, 0, 0, 0, 0] rfl ?_
            refine TL.copRd 0 rfl ?_
            refine TL.sel [0, 0, 0, 0, 0, 0, 0, 0, 0, 0] rfl ?_
            refine TL.run ft_cursitortop_ok [3, 4, 5] rfl rfl ?_
            refine TL.alloc rfl .u Try.zeroValue24 rfl (fun b459 => ?_)
            refine TL.st0 (cs' := #[.int .i64 x453.fProducer, .int .i64 x453.fEpoch, .int .i64 x453.fTimeout, .int .i64 x453.fState, .slice A454 x453.fTopics.length c455, .int .i64 x453.fUpdated, .int .i64 x453.fStarted]) rfl .u rfl rfl Try.sizeOf24 rfl rfl rfl rfl ?_
            refine TL.run ft_cursitortop_ok [8] rfl rfl ?_
            refine TL.nil (X.seq (T.seq (T.region rfl ?_)))
            obtain ⟨⟨x460, x463, st464⟩, hx465, h⟩ := Option.bind_eq_some_iff.1 h
            try dsimp only at h
            refine TL.run ft_cursitortop_ok [0, 1] rfl rfl ?_
            refine TL.cg8 rfl .u (.fn Try.call15 rfl) (f_journal_JournalGet_spec b12 st425 k436 _ hx465) (fun _ hs => (Src.triv _)) rfl ?_
            rintro _ _ _ ⟨A461, c462, rfl, rfl, rfl⟩
            refine TL.sel [0, 0, 0, 0, 0, 0, 0, 0, 0, 0, 0, 0] rfl ?_
            refine TL.copRd 0 rfl ?_
            refine TL.sel [0, 0, 0, 0, 0, 0, 0, 0, 0, 0, 0, 0] rfl ?_
            refine TL.run ft_cursitortop_ok [3, 4, 5] rfl rfl ?_
            refine TL.alloc rfl .u Try.zeroValue24 rfl (fun b466 => ?_)
            refine TL.st0 (cs' := #[.int .i64 x460.fProducer, .int .i64 x460.fEpoch, .int .i64 x460.fTimeout, .int .i64 x460.fState, .slice A461 x460.fTopics.length c462, .int .i64 x460.fUpdated, .int .i64 x460.fStarted]) rfl .u rfl rfl Try.sizeOf24 rfl rfl rfl rfl ?_
            refine TL.run ft_cursitortop_ok [8] rfl rfl ?_
            refine TL.nil (X.seq (T.seq (T.seq (T.region rfl ?_))))
            refine TL.rb ft_cursitortop_ok nt_cursitortop_ok 6 rfl 3 rfl rfl ?_
            refine TL.q rfl .u (Ex.bEq rfl rfl rfl rfl Try.runUnderlying4) rfl ?_
            by_cases c467 : (x449 == u437.fDrop) = true
            · replace h := ifT c467 h
              refine TL.run ft_cursitortop_ok [4] rfl rfl ?_
              refine TL.hv 134 rfl c467 ?_
              exact nomatch h
            · replace h := ifF c467 h
              replace c467 := eq_false_of_ne_true c467
              refine TL.run ft_cursitortop_ok [4] rfl rfl ?_
              refine TL.hv 134 rfl c467 ?_
              refine TL.rw ft_cursitortop_ok 2 rfl ?_
              refine TL.q rfl (.g rfl rfl rfl) (Ex.bNe rfl rfl rfl rfl Try.runUnderlying4) rfl ?_
              by_cases c468 : (x449 == x456) = true
              · replace h := ifT c468 h
                refine TL.rw ft_cursitortop_ok 2 rfl ?_
                refine TL.hv 139 rfl (bn_f c468) ?_
                refine TL.rw ft_cursitortop_ok 2 rfl ?_
                refine TL.q rfl (.g rfl rfl rfl) (Ex.bNe rfl rfl rfl rfl Try.runUnderlying4) rfl ?_
                by_cases c469 : (x449 == x463) = true
                · replace h := ifT c469 h
                  refine TL.rw ft_cursitortop_ok 2 rfl ?_
                  refine TL.hv 144 rfl (bn_f c469) ?_
                  by_cases c470 : x449 = true
                  · replace h := ifT c470 h
                    refine TL.rw ft_cursitortop_ok 2 rfl ?_
                    refine TL.hv 146 rfl c470 ?_
                    refine TL.q rfl (.g rfl rfl rfl) (Ex.bS (us := [.int .i64 x446.fProducer, .int .i64 x446.fEpoch, .int .i64 x446.fTimeout, .int .i64 x446.fState, .slice A447 x446.fTopics.length c448, .int .i64 x446.fUpdated, .int .i64 x446.fStarted]) 4 rfl Try.isAgg24 Try.sizeOf24 rfl rfl rfl) rfl ?_
                    refine TL.rw ft_cursitortop_ok 1 rfl ?_
                    refine TL.q rfl (.g rfl rfl rfl) (Ex.bS (us := [.int .i64 u437.fV.fProducer, .int .i64 u437.fV.fEpoch, .int .i64 u437.fV.fTimeout, .int .i64 u437.fV.fState, .slice A443 u437.fV.fTopics.length c444, .int .i64 u437.fV.fUpdated, .int .i64 u437.fV.fStarted]) 6 rfl Try.isAgg24 Try.sizeOf24 rfl rfl rfl) rfl ?_
                    obtain ⟨x471, hx472, h⟩ := Option.bind_eq_some_iff.1 h
                    refine TL.ce rfl (.g rfl rfl rfl) (.fn Try.call16 rfl) (f_r14_Same_spec x446 _ _ u437.fV _ _ _ hx472) (fun _ hs => (RX.reads_and (SrcE.res 5 hs rfl (fun w G h => rd_reads w G h)) (SrcE.oldres 9 hs rfl (fun _ _ h W h1 h2 => by obtain ⟨_, _, hc, hs⟩ := h.2.2.2 W h1 h2; cases hc; exact hs) hSF))) rfl ?_
                    by_cases c473 : x471 = true
                    · replace h := ifT c473 h
                      refine TL.rw ft_cursitortop_ok 2 rfl ?_
                      refine TL.hv 152 rfl (bn_f c473) ?_
                      refine TL.q rfl (.g rfl rfl rfl) (Ex.bS (us := [.int .i64 x446.fProducer, .int .i64 x446.fEpoch, .int .i64 x446.fTimeout, .int .i64 x446.fState, .slice A447 x446.fTopics.length c448, .int .i64 x446.fUpdated, .int .i64 x446.fStarted]) 4 rfl Try.isAgg24 Try.sizeOf24 rfl rfl rfl) rfl ?_
                      refine TL.q rfl (.g rfl rfl rfl) (Ex.bS (us := [.int .i64 x453.fProducer, .int .i64 x453.fEpoch, .int .i64 x453.fTimeout, .int .i64 x453.fState, .slice A454 x453.fTopics.length c455, .int .i64 x453.fUpdated, .int .i64 x453.fStarted]) 2 rfl Try.isAgg24 Try.sizeOf24 rfl rfl rfl) rfl ?_
                      obtain ⟨x474, hx475, h⟩ := Option.bind_eq_some_iff.1 h
                      refine TL.ce rfl (.g rfl rfl rfl) (.fn Try.call16 rfl) (f_r14_Same_spec x446 _ _ x453 _ _ _ hx475) (fun _ hs => (RX.reads_and (SrcE.res 5 hs rfl (fun w G h => rd_reads w G h)) (SrcE.res 3 hs rfl (fun w G h => rd_reads w G h)))) rfl ?_
                      by_cases c476 : x474 = true
                      · replace h := ifT c476 h
                        refine TL.rw ft_cursitortop_ok 3 rfl ?_
                        refine TL.hv 158 rfl (bn_f c476) ?_
                        refine TL.q rfl (.g rfl rfl rfl) (Ex.bS (us := [.int .i64 x446.fProducer, .int .i64 x446.fEpoch, .int .i64 x446.fTimeout, .int .i64 x446.fState, .slice A447 x446.fTopics.length c448, .int .i64 x446.fUpdated, .int .i64 x446.fStarted]) 4 rfl Try.isAgg24 Try.sizeOf24 rfl rfl rfl) rfl ?_
                        refine TL.q rfl (.g rfl rfl rfl) (Ex.bS (us := [.int .i64 x460.fProducer, .int .i64 x460.fEpoch, .int .i64 x460.fTimeout, .int .i64 x460.fState, .slice A461 x460.fTopics.length c462, .int .i64 x460.fUpdated, .int .i64 x460.fStarted]) 0 rfl Try.isAgg24 Try.sizeOf24 rfl rfl rfl) rfl ?_
                        obtain ⟨x477, hx478, h⟩ := Option.bind_eq_some_iff.1 h
                        refine TL.ce rfl (.g rfl rfl rfl) (.fn Try.call16 rfl) (f_r14_Same_spec x446 _ _ x460 _ _ _ hx478) (fun _ hs => (RX.reads_and (SrcE.res 5 hs rfl (fun w G h => rd_reads w G h)) (SrcE.res 1 hs rfl (fun w G h => rd_reads w G h)))) rfl ?_
                        refine TL.rw ft_cursitortop_ok 4 rfl ?_
                        by_cases c479 : x477 = true
                        · replace h := ifT c479 h
                          refine TL.nil (X.seq ?_)
                          refine T.no rfl (bn_f c479) ?_
                          refine T.skip (X.seq (T.seq (T.region rfl ?_)))
                          refine TL.run ft_cursitortop_ok [0] rfl rfl ?_
                          refine TL.nil (X.seq ?_)
                          refine T.yes rfl c470 ?_
                          refine T.region rfl ?_
                          replace h := guard_some h
                          obtain ⟨c480, h⟩ := h
                          refine TL.run ft_cursitortop_ok [0] rfl rfl ?_
                          refine TL.q rfl .u (Ex.add rfl rfl c480) rfl ?_
                          refine TL.run ft_cursitortop_ok [2] rfl rfl ?_
                          refine TL.nil (X.blk ?_)
                          refine X.unfR 9 rfl ?_
                          refine X.sel [0, 0, 0, 0, 0, 0, 0, 0, 0, 0, 0, 0, 0] rfl ?_
                          obtain rfl := Option.some.inj h
                          exact X.back (m' := rem435.length) [7, 7, 7, 7, 7, 7] (by have hq := hp439.length_eq; simp only [List.length_cons] at hq; omega) ⟨y422, (y423 + 1), st457, st464, st450, rem435, rfl, rfl, rfl, hl440⟩ (by rfl) (by rfl)
                        · replace h := ifF c479 h
                          replace c479 := eq_false_of_ne_true c479
                          refine TL.nil (X.seq ?_)
                          refine T.yes rfl (bn_t c479) ?_
                          exact nomatch h
                      · replace h := ifF c476 h
                        replace c476 := eq_false_of_ne_true c476
                        refine TL.rw ft_cursitortop_ok 3 rfl ?_
                        refine TL.hv 158 rfl (bn_t c476) ?_
                        exact nomatch h
                    · replace h := ifF c473 h
                      replace c473 := eq_false_of_ne_true c473
                      refine TL.rw ft_cursitortop_ok 2 rfl ?_
                      refine TL.hv 152 rfl (bn_t c473) ?_
                      exact nomatch h
                  · replace h := ifF c470 h
                    replace c470 := eq_false_of_ne_true c470
                    refine TL.rw ft_cursitortop_ok 2 rfl ?_
                    refine TL.hv 146 rfl c470 ?_
                    refine TL.rw ft_cursitortop_ok 19 rfl ?_
                    refine TL.nil (X.seq ?_)
                    refine T.no rfl rfl ?_
                    refine T.skip (X.seq (T.seq (T.region rfl ?_)))
                    refine TL.run ft_cursitortop_ok [0] rfl rfl ?_
                    refine TL.nil (X.seq ?_)
                    refine T.no rfl c470 ?_
                    refine T.skip (X.blk ?_)
                    refine X.unfR 9 rfl ?_
                    refine X.sel [0, 0, 0, 0, 0, 0, 0, 0, 0, 0, 0, 0, 0] rfl ?_
                    obtain rfl := Option.some.inj h
                    exact X.back (m' := rem435.length) [7, 7, 7, 7, 7, 7] (by have hq := hp439.length_eq; simp only [List.length_cons] at hq; omega) ⟨y422, y423, st457, st464, st450, rem435, rfl, rfl, rfl, hl440⟩ (by rfl) (by rfl)
                · replace h := ifF c469 h
                  replace c469 := eq_false_of_ne_true c469
                  refine TL.rw ft_cursitortop_ok 2 rfl ?_
                  refine TL.hv 144 rfl (bn_t c469) ?_
                  exact nomatch h
              · replace h := ifF c468 h
                replace c468 := eq_false_of_ne_true c468
                refine TL.rw ft_cursitortop_ok 2 rfl ?_
                refine TL.hv 139 rfl (bn_t c468) ?_
                exact nomatch h
        | succ m311 =>
          have h := hl313
          clear hl313
          obtain ⟨x312, hxx312⟩ : ∃ x, x300[k306]? = some x := ⟨_, List.getElem?_eq_getElem (by omega)⟩
          rw [drop_cons hxx312, f_top_WholeLog_l2] at h
          have hk314lt : (k306 : Int) < (x300.length : Int) := by omega
          refine T.seq (T.region rfl ?_)
          refine TL.run ft_cursitortop_ok [0] rfl rfl ?_
          refine TL.nil (X.seq (T.seq ?_))
          refine T.yes rfl (decide_eq_true hk314lt) ?_
          refine T.skip (X.seq (T.seq (T.block (T.seq (T.region rfl ?_)))))
          refine TL.foc (E := JournalEntry_rd) (k := k306) 0 rfl (fun w G h => rd_reads w G h) (by decide) hxx312 ?_
          rintro gz315 oz315 z315cs hA z315cl ⟨_, _, z315r⟩
          cases hA
          obtain rfl : z315cs = [.string (bsOf x312.fKey), .bool x312.fValue.null, .string (bsOf x312.fValue.data)] := z315r
          clear z315cl
          refine TL.sel [0, 0, 0, 0, 0, 0] rfl ?_
          refine TL.q rfl .u (Ex.ixS (k := k306) rfl rfl rfl Try.runUnderlying51 Try.sizeOf30 (List.getElem?_eq_some_iff.1 hxx312).1) rfl ?_
          refine TL.q rfl .u (Ex.kS (cs := [.string (bsOf x312.fKey), .bool x312.fValue.null, .string (bsOf x312.fValue.data)]) (us := [.string (bsOf x312.fKey), .bool x312.fValue.null, .string (bsOf x312.fValue.data)]) 0 0 rfl Try.isAgg30 Try.sizeOf30 rfl (fun _ _ h => h.2.2.1) rfl rfl) rfl ?_
          refine TL.alloc rfl .u Try.zeroValue30 rfl (fun b316 => ?_)
          refine TL.st0 (cs' := #[.string (bsOf x312.fKey), .bool x312.fValue.null, .string (bsOf x312.fValue.data)]) rfl .u rfl rfl Try.sizeOf30 rfl rfl rfl rfl ?_
          refine TL.nil (X.seq (T.seq (T.region rfl ?_)))
          refine TL.run ft_cursitortop_ok [0] rfl rfl ?_
          refine TL.q rfl .u (Ex.bS (us := [.string (bsOf x312.fKey), .bool x312.fValue.null, .string (bsOf x312.fValue.data)]) 0 rfl Try.isAgg30 Try.sizeOf30 rfl rfl rfl) rfl ?_
          obtain ⟨⟨x317, st318⟩, hx319, h⟩ := Option.bind_eq_some_iff.1 h
          try dsimp only at h
          refine TL.c2 rfl .u (.fn Try.call14 rfl) (f_journal_JournalApply_spec b299 st307 x312 _ hx319) (fun _ hs => (Src.triv _)) rfl ?_
          refine TL.run ft_cursitortop_ok [3] rfl rfl ?_
          by_cases c320 : x317 = 0
          · replace h := ifT c320 h
            refine TL.nil (X.seq ?_)
            refine T.no rfl (bn_f (decide_eq_true c320)) ?_
            refine T.skip (X.blk (X.seq (T.region rfl ?_)))
            refine TL.q rfl .u (Ex.add rfl rfl (by omega)) rfl ?_
            refine TL.run ft_cursitortop_ok [1] rfl rfl ?_
            refine TL.nil ?_
            refine X.unf 1 rfl ?_
            refine X.sel [0, 0, 0, 0, 0, 0, 0] rfl ?_
            exact X.back (m' := m311) [1, 1, 1, 1, 1, 1] (by omega) ⟨y305, k306 + 1, st318, by omega, rfl, rfl, h⟩ (by rfl) (by rfl)
          · replace h := ifF c320 h
            refine TL.nil (X.seq ?_)
            refine T.yes rfl (bn_t (decide_eq_false c320)) ?_
            exact nomatch h
      | succ m22 =>
        have h := hl24
        clear hl24
        obtain ⟨x23, hxx23⟩ : ∃ x, a0[k15]? = some x := ⟨_, List.getElem?_eq_getElem (by omega)⟩
        rw [drop_cons hxx23, f_top_WholeLog_l1] at h
        have hk25lt : (k15 : Int) < (a0.length : Int) := by omega
        refine T.seq (T.region rfl ?_)
        refine TL.run ft_cursitortop_ok [0] rfl rfl ?_
        refine TL.nil (X.seq (T.seq ?_))
        refine T.yes rfl (decide_eq_true hk25lt) ?_
        obtain ⟨gz26, oz26, rfl, z26cs, z26cl, z26cc, z26nf, z26r⟩ := RX.elemS (by decide) hS hSF hxx23
        obtain ⟨A27, c28, rfl, z26s0⟩ := z26r
        have hX29 : (RX.of (sliceRd 2 Top_rd) [.slice A27 x23.fV.fTopics.length c28] x23.fV.fTopics).reads w F := ⟨S, z26s0, hSF⟩
        refine T.skip (X.seq (T.seq (T.block (T.seq (T.region rfl ?_)))))
        refine TL.q rfl .u (Ex.ixS (k := k15) rfl rfl rfl Try.runUnderlying61 Try.sizeOf65 (List.getElem?_eq_some_iff.1 hxx23).1) rfl ?_
        refine TL.q rfl .u (Ex.oS (us := [.string (bsOf x23.fID), .bool x23.fDrop, .int .i64 x23.fV.fProducer, .int .i64 x23.fV.fEpoch, .int .i64 x23.fV.fTimeout, .int .i64 x23.fV.fState, .slice A27 x23.fV.fTopics.length c28, .int .i64 x23.fV.fUpdated, .int .i64 x23.fV.fStarted]) 0 rfl Try.isAgg65 Try.sizeOf65 z26nf z26cc rfl rfl rfl) rfl ?_
        refine TL.alloc rfl .u Try.zeroValue65 rfl (fun b30 => ?_)
        refine TL.st0 (cs' := #[.string (bsOf x23.fID), .bool x23.fDrop, .int .i64 x23.fV.fProducer, .int .i64 x23.fV.fEpoch, .int .i64 x23.fV.fTimeout, .int .i64 x23.fV.fState, .slice A27 x23.fV.fTopics.length c28, .int .i64 x23.fV.fUpdated, .int .i64 x23.fV.fStarted]) rfl .u rfl rfl Try.sizeOf65 rfl rfl rfl rfl ?_
        refine TL.nil (X.seq (T.seq (T.seq (T.region rfl ?_))))
        refine TL.rb ft_cursitortop_ok nt_cursitortop_ok 0 rfl 2 rfl rfl ?_
        refine TL.q rfl .u (Ex.lenB rfl Try.runUnderlying9) rfl ?_
        by_cases c31 : (x23.fID.length : Int) > 500
        · replace h := ifT c31 h
          refine TL.run ft_cursitortop_ok [3, 4] rfl rfl ?_
          refine TL.hv 46 rfl (decide_eq_true c31) ?_
          refine TL.rw ft_cursitortop_ok 6 rfl ?_
          refine TL.nil (X.seq ?_)
          refine T.yes rfl rfl ?_
          refine T.seq (T.region rfl ?_)
          refine TL.run ft_cursitortop_ok [0] rfl rfl ?_
          obtain rfl := Option.some.inj h
          replace h := hO21
          clear hO21
          try dsimp only at h
          obtain rfl := Option.some.inj h
          exact TL.nil (X.seq (T.ret (X.rs (X.rb (X.rs (X.rs (X.rb (X.rs (X.done1 [4] Try.results5 (RV.tm rfl) ⟨rfl, rfl, rfl⟩ (by rfl) (.inl rfl))))))))))
        · replace h := ifF c31 h
          refine TL.run ft_cursitortop_ok [3, 4] rfl rfl ?_
          refine TL.hv 46 rfl (decide_eq_false c31) ?_
          obtain ⟨x32, hx33, h⟩ := Option.bind_eq_some_iff.1 h
          refine TL.rb ft_cursitortop_ok nt_cursitortop_ok 0 rfl 3 rfl rfl ?_
          refine TL.ce rfl (.g rfl rfl rfl) (.fn Try.call7 rfl) (f_l14_Few_spec x23.fV.fTopics _ _ _ hx33) (fun _ hs => (SrcE.old hs hX29)) rfl ?_
          refine TL.rw ft_cursitortop_ok 2 rfl ?_
          by_cases c34 : x32 = 0
          · replace h := ifT c34 h
            refine TL.nil (X.seq ?_)
            refine T.yes rfl (decide_eq_true c34) ?_
            refine T.seq (T.region rfl ?_)
            refine TL.run ft_cursitortop_ok [0] rfl rfl ?_
            obtain rfl := Option.some.inj h
            replace h := hO21
            clear hO21
            try dsimp only at h
            obtain rfl := Option.some.inj h
            exact TL.nil (X.seq (T.ret (X.rs (X.rb (X.rs (X.rs (X.rb (X.rs (X.done1 [4] Try.results5 (RV.tm rfl) ⟨rfl, rfl, rfl⟩ (by rfl) (.inl rfl))))))))))
          · replace h := ifF c34 h
            refine TL.nil (X.seq ?_)
            refine T.no rfl (decide_eq_false c34) ?_
            refine T.skip (X.seq (T.seq (T.region rfl ?_)))
            refine TL.rb ft_cursitortop_ok nt_cursitortop_ok 0 rfl 3 rfl rfl ?_
            refine TL.q rfl .u (Ex.bS (us := [.int .i64 x23.fV.fProducer, .int .i64 x23.fV.fEpoch, .int .i64 x23.fV.fTimeout, .int .i64 x23.fV.fState, .slice A27 x23.fV.fTopics.length c28, .int .i64 x23.fV.fUpdated, .int .i64 x23.fV.fStarted]) 0 rfl Try.isAgg24 Try.sizeOf24 rfl rfl rfl) rfl ?_
            obtain ⟨⟨x35, x36⟩, hx37, h⟩ := Option.bind_eq_some_iff.1 h
            try dsimp only at h
            refine TL.ce rfl .u (.fn Try.call8 rfl) (f_journal_Put_spec x23.fID x23.fV _ _ _ hx37) (fun _ hs => (SrcE.old hs hX29)) rfl ?_
            refine TL.run ft_cursitortop_ok [5, 6, 7] rfl rfl ?_
            refine TL.alloc rfl .u Try.zeroValue30 rfl (fun b38 => ?_)
            refine TL.st0 (cs' := #[.string (bsOf x35.fKey), .bool x35.fValue.null, .string (bsOf x35.fValue.data)]) rfl .u rfl rfl Try.sizeOf30 rfl rfl rfl rfl ?_
            refine TL.run ft_cursitortop_ok [10] rfl rfl ?_
            refine TL.nil (X.seq (T.seq (T.seq (T.region rfl ?_))))
            refine TL.rb ft_cursitortop_ok nt_cursitortop_ok 1 rfl 2 rfl rfl ?_
            by_cases c39 : x23.fDrop = true
            · replace h := ifT c39 h
              refine TL.nil (X.seq ?_)
              refine T.yes rfl c39 ?_
              refine T.region rfl ?_
              obtain ⟨⟨x40, x41⟩, hx42, h⟩ := Option.bind_eq_some_iff.1 h
              try dsimp only at h
              refine TL.rb ft_cursitortop_ok nt_cursitortop_ok 1 rfl 2 rfl rfl ?_
              refine TL.ce rfl .u (.fn Try.call9 rfl) (f_journal_Drop_spec x23.fID _ hx42) (fun _ hs => (RX.reads_triv _ _)) rfl ?_
              refine TL.run ft_cursitortop_ok [3, 4, 5] rfl rfl ?_
              refine TL.st0 (cs' := #[.string (bsOf x40.fKey), .bool x40.fValue.null, .string (bsOf x40.fValue.data)]) rfl .u rfl rfl Try.sizeOf30 rfl rfl rfl rfl ?_
              refine TL.run ft_cursitortop_ok [7] rfl rfl ?_
              refine TL.nil (X.seq (T.seq (T.seq (T.region rfl ?_))))
              refine TL.run ft_cursitortop_ok [0, 1] rfl rfl ?_
              by_cases c43 : x41 = 0
              · replace h := ifT c43 h
                refine TL.nil (X.seq ?_)
                refine T.no rfl (bn_f (decide_eq_true c43)) ?_
                refine T.skip (X.seq (T.seq (T.seq (T.region rfl ?_))))
                refine TL.run ft_cursitortop_ok [0] rfl rfl ?_
                refine TL.q rfl .u (Ex.bS (us := [.string (bsOf x40.fKey), .bool x40.fValue.null, .string (bsOf x40.fValue.data)]) 0 rfl Try.isAgg30 Try.sizeOf30 rfl rfl rfl) rfl ?_
                obtain ⟨⟨x44, st45⟩, hx46, h⟩ := Option.bind_eq_some_iff.1 h
                try dsimp only at h
                refine TL.c4 rfl .u (.fn Try.call14 rfl) (f_journal_JournalApply_spec b9 st18 x40 _ hx46) (fun _ hs => (Src.triv _)) rfl ?_
                by_cases c47 : x44 = 0
                · replace h := ifT c47 h
                  refine TL.run ft_cursitortop_ok [3, 4] rfl rfl ?_
                  refine TL.hv 75 rfl (bn_f (decide_eq_true c47)) ?_
                  refine TL.rw ft_cursitortop_ok 1 rfl ?_
                  refine TL.q rfl (.g rfl rfl rfl) (Ex.bS (us := [.string (bsOf x40.fKey), .bool x40.fValue.null, .string (bsOf x40.fValue.data)]) 0 rfl Try.isAgg30 Try.sizeOf30 rfl rfl rfl) rfl ?_
                  obtain ⟨⟨x48, st49⟩, hx50, h⟩ := Option.bind_eq_some_iff.1 h
                  try dsimp only at h
                  refine TL.c3 rfl (.g rfl rfl rfl) (.fn Try.call14 rfl) (f_journal_JournalApply_spec b12 st17 x40 _ hx50) (fun _ hs => (Src.triv _)) rfl ?_
                  by_cases c51 : x48 = 0
                  · replace h := ifT c51 h
                    refine TL.rw ft_cursitortop_ok 3 rfl ?_
                    refine TL.hv 81 rfl (bn_f (decide_eq_true c51)) ?_
                    refine TL.rw ft_cursitortop_ok 1 rfl ?_
                    refine TL.q rfl (.g rfl rfl rfl) (Ex.bS (us := [.string (bsOf x40.fKey), .bool x40.fValue.null, .string (bsOf x40.fValue.data)]) 0 rfl Try.isAgg30 Try.sizeOf30 rfl rfl rfl) rfl ?_
                    obtain ⟨⟨x52, st53⟩, hx54, h⟩ := Option.bind_eq_some_iff.1 h
                    try dsimp only at h
                    refine TL.c3 rfl (.g rfl rfl rfl) (.fn Try.call14 rfl) (f_journal_JournalApply_spec b12 st49 x40 _ hx54) (fun _ hs => (Src.triv _)) rfl ?_
                    refine TL.rw ft_cursitortop_ok 2 rfl ?_
                    by_cases c55 : x52 = 0
                    · replace h := ifT c55 h
                      refine TL.nil (X.seq ?_)
                      refine T.no rfl (bn_f (decide_eq_true c55)) ?_
                      refine T.skip (X.seq (T.region rfl ?_))
                      refine TL.rb ft_cursitortop_ok nt_cursitortop_ok 1 rfl 3 rfl rfl ?_
                      refine TL.q rfl .u (Ex.bS (us := [.string (bsOf x23.fID), .bool x23.fDrop, .int .i64 x23.fV.fProducer, .int .i64 x23.fV.fEpoch, .int .i64 x23.fV.fTimeout, .int .i64 x23.fV.fState, .slice A27 x23.fV.fTopics.length c28, .int .i64 x23.fV.fUpdated, .int .i64 x23.fV.fStarted]) 1 rfl Try.isAgg65 Try.sizeOf65 rfl rfl rfl) rfl ?_
                      replace h := guard_some h
                      obtain ⟨c56, h⟩ := h
                      refine TL.mset0 2 (cs := [.string (bsOf x23.fID), .bool x23.fDrop, .int .i64 x23.fV.fProducer, .int .i64 x23.fV.fEpoch, .int .i64 x23.fV.fTimeout, .int .i64 x23.fV.fState, .slice A27 x23.fV.fTopics.length c28, .int .i64 x23.fV.fUpdated, .int .i64 x23.fV.fStarted]) (u := x23) (k := x23.fID) rfl .u rfl rfl rfl Try.underlying63 Try.underlying9 c56 rfl (fun _ _ => old_in ⟨_, _, rfl, z26s0⟩) ?_
                      refine TL.sel [0, 0, 0, 0, 0, 0] rfl ?_
                      refine TL.nil (X.blk (X.seq (T.region rfl ?_)))
                      refine TL.q rfl .u (Ex.add rfl rfl (by omega)) rfl ?_
                      refine TL.run ft_cursitortop_ok [1] rfl rfl ?_
                      exact TL.nil (X.back (m' := m22) [0, 2, 2, 2] (by omega) ⟨y14, k15 + 1, (mput x23.fID x23 st16), st53, st45, by omega, rfl, rfl, h⟩ (by rfl) (by rfl))
                    · replace h := ifF c55 h
                      refine TL.nil (X.seq ?_)
                      refine T.yes rfl (bn_t (decide_eq_false c55)) ?_
                      exact nomatch h
                  · replace h := ifF c51 h
                    refine TL.rw ft_cursitortop_ok 3 rfl ?_
                    refine TL.hv 81 rfl (bn_t (decide_eq_false c51)) ?_
                    exact nomatch h
                · replace h := ifF c47 h
                  refine TL.run ft_cursitortop_ok [3, 4] rfl rfl ?_
                  refine TL.hv 75 rfl (bn_t (decide_eq_false c47)) ?_
                  exact nomatch h
              · replace h := ifF c43 h
                refine TL.nil (X.seq ?_)
                refine T.yes rfl (bn_t (decide_eq_false c43)) ?_
                refine T.exit (X.exs (X.ex (X.seq (T.region rfl ?_))))
                refine TL.q rfl .u (Ex.add rfl rfl (by omega)) rfl ?_
                refine TL.run ft_cursitortop_ok [1] rfl rfl ?_
                exact TL.nil (X.back (m' := m22) [2, 2, 2, 2] (by omega) ⟨y14, k15 + 1, st16, st17, st18, by omega, rfl, rfl, h⟩ (by rfl) (by rfl))
            · replace h := ifF c39 h
              replace c39 := eq_false_of_ne_true c39
              refine TL.nil (X.seq ?_)
              refine T.no rfl c39 ?_
              refine T.skip (X.seq (T.seq (T.seq (T.region rfl ?_))))
              refine TL.run ft_cursitortop_ok [0, 1] rfl rfl ?_
              by_cases c57 : x36 = 0
              · replace h := ifT c57 h
                refine TL.nil (X.seq ?_)
                refine T.no rfl (bn_f (decide_eq_true c57)) ?_
                refine T.skip (X.seq (T.seq (T.seq (T.region rfl ?_))))
                refine TL.run ft_cursitortop_ok [0] rfl rfl ?_
                refine TL.q rfl .u (Ex.bS (us := [.string (bsOf x35.fKey), .bool x35.fValue.null, .string (bsOf x35.fValue.data)]) 0 rfl Try.isAgg30 Try.sizeOf30 rfl rfl rfl) rfl ?_
                obtain ⟨⟨x58, st59⟩, hx60, h⟩ := Option.bind_eq_some_iff.1 h
                try dsimp only at h
                refine TL.c4 rfl .u (.fn Try.call14 rfl) (f_journal_JournalApply_spec b9 st18 x35 _ hx60) (fun _ hs => (Src.triv _)) rfl ?_
                by_cases c61 : x58 = 0
                · replace h := ifT c61 h
                  refine TL.run ft_cursitortop_ok [3, 4] rfl rfl ?_
                  refine TL.hv 75 rfl (bn_f (decide_eq_true c61)) ?_
                  refine TL.rw ft_cursitortop_ok 1 rfl ?_
                  refine TL.q rfl (.g rfl rfl rfl) (Ex.bS (us := [.string (bsOf x35.fKey), .bool x35.fValue.null, .string (bsOf x35.fValue.data)]) 0 rfl Try.isAgg30 Try.sizeOf30 rfl rfl rfl) rfl ?_
                  obtain ⟨⟨x62, st63⟩, hx64, h⟩ := Option.bind_eq_some_iff.1 h
                  try dsimp only at h
                  refine TL.c3 rfl (.g rfl rfl rfl) (.fn Try.call14 rfl) (f_journal_JournalApply_spec b12 st17 x35 _ hx64) (fun _ hs => (Src.triv _)) rfl ?_
                  by_cases c65 : x62 = 0
                  · replace h := ifT c65 h
                    refine TL.rw ft_cursitortop_ok 3 rfl ?_
                    refine TL.hv 81 rfl (bn_f (decide_eq_true c65)) ?_
                    refine TL.rw ft_cursitortop_ok 1 rfl ?_
                    refine TL.q rfl (.g rfl rfl rfl) (Ex.bS (us := [.string (bsOf x35.fKey), .bool x35.fValue.null, .string (bsOf x35.fValue.data)]) 0 rfl Try.isAgg30 Try.sizeOf30 rfl rfl rfl) rfl ?_
                    obtain ⟨⟨x66, st67⟩, hx68, h⟩ := Option.bind_eq_some_iff.1 h
                    try dsimp only at h
                    refine TL.c3 rfl (.g rfl rfl rfl) (.fn Try.call14 rfl) (f_journal_JournalApply_spec b12 st63 x35 _ hx68) (fun _ hs => (Src.triv _)) rfl ?_
                    refine TL.rw ft_cursitortop_ok 2 rfl ?_
                    by_cases c69 : x66 = 0
                    · replace h := ifT c69 h
                      refine TL.nil (X.seq ?_)
                      refine T.no rfl (bn_f (decide_eq_true c69)) ?_
                      refine T.skip (X.seq (T.region rfl ?_))
                      refine TL.rb ft_cursitortop_ok nt_cursitortop_ok 1 rfl 3 rfl rfl ?_
                      refine TL.q rfl .u (Ex.bS (us := [.string (bsOf x23.fID), .bool x23.fDrop, .int .i64 x23.fV.fProducer, .int .i64 x23.fV.fEpoch, .int .i64 x23.fV.fTimeout, .int .i64 x23.fV.fState, .slice A27 x23.fV.fTopics.length c28, .int .i64 x23.fV.fUpdated, .int .i64 x23.fV.fStarted]) 1 rfl Try.isAgg65 Try.sizeOf65 rfl rfl rfl) rfl ?_
                      replace h := guard_some h
                      obtain ⟨c70, h⟩ := h
                      refine TL.mset0 2 (cs := [.string (bsOf x23.fID), .bool x23.fDrop, .int .i64 x23.fV.fProducer, .int .i64 x23.fV.fEpoch, .int .i64 x23.fV.fTimeout, .int .i64 x23.fV.fState, .slice A27 x23.fV.fTopics.length c28, .int .i64 x23.fV.fUpdated, .int .i64 x23.fV.fStarted]) (u := x23) (k := x23.fID) rfl .u rfl rfl rfl Try.underlying63 Try.underlying9 c70 rfl (fun _ _ => old_in ⟨_, _, rfl, z26s0⟩) ?_
                      refine TL.sel [0, 0, 0, 0, 0, 0] rfl ?_
                      refine TL.nil (X.blk (X.seq (T.region rfl ?_)))
                      refine TL.q rfl .u (Ex.add rfl rfl (by omega)) rfl ?_
                      refine TL.run ft_cursitortop_ok [1] rfl rfl ?_
                      exact TL.nil (X.back (m' := m22) [0, 2, 2, 2] (by omega) ⟨y14, k15 + 1, (mput x23.fID x23 st16), st67, st59, by omega, rfl, rfl, h⟩ (by rfl) (by rfl))
                    · replace h := ifF c69 h
                      refine TL.nil (X.seq ?_)
                      refine T.yes rfl (bn_t (decide_eq_false c69)) ?_
                      exact nomatch h
                  · replace h := ifF c65 h
                    refine TL.rw ft_cursitortop_ok 3 rfl ?_
                    refine TL.hv 81 rfl (bn_t (decide_eq_false c65)) ?_
                    exact nomatch h
                · replace h := ifF c61 h
                  refine TL.run ft_cursitortop_ok [3, 4] rfl rfl ?_
                  refine TL.hv 75 rfl (bn_t (decide_eq_false c61)) ?_
                  exact nomatch h
              · replace h := ifF c57 h
                refine TL.nil (X.seq ?_)
                refine T.yes rfl (bn_t (decide_eq_false c57)) ?_
                refine T.exit (X.exs (X.ex (X.seq (T.region rfl ?_))))
                refine TL.q rfl .u (Ex.add rfl rfl (by omega)) rfl ?_
                refine TL.run ft_cursitortop_ok [1] rfl rfl ?_
                exact TL.nil (X.back (m' := m22) [2, 2, 2, 2] (by omega) ⟨y14, k15 + 1, st16, st17, st18, by omega, rfl, rfl, h⟩ (by rfl) (by rfl))
  · replace h := ifF c5 h
    refine TL.nil (X.seq ?_)
    refine T.yes rfl (bn_t (decide_eq_false c5)) ?_
    exact nomatch h
end Go.Proofs.Ytlhgogjcaegehaa.Sl
namespace Go.Proofs.Ytlhgogjcaegehaa.Sl
open Go.RowKit Go.WideMaps
set_option linter.unusedVariables false
set_option linter.unusedSimpArgs false
abbrev KV := List (List UInt8 × Val)
structure Kn (st : JournalJournal) (K : KV) (n : Nat) : Prop where
  perm : st.fknown.Perm K
  rise : Rise st.fknown
  good : ∀ p, p ∈ K → goodP p
  len : st.fknown.length ≤ n
  lo : 0 ≤ st.fmany
  hi : st.fmany ≤ 2 * n
def outK (k : List UInt8) (K : KV) : KV := K.filter (fun p => !(p.1 == k))
theorem outK_out (k : List UInt8) (K : KV) : outK k (outK k K) = outK k K := by
  unfold outK
  rw [List.filter_filter]
  simp
theorem outK_cons (k : List UInt8) (v : Val) (K : KV) : outK k ((k, v) :: K) = outK k K := by
  unfold outK
  rw [List.filter_cons, if_neg (by simp)]
theorem Kn.put {st : JournalJournal} {K : KV} {n m : Nat} (h : Kn st K n) (k : List UInt8) (v : Val) (hg : goodP (k, v)) (hm : st.fknown.length ≤ n) (hl : st.fmany + 1 ≤ 2 * m) (hnm : n ≤ m) (hlen : (mput k v st.fknown).length ≤ m) : Kn ⟨mput k v st.fknown, st.fmany + 1⟩ ((k, v) :: outK k K) m := by
  refine ⟨?_, rise_put h.rise, fun p hp => ?_, hlen, by have := h.lo; simp only; omega, hl⟩
  · refine (mins_perm k v _).trans ?_
    rw [mrem_filter]
    exact (h.perm.filter _).cons _
  · rcases List.mem_cons.1 hp with rfl | hp
    · exact hg
    · exact h.good p (List.mem_filter.1 hp).1
theorem Kn.drop {st : JournalJournal} {K : KV} {n m : Nat} (h : Kn st K n) (k : List UInt8) (hl : st.fmany + 1 ≤ 2 * m) (hnm : n ≤ m) : Kn ⟨mrem k st.fknown, st.fmany + 1⟩ (outK k K) m := by
  refine ⟨?_, rise_rem h.rise, fun p hp => h.good p (List.mem_filter.1 hp).1, Nat.le_trans (rem_len _ _) (Nat.le_trans h.len hnm), by have := h.lo; simp only; omega, hl⟩
  show (mrem k st.fknown).Perm _
  rw [mrem_filter]
  exact h.perm.filter _
theorem apply_out {st : JournalJournal} {k : List UInt8} (hk : kright k = true) (hm : -9223372036854775808 ≤ st.fmany + 1 ∧ st.fmany + 1 ≤ 9223372036854775807) : f_journal_JournalApply st ⟨encK k, ⟨true, []⟩⟩ = some (0, ⟨mrem k st.fknown, st.fmany + 1⟩) := by
  have := (kr_fits hk).2.1
  unfold f_journal_JournalApply
  rw [gKDecode_eq _ (by have := encK_len hk; simp only; omega), kdec_enc hk]
  simp only [Option.bind_some, if_true]
  rw [gRight_eq, Option.bind_some, show bright ⟨true, []⟩ = true from rfl, if_pos rfl, if_pos (by omega), if_pos hm]
def sayK (p : List UInt8 × CursitortopChange) : Option (List UInt8 × Val) := if p.2.fDrop = true then none else some (p.1, p.2.fV)
def lastK (l : List (List UInt8 × CursitortopChange)) : KV := l.filterMap sayK
theorem lastK_out (k : List UInt8) : ∀ l : List (List UInt8 × CursitortopChange), lastK (l.filter (fun p => !(p.1 == k))) = outK k (lastK l)
  | [] => rfl
  | p :: l => by
    have ih := lastK_out k l
    unfold lastK outK at ih ⊢
    rw [List.filter_cons]
    by_cases c : p.1 = k
    · rw [if_neg (by simp [c]), ih, List.filterMap_cons]
      unfold sayK
      by_cases d : p.2.fDrop = true
      · rw [if_pos d]
      · rw [if_neg d]
        simp only
        rw [List.filter_cons, if_neg (by simp [c])]
    · rw [if_pos (by simp [c]), List.filterMap_cons, List.filterMap_cons, ih]
      unfold sayK
      by_cases d : p.2.fDrop = true
      · rw [if_pos d]
      · rw [if_neg d]
        simp only
        rw [List.filter_cons, if_pos (by simp [c])]
theorem lastK_put (k : List UInt8) (c : CursitortopChange) (l : List (List UInt8 × CursitortopChange)) : (lastK (mput k c l)).Perm (if c.fDrop = true then outK k (lastK l) else (k, c.fV) :: outK k (lastK l)) := by
  have h := (mins_perm k c (mrem k l)).filterMap sayK
  refine List.Perm.trans h ?_
  rw [List.filterMap_cons, mrem_filter]
  have e := lastK_out k l
  unfold lastK at e
  rw [e]
  unfold sayK
  by_cases d : c.fDrop = true
  · rw [if_pos d, if_pos d]
    exact .refl _
  · rw [if_neg d, if_neg d]
    exact .refl _
structure Log (last : List (List UInt8 × CursitortopChange)) (tw j : JournalJournal) (n : Nat) : Prop where
  rise : Rise last
  len : last.length ≤ n
  keys : ∀ p, p ∈ last → p.1.length ≤ 500
  kj : Kn j (lastK last) n
  kt : Kn tw (lastK last) n
theorem Kn.re {st : JournalJournal} {K K' : KV} {n : Nat} (h : Kn st K n) (hp : K.Perm K') : Kn st K' n := ⟨h.perm.trans hp, h.rise, fun p hq => h.good p (hp.mem_iff.2 hq), h.len, h.lo, h.hi⟩
theorem log_l1 (y : Bool) : ∀ (xs : List CursitortopChange) (n : Nat) (last : List (List UInt8 × CursitortopChange)) (tw j : JournalJournal), (∀ c, c ∈ xs → wf_Val c.fV) → n + xs.length ≤ 100 → Log last tw j n →
    f_top_WholeLog_l1 xs y last tw j = some (.ret true) ∨ ∃ last' tw' j', f_top_WholeLog_l1 xs y last tw j = some (.go (y, last', tw', j')) ∧ Log last' tw' j' 100
  | [], n, last, tw, j, _, hn, h => .inr ⟨last, tw, j, by rw [f_top_WholeLog_l1], by
      simp only [List.length_nil] at hn
      have up : ∀ {st : JournalJournal}, Kn st (lastK last) n → Kn st (lastK last) 100 := fun k => ⟨k.perm, k.rise, k.good, by have := k.len; omega, k.lo, by have := k.hi; omega⟩
      exact ⟨h.rise, by have := h.len; omega, h.keys, up h.kj, up h.kt⟩⟩
  | x :: xs, n, last, tw, j, hw, hn, h => by
    simp only [List.length_cons] at hn
    have hwx := hw x List.mem_cons_self
    have hws := fun c hc => hw c (List.mem_cons_of_mem x hc)
    rw [f_top_WholeLog_l1]
    by_cases c1 : (x.fID.length : Int) > 500
    · rw [if_pos c1]
      exact .inl rfl
    rw [if_neg c1]
    rcases few_eq x.fV.fTopics hwx.2.2.2.2.1.2 with hf | ⟨hf, hwt⟩
    · rw [hf]
      exact .inl rfl
    rw [hf, Option.bind_some, if_neg (by decide), put_eq hwx (by omega), drop_eq]
    have hlj := h.kj.len
    have hlt := h.kt.len
    have hmj := h.kj.hi
    have hmt := h.kt.hi
    have h0j := h.kj.lo
    have h0t := h.kt.lo
    have hll := h.len
    have same : Log last tw j (n + 1) := by
      have up : ∀ {st : JournalJournal}, Kn st (lastK last) n → Kn st (lastK last) (n + 1) := fun k => ⟨k.perm, k.rise, k.good, by have := k.len; omega, k.lo, by have := k.hi; omega⟩
      exact ⟨h.rise, by omega, h.keys, up h.kj, up h.kt⟩
    have hkeys : ∀ p, p ∈ mput x.fID x last → p.1.length ≤ 500 := fun p hp => (put_mem hp).elim (fun e => by rw [e]; simp only; omega) (h.keys p)
    simp only [Option.bind_some]
    by_cases hd : x.fDrop = true
    · rw [if_pos hd]
      cases hk : kright x.fID with
      | false =>
        simp only [Bool.false_eq_true, if_false]
        rw [if_neg (by decide)]
        exact log_l1 y xs (n + 1) last tw j hws (by omega) same
      | true =>
        simp only [if_true]
        rw [apply_out hk (by omega)]
        simp only [Option.bind_some, if_true]
        rw [apply_out hk (by omega)]
        simp only [Option.bind_some, if_true]
        rw [apply_out hk (by simp only; omega)]
        simp only [Option.bind_some, if_true]
        rw [if_pos (by omega)]
        have hp := lastK_put x.fID x last
        rw [if_pos hd] at hp
        refine log_l1 y xs (n + 1) _ _ _ hws (by omega) ⟨rise_put h.rise, by have := put_len x.fID x last; omega, hkeys, (h.kj.drop x.fID (by omega) (by omega)).re hp.symm, ?_⟩
        have t1 := h.kt.drop (m := n + 1) x.fID (by omega) (by omega)
        have t2 := t1.drop (m := n + 1) x.fID (by simp only; omega) (Nat.le_refl _)
        rw [outK_out] at t2
        exact t2.re hp.symm
    · rw [if_neg hd]
      by_cases hk : kright x.fID = true
      · by_cases hc : chkV x.fV = 0
        · rw [if_pos hk, if_pos hc]
          simp only [if_true]
          have hg : goodP (x.fID, x.fV) := ⟨hk, hwx, hc, hwt⟩
          rw [apply_put hk hwx (by omega) hc (by omega) (by omega)]
          simp only [Option.bind_some, if_true]
          rw [apply_put hk hwx (by omega) hc (by omega) (by omega)]
          simp only [Option.bind_some, if_true]
          have hl1 := put_len x.fID x.fV tw.fknown
          rw [apply_put hk hwx (by omega) hc (by simp only; omega) (by simp only; omega)]
          simp only [Option.bind_some, if_true]
          rw [if_pos (by omega)]
          have hp := lastK_put x.fID x last
          rw [if_neg hd] at hp
          refine log_l1 y xs (n + 1) _ _ _ hws (by omega) ⟨rise_put h.rise, by have := put_len x.fID x last; omega, hkeys, (h.kj.put x.fID x.fV hg hlj (by omega) (by omega) (by have := put_len x.fID x.fV j.fknown; omega)).re hp.symm, ?_⟩
          have t1 := h.kt.put (m := n + 1) x.fID x.fV hg hlt (by omega) (by omega) (by omega)
          have e2 : (mput x.fID x.fV (mput x.fID x.fV tw.fknown)).length = (mput x.fID x.fV tw.fknown).length := by
            have q1 := (mins_perm x.fID x.fV (mrem x.fID (mput x.fID x.fV tw.fknown))).length_eq
            have q2 : (mrem x.fID (mput x.fID x.fV tw.fknown)).Perm (mrem x.fID tw.fknown) := by
              rw [mrem_filter x.fID (mput x.fID x.fV tw.fknown)]
              refine ((mins_perm x.fID x.fV (mrem x.fID tw.fknown)).filter _).trans ?_
              rw [List.filter_cons, if_neg (by simp), mrem_filter, List.filter_filter]
              simp
            have q3 := (mins_perm x.fID x.fV (mrem x.fID tw.fknown)).length_eq
            have q4 := q2.length_eq
            simp only [List.length_cons] at q1 q3
            unfold mput at q1 q4 ⊢
            omega
          have t2 := t1.put (m := n + 1) x.fID x.fV hg t1.len (by simp only; omega) (Nat.le_refl _) (by simp only; rw [e2]; omega)
          rw [outK_cons, outK_out] at t2
          exact t2.re hp.symm
        · rw [if_pos hk, if_neg hc]
          simp only
          rw [if_neg hc]
          exact log_l1 y xs (n + 1) last tw j hws (by omega) same
      · rw [if_neg hk]
        simp only
        rw [if_neg (by decide)]
        exact log_l1 y xs (n + 1) last tw j hws (by omega) same
theorem wl2_eq (y : Bool) : ∀ (xs : List JournalEntry) (st : JournalJournal), f_top_WholeLog_l2 xs y st = f_l15_JournalApplies_l2 xs y st
  | [], st => by rw [f_top_WholeLog_l2, f_l15_JournalApplies_l2]
  | x :: xs, st => by
    rw [f_top_WholeLog_l2, f_l15_JournalApplies_l2]
    congr 1
    funext p
    obtain ⟨a, b⟩ := p
    simp only
    rw [wl2_eq y xs b]
theorem get_in {st : JournalJournal} {K : KV} {n : Nat} (h : Kn st K n) {k : List UInt8} {v : Val} (hm : (k, v) ∈ K) : f_journal_JournalGet st k = some (v, true, st) := by
  have hg := h.good _ hm
  have hk := (kr_fits hg.1).2.1
  have e := mem_get h.rise (h.perm.mem_iff.2 hm)
  unfold f_journal_JournalGet
  simp only [mhas, e, Option.isSome_some, if_true]
  rw [if_pos (by simp only at hk; omega), Option.bind_some, hg.copied, Option.bind_some]
theorem get_out {st : JournalJournal} {K : KV} {n : Nat} (h : Kn st K n) {k : List UInt8} (hl : k.length ≤ 500) (hm : ∀ v, (k, v) ∉ K) : f_journal_JournalGet st k = some (zVal, false, st) := by
  have e : mget k st.fknown = none := by
    cases hq : mget k st.fknown with
    | none => rfl
    | some v => exact absurd (h.perm.mem_iff.1 (get_mem hq)) (hm v)
  unfold f_journal_JournalGet
  simp only [mhas, e, Option.isSome_none, Bool.false_eq_true, if_false]
  rw [if_pos (by omega)]
  have : f_journal_copied (⟨0, 0, 0, 0, [], 0, 0⟩ : Val) = some zVal := copied_eq _ (by simp) (fun _ h => by cases h)
  rw [this, Option.bind_some]
theorem l3_eq {last : List (List UInt8 × CursitortopChange)} {kk tw j : JournalJournal} {n1 n2 n3 : Nat} (y : Bool) (hr : Rise last) (hkeys : ∀ p, p ∈ last → p.1.length ≤ 500) (h1 : Kn j (lastK last) n1) (h2 : Kn kk (lastK last) n2) (h3 : Kn tw (lastK last) n3) :
    ∀ (l : List (List UInt8 × CursitortopChange)) (m : Int), (∀ p, p ∈ l → p ∈ last) → 0 ≤ m → m + l.length ≤ 1000 → f_top_WholeLog_l3 l (y, m, kk, tw, j) = some (.go (y, m + (lastK l).length, kk, tw, j))
  | [], m, _, _, _ => by
    rw [f_top_WholeLog_l3]
    simp [lastK]
  | p :: l, m, hp, h0, hl => by
    simp only [List.length_cons] at hl
    have hpl := hp p List.mem_cons_self
    have ih := fun m => l3_eq y hr hkeys h1 h2 h3 l m (fun q hq => hp q (List.mem_cons_of_mem _ hq))
    obtain ⟨k, c⟩ := p
    rw [f_top_WholeLog_l3, f_top_WholeLog_l3_b]
    by_cases d : c.fDrop = true
    · have no : ∀ v, (k, v) ∉ lastK last := fun v hv => by
        obtain ⟨q, hq1, hq2⟩ := List.mem_filterMap.1 hv
        unfold sayK at hq2
        split at hq2
        · cases hq2
        · rename_i nd
          injection hq2 with hq2
          have e1 : q.1 = k := congrArg Prod.fst hq2
          have : q.2 = c := rise_one hr (k := k) (by rw [← e1]; exact hq1) hpl
          rw [this] at nd
          exact nd d
      have hkl := hkeys _ hpl
      rw [get_out h1 hkl no]
      simp only [Option.bind_some]
      rw [get_out h2 hkl no]
      simp only [Option.bind_some]
      rw [get_out h3 hkl no]
      simp only [Option.bind_some, d]
      rw [if_neg (by decide), if_pos (by decide), if_pos (by decide), if_neg (by decide), Option.bind_some, ih m h0 (by omega)]
      have : lastK ((k, c) :: l) = lastK l := by
        unfold lastK
        rw [List.filterMap_cons]
        simp only [sayK, d, if_true]
      rw [this]
    · have hm : (k, c.fV) ∈ lastK last := List.mem_filterMap.2 ⟨_, hpl, by unfold sayK; rw [if_neg d]⟩
      have d' : c.fDrop = false := by simpa using d
      have hs := (h1.good _ hm).same
      simp only at hs
      rw [get_in h1 hm]
      simp only [Option.bind_some]
      rw [get_in h2 hm]
      simp only [Option.bind_some]
      rw [get_in h3 hm]
      simp only [Option.bind_some, d']
      rw [if_neg (by decide), if_pos (by decide), if_pos (by decide), if_pos trivial, hs]
      simp only [Option.bind_some, if_true]
      rw [if_pos (by omega), Option.bind_some, ih (m + 1) (by omega) (by omega)]
      have : lastK ((k, c) :: l) = (k, c.fV) :: lastK l := by
        unfold lastK
        rw [List.filterMap_cons]
        simp only [sayK, d', Bool.false_eq_true, if_false]
      rw [this, List.length_cons]
      have e : m + 1 + ((lastK l).length : Int) = m + (((lastK l).length + 1 : Nat) : Int) := by omega
      rw [e]
theorem vname_eq : f_version_Name 26 = some [101, 110, 100] := by kernel_rfl
theorem pure_WholeLog (a0 : List CursitortopChange) (w0 : (wL wf_CursitortopChange) a0) : f_top_WholeLog a0 = some true := by
  unfold f_top_WholeLog
  rw [vname_eq]
  simp only [Option.bind_some, if_true, f_journal_New]
  by_cases hl : (a0.length : Int) > 30
  · rw [if_pos hl]
  rw [if_neg hl]
  have h0 : Kn ⟨[], 0⟩ [] 0 := ⟨.refl _, rise_nil, fun _ h => (by cases h), by simp, by simp, by simp⟩
  have hL : Log [] ⟨[], 0⟩ ⟨[], 0⟩ 0 := ⟨rise_nil, by simp, fun _ h => (by cases h), h0, h0⟩
  rcases log_l1 false a0 0 [] ⟨[], 0⟩ ⟨[], 0⟩ (fun c hc => (w0.2 c hc).2.2) (by omega) hL with h | ⟨last, tw, j, h, hL⟩
  · rw [h]
    rfl
  rw [h]
  simp only [Option.bind_some]
  have hB : f_journal_JournalCompact j = some (j.fknown.map entE, j) := by
    have hl := hL.kj.len
    unfold f_journal_JournalCompact gJIDs
    rw [if_pos (by omega), Option.bind_some]
    simp only
    rw [compact_loop hL.kj.rise (fun p hp => hL.kj.good p (hL.kj.perm.mem_iff.1 hp)) _ _ (fun _ h => h) (by simp only [List.length_nil]; omega)]
    rfl
  rw [hB]
  simp only [Option.bind_some]
  have hne : (j.fknown.map Prod.fst).Pairwise (fun a b => a ≠ b) := hL.kj.rise.imp (fun {a b} hab e => by rw [e, bb_irr] at hab; cases hab)
  have hlj := hL.kj.len
  obtain ⟨k, e1, e2, e3, e4⟩ := again_loop false j.fknown ⟨[], 0⟩ (fun p hp => hL.kj.good p (hL.kj.perm.mem_iff.1 hp)) rise_nil (fun _ _ _ h => by cases h) hne (by simp only [List.length_nil]; omega) rfl
  rw [List.append_nil] at e2
  rw [wl2_eq, e1]
  simp only [Option.bind_some]
  have hlen := e2.length_eq
  have hk : Kn k (lastK last) 100 := ⟨e2.trans hL.kj.perm, e3, hL.kj.good, by omega, by omega, by omega⟩
  have hll := hL.len
  have hany : anyOrd (fun l => f_top_WholeLog_l3 l (false, 0, k, tw, j)) last = some (.go (false, 0 + ((lastK last).length : Int), k, tw, j)) := by
    refine anyOrd_of fun l hp => ?_
    have := l3_eq false hL.rise hL.keys hL.kj hk hL.kt l 0 (fun p hq => hp.mem_iff.1 hq) (by omega) (by have := hp.length_eq; omega)
    rw [this]
    have e : (lastK l).length = (lastK last).length := (hp.filterMap sayK).length_eq
    rw [e]
  rw [hany]
  have k1 := hL.kj.perm.length_eq
  simp only [Option.bind_some]
  unfold gJIDs
  rw [if_pos (by omega)]
  simp only [Option.bind_some, List.length_map]
  rw [if_pos (by omega), if_pos (by omega)]
  simp only [Option.bind_some, List.length_map, many_eq]
  rw [if_pos (by omega), if_pos (by omega)]
end Go.Proofs.Ytlhgogjcaegehaa.Sl
namespace Go.Proofs.Ytlhgogjcaegehaa.Sl
open Go.RowKit Go.Deep Go.ChangeShapes
set_option linter.unusedVariables false
theorem op_Top {H : Type} {enc : TypeId × Value → H} : OpensW enc Try.prog 46 (andRd Top_rd wf_Top) :=
  opensW_weak (fun x => ⟨x.1, x.2.1⟩) (opensW_struct Try.underlying46 (by kernel_rfl) (opensWFs_cons 1 (by kernel_rfl) (by kernel_rfl) (op_str Try.underlying9) (opensWFs_cons 1 (by kernel_rfl) (by kernel_rfl) (op_slice 1 8 Try.underlying44 (by kernel_rfl) (by kernel_rfl) (by decide) (by decide) (op_i64 Try.underlying3)) (opensWFs_nil _)))) (by
    rintro w S cs ⟨x0, x1, _⟩ ⟨_, _, rfl, ⟨p0, q0⟩, _, _, rfl, ⟨p1, q1⟩, rfl⟩
    obtain rfl := p0
    obtain ⟨A1, c1, rfl⟩ := slice_cells p1
    exact ⟨⟨A1, c1, rfl, p1⟩, q0, q1⟩)
theorem op_Val {H : Type} {enc : TypeId × Value → H} : OpensW enc Try.prog 24 (andRd Val_rd wf_Val) :=
  opensW_weak (fun x => ⟨x.1, x.2.1, x.2.2.1, x.2.2.2.1, x.2.2.2.2.1, x.2.2.2.2.2.1, x.2.2.2.2.2.2.1⟩) (opensW_struct Try.underlying24 (by kernel_rfl) (opensWFs_cons 1 (by kernel_rfl) (by kernel_rfl) (op_i64 Try.underlying3) (opensWFs_cons 1 (by kernel_rfl) (by kernel_rfl) (op_i64 Try.underlying3) (opensWFs_cons 1 (by kernel_rfl) (by kernel_rfl) (op_i64 Try.underlying3) (opensWFs_cons 1 (by kernel_rfl) (by kernel_rfl) (op_i64 Try.underlying3) (opensWFs_cons 1 (by kernel_rfl) (by kernel_rfl) (op_slice 2 40 Try.underlying22 (by kernel_rfl) (by kernel_rfl) (by decide) (by decide) op_Top) (opensWFs_cons 1 (by kernel_rfl) (by kernel_rfl) (op_i64 Try.underlying3) (opensWFs_cons 1 (by kernel_rfl) (by kernel_rfl) (op_i64 Try.underlying3) (opensWFs_nil _))))))))) (by
    rintro w S cs ⟨x0, x1, x2, x3, x4, x5, x6, _⟩ ⟨_, _, rfl, ⟨p0, q0⟩, _, _, rfl, ⟨p1, q1⟩, _, _, rfl, ⟨p2, q2⟩, _, _, rfl, ⟨p3, q3⟩, _, _, rfl, ⟨p4, q4⟩, _, _, rfl, ⟨p5, q5⟩, _, _, rfl, ⟨p6, q6⟩, rfl⟩
    obtain rfl := p0
    obtain rfl := p1
    obtain rfl := p2
    obtain rfl := p3
    obtain ⟨A4, c4, rfl⟩ := slice_cells p4
    obtain rfl := p5
    obtain rfl := p6
    exact ⟨⟨A4, c4, rfl, p4⟩, q0, q1, q2, q3, q4, q5, q6⟩)
theorem op_CursitortopChange {H : Type} {enc : TypeId × Value → H} : OpensW enc Try.prog 65 (andRd CursitortopChange_rd wf_CursitortopChange) :=
  opensW_weak (fun x => ⟨x.1, x.2.1, x.2.2.1⟩) (opensW_struct Try.underlying65 (by kernel_rfl) (opensWFs_cons 1 (by kernel_rfl) (by kernel_rfl) (op_str Try.underlying9) (opensWFs_cons 1 (by kernel_rfl) (by kernel_rfl) (op_bool Try.underlying4) (opensWFs_cons 7 (by kernel_rfl) (by kernel_rfl) op_Val (opensWFs_nil _))))) (by
    rintro w S cs ⟨x0, x1, x2, _⟩ ⟨_, _, rfl, ⟨p0, q0⟩, _, _, rfl, ⟨p1, q1⟩, _, _, rfl, ⟨p2, q2⟩, rfl⟩
    obtain rfl := p0
    obtain rfl := p1
    obtain ⟨A2_0, c2_0, rfl, p2_0⟩ := p2
    exact ⟨⟨A2_0, c2_0, rfl, p2_0⟩, q0, q1, q2⟩)
end Go.Proofs.Ytlhgogjcaegehaa.Sl
namespace Go.Proofs.Ytlhgogjcaegehaa.wholeLog
open Go.ChangeShapes Go.WideShapes Go.ChangeAt Go.RowKit
open Go.ChangeMaps (open_string shut_string)
set_option linter.unusedVariables false
theorem own : ownKnob Try.prog.godebug = none := by kernel_rfl
theorem laidOut : laidOutB Try.prog = true := by kernel_rfl
set_option maxRecDepth 100000 in
set_option maxHeartbeats 1000000 in
theorem lifted (os : Os) (started : os.Started) (H : Type) (enc : TypeId × Value → H) :
    ReturnsInHanded {} Try.checked os 5 .any (Rows.wholeLogSpec.pre6 enc Try.prog Try.f5 Rows.wholeLogRow.domain false) (Rows.wholeLogSpec.post enc Try.prog Try.f5 false true false false) := by
  refine returnsInHanded_of_change_sized (C := Try.checked) own started (by kernel_rfl) Try.func5
    (ChangeSpec.witness6 (enc := enc) (C := Try.checked) false ⟨#[], #[.slice none 0 0], []⟩ 8 (by kernel_rfl) (by kernel_rfl) (by kernel_rfl) (by kernel_rfl)) ?_
  intro W base args ds gs before hval0 hW hcnd hsz0 _
  have hsz : (DataW.weightsEach Try.prog (Try.f5.params.toList ++ Rows.wholeLogSpec.plain.varTypes Try.prog) (ds ++ gs)).all (· ≤ reachBytes) = true := hsz0
  have hval : ∀ (j : Nat) t v, Try.f5.params[j]? = some t → args[j]? = some v → Value.okWide Try.prog W .any base t v := hval0
  have hW' := hW
  obtain ⟨p, q, hA0, hV, rfl, hfz, hnd⟩ := hW
  have hA : DataW.TrodAll enc Try.prog W 0 (fun _ => true) true Try.f5.params.toList args.toList ds p := hA0
  rw [Try.params5] at hA hval hsz
  obtain ⟨v0, vs0, d0, ds0, p0, q0, hargs, rfl, rfl, h0, r0⟩ := trodAll_cons hA
  obtain ⟨rfl, rfl, rfl⟩ := trodAll_nil r0
  obtain rfl : args = #[v0] := by cases args; simp_all
  obtain ⟨rfl, rfl⟩ := trodVars_none hV
  have k0 := h0
  have lt0 : ∀ x ∈ p0, x.block < W.heap.size := by obtain ⟨m, hm⟩ := k0; exact DataW.trod_lt m _ _ _ hm
  obtain ⟨a0, r_0, w0⟩ := Sl.opens_arg1 Try.underlying61 (hval 0 61 v0 rfl rfl) (Sl.op_slice 9 96 Try.underlying61 (by kernel_rfl) (by kernel_rfl) (by decide) (by decide) Sl.op_CursitortopChange) h0 (fun x hx => of_decide_eq_true (List.all_eq_true.1 hsz x (Sl.weights_in 0 rfl rfl hx)))
  obtain ⟨A0, c0, e0⟩ := Sl.slice_cells r_0
  injection e0 with e0
  subst e0
  clear hA0 hval0 hsz0 hsz
  refine (Sl.f_top_WholeLog_spec a0 A0 c0 true (Sl.pure_WholeLog a0 w0) (fun _ => False) W (fun _ h => h) (Sl.RX.reads_all r_0)).mono fun e W' hP => ?_
  obtain ⟨v, A', Ns, rfl, ⟨rfl, rfl, rfl⟩, hst⟩ := hP
  have bel := Sl.St.below hst
  exact ⟨_, rfl, _, _, _, [], _, [], hW', trodAll_mk1 (shut_bool Try.underlying4 _), (trodAll_cons_mk (Below.trod laidOut (by kernel_rfl) (of_decide_eq_true (by kernel_rfl)) k0 bel lt0) trodAll_mk0), rfl, bel.frame _, fun h => by cases h⟩
theorem over : Rows.wholeLogRow.holds Try.pinned (OpenSpec.ofChange Rows.wholeLogSpec) :=
  OpenClaim.holds_of_wide 5 Try.f5 rfl rfl rfl rfl rfl rfl rfl ⟨rfl, rfl, rfl, rfl, rfl⟩ rfl rfl rfl rfl rfl (by kernel_rfl) Try.func5 (by kernel_rfl)
    (of_decide_eq_true (by kernel_rfl)) (by unfold Func.isWrapper; first | (rw [if_pos (by decide +kernel)]; kernel_rfl) | (rw [if_neg (by decide +kernel)]; exact ⟨rfl, rfl⟩))
    (fun os started H enc _ => lifted os started H enc)
theorem proved : Rows.WholeLogSaid := over
end Go.Proofs.Ytlhgogjcaegehaa.wholeLog
namespace Go.Proofs.Ytlhgogjcaegehaa
theorem wholeLog_holds : Rows.WholeLogSaid := wholeLog.proved
end Go.Proofs.Ytlhgogjcaegehaa
