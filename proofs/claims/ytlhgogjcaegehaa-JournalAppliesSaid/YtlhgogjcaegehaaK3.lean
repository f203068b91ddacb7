/- JournalApplies: for every input the law returns true, and its arguments read behind the call as they did before. -/
import Derived.Test.YtlhgogjcaegehaaRows
import Derived.WalkKit
import Derived.ProofKit
import Derived.OpenShut
import Derived.ShutString
import Derived.ChangeOld
import Derived.Below
import Derived.SizedLaws
import Derived.Test.YtlhgogjcaegehaaK2
namespace Go.Proofs.Ytlhgogjcaegehaa.Sl
open Go.RowKit
set_option linter.unusedVariables false
set_option linter.unusedSimpArgs false
set_option maxRecDepth 100000
def ft_journal : FTab := [(24, 4, 4), (28, 0, 0), (28, 1, 1), (30, 0, 0), (30, 1, 1), (46, 0, 0), (46, 1, 1), (81, 0, 0), (81, 1, 1)]
theorem ft_journal_ok : (ft_journal).OK Try.prog := ⟨FOK.mk Try.runUnderlying24 rfl Try.sizeOf22 rfl, FOK.mk Try.runUnderlying28 rfl Try.sizeOf4 rfl, FOK.mk Try.runUnderlying28 rfl Try.sizeOf9 rfl, FOK.mk Try.runUnderlying30 rfl Try.sizeOf9 rfl, FOK.mk Try.runUnderlying30 rfl Try.sizeOf28 rfl, FOK.mk Try.runUnderlying46 rfl Try.sizeOf9 rfl, FOK.mk Try.runUnderlying46 rfl Try.sizeOf44 rfl, FOK.mk Try.runUnderlying81 rfl Try.sizeOf79 rfl, FOK.mk Try.runUnderlying81 rfl Try.sizeOf3 rfl, trivial⟩
def nt_journal : List Nat := [3, 4, 9, 22, 79]
theorem nt_journal_ok : NOK Try.prog nt_journal := ⟨Try.isAgg3, Try.isAgg4, Try.isAgg9, Try.isAgg22, Try.isAgg79, trivial⟩
theorem mix_journal : Try.prog.follows .mixedOrders = true := by kernel_rfl
theorem bok_journal_30 : BOK Try.prog 30 #[.string ⟨#[]⟩, .bool false, .string ⟨#[]⟩] [(0, 1), (1, 2)] := BOK.mk Try.zeroValue30 Try.runUnderlying30 (by intro w; simp)
theorem bok_journal_46 : BOK Try.prog 46 #[.string ⟨#[]⟩, .slice none 0 0] [(0, 1), (1, 1)] := BOK.mk Try.zeroValue46 Try.runUnderlying46 (by intro w; simp)
theorem bok_journal_81 : BOK Try.prog 81 #[.map none, .int .i64 0] [(0, 1), (1, 1)] := BOK.mk Try.zeroValue81 Try.runUnderlying81 (by intro w; simp)
theorem sok_journal_22_1 : SOK Try.prog 22 46 1 2 #[.string ⟨#[]⟩, .slice none 0 0] := SOK.mk Try.runUnderlying22 Try.sizeOf46 Try.zeroValue46 (by decide) (by kernel_rfl)
theorem sok_journal_51_1 : SOK Try.prog 51 30 1 3 #[.string ⟨#[]⟩, .bool false, .string ⟨#[]⟩] := SOK.mk Try.runUnderlying51 Try.sizeOf30 Try.zeroValue30 (by decide) (by kernel_rfl)
theorem inf_journal_30 : (Try.prog.info? 30).map (fun i => (i.zero, i.size, i.bytes)) = some (some (.agg #[.string ⟨#[]⟩, .bool false, .string ⟨#[]⟩]), 3, 40) := by kernel_rfl
theorem inf_journal_46 : (Try.prog.info? 46).map (fun i => (i.zero, i.size, i.bytes)) = some (some (.agg #[.string ⟨#[]⟩, .slice none 0 0]), 2, 40) := by kernel_rfl
def f_journal_Put (a0 : List UInt8) (a1 : Val) : Option (JournalEntry × Int) := (gKEncode a0).bind fun (x5, x6) => if x6 = 0 then ((f_value_Encode a1).bind fun (x9, x10) => if x10 = 0 then ((gOf x9).bind fun x13 => some ((⟨x5, x13⟩ : JournalEntry), 0)) else (some ((⟨[], (⟨false, []⟩ : Bl)⟩ : JournalEntry), x10))) else (some ((⟨[], (⟨false, []⟩ : Bl)⟩ : JournalEntry), x6))
set_option maxRecDepth 100000 in
set_option maxHeartbeats 4000000 in
theorem f_journal_Put_spec (a0 : List UInt8) (a1 : Val) (A1 : Option Addr) (c2 : Nat) (r : JournalEntry × Int) (h : f_journal_Put a0 a1 = some r) : SpecX Try.prog 8 #[.string (bsOf a0), .agg #[.int .i64 a1.fProducer, .int .i64 a1.fEpoch, .int .i64 a1.fTimeout, .int .i64 a1.fState, .slice A1 a1.fTopics.length c2, .int .i64 a1.fUpdated, .int .i64 a1.fStarted]] (RX.of (sliceRd 2 Top_rd) [.slice A1 a1.fTopics.length c2] a1.fTopics) (EmpR) (fun v A' N => v = .tuple #[.agg #[.string (bsOf r.1.fKey), .bool r.1.fValue.null, .string (bsOf r.1.fValue.data)], .int .i64 r.2] ∧ A' = EmpR ∧ N = []) := by
  refine enterA Try.func8 rfl Try.ntmps8 rfl ?_
  intro F w hX
  unfold f_journal_Put at h
  refine T.seq (T.region rfl ?_)
  refine TL.box rfl .u rfl rfl (fun b3 => ?_)
  refine TL.alloc rfl .u Try.zeroValue30 rfl (fun b4 => ?_)
  refine TL.run ft_journal_ok [2] rfl rfl ?_
  refine TL.nil (X.seq (T.seq (T.region rfl ?_)))
  obtain ⟨⟨x5, x6⟩, hx7, h⟩ := Option.bind_eq_some_iff.1 h
  try dsimp only at h
  refine TL.run ft_journal_ok [0] rfl rfl ?_
  refine TL.ce rfl .u (.fn Try.call10 rfl) (gKEncode_spec a0 _ hx7) (fun _ hs => (RX.reads_triv _ _)) rfl ?_
  refine TL.run ft_journal_ok [2, 3, 4, 5, 6] rfl rfl ?_
  refine TL.nil (X.seq (T.seq (T.seq (T.region rfl ?_))))
  refine TL.run ft_journal_ok [0, 1] rfl rfl ?_
  by_cases c8 : x6 = 0
  · replace h := ifT c8 h
    refine TL.nil (X.seq ?_)
    refine T.no rfl (bn_f (decide_eq_true c8)) ?_
    refine T.skip (X.seq (T.seq (T.region rfl ?_)))
    refine TL.q rfl .u (Ex.bS (us := [.int .i64 a1.fProducer, .int .i64 a1.fEpoch, .int .i64 a1.fTimeout, .int .i64 a1.fState, .slice A1 a1.fTopics.length c2, .int .i64 a1.fUpdated, .int .i64 a1.fStarted]) 1 rfl Try.isAgg24 Try.sizeOf24 rfl rfl rfl) rfl ?_
    obtain ⟨⟨x9, x10⟩, hx11, h⟩ := Option.bind_eq_some_iff.1 h
    try dsimp only at h
    refine TL.ce rfl .u (.fn Try.call26 rfl) (f_value_Encode_spec a1 _ _ _ hx11) (fun _ hs => (SrcE.old hs hX)) rfl ?_
    refine TL.run ft_journal_ok [2, 3, 4, 5, 6] rfl rfl ?_
    refine TL.nil (X.seq (T.seq (T.seq (T.region rfl ?_))))
    refine TL.run ft_journal_ok [0, 1] rfl rfl ?_
    by_cases c12 : x10 = 0
    · replace h := ifT c12 h
      refine TL.nil (X.seq ?_)
      refine T.no rfl (bn_f (decide_eq_true c12)) ?_
      refine T.skip (X.seq (T.seq (T.region rfl ?_)))
      obtain ⟨x13, hx14, h⟩ := Option.bind_eq_some_iff.1 h
      refine TL.run ft_journal_ok [0, 1] rfl rfl ?_
      refine TL.ce rfl .u (.fn Try.call27 rfl) (gOf_spec x9 _ hx14) (fun _ hs => (RX.reads_triv _ _)) rfl ?_
      refine TL.q rfl .u (Ex.bld (cells := #[.string (bsOf x5), .bool x13.null, .string (bsOf x13.data)]) bok_journal_30 rfl (by kernel_rfl)) rfl ?_
      refine TL.st0 (cs' := #[.string (bsOf x5), .bool x13.null, .string (bsOf x13.data)]) rfl .u rfl rfl Try.sizeOf30 rfl rfl rfl rfl ?_
      refine TL.run ft_journal_ok [5] rfl rfl ?_
      obtain rfl := Option.some.inj h
      exact TL.nil (X.seq (T.ret (X.done2 [2] Try.results8 (RV.cS (us := #[.string (bsOf x5), .bool x13.null, .string (bsOf x13.data)]) 0 rfl Try.isAgg30 Try.sizeOf30 rfl rfl) (RV.tm rfl) ⟨rfl, rfl, rfl⟩ (by rfl) (.inl rfl))))
    · replace h := ifF c12 h
      refine TL.nil (X.seq ?_)
      refine T.yes rfl (bn_t (decide_eq_false c12)) ?_
      refine T.seq (T.region rfl ?_)
      refine TL.q rfl .u (Ex.bld (cells := #[.string ⟨#[]⟩, .bool false, .string ⟨#[]⟩]) bok_journal_30 rfl (by kernel_rfl)) rfl ?_
      refine TL.run ft_journal_ok [1] rfl rfl ?_
      refine TL.st0 (cs' := #[.string ⟨#[]⟩, .bool false, .string ⟨#[]⟩]) rfl .u rfl rfl Try.sizeOf30 rfl rfl rfl rfl ?_
      refine TL.run ft_journal_ok [3] rfl rfl ?_
      obtain rfl := Option.some.inj h
      exact TL.nil (X.seq (T.ret (X.rs (X.done2 [2] Try.results8 (RV.cS (us := #[.string ⟨#[]⟩, .bool false, .string ⟨#[]⟩]) 0 rfl Try.isAgg30 Try.sizeOf30 rfl rfl) (RV.tm rfl) ⟨rfl, rfl, rfl⟩ (by rfl) (.inl rfl)))))
  · replace h := ifF c8 h
    refine TL.nil (X.seq ?_)
    refine T.yes rfl (bn_t (decide_eq_false c8)) ?_
    refine T.seq (T.region rfl ?_)
    refine TL.q rfl .u (Ex.bld (cells := #[.string ⟨#[]⟩, .bool false, .string ⟨#[]⟩]) bok_journal_30 rfl (by kernel_rfl)) rfl ?_
    refine TL.run ft_journal_ok [1] rfl rfl ?_
    refine TL.st0 (cs' := #[.string ⟨#[]⟩, .bool false, .string ⟨#[]⟩]) rfl .u rfl rfl Try.sizeOf30 rfl rfl rfl rfl ?_
    refine TL.run ft_journal_ok [3] rfl rfl ?_
    obtain rfl := Option.some.inj h
    exact TL.nil (X.seq (T.ret (X.rs (X.done2 [2] Try.results8 (RV.cS (us := #[.string ⟨#[]⟩, .bool false, .string ⟨#[]⟩]) 0 rfl Try.isAgg30 Try.sizeOf30 rfl rfl) (RV.tm rfl) ⟨rfl, rfl, rfl⟩ (by rfl) (.inl rfl)))))
def f_journal_Drop (a0 : List UInt8) : Option (JournalEntry × Int) := (gKEncode a0).bind fun (x2, x3) => if x3 = 0 then ((gNone).bind fun x6 => some ((⟨x2, x6⟩ : JournalEntry), 0)) else (some ((⟨[], (⟨false, []⟩ : Bl)⟩ : JournalEntry), x3))
set_option maxRecDepth 100000 in
set_option maxHeartbeats 4000000 in
theorem f_journal_Drop_spec (a0 : List UInt8) (r : JournalEntry × Int) (h : f_journal_Drop a0 = some r) : SpecX Try.prog 9 #[.string (bsOf a0)] .triv (EmpR) (fun v A' N => v = .tuple #[.agg #[.string (bsOf r.1.fKey), .bool r.1.fValue.null, .string (bsOf r.1.fValue.data)], .int .i64 r.2] ∧ A' = EmpR ∧ N = []) := by
  refine enterA Try.func9 rfl Try.ntmps9 rfl ?_
  intro F w hX
  unfold f_journal_Drop at h
  refine T.seq (T.region rfl ?_)
  refine TL.alloc rfl .u Try.zeroValue30 rfl (fun b1 => ?_)
  refine TL.run ft_journal_ok [1] rfl rfl ?_
  refine TL.nil (X.seq (T.seq (T.region rfl ?_)))
  obtain ⟨⟨x2, x3⟩, hx4, h⟩ := Option.bind_eq_some_iff.1 h
  try dsimp only at h
  refine TL.run ft_journal_ok [0] rfl rfl ?_
  refine TL.ce rfl .u (.fn Try.call10 rfl) (gKEncode_spec a0 _ hx4) (fun _ hs => (RX.reads_triv _ _)) rfl ?_
  refine TL.run ft_journal_ok [2, 3, 4, 5, 6] rfl rfl ?_
  refine TL.nil (X.seq (T.seq (T.seq (T.region rfl ?_))))
  refine TL.run ft_journal_ok [0, 1] rfl rfl ?_
  by_cases c5 : x3 = 0
  · replace h := ifT c5 h
    refine TL.nil (X.seq ?_)
    refine T.no rfl (bn_f (decide_eq_true c5)) ?_
    refine T.skip (X.seq (T.seq (T.region rfl ?_)))
    obtain ⟨x6, hx7, h⟩ := Option.bind_eq_some_iff.1 h
    refine TL.run ft_journal_ok [0] rfl rfl ?_
    refine TL.ce rfl .u (.fn Try.call28 rfl) (gNone_spec _ hx7) (fun _ hs => (RX.reads_triv _ _)) rfl ?_
    refine TL.q rfl .u (Ex.bld (cells := #[.string (bsOf x2), .bool x6.null, .string (bsOf x6.data)]) bok_journal_30 rfl (by kernel_rfl)) rfl ?_
    refine TL.st0 (cs' := #[.string (bsOf x2), .bool x6.null, .string (bsOf x6.data)]) rfl .u rfl rfl Try.sizeOf30 rfl rfl rfl rfl ?_
    refine TL.run ft_journal_ok [4] rfl rfl ?_
    obtain rfl := Option.some.inj h
    exact TL.nil (X.seq (T.ret (X.done2 [1] Try.results9 (RV.cS (us := #[.string (bsOf x2), .bool x6.null, .string (bsOf x6.data)]) 0 rfl Try.isAgg30 Try.sizeOf30 rfl rfl) (RV.tm rfl) ⟨rfl, rfl, rfl⟩ (by rfl) (.inl rfl))))
  · replace h := ifF c5 h
    refine TL.nil (X.seq ?_)
    refine T.yes rfl (bn_t (decide_eq_false c5)) ?_
    refine T.seq (T.region rfl ?_)
    refine TL.q rfl .u (Ex.bld (cells := #[.string ⟨#[]⟩, .bool false, .string ⟨#[]⟩]) bok_journal_30 rfl (by kernel_rfl)) rfl ?_
    refine TL.run ft_journal_ok [1] rfl rfl ?_
    refine TL.st0 (cs' := #[.string ⟨#[]⟩, .bool false, .string ⟨#[]⟩]) rfl .u rfl rfl Try.sizeOf30 rfl rfl rfl rfl ?_
    refine TL.run ft_journal_ok [3] rfl rfl ?_
    obtain rfl := Option.some.inj h
    exact TL.nil (X.seq (T.ret (X.rs (X.done2 [1] Try.results9 (RV.cS (us := #[.string ⟨#[]⟩, .bool false, .string ⟨#[]⟩]) 0 rfl Try.isAgg30 Try.sizeOf30 rfl rfl) (RV.tm rfl) ⟨rfl, rfl, rfl⟩ (by rfl) (.inl rfl)))))
def f_journal_New  : Option (JournalJournal) := some (⟨[], 0⟩ : JournalJournal)
set_option maxRecDepth 100000 in
set_option maxHeartbeats 4000000 in
theorem f_journal_New_spec  (r : JournalJournal) (h : f_journal_New  = some r) : SpecX Try.prog 12 #[] .triv (EmpR) (fun v A' N => ∃ q : Nat, v = .pointer (some ⟨q, 0, none⟩) ∧ A' = EmpR ∧ N = [MbR_JournalJournal q r]) := by
  refine enterA Try.func12 rfl Try.ntmps12 rfl ?_
  intro F w hX
  unfold f_journal_New at h
  refine T.seq (T.region rfl ?_)
  refine TL.run ft_journal_ok [0] rfl rfl ?_
  refine TL.nil (X.seq (T.seq (T.region rfl ?_)))
  refine TL.mkmap (kt := 9) Val_rd rfl .u rfl (fun b1 => ?_)
  refine TL.q rfl .u (Ex.bld (cells := #[.map (some b1), .int .i64 0]) bok_journal_81 rfl (by kernel_rfl)) rfl ?_
  refine TL.box rfl .u rfl rfl (fun b2 => ?_)
  refine TL.run ft_journal_ok [3] rfl rfl ?_
  obtain rfl := Option.some.inj h
  refine TL.nil (X.seq (T.ret ?_))
  refine X.sel [0, 0, 0] rfl ?_
  refine MbR_JournalJournal_shut b2 (⟨[], 0⟩ : JournalJournal) b1 rfl ?_
  exact X.done1 [1, 0] Try.results12 (RV.tm rfl) ⟨_, rfl, rfl, rfl⟩ (by rfl) (.inl rfl)
def f_journal_JournalApply (st : JournalJournal) (a1 : JournalEntry) : Option (Int × JournalJournal) := (gKDecode a1.fKey).bind fun (x3, x4) => if x4 = 0 then ((gRight a1.fValue).bind fun x7 => if x7 = true then (if a1.fValue.null = true then (if x3.length ≤ 140737488355328 then (if -9223372036854775808 ≤ (st.fmany + 1) ∧ (st.fmany + 1) ≤ 9223372036854775807 then (some (0, (⟨(mrem x3 st.fknown), (st.fmany + 1)⟩ : JournalJournal))) else none) else none) else ((f_value_Decode a1.fValue.data).bind fun (x13, x16) => if x16 = 0 then (if st.fknown.length + 1 ≤ 140737488355328 ∧ x3.length ≤ 140737488355328 then (if -9223372036854775808 ≤ (st.fmany + 1) ∧ (st.fmany + 1) ≤ 9223372036854775807 then (some (0, (⟨(mput x3 x13 st.fknown), (st.fmany + 1)⟩ : JournalJournal))) else none) else none) else some (x16, st))) else some (4, st)) else some (x4, st)
set_option maxRecDepth 100000 in
set_option maxHeartbeats 4000000 in
theorem f_journal_JournalApply_spec (g : Nat) (st : JournalJournal) (a1 : JournalEntry) (r : Int × JournalJournal) (h : f_journal_JournalApply st a1 = some r) : SpecX Try.prog 14 #[.pointer (some ⟨g, 0, none⟩), .agg #[.string (bsOf a1.fKey), .bool a1.fValue.null, .string (bsOf a1.fValue.data)]] .triv (MbR_JournalJournal g st) (fun v A' N => v = .int .i64 r.1 ∧ A' = MbR_JournalJournal g r.2 ∧ N = []) := by
  refine enterA Try.func14 rfl Try.ntmps14 rfl ?_
  intro F w hX
  refine T.pakOpen 0 rfl ?_
  rintro b1
  refine T.sel [0, 0] rfl ?_
  unfold f_journal_JournalApply at h
  refine T.seq (T.region rfl ?_)
  refine TL.box rfl .u rfl rfl (fun b2 => ?_)
  refine TL.run ft_journal_ok [1] rfl rfl ?_
  refine TL.nil (X.seq (T.seq (T.region rfl ?_)))
  obtain ⟨⟨x3, x4⟩, hx5, h⟩ := Option.bind_eq_some_iff.1 h
  try dsimp only at h
  refine TL.rb ft_journal_ok nt_journal_ok 0 rfl 2 rfl rfl ?_
  refine TL.ce rfl .u (.fn Try.call18 rfl) (gKDecode_spec a1.fKey _ hx5) (fun _ hs => (RX.reads_triv _ _)) rfl ?_
  refine TL.run ft_journal_ok [3, 4, 5, 6, 7] rfl rfl ?_
  refine TL.nil (X.seq (T.seq (T.seq (T.region rfl ?_))))
  refine TL.run ft_journal_ok [0, 1] rfl rfl ?_
  by_cases c6 : x4 = 0
  · replace h := ifT c6 h
    refine TL.nil (X.seq ?_)
    refine T.no rfl (bn_f (decide_eq_true c6)) ?_
    refine T.skip (X.seq (T.seq (T.seq (T.region rfl ?_))))
    refine TL.run ft_journal_ok [0] rfl rfl ?_
    refine TL.q rfl .u (Ex.bS (us := [.bool a1.fValue.null, .string (bsOf a1.fValue.data)]) 0 rfl Try.isAgg28 Try.sizeOf28 rfl rfl rfl) rfl ?_
    obtain ⟨x7, hx8, h⟩ := Option.bind_eq_some_iff.1 h
    refine TL.ce rfl .u (.fn Try.call36 rfl) (gRight_spec a1.fValue _ hx8) (fun _ hs => (RX.reads_triv _ _)) rfl ?_
    refine TL.run ft_journal_ok [3] rfl rfl ?_
    by_cases c9 : x7 = true
    · replace h := ifT c9 h
      refine TL.nil (X.seq ?_)
      refine T.no rfl (bn_f c9) ?_
      refine T.skip (X.seq (T.seq (T.seq (T.region rfl ?_))))
      refine TL.rb ft_journal_ok nt_journal_ok 0 rfl 3 rfl rfl ?_
      by_cases c10 : a1.fValue.null = true
      · replace h := ifT c10 h
        refine TL.nil (X.seq ?_)
        refine T.yes rfl c10 ?_
        refine T.region rfl ?_
        replace h := guard_some h
        obtain ⟨c11, h⟩ := h
        refine TL.rb ft_journal_ok nt_journal_ok 1 rfl 5 rfl rfl ?_
        refine TL.mdel (k := x3) 2 rfl .u rfl rfl Try.underlying79 Try.underlying9 c11 rfl rfl ?_
        refine TL.sel [0, 0, 0] rfl ?_
        refine TL.nil (X.seq (T.seq (T.region rfl ?_)))
        replace h := guard_some h
        obtain ⟨c12, h⟩ := h
        refine TL.rb ft_journal_ok nt_journal_ok 1 rfl 4 rfl rfl ?_
        refine TL.q rfl .u (Ex.add rfl rfl c12) rfl ?_
        refine TL.run ft_journal_ok [5, 6] rfl rfl ?_
        refine TL.st1 (cs' := #[.map (some b1), .int .i64 (st.fmany + 1)]) rfl .u rfl rfl Try.sizeOf3 rfl rfl rfl rfl ?_
        refine TL.nil (X.seq (T.seq (T.region rfl ?_)))
        refine TL.run ft_journal_ok [0] rfl rfl ?_
        obtain rfl := Option.some.inj h
        refine TL.nil (X.seq (T.ret ?_))
        refine X.sel [1, 1, 0] rfl ?_
        refine MbR_JournalJournal_shut g (⟨(mrem x3 st.fknown), (st.fmany + 1)⟩ : JournalJournal) b1 rfl ?_
        exact X.done1 [0] Try.results14 (RV.tm rfl) ⟨rfl, rfl, rfl⟩ (by rfl) (.inl rfl)
      · replace h := ifF c10 h
        replace c10 := eq_false_of_ne_true c10
        refine TL.nil (X.seq ?_)
        refine T.no rfl c10 ?_
        refine T.seq (T.region rfl ?_)
        obtain ⟨⟨x13, x16⟩, hx17, h⟩ := Option.bind_eq_some_iff.1 h
        try dsimp only at h
        refine TL.rb ft_journal_ok nt_journal_ok 0 rfl 3 rfl rfl ?_
        refine TL.cge rfl .u (.fn Try.call20 rfl) (f_value_Decode_spec a1.fValue.data _ hx17) (fun _ hs => (RX.reads_triv _ _)) rfl ?_
        rintro _ _ _ ⟨A14, c15, rfl, rfl, rfl⟩
        refine TL.sel [0, 0, 0, 0] rfl ?_
        refine TL.run ft_journal_ok [4, 5, 6] rfl rfl ?_
        refine TL.alloc rfl .u Try.zeroValue24 rfl (fun b18 => ?_)
        refine TL.st0 (cs' := #[.int .i64 x13.fProducer, .int .i64 x13.fEpoch, .int .i64 x13.fTimeout, .int .i64 x13.fState, .slice A14 x13.fTopics.length c15, .int .i64 x13.fUpdated, .int .i64 x13.fStarted]) rfl .u rfl rfl Try.sizeOf24 rfl rfl rfl rfl ?_
        refine TL.run ft_journal_ok [9] rfl rfl ?_
        refine TL.nil (X.seq (T.seq (T.seq (T.region rfl ?_))))
        refine TL.run ft_journal_ok [0, 1] rfl rfl ?_
        by_cases c19 : x16 = 0
        · replace h := ifT c19 h
          refine TL.nil (X.seq ?_)
          refine T.no rfl (bn_f (decide_eq_true c19)) ?_
          refine T.skip (X.seq (T.draw (.q 0 (.q 1 (.q 2 (.q 3 (.q 4 (.q 5 (.e 6 .nil))))))) [0, 1, 1] rfl mix_journal (NoP.seq np_post) (by kernel_rfl) ?_))
          refine TD.run ft_journal_ok [0, 1, 2] rfl rfl ?_
          refine TD.q rfl .u (Ex.b1 2 rfl Try.isAgg79 rfl rfl) rfl ?_
          refine TD.run ft_journal_ok [4] rfl rfl ?_
          refine TD.q rfl .u (Ex.bS (us := [.int .i64 x13.fProducer, .int .i64 x13.fEpoch, .int .i64 x13.fTimeout, .int .i64 x13.fState, .slice A14 x13.fTopics.length c15, .int .i64 x13.fUpdated, .int .i64 x13.fStarted]) 0 rfl Try.isAgg24 Try.sizeOf24 rfl rfl rfl) rfl ?_
          replace h := guard_some h
          obtain ⟨c20, h⟩ := h
          refine TD.mset 4 1 (cs := [.int .i64 x13.fProducer, .int .i64 x13.fEpoch, .int .i64 x13.fTimeout, .int .i64 x13.fState, .slice A14 x13.fTopics.length c15, .int .i64 x13.fUpdated, .int .i64 x13.fStarted]) (u := x13) (k := x3) rfl .u rfl rfl rfl Try.underlying79 Try.underlying9 c20 rfl rfl (fun w G hG => ⟨_, _, rfl, hG.1⟩) [1, 1, 1] rfl ?_
          refine TD.sel [0, 0, 0, 0] rfl ?_
          refine TD.nil (X.seq (T.seq (T.region rfl ?_)))
          replace h := guard_some h
          obtain ⟨c21, h⟩ := h
          refine TL.rb ft_journal_ok nt_journal_ok 3 rfl 4 rfl rfl ?_
          refine TL.q rfl .u (Ex.add rfl rfl c21) rfl ?_
          refine TL.run ft_journal_ok [5, 6] rfl rfl ?_
          refine TL.st3 (cs' := #[.map (some b1), .int .i64 (st.fmany + 1)]) rfl .u rfl rfl Try.sizeOf3 rfl rfl rfl rfl ?_
          refine TL.nil (X.seq (T.seq (T.region rfl ?_)))
          refine TL.run ft_journal_ok [0] rfl rfl ?_
          obtain rfl := Option.some.inj h
          refine TL.nil (X.seq (T.ret ?_))
          refine X.sel [3, 0, 0, 0] rfl ?_
          refine MbR_JournalJournal_shut g (⟨(mput x3 x13 st.fknown), (st.fmany + 1)⟩ : JournalJournal) b1 rfl ?_
          exact X.done1 [0] Try.results14 (RV.tm rfl) ⟨rfl, rfl, rfl⟩ (by rfl) (.inl rfl)
        · replace h := ifF c19 h
          refine TL.nil (X.seq ?_)
          refine T.yes rfl (bn_t (decide_eq_false c19)) ?_
          refine T.seq (T.region rfl ?_)
          refine TL.run ft_journal_ok [0, 1] rfl rfl ?_
          obtain rfl := Option.some.inj h
          refine TL.nil (X.seq (T.ret (X.rs (X.rs ?_))))
          refine X.sel [3, 3, 0, 0, 0] rfl ?_
          refine MbR_JournalJournal_shut g st b1 rfl ?_
          exact X.done1 [0] Try.results14 (RV.tm rfl) ⟨rfl, rfl, rfl⟩ (by rfl) (.inl rfl)
    · replace h := ifF c9 h
      replace c9 := eq_false_of_ne_true c9
      refine TL.nil (X.seq ?_)
      refine T.yes rfl (bn_t c9) ?_
      refine T.seq (T.region rfl ?_)
      refine TL.run ft_journal_ok [0] rfl rfl ?_
      obtain rfl := Option.some.inj h
      refine TL.nil (X.seq (T.ret (X.rs ?_)))
      refine X.sel [1, 1, 0] rfl ?_
      refine MbR_JournalJournal_shut g st b1 rfl ?_
      exact X.done1 [0] Try.results14 (RV.tm rfl) ⟨rfl, rfl, rfl⟩ (by rfl) (.inl rfl)
  · replace h := ifF c6 h
    refine TL.nil (X.seq ?_)
    refine T.yes rfl (bn_t (decide_eq_false c6)) ?_
    refine T.seq (T.region rfl ?_)
    refine TL.run ft_journal_ok [0, 1] rfl rfl ?_
    obtain rfl := Option.some.inj h
    refine TL.nil (X.seq (T.ret (X.rs ?_)))
    refine X.sel [1, 1, 0] rfl ?_
    refine MbR_JournalJournal_shut g st b1 rfl ?_
    exact X.done1 [0] Try.results14 (RV.tm rfl) ⟨rfl, rfl, rfl⟩ (by rfl) (.inl rfl)
def f_journal_copied_l1 : List Top → List Top → Option (List Top)
  | [], y5 => some y5
  | x13 :: xs, y5 => (gClone x13.fParts).bind fun x21 => if (y5.length + 1) * 40 ≤ 140737488355328 then (f_journal_copied_l1 xs (y5 ++ [(⟨x13.fName, x21⟩ : Top)])) else none
def f_journal_copied (a0 : Val) : Option (Val) := (f_journal_copied_l1 a0.fTopics []).bind fun y29 => some (⟨a0.fProducer, a0.fEpoch, a0.fTimeout, a0.fState, y29, a0.fUpdated, a0.fStarted⟩ : Val)
set_option maxRecDepth 100000 in
set_option maxHeartbeats 4000000 in
theorem f_journal_copied_spec (a0 : Val) (A1 : Option Addr) (c2 : Nat) (r : Val) (h : f_journal_copied a0 = some r) : SpecX Try.prog 37 #[.agg #[.int .i64 a0.fProducer, .int .i64 a0.fEpoch, .int .i64 a0.fTimeout, .int .i64 a0.fState, .slice A1 a0.fTopics.length c2, .int .i64 a0.fUpdated, .int .i64 a0.fStarted]] (RX.of (sliceRd 2 Top_rd) [.slice A1 a0.fTopics.length c2] a0.fTopics) (EmpR) (fun v A' N => ∃ (A33 : Option Addr) (c34 : Nat), v = .agg #[.int .i64 r.fProducer, .int .i64 r.fEpoch, .int .i64 r.fTimeout, .int .i64 r.fState, .slice A33 r.fTopics.length c34, .int .i64 r.fUpdated, .int .i64 r.fStarted] ∧ A' = EmpR ∧ N = [OwnR 46 2 Top_cop (.slice A33 r.fTopics.length c34) r.fTopics]) := by
  refine enterA Try.func37 rfl Try.ntmps37 rfl ?_
  intro F w hX
  unfold f_journal_copied at h
  refine T.seq (T.region rfl ?_)
  refine TL.box rfl .u rfl rfl (fun b3 => ?_)
  refine TL.alloc rfl .u Try.zeroValue24 rfl (fun b4 => ?_)
  refine TL.nil (X.seq (T.seq (T.region rfl ?_)))
  refine TL.run ft_journal_ok [0] rfl rfl ?_
  refine TL.nil (X.seq (T.seq (T.seq (T.region rfl ?_))))
  refine TL.rb ft_journal_ok nt_journal_ok 1 rfl 2 rfl rfl ?_
  refine TL.q rfl .u (Ex.lenS rfl Try.runUnderlying22) rfl ?_
  refine TL.run ft_journal_ok [3] rfl rfl ?_
  refine TL.nil (X.seq (T.block ?_))
  refine T.nilrow 46 2 Top_cop ?_
  obtain ⟨E9, hE10, hO11⟩ := Option.bind_eq_some_iff.1 h
  have hk15len := RX.len_le hX
  refine T.lp (fun m e Rs => ∃ (y5 : List Top) (A6 : Option Addr) (c7 : Nat) (k8 : Nat), k8 + m = a0.fTopics.length ∧ e = [(1, .pointer (some ⟨b3, 0, none⟩)), (2, .pointer (some ⟨b4, 0, none⟩)), (3, .slice A6 y5.length c7), (7, .slice A1 a0.fTopics.length c2), (8, .int .i64 (a0.fTopics.length : Int)), (9, .int .i64 (k8 : Int))] ∧ Rs = [OwnR 46 2 Top_cop (.slice A6 y5.length c7) y5, BlkR b4 24 #[.int .i64 0, .int .i64 0, .int .i64 0, .int .i64 0, .slice none 0 0, .int .i64 0, .int .i64 0], BlkR b3 24 #[.int .i64 a0.fProducer, .int .i64 a0.fEpoch, .int .i64 a0.fTimeout, .int .i64 a0.fState, .slice A1 a0.fTopics.length c2, .int .i64 a0.fUpdated, .int .i64 a0.fStarted], EmpR] ∧ f_journal_copied_l1 (a0.fTopics.drop k8) y5 = some E9) (a0.fTopics.length) [0, 0, 0, 0] ⟨[], none, 0, 0, by simp, rfl, rfl, by rw [List.drop_zero]; exact hE10⟩ (by rfl) (by rfl) ?_
  rintro m12 _ _ ⟨y5, A6, c7, k8, hk15, rfl, rfl, hl14⟩
  clear hE10 h
  cases m12 with
  | zero =>
    have h := hl14
    clear hl14
    rw [List.drop_of_length_le (by omega), f_journal_copied_l1] at h
    have hk15ge : ¬ ((k8 : Int) < (a0.fTopics.length : Int)) := by omega
    refine T.seq (T.region rfl ?_)
    refine TL.run ft_journal_ok [0] rfl rfl ?_
    refine TL.nil (X.seq (T.seq ?_))
    refine T.no rfl (decide_eq_false hk15ge) ?_
    obtain rfl := Option.some.inj h
    replace h := hO11
    clear hO11
    try dsimp only at h
    refine T.exit (X.exs (X.exs (X.ex (X.seq (T.seq (T.region rfl ?_))))))
    refine TL.run ft_journal_ok [0, 1] rfl rfl ?_
    refine TL.st2 (cs' := #[.int .i64 a0.fProducer, .int .i64 a0.fEpoch, .int .i64 a0.fTimeout, .int .i64 a0.fState, .slice A6 y5.length c7, .int .i64 a0.fUpdated, .int .i64 a0.fStarted]) rfl .u rfl rfl Try.sizeOf22 rfl rfl rfl rfl ?_
    refine TL.nil (X.seq (T.seq (T.region rfl ?_)))
    refine TL.q rfl .u (Ex.bS (us := [.int .i64 a0.fProducer, .int .i64 a0.fEpoch, .int .i64 a0.fTimeout, .int .i64 a0.fState, .slice A6 y5.length c7, .int .i64 a0.fUpdated, .int .i64 a0.fStarted]) 2 rfl Try.isAgg24 Try.sizeOf24 rfl rfl rfl) rfl ?_
    refine TL.st1 (cs' := #[.int .i64 a0.fProducer, .int .i64 a0.fEpoch, .int .i64 a0.fTimeout, .int .i64 a0.fState, .slice A6 y5.length c7, .int .i64 a0.fUpdated, .int .i64 a0.fStarted]) rfl .u rfl rfl Try.sizeOf24 rfl rfl rfl rfl ?_
    obtain rfl := Option.some.inj h
    exact TL.nil (X.seq (T.ret (X.done1 [3, 0] Try.results37 (RV.cS (us := #[.int .i64 a0.fProducer, .int .i64 a0.fEpoch, .int .i64 a0.fTimeout, .int .i64 a0.fState, .slice A6 y5.length c7, .int .i64 a0.fUpdated, .int .i64 a0.fStarted]) 1 rfl Try.isAgg24 Try.sizeOf24 rfl rfl) ⟨_, _, rfl, rfl, rfl⟩ (by rfl) (.inl rfl))))
  | succ m12 =>
    have h := hl14
    clear hl14
    obtain ⟨x13, hxx13⟩ : ∃ x, a0.fTopics[k8]? = some x := ⟨_, List.getElem?_eq_getElem (by omega)⟩
    rw [drop_cons hxx13, f_journal_copied_l1] at h
    have hk15lt : (k8 : Int) < (a0.fTopics.length : Int) := by omega
    refine T.seq (T.region rfl ?_)
    refine TL.run ft_journal_ok [0] rfl rfl ?_
    refine TL.nil (X.seq (T.seq ?_))
    refine T.yes rfl (decide_eq_true hk15lt) ?_
    obtain ⟨gz16, oz16, rfl, z16cs, z16cl, z16cc, z16nf, z16r⟩ := RX.elem (by decide) hX hxx13
    obtain ⟨z16S, z16r, z16rr⟩ := z16r
    obtain ⟨A17, c18, rfl, z16s0⟩ := z16r
    have hX19 : (RX.of (sliceRd 1 intE) [.slice A17 x13.fParts.length c18] x13.fParts).reads w F := ⟨z16S, z16s0, z16rr⟩
    refine T.skip (X.seq (T.seq (T.block (T.seq (T.region rfl ?_)))))
    refine TL.q rfl .u (Ex.ixS (k := k8) rfl rfl rfl Try.runUnderlying22 Try.sizeOf46 (List.getElem?_eq_some_iff.1 hxx13).1) rfl ?_
    refine TL.q rfl .u (Ex.oS (us := [.string (bsOf x13.fName), .slice A17 x13.fParts.length c18]) 0 rfl Try.isAgg46 Try.sizeOf46 z16nf z16cc rfl rfl rfl) rfl ?_
    refine TL.alloc rfl .u Try.zeroValue46 rfl (fun b20 => ?_)
    refine TL.st0 (cs' := #[.string (bsOf x13.fName), .slice A17 x13.fParts.length c18]) rfl .u rfl rfl Try.sizeOf46 rfl rfl rfl rfl ?_
    refine TL.nil (X.seq (T.draw (.q 0 (.q 1 (.q 2 (.q 3 (.q 4 (.e 5 (.q 6 (.e 7 (.e 8 (.q 9 .nil)))))))))) [0, 1, 1, 1] rfl mix_journal (NoP.blk (NoP.seq (NoP.seq (NoP.blk (NoP.seq np_post))))) (by kernel_rfl) ?_))
    refine TD.run ft_journal_ok [0, 1] rfl rfl ?_
    refine TD.q rfl .u (Ex.b1 0 rfl Try.isAgg9 rfl rfl) rfl ?_
    refine TD.run ft_journal_ok [3] rfl rfl ?_
    refine TD.q rfl .u (Ex.b1 0 rfl Try.isAgg44 rfl rfl) rfl ?_
    obtain ⟨x21, hx24, h⟩ := Option.bind_eq_some_iff.1 h
    refine TD.cge rfl .u (.fn Try.call57 rfl) (gClone_spec x13.fParts _ _ _ hx24) (fun _ hs => (SrcE.old hs hX19)) rfl [1, 2, 2, 2] ?_ ?_
    · rintro _ _ _ ⟨A22, c23, rfl, rfl, rfl⟩
      rfl
    rintro _ _ _ ⟨A22, c23, rfl, rfl, rfl⟩
    refine TD.sel [0, 0, 0, 0, 0, 0] rfl ?_
    refine TD.q rfl .u (Ex.bld (cells := #[.string (bsOf x13.fName), .slice A22 x21.length c23]) bok_journal_46 rfl (by kernel_rfl)) rfl ?_
    refine TD.lit (cells := #[.string (bsOf x13.fName), .slice A22 x21.length c23]) rfl .u sok_journal_22_1 rfl (by rfl) rfl [2, 3, 3, 3] (fun _ => rfl) (fun b25 => ?_)
    replace h := guard_some h
    obtain ⟨c26, h⟩ := h
    refine TD.app2 2 0 rfl .u (us := [.string (bsOf x13.fName), .slice A22 x21.length c23]) (u := (⟨x13.fName, x21⟩ : Top)) (l := y5) (E := Top_cop) Try.underlying22 inf_journal_46 rfl (by decide) rfl rfl rfl rfl rfl rfl rfl (fun w G hG => ⟨_, _, rfl, G, hG, fun _ h => h⟩) (by have hq := c26; omega) (by have hq := c26; omega) rfl [1, 1, 1, 1] (fun _ _ => rfl) (fun A27 c28 => ?_)
    refine TD.sel [0, 0, 0, 0, 0] rfl ?_
    refine TD.run ft_journal_ok [9] rfl rfl ?_
    refine TD.nil (X.blk (X.seq (T.region rfl ?_)))
    refine TL.q rfl .u (Ex.add rfl rfl (by omega)) rfl ?_
    refine TL.run ft_journal_ok [1] rfl rfl ?_
    exact TL.nil (X.back (m' := m12) [0, 1, 1, 1] (by omega) ⟨(y5 ++ [(⟨x13.fName, x21⟩ : Top)]), A27, c28, k8 + 1, by omega, rfl, rfl, h⟩ (by rfl) (by rfl))
def f_journal_JournalGet (st : JournalJournal) (a1 : List UInt8) : Option (Val × Bool × JournalJournal) := if (mhas a1 st.fknown) = true then (if a1.length ≤ 140737488355328 then ((mget a1 st.fknown).bind fun x5 => (f_journal_copied x5).bind fun x11 => some (x11, true, st)) else none) else (if a1.length ≤ 140737488355328 then ((f_journal_copied (⟨0, 0, 0, 0, [], 0, 0⟩ : Val)).bind fun x17 => some (x17, false, st)) else none)
set_option maxRecDepth 100000 in
set_option maxHeartbeats 4000000 in
theorem f_journal_JournalGet_spec (g : Nat) (st : JournalJournal) (a1 : List UInt8) (r : Val × Bool × JournalJournal) (h : f_journal_JournalGet st a1 = some r) : SpecX Try.prog 15 #[.pointer (some ⟨g, 0, none⟩), .string (bsOf a1)] .triv (MbR_JournalJournal g st) (fun v A' N => ∃ (A21 : Option Addr) (c22 : Nat), v = .tuple #[.agg #[.int .i64 r.1.fProducer, .int .i64 r.1.fEpoch, .int .i64 r.1.fTimeout, .int .i64 r.1.fState, .slice A21 r.1.fTopics.length c22, .int .i64 r.1.fUpdated, .int .i64 r.1.fStarted], .bool r.2.1] ∧ A' = MbR_JournalJournal g r.2.2 ∧ N = [OwnR 46 2 Top_cop (.slice A21 r.1.fTopics.length c22) r.1.fTopics]) := by
  refine enterA Try.func15 rfl Try.ntmps15 rfl ?_
  intro F w hX
  refine T.pakOpen 0 rfl ?_
  rintro b1
  refine T.sel [0, 0] rfl ?_
  unfold f_journal_JournalGet at h
  refine T.seq (T.region rfl ?_)
  refine TL.alloc rfl .u Try.zeroValue24 rfl (fun b2 => ?_)
  refine TL.run ft_journal_ok [1] rfl rfl ?_
  refine TL.nil (X.seq (T.seq (T.region rfl ?_)))
  by_cases c3 : (mhas a1 st.fknown) = true
  · replace h := ifT c3 h
    replace h := guard_some h
    obtain ⟨c4, h⟩ := h
    obtain ⟨x5, hx6, h⟩ := Option.bind_eq_some_iff.1 h
    refine TL.rb ft_journal_ok nt_journal_ok 1 rfl 5 rfl rfl ?_
    refine TL.focM 2 rfl hx6 ?_
    rintro z7cs ⟨_, _, z7r⟩
    obtain ⟨A8, c9, rfl, _⟩ := z7r
    refine TL.sel [0, 0, 0] rfl ?_
    refine TL.q rfl .u (Ex.lookT (k := a1) (cs := [.int .i64 x5.fProducer, .int .i64 x5.fEpoch, .int .i64 x5.fTimeout, .int .i64 x5.fState, .slice A8 x5.fTopics.length c9, .int .i64 x5.fUpdated, .int .i64 x5.fStarted]) 2 rfl rfl Try.underlying79 Try.underlying9 Try.zeroValue24 c4 rfl (fun _ _ h => h.2.2.1)) rfl ?_
    refine TL.run ft_journal_ok [6, 7, 8] rfl rfl ?_
    refine TL.alloc rfl .u Try.zeroValue24 rfl (fun b10 => ?_)
    refine TL.st0 (cs' := #[.int .i64 x5.fProducer, .int .i64 x5.fEpoch, .int .i64 x5.fTimeout, .int .i64 x5.fState, .slice A8 x5.fTopics.length c9, .int .i64 x5.fUpdated, .int .i64 x5.fStarted]) rfl .u rfl rfl Try.sizeOf24 rfl rfl rfl rfl ?_
    refine TL.run ft_journal_ok [11] rfl rfl ?_
    refine TL.nil (X.seq (T.seq (T.region rfl ?_)))
    refine TL.q rfl .u (Ex.bS (us := [.int .i64 x5.fProducer, .int .i64 x5.fEpoch, .int .i64 x5.fTimeout, .int .i64 x5.fState, .slice A8 x5.fTopics.length c9, .int .i64 x5.fUpdated, .int .i64 x5.fStarted]) 0 rfl Try.isAgg24 Try.sizeOf24 rfl rfl rfl) rfl ?_
    obtain ⟨x11, hx14, h⟩ := Option.bind_eq_some_iff.1 h
    refine TL.cge rfl .u (.fn Try.call37 rfl) (f_journal_copied_spec x5 _ _ _ hx14) (fun _ hs => (SrcE.res 3 hs rfl (fun _ _ h => by obtain ⟨_, _, hc, hs⟩ := h.2.2.2; cases hc; exact hs))) rfl ?_
    rintro _ _ _ ⟨A12, c13, rfl, rfl, rfl⟩
    refine TL.sel [0, 0, 0, 0, 0] rfl ?_
    refine TL.run ft_journal_ok [2] rfl rfl ?_
    refine TL.st2 (cs' := #[.int .i64 x11.fProducer, .int .i64 x11.fEpoch, .int .i64 x11.fTimeout, .int .i64 x11.fState, .slice A12 x11.fTopics.length c13, .int .i64 x11.fUpdated, .int .i64 x11.fStarted]) rfl .u rfl rfl Try.sizeOf24 rfl rfl rfl rfl ?_
    refine TL.run ft_journal_ok [4] rfl rfl ?_
    obtain rfl := Option.some.inj h
    refine TL.nil (X.seq (T.ret ?_))
    refine X.unfM 4 rfl ?_
    refine X.sel [0, 0, 0, 0, 0] rfl ?_
    refine X.sel [3, 3, 0, 0, 0] rfl ?_
    refine MbR_JournalJournal_shut g st b1 rfl ?_
    exact X.done2 [0, 0] Try.results15 (RV.cS (us := #[.int .i64 x11.fProducer, .int .i64 x11.fEpoch, .int .i64 x11.fTimeout, .int .i64 x11.fState, .slice A12 x11.fTopics.length c13, .int .i64 x11.fUpdated, .int .i64 x11.fStarted]) 3 rfl Try.isAgg24 Try.sizeOf24 rfl rfl) (RV.tm rfl) ⟨_, _, rfl, rfl, rfl⟩ (by rfl) (.inl rfl)
  · replace h := ifF c3 h
    replace c3 := eq_false_of_ne_true c3
    replace h := guard_some h
    obtain ⟨c15, h⟩ := h
    refine TL.rb ft_journal_ok nt_journal_ok 1 rfl 5 rfl rfl ?_
    refine TL.q rfl .u (Ex.lookF (k := a1) 2 rfl rfl Try.underlying79 Try.underlying9 Try.zeroValue24 c15 rfl c3) rfl ?_
    refine TL.run ft_journal_ok [6, 7, 8] rfl rfl ?_
    refine TL.alloc rfl .u Try.zeroValue24 rfl (fun b16 => ?_)
    refine TL.st0 (cs' := #[.int .i64 0, .int .i64 0, .int .i64 0, .int .i64 0, .slice none 0 0, .int .i64 0, .int .i64 0]) rfl .u rfl rfl Try.sizeOf24 rfl rfl rfl rfl ?_
    refine TL.run ft_journal_ok [11] rfl rfl ?_
    refine TL.nil (X.seq (T.seq (T.region rfl ?_)))
    refine TL.q rfl .u (Ex.bS (us := [.int .i64 0, .int .i64 0, .int .i64 0, .int .i64 0, .slice none 0 0, .int .i64 0, .int .i64 0]) 0 rfl Try.isAgg24 Try.sizeOf24 rfl rfl rfl) rfl ?_
    obtain ⟨x17, hx20, h⟩ := Option.bind_eq_some_iff.1 h
    refine TL.cge rfl .u (.fn Try.call37 rfl) (f_journal_copied_spec (⟨0, 0, 0, 0, [], 0, 0⟩ : Val) _ _ _ hx20) (fun _ hs => slice_nil_reads) rfl ?_
    rintro _ _ _ ⟨A18, c19, rfl, rfl, rfl⟩
    refine TL.sel [0, 0, 0, 0, 0] rfl ?_
    refine TL.run ft_journal_ok [2] rfl rfl ?_
    refine TL.st2 (cs' := #[.int .i64 x17.fProducer, .int .i64 x17.fEpoch, .int .i64 x17.fTimeout, .int .i64 x17.fState, .slice A18 x17.fTopics.length c19, .int .i64 x17.fUpdated, .int .i64 x17.fStarted]) rfl .u rfl rfl Try.sizeOf24 rfl rfl rfl rfl ?_
    refine TL.run ft_journal_ok [4] rfl rfl ?_
    obtain rfl := Option.some.inj h
    refine TL.nil (X.seq (T.ret ?_))
    refine X.sel [3, 3, 0, 0, 0] rfl ?_
    refine MbR_JournalJournal_shut g st b1 rfl ?_
    exact X.done2 [0, 0] Try.results15 (RV.cS (us := #[.int .i64 x17.fProducer, .int .i64 x17.fEpoch, .int .i64 x17.fTimeout, .int .i64 x17.fState, .slice A18 x17.fTopics.length c19, .int .i64 x17.fUpdated, .int .i64 x17.fStarted]) 3 rfl Try.isAgg24 Try.sizeOf24 rfl rfl) (RV.tm rfl) ⟨_, _, rfl, rfl, rfl⟩ (by rfl) (.inl rfl)
def f_journal_JournalMany (st : JournalJournal)  : Option (Int × JournalJournal) := some (st.fmany, st)
set_option maxRecDepth 100000 in
set_option maxHeartbeats 4000000 in
theorem f_journal_JournalMany_spec (g : Nat) (st : JournalJournal)  (r : Int × JournalJournal) (h : f_journal_JournalMany st  = some r) : SpecX Try.prog 22 #[.pointer (some ⟨g, 0, none⟩)] .triv (MbR_JournalJournal g st) (fun v A' N => v = .int .i64 r.1 ∧ A' = MbR_JournalJournal g r.2 ∧ N = []) := by
  refine enterA Try.func22 rfl Try.ntmps22 rfl ?_
  intro F w hX
  refine T.pakOpen 0 rfl ?_
  rintro b1
  refine T.sel [0, 0] rfl ?_
  unfold f_journal_JournalMany at h
  refine T.seq (T.region rfl ?_)
  refine TL.run ft_journal_ok [0] rfl rfl ?_
  refine TL.nil (X.seq (T.seq (T.region rfl ?_)))
  refine TL.rb ft_journal_ok nt_journal_ok 0 rfl 5 rfl rfl ?_
  obtain rfl := Option.some.inj h
  refine TL.nil (X.seq (T.ret ?_))
  refine X.sel [0, 0] rfl ?_
  refine MbR_JournalJournal_shut g st b1 rfl ?_
  exact X.done1 [0] Try.results22 (RV.tm rfl) ⟨rfl, rfl, rfl⟩ (by rfl) (.inl rfl)
def f_journal_JournalCompact_l1 (st5 : JournalJournal) : List (List UInt8) → List JournalEntry → Option (List JournalEntry)
  | [], y8 => some y8
  | x16 :: xs, y8 => if x16.length ≤ 140737488355328 then ((mget x16 st5.fknown).bind fun x21 => (f_journal_Put x16 x21).bind fun (x26, x27) => if (y8.length + 1) * 40 ≤ 140737488355328 then (f_journal_JournalCompact_l1 st5 xs (y8 ++ [x26])) else none) else none
def f_journal_JournalCompact (st : JournalJournal)  : Option (List JournalEntry × JournalJournal) := (gJIDs st).bind fun (x2, st5) => (f_journal_JournalCompact_l1 st5 x2 []).bind fun y34 => some (y34, st5)
set_option maxRecDepth 100000 in
set_option maxHeartbeats 4000000 in
theorem f_journal_JournalCompact_spec (g : Nat) (st : JournalJournal)  (r : List JournalEntry × JournalJournal) (h : f_journal_JournalCompact st  = some r) : SpecX Try.prog 24 #[.pointer (some ⟨g, 0, none⟩)] .triv (MbR_JournalJournal g st) (fun v A' N => ∃ (A38 : Option Addr) (c39 : Nat), v = .slice A38 r.1.length c39 ∧ A' = MbR_JournalJournal g r.2 ∧ N = [RdR (sliceRd 3 JournalEntry_rd) [.slice A38 r.1.length c39] r.1]) := by
  refine enterA Try.func24 rfl Try.ntmps24 rfl ?_
  intro F w hX
  refine T.pakOpen 0 rfl ?_
  rintro b1
  refine T.sel [0, 0] rfl ?_
  unfold f_journal_JournalCompact at h
  refine T.seq (T.region rfl ?_)
  refine TL.run ft_journal_ok [0] rfl rfl ?_
  refine TL.nil (X.seq (T.seq (T.region rfl ?_)))
  refine TL.run ft_journal_ok [0] rfl rfl ?_
  refine TL.nil (X.seq (T.seq (T.seq (T.region rfl ?_))))
  refine TL.run ft_journal_ok [0] rfl rfl ?_
  refine TL.sel [0, 0] rfl ?_
  refine MbR_JournalJournal_shutL g st b1 rfl ?_
  obtain ⟨⟨x2, st5⟩, hx6, h⟩ := Option.bind_eq_some_iff.1 h
  try dsimp only at h
  refine TL.cg0 rfl .u (.fn Try.call17 rfl) (gJIDs_spec g st _ hx6) (fun _ hs => (Src.triv _)) rfl ?_
  rintro _ _ _ ⟨A3, c4, rfl, rfl, rfl⟩
  refine TL.sel [0, 0] rfl ?_
  refine TL.pakOpen 1 rfl ?_
  rintro b7
  refine TL.sel [0, 0, 0] rfl ?_
  refine TL.q rfl .u (Ex.lenS rfl Try.runUnderlying48) rfl ?_
  refine TL.run ft_journal_ok [3] rfl rfl ?_
  refine TL.nil (X.seq (T.block ?_))
  refine T.nilrow 30 3 JournalEntry_rd ?_
  obtain ⟨E12, hE13, hO14⟩ := Option.bind_eq_some_iff.1 h
  refine T.blen 3 rfl (fun w G h => own_reads (by decide) w G h) (fun hk18len => ?_)
  try dsimp only at hk18len
  refine T.lp (fun m e Rs => ∃ (y8 : List JournalEntry) (A9 : Option Addr) (c10 : Nat) (k11 : Nat), k11 + m = x2.length ∧ e = [(0, .pointer (some ⟨g, 0, none⟩)), (2, .slice none 0 0), (3, .slice A9 y8.length c10), (9, .slice A3 x2.length c4), (10, .int .i64 (x2.length : Int)), (11, .int .i64 (k11 : Int))] ∧ Rs = [OwnR 30 3 JournalEntry_rd (.slice A9 y8.length c10) y8, BlkR g 81 #[.map (some b7), .int .i64 st5.fmany], MapR Try.prog 9 Val_rd b7 st5.fknown, OwnR 9 1 strE (.slice A3 x2.length c4) x2] ∧ f_journal_JournalCompact_l1 st5 (x2.drop k11) y8 = some E12) (x2.length) [0, 0, 0, 0] ⟨[], none, 0, 0, by simp, rfl, rfl, by rw [List.drop_zero]; exact hE13⟩ (by rfl) (by rfl) ?_
  rintro m15 _ _ ⟨y8, A9, c10, k11, hk18, rfl, rfl, hl17⟩
  clear hE13 h
  cases m15 with
  | zero =>
    have h := hl17
    clear hl17
    rw [List.drop_of_length_le (by omega), f_journal_JournalCompact_l1] at h
    have hk18ge : ¬ ((k11 : Int) < (x2.length : Int)) := by omega
    refine T.seq (T.region rfl ?_)
    refine TL.run ft_journal_ok [0] rfl rfl ?_
    refine TL.nil (X.seq (T.seq ?_))
    refine T.no rfl (decide_eq_false hk18ge) ?_
    obtain rfl := Option.some.inj h
    replace h := hO14
    clear hO14
    try dsimp only at h
    refine T.exit (X.exs (X.exs (X.ex (X.seq (T.seq (T.region rfl ?_))))))
    refine TL.run ft_journal_ok [0, 1] rfl rfl ?_
    obtain rfl := Option.some.inj h
    refine TL.nil (X.seq (T.ret ?_))
    refine X.shut (by decide) 0 rfl ?_
    refine X.sel [0, 0, 0, 0] rfl ?_
    refine X.sel [1, 1, 0, 0] rfl ?_
    refine MbR_JournalJournal_shut g st5 b7 rfl ?_
    exact X.done1 [0, 0] Try.results24 (RV.tm rfl) ⟨_, _, rfl, rfl, rfl⟩ (by rfl) (.inl rfl)
  | succ m15 =>
    have h := hl17
    clear hl17
    obtain ⟨x16, hxx16⟩ : ∃ x, x2[k11]? = some x := ⟨_, List.getElem?_eq_getElem (by omega)⟩
    rw [drop_cons hxx16, f_journal_JournalCompact_l1] at h
    have hk18lt : (k11 : Int) < (x2.length : Int) := by omega
    refine T.seq (T.region rfl ?_)
    refine TL.run ft_journal_ok [0] rfl rfl ?_
    refine TL.nil (X.seq (T.seq ?_))
    refine T.yes rfl (decide_eq_true hk18lt) ?_
    refine T.skip (X.seq (T.seq (T.block (T.seq (T.region rfl ?_)))))
    refine TL.foc (E := strE) (k := k11) 3 rfl (fun w G h => own_reads (by decide) w G h) (by decide) hxx16 ?_
    rintro gz19 oz19 z19cs hA z19cl ⟨_, _, z19r⟩
    cases hA
    obtain rfl : z19cs = [.string (bsOf x16)] := z19r
    clear z19cl
    refine TL.sel [0, 0, 0, 0] rfl ?_
    refine TL.q rfl .u (Ex.ixS (k := k11) rfl rfl rfl Try.runUnderlying48 Try.sizeOf9 (List.getElem?_eq_some_iff.1 hxx16).1) rfl ?_
    refine TL.q rfl .u (Ex.k1 (cs := [.string (bsOf x16)]) 3 0 rfl Try.isAgg9 rfl (fun _ _ h => h.2.2.1) rfl) rfl ?_
    refine TL.run ft_journal_ok [2] rfl rfl ?_
    refine TL.nil (X.seq (T.seq (T.region rfl ?_)))
    replace h := guard_some h
    obtain ⟨c20, h⟩ := h
    obtain ⟨x21, hx22, h⟩ := Option.bind_eq_some_iff.1 h
    refine TL.rb ft_journal_ok nt_journal_ok 1 rfl 6 rfl rfl ?_
    refine TL.focM 2 rfl hx22 ?_
    rintro z23cs ⟨_, _, z23r⟩
    obtain ⟨A24, c25, rfl, _⟩ := z23r
    refine TL.sel [0, 0, 0, 0] rfl ?_
    refine TL.q rfl .u (Ex.look1 (k := x16) (cs := [.int .i64 x21.fProducer, .int .i64 x21.fEpoch, .int .i64 x21.fTimeout, .int .i64 x21.fState, .slice A24 x21.fTopics.length c25, .int .i64 x21.fUpdated, .int .i64 x21.fStarted]) 2 rfl rfl Try.underlying79 Try.underlying9 Try.zeroValue24 c20 rfl (fun _ _ h => h.2.2.1)) rfl ?_
    obtain ⟨⟨x26, x27⟩, hx28, h⟩ := Option.bind_eq_some_iff.1 h
    try dsimp only at h
    refine TL.ce rfl .u (.fn Try.call8 rfl) (f_journal_Put_spec x16 x21 _ _ _ hx28) (fun _ hs => (SrcE.res 2 hs rfl (fun _ _ h => by obtain ⟨_, _, hc, hs⟩ := h.2.2.2; cases hc; exact hs))) rfl ?_
    refine TL.run ft_journal_ok [8, 9, 10] rfl rfl ?_
    refine TL.alloc rfl .u Try.zeroValue30 rfl (fun b29 => ?_)
    refine TL.st0 (cs' := #[.string (bsOf x26.fKey), .bool x26.fValue.null, .string (bsOf x26.fValue.data)]) rfl .u rfl rfl Try.sizeOf30 rfl rfl rfl rfl ?_
    refine TL.run ft_journal_ok [13] rfl rfl ?_
    refine TL.nil (X.seq (T.region rfl ?_))
    refine TL.run ft_journal_ok [0] rfl rfl ?_
    refine TL.q rfl .u (Ex.bS (us := [.string (bsOf x26.fKey), .bool x26.fValue.null, .string (bsOf x26.fValue.data)]) 0 rfl Try.isAgg30 Try.sizeOf30 rfl rfl rfl) rfl ?_
    refine TL.lit (cells := #[.string (bsOf x26.fKey), .bool x26.fValue.null, .string (bsOf x26.fValue.data)]) rfl .u sok_journal_51_1 rfl (by kernel_rfl) rfl (fun b30 => ?_)
    replace h := guard_some h
    obtain ⟨c31, h⟩ := h
    refine TL.app1 1 rfl .u (us := [.string (bsOf x26.fKey), .bool x26.fValue.null, .string (bsOf x26.fValue.data)]) (u := x26) (l := y8) (E := JournalEntry_rd) Try.underlying51 inf_journal_30 rfl (by decide) rfl rfl rfl rfl rfl rfl (fun _ _ => rfl) (by have hq := c31; omega) (by have hq := c31; omega) rfl (fun A32 c33 => ?_)
    refine TL.sel [0, 0, 0, 0, 0] rfl ?_
    refine TL.run ft_journal_ok [4] rfl rfl ?_
    refine TL.nil (X.blk (X.seq (T.region rfl ?_)))
    refine TL.q rfl .u (Ex.add rfl rfl (by omega)) rfl ?_
    refine TL.run ft_journal_ok [1] rfl rfl ?_
    refine TL.nil ?_
    refine X.unfM 3 rfl ?_
    refine X.sel [0, 0, 0, 0, 0] rfl ?_
    refine X.unf 4 rfl ?_
    refine X.sel [0, 0, 0, 0, 0] rfl ?_
    exact X.back (m' := m15) [1, 1, 1, 1] (by omega) ⟨(y8 ++ [x26]), A32, c33, k11 + 1, by omega, rfl, rfl, h⟩ (by rfl) (by rfl)
end Go.Proofs.Ytlhgogjcaegehaa.Sl
namespace Go.Proofs.Ytlhgogjcaegehaa.Sl
open Go.RowKit
set_option linter.unusedVariables false
set_option linter.unusedSimpArgs false
set_option maxRecDepth 100000
def ft_cursitorlaw15 : FTab := [(24, 4, 4), (28, 0, 0), (28, 1, 1), (30, 0, 0), (30, 1, 1), (46, 0, 0), (46, 1, 1), (98, 0, 0), (98, 1, 1)]
theorem ft_cursitorlaw15_ok : (ft_cursitorlaw15).OK Try.prog := ⟨FOK.mk Try.runUnderlying24 rfl Try.sizeOf22 rfl, FOK.mk Try.runUnderlying28 rfl Try.sizeOf4 rfl, FOK.mk Try.runUnderlying28 rfl Try.sizeOf9 rfl, FOK.mk Try.runUnderlying30 rfl Try.sizeOf9 rfl, FOK.mk Try.runUnderlying30 rfl Try.sizeOf28 rfl, FOK.mk Try.runUnderlying46 rfl Try.sizeOf9 rfl, FOK.mk Try.runUnderlying46 rfl Try.sizeOf44 rfl, FOK.mk Try.runUnderlying98 rfl Try.sizeOf9 rfl, FOK.mk Try.runUnderlying98 rfl Try.sizeOf24 rfl, trivial⟩
def nt_cursitorlaw15 : List Nat := [4, 9, 22]
theorem nt_cursitorlaw15_ok : NOK Try.prog nt_cursitorlaw15 := ⟨Try.isAgg4, Try.isAgg9, Try.isAgg22, trivial⟩
theorem mix_cursitorlaw15 : Try.prog.follows .mixedOrders = true := by kernel_rfl
theorem bok_cursitorlaw15_24 : BOK Try.prog 24 #[.int .i64 0, .int .i64 0, .int .i64 0, .int .i64 0, .slice none 0 0, .int .i64 0, .int .i64 0] [(0, 1), (1, 1), (2, 1), (3, 1), (4, 1), (5, 1), (6, 1)] := BOK.mk Try.zeroValue24 Try.runUnderlying24 (by intro w; simp)
theorem bok_cursitorlaw15_98 : BOK Try.prog 98 #[.string ⟨#[]⟩, .int .i64 0, .int .i64 0, .int .i64 0, .int .i64 0, .slice none 0 0, .int .i64 0, .int .i64 0] [(0, 1), (1, 7)] := BOK.mk Try.zeroValue98 Try.runUnderlying98 (by intro w; simp)
theorem sok_cursitorlaw15_52_1 : SOK Try.prog 52 98 1 8 #[.string ⟨#[]⟩, .int .i64 0, .int .i64 0, .int .i64 0, .int .i64 0, .slice none 0 0, .int .i64 0, .int .i64 0] := SOK.mk Try.runUnderlying52 Try.sizeOf98 Try.zeroValue98 (by decide) (by kernel_rfl)
theorem inf_cursitorlaw15_98 : (Try.prog.info? 98).map (fun i => (i.zero, i.size, i.bytes)) = some (some (.agg #[.string ⟨#[]⟩, .int .i64 0, .int .i64 0, .int .i64 0, .int .i64 0, .slice none 0 0, .int .i64 0, .int .i64 0]), 8, 88) := by kernel_rfl
def f_l15_speaks  : Option (Bool) := (f_journal_New).bind fun st1 => (f_journal_Put [97] (⟨0, 0, 0, 0, [], 0, -1⟩ : Val)).bind fun (x4, x5) => (f_journal_Drop [97]).bind fun (x8, x9) => (if x5 = 0 then (if x9 = 0 then ((f_journal_JournalApply st1 x4).bind fun (x22, st23) => if x22 = 0 then some (false, st23) else some (true, st23)) else some (true, st1)) else some (true, st1)).bind fun (y17, st18) => if y17 = true then some false else ((f_journal_JournalGet st18 [97]).bind fun (x27, x30, st31) => (f_journal_JournalApply st31 x8).bind fun (x34, st35) => (f_journal_JournalGet st35 [97]).bind fun (x37, x40, st41) => (if x30 = true then (if x34 = 0 then (if x40 = true then some (false, st41) else ((f_journal_JournalMany st41).bind fun (x56, st57) => if x56 = 2 then some (true, st57) else some (false, st57))) else some (false, st41)) else some (false, st41)).bind fun (y50, st51) => some y50)
set_option maxRecDepth 100000 in
set_option maxHeartbeats 4000000 in
theorem f_l15_speaks_spec  (r : Bool) (h : f_l15_speaks  = some r) : SpecX Try.prog 6 #[] .triv (EmpR) (fun v A' N => v = .bool r ∧ A' = EmpR ∧ N = []) := by
  refine enterA Try.func6 rfl Try.ntmps6 rfl ?_
  intro F w hX
  unfold f_l15_speaks at h
  refine T.seq (T.region rfl ?_)
  refine TL.run ft_cursitorlaw15_ok [0] rfl rfl ?_
  obtain ⟨st1, hx2, h⟩ := Option.bind_eq_some_iff.1 h
  refine TL.nil (X.seq (T.seq (T.region rfl ?_)))
  refine TL.cge rfl .u (.fn Try.call12 rfl) (f_journal_New_spec _ hx2) (fun _ hs => (RX.reads_triv _ _)) rfl ?_
  rintro _ _ _ ⟨b3, rfl, rfl, rfl⟩
  refine TL.sel [0, 0] rfl ?_
  refine TL.run ft_cursitorlaw15_ok [1] rfl rfl ?_
  refine TL.nil (X.seq (T.seq (T.region rfl ?_)))
  refine TL.q rfl .u (Ex.bld (cells := #[.int .i64 0, .int .i64 0, .int .i64 0, .int .i64 0, .slice none 0 0, .int .i64 0, .int .i64 (-1)]) bok_cursitorlaw15_24 rfl (by kernel_rfl)) rfl ?_
  obtain ⟨⟨x4, x5⟩, hx6, h⟩ := Option.bind_eq_some_iff.1 h
  try dsimp only at h
  refine TL.ce rfl .u (.fn Try.call8 rfl) (f_journal_Put_spec [97] (⟨0, 0, 0, 0, [], 0, -1⟩ : Val) _ _ _ hx6) (fun _ hs => slice_nil_reads) rfl ?_
  refine TL.run ft_cursitorlaw15_ok [2, 3, 4] rfl rfl ?_
  refine TL.alloc rfl .u Try.zeroValue30 rfl (fun b7 => ?_)
  refine TL.st0 (cs' := #[.string (bsOf x4.fKey), .bool x4.fValue.null, .string (bsOf x4.fValue.data)]) rfl .u rfl rfl Try.sizeOf30 rfl rfl rfl rfl ?_
  refine TL.run ft_cursitorlaw15_ok [7] rfl rfl ?_
  obtain ⟨⟨x8, x9⟩, hx10, h⟩ := Option.bind_eq_some_iff.1 h
  try dsimp only at h
  refine TL.nil (X.seq (T.seq (T.region rfl ?_)))
  refine TL.ce rfl .u (.fn Try.call9 rfl) (f_journal_Drop_spec [97] _ hx10) (fun _ hs => (RX.reads_triv _ _)) rfl ?_
  refine TL.run ft_cursitorlaw15_ok [1, 2, 3] rfl rfl ?_
  refine TL.alloc rfl .u Try.zeroValue30 rfl (fun b11 => ?_)
  refine TL.st0 (cs' := #[.string (bsOf x8.fKey), .bool x8.fValue.null, .string (bsOf x8.fValue.data)]) rfl .u rfl rfl Try.sizeOf30 rfl rfl rfl rfl ?_
  refine TL.run ft_cursitorlaw15_ok [6] rfl rfl ?_
  refine TL.nil (X.seq (T.seq (T.seq ?_)))
  obtain ⟨⟨y17, st18⟩, h, hk19⟩ := Option.bind_eq_some_iff.1 h
  refine T.jq (fun e Rs => e = [(0, .bool false), (1, .pointer (some ⟨b3, 0, none⟩)), (4, .pointer (some ⟨b11, 0, none⟩)), (36, .bool y17)] ∧ Rs = [BlkR b11 30 #[.string (bsOf x8.fKey), .bool x8.fValue.null, .string (bsOf x8.fValue.data)], BlkR b7 30 #[.string (bsOf x4.fKey), .bool x4.fValue.null, .string (bsOf x4.fValue.data)], MbR_JournalJournal b3 st18, EmpR]) ?_ ?_
  · clear hk19
    refine T.region rfl ?_
    refine TL.run ft_cursitorlaw15_ok [0] rfl rfl ?_
    refine TL.q rfl .u (Ex.pNe (.inl ⟨rfl, rfl⟩) rfl rfl Try.runUnderlying38) rfl ?_
    by_cases c20 : x5 = 0
    · replace h := ifT c20 h
      refine TL.rw ft_cursitorlaw15_ok 5 rfl ?_
      refine TL.hv 27 rfl (bn_f (decide_eq_true c20)) ?_
      by_cases c21 : x9 = 0
      · replace h := ifT c21 h
        refine TL.rw ft_cursitorlaw15_ok 4 rfl ?_
        refine TL.hv 31 rfl (bn_f (decide_eq_true c21)) ?_
        refine TL.rw ft_cursitorlaw15_ok 1 rfl ?_
        refine TL.q rfl (.g rfl rfl rfl) (Ex.bS (us := [.string (bsOf x4.fKey), .bool x4.fValue.null, .string (bsOf x4.fValue.data)]) 1 rfl Try.isAgg30 Try.sizeOf30 rfl rfl rfl) rfl ?_
        obtain ⟨⟨x22, st23⟩, hx24, h⟩ := Option.bind_eq_some_iff.1 h
        try dsimp only at h
        refine TL.c2 rfl (.g rfl rfl rfl) (.fn Try.call14 rfl) (f_journal_JournalApply_spec b3 st1 x4 _ hx24) (fun _ hs => (Src.triv _)) rfl ?_
        refine TL.rw ft_cursitorlaw15_ok 2 rfl ?_
        by_cases c25 : x22 = 0
        · replace h := ifT c25 h
          cases h
          exact TL.nil (X.as (d := 36) (v' := .bool false) rfl (congrArg Value.bool (bn_f (decide_eq_true c25))) (X.jq [0, 0, 0, 0] ⟨rfl, rfl⟩ (by rfl) (by rfl)))
        · replace h := ifF c25 h
          cases h
          exact TL.nil (X.as (d := 36) (v' := .bool true) rfl (congrArg Value.bool (bn_t (decide_eq_false c25))) (X.jq [0, 0, 0, 0] ⟨rfl, rfl⟩ (by rfl) (by rfl)))
      · replace h := ifF c21 h
        refine TL.rw ft_cursitorlaw15_ok 4 rfl ?_
        refine TL.hv 31 rfl (bn_t (decide_eq_false c21)) ?_
        refine TL.rw ft_cursitorlaw15_ok 5 rfl ?_
        cases h
        exact TL.nil (X.jq [0, 0, 0, 0] ⟨rfl, rfl⟩ (by rfl) (by rfl))
    · replace h := ifF c20 h
      refine TL.rw ft_cursitorlaw15_ok 5 rfl ?_
      refine TL.hv 27 rfl (bn_t (decide_eq_false c20)) ?_
      refine TL.rw ft_cursitorlaw15_ok 9 rfl ?_
      cases h
      exact TL.nil (X.jq [0, 0, 0, 0] ⟨rfl, rfl⟩ (by rfl) (by rfl))
  · rintro _ _ ⟨rfl, rfl⟩
    clear h
    have h := hk19
    clear hk19
    try dsimp only at h
    by_cases c26 : y17 = true
    · replace h := ifT c26 h
      refine X.seq ?_
      refine T.yes rfl c26 ?_
      refine T.seq (T.region rfl ?_)
      refine TL.run ft_cursitorlaw15_ok [0] rfl rfl ?_
      obtain rfl := Option.some.inj h
      exact TL.nil (X.seq (T.ret (X.rs (X.done1 [3] Try.results6 (RV.tm rfl) ⟨rfl, rfl, rfl⟩ (by rfl) (.inl rfl)))))
    · replace h := ifF c26 h
      replace c26 := eq_false_of_ne_true c26
      refine X.seq ?_
      refine T.no rfl c26 ?_
      refine T.skip (X.seq (T.seq (T.region rfl ?_)))
      obtain ⟨⟨x27, x30, st31⟩, hx32, h⟩ := Option.bind_eq_some_iff.1 h
      try dsimp only at h
      refine TL.run ft_cursitorlaw15_ok [0] rfl rfl ?_
      refine TL.cg2 rfl .u (.fn Try.call15 rfl) (f_journal_JournalGet_spec b3 st18 [97] _ hx32) (fun _ hs => (Src.triv _)) rfl ?_
      rintro _ _ _ ⟨A28, c29, rfl, rfl, rfl⟩
      refine TL.sel [0, 0, 0, 0, 0] rfl ?_
      refine TL.copRd 0 rfl ?_
      refine TL.sel [0, 0, 0, 0, 0] rfl ?_
      refine TL.run ft_cursitorlaw15_ok [2, 3, 4] rfl rfl ?_
      refine TL.alloc rfl .u Try.zeroValue24 rfl (fun b33 => ?_)
      refine TL.st0 (cs' := #[.int .i64 x27.fProducer, .int .i64 x27.fEpoch, .int .i64 x27.fTimeout, .int .i64 x27.fState, .slice A28 x27.fTopics.length c29, .int .i64 x27.fUpdated, .int .i64 x27.fStarted]) rfl .u rfl rfl Try.sizeOf24 rfl rfl rfl rfl ?_
      refine TL.run ft_cursitorlaw15_ok [7] rfl rfl ?_
      refine TL.nil (X.seq (T.seq (T.region rfl ?_)))
      refine TL.run ft_cursitorlaw15_ok [0] rfl rfl ?_
      refine TL.q rfl .u (Ex.bS (us := [.string (bsOf x8.fKey), .bool x8.fValue.null, .string (bsOf x8.fValue.data)]) 2 rfl Try.isAgg30 Try.sizeOf30 rfl rfl rfl) rfl ?_
      obtain ⟨⟨x34, st35⟩, hx36, h⟩ := Option.bind_eq_some_iff.1 h
      try dsimp only at h
      refine TL.c4 rfl .u (.fn Try.call14 rfl) (f_journal_JournalApply_spec b3 st31 x8 _ hx36) (fun _ hs => (Src.triv _)) rfl ?_
      refine TL.run ft_cursitorlaw15_ok [3] rfl rfl ?_
      refine TL.nil (X.seq (T.seq (T.region rfl ?_)))
      obtain ⟨⟨x37, x40, st41⟩, hx42, h⟩ := Option.bind_eq_some_iff.1 h
      try dsimp only at h
      refine TL.run ft_cursitorlaw15_ok [0] rfl rfl ?_
      refine TL.cg4 rfl .u (.fn Try.call15 rfl) (f_journal_JournalGet_spec b3 st35 [97] _ hx42) (fun _ hs => (Src.triv _)) rfl ?_
      rintro _ _ _ ⟨A38, c39, rfl, rfl, rfl⟩
      refine TL.sel [0, 0, 0, 0, 0, 0, 0] rfl ?_
      refine TL.copRd 0 rfl ?_
      refine TL.sel [0, 0, 0, 0, 0, 0, 0] rfl ?_
      refine TL.run ft_cursitorlaw15_ok [2, 3, 4] rfl rfl ?_
      refine TL.alloc rfl .u Try.zeroValue24 rfl (fun b43 => ?_)
      refine TL.st0 (cs' := #[.int .i64 x37.fProducer, .int .i64 x37.fEpoch, .int .i64 x37.fTimeout, .int .i64 x37.fState, .slice A38 x37.fTopics.length c39, .int .i64 x37.fUpdated, .int .i64 x37.fStarted]) rfl .u rfl rfl Try.sizeOf24 rfl rfl rfl rfl ?_
      refine TL.run ft_cursitorlaw15_ok [7] rfl rfl ?_
      refine TL.nil (X.seq (T.seq ?_))
      obtain ⟨⟨y50, st51⟩, h, hk52⟩ := Option.bind_eq_some_iff.1 h
      refine T.jq (fun e Rs => e = [(0, .bool y50)] ∧ Rs = [BlkR b43 24 #[.int .i64 x37.fProducer, .int .i64 x37.fEpoch, .int .i64 x37.fTimeout, .int .i64 x37.fState, .slice A38 x37.fTopics.length c39, .int .i64 x37.fUpdated, .int .i64 x37.fStarted], RdR (sliceRd 2 Top_rd) [.slice A38 x37.fTopics.length c39] x37.fTopics, BlkR b33 24 #[.int .i64 x27.fProducer, .int .i64 x27.fEpoch, .int .i64 x27.fTimeout, .int .i64 x27.fState, .slice A28 x27.fTopics.length c29, .int .i64 x27.fUpdated, .int .i64 x27.fStarted], RdR (sliceRd 2 Top_rd) [.slice A28 x27.fTopics.length c29] x27.fTopics, BlkR b11 30 #[.string (bsOf x8.fKey), .bool x8.fValue.null, .string (bsOf x8.fValue.data)], BlkR b7 30 #[.string (bsOf x4.fKey), .bool x4.fValue.null, .string (bsOf x4.fValue.data)], MbR_JournalJournal b3 st51, EmpR]) ?_ ?_
      · clear hk52
        refine T.region rfl ?_
        by_cases c53 : x30 = true
        · replace h := ifT c53 h
          refine TL.run ft_cursitorlaw15_ok [0, 1] rfl rfl ?_
          refine TL.hv 51 rfl c53 ?_
          by_cases c54 : x34 = 0
          · replace h := ifT c54 h
            refine TL.rw ft_cursitorlaw15_ok 4 rfl ?_
            refine TL.hv 55 rfl (decide_eq_true c54) ?_
            by_cases c55 : x40 = true
            · replace h := ifT c55 h
              refine TL.rw ft_cursitorlaw15_ok 4 rfl ?_
              refine TL.hv 59 rfl (bn_f c55) ?_
              refine TL.rw ft_cursitorlaw15_ok 5 rfl ?_
              cases h
              exact TL.nil (X.jq [0, 0, 0, 0, 0, 0, 0, 0] ⟨rfl, rfl⟩ (by rfl) (by rfl))
            · replace h := ifF c55 h
              replace c55 := eq_false_of_ne_true c55
              refine TL.rw ft_cursitorlaw15_ok 4 rfl ?_
              refine TL.hv 59 rfl (bn_t c55) ?_
              obtain ⟨⟨x56, st57⟩, hx58, h⟩ := Option.bind_eq_some_iff.1 h
              try dsimp only at h
              refine TL.rw ft_cursitorlaw15_ok 1 rfl ?_
              refine TL.c6 rfl (.g rfl rfl rfl) (.fn Try.call22 rfl) (f_journal_JournalMany_spec b3 st41 _ hx58) (fun _ hs => (Src.triv _)) rfl ?_
              refine TL.rw ft_cursitorlaw15_ok 3 rfl ?_
              by_cases c59 : x56 = 2
              · replace h := ifT c59 h
                cases h
                exact TL.nil (X.as (d := 0) (v' := .bool true) rfl (congrArg Value.bool (decide_eq_true c59)) (X.jq [0, 0, 0, 0, 0, 0, 0, 0] ⟨rfl, rfl⟩ (by rfl) (by rfl)))
              · replace h := ifF c59 h
                cases h
                exact TL.nil (X.as (d := 0) (v' := .bool false) rfl (congrArg Value.bool (decide_eq_false c59)) (X.jq [0, 0, 0, 0, 0, 0, 0, 0] ⟨rfl, rfl⟩ (by rfl) (by rfl)))
          · replace h := ifF c54 h
            refine TL.rw ft_cursitorlaw15_ok 4 rfl ?_
            refine TL.hv 55 rfl (decide_eq_false c54) ?_
            refine TL.rw ft_cursitorlaw15_ok 9 rfl ?_
            cases h
            exact TL.nil (X.jq [0, 0, 0, 0, 0, 0, 0, 0] ⟨rfl, rfl⟩ (by rfl) (by rfl))
        · replace h := ifF c53 h
          replace c53 := eq_false_of_ne_true c53
          refine TL.run ft_cursitorlaw15_ok [0, 1] rfl rfl ?_
          refine TL.hv 51 rfl c53 ?_
          refine TL.rw ft_cursitorlaw15_ok 13 rfl ?_
          cases h
          exact TL.nil (X.jq [0, 0, 0, 0, 0, 0, 0, 0] ⟨rfl, rfl⟩ (by rfl) (by rfl))
      · rintro _ _ ⟨rfl, rfl⟩
        clear h
        have h := hk52
        clear hk52
        try dsimp only at h
        obtain rfl := Option.some.inj h
        exact X.seq (T.ret (X.done1 [7] Try.results6 (RV.tm rfl) ⟨rfl, rfl, rfl⟩ (by rfl) (.inl rfl)))
def f_l15_without_l1 (a1 : List UInt8) : List L15Known → List L15Known → Option (List L15Known)
  | [], y3 => some y3
  | x11 :: xs, y3 => if x11.fid = a1 then (f_l15_without_l1 a1 xs y3) else (if (y3.length + 1) * 88 ≤ 140737488355328 then (f_l15_without_l1 a1 xs (y3 ++ [x11])) else none)
def f_l15_without (a0 : List L15Known) (a1 : List UInt8) : Option (List L15Known) := (f_l15_without_l1 a1 a0 []).bind fun y24 => some y24
set_option maxRecDepth 100000 in
set_option maxHeartbeats 4000000 in
theorem f_l15_without_spec (a0 : List L15Known) (A1 : Option Addr) (c2 : Nat) (a1 : List UInt8) (r : List L15Known) (h : f_l15_without a0 a1 = some r) : SpecO Try.prog 19 #[.slice A1 a0.length c2, .string (bsOf a1)] (RX.of (sliceRd 8 L15Known_rd) [.slice A1 a0.length c2] a0) 98 8 L15Known_rd r := by
  refine enterO Try.func19 rfl Try.ntmps19 rfl ?_
  intro F w S hS hSF
  have hX : (RX.of (sliceRd 8 L15Known_rd) [.slice A1 a0.length c2] a0).reads w F := ⟨S, hS, hSF⟩
  unfold f_l15_without at h
  refine T.seq (T.region rfl ?_)
  refine TL.run ft_cursitorlaw15_ok [0] rfl rfl ?_
  refine TL.nil (X.seq (T.seq (T.region rfl ?_)))
  refine TL.run ft_cursitorlaw15_ok [0] rfl rfl ?_
  refine TL.nil (X.seq (T.seq (T.seq (T.region rfl ?_))))
  refine TL.run ft_cursitorlaw15_ok [0] rfl rfl ?_
  refine TL.q rfl .u (Ex.lenS rfl Try.runUnderlying52) rfl ?_
  refine TL.run ft_cursitorlaw15_ok [2] rfl rfl ?_
  refine TL.nil (X.seq (T.block ?_))
  refine T.nilrow 98 8 (oldRd w S L15Known_rd) ?_
  obtain ⟨E7, hE8, hO9⟩ := Option.bind_eq_some_iff.1 h
  have hk13len := RX.len_le hX
  refine T.lp (fun m e Rs => ∃ (y3 : List L15Known) (A4 : Option Addr) (c5 : Nat) (k6 : Nat), k6 + m = a0.length ∧ e = [(1, .string (bsOf a1)), (4, .slice none 0 0), (5, .slice A4 y3.length c5), (8, .slice A1 a0.length c2), (9, .int .i64 (a0.length : Int)), (10, .int .i64 (k6 : Int))] ∧ Rs = [OwnR 98 8 (oldRd w S L15Known_rd) (.slice A4 y3.length c5) y3, EmpR] ∧ f_l15_without_l1 a1 (a0.drop k6) y3 = some E7) (a0.length) [0, 0] ⟨[], none, 0, 0, by simp, rfl, rfl, by rw [List.drop_zero]; exact hE8⟩ (by rfl) (by rfl) ?_
  rintro m10 _ _ ⟨y3, A4, c5, k6, hk13, rfl, rfl, hl12⟩
  clear hE8 h
  cases m10 with
  | zero =>
    have h := hl12
    clear hl12
    rw [List.drop_of_length_le (by omega), f_l15_without_l1] at h
    have hk13ge : ¬ ((k6 : Int) < (a0.length : Int)) := by omega
    refine T.seq (T.region rfl ?_)
    refine TL.run ft_cursitorlaw15_ok [0] rfl rfl ?_
    refine TL.nil (X.seq (T.seq ?_))
    refine T.no rfl (decide_eq_false hk13ge) ?_
    obtain rfl := Option.some.inj h
    replace h := hO9
    clear hO9
    try dsimp only at h
    refine T.exit (X.exs (X.exs (X.ex (X.seq (T.seq (T.region rfl ?_))))))
    refine TL.run ft_cursitorlaw15_ok [0, 1] rfl rfl ?_
    obtain rfl := Option.some.inj h
    refine TL.nil (X.seq (T.ret ?_))
    exact X.done1 [1, 0] Try.results19 (RV.tm rfl) ⟨_, _, rfl, rfl, rfl⟩ (by rfl) (.inl rfl)
  | succ m10 =>
    have h := hl12
    clear hl12
    obtain ⟨x11, hxx11⟩ : ∃ x, a0[k6]? = some x := ⟨_, List.getElem?_eq_getElem (by omega)⟩
    rw [drop_cons hxx11, f_l15_without_l1] at h
    have hk13lt : (k6 : Int) < (a0.length : Int) := by omega
    refine T.seq (T.region rfl ?_)
    refine TL.run ft_cursitorlaw15_ok [0] rfl rfl ?_
    refine TL.nil (X.seq (T.seq ?_))
    refine T.yes rfl (decide_eq_true hk13lt) ?_
    obtain ⟨gz14, oz14, rfl, z14cs, z14cl, z14cc, z14nf, z14r⟩ := RX.elemS (by decide) hS hSF hxx11
    obtain ⟨A15, c16, rfl, z14s0⟩ := z14r
    have hX17 : (RX.of (sliceRd 2 Top_rd) [.slice A15 x11.fv.fTopics.length c16] x11.fv.fTopics).reads w F := ⟨S, z14s0, hSF⟩
    refine T.skip (X.seq (T.seq (T.block (T.seq (T.region rfl ?_)))))
    refine TL.q rfl .u (Ex.ixS (k := k6) rfl rfl rfl Try.runUnderlying52 Try.sizeOf98 (List.getElem?_eq_some_iff.1 hxx11).1) rfl ?_
    refine TL.q rfl .u (Ex.oS (us := [.string (bsOf x11.fid), .int .i64 x11.fv.fProducer, .int .i64 x11.fv.fEpoch, .int .i64 x11.fv.fTimeout, .int .i64 x11.fv.fState, .slice A15 x11.fv.fTopics.length c16, .int .i64 x11.fv.fUpdated, .int .i64 x11.fv.fStarted]) 0 rfl Try.isAgg98 Try.sizeOf98 z14nf z14cc rfl rfl rfl) rfl ?_
    refine TL.alloc rfl .u Try.zeroValue98 rfl (fun b18 => ?_)
    refine TL.st0 (cs' := #[.string (bsOf x11.fid), .int .i64 x11.fv.fProducer, .int .i64 x11.fv.fEpoch, .int .i64 x11.fv.fTimeout, .int .i64 x11.fv.fState, .slice A15 x11.fv.fTopics.length c16, .int .i64 x11.fv.fUpdated, .int .i64 x11.fv.fStarted]) rfl .u rfl rfl Try.sizeOf98 rfl rfl rfl rfl ?_
    refine TL.nil (X.seq (T.seq (T.region rfl ?_)))
    refine TL.rb ft_cursitorlaw15_ok nt_cursitorlaw15_ok 0 rfl 3 rfl rfl ?_
    refine TL.q rfl .u (Ex.sNe rfl rfl) rfl ?_
    by_cases c19 : x11.fid = a1
    · replace h := ifT c19 h
      refine TL.nil (X.seq ?_)
      refine T.no rfl (bn_f (decide_eq_true c19)) ?_
      refine T.skip (X.blk (X.seq (T.region rfl ?_)))
      refine TL.q rfl .u (Ex.add rfl rfl (by omega)) rfl ?_
      refine TL.run ft_cursitorlaw15_ok [1] rfl rfl ?_
      exact TL.nil (X.back (m' := m10) [1, 1] (by omega) ⟨y3, A4, c5, k6 + 1, by omega, rfl, rfl, h⟩ (by rfl) (by rfl))
    · replace h := ifF c19 h
      refine TL.nil (X.seq ?_)
      refine T.yes rfl (bn_t (decide_eq_false c19)) ?_
      refine T.region rfl ?_
      refine TL.run ft_cursitorlaw15_ok [0] rfl rfl ?_
      refine TL.q rfl .u (Ex.bS (us := [.string (bsOf x11.fid), .int .i64 x11.fv.fProducer, .int .i64 x11.fv.fEpoch, .int .i64 x11.fv.fTimeout, .int .i64 x11.fv.fState, .slice A15 x11.fv.fTopics.length c16, .int .i64 x11.fv.fUpdated, .int .i64 x11.fv.fStarted]) 0 rfl Try.isAgg98 Try.sizeOf98 rfl rfl rfl) rfl ?_
      refine TL.lit (cells := #[.string (bsOf x11.fid), .int .i64 x11.fv.fProducer, .int .i64 x11.fv.fEpoch, .int .i64 x11.fv.fTimeout, .int .i64 x11.fv.fState, .slice A15 x11.fv.fTopics.length c16, .int .i64 x11.fv.fUpdated, .int .i64 x11.fv.fStarted]) rfl .u sok_cursitorlaw15_52_1 rfl (by kernel_rfl) rfl (fun b20 => ?_)
      replace h := guard_some h
      obtain ⟨c21, h⟩ := h
      refine TL.app1 1 rfl .u (us := [.string (bsOf x11.fid), .int .i64 x11.fv.fProducer, .int .i64 x11.fv.fEpoch, .int .i64 x11.fv.fTimeout, .int .i64 x11.fv.fState, .slice A15 x11.fv.fTopics.length c16, .int .i64 x11.fv.fUpdated, .int .i64 x11.fv.fStarted]) (u := x11) (l := y3) (E := (oldRd w S L15Known_rd)) Try.underlying52 inf_cursitorlaw15_98 rfl (by decide) rfl rfl rfl rfl rfl rfl (fun _ _ => old_in ⟨_, _, rfl, z14s0⟩) (by have hq := c21; omega) (by have hq := c21; omega) rfl (fun A22 c23 => ?_)
      refine TL.sel [0, 0, 0] rfl ?_
      refine TL.run ft_cursitorlaw15_ok [4] rfl rfl ?_
      refine TL.nil (X.blk (X.seq (T.region rfl ?_)))
      refine TL.q rfl .u (Ex.add rfl rfl (by omega)) rfl ?_
      refine TL.run ft_cursitorlaw15_ok [1] rfl rfl ?_
      exact TL.nil (X.back (m' := m10) [1, 1] (by omega) ⟨(y3 ++ [x11]), A22, c23, k6 + 1, by omega, rfl, rfl, h⟩ (by rfl) (by rfl))
def f_l15_with (a0 : List L15Known) (a1 : List UInt8) (a2 : Val) : Option (List L15Known) := (f_l15_without a0 a1).bind fun x6 => if (x6.length + 1) * 88 ≤ 140737488355328 then (some (x6 ++ [(⟨a1, a2⟩ : L15Known)])) else none
set_option maxRecDepth 100000 in
set_option maxHeartbeats 4000000 in
theorem f_l15_with_spec (a0 : List L15Known) (A1 : Option Addr) (c2 : Nat) (a1 : List UInt8) (a2 : Val) (A3 : Option Addr) (c4 : Nat) (r : List L15Known) (h : f_l15_with a0 a1 a2 = some r) : SpecS Try.prog 21 #[.slice A1 a0.length c2, .string (bsOf a1), .agg #[.int .i64 a2.fProducer, .int .i64 a2.fEpoch, .int .i64 a2.fTimeout, .int .i64 a2.fState, .slice A3 a2.fTopics.length c4, .int .i64 a2.fUpdated, .int .i64 a2.fStarted]] (RX.and (RX.of (sliceRd 8 L15Known_rd) [.slice A1 a0.length c2] a0) (RX.of (sliceRd 2 Top_rd) [.slice A3 a2.fTopics.length c4] a2.fTopics)) EmpR (fun v A' L => ∃ (A14 : Option Addr) (c15 : Nat), v = .slice A14 r.length c15 ∧ A' = EmpR ∧ L = [(⟨_, sliceRd 8 L15Known_rd, [.slice A14 r.length c15], r⟩ : RO)]) := by
  refine enterS Try.func21 rfl Try.ntmps21 rfl ?_
  intro F w S hS hSF
  have hX : (RX.and (RX.of (sliceRd 8 L15Known_rd) [.slice A1 a0.length c2] a0) (RX.of (sliceRd 2 Top_rd) [.slice A3 a2.fTopics.length c4] a2.fTopics)).reads w F := ⟨S, hS, hSF⟩
  unfold f_l15_with at h
  refine T.seq (T.region rfl ?_)
  refine TL.box rfl .u rfl rfl (fun b5 => ?_)
  refine TL.run ft_cursitorlaw15_ok [1] rfl rfl ?_
  obtain ⟨x6, hx9, h⟩ := Option.bind_eq_some_iff.1 h
  replace h := guard_some h
  obtain ⟨c11, h⟩ := h
  refine TL.nil (X.seq (T.seq ?_))
  refine T.join (fun e Rs => ∃ (A7 : Option Addr) (c8 : Nat) (b10 : Nat) (A12 : Option Addr) (c13 : Nat), e = [(2, .agg #[.int .i64 a2.fProducer, .int .i64 a2.fEpoch, .int .i64 a2.fTimeout, .int .i64 a2.fState, .slice A3 a2.fTopics.length c4, .int .i64 a2.fUpdated, .int .i64 a2.fStarted]), (6, .slice A12 (x6 ++ [(⟨a1, a2⟩ : L15Known)]).length c13)] ∧ Rs = [OwnR 98 8 (oldRd w S L15Known_rd) (.slice A12 (x6 ++ [(⟨a1, a2⟩ : L15Known)]).length c13) (x6 ++ [(⟨a1, a2⟩ : L15Known)]), BlkR b5 24 #[.int .i64 a2.fProducer, .int .i64 a2.fEpoch, .int .i64 a2.fTimeout, .int .i64 a2.fState, .slice A3 a2.fTopics.length c4, .int .i64 a2.fUpdated, .int .i64 a2.fStarted], EmpR]) ?_ ?_
  · refine T.draw (.q 0 (.q 1 (.q 3 (.q 4 (.q 5 (.br 2 (.e 6 (.e 7 (.q 8 .nil))) (.e 6 (.e 2 (.e 7 (.q 8 .nil)))))))))) [0, 0] rfl mix_cursitorlaw15 np_jq (by kernel_rfl) ?_
    refine TD.run ft_cursitorlaw15_ok [0, 1, 3] rfl rfl ?_
    refine TD.q rfl .u (Ex.bS (us := [.int .i64 a2.fProducer, .int .i64 a2.fEpoch, .int .i64 a2.fTimeout, .int .i64 a2.fState, .slice A3 a2.fTopics.length c4, .int .i64 a2.fUpdated, .int .i64 a2.fStarted]) 0 rfl Try.isAgg24 Try.sizeOf24 rfl rfl rfl) rfl ?_
    refine TD.q rfl .u (Ex.bld (cells := #[.string (bsOf a1), .int .i64 a2.fProducer, .int .i64 a2.fEpoch, .int .i64 a2.fTimeout, .int .i64 a2.fState, .slice A3 a2.fTopics.length c4, .int .i64 a2.fUpdated, .int .i64 a2.fStarted]) bok_cursitorlaw15_98 rfl (by kernel_rfl)) rfl ?_
    refine TD.br ?_ ?_
    · refine TD.coo rfl .u (.fn Try.call19 rfl) (f_l15_without_spec a0 _ _ a1 _ hx9) hS.1 hSF rfl [1, 1] ?_ ?_
      · intro A7 c8
        rfl
      intro A7 c8
      refine TD.sel [0, 0, 0] rfl ?_
      refine TD.lit (cells := #[.string (bsOf a1), .int .i64 a2.fProducer, .int .i64 a2.fEpoch, .int .i64 a2.fTimeout, .int .i64 a2.fState, .slice A3 a2.fTopics.length c4, .int .i64 a2.fUpdated, .int .i64 a2.fStarted]) rfl .u sok_cursitorlaw15_52_1 rfl (by kernel_rfl) rfl [2, 2] (fun _ => rfl) (fun b10 => ?_)
      refine TD.app1 0 rfl .u (us := [.string (bsOf a1), .int .i64 a2.fProducer, .int .i64 a2.fEpoch, .int .i64 a2.fTimeout, .int .i64 a2.fState, .slice A3 a2.fTopics.length c4, .int .i64 a2.fUpdated, .int .i64 a2.fStarted]) (u := (⟨a1, a2⟩ : L15Known)) (l := x6) (E := (oldRd w S L15Known_rd)) Try.underlying52 inf_cursitorlaw15_98 rfl (by decide) rfl rfl rfl rfl rfl rfl (fun _ _ => old_in ⟨_, _, rfl, hS.2⟩) (by have hq := c11; omega) (by have hq := c11; omega) rfl [1, 1] (fun _ _ => rfl) (fun A12 c13 => ?_)
      refine TD.sel [0, 0, 0] rfl ?_
      refine TD.run ft_cursitorlaw15_ok [8] rfl rfl ?_
      exact TD.nil (X.jn [0, 0, 0] ⟨A7, c8, b10, A12, c13, rfl, rfl⟩ (by rfl) (by rfl))
    · refine TD.lit (cells := #[.string (bsOf a1), .int .i64 a2.fProducer, .int .i64 a2.fEpoch, .int .i64 a2.fTimeout, .int .i64 a2.fState, .slice A3 a2.fTopics.length c4, .int .i64 a2.fUpdated, .int .i64 a2.fStarted]) rfl .u sok_cursitorlaw15_52_1 rfl (by kernel_rfl) rfl [1, 1] (fun _ => rfl) (fun b10 => ?_)
      refine TD.coo rfl .u (.fn Try.call19 rfl) (f_l15_without_spec a0 _ _ a1 _ hx9) hS.1 hSF rfl [2, 2] ?_ ?_
      · intro A7 c8
        rfl
      intro A7 c8
      refine TD.sel [0, 0, 0, 0] rfl ?_
      refine TD.sel [1, 0, 0, 0] rfl ?_
      refine TD.app1 0 rfl .u (us := [.string (bsOf a1), .int .i64 a2.fProducer, .int .i64 a2.fEpoch, .int .i64 a2.fTimeout, .int .i64 a2.fState, .slice A3 a2.fTopics.length c4, .int .i64 a2.fUpdated, .int .i64 a2.fStarted]) (u := (⟨a1, a2⟩ : L15Known)) (l := x6) (E := (oldRd w S L15Known_rd)) Try.underlying52 inf_cursitorlaw15_98 rfl (by decide) rfl rfl rfl rfl rfl rfl (fun _ _ => old_in ⟨_, _, rfl, hS.2⟩) (by have hq := c11; omega) (by have hq := c11; omega) rfl [1, 1] (fun _ _ => rfl) (fun A12 c13 => ?_)
      refine TD.sel [0, 0, 0] rfl ?_
      refine TD.run ft_cursitorlaw15_ok [8] rfl rfl ?_
      exact TD.nil (X.jn [0, 0, 0] ⟨A7, c8, b10, A12, c13, rfl, rfl⟩ (by rfl) (by rfl))
  · rintro _ _ ⟨A7, c8, b10, A12, c13, rfl, rfl⟩
    obtain rfl := Option.some.inj h
    refine X.seq (T.ret ?_)
    refine X.shutO (by decide) 0 rfl ?_
    refine X.sel [0, 0, 0] rfl ?_
    exact X.done1 [2, 0] Try.results21 (RV.tm rfl) ⟨_, ⟨_, _, rfl, rfl, rfl⟩, rfl⟩ (by rfl) (.inl rfl)
def f_l15_find_l1 (a1 : List UInt8) : List L15Known → Bool → Option (Lp (Val × Bool) Bool)
  | [], y4 => some (Lp.go y4)
  | x10 :: xs, y4 => if x10.fid = a1 then (some (Lp.ret (x10.fv, true))) else (f_l15_find_l1 a1 xs y4)
def f_l15_find (a0 : List L15Known) (a1 : List UInt8) : Option (Val × Bool) := (f_l15_find_l1 a1 a0 false).bind fun e => match e with | .ret r => some r | .go y19 => (some ((⟨0, 0, 0, 0, [], 0, 0⟩ : Val), false))
set_option maxRecDepth 100000 in
set_option maxHeartbeats 4000000 in
theorem f_l15_find_spec (a0 : List L15Known) (A1 : Option Addr) (c2 : Nat) (a1 : List UInt8) (r : Val × Bool) (h : f_l15_find a0 a1 = some r) : SpecS Try.prog 48 #[.slice A1 a0.length c2, .string (bsOf a1)] (RX.of (sliceRd 8 L15Known_rd) [.slice A1 a0.length c2] a0) EmpR (fun v A' L => ∃ (A21 : Option Addr) (c22 : Nat), v = .tuple #[.agg #[.int .i64 r.1.fProducer, .int .i64 r.1.fEpoch, .int .i64 r.1.fTimeout, .int .i64 r.1.fState, .slice A21 r.1.fTopics.length c22, .int .i64 r.1.fUpdated, .int .i64 r.1.fStarted], .bool r.2] ∧ A' = EmpR ∧ L = [(⟨_, sliceRd 2 Top_rd, [.slice A21 r.1.fTopics.length c22], r.1.fTopics⟩ : RO)]) := by
  refine enterS Try.func48 rfl Try.ntmps48 rfl ?_
  intro F w S hS hSF
  have hX : (RX.of (sliceRd 8 L15Known_rd) [.slice A1 a0.length c2] a0).reads w F := ⟨S, hS, hSF⟩
  unfold f_l15_find at h
  refine T.seq (T.region rfl ?_)
  refine TL.alloc rfl .u Try.zeroValue24 rfl (fun b3 => ?_)
  refine TL.run ft_cursitorlaw15_ok [1] rfl rfl ?_
  refine TL.nil (X.seq (T.seq (T.seq (T.region rfl ?_))))
  refine TL.run ft_cursitorlaw15_ok [0] rfl rfl ?_
  refine TL.q rfl .u (Ex.lenS rfl Try.runUnderlying52) rfl ?_
  refine TL.run ft_cursitorlaw15_ok [2] rfl rfl ?_
  refine TL.nil (X.seq (T.block ?_))
  obtain ⟨E6, hE7, hO8⟩ := Option.bind_eq_some_iff.1 h
  have hk12len := RX.len_le hX
  refine T.lp (fun m e Rs => ∃ (y4 : Bool) (k5 : Nat), k5 + m = a0.length ∧ e = [(1, .string (bsOf a1)), (4, .pointer (some ⟨b3, 0, none⟩)), (5, .bool y4), (8, .slice A1 a0.length c2), (9, .int .i64 (a0.length : Int)), (10, .int .i64 (k5 : Int))] ∧ Rs = [BlkR b3 24 #[.int .i64 0, .int .i64 0, .int .i64 0, .int .i64 0, .slice none 0 0, .int .i64 0, .int .i64 0], EmpR] ∧ f_l15_find_l1 a1 (a0.drop k5) y4 = some E6) (a0.length) [0, 0] ⟨false, 0, by simp, rfl, rfl, by rw [List.drop_zero]; exact hE7⟩ (by rfl) (by rfl) ?_
  rintro m9 _ _ ⟨y4, k5, hk12, rfl, rfl, hl11⟩
  clear hE7 h
  cases m9 with
  | zero =>
    have h := hl11
    clear hl11
    rw [List.drop_of_length_le (by omega), f_l15_find_l1] at h
    have hk12ge : ¬ ((k5 : Int) < (a0.length : Int)) := by omega
    refine T.seq (T.region rfl ?_)
    refine TL.run ft_cursitorlaw15_ok [0] rfl rfl ?_
    refine TL.nil (X.seq (T.seq ?_))
    refine T.no rfl (decide_eq_false hk12ge) ?_
    obtain rfl := Option.some.inj h
    replace h := hO8
    clear hO8
    try dsimp only at h
    refine T.exit (X.exs (X.exs (X.ex (X.seq (T.seq (T.region rfl ?_))))))
    refine TL.q rfl .u (Ex.bld (cells := #[.int .i64 0, .int .i64 0, .int .i64 0, .int .i64 0, .slice none 0 0, .int .i64 0, .int .i64 0]) bok_cursitorlaw15_24 rfl (by kernel_rfl)) rfl ?_
    refine TL.st0 (cs' := #[.int .i64 0, .int .i64 0, .int .i64 0, .int .i64 0, .slice none 0 0, .int .i64 0, .int .i64 0]) rfl .u rfl rfl Try.sizeOf24 rfl rfl rfl rfl ?_
    refine TL.run ft_cursitorlaw15_ok [2] rfl rfl ?_
    obtain rfl := Option.some.inj h
    refine TL.nil (X.seq (T.ret ?_))
    refine X.nilrd 2 Top_rd ?_
    refine X.shutN (S := S) 0 rfl ?_
    refine X.sel [0, 0, 0] rfl ?_
    exact X.done2 [2, 0] Try.results48 (RV.cS (us := #[.int .i64 0, .int .i64 0, .int .i64 0, .int .i64 0, .slice none 0 0, .int .i64 0, .int .i64 0]) 1 rfl Try.isAgg24 Try.sizeOf24 rfl rfl) (RV.tm rfl) ⟨_, ⟨_, _, rfl, rfl, rfl⟩, rfl⟩ (by rfl) (.inl rfl)
  | succ m9 =>
    have h := hl11
    clear hl11
    obtain ⟨x10, hxx10⟩ : ∃ x, a0[k5]? = some x := ⟨_, List.getElem?_eq_getElem (by omega)⟩
    rw [drop_cons hxx10, f_l15_find_l1] at h
    have hk12lt : (k5 : Int) < (a0.length : Int) := by omega
    refine T.seq (T.region rfl ?_)
    refine TL.run ft_cursitorlaw15_ok [0] rfl rfl ?_
    refine TL.nil (X.seq (T.seq ?_))
    refine T.yes rfl (decide_eq_true hk12lt) ?_
    obtain ⟨gz13, oz13, rfl, z13cs, z13cl, z13cc, z13nf, z13r⟩ := RX.elemS (by decide) hS hSF hxx10
    obtain ⟨A14, c15, rfl, z13s0⟩ := z13r
    have hX16 : (RX.of (sliceRd 2 Top_rd) [.slice A14 x10.fv.fTopics.length c15] x10.fv.fTopics).reads w F := ⟨S, z13s0, hSF⟩
    refine T.skip (X.seq (T.seq (T.block (T.seq (T.region rfl ?_)))))
    refine TL.q rfl .u (Ex.ixS (k := k5) rfl rfl rfl Try.runUnderlying52 Try.sizeOf98 (List.getElem?_eq_some_iff.1 hxx10).1) rfl ?_
    refine TL.q rfl .u (Ex.oS (us := [.string (bsOf x10.fid), .int .i64 x10.fv.fProducer, .int .i64 x10.fv.fEpoch, .int .i64 x10.fv.fTimeout, .int .i64 x10.fv.fState, .slice A14 x10.fv.fTopics.length c15, .int .i64 x10.fv.fUpdated, .int .i64 x10.fv.fStarted]) 0 rfl Try.isAgg98 Try.sizeOf98 z13nf z13cc rfl rfl rfl) rfl ?_
    refine TL.alloc rfl .u Try.zeroValue98 rfl (fun b17 => ?_)
    refine TL.st0 (cs' := #[.string (bsOf x10.fid), .int .i64 x10.fv.fProducer, .int .i64 x10.fv.fEpoch, .int .i64 x10.fv.fTimeout, .int .i64 x10.fv.fState, .slice A14 x10.fv.fTopics.length c15, .int .i64 x10.fv.fUpdated, .int .i64 x10.fv.fStarted]) rfl .u rfl rfl Try.sizeOf98 rfl rfl rfl rfl ?_
    refine TL.nil (X.seq (T.seq (T.region rfl ?_)))
    refine TL.rb ft_cursitorlaw15_ok nt_cursitorlaw15_ok 0 rfl 3 rfl rfl ?_
    refine TL.q rfl .u (Ex.sEq rfl rfl) rfl ?_
    by_cases c18 : x10.fid = a1
    · replace h := ifT c18 h
      refine TL.nil (X.seq ?_)
      refine T.yes rfl (decide_eq_true c18) ?_
      refine T.seq (T.region rfl ?_)
      refine TL.run ft_cursitorlaw15_ok [0] rfl rfl ?_
      refine TL.q rfl .u (Ex.bS (us := [.int .i64 x10.fv.fProducer, .int .i64 x10.fv.fEpoch, .int .i64 x10.fv.fTimeout, .int .i64 x10.fv.fState, .slice A14 x10.fv.fTopics.length c15, .int .i64 x10.fv.fUpdated, .int .i64 x10.fv.fStarted]) 0 rfl Try.isAgg24 Try.sizeOf24 rfl rfl rfl) rfl ?_
      refine TL.st1 (cs' := #[.int .i64 x10.fv.fProducer, .int .i64 x10.fv.fEpoch, .int .i64 x10.fv.fTimeout, .int .i64 x10.fv.fState, .slice A14 x10.fv.fTopics.length c15, .int .i64 x10.fv.fUpdated, .int .i64 x10.fv.fStarted]) rfl .u rfl rfl Try.sizeOf24 rfl rfl rfl rfl ?_
      refine TL.run ft_cursitorlaw15_ok [3] rfl rfl ?_
      obtain rfl := Option.some.inj h
      replace h := hO8
      clear hO8
      try dsimp only at h
      obtain rfl := Option.some.inj h
      refine TL.nil (X.seq (T.ret (X.rb (X.rs (X.rs (X.rb (X.rs ?_)))))))
      refine X.oldrd (E := sliceRd 2 Top_rd) (cs := [.slice A14 x10.fv.fTopics.length c15]) (x := x10.fv.fTopics) z13s0 ?_
      exact X.done2 [3, 0] Try.results48 (RV.cS (us := #[.int .i64 x10.fv.fProducer, .int .i64 x10.fv.fEpoch, .int .i64 x10.fv.fTimeout, .int .i64 x10.fv.fState, .slice A14 x10.fv.fTopics.length c15, .int .i64 x10.fv.fUpdated, .int .i64 x10.fv.fStarted]) 2 rfl Try.isAgg24 Try.sizeOf24 rfl rfl) (RV.tm rfl) ⟨_, ⟨_, _, rfl, rfl, rfl⟩, rfl⟩ (by rfl) (.inl rfl)
    · replace h := ifF c18 h
      refine TL.nil (X.seq ?_)
      refine T.no rfl (decide_eq_false c18) ?_
      refine T.skip (X.blk (X.seq (T.region rfl ?_)))
      refine TL.q rfl .u (Ex.add rfl rfl (by omega)) rfl ?_
      refine TL.run ft_cursitorlaw15_ok [1] rfl rfl ?_
      exact TL.nil (X.back (m' := m9) [1, 1] (by omega) ⟨y4, k5 + 1, by omega, rfl, rfl, h⟩ (by rfl) (by rfl))
def f_l15_is_l1 (a1 : List L15Known) (x4 : List (List UInt8)) : List (List UInt8) → Bool → Nat → JournalJournal → Option (Lp (Bool × JournalJournal) (Bool × JournalJournal))
  | [], y10, k11, st12 => some (Lp.go (y10, st12))
  | x17 :: xs, y10, k11, st12 => (f_l15_find a1 x17).bind fun (x61, x64) => (f_journal_JournalGet st12 x17).bind fun (x67, x70, st71) => (if x64 = true then (if x70 = true then ((f_r14_Same x61 x67).bind fun x89 => if x89 = true then (if (k11 : Int) > 0 then (if -9223372036854775808 ≤ ((k11 : Int) - 1) ∧ ((k11 : Int) - 1) ≤ 9223372036854775807 then (if 0 ≤ ((k11 : Int) - 1) then ((x4[((k11 : Int) - 1).toNat]?).bind fun x95 => if (Op.bytesLess x95 x17) = true then some false else some true) else none) else none) else some false) else some true) else some true) else some true).bind fun y85 => if y85 = true then (some (Lp.ret (false, st71))) else (f_l15_is_l1 a1 x4 xs y10 (k11 + 1) st71)
def f_l15_is (st : JournalJournal) (a1 : List L15Known) : Option (Bool × JournalJournal) := (gJIDs st).bind fun (x4, st7) => if (x4.length : Int) = (a1.length : Int) then ((f_l15_is_l1 a1 x4 x4 false 0 st7).bind fun e => match e with | .ret r => some r | .go (y100, st102) => some (true, st102)) else some (false, st7)
set_option maxRecDepth 100000 in
set_option maxHeartbeats 4000000 in
theorem f_l15_is_spec (g : Nat) (st : JournalJournal) (a1 : List L15Known) (A2 : Option Addr) (c3 : Nat) (r : Bool × JournalJournal) (h : f_l15_is st a1 = some r) : SpecX Try.prog 23 #[.pointer (some ⟨g, 0, none⟩), .slice A2 a1.length c3] (RX.of (sliceRd 8 L15Known_rd) [.slice A2 a1.length c3] a1) (MbR_JournalJournal g st) (fun v A' N => v = .bool r.1 ∧ A' = MbR_JournalJournal g r.2 ∧ N = []) := by
  refine enterA Try.func23 rfl Try.ntmps23 rfl ?_
  intro F w hX
  obtain ⟨S, hS, hSF⟩ := hX
  have hX : (RX.of (sliceRd 8 L15Known_rd) [.slice A2 a1.length c3] a1).reads w F := ⟨S, hS, hSF⟩
  unfold f_l15_is at h
  refine T.seq (T.region rfl ?_)
  refine TL.run ft_cursitorlaw15_ok [0] rfl rfl ?_
  refine TL.nil (X.seq (T.seq (T.region rfl ?_)))
  obtain ⟨⟨x4, st7⟩, hx8, h⟩ := Option.bind_eq_some_iff.1 h
  try dsimp only at h
  refine TL.run ft_cursitorlaw15_ok [0] rfl rfl ?_
  refine TL.cg0 rfl .u (.fn Try.call17 rfl) (gJIDs_spec g st _ hx8) (fun _ hs => (Src.triv _)) rfl ?_
  rintro _ _ _ ⟨A5, c6, rfl, rfl, rfl⟩
  refine TL.sel [0, 0] rfl ?_
  refine TL.run ft_cursitorlaw15_ok [2] rfl rfl ?_
  refine TL.nil (X.seq (T.seq (T.seq (T.region rfl ?_))))
  refine TL.run ft_cursitorlaw15_ok [0] rfl rfl ?_
  refine TL.q rfl .u (Ex.lenS rfl Try.runUnderlying48) rfl ?_
  refine TL.run ft_cursitorlaw15_ok [2] rfl rfl ?_
  refine TL.q rfl .u (Ex.lenS rfl Try.runUnderlying52) rfl ?_
  refine TL.run ft_cursitorlaw15_ok [4] rfl rfl ?_
  by_cases c9 : (x4.length : Int) = (a1.length : Int)
  · replace h := ifT c9 h
    refine TL.nil (X.seq ?_)
    refine T.no rfl (bn_f (decide_eq_true c9)) ?_
    refine T.skip (X.seq (T.seq (T.seq (T.region rfl ?_))))
    refine TL.run ft_cursitorlaw15_ok [0] rfl rfl ?_
    refine TL.q rfl .u (Ex.lenS rfl Try.runUnderlying48) rfl ?_
    refine TL.run ft_cursitorlaw15_ok [2] rfl rfl ?_
    refine TL.nil (X.seq (T.block ?_))
    obtain ⟨E13, hE14, hO15⟩ := Option.bind_eq_some_iff.1 h
    refine T.blen 0 rfl (fun w G h => own_reads (by decide) w G h) (fun hk19len => ?_)
    try dsimp only at hk19len
    refine T.lp (fun m e Rs => ∃ (y10 : Bool) (k11 : Nat) (st12 : JournalJournal), k11 + m = x4.length ∧ e = [(0, .pointer (some ⟨g, 0, none⟩)), (1, .slice A2 a1.length c3), (4, .bool y10), (5, .slice A5 x4.length c6), (19, .slice A5 x4.length c6), (20, .int .i64 (x4.length : Int)), (21, .int .i64 (k11 : Int))] ∧ Rs = [OwnR 9 1 strE (.slice A5 x4.length c6) x4, MbR_JournalJournal g st12] ∧ f_l15_is_l1 a1 x4 (x4.drop k11) y10 k11 st12 = some E13) (x4.length) [0, 0] ⟨false, 0, st7, by simp, rfl, rfl, by rw [List.drop_zero]; exact hE14⟩ (by rfl) (by rfl) ?_
    rintro m16 _ _ ⟨y10, k11, st12, hk19, rfl, rfl, hl18⟩
    clear hE14 h
    cases m16 with
    | zero =>
      have h := hl18
      clear hl18
      rw [List.drop_of_length_le (by omega), f_l15_is_l1] at h
      have hk19ge : ¬ ((k11 : Int) < (x4.length : Int)) := by omega
      refine T.seq (T.region rfl ?_)
      refine TL.run ft_cursitorlaw15_ok [0] rfl rfl ?_
      refine TL.nil (X.seq (T.seq ?_))
      refine T.no rfl (decide_eq_false hk19ge) ?_
      obtain rfl := Option.some.inj h
      replace h := hO15
      clear hO15
      try dsimp only at h
      refine T.exit (X.exs (X.exs (X.ex (X.seq (T.seq (T.region rfl ?_))))))
      refine TL.run ft_cursitorlaw15_ok [0] rfl rfl ?_
      obtain rfl := Option.some.inj h
      exact TL.nil (X.seq (T.ret (X.done1 [1] Try.results23 (RV.tm rfl) ⟨rfl, rfl, rfl⟩ (by rfl) (.inl rfl))))
    | succ m16 =>
      have h := hl18
      clear hl18
      obtain ⟨x17, hxx17⟩ : ∃ x, x4[k11]? = some x := ⟨_, List.getElem?_eq_getElem (by omega)⟩
      rw [drop_cons hxx17, f_l15_is_l1] at h
      have hk19lt : (k11 : Int) < (x4.length : Int) := by omega
      refine T.seq (T.region rfl ?_)
      refine TL.run ft_cursitorlaw15_ok [0] rfl rfl ?_
      refine TL.nil (X.seq (T.seq ?_))
      refine T.yes rfl (decide_eq_true hk19lt) ?_
      refine T.skip (X.seq (T.seq (T.block (T.seq (T.region rfl ?_)))))
      refine TL.run ft_cursitorlaw15_ok [0] rfl rfl ?_
      refine TL.foc (E := strE) (k := k11) 0 rfl (fun w G h => own_reads (by decide) w G h) (by decide) hxx17 ?_
      rintro gz60 oz60 z60cs hA z60cl ⟨_, _, z60r⟩
      cases hA
      obtain rfl : z60cs = [.string (bsOf x17)] := z60r
      clear z60cl
      refine TL.sel [0, 0] rfl ?_
      refine TL.q rfl .u (Ex.ixS (k := k11) rfl rfl rfl Try.runUnderlying48 Try.sizeOf9 (List.getElem?_eq_some_iff.1 hxx17).1) rfl ?_
      refine TL.q rfl .u (Ex.k1 (cs := [.string (bsOf x17)]) 0 0 rfl Try.isAgg9 rfl (fun _ _ h => h.2.2.1) rfl) rfl ?_
      refine TL.run ft_cursitorlaw15_ok [3, 4] rfl rfl ?_
      refine TL.nil (X.seq (T.seq (T.region rfl ?_)))
      obtain ⟨⟨x61, x64⟩, hx65, h⟩ := Option.bind_eq_some_iff.1 h
      try dsimp only at h
      refine TL.run ft_cursitorlaw15_ok [0, 1] rfl rfl ?_
      refine TL.cso  rfl .u (.fn Try.call48 rfl) (f_l15_find_spec a1 _ _ x17 _ hx65) hS hSF rfl ?_
      rintro _ _ _ ⟨A62, c63, rfl, rfl, rfl⟩
      refine TL.sel [0, 0, 0] rfl ?_
      refine TL.run ft_cursitorlaw15_ok [3, 4, 5] rfl rfl ?_
      refine TL.alloc rfl .u Try.zeroValue24 rfl (fun b66 => ?_)
      refine TL.st0 (cs' := #[.int .i64 x61.fProducer, .int .i64 x61.fEpoch, .int .i64 x61.fTimeout, .int .i64 x61.fState, .slice A62 x61.fTopics.length c63, .int .i64 x61.fUpdated, .int .i64 x61.fStarted]) rfl .u rfl rfl Try.sizeOf24 rfl rfl rfl rfl ?_
      refine TL.run ft_cursitorlaw15_ok [8] rfl rfl ?_
      refine TL.nil (X.seq (T.seq (T.region rfl ?_)))
      obtain ⟨⟨x67, x70, st71⟩, hx72, h⟩ := Option.bind_eq_some_iff.1 h
      try dsimp only at h
      refine TL.run ft_cursitorlaw15_ok [0, 1] rfl rfl ?_
      refine TL.cg3 rfl .u (.fn Try.call15 rfl) (f_journal_JournalGet_spec g st12 x17 _ hx72) (fun _ hs => (Src.triv _)) rfl ?_
      rintro _ _ _ ⟨A68, c69, rfl, rfl, rfl⟩
      refine TL.sel [0, 0, 0, 0, 0] rfl ?_
      refine TL.copRd 0 rfl ?_
      refine TL.sel [0, 0, 0, 0, 0] rfl ?_
      refine TL.run ft_cursitorlaw15_ok [3, 4, 5] rfl rfl ?_
      refine TL.alloc rfl .u Try.zeroValue24 rfl (fun b73 => ?_)
      refine TL.st0 (cs' := #[.int .i64 x67.fProducer, .int .i64 x67.fEpoch, .int .i64 x67.fTimeout, .int .i64 x67.fState, .slice A68 x67.fTopics.length c69, .int .i64 x67.fUpdated, .int .i64 x67.fStarted]) rfl .u rfl rfl Try.sizeOf24 rfl rfl rfl rfl ?_
      refine TL.run ft_cursitorlaw15_ok [8] rfl rfl ?_
      refine TL.nil (X.seq (T.seq ?_))
      obtain ⟨y85, h, hk86⟩ := Option.bind_eq_some_iff.1 h
      refine T.jq (fun e Rs => e = [(0, .pointer (some ⟨g, 0, none⟩)), (1, .slice A2 a1.length c3), (4, .bool y10), (5, .slice (some ⟨gz60, oz60, none⟩) x4.length c6), (19, .slice (some ⟨gz60, oz60, none⟩) x4.length c6), (20, .int .i64 (x4.length : Int)), (21, .int .i64 (k11 : Int)), (62, .bool y85)] ∧ Rs = [BlkR b73 24 #[.int .i64 x67.fProducer, .int .i64 x67.fEpoch, .int .i64 x67.fTimeout, .int .i64 x67.fState, .slice A68 x67.fTopics.length c69, .int .i64 x67.fUpdated, .int .i64 x67.fStarted], RdR (sliceRd 2 Top_rd) [.slice A68 x67.fTopics.length c69] x67.fTopics, BlkR b66 24 #[.int .i64 x61.fProducer, .int .i64 x61.fEpoch, .int .i64 x61.fTimeout, .int .i64 x61.fState, .slice A62 x61.fTopics.length c63, .int .i64 x61.fUpdated, .int .i64 x61.fStarted], RdR (oldRd w S (sliceRd 2 Top_rd)) [.slice A62 x61.fTopics.length c63] x61.fTopics, RowK (OwnR 9 1 strE (.slice (some ⟨gz60, oz60, none⟩) x4.length c6) x4) strE gz60 (oz60 + k11 * 1) [.string (bsOf x17)] x17, MbR_JournalJournal g st71]) ?_ ?_
      · clear hk86
        refine T.region rfl ?_
        by_cases c87 : x64 = true
        · replace h := ifT c87 h
          refine TL.run ft_cursitorlaw15_ok [0, 1, 2] rfl rfl ?_
          refine TL.hv 40 rfl (bn_f c87) ?_
          by_cases c88 : x70 = true
          · replace h := ifT c88 h
            refine TL.rw ft_cursitorlaw15_ok 4 rfl ?_
            refine TL.hv 44 rfl (bn_f c88) ?_
            refine TL.q rfl (.g rfl rfl rfl) (Ex.bS (us := [.int .i64 x61.fProducer, .int .i64 x61.fEpoch, .int .i64 x61.fTimeout, .int .i64 x61.fState, .slice A62 x61.fTopics.length c63, .int .i64 x61.fUpdated, .int .i64 x61.fStarted]) 2 rfl Try.isAgg24 Try.sizeOf24 rfl rfl rfl) rfl ?_
            refine TL.q rfl (.g rfl rfl rfl) (Ex.bS (us := [.int .i64 x67.fProducer, .int .i64 x67.fEpoch, .int .i64 x67.fTimeout, .int .i64 x67.fState, .slice A68 x67.fTopics.length c69, .int .i64 x67.fUpdated, .int .i64 x67.fStarted]) 0 rfl Try.isAgg24 Try.sizeOf24 rfl rfl rfl) rfl ?_
            obtain ⟨x89, hx90, h⟩ := Option.bind_eq_some_iff.1 h
            refine TL.ce rfl (.g rfl rfl rfl) (.fn Try.call16 rfl) (f_r14_Same_spec x61 _ _ x67 _ _ _ hx90) (fun _ hs => (RX.reads_and (SrcE.oldres 3 hs rfl xold_rd hSF) (SrcE.res 1 hs rfl (fun w G h => rd_reads w G h)))) rfl ?_
            by_cases c91 : x89 = true
            · replace h := ifT c91 h
              refine TL.rw ft_cursitorlaw15_ok 3 rfl ?_
              refine TL.hv 50 rfl (bn_f c91) ?_
              by_cases c92 : (k11 : Int) > 0
              · replace h := ifT c92 h
                refine TL.rw ft_cursitorlaw15_ok 3 rfl ?_
                refine TL.hv 53 rfl (decide_eq_true c92) ?_
                replace h := guard_some h
                obtain ⟨c93, h⟩ := h
                refine TL.rw ft_cursitorlaw15_ok 2 rfl ?_
                refine TL.q rfl (.g rfl rfl rfl) (Ex.sub rfl rfl c93) rfl ?_
                replace h := guard_some h
                obtain ⟨c94, h⟩ := h
                obtain ⟨x95, hx96, h⟩ := Option.bind_eq_some_iff.1 h
                refine TL.foc (E := strE) (k := ((k11 : Int) - 1).toNat) 4 rfl (fun w G h => own_reads (by decide) w G h.1) (by decide) hx96 ?_
                rintro gg oo z97cs hA z97cl ⟨_, _, z97r⟩
                cases hA
                obtain rfl : z97cs = [.string (bsOf x95)] := z97r
                clear z97cl
                refine TL.sel [0, 0, 0, 0, 0, 0] rfl ?_
                refine TL.q rfl (.g rfl rfl rfl) (Ex.ixS (k := ((k11 : Int) - 1).toNat) rfl rfl ((Int.toNat_of_nonneg c94).symm) Try.runUnderlying48 Try.sizeOf9 (List.getElem?_eq_some_iff.1 hx96).1) rfl ?_
                refine TL.q rfl (.g rfl rfl rfl) (Ex.k1 (cs := [.string (bsOf x95)]) 4 0 rfl Try.isAgg9 rfl (fun _ _ h => h.2.2.1) rfl) rfl ?_
                refine TL.rw ft_cursitorlaw15_ok 1 rfl ?_
                refine TL.q rfl (.g rfl rfl rfl) (Ex.sGe rfl rfl) rfl ?_
                refine TL.rw ft_cursitorlaw15_ok 2 rfl ?_
                by_cases c98 : (Op.bytesLess x95 x17) = true
                · replace h := ifT c98 h
                  refine TL.nil (X.as (d := 62) (v' := .bool false) rfl (congrArg Value.bool (bn_f c98)) ?_)
                  refine X.unf 4 rfl ?_
                  refine X.sel [0, 0, 0, 0, 0, 0] rfl ?_
                  cases h
                  exact X.jq [0, 0, 0, 0, 0, 0] ⟨rfl, rfl⟩ (by rfl) (by rfl)
                · replace h := ifF c98 h
                  replace c98 := eq_false_of_ne_true c98
                  refine TL.nil (X.as (d := 62) (v' := .bool true) rfl (congrArg Value.bool (bn_t c98)) ?_)
                  refine X.unf 4 rfl ?_
                  refine X.sel [0, 0, 0, 0, 0, 0] rfl ?_
                  cases h
                  exact X.jq [0, 0, 0, 0, 0, 0] ⟨rfl, rfl⟩ (by rfl) (by rfl)
              · replace h := ifF c92 h
                refine TL.rw ft_cursitorlaw15_ok 3 rfl ?_
                refine TL.hv 53 rfl (decide_eq_false c92) ?_
                refine TL.rw ft_cursitorlaw15_ok 9 rfl ?_
                cases h
                exact TL.nil (X.jq [0, 0, 0, 0, 0, 0] ⟨rfl, rfl⟩ (by rfl) (by rfl))
            · replace h := ifF c91 h
              replace c91 := eq_false_of_ne_true c91
              refine TL.rw ft_cursitorlaw15_ok 3 rfl ?_
              refine TL.hv 50 rfl (bn_t c91) ?_
              refine TL.rw ft_cursitorlaw15_ok 12 rfl ?_
              cases h
              exact TL.nil (X.jq [0, 0, 0, 0, 0, 0] ⟨rfl, rfl⟩ (by rfl) (by rfl))
          · replace h := ifF c88 h
            replace c88 := eq_false_of_ne_true c88
            refine TL.rw ft_cursitorlaw15_ok 4 rfl ?_
            refine TL.hv 44 rfl (bn_t c88) ?_
            refine TL.rw ft_cursitorlaw15_ok 18 rfl ?_
            cases h
            exact TL.nil (X.jq [0, 0, 0, 0, 0, 0] ⟨rfl, rfl⟩ (by rfl) (by rfl))
        · replace h := ifF c87 h
          replace c87 := eq_false_of_ne_true c87
          refine TL.run ft_cursitorlaw15_ok [0, 1, 2] rfl rfl ?_
          refine TL.hv 40 rfl (bn_t c87) ?_
          refine TL.rw ft_cursitorlaw15_ok 22 rfl ?_
          cases h
          exact TL.nil (X.jq [0, 0, 0, 0, 0, 0] ⟨rfl, rfl⟩ (by rfl) (by rfl))
      · rintro _ _ ⟨rfl, rfl⟩
        clear h
        have h := hk86
        clear hk86
        try dsimp only at h
        by_cases c99 : y85 = true
        · replace h := ifT c99 h
          refine X.seq ?_
          refine T.yes rfl c99 ?_
          refine T.seq (T.region rfl ?_)
          refine TL.run ft_cursitorlaw15_ok [0] rfl rfl ?_
          obtain rfl := Option.some.inj h
          replace h := hO15
          clear hO15
          try dsimp only at h
          obtain rfl := Option.some.inj h
          exact TL.nil (X.seq (T.ret (X.rb (X.rs (X.rs (X.rb (X.rs (X.done1 [5] Try.results23 (RV.tm rfl) ⟨rfl, rfl, rfl⟩ (by rfl) (.inl rfl)))))))))
        · replace h := ifF c99 h
          replace c99 := eq_false_of_ne_true c99
          refine X.seq ?_
          refine T.no rfl c99 ?_
          refine T.skip (X.blk (X.seq (T.region rfl ?_)))
          refine TL.q rfl .u (Ex.add rfl rfl (by omega)) rfl ?_
          refine TL.run ft_cursitorlaw15_ok [1] rfl rfl ?_
          refine TL.nil ?_
          refine X.unf 4 rfl ?_
          refine X.sel [0, 0, 0, 0, 0, 0] rfl ?_
          exact X.back (m' := m16) [4, 4] (by omega) ⟨y10, k11 + 1, st71, by omega, rfl, rfl, h⟩ (by rfl) (by rfl)
  · replace h := ifF c9 h
    refine TL.nil (X.seq ?_)
    refine T.yes rfl (bn_t (decide_eq_false c9)) ?_
    refine T.seq (T.region rfl ?_)
    refine TL.run ft_cursitorlaw15_ok [0] rfl rfl ?_
    obtain rfl := Option.some.inj h
    exact TL.nil (X.seq (T.ret (X.rs (X.done1 [1] Try.results23 (RV.tm rfl) ⟨rfl, rfl, rfl⟩ (by rfl) (.inl rfl)))))
def f_l15_JournalApplies_l1 : List JournalEntry → Bool → Int → List L15Known → JournalJournal → Option (Lp Bool (Bool × Int × List L15Known × JournalJournal))
  | [], y10, y11, y12, st16 => some (Lp.go (y10, y11, y12, st16))
  | x21 :: xs, y10, y11, y12, st16 => if (x21.fKey.length : Int) > 1000 then some (Lp.ret true) else (if (x21.fValue.data.length : Int) > 1000 then some (Lp.ret true) else ((gKDecode x21.fKey).bind fun (x28, x29) => if x29 = 0 then (if x21.fValue.null = true then (if x21.fValue.data = [] then ((f_l15_without y12 x28).bind fun x34 => if -9223372036854775808 ≤ (y11 + 1) ∧ (y11 + 1) ≤ 9223372036854775807 then ((f_journal_JournalApply st16 x21).bind fun (x40, st41) => if x40 = x29 then ((f_journal_JournalMany st41).bind fun (x44, st45) => if x44 = (y11 + 1) then ((f_l15_is st45 x34).bind fun (x48, st49) => if x48 = true then (f_l15_JournalApplies_l1 xs y10 (y11 + 1) x34 st49) else none) else none) else none) else none) else ((f_journal_JournalApply st16 x21).bind fun (x52, st53) => if x52 = 4 then ((f_journal_JournalMany st53).bind fun (x56, st57) => if x56 = y11 then ((f_l15_is st57 y12).bind fun (x60, st61) => if x60 = true then (f_l15_JournalApplies_l1 xs y10 y11 y12 st61) else none) else none) else none)) else ((f_value_Decode x21.fValue.data).bind fun (x64, x67) => if x67 = 0 then ((f_l15_with y12 x28 x64).bind fun x71 => if -9223372036854775808 ≤ (y11 + 1) ∧ (y11 + 1) ≤ 9223372036854775807 then ((f_journal_JournalApply st16 x21).bind fun (x77, st78) => if x77 = x67 then ((f_journal_JournalMany st78).bind fun (x81, st82) => if x81 = (y11 + 1) then ((f_l15_is st82 x71).bind fun (x85, st86) => if x85 = true then (f_l15_JournalApplies_l1 xs y10 (y11 + 1) x71 st86) else none) else none) else none) else none) else ((f_journal_JournalApply st16 x21).bind fun (x89, st90) => if x89 = x67 then ((f_journal_JournalMany st90).bind fun (x93, st94) => if x93 = y11 then ((f_l15_is st94 y12).bind fun (x97, st98) => if x97 = true then (f_l15_JournalApplies_l1 xs y10 y11 y12 st98) else none) else none) else none))) else ((f_journal_JournalApply st16 x21).bind fun (x101, st102) => if x101 = x29 then ((f_journal_JournalMany st102).bind fun (x105, st106) => if x105 = y11 then ((f_l15_is st106 y12).bind fun (x109, st110) => if x109 = true then (f_l15_JournalApplies_l1 xs y10 y11 y12 st110) else none) else none) else none)))
def f_l15_JournalApplies_l2 : List JournalEntry → Bool → JournalJournal → Option (Lp Bool (Bool × JournalJournal))
  | [], y173, st175 => some (Lp.go (y173, st175))
  | x180 :: xs, y173, st175 => (f_journal_JournalApply st175 x180).bind fun (x185, st186) => if x185 = 0 then (f_l15_JournalApplies_l2 xs y173 st186) else none
def f_l15_JournalApplies (a0 : List JournalEntry) : Option (Bool) := (f_l15_speaks).bind fun x3 => if x3 = true then (if (a0.length : Int) > 60 then some true else ((f_journal_New).bind fun st7 => (f_l15_JournalApplies_l1 a0 false 0 [] st7).bind fun e => match e with | .ret r => some r | .go (y113, y114, y115, st119) => ((f_journal_New).bind fun st120 => (f_journal_JournalCompact st119).bind fun (x123, st126) => (f_l15_JournalApplies_l2 x123 y113 st120).bind fun e => match e with | .ret r => some r | .go (y144, st146) => ((f_l15_is st146 y115).bind fun (x147, st148) => if x147 = true then ((f_journal_JournalMany st148).bind fun (x151, st152) => if x151 = (y115.length : Int) then (if (x123.length : Int) = (y115.length : Int) then some true else none) else none) else none)))) else none
set_option maxRecDepth 100000 in
set_option maxHeartbeats 4000000 in
theorem f_l15_JournalApplies_spec (a0 : List JournalEntry) (A1 : Option Addr) (c2 : Nat) (r : Bool) (h : f_l15_JournalApplies a0 = some r) : SpecX Try.prog 4 #[.slice A1 a0.length c2] (RX.of (sliceRd 3 JournalEntry_rd) [.slice A1 a0.length c2] a0) (EmpR) (fun v A' N => v = .bool r ∧ A' = EmpR ∧ N = []) := by
  refine enterA Try.func4 rfl Try.ntmps4 rfl ?_
  intro F w hX
  obtain ⟨S, hS, hSF⟩ := hX
  have hX : (RX.of (sliceRd 3 JournalEntry_rd) [.slice A1 a0.length c2] a0).reads w F := ⟨S, hS, hSF⟩
  unfold f_l15_JournalApplies at h
  refine T.seq (T.region rfl ?_)
  refine TL.run ft_cursitorlaw15_ok [0] rfl rfl ?_
  obtain ⟨x3, hx4, h⟩ := Option.bind_eq_some_iff.1 h
  refine TL.nil (X.seq (T.seq (T.seq (T.region rfl ?_))))
  refine TL.ce rfl .u (.fn Try.call6 rfl) (f_l15_speaks_spec _ hx4) (fun _ hs => (RX.reads_triv _ _)) rfl ?_
  refine TL.run ft_cursitorlaw15_ok [1] rfl rfl ?_
  by_cases c5 : x3 = true
  · replace h := ifT c5 h
    refine TL.nil (X.seq ?_)
    refine T.no rfl (bn_f c5) ?_
    refine T.skip (X.seq (T.seq (T.seq (T.region rfl ?_))))
    refine TL.run ft_cursitorlaw15_ok [0] rfl rfl ?_
    refine TL.q rfl .u (Ex.lenS rfl Try.runUnderlying51) rfl ?_
    refine TL.run ft_cursitorlaw15_ok [2] rfl rfl ?_
    by_cases c6 : (a0.length : Int) > 60
    · replace h := ifT c6 h
      refine TL.nil (X.seq ?_)
      refine T.yes rfl (decide_eq_true c6) ?_
      refine T.seq (T.region rfl ?_)
      refine TL.run ft_cursitorlaw15_ok [0] rfl rfl ?_
      obtain rfl := Option.some.inj h
      exact TL.nil (X.seq (T.ret (X.rs (X.done1 [0] Try.results4 (RV.tm rfl) ⟨rfl, rfl, rfl⟩ (by rfl) (.inl rfl)))))
    · replace h := ifF c6 h
      refine TL.nil (X.seq ?_)
      refine T.no rfl (decide_eq_false c6) ?_
      obtain ⟨st7, hx8, h⟩ := Option.bind_eq_some_iff.1 h
      refine T.skip (X.seq (T.seq (T.region rfl ?_)))
      refine TL.cge rfl .u (.fn Try.call12 rfl) (f_journal_New_spec _ hx8) (fun _ hs => (RX.reads_triv _ _)) rfl ?_
      rintro _ _ _ ⟨b9, rfl, rfl, rfl⟩
      refine TL.sel [0, 0] rfl ?_
      refine TL.run ft_cursitorlaw15_ok [1, 2] rfl rfl ?_
      refine TL.nil (X.seq (T.seq (T.region rfl ?_)))
      refine TL.run ft_cursitorlaw15_ok [0] rfl rfl ?_
      refine TL.nil (X.seq (T.seq (T.seq (T.region rfl ?_))))
      refine TL.run ft_cursitorlaw15_ok [0] rfl rfl ?_
      refine TL.q rfl .u (Ex.lenS rfl Try.runUnderlying51) rfl ?_
      refine TL.run ft_cursitorlaw15_ok [2] rfl rfl ?_
      refine TL.nil (X.seq (T.block ?_))
      refine T.nilrdo (S := S) 8 L15Known_rd ?_
      obtain ⟨E17, hE18, hO19⟩ := Option.bind_eq_some_iff.1 h
      have hk23len := RX.len_le hX
      refine T.lp (fun m e Rs => ∃ (y10 : Bool) (y11 : Int) (y12 : List L15Known) (A13 : Option Addr) (c14 : Nat) (k15 : Nat) (st16 : JournalJournal), k15 + m = a0.length ∧ e = [(2, .bool y10), (3, .pointer (some ⟨b9, 0, none⟩)), (4, .int .i64 y11), (5, .slice A13 y12.length c14), (22, .slice A1 a0.length c2), (23, .int .i64 (a0.length : Int)), (24, .int .i64 (k15 : Int))] ∧ Rs = [RdR (oldRd w S (sliceRd 8 L15Known_rd)) [.slice A13 y12.length c14] y12, MbR_JournalJournal b9 st16, EmpR] ∧ f_l15_JournalApplies_l1 (a0.drop k15) y10 y11 y12 st16 = some E17) (a0.length) [0, 0, 0] ⟨false, 0, [], none, 0, 0, st7, by simp, rfl, rfl, by rw [List.drop_zero]; exact hE18⟩ (by rfl) (by rfl) ?_
      rintro m20 _ _ ⟨y10, y11, y12, A13, c14, k15, st16, hk23, rfl, rfl, hl22⟩
      clear hE18 h
      cases m20 with
      | zero =>
        have h := hl22
        clear hl22
        rw [List.drop_of_length_le (by omega), f_l15_JournalApplies_l1] at h
        have hk23ge : ¬ ((k15 : Int) < (a0.length : Int)) := by omega
        refine T.seq (T.region rfl ?_)
        refine TL.run ft_cursitorlaw15_ok [0] rfl rfl ?_
        refine TL.nil (X.seq (T.seq ?_))
        refine T.no rfl (decide_eq_false hk23ge) ?_
        obtain rfl := Option.some.inj h
        replace h := hO19
        clear hO19
        try dsimp only at h
        obtain ⟨st165, hx166, h⟩ := Option.bind_eq_some_iff.1 h
        refine T.exit (X.exs (X.exs (X.ex (X.seq (T.seq (T.region rfl ?_))))))
        refine TL.cge rfl .u (.fn Try.call12 rfl) (f_journal_New_spec _ hx166) (fun _ hs => (RX.reads_triv _ _)) rfl ?_
        rintro _ _ _ ⟨b167, rfl, rfl, rfl⟩
        refine TL.sel [0, 0, 0, 0] rfl ?_
        obtain ⟨⟨x168, st171⟩, hx172, h⟩ := Option.bind_eq_some_iff.1 h
        try dsimp only at h
        refine TL.run ft_cursitorlaw15_ok [1] rfl rfl ?_
        refine TL.cg2 rfl .u (.fn Try.call24 rfl) (f_journal_JournalCompact_spec b9 st16 _ hx172) (fun _ hs => (Src.triv _)) rfl ?_
        rintro _ _ _ ⟨A169, c170, rfl, rfl, rfl⟩
        refine TL.sel [0, 0, 0, 0, 0] rfl ?_
        refine TL.run ft_cursitorlaw15_ok [3, 4] rfl rfl ?_
        refine TL.nil (X.seq (T.seq (T.seq (T.region rfl ?_))))
        refine TL.run ft_cursitorlaw15_ok [0] rfl rfl ?_
        refine TL.q rfl .u (Ex.lenS rfl Try.runUnderlying51) rfl ?_
        refine TL.run ft_cursitorlaw15_ok [2] rfl rfl ?_
        refine TL.nil (X.seq (T.block ?_))
        obtain ⟨E176, hE177, hO178⟩ := Option.bind_eq_some_iff.1 h
        refine T.blen 0 rfl (fun w G h => rd_reads w G h) (fun hk182len => ?_)
        try dsimp only at hk182len
        refine T.lp (fun m e Rs => ∃ (y173 : Bool) (k174 : Nat) (st175 : JournalJournal), k174 + m = x168.length ∧ e = [(2, .bool y173), (5, .slice A13 y12.length c14), (12, .pointer (some ⟨b167, 0, none⟩)), (13, .slice A169 x168.length c170), (109, .slice A169 x168.length c170), (110, .int .i64 (x168.length : Int)), (111, .int .i64 (k174 : Int))] ∧ Rs = [RdR (sliceRd 3 JournalEntry_rd) [.slice A169 x168.length c170] x168, MbR_JournalJournal b167 st175, RdR (oldRd w S (sliceRd 8 L15Known_rd)) [.slice A13 y12.length c14] y12, MbR_JournalJournal b9 st171, EmpR] ∧ f_l15_JournalApplies_l2 (x168.drop k174) y173 st175 = some E176) (x168.length) [0, 0, 0, 0, 0] ⟨y10, 0, st165, by simp, rfl, rfl, by rw [List.drop_zero]; exact hE177⟩ (by rfl) (by rfl) ?_
        rintro m179 _ _ ⟨y173, k174, st175, hk182, rfl, rfl, hl181⟩
        clear hE177 h
        cases m179 with
        | zero =>
          have h := hl181
          clear hl181
          rw [List.drop_of_length_le (by omega), f_l15_JournalApplies_l2] at h
          have hk182ge : ¬ ((k174 : Int) < (x168.length : Int)) := by omega
          refine T.seq (T.region rfl ?_)
          refine TL.run ft_cursitorlaw15_ok [0] rfl rfl ?_
          refine TL.nil (X.seq (T.seq ?_))
          refine T.no rfl (decide_eq_false hk182ge) ?_
          obtain rfl := Option.some.inj h
          replace h := hO178
          clear hO178
          try dsimp only at h
          refine T.exit (X.exs (X.exs (X.ex (X.seq (T.seq (T.region rfl ?_))))))
          obtain ⟨⟨x201, st202⟩, hx203, h⟩ := Option.bind_eq_some_iff.1 h
          try dsimp only at h
          refine TL.run ft_cursitorlaw15_ok [0, 1] rfl rfl ?_
          refine TL.c1 rfl .u (.fn Try.call23 rfl) (f_l15_is_spec b167 st175 y12 _ _ _ hx203) (fun _ hs => (Src.oldres 1 hs rfl xold_rd hSF)) rfl ?_
          by_cases c204 : x201 = true
          · replace h := ifT c204 h
            refine TL.run ft_cursitorlaw15_ok [3] rfl rfl ?_
            refine TL.hv 123 rfl c204 ?_
            obtain ⟨⟨x205, st206⟩, hx207, h⟩ := Option.bind_eq_some_iff.1 h
            try dsimp only at h
            refine TL.rw ft_cursitorlaw15_ok 1 rfl ?_
            refine TL.c1 rfl (.g rfl rfl rfl) (.fn Try.call22 rfl) (f_journal_JournalMany_spec b167 st202 _ hx207) (fun _ hs => (Src.triv _)) rfl ?_
            refine TL.rw ft_cursitorlaw15_ok 1 rfl ?_
            refine TL.q rfl (.g rfl rfl rfl) (Ex.lenS rfl Try.runUnderlying52) rfl ?_
            by_cases c208 : x205 = (y12.length : Int)
            · replace h := ifT c208 h
              refine TL.rw ft_cursitorlaw15_ok 3 rfl ?_
              refine TL.hv 130 rfl (decide_eq_true c208) ?_
              refine TL.rw ft_cursitorlaw15_ok 1 rfl ?_
              refine TL.q rfl (.g rfl rfl rfl) (Ex.lenS rfl Try.runUnderlying51) rfl ?_
              refine TL.rw ft_cursitorlaw15_ok 1 rfl ?_
              refine TL.q rfl (.g rfl rfl rfl) (Ex.lenS rfl Try.runUnderlying52) rfl ?_
              refine TL.rw ft_cursitorlaw15_ok 3 rfl ?_
              by_cases c209 : (x168.length : Int) = (y12.length : Int)
              · replace h := ifT c209 h
                obtain rfl := Option.some.inj h
                exact TL.nil (X.seq (T.ret (X.done1 [4] Try.results4 (RV.tm (v := .bool true) (congrArg (fun b => some (Value.bool b)) (decide_eq_true c209))) ⟨rfl, rfl, rfl⟩ (by rfl) (.inl rfl))))
              · replace h := ifF c209 h
                exact nomatch h
            · replace h := ifF c208 h
              refine TL.rw ft_cursitorlaw15_ok 3 rfl ?_
              refine TL.hv 130 rfl (decide_eq_false c208) ?_
              exact nomatch h
          · replace h := ifF c204 h
            replace c204 := eq_false_of_ne_true c204
            refine TL.run ft_cursitorlaw15_ok [3] rfl rfl ?_
            refine TL.hv 123 rfl c204 ?_
            exact nomatch h
        | succ m179 =>
          have h := hl181
          clear hl181
          obtain ⟨x180, hxx180⟩ : ∃ x, x168[k174]? = some x := ⟨_, List.getElem?_eq_getElem (by omega)⟩
          rw [drop_cons hxx180, f_l15_JournalApplies_l2] at h
          have hk182lt : (k174 : Int) < (x168.length : Int) := by omega
          refine T.seq (T.region rfl ?_)
          refine TL.run ft_cursitorlaw15_ok [0] rfl rfl ?_
          refine TL.nil (X.seq (T.seq ?_))
          refine T.yes rfl (decide_eq_true hk182lt) ?_
          refine T.skip (X.seq (T.seq (T.block (T.seq (T.region rfl ?_)))))
          refine TL.foc (E := JournalEntry_rd) (k := k174) 0 rfl (fun w G h => rd_reads w G h) (by decide) hxx180 ?_
          rintro gz183 oz183 z183cs hA z183cl ⟨_, _, z183r⟩
          cases hA
          obtain rfl : z183cs = [.string (bsOf x180.fKey), .bool x180.fValue.null, .string (bsOf x180.fValue.data)] := z183r
          clear z183cl
          refine TL.sel [0, 0, 0, 0, 0] rfl ?_
          refine TL.q rfl .u (Ex.ixS (k := k174) rfl rfl rfl Try.runUnderlying51 Try.sizeOf30 (List.getElem?_eq_some_iff.1 hxx180).1) rfl ?_
          refine TL.q rfl .u (Ex.kS (cs := [.string (bsOf x180.fKey), .bool x180.fValue.null, .string (bsOf x180.fValue.data)]) (us := [.string (bsOf x180.fKey), .bool x180.fValue.null, .string (bsOf x180.fValue.data)]) 0 0 rfl Try.isAgg30 Try.sizeOf30 rfl (fun _ _ h => h.2.2.1) rfl rfl) rfl ?_
          refine TL.alloc rfl .u Try.zeroValue30 rfl (fun b184 => ?_)
          refine TL.st0 (cs' := #[.string (bsOf x180.fKey), .bool x180.fValue.null, .string (bsOf x180.fValue.data)]) rfl .u rfl rfl Try.sizeOf30 rfl rfl rfl rfl ?_
          refine TL.nil (X.seq (T.seq (T.region rfl ?_)))
          refine TL.run ft_cursitorlaw15_ok [0] rfl rfl ?_
          refine TL.q rfl .u (Ex.bS (us := [.string (bsOf x180.fKey), .bool x180.fValue.null, .string (bsOf x180.fValue.data)]) 0 rfl Try.isAgg30 Try.sizeOf30 rfl rfl rfl) rfl ?_
          obtain ⟨⟨x185, st186⟩, hx187, h⟩ := Option.bind_eq_some_iff.1 h
          try dsimp only at h
          refine TL.c2 rfl .u (.fn Try.call14 rfl) (f_journal_JournalApply_spec b167 st175 x180 _ hx187) (fun _ hs => (Src.triv _)) rfl ?_
          refine TL.run ft_cursitorlaw15_ok [3] rfl rfl ?_
          by_cases c188 : x185 = 0
          · replace h := ifT c188 h
            refine TL.nil (X.seq ?_)
            refine T.no rfl (bn_f (decide_eq_true c188)) ?_
            refine T.skip (X.blk (X.seq (T.region rfl ?_)))
            refine TL.q rfl .u (Ex.add rfl rfl (by omega)) rfl ?_
            refine TL.run ft_cursitorlaw15_ok [1] rfl rfl ?_
            refine TL.nil ?_
            refine X.unf 1 rfl ?_
            refine X.sel [0, 0, 0, 0, 0, 0] rfl ?_
            exact X.back (m' := m179) [1, 1, 1, 1, 1] (by omega) ⟨y173, k174 + 1, st186, by omega, rfl, rfl, h⟩ (by rfl) (by rfl)
          · replace h := ifF c188 h
            refine TL.nil (X.seq ?_)
            refine T.yes rfl (bn_t (decide_eq_false c188)) ?_
            exact nomatch h
      | succ m20 =>
        have h := hl22
        clear hl22
        obtain ⟨x21, hxx21⟩ : ∃ x, a0[k15]? = some x := ⟨_, List.getElem?_eq_getElem (by omega)⟩
        rw [drop_cons hxx21, f_l15_JournalApplies_l1] at h
        have hk23lt : (k15 : Int) < (a0.length : Int) := by omega
        refine T.seq (T.region rfl ?_)
        refine TL.run ft_cursitorlaw15_ok [0] rfl rfl ?_
        refine TL.nil (X.seq (T.seq ?_))
        refine T.yes rfl (decide_eq_true hk23lt) ?_
        obtain ⟨gz24, oz24, rfl, z24cs, z24cl, z24cc, z24nf, z24r⟩ := RX.elemS (by decide) hS hSF hxx21
        obtain rfl : z24cs = [.string (bsOf x21.fKey), .bool x21.fValue.null, .string (bsOf x21.fValue.data)] := z24r
        refine T.skip (X.seq (T.seq (T.block (T.seq (T.region rfl ?_)))))
        refine TL.q rfl .u (Ex.ixS (k := k15) rfl rfl rfl Try.runUnderlying51 Try.sizeOf30 (List.getElem?_eq_some_iff.1 hxx21).1) rfl ?_
        refine TL.q rfl .u (Ex.oS (us := [.string (bsOf x21.fKey), .bool x21.fValue.null, .string (bsOf x21.fValue.data)]) 0 rfl Try.isAgg30 Try.sizeOf30 z24nf z24cc rfl rfl rfl) rfl ?_
        refine TL.alloc rfl .u Try.zeroValue30 rfl (fun b25 => ?_)
        refine TL.st0 (cs' := #[.string (bsOf x21.fKey), .bool x21.fValue.null, .string (bsOf x21.fValue.data)]) rfl .u rfl rfl Try.sizeOf30 rfl rfl rfl rfl ?_
        refine TL.nil (X.seq (T.seq (T.seq (T.region rfl ?_))))
        refine TL.rb ft_cursitorlaw15_ok nt_cursitorlaw15_ok 0 rfl 2 rfl rfl ?_
        refine TL.q rfl .u (Ex.lenB rfl Try.runUnderlying9) rfl ?_
        by_cases c26 : (x21.fKey.length : Int) > 1000
        · replace h := ifT c26 h
          refine TL.run ft_cursitorlaw15_ok [3, 4] rfl rfl ?_
          refine TL.hv 32 rfl (decide_eq_true c26) ?_
          refine TL.rw ft_cursitorlaw15_ok 6 rfl ?_
          refine TL.nil (X.seq ?_)
          refine T.yes rfl rfl ?_
          refine T.seq (T.region rfl ?_)
          refine TL.run ft_cursitorlaw15_ok [0] rfl rfl ?_
          obtain rfl := Option.some.inj h
          replace h := hO19
          clear hO19
          try dsimp only at h
          obtain rfl := Option.some.inj h
          exact TL.nil (X.seq (T.ret (X.rs (X.rb (X.rs (X.rs (X.rb (X.rs (X.done1 [3] Try.results4 (RV.tm rfl) ⟨rfl, rfl, rfl⟩ (by rfl) (.inl rfl))))))))))
        · replace h := ifF c26 h
          refine TL.run ft_cursitorlaw15_ok [3, 4] rfl rfl ?_
          refine TL.hv 32 rfl (decide_eq_false c26) ?_
          refine TL.rb ft_cursitorlaw15_ok nt_cursitorlaw15_ok 0 rfl 3 rfl rfl ?_
          refine TL.q rfl (.g rfl rfl rfl) (Ex.lenB rfl Try.runUnderlying9) rfl ?_
          refine TL.rw ft_cursitorlaw15_ok 2 rfl ?_
          by_cases c27 : (x21.fValue.data.length : Int) > 1000
          · replace h := ifT c27 h
            refine TL.nil (X.seq ?_)
            refine T.yes rfl (decide_eq_true c27) ?_
            refine T.seq (T.region rfl ?_)
            refine TL.run ft_cursitorlaw15_ok [0] rfl rfl ?_
            obtain rfl := Option.some.inj h
            replace h := hO19
            clear hO19
            try dsimp only at h
            obtain rfl := Option.some.inj h
            exact TL.nil (X.seq (T.ret (X.rs (X.rb (X.rs (X.rs (X.rb (X.rs (X.done1 [3] Try.results4 (RV.tm rfl) ⟨rfl, rfl, rfl⟩ (by rfl) (.inl rfl))))))))))
          · replace h := ifF c27 h
            refine TL.nil (X.seq ?_)
            refine T.no rfl (decide_eq_false c27) ?_
            refine T.skip (X.seq (T.seq (T.region rfl ?_)))
            obtain ⟨⟨x28, x29⟩, hx30, h⟩ := Option.bind_eq_some_iff.1 h
            try dsimp only at h
            refine TL.rb ft_cursitorlaw15_ok nt_cursitorlaw15_ok 0 rfl 2 rfl rfl ?_
            refine TL.ce rfl .u (.fn Try.call18 rfl) (gKDecode_spec x21.fKey _ hx30) (fun _ hs => (RX.reads_triv _ _)) rfl ?_
            refine TL.run ft_cursitorlaw15_ok [3, 4, 5, 6, 7] rfl rfl ?_
            refine TL.nil (X.seq (T.seq (T.seq (T.region rfl ?_))))
            by_cases c31 : x29 = 0
            · replace h := ifT c31 h
              refine TL.run ft_cursitorlaw15_ok [0, 1, 2] rfl rfl ?_
              refine TL.hv 47 rfl (decide_eq_true c31) ?_
              by_cases c32 : x21.fValue.null = true
              · replace h := ifT c32 h
                refine TL.rb ft_cursitorlaw15_ok nt_cursitorlaw15_ok 0 rfl 5 rfl rfl ?_
                refine TL.hv 52 rfl c32 ?_
                refine TL.rb ft_cursitorlaw15_ok nt_cursitorlaw15_ok 0 rfl 3 rfl rfl ?_
                refine TL.q rfl (.g rfl rfl rfl) (Ex.sNe rfl (m := []) rfl) rfl ?_
                refine TL.rw ft_cursitorlaw15_ok 1 rfl ?_
                by_cases c33 : x21.fValue.data = []
                · replace h := ifT c33 h
                  refine TL.nil (X.seq ?_)
                  refine T.no rfl (bn_f (decide_eq_true c33)) ?_
                  refine T.skip (X.seq (T.seq (T.seq (T.region rfl ?_))))
                  refine TL.run ft_cursitorlaw15_ok [0, 1, 2] rfl rfl ?_
                  refine TL.hv 60 rfl (decide_eq_true c31) ?_
                  refine TL.rb ft_cursitorlaw15_ok nt_cursitorlaw15_ok 0 rfl 4 rfl rfl ?_
                  refine TL.nil (X.seq ?_)
                  refine T.yes rfl c32 ?_
                  refine T.region rfl ?_
                  obtain ⟨x34, hx37, h⟩ := Option.bind_eq_some_iff.1 h
                  refine TL.run ft_cursitorlaw15_ok [0, 1] rfl rfl ?_
                  refine TL.sel [1, 0, 0, 0] rfl ?_
                  refine TL.csn 1 rfl .u (.fn Try.call19 rfl) (SpecO.toS (by decide) (f_l15_without_spec y12 _ _ x28 _ hx37)) (fun w1 G1 hG => (Sep.has 0 rfl hG xold_rd)) hSF rfl ?_
                  rintro _ _ _ ⟨A35, c36, rfl, rfl, rfl⟩
                  refine TL.sel [0, 0, 0, 0] rfl ?_
                  refine TL.lead 0 0 rfl rfl ?_
                  refine TL.sel [0, 0, 0, 0] rfl ?_
                  refine TL.run ft_cursitorlaw15_ok [3] rfl rfl ?_
                  refine TL.nil (X.seq (T.seq (T.seq (T.region rfl ?_))))
                  refine TL.run ft_cursitorlaw15_ok [0, 1] rfl rfl ?_
                  refine TL.nil (X.seq ?_)
                  refine T.yes rfl (decide_eq_true c31) ?_
                  refine T.region rfl ?_
                  replace h := guard_some h
                  obtain ⟨c39, h⟩ := h
                  refine TL.run ft_cursitorlaw15_ok [0] rfl rfl ?_
                  refine TL.q rfl .u (Ex.add rfl rfl c39) rfl ?_
                  refine TL.run ft_cursitorlaw15_ok [2] rfl rfl ?_
                  refine TL.nil (X.seq (T.seq (T.region rfl ?_)))
                  refine TL.run ft_cursitorlaw15_ok [0] rfl rfl ?_
                  refine TL.q rfl .u (Ex.bS (us := [.string (bsOf x21.fKey), .bool x21.fValue.null, .string (bsOf x21.fValue.data)]) 1 rfl Try.isAgg30 Try.sizeOf30 rfl rfl rfl) rfl ?_
                  obtain ⟨⟨x40, st41⟩, hx42, h⟩ := Option.bind_eq_some_iff.1 h
                  try dsimp only at h
                  refine TL.c2 rfl .u (.fn Try.call14 rfl) (f_journal_JournalApply_spec b9 st16 x21 _ hx42) (fun _ hs => (Src.triv _)) rfl ?_
                  by_cases c43 : x40 = x29
                  · replace h := ifT c43 h
                    refine TL.run ft_cursitorlaw15_ok [3, 4, 5] rfl rfl ?_
                    refine TL.hv 93 rfl (bn_f (decide_eq_true c43)) ?_
                    obtain ⟨⟨x44, st45⟩, hx46, h⟩ := Option.bind_eq_some_iff.1 h
                    try dsimp only at h
                    refine TL.rw ft_cursitorlaw15_ok 1 rfl ?_
                    refine TL.c2 rfl (.g rfl rfl rfl) (.fn Try.call22 rfl) (f_journal_JournalMany_spec b9 st41 _ hx46) (fun _ hs => (Src.triv _)) rfl ?_
                    by_cases c47 : x44 = (y11 + 1)
                    · replace h := ifT c47 h
                      refine TL.rw ft_cursitorlaw15_ok 4 rfl ?_
                      refine TL.hv 99 rfl (bn_f (decide_eq_true c47)) ?_
                      obtain ⟨⟨x48, st49⟩, hx50, h⟩ := Option.bind_eq_some_iff.1 h
                      try dsimp only at h
                      refine TL.rw ft_cursitorlaw15_ok 2 rfl ?_
                      refine TL.c2 rfl (.g rfl rfl rfl) (.fn Try.call23 rfl) (f_l15_is_spec b9 st45 x34 _ _ _ hx50) (fun _ hs => (Src.oldres 0 hs rfl xold_rd hSF)) rfl ?_
                      refine TL.rw ft_cursitorlaw15_ok 2 rfl ?_
                      by_cases c51 : x48 = true
                      · replace h := ifT c51 h
                        refine TL.nil (X.seq ?_)
                        refine T.no rfl (bn_f c51) ?_
                        refine T.skip (X.blk (X.seq (T.region rfl ?_)))
                        refine TL.q rfl .u (Ex.add rfl rfl (by omega)) rfl ?_
                        refine TL.run ft_cursitorlaw15_ok [1] rfl rfl ?_
                        exact TL.nil (X.back (m' := m20) [0, 1, 1] (by omega) ⟨y10, (y11 + 1), x34, A35, c36, k15 + 1, st49, by omega, rfl, rfl, h⟩ (by rfl) (by rfl))
                      · replace h := ifF c51 h
                        replace c51 := eq_false_of_ne_true c51
                        refine TL.nil (X.seq ?_)
                        refine T.yes rfl (bn_t c51) ?_
                        exact nomatch h
                    · replace h := ifF c47 h
                      refine TL.rw ft_cursitorlaw15_ok 4 rfl ?_
                      refine TL.hv 99 rfl (bn_t (decide_eq_false c47)) ?_
                      exact nomatch h
                  · replace h := ifF c43 h
                    refine TL.run ft_cursitorlaw15_ok [3, 4, 5] rfl rfl ?_
                    refine TL.hv 93 rfl (bn_t (decide_eq_false c43)) ?_
                    exact nomatch h
                · replace h := ifF c33 h
                  refine TL.nil (X.seq ?_)
                  refine T.yes rfl (bn_t (decide_eq_false c33)) ?_
                  refine T.region rfl ?_
                  refine TL.run ft_cursitorlaw15_ok [0] rfl rfl ?_
                  refine TL.nil (X.seq (T.seq (T.seq (T.region rfl ?_))))
                  refine TL.run ft_cursitorlaw15_ok [0, 1, 2] rfl rfl ?_
                  refine TL.hv 60 rfl (decide_eq_false (show ¬ (4 = 0) by omega)) ?_
                  refine TL.rw ft_cursitorlaw15_ok 4 rfl ?_
                  refine TL.nil (X.seq ?_)
                  refine T.no rfl rfl ?_
                  refine T.seq (T.region rfl ?_)
                  refine TL.run ft_cursitorlaw15_ok [0, 1] rfl rfl ?_
                  refine TL.nil (X.seq ?_)
                  refine T.no rfl (decide_eq_false (show ¬ (4 = 0) by omega)) ?_
                  refine T.skip (X.seq (T.seq (T.seq (T.region rfl ?_))))
                  refine TL.run ft_cursitorlaw15_ok [0, 1] rfl rfl ?_
                  refine TL.nil (X.seq ?_)
                  refine T.no rfl (decide_eq_false (show ¬ (4 = 0) by omega)) ?_
                  refine T.skip (X.seq (T.seq (T.region rfl ?_)))
                  refine TL.run ft_cursitorlaw15_ok [0] rfl rfl ?_
                  refine TL.q rfl .u (Ex.bS (us := [.string (bsOf x21.fKey), .bool x21.fValue.null, .string (bsOf x21.fValue.data)]) 0 rfl Try.isAgg30 Try.sizeOf30 rfl rfl rfl) rfl ?_
                  obtain ⟨⟨x52, st53⟩, hx54, h⟩ := Option.bind_eq_some_iff.1 h
                  try dsimp only at h
                  refine TL.c2 rfl .u (.fn Try.call14 rfl) (f_journal_JournalApply_spec b9 st16 x21 _ hx54) (fun _ hs => (Src.triv _)) rfl ?_
                  by_cases c55 : x52 = 4
                  · replace h := ifT c55 h
                    refine TL.run ft_cursitorlaw15_ok [3, 4, 5] rfl rfl ?_
                    refine TL.hv 93 rfl (bn_f (decide_eq_true c55)) ?_
                    obtain ⟨⟨x56, st57⟩, hx58, h⟩ := Option.bind_eq_some_iff.1 h
                    try dsimp only at h
                    refine TL.rw ft_cursitorlaw15_ok 1 rfl ?_
                    refine TL.c2 rfl (.g rfl rfl rfl) (.fn Try.call22 rfl) (f_journal_JournalMany_spec b9 st53 _ hx58) (fun _ hs => (Src.triv _)) rfl ?_
                    by_cases c59 : x56 = y11
                    · replace h := ifT c59 h
                      refine TL.rw ft_cursitorlaw15_ok 4 rfl ?_
                      refine TL.hv 99 rfl (bn_f (decide_eq_true c59)) ?_
                      obtain ⟨⟨x60, st61⟩, hx62, h⟩ := Option.bind_eq_some_iff.1 h
                      try dsimp only at h
                      refine TL.rw ft_cursitorlaw15_ok 2 rfl ?_
                      refine TL.c2 rfl (.g rfl rfl rfl) (.fn Try.call23 rfl) (f_l15_is_spec b9 st57 y12 _ _ _ hx62) (fun _ hs => (Src.oldres 1 hs rfl xold_rd hSF)) rfl ?_
                      refine TL.rw ft_cursitorlaw15_ok 2 rfl ?_
                      by_cases c63 : x60 = true
                      · replace h := ifT c63 h
                        refine TL.nil (X.seq ?_)
                        refine T.no rfl (bn_f c63) ?_
                        refine T.skip (X.blk (X.seq (T.region rfl ?_)))
                        refine TL.q rfl .u (Ex.add rfl rfl (by omega)) rfl ?_
                        refine TL.run ft_cursitorlaw15_ok [1] rfl rfl ?_
                        exact TL.nil (X.back (m' := m20) [1, 1, 1] (by omega) ⟨y10, y11, y12, A13, c14, k15 + 1, st61, by omega, rfl, rfl, h⟩ (by rfl) (by rfl))
                      · replace h := ifF c63 h
                        replace c63 := eq_false_of_ne_true c63
                        refine TL.nil (X.seq ?_)
                        refine T.yes rfl (bn_t c63) ?_
                        exact nomatch h
                    · replace h := ifF c59 h
                      refine TL.rw ft_cursitorlaw15_ok 4 rfl ?_
                      refine TL.hv 99 rfl (bn_t (decide_eq_false c59)) ?_
                      exact nomatch h
                  · replace h := ifF c55 h
                    refine TL.run ft_cursitorlaw15_ok [3, 4, 5] rfl rfl ?_
                    refine TL.hv 93 rfl (bn_t (decide_eq_false c55)) ?_
                    exact nomatch h
              · replace h := ifF c32 h
                replace c32 := eq_false_of_ne_true c32
                refine TL.rb ft_cursitorlaw15_ok nt_cursitorlaw15_ok 0 rfl 5 rfl rfl ?_
                refine TL.hv 52 rfl c32 ?_
                refine TL.rw ft_cursitorlaw15_ok 5 rfl ?_
                refine TL.nil (X.seq ?_)
                refine T.no rfl rfl ?_
                refine T.skip (X.seq (T.seq (T.seq (T.region rfl ?_))))
                refine TL.run ft_cursitorlaw15_ok [0, 1, 2] rfl rfl ?_
                refine TL.hv 60 rfl (decide_eq_true c31) ?_
                refine TL.rb ft_cursitorlaw15_ok nt_cursitorlaw15_ok 0 rfl 4 rfl rfl ?_
                refine TL.nil (X.seq ?_)
                refine T.no rfl c32 ?_
                refine T.seq (T.region rfl ?_)
                refine TL.run ft_cursitorlaw15_ok [0, 1] rfl rfl ?_
                refine TL.nil (X.seq ?_)
                refine T.yes rfl (decide_eq_true c31) ?_
                refine T.seq (T.region rfl ?_)
                obtain ⟨⟨x64, x67⟩, hx68, h⟩ := Option.bind_eq_some_iff.1 h
                try dsimp only at h
                refine TL.rb ft_cursitorlaw15_ok nt_cursitorlaw15_ok 0 rfl 3 rfl rfl ?_
                refine TL.cge rfl .u (.fn Try.call20 rfl) (f_value_Decode_spec x21.fValue.data _ hx68) (fun _ hs => (RX.reads_triv _ _)) rfl ?_
                rintro _ _ _ ⟨A65, c66, rfl, rfl, rfl⟩
                refine TL.sel [0, 0, 0, 0, 0] rfl ?_
                refine TL.run ft_cursitorlaw15_ok [4, 5, 6] rfl rfl ?_
                refine TL.alloc rfl .u Try.zeroValue24 rfl (fun b69 => ?_)
                refine TL.st0 (cs' := #[.int .i64 x64.fProducer, .int .i64 x64.fEpoch, .int .i64 x64.fTimeout, .int .i64 x64.fState, .slice A65 x64.fTopics.length c66, .int .i64 x64.fUpdated, .int .i64 x64.fStarted]) rfl .u rfl rfl Try.sizeOf24 rfl rfl rfl rfl ?_
                refine TL.run ft_cursitorlaw15_ok [9] rfl rfl ?_
                refine TL.nil (X.seq (T.seq (T.region rfl ?_)))
                refine TL.run ft_cursitorlaw15_ok [0, 1] rfl rfl ?_
                refine TL.nil (X.seq (T.seq (T.region rfl ?_)))
                refine TL.run ft_cursitorlaw15_ok [0, 1] rfl rfl ?_
                by_cases c70 : x67 = 0
                · replace h := ifT c70 h
                  refine TL.nil (X.seq ?_)
                  refine T.yes rfl (decide_eq_true c70) ?_
                  refine T.region rfl ?_
                  refine TL.run ft_cursitorlaw15_ok [0, 1] rfl rfl ?_
                  refine TL.q rfl .u (Ex.bS (us := [.int .i64 x64.fProducer, .int .i64 x64.fEpoch, .int .i64 x64.fTimeout, .int .i64 x64.fState, .slice A65 x64.fTopics.length c66, .int .i64 x64.fUpdated, .int .i64 x64.fStarted]) 0 rfl Try.isAgg24 Try.sizeOf24 rfl rfl rfl) rfl ?_
                  obtain ⟨x71, hx74, h⟩ := Option.bind_eq_some_iff.1 h
                  refine TL.sel [3, 1, 0, 0, 0, 0] rfl ?_
                  refine TL.csn 2 rfl .u (.fn Try.call21 rfl) (f_l15_with_spec y12 _ _ x28 x64 _ _ _ hx74) (fun w1 G1 hG => (xold_and (Sep.has 0 rfl hG xold_rd) (Sep.has 1 rfl hG (xold_new (fun w G h => rd_reads w G h))))) hSF rfl ?_
                  rintro _ _ _ ⟨A72, c73, rfl, rfl, rfl⟩
                  refine TL.sel [0, 0, 0, 0, 0] rfl ?_
                  refine TL.lead 0 0 rfl rfl ?_
                  refine TL.sel [0, 0, 0, 0, 0] rfl ?_
                  refine TL.run ft_cursitorlaw15_ok [4] rfl rfl ?_
                  refine TL.nil (X.seq (T.seq (T.seq (T.region rfl ?_))))
                  refine TL.run ft_cursitorlaw15_ok [0, 1] rfl rfl ?_
                  refine TL.nil (X.seq ?_)
                  refine T.yes rfl (decide_eq_true c70) ?_
                  refine T.region rfl ?_
                  replace h := guard_some h
                  obtain ⟨c76, h⟩ := h
                  refine TL.run ft_cursitorlaw15_ok [0] rfl rfl ?_
                  refine TL.q rfl .u (Ex.add rfl rfl c76) rfl ?_
                  refine TL.run ft_cursitorlaw15_ok [2] rfl rfl ?_
                  refine TL.nil (X.seq (T.seq (T.region rfl ?_)))
                  refine TL.run ft_cursitorlaw15_ok [0] rfl rfl ?_
                  refine TL.q rfl .u (Ex.bS (us := [.string (bsOf x21.fKey), .bool x21.fValue.null, .string (bsOf x21.fValue.data)]) 2 rfl Try.isAgg30 Try.sizeOf30 rfl rfl rfl) rfl ?_
                  obtain ⟨⟨x77, st78⟩, hx79, h⟩ := Option.bind_eq_some_iff.1 h
                  try dsimp only at h
                  refine TL.c3 rfl .u (.fn Try.call14 rfl) (f_journal_JournalApply_spec b9 st16 x21 _ hx79) (fun _ hs => (Src.triv _)) rfl ?_
                  by_cases c80 : x77 = x67
                  · replace h := ifT c80 h
                    refine TL.run ft_cursitorlaw15_ok [3, 4, 5] rfl rfl ?_
                    refine TL.hv 93 rfl (bn_f (decide_eq_true c80)) ?_
                    obtain ⟨⟨x81, st82⟩, hx83, h⟩ := Option.bind_eq_some_iff.1 h
                    try dsimp only at h
                    refine TL.rw ft_cursitorlaw15_ok 1 rfl ?_
                    refine TL.c3 rfl (.g rfl rfl rfl) (.fn Try.call22 rfl) (f_journal_JournalMany_spec b9 st78 _ hx83) (fun _ hs => (Src.triv _)) rfl ?_
                    by_cases c84 : x81 = (y11 + 1)
                    · replace h := ifT c84 h
                      refine TL.rw ft_cursitorlaw15_ok 4 rfl ?_
                      refine TL.hv 99 rfl (bn_f (decide_eq_true c84)) ?_
                      obtain ⟨⟨x85, st86⟩, hx87, h⟩ := Option.bind_eq_some_iff.1 h
                      try dsimp only at h
                      refine TL.rw ft_cursitorlaw15_ok 2 rfl ?_
                      refine TL.c3 rfl (.g rfl rfl rfl) (.fn Try.call23 rfl) (f_l15_is_spec b9 st82 x71 _ _ _ hx87) (fun _ hs => (Src.oldres 0 hs rfl xold_rd hSF)) rfl ?_
                      refine TL.rw ft_cursitorlaw15_ok 2 rfl ?_
                      by_cases c88 : x85 = true
                      · replace h := ifT c88 h
                        refine TL.nil (X.seq ?_)
                        refine T.no rfl (bn_f c88) ?_
                        refine T.skip (X.blk (X.seq (T.region rfl ?_)))
                        refine TL.q rfl .u (Ex.add rfl rfl (by omega)) rfl ?_
                        refine TL.run ft_cursitorlaw15_ok [1] rfl rfl ?_
                        exact TL.nil (X.back (m' := m20) [0, 2, 2] (by omega) ⟨y10, (y11 + 1), x71, A72, c73, k15 + 1, st86, by omega, rfl, rfl, h⟩ (by rfl) (by rfl))
                      · replace h := ifF c88 h
                        replace c88 := eq_false_of_ne_true c88
                        refine TL.nil (X.seq ?_)
                        refine T.yes rfl (bn_t c88) ?_
                        exact nomatch h
                    · replace h := ifF c84 h
                      refine TL.rw ft_cursitorlaw15_ok 4 rfl ?_
                      refine TL.hv 99 rfl (bn_t (decide_eq_false c84)) ?_
                      exact nomatch h
                  · replace h := ifF c80 h
                    refine TL.run ft_cursitorlaw15_ok [3, 4, 5] rfl rfl ?_
                    refine TL.hv 93 rfl (bn_t (decide_eq_false c80)) ?_
                    exact nomatch h
                · replace h := ifF c70 h
                  refine TL.nil (X.seq ?_)
                  refine T.no rfl (decide_eq_false c70) ?_
                  refine T.skip (X.seq (T.seq (T.seq (T.region rfl ?_))))
                  refine TL.run ft_cursitorlaw15_ok [0, 1] rfl rfl ?_
                  refine TL.nil (X.seq ?_)
                  refine T.no rfl (decide_eq_false c70) ?_
                  refine T.skip (X.seq (T.seq (T.region rfl ?_)))
                  refine TL.run ft_cursitorlaw15_ok [0] rfl rfl ?_
                  refine TL.q rfl .u (Ex.bS (us := [.string (bsOf x21.fKey), .bool x21.fValue.null, .string (bsOf x21.fValue.data)]) 2 rfl Try.isAgg30 Try.sizeOf30 rfl rfl rfl) rfl ?_
                  obtain ⟨⟨x89, st90⟩, hx91, h⟩ := Option.bind_eq_some_iff.1 h
                  try dsimp only at h
                  refine TL.c4 rfl .u (.fn Try.call14 rfl) (f_journal_JournalApply_spec b9 st16 x21 _ hx91) (fun _ hs => (Src.triv _)) rfl ?_
                  by_cases c92 : x89 = x67
                  · replace h := ifT c92 h
                    refine TL.run ft_cursitorlaw15_ok [3, 4, 5] rfl rfl ?_
                    refine TL.hv 93 rfl (bn_f (decide_eq_true c92)) ?_
                    obtain ⟨⟨x93, st94⟩, hx95, h⟩ := Option.bind_eq_some_iff.1 h
                    try dsimp only at h
                    refine TL.rw ft_cursitorlaw15_ok 1 rfl ?_
                    refine TL.c4 rfl (.g rfl rfl rfl) (.fn Try.call22 rfl) (f_journal_JournalMany_spec b9 st90 _ hx95) (fun _ hs => (Src.triv _)) rfl ?_
                    by_cases c96 : x93 = y11
                    · replace h := ifT c96 h
                      refine TL.rw ft_cursitorlaw15_ok 4 rfl ?_
                      refine TL.hv 99 rfl (bn_f (decide_eq_true c96)) ?_
                      obtain ⟨⟨x97, st98⟩, hx99, h⟩ := Option.bind_eq_some_iff.1 h
                      try dsimp only at h
                      refine TL.rw ft_cursitorlaw15_ok 2 rfl ?_
                      refine TL.c4 rfl (.g rfl rfl rfl) (.fn Try.call23 rfl) (f_l15_is_spec b9 st94 y12 _ _ _ hx99) (fun _ hs => (Src.oldres 3 hs rfl xold_rd hSF)) rfl ?_
                      refine TL.rw ft_cursitorlaw15_ok 2 rfl ?_
                      by_cases c100 : x97 = true
                      · replace h := ifT c100 h
                        refine TL.nil (X.seq ?_)
                        refine T.no rfl (bn_f c100) ?_
                        refine T.skip (X.blk (X.seq (T.region rfl ?_)))
                        refine TL.q rfl .u (Ex.add rfl rfl (by omega)) rfl ?_
                        refine TL.run ft_cursitorlaw15_ok [1] rfl rfl ?_
                        exact TL.nil (X.back (m' := m20) [3, 3, 3] (by omega) ⟨y10, y11, y12, A13, c14, k15 + 1, st98, by omega, rfl, rfl, h⟩ (by rfl) (by rfl))
                      · replace h := ifF c100 h
                        replace c100 := eq_false_of_ne_true c100
                        refine TL.nil (X.seq ?_)
                        refine T.yes rfl (bn_t c100) ?_
                        exact nomatch h
                    · replace h := ifF c96 h
                      refine TL.rw ft_cursitorlaw15_ok 4 rfl ?_
                      refine TL.hv 99 rfl (bn_t (decide_eq_false c96)) ?_
                      exact nomatch h
                  · replace h := ifF c92 h
                    refine TL.run ft_cursitorlaw15_ok [3, 4, 5] rfl rfl ?_
                    refine TL.hv 93 rfl (bn_t (decide_eq_false c92)) ?_
                    exact nomatch h
            · replace h := ifF c31 h
              refine TL.run ft_cursitorlaw15_ok [0, 1, 2] rfl rfl ?_
              refine TL.hv 47 rfl (decide_eq_false c31) ?_
              refine TL.rw ft_cursitorlaw15_ok 10 rfl ?_
              refine TL.nil (X.seq ?_)
              refine T.no rfl rfl ?_
              refine T.skip (X.seq (T.seq (T.seq (T.region rfl ?_))))
              refine TL.run ft_cursitorlaw15_ok [0, 1, 2] rfl rfl ?_
              refine TL.hv 60 rfl (decide_eq_false c31) ?_
              refine TL.rw ft_cursitorlaw15_ok 4 rfl ?_
              refine TL.nil (X.seq ?_)
              refine T.no rfl rfl ?_
              refine T.seq (T.region rfl ?_)
              refine TL.run ft_cursitorlaw15_ok [0, 1] rfl rfl ?_
              refine TL.nil (X.seq ?_)
              refine T.no rfl (decide_eq_false c31) ?_
              refine T.skip (X.seq (T.seq (T.seq (T.region rfl ?_))))
              refine TL.run ft_cursitorlaw15_ok [0, 1] rfl rfl ?_
              refine TL.nil (X.seq ?_)
              refine T.no rfl (decide_eq_false c31) ?_
              refine T.skip (X.seq (T.seq (T.region rfl ?_)))
              refine TL.run ft_cursitorlaw15_ok [0] rfl rfl ?_
              refine TL.q rfl .u (Ex.bS (us := [.string (bsOf x21.fKey), .bool x21.fValue.null, .string (bsOf x21.fValue.data)]) 0 rfl Try.isAgg30 Try.sizeOf30 rfl rfl rfl) rfl ?_
              obtain ⟨⟨x101, st102⟩, hx103, h⟩ := Option.bind_eq_some_iff.1 h
              try dsimp only at h
              refine TL.c2 rfl .u (.fn Try.call14 rfl) (f_journal_JournalApply_spec b9 st16 x21 _ hx103) (fun _ hs => (Src.triv _)) rfl ?_
              by_cases c104 : x101 = x29
              · replace h := ifT c104 h
                refine TL.run ft_cursitorlaw15_ok [3, 4, 5] rfl rfl ?_
                refine TL.hv 93 rfl (bn_f (decide_eq_true c104)) ?_
                obtain ⟨⟨x105, st106⟩, hx107, h⟩ := Option.bind_eq_some_iff.1 h
                try dsimp only at h
                refine TL.rw ft_cursitorlaw15_ok 1 rfl ?_
                refine TL.c2 rfl (.g rfl rfl rfl) (.fn Try.call22 rfl) (f_journal_JournalMany_spec b9 st102 _ hx107) (fun _ hs => (Src.triv _)) rfl ?_
                by_cases c108 : x105 = y11
                · replace h := ifT c108 h
                  refine TL.rw ft_cursitorlaw15_ok 4 rfl ?_
                  refine TL.hv 99 rfl (bn_f (decide_eq_true c108)) ?_
                  obtain ⟨⟨x109, st110⟩, hx111, h⟩ := Option.bind_eq_some_iff.1 h
                  try dsimp only at h
                  refine TL.rw ft_cursitorlaw15_ok 2 rfl ?_
                  refine TL.c2 rfl (.g rfl rfl rfl) (.fn Try.call23 rfl) (f_l15_is_spec b9 st106 y12 _ _ _ hx111) (fun _ hs => (Src.oldres 1 hs rfl xold_rd hSF)) rfl ?_
                  refine TL.rw ft_cursitorlaw15_ok 2 rfl ?_
                  by_cases c112 : x109 = true
                  · replace h := ifT c112 h
                    refine TL.nil (X.seq ?_)
                    refine T.no rfl (bn_f c112) ?_
                    refine T.skip (X.blk (X.seq (T.region rfl ?_)))
                    refine TL.q rfl .u (Ex.add rfl rfl (by omega)) rfl ?_
                    refine TL.run ft_cursitorlaw15_ok [1] rfl rfl ?_
                    exact TL.nil (X.back (m' := m20) [1, 1, 1] (by omega) ⟨y10, y11, y12, A13, c14, k15 + 1, st110, by omega, rfl, rfl, h⟩ (by rfl) (by rfl))
                  · replace h := ifF c112 h
                    replace c112 := eq_false_of_ne_true c112
                    refine TL.nil (X.seq ?_)
                    refine T.yes rfl (bn_t c112) ?_
                    exact nomatch h
                · replace h := ifF c108 h
                  refine TL.rw ft_cursitorlaw15_ok 4 rfl ?_
                  refine TL.hv 99 rfl (bn_t (decide_eq_false c108)) ?_
                  exact nomatch h
              · replace h := ifF c104 h
                refine TL.run ft_cursitorlaw15_ok [3, 4, 5] rfl rfl ?_
                refine TL.hv 93 rfl (bn_t (decide_eq_false c104)) ?_
                exact nomatch h
  · replace h := ifF c5 h
    replace c5 := eq_false_of_ne_true c5
    refine TL.nil (X.seq ?_)
    refine T.yes rfl (bn_t c5) ?_
    exact nomatch h
end Go.Proofs.Ytlhgogjcaegehaa.Sl
namespace Go.Proofs.Ytlhgogjcaegehaa.Sl
open Go.RowKit
set_option linter.unusedVariables false
set_option linter.unusedSimpArgs false
theorem speaks15_eq : f_l15_speaks = some true := by kernel_rfl
theorem gClone_z {l : List Int} (h : l.length ≤ 1000000) : gClone l = some l := if_pos (by omega)
theorem copied_loop : ∀ (l acc : List Top), (∀ t, t ∈ l → t.fParts.length ≤ 1000000) → acc.length + l.length ≤ 1000000 → f_journal_copied_l1 l acc = some (acc ++ l)
  | [], acc, _, _ => by rw [f_journal_copied_l1, List.append_nil]
  | x :: xs, acc, hx, hl => by
    rw [f_journal_copied_l1, gClone_z (hx x List.mem_cons_self), Option.bind_some, if_pos (by simp only [List.length_cons] at hl; omega), copied_loop xs _ (fun t ht => hx t (List.mem_cons_of_mem _ ht)) (by simp only [List.length_append, List.length_cons, List.length_nil] at hl ⊢; omega), List.append_assoc]
    rfl
theorem copied_eq (v : Val) (hl : v.fTopics.length ≤ 1000000) (hx : ∀ t, t ∈ v.fTopics → t.fParts.length ≤ 1000000) : f_journal_copied v = some v := by
  unfold f_journal_copied
  rw [copied_loop _ _ hx (by simpa using hl)]
  rfl
theorem encK_len {l : List UInt8} (h : kright l = true) : (encK l).length ≤ 40000 := by
  obtain ⟨h1, h2, h3⟩ := kr_fits h
  simp only [encK, List.length_append, be_length]
  omega
theorem r14same_refl (v : Val) (hl : v.fTopics.length ≤ 1000000) (ha : ∀ t, t ∈ v.fTopics → t.fParts.length ≤ 140737488355328) : f_r14_Same v v = some true := by
  unfold f_r14_Same
  rw [rsame_eq _ _ hl ha, sameTs_refl]
  simp
theorem dec_enc {v : Val} (hw : wf_Val v) (hl : wTs v.fTopics ≤ 2000) (hc : chkV v = 0) : okV v ∧ decV (encV v) = (v, 0) := by
  obtain ⟨h1, h2, h3, h4⟩ := chk_zero hc
  have hn := wTs_len v.fTopics
  obtain ⟨w1, w2, w3, w4, w5, w6, w7⟩ := id hw
  have f8 : ∀ n : Int, wI n → fits n 8 = true := fun n h => by rw [fits_8]; exact decide_eq_true h
  have hok : okV v := by
    unfold badR at h1
    exact ⟨f8 _ w1, by rw [fits_2]; exact decide_eq_true (by omega), by rw [fits_4]; exact decide_eq_true (by omega), by rw [fits_1]; exact decide_eq_true (by omega), ⟨fits_small (.inr (.inl rfl)) (by omega) (by omega), okts_ok h4 (by omega)⟩, f8 _ w6, f8 _ w7⟩
  obtain ⟨r, hr⟩ := val_back hok
  refine ⟨hok, ?_⟩
  unfold decV
  rw [hr]
  simp only [if_pos hc]
theorem apply_put {st : JournalJournal} {k : List UInt8} {v : Val} (hk : kright k = true) (hw : wf_Val v) (hl : wTs v.fTopics ≤ 1900) (hc : chkV v = 0) (hm : -9223372036854775808 ≤ st.fmany + 1 ∧ st.fmany + 1 ≤ 9223372036854775807) (hn : st.fknown.length + 1 ≤ 140737488355328) :
    f_journal_JournalApply st ⟨encK k, ⟨false, encV v⟩⟩ = some (0, ⟨mput k v st.fknown, st.fmany + 1⟩) := by
  obtain ⟨hok, hd⟩ := dec_enc hw (by omega) hc
  obtain ⟨-, k2, -⟩ := kr_fits hk
  unfold f_journal_JournalApply
  simp only
  rw [gKDecode_eq _ (by have := encK_len hk; omega), kdec_enc hk]
  simp only [Option.bind_some, if_true]
  rw [gRight_eq, Option.bind_some, show bright ⟨false, encV v⟩ = true from rfl, if_pos rfl, if_neg (by decide), vdecode_eq _ (by rw [encV_len]; have := encV_len v; omega), hd]
  simp only [Option.bind_some, if_true]
  rw [if_pos ⟨hn, by omega⟩, if_pos hm]
theorem put_eq {k : List UInt8} {v : Val} (hw : wf_Val v) (hl : wTs v.fTopics ≤ 2000) : f_journal_Put k v = some (if kright k = true then (if chkV v = 0 then (⟨encK k, ⟨false, encV v⟩⟩, 0) else (⟨[], ⟨false, []⟩⟩, chkV v)) else (⟨[], ⟨false, []⟩⟩, 4)) := by
  unfold f_journal_Put
  rw [gKEncode_eq, Option.bind_some]
  cases hk : kright k with
  | false => rw [kenc_bad hk]; rfl
  | true =>
    rw [kenc_good hk]
    simp only [if_true]
    rw [encode_eq v hw hl, Option.bind_some]
    by_cases hc : chkV v = 0
    · rw [if_pos hc, if_pos hc]; rfl
    · rw [if_neg hc, if_neg hc]
      simp only
      rw [if_neg hc]
end Go.Proofs.Ytlhgogjcaegehaa.Sl
namespace Go.Proofs.Ytlhgogjcaegehaa.Sl
open Go.RowKit Go.WideMaps
set_option linter.unusedVariables false
set_option linter.unusedSimpArgs false
theorem bb_eq : ∀ a b : List UInt8, bytesBefore a b = Op.bytesLess a b
  | [], [] => rfl
  | [], _ :: _ => rfl
  | _ :: _, [] => rfl
  | x :: a, y :: b => by
    show (_ || (_ && bytesBefore a b)) = (_ || (_ && Op.bytesLess a b))
    rw [bb_eq a b]
theorem bb_irr : ∀ a : List UInt8, bytesBefore a a = false
  | [] => rfl
  | x :: a => by
    show (decide (x < x) || (x == x && bytesBefore a a)) = false
    rw [bb_irr a]
    simp
theorem bb_tot : ∀ {a b : List UInt8}, a ≠ b → bytesBefore a b = false → bytesBefore b a = true
  | [], [], h, _ => absurd rfl h
  | [], _ :: _, _, h => by cases h
  | _ :: _, [], _, _ => rfl
  | x :: a, y :: b, h, h2 => by
    have h2 : (decide (x < y) || (x == y && bytesBefore a b)) = false := h2
    show (decide (y < x) || (y == x && bytesBefore b a)) = true
    rw [Bool.or_eq_false_iff] at h2
    by_cases e : x = y
    · subst e
      have h3 : bytesBefore a b = false := by simpa using h2.2
      have := bb_tot (fun q => h (by rw [q])) h3
      simp [this]
    · have h4 : ¬ x < y := of_decide_eq_false h2.1
      have h5 : y < x := by
        rcases Nat.lt_trichotomy x.toNat y.toNat with q | q | q
        · exact absurd q h4
        · exact absurd (UInt8.toNat_inj.1 q) e
        · exact q
      simp [h5]
section
variable {α : Type}
theorem mrem_filter (k : List UInt8) : ∀ l : List (List UInt8 × α), mrem k l = l.filter (fun p => !(p.1 == k))
  | [] => rfl
  | y :: r => by
    rw [mrem, List.filter_cons, mrem_filter k r]
    cases y.1 == k <;> rfl
theorem mins_perm (k : List UInt8) (x : α) : ∀ l : List (List UInt8 × α), (mins k x l).Perm ((k, x) :: l)
  | [] => .refl _
  | y :: r => by
    rw [mins]
    split
    · exact .refl _
    · exact ((mins_perm k x r).cons y).trans (.swap _ _ _)
theorem rise_nil : Rise ([] : List (List UInt8 × α)) := List.Pairwise.nil
theorem rise_rem {k : List UInt8} {l : List (List UInt8 × α)} (h : Rise l) : Rise (mrem k l) := by
  rw [mrem_filter]
  exact List.Pairwise.sublist (List.filter_sublist.map _) h
theorem bb_trans {a b c : List UInt8} (h : bytesBefore a b = true) (k : bytesBefore b c = true) : bytesBefore a c = true := by
  have h3 := List.lt_trans (before_lt h) (before_lt k)
  by_cases e : a = c
  · subst e
    exact absurd h3 (List.lt_irrefl a)
  · cases h5 : bytesBefore a c with
    | true => rfl
    | false => exact absurd (List.lt_trans h3 (before_lt (bb_tot e h5))) (List.lt_irrefl a)
theorem rise_ins {k : List UInt8} {x : α} : ∀ {l : List (List UInt8 × α)}, Rise l → (∀ p, p ∈ l → p.1 ≠ k) → Rise (mins k x l)
  | [], _, _ => List.pairwise_singleton _ _
  | y :: r, h, hn => by
    have h' : (∀ b, b ∈ r.map Prod.fst → bytesBefore y.1 b = true) ∧ (r.map Prod.fst).Pairwise (fun a b => bytesBefore a b = true) := List.pairwise_cons.1 h
    rw [mins]
    split
    · rename_i c
      refine List.pairwise_cons.2 ⟨fun b hb => ?_, h⟩
      rcases List.mem_cons.1 hb with rfl | hb
      · exact c
      · exact bb_trans c (h'.1 b hb)
    · rename_i c
      have c : bytesBefore k y.1 = false := by simpa using c
      refine List.pairwise_cons.2 ⟨fun b hb => ?_, rise_ins h'.2 (fun p hp => hn p (List.mem_cons_of_mem _ hp))⟩
      have hb := ((mins_perm k x r).map Prod.fst).mem_iff.1 hb
      rcases List.mem_cons.1 hb with rfl | hb
      · exact bb_tot (fun e => hn y List.mem_cons_self e.symm) c
      · exact h'.1 b hb
theorem rem_not {k : List UInt8} {l : List (List UInt8 × α)} : ∀ p, p ∈ mrem k l → p.1 ≠ k := fun p hp => by
  rw [mrem_filter] at hp
  have := (List.mem_filter.1 hp).2
  simpa using this
theorem rise_put {k : List UInt8} {x : α} {l : List (List UInt8 × α)} (h : Rise l) : Rise (mput k x l) := rise_ins (rise_rem h) rem_not
theorem rise_one {l : List (List UInt8 × α)} (h : Rise l) {k : List UInt8} {u v : α} (hu : (k, u) ∈ l) (hv : (k, v) ∈ l) : u = v := by
  induction l with
  | nil => cases hu
  | cons y r ih =>
    have h' : (∀ b, b ∈ r.map Prod.fst → bytesBefore y.1 b = true) ∧ (r.map Prod.fst).Pairwise (fun a b => bytesBefore a b = true) := List.pairwise_cons.1 h
    have no : ∀ z, (k, z) ∈ r → y.1 = k → False := fun z hz e => by
      have := h'.1 k (List.mem_map.2 ⟨_, hz, rfl⟩)
      rw [e, bb_irr] at this
      cases this
    rcases List.mem_cons.1 hu with e1 | hu <;> rcases List.mem_cons.1 hv with e2 | hv
    · exact congrArg Prod.snd (e1.trans e2.symm)
    · exact (no _ hv (by rw [← e1])).elim
    · exact (no _ hu (by rw [← e2])).elim
    · exact ih h'.2 hu hv
theorem get_mem {k : List UInt8} {v : α} : ∀ {l : List (List UInt8 × α)}, mget k l = some v → (k, v) ∈ l
  | [], h => by cases h
  | y :: r, h => by
    rw [mget] at h
    split at h
    · rename_i c
      have c : y.1 = k := by simpa using c
      injection h with h
      rw [← c, ← h]
      exact List.mem_cons_self
    · exact List.mem_cons_of_mem _ (get_mem h)
theorem mem_get {k : List UInt8} {v : α} {l : List (List UInt8 × α)} (h : Rise l) (hm : (k, v) ∈ l) : mget k l = some v := by
  have : ∃ u, mget k l = some u := by
    clear h
    induction l with
    | nil => cases hm
    | cons y r ih =>
      rw [mget]
      split
      · exact ⟨_, rfl⟩
      · rename_i c
        rcases List.mem_cons.1 hm with e | hm
        · rw [← e] at c
          simp at c
        · exact ih hm
  obtain ⟨u, hu⟩ := this
  rw [hu, rise_one h (get_mem hu) hm]
theorem rem_len (k : List UInt8) (l : List (List UInt8 × α)) : (mrem k l).length ≤ l.length := by
  rw [mrem_filter]
  exact List.length_filter_le _ _
theorem put_len (k : List UInt8) (x : α) (l : List (List UInt8 × α)) : (mput k x l).length ≤ l.length + 1 := by
  have := (mins_perm k x (mrem k l)).length_eq
  have h2 := rem_len k l
  unfold mput
  simp only [List.length_cons] at this
  omega
theorem put_mem {k : List UInt8} {x : α} {l : List (List UInt8 × α)} {p : List UInt8 × α} (h : p ∈ mput k x l) : p = (k, x) ∨ p ∈ l := by
  have := (mins_perm k x (mrem k l)).mem_iff.1 h
  rcases List.mem_cons.1 this with e | h
  · exact .inl e
  · rw [mrem_filter] at h
    exact .inr (List.mem_filter.1 h).1
theorem rem_mem {k : List UInt8} {l : List (List UInt8 × α)} {p : List UInt8 × α} (h : p ∈ mrem k l) : p ∈ l := by
  rw [mrem_filter] at h
  exact (List.mem_filter.1 h).1
end
def prK (x : L15Known) : List UInt8 × Val := (x.fid, x.fv)
theorem without_loop (k : List UInt8) : ∀ (l acc : List L15Known), acc.length + l.length ≤ 1000000 → f_l15_without_l1 k l acc = some (acc ++ l.filter (fun x => !(x.fid == k)))
  | [], acc, _ => by rw [f_l15_without_l1, List.filter_nil, List.append_nil]
  | x :: xs, acc, h => by
    rw [f_l15_without_l1, List.filter_cons]
    simp only [List.length_cons] at h
    by_cases c : x.fid = k
    · rw [if_pos c, without_loop k xs acc (by omega), if_neg (by simp [c])]
    · rw [if_neg c, if_pos (by omega), without_loop k xs _ (by simp only [List.length_append, List.length_cons, List.length_nil]; omega), if_pos (by simp [c]), List.append_assoc]
      rfl
theorem without_eq (k : List UInt8) (l : List L15Known) (h : l.length ≤ 1000000) : f_l15_without l k = some (l.filter (fun x => !(x.fid == k))) := by
  unfold f_l15_without
  rw [without_loop _ _ _ (by simpa using h)]
  rfl
theorem with_eq (k : List UInt8) (v : Val) (l : List L15Known) (h : l.length ≤ 900000) : f_l15_with l k v = some (l.filter (fun x => !(x.fid == k)) ++ [⟨k, v⟩]) := by
  unfold f_l15_with
  rw [without_eq _ _ (by omega), Option.bind_some, if_pos]
  have := List.length_filter_le (fun x : L15Known => !(x.fid == k)) l
  omega
theorem find_loop {k : List UInt8} {v : Val} (y : Bool) : ∀ {l : List L15Known}, (k, v) ∈ l.map prK → (∀ u, (k, u) ∈ l.map prK → u = v) → f_l15_find_l1 k l y = some (.ret (v, true))
  | [], h, _ => by cases h
  | x :: xs, h, h2 => by
    rw [f_l15_find_l1]
    by_cases c : x.fid = k
    · rw [if_pos c, h2 x.fv (by rw [← c]; exact List.mem_cons_self)]
    · rw [if_neg c]
      rcases List.mem_cons.1 h with e | h
      · exact absurd (congrArg Prod.fst e).symm c
      · exact find_loop y h (fun u hu => h2 u (List.mem_cons_of_mem _ hu))
theorem find_eq {k : List UInt8} {v : Val} {l : List L15Known} (h : (k, v) ∈ l.map prK) (h2 : ∀ u, (k, u) ∈ l.map prK → u = v) : f_l15_find l k = some (v, true) := by
  unfold f_l15_find
  rw [find_loop false h h2]
  rfl
def goodP (p : List UInt8 × Val) : Prop := kright p.1 = true ∧ wf_Val p.2 ∧ chkV p.2 = 0 ∧ wTs p.2.fTopics ≤ 1000
theorem goodP.copied {p : List UInt8 × Val} (h : goodP p) : f_journal_copied p.2 = some p.2 := by
  have hn := wTs_len p.2.fTopics
  exact copied_eq _ (by have := h.2.2.2; omega) (fun t ht => by have := wTs_mem _ t ht; have := h.2.2.2; unfold wT at *; omega)
theorem goodP.same {p : List UInt8 × Val} (h : goodP p) : f_r14_Same p.2 p.2 = some true := by
  have hn := wTs_len p.2.fTopics
  exact r14same_refl _ (by have := h.2.2.2; omega) (fun t ht => by have := wTs_mem _ t ht; have := h.2.2.2; unfold wT at *; omega)
structure Both (st : JournalJournal) (all : List L15Known) : Prop where
  perm : (all.map prK).Perm st.fknown
  rise : Rise st.fknown
  good : ∀ p, p ∈ st.fknown → goodP p
  len : st.fknown.length ≤ 1000
theorem Both.one {st : JournalJournal} {all : List L15Known} (h : Both st all) {k : List UInt8} {v : Val} (hm : (k, v) ∈ st.fknown) : f_l15_find all k = some (v, true) ∧ f_journal_JournalGet st k = some (v, true, st) := by
  refine ⟨find_eq (h.perm.mem_iff.2 hm) (fun u hu => rise_one h.rise (h.perm.mem_iff.1 hu) hm), ?_⟩
  have hg := h.good _ hm
  have hk := (kr_fits hg.1).2.1
  unfold f_journal_JournalGet
  have e := mem_get h.rise hm
  simp only [mhas, e, Option.isSome_some, if_true]
  rw [if_pos (by simp only at hk; omega), Option.bind_some, hg.copied, Option.bind_some]
theorem is_loop {st : JournalJournal} {all : List L15Known} (h : Both st all) (y : Bool) : ∀ (xs : List (List UInt8 × Val)) (k : Nat), st.fknown.drop k = xs → f_l15_is_l1 all (st.fknown.map Prod.fst) (xs.map Prod.fst) y k st = some (.go (y, st))
  | [], k, _ => by rw [List.map_nil, f_l15_is_l1]
  | x :: xs, k, hd => by
    obtain ⟨hx, hd2, hlen⟩ := at_drop hd
    have hm : x ∈ st.fknown := List.mem_of_getElem? hx
    obtain ⟨h1, h2⟩ := h.one (k := x.1) (v := x.2) hm
    rw [List.map_cons, f_l15_is_l1, h1]
    simp only [Option.bind_some]
    rw [h2]
    simp only [Option.bind_some, if_true]
    rw [(h.good _ hm).same]
    simp only [Option.bind_some, if_true]
    have ih := is_loop h y xs (k + 1) hd2
    by_cases c : (k : Int) > 0
    · have hl := h.len
      rw [if_pos c, if_pos (by omega), if_pos (by omega)]
      obtain ⟨j, rfl⟩ : ∃ j, k = j + 1 := ⟨k - 1, by omega⟩
      have hj : j < st.fknown.length := by omega
      have e : (((j + 1 : Nat) : Int) - 1).toNat = j := by omega
      rw [e, List.getElem?_map, List.getElem?_eq_getElem hj]
      simp only [Option.map_some, Option.bind_some]
      have hr : bytesBefore (st.fknown[j]).1 x.1 = true := by
        have hp := List.pairwise_iff_getElem.1 h.rise j (j + 1) (by simpa using hj) (by simp only [List.length_map]; omega) (by omega)
        simp only [List.getElem_map] at hp
        have e2 : st.fknown[j + 1]'(by omega) = x := by
          rw [List.getElem?_eq_getElem (by omega)] at hx
          exact Option.some.inj hx
        rw [e2] at hp
        exact hp
      rw [← bb_eq, hr, if_pos rfl]
      simp only [Option.bind_some, Bool.false_eq_true, if_false]
      exact ih
    · rw [if_neg c]
      simp only [Option.bind_some, Bool.false_eq_true, if_false]
      exact ih
theorem is_eq {st : JournalJournal} {all : List L15Known} (h : Both st all) : f_l15_is st all = some (true, st) := by
  have hl := h.len
  unfold f_l15_is gJIDs
  rw [if_pos (by omega), Option.bind_some]
  have e : all.length = st.fknown.length := by
    have := h.perm.length_eq
    simpa using this
  simp only [List.length_map]
  rw [if_pos (by omega), is_loop h false st.fknown 0 List.drop_zero]
  rfl
theorem all_len {st : JournalJournal} {all : List L15Known} (h : Both st all) : all.length = st.fknown.length := by
  have := h.perm.length_eq
  simpa using this
theorem filter_prK (k : List UInt8) (l : List L15Known) : (l.filter (fun x => !(x.fid == k))).map prK = (l.map prK).filter (fun p => !(p.1 == k)) := by
  rw [List.filter_map]
  rfl
theorem Both.drop {st : JournalJournal} {all : List L15Known} (h : Both st all) (k : List UInt8) (m : Int) : Both ⟨mrem k st.fknown, m⟩ (all.filter (fun x => !(x.fid == k))) := by
  refine ⟨?_, rise_rem h.rise, fun p hp => h.good p (rem_mem hp), Nat.le_trans (rem_len _ _) h.len⟩
  rw [filter_prK]
  show List.Perm _ (mrem k st.fknown)
  rw [mrem_filter]
  exact h.perm.filter _
theorem Both.put {st : JournalJournal} {all : List L15Known} (h : Both st all) (k : List UInt8) (v : Val) (m : Int) (hg : goodP (k, v)) (hl : st.fknown.length < 1000) : Both ⟨mput k v st.fknown, m⟩ (all.filter (fun x => !(x.fid == k)) ++ [⟨k, v⟩]) := by
  refine ⟨?_, rise_put h.rise, fun p hp => (put_mem hp).elim (fun e => e ▸ hg) (h.good p), Nat.le_trans (put_len _ _ _) (by omega)⟩
  rw [List.map_append, filter_prK]
  show List.Perm _ (mput k v st.fknown)
  refine (List.perm_append_comm).trans ?_
  refine List.Perm.trans ?_ (mins_perm k v _).symm
  rw [mrem_filter]
  exact (h.perm.filter _).cons _
theorem kdec_good {l k : List UInt8} (h : kdec l = (k, 0)) (hl : l.length ≤ 1000) : kright k = true := by
  unfold kdec at h
  split at h
  · rename_i c
    exact absurd (congrArg Prod.snd h) c
  rename_i c
  have c : (kdB (btext (kdA l))).err = 0 := Classical.not_not.1 c
  have hk : (btext (kdA l)).1 = k := congrArg Prod.fst h
  have dead : ∀ st : I, st.err ≠ 0 → kdA l = st → False := fun st hs e => by
    rw [e, btext_err hs] at c
    unfold kdB at c
    rw [if_pos rfl, ifail_err hs, iclose_err hs] at c
    exact hs c
  by_cases h2 : l.length < 2
  · refine (dead ⟨l, 0, 1⟩ (show (1 : Int) ≠ 0 by decide) ?_).elim
    unfold kdA
    rw [iint_short l 0 2 (by decide) (by decide) (by omega)]
    rfl
  have hi := iint_ok l 0 2 (by decide) (by decide) (by omega)
  rw [show ((2 : Nat) : Int) = 2 from rfl] at hi
  by_cases hz : beInt (l.take 2) = 0
  · have ha : kdA l = ⟨l.drop 2, 2, 0⟩ := by
      unfold kdA
      rw [hi, hz]
      rfl
    rw [ha] at c hk
    rcases QT.run l 2 (by omega) with ⟨e, st, p1, g1, x1, y1⟩ | ⟨b, r, p1, g1, n1, l1⟩
    · rw [gText_eq] at g1
      have g1 := Option.some.inj g1
      have e2 : btext ⟨l.drop 2, 2, 0⟩ = ([], st) := g1
      rw [e2] at c
      unfold kdB at c
      rw [if_pos rfl, ifail_err y1, iclose_err y1] at c
      exact absurd c y1
    · rw [gText_eq] at g1
      have g1 := Option.some.inj g1
      have e2 : btext ⟨l.drop 2, 2, 0⟩ = (b, ⟨l.drop r, r, 0⟩) := g1
      rw [e2] at c hk
      have hk : b = k := hk
      subst hk
      obtain ⟨-, s2, s3, -, -⟩ := Sp_text.spell l 2 b r (by omega) p1
      rw [List.length_append, be_length] at s3
      unfold kright
      by_cases hb : b = []
      · unfold kdB at c
        rw [if_pos hb, ifail_z, iclose_err (show (4 : Int) ≠ 0 by decide)] at c
        cases c
      · cases b with
        | nil => exact absurd rfl hb
        | cons q b =>
          simp only [List.isEmpty_cons, Bool.not_false, Bool.true_and, decide_eq_true_eq]
          omega
  · refine (dead ⟨l.drop 2, 2, 7⟩ (show (7 : Int) ≠ 0 by decide) ?_).elim
    unfold kdA
    rw [hi, if_neg hz]
    rfl
theorem apply_err {st : JournalJournal} {x : JournalEntry} {k : List UInt8} {e : Int} (hl : x.fKey.length ≤ 1000) (hk : kdec x.fKey = (k, e)) (he : e ≠ 0) : f_journal_JournalApply st x = some (e, st) := by
  unfold f_journal_JournalApply
  rw [gKDecode_eq _ (by omega), hk]
  simp only [Option.bind_some]
  rw [if_neg he]
theorem apply_drop {st : JournalJournal} {x : JournalEntry} {k : List UInt8} (hl : x.fKey.length ≤ 1000) (hk : kdec x.fKey = (k, 0)) (hn : x.fValue.null = true) (hd : x.fValue.data = []) (hm : -9223372036854775808 ≤ st.fmany + 1 ∧ st.fmany + 1 ≤ 9223372036854775807) :
    f_journal_JournalApply st x = some (0, ⟨mrem k st.fknown, st.fmany + 1⟩) := by
  have := (kr_fits (kdec_good hk hl)).2.1
  unfold f_journal_JournalApply
  rw [gKDecode_eq _ (by omega), hk]
  simp only [Option.bind_some, if_true]
  rw [gRight_eq, Option.bind_some, show bright x.fValue = true by unfold bright; rw [hn, hd]; rfl, if_pos rfl, if_pos hn, if_pos (by omega), if_pos hm]
theorem apply_bad {st : JournalJournal} {x : JournalEntry} {k : List UInt8} (hl : x.fKey.length ≤ 1000) (hk : kdec x.fKey = (k, 0)) (hn : x.fValue.null = true) (hd : x.fValue.data ≠ []) : f_journal_JournalApply st x = some (4, st) := by
  unfold f_journal_JournalApply
  rw [gKDecode_eq _ (by omega), hk]
  simp only [Option.bind_some, if_true]
  rw [gRight_eq, Option.bind_some, show bright x.fValue = false by
    unfold bright
    rw [hn]
    cases h : x.fValue.data with
    | nil => exact absurd h hd
    | cons _ _ => rfl, if_neg (by decide)]
theorem apply_val {st : JournalJournal} {x : JournalEntry} {k : List UInt8} (hl : x.fKey.length ≤ 1000) (hv : x.fValue.data.length ≤ 1000) (hk : kdec x.fKey = (k, 0)) (hn : x.fValue.null = false) (hm : -9223372036854775808 ≤ st.fmany + 1 ∧ st.fmany + 1 ≤ 9223372036854775807) (hq : st.fknown.length ≤ 1000) :
    f_journal_JournalApply st x = some (if (decV x.fValue.data).2 = 0 then (0, ⟨mput k (decV x.fValue.data).1 st.fknown, st.fmany + 1⟩) else ((decV x.fValue.data).2, st)) := by
  have := (kr_fits (kdec_good hk hl)).2.1
  unfold f_journal_JournalApply
  rw [gKDecode_eq _ (by omega), hk]
  simp only [Option.bind_some, if_true]
  rw [gRight_eq, Option.bind_some, show bright x.fValue = true by unfold bright; rw [hn]; rfl, if_pos rfl, if_neg (by rw [hn]; decide), vdecode_eq _ (by omega), Option.bind_some]
  by_cases c : (decV x.fValue.data).2 = 0
  · rw [if_pos c, if_pos c, if_pos (by omega), if_pos hm]
  · rw [if_neg c, if_neg c]
theorem decV_goodP {k s : List UInt8} (hk : kright k = true) (h : (decV s).2 = 0) (hs : s.length ≤ 1000) : goodP (k, (decV s).1) := by
  obtain ⟨h1, h2, h3, h4⟩ := decV_good h (by omega)
  have hlen := congrArg List.length h1
  rw [encV_len] at hlen
  have h5 : wTs (decV s).1.fTopics ≤ 1000 := by omega
  have h6 := okV_wf h2 (by omega)
  exact ⟨hk, h6, h3, h5⟩
theorem many_eq (st : JournalJournal) : f_journal_JournalMany st = some (st.fmany, st) := rfl
theorem applies_l1 (y : Bool) : ∀ (xs : List JournalEntry) (n : Nat) (m : Int) (all : List L15Known) (st : JournalJournal), n + xs.length ≤ 100 → Both st all → st.fknown.length ≤ n → st.fmany = m → 0 ≤ m → m ≤ n →
    f_l15_JournalApplies_l1 xs y m all st = some (.ret true) ∨ ∃ m' all' st', f_l15_JournalApplies_l1 xs y m all st = some (.go (y, m', all', st')) ∧ Both st' all' ∧ st'.fknown.length ≤ 100
  | [], n, m, all, st, hn, hB, hl, hm, h0, h1 => .inr ⟨m, all, st, by rw [f_l15_JournalApplies_l1], hB, by simp only [List.length_nil] at hn; omega⟩
  | x :: xs, n, m, all, st, hn, hB, hl, hm, h0, h1 => by
    simp only [List.length_cons] at hn
    have hal := all_len hB
    rw [f_l15_JournalApplies_l1]
    by_cases c1 : (x.fKey.length : Int) > 1000
    · rw [if_pos c1]
      exact .inl rfl
    rw [if_neg c1]
    by_cases c2 : (x.fValue.data.length : Int) > 1000
    · rw [if_pos c2]
      exact .inl rfl
    rw [if_neg c2, gKDecode_eq _ (by omega)]
    simp only [Option.bind_some]
    obtain ⟨k, e, hk⟩ : ∃ k e, kdec x.fKey = (k, e) := ⟨_, _, rfl⟩
    rw [hk]
    simp only
    by_cases he : e = 0
    · subst he
      have hkr := kdec_good hk (by omega)
      rw [if_pos rfl]
      cases hnull : x.fValue.null with
      | true =>
        rw [if_pos rfl]
        by_cases hd : x.fValue.data = []
        · rw [if_pos hd, without_eq _ _ (by omega), Option.bind_some, if_pos (by omega), apply_drop (by omega) hk hnull hd (by omega)]
          simp only [Option.bind_some, if_true, many_eq, hm]
          have hB2 := hB.drop k (m + 1)
          rw [is_eq hB2]
          simp only [Option.bind_some, if_true]
          exact applies_l1 y xs (n + 1) (m + 1) _ _ (by omega) hB2 (by have := rem_len k st.fknown; simp only; omega) rfl (by omega) (by omega)
        · rw [if_neg hd, apply_bad (by omega) hk hnull hd]
          simp only [Option.bind_some, if_true, many_eq, hm]
          rw [is_eq hB]
          simp only [Option.bind_some, if_true]
          exact applies_l1 y xs (n + 1) m _ _ (by omega) hB (by omega) hm (by omega) (by omega)
      | false =>
        rw [if_neg (by decide), vdecode_eq _ (by omega), apply_val (by omega) (by omega) hk hnull (by omega) (by omega)]
        simp only [Option.bind_some]
        by_cases hv : (decV x.fValue.data).2 = 0
        · rw [if_pos hv, with_eq _ _ _ (by omega), Option.bind_some, if_pos (by omega), if_pos hv]
          simp only [Option.bind_some, many_eq, hm, hv, if_true]
          have hB2 := hB.put k (decV x.fValue.data).1 (m + 1) (decV_goodP hkr hv (by omega)) (by omega)
          rw [is_eq hB2]
          simp only [Option.bind_some, if_true]
          exact applies_l1 y xs (n + 1) (m + 1) _ _ (by omega) hB2 (by have := put_len k (decV x.fValue.data).1 st.fknown; simp only; omega) rfl (by omega) (by omega)
        · rw [if_neg hv, if_neg hv]
          simp only [Option.bind_some, if_true, many_eq, hm]
          rw [is_eq hB]
          simp only [Option.bind_some, if_true]
          exact applies_l1 y xs (n + 1) m _ _ (by omega) hB (by omega) hm (by omega) (by omega)
    · rw [if_neg he, apply_err (by omega) hk he]
      simp only [Option.bind_some, if_true, many_eq, hm]
      rw [is_eq hB]
      simp only [Option.bind_some, if_true]
      exact applies_l1 y xs (n + 1) m _ _ (by omega) hB (by omega) hm (by omega) (by omega)
def entE (p : List UInt8 × Val) : JournalEntry := ⟨encK p.1, ⟨false, encV p.2⟩⟩
theorem compact_loop {st : JournalJournal} (hr : Rise st.fknown) (hg : ∀ p, p ∈ st.fknown → goodP p) : ∀ (xs : List (List UInt8 × Val)) (acc : List JournalEntry), (∀ p, p ∈ xs → p ∈ st.fknown) → acc.length + xs.length ≤ 100000 → f_journal_JournalCompact_l1 st (xs.map Prod.fst) acc = some (acc ++ xs.map entE)
  | [], acc, _, _ => by rw [List.map_nil, f_journal_JournalCompact_l1, List.map_nil, List.append_nil]
  | p :: xs, acc, hx, hl => by
    simp only [List.length_cons] at hl
    have hm := hx p List.mem_cons_self
    obtain ⟨g1, g2, g3, g4⟩ := hg p hm
    have hk := (kr_fits g1).2.1
    rw [List.map_cons, f_journal_JournalCompact_l1, if_pos (by omega), mem_get (v := p.2) hr hm, Option.bind_some, put_eq g2 (by omega), if_pos g1, if_pos g3]
    simp only [Option.bind_some]
    rw [if_pos (by omega), compact_loop hr hg xs _ (fun q hq => hx q (List.mem_cons_of_mem _ hq)) (by simp only [List.length_append, List.length_cons, List.length_nil]; omega), List.append_assoc]
    rfl
theorem compact_eq {st : JournalJournal} {all : List L15Known} (h : Both st all) : f_journal_JournalCompact st = some (st.fknown.map entE, st) := by
  have hl := h.len
  unfold f_journal_JournalCompact gJIDs
  rw [if_pos (by omega), Option.bind_some]
  simp only
  rw [compact_loop h.rise h.good _ _ (fun _ h => h) (by simp only [List.length_nil]; omega)]
  rfl
theorem again_loop (y : Bool) : ∀ (xs : List (List UInt8 × Val)) (st : JournalJournal), (∀ p, p ∈ xs → goodP p) → Rise st.fknown → (∀ p, p ∈ xs → ∀ q, q ∈ st.fknown → q.1 ≠ p.1) → (xs.map Prod.fst).Pairwise (fun a b => a ≠ b) → st.fknown.length + xs.length ≤ 1000 → st.fmany = st.fknown.length →
    ∃ st', f_l15_JournalApplies_l2 (xs.map entE) y st = some (.go (y, st')) ∧ st'.fknown.Perm (xs ++ st.fknown) ∧ Rise st'.fknown ∧ st'.fmany = st'.fknown.length
  | [], st, _, hr, _, _, _, hm => ⟨st, by rw [List.map_nil, f_l15_JournalApplies_l2], .refl _, hr, hm⟩
  | p :: xs, st, hg, hr, hn, hd, hl, hm => by
    simp only [List.length_cons] at hl
    obtain ⟨g1, g2, g3, g4⟩ := hg p List.mem_cons_self
    have hd' : (∀ b, b ∈ xs.map Prod.fst → p.1 ≠ b) ∧ (xs.map Prod.fst).Pairwise (fun a b => a ≠ b) := List.pairwise_cons.1 hd
    have hrem : mrem p.1 st.fknown = st.fknown := by
      rw [mrem_filter, List.filter_eq_self]
      intro q hq
      have := hn p List.mem_cons_self q hq
      simpa using this
    have hp : (mput p.1 p.2 st.fknown).Perm (p :: st.fknown) := by
      unfold mput
      rw [hrem]
      exact mins_perm _ _ _
    rw [List.map_cons, f_l15_JournalApplies_l2]
    unfold entE
    rw [apply_put g1 g2 (by omega) g3 (by omega) (by omega)]
    simp only [Option.bind_some, if_true]
    obtain ⟨st', e1, e2, e3, e4⟩ := again_loop y xs ⟨mput p.1 p.2 st.fknown, st.fmany + 1⟩ (fun q hq => hg q (List.mem_cons_of_mem _ hq)) (rise_put hr) (fun q hq u hu => by
      rcases List.mem_cons.1 (hp.mem_iff.1 hu) with rfl | hu
      · exact hd'.1 q.1 (List.mem_map.2 ⟨_, hq, rfl⟩)
      · exact hn q (List.mem_cons_of_mem _ hq) u hu) hd'.2 (by have := hp.length_eq; simp only [List.length_cons] at this; simp only; omega) (by have := hp.length_eq; simp only [List.length_cons] at this; simp only; omega)
    refine ⟨st', e1, ?_, e3, e4⟩
    refine e2.trans ?_
    exact ((hp.append_left xs).trans List.perm_middle)
theorem pure_JournalApplies (a0 : List JournalEntry) (w0 : (wL wf_JournalEntry) a0) : f_l15_JournalApplies a0 = some true := by
  unfold f_l15_JournalApplies
  rw [speaks15_eq]
  simp only [Option.bind_some, if_true, f_journal_New]
  by_cases hl : (a0.length : Int) > 60
  · rw [if_pos hl]
  rw [if_neg hl]
  have hB0 : Both ⟨[], 0⟩ [] := ⟨.refl _, rise_nil, fun _ h => (by cases h), by simp⟩
  rcases applies_l1 false a0 0 0 [] ⟨[], 0⟩ (by omega) hB0 (by simp) rfl (by omega) (by omega) with h | ⟨m', all', st', h, hB, hk⟩
  · rw [h]
    rfl
  rw [h]
  simp only [Option.bind_some]
  rw [compact_eq hB]
  simp only [Option.bind_some]
  have hne : (st'.fknown.map Prod.fst).Pairwise (fun a b => a ≠ b) := hB.rise.imp (fun {a b} hab e => by rw [e, bb_irr] at hab; cases hab)
  obtain ⟨st2, e1, e2, e3, e4⟩ := again_loop false st'.fknown ⟨[], 0⟩ hB.good rise_nil (fun _ _ _ h => by cases h) hne (by simp only [List.length_nil]; omega) rfl
  rw [List.append_nil] at e2
  rw [e1]
  simp only [Option.bind_some]
  have hB2 : Both st2 all' := ⟨hB.perm.trans e2.symm, e3, fun p hp => hB.good p (e2.mem_iff.1 hp), by have := e2.length_eq; omega⟩
  have hlen := all_len hB2
  have hlen1 := all_len hB
  rw [is_eq hB2]
  simp only [Option.bind_some, if_true, many_eq, e4, List.length_map]
  rw [if_pos (by omega), if_pos (by omega)]
end Go.Proofs.Ytlhgogjcaegehaa.Sl
namespace Go.Proofs.Ytlhgogjcaegehaa.Sl
open Go.RowKit Go.Deep Go.ChangeShapes
set_option linter.unusedVariables false
theorem op_Bl {H : Type} {enc : TypeId × Value → H} : OpensW enc Try.prog 28 (andRd Bl_rd wf_Bl) :=
  opensW_weak (fun x => ⟨x.1, x.2.1⟩) (opensW_struct Try.underlying28 (by kernel_rfl) (opensWFs_cons 1 (by kernel_rfl) (by kernel_rfl) (op_bool Try.underlying4) (opensWFs_cons 1 (by kernel_rfl) (by kernel_rfl) (op_str Try.underlying9) (opensWFs_nil _)))) (by
    rintro w S cs ⟨x0, x1, _⟩ ⟨_, _, rfl, ⟨p0, q0⟩, _, _, rfl, ⟨p1, q1⟩, rfl⟩
    obtain rfl := p0
    obtain rfl := p1
    exact ⟨rfl, q0, q1⟩)
theorem op_JournalEntry {H : Type} {enc : TypeId × Value → H} : OpensW enc Try.prog 30 (andRd JournalEntry_rd wf_JournalEntry) :=
  opensW_weak (fun x => ⟨x.1, x.2.1⟩) (opensW_struct Try.underlying30 (by kernel_rfl) (opensWFs_cons 1 (by kernel_rfl) (by kernel_rfl) (op_str Try.underlying9) (opensWFs_cons 2 (by kernel_rfl) (by kernel_rfl) op_Bl (opensWFs_nil _)))) (by
    rintro w S cs ⟨x0, x1, _⟩ ⟨_, _, rfl, ⟨p0, q0⟩, _, _, rfl, ⟨p1, q1⟩, rfl⟩
    obtain rfl := p0
    obtain rfl := p1
    exact ⟨rfl, q0, q1⟩)
end Go.Proofs.Ytlhgogjcaegehaa.Sl
namespace Go.Proofs.Ytlhgogjcaegehaa.journalApplies
open Go.ChangeShapes Go.WideShapes Go.ChangeAt Go.RowKit
open Go.ChangeMaps (open_string shut_string)
set_option linter.unusedVariables false
theorem own : ownKnob Try.prog.godebug = none := by kernel_rfl
theorem laidOut : laidOutB Try.prog = true := by kernel_rfl
set_option maxRecDepth 100000 in
set_option maxHeartbeats 1000000 in
theorem lifted (os : Os) (started : os.Started) (H : Type) (enc : TypeId × Value → H) :
    ReturnsInHanded {} Try.checked os 4 .any (Rows.journalAppliesSpec.pre6 enc Try.prog Try.f4 Rows.journalAppliesRow.domain false) (Rows.journalAppliesSpec.post enc Try.prog Try.f4 false true false false) := by
  refine returnsInHanded_of_change_sized (C := Try.checked) own started (by kernel_rfl) Try.func4
    (ChangeSpec.witness6 (enc := enc) (C := Try.checked) false ⟨#[], #[.slice none 0 0], []⟩ 8 (by kernel_rfl) (by kernel_rfl) (by kernel_rfl) (by kernel_rfl)) ?_
  intro W base args ds gs before hval0 hW hcnd hsz0 _
  have hsz : (DataW.weightsEach Try.prog (Try.f4.params.toList ++ Rows.journalAppliesSpec.plain.varTypes Try.prog) (ds ++ gs)).all (· ≤ reachBytes) = true := hsz0
  have hval : ∀ (j : Nat) t v, Try.f4.params[j]? = some t → args[j]? = some v → Value.okWide Try.prog W .any base t v := hval0
  have hW' := hW
  obtain ⟨p, q, hA0, hV, rfl, hfz, hnd⟩ := hW
  have hA : DataW.TrodAll enc Try.prog W 0 (fun _ => true) true Try.f4.params.toList args.toList ds p := hA0
  rw [Try.params4] at hA hval hsz
  obtain ⟨v0, vs0, d0, ds0, p0, q0, hargs, rfl, rfl, h0, r0⟩ := trodAll_cons hA
  obtain ⟨rfl, rfl, rfl⟩ := trodAll_nil r0
  obtain rfl : args = #[v0] := by cases args; simp_all
  obtain ⟨rfl, rfl⟩ := trodVars_none hV
  have k0 := h0
  have lt0 : ∀ x ∈ p0, x.block < W.heap.size := by obtain ⟨m, hm⟩ := k0; exact DataW.trod_lt m _ _ _ hm
  obtain ⟨a0, r_0, w0⟩ := Sl.opens_arg1 Try.underlying51 (hval 0 51 v0 rfl rfl) (Sl.op_slice 3 40 Try.underlying51 (by kernel_rfl) (by kernel_rfl) (by decide) (by decide) Sl.op_JournalEntry) h0 (fun x hx => of_decide_eq_true (List.all_eq_true.1 hsz x (Sl.weights_in 0 rfl rfl hx)))
  obtain ⟨A0, c0, e0⟩ := Sl.slice_cells r_0
  injection e0 with e0
  subst e0
  clear hA0 hval0 hsz0 hsz
  refine (Sl.f_l15_JournalApplies_spec a0 A0 c0 true (Sl.pure_JournalApplies a0 w0) (fun _ => False) W (fun _ h => h) (Sl.RX.reads_all r_0)).mono fun e W' hP => ?_
  obtain ⟨v, A', Ns, rfl, ⟨rfl, rfl, rfl⟩, hst⟩ := hP
  have bel := Sl.St.below hst
  exact ⟨_, rfl, _, _, _, [], _, [], hW', trodAll_mk1 (shut_bool Try.underlying4 _), (trodAll_cons_mk (Below.trod laidOut (by kernel_rfl) (of_decide_eq_true (by kernel_rfl)) k0 bel lt0) trodAll_mk0), rfl, bel.frame _, fun h => by cases h⟩
theorem over : Rows.journalAppliesRow.holds Try.pinned (OpenSpec.ofChange Rows.journalAppliesSpec) :=
  OpenClaim.holds_of_wide 4 Try.f4 rfl rfl rfl rfl rfl rfl rfl ⟨rfl, rfl, rfl, rfl, rfl⟩ rfl rfl rfl rfl rfl (by kernel_rfl) Try.func4 (by kernel_rfl)
    (of_decide_eq_true (by kernel_rfl)) (by unfold Func.isWrapper; first | (rw [if_pos (by decide +kernel)]; kernel_rfl) | (rw [if_neg (by decide +kernel)]; exact ⟨rfl, rfl⟩))
    (fun os started H enc _ => lifted os started H enc)
theorem proved : Rows.JournalAppliesSaid := over
end Go.Proofs.Ytlhgogjcaegehaa.journalApplies
namespace Go.Proofs.Ytlhgogjcaegehaa
theorem journalApplies_holds : Rows.JournalAppliesSaid := journalApplies.proved
end Go.Proofs.Ytlhgogjcaegehaa
