/- BatchHarms: for every input the law returns true, and its arguments read behind the call as they did before. -/
import Derived.KernelRfl
import Derived.Test.YtcoppaggpbfcmaaRows
import Derived.WalkKit
import Derived.ProofKit
import Derived.OpenShut
import Derived.ShutString
import Derived.ChangeOld
import Derived.Below
import Derived.SizedLaws
import Derived.Test.YtcoppaggpbfcmaaK4
namespace Go.Proofs.Ytcoppaggpbfcmaa.Sl
open Go.RowKit
set_option linter.unusedVariables false
set_option linter.unusedSimpArgs false
theorem firstR_zero : ∀ {l : List Rec}, firstR l = 0 → ∀ r, r ∈ l → rightR r = 0
  | x :: l, h, r, hr => by
    rw [firstR] at h
    by_cases hx : rightR x = 0
    · rw [if_pos hx] at h
      rcases List.mem_cons.1 hr with rfl | hr
      · exact hx
      · exact firstR_zero h r hr
    · rw [if_neg hx] at h
      exact absurd h hx
theorem chk_facts {a : Bat} (h : bnB a) (h0 : chk a = 0) : numOk a ∧ prodOk a ∧ (a.fControl = true → a.fTxn = true ∧ (a.fRecords.length : Int) = 1) ∧ ∀ r, r ∈ a.fRecords → rightR r = 0 := by
  obtain ⟨cr, e0, h1, h2, h3, h4⟩ := check_same a h.1 h.2.1 h.2.2
  have e : chk a = chkB a cr e0 := by unfold chk; rw [h1]; rfl
  rw [e] at h0
  unfold chkB at h0
  by_cases hn : numOk a
  rotate_left
  · rw [if_neg hn] at h0; exact absurd h0 (by decide)
  rw [if_pos hn] at h0
  by_cases hc : a.fControl = true
  · rw [if_pos hc] at h0
    by_cases ht : a.fTxn = true
    rotate_left
    · rw [if_neg ht] at h0; exact absurd h0 (by decide)
    rw [if_pos ht] at h0
    by_cases hp : prodOk a
    rotate_left
    · rw [if_neg hp] at h0; exact absurd h0 (by decide)
    rw [if_pos hp] at h0
    by_cases hl : (a.fRecords.length : Int) = 1
    rotate_left
    · rw [if_neg hl] at h0; exact absurd h0 (by decide)
    rw [if_pos hl] at h0
    by_cases hf : firstR a.fRecords = 0
    rotate_left
    · rw [if_neg hf] at h0; exact absurd h0 hf
    exact ⟨hn, hp, fun _ => ⟨ht, hl⟩, firstR_zero hf⟩
  · rw [if_neg hc] at h0
    by_cases hp : prodOk a
    rotate_left
    · rw [if_neg hp] at h0; exact absurd h0 (by decide)
    rw [if_pos hp] at h0
    by_cases hf : firstR a.fRecords = 0
    rotate_left
    · rw [if_neg hf] at h0; exact absurd h0 hf
    exact ⟨hn, hp, fun h => absurd h hc, firstR_zero hf⟩
theorem attr_ok : ∀ a t c : Bool, (c = true → t = true) → acheck (ofBits a t c) = 0 := by decide
theorem ofBits_le : ∀ a t c : Bool, 0 ≤ ofBits a t c ∧ ofBits a t c ≤ 56 := by decide
theorem fits8 {n : Int} (h : wI n) : fits n (8 : Nat) = true := by
  show fits n 8 = true
  rw [fits_8]
  exact decide_eq_true h
theorem fits4 {n : Int} (h : -2147483648 ≤ n ∧ n ≤ 2147483647) : fits n (4 : Nat) = true := by
  show fits n 4 = true
  rw [fits_4]
  exact decide_eq_true h
theorem fits2 {n : Int} (h : -32768 ≤ n ∧ n ≤ 32767) : fits n (2 : Nat) = true := by
  show fits n 2 = true
  rw [b_fits_2]
  exact decide_eq_true h
def smB (a : Bat) : Prop := bnB a ∧ (∀ r, r ∈ a.fRecords → rwt r ≤ 900000) ∧ (body a).length ≤ 900000
theorem prod_rng {a : Bat} (h : prodOk a) : (-32768 ≤ a.fEpoch ∧ a.fEpoch ≤ 32767) ∧ (-2147483648 ≤ a.fSequence ∧ a.fSequence ≤ 2147483647) := by
  unfold prodOk at h
  split at h
  · omega
  · split at h <;> omega
theorem okP_pB {a : Bat} (hb : smB a) (h0 : chk a = 0) (s : Nat) (hs : s < 4294967296) : okP (pB a s) := by
  obtain ⟨hn, hp, hc, hr⟩ := chk_facts hb.1 h0
  obtain ⟨n1, n2, n3, n4, n5, n6⟩ := hn
  obtain ⟨w1, w2, _, _, _, w6, w7, w8, w9, w10, w11, w12⟩ := hb.1.1
  obtain ⟨p1, p2⟩ := prod_rng hp
  have hl := hb.2.2
  have hcount := hb.1.2.1
  have ha := ofBits_le a.fAppend a.fTxn a.fControl
  have hs2 : -2147483648 ≤ s32 (s : Int) ∧ s32 (s : Int) ≤ 2147483647 := by unfold s32; split <;> omega
  refine ⟨⟨fits8 w1, fits4 ⟨?_, ?_⟩, fits4 ⟨?_, ?_⟩, rfl, fits4 hs2, fits2 ⟨?_, ?_⟩, fits4 ⟨?_, ?_⟩, fits8 w7, fits8 w8, fits8 w9, fits2 p1, fits4 p2, fits4 ⟨?_, ?_⟩, trivial⟩, ⟨?_, ?_⟩, ?_, ?_⟩
  all_goals (try unfold pB) <;> (try dsimp only) <;> omega
theorem sumB_lt (a : Bat) : sumB a < 4294967296 := crcM_lt (by decide) _
theorem okB_of {a : Bat} (hb : smB a) (h0 : chk a = 0) : okB a := by
  obtain ⟨hn, hp, hc, hr⟩ := chk_facts hb.1 h0
  refine ⟨okP_pB hb h0 _ (sumB_lt a), attr_ok _ _ _ (fun h => (hc h).1), fun x hx => ?_, h0⟩
  exact okRec_of (hb.1.1.2.2.2.2.2.2.2.2.2.2.2.2 x hx).1 (hr x hx) (hb.2.1 x hx)
theorem encB_len {a : Bat} (h : okB a) : (encB a).length = 61 + (body a).length := by
  unfold encB
  rw [List.length_append, encP_len h.1.1]
theorem benc_l1 : ∀ (l : List Rec) (t : List UInt8), (∀ x, x ∈ l → wI x.fTime ∧ wI x.fOffset ∧ rwt x ≤ 900000 ∧ rightR x = 0) → t.length + (encs encRec l).length ≤ 1000000 → f_batch_Encode_l1 l (t, 0) = some (t ++ encs encRec l, 0)
  | [], t, _, _ => by rw [encs, List.append_nil]; rfl
  | x :: l, t, h, hl => by
    obtain ⟨h1, h2, h3, h4⟩ := h x (.head _)
    rw [encs, List.length_append] at hl
    rw [f_batch_Encode_l1, rec_write x t h1 h2 h3 (by omega), if_pos h4, Option.bind_some, benc_l1 l _ (fun y hy => h y (.tail _ hy)) (by rw [List.length_append]; omega), encs, List.append_assoc]
theorem benc {a : Bat} (hb : smB a) : f_batch_Encode a = some (if chk a = 0 then (encB a, 0) else ([], chk a)) := by
  unfold f_batch_Encode
  rw [(chk_eq hb.1).1, Option.bind_some]
  by_cases h0 : chk a = 0
  rotate_left
  · rw [if_neg h0, if_neg h0]
  obtain ⟨hn, hp, hc, hr⟩ := chk_facts hb.1 h0
  have hl := hb.2.2
  have hw : ∀ x, x ∈ a.fRecords → wI x.fTime ∧ wI x.fOffset ∧ rwt x ≤ 900000 ∧ rightR x = 0 := fun x hx => ⟨(hb.1.1.2.2.2.2.2.2.2.2.2.2.2.2 x hx).1, (hb.1.1.2.2.2.2.2.2.2.2.2.2.2.2 x hx).2.1, hb.2.1 x hx, hr x hx⟩
  have hlb : (encs encRec a.fRecords).length ≤ 900000 := hl
  rw [if_pos h0, if_pos h0, benc_l1 a.fRecords [] hw (by rw [List.length_nil]; omega), Option.bind_some, List.nil_append, gOText_eq, Option.bind_some]
  dsimp only
  rw [otx_z]
  dsimp only
  rw [if_pos (show -9223372036854775808 ≤ (49 + ((encs encRec a.fRecords).length : Int)) ∧ (49 + ((encs encRec a.fRecords).length : Int)) ≤ 9223372036854775807 by omega), gAOf_eq, Option.bind_some]
  have hP0 : okP (pB a 0) := okP_pB hb h0 0 (by decide)
  have e0 : f_prefix_Write ([], 0) (pB a 0) = some (encP (pB a 0), 0) := by
    have := write_ok [] (p := pB a 0) ⟨hP0.1, hP0.2.1⟩ (by decide)
    rwa [List.nil_append] at this
  have e0' : f_prefix_Write ([], 0) (⟨a.fBase, (49 + ((encs encRec a.fRecords).length : Int)), a.fLeader, 0, ofBits a.fAppend a.fTxn a.fControl, a.fLast, a.fFirst, a.fMax, a.fProducer, a.fEpoch, a.fSequence, (a.fRecords.length : Int)⟩ : Pfx) = some (encP (pB a 0), 0) := e0
  rw [e0', Option.bind_some, gOText_eq, Option.bind_some]
  dsimp only
  rw [otx_z]
  dsimp only
  rw [if_pos rfl, if_pos rfl, Option.bind_some, if_neg (by decide), crc_new, Option.bind_some]
  have hp61 := encP_len hP0.1
  have hp21 : (post21 (pB a 0)).length ≤ 61 := by rw [← encP_drop, List.length_drop]; omega
  have hs2 : [post21 (pB a 0), encs encRec a.fRecords].flatten = post21 (pB a 0) ++ encs encRec a.fRecords := by simp
  rw [if_pos (show 21 ≤ (encP (pB a 0)).length by omega), encP_drop, crc_sum [post21 (pB a 0), encs encRec a.fRecords] (by intro t ht; rcases List.mem_cons.1 ht with rfl | ht; omega; rw [List.mem_singleton.1 ht]; omega), Option.bind_some, hs2]
  dsimp only
  have hlt := sumB_lt a
  have hsum : crcM 0 (post21 (pB a 0) ++ encs encRec a.fRecords) = sumB a := rfl
  rw [hsum, if_pos (show -9223372036854775808 ≤ ((sumB a : Nat) : Int) ∧ ((sumB a : Nat) : Int) ≤ 9223372036854775807 by omega)]
  have hP := okP_pB hb h0 _ hlt
  have e1 : f_prefix_Write ([], 0) (⟨a.fBase, (49 + ((encs encRec a.fRecords).length : Int)), a.fLeader, ((sumB a : Nat) : Int), ofBits a.fAppend a.fTxn a.fControl, a.fLast, a.fFirst, a.fMax, a.fProducer, a.fEpoch, a.fSequence, (a.fRecords.length : Int)⟩ : Pfx) = some (encP (pB a (sumB a)), 0) := by
    have := write_ok [] (p := pB a (sumB a)) ⟨hP.1, hP.2.1⟩ (by decide)
    rwa [List.nil_append] at this
  have hp61' := encP_len hP.1
  rw [e1, Option.bind_some, gOPut_eq _ _ (by dsimp only; omega), oput_z, Option.bind_some, gOText_eq, Option.bind_some]
  dsimp only
  rw [otx_z]
  rfl
end Go.Proofs.Ytcoppaggpbfcmaa.Sl
namespace Go.Proofs.Ytcoppaggpbfcmaa.Sl
open Go.RowKit
set_option linter.unusedVariables false
set_option linter.unusedSimpArgs false
set_option maxRecDepth 100000
def ft_cursitorlaw11 : FTab := [(25, 3, 3), (25, 4, 4), (25, 8, 8), (25, 11, 11), (30, 0, 0), (30, 1, 1), (33, 2, 2), (33, 3, 4), (33, 4, 6), (81, 0, 0), (81, 1, 1)]
theorem ft_cursitorlaw11_ok : (ft_cursitorlaw11).OK Try.prog := ⟨FOK.mk Try.runUnderlying25 rfl Try.sizeOf4 rfl, FOK.mk Try.runUnderlying25 rfl Try.sizeOf4 rfl, FOK.mk Try.runUnderlying25 rfl Try.sizeOf3 rfl, FOK.mk Try.runUnderlying25 rfl Try.sizeOf23 rfl, FOK.mk Try.runUnderlying30 rfl Try.sizeOf4 rfl, FOK.mk Try.runUnderlying30 rfl Try.sizeOf9 rfl, FOK.mk Try.runUnderlying33 rfl Try.sizeOf30 rfl, FOK.mk Try.runUnderlying33 rfl Try.sizeOf30 rfl, FOK.mk Try.runUnderlying33 rfl Try.sizeOf31 rfl, FOK.mk Try.runUnderlying81 rfl Try.sizeOf9 rfl, FOK.mk Try.runUnderlying81 rfl Try.sizeOf30 rfl, trivial⟩
theorem mix_cursitorlaw11 : Try.prog.follows .mixedOrders = true := by kernel_rfl
theorem bok_cursitorlaw11_25 : BOK Try.prog 25 #[.int .i64 0, .int .i64 0, .bool false, .bool false, .bool false, .int .i64 0, .int .i64 0, .int .i64 0, .int .i64 0, .int .i64 0, .int .i64 0, .slice none 0 0] [(0, 1), (1, 1), (2, 1), (3, 1), (4, 1), (5, 1), (6, 1), (7, 1), (8, 1), (9, 1), (10, 1), (11, 1)] := BOK.mk Try.zeroValue25 Try.runUnderlying25 (by intro w; simp)
def f_l11_speaks  : Option (Bool) := (f_batch_Encode (⟨0, 0, false, false, false, 0, 0, 0, -1, -1, -1, []⟩ : Bat)).bind fun (x1, x2) => (f_batch_Decode x1).bind fun (x4, x7) => if x1.length + [120].length ≤ 9223372036854775807 then ((f_batch_Decode (x1 ++ [120])).bind fun (x11, x14) => (f_batch_Encode (⟨0, 0, false, false, true, 0, 0, 0, 0, 0, 0, []⟩ : Bat)).bind fun (x17, x18) => (if x2 = 0 then (if (x1.length : Int) = 61 then (if x7 = 0 then (if x4.fProducer = (-1) then (if x14 = 2 then (if x18 = 8 then some true else some false) else some false) else some false) else some false) else some false) else some false).bind fun y25 => some y25) else none
set_option maxRecDepth 100000 in
set_option maxHeartbeats 4000000 in
theorem f_l11_speaks_spec  (r : Bool) (h : f_l11_speaks  = some r) : SpecX Try.prog 10 #[] .triv (EmpR) (fun v A' N => v = .bool r ∧ A' = EmpR ∧ N = []) := by
  refine enterA Try.func10 rfl Try.ntmps10 rfl ?_
  intro F w hX
  unfold f_l11_speaks at h
  refine T.seq (T.region rfl ?_)
  refine TL.run ft_cursitorlaw11_ok [0] rfl rfl ?_
  refine TL.nil (X.seq (T.seq (T.region rfl ?_)))
  refine TL.q rfl .u (Ex.bld (cells := #[.int .i64 0, .int .i64 0, .bool false, .bool false, .bool false, .int .i64 0, .int .i64 0, .int .i64 0, .int .i64 (-1), .int .i64 (-1), .int .i64 (-1), .slice none 0 0]) bok_cursitorlaw11_25 rfl (by kernel_rfl)) rfl ?_
  obtain ⟨⟨x1, x2⟩, hx3, h⟩ := Option.bind_eq_some_iff.1 h
  try dsimp only at h
  refine TL.ce rfl .u (.fn Try.call14 rfl) (f_batch_Encode_spec (⟨0, 0, false, false, false, 0, 0, 0, -1, -1, -1, []⟩ : Bat) _ _ _ hx3) (fun _ hs => slice_nil_reads) rfl ?_
  refine TL.run ft_cursitorlaw11_ok [2, 3, 4, 5, 6] rfl rfl ?_
  refine TL.nil (X.seq (T.seq (T.region rfl ?_)))
  obtain ⟨⟨x4, x7⟩, hx8, h⟩ := Option.bind_eq_some_iff.1 h
  try dsimp only at h
  refine TL.run ft_cursitorlaw11_ok [0] rfl rfl ?_
  refine TL.cge rfl .u (.fn Try.call11 rfl) (f_batch_Decode_spec x1 _ hx8) (fun _ hs => (RX.reads_triv _ _)) rfl ?_
  rintro _ _ _ ⟨A5, c6, rfl, rfl, rfl⟩
  refine TL.sel [0, 0] rfl ?_
  refine TL.run ft_cursitorlaw11_ok [2, 3, 4] rfl rfl ?_
  refine TL.alloc rfl .u Try.zeroValue25 rfl (fun b9 => ?_)
  refine TL.st0 (cs' := #[.int .i64 x4.fBase, .int .i64 x4.fLeader, .bool x4.fAppend, .bool x4.fTxn, .bool x4.fControl, .int .i64 x4.fLast, .int .i64 x4.fFirst, .int .i64 x4.fMax, .int .i64 x4.fProducer, .int .i64 x4.fEpoch, .int .i64 x4.fSequence, .slice A5 x4.fRecords.length c6]) rfl .u rfl rfl Try.sizeOf25 rfl rfl rfl rfl ?_
  refine TL.run ft_cursitorlaw11_ok [7] rfl rfl ?_
  refine TL.nil (X.seq (T.seq (T.region rfl ?_)))
  replace h := guard_some h
  obtain ⟨c10, h⟩ := h
  refine TL.run ft_cursitorlaw11_ok [0] rfl rfl ?_
  refine TL.q rfl .u (Ex.sAdd rfl (m := [120]) rfl c10) rfl ?_
  obtain ⟨⟨x11, x14⟩, hx15, h⟩ := Option.bind_eq_some_iff.1 h
  try dsimp only at h
  refine TL.cge rfl .u (.fn Try.call11 rfl) (f_batch_Decode_spec (x1 ++ [120]) _ hx15) (fun _ hs => (RX.reads_triv _ _)) rfl ?_
  rintro _ _ _ ⟨A12, c13, rfl, rfl, rfl⟩
  refine TL.sel [0, 0, 0, 0] rfl ?_
  refine TL.run ft_cursitorlaw11_ok [3, 4, 5] rfl rfl ?_
  refine TL.alloc rfl .u Try.zeroValue25 rfl (fun b16 => ?_)
  refine TL.st0 (cs' := #[.int .i64 x11.fBase, .int .i64 x11.fLeader, .bool x11.fAppend, .bool x11.fTxn, .bool x11.fControl, .int .i64 x11.fLast, .int .i64 x11.fFirst, .int .i64 x11.fMax, .int .i64 x11.fProducer, .int .i64 x11.fEpoch, .int .i64 x11.fSequence, .slice A12 x11.fRecords.length c13]) rfl .u rfl rfl Try.sizeOf25 rfl rfl rfl rfl ?_
  refine TL.run ft_cursitorlaw11_ok [8] rfl rfl ?_
  refine TL.nil (X.seq (T.seq (T.region rfl ?_)))
  refine TL.q rfl .u (Ex.bld (cells := #[.int .i64 0, .int .i64 0, .bool false, .bool false, .bool true, .int .i64 0, .int .i64 0, .int .i64 0, .int .i64 0, .int .i64 0, .int .i64 0, .slice none 0 0]) bok_cursitorlaw11_25 rfl (by kernel_rfl)) rfl ?_
  obtain ⟨⟨x17, x18⟩, hx19, h⟩ := Option.bind_eq_some_iff.1 h
  try dsimp only at h
  refine TL.ce rfl .u (.fn Try.call14 rfl) (f_batch_Encode_spec (⟨0, 0, false, false, true, 0, 0, 0, 0, 0, 0, []⟩ : Bat) _ _ _ hx19) (fun _ hs => slice_nil_reads) rfl ?_
  refine TL.run ft_cursitorlaw11_ok [2, 3, 4, 5, 6] rfl rfl ?_
  refine TL.nil (X.seq (T.seq ?_))
  obtain ⟨y25, h, hk26⟩ := Option.bind_eq_some_iff.1 h
  refine T.jq (fun e Rs => e = [(0, .bool y25)] ∧ Rs = [BlkR b16 25 #[.int .i64 x11.fBase, .int .i64 x11.fLeader, .bool x11.fAppend, .bool x11.fTxn, .bool x11.fControl, .int .i64 x11.fLast, .int .i64 x11.fFirst, .int .i64 x11.fMax, .int .i64 x11.fProducer, .int .i64 x11.fEpoch, .int .i64 x11.fSequence, .slice A12 x11.fRecords.length c13], RdR (sliceRd 7 Rec_rd) [.slice A12 x11.fRecords.length c13] x11.fRecords, BlkR b9 25 #[.int .i64 x4.fBase, .int .i64 x4.fLeader, .bool x4.fAppend, .bool x4.fTxn, .bool x4.fControl, .int .i64 x4.fLast, .int .i64 x4.fFirst, .int .i64 x4.fMax, .int .i64 x4.fProducer, .int .i64 x4.fEpoch, .int .i64 x4.fSequence, .slice A5 x4.fRecords.length c6], RdR (sliceRd 7 Rec_rd) [.slice A5 x4.fRecords.length c6] x4.fRecords, EmpR]) ?_ ?_
  · clear hk26
    refine T.region rfl ?_
    by_cases c27 : x2 = 0
    · replace h := ifT c27 h
      refine TL.run ft_cursitorlaw11_ok [0, 1, 2] rfl rfl ?_
      refine TL.q rfl (.g rfl rfl (decide_eq_true c27)) (Ex.ft ft_cursitorlaw11_ok rfl) rfl ?_
      refine TL.q rfl (.g rfl rfl (decide_eq_true c27)) (Ex.lenB rfl Try.runUnderlying9) rfl ?_
      refine TL.q rfl (.g rfl rfl (decide_eq_true c27)) (Ex.ft ft_cursitorlaw11_ok rfl) rfl ?_
      refine TL.q rfl .u (Ex.py rfl (decide_eq_true c27) rfl) rfl ?_
      by_cases c28 : (x1.length : Int) = 61
      · replace h := ifT c28 h
        refine TL.run ft_cursitorlaw11_ok [7] rfl rfl ?_
        refine TL.q rfl (.g rfl rfl (decide_eq_true c28)) (Ex.ft ft_cursitorlaw11_ok rfl) rfl ?_
        refine TL.q rfl (.g rfl rfl (decide_eq_true c28)) (Ex.ft ft_cursitorlaw11_ok rfl) rfl ?_
        refine TL.q rfl .u (Ex.py rfl (decide_eq_true c28) rfl) rfl ?_
        by_cases c29 : x7 = 0
        · replace h := ifT c29 h
          refine TL.run ft_cursitorlaw11_ok [11] rfl rfl ?_
          refine TL.q rfl (.g rfl rfl (decide_eq_true c29)) (Ex.ft ft_cursitorlaw11_ok rfl) rfl ?_
          refine TL.q rfl (.g rfl rfl (decide_eq_true c29)) (Ex.b1 2 rfl Try.isAgg3 rfl rfl) rfl ?_
          refine TL.q rfl (.g rfl rfl (decide_eq_true c29)) (Ex.ft ft_cursitorlaw11_ok rfl) rfl ?_
          refine TL.q rfl .u (Ex.py rfl (decide_eq_true c29) rfl) rfl ?_
          by_cases c30 : x4.fProducer = (-1)
          · replace h := ifT c30 h
            refine TL.run ft_cursitorlaw11_ok [16] rfl rfl ?_
            refine TL.q rfl (.g rfl rfl (decide_eq_true c30)) (Ex.ft ft_cursitorlaw11_ok rfl) rfl ?_
            refine TL.q rfl (.g rfl rfl (decide_eq_true c30)) (Ex.ft ft_cursitorlaw11_ok rfl) rfl ?_
            refine TL.q rfl .u (Ex.py rfl (decide_eq_true c30) rfl) rfl ?_
            by_cases c31 : x14 = 2
            · replace h := ifT c31 h
              refine TL.run ft_cursitorlaw11_ok [20] rfl rfl ?_
              refine TL.q rfl (.g rfl rfl (decide_eq_true c31)) (Ex.ft ft_cursitorlaw11_ok rfl) rfl ?_
              refine TL.q rfl (.g rfl rfl (decide_eq_true c31)) (Ex.ft ft_cursitorlaw11_ok rfl) rfl ?_
              refine TL.q rfl .u (Ex.py rfl (decide_eq_true c31) rfl) rfl ?_
              refine TL.run ft_cursitorlaw11_ok [24] rfl rfl ?_
              by_cases c32 : x18 = 8
              · replace h := ifT c32 h
                cases h
                exact TL.nil (X.as (d := 0) (v' := .bool true) rfl (congrArg Value.bool (decide_eq_true c32)) (X.jq [0, 0, 0, 0, 0] ⟨rfl, rfl⟩ (by rfl) (by rfl)))
              · replace h := ifF c32 h
                cases h
                exact TL.nil (X.as (d := 0) (v' := .bool false) rfl (congrArg Value.bool (decide_eq_false c32)) (X.jq [0, 0, 0, 0, 0] ⟨rfl, rfl⟩ (by rfl) (by rfl)))
            · replace h := ifF c31 h
              refine TL.run ft_cursitorlaw11_ok [20] rfl rfl ?_
              refine TL.no rfl (.gn rfl rfl (decide_eq_false c31)) rfl ?_
              refine TL.no rfl (.gn rfl rfl (decide_eq_false c31)) rfl ?_
              refine TL.q rfl .u (Ex.pn rfl (decide_eq_false c31) rfl) rfl ?_
              refine TL.run ft_cursitorlaw11_ok [24] rfl rfl ?_
              cases h
              exact TL.nil (X.jq [0, 0, 0, 0, 0] ⟨rfl, rfl⟩ (by rfl) (by rfl))
          · replace h := ifF c30 h
            refine TL.run ft_cursitorlaw11_ok [16] rfl rfl ?_
            refine TL.no rfl (.gn rfl rfl (decide_eq_false c30)) rfl ?_
            refine TL.no rfl (.gn rfl rfl (decide_eq_false c30)) rfl ?_
            refine TL.q rfl .u (Ex.pn rfl (decide_eq_false c30) rfl) rfl ?_
            refine TL.run ft_cursitorlaw11_ok [20] rfl rfl ?_
            refine TL.no rfl (.gn rfl rfl rfl) rfl ?_
            refine TL.no rfl (.gn rfl rfl rfl) rfl ?_
            refine TL.q rfl .u (Ex.pn rfl rfl rfl) rfl ?_
            refine TL.run ft_cursitorlaw11_ok [24] rfl rfl ?_
            cases h
            exact TL.nil (X.jq [0, 0, 0, 0, 0] ⟨rfl, rfl⟩ (by rfl) (by rfl))
        · replace h := ifF c29 h
          refine TL.run ft_cursitorlaw11_ok [11] rfl rfl ?_
          refine TL.no rfl (.gn rfl rfl (decide_eq_false c29)) rfl ?_
          refine TL.no rfl (.gn rfl rfl (decide_eq_false c29)) rfl ?_
          refine TL.no rfl (.gn rfl rfl (decide_eq_false c29)) rfl ?_
          refine TL.q rfl .u (Ex.pn rfl (decide_eq_false c29) rfl) rfl ?_
          refine TL.run ft_cursitorlaw11_ok [16] rfl rfl ?_
          refine TL.no rfl (.gn rfl rfl rfl) rfl ?_
          refine TL.no rfl (.gn rfl rfl rfl) rfl ?_
          refine TL.q rfl .u (Ex.pn rfl rfl rfl) rfl ?_
          refine TL.run ft_cursitorlaw11_ok [20] rfl rfl ?_
          refine TL.no rfl (.gn rfl rfl rfl) rfl ?_
          refine TL.no rfl (.gn rfl rfl rfl) rfl ?_
          refine TL.q rfl .u (Ex.pn rfl rfl rfl) rfl ?_
          refine TL.run ft_cursitorlaw11_ok [24] rfl rfl ?_
          cases h
          exact TL.nil (X.jq [0, 0, 0, 0, 0] ⟨rfl, rfl⟩ (by rfl) (by rfl))
      · replace h := ifF c28 h
        refine TL.run ft_cursitorlaw11_ok [7] rfl rfl ?_
        refine TL.no rfl (.gn rfl rfl (decide_eq_false c28)) rfl ?_
        refine TL.no rfl (.gn rfl rfl (decide_eq_false c28)) rfl ?_
        refine TL.q rfl .u (Ex.pn rfl (decide_eq_false c28) rfl) rfl ?_
        refine TL.run ft_cursitorlaw11_ok [11] rfl rfl ?_
        refine TL.no rfl (.gn rfl rfl rfl) rfl ?_
        refine TL.no rfl (.gn rfl rfl rfl) rfl ?_
        refine TL.no rfl (.gn rfl rfl rfl) rfl ?_
        refine TL.q rfl .u (Ex.pn rfl rfl rfl) rfl ?_
        refine TL.run ft_cursitorlaw11_ok [16] rfl rfl ?_
        refine TL.no rfl (.gn rfl rfl rfl) rfl ?_
        refine TL.no rfl (.gn rfl rfl rfl) rfl ?_
        refine TL.q rfl .u (Ex.pn rfl rfl rfl) rfl ?_
        refine TL.run ft_cursitorlaw11_ok [20] rfl rfl ?_
        refine TL.no rfl (.gn rfl rfl rfl) rfl ?_
        refine TL.no rfl (.gn rfl rfl rfl) rfl ?_
        refine TL.q rfl .u (Ex.pn rfl rfl rfl) rfl ?_
        refine TL.run ft_cursitorlaw11_ok [24] rfl rfl ?_
        cases h
        exact TL.nil (X.jq [0, 0, 0, 0, 0] ⟨rfl, rfl⟩ (by rfl) (by rfl))
    · replace h := ifF c27 h
      refine TL.run ft_cursitorlaw11_ok [0, 1, 2] rfl rfl ?_
      refine TL.no rfl (.gn rfl rfl (decide_eq_false c27)) rfl ?_
      refine TL.no rfl (.gn rfl rfl (decide_eq_false c27)) rfl ?_
      refine TL.no rfl (.gn rfl rfl (decide_eq_false c27)) rfl ?_
      refine TL.q rfl .u (Ex.pn rfl (decide_eq_false c27) rfl) rfl ?_
      refine TL.run ft_cursitorlaw11_ok [7] rfl rfl ?_
      refine TL.no rfl (.gn rfl rfl rfl) rfl ?_
      refine TL.no rfl (.gn rfl rfl rfl) rfl ?_
      refine TL.q rfl .u (Ex.pn rfl rfl rfl) rfl ?_
      refine TL.run ft_cursitorlaw11_ok [11] rfl rfl ?_
      refine TL.no rfl (.gn rfl rfl rfl) rfl ?_
      refine TL.no rfl (.gn rfl rfl rfl) rfl ?_
      refine TL.no rfl (.gn rfl rfl rfl) rfl ?_
      refine TL.q rfl .u (Ex.pn rfl rfl rfl) rfl ?_
      refine TL.run ft_cursitorlaw11_ok [16] rfl rfl ?_
      refine TL.no rfl (.gn rfl rfl rfl) rfl ?_
      refine TL.no rfl (.gn rfl rfl rfl) rfl ?_
      refine TL.q rfl .u (Ex.pn rfl rfl rfl) rfl ?_
      refine TL.run ft_cursitorlaw11_ok [20] rfl rfl ?_
      refine TL.no rfl (.gn rfl rfl rfl) rfl ?_
      refine TL.no rfl (.gn rfl rfl rfl) rfl ?_
      refine TL.q rfl .u (Ex.pn rfl rfl rfl) rfl ?_
      refine TL.run ft_cursitorlaw11_ok [24] rfl rfl ?_
      cases h
      exact TL.nil (X.jq [0, 0, 0, 0, 0] ⟨rfl, rfl⟩ (by rfl) (by rfl))
  · rintro _ _ ⟨rfl, rfl⟩
    clear h
    have h := hk26
    clear hk26
    try dsimp only at h
    obtain rfl := Option.some.inj h
    exact X.seq (T.ret (X.done1 [4] Try.results10 (RV.tm rfl) ⟨rfl, rfl, rfl⟩ (by rfl) (.inl rfl)))
def f_l11_Small_l2 : List Hd → Int → Option (Lp Int Int)
  | [], y22 => some (Lp.go y22)
  | x28 :: xs, y22 => if -9223372036854775808 ≤ ((x28.fKey.length : Int) + (x28.fValue.data.length : Int)) ∧ ((x28.fKey.length : Int) + (x28.fValue.data.length : Int)) ≤ 9223372036854775807 then (if ((x28.fKey.length : Int) + (x28.fValue.data.length : Int)) > 100 then some (Lp.ret 0) else (f_l11_Small_l2 xs y22)) else none
def f_l11_Small_l1 : List Rec → Int → Option (Lp Int Int)
  | [], y5 => some (Lp.go y5)
  | x11 :: xs, y5 => if -9223372036854775808 ≤ ((x11.fKey.data.length : Int) + (x11.fValue.data.length : Int)) ∧ ((x11.fKey.data.length : Int) + (x11.fValue.data.length : Int)) ≤ 9223372036854775807 then (if ((x11.fKey.data.length : Int) + (x11.fValue.data.length : Int)) > 100 then some (Lp.ret 0) else (if (x11.fHeaders.length : Int) > 6 then some (Lp.ret 0) else ((f_l11_Small_l2 x11.fHeaders y5).bind fun e => match e with | .ret r => some (Lp.ret r) | .go y35 => (f_l11_Small_l1 xs y35)))) else none
theorem f_l11_Small_l1_z (y5 : Int) : f_l11_Small_l1 [] y5 = (some (Lp.go y5)) := rfl
theorem f_l11_Small_l1_s (x11 : Rec) (xs : List Rec) (y5 : Int) : f_l11_Small_l1 (x11 :: xs) y5 = (if -9223372036854775808 ≤ ((x11.fKey.data.length : Int) + (x11.fValue.data.length : Int)) ∧ ((x11.fKey.data.length : Int) + (x11.fValue.data.length : Int)) ≤ 9223372036854775807 then (if ((x11.fKey.data.length : Int) + (x11.fValue.data.length : Int)) > 100 then some (Lp.ret 0) else (if (x11.fHeaders.length : Int) > 6 then some (Lp.ret 0) else ((f_l11_Small_l2 x11.fHeaders y5).bind fun e => match e with | .ret r => some (Lp.ret r) | .go y35 => (f_l11_Small_l1 xs y35)))) else none) := rfl
def f_l11_Small (a0 : Bat) : Option (Int) := if (a0.fRecords.length : Int) > 12 then some 0 else ((f_l11_Small_l1 a0.fRecords 0).bind fun e => match e with | .ret r => some r | .go y37 => some 1)
set_option maxRecDepth 100000 in
set_option maxHeartbeats 4000000 in
theorem f_l11_Small_spec (a0 : Bat) (A1 : Option Addr) (c2 : Nat) (r : Int) (h : f_l11_Small a0 = some r) : SpecX Try.prog 12 #[.agg #[.int .i64 a0.fBase, .int .i64 a0.fLeader, .bool a0.fAppend, .bool a0.fTxn, .bool a0.fControl, .int .i64 a0.fLast, .int .i64 a0.fFirst, .int .i64 a0.fMax, .int .i64 a0.fProducer, .int .i64 a0.fEpoch, .int .i64 a0.fSequence, .slice A1 a0.fRecords.length c2]] (RX.of (sliceRd 7 Rec_rd) [.slice A1 a0.fRecords.length c2] a0.fRecords) (EmpR) (fun v A' N => v = .int .i64 r ∧ A' = EmpR ∧ N = []) := by
  refine enterA Try.func12 rfl Try.ntmps12 rfl ?_
  intro F w hX
  unfold f_l11_Small at h
  refine T.seq (T.region rfl ?_)
  refine TL.box rfl .u rfl rfl (fun b3 => ?_)
  refine TL.run ft_cursitorlaw11_ok [1] rfl rfl ?_
  refine TL.nil (X.seq (T.seq (T.seq (T.region rfl ?_))))
  refine TL.run ft_cursitorlaw11_ok [0] rfl rfl ?_
  refine TL.q rfl .u (Ex.b1 0 rfl Try.isAgg23 rfl rfl) rfl ?_
  refine TL.q rfl .u (Ex.lenS rfl Try.runUnderlying23) rfl ?_
  refine TL.run ft_cursitorlaw11_ok [3] rfl rfl ?_
  by_cases c4 : (a0.fRecords.length : Int) > 12
  · replace h := ifT c4 h
    refine TL.nil (X.seq ?_)
    refine T.yes rfl (decide_eq_true c4) ?_
    refine T.seq (T.region rfl ?_)
    refine TL.run ft_cursitorlaw11_ok [0] rfl rfl ?_
    obtain rfl := Option.some.inj h
    exact TL.nil (X.seq (T.ret (X.rs (X.done1 [1] Try.results12 (RV.tm rfl) ⟨rfl, rfl, rfl⟩ (by rfl) (.inl rfl)))))
  · replace h := ifF c4 h
    refine TL.nil (X.seq ?_)
    refine T.no rfl (decide_eq_false c4) ?_
    refine T.skip (X.seq (T.seq (T.seq (T.region rfl ?_))))
    refine TL.run ft_cursitorlaw11_ok [0] rfl rfl ?_
    refine TL.q rfl .u (Ex.b1 0 rfl Try.isAgg23 rfl rfl) rfl ?_
    refine TL.q rfl .u (Ex.lenS rfl Try.runUnderlying23) rfl ?_
    refine TL.run ft_cursitorlaw11_ok [3] rfl rfl ?_
    refine TL.nil (X.seq (T.block ?_))
    obtain ⟨E7, hE8, hO9⟩ := Option.bind_eq_some_iff.1 h
    have hk13len := RX.len_le hX
    refine T.lp (fun m e Rs => ∃ (y5 : Int) (k6 : Nat), k6 + m = a0.fRecords.length ∧ e = [(2, .int .i64 y5), (12, .slice A1 a0.fRecords.length c2), (13, .int .i64 (a0.fRecords.length : Int)), (14, .int .i64 (k6 : Int))] ∧ Rs = [BlkR b3 25 #[.int .i64 a0.fBase, .int .i64 a0.fLeader, .bool a0.fAppend, .bool a0.fTxn, .bool a0.fControl, .int .i64 a0.fLast, .int .i64 a0.fFirst, .int .i64 a0.fMax, .int .i64 a0.fProducer, .int .i64 a0.fEpoch, .int .i64 a0.fSequence, .slice A1 a0.fRecords.length c2], EmpR] ∧ f_l11_Small_l1 (a0.fRecords.drop k6) y5 = some E7) (a0.fRecords.length) [0, 0] ⟨0, 0, by simp, rfl, rfl, by rw [List.drop_zero]; exact hE8⟩ (by rfl) (by rfl) ?_
    rintro m10 _ _ ⟨y5, k6, hk13, rfl, rfl, hl12⟩
    clear hE8 h
    cases m10 with
    | zero =>
      have h := hl12
      clear hl12
      rw [List.drop_of_length_le (by omega), f_l11_Small_l1_z] at h
      have hk13ge : ¬ ((k6 : Int) < (a0.fRecords.length : Int)) := by omega
      refine T.seq (T.region rfl ?_)
      refine TL.run ft_cursitorlaw11_ok [0] rfl rfl ?_
      refine TL.nil (X.seq (T.seq ?_))
      refine T.no rfl (decide_eq_false hk13ge) ?_
      obtain rfl := Option.some.inj h
      replace h := hO9
      clear hO9
      try dsimp only at h
      refine T.exit (X.exs (X.exs (X.ex (X.seq (T.seq (T.region rfl ?_))))))
      refine TL.run ft_cursitorlaw11_ok [0] rfl rfl ?_
      obtain rfl := Option.some.inj h
      exact TL.nil (X.seq (T.ret (X.done1 [1] Try.results12 (RV.tm rfl) ⟨rfl, rfl, rfl⟩ (by rfl) (.inl rfl))))
    | succ m10 =>
      have h := hl12
      clear hl12
      obtain ⟨x11, hxx11⟩ : ∃ x, a0.fRecords[k6]? = some x := ⟨_, List.getElem?_eq_getElem (by omega)⟩
      rw [drop_cons hxx11, f_l11_Small_l1_s] at h
      have hk13lt : (k6 : Int) < (a0.fRecords.length : Int) := by omega
      refine T.seq (T.region rfl ?_)
      refine TL.run ft_cursitorlaw11_ok [0] rfl rfl ?_
      refine TL.nil (X.seq (T.seq ?_))
      refine T.yes rfl (decide_eq_true hk13lt) ?_
      obtain ⟨gz14, oz14, rfl, z14cs, z14cl, z14cc, z14nf, z14r⟩ := RX.elem (by decide) hX hxx11
      obtain ⟨z14S, z14r, z14rr⟩ := z14r
      obtain ⟨A15, c16, rfl, z14s0⟩ := z14r
      have hX17 : (RX.of (sliceRd 3 Hd_rd) [.slice A15 x11.fHeaders.length c16] x11.fHeaders).reads w F := ⟨z14S, z14s0, z14rr⟩
      refine T.skip (X.seq (T.seq (T.block (T.seq (T.region rfl ?_)))))
      refine TL.q rfl .u (Ex.ixS (k := k6) rfl rfl rfl Try.runUnderlying23 Try.sizeOf33 (List.getElem?_eq_some_iff.1 hxx11).1) rfl ?_
      refine TL.q rfl .u (Ex.oS (us := [.int .i64 x11.fTime, .int .i64 x11.fOffset, .bool x11.fKey.null, .string (bsOf x11.fKey.data), .bool x11.fValue.null, .string (bsOf x11.fValue.data), .slice A15 x11.fHeaders.length c16]) 0 rfl Try.isAgg33 Try.sizeOf33 z14nf z14cc rfl rfl rfl) rfl ?_
      refine TL.alloc rfl .u Try.zeroValue33 rfl (fun b18 => ?_)
      refine TL.st0 (cs' := #[.int .i64 x11.fTime, .int .i64 x11.fOffset, .bool x11.fKey.null, .string (bsOf x11.fKey.data), .bool x11.fValue.null, .string (bsOf x11.fValue.data), .slice A15 x11.fHeaders.length c16]) rfl .u rfl rfl Try.sizeOf33 rfl rfl rfl rfl ?_
      refine TL.nil (X.seq (T.seq (T.seq (T.region rfl ?_))))
      refine TL.run ft_cursitorlaw11_ok [0, 1] rfl rfl ?_
      refine TL.q rfl .u (Ex.b1 0 rfl Try.isAgg9 rfl rfl) rfl ?_
      refine TL.q rfl .u (Ex.lenB rfl Try.runUnderlying9) rfl ?_
      refine TL.run ft_cursitorlaw11_ok [4, 5] rfl rfl ?_
      refine TL.q rfl .u (Ex.b1 0 rfl Try.isAgg9 rfl rfl) rfl ?_
      refine TL.q rfl .u (Ex.lenB rfl Try.runUnderlying9) rfl ?_
      replace h := guard_some h
      obtain ⟨c19, h⟩ := h
      refine TL.q rfl .u (Ex.add rfl rfl c19) rfl ?_
      by_cases c20 : ((x11.fKey.data.length : Int) + (x11.fValue.data.length : Int)) > 100
      · replace h := ifT c20 h
        refine TL.run ft_cursitorlaw11_ok [9, 10] rfl rfl ?_
        refine TL.no rfl (.gn rfl rfl (decide_eq_true c20)) rfl ?_
        refine TL.no rfl (.gn rfl rfl (decide_eq_true c20)) rfl ?_
        refine TL.no rfl (.gn rfl rfl (decide_eq_true c20)) rfl ?_
        refine TL.no rfl (.gn rfl rfl (decide_eq_true c20)) rfl ?_
        refine TL.q rfl .u (Ex.py rfl (decide_eq_true c20) rfl) rfl ?_
        refine TL.nil (X.seq ?_)
        refine T.yes rfl rfl ?_
        refine T.seq (T.region rfl ?_)
        refine TL.run ft_cursitorlaw11_ok [0] rfl rfl ?_
        obtain rfl := Option.some.inj h
        replace h := hO9
        clear hO9
        try dsimp only at h
        obtain rfl := Option.some.inj h
        exact TL.nil (X.seq (T.ret (X.rs (X.rb (X.rs (X.rs (X.rb (X.rs (X.done1 [2] Try.results12 (RV.tm rfl) ⟨rfl, rfl, rfl⟩ (by rfl) (.inl rfl))))))))))
      · replace h := ifF c20 h
        refine TL.run ft_cursitorlaw11_ok [9, 10] rfl rfl ?_
        refine TL.q rfl (.g rfl rfl (decide_eq_false c20)) (Ex.ft ft_cursitorlaw11_ok rfl) rfl ?_
        refine TL.q rfl (.g rfl rfl (decide_eq_false c20)) (Ex.b1 0 rfl Try.isAgg31 rfl rfl) rfl ?_
        refine TL.q rfl (.g rfl rfl (decide_eq_false c20)) (Ex.lenS rfl Try.runUnderlying31) rfl ?_
        refine TL.q rfl (.g rfl rfl (decide_eq_false c20)) (Ex.ft ft_cursitorlaw11_ok rfl) rfl ?_
        refine TL.q rfl .u (Ex.pn rfl (decide_eq_false c20) rfl) rfl ?_
        by_cases c21 : (x11.fHeaders.length : Int) > 6
        · replace h := ifT c21 h
          refine TL.nil (X.seq ?_)
          refine T.yes rfl (decide_eq_true c21) ?_
          refine T.seq (T.region rfl ?_)
          refine TL.run ft_cursitorlaw11_ok [0] rfl rfl ?_
          obtain rfl := Option.some.inj h
          replace h := hO9
          clear hO9
          try dsimp only at h
          obtain rfl := Option.some.inj h
          exact TL.nil (X.seq (T.ret (X.rs (X.rb (X.rs (X.rs (X.rb (X.rs (X.done1 [2] Try.results12 (RV.tm rfl) ⟨rfl, rfl, rfl⟩ (by rfl) (.inl rfl))))))))))
        · replace h := ifF c21 h
          refine TL.nil (X.seq ?_)
          refine T.no rfl (decide_eq_false c21) ?_
          refine T.skip (X.seq (T.seq (T.region rfl ?_)))
          refine TL.run ft_cursitorlaw11_ok [0] rfl rfl ?_
          refine TL.q rfl .u (Ex.b1 0 rfl Try.isAgg31 rfl rfl) rfl ?_
          refine TL.q rfl .u (Ex.lenS rfl Try.runUnderlying31) rfl ?_
          refine TL.run ft_cursitorlaw11_ok [3] rfl rfl ?_
          refine TL.nil (X.seq (T.block ?_))
          obtain ⟨E24, hE25, hO26⟩ := Option.bind_eq_some_iff.1 h
          have hk30len := RX.len_le hX17
          refine T.lp (fun m e Rs => ∃ (y22 : Int) (k23 : Nat), k23 + m = x11.fHeaders.length ∧ e = [(2, .int .i64 y22), (12, .slice (some ⟨gz14, oz14, none⟩) a0.fRecords.length c2), (13, .int .i64 (a0.fRecords.length : Int)), (14, .int .i64 (k6 : Int)), (35, .slice A15 x11.fHeaders.length c16), (36, .int .i64 (x11.fHeaders.length : Int)), (37, .int .i64 (k23 : Int))] ∧ Rs = [BlkR b18 33 #[.int .i64 x11.fTime, .int .i64 x11.fOffset, .bool x11.fKey.null, .string (bsOf x11.fKey.data), .bool x11.fValue.null, .string (bsOf x11.fValue.data), .slice A15 x11.fHeaders.length c16], BlkR b3 25 #[.int .i64 a0.fBase, .int .i64 a0.fLeader, .bool a0.fAppend, .bool a0.fTxn, .bool a0.fControl, .int .i64 a0.fLast, .int .i64 a0.fFirst, .int .i64 a0.fMax, .int .i64 a0.fProducer, .int .i64 a0.fEpoch, .int .i64 a0.fSequence, .slice (some ⟨gz14, oz14, none⟩) a0.fRecords.length c2], EmpR] ∧ f_l11_Small_l2 (x11.fHeaders.drop k23) y22 = some E24) (x11.fHeaders.length) [0, 0, 0] ⟨y5, 0, by simp, rfl, rfl, by rw [List.drop_zero]; exact hE25⟩ (by rfl) (by rfl) ?_
          rintro m27 _ _ ⟨y22, k23, hk30, rfl, rfl, hl29⟩
          clear hE25 h
          cases m27 with
          | zero =>
            have h := hl29
            clear hl29
            rw [List.drop_of_length_le (by omega), f_l11_Small_l2] at h
            have hk30ge : ¬ ((k23 : Int) < (x11.fHeaders.length : Int)) := by omega
            refine T.seq (T.region rfl ?_)
            refine TL.run ft_cursitorlaw11_ok [0] rfl rfl ?_
            refine TL.nil (X.seq (T.seq ?_))
            refine T.no rfl (decide_eq_false hk30ge) ?_
            obtain rfl := Option.some.inj h
            replace h := hO26
            clear hO26
            try dsimp only at h
            refine T.exit (X.exs (X.exs (X.ex (X.blk (X.seq (T.region rfl ?_))))))
            refine TL.q rfl .u (Ex.add rfl rfl (by omega)) rfl ?_
            refine TL.run ft_cursitorlaw11_ok [1] rfl rfl ?_
            exact TL.nil (X.back (m' := m10) [1, 1] (by omega) ⟨y22, k6 + 1, by omega, rfl, rfl, h⟩ (by rfl) (by rfl))
          | succ m27 =>
            have h := hl29
            clear hl29
            obtain ⟨x28, hxx28⟩ : ∃ x, x11.fHeaders[k23]? = some x := ⟨_, List.getElem?_eq_getElem (by omega)⟩
            rw [drop_cons hxx28, f_l11_Small_l2] at h
            have hk30lt : (k23 : Int) < (x11.fHeaders.length : Int) := by omega
            refine T.seq (T.region rfl ?_)
            refine TL.run ft_cursitorlaw11_ok [0] rfl rfl ?_
            refine TL.nil (X.seq (T.seq ?_))
            refine T.yes rfl (decide_eq_true hk30lt) ?_
            obtain ⟨gz31, oz31, rfl, z31cs, z31cl, z31cc, z31nf, z31r⟩ := RX.elem (by decide) hX17 hxx28
            obtain ⟨z31S, z31r, z31rr⟩ := z31r
            obtain rfl : z31cs = [.string (bsOf x28.fKey), .bool x28.fValue.null, .string (bsOf x28.fValue.data)] := z31r
            refine T.skip (X.seq (T.seq (T.block (T.seq (T.region rfl ?_)))))
            refine TL.q rfl .u (Ex.ixS (k := k23) rfl rfl rfl Try.runUnderlying31 Try.sizeOf81 (List.getElem?_eq_some_iff.1 hxx28).1) rfl ?_
            refine TL.q rfl .u (Ex.oS (us := [.string (bsOf x28.fKey), .bool x28.fValue.null, .string (bsOf x28.fValue.data)]) 0 rfl Try.isAgg81 Try.sizeOf81 z31nf z31cc rfl rfl rfl) rfl ?_
            refine TL.alloc rfl .u Try.zeroValue81 rfl (fun b32 => ?_)
            refine TL.st0 (cs' := #[.string (bsOf x28.fKey), .bool x28.fValue.null, .string (bsOf x28.fValue.data)]) rfl .u rfl rfl Try.sizeOf81 rfl rfl rfl rfl ?_
            refine TL.nil (X.seq (T.seq (T.region rfl ?_)))
            refine TL.run ft_cursitorlaw11_ok [0] rfl rfl ?_
            refine TL.q rfl .u (Ex.b1 0 rfl Try.isAgg9 rfl rfl) rfl ?_
            refine TL.q rfl .u (Ex.lenB rfl Try.runUnderlying9) rfl ?_
            refine TL.run ft_cursitorlaw11_ok [3, 4] rfl rfl ?_
            refine TL.q rfl .u (Ex.b1 0 rfl Try.isAgg9 rfl rfl) rfl ?_
            refine TL.q rfl .u (Ex.lenB rfl Try.runUnderlying9) rfl ?_
            replace h := guard_some h
            obtain ⟨c33, h⟩ := h
            refine TL.q rfl .u (Ex.add rfl rfl c33) rfl ?_
            refine TL.run ft_cursitorlaw11_ok [8] rfl rfl ?_
            by_cases c34 : ((x28.fKey.length : Int) + (x28.fValue.data.length : Int)) > 100
            · replace h := ifT c34 h
              refine TL.nil (X.seq ?_)
              refine T.yes rfl (decide_eq_true c34) ?_
              refine T.seq (T.region rfl ?_)
              refine TL.run ft_cursitorlaw11_ok [0] rfl rfl ?_
              obtain rfl := Option.some.inj h
              replace h := hO26
              clear hO26
              try dsimp only at h
              obtain rfl := Option.some.inj h
              replace h := hO9
              clear hO9
              try dsimp only at h
              obtain rfl := Option.some.inj h
              exact TL.nil (X.seq (T.ret (X.rb (X.rs (X.rs (X.rb (X.rb (X.rs (X.rs (X.rb (X.rs (X.done1 [3] Try.results12 (RV.tm rfl) ⟨rfl, rfl, rfl⟩ (by rfl) (.inl rfl)))))))))))))
            · replace h := ifF c34 h
              refine TL.nil (X.seq ?_)
              refine T.no rfl (decide_eq_false c34) ?_
              refine T.skip (X.blk (X.seq (T.region rfl ?_)))
              refine TL.q rfl .u (Ex.add rfl rfl (by omega)) rfl ?_
              refine TL.run ft_cursitorlaw11_ok [1] rfl rfl ?_
              exact TL.nil (X.back (m' := m27) [1, 1, 1] (by omega) ⟨y22, k23 + 1, by omega, rfl, rfl, h⟩ (by rfl) (by rfl))
def f_l11_BatchHarms_l1 (a1 : Int) (a2 : Int) (x21 : List UInt8) : Nat → List Int → Nat → Option (List Int × Nat)
  | 0, _, _ => none
  | m38 + 1, y31, k34 => if (k34 : Int) < 32 then (if -9223372036854775808 ≤ ((a1 % (8 * (((bsI x21).length : Int) - 21))) + (k34 : Int)) ∧ ((a1 % (8 * (((bsI x21).length : Int) - 21))) + (k34 : Int)) ≤ 9223372036854775807 then ((if 0 ≤ (k34 : Int) then (if (Go.bits .and .u32 (shrK .u32 a2 (k34 : Int)) 1) = 1 then (if ((a1 % (8 * (((bsI x21).length : Int) - 21))) + (k34 : Int)) < (8 * (((bsI x21).length : Int) - 21)) then some true else some false) else some false) else none).bind fun y46 => if y46 = true then (if 0 ≤ ((a1 % (8 * (((bsI x21).length : Int) - 21))) + (k34 : Int)) ∧ ((a1 % (8 * (((bsI x21).length : Int) - 21))) + (k34 : Int)) ≤ 9223372036854775807 then (if -9223372036854775808 ≤ (21 + (((a1 % (8 * (((bsI x21).length : Int) - 21))) + (k34 : Int)) / 8)) ∧ (21 + (((a1 % (8 * (((bsI x21).length : Int) - 21))) + (k34 : Int)) / 8)) ≤ 9223372036854775807 then (if 0 ≤ (21 + (((a1 % (8 * (((bsI x21).length : Int) - 21))) + (k34 : Int)) / 8)) then ((y31[(21 + (((a1 % (8 * (((bsI x21).length : Int) - 21))) + (k34 : Int)) / 8)).toNat]?).bind fun x55 => if 0 ≤ ((a1 % (8 * (((bsI x21).length : Int) - 21))) + (k34 : Int)) ∧ ((a1 % (8 * (((bsI x21).length : Int) - 21))) + (k34 : Int)) ≤ 9223372036854775807 then (if 0 ≤ (((a1 % (8 * (((bsI x21).length : Int) - 21))) + (k34 : Int)) % 8) then (if 0 ≤ (21 + (((a1 % (8 * (((bsI x21).length : Int) - 21))) + (k34 : Int)) / 8)) then (if -9223372036854775808 ≤ ((k34 : Int) + 1) ∧ ((k34 : Int) + 1) ≤ 9223372036854775807 then (f_l11_BatchHarms_l1 a1 a2 x21 m38 (y31.set ((21 + (((a1 % (8 * (((bsI x21).length : Int) - 21))) + (k34 : Int)) / 8)).toNat) (Go.bits .xor .u8 x55 (shlK .u8 1 (((a1 % (8 * (((bsI x21).length : Int) - 21))) + (k34 : Int)) % 8)))) (k34 + 1)) else none) else none) else none) else none) else none) else none) else none) else (if -9223372036854775808 ≤ ((k34 : Int) + 1) ∧ ((k34 : Int) + 1) ≤ 9223372036854775807 then (f_l11_BatchHarms_l1 a1 a2 x21 m38 y31 (k34 + 1)) else none)) else none) else some (y31, k34)
def f_l11_BatchHarms (a0 : Bat) (a1 : Int) (a2 : Int) : Option (Bool) := (f_l11_speaks).bind fun x4 => if x4 = true then (((f_l11_Small a0).bind fun x14 => if x14 = 0 then some true else ((f_r11_Check a0).bind fun x17 => if x17 = 0 then some false else some true)).bind fun y12 => if y12 = true then some true else ((f_batch_Encode a0).bind fun (x21, x22) => if x22 = 0 then (if -9223372036854775808 ≤ (((bsI x21).length : Int) - 21) ∧ (((bsI x21).length : Int) - 21) ≤ 9223372036854775807 then (if -9223372036854775808 ≤ (8 * (((bsI x21).length : Int) - 21)) ∧ (8 * (((bsI x21).length : Int) - 21)) ≤ 9223372036854775807 then (if -9223372036854775808 ≤ a1 ∧ a1 ≤ 9223372036854775807 then (if 1 ≤ (8 * (((bsI x21).length : Int) - 21)) ∧ 0 ≤ a1 then ((f_l11_BatchHarms_l1 a1 a2 x21 ((32 : Int).toNat + 1) (bsI x21) 0).bind fun (y99, k102) => (f_batch_Decode (toBs y99)).bind fun (x103, x106) => if -9223372036854775808 ≤ a1 ∧ a1 ≤ 9223372036854775807 then (if 1 ≤ (x21.length : Int) ∧ 0 ≤ a1 then (if 0 ≤ (a1 % (x21.length : Int)) ∧ (a1 % (x21.length : Int)).toNat ≤ x21.length then ((f_batch_Decode (x21.take ((a1 % (x21.length : Int)).toNat))).bind fun (x112, x115) => if x21.length + x21.length ≤ 9223372036854775807 then ((f_batch_Decode (x21 ++ x21)).bind fun (x119, x122) => (if ((decide (x106 = 0)) == (decide ((toBs y99) = x21))) = true then (if (toBs y99) = x21 then some false else (if x106 = 5 then some false else (if x106 = 10 then some false else some true))) else some true).bind fun y128 => if y128 = true then none else ((if x115 = 1 then (if x122 = 2 then some true else some false) else some false).bind fun y136 => some y136)) else none) else none) else none) else none) else none) else none) else none) else none) else none)) else none
set_option maxRecDepth 100000 in
set_option maxHeartbeats 4000000 in
theorem f_l11_BatchHarms_spec (a0 : Bat) (A1 : Option Addr) (c2 : Nat) (a1 : Int) (a2 : Int) (r : Bool) (h : f_l11_BatchHarms a0 a1 a2 = some r) : SpecX Try.prog 4 #[.agg #[.int .i64 a0.fBase, .int .i64 a0.fLeader, .bool a0.fAppend, .bool a0.fTxn, .bool a0.fControl, .int .i64 a0.fLast, .int .i64 a0.fFirst, .int .i64 a0.fMax, .int .i64 a0.fProducer, .int .i64 a0.fEpoch, .int .i64 a0.fSequence, .slice A1 a0.fRecords.length c2], .int .u16 a1, .int .u32 a2] (RX.of (sliceRd 7 Rec_rd) [.slice A1 a0.fRecords.length c2] a0.fRecords) (EmpR) (fun v A' N => v = .bool r ∧ A' = EmpR ∧ N = []) := by
  refine enterA Try.func4 rfl Try.ntmps4 rfl ?_
  intro F w hX
  unfold f_l11_BatchHarms at h
  refine T.seq (T.region rfl ?_)
  refine TL.box rfl .u rfl rfl (fun b3 => ?_)
  refine TL.run ft_cursitorlaw11_ok [1] rfl rfl ?_
  obtain ⟨x4, hx5, h⟩ := Option.bind_eq_some_iff.1 h
  refine TL.nil (X.seq (T.seq (T.seq (T.region rfl ?_))))
  refine TL.ce rfl .u (.fn Try.call10 rfl) (f_l11_speaks_spec _ hx5) (fun _ hs => (RX.reads_triv _ _)) rfl ?_
  refine TL.run ft_cursitorlaw11_ok [1] rfl rfl ?_
  by_cases c6 : x4 = true
  · replace h := ifT c6 h
    refine TL.nil (X.seq ?_)
    refine T.no rfl (bn_f c6) ?_
    refine T.skip (X.seq (T.seq (T.seq ?_)))
    obtain ⟨y12, h, hk13⟩ := Option.bind_eq_some_iff.1 h
    refine T.jq (fun e Rs => e = [(1, .int .u16 a1), (2, .int .u32 a2), (3, .pointer (some ⟨b3, 0, none⟩)), (6, .bool false), (29, .bool y12)] ∧ Rs = [BlkR b3 25 #[.int .i64 a0.fBase, .int .i64 a0.fLeader, .bool a0.fAppend, .bool a0.fTxn, .bool a0.fControl, .int .i64 a0.fLast, .int .i64 a0.fFirst, .int .i64 a0.fMax, .int .i64 a0.fProducer, .int .i64 a0.fEpoch, .int .i64 a0.fSequence, .slice A1 a0.fRecords.length c2], EmpR]) ?_ ?_
    · clear hk13
      refine T.region rfl ?_
      refine TL.q rfl .u (Ex.bS (us := [.int .i64 a0.fBase, .int .i64 a0.fLeader, .bool a0.fAppend, .bool a0.fTxn, .bool a0.fControl, .int .i64 a0.fLast, .int .i64 a0.fFirst, .int .i64 a0.fMax, .int .i64 a0.fProducer, .int .i64 a0.fEpoch, .int .i64 a0.fSequence, .slice A1 a0.fRecords.length c2]) 0 rfl Try.isAgg25 Try.sizeOf25 rfl rfl rfl) rfl ?_
      obtain ⟨x14, hx15, h⟩ := Option.bind_eq_some_iff.1 h
      refine TL.ce rfl .u (.fn Try.call12 rfl) (f_l11_Small_spec a0 _ _ _ hx15) (fun _ hs => (SrcE.old hs hX)) rfl ?_
      by_cases c16 : x14 = 0
      · replace h := ifT c16 h
        refine TL.run ft_cursitorlaw11_ok [2, 3] rfl rfl ?_
        refine TL.no rfl (.gn rfl rfl (decide_eq_true c16)) rfl ?_
        refine TL.no rfl (.gn rfl rfl (decide_eq_true c16)) rfl ?_
        refine TL.no rfl (.gn rfl rfl (decide_eq_true c16)) rfl ?_
        refine TL.q rfl .u (Ex.py rfl (decide_eq_true c16) rfl) rfl ?_
        cases h
        exact TL.nil (X.jq [0, 0] ⟨rfl, rfl⟩ (by rfl) (by rfl))
      · replace h := ifF c16 h
        refine TL.run ft_cursitorlaw11_ok [2, 3] rfl rfl ?_
        refine TL.q rfl (.g rfl rfl (decide_eq_false c16)) (Ex.bS (us := [.int .i64 a0.fBase, .int .i64 a0.fLeader, .bool a0.fAppend, .bool a0.fTxn, .bool a0.fControl, .int .i64 a0.fLast, .int .i64 a0.fFirst, .int .i64 a0.fMax, .int .i64 a0.fProducer, .int .i64 a0.fEpoch, .int .i64 a0.fSequence, .slice A1 a0.fRecords.length c2]) 0 rfl Try.isAgg25 Try.sizeOf25 rfl rfl rfl) rfl ?_
        obtain ⟨x17, hx18, h⟩ := Option.bind_eq_some_iff.1 h
        refine TL.ce rfl (.g rfl rfl (decide_eq_false c16)) (.fn Try.call13 rfl) (f_r11_Check_spec a0 _ _ _ hx18) (fun _ hs => (SrcE.old hs hX)) rfl ?_
        refine TL.q rfl (.g rfl rfl (decide_eq_false c16)) (Ex.ft ft_cursitorlaw11_ok rfl) rfl ?_
        refine TL.q rfl .u (Ex.pn rfl (decide_eq_false c16) rfl) rfl ?_
        by_cases c19 : x17 = 0
        · replace h := ifT c19 h
          cases h
          exact TL.nil (X.as (d := 29) (v' := .bool false) rfl (congrArg Value.bool (bn_f (decide_eq_true c19))) (X.jq [0, 0] ⟨rfl, rfl⟩ (by rfl) (by rfl)))
        · replace h := ifF c19 h
          cases h
          exact TL.nil (X.as (d := 29) (v' := .bool true) rfl (congrArg Value.bool (bn_t (decide_eq_false c19))) (X.jq [0, 0] ⟨rfl, rfl⟩ (by rfl) (by rfl)))
    · rintro _ _ ⟨rfl, rfl⟩
      clear h
      have h := hk13
      clear hk13
      try dsimp only at h
      by_cases c20 : y12 = true
      · replace h := ifT c20 h
        refine X.seq ?_
        refine T.yes rfl c20 ?_
        refine T.seq (T.region rfl ?_)
        refine TL.run ft_cursitorlaw11_ok [0] rfl rfl ?_
        obtain rfl := Option.some.inj h
        exact TL.nil (X.seq (T.ret (X.rs (X.done1 [1] Try.results4 (RV.tm rfl) ⟨rfl, rfl, rfl⟩ (by rfl) (.inl rfl)))))
      · replace h := ifF c20 h
        replace c20 := eq_false_of_ne_true c20
        refine X.seq ?_
        refine T.no rfl c20 ?_
        refine T.skip (X.seq (T.seq (T.region rfl ?_)))
        refine TL.q rfl .u (Ex.bS (us := [.int .i64 a0.fBase, .int .i64 a0.fLeader, .bool a0.fAppend, .bool a0.fTxn, .bool a0.fControl, .int .i64 a0.fLast, .int .i64 a0.fFirst, .int .i64 a0.fMax, .int .i64 a0.fProducer, .int .i64 a0.fEpoch, .int .i64 a0.fSequence, .slice A1 a0.fRecords.length c2]) 0 rfl Try.isAgg25 Try.sizeOf25 rfl rfl rfl) rfl ?_
        obtain ⟨⟨x21, x22⟩, hx23, h⟩ := Option.bind_eq_some_iff.1 h
        try dsimp only at h
        refine TL.ce rfl .u (.fn Try.call14 rfl) (f_batch_Encode_spec a0 _ _ _ hx23) (fun _ hs => (SrcE.old hs hX)) rfl ?_
        refine TL.run ft_cursitorlaw11_ok [2, 3, 4, 5, 6] rfl rfl ?_
        refine TL.nil (X.seq (T.seq (T.seq (T.region rfl ?_))))
        refine TL.run ft_cursitorlaw11_ok [0, 1] rfl rfl ?_
        by_cases c24 : x22 = 0
        · replace h := ifT c24 h
          refine TL.nil (X.seq ?_)
          refine T.no rfl (bn_f (decide_eq_true c24)) ?_
          refine T.skip (X.seq (T.seq (T.region rfl ?_)))
          refine TL.run ft_cursitorlaw11_ok [0] rfl rfl ?_
          refine TL.toBs rfl .u rfl Try.underlying9 Try.underlying40 Try.underlying5 rfl (fun b25 c26 => ?_)
          refine TL.run ft_cursitorlaw11_ok [2] rfl rfl ?_
          refine TL.nil (X.seq (T.seq (T.region rfl ?_)))
          refine TL.run ft_cursitorlaw11_ok [0] rfl rfl ?_
          refine TL.q rfl .u (Ex.lenS rfl Try.runUnderlying40) rfl ?_
          replace h := guard_some h
          obtain ⟨c27, h⟩ := h
          refine TL.q rfl .u (Ex.sub rfl rfl c27) rfl ?_
          replace h := guard_some h
          obtain ⟨c28, h⟩ := h
          refine TL.q rfl .u (Ex.mul rfl rfl c28) rfl ?_
          refine TL.run ft_cursitorlaw11_ok [4] rfl rfl ?_
          refine TL.nil (X.seq (T.seq (T.region rfl ?_)))
          replace h := guard_some h
          obtain ⟨c29, h⟩ := h
          refine TL.run ft_cursitorlaw11_ok [0] rfl rfl ?_
          refine TL.q rfl .u (Ex.conv64 rfl Try.runUnderlying35 Try.runUnderlying3 c29) rfl ?_
          replace h := guard_some h
          obtain ⟨c30, h⟩ := h
          refine TL.run ft_cursitorlaw11_ok [2] rfl rfl ?_
          refine TL.q rfl .u (Ex.remK rfl rfl c30.1 c30.2) rfl ?_
          refine TL.run ft_cursitorlaw11_ok [4] rfl rfl ?_
          refine TL.nil (X.seq (T.seq (T.seq (T.region rfl ?_))))
          refine TL.run ft_cursitorlaw11_ok [0] rfl rfl ?_
          refine TL.nil (X.seq (T.block ?_))
          obtain ⟨E35, hE36, hO37⟩ := Option.bind_eq_some_iff.1 h
          refine T.lp (fun m e Rs => ∃ (y31 : List Int) (k34 : Nat), e = [(1, .int .u16 a1), (2, .int .u32 a2), (6, .bool false), (7, .string (bsOf x21)), (9, .slice (some ⟨b25, 0, none⟩) y31.length c26), (10, .int .i64 (8 * (((bsI x21).length : Int) - 21))), (11, .int .i64 (a1 % (8 * (((bsI x21).length : Int) - 21)))), (47, .int .i64 (k34 : Int))] ∧ Rs = [BsR 5 b25 c26 y31, BlkR b3 25 #[.int .i64 a0.fBase, .int .i64 a0.fLeader, .bool a0.fAppend, .bool a0.fTxn, .bool a0.fControl, .int .i64 a0.fLast, .int .i64 a0.fFirst, .int .i64 a0.fMax, .int .i64 a0.fProducer, .int .i64 a0.fEpoch, .int .i64 a0.fSequence, .slice A1 a0.fRecords.length c2], EmpR] ∧ f_l11_BatchHarms_l1 a1 a2 x21 m y31 k34 = some E35) ((32 : Int).toNat + 1) [0, 0, 0] ⟨(bsI x21), 0, rfl, rfl, by exact hE36⟩ (by rfl) (by rfl) ?_
          rintro m38 _ _ ⟨y31, k34, rfl, rfl, hl40⟩
          clear hE36 h
          cases m38 with
          | zero =>
            rw [f_l11_BatchHarms_l1] at hl40
            cases hl40
          | succ m38 =>
            have h := hl40
            clear hl40
            rw [f_l11_BatchHarms_l1] at h
            refine T.seq (T.region rfl ?_)
            refine TL.run ft_cursitorlaw11_ok [0] rfl rfl ?_
            by_cases c42 : (k34 : Int) < 32
            · replace h := ifT c42 h
              refine TL.nil (X.seq (T.seq ?_))
              refine T.yes rfl (decide_eq_true c42) ?_
              refine T.skip (X.seq (T.seq (T.block (T.seq (T.region rfl ?_)))))
              refine TL.run ft_cursitorlaw11_ok [0, 1] rfl rfl ?_
              refine TL.nil (X.seq (T.seq (T.region rfl ?_)))
              replace h := guard_some h
              obtain ⟨c43, h⟩ := h
              refine TL.run ft_cursitorlaw11_ok [0, 1] rfl rfl ?_
              refine TL.q rfl .u (Ex.add rfl rfl c43) rfl ?_
              refine TL.run ft_cursitorlaw11_ok [3] rfl rfl ?_
              refine TL.nil (X.seq (T.seq ?_))
              obtain ⟨y46, h, hk47⟩ := Option.bind_eq_some_iff.1 h
              refine T.jq (fun e Rs => e = [(1, .int .u16 a1), (2, .int .u32 a2), (6, .bool false), (7, .string (bsOf x21)), (9, .slice (some ⟨b25, 0, none⟩) y31.length c26), (10, .int .i64 (8 * (((bsI x21).length : Int) - 21))), (11, .int .i64 (a1 % (8 * (((bsI x21).length : Int) - 21)))), (13, .int .i64 ((a1 % (8 * (((bsI x21).length : Int) - 21))) + (k34 : Int))), (47, .int .i64 (k34 : Int)), (62, .bool y46)] ∧ Rs = [BsR 5 b25 c26 y31, BlkR b3 25 #[.int .i64 a0.fBase, .int .i64 a0.fLeader, .bool a0.fAppend, .bool a0.fTxn, .bool a0.fControl, .int .i64 a0.fLast, .int .i64 a0.fFirst, .int .i64 a0.fMax, .int .i64 a0.fProducer, .int .i64 a0.fEpoch, .int .i64 a0.fSequence, .slice A1 a0.fRecords.length c2], EmpR]) ?_ ?_
              · clear hk47
                refine T.region rfl ?_
                replace h := guard_some h
                obtain ⟨c48, h⟩ := h
                refine TL.run ft_cursitorlaw11_ok [0, 1] rfl rfl ?_
                refine TL.q rfl .u (Ex.shr rfl rfl c48) rfl ?_
                refine TL.q rfl .u (Ex.bitw rfl rfl rfl) rfl ?_
                by_cases c49 : (Go.bits .and .u32 (shrK .u32 a2 (k34 : Int)) 1) = 1
                · replace h := ifT c49 h
                  refine TL.run ft_cursitorlaw11_ok [4, 5] rfl rfl ?_
                  refine TL.q rfl (.g rfl rfl (decide_eq_true c49)) (Ex.ft ft_cursitorlaw11_ok rfl) rfl ?_
                  refine TL.q rfl (.g rfl rfl (decide_eq_true c49)) (Ex.ft ft_cursitorlaw11_ok rfl) rfl ?_
                  refine TL.q rfl (.g rfl rfl (decide_eq_true c49)) (Ex.ft ft_cursitorlaw11_ok rfl) rfl ?_
                  refine TL.q rfl .u (Ex.py rfl (decide_eq_true c49) rfl) rfl ?_
                  by_cases c50 : ((a1 % (8 * (((bsI x21).length : Int) - 21))) + (k34 : Int)) < (8 * (((bsI x21).length : Int) - 21))
                  · replace h := ifT c50 h
                    cases h
                    exact TL.nil (X.as (d := 62) (v' := .bool true) rfl (congrArg Value.bool (decide_eq_true c50)) (X.jq [0, 0, 0] ⟨rfl, rfl⟩ (by rfl) (by rfl)))
                  · replace h := ifF c50 h
                    cases h
                    exact TL.nil (X.as (d := 62) (v' := .bool false) rfl (congrArg Value.bool (decide_eq_false c50)) (X.jq [0, 0, 0] ⟨rfl, rfl⟩ (by rfl) (by rfl)))
                · replace h := ifF c49 h
                  refine TL.run ft_cursitorlaw11_ok [4, 5] rfl rfl ?_
                  refine TL.no rfl (.gn rfl rfl (decide_eq_false c49)) rfl ?_
                  refine TL.no rfl (.gn rfl rfl (decide_eq_false c49)) rfl ?_
                  refine TL.no rfl (.gn rfl rfl (decide_eq_false c49)) rfl ?_
                  refine TL.q rfl .u (Ex.pn rfl (decide_eq_false c49) rfl) rfl ?_
                  cases h
                  exact TL.nil (X.jq [0, 0, 0] ⟨rfl, rfl⟩ (by rfl) (by rfl))
              · rintro _ _ ⟨rfl, rfl⟩
                clear h
                have h := hk47
                clear hk47
                try dsimp only at h
                by_cases c51 : y46 = true
                · replace h := ifT c51 h
                  refine X.seq ?_
                  refine T.yes rfl c51 ?_
                  refine T.draw (.q 0 (.q 1 (.q 2 (.q 3 (.q 4 (.q 6 (.q 7 (.q 8 (.e 5 (.q 9 (.q 10 (.e 11 .nil)))))))))))) [1, 1] rfl mix_cursitorlaw11 (NoP.blk (NoP.seq (NoP.seq (NoP.blk (NoP.seq np_post))))) (by kernel_rfl) ?_
                  replace h := guard_some h
                  obtain ⟨c52, h⟩ := h
                  refine TD.run ft_cursitorlaw11_ok [0, 1] rfl rfl ?_
                  refine TD.q rfl .u (Ex.quo rfl rfl (by omega) c52) rfl ?_
                  replace h := guard_some h
                  obtain ⟨c53, h⟩ := h
                  refine TD.q rfl .u (Ex.add rfl rfl c53) rfl ?_
                  replace h := guard_some h
                  obtain ⟨c54, h⟩ := h
                  obtain ⟨x55, hx56, h⟩ := Option.bind_eq_some_iff.1 h
                  refine TD.q rfl .u (Ex.bsIx (xs := y31) (k := (21 + (((a1 % (8 * (((bsI x21).length : Int) - 21))) + (k34 : Int)) / 8)).toNat) rfl rfl ((Int.toNat_of_nonneg c54).symm) Try.runUnderlying40 Try.sizeOf5 hx56 rfl) rfl ?_
                  replace h := guard_some h
                  obtain ⟨c57, h⟩ := h
                  refine TD.run ft_cursitorlaw11_ok [6] rfl rfl ?_
                  refine TD.q rfl .u (Ex.rem rfl rfl (by omega) c57) rfl ?_
                  replace h := guard_some h
                  obtain ⟨c58, h⟩ := h
                  refine TD.q rfl .u (Ex.shl rfl rfl c58) rfl ?_
                  refine TD.ny rfl .u (Ex.bsLd (k := (21 + (((a1 % (8 * (((bsI x21).length : Int) - 21))) + (k34 : Int)) / 8)).toNat) 0 rfl Try.isAgg5 rfl hx56) rfl [1, 1] rfl ?_
                  refine TD.q rfl .u (Ex.bitw rfl rfl rfl) rfl ?_
                  replace h := guard_some h
                  obtain ⟨c59, h⟩ := h
                  refine TD.q rfl .u (Ex.bsIx (xs := y31) (k := (21 + (((a1 % (8 * (((bsI x21).length : Int) - 21))) + (k34 : Int)) / 8)).toNat) rfl rfl ((Int.toNat_of_nonneg c59).symm) Try.runUnderlying40 Try.sizeOf5 hx56 rfl) rfl ?_
                  refine TD.bsSt (k := (21 + (((a1 % (8 * (((bsI x21).length : Int) - 21))) + (k34 : Int)) / 8)).toNat) 0 rfl .u rfl rfl Try.sizeOf5 rfl hx56 [1, 1] (rfl) ?_
                  refine TD.sel [0, 0, 0] rfl ?_
                  refine TD.as (d := 9) (v' := .slice (some ⟨b25, 0, none⟩) (y31.set ((21 + (((a1 % (8 * (((bsI x21).length : Int) - 21))) + (k34 : Int)) / 8)).toNat) (Go.bits .xor .u8 x55 (shlK .u8 1 (((a1 % (8 * (((bsI x21).length : Int) - 21))) + (k34 : Int)) % 8)))).length c26) rfl (congrArg (fun m => Value.slice (some ⟨b25, 0, none⟩) m c26) (List.length_set ..).symm) ?_
                  refine TD.as (d := 63) (v' := .slice (some ⟨b25, 0, none⟩) (y31.set ((21 + (((a1 % (8 * (((bsI x21).length : Int) - 21))) + (k34 : Int)) / 8)).toNat) (Go.bits .xor .u8 x55 (shlK .u8 1 (((a1 % (8 * (((bsI x21).length : Int) - 21))) + (k34 : Int)) % 8)))).length c26) rfl (congrArg (fun m => Value.slice (some ⟨b25, 0, none⟩) m c26) (List.length_set ..).symm) ?_
                  replace h := guard_some h
                  obtain ⟨c60, h⟩ := h
                  refine TD.nil (X.blk (X.seq (T.region rfl ?_)))
                  refine TL.q rfl .u (Ex.add rfl rfl c60) rfl ?_
                  refine TL.run ft_cursitorlaw11_ok [1] rfl rfl ?_
                  exact TL.nil (X.back (m' := m38) [0, 0, 0] (by omega) ⟨(y31.set ((21 + (((a1 % (8 * (((bsI x21).length : Int) - 21))) + (k34 : Int)) / 8)).toNat) (Go.bits .xor .u8 x55 (shlK .u8 1 (((a1 % (8 * (((bsI x21).length : Int) - 21))) + (k34 : Int)) % 8)))), k34 + 1, rfl, rfl, h⟩ (by rfl) (by rfl))
                · replace h := ifF c51 h
                  replace c51 := eq_false_of_ne_true c51
                  refine X.seq ?_
                  refine T.no rfl c51 ?_
                  replace h := guard_some h
                  obtain ⟨c61, h⟩ := h
                  refine T.skip (X.blk (X.seq (T.region rfl ?_)))
                  refine TL.q rfl .u (Ex.add rfl rfl c61) rfl ?_
                  refine TL.run ft_cursitorlaw11_ok [1] rfl rfl ?_
                  exact TL.nil (X.back (m' := m38) [0, 0, 0] (by omega) ⟨y31, k34 + 1, rfl, rfl, h⟩ (by rfl) (by rfl))
            · replace h := ifF c42 h
              refine TL.nil (X.seq (T.seq ?_))
              refine T.no rfl (decide_eq_false c42) ?_
              obtain rfl := Option.some.inj h
              replace h := hO37
              clear hO37
              try dsimp only at h
              refine T.exit (X.exs (X.exs (X.ex (X.seq (T.seq (T.region rfl ?_))))))
              refine TL.run ft_cursitorlaw11_ok [0] rfl rfl ?_
              refine TL.q rfl .u (Ex.bsStr 0 rfl rfl Try.runUnderlying40 Try.runUnderlying9 Try.runUnderlying5 rfl) rfl ?_
              obtain ⟨⟨x62, x65⟩, hx66, h⟩ := Option.bind_eq_some_iff.1 h
              try dsimp only at h
              refine TL.cge rfl .u (.fn Try.call11 rfl) (f_batch_Decode_spec (toBs y31) _ hx66) (fun _ hs => (RX.reads_triv _ _)) rfl ?_
              rintro _ _ _ ⟨A63, c64, rfl, rfl, rfl⟩
              refine TL.sel [0, 0, 0, 0] rfl ?_
              refine TL.run ft_cursitorlaw11_ok [3, 4, 5] rfl rfl ?_
              refine TL.alloc rfl .u Try.zeroValue25 rfl (fun b67 => ?_)
              refine TL.st0 (cs' := #[.int .i64 x62.fBase, .int .i64 x62.fLeader, .bool x62.fAppend, .bool x62.fTxn, .bool x62.fControl, .int .i64 x62.fLast, .int .i64 x62.fFirst, .int .i64 x62.fMax, .int .i64 x62.fProducer, .int .i64 x62.fEpoch, .int .i64 x62.fSequence, .slice A63 x62.fRecords.length c64]) rfl .u rfl rfl Try.sizeOf25 rfl rfl rfl rfl ?_
              refine TL.run ft_cursitorlaw11_ok [8] rfl rfl ?_
              refine TL.nil (X.seq (T.seq (T.region rfl ?_)))
              replace h := guard_some h
              obtain ⟨c68, h⟩ := h
              refine TL.run ft_cursitorlaw11_ok [0, 1] rfl rfl ?_
              refine TL.q rfl .u (Ex.conv64 rfl Try.runUnderlying35 Try.runUnderlying3 c68) rfl ?_
              refine TL.run ft_cursitorlaw11_ok [3] rfl rfl ?_
              refine TL.q rfl .u (Ex.lenB rfl Try.runUnderlying9) rfl ?_
              replace h := guard_some h
              obtain ⟨c69, h⟩ := h
              refine TL.q rfl .u (Ex.remK rfl rfl c69.1 c69.2) rfl ?_
              replace h := guard_some h
              obtain ⟨c70, h⟩ := h
              replace c70 : 0 ≤ (a1 % (x21.length : Int)) ∧ (a1 % (x21.length : Int)).toNat ≤ x21.length := c70
              refine TL.q rfl .u (Ex.sSl (p := 0) (q := (a1 % (x21.length : Int)).toNat) (m := (x21.take ((a1 % (x21.length : Int)).toNat))) rfl Try.runUnderlying9 .none (.some rfl ((Int.toNat_of_nonneg c70.1).symm)) (by first | omega | (dsimp only; omega)) (by simp)) rfl ?_
              obtain ⟨⟨x71, x74⟩, hx75, h⟩ := Option.bind_eq_some_iff.1 h
              try dsimp only at h
              refine TL.cge rfl .u (.fn Try.call11 rfl) (f_batch_Decode_spec (x21.take ((a1 % (x21.length : Int)).toNat)) _ hx75) (fun _ hs => (RX.reads_triv _ _)) rfl ?_
              rintro _ _ _ ⟨A72, c73, rfl, rfl, rfl⟩
              refine TL.sel [0, 0, 0, 0, 0, 0] rfl ?_
              refine TL.run ft_cursitorlaw11_ok [8, 9, 10] rfl rfl ?_
              refine TL.alloc rfl .u Try.zeroValue25 rfl (fun b76 => ?_)
              refine TL.st0 (cs' := #[.int .i64 x71.fBase, .int .i64 x71.fLeader, .bool x71.fAppend, .bool x71.fTxn, .bool x71.fControl, .int .i64 x71.fLast, .int .i64 x71.fFirst, .int .i64 x71.fMax, .int .i64 x71.fProducer, .int .i64 x71.fEpoch, .int .i64 x71.fSequence, .slice A72 x71.fRecords.length c73]) rfl .u rfl rfl Try.sizeOf25 rfl rfl rfl rfl ?_
              refine TL.run ft_cursitorlaw11_ok [13] rfl rfl ?_
              refine TL.nil (X.seq (T.seq (T.region rfl ?_)))
              replace h := guard_some h
              obtain ⟨c77, h⟩ := h
              refine TL.run ft_cursitorlaw11_ok [0, 1] rfl rfl ?_
              refine TL.q rfl .u (Ex.sAdd rfl rfl c77) rfl ?_
              obtain ⟨⟨x78, x81⟩, hx82, h⟩ := Option.bind_eq_some_iff.1 h
              try dsimp only at h
              refine TL.cge rfl .u (.fn Try.call11 rfl) (f_batch_Decode_spec (x21 ++ x21) _ hx82) (fun _ hs => (RX.reads_triv _ _)) rfl ?_
              rintro _ _ _ ⟨A79, c80, rfl, rfl, rfl⟩
              refine TL.sel [0, 0, 0, 0, 0, 0, 0, 0] rfl ?_
              refine TL.run ft_cursitorlaw11_ok [4, 5, 6] rfl rfl ?_
              refine TL.alloc rfl .u Try.zeroValue25 rfl (fun b83 => ?_)
              refine TL.st0 (cs' := #[.int .i64 x78.fBase, .int .i64 x78.fLeader, .bool x78.fAppend, .bool x78.fTxn, .bool x78.fControl, .int .i64 x78.fLast, .int .i64 x78.fFirst, .int .i64 x78.fMax, .int .i64 x78.fProducer, .int .i64 x78.fEpoch, .int .i64 x78.fSequence, .slice A79 x78.fRecords.length c80]) rfl .u rfl rfl Try.sizeOf25 rfl rfl rfl rfl ?_
              refine TL.run ft_cursitorlaw11_ok [9] rfl rfl ?_
              refine TL.nil (X.seq (T.seq (T.seq ?_)))
              obtain ⟨y87, h, hk88⟩ := Option.bind_eq_some_iff.1 h
              refine T.jq (fun e Rs => e = [(6, .bool false), (17, .int .i64 x74), (19, .int .i64 x81), (119, .bool y87)] ∧ Rs = [BlkR b83 25 #[.int .i64 x78.fBase, .int .i64 x78.fLeader, .bool x78.fAppend, .bool x78.fTxn, .bool x78.fControl, .int .i64 x78.fLast, .int .i64 x78.fFirst, .int .i64 x78.fMax, .int .i64 x78.fProducer, .int .i64 x78.fEpoch, .int .i64 x78.fSequence, .slice A79 x78.fRecords.length c80], RdR (sliceRd 7 Rec_rd) [.slice A79 x78.fRecords.length c80] x78.fRecords, BlkR b76 25 #[.int .i64 x71.fBase, .int .i64 x71.fLeader, .bool x71.fAppend, .bool x71.fTxn, .bool x71.fControl, .int .i64 x71.fLast, .int .i64 x71.fFirst, .int .i64 x71.fMax, .int .i64 x71.fProducer, .int .i64 x71.fEpoch, .int .i64 x71.fSequence, .slice A72 x71.fRecords.length c73], RdR (sliceRd 7 Rec_rd) [.slice A72 x71.fRecords.length c73] x71.fRecords, BlkR b67 25 #[.int .i64 x62.fBase, .int .i64 x62.fLeader, .bool x62.fAppend, .bool x62.fTxn, .bool x62.fControl, .int .i64 x62.fLast, .int .i64 x62.fFirst, .int .i64 x62.fMax, .int .i64 x62.fProducer, .int .i64 x62.fEpoch, .int .i64 x62.fSequence, .slice A63 x62.fRecords.length c64], RdR (sliceRd 7 Rec_rd) [.slice A63 x62.fRecords.length c64] x62.fRecords, BsR 5 b25 c26 y31, BlkR b3 25 #[.int .i64 a0.fBase, .int .i64 a0.fLeader, .bool a0.fAppend, .bool a0.fTxn, .bool a0.fControl, .int .i64 a0.fLast, .int .i64 a0.fFirst, .int .i64 a0.fMax, .int .i64 a0.fProducer, .int .i64 a0.fEpoch, .int .i64 a0.fSequence, .slice A1 a0.fRecords.length c2], EmpR]) ?_ ?_
              · clear hk88
                refine T.region rfl ?_
                refine TL.run ft_cursitorlaw11_ok [0, 1, 2] rfl rfl ?_
                refine TL.q rfl .u (Ex.bsStr 6 rfl rfl Try.runUnderlying40 Try.runUnderlying9 Try.runUnderlying5 rfl) rfl ?_
                refine TL.run ft_cursitorlaw11_ok [4] rfl rfl ?_
                refine TL.q rfl .u (Ex.sEq rfl rfl) rfl ?_
                refine TL.q rfl .u (Ex.bNe rfl rfl rfl rfl Try.runUnderlying4) rfl ?_
                by_cases c89 : ((decide (x65 = 0)) == (decide ((toBs y31) = x21))) = true
                · replace h := ifT c89 h
                  refine TL.run ft_cursitorlaw11_ok [7] rfl rfl ?_
                  refine TL.q rfl (.g rfl rfl (bn_f c89)) (Ex.ft ft_cursitorlaw11_ok rfl) rfl ?_
                  refine TL.q rfl (.g rfl rfl (bn_f c89)) (Ex.bsStr 6 rfl rfl Try.runUnderlying40 Try.runUnderlying9 Try.runUnderlying5 rfl) rfl ?_
                  refine TL.q rfl (.g rfl rfl (bn_f c89)) (Ex.ft ft_cursitorlaw11_ok rfl) rfl ?_
                  refine TL.q rfl (.g rfl rfl (bn_f c89)) (Ex.sNe rfl rfl) rfl ?_
                  refine TL.q rfl (.g rfl rfl (bn_f c89)) (Ex.ft ft_cursitorlaw11_ok rfl) rfl ?_
                  by_cases c90 : (toBs y31) = x21
                  · replace h := ifT c90 h
                    refine TL.no rfl (.gn rfl rfl (bn_f (decide_eq_true c90))) rfl ?_
                    refine TL.no rfl (.gn rfl rfl (bn_f (decide_eq_true c90))) rfl ?_
                    refine TL.q rfl (.g rfl rfl (bn_f c89)) (Ex.pn rfl (bn_f (decide_eq_true c90)) rfl) rfl ?_
                    refine TL.q rfl (.g rfl rfl (bn_f c89)) (Ex.ft ft_cursitorlaw11_ok rfl) rfl ?_
                    refine TL.no rfl (.gn rfl rfl rfl) rfl ?_
                    refine TL.no rfl (.gn rfl rfl rfl) rfl ?_
                    refine TL.q rfl (.g rfl rfl (bn_f c89)) (Ex.pn rfl rfl rfl) rfl ?_
                    refine TL.q rfl .u (Ex.pn rfl (bn_f c89) rfl) rfl ?_
                    cases h
                    exact TL.nil (X.jq [0, 0, 0, 0, 0, 0, 0, 0, 0] ⟨rfl, rfl⟩ (by rfl) (by rfl))
                  · replace h := ifF c90 h
                    refine TL.q rfl (.g rfl rfl (bn_t (decide_eq_false c90))) (Ex.ft ft_cursitorlaw11_ok rfl) rfl ?_
                    refine TL.q rfl (.g rfl rfl (bn_t (decide_eq_false c90))) (Ex.ft ft_cursitorlaw11_ok rfl) rfl ?_
                    refine TL.q rfl (.g rfl rfl (bn_f c89)) (Ex.py rfl (bn_t (decide_eq_false c90)) rfl) rfl ?_
                    refine TL.q rfl (.g rfl rfl (bn_f c89)) (Ex.ft ft_cursitorlaw11_ok rfl) rfl ?_
                    by_cases c91 : x65 = 5
                    · replace h := ifT c91 h
                      refine TL.no rfl (.gn rfl rfl (bn_f (decide_eq_true c91))) rfl ?_
                      refine TL.no rfl (.gn rfl rfl (bn_f (decide_eq_true c91))) rfl ?_
                      refine TL.q rfl (.g rfl rfl (bn_f c89)) (Ex.pn rfl (bn_f (decide_eq_true c91)) rfl) rfl ?_
                      refine TL.q rfl .u (Ex.pn rfl (bn_f c89) rfl) rfl ?_
                      cases h
                      exact TL.nil (X.jq [0, 0, 0, 0, 0, 0, 0, 0, 0] ⟨rfl, rfl⟩ (by rfl) (by rfl))
                    · replace h := ifF c91 h
                      refine TL.q rfl (.g rfl rfl (bn_t (decide_eq_false c91))) (Ex.ft ft_cursitorlaw11_ok rfl) rfl ?_
                      refine TL.q rfl (.g rfl rfl (bn_t (decide_eq_false c91))) (Ex.ft ft_cursitorlaw11_ok rfl) rfl ?_
                      refine TL.q rfl (.g rfl rfl (bn_f c89)) (Ex.py rfl (bn_t (decide_eq_false c91)) rfl) rfl ?_
                      refine TL.q rfl .u (Ex.pn rfl (bn_f c89) rfl) rfl ?_
                      by_cases c92 : x65 = 10
                      · replace h := ifT c92 h
                        cases h
                        exact TL.nil (X.as (d := 119) (v' := .bool false) rfl (congrArg Value.bool (bn_f (decide_eq_true c92))) (X.jq [0, 0, 0, 0, 0, 0, 0, 0, 0] ⟨rfl, rfl⟩ (by rfl) (by rfl)))
                      · replace h := ifF c92 h
                        cases h
                        exact TL.nil (X.as (d := 119) (v' := .bool true) rfl (congrArg Value.bool (bn_t (decide_eq_false c92))) (X.jq [0, 0, 0, 0, 0, 0, 0, 0, 0] ⟨rfl, rfl⟩ (by rfl) (by rfl)))
                · replace h := ifF c89 h
                  replace c89 := eq_false_of_ne_true c89
                  refine TL.run ft_cursitorlaw11_ok [7] rfl rfl ?_
                  refine TL.no rfl (.gn rfl rfl (bn_t c89)) rfl ?_
                  refine TL.no rfl (.gn rfl rfl (bn_t c89)) rfl ?_
                  refine TL.no rfl (.gn rfl rfl (bn_t c89)) rfl ?_
                  refine TL.no rfl (.gn rfl rfl (bn_t c89)) rfl ?_
                  refine TL.no rfl (.gn rfl rfl (bn_t c89)) rfl ?_
                  refine TL.no rfl (.gu rfl rfl) rfl ?_
                  refine TL.no rfl (.gu rfl rfl) rfl ?_
                  refine TL.no rfl (.gn rfl rfl (bn_t c89)) rfl ?_
                  refine TL.no rfl (.gn rfl rfl (bn_t c89)) rfl ?_
                  refine TL.no rfl (.gu rfl rfl) rfl ?_
                  refine TL.no rfl (.gu rfl rfl) rfl ?_
                  refine TL.no rfl (.gn rfl rfl (bn_t c89)) rfl ?_
                  refine TL.q rfl .u (Ex.py rfl (bn_t c89) rfl) rfl ?_
                  cases h
                  exact TL.nil (X.jq [0, 0, 0, 0, 0, 0, 0, 0, 0] ⟨rfl, rfl⟩ (by rfl) (by rfl))
              · rintro _ _ ⟨rfl, rfl⟩
                clear h
                have h := hk88
                clear hk88
                try dsimp only at h
                by_cases c93 : y87 = true
                · replace h := ifT c93 h
                  refine X.seq ?_
                  refine T.yes rfl c93 ?_
                  exact nomatch h
                · replace h := ifF c93 h
                  replace c93 := eq_false_of_ne_true c93
                  refine X.seq ?_
                  refine T.no rfl c93 ?_
                  refine T.skip (X.seq (T.seq ?_))
                  obtain ⟨y95, h, hk96⟩ := Option.bind_eq_some_iff.1 h
                  refine T.jq (fun e Rs => e = [(6, .bool y95)] ∧ Rs = [BlkR b83 25 #[.int .i64 x78.fBase, .int .i64 x78.fLeader, .bool x78.fAppend, .bool x78.fTxn, .bool x78.fControl, .int .i64 x78.fLast, .int .i64 x78.fFirst, .int .i64 x78.fMax, .int .i64 x78.fProducer, .int .i64 x78.fEpoch, .int .i64 x78.fSequence, .slice A79 x78.fRecords.length c80], RdR (sliceRd 7 Rec_rd) [.slice A79 x78.fRecords.length c80] x78.fRecords, BlkR b76 25 #[.int .i64 x71.fBase, .int .i64 x71.fLeader, .bool x71.fAppend, .bool x71.fTxn, .bool x71.fControl, .int .i64 x71.fLast, .int .i64 x71.fFirst, .int .i64 x71.fMax, .int .i64 x71.fProducer, .int .i64 x71.fEpoch, .int .i64 x71.fSequence, .slice A72 x71.fRecords.length c73], RdR (sliceRd 7 Rec_rd) [.slice A72 x71.fRecords.length c73] x71.fRecords, BlkR b67 25 #[.int .i64 x62.fBase, .int .i64 x62.fLeader, .bool x62.fAppend, .bool x62.fTxn, .bool x62.fControl, .int .i64 x62.fLast, .int .i64 x62.fFirst, .int .i64 x62.fMax, .int .i64 x62.fProducer, .int .i64 x62.fEpoch, .int .i64 x62.fSequence, .slice A63 x62.fRecords.length c64], RdR (sliceRd 7 Rec_rd) [.slice A63 x62.fRecords.length c64] x62.fRecords, BsR 5 b25 c26 y31, BlkR b3 25 #[.int .i64 a0.fBase, .int .i64 a0.fLeader, .bool a0.fAppend, .bool a0.fTxn, .bool a0.fControl, .int .i64 a0.fLast, .int .i64 a0.fFirst, .int .i64 a0.fMax, .int .i64 a0.fProducer, .int .i64 a0.fEpoch, .int .i64 a0.fSequence, .slice A1 a0.fRecords.length c2], EmpR]) ?_ ?_
                  · clear hk96
                    refine T.region rfl ?_
                    by_cases c97 : x74 = 1
                    · replace h := ifT c97 h
                      refine TL.run ft_cursitorlaw11_ok [0, 1, 2] rfl rfl ?_
                      refine TL.q rfl (.g rfl rfl (decide_eq_true c97)) (Ex.ft ft_cursitorlaw11_ok rfl) rfl ?_
                      refine TL.q rfl (.g rfl rfl (decide_eq_true c97)) (Ex.ft ft_cursitorlaw11_ok rfl) rfl ?_
                      refine TL.q rfl .u (Ex.py rfl (decide_eq_true c97) rfl) rfl ?_
                      refine TL.run ft_cursitorlaw11_ok [6] rfl rfl ?_
                      by_cases c98 : x81 = 2
                      · replace h := ifT c98 h
                        cases h
                        exact TL.nil (X.as (d := 6) (v' := .bool true) rfl (congrArg Value.bool (decide_eq_true c98)) (X.jq [0, 0, 0, 0, 0, 0, 0, 0, 0] ⟨rfl, rfl⟩ (by rfl) (by rfl)))
                      · replace h := ifF c98 h
                        cases h
                        exact TL.nil (X.as (d := 6) (v' := .bool false) rfl (congrArg Value.bool (decide_eq_false c98)) (X.jq [0, 0, 0, 0, 0, 0, 0, 0, 0] ⟨rfl, rfl⟩ (by rfl) (by rfl)))
                    · replace h := ifF c97 h
                      refine TL.run ft_cursitorlaw11_ok [0, 1, 2] rfl rfl ?_
                      refine TL.no rfl (.gn rfl rfl (decide_eq_false c97)) rfl ?_
                      refine TL.no rfl (.gn rfl rfl (decide_eq_false c97)) rfl ?_
                      refine TL.q rfl .u (Ex.pn rfl (decide_eq_false c97) rfl) rfl ?_
                      refine TL.run ft_cursitorlaw11_ok [6] rfl rfl ?_
                      cases h
                      exact TL.nil (X.jq [0, 0, 0, 0, 0, 0, 0, 0, 0] ⟨rfl, rfl⟩ (by rfl) (by rfl))
                  · rintro _ _ ⟨rfl, rfl⟩
                    clear h
                    have h := hk96
                    clear hk96
                    try dsimp only at h
                    obtain rfl := Option.some.inj h
                    exact X.seq (T.ret (X.done1 [8] Try.results4 (RV.tm rfl) ⟨rfl, rfl, rfl⟩ (by rfl) (.inl rfl)))
        · replace h := ifF c24 h
          refine TL.nil (X.seq ?_)
          refine T.yes rfl (bn_t (decide_eq_false c24)) ?_
          exact nomatch h
  · replace h := ifF c6 h
    replace c6 := eq_false_of_ne_true c6
    refine TL.nil (X.seq ?_)
    refine T.yes rfl (bn_t c6) ?_
    exact nomatch h
end Go.Proofs.Ytcoppaggpbfcmaa.Sl
namespace Go.Proofs.Ytcoppaggpbfcmaa.Sl
open Go.RowKit
set_option linter.unusedVariables false
set_option linter.unusedSimpArgs false
theorem small_l2 (y : Int) : ∀ l : List Hd, (∀ h, h ∈ l → wf_Hd h) → (f_l11_Small_l2 l y = some (.ret 0)) ∨ (f_l11_Small_l2 l y = some (.go y) ∧ ∀ h, h ∈ l → h.fKey.length + h.fValue.data.length ≤ 100)
  | [], h => .inr ⟨rfl, fun x h => nomatch h⟩
  | x :: l, h => by
    have hx := h x (.head _)
    have h1 : x.fKey.length ≤ 140737488351232 := hx.1
    have h2 : x.fValue.data.length ≤ 140737488351232 := hx.2.2
    rw [f_l11_Small_l2, if_pos (by omega)]
    by_cases hc : (x.fKey.length : Int) + (x.fValue.data.length : Int) > 100
    · rw [if_pos hc]
      exact .inl rfl
    · rw [if_neg hc]
      rcases small_l2 y l (fun z hz => h z (.tail _ hz)) with g | ⟨g, g2⟩
      · exact .inl g
      · refine .inr ⟨g, fun z hz => ?_⟩
        rcases List.mem_cons.1 hz with rfl | hz
        · omega
        · exact g2 z hz
theorem small_l1 (y : Int) : ∀ l : List Rec, (∀ r, r ∈ l → wf_Rec r) → (f_l11_Small_l1 l y = some (.ret 0)) ∨ (f_l11_Small_l1 l y = some (.go y) ∧ ∀ r, r ∈ l → r.fKey.data.length + r.fValue.data.length ≤ 100 ∧ r.fHeaders.length ≤ 6 ∧ ∀ h, h ∈ r.fHeaders → h.fKey.length + h.fValue.data.length ≤ 100)
  | [], h => .inr ⟨rfl, fun x h => nomatch h⟩
  | x :: l, h => by
    obtain ⟨h1, h2, h3, h4, h5⟩ := h x (.head _)
    have h6 : x.fKey.data.length ≤ 140737488351232 := h3.2
    have h7 : x.fValue.data.length ≤ 140737488351232 := h4.2
    rw [f_l11_Small_l1, if_pos (by omega)]
    by_cases hc : (x.fKey.data.length : Int) + (x.fValue.data.length : Int) > 100
    · rw [if_pos hc]
      exact .inl rfl
    rw [if_neg hc]
    by_cases hd : (x.fHeaders.length : Int) > 6
    · rw [if_pos hd]
      exact .inl rfl
    rw [if_neg hd]
    rcases small_l2 y x.fHeaders h5.2 with g | ⟨g, g2⟩
    · rw [g]
      exact .inl rfl
    · rw [g, Option.bind_some]
      simp only
      rcases small_l1 y l (fun z hz => h z (.tail _ hz)) with k | ⟨k, k2⟩
      · exact .inl k
      · refine .inr ⟨k, fun z hz => ?_⟩
        rcases List.mem_cons.1 hz with rfl | hz
        · exact ⟨by omega, by omega, g2⟩
        · exact k2 z hz
theorem small11 (a : Bat) (hw : wf_Bat a) : f_l11_Small a = some 0 ∨ (f_l11_Small a = some 1 ∧ a.fRecords.length ≤ 12 ∧ ∀ r, r ∈ a.fRecords → r.fKey.data.length + r.fValue.data.length ≤ 100 ∧ r.fHeaders.length ≤ 6 ∧ ∀ h, h ∈ r.fHeaders → h.fKey.length + h.fValue.data.length ≤ 100) := by
  unfold f_l11_Small
  by_cases hc : (a.fRecords.length : Int) > 12
  · rw [if_pos hc]
    exact .inl rfl
  rw [if_neg hc]
  rcases small_l1 0 a.fRecords hw.2.2.2.2.2.2.2.2.2.2.2.2 with g | ⟨g, g2⟩
  · rw [g]
    exact .inl rfl
  · rw [g]
    exact .inr ⟨rfl, by omega, g2⟩
end Go.Proofs.Ytcoppaggpbfcmaa.Sl
namespace Go.Proofs.Ytcoppaggpbfcmaa.Sl
open Go.RowKit
set_option linter.unusedVariables false
set_option linter.unusedSimpArgs false
theorem speaks11 : f_l11_speaks = some true := by kernel_rfl
theorem bnB_small {a : Bat} (hw : wf_Bat a) (h1 : a.fRecords.length ≤ 12) (h2 : ∀ r, r ∈ a.fRecords → r.fKey.data.length + r.fValue.data.length ≤ 100 ∧ r.fHeaders.length ≤ 6 ∧ ∀ h, h ∈ r.fHeaders → h.fKey.length + h.fValue.data.length ≤ 100) : bnB a :=
  ⟨hw, by omega, fun r hr => by have := h2 r hr; exact ⟨by omega, by omega, by omega⟩⟩
theorem hwts_le : ∀ (l : List Hd), (∀ h, h ∈ l → h.fKey.length + h.fValue.data.length ≤ 100) → hwts l ≤ 120 * l.length
  | [], _ => Nat.zero_le _
  | x :: l, h => by
    have h1 := h x (.head _)
    have h2 := hwts_le l (fun y hy => h y (.tail _ hy))
    rw [hwts, hwt, List.length_cons]
    omega
theorem encs_le {α : Type} (enc : α → List UInt8) (n : Nat) : ∀ (l : List α), (∀ x, x ∈ l → (enc x).length ≤ n) → (encs enc l).length ≤ n * l.length
  | [], _ => Nat.zero_le _
  | x :: l, h => by
    have h1 := h x (.head _)
    have h2 := encs_le enc n l (fun y hy => h y (.tail _ hy))
    rw [encs, List.length_append, List.length_cons, Nat.mul_succ]
    omega
theorem smB_small {a : Bat} (hw : wf_Bat a) (h1 : a.fRecords.length ≤ 12) (h2 : ∀ r, r ∈ a.fRecords → r.fKey.data.length + r.fValue.data.length ≤ 100 ∧ r.fHeaders.length ≤ 6 ∧ ∀ h, h ∈ r.fHeaders → h.fKey.length + h.fValue.data.length ≤ 100) : smB a ∧ (body a).length ≤ 12000 := by
  have hr : ∀ r, r ∈ a.fRecords → rwt r ≤ 900 := fun r hr => by
    obtain ⟨k1, k2, k3⟩ := h2 r hr
    have := hwts_le r.fHeaders k3
    unfold rwt
    omega
  have hl : (body a).length ≤ 12000 := by
    have h3 := encs_le encRec 1000 a.fRecords (fun x hx => by
      have h4 := hw.2.2.2.2.2.2.2.2.2.2.2.2 x hx
      have h5 := hr x hx
      have := encRec_len x h4.1 h4.2.1 (by omega)
      omega)
    unfold body
    omega
  exact ⟨⟨bnB_small hw h1 h2, fun r hr2 => by have := hr r hr2; omega, by omega⟩, hl⟩
theorem decode_enc {a : Bat} (ha : okB a) (hl : (encB a).length ≤ 1000000) : f_batch_Decode (encB a) = some (a, 0) := by
  unfold f_batch_Decode
  rw [gNew_eq _ (by omega), Option.bind_some, B_bat.whole Sp_bat hl ha, Option.bind_some]
  dsimp only
  rw [gClose_z, Option.bind_some]
  rfl
end Go.Proofs.Ytcoppaggpbfcmaa.Sl
namespace Go.Proofs.Ytcoppaggpbfcmaa.Sl
open Go.RowKit
set_option linter.unusedVariables false
set_option linter.unusedSimpArgs false
theorem decode_run (s : List UInt8) (hs : s.length ≤ 1000000) : (∃ e, e ≠ 0 ∧ f_batch_Decode s = some (zBat, e) ∧ (pBat s 0 = .error e ∨ ∃ b r, pBat s 0 = .ok (b, r) ∧ r < s.length ∧ e = 2)) ∨ (∃ b, pBat s 0 = .ok (b, s.length) ∧ f_batch_Decode s = some (b, 0)) := by
  unfold f_batch_Decode
  rw [gNew_eq _ (by omega), Option.bind_some]
  rcases B_bat.run s 0 hs (Nat.zero_le _) with ⟨e, st, p1, g1, x1, y1⟩ | ⟨b, r, p1, g1, n1, l1⟩
  · rw [List.drop_zero] at g1
    rw [g1, Option.bind_some]
    dsimp only
    rw [c_gClose_d y1, Option.bind_some]
    dsimp only
    rw [if_neg y1, x1]
    exact .inl ⟨e, by rw [← x1]; exact y1, rfl, .inl p1⟩
  · rw [List.drop_zero] at g1
    rw [g1, Option.bind_some]
    dsimp only
    by_cases hr : r = s.length
    · subst hr
      rw [List.drop_length, gClose_z, Option.bind_some]
      exact .inr ⟨b, p1, rfl⟩
    · have hne : s.drop r ≠ [] := fun h => by have := List.drop_eq_nil_iff.1 h; omega
      have e2 : iclose ⟨s.drop r, r, 0⟩ = ⟨s.drop r, r, 2⟩ := by unfold iclose; rw [if_neg hne]; rfl
      rw [gClose_eq, e2, Option.bind_some]
      exact .inl ⟨2, by decide, rfl, .inr ⟨b, r, p1, by omega, rfl⟩⟩
end Go.Proofs.Ytcoppaggpbfcmaa.Sl
namespace Go.Proofs.Ytcoppaggpbfcmaa.Sl
open Go.RowKit
set_option linter.unusedVariables false
set_option linter.unusedSimpArgs false
def vI (s : List UInt8) (q k : Nat) : Int := beInt ((s.drop q).take k)
def vals (s : List UInt8) : List Nat → Nat → List Int
  | [], _ => []
  | k :: ks, q => vI s q k :: vals s ks (q + k)
theorem pInts_at (s : List UInt8) : ∀ (ks : List Nat) (q : Nat), q + ks.sum ≤ s.length → pInts ks s q = .ok (vals s ks q, q + ks.sum)
  | [], q, _ => rfl
  | k :: ks, q, h => by
    rw [List.sum_cons] at h
    have h1 : pInt k s q = .ok (vI s q k, q + k) := by unfold pInt; rw [if_neg (by omega)]; rfl
    rw [pInts, Pr.bind_of h1, Pr.bind_of (pInts_at s ks (q + k) (by omega)), List.sum_cons, ← Nat.add_assoc]
    rfl
theorem pInts_short (s : List UInt8) : ∀ (ks : List Nat) (q : Nat), q ≤ s.length → s.length < q + ks.sum → pInts ks s q = .error 1
  | [], q, h1, h2 => by rw [List.sum_nil] at h2; omega
  | k :: ks, q, h1, h2 => by
    rw [List.sum_cons] at h2
    rw [pInts]
    by_cases h : s.length < q + k
    · exact Pr.bind_err (by unfold pInt; rw [if_pos h])
    · have h3 : pInt k s q = .ok (vI s q k, q + k) := by unfold pInt; rw [if_neg h]; rfl
      rw [Pr.bind_of h3, Pr.bind_err (pInts_short s ks (q + k) (by omega) (by omega))]
def pOf (s : List UInt8) : Pfx := ⟨vI s 0 8, vI s 8 4, vI s 12 4, vI s 17 4 % 4294967296, vI s 21 2, vI s 23 4, vI s 27 8, vI s 35 8, vI s 43 8, vI s 51 2, vI s 53 4, vI s 57 4⟩
def eOf (s : List UInt8) : Int := ckE (vI s 8 4) (vI s 16 1) (vI s 57 4)
theorem pPfx_at (s : List UInt8) (h : 61 ≤ s.length) : pPfx s 0 = if eOf s = 0 then .ok (pOf s, 61) else .error (eOf s) := by
  rw [pPfx, Pr.bind_of (pInts_at s KS 0 (by show 0 + 61 ≤ _; omega))]
  show (if eOf s = 0 then Pr.ret (pOf s) else Pr.err (eOf s)) s 61 = _
  by_cases he : eOf s = 0
  · rw [if_pos he, if_pos he]; rfl
  · rw [if_neg he, if_neg he]; rfl
end Go.Proofs.Ytcoppaggpbfcmaa.Sl
namespace Go.Proofs.Ytcoppaggpbfcmaa.Sl
open Go.RowKit
set_option linter.unusedVariables false
set_option linter.unusedSimpArgs false
theorem toBs_bsI (l : List UInt8) : toBs (bsI l) = l := by
  unfold toBs bsI
  rw [List.map_map]
  conv => rhs; rw [← List.map_id l]
  apply List.map_congr_left
  intro c _
  simp
theorem bsI_set (l : List UInt8) (k : Nat) (c : UInt8) : (bsI l).set k (c.toNat : Int) = bsI (l.set k c) := by
  unfold bsI
  rw [List.map_set]
theorem bsI_get {l : List UInt8} {k : Nat} (h : k < l.length) : (bsI l)[k]? = some (l[k].toNat : Int) := by
  unfold bsI
  rw [List.getElem?_map, List.getElem?_eq_getElem h]
  rfl
theorem pow_xor (k a b : Nat) : 2 ^ k * (a ^^^ b) = 2 ^ k * a ^^^ 2 ^ k * b := by
  apply Nat.eq_of_testBit_eq
  intro i
  simp only [Nat.testBit_xor, Nat.testBit_two_pow_mul]
  by_cases h : i ≥ k <;> simp [h]
theorem leN_cons (c : UInt8) (l : List UInt8) : leN (c :: l) = c.toNat ^^^ 2 ^ 8 * leN l := nat_add_xor c.toNat_lt _
theorem leN_set : ∀ (l : List UInt8) (k : Nat) (c : UInt8) (b : Nat), l[k]? = some c → b < 256 → leN (l.set k (UInt8.ofNat (c.toNat ^^^ b))) = leN l ^^^ 2 ^ (8 * k) * b
  | [], k, c, b, h, _ => by simp at h
  | a :: l, 0, c, b, h, hb => by
    obtain rfl : a = c := by simpa using h
    have hx : a.toNat ^^^ b < 256 := Nat.xor_lt_two_pow (n := 8) a.toNat_lt hb
    have e : (UInt8.ofNat (a.toNat ^^^ b)).toNat = a.toNat ^^^ b := by rw [UInt8.toNat_ofNat', Nat.mod_eq_of_lt hx]
    rw [List.set_cons_zero, leN_cons, leN_cons, e, Nat.mul_zero, Nat.pow_zero, Nat.one_mul]
    ac_rfl
  | a :: l, k + 1, c, b, h, hb => by
    rw [List.set_cons_succ, leN_cons, leN_cons, leN_set l k c b (by simpa using h) hb, pow_xor, show 2 ^ 8 * (2 ^ (8 * k) * b) = 2 ^ (8 * (k + 1)) * b by rw [← Nat.mul_assoc, ← Nat.pow_add, show 8 + 8 * k = 8 * (k + 1) by omega]]
    ac_rfl
theorem leN_inj : ∀ {l m : List UInt8}, l.length = m.length → leN l = leN m → l = m
  | [], [], _, _ => rfl
  | a :: l, b :: m, h, e => by
    have e' : a.toNat + 256 * leN l = b.toNat + 256 * leN m := e
    have ha := a.toNat_lt
    have hb := b.toNat_lt
    have h1 : a.toNat = b.toNat := by omega
    have h2 : leN l = leN m := by omega
    rw [UInt8.toNat_inj.1 h1, leN_inj (by simpa using h) h2]
  | [], _ :: _, h, _ => nomatch h
  | _ :: _, [], h, _ => nomatch h
theorem burst_iff {s t : List UInt8} (hl : s.length = t.length) {d k : Nat} (hd : d < 2 ^ 32) (hk : k ≤ 8 * s.length) (h : leN t = leN s ^^^ 2 ^ k * d) : (crcM 0 s = crcM 0 t ↔ d = 0) ∧ (s = t ↔ d = 0) := by
  have h0 : leN s ^^^ leN t = 2 ^ k * d := by rw [h, ← Nat.xor_assoc, Nat.xor_self, Nat.zero_xor]
  have hst : d = 0 → s = t := fun e => leN_inj hl (by rw [h, e, Nat.mul_zero, Nat.xor_zero])
  refine ⟨⟨fun he => crcM_burst hl hd hk h0 he, fun e => by rw [hst e]⟩, ⟨fun e => ?_, hst⟩⟩
  subst e
  rw [Nat.xor_self] at h0
  rcases Nat.mul_eq_zero.1 h0.symm with q | q
  · exact absurd q (Nat.ne_of_gt (Nat.pow_pos (by decide)))
  · exact q
theorem shl1 (j : Nat) (hj : j < 8) : shlK .u8 1 (j : Int) = ((2 ^ j : Nat) : Int) := by
  have : j = 0 ∨ j = 1 ∨ j = 2 ∨ j = 3 ∨ j = 4 ∨ j = 5 ∨ j = 6 ∨ j = 7 := by omega
  rcases this with rfl | rfl | rfl | rfl | rfl | rfl | rfl | rfl <;> decide
end Go.Proofs.Ytcoppaggpbfcmaa.Sl
namespace Go.Proofs.Ytcoppaggpbfcmaa.Sl
open Go.RowKit
set_option linter.unusedVariables false
set_option linter.unusedSimpArgs false
theorem bh_l1 (pre u : List UInt8) (h21 : pre.length = 21) (a1 : Int) (M f : Nat) (hs : u.length ≤ 2000000) (hf : a1 % (8 * (((bsI (pre ++ u)).length : Int) - 21)) = (f : Int)) (hfl : f < 8 * u.length) (hM : M < 4294967296) : ∀ (m k : Nat) (t : List UInt8) (D : Nat), k ≤ 32 → 32 - k < m → t.length = u.length → D < 2 ^ k → leN t = leN u ^^^ 2 ^ f * D →
    ∃ (t' : List UInt8) (D' : Nat), f_l11_BatchHarms_l1 a1 (M : Int) (pre ++ u) m (bsI (pre ++ t)) k = some (bsI (pre ++ t'), 32) ∧ t'.length = u.length ∧ D' < 2 ^ 32 ∧ leN t' = leN u ^^^ 2 ^ f * D'
  | 0, _, _, _, _, h, _, _, _ => by omega
  | m + 1, k, t, D, hk, hm, ht, hD, hle => by
    have hN : ((bsI (pre ++ u)).length : Int) - 21 = (u.length : Int) := by rw [bsI_length, List.length_append]; omega
    rw [f_l11_BatchHarms_l1, hf, hN]
    by_cases h : k < 32
    · rw [if_pos (show (k : Int) < 32 by omega), if_pos (show -9223372036854775808 ≤ (f : Int) + (k : Int) ∧ (f : Int) + (k : Int) ≤ 9223372036854775807 by omega)]
      have keep : ∃ (t' : List UInt8) (D' : Nat), f_l11_BatchHarms_l1 a1 (M : Int) (pre ++ u) m (bsI (pre ++ t)) (k + 1) = some (bsI (pre ++ t'), 32) ∧ t'.length = u.length ∧ D' < 2 ^ 32 ∧ leN t' = leN u ^^^ 2 ^ f * D' :=
        bh_l1 pre u h21 a1 M f hs hf hfl hM m (k + 1) t D (by omega) (by omega) ht (Nat.lt_of_lt_of_le hD (Nat.pow_le_pow_right (by decide) (by omega))) hle
      have e1 : shrK .u32 (M : Int) (k : Int) = ((M / 2 ^ k : Nat) : Int) := by
        show Int.fdiv (M : Int) (2 ^ min (k : Int).toNat 32) = _
        rw [Int.toNat_natCast, Nat.min_eq_left (by omega), Int.fdiv_eq_ediv_of_nonneg _ (Int.le_of_lt (Int.pow_pos (by decide))), show ((2 : Int) ^ k) = ((2 ^ k : Nat) : Int) by rw [Int.natCast_pow]; rfl, ← Int.natCast_ediv]
      have e2 : M / 2 ^ k < 4294967296 := Nat.lt_of_le_of_lt (Nat.div_le_self _ _) hM
      rw [if_pos (show (0 : Int) ≤ (k : Int) by omega), e1, and1_u32 _ e2]
      by_cases c1 : (((M / 2 ^ k % 2 : Nat) : Int) = 1)
      · rw [if_pos c1]
        by_cases c2 : (f : Int) + (k : Int) < 8 * (u.length : Int)
        · have hp : (f + k) / 8 < t.length := by omega
          have hj : (f + k) % 8 < 8 := by omega
          have hp2 : 21 + (f + k) / 8 < (pre ++ t).length := by rw [List.length_append]; omega
          have hget : (pre ++ t)[21 + (f + k) / 8] = t[(f + k) / 8] := by
            rw [List.getElem_append_right (by omega)]
            congr 1
            omega
          have g1 := bsI_get hp2
          rw [hget] at g1
          have hb : 2 ^ ((f + k) % 8) < 256 := Nat.lt_of_lt_of_le (Nat.pow_lt_pow_right (by decide) hj) (by decide)
          have hx : t[(f + k) / 8].toNat ^^^ 2 ^ ((f + k) % 8) < 256 := Nat.xor_lt_two_pow (n := 8) t[(f + k) / 8].toNat_lt hb
          have e3 : Go.bits .xor .u8 (t[(f + k) / 8].toNat : Int) (shlK .u8 1 (((f : Int) + (k : Int)) % 8)) = ((UInt8.ofNat (t[(f + k) / 8].toNat ^^^ 2 ^ ((f + k) % 8))).toNat : Int) := by
            rw [show ((f : Int) + (k : Int)) % 8 = (((f + k) % 8 : Nat) : Int) by omega, shl1 _ hj, xor_u8 _ _ t[(f + k) / 8].toNat_lt hb, UInt8.toNat_ofNat', Nat.mod_eq_of_lt hx]
          have R1 : 0 ≤ (f : Int) + (k : Int) ∧ (f : Int) + (k : Int) ≤ 9223372036854775807 := by omega
          have R2 : -9223372036854775808 ≤ 21 + ((f : Int) + (k : Int)) / 8 ∧ 21 + ((f : Int) + (k : Int)) / 8 ≤ 9223372036854775807 := by omega
          have R3 : 0 ≤ 21 + ((f : Int) + (k : Int)) / 8 := by omega
          have R4 : 0 ≤ ((f : Int) + (k : Int)) % 8 := by omega
          have R5 : -9223372036854775808 ≤ (k : Int) + 1 ∧ (k : Int) + 1 ≤ 9223372036854775807 := by omega
          rw [if_pos c2, Option.bind_some, if_pos rfl, if_pos R1, if_pos R2, if_pos R3, show (21 + ((f : Int) + (k : Int)) / 8).toNat = 21 + (f + k) / 8 by omega, g1, Option.bind_some, if_pos R1, if_pos R4, if_pos R3, if_pos R5, e3, bsI_set, List.set_append_right _ _ (by omega), show 21 + (f + k) / 8 - pre.length = (f + k) / 8 by omega]
          refine bh_l1 pre u h21 a1 M f hs hf hfl hM m (k + 1) _ (D ^^^ 2 ^ k) (by omega) (by omega) (by rw [List.length_set]; exact ht) (Nat.xor_lt_two_pow (Nat.lt_of_lt_of_le hD (Nat.pow_le_pow_right (by decide) (by omega))) (Nat.pow_lt_pow_right (by decide) (by omega))) ?_
          rw [leN_set t _ _ _ (List.getElem?_eq_getElem hp) hb, hle, pow_xor, ← Nat.pow_add, ← Nat.pow_add, show 8 * ((f + k) / 8) + (f + k) % 8 = f + k by omega, Nat.xor_assoc]
        · rw [if_neg c2, Option.bind_some, if_neg (by decide), if_pos (by omega)]
          exact keep
      · rw [if_neg c1, Option.bind_some, if_neg (by decide), if_pos (by omega)]
        exact keep
    · have : k = 32 := by omega
      subst this
      rw [if_neg (by decide)]
      exact ⟨t, D, rfl, ht, hD, hle⟩
theorem vI_pre (pre u : List UInt8) (q k : Nat) (h : q + k ≤ pre.length) : vI (pre ++ u) q k = vI pre q k := by
  unfold vI
  rw [List.drop_append_of_le_length (by omega), List.take_append_of_le_length (by rw [List.length_drop]; omega)]
theorem pOf_enc {p : Pfx} (hp : okP p) (b : List UInt8) : eOf (encP p ++ b) = 0 ∧ pOf (encP p ++ b) = p := by
  have h1 := Sp_pfx.back (encP p ++ b) b 0 p (Nat.zero_le _) hp (by rw [List.drop_zero])
  have h2 := pPfx_at (encP p ++ b) (by rw [List.length_append, encP_len hp.1]; omega)
  rw [h1] at h2
  by_cases he : eOf (encP p ++ b) = 0
  · rw [if_pos he] at h2
    injection h2 with h2
    exact ⟨he, (Prod.mk.inj h2).1.symm⟩
  · rw [if_neg he] at h2
    exact nomatch h2
theorem harm {a : Bat} (ho : okB a) {pre u t : List UInt8} (h21 : pre.length = 21) (hs : encB a = pre ++ u) (ht : t.length = u.length) (hc : crcM 0 t ≠ crcM 0 u) : pBat (pre ++ t) 0 = .error 5 ∨ pBat (pre ++ t) 0 = .error 10 := by
  have hl := encB_len ho
  have hu : u.length = 40 + (body a).length := by
    rw [hs, List.length_append] at hl
    omega
  obtain ⟨e1, e2⟩ := pOf_enc ho.1 (body a)
  have e0 : encP (pB a (sumB a)) ++ body a = pre ++ u := hs
  rw [e0] at e1 e2
  have q1 : vI (pre ++ u) 8 4 = 49 + ((body a).length : Int) := congrArg Pfx.fLength e2
  have q2 : vI (pre ++ u) 17 4 % 4294967296 = ((sumB a : Nat) : Int) := congrArg Pfx.fSum e2
  have q3 : vI (pre ++ u) 16 1 = 2 := by
    unfold eOf at e1
    exact (ckE_zero e1).1
  rw [vI_pre _ _ _ _ (by omega)] at q1 q2 q3
  have hpos : 61 ≤ (pre ++ t).length := by rw [List.length_append]; omega
  have h1 := pPfx_at (pre ++ t) hpos
  unfold pBat
  by_cases he : eOf (pre ++ t) = 0
  · rw [if_pos he] at h1
    rw [h1]
    dsimp only
    have f1 : (pOf (pre ++ t)).fLength = 49 + ((body a).length : Int) := by
      show vI (pre ++ t) 8 4 = _
      rw [vI_pre _ _ _ _ (by omega), q1]
    have f2 : (pOf (pre ++ t)).fSum = ((sumB a : Nat) : Int) := by
      show vI (pre ++ t) 17 4 % 4294967296 = _
      rw [vI_pre _ _ _ _ (by omega), q2]
    obtain ⟨_, _, _, s4, s5⟩ := Sp_pfx.spell _ 0 _ _ (Nat.zero_le _) h1
    rw [List.take_zero, List.nil_append] at s4
    have f3 : post21 (pOf (pre ++ t)) ++ (pre ++ t).drop 61 = t := by
      rw [← encP_drop, ← s4, List.drop_take, List.drop_append_of_le_length (by omega), List.drop_of_length_le (l := pre) (by omega), List.nil_append, show (pre ++ t).drop 61 = t.drop 40 by rw [List.drop_append, List.drop_of_length_le (by omega), h21, List.nil_append], List.take_append_drop]
    have f4 : post21 (pB a (sumB a)) ++ body a = u := by
      have := congrArg (List.drop 21) e0
      rw [List.drop_append_of_le_length (by rw [encP_len ho.1.1]; decide), encP_drop, List.drop_append_of_le_length (by omega), List.drop_of_length_le (l := pre) (by omega), List.nil_append] at this
      exact this
    rw [f1, show ((49 : Int) + ((body a).length : Int) - 49).toNat = (body a).length by omega, if_neg (by rw [List.length_append]; omega), List.take_of_length_le (by rw [List.length_drop, List.length_append]; omega), f2]
    have f5 : sumP (pOf (pre ++ t)) ((pre ++ t).drop 61) = crcM 0 t := by unfold sumP; rw [f3]
    have f6 : sumB a = crcM 0 u := by
      show crcM 0 (post21 (pB a (sumB a)) ++ body a) = _
      rw [f4]
    rw [f5, f6, if_neg (fun h => hc (Int.ofNat_inj.1 h))]
    exact .inl rfl
  · rw [if_neg he] at h1
    rw [h1]
    right
    have e3 : eOf (pre ++ t) = 10 := by
      unfold eOf at he ⊢
      rw [vI_pre _ _ _ _ (by omega), vI_pre pre t 16 1 (by omega), q1, q3] at he ⊢
      unfold ckE at he ⊢
      rw [if_pos rfl, if_neg (by omega)] at he ⊢
      by_cases c : vI (pre ++ t) 57 4 < 0
      · rw [if_pos c]
      · rw [if_neg c] at he
        exact absurd rfl he
    rw [e3]
theorem cut_short {a : Bat} (ho : okB a) (k : Nat) (hk : k < (encB a).length) : pBat ((encB a).take k) 0 = .error 1 := by
  have hl := encB_len ho
  have hp61 := encP_len ho.1.1
  unfold pBat
  by_cases h : k < 61
  · have h1 : pPfx ((encB a).take k) 0 = .error 1 := Pr.bind_err (pInts_short _ KS 0 (Nat.zero_le _) (by show _ < 0 + 61; rw [List.length_take]; omega))
    rw [h1]
  · have e : (encB a).take k = encP (pB a (sumB a)) ++ (body a).take (k - 61) := by
      unfold encB
      rw [List.take_append, List.take_of_length_le (by omega), hp61]
    rw [e]
    have h1 := Sp_pfx.back (encP (pB a (sumB a)) ++ (body a).take (k - 61)) _ 0 _ (Nat.zero_le _) ho.1 (by rw [List.drop_zero])
    rw [h1]
    dsimp only
    rw [if_pos]
    show _ < 0 + _ + ((49 : Int) + ((body a).length : Int) - 49).toNat
    rw [List.length_append, List.length_take]
    omega
theorem decode_err {s : List UInt8} {e : Int} (hs : s.length ≤ 1000000) (h : pBat s 0 = .error e) : f_batch_Decode s = some (zBat, e) ∧ e ≠ 0 := by
  rcases decode_run s hs with ⟨e', e0, d1, d2⟩ | ⟨b, p1, _⟩
  · rcases d2 with d2 | ⟨b, r, d2, _⟩
    · rw [h] at d2
      injection d2 with d2
      subst d2
      exact ⟨d1, e0⟩
    · rw [h] at d2; exact nomatch d2
  · rw [h] at p1; exact nomatch p1
theorem pure_BatchHarms (a0 : Bat) (a1 : Int) (a2 : Int) (w0 : wf_Bat a0) (w1 : 0 ≤ a1 ∧ a1 ≤ 65535) (w2 : 0 ≤ a2 ∧ a2 ≤ 4294967295) : f_l11_BatchHarms a0 a1 a2 = some true := by
  obtain ⟨M, rfl⟩ : ∃ M : Nat, a2 = (M : Int) := ⟨a2.toNat, by omega⟩
  unfold f_l11_BatchHarms
  rw [speaks11, Option.bind_some, if_pos rfl]
  rcases small11 a0 w0 with h | ⟨h, h1, h2⟩
  · rw [h, Option.bind_some, if_pos rfl, Option.bind_some, if_pos rfl]
  obtain ⟨hb, hl⟩ := smB_small w0 h1 h2
  obtain ⟨c1, c2⟩ := chk_eq hb.1
  rw [h, Option.bind_some, if_neg (by decide), c2, Option.bind_some]
  by_cases h0 : chk a0 = 0
  rotate_left
  · rw [if_neg h0, Option.bind_some, if_pos rfl]
  rw [if_pos h0, Option.bind_some, if_neg (by decide), benc hb, if_pos h0, Option.bind_some]
  dsimp only
  rw [if_pos rfl]
  have ho := okB_of hb h0
  have he := encB_len ho
  have es : encB a0 = (encB a0).take 21 ++ (encB a0).drop 21 := (List.take_append_drop 21 _).symm
  have h21 : ((encB a0).take 21).length = 21 := by rw [List.length_take]; omega
  have hu : ((encB a0).drop 21).length = 40 + (body a0).length := by rw [List.length_drop]; omega
  have hB : ((bsI (encB a0)).length : Int) - 21 = ((40 + (body a0).length : Nat) : Int) := by rw [bsI_length]; omega
  have hr : 0 ≤ a1 % (8 * (((bsI (encB a0)).length : Int) - 21)) ∧ a1 % (8 * (((bsI (encB a0)).length : Int) - 21)) < 8 * (((bsI (encB a0)).length : Int) - 21) := ⟨Int.emod_nonneg _ (by omega), Int.emod_lt_of_pos _ (by omega)⟩
  obtain ⟨f, hf⟩ : ∃ f : Nat, a1 % (8 * (((bsI (encB a0)).length : Int) - 21)) = (f : Int) := ⟨(a1 % (8 * (((bsI (encB a0)).length : Int) - 21))).toNat, by omega⟩
  have hfl : f < 8 * ((encB a0).drop 21).length := by omega
  rw [if_pos (by omega), if_pos (by omega), if_pos (by omega), if_pos (by omega)]
  obtain ⟨t, D, r1, r2, r3, r4⟩ := bh_l1 ((encB a0).take 21) ((encB a0).drop 21) h21 a1 M f (by omega) (by rw [← es]; exact hf) hfl (by omega) 33 0 ((encB a0).drop 21) 0 (by omega) (by omega) rfl (by decide) (by rw [Nat.mul_zero, Nat.xor_zero])
  rw [← es] at r1
  have hX : ((encB a0).take 21 ++ t).length = (encB a0).length := by rw [List.length_append]; omega
  rw [show (32 : Int).toNat + 1 = 33 from rfl, r1, Option.bind_some]
  dsimp only
  rw [toBs_bsI]
  obtain ⟨b1, b2⟩ := burst_iff r2.symm r3 (Nat.le_of_lt hfl) r4
  have hdec : ∃ x e, f_batch_Decode ((encB a0).take 21 ++ t) = some (x, e) ∧ ((e = 0 ∧ (encB a0).take 21 ++ t = encB a0) ∨ ((e = 5 ∨ e = 10) ∧ ¬ (encB a0).take 21 ++ t = encB a0)) := by
    by_cases hD : D = 0
    · have : (encB a0).take 21 ++ t = encB a0 := by rw [← b2.2 hD, List.take_append_drop]
      exact ⟨a0, 0, by rw [this]; exact decode_enc ho (by omega), .inl ⟨rfl, this⟩⟩
    · have hne : ¬ (encB a0).take 21 ++ t = encB a0 := fun h => hD (b2.1 (by have := congrArg (List.drop 21) h; rw [List.drop_append_of_le_length (by omega), List.drop_of_length_le (l := (encB a0).take 21) (by omega), List.nil_append] at this; exact this.symm))
      rcases harm ho h21 es r2 (fun h => hD (b1.1 h.symm)) with h | h
      · exact ⟨_, 5, (decode_err (by omega) h).1, .inr ⟨.inl rfl, hne⟩⟩
      · exact ⟨_, 10, (decode_err (by omega) h).1, .inr ⟨.inr rfl, hne⟩⟩
  obtain ⟨x, e, d1, d2⟩ := hdec
  have hr2 : 0 ≤ a1 % ((encB a0).length : Int) ∧ a1 % ((encB a0).length : Int) < ((encB a0).length : Int) := ⟨Int.emod_nonneg _ (by omega), Int.emod_lt_of_pos _ (by omega)⟩
  have d3 := decode_err (by rw [List.length_take]; omega) (cut_short ho (a1 % ((encB a0).length : Int)).toNat (by omega))
  have d4 : f_batch_Decode (encB a0 ++ encB a0) = some (zBat, 2) := by
    have hp := Sp_bat.back (encB a0 ++ encB a0) (encB a0) 0 a0 (Nat.zero_le _) ho (by rw [List.drop_zero])
    rcases decode_run (encB a0 ++ encB a0) (by rw [List.length_append]; omega) with ⟨e', e0, q1, q2⟩ | ⟨b, p1, _⟩
    · rcases q2 with q2 | ⟨b, r, q2, q3, q4⟩
      · rw [hp] at q2; exact nomatch q2
      · rw [q1, q4]
    · rw [hp] at p1
      have this : 0 + (encB a0).length = (encB a0 ++ encB a0).length := congrArg Prod.snd (Except.ok.inj p1)
      rw [List.length_append] at this
      omega
  rw [d1, Option.bind_some]
  dsimp only
  rw [if_pos (by omega), if_pos (by omega), if_pos (by omega), d3.1, Option.bind_some]
  dsimp only
  rw [if_pos (by omega), d4, Option.bind_some]
  dsimp only
  have hfin : ((if ((decide (e = 0)) == (decide ((encB a0).take 21 ++ t = encB a0))) = true then (if (encB a0).take 21 ++ t = encB a0 then some false else (if e = 5 then some false else (if e = 10 then some false else some true))) else some true) : Option Bool) = some false := by
    rcases d2 with ⟨rfl, hq⟩ | ⟨h5, hq⟩
    · rw [decide_eq_true hq, if_pos (show (decide ((0 : Int) = 0) == true) = true from rfl), if_pos hq]
    · have hne : ¬ e = 0 := by omega
      rw [decide_eq_false hq, decide_eq_false hne, if_pos (show (false == false) = true from rfl), if_neg hq]
      rcases h5 with rfl | rfl
      · rw [if_pos rfl]
      · rw [if_neg (by decide), if_pos rfl]
  rw [hfin, Option.bind_some, if_neg (by decide), if_pos rfl, if_pos rfl]
  rfl
end Go.Proofs.Ytcoppaggpbfcmaa.Sl
namespace Go.Proofs.Ytcoppaggpbfcmaa.Sl
open Go.RowKit Go.Deep Go.ChangeShapes
set_option linter.unusedVariables false
theorem op_Bl {H : Type} {enc : TypeId × Value → H} : OpensW enc Try.prog 30 (andRd Bl_rd wf_Bl) :=
  opensW_weak (fun x => ⟨x.1, x.2.1⟩) (opensW_struct Try.underlying30 (by kernel_rfl) (opensWFs_cons 1 (by kernel_rfl) (by kernel_rfl) (op_bool Try.underlying4) (opensWFs_cons 1 (by kernel_rfl) (by kernel_rfl) (op_str Try.underlying9) (opensWFs_nil _)))) (by
    rintro w S cs ⟨x0, x1, _⟩ ⟨_, _, rfl, ⟨p0, q0⟩, _, _, rfl, ⟨p1, q1⟩, rfl⟩
    obtain rfl := p0
    obtain rfl := p1
    exact ⟨rfl, q0, q1⟩)
theorem op_Hd {H : Type} {enc : TypeId × Value → H} : OpensW enc Try.prog 81 (andRd Hd_rd wf_Hd) :=
  opensW_weak (fun x => ⟨x.1, x.2.1⟩) (opensW_struct Try.underlying81 (by kernel_rfl) (opensWFs_cons 1 (by kernel_rfl) (by kernel_rfl) (op_str Try.underlying9) (opensWFs_cons 2 (by kernel_rfl) (by kernel_rfl) op_Bl (opensWFs_nil _)))) (by
    rintro w S cs ⟨x0, x1, _⟩ ⟨_, _, rfl, ⟨p0, q0⟩, _, _, rfl, ⟨p1, q1⟩, rfl⟩
    obtain rfl := p0
    obtain rfl := p1
    exact ⟨rfl, q0, q1⟩)
theorem op_Rec {H : Type} {enc : TypeId × Value → H} : OpensW enc Try.prog 33 (andRd Rec_rd wf_Rec) :=
  opensW_weak (fun x => ⟨x.1, x.2.1, x.2.2.1, x.2.2.2.1, x.2.2.2.2.1⟩) (opensW_struct Try.underlying33 (by kernel_rfl) (opensWFs_cons 1 (by kernel_rfl) (by kernel_rfl) (op_i64 Try.underlying3) (opensWFs_cons 1 (by kernel_rfl) (by kernel_rfl) (op_i64 Try.underlying3) (opensWFs_cons 2 (by kernel_rfl) (by kernel_rfl) op_Bl (opensWFs_cons 2 (by kernel_rfl) (by kernel_rfl) op_Bl (opensWFs_cons 1 (by kernel_rfl) (by kernel_rfl) (op_slice 3 40 Try.underlying31 (by kernel_rfl) (by kernel_rfl) (by decide) (by decide) op_Hd) (opensWFs_nil _))))))) (by
    rintro w S cs ⟨x0, x1, x2, x3, x4, _⟩ ⟨_, _, rfl, ⟨p0, q0⟩, _, _, rfl, ⟨p1, q1⟩, _, _, rfl, ⟨p2, q2⟩, _, _, rfl, ⟨p3, q3⟩, _, _, rfl, ⟨p4, q4⟩, rfl⟩
    obtain rfl := p0
    obtain rfl := p1
    obtain rfl := p2
    obtain rfl := p3
    obtain ⟨A4, c4, rfl⟩ := slice_cells p4
    exact ⟨⟨A4, c4, rfl, p4⟩, q0, q1, q2, q3, q4⟩)
theorem op_Bat {H : Type} {enc : TypeId × Value → H} : OpensW enc Try.prog 25 (andRd Bat_rd wf_Bat) :=
  opensW_weak (fun x => ⟨x.1, x.2.1, x.2.2.1, x.2.2.2.1, x.2.2.2.2.1, x.2.2.2.2.2.1, x.2.2.2.2.2.2.1, x.2.2.2.2.2.2.2.1, x.2.2.2.2.2.2.2.2.1, x.2.2.2.2.2.2.2.2.2.1, x.2.2.2.2.2.2.2.2.2.2.1, x.2.2.2.2.2.2.2.2.2.2.2.1⟩) (opensW_struct Try.underlying25 (by kernel_rfl) (opensWFs_cons 1 (by kernel_rfl) (by kernel_rfl) (op_i64 Try.underlying3) (opensWFs_cons 1 (by kernel_rfl) (by kernel_rfl) (op_i64 Try.underlying3) (opensWFs_cons 1 (by kernel_rfl) (by kernel_rfl) (op_bool Try.underlying4) (opensWFs_cons 1 (by kernel_rfl) (by kernel_rfl) (op_bool Try.underlying4) (opensWFs_cons 1 (by kernel_rfl) (by kernel_rfl) (op_bool Try.underlying4) (opensWFs_cons 1 (by kernel_rfl) (by kernel_rfl) (op_i64 Try.underlying3) (opensWFs_cons 1 (by kernel_rfl) (by kernel_rfl) (op_i64 Try.underlying3) (opensWFs_cons 1 (by kernel_rfl) (by kernel_rfl) (op_i64 Try.underlying3) (opensWFs_cons 1 (by kernel_rfl) (by kernel_rfl) (op_i64 Try.underlying3) (opensWFs_cons 1 (by kernel_rfl) (by kernel_rfl) (op_i64 Try.underlying3) (opensWFs_cons 1 (by kernel_rfl) (by kernel_rfl) (op_i64 Try.underlying3) (opensWFs_cons 1 (by kernel_rfl) (by kernel_rfl) (op_slice 7 88 Try.underlying23 (by kernel_rfl) (by kernel_rfl) (by decide) (by decide) op_Rec) (opensWFs_nil _)))))))))))))) (by
    rintro w S cs ⟨x0, x1, x2, x3, x4, x5, x6, x7, x8, x9, x10, x11, _⟩ ⟨_, _, rfl, ⟨p0, q0⟩, _, _, rfl, ⟨p1, q1⟩, _, _, rfl, ⟨p2, q2⟩, _, _, rfl, ⟨p3, q3⟩, _, _, rfl, ⟨p4, q4⟩, _, _, rfl, ⟨p5, q5⟩, _, _, rfl, ⟨p6, q6⟩, _, _, rfl, ⟨p7, q7⟩, _, _, rfl, ⟨p8, q8⟩, _, _, rfl, ⟨p9, q9⟩, _, _, rfl, ⟨p10, q10⟩, _, _, rfl, ⟨p11, q11⟩, rfl⟩
    obtain rfl := p0
    obtain rfl := p1
    obtain rfl := p2
    obtain rfl := p3
    obtain rfl := p4
    obtain rfl := p5
    obtain rfl := p6
    obtain rfl := p7
    obtain rfl := p8
    obtain rfl := p9
    obtain rfl := p10
    obtain ⟨A11, c11, rfl⟩ := slice_cells p11
    exact ⟨⟨A11, c11, rfl, p11⟩, q0, q1, q2, q3, q4, q5, q6, q7, q8, q9, q10, q11⟩)
end Go.Proofs.Ytcoppaggpbfcmaa.Sl
namespace Go.Proofs.Ytcoppaggpbfcmaa.batchHarms
open Go.ChangeShapes Go.WideShapes Go.ChangeAt Go.RowKit
open Go.ChangeMaps (open_string shut_string)
set_option linter.unusedVariables false
theorem own : ownKnob Try.prog.godebug = none := by kernel_rfl
theorem laidOut : laidOutB Try.prog = true := by kernel_rfl
set_option maxRecDepth 100000 in
set_option maxHeartbeats 1000000 in
theorem lifted (os : Os) (started : os.Started) (H : Type) (enc : TypeId × Value → H) :
    ReturnsInHanded {} Try.checked os 4 .any (Rows.batchHarmsSpec.pre6 enc Try.prog Try.f4 Rows.batchHarmsRow.domain false) (Rows.batchHarmsSpec.post enc Try.prog Try.f4 false true false false) := by
  refine returnsInHanded_of_change_sized (C := Try.checked) own started (by kernel_rfl) Try.func4
    (ChangeSpec.witness6 (enc := enc) (C := Try.checked) false ⟨#[], #[.agg #[.int .i64 0, .int .i64 0, .bool false, .bool false, .bool false, .int .i64 0, .int .i64 0, .int .i64 0, .int .i64 0, .int .i64 0, .int .i64 0, .slice none 0 0], .int .u16 0, .int .u32 0], []⟩ 8 (by kernel_rfl) (by kernel_rfl) (by kernel_rfl) (by kernel_rfl)) ?_
  intro W base args ds gs before hval0 hW hcnd hsz0 _
  have hsz : (DataW.weightsEach Try.prog (Try.f4.params.toList ++ Rows.batchHarmsSpec.plain.varTypes Try.prog) (ds ++ gs)).all (· ≤ reachBytes) = true := hsz0
  have hval : ∀ (j : Nat) t v, Try.f4.params[j]? = some t → args[j]? = some v → Value.okWide Try.prog W .any base t v := hval0
  have hW' := hW
  obtain ⟨p, q, hA0, hV, rfl, hfz, hnd⟩ := hW
  have hA : DataW.TrodAll enc Try.prog W 0 (fun _ => true) true Try.f4.params.toList args.toList ds p := hA0
  rw [Try.params4] at hA hval hsz
  obtain ⟨v0, vs0, d0, ds0, p0, q0, hargs, rfl, rfl, h0, r0⟩ := trodAll_cons hA
  obtain ⟨v1, vs1, d1, ds1, p1, q1, rfl, rfl, rfl, h1, r1⟩ := trodAll_cons r0
  obtain ⟨v2, vs2, d2, ds2, p2, q2, rfl, rfl, rfl, h2, r2⟩ := trodAll_cons r1
  obtain ⟨rfl, rfl, rfl⟩ := trodAll_nil r2
  obtain rfl : args = #[v0, v1, v2] := by cases args; simp_all
  obtain ⟨rfl, rfl⟩ := trodVars_none hV
  have k0 := h0
  have lt0 : ∀ x ∈ p0, x.block < W.heap.size := by obtain ⟨m, hm⟩ := k0; exact DataW.trod_lt m _ _ _ hm
  obtain ⟨a0, cs0, rfl, r_0, w0⟩ := Sl.opens_arg2 Try.underlying25 (hval 0 25 v0 rfl rfl) Sl.op_Bat h0 (fun x hx => of_decide_eq_true (List.all_eq_true.1 hsz x (Sl.weights_in 0 rfl rfl hx)))
  obtain ⟨A0_0, c0_0, e0, r0_0⟩ := r_0
  obtain rfl : cs0 = #[.int .i64 a0.fBase, .int .i64 a0.fLeader, .bool a0.fAppend, .bool a0.fTxn, .bool a0.fControl, .int .i64 a0.fLast, .int .i64 a0.fFirst, .int .i64 a0.fMax, .int .i64 a0.fProducer, .int .i64 a0.fEpoch, .int .i64 a0.fSequence, .slice A0_0 a0.fRecords.length c0_0] := by apply Array.toList_inj.1; exact e0
  obtain ⟨a1, rfl, rfl, rfl, u1⟩ := open_int Try.underlying35 (hval 1 35 v1 rfl rfl) h1
  have w1 := Go.bounds_u16 u1
  obtain ⟨a2, rfl, rfl, rfl, u2⟩ := open_int Try.underlying36 (hval 2 36 v2 rfl rfl) h2
  have w2 := Go.bounds_u32 u2
  clear hA0 hval0 hsz0 hsz
  refine (Sl.f_l11_BatchHarms_spec a0 A0_0 c0_0 a1 a2 true (Sl.pure_BatchHarms a0 a1 a2 w0 w1 w2) (fun _ => False) W (fun _ h => h) (Sl.RX.reads_all r0_0)).mono fun e W' hP => ?_
  obtain ⟨v, A', Ns, rfl, ⟨rfl, rfl, rfl⟩, hst⟩ := hP
  have bel := Sl.St.below hst
  exact ⟨_, rfl, _, _, _, [], _, [], hW', trodAll_mk1 (shut_bool Try.underlying4 _), (trodAll_cons_mk (Below.trod laidOut (by kernel_rfl) (of_decide_eq_true (by kernel_rfl)) k0 bel lt0) (trodAll_cons_mk (shut_int Try.underlying35 u1) (trodAll_cons_mk (shut_int Try.underlying36 u2) trodAll_mk0))), rfl, bel.frame _, fun h => by cases h⟩
theorem over : Rows.batchHarmsRow.holds Try.pinned (OpenSpec.ofChange Rows.batchHarmsSpec) :=
  OpenClaim.holds_of_wide 4 Try.f4 rfl rfl rfl rfl rfl rfl rfl ⟨rfl, rfl, rfl, rfl, rfl⟩ rfl rfl rfl rfl rfl (by kernel_rfl) Try.func4 (by kernel_rfl)
    (of_decide_eq_true (by kernel_rfl)) (by unfold Func.isWrapper; first | (rw [if_pos (by decide +kernel)]; kernel_rfl) | (rw [if_neg (by decide +kernel)]; exact ⟨rfl, rfl⟩))
    (fun os started H enc _ => lifted os started H enc)
theorem proved : Rows.BatchHarmsSaid := over
end Go.Proofs.Ytcoppaggpbfcmaa.batchHarms
namespace Go.Proofs.Ytcoppaggpbfcmaa
theorem batchHarms_holds : Rows.BatchHarmsSaid := batchHarms.proved
end Go.Proofs.Ytcoppaggpbfcmaa
