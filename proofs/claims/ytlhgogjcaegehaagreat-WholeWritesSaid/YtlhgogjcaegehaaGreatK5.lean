/- WholeWrites: for every input the law returns true, and its arguments read behind the call as they did before. -/
import Derived.Shelf.LaysM
import Derived.Shelf.Strings.Shaped
import Derived.Test.YtlhgogjcaegehaaGreatProg
import Derived.Lib.Index
import Derived.Test.YtlhgogjcaegehaaGreatRows
import Derived.WalkKit
import Derived.ProofKit
import Derived.OpenShut
import Derived.ShutString
import Derived.ChangeOld
import Derived.Below
import Derived.SizedLaws
import Derived.HandedShaped
import Derived.Test.YtlhgogjcaegehaaGreatK4
namespace Go.Proofs.YtlhgogjcaegehaaGreat.Sl
open Go.RowKit
set_option linter.unusedVariables false
set_option linter.unusedSimpArgs false
def wT (t : Top) : Nat := t.fName.length + 4 * t.fParts.length + 6
def wTs : List Top → Nat
  | [] => 0
  | t :: l => wT t + wTs l
theorem few_loop (y : Int) : ∀ (l : List Top) (acc : Int), (∀ t, t ∈ l → wf_Top t) → 0 ≤ acc → acc ≤ 1000 → (f_l14_Few_l1 l y acc = some (.ret 0)) ∨ (∃ z, f_l14_Few_l1 l y acc = some (.go z) ∧ acc + wTs l ≤ 1000)
  | [], acc, hw, h0, h1 => .inr ⟨_, rfl, by simp [wTs]; omega⟩
  | t :: l, acc, hw, h0, h1 => by
    have ht := hw t (.head _)
    have ht1 : t.fName.length ≤ 140737488351232 := ht.1
    have ht2 : t.fParts.length ≤ 140737488351232 := ht.2.1
    rw [f_l14_Few_l1, if_pos (by omega), if_pos (by omega), if_pos (by omega), if_pos (by omega)]
    by_cases hc : (acc + (((t.fName.length : Int) + (4 * (t.fParts.length : Int))) + 6)) > 1000
    · rw [if_pos hc]
      exact .inl rfl
    · rw [if_neg hc]
      rcases few_loop y l _ (fun u hu => hw u (.tail _ hu)) (by omega) (show acc + (((t.fName.length : Int) + (4 * (t.fParts.length : Int))) + 6) ≤ 1000 by omega) with h | ⟨z, h, h2⟩
      · exact .inl h
      · exact .inr ⟨z, h, by simp only [wTs, wT]; omega⟩
theorem few_eq (l : List Top) (hw : ∀ t, t ∈ l → wf_Top t) : (f_l14_Few l = some 0) ∨ (f_l14_Few l = some 1 ∧ wTs l ≤ 1000) := by
  unfold f_l14_Few
  rcases few_loop 0 l 0 hw (by decide) (by decide) with h | ⟨z, h, h2⟩
  · exact .inl (by rw [h]; rfl)
  · exact .inr ⟨by rw [h]; rfl, by omega⟩
theorem wTs_len : ∀ l : List Top, l.length * 6 ≤ wTs l
  | [] => by simp [wTs]
  | t :: l => by have := wTs_len l; simp only [wTs, wT, List.length_cons]; omega
theorem wTs_mem : ∀ (l : List Top) (t : Top), t ∈ l → wT t ≤ wTs l
  | u :: l, t, h => by
    rcases List.mem_cons.1 h with rfl | h
    · simp only [wTs]; omega
    · have := wTs_mem l t h; simp only [wTs]; omega
theorem encs_len4 : ∀ l : List Int, (encs (fun n => be n 4) l).length = 4 * l.length
  | [] => rfl
  | n :: l => by rw [encs, List.length_append, be_length, encs_len4 l, List.length_cons]; omega
theorem encT_len (t : Top) : (encT t).length = wT t := by
  simp only [encT, List.length_append, be_length, encs_len4, wT]
  omega
theorem encTs_len : ∀ l : List Top, (encs encT l).length = wTs l
  | [] => rfl
  | t :: l => by rw [encs, List.length_append, encT_len, encTs_len l, wTs]
theorem put_l2 : ∀ (l : List Int) (t : List UInt8), (∀ n, n ∈ l → fits n 4 = true) → t.length + 4 * l.length ≤ 1000000000 → f_value_PutTopics_l2 l (t, 0) = some (t ++ encs (fun n => be n 4) l, 0)
  | [], t, h, hl => by rw [f_value_PutTopics_l2, encs, List.append_nil]
  | n :: l, t, h, hl => by
    rw [List.length_cons] at hl
    rw [f_value_PutTopics_l2, gOInt_z (h n (.head _)) (by omega), Option.bind_some, put_l2 l _ (fun m hm => h m (.tail _ hm)) (by rw [List.length_append, be_length]; show t.length + 4 + 4 * l.length ≤ _; omega), encs, List.append_assoc]
    rfl
theorem gPutText_z {t d : List UInt8} (hf : d.length ≤ 32767) (ht : t.length ≤ 1000000000) : gPutText (t, 0) d = some (t ++ (be (d.length : Int) 2 ++ d), 0) := by
  rw [gPutText_eq _ _ (by simp only; omega)]
  have := gPutFixed_z (t := t) (b := ⟨false, d⟩) (k := 2) (fits_small (.inl rfl) (show -32768 ≤ (d.length : Int) by omega) (show (d.length : Int) ≤ 32767 by omega)) rfl (by simp only; omega)
  rw [gPutFixed_eq _ _ _ ⟨by decide, by simp only; omega⟩] at this
  exact this
theorem put_l1 : ∀ (l : List Top) (t : List UInt8), (∀ x, x ∈ l → okT x) → t.length + wTs l ≤ 1000000 → wTs l ≤ 3000 → f_value_PutTopics_l1 l (t, 0) = some (t ++ encs encT l, 0)
  | [], t, h, hl, hw => by rw [f_value_PutTopics_l1, encs, List.append_nil]
  | x :: l, t, h, hl, hw => by
    obtain ⟨h1, h2, h3⟩ := h x (.head _)
    simp only [wTs, wT] at hl hw
    rw [f_value_PutTopics_l1, gPutText_z (by omega) (by omega), Option.bind_some, gOInt_z h2 (by simp only [List.length_append, be_length]; omega), Option.bind_some, put_l2 _ _ h3 (by simp only [List.length_append, be_length]; show _ + (4 : Int).toNat + _ ≤ _; omega), Option.bind_some, put_l1 l _ (fun y hy => h y (.tail _ hy)) (by simp only [List.length_append, be_length, encs_len4]; show _ + (4 : Int).toNat + _ + _ ≤ _; omega) (by omega)]
    simp only [encs, encT, List.append_assoc]
    rfl
theorem put_topics (l : List Top) (t : List UInt8) (h : ∀ x, x ∈ l → okT x) (ht : t.length ≤ 900000) (hw : wTs l ≤ 3000) : f_value_PutTopics (t, 0) l = some (t ++ (be (l.length : Int) 4 ++ encs encT l), 0) := by
  have := wTs_len l
  unfold f_value_PutTopics
  rw [gOInt_z (fits_small (.inr (.inl rfl)) (by omega) (by omega)) (by omega), Option.bind_some, put_l1 l _ h (by simp only [List.length_append, be_length]; show _ + (4 : Int).toNat + _ ≤ _; omega) hw, List.append_assoc]
  rfl
end Go.Proofs.YtlhgogjcaegehaaGreat.Sl
namespace Go.Proofs.YtlhgogjcaegehaaGreat.Sl
open Go.RowKit
set_option linter.unusedVariables false
set_option linter.unusedSimpArgs false
theorem fits_2 (n : Int) : fits n 2 = decide (-32768 ≤ n ∧ n ≤ 32767) := by
  rw [Bool.eq_iff_iff]
  unfold fits
  simp only [Bool.and_eq_true, decide_eq_true_eq]
  have : (2 : Int) ^ (8 * (2 : Int).toNat - 1) = 32768 := by decide
  omega
theorem fits_8 (n : Int) : fits n 8 = decide (-9223372036854775808 ≤ n ∧ n ≤ 9223372036854775807) := by
  rw [Bool.eq_iff_iff]
  unfold fits
  simp only [Bool.and_eq_true, decide_eq_true_eq]
  have : (2 : Int) ^ (8 * (8 : Int).toNat - 1) = 9223372036854775808 := by decide
  omega
def badR (v : Val) : Prop := v.fProducer < 0 ∨ v.fEpoch < 0 ∨ v.fEpoch > 32767 ∨ v.fTimeout < 0 ∨ v.fTimeout > 2147483647 ∨ v.fUpdated < 0 ∨ v.fStarted < -1
def badC (v : Val) : Prop := ¬ ((1 ≤ v.fState ∧ v.fState ≤ 3) ↔ 0 < (v.fTopics.length : Int)) ∨ ¬ (v.fState = 0 ↔ v.fStarted = -1)
open Classical in
noncomputable def chkV (v : Val) : Int := if badR v then 11 else if v.fState < 0 ∨ v.fState > 6 then 12 else if badC v then 10 else if okts v.fTopics = true then 0 else 13
set_option maxHeartbeats 4000000 in
theorem vcheck_eq (v : Val) (hw : wf_Val v) (hl : v.fTopics.length ≤ 1000000) : f_value_Check v = some (chkV v) := by
  unfold f_value_Check chkV
  rw [vtopics_eq _ hw.2.2.2.2.1.2 hl, gFits_eq _ _ hw.2.1, gFits_eq _ _ hw.2.2.1, fits_2, fits_4]
  generalize okts v.fTopics = b
  by_cases hr : badR v
  · rw [if_pos hr]
    unfold badR at hr
    by_cases c1 : v.fProducer < 0
    · rw [if_pos c1]
    rw [if_neg c1]
    by_cases c2 : v.fEpoch < 0
    · rw [if_pos c2]
    rw [if_neg c2, Option.bind_some]
    by_cases c3 : -32768 ≤ v.fEpoch ∧ v.fEpoch ≤ 32767
    · rw [if_pos (decide_eq_true c3)]
      by_cases c4 : v.fTimeout < 0
      · rw [if_pos c4]
      rw [if_neg c4, Option.bind_some]
      by_cases c5 : -2147483648 ≤ v.fTimeout ∧ v.fTimeout ≤ 2147483647
      · rw [if_pos (decide_eq_true c5)]
        by_cases c6 : v.fUpdated < 0
        · rw [if_pos c6]
        rw [if_neg c6, if_pos (by omega)]
      · rw [if_neg (by simp only [decide_eq_true_eq]; exact c5)]
    · rw [if_neg (by simp only [decide_eq_true_eq]; exact c3)]
  rw [if_neg hr]
  unfold badR at hr
  rw [if_neg (by omega), if_neg (by omega), Option.bind_some, if_pos (decide_eq_true (by omega)), if_neg (by omega), Option.bind_some, if_pos (decide_eq_true (by omega)), if_neg (by omega), if_neg (by omega)]
  unfold f_value_Idle
  by_cases hs : v.fState < 0 ∨ v.fState > 6
  · rw [if_pos hs]
    by_cases c1 : v.fState < 0
    · rw [if_pos c1]
    · rw [if_neg c1, if_pos (by omega)]
  rw [if_neg hs, if_neg (by omega), if_neg (by omega)]
  by_cases hc : badC v
  · rw [if_pos hc]
    unfold badC at hc
    by_cases c0 : v.fState = 0
    · rw [if_pos c0, Option.bind_some, if_pos rfl]
      by_cases c1 : (v.fTopics.length : Int) = 0
      · rw [if_pos c1, if_pos c0, if_neg (by omega)]
      · rw [if_neg c1]
    · rw [if_neg c0]
      by_cases c4 : v.fState ≥ 4
      · rw [if_pos c4, Option.bind_some, if_pos rfl]
        by_cases c1 : (v.fTopics.length : Int) = 0
        · rw [if_pos c1, if_neg c0, if_pos (by omega)]
        · rw [if_neg c1]
      · rw [if_neg c4, Option.bind_some, if_neg (by decide)]
        by_cases c1 : (v.fTopics.length : Int) = 0
        · rw [if_pos c1]
        · rw [if_neg c1, if_neg c0, if_pos (by omega)]
  rw [if_neg hc]
  unfold badC at hc
  by_cases c0 : v.fState = 0
  · rw [if_pos c0, Option.bind_some, if_pos rfl, if_pos (by omega), if_pos c0, if_pos (by omega)]
    cases b <;> rfl
  · rw [if_neg c0]
    by_cases c4 : v.fState ≥ 4
    · rw [if_pos c4, Option.bind_some, if_pos rfl, if_pos (by omega), if_neg c0, if_neg (by omega)]
      cases b <;> rfl
    · rw [if_neg c4, Option.bind_some, if_neg (by decide), if_neg (by omega), if_neg c0, if_neg (by omega)]
      cases b <;> rfl
theorem okts_ok {l : List Top} (h : okts l = true) (hw : wTs l ≤ 3000) : ∀ t, t ∈ l → okT t := by
  intro t ht
  unfold okts at h
  rw [Bool.and_eq_true] at h
  have h1 := List.all_eq_true.1 h.1 t ht
  unfold oktB okps at h1
  simp only [Bool.and_eq_true, decide_eq_true_eq, List.all_eq_true] at h1
  have h2 := wTs_mem l t ht
  unfold wT at h2
  refine ⟨fits_small (.inl rfl) (by omega) (by omega), fits_small (.inr (.inl rfl)) (by omega) (by omega), fun n hn => ?_⟩
  have h3 := h1.2.1.1 n hn
  unfold okn at h3
  simp only [Bool.and_eq_true, decide_eq_true_eq] at h3
  rw [fits_4]
  exact decide_eq_true (by omega)
end Go.Proofs.YtlhgogjcaegehaaGreat.Sl
namespace Go.Proofs.YtlhgogjcaegehaaGreat.Sl
open Go.RowKit
set_option linter.unusedVariables false
set_option linter.unusedSimpArgs false
set_option maxRecDepth 100000
def ft_txn : FTab := []
theorem ft_txn_ok : (ft_txn).OK Tryz.prog := trivial
theorem bok_txn_137 : BOK Tryz.prog 137 #[.int .i64 0, .int .i64 0, .int .i64 0, .int .i64 0, .slice none 0 0, .int .i64 0, .int .i64 0] [(0, 1), (1, 1), (2, 1), (3, 1), (4, 1), (5, 1), (6, 1)] := BOK.mk Tryz.zeroValue137 Tryz.runUnderlying137 (by intro w; simp)
def f_txn_Who (a0 : Int) (a1 : Int) : Option (Bool) := (if a0 ≥ 0 then (if a1 ≥ 0 then ((gFits a1 2).bind fun x9 => some x9) else some false) else some false).bind fun y5 => some y5
set_option maxRecDepth 100000 in
set_option maxHeartbeats 4000000 in
theorem f_txn_Who_spec (a0 : Int) (a1 : Int) (r : Bool) (h : f_txn_Who a0 a1 = some r) : SpecX Tryz.prog 39 #[.int .i64 a0, .int .i64 a1] .triv (EmpR) (fun v A' N => v = .bool r ∧ A' = EmpR ∧ N = []) := by
  refine enterA Tryz.func39 rfl Tryz.ntmps39 rfl ?_
  intro F w hX
  unfold f_txn_Who at h
  refine T.seq (T.region rfl ?_)
  refine TL.run ft_txn_ok [0] rfl rfl ?_
  refine TL.nil (X.seq (T.seq ?_))
  obtain ⟨y5, h, hk6⟩ := Option.bind_eq_some_iff.1 h
  refine T.jq (fun e Rs => e = [(4, .bool y5)] ∧ Rs = [EmpR]) ?_ ?_
  · clear hk6
    refine T.region rfl ?_
    by_cases c7 : a0 ≥ 0
    · replace h := ifT c7 h
      refine TL.run ft_txn_ok [0, 1, 2] rfl rfl ?_
      refine TL.hv 7 rfl (decide_eq_true c7) ?_
      by_cases c8 : a1 ≥ 0
      · replace h := ifT c8 h
        refine TL.rw ft_txn_ok 4 rfl ?_
        refine TL.hv 11 rfl (decide_eq_true c8) ?_
        obtain ⟨x9, hx10, h⟩ := Option.bind_eq_some_iff.1 h
        refine TL.rw ft_txn_ok 1 rfl ?_
        refine TL.ce rfl (.g rfl rfl rfl) (.fn Tryz.call40 rfl) (SpecX.pure (fun w => gFits_spec a1 2 _ hx10 w)) (fun _ _ => RX.reads_triv _ _) rfl ?_
        refine TL.rw ft_txn_ok 2 rfl ?_
        cases h
        exact TL.nil (X.jq [0] ⟨rfl, rfl⟩ (by rfl) (by rfl))
      · replace h := ifF c8 h
        refine TL.rw ft_txn_ok 4 rfl ?_
        refine TL.hv 11 rfl (decide_eq_false c8) ?_
        refine TL.rw ft_txn_ok 4 rfl ?_
        cases h
        exact TL.nil (X.jq [0] ⟨rfl, rfl⟩ (by rfl) (by rfl))
    · replace h := ifF c7 h
      refine TL.run ft_txn_ok [0, 1, 2] rfl rfl ?_
      refine TL.hv 7 rfl (decide_eq_false c7) ?_
      refine TL.rw ft_txn_ok 8 rfl ?_
      cases h
      exact TL.nil (X.jq [0] ⟨rfl, rfl⟩ (by rfl) (by rfl))
  · rintro _ _ ⟨rfl, rfl⟩
    clear h
    have h := hk6
    clear hk6
    try dsimp only at h
    obtain rfl := Option.some.inj h
    exact X.seq (T.ret (X.done1 [0] Tryz.results39 (RV.tm rfl) ⟨rfl, rfl, rfl⟩ (by rfl) (.inl rfl)))
def f_txn_Rise (a0 : List Top) : Option (Int) := if (a0.length : Int) = 0 then some 10 else ((f_value_Check (⟨0, 0, 0, 1, a0, 0, 0⟩ : Val)).bind fun x5 => some x5)
set_option maxRecDepth 100000 in
set_option maxHeartbeats 4000000 in
theorem f_txn_Rise_spec (a0 : List Top) (A1 : Option Addr) (c2 : Nat) (r : Int) (h : f_txn_Rise a0 = some r) : SpecX Tryz.prog 41 #[.slice A1 a0.length c2] (RX.of (sliceRd 2 Top_rd) [.slice A1 a0.length c2] a0) (EmpR) (fun v A' N => v = .int .i64 r ∧ A' = EmpR ∧ N = []) := by
  refine enterA Tryz.func41 rfl Tryz.ntmps41 rfl ?_
  intro F w hX
  unfold f_txn_Rise at h
  refine T.seq (T.region rfl ?_)
  refine TL.run ft_txn_ok [0] rfl rfl ?_
  refine TL.nil (X.seq (T.seq (T.seq (T.region rfl ?_))))
  refine TL.run ft_txn_ok [0] rfl rfl ?_
  refine TL.q rfl .u (Ex.lenS rfl Tryz.runUnderlying60) rfl ?_
  refine TL.run ft_txn_ok [2] rfl rfl ?_
  by_cases c3 : (a0.length : Int) = 0
  · replace h := ifT c3 h
    refine TL.nil (X.seq ?_)
    refine T.yes rfl (decide_eq_true c3) ?_
    refine T.seq (T.region rfl ?_)
    refine TL.run ft_txn_ok [0] rfl rfl ?_
    obtain rfl := Option.some.inj h
    exact TL.nil (X.seq (T.ret (X.rs (X.done1 [0] Tryz.results41 (RV.tm rfl) ⟨rfl, rfl, rfl⟩ (by rfl) (.inl rfl)))))
  · replace h := ifF c3 h
    refine TL.nil (X.seq ?_)
    refine T.no rfl (decide_eq_false c3) ?_
    refine T.skip (X.seq (T.seq (T.region rfl ?_)))
    refine TL.run ft_txn_ok [0] rfl rfl ?_
    refine TL.q rfl .u (Ex.bld (cells := #[.int .i64 0, .int .i64 0, .int .i64 0, .int .i64 1, .slice A1 a0.length c2, .int .i64 0, .int .i64 0]) bok_txn_137 rfl (by kernel_rfl)) rfl ?_
    refine TL.alloc rfl .u Tryz.zeroValue137 rfl (fun b4 => ?_)
    refine TL.st0 (cs' := #[.int .i64 0, .int .i64 0, .int .i64 0, .int .i64 1, .slice A1 a0.length c2, .int .i64 0, .int .i64 0]) rfl .u rfl rfl Tryz.sizeOf137 rfl rfl rfl rfl ?_
    refine TL.nil (X.seq (T.seq (T.region rfl ?_)))
    refine TL.q rfl .u (Ex.bS (us := [.int .i64 0, .int .i64 0, .int .i64 0, .int .i64 1, .slice A1 a0.length c2, .int .i64 0, .int .i64 0]) 0 rfl Tryz.isAgg137 Tryz.sizeOf137 rfl rfl rfl) rfl ?_
    obtain ⟨x5, hx6, h⟩ := Option.bind_eq_some_iff.1 h
    refine TL.ce rfl .u (.fn Tryz.call66 rfl) (f_value_Check_spec (⟨0, 0, 0, 1, a0, 0, 0⟩ : Val) _ _ _ hx6) (fun _ hs => (SrcE.old hs hX)) rfl ?_
    refine TL.run ft_txn_ok [2] rfl rfl ?_
    obtain rfl := Option.some.inj h
    exact TL.nil (X.seq (T.ret (X.done1 [1] Tryz.results41 (RV.tm rfl) ⟨rfl, rfl, rfl⟩ (by rfl) (.inl rfl))))
def f_txn_PutBool (st : List UInt8 × Int) (a1 : Bool) : Option (List UInt8 × Int) := (if a1 = true then ((gOByte st 1).bind fun st9 => some st9) else ((gOByte st 0).bind fun st11 => some st11)).bind fun st6 => some st6
set_option maxRecDepth 100000 in
set_option maxHeartbeats 4000000 in
theorem f_txn_PutBool_spec (g : Nat) (st : List UInt8 × Int) (a1 : Bool) (r : List UInt8 × Int) (h : f_txn_PutBool st a1 = some r) : SpecX Tryz.prog 30 #[.pointer (some ⟨g, 0, none⟩), .bool a1] .triv (OutR g st) (fun v A' N => v = .tuple #[] ∧ A' = OutR g r ∧ N = []) := by
  refine enterA Tryz.func30 rfl Tryz.ntmps30 rfl ?_
  intro F w hX
  unfold f_txn_PutBool at h
  refine T.seq (T.region rfl ?_)
  refine TL.run ft_txn_ok [0] rfl rfl ?_
  refine TL.nil (X.seq ?_)
  obtain ⟨st6, h, hk7⟩ := Option.bind_eq_some_iff.1 h
  refine T.jq (fun e Rs => e = [] ∧ Rs = [OutR g st6]) ?_ ?_
  · clear hk7
    by_cases c8 : a1 = true
    · replace h := ifT c8 h
      refine T.yes rfl c8 ?_
      refine T.region rfl ?_
      obtain ⟨st9, hx10, h⟩ := Option.bind_eq_some_iff.1 h
      refine TL.run ft_txn_ok [0] rfl rfl ?_
      refine TL.c0 rfl .u (.fn Tryz.call51 rfl) (gOByte_spec g st 1 _ hx10) (fun _ hs => (Src.triv _)) rfl ?_
      cases h
      exact TL.nil (X.jq [0] ⟨rfl, rfl⟩ (by rfl) (by rfl))
    · replace h := ifF c8 h
      replace c8 := eq_false_of_ne_true c8
      refine T.no rfl c8 ?_
      refine T.region rfl ?_
      obtain ⟨st11, hx12, h⟩ := Option.bind_eq_some_iff.1 h
      refine TL.run ft_txn_ok [0] rfl rfl ?_
      refine TL.c0 rfl .u (.fn Tryz.call51 rfl) (gOByte_spec g st 0 _ hx12) (fun _ hs => (Src.triv _)) rfl ?_
      cases h
      exact TL.nil (X.jq [0] ⟨rfl, rfl⟩ (by rfl) (by rfl))
  · rintro _ _ ⟨rfl, rfl⟩
    clear h
    have h := hk7
    clear hk7
    try dsimp only at h
    obtain rfl := Option.some.inj h
    exact X.done0 [0] Tryz.results30 ⟨rfl, rfl, rfl⟩ (by rfl) (.inr rfl)
end Go.Proofs.YtlhgogjcaegehaaGreat.Sl
namespace Go.Proofs.YtlhgogjcaegehaaGreat.Sl
open Go.RowKit
set_option linter.unusedVariables false
set_option linter.unusedSimpArgs false
theorem wi0 : wI 0 := ⟨by decide, by decide⟩
theorem wi1 : wI 1 := ⟨by decide, by decide⟩
def who (p e : Int) : Bool := decide (0 ≤ p ∧ 0 ≤ e ∧ e ≤ 32767)
theorem who_eq (p e : Int) (he : wI e) : f_txn_Who p e = some (who p e) := by
  unfold f_txn_Who who
  by_cases h1 : p ≥ 0
  · rw [if_pos h1]
    by_cases h2 : e ≥ 0
    · rw [if_pos h2, gFits_eq _ _ he, fits_2]
      simp only [Option.bind_some]
      congr 1
      by_cases h3 : e ≤ 32767
      · rw [decide_eq_true (by omega), decide_eq_true (by omega)]
      · rw [decide_eq_false (by omega), decide_eq_false (by omega)]
    · rw [if_neg h2, decide_eq_false (by omega)]
      rfl
  · rw [if_neg h1, decide_eq_false (by omega)]
    rfl
def riseV (l : List Top) : Int := if l.length = 0 then 10 else if okts l = true then 0 else 13
def wTl (l : List Top) : Prop := (∀ t, t ∈ l → wf_Top t) ∧ l.length ≤ 1000000
theorem rise_txn (l : List Top) (hw : wTl l) : f_txn_Rise l = some (riseV l) := by
  unfold f_txn_Rise riseV
  by_cases h : l.length = 0
  · rw [if_pos (by omega), if_pos h]
  · rw [if_neg (by omega), if_neg h, vcheck_eq _ ⟨wi0, wi0, wi0, wi1, ⟨by have := hw.2; simp only; omega, hw.1⟩, wi0, wi0⟩ hw.2, Option.bind_some]
    unfold chkV
    rw [if_neg (by unfold badR; simp), if_neg (by simp), if_neg (by
      unfold badC
      simp only
      rintro (h1 | h1)
      · exact h1 ⟨fun _ => by omega, fun _ => by omega⟩
      · exact h1 ⟨fun h => absurd h (by decide), fun h => absurd h (by decide)⟩)]
def tmB (t : Int) : Bool := decide (0 ≤ t ∧ t ≤ 2147483647)
theorem wTs_bounds {l : List Top} (h : wTs l ≤ 1000000) : l.length ≤ 1000000 ∧ ∀ t, t ∈ l → t.fParts.length ≤ 1000000 ∧ t.fName.length ≤ 1000000 := by
  have := wTs_len l
  refine ⟨by omega, fun t ht => ?_⟩
  have := wTs_mem _ _ ht
  unfold wT at this
  omega
def encTs (l : List Top) : List UInt8 := be (l.length : Int) 4 ++ encs encT l
def okTs (l : List Top) : Prop := fits (l.length : Int) 4 = true ∧ ∀ t, t ∈ l → okT t
end Go.Proofs.YtlhgogjcaegehaaGreat.Sl
namespace Go.Proofs.YtlhgogjcaegehaaGreat.Sl
open Go.RowKit
set_option linter.unusedVariables false
set_option linter.unusedSimpArgs false
theorem who_fits {p e : Int} (h : who p e = true) (hp : wI p) : fits p 8 = true ∧ fits e 2 = true := by
  unfold who at h
  have h := of_decide_eq_true h
  exact ⟨by rw [fits_8]; exact decide_eq_true hp, by rw [fits_2]; exact decide_eq_true (by omega)⟩
theorem putBool (t : List UInt8) (b : Bool) (ht : t.length ≤ 1000000) : f_txn_PutBool (t, 0) b = some (t ++ encBool b, 0) := by
  unfold f_txn_PutBool
  cases b with
  | true =>
    rw [if_pos rfl, gOByte_eq _ _ ⟨by decide, by decide, by simp only; omega⟩]
    rfl
  | false =>
    rw [if_neg (by decide), gOByte_eq _ _ ⟨by decide, by decide, by simp only; omega⟩]
    rfl
theorem rise_zero {l : List Top} (h : riseV l = 0) : l ≠ [] ∧ okts l = true := by
  unfold riseV at h
  split at h
  · exact absurd h (by decide)
  · rename_i h1
    split at h
    · rename_i h2
      exact ⟨fun h0 => h1 (by rw [h0]; rfl), h2⟩
    · exact absurd h (by decide)
def Pr.map {α β : Type} (g : α → β) (p : Pr α) : Pr β := p.bind fun x => .ret (g x)
theorem Sp.map {α β : Type} {p : Pr α} {enc : α → List UInt8} {ok : α → Prop} (g : α → β) (g' : β → α) (hg : ∀ x, g' (g x) = x) (h : Sp p enc ok) : Sp (p.map g) (fun y => enc (g' y)) (fun y => ok (g' y) ∧ g (g' y) = y) := by
  refine ⟨fun s q y r hq hp => ?_, fun s t q y hq hy hd => ?_⟩
  · obtain ⟨x, m, h1, h2⟩ := Pr.bind_ok hp
    injection h2 with h2
    obtain ⟨rfl, rfl⟩ := Prod.mk.inj h2
    obtain ⟨a1, a2, a3, a4, a5⟩ := h.spell s q x m hq h1
    rw [hg x]
    exact ⟨a1, a2, a3, a4, a5, rfl⟩
  · have := h.back s t q (g' y) hq hy.1 hd
    rw [Pr.map, Pr.bind_of this, hy.2]
    rfl
theorem CB.map {α β : Type} {op : I → Option (α × I)} {p : Pr α} {z : α} (g : α → β) (h : CB op p z) : CB (fun st => (op st).bind fun (x, st1) => some (g x, st1)) (p.map g) (g z) := by
  refine ⟨fun st hd => ?_, fun s q hl hq => ?_⟩
  · show (op st).bind _ = _
    rw [h.dead st hd]
    rfl
  · rcases h.run s q hl hq with ⟨e, st, p1, g1, x1, y1⟩ | ⟨a, r, p1, g1, n1, l1⟩
    · refine .inl ⟨e, st, Pr.bind_err p1, ?_, x1, y1⟩
      show (op _).bind _ = _
      rw [g1]
      rfl
    · refine .inr ⟨g a, r, by rw [Pr.map, Pr.bind_of p1]; rfl, ?_, n1, l1⟩
      show (op _).bind _ = _
      rw [g1]
      rfl
end Go.Proofs.YtlhgogjcaegehaaGreat.Sl
namespace Go.Proofs.YtlhgogjcaegehaaGreat.Sl
open Go.RowKit
set_option linter.unusedVariables false
set_option linter.unusedSimpArgs false
noncomputable instance decTop : DecidableEq Top := fun a b => Classical.propDecidable (a = b)
end Go.Proofs.YtlhgogjcaegehaaGreat.Sl
namespace Go.Proofs.YtlhgogjcaegehaaGreat.Sl
open Go.RowKit
set_option linter.unusedVariables false
set_option linter.unusedSimpArgs false
set_option maxRecDepth 100000
def ft_mark : FTab := [(62, 0, 0), (62, 1, 1), (62, 2, 2), (62, 3, 3), (62, 4, 4)]
theorem ft_mark_ok : (ft_mark).OK Tryz.prog := ⟨FOK.mk Tryz.runUnderlying62 rfl Tryz.sizeOf3 rfl, FOK.mk Tryz.runUnderlying62 rfl Tryz.sizeOf3 rfl, FOK.mk Tryz.runUnderlying62 rfl Tryz.sizeOf4 rfl, FOK.mk Tryz.runUnderlying62 rfl Tryz.sizeOf60 rfl, FOK.mk Tryz.runUnderlying62 rfl Tryz.sizeOf3 rfl, trivial⟩
def nt_mark : List Nat := [3, 4, 60]
theorem nt_mark_ok : NOK Tryz.prog nt_mark := ⟨Tryz.isAgg3, Tryz.isAgg4, Tryz.isAgg60, trivial⟩
def f_mark_MarkCheck (a0 : MarkMark) (a1 : Int) : Option (Int) := ((f_txn_Who a0.fProducer a0.fEpoch).bind fun x14 => if x14 = true then (if a0.fCoordinator < 0 then some true else ((gFits a0.fCoordinator 4).bind fun x18 => if x18 = true then (if a1 = 0 then (if a0.fCoordinator > 0 then some true else some false) else some false) else some true)) else some true).bind fun y12 => if y12 = true then some 11 else ((f_txn_Rise a0.fTopics).bind fun x24 => some x24)
set_option maxRecDepth 100000 in
set_option maxHeartbeats 4000000 in
theorem f_mark_MarkCheck_spec (a0 : MarkMark) (A1 : Option Addr) (c2 : Nat) (a1 : Int) (r : Int) (h : f_mark_MarkCheck a0 a1 = some r) : SpecX Tryz.prog 16 #[.agg #[.int .i64 a0.fProducer, .int .i64 a0.fEpoch, .bool a0.fCommit, .slice A1 a0.fTopics.length c2, .int .i64 a0.fCoordinator], .int .i64 a1] (RX.of (sliceRd 2 Top_rd) [.slice A1 a0.fTopics.length c2] a0.fTopics) (EmpR) (fun v A' N => v = .int .i64 r ∧ A' = EmpR ∧ N = []) := by
  refine enterA Tryz.func16 rfl Tryz.ntmps16 rfl ?_
  intro F w hX
  unfold f_mark_MarkCheck at h
  refine T.seq (T.region rfl ?_)
  refine TL.box rfl .u rfl rfl (fun b3 => ?_)
  refine TL.run ft_mark_ok [1] rfl rfl ?_
  refine TL.nil (X.seq (T.seq (T.seq ?_)))
  obtain ⟨y12, h, hk13⟩ := Option.bind_eq_some_iff.1 h
  refine T.jq (fun e Rs => e = [(2, .pointer (some ⟨b3, 0, none⟩)), (4, .int .i64 0), (30, .bool y12)] ∧ Rs = [BlkR b3 62 #[.int .i64 a0.fProducer, .int .i64 a0.fEpoch, .bool a0.fCommit, .slice A1 a0.fTopics.length c2, .int .i64 a0.fCoordinator], EmpR]) ?_ ?_
  · clear hk13
    refine T.region rfl ?_
    obtain ⟨x14, hx15, h⟩ := Option.bind_eq_some_iff.1 h
    refine TL.rb ft_mark_ok nt_mark_ok 0 rfl 4 rfl rfl ?_
    refine TL.ce rfl .u (.fn Tryz.call39 rfl) (f_txn_Who_spec a0.fProducer a0.fEpoch _ hx15) (fun _ hs => (RX.reads_triv _ _)) rfl ?_
    by_cases c16 : x14 = true
    · replace h := ifT c16 h
      refine TL.run ft_mark_ok [5, 6] rfl rfl ?_
      refine TL.hv 11 rfl (bn_f c16) ?_
      by_cases c17 : a0.fCoordinator < 0
      · replace h := ifT c17 h
        refine TL.rb ft_mark_ok nt_mark_ok 0 rfl 5 rfl rfl ?_
        refine TL.hv 16 rfl (decide_eq_true c17) ?_
        refine TL.rw ft_mark_ok 14 rfl ?_
        cases h
        exact TL.nil (X.jq [0, 0] ⟨rfl, rfl⟩ (by rfl) (by rfl))
      · replace h := ifF c17 h
        refine TL.rb ft_mark_ok nt_mark_ok 0 rfl 5 rfl rfl ?_
        refine TL.hv 16 rfl (decide_eq_false c17) ?_
        obtain ⟨x18, hx19, h⟩ := Option.bind_eq_some_iff.1 h
        refine TL.rb ft_mark_ok nt_mark_ok 0 rfl 2 rfl rfl ?_
        refine TL.ce rfl (.g rfl rfl rfl) (.fn Tryz.call40 rfl) (SpecX.pure (fun w => gFits_spec a0.fCoordinator 4 _ hx19 w)) (fun _ _ => RX.reads_triv _ _) rfl ?_
        by_cases c20 : x18 = true
        · replace h := ifT c20 h
          refine TL.rw ft_mark_ok 3 rfl ?_
          refine TL.hv 22 rfl (bn_f c20) ?_
          by_cases c21 : a1 = 0
          · replace h := ifT c21 h
            refine TL.rw ft_mark_ok 3 rfl ?_
            refine TL.hv 25 rfl (decide_eq_true c21) ?_
            refine TL.rb ft_mark_ok nt_mark_ok 0 rfl 5 rfl rfl ?_
            by_cases c22 : a0.fCoordinator > 0
            · replace h := ifT c22 h
              cases h
              exact TL.nil (X.as (d := 30) (v' := .bool true) rfl (congrArg Value.bool (decide_eq_true c22)) (X.jq [0, 0] ⟨rfl, rfl⟩ (by rfl) (by rfl)))
            · replace h := ifF c22 h
              cases h
              exact TL.nil (X.as (d := 30) (v' := .bool false) rfl (congrArg Value.bool (decide_eq_false c22)) (X.jq [0, 0] ⟨rfl, rfl⟩ (by rfl) (by rfl)))
          · replace h := ifF c21 h
            refine TL.rw ft_mark_ok 3 rfl ?_
            refine TL.hv 25 rfl (decide_eq_false c21) ?_
            refine TL.rw ft_mark_ok 5 rfl ?_
            cases h
            exact TL.nil (X.jq [0, 0] ⟨rfl, rfl⟩ (by rfl) (by rfl))
        · replace h := ifF c20 h
          replace c20 := eq_false_of_ne_true c20
          refine TL.rw ft_mark_ok 3 rfl ?_
          refine TL.hv 22 rfl (bn_t c20) ?_
          refine TL.rw ft_mark_ok 8 rfl ?_
          cases h
          exact TL.nil (X.jq [0, 0] ⟨rfl, rfl⟩ (by rfl) (by rfl))
    · replace h := ifF c16 h
      replace c16 := eq_false_of_ne_true c16
      refine TL.run ft_mark_ok [5, 6] rfl rfl ?_
      refine TL.hv 11 rfl (bn_t c16) ?_
      refine TL.rw ft_mark_ok 19 rfl ?_
      cases h
      exact TL.nil (X.jq [0, 0] ⟨rfl, rfl⟩ (by rfl) (by rfl))
  · rintro _ _ ⟨rfl, rfl⟩
    clear h
    have h := hk13
    clear hk13
    try dsimp only at h
    by_cases c23 : y12 = true
    · replace h := ifT c23 h
      refine X.seq ?_
      refine T.yes rfl c23 ?_
      refine T.seq (T.region rfl ?_)
      refine TL.run ft_mark_ok [0] rfl rfl ?_
      obtain rfl := Option.some.inj h
      exact TL.nil (X.seq (T.ret (X.rs (X.done1 [1] Tryz.results16 (RV.tm rfl) ⟨rfl, rfl, rfl⟩ (by rfl) (.inl rfl)))))
    · replace h := ifF c23 h
      replace c23 := eq_false_of_ne_true c23
      refine X.seq ?_
      refine T.no rfl c23 ?_
      refine T.skip (X.seq (T.seq (T.region rfl ?_)))
      obtain ⟨x24, hx25, h⟩ := Option.bind_eq_some_iff.1 h
      refine TL.rb ft_mark_ok nt_mark_ok 0 rfl 2 rfl rfl ?_
      refine TL.ce rfl .u (.fn Tryz.call41 rfl) (f_txn_Rise_spec a0.fTopics _ _ _ hx25) (fun _ hs => (SrcE.old hs hX)) rfl ?_
      refine TL.run ft_mark_ok [3] rfl rfl ?_
      obtain rfl := Option.some.inj h
      exact TL.nil (X.seq (T.ret (X.done1 [1] Tryz.results16 (RV.tm rfl) ⟨rfl, rfl, rfl⟩ (by rfl) (.inl rfl))))
def f_mark_Check_l1 (a1 : Int) : List MarkMark → Int → Option (Lp Int Int)
  | [], y4 => some (Lp.go y4)
  | x10 :: xs, y4 => (f_mark_MarkCheck x10 a1).bind fun x18 => if x18 = 0 then (f_mark_Check_l1 a1 xs y4) else some (Lp.ret x18)
def f_mark_Check (a0 : List MarkMark) (a1 : Int) : Option (Int) := if (a0.length : Int) = 0 then some 10 else ((f_mark_Check_l1 a1 a0 0).bind fun e => match e with | .ret r => some r | .go y21 => some 0)
set_option maxRecDepth 100000 in
set_option maxHeartbeats 4000000 in
theorem f_mark_Check_spec (a0 : List MarkMark) (A1 : Option Addr) (c2 : Nat) (a1 : Int) (r : Int) (h : f_mark_Check a0 a1 = some r) : SpecX Tryz.prog 5 #[.slice A1 a0.length c2, .int .i64 a1] (RX.of (sliceRd 5 MarkMark_rd) [.slice A1 a0.length c2] a0) (EmpR) (fun v A' N => v = .int .i64 r ∧ A' = EmpR ∧ N = []) := by
  refine enterA Tryz.func5 rfl Tryz.ntmps5 rfl ?_
  intro F w hX
  unfold f_mark_Check at h
  refine T.seq (T.region rfl ?_)
  refine TL.run ft_mark_ok [0] rfl rfl ?_
  refine TL.nil (X.seq (T.seq (T.seq (T.region rfl ?_))))
  refine TL.run ft_mark_ok [0] rfl rfl ?_
  refine TL.q rfl .u (Ex.lenS rfl Tryz.runUnderlying27) rfl ?_
  refine TL.run ft_mark_ok [2] rfl rfl ?_
  by_cases c3 : (a0.length : Int) = 0
  · replace h := ifT c3 h
    refine TL.nil (X.seq ?_)
    refine T.yes rfl (decide_eq_true c3) ?_
    refine T.seq (T.region rfl ?_)
    refine TL.run ft_mark_ok [0] rfl rfl ?_
    obtain rfl := Option.some.inj h
    exact TL.nil (X.seq (T.ret (X.rs (X.done1 [0] Tryz.results5 (RV.tm rfl) ⟨rfl, rfl, rfl⟩ (by rfl) (.inl rfl)))))
  · replace h := ifF c3 h
    refine TL.nil (X.seq ?_)
    refine T.no rfl (decide_eq_false c3) ?_
    refine T.skip (X.seq (T.seq (T.seq (T.region rfl ?_))))
    refine TL.run ft_mark_ok [0] rfl rfl ?_
    refine TL.q rfl .u (Ex.lenS rfl Tryz.runUnderlying27) rfl ?_
    refine TL.run ft_mark_ok [2] rfl rfl ?_
    refine TL.nil (X.seq (T.block ?_))
    obtain ⟨E6, hE7, hO8⟩ := Option.bind_eq_some_iff.1 h
    have hk12len := RX.len_le hX
    refine T.lp (fun m e Rs => ∃ (y4 : Int) (k5 : Nat), k5 + m = a0.length ∧ e = [(1, .int .i64 a1), (4, .int .i64 y4), (11, .slice A1 a0.length c2), (12, .int .i64 (a0.length : Int)), (13, .int .i64 (k5 : Int))] ∧ Rs = [EmpR] ∧ f_mark_Check_l1 a1 (a0.drop k5) y4 = some E6) (a0.length) [0] ⟨0, 0, by simp, rfl, rfl, by rw [List.drop_zero]; exact hE7⟩ (by rfl) (by rfl) ?_
    rintro m9 _ _ ⟨y4, k5, hk12, rfl, rfl, hl11⟩
    clear hE7 h
    cases m9 with
    | zero =>
      have h := hl11
      clear hl11
      rw [List.drop_of_length_le (by omega), f_mark_Check_l1] at h
      have hk12ge : ¬ ((k5 : Int) < (a0.length : Int)) := by omega
      refine T.seq (T.region rfl ?_)
      refine TL.run ft_mark_ok [0] rfl rfl ?_
      refine TL.nil (X.seq (T.seq ?_))
      refine T.no rfl (decide_eq_false hk12ge) ?_
      obtain rfl := Option.some.inj h
      replace h := hO8
      clear hO8
      try dsimp only at h
      refine T.exit (X.exs (X.exs (X.ex (X.seq (T.seq (T.region rfl ?_))))))
      refine TL.run ft_mark_ok [0] rfl rfl ?_
      obtain rfl := Option.some.inj h
      exact TL.nil (X.seq (T.ret (X.done1 [0] Tryz.results5 (RV.tm rfl) ⟨rfl, rfl, rfl⟩ (by rfl) (.inl rfl))))
    | succ m9 =>
      have h := hl11
      clear hl11
      obtain ⟨x10, hxx10⟩ : ∃ x, a0[k5]? = some x := ⟨_, List.getElem?_eq_getElem (by omega)⟩
      rw [drop_cons hxx10, f_mark_Check_l1] at h
      have hk12lt : (k5 : Int) < (a0.length : Int) := by omega
      refine T.seq (T.region rfl ?_)
      refine TL.run ft_mark_ok [0] rfl rfl ?_
      refine TL.nil (X.seq (T.seq ?_))
      refine T.yes rfl (decide_eq_true hk12lt) ?_
      obtain ⟨gz13, oz13, rfl, z13cs, z13cl, z13cc, z13nf, z13r⟩ := RX.elem (by decide) hX hxx10
      obtain ⟨z13S, z13r, z13rr⟩ := z13r
      obtain ⟨A14, c15, rfl, z13s0⟩ := z13r
      have hX16 : (RX.of (sliceRd 2 Top_rd) [.slice A14 x10.fTopics.length c15] x10.fTopics).reads w F := ⟨z13S, z13s0, z13rr⟩
      refine T.skip (X.seq (T.seq (T.block (T.seq (T.region rfl ?_)))))
      refine TL.q rfl .u (Ex.ixS (k := k5) rfl rfl rfl Tryz.runUnderlying27 Tryz.sizeOf62 (List.getElem?_eq_some_iff.1 hxx10).1) rfl ?_
      refine TL.q rfl .u (Ex.oS (us := [.int .i64 x10.fProducer, .int .i64 x10.fEpoch, .bool x10.fCommit, .slice A14 x10.fTopics.length c15, .int .i64 x10.fCoordinator]) 0 rfl Tryz.isAgg62 Tryz.sizeOf62 z13nf z13cc rfl rfl rfl) rfl ?_
      refine TL.alloc rfl .u Tryz.zeroValue62 rfl (fun b17 => ?_)
      refine TL.st0 (cs' := #[.int .i64 x10.fProducer, .int .i64 x10.fEpoch, .bool x10.fCommit, .slice A14 x10.fTopics.length c15, .int .i64 x10.fCoordinator]) rfl .u rfl rfl Tryz.sizeOf62 rfl rfl rfl rfl ?_
      refine TL.nil (X.seq (T.seq (T.region rfl ?_)))
      refine TL.q rfl .u (Ex.bS (us := [.int .i64 x10.fProducer, .int .i64 x10.fEpoch, .bool x10.fCommit, .slice A14 x10.fTopics.length c15, .int .i64 x10.fCoordinator]) 0 rfl Tryz.isAgg62 Tryz.sizeOf62 rfl rfl rfl) rfl ?_
      obtain ⟨x18, hx19, h⟩ := Option.bind_eq_some_iff.1 h
      refine TL.run ft_mark_ok [1] rfl rfl ?_
      refine TL.ce rfl .u (.fn Tryz.call16 rfl) (f_mark_MarkCheck_spec x10 _ _ a1 _ hx19) (fun _ hs => (SrcE.old hs hX16)) rfl ?_
      refine TL.run ft_mark_ok [3] rfl rfl ?_
      refine TL.nil (X.seq (T.seq (T.region rfl ?_)))
      refine TL.run ft_mark_ok [0, 1] rfl rfl ?_
      by_cases c20 : x18 = 0
      · replace h := ifT c20 h
        refine TL.nil (X.seq ?_)
        refine T.no rfl (bn_f (decide_eq_true c20)) ?_
        refine T.skip (X.blk (X.seq (T.region rfl ?_)))
        refine TL.q rfl .u (Ex.add rfl rfl (by omega)) rfl ?_
        refine TL.run ft_mark_ok [1] rfl rfl ?_
        exact TL.nil (X.back (m' := m9) [1] (by omega) ⟨y4, k5 + 1, by omega, rfl, rfl, h⟩ (by rfl) (by rfl))
      · replace h := ifF c20 h
        refine TL.nil (X.seq ?_)
        refine T.yes rfl (bn_t (decide_eq_false c20)) ?_
        refine T.seq (T.region rfl ?_)
        refine TL.run ft_mark_ok [0, 1] rfl rfl ?_
        obtain rfl := Option.some.inj h
        replace h := hO8
        clear hO8
        try dsimp only at h
        obtain rfl := Option.some.inj h
        exact TL.nil (X.seq (T.ret (X.rb (X.rs (X.rs (X.rb (X.rs (X.done1 [1] Tryz.results5 (RV.tm rfl) ⟨rfl, rfl, rfl⟩ (by rfl) (.inl rfl)))))))))
def f_mark_Write_l1 (a2 : Int) : List MarkMark → (List UInt8 × Int) → Option (List UInt8 × Int)
  | [], st9 => some st9
  | x14 :: xs, st9 => (gOInt st9 x14.fProducer 8).bind fun st22 => (gOInt st22 x14.fEpoch 2).bind fun st24 => (f_txn_PutBool st24 x14.fCommit).bind fun st26 => (f_value_PutTopics st26 x14.fTopics).bind fun st28 => (if a2 > 0 then ((gOInt st28 x14.fCoordinator 4).bind fun st36 => some st36) else some st28).bind fun st33 => f_mark_Write_l1 a2 xs st33
def f_mark_Write (st : List UInt8 × Int) (a1 : List MarkMark) (a2 : Int) : Option (List UInt8 × Int) := (f_mark_Check a1 a2).bind fun x3 => if x3 = 0 then ((gOInt st (a1.length : Int) 4).bind fun st6 => (f_mark_Write_l1 a2 a1 st6).bind fun st39 => some st39) else ((gOFail st x3).bind fun st40 => some st40)
set_option maxRecDepth 100000 in
set_option maxHeartbeats 4000000 in
theorem f_mark_Write_spec (g : Nat) (st : List UInt8 × Int) (a1 : List MarkMark) (A1 : Option Addr) (c2 : Nat) (a2 : Int) (r : List UInt8 × Int) (h : f_mark_Write st a1 a2 = some r) : SpecX Tryz.prog 14 #[.pointer (some ⟨g, 0, none⟩), .slice A1 a1.length c2, .int .i64 a2] (RX.of (sliceRd 5 MarkMark_rd) [.slice A1 a1.length c2] a1) (OutR g st) (fun v A' N => v = .tuple #[] ∧ A' = OutR g r ∧ N = []) := by
  refine enterA Tryz.func14 rfl Tryz.ntmps14 rfl ?_
  intro F w hX
  unfold f_mark_Write at h
  refine T.seq (T.seq (T.region rfl ?_))
  obtain ⟨x3, hx4, h⟩ := Option.bind_eq_some_iff.1 h
  refine TL.run ft_mark_ok [0, 1] rfl rfl ?_
  refine TL.ce rfl .u (.fn Tryz.call5 rfl) (f_mark_Check_spec a1 _ _ a2 _ hx4) (fun _ hs => (SrcE.old hs hX)) rfl ?_
  refine TL.run ft_mark_ok [3] rfl rfl ?_
  refine TL.nil (X.seq (T.seq (T.region rfl ?_)))
  refine TL.run ft_mark_ok [0, 1] rfl rfl ?_
  by_cases c5 : x3 = 0
  · replace h := ifT c5 h
    refine TL.nil (X.seq ?_)
    refine T.no rfl (bn_f (decide_eq_true c5)) ?_
    refine T.skip (X.seq (T.seq (T.region rfl ?_)))
    refine TL.run ft_mark_ok [0, 1] rfl rfl ?_
    refine TL.q rfl .u (Ex.lenS rfl Tryz.runUnderlying27) rfl ?_
    obtain ⟨st6, hx7, h⟩ := Option.bind_eq_some_iff.1 h
    refine TL.c0 rfl .u (.fn Tryz.call24 rfl) (gOInt_spec g st (a1.length : Int) 4 _ hx7) (fun _ hs => (Src.triv _)) rfl ?_
    refine TL.nil (X.seq (T.seq (T.region rfl ?_)))
    refine TL.run ft_mark_ok [0] rfl rfl ?_
    refine TL.q rfl .u (Ex.lenS rfl Tryz.runUnderlying27) rfl ?_
    refine TL.run ft_mark_ok [2] rfl rfl ?_
    refine TL.nil (X.seq (T.block ?_))
    obtain ⟨E10, hE11, hO12⟩ := Option.bind_eq_some_iff.1 h
    have hk16len := RX.len_le hX
    refine T.lp (fun m e Rs => ∃ (k8 : Nat) (st9 : List UInt8 × Int), k8 + m = a1.length ∧ e = [(0, .pointer (some ⟨g, 0, none⟩)), (2, .int .i64 a2), (21, .slice A1 a1.length c2), (22, .int .i64 (a1.length : Int)), (23, .int .i64 (k8 : Int))] ∧ Rs = [OutR g st9] ∧ f_mark_Write_l1 a2 (a1.drop k8) st9 = some E10) (a1.length) [0] ⟨0, st6, by simp, rfl, rfl, by rw [List.drop_zero]; exact hE11⟩ (by rfl) (by rfl) ?_
    rintro m13 _ _ ⟨k8, st9, hk16, rfl, rfl, hl15⟩
    clear hE11 h
    cases m13 with
    | zero =>
      have h := hl15
      clear hl15
      rw [List.drop_of_length_le (by omega), f_mark_Write_l1] at h
      have hk16ge : ¬ ((k8 : Int) < (a1.length : Int)) := by omega
      refine T.seq (T.region rfl ?_)
      refine TL.run ft_mark_ok [0] rfl rfl ?_
      refine TL.nil (X.seq (T.seq ?_))
      refine T.no rfl (decide_eq_false hk16ge) ?_
      obtain rfl := Option.some.inj h
      replace h := hO12
      clear hO12
      try dsimp only at h
      obtain rfl := Option.some.inj h
      exact T.exit (X.exs (X.exs (X.ex (X.done0 [0] Tryz.results14 ⟨rfl, rfl, rfl⟩ (by rfl) (.inr rfl)))))
    | succ m13 =>
      have h := hl15
      clear hl15
      obtain ⟨x14, hxx14⟩ : ∃ x, a1[k8]? = some x := ⟨_, List.getElem?_eq_getElem (by omega)⟩
      rw [drop_cons hxx14, f_mark_Write_l1] at h
      have hk16lt : (k8 : Int) < (a1.length : Int) := by omega
      refine T.seq (T.region rfl ?_)
      refine TL.run ft_mark_ok [0] rfl rfl ?_
      refine TL.nil (X.seq (T.seq ?_))
      refine T.yes rfl (decide_eq_true hk16lt) ?_
      obtain ⟨gz17, oz17, rfl, z17cs, z17cl, z17cc, z17nf, z17r⟩ := RX.elem (by decide) hX hxx14
      obtain ⟨z17S, z17r, z17rr⟩ := z17r
      obtain ⟨A18, c19, rfl, z17s0⟩ := z17r
      have hX20 : (RX.of (sliceRd 2 Top_rd) [.slice A18 x14.fTopics.length c19] x14.fTopics).reads w F := ⟨z17S, z17s0, z17rr⟩
      refine T.skip (X.seq (T.seq (T.block (T.seq (T.region rfl ?_)))))
      refine TL.q rfl .u (Ex.ixS (k := k8) rfl rfl rfl Tryz.runUnderlying27 Tryz.sizeOf62 (List.getElem?_eq_some_iff.1 hxx14).1) rfl ?_
      refine TL.q rfl .u (Ex.oS (us := [.int .i64 x14.fProducer, .int .i64 x14.fEpoch, .bool x14.fCommit, .slice A18 x14.fTopics.length c19, .int .i64 x14.fCoordinator]) 0 rfl Tryz.isAgg62 Tryz.sizeOf62 z17nf z17cc rfl rfl rfl) rfl ?_
      refine TL.alloc rfl .u Tryz.zeroValue62 rfl (fun b21 => ?_)
      refine TL.st0 (cs' := #[.int .i64 x14.fProducer, .int .i64 x14.fEpoch, .bool x14.fCommit, .slice A18 x14.fTopics.length c19, .int .i64 x14.fCoordinator]) rfl .u rfl rfl Tryz.sizeOf62 rfl rfl rfl rfl ?_
      refine TL.nil (X.seq (T.seq (T.region rfl ?_)))
      obtain ⟨st22, hx23, h⟩ := Option.bind_eq_some_iff.1 h
      refine TL.rb ft_mark_ok nt_mark_ok 0 rfl 3 rfl rfl ?_
      refine TL.c1 rfl .u (.fn Tryz.call24 rfl) (gOInt_spec g st9 x14.fProducer 8 _ hx23) (fun _ hs => (Src.triv _)) rfl ?_
      refine TL.nil (X.seq (T.seq (T.region rfl ?_)))
      obtain ⟨st24, hx25, h⟩ := Option.bind_eq_some_iff.1 h
      refine TL.rb ft_mark_ok nt_mark_ok 0 rfl 3 rfl rfl ?_
      refine TL.c1 rfl .u (.fn Tryz.call24 rfl) (gOInt_spec g st22 x14.fEpoch 2 _ hx25) (fun _ hs => (Src.triv _)) rfl ?_
      refine TL.nil (X.seq (T.seq (T.region rfl ?_)))
      obtain ⟨st26, hx27, h⟩ := Option.bind_eq_some_iff.1 h
      refine TL.rb ft_mark_ok nt_mark_ok 0 rfl 3 rfl rfl ?_
      refine TL.c1 rfl .u (.fn Tryz.call30 rfl) (f_txn_PutBool_spec g st24 x14.fCommit _ hx27) (fun _ hs => (Src.triv _)) rfl ?_
      refine TL.nil (X.seq (T.seq (T.region rfl ?_)))
      obtain ⟨st28, hx29, h⟩ := Option.bind_eq_some_iff.1 h
      refine TL.rb ft_mark_ok nt_mark_ok 0 rfl 3 rfl rfl ?_
      refine TL.c1 rfl .u (.fn Tryz.call31 rfl) (f_value_PutTopics_spec g st26 x14.fTopics _ _ _ hx29) (fun _ hs => (Src.old hs hX20)) rfl ?_
      refine TL.nil (X.seq (T.seq (T.region rfl ?_)))
      refine TL.run ft_mark_ok [0, 1] rfl rfl ?_
      refine TL.nil (X.seq ?_)
      obtain ⟨st33, h, hk34⟩ := Option.bind_eq_some_iff.1 h
      refine T.jq (fun e Rs => e = [(0, .pointer (some ⟨g, 0, none⟩)), (2, .int .i64 a2), (21, .slice (some ⟨gz17, oz17, none⟩) a1.length c2), (22, .int .i64 (a1.length : Int)), (23, .int .i64 (k8 : Int))] ∧ Rs = [BlkR b21 62 #[.int .i64 x14.fProducer, .int .i64 x14.fEpoch, .bool x14.fCommit, .slice A18 x14.fTopics.length c19, .int .i64 x14.fCoordinator], OutR g st33]) ?_ ?_
      · clear hk34
        by_cases c35 : a2 > 0
        · replace h := ifT c35 h
          refine T.yes rfl (decide_eq_true c35) ?_
          refine T.region rfl ?_
          obtain ⟨st36, hx37, h⟩ := Option.bind_eq_some_iff.1 h
          refine TL.rb ft_mark_ok nt_mark_ok 0 rfl 3 rfl rfl ?_
          refine TL.c1 rfl .u (.fn Tryz.call24 rfl) (gOInt_spec g st28 x14.fCoordinator 4 _ hx37) (fun _ hs => (Src.triv _)) rfl ?_
          cases h
          exact TL.nil (X.jq [0, 0] ⟨rfl, rfl⟩ (by rfl) (by rfl))
        · replace h := ifF c35 h
          refine T.no rfl (decide_eq_false c35) ?_
          cases h
          exact T.skip (X.jq [0, 0] ⟨rfl, rfl⟩ (by rfl) (by rfl))
      · rintro _ _ ⟨rfl, rfl⟩
        clear h
        have h := hk34
        clear hk34
        try dsimp only at h
        refine X.blk (X.seq (T.region rfl ?_))
        refine TL.q rfl .u (Ex.add rfl rfl (by omega)) rfl ?_
        refine TL.run ft_mark_ok [1] rfl rfl ?_
        exact TL.nil (X.back (m' := m13) [1] (by omega) ⟨k8 + 1, st33, by omega, rfl, rfl, h⟩ (by rfl) (by rfl))
  · replace h := ifF c5 h
    refine TL.nil (X.seq ?_)
    refine T.yes rfl (bn_t (decide_eq_false c5)) ?_
    refine T.seq (T.region rfl ?_)
    obtain ⟨st40, hx41, h⟩ := Option.bind_eq_some_iff.1 h
    refine TL.run ft_mark_ok [0, 1] rfl rfl ?_
    refine TL.c0 rfl .u (.fn Tryz.call22 rfl) (gOFail_spec g st x3 _ hx41) (fun _ hs => (Src.triv _)) rfl ?_
    obtain rfl := Option.some.inj h
    exact TL.nil (X.seq (T.ret (X.rs (X.done0 [0] Tryz.results14 ⟨rfl, rfl, rfl⟩ (by rfl) (.inl rfl)))))
end Go.Proofs.YtlhgogjcaegehaaGreat.Sl
namespace Go.Proofs.YtlhgogjcaegehaaGreat.Sl
open Go.RowKit
set_option linter.unusedVariables false
set_option linter.unusedSimpArgs false
set_option maxRecDepth 100000
def ft_cursitorlaw19 : FTab := [(62, 3, 3)]
theorem ft_cursitorlaw19_ok : (ft_cursitorlaw19).OK Tryz.prog := ⟨FOK.mk Tryz.runUnderlying62 rfl Tryz.sizeOf60 rfl, trivial⟩
def nt_cursitorlaw19 : List Nat := [60]
theorem nt_cursitorlaw19_ok : NOK Tryz.prog nt_cursitorlaw19 := ⟨Tryz.isAgg60, trivial⟩
def f_l19_Few_l1 : List MarkMark → Int → Option (Lp Int Int)
  | [], y4 => some (Lp.go y4)
  | x10 :: xs, y4 => (f_l14_Few x10.fTopics).bind fun x18 => if x18 = 0 then some (Lp.ret 0) else (f_l19_Few_l1 xs y4)
def f_l19_Few (a0 : List MarkMark) : Option (Int) := if (a0.length : Int) > 20 then some 0 else ((f_l19_Few_l1 a0 0).bind fun e => match e with | .ret r => some r | .go y21 => some 1)
set_option maxRecDepth 100000 in
set_option maxHeartbeats 4000000 in
theorem f_l19_Few_spec (a0 : List MarkMark) (A1 : Option Addr) (c2 : Nat) (r : Int) (h : f_l19_Few a0 = some r) : SpecX Tryz.prog 7 #[.slice A1 a0.length c2] (RX.of (sliceRd 5 MarkMark_rd) [.slice A1 a0.length c2] a0) (EmpR) (fun v A' N => v = .int .i64 r ∧ A' = EmpR ∧ N = []) := by
  refine enterA Tryz.func7 rfl Tryz.ntmps7 rfl ?_
  intro F w hX
  unfold f_l19_Few at h
  refine T.seq (T.region rfl ?_)
  refine TL.run ft_cursitorlaw19_ok [0] rfl rfl ?_
  refine TL.nil (X.seq (T.seq (T.seq (T.region rfl ?_))))
  refine TL.run ft_cursitorlaw19_ok [0] rfl rfl ?_
  refine TL.q rfl .u (Ex.lenS rfl Tryz.runUnderlying27) rfl ?_
  refine TL.run ft_cursitorlaw19_ok [2] rfl rfl ?_
  by_cases c3 : (a0.length : Int) > 20
  · replace h := ifT c3 h
    refine TL.nil (X.seq ?_)
    refine T.yes rfl (decide_eq_true c3) ?_
    refine T.seq (T.region rfl ?_)
    refine TL.run ft_cursitorlaw19_ok [0] rfl rfl ?_
    obtain rfl := Option.some.inj h
    exact TL.nil (X.seq (T.ret (X.rs (X.done1 [0] Tryz.results7 (RV.tm rfl) ⟨rfl, rfl, rfl⟩ (by rfl) (.inl rfl)))))
  · replace h := ifF c3 h
    refine TL.nil (X.seq ?_)
    refine T.no rfl (decide_eq_false c3) ?_
    refine T.skip (X.seq (T.seq (T.seq (T.region rfl ?_))))
    refine TL.run ft_cursitorlaw19_ok [0] rfl rfl ?_
    refine TL.q rfl .u (Ex.lenS rfl Tryz.runUnderlying27) rfl ?_
    refine TL.run ft_cursitorlaw19_ok [2] rfl rfl ?_
    refine TL.nil (X.seq (T.block ?_))
    obtain ⟨E6, hE7, hO8⟩ := Option.bind_eq_some_iff.1 h
    have hk12len := RX.len_le hX
    refine T.lp (fun m e Rs => ∃ (y4 : Int) (k5 : Nat), k5 + m = a0.length ∧ e = [(2, .int .i64 y4), (8, .slice A1 a0.length c2), (9, .int .i64 (a0.length : Int)), (10, .int .i64 (k5 : Int))] ∧ Rs = [EmpR] ∧ f_l19_Few_l1 (a0.drop k5) y4 = some E6) (a0.length) [0] ⟨0, 0, by simp, rfl, rfl, by rw [List.drop_zero]; exact hE7⟩ (by rfl) (by rfl) ?_
    rintro m9 _ _ ⟨y4, k5, hk12, rfl, rfl, hl11⟩
    clear hE7 h
    cases m9 with
    | zero =>
      have h := hl11
      clear hl11
      rw [List.drop_of_length_le (by omega), f_l19_Few_l1] at h
      have hk12ge : ¬ ((k5 : Int) < (a0.length : Int)) := by omega
      refine T.seq (T.region rfl ?_)
      refine TL.run ft_cursitorlaw19_ok [0] rfl rfl ?_
      refine TL.nil (X.seq (T.seq ?_))
      refine T.no rfl (decide_eq_false hk12ge) ?_
      obtain rfl := Option.some.inj h
      replace h := hO8
      clear hO8
      try dsimp only at h
      refine T.exit (X.exs (X.exs (X.ex (X.seq (T.seq (T.region rfl ?_))))))
      refine TL.run ft_cursitorlaw19_ok [0] rfl rfl ?_
      obtain rfl := Option.some.inj h
      exact TL.nil (X.seq (T.ret (X.done1 [0] Tryz.results7 (RV.tm rfl) ⟨rfl, rfl, rfl⟩ (by rfl) (.inl rfl))))
    | succ m9 =>
      have h := hl11
      clear hl11
      obtain ⟨x10, hxx10⟩ : ∃ x, a0[k5]? = some x := ⟨_, List.getElem?_eq_getElem (by omega)⟩
      rw [drop_cons hxx10, f_l19_Few_l1] at h
      have hk12lt : (k5 : Int) < (a0.length : Int) := by omega
      refine T.seq (T.region rfl ?_)
      refine TL.run ft_cursitorlaw19_ok [0] rfl rfl ?_
      refine TL.nil (X.seq (T.seq ?_))
      refine T.yes rfl (decide_eq_true hk12lt) ?_
      obtain ⟨gz13, oz13, rfl, z13cs, z13cl, z13cc, z13nf, z13r⟩ := RX.elem (by decide) hX hxx10
      obtain ⟨z13S, z13r, z13rr⟩ := z13r
      obtain ⟨A14, c15, rfl, z13s0⟩ := z13r
      have hX16 : (RX.of (sliceRd 2 Top_rd) [.slice A14 x10.fTopics.length c15] x10.fTopics).reads w F := ⟨z13S, z13s0, z13rr⟩
      refine T.skip (X.seq (T.seq (T.block (T.seq (T.region rfl ?_)))))
      refine TL.q rfl .u (Ex.ixS (k := k5) rfl rfl rfl Tryz.runUnderlying27 Tryz.sizeOf62 (List.getElem?_eq_some_iff.1 hxx10).1) rfl ?_
      refine TL.q rfl .u (Ex.oS (us := [.int .i64 x10.fProducer, .int .i64 x10.fEpoch, .bool x10.fCommit, .slice A14 x10.fTopics.length c15, .int .i64 x10.fCoordinator]) 0 rfl Tryz.isAgg62 Tryz.sizeOf62 z13nf z13cc rfl rfl rfl) rfl ?_
      refine TL.alloc rfl .u Tryz.zeroValue62 rfl (fun b17 => ?_)
      refine TL.st0 (cs' := #[.int .i64 x10.fProducer, .int .i64 x10.fEpoch, .bool x10.fCommit, .slice A14 x10.fTopics.length c15, .int .i64 x10.fCoordinator]) rfl .u rfl rfl Tryz.sizeOf62 rfl rfl rfl rfl ?_
      refine TL.nil (X.seq (T.seq (T.region rfl ?_)))
      obtain ⟨x18, hx19, h⟩ := Option.bind_eq_some_iff.1 h
      refine TL.rb ft_cursitorlaw19_ok nt_cursitorlaw19_ok 0 rfl 2 rfl rfl ?_
      refine TL.ce rfl .u (.fn Tryz.call18 rfl) (f_l14_Few_spec x10.fTopics _ _ _ hx19) (fun _ hs => (SrcE.old hs hX16)) rfl ?_
      refine TL.run ft_cursitorlaw19_ok [3] rfl rfl ?_
      by_cases c20 : x18 = 0
      · replace h := ifT c20 h
        refine TL.nil (X.seq ?_)
        refine T.yes rfl (decide_eq_true c20) ?_
        refine T.seq (T.region rfl ?_)
        refine TL.run ft_cursitorlaw19_ok [0] rfl rfl ?_
        obtain rfl := Option.some.inj h
        replace h := hO8
        clear hO8
        try dsimp only at h
        obtain rfl := Option.some.inj h
        exact TL.nil (X.seq (T.ret (X.rb (X.rs (X.rs (X.rb (X.rs (X.done1 [1] Tryz.results7 (RV.tm rfl) ⟨rfl, rfl, rfl⟩ (by rfl) (.inl rfl)))))))))
      · replace h := ifF c20 h
        refine TL.nil (X.seq ?_)
        refine T.no rfl (decide_eq_false c20) ?_
        refine T.skip (X.blk (X.seq (T.region rfl ?_)))
        refine TL.q rfl .u (Ex.add rfl rfl (by omega)) rfl ?_
        refine TL.run ft_cursitorlaw19_ok [1] rfl rfl ?_
        exact TL.nil (X.back (m' := m9) [1] (by omega) ⟨y4, k5 + 1, by omega, rfl, rfl, h⟩ (by rfl) (by rfl))
end Go.Proofs.YtlhgogjcaegehaaGreat.Sl
namespace Go.Proofs.YtlhgogjcaegehaaGreat.Sl
open Go.RowKit
set_option linter.unusedVariables false
set_option linter.unusedSimpArgs false
noncomputable instance decMark : DecidableEq MarkMark := fun a b => Classical.propDecidable (a = b)
def chkM (v : Int) (m : MarkMark) : Int := if (who m.fProducer m.fEpoch && (tmB m.fCoordinator && !(decide (v = 0) && decide (m.fCoordinator ≠ 0)))) = true then riseV m.fTopics else 11
def firstM (v : Int) : List MarkMark → Int
  | [] => 0
  | m :: l => if chkM v m = 0 then firstM v l else chkM v m
def chkMs (v : Int) (l : List MarkMark) : Int := if l.length = 0 then 10 else firstM v l
def okW (m : MarkMark) : Prop := wI m.fEpoch ∧ wI m.fCoordinator ∧ wTl m.fTopics
theorem markCheck (v : Int) (m : MarkMark) (h : okW m) : f_mark_MarkCheck m v = some (chkM v m) := by
  obtain ⟨h1, h2, h3⟩ := h
  unfold f_mark_MarkCheck chkM
  rw [who_eq _ _ h1, rise_txn _ h3, Option.bind_some]
  have hc : (if m.fCoordinator < 0 then some true else ((gFits m.fCoordinator 4).bind fun x18 => if x18 = true then (if v = 0 then (if m.fCoordinator > 0 then some true else some false) else some false) else some true)) = some (!(tmB m.fCoordinator && !(decide (v = 0) && decide (m.fCoordinator ≠ 0)))) := by
    unfold tmB
    by_cases a : m.fCoordinator < 0
    · rw [if_pos a, decide_eq_false (by omega)]; rfl
    · rw [if_neg a, gFits_eq _ _ h2, fits_4, Option.bind_some]
      by_cases b : m.fCoordinator ≤ 2147483647
      · rw [if_pos (decide_eq_true (by omega)), decide_eq_true (by omega)]
        by_cases c : v = 0
        · rw [if_pos c, decide_eq_true c]
          by_cases d : m.fCoordinator > 0
          · rw [if_pos d, decide_eq_true (by omega)]; rfl
          · rw [if_neg d, decide_eq_false (by omega)]; rfl
        · rw [if_neg c, decide_eq_false c]; rfl
      · rw [if_neg (by simp; omega), decide_eq_false (by omega)]; rfl
  rw [hc]
  cases who m.fProducer m.fEpoch <;> cases (tmB m.fCoordinator && !(decide (v = 0) && decide (m.fCoordinator ≠ 0))) <;> rfl
theorem mcheck_loop (v : Int) (y : Int) : ∀ l : List MarkMark, (∀ m, m ∈ l → okW m) → f_mark_Check_l1 v l y = some (if firstM v l = 0 then .go y else .ret (firstM v l))
  | [], _ => rfl
  | m :: l, h => by
    rw [f_mark_Check_l1, markCheck v m (h m (.head _)), Option.bind_some, firstM]
    by_cases hc : chkM v m = 0
    · rw [if_pos hc, if_pos hc, mcheck_loop v y l (fun z hz => h z (.tail _ hz))]
    · rw [if_neg hc, if_neg hc, if_neg hc]
theorem mCheck (v : Int) (l : List MarkMark) (h : ∀ m, m ∈ l → okW m) : f_mark_Check l v = some (chkMs v l) := by
  unfold f_mark_Check chkMs
  by_cases h0 : l.length = 0
  · rw [if_pos (by omega), if_pos h0]
  · rw [if_neg (by omega), if_neg h0, mcheck_loop v 0 l h]
    by_cases hc : firstM v l = 0
    · rw [if_pos hc, hc]; rfl
    · rw [if_neg hc]; rfl
def encM (v : Int) (m : MarkMark) : List UInt8 := be m.fProducer 8 ++ (be m.fEpoch 2 ++ (encBool m.fCommit ++ (encTs m.fTopics ++ (if v > 0 then be m.fCoordinator 4 else []))))
def okM (v : Int) (m : MarkMark) : Prop := fits m.fProducer 8 = true ∧ fits m.fEpoch 2 = true ∧ okTs m.fTopics ∧ (if v > 0 then fits m.fCoordinator 4 = true else m.fCoordinator = 0)
theorem encM_len (v : Int) (m : MarkMark) : 15 + wTs m.fTopics ≤ (encM v m).length ∧ (encM v m).length ≤ 19 + wTs m.fTopics := by
  have : (encBool m.fCommit).length = 1 := be_length _ _
  have h2 := encTs_len m.fTopics
  simp only [encM, encTs, List.length_append, be_length, h2]
  split <;> simp only [be_length, List.length_nil] <;> omega
end Go.Proofs.YtlhgogjcaegehaaGreat.Sl
namespace Go.Proofs.YtlhgogjcaegehaaGreat.Sl
open Go.RowKit
set_option linter.unusedVariables false
set_option linter.unusedSimpArgs false
def encMs (v : Int) (l : List MarkMark) : List UInt8 := be (l.length : Int) 4 ++ encs (encM v) l
end Go.Proofs.YtlhgogjcaegehaaGreat.Sl
namespace Go.Proofs.YtlhgogjcaegehaaGreat.Sl
open Go.RowKit
set_option linter.unusedVariables false
set_option linter.unusedSimpArgs false
theorem mwrite_loop (v : Int) : ∀ (l : List MarkMark) (t : List UInt8), (∀ m, m ∈ l → okM v m ∧ wTs m.fTopics ≤ 3000) → t.length + (encs (encM v) l).length ≤ 800000 → f_mark_Write_l1 v l (t, 0) = some (t ++ encs (encM v) l, 0)
  | [], t, _, _ => by rw [f_mark_Write_l1, encs, List.append_nil]
  | m :: l, t, h, ht => by
    obtain ⟨⟨o1, o2, o3, o4⟩, hw⟩ := h m (.head _)
    rw [encs, List.length_append] at ht
    have hl := (encM_len v m).1
    have hb : (encBool m.fCommit).length = 1 := be_length _ _
    rw [f_mark_Write_l1, gOInt_z o1 (by omega), Option.bind_some, gOInt_z o2 (by rw [List.length_append, be_length]; omega), Option.bind_some, putBool _ _ (by rw [List.length_append, List.length_append, be_length, be_length]; omega), Option.bind_some,
      put_topics m.fTopics _ o3.2 (by rw [List.length_append, List.length_append, List.length_append, be_length, be_length, hb]; omega) hw, Option.bind_some]
    have ih := fun t' (h' : t'.length + (encs (encM v) l).length ≤ 800000) => mwrite_loop v l t' (fun z hz => h z (.tail _ hz)) h'
    have htl : (encTs m.fTopics).length = 4 + wTs m.fTopics := by rw [encTs, List.length_append, be_length, encTs_len]
    by_cases hv : v > 0
    · rw [if_pos hv] at o4
      have e : encM v m = be m.fProducer 8 ++ (be m.fEpoch 2 ++ (encBool m.fCommit ++ (encTs m.fTopics ++ be m.fCoordinator 4))) := by rw [encM, if_pos hv]
      have el : (encM v m).length = 8 + (2 + (1 + (4 + wTs m.fTopics + 4))) := by rw [e]; simp only [List.length_append, be_length, hb, htl]
      rw [if_pos hv, gOInt_z o4 (by simp only [List.length_append, be_length, hb, encTs_len]; omega), Option.bind_some, Option.bind_some, ih _ (by simp only [List.length_append, be_length, hb, encTs_len, show (8 : Int).toNat = 8 from rfl, show (2 : Int).toNat = 2 from rfl, show (4 : Int).toNat = 4 from rfl]; omega), encs, e]
      simp only [encTs, List.append_assoc]
      rfl
    · have e : encM v m = be m.fProducer 8 ++ (be m.fEpoch 2 ++ (encBool m.fCommit ++ encTs m.fTopics)) := by rw [encM, if_neg hv, List.append_nil]
      have el : (encM v m).length = 8 + (2 + (1 + (4 + wTs m.fTopics))) := by rw [e]; simp only [List.length_append, be_length, hb, htl]
      rw [if_neg hv, Option.bind_some, ih _ (by simp only [List.length_append, be_length, hb, encTs_len, show (8 : Int).toNat = 8 from rfl, show (2 : Int).toNat = 2 from rfl]; omega), encs, e]
      simp only [encTs, List.append_assoc]
      rfl
theorem chkM_zero {v : Int} {m : MarkMark} (h : chkM v m = 0) : who m.fProducer m.fEpoch = true ∧ (0 ≤ m.fCoordinator ∧ m.fCoordinator ≤ 2147483647) ∧ (v = 0 → m.fCoordinator = 0) ∧ riseV m.fTopics = 0 := by
  unfold chkM at h
  split at h
  · rename_i h1
    simp only [Bool.and_eq_true, tmB, decide_eq_true_eq, Bool.not_eq_true', Bool.and_eq_false_iff, decide_eq_false_iff_not] at h1
    refine ⟨h1.1, h1.2.1, fun hv => ?_, h⟩
    rcases h1.2.2 with h2 | h2
    · exact absurd hv h2
    · exact Classical.byContradiction h2
  · exact absurd h (by decide)
theorem firstM_zero {v : Int} : ∀ {l : List MarkMark}, firstM v l = 0 → ∀ m, m ∈ l → chkM v m = 0
  | a :: l, h, m, hm => by
    rw [firstM] at h
    by_cases hc : chkM v a = 0
    · rw [if_pos hc] at h
      rcases List.mem_cons.1 hm with rfl | hm
      · exact hc
      · exact firstM_zero h m hm
    · rw [if_neg hc] at h
      exact absurd h hc
theorem chkM_ok {v : Int} (hv : v = 0 ∨ v = 1) {m : MarkMark} (h : chkM v m = 0) (hp : wI m.fProducer) (hw : wTs m.fTopics ≤ 3000) : okM v m := by
  obtain ⟨h1, h2, h3, h4⟩ := chkM_zero h
  obtain ⟨f1, f2⟩ := who_fits h1 hp
  refine ⟨f1, f2, ⟨by rw [fits_4]; exact decide_eq_true (by have := wTs_len m.fTopics; omega), okts_ok (rise_zero h4).2 hw⟩, ?_⟩
  rcases hv with rfl | rfl
  · rw [if_neg (by decide)]; exact h3 rfl
  · rw [if_pos (by decide), fits_4]; exact decide_eq_true (by omega)
theorem encMs_len (v : Int) : ∀ (l : List MarkMark) (b : Nat), (∀ m, m ∈ l → wTs m.fTopics ≤ b) → (encs (encM v) l).length ≤ l.length * (19 + b)
  | [], _, _ => by simp [encs]
  | m :: l, b, h => by
    have h1 := (encM_len v m).2
    have h2 := h m (.head _)
    have h3 := encMs_len v l b (fun z hz => h z (.tail _ hz))
    rw [encs, List.length_append, List.length_cons, Nat.add_mul]
    omega
theorem markWrite (v : Int) (hv : v = 0 ∨ v = 1) (l : List MarkMark) (hw : ∀ m, m ∈ l → okW m ∧ wI m.fProducer ∧ wTs m.fTopics ≤ 2000) (hl : l.length ≤ 100) : f_mark_Write ([], 0) l v = some (if chkMs v l = 0 then (encMs v l, 0) else ([], chkMs v l)) := by
  unfold f_mark_Write
  rw [mCheck v l (fun m hm => (hw m hm).1), Option.bind_some]
  by_cases hc : chkMs v l = 0
  · rw [if_pos hc, if_pos hc]
    have hf : firstM v l = 0 := by
      unfold chkMs at hc
      split at hc
      · exact absurd hc (by decide)
      · exact hc
    have hlen := encMs_len v l 2000 (fun m hm => (hw m hm).2.2)
    have f4 : fits (l.length : Int) 4 = true := by rw [fits_4]; exact decide_eq_true (by omega)
    rw [gOInt_z f4 (by decide), Option.bind_some, mwrite_loop v l _ (fun m hm => ⟨chkM_ok hv (firstM_zero hf m hm) (hw m hm).2.1 (Nat.le_trans (hw m hm).2.2 (by decide)), Nat.le_trans (hw m hm).2.2 (by decide)⟩) (by rw [List.length_append, be_length, List.length_nil, show (4 : Int).toNat = 4 from rfl]; omega), Option.bind_some, List.nil_append]
    rfl
  · rw [if_neg hc, if_neg hc, gOFail_eq]
    rfl
theorem few19_loop (y : Int) : ∀ l : List MarkMark, (∀ m, m ∈ l → wf_MarkMark m) → f_l19_Few_l1 l y = some (.ret 0) ∨ (f_l19_Few_l1 l y = some (.go y) ∧ ∀ m, m ∈ l → wTs m.fTopics ≤ 1000)
  | [], _ => .inr ⟨rfl, fun m h => nomatch h⟩
  | a :: l, h => by
    rw [f_l19_Few_l1]
    rcases few_eq a.fTopics (h a (.head _)).2.2.2.1.2 with g | ⟨g, hw⟩
    · rw [g]; exact .inl rfl
    · rw [g, Option.bind_some, if_neg (by decide)]
      rcases few19_loop y l (fun m hm => h m (.tail _ hm)) with k | ⟨k, hk⟩
      · exact .inl k
      · refine .inr ⟨k, fun m hm => ?_⟩
        rcases List.mem_cons.1 hm with rfl | hm
        · exact hw
        · exact hk m hm
theorem few19 (l : List MarkMark) (h : ∀ m, m ∈ l → wf_MarkMark m) : f_l19_Few l = some 0 ∨ (f_l19_Few l = some 1 ∧ l.length ≤ 20 ∧ ∀ m, m ∈ l → wTs m.fTopics ≤ 1000) := by
  unfold f_l19_Few
  by_cases hl : (l.length : Int) > 20
  · rw [if_pos hl]; exact .inl rfl
  rw [if_neg hl]
  rcases few19_loop 0 l h with k | ⟨k, hk⟩
  · rw [k]; exact .inl rfl
  · rw [k]; exact .inr ⟨rfl, by omega, hk⟩
end Go.Proofs.YtlhgogjcaegehaaGreat.Sl
namespace Go.Proofs
open Go.Shelf
def Tryz.laysM143_ren : Go.Shelf.Ren := ⟨fun | 143 => 13 | 219 => 29 | 217 => 53 | 225 => 54 | 224 => 55 | 267 => 56 | 266 => 74 | 314 => 75 | n => n, fun | 9 => 9 | 3 => 3 | 4 => 4 | 5 => 5 | 46 => 116 | 146 => 145 | 51 => 95 | n => n, fun | 1 => 0 | n => n⟩
theorem Tryz.laysM143 : Go.Proofs.LaysM.n143 Tryz.prog Tryz.laysM143_ren := {
  mixed := by kernel_rfl
  f143 := Tryz.func13.trans (congrArg some (by kernel_rfl))
  f217 := Tryz.func53.trans (congrArg some (by kernel_rfl))
  f219 := Tryz.func29.trans (congrArg some (by kernel_rfl))
  f224 := Tryz.func55.trans (congrArg some (by kernel_rfl))
  f225 := Tryz.func54.trans (congrArg some (by kernel_rfl))
  f266 := Tryz.func74.trans (congrArg some (by kernel_rfl))
  f267 := Tryz.func56.trans (congrArg some (by kernel_rfl))
  f314 := Tryz.func75.trans (congrArg some (by kernel_rfl))
  t3 := Tryz.underlying3
  a3 := Tryz.isAgg3
  z3 := Tryz.sizeOf3
  v3 := Tryz.zeroValue3
  t4 := Tryz.underlying4
  a4 := Tryz.isAgg4
  z4 := Tryz.sizeOf4
  v4 := Tryz.zeroValue4
  t5 := Tryz.underlying5
  a5 := Tryz.isAgg5
  z5 := Tryz.sizeOf5
  v5 := Tryz.zeroValue5
  t9 := Tryz.underlying9
  a9 := Tryz.isAgg9
  z9 := Tryz.sizeOf9
  v9 := Tryz.zeroValue9
  t46 := Tryz.underlying116
  a46 := Tryz.isAgg116
  z46 := Tryz.sizeOf116
  v46 := Tryz.zeroValue116
  t51 := Tryz.underlying95
  a51 := Tryz.isAgg95
  z51 := Tryz.sizeOf95
  v51 := Tryz.zeroValue95
  t146 := Tryz.underlying145
  a146 := Tryz.isAgg145
  z146 := Tryz.sizeOf145
  v146 := Tryz.zeroValue145
  g1 := by kernel_rfl
  i3 := by kernel_rfl
  i4 := by kernel_rfl
  i5 := by kernel_rfl
  i9 := by kernel_rfl
  i46 := by kernel_rfl
  i51 := by kernel_rfl
  i146 := by kernel_rfl
  m1 := by kernel_rfl
  s1_3 := fun w h => Go.Proofs.cell_of_shapedOpen_int (zero := #[.int .i64 0]) (t := 3) h (of_decide_eq_true (by kernel_rfl)) (by kernel_rfl) rfl (by kernel_rfl) (by kernel_rfl) Tryz.underlying3 }
end Go.Proofs
namespace Go.Proofs.YtlhgogjcaegehaaGreat.Sl
open Go.RowKit
set_option linter.unusedVariables false
def RX.glb (g : Nat) : RX := ⟨fun w S => S g ∧ ∃ m, w.cell? ⟨g, 0, none⟩ = some (.int .i64 m), fun ⟨h1, h2⟩ h => ⟨h _ h1, h2⟩, fun {w w' S} ⟨h1, m, h2⟩ h => ⟨h1, m, by simpa only [World.cell?, h g h1] using h2⟩⟩
def IxG : Nat := Tryz.laysM143_ren.g 1
theorem glb_reads {W : World} (h : W.ShapedOpen Tryz.prog) : (RX.glb IxG).reads W (fun _ => False) := by
  obtain ⟨m, hm⟩ := Tryz.laysM143.s1_3 W h
  refine ⟨fun k => k = IxG, ⟨rfl, m, hm⟩, fun k hk => ⟨fun h => h, ?_⟩⟩
  subst hk
  by_cases c : IxG < W.heap.size
  · exact c
  · have e : W.heap[IxG]? = none := Array.getElem?_eq_none (by omega)
    have hm' : W.cell? ⟨IxG, 0, none⟩ = some (.int .i64 m) := hm
    simp [World.cell?, e] at hm'
def gSIndex (s sub : List UInt8) : Option Int := if s.length ≤ 4000000000 then some (Lib.index s sub) else none
theorem gSIndex_eq (s sub : List UInt8) (h : s.length ≤ 4000000000) : gSIndex s sub = some (Lib.index s sub) := if_pos h
theorem gSIndex_spec (s sub : List UInt8) (r : Int) (h : gSIndex s sub = some r) : SpecX Tryz.prog 13 #[.string (bsOf s), .string (bsOf sub)] (RX.glb IxG) EmpR (fun v A' N => v = .int .i64 r ∧ A' = EmpR ∧ N = []) := by
  unfold gSIndex at h
  split at h
  · rename_i hs
    obtain rfl := Option.some.inj h
    intro F w hA hX
    obtain ⟨S, ⟨_, m, hm⟩, _⟩ := hX
    have hsz : (bsOf s).size < 4294967281 := by rw [bsOf_size]; omega
    refine (Any.strings_Index (ρ := Tryz.laysM143_ren) { Tryz.laysM143 with } (bsOf s) (bsOf sub) m w hsz hm).mono ?_
    rintro e w' ⟨rfl, rfl⟩
    exact ⟨_, _, _, rfl, ⟨by rw [bsOf_list, bsOf_list], rfl, rfl⟩, SpecX.start hA⟩
  · exact nomatch h
end Go.Proofs.YtlhgogjcaegehaaGreat.Sl
namespace Go.Proofs.YtlhgogjcaegehaaGreat.Sl
open Go.RowKit
set_option linter.unusedVariables false
set_option linter.unusedSimpArgs false
set_option maxRecDepth 100000
def ft_cursitortop : FTab := [(26, 3, 4), (51, 1, 1), (54, 1, 1)]
theorem ft_cursitortop_ok : (ft_cursitortop).OK Tryz.prog := ⟨FOK.mk Tryz.runUnderlying26 rfl Tryz.sizeOf24 rfl, FOK.mk Tryz.runUnderlying51 rfl Tryz.sizeOf49 rfl, FOK.mk Tryz.runUnderlying54 rfl Tryz.sizeOf52 rfl, trivial⟩
def nt_cursitortop : List Nat := [24, 49, 52]
theorem nt_cursitortop_ok : NOK Tryz.prog nt_cursitortop := ⟨Tryz.isAgg24, Tryz.isAgg49, Tryz.isAgg52, trivial⟩
theorem bok_cursitortop_30 : BOK Tryz.prog 30 #[.int .i64 0, .int .i64 0, .bool false, .bool false, .bool false, .int .i64 0, .int .i64 0, .int .i64 0, .int .i64 0, .int .i64 0, .int .i64 0, .slice none 0 0] [(0, 1), (1, 1), (2, 1), (3, 1), (4, 1), (5, 1), (6, 1), (7, 1), (8, 1), (9, 1), (10, 1), (11, 1)] := BOK.mk Tryz.zeroValue30 Tryz.runUnderlying30 (by intro w; simp)
def f_top_none  : Option (Bat × List UInt8 × Bool) := (f_batch_Encode (⟨0, 0, false, false, false, 0, 0, 0, -1, -1, -1, []⟩ : Bat)).bind fun (x3, x4) => (if x4 = 0 then (if (x3.length : Int) = 61 then some true else some false) else some false).bind fun y7 => some ((⟨0, 0, false, false, false, 0, 0, 0, -1, -1, -1, []⟩ : Bat), x3, y7)
set_option maxRecDepth 100000 in
set_option maxHeartbeats 4000000 in
theorem f_top_none_spec  (r : Bat × List UInt8 × Bool) (h : f_top_none  = some r) : SpecX Tryz.prog 4 #[] .triv (EmpR) (fun v A' N => ∃ (A11 : Option Addr) (c12 : Nat), v = .tuple #[.agg #[.int .i64 r.1.fBase, .int .i64 r.1.fLeader, .bool r.1.fAppend, .bool r.1.fTxn, .bool r.1.fControl, .int .i64 r.1.fLast, .int .i64 r.1.fFirst, .int .i64 r.1.fMax, .int .i64 r.1.fProducer, .int .i64 r.1.fEpoch, .int .i64 r.1.fSequence, .slice A11 r.1.fRecords.length c12], .string (bsOf r.2.1), .bool r.2.2] ∧ A' = EmpR ∧ N = [RdR (sliceRd 7 Rec_rd) [.slice A11 r.1.fRecords.length c12] r.1.fRecords]) := by
  refine enterA Tryz.func4 rfl Tryz.ntmps4 rfl ?_
  intro F w hX
  unfold f_top_none at h
  refine T.seq (T.region rfl ?_)
  refine TL.alloc rfl .u Tryz.zeroValue30 rfl (fun b1 => ?_)
  refine TL.run ft_cursitortop_ok [1, 2] rfl rfl ?_
  refine TL.nil (X.seq (T.seq (T.region rfl ?_)))
  refine TL.q rfl .u (Ex.bld (cells := #[.int .i64 0, .int .i64 0, .bool false, .bool false, .bool false, .int .i64 0, .int .i64 0, .int .i64 0, .int .i64 (-1), .int .i64 (-1), .int .i64 (-1), .slice none 0 0]) bok_cursitortop_30 rfl (by kernel_rfl)) rfl ?_
  refine TL.alloc rfl .u Tryz.zeroValue30 rfl (fun b2 => ?_)
  refine TL.st0 (cs' := #[.int .i64 0, .int .i64 0, .bool false, .bool false, .bool false, .int .i64 0, .int .i64 0, .int .i64 0, .int .i64 (-1), .int .i64 (-1), .int .i64 (-1), .slice none 0 0]) rfl .u rfl rfl Tryz.sizeOf30 rfl rfl rfl rfl ?_
  refine TL.nil (X.seq (T.seq (T.region rfl ?_)))
  refine TL.q rfl .u (Ex.bS (us := [.int .i64 0, .int .i64 0, .bool false, .bool false, .bool false, .int .i64 0, .int .i64 0, .int .i64 0, .int .i64 (-1), .int .i64 (-1), .int .i64 (-1), .slice none 0 0]) 0 rfl Tryz.isAgg30 Tryz.sizeOf30 rfl rfl rfl) rfl ?_
  obtain ⟨⟨x3, x4⟩, hx5, h⟩ := Option.bind_eq_some_iff.1 h
  try dsimp only at h
  refine TL.ce rfl .u (.fn Tryz.call15 rfl) (f_batch_Encode_spec (⟨0, 0, false, false, false, 0, 0, 0, -1, -1, -1, []⟩ : Bat) _ _ _ hx5) (fun _ hs => slice_nil_reads) rfl ?_
  refine TL.run ft_cursitortop_ok [2, 3, 4, 5, 6] rfl rfl ?_
  refine TL.nil (X.seq (T.seq ?_))
  obtain ⟨y7, h, hk8⟩ := Option.bind_eq_some_iff.1 h
  refine T.jq (fun e Rs => e = [(0, .pointer (some ⟨b1, 0, none⟩)), (1, .string (bsOf x3)), (2, .bool y7)] ∧ Rs = [BlkR b2 30 #[.int .i64 0, .int .i64 0, .bool false, .bool false, .bool false, .int .i64 0, .int .i64 0, .int .i64 0, .int .i64 (-1), .int .i64 (-1), .int .i64 (-1), .slice none 0 0], BlkR b1 30 #[.int .i64 0, .int .i64 0, .bool false, .bool false, .bool false, .int .i64 0, .int .i64 0, .int .i64 0, .int .i64 (-1), .int .i64 (-1), .int .i64 (-1), .slice none 0 0], EmpR]) ?_ ?_
  · clear hk8
    refine T.region rfl ?_
    refine TL.q rfl .u (Ex.bS (us := [.int .i64 0, .int .i64 0, .bool false, .bool false, .bool false, .int .i64 0, .int .i64 0, .int .i64 0, .int .i64 (-1), .int .i64 (-1), .int .i64 (-1), .slice none 0 0]) 0 rfl Tryz.isAgg30 Tryz.sizeOf30 rfl rfl rfl) rfl ?_
    by_cases c9 : x4 = 0
    · replace h := ifT c9 h
      refine TL.run ft_cursitortop_ok [1, 2, 3, 4] rfl rfl ?_
      refine TL.hv 16 rfl (decide_eq_true c9) ?_
      refine TL.rw ft_cursitortop_ok 1 rfl ?_
      refine TL.q rfl (.g rfl rfl rfl) (Ex.lenB rfl Tryz.runUnderlying9) rfl ?_
      refine TL.rw ft_cursitortop_ok 2 rfl ?_
      refine TL.st1 (cs' := #[.int .i64 0, .int .i64 0, .bool false, .bool false, .bool false, .int .i64 0, .int .i64 0, .int .i64 0, .int .i64 (-1), .int .i64 (-1), .int .i64 (-1), .slice none 0 0]) rfl .u rfl rfl Tryz.sizeOf30 rfl rfl rfl rfl ?_
      refine TL.run ft_cursitortop_ok [10, 11] rfl rfl ?_
      by_cases c10 : (x3.length : Int) = 61
      · replace h := ifT c10 h
        cases h
        exact TL.nil (X.as (d := 2) (v' := .bool true) rfl (congrArg Value.bool (decide_eq_true c10)) (X.jq [0, 0, 0] ⟨rfl, rfl⟩ (by rfl) (by rfl)))
      · replace h := ifF c10 h
        cases h
        exact TL.nil (X.as (d := 2) (v' := .bool false) rfl (congrArg Value.bool (decide_eq_false c10)) (X.jq [0, 0, 0] ⟨rfl, rfl⟩ (by rfl) (by rfl)))
    · replace h := ifF c9 h
      refine TL.run ft_cursitortop_ok [1, 2, 3, 4] rfl rfl ?_
      refine TL.hv 16 rfl (decide_eq_false c9) ?_
      refine TL.rw ft_cursitortop_ok 4 rfl ?_
      refine TL.st1 (cs' := #[.int .i64 0, .int .i64 0, .bool false, .bool false, .bool false, .int .i64 0, .int .i64 0, .int .i64 0, .int .i64 (-1), .int .i64 (-1), .int .i64 (-1), .slice none 0 0]) rfl .u rfl rfl Tryz.sizeOf30 rfl rfl rfl rfl ?_
      refine TL.run ft_cursitortop_ok [10, 11] rfl rfl ?_
      cases h
      exact TL.nil (X.jq [0, 0, 0] ⟨rfl, rfl⟩ (by rfl) (by rfl))
  · rintro _ _ ⟨rfl, rfl⟩
    clear h
    have h := hk8
    clear hk8
    try dsimp only at h
    obtain rfl := Option.some.inj h
    refine X.seq (T.ret ?_)
    refine X.nilrd 7 Rec_rd ?_
    exact X.done3 [3, 0] Tryz.results4 (RV.cS (us := #[.int .i64 0, .int .i64 0, .bool false, .bool false, .bool false, .int .i64 0, .int .i64 0, .int .i64 0, .int .i64 (-1), .int .i64 (-1), .int .i64 (-1), .slice none 0 0]) 2 rfl Tryz.isAgg30 Tryz.sizeOf30 rfl rfl) (RV.tm rfl) (RV.tm rfl) ⟨_, _, rfl, rfl, rfl⟩ (by rfl) (.inl rfl)
def f_top_WholeWrites_l2 (x55 : List UInt8) : List ProducePart → Bool → Int → Option (Lp Bool (Bool × Int))
  | [], y75, y76 => some (Lp.go (y75, y76))
  | x82 :: xs, y75, y76 => (f_batch_All x82.fBatches).bind fun (x90, x91) => if 0 ≤ y76 ∧ y76.toNat ≤ x55.length then ((gSIndex (x55.drop y76.toNat) x90).bind fun x94 => (if x91 = 0 then (if x94 < 0 then some true else some false) else some true).bind fun y97 => if y97 = true then none else (if -9223372036854775808 ≤ (x94 + (x90.length : Int)) ∧ (x94 + (x90.length : Int)) ≤ 9223372036854775807 then (if -9223372036854775808 ≤ (y76 + (x94 + (x90.length : Int))) ∧ (y76 + (x94 + (x90.length : Int))) ≤ 9223372036854775807 then (f_top_WholeWrites_l2 x55 xs y75 (y76 + (x94 + (x90.length : Int)))) else none) else none)) else none
def f_top_WholeWrites_l1 (x55 : List UInt8) : List ProduceTopic → Bool → Int → Option (Lp Bool (Bool × Int))
  | [], y60, y61 => some (Lp.go (y60, y61))
  | x67 :: xs, y60, y61 => (f_top_WholeWrites_l2 x55 x67.fParts y60 y61).bind fun e => match e with | .ret r => some (Lp.ret r) | .go (y104, y105) => (f_top_WholeWrites_l1 x55 xs y104 y105)
def f_top_WholeWrites (a0 : ProduceRequest) (a1 : List MarkMark) : Option (Bool) := (f_top_none).bind fun (x6, x9, x10) => (if x10 = true then ((f_mark_Check [] 0).bind fun x19 => if x19 = 10 then some false else some true) else some true).bind fun y16 => if y16 = true then none else (((f_l20_Few a0).bind fun x37 => if x37 = 0 then some true else ((f_l19_Few a1).bind fun x40 => if x40 = 0 then some true else ((f_l20_Of a0).bind fun x43 => (f_r20_Check x43 4).bind fun x47 => if x47 = 0 then some false else some true))).bind fun y35 => if y35 = true then some true else ((f_produce_RequestWrite ([], 0) a0 4).bind fun st53 => (gOText st53).bind fun (x55, x56, st57) => if x56 = 0 then ((f_top_WholeWrites_l1 x55 a0.fTopics false 0).bind fun e => match e with | .ret r => some r | .go (y107, y108) => ((f_mark_Write ([], 0) a1 1).bind fun st110 => (gOText st110).bind fun (x112, x113, st114) => ((f_mark_Check a1 1).bind fun x121 => if ((decide (x113 = 0)) == (decide (x121 = 0))) = true then (some ((decide (x113 = 0)) == (!(decide (x112 = []))))) else some false).bind fun y119 => some y119)) else none))
set_option maxRecDepth 100000 in
set_option maxHeartbeats 4000000 in
theorem f_top_WholeWrites_spec (a0 : ProduceRequest) (A1 : Option Addr) (c2 : Nat) (a1 : List MarkMark) (A3 : Option Addr) (c4 : Nat) (r : Bool) (h : f_top_WholeWrites a0 a1 = some r) : SpecX Tryz.prog 3 #[.agg #[.bool a0.fID.null, .string (bsOf a0.fID.data), .int .i64 a0.fAcks, .int .i64 a0.fTimeout, .slice A1 a0.fTopics.length c2], .slice A3 a1.length c4] (RX.and (RX.of (sliceRd 2 ProduceTopic_rd) [.slice A1 a0.fTopics.length c2] a0.fTopics) (RX.and (RX.of (sliceRd 5 MarkMark_rd) [.slice A3 a1.length c4] a1) (RX.glb IxG))) (EmpR) (fun v A' N => v = .bool r ∧ A' = EmpR ∧ N = []) := by
  refine enterA Tryz.func3 rfl Tryz.ntmps3 rfl ?_
  intro F w hX
  obtain ⟨S, hS, hSF⟩ := hX
  have hX : (RX.and (RX.of (sliceRd 2 ProduceTopic_rd) [.slice A1 a0.fTopics.length c2] a0.fTopics) (RX.and (RX.of (sliceRd 5 MarkMark_rd) [.slice A3 a1.length c4] a1) (RX.glb IxG))).reads w F := ⟨S, hS, hSF⟩
  unfold f_top_WholeWrites at h
  refine T.seq (T.region rfl ?_)
  refine TL.box rfl .u rfl rfl (fun b5 => ?_)
  refine TL.run ft_cursitortop_ok [1] rfl rfl ?_
  obtain ⟨⟨x6, x9, x10⟩, hx11, h⟩ := Option.bind_eq_some_iff.1 h
  try dsimp only at h
  refine TL.nil (X.seq (T.seq (T.seq (T.region rfl ?_))))
  refine TL.cge rfl .u (.fn Tryz.call4 rfl) (f_top_none_spec _ hx11) (fun _ hs => (RX.reads_triv _ _)) rfl ?_
  rintro _ _ _ ⟨A7, c8, rfl, rfl, rfl⟩
  refine TL.sel [0, 0, 0] rfl ?_
  refine TL.run ft_cursitortop_ok [1, 2, 3, 4] rfl rfl ?_
  refine TL.alloc rfl .u Tryz.zeroValue30 rfl (fun b12 => ?_)
  refine TL.st0 (cs' := #[.int .i64 x6.fBase, .int .i64 x6.fLeader, .bool x6.fAppend, .bool x6.fTxn, .bool x6.fControl, .int .i64 x6.fLast, .int .i64 x6.fFirst, .int .i64 x6.fMax, .int .i64 x6.fProducer, .int .i64 x6.fEpoch, .int .i64 x6.fSequence, .slice A7 x6.fRecords.length c8]) rfl .u rfl rfl Tryz.sizeOf30 rfl rfl rfl rfl ?_
  refine TL.run ft_cursitortop_ok [7, 8] rfl rfl ?_
  refine TL.nil (X.seq (T.seq ?_))
  obtain ⟨y16, h, hk17⟩ := Option.bind_eq_some_iff.1 h
  refine T.jq (fun e Rs => e = [(1, .slice A3 a1.length c4), (2, .pointer (some ⟨b5, 0, none⟩)), (4, .bool false), (32, .bool y16)] ∧ Rs = [BlkR b12 30 #[.int .i64 x6.fBase, .int .i64 x6.fLeader, .bool x6.fAppend, .bool x6.fTxn, .bool x6.fControl, .int .i64 x6.fLast, .int .i64 x6.fFirst, .int .i64 x6.fMax, .int .i64 x6.fProducer, .int .i64 x6.fEpoch, .int .i64 x6.fSequence, .slice A7 x6.fRecords.length c8], RdR (sliceRd 7 Rec_rd) [.slice A7 x6.fRecords.length c8] x6.fRecords, BlkR b5 26 #[.bool a0.fID.null, .string (bsOf a0.fID.data), .int .i64 a0.fAcks, .int .i64 a0.fTimeout, .slice A1 a0.fTopics.length c2], EmpR]) ?_ ?_
  · clear hk17
    refine T.region rfl ?_
    by_cases c18 : x10 = true
    · replace h := ifT c18 h
      refine TL.run ft_cursitortop_ok [0, 1, 2] rfl rfl ?_
      refine TL.hv 29 rfl (bn_f c18) ?_
      obtain ⟨x19, hx20, h⟩ := Option.bind_eq_some_iff.1 h
      refine TL.ce rfl (.g rfl rfl rfl) (.fn Tryz.call5 rfl) (f_mark_Check_spec [] _ _ 0 _ hx20) (fun _ hs => slice_nil_reads) rfl ?_
      refine TL.rw ft_cursitortop_ok 2 rfl ?_
      by_cases c21 : x19 = 10
      · replace h := ifT c21 h
        cases h
        exact TL.nil (X.as (d := 32) (v' := .bool false) rfl (congrArg Value.bool (bn_f (decide_eq_true c21))) (X.jq [0, 0, 0, 0] ⟨rfl, rfl⟩ (by rfl) (by rfl)))
      · replace h := ifF c21 h
        cases h
        exact TL.nil (X.as (d := 32) (v' := .bool true) rfl (congrArg Value.bool (bn_t (decide_eq_false c21))) (X.jq [0, 0, 0, 0] ⟨rfl, rfl⟩ (by rfl) (by rfl)))
    · replace h := ifF c18 h
      replace c18 := eq_false_of_ne_true c18
      refine TL.run ft_cursitortop_ok [0, 1, 2] rfl rfl ?_
      refine TL.hv 29 rfl (bn_t c18) ?_
      refine TL.rw ft_cursitortop_ok 3 rfl ?_
      cases h
      exact TL.nil (X.jq [0, 0, 0, 0] ⟨rfl, rfl⟩ (by rfl) (by rfl))
  · rintro _ _ ⟨rfl, rfl⟩
    clear h
    have h := hk17
    clear hk17
    try dsimp only at h
    by_cases c22 : y16 = true
    · replace h := ifT c22 h
      refine X.seq ?_
      refine T.yes rfl c22 ?_
      exact nomatch h
    · replace h := ifF c22 h
      replace c22 := eq_false_of_ne_true c22
      refine X.seq ?_
      refine T.no rfl c22 ?_
      refine T.skip (X.seq (T.seq (T.seq ?_)))
      obtain ⟨y35, h, hk36⟩ := Option.bind_eq_some_iff.1 h
      refine T.jq (fun e Rs => e = [(1, .slice A3 a1.length c4), (2, .pointer (some ⟨b5, 0, none⟩)), (4, .bool false), (46, .bool y35)] ∧ Rs = [BlkR b12 30 #[.int .i64 x6.fBase, .int .i64 x6.fLeader, .bool x6.fAppend, .bool x6.fTxn, .bool x6.fControl, .int .i64 x6.fLast, .int .i64 x6.fFirst, .int .i64 x6.fMax, .int .i64 x6.fProducer, .int .i64 x6.fEpoch, .int .i64 x6.fSequence, .slice A7 x6.fRecords.length c8], RdR (sliceRd 7 Rec_rd) [.slice A7 x6.fRecords.length c8] x6.fRecords, BlkR b5 26 #[.bool a0.fID.null, .string (bsOf a0.fID.data), .int .i64 a0.fAcks, .int .i64 a0.fTimeout, .slice A1 a0.fTopics.length c2], EmpR]) ?_ ?_
      · clear hk36
        refine T.region rfl ?_
        refine TL.q rfl .u (Ex.bS (us := [.bool a0.fID.null, .string (bsOf a0.fID.data), .int .i64 a0.fAcks, .int .i64 a0.fTimeout, .slice A1 a0.fTopics.length c2]) 2 rfl Tryz.isAgg26 Tryz.sizeOf26 rfl rfl rfl) rfl ?_
        obtain ⟨x37, hx38, h⟩ := Option.bind_eq_some_iff.1 h
        refine TL.ce rfl .u (.fn Tryz.call6 rfl) (f_l20_Few_spec a0 _ _ _ hx38) (fun _ hs => (SrcE.old hs (RX.reads_left hX))) rfl ?_
        by_cases c39 : x37 = 0
        · replace h := ifT c39 h
          refine TL.run ft_cursitortop_ok [2, 3] rfl rfl ?_
          refine TL.hv 36 rfl (decide_eq_true c39) ?_
          refine TL.rw ft_cursitortop_ok 10 rfl ?_
          cases h
          exact TL.nil (X.jq [0, 0, 0, 0] ⟨rfl, rfl⟩ (by rfl) (by rfl))
        · replace h := ifF c39 h
          refine TL.run ft_cursitortop_ok [2, 3] rfl rfl ?_
          refine TL.hv 36 rfl (decide_eq_false c39) ?_
          obtain ⟨x40, hx41, h⟩ := Option.bind_eq_some_iff.1 h
          refine TL.rw ft_cursitortop_ok 1 rfl ?_
          refine TL.ce rfl (.g rfl rfl rfl) (.fn Tryz.call7 rfl) (f_l19_Few_spec a1 _ _ _ hx41) (fun _ hs => (SrcE.old hs (RX.reads_left (RX.reads_right hX)))) rfl ?_
          by_cases c42 : x40 = 0
          · replace h := ifT c42 h
            refine TL.rw ft_cursitortop_ok 3 rfl ?_
            refine TL.hv 41 rfl (decide_eq_true c42) ?_
            refine TL.rw ft_cursitortop_ok 5 rfl ?_
            cases h
            exact TL.nil (X.jq [0, 0, 0, 0] ⟨rfl, rfl⟩ (by rfl) (by rfl))
          · replace h := ifF c42 h
            refine TL.rw ft_cursitortop_ok 3 rfl ?_
            refine TL.hv 41 rfl (decide_eq_false c42) ?_
            refine TL.q rfl (.g rfl rfl rfl) (Ex.bS (us := [.bool a0.fID.null, .string (bsOf a0.fID.data), .int .i64 a0.fAcks, .int .i64 a0.fTimeout, .slice A1 a0.fTopics.length c2]) 2 rfl Tryz.isAgg26 Tryz.sizeOf26 rfl rfl rfl) rfl ?_
            obtain ⟨x43, hx46, h⟩ := Option.bind_eq_some_iff.1 h
            refine TL.cso  rfl (.g rfl rfl rfl) (.fn Tryz.call9 rfl) (f_l20_Of_spec a0 _ _ _ hx46) hS.1 hSF rfl ?_
            rintro _ _ _ ⟨A44, c45, rfl, rfl, rfl⟩
            refine TL.sel [0, 0, 0, 0, 0] rfl ?_
            obtain ⟨x47, hx48, h⟩ := Option.bind_eq_some_iff.1 h
            refine TL.ce rfl (.g rfl rfl rfl) (.fn Tryz.call8 rfl) (f_r20_Check_spec x43 _ _ 4 _ hx48) (fun _ hs => (SrcE.oldres 0 hs rfl xold_rd hSF)) rfl ?_
            refine TL.rw ft_cursitortop_ok 2 rfl ?_
            by_cases c49 : x47 = 0
            · replace h := ifT c49 h
              cases h
              exact TL.nil (X.as (d := 46) (v' := .bool false) rfl (congrArg Value.bool (bn_f (decide_eq_true c49))) (X.jq [1, 1, 1, 1] ⟨rfl, rfl⟩ (by rfl) (by rfl)))
            · replace h := ifF c49 h
              cases h
              exact TL.nil (X.as (d := 46) (v' := .bool true) rfl (congrArg Value.bool (bn_t (decide_eq_false c49))) (X.jq [1, 1, 1, 1] ⟨rfl, rfl⟩ (by rfl) (by rfl)))
      · rintro _ _ ⟨rfl, rfl⟩
        clear h
        have h := hk36
        clear hk36
        try dsimp only at h
        by_cases c50 : y35 = true
        · replace h := ifT c50 h
          refine X.seq ?_
          refine T.yes rfl c50 ?_
          refine T.seq (T.region rfl ?_)
          refine TL.run ft_cursitortop_ok [0] rfl rfl ?_
          obtain rfl := Option.some.inj h
          exact TL.nil (X.seq (T.ret (X.rs (X.done1 [3] Tryz.results3 (RV.tm rfl) ⟨rfl, rfl, rfl⟩ (by rfl) (.inl rfl)))))
        · replace h := ifF c50 h
          replace c50 := eq_false_of_ne_true c50
          refine X.seq ?_
          refine T.no rfl c50 ?_
          refine T.skip (X.seq (T.seq (T.region rfl ?_)))
          refine TL.newout rfl .u Tryz.zeroValue44 rfl (fun b51 => ?_)
          refine TL.newout rfl .u Tryz.zeroValue44 rfl (fun b52 => ?_)
          refine TL.nil (X.seq (T.seq (T.region rfl ?_)))
          refine TL.q rfl .u (Ex.bS (us := [.bool a0.fID.null, .string (bsOf a0.fID.data), .int .i64 a0.fAcks, .int .i64 a0.fTimeout, .slice A1 a0.fTopics.length c2]) 4 rfl Tryz.isAgg26 Tryz.sizeOf26 rfl rfl rfl) rfl ?_
          obtain ⟨st53, hx54, h⟩ := Option.bind_eq_some_iff.1 h
          refine TL.c1 rfl .u (.fn Tryz.call10 rfl) (f_produce_RequestWrite_spec b51 ([], 0) a0 _ _ 4 _ hx54) (fun _ hs => (Src.old hs (RX.reads_left hX))) rfl ?_
          obtain ⟨⟨x55, x56, st57⟩, hx58, h⟩ := Option.bind_eq_some_iff.1 h
          try dsimp only at h
          refine TL.nil (X.seq (T.seq (T.region rfl ?_)))
          refine TL.c1 rfl .u (.fn Tryz.call11 rfl) (gOText_spec b51 st53 _ hx58) (fun _ hs => (Src.triv _)) rfl ?_
          refine TL.run ft_cursitortop_ok [1, 2, 3, 4, 5] rfl rfl ?_
          refine TL.nil (X.seq (T.seq (T.seq (T.region rfl ?_))))
          refine TL.run ft_cursitortop_ok [0, 1] rfl rfl ?_
          by_cases c59 : x56 = 0
          · replace h := ifT c59 h
            refine TL.nil (X.seq ?_)
            refine T.no rfl (bn_f (decide_eq_true c59)) ?_
            refine T.skip (X.seq (T.seq (T.region rfl ?_)))
            refine TL.run ft_cursitortop_ok [0] rfl rfl ?_
            refine TL.nil (X.seq (T.seq (T.seq (T.region rfl ?_))))
            refine TL.rb ft_cursitortop_ok nt_cursitortop_ok 4 rfl 2 rfl rfl ?_
            refine TL.q rfl .u (Ex.lenS rfl Tryz.runUnderlying24) rfl ?_
            refine TL.run ft_cursitortop_ok [3] rfl rfl ?_
            refine TL.nil (X.seq (T.block ?_))
            obtain ⟨E63, hE64, hO65⟩ := Option.bind_eq_some_iff.1 h
            have hk69len := RX.len_le (RX.reads_left hX)
            refine T.lp (fun m e Rs => ∃ (y60 : Bool) (y61 : Int) (k62 : Nat), k62 + m = a0.fTopics.length ∧ e = [(1, .slice A3 a1.length c4), (4, .bool y60), (9, .pointer (some ⟨b52, 0, none⟩)), (10, .string (bsOf x55)), (12, .int .i64 y61), (56, .slice A1 a0.fTopics.length c2), (57, .int .i64 (a0.fTopics.length : Int)), (58, .int .i64 (k62 : Int))] ∧ Rs = [OutR b52 ([], 0), OutR b51 st57, BlkR b12 30 #[.int .i64 x6.fBase, .int .i64 x6.fLeader, .bool x6.fAppend, .bool x6.fTxn, .bool x6.fControl, .int .i64 x6.fLast, .int .i64 x6.fFirst, .int .i64 x6.fMax, .int .i64 x6.fProducer, .int .i64 x6.fEpoch, .int .i64 x6.fSequence, .slice A7 x6.fRecords.length c8], RdR (sliceRd 7 Rec_rd) [.slice A7 x6.fRecords.length c8] x6.fRecords, BlkR b5 26 #[.bool a0.fID.null, .string (bsOf a0.fID.data), .int .i64 a0.fAcks, .int .i64 a0.fTimeout, .slice A1 a0.fTopics.length c2], EmpR] ∧ f_top_WholeWrites_l1 x55 (a0.fTopics.drop k62) y60 y61 = some E63) (a0.fTopics.length) [0, 0, 0, 0, 0, 0] ⟨false, 0, 0, by simp, rfl, rfl, by rw [List.drop_zero]; exact hE64⟩ (by rfl) (by rfl) ?_
            rintro m66 _ _ ⟨y60, y61, k62, hk69, rfl, rfl, hl68⟩
            clear hE64 h
            cases m66 with
            | zero =>
              have h := hl68
              clear hl68
              rw [List.drop_of_length_le (by omega), f_top_WholeWrites_l1] at h
              have hk69ge : ¬ ((k62 : Int) < (a0.fTopics.length : Int)) := by omega
              refine T.seq (T.region rfl ?_)
              refine TL.run ft_cursitortop_ok [0] rfl rfl ?_
              refine TL.nil (X.seq (T.seq ?_))
              refine T.no rfl (decide_eq_false hk69ge) ?_
              obtain rfl := Option.some.inj h
              replace h := hO65
              clear hO65
              try dsimp only at h
              refine T.exit (X.exs (X.exs (X.ex (X.seq (T.seq (T.region rfl ?_))))))
              obtain ⟨st124, hx125, h⟩ := Option.bind_eq_some_iff.1 h
              refine TL.run ft_cursitortop_ok [0] rfl rfl ?_
              refine TL.c0 rfl .u (.fn Tryz.call14 rfl) (f_mark_Write_spec b52 ([], 0) a1 _ _ 1 _ hx125) (fun _ hs => (Src.old hs (RX.reads_left (RX.reads_right hX)))) rfl ?_
              obtain ⟨⟨x126, x127, st128⟩, hx129, h⟩ := Option.bind_eq_some_iff.1 h
              try dsimp only at h
              refine TL.nil (X.seq (T.seq (T.region rfl ?_)))
              refine TL.c0 rfl .u (.fn Tryz.call11 rfl) (gOText_spec b52 st124 _ hx129) (fun _ hs => (Src.triv _)) rfl ?_
              refine TL.run ft_cursitortop_ok [1, 2, 3, 4, 5] rfl rfl ?_
              refine TL.nil (X.seq (T.seq ?_))
              obtain ⟨y133, h, hk134⟩ := Option.bind_eq_some_iff.1 h
              refine T.jq (fun e Rs => e = [(4, .bool y133)] ∧ Rs = [OutR b52 st128, OutR b51 st57, BlkR b12 30 #[.int .i64 x6.fBase, .int .i64 x6.fLeader, .bool x6.fAppend, .bool x6.fTxn, .bool x6.fControl, .int .i64 x6.fLast, .int .i64 x6.fFirst, .int .i64 x6.fMax, .int .i64 x6.fProducer, .int .i64 x6.fEpoch, .int .i64 x6.fSequence, .slice A7 x6.fRecords.length c8], RdR (sliceRd 7 Rec_rd) [.slice A7 x6.fRecords.length c8] x6.fRecords, BlkR b5 26 #[.bool a0.fID.null, .string (bsOf a0.fID.data), .int .i64 a0.fAcks, .int .i64 a0.fTimeout, .slice A1 a0.fTopics.length c2], EmpR]) ?_ ?_
              · clear hk134
                refine T.region rfl ?_
                obtain ⟨x135, hx136, h⟩ := Option.bind_eq_some_iff.1 h
                refine TL.run ft_cursitortop_ok [0, 1, 2] rfl rfl ?_
                refine TL.ce rfl .u (.fn Tryz.call5 rfl) (f_mark_Check_spec a1 _ _ 1 _ hx136) (fun _ hs => (SrcE.old hs (RX.reads_left (RX.reads_right hX)))) rfl ?_
                refine TL.run ft_cursitortop_ok [4] rfl rfl ?_
                refine TL.q rfl .u (Ex.bEq rfl rfl rfl rfl Tryz.runUnderlying4) rfl ?_
                by_cases c137 : ((decide (x127 = 0)) == (decide (x135 = 0))) = true
                · replace h := ifT c137 h
                  refine TL.run ft_cursitortop_ok [6] rfl rfl ?_
                  refine TL.hv 106 rfl c137 ?_
                  refine TL.rw ft_cursitortop_ok 3 rfl ?_
                  refine TL.q rfl (.g rfl rfl rfl) (Ex.sNe rfl (m := []) rfl) rfl ?_
                  refine TL.q rfl (.g rfl rfl rfl) (Ex.bEq rfl rfl rfl rfl Tryz.runUnderlying4) rfl ?_
                  refine TL.rw ft_cursitortop_ok 2 rfl ?_
                  cases h
                  exact TL.nil (X.jq [0, 0, 0, 0, 0, 0] ⟨rfl, rfl⟩ (by rfl) (by rfl))
                · replace h := ifF c137 h
                  replace c137 := eq_false_of_ne_true c137
                  refine TL.run ft_cursitortop_ok [6] rfl rfl ?_
                  refine TL.hv 106 rfl c137 ?_
                  refine TL.rw ft_cursitortop_ok 7 rfl ?_
                  cases h
                  exact TL.nil (X.jq [0, 0, 0, 0, 0, 0] ⟨rfl, rfl⟩ (by rfl) (by rfl))
              · rintro _ _ ⟨rfl, rfl⟩
                clear h
                have h := hk134
                clear hk134
                try dsimp only at h
                obtain rfl := Option.some.inj h
                exact X.seq (T.ret (X.done1 [5] Tryz.results3 (RV.tm rfl) ⟨rfl, rfl, rfl⟩ (by rfl) (.inl rfl)))
            | succ m66 =>
              have h := hl68
              clear hl68
              obtain ⟨x67, hxx67⟩ : ∃ x, a0.fTopics[k62]? = some x := ⟨_, List.getElem?_eq_getElem (by omega)⟩
              rw [drop_cons hxx67, f_top_WholeWrites_l1] at h
              have hk69lt : (k62 : Int) < (a0.fTopics.length : Int) := by omega
              refine T.seq (T.region rfl ?_)
              refine TL.run ft_cursitortop_ok [0] rfl rfl ?_
              refine TL.nil (X.seq (T.seq ?_))
              refine T.yes rfl (decide_eq_true hk69lt) ?_
              obtain ⟨gz70, oz70, rfl, z70cs, z70cl, z70cc, z70nf, z70r⟩ := RX.elemS (by decide) hS.1 hSF hxx67
              obtain ⟨A71, c72, rfl, z70s0⟩ := z70r
              have hX73 : (RX.of (sliceRd 2 ProducePart_rd) [.slice A71 x67.fParts.length c72] x67.fParts).reads w F := ⟨S, z70s0, hSF⟩
              refine T.skip (X.seq (T.seq (T.block (T.seq (T.region rfl ?_)))))
              refine TL.q rfl .u (Ex.ixS (k := k62) rfl rfl rfl Tryz.runUnderlying24 Tryz.sizeOf51 (List.getElem?_eq_some_iff.1 hxx67).1) rfl ?_
              refine TL.q rfl .u (Ex.oS (us := [.string (bsOf x67.fName), .slice A71 x67.fParts.length c72]) 0 rfl Tryz.isAgg51 Tryz.sizeOf51 z70nf z70cc rfl rfl rfl) rfl ?_
              refine TL.alloc rfl .u Tryz.zeroValue51 rfl (fun b74 => ?_)
              refine TL.st0 (cs' := #[.string (bsOf x67.fName), .slice A71 x67.fParts.length c72]) rfl .u rfl rfl Tryz.sizeOf51 rfl rfl rfl rfl ?_
              refine TL.nil (X.seq (T.seq (T.region rfl ?_)))
              refine TL.rb ft_cursitortop_ok nt_cursitortop_ok 0 rfl 2 rfl rfl ?_
              refine TL.q rfl .u (Ex.lenS rfl Tryz.runUnderlying49) rfl ?_
              refine TL.run ft_cursitortop_ok [3] rfl rfl ?_
              refine TL.nil (X.seq (T.block ?_))
              obtain ⟨E78, hE79, hO80⟩ := Option.bind_eq_some_iff.1 h
              have hk84len := RX.len_le hX73
              refine T.lp (fun m e Rs => ∃ (y75 : Bool) (y76 : Int) (k77 : Nat), k77 + m = x67.fParts.length ∧ e = [(1, .slice A3 a1.length c4), (4, .bool y75), (9, .pointer (some ⟨b52, 0, none⟩)), (10, .string (bsOf x55)), (12, .int .i64 y76), (56, .slice (some ⟨gz70, oz70, none⟩) a0.fTopics.length c2), (57, .int .i64 (a0.fTopics.length : Int)), (58, .int .i64 (k62 : Int)), (63, .slice A71 x67.fParts.length c72), (64, .int .i64 (x67.fParts.length : Int)), (65, .int .i64 (k77 : Int))] ∧ Rs = [BlkR b74 51 #[.string (bsOf x67.fName), .slice A71 x67.fParts.length c72], OutR b52 ([], 0), OutR b51 st57, BlkR b12 30 #[.int .i64 x6.fBase, .int .i64 x6.fLeader, .bool x6.fAppend, .bool x6.fTxn, .bool x6.fControl, .int .i64 x6.fLast, .int .i64 x6.fFirst, .int .i64 x6.fMax, .int .i64 x6.fProducer, .int .i64 x6.fEpoch, .int .i64 x6.fSequence, .slice A7 x6.fRecords.length c8], RdR (sliceRd 7 Rec_rd) [.slice A7 x6.fRecords.length c8] x6.fRecords, BlkR b5 26 #[.bool a0.fID.null, .string (bsOf a0.fID.data), .int .i64 a0.fAcks, .int .i64 a0.fTimeout, .slice (some ⟨gz70, oz70, none⟩) a0.fTopics.length c2], EmpR] ∧ f_top_WholeWrites_l2 x55 (x67.fParts.drop k77) y75 y76 = some E78) (x67.fParts.length) [0, 0, 0, 0, 0, 0, 0] ⟨y60, y61, 0, by simp, rfl, rfl, by rw [List.drop_zero]; exact hE79⟩ (by rfl) (by rfl) ?_
              rintro m81 _ _ ⟨y75, y76, k77, hk84, rfl, rfl, hl83⟩
              clear hE79 h
              cases m81 with
              | zero =>
                have h := hl83
                clear hl83
                rw [List.drop_of_length_le (by omega), f_top_WholeWrites_l2] at h
                have hk84ge : ¬ ((k77 : Int) < (x67.fParts.length : Int)) := by omega
                refine T.seq (T.region rfl ?_)
                refine TL.run ft_cursitortop_ok [0] rfl rfl ?_
                refine TL.nil (X.seq (T.seq ?_))
                refine T.no rfl (decide_eq_false hk84ge) ?_
                obtain rfl := Option.some.inj h
                replace h := hO80
                clear hO80
                try dsimp only at h
                refine T.exit (X.exs (X.exs (X.ex (X.blk (X.seq (T.region rfl ?_))))))
                refine TL.q rfl .u (Ex.add rfl rfl (by omega)) rfl ?_
                refine TL.run ft_cursitortop_ok [1] rfl rfl ?_
                exact TL.nil (X.back (m' := m66) [1, 1, 1, 1, 1, 1] (by omega) ⟨y75, y76, k62 + 1, by omega, rfl, rfl, h⟩ (by rfl) (by rfl))
              | succ m81 =>
                have h := hl83
                clear hl83
                obtain ⟨x82, hxx82⟩ : ∃ x, x67.fParts[k77]? = some x := ⟨_, List.getElem?_eq_getElem (by omega)⟩
                rw [drop_cons hxx82, f_top_WholeWrites_l2] at h
                have hk84lt : (k77 : Int) < (x67.fParts.length : Int) := by omega
                refine T.seq (T.region rfl ?_)
                refine TL.run ft_cursitortop_ok [0] rfl rfl ?_
                refine TL.nil (X.seq (T.seq ?_))
                refine T.yes rfl (decide_eq_true hk84lt) ?_
                obtain ⟨gz85, oz85, rfl, z85cs, z85cl, z85cc, z85nf, z85r⟩ := RX.elemS (by decide) z70s0 hSF hxx82
                obtain ⟨A86, c87, rfl, z85s0⟩ := z85r
                have hX88 : (RX.of (sliceRd 12 Bat_rd) [.slice A86 x82.fBatches.length c87] x82.fBatches).reads w F := ⟨S, z85s0, hSF⟩
                refine T.skip (X.seq (T.seq (T.block (T.seq (T.region rfl ?_)))))
                refine TL.q rfl .u (Ex.ixS (k := k77) rfl rfl rfl Tryz.runUnderlying49 Tryz.sizeOf54 (List.getElem?_eq_some_iff.1 hxx82).1) rfl ?_
                refine TL.q rfl .u (Ex.oS (us := [.int .i64 x82.fIndex, .slice A86 x82.fBatches.length c87]) 0 rfl Tryz.isAgg54 Tryz.sizeOf54 z85nf z85cc rfl rfl rfl) rfl ?_
                refine TL.alloc rfl .u Tryz.zeroValue54 rfl (fun b89 => ?_)
                refine TL.st0 (cs' := #[.int .i64 x82.fIndex, .slice A86 x82.fBatches.length c87]) rfl .u rfl rfl Tryz.sizeOf54 rfl rfl rfl rfl ?_
                refine TL.nil (X.seq (T.seq (T.region rfl ?_)))
                obtain ⟨⟨x90, x91⟩, hx92, h⟩ := Option.bind_eq_some_iff.1 h
                try dsimp only at h
                refine TL.rb ft_cursitortop_ok nt_cursitortop_ok 0 rfl 2 rfl rfl ?_
                refine TL.ce rfl .u (.fn Tryz.call12 rfl) (f_batch_All_spec x82.fBatches _ _ _ hx92) (fun _ hs => (SrcE.old hs hX88)) rfl ?_
                refine TL.run ft_cursitortop_ok [3, 4, 5, 6, 7] rfl rfl ?_
                refine TL.nil (X.seq (T.seq (T.region rfl ?_)))
                replace h := guard_some h
                obtain ⟨c93, h⟩ := h
                refine TL.run ft_cursitortop_ok [0, 1] rfl rfl ?_
                replace c93 : 0 ≤ y76 ∧ y76.toNat ≤ x55.length := c93
                refine TL.q rfl .u (Ex.sSl (p := y76.toNat) (q := x55.length) (m := (x55.drop y76.toNat)) rfl Tryz.runUnderlying9 (.some rfl ((Int.toNat_of_nonneg c93.1).symm)) .none (by first | omega | (dsimp only; omega)) (sl_drop _ _)) rfl ?_
                obtain ⟨x94, hx95, h⟩ := Option.bind_eq_some_iff.1 h
                refine TL.run ft_cursitortop_ok [3] rfl rfl ?_
                refine TL.ce rfl .u (.fn Tryz.call13 rfl) (gSIndex_spec (x55.drop y76.toNat) x90 _ hx95) (fun _ hs => (SrcE.old hs (RX.reads_right (RX.reads_right hX)))) rfl ?_
                refine TL.run ft_cursitortop_ok [5] rfl rfl ?_
                refine TL.nil (X.seq (T.seq (T.seq ?_)))
                obtain ⟨y97, h, hk98⟩ := Option.bind_eq_some_iff.1 h
                refine T.jq (fun e Rs => e = [(1, .slice A3 a1.length c4), (4, .bool y75), (9, .pointer (some ⟨b52, 0, none⟩)), (10, .string (bsOf x55)), (12, .int .i64 y76), (17, .string (bsOf x90)), (19, .int .i64 x94), (56, .slice (some ⟨gz70, oz70, none⟩) a0.fTopics.length c2), (57, .int .i64 (a0.fTopics.length : Int)), (58, .int .i64 (k62 : Int)), (63, .slice (some ⟨gz85, oz85, none⟩) x67.fParts.length c72), (64, .int .i64 (x67.fParts.length : Int)), (65, .int .i64 (k77 : Int)), (85, .bool y97)] ∧ Rs = [BlkR b89 54 #[.int .i64 x82.fIndex, .slice A86 x82.fBatches.length c87], BlkR b74 51 #[.string (bsOf x67.fName), .slice (some ⟨gz85, oz85, none⟩) x67.fParts.length c72], OutR b52 ([], 0), OutR b51 st57, BlkR b12 30 #[.int .i64 x6.fBase, .int .i64 x6.fLeader, .bool x6.fAppend, .bool x6.fTxn, .bool x6.fControl, .int .i64 x6.fLast, .int .i64 x6.fFirst, .int .i64 x6.fMax, .int .i64 x6.fProducer, .int .i64 x6.fEpoch, .int .i64 x6.fSequence, .slice A7 x6.fRecords.length c8], RdR (sliceRd 7 Rec_rd) [.slice A7 x6.fRecords.length c8] x6.fRecords, BlkR b5 26 #[.bool a0.fID.null, .string (bsOf a0.fID.data), .int .i64 a0.fAcks, .int .i64 a0.fTimeout, .slice (some ⟨gz70, oz70, none⟩) a0.fTopics.length c2], EmpR]) ?_ ?_
                · clear hk98
                  refine T.region rfl ?_
                  by_cases c99 : x91 = 0
                  · replace h := ifT c99 h
                    refine TL.run ft_cursitortop_ok [0, 1, 2] rfl rfl ?_
                    refine TL.hv 82 rfl (bn_f (decide_eq_true c99)) ?_
                    refine TL.rw ft_cursitortop_ok 3 rfl ?_
                    by_cases c100 : x94 < 0
                    · replace h := ifT c100 h
                      cases h
                      exact TL.nil (X.as (d := 85) (v' := .bool true) rfl (congrArg Value.bool (decide_eq_true c100)) (X.jq [0, 0, 0, 0, 0, 0, 0, 0] ⟨rfl, rfl⟩ (by rfl) (by rfl)))
                    · replace h := ifF c100 h
                      cases h
                      exact TL.nil (X.as (d := 85) (v' := .bool false) rfl (congrArg Value.bool (decide_eq_false c100)) (X.jq [0, 0, 0, 0, 0, 0, 0, 0] ⟨rfl, rfl⟩ (by rfl) (by rfl)))
                  · replace h := ifF c99 h
                    refine TL.run ft_cursitortop_ok [0, 1, 2] rfl rfl ?_
                    refine TL.hv 82 rfl (bn_t (decide_eq_false c99)) ?_
                    refine TL.rw ft_cursitortop_ok 3 rfl ?_
                    cases h
                    exact TL.nil (X.jq [0, 0, 0, 0, 0, 0, 0, 0] ⟨rfl, rfl⟩ (by rfl) (by rfl))
                · rintro _ _ ⟨rfl, rfl⟩
                  clear h
                  have h := hk98
                  clear hk98
                  try dsimp only at h
                  by_cases c101 : y97 = true
                  · replace h := ifT c101 h
                    refine X.seq ?_
                    refine T.yes rfl c101 ?_
                    exact nomatch h
                  · replace h := ifF c101 h
                    replace c101 := eq_false_of_ne_true c101
                    refine X.seq ?_
                    refine T.no rfl c101 ?_
                    refine T.skip (X.seq (T.region rfl ?_))
                    refine TL.run ft_cursitortop_ok [0, 1, 2] rfl rfl ?_
                    refine TL.q rfl .u (Ex.lenB rfl Tryz.runUnderlying9) rfl ?_
                    replace h := guard_some h
                    obtain ⟨c102, h⟩ := h
                    refine TL.q rfl .u (Ex.add rfl rfl c102) rfl ?_
                    replace h := guard_some h
                    obtain ⟨c103, h⟩ := h
                    refine TL.q rfl .u (Ex.add rfl rfl c103) rfl ?_
                    refine TL.run ft_cursitortop_ok [6] rfl rfl ?_
                    refine TL.nil (X.blk (X.seq (T.region rfl ?_)))
                    refine TL.q rfl .u (Ex.add rfl rfl (by omega)) rfl ?_
                    refine TL.run ft_cursitortop_ok [1] rfl rfl ?_
                    exact TL.nil (X.back (m' := m81) [1, 1, 1, 1, 1, 1, 1] (by omega) ⟨y75, (y76 + (x94 + (x90.length : Int))), k77 + 1, by omega, rfl, rfl, h⟩ (by rfl) (by rfl))
          · replace h := ifF c59 h
            refine TL.nil (X.seq ?_)
            refine T.yes rfl (bn_t (decide_eq_false c59)) ?_
            exact nomatch h
end Go.Proofs.YtlhgogjcaegehaaGreat.Sl
namespace Go.Proofs.YtlhgogjcaegehaaGreat.Sl
open Go.RowKit
set_option linter.unusedVariables false
set_option linter.unusedSimpArgs false
theorem none_is : Option.map (fun x => x.2.2) f_top_none = some true := by kernel_rfl
theorem none_eq : ∃ b s, f_top_none = some (b, s, true) := by
  have h := none_is
  cases hx : f_top_none with
  | none => rw [hx] at h; cases h
  | some x =>
    obtain ⟨b, s, v⟩ := x
    rw [hx] at h
    have : v = true := Option.some.inj h
    exact ⟨b, s, by rw [this]⟩
theorem mcheck_nil : f_mark_Check [] 0 = some 10 := by kernel_rfl
theorem idx_le : ∀ (h sub : List UInt8) (i : Nat), i ≤ h.length → sub.isPrefixOf (h.drop i) = true → 0 ≤ Lib.index h sub ∧ Lib.index h sub ≤ (i : Int)
  | [], sub, i, hi, hp => by
    have hi : i = 0 := Nat.le_zero.1 hi
    subst hi
    cases sub with
    | nil => exact ⟨by decide, by decide⟩
    | cons c s => cases hp
  | b :: l, sub, 0, _, hp => by
    have hp : sub.isPrefixOf (b :: l) = true := hp
    unfold Lib.index
    rw [if_pos hp]
    exact ⟨by decide, by decide⟩
  | b :: l, sub, i + 1, hi, hp => by
    obtain ⟨h1, h2⟩ := idx_le l sub i (Nat.le_of_succ_le_succ hi) hp
    unfold Lib.index
    split
    · exact ⟨by decide, by omega⟩
    · rw [if_neg (by simp only [beq_iff_eq]; omega)]
      exact ⟨by omega, by omega⟩
theorem pref_app (x r : List UInt8) : x.isPrefixOf (x ++ r) = true := List.isPrefixOf_iff_prefix.2 (List.prefix_append x r)
theorem firstB_all {l : List Bat} (h : ∀ b, b ∈ l → chk b = 0) : firstB 0 l = 0 := by
  induction l with
  | nil => rfl
  | cons b l ih =>
    have h1 := h b (.head _)
    have h2 := ih (fun c hc => h c (.tail _ hc))
    unfold firstB
    simp [h1, h2]
theorem ww_l2 (s : List UInt8) (hs : s.length ≤ 400000) (y : Bool) : ∀ (l : List ProducePart) (t : List UInt8) (q : Nat) (a : Int), (∀ p, p ∈ l → p.fBatches.length ≤ 1000 ∧ smBl p.fBatches) → q ≤ s.length → s.drop q = encs encQp l ++ t → 0 ≤ a → a ≤ (q : Int) →
    ∃ a', f_top_WholeWrites_l2 s l y a = some (.go (y, a')) ∧ 0 ≤ a' ∧ a' ≤ ((q + (encs encQp l).length : Nat) : Int)
  | [], t, q, a, _, hq, _, h0, h1 => ⟨a, by rw [f_top_WholeWrites_l2], h0, by rw [encs]; simpa using h1⟩
  | p :: l, t, q, a, hp, hq, hd, h0, h1 => by
    obtain ⟨p1, p2⟩ := hp p (.head _)
    have hl := congrArg List.length hd
    rw [encs, List.append_assoc] at hd
    rw [encs, List.length_drop, List.length_append, List.length_append] at hl
    have hep : (encQp p).length = 8 + (encs encBt p.fBatches).length := by simp only [encQp, List.length_append, be_length]; omega
    have hx : s.drop (q + 8) = encs encBt p.fBatches ++ (encs encQp l ++ t) := by
      rw [← List.drop_drop, hd]
      have e : encQp p ++ (encs encQp l ++ t) = (be p.fIndex 4 ++ be ((encs encBt p.fBatches).length : Int) 4) ++ (encs encBt p.fBatches ++ (encs encQp l ++ t)) := by simp only [encQp, List.append_assoc]
      rw [e, List.drop_append_of_le_length (by rw [List.length_append, be_length, be_length]; decide), List.drop_of_length_le (by rw [List.length_append, be_length, be_length]; decide), List.nil_append]
    obtain ⟨an, rfl⟩ : ∃ n : Nat, a = (n : Int) := ⟨a.toNat, by omega⟩
    have hi := idx_le (s.drop an) (encs encBt p.fBatches) (q + 8 - an) (by rw [List.length_drop]; omega) (by rw [List.drop_drop, show an + (q + 8 - an) = q + 8 by omega, hx]; exact pref_app _ _)
    rw [f_top_WholeWrites_l2, all_eq (fun x hx => (p2 x hx).1) p1, if_pos (firstB_all (fun b hb => (p2 b hb).2)), Option.bind_some]
    dsimp only
    rw [if_pos ⟨h0, by omega⟩, Int.toNat_natCast, gSIndex_eq _ _ (by rw [List.length_drop]; omega), Option.bind_some, if_pos rfl, if_neg (by omega), Option.bind_some, if_neg (by decide), if_pos (by omega), if_pos (by omega)]
    obtain ⟨a', g1, g2, g3⟩ := ww_l2 s hs y l t (q + (encQp p).length) ((an : Int) + (Lib.index (s.drop an) (encs encBt p.fBatches) + ((encs encBt p.fBatches).length : Int))) (fun x hx => hp x (.tail _ hx)) (by omega) (drop_step hd) (by omega) (by omega)
    exact ⟨a', g1, g2, by rw [encs, List.length_append]; omega⟩
theorem ww_l1 (s : List UInt8) (hs : s.length ≤ 400000) (y : Bool) : ∀ (l : List ProduceTopic) (t : List UInt8) (q : Nat) (a : Int), (∀ x, x ∈ l → ∀ p, p ∈ x.fParts → p.fBatches.length ≤ 1000 ∧ smBl p.fBatches) → q ≤ s.length → s.drop q = encs encQt l ++ t → 0 ≤ a → a ≤ (q : Int) →
    ∃ a', f_top_WholeWrites_l1 s l y a = some (.go (y, a'))
  | [], t, q, a, _, hq, _, h0, h1 => ⟨a, by rw [f_top_WholeWrites_l1]⟩
  | x :: l, t, q, a, hp, hq, hd, h0, h1 => by
    have hl := congrArg List.length hd
    rw [encs, List.append_assoc] at hd
    rw [encs, List.length_drop, List.length_append, List.length_append] at hl
    have het : (encQt x).length = 2 + x.fName.length + 4 + (encs encQp x.fParts).length := by simp only [encQt, List.length_append, be_length]; omega
    have hx : s.drop (q + (2 + x.fName.length + 4)) = encs encQp x.fParts ++ (encs encQt l ++ t) := by
      rw [← List.drop_drop, hd]
      have e : encQt x ++ (encs encQt l ++ t) = (be (x.fName.length : Int) 2 ++ x.fName ++ be (x.fParts.length : Int) 4) ++ (encs encQp x.fParts ++ (encs encQt l ++ t)) := by simp only [encQt, List.append_assoc]
      have e2 : (be (x.fName.length : Int) 2 ++ x.fName ++ be (x.fParts.length : Int) 4).length = 2 + x.fName.length + 4 := by simp only [List.length_append, be_length]
      rw [e, List.drop_append_of_le_length (by omega), List.drop_of_length_le (by omega), List.nil_append]
    rw [f_top_WholeWrites_l1]
    obtain ⟨a', g1, g2, g3⟩ := ww_l2 s hs y x.fParts (encs encQt l ++ t) (q + (2 + x.fName.length + 4)) a (hp x (.head _)) (by omega) hx h0 (by omega)
    rw [g1, Option.bind_some]
    exact ww_l1 s hs y l t (q + (encQt x).length) a' (fun z hz => hp z (.tail _ hz)) (by omega) (drop_step hd) g2 (by omega)
theorem pure_WholeWrites (a0 : ProduceRequest) (a1 : List MarkMark) (w0 : wf_ProduceRequest a0) (w1 : (wL wf_MarkMark) a1) : f_top_WholeWrites a0 a1 = some true := by
  obtain ⟨b, s, hn0⟩ := none_eq
  unfold f_top_WholeWrites
  rw [hn0, Option.bind_some]
  dsimp only
  rw [if_pos rfl, mcheck_nil, Option.bind_some, if_pos rfl, Option.bind_some, if_neg (by decide)]
  rcases q_few w0 with h | ⟨h, ho, hn⟩
  · rw [h]
    rfl
  rw [h, Option.bind_some, if_neg (by decide)]
  rcases few19 a1 w1.2 with hf | ⟨hf, hl, hfw⟩
  · rw [hf]
    rfl
  have hg := gdQ_of w0 ho
  rw [hf, Option.bind_some, if_neg (by decide), q_of_gd hg, Option.bind_some, r20check a0 4 (.inr rfl) hg, Option.bind_some]
  by_cases hc : chkQ 4 a0 = 0
  rotate_left
  · rw [if_neg hc]
    rfl
  obtain ⟨k1, k2, k3⟩ := okQ_of w0 ho hn hc
  rw [if_pos hc, Option.bind_some, if_neg (by decide), q_write hg k1 k2 k3, Option.bind_some, gOText_eq, otx_z, Option.bind_some]
  dsimp only
  rw [if_pos rfl]
  have hd : (encQ a0).drop (a0.fID.data.length + 12) = encs encQt a0.fTopics ++ [] := by
    have e : encQ a0 = (be (blen a0.fID) 2 ++ a0.fID.data ++ (be a0.fAcks 2 ++ (be a0.fTimeout 4 ++ be (a0.fTopics.length : Int) 4))) ++ encs encQt a0.fTopics := by simp only [encQ, List.append_assoc]
    have e2 : (be (blen a0.fID) 2 ++ a0.fID.data ++ (be a0.fAcks 2 ++ (be a0.fTimeout 4 ++ be (a0.fTopics.length : Int) 4))).length = a0.fID.data.length + 12 := by simp only [List.length_append, be_length]; omega
    rw [e, List.append_nil, ← e2, List.drop_left]
  have hle : a0.fID.data.length + 12 ≤ (encQ a0).length := by simp only [encQ, List.length_append, be_length]; omega
  obtain ⟨a', hw⟩ := ww_l1 (encQ a0) (by omega) false a0.fTopics [] (a0.fID.data.length + 12) 0 (fun x hx => (k3 x hx).2.2) hle hd (by decide) (by omega)
  have hmem : ∀ m, m ∈ a1 → okW m ∧ wI m.fProducer ∧ wTs m.fTopics ≤ 2000 := fun m hm => by
    have h1 := w1.2 m hm
    have h2 := hfw m hm
    exact ⟨⟨h1.2.1, h1.2.2.2.2, h1.2.2.2.1.2, (wTs_bounds (l := m.fTopics) (by omega)).1⟩, h1.1, by omega⟩
  rw [hw, Option.bind_some]
  dsimp only
  rw [markWrite 1 (.inr rfl) a1 hmem (by omega), Option.bind_some, gOText_eq, mCheck 1 a1 (fun m hm => (hmem m hm).1)]
  by_cases hm : chkMs 1 a1 = 0
  · rw [if_pos hm, otx_z, Option.bind_some]
    dsimp only
    rw [Option.bind_some, hm]
    have hne : encMs 1 a1 ≠ [] := fun h => by
      have := congrArg List.length h
      rw [encMs, List.length_append, be_length] at this
      simp at this
    simp [hne]
  · rw [if_neg hm, otx_e _ _ hm, Option.bind_some]
    dsimp only
    rw [Option.bind_some]
    simp [hm]
end Go.Proofs.YtlhgogjcaegehaaGreat.Sl
namespace Go.Proofs.YtlhgogjcaegehaaGreat.Sl
open Go.RowKit Go.Deep Go.ChangeShapes
set_option linter.unusedVariables false
theorem op_Bl {H : Type} {enc : TypeId × Value → H} : OpensW enc Tryz.prog 23 (andRd Bl_rd wf_Bl) :=
  opensW_weak (fun x => ⟨x.1, x.2.1⟩) (opensW_struct Tryz.underlying23 (by kernel_rfl) (opensWFs_cons 1 (by kernel_rfl) (by kernel_rfl) (op_bool Tryz.underlying4) (opensWFs_cons 1 (by kernel_rfl) (by kernel_rfl) (op_str Tryz.underlying9) (opensWFs_nil _)))) (by
    rintro w S cs ⟨x0, x1, _⟩ ⟨_, _, rfl, ⟨p0, q0⟩, _, _, rfl, ⟨p1, q1⟩, rfl⟩
    obtain rfl := p0
    obtain rfl := p1
    exact ⟨rfl, q0, q1⟩)
theorem op_Hd {H : Type} {enc : TypeId × Value → H} : OpensW enc Tryz.prog 103 (andRd Hd_rd wf_Hd) :=
  opensW_weak (fun x => ⟨x.1, x.2.1⟩) (opensW_struct Tryz.underlying103 (by kernel_rfl) (opensWFs_cons 1 (by kernel_rfl) (by kernel_rfl) (op_str Tryz.underlying9) (opensWFs_cons 2 (by kernel_rfl) (by kernel_rfl) op_Bl (opensWFs_nil _)))) (by
    rintro w S cs ⟨x0, x1, _⟩ ⟨_, _, rfl, ⟨p0, q0⟩, _, _, rfl, ⟨p1, q1⟩, rfl⟩
    obtain rfl := p0
    obtain rfl := p1
    exact ⟨rfl, q0, q1⟩)
theorem op_Rec {H : Type} {enc : TypeId × Value → H} : OpensW enc Tryz.prog 90 (andRd Rec_rd wf_Rec) :=
  opensW_weak (fun x => ⟨x.1, x.2.1, x.2.2.1, x.2.2.2.1, x.2.2.2.2.1⟩) (opensW_struct Tryz.underlying90 (by kernel_rfl) (opensWFs_cons 1 (by kernel_rfl) (by kernel_rfl) (op_i64 Tryz.underlying3) (opensWFs_cons 1 (by kernel_rfl) (by kernel_rfl) (op_i64 Tryz.underlying3) (opensWFs_cons 2 (by kernel_rfl) (by kernel_rfl) op_Bl (opensWFs_cons 2 (by kernel_rfl) (by kernel_rfl) op_Bl (opensWFs_cons 1 (by kernel_rfl) (by kernel_rfl) (op_slice 3 40 Tryz.underlying88 (by kernel_rfl) (by kernel_rfl) (by decide) (by decide) op_Hd) (opensWFs_nil _))))))) (by
    rintro w S cs ⟨x0, x1, x2, x3, x4, _⟩ ⟨_, _, rfl, ⟨p0, q0⟩, _, _, rfl, ⟨p1, q1⟩, _, _, rfl, ⟨p2, q2⟩, _, _, rfl, ⟨p3, q3⟩, _, _, rfl, ⟨p4, q4⟩, rfl⟩
    obtain rfl := p0
    obtain rfl := p1
    obtain rfl := p2
    obtain rfl := p3
    obtain ⟨A4, c4, rfl⟩ := slice_cells p4
    exact ⟨⟨A4, c4, rfl, p4⟩, q0, q1, q2, q3, q4⟩)
theorem op_Bat {H : Type} {enc : TypeId × Value → H} : OpensW enc Tryz.prog 30 (andRd Bat_rd wf_Bat) :=
  opensW_weak (fun x => ⟨x.1, x.2.1, x.2.2.1, x.2.2.2.1, x.2.2.2.2.1, x.2.2.2.2.2.1, x.2.2.2.2.2.2.1, x.2.2.2.2.2.2.2.1, x.2.2.2.2.2.2.2.2.1, x.2.2.2.2.2.2.2.2.2.1, x.2.2.2.2.2.2.2.2.2.2.1, x.2.2.2.2.2.2.2.2.2.2.2.1⟩) (opensW_struct Tryz.underlying30 (by kernel_rfl) (opensWFs_cons 1 (by kernel_rfl) (by kernel_rfl) (op_i64 Tryz.underlying3) (opensWFs_cons 1 (by kernel_rfl) (by kernel_rfl) (op_i64 Tryz.underlying3) (opensWFs_cons 1 (by kernel_rfl) (by kernel_rfl) (op_bool Tryz.underlying4) (opensWFs_cons 1 (by kernel_rfl) (by kernel_rfl) (op_bool Tryz.underlying4) (opensWFs_cons 1 (by kernel_rfl) (by kernel_rfl) (op_bool Tryz.underlying4) (opensWFs_cons 1 (by kernel_rfl) (by kernel_rfl) (op_i64 Tryz.underlying3) (opensWFs_cons 1 (by kernel_rfl) (by kernel_rfl) (op_i64 Tryz.underlying3) (opensWFs_cons 1 (by kernel_rfl) (by kernel_rfl) (op_i64 Tryz.underlying3) (opensWFs_cons 1 (by kernel_rfl) (by kernel_rfl) (op_i64 Tryz.underlying3) (opensWFs_cons 1 (by kernel_rfl) (by kernel_rfl) (op_i64 Tryz.underlying3) (opensWFs_cons 1 (by kernel_rfl) (by kernel_rfl) (op_i64 Tryz.underlying3) (opensWFs_cons 1 (by kernel_rfl) (by kernel_rfl) (op_slice 7 88 Tryz.underlying28 (by kernel_rfl) (by kernel_rfl) (by decide) (by decide) op_Rec) (opensWFs_nil _)))))))))))))) (by
    rintro w S cs ⟨x0, x1, x2, x3, x4, x5, x6, x7, x8, x9, x10, x11, _⟩ ⟨_, _, rfl, ⟨p0, q0⟩, _, _, rfl, ⟨p1, q1⟩, _, _, rfl, ⟨p2, q2⟩, _, _, rfl, ⟨p3, q3⟩, _, _, rfl, ⟨p4, q4⟩, _, _, rfl, ⟨p5, q5⟩, _, _, rfl, ⟨p6, q6⟩, _, _, rfl, ⟨p7, q7⟩, _, _, rfl, ⟨p8, q8⟩, _, _, rfl, ⟨p9, q9⟩, _, _, rfl, ⟨p10, q10⟩, _, _, rfl, ⟨p11, q11⟩, rfl⟩
    obtain rfl := p0
    obtain rfl := p1
    obtain rfl := p2
    obtain rfl := p3
    obtain rfl := p4
    obtain rfl := p5
    obtain rfl := p6
    obtain rfl := p7
    obtain rfl := p8
    obtain rfl := p9
    obtain rfl := p10
    obtain ⟨A11, c11, rfl⟩ := slice_cells p11
    exact ⟨⟨A11, c11, rfl, p11⟩, q0, q1, q2, q3, q4, q5, q6, q7, q8, q9, q10, q11⟩)
theorem op_ProducePart {H : Type} {enc : TypeId × Value → H} : OpensW enc Tryz.prog 54 (andRd ProducePart_rd wf_ProducePart) :=
  opensW_weak (fun x => ⟨x.1, x.2.1⟩) (opensW_struct Tryz.underlying54 (by kernel_rfl) (opensWFs_cons 1 (by kernel_rfl) (by kernel_rfl) (op_i64 Tryz.underlying3) (opensWFs_cons 1 (by kernel_rfl) (by kernel_rfl) (op_slice 12 96 Tryz.underlying52 (by kernel_rfl) (by kernel_rfl) (by decide) (by decide) op_Bat) (opensWFs_nil _)))) (by
    rintro w S cs ⟨x0, x1, _⟩ ⟨_, _, rfl, ⟨p0, q0⟩, _, _, rfl, ⟨p1, q1⟩, rfl⟩
    obtain rfl := p0
    obtain ⟨A1, c1, rfl⟩ := slice_cells p1
    exact ⟨⟨A1, c1, rfl, p1⟩, q0, q1⟩)
theorem op_ProduceTopic {H : Type} {enc : TypeId × Value → H} : OpensW enc Tryz.prog 51 (andRd ProduceTopic_rd wf_ProduceTopic) :=
  opensW_weak (fun x => ⟨x.1, x.2.1⟩) (opensW_struct Tryz.underlying51 (by kernel_rfl) (opensWFs_cons 1 (by kernel_rfl) (by kernel_rfl) (op_str Tryz.underlying9) (opensWFs_cons 1 (by kernel_rfl) (by kernel_rfl) (op_sliceB 2 32 Tryz.underlying49 (by kernel_rfl) (by kernel_rfl) (by decide) (by decide) op_ProducePart) (opensWFs_nil _)))) (by
    rintro w S cs ⟨x0, x1, _⟩ ⟨_, _, rfl, ⟨p0, q0⟩, _, _, rfl, ⟨p1, q1⟩, rfl⟩
    obtain rfl := p0
    obtain ⟨A1, c1, rfl⟩ := slice_cells p1
    exact ⟨⟨A1, c1, rfl, p1⟩, q0, q1⟩)
theorem op_ProduceRequest {H : Type} {enc : TypeId × Value → H} : OpensW enc Tryz.prog 26 (andRd ProduceRequest_rd wf_ProduceRequest) :=
  opensW_weak (fun x => ⟨x.1, x.2.1, x.2.2.1, x.2.2.2.1⟩) (opensW_struct Tryz.underlying26 (by kernel_rfl) (opensWFs_cons 2 (by kernel_rfl) (by kernel_rfl) op_Bl (opensWFs_cons 1 (by kernel_rfl) (by kernel_rfl) (op_i64 Tryz.underlying3) (opensWFs_cons 1 (by kernel_rfl) (by kernel_rfl) (op_i64 Tryz.underlying3) (opensWFs_cons 1 (by kernel_rfl) (by kernel_rfl) (op_sliceB 2 40 Tryz.underlying24 (by kernel_rfl) (by kernel_rfl) (by decide) (by decide) op_ProduceTopic) (opensWFs_nil _)))))) (by
    rintro w S cs ⟨x0, x1, x2, x3, _⟩ ⟨_, _, rfl, ⟨p0, q0⟩, _, _, rfl, ⟨p1, q1⟩, _, _, rfl, ⟨p2, q2⟩, _, _, rfl, ⟨p3, q3⟩, rfl⟩
    obtain rfl := p0
    obtain rfl := p1
    obtain rfl := p2
    obtain ⟨A3, c3, rfl⟩ := slice_cells p3
    exact ⟨⟨A3, c3, rfl, p3⟩, q0, q1, q2, q3⟩)
theorem op_Top {H : Type} {enc : TypeId × Value → H} : OpensW enc Tryz.prog 106 (andRd Top_rd wf_Top) :=
  opensW_weak (fun x => ⟨x.1, x.2.1⟩) (opensW_struct Tryz.underlying106 (by kernel_rfl) (opensWFs_cons 1 (by kernel_rfl) (by kernel_rfl) (op_str Tryz.underlying9) (opensWFs_cons 1 (by kernel_rfl) (by kernel_rfl) (op_slice 1 8 Tryz.underlying104 (by kernel_rfl) (by kernel_rfl) (by decide) (by decide) (op_i64 Tryz.underlying3)) (opensWFs_nil _)))) (by
    rintro w S cs ⟨x0, x1, _⟩ ⟨_, _, rfl, ⟨p0, q0⟩, _, _, rfl, ⟨p1, q1⟩, rfl⟩
    obtain rfl := p0
    obtain ⟨A1, c1, rfl⟩ := slice_cells p1
    exact ⟨⟨A1, c1, rfl, p1⟩, q0, q1⟩)
theorem op_MarkMark {H : Type} {enc : TypeId × Value → H} : OpensW enc Tryz.prog 62 (andRd MarkMark_rd wf_MarkMark) :=
  opensW_weak (fun x => ⟨x.1, x.2.1, x.2.2.1, x.2.2.2.1, x.2.2.2.2.1⟩) (opensW_struct Tryz.underlying62 (by kernel_rfl) (opensWFs_cons 1 (by kernel_rfl) (by kernel_rfl) (op_i64 Tryz.underlying3) (opensWFs_cons 1 (by kernel_rfl) (by kernel_rfl) (op_i64 Tryz.underlying3) (opensWFs_cons 1 (by kernel_rfl) (by kernel_rfl) (op_bool Tryz.underlying4) (opensWFs_cons 1 (by kernel_rfl) (by kernel_rfl) (op_slice 2 40 Tryz.underlying60 (by kernel_rfl) (by kernel_rfl) (by decide) (by decide) op_Top) (opensWFs_cons 1 (by kernel_rfl) (by kernel_rfl) (op_i64 Tryz.underlying3) (opensWFs_nil _))))))) (by
    rintro w S cs ⟨x0, x1, x2, x3, x4, _⟩ ⟨_, _, rfl, ⟨p0, q0⟩, _, _, rfl, ⟨p1, q1⟩, _, _, rfl, ⟨p2, q2⟩, _, _, rfl, ⟨p3, q3⟩, _, _, rfl, ⟨p4, q4⟩, rfl⟩
    obtain rfl := p0
    obtain rfl := p1
    obtain rfl := p2
    obtain ⟨A3, c3, rfl⟩ := slice_cells p3
    obtain rfl := p4
    exact ⟨⟨A3, c3, rfl, p3⟩, q0, q1, q2, q3, q4⟩)
end Go.Proofs.YtlhgogjcaegehaaGreat.Sl
namespace Go.Proofs.YtlhgogjcaegehaaGreat.wholeWrites
open Go.ChangeShapes Go.WideShapes Go.ChangeAt Go.RowKit
open Go.ChangeMaps (open_string shut_string)
set_option linter.unusedVariables false
theorem own : ownKnob Tryz.prog.godebug = none := by kernel_rfl
theorem laidOut : laidOutB Tryz.prog = true := by kernel_rfl
set_option maxRecDepth 100000 in
set_option maxHeartbeats 1000000 in
theorem lifted (os : Os) (started : os.Started) (H : Type) (enc : TypeId × Value → H) :
    ReturnsInHanded {} Tryz.checked os 3 .any (Rows.wholeWritesSpec.pre6 enc Tryz.prog Tryz.f3 Rows.wholeWritesRow.domain false) (Rows.wholeWritesSpec.post enc Tryz.prog Tryz.f3 false true false false) := by
  refine returnsInHanded_of_change_shaped (C := Tryz.checked) own started (by kernel_rfl) Tryz.func3
    (ChangeSpec.witness6 (enc := enc) (C := Tryz.checked) false ⟨#[], #[.agg #[.bool false, .string ⟨#[]⟩, .int .i64 0, .int .i64 0, .slice none 0 0], .slice none 0 0], []⟩ 8 (by kernel_rfl) (by kernel_rfl) (by kernel_rfl) (by kernel_rfl)) ?_
  intro W base args ds gs before hval0 hW hcnd hsz0 hshp _
  have hsz : (DataW.weightsEach Tryz.prog (Tryz.f3.params.toList ++ Rows.wholeWritesSpec.plain.varTypes Tryz.prog) (ds ++ gs)).all (· ≤ reachBytes) = true := hsz0
  have hval : ∀ (j : Nat) t v, Tryz.f3.params[j]? = some t → args[j]? = some v → Value.okWide Tryz.prog W .any base t v := hval0
  have hW' := hW
  obtain ⟨p, q, hA0, hV, rfl, hfz, hnd⟩ := hW
  have hA : DataW.TrodAll enc Tryz.prog W 0 (fun _ => true) true Tryz.f3.params.toList args.toList ds p := hA0
  rw [Tryz.params3] at hA hval hsz
  obtain ⟨v0, vs0, d0, ds0, p0, q0, hargs, rfl, rfl, h0, r0⟩ := trodAll_cons hA
  obtain ⟨v1, vs1, d1, ds1, p1, q1, rfl, rfl, rfl, h1, r1⟩ := trodAll_cons r0
  obtain ⟨rfl, rfl, rfl⟩ := trodAll_nil r1
  obtain rfl : args = #[v0, v1] := by cases args; simp_all
  obtain ⟨rfl, rfl⟩ := trodVars_none hV
  have k0 := h0
  have lt0 : ∀ x ∈ p0, x.block < W.heap.size := by obtain ⟨m, hm⟩ := k0; exact DataW.trod_lt m _ _ _ hm
  obtain ⟨a0, cs0, rfl, r_0, w0⟩ := Sl.opens_arg2 Tryz.underlying26 (hval 0 26 v0 rfl rfl) Sl.op_ProduceRequest h0 (fun x hx => of_decide_eq_true (List.all_eq_true.1 hsz x (Sl.weights_in 0 rfl rfl hx)))
  obtain ⟨A0_0, c0_0, e0, r0_0⟩ := r_0
  obtain rfl : cs0 = #[.bool a0.fID.null, .string (Sl.bsOf a0.fID.data), .int .i64 a0.fAcks, .int .i64 a0.fTimeout, .slice A0_0 a0.fTopics.length c0_0] := by apply Array.toList_inj.1; exact e0
  have k1 := h1
  have lt1 : ∀ x ∈ p1, x.block < W.heap.size := by obtain ⟨m, hm⟩ := k1; exact DataW.trod_lt m _ _ _ hm
  obtain ⟨a1, r_1, w1⟩ := Sl.opens_arg1 Tryz.underlying27 (hval 1 27 v1 rfl rfl) (Sl.op_slice 5 56 Tryz.underlying27 (by kernel_rfl) (by kernel_rfl) (by decide) (by decide) Sl.op_MarkMark) h1 (fun x hx => of_decide_eq_true (List.all_eq_true.1 hsz x (Sl.weights_in 1 rfl rfl hx)))
  obtain ⟨A1, c1, e1⟩ := Sl.slice_cells r_1
  injection e1 with e1
  subst e1
  clear hA0 hval0 hsz0 hsz
  refine (Sl.f_top_WholeWrites_spec a0 A0_0 c0_0 a1 A1 c1 true (Sl.pure_WholeWrites a0 a1 w0 w1) (fun _ => False) W (fun _ h => h) (Sl.RX.reads_and (Sl.RX.reads_all r0_0) (Sl.RX.reads_and (Sl.RX.reads_all r_1) (Sl.glb_reads hshp)))).mono fun e W' hP => ?_
  obtain ⟨v, A', Ns, rfl, ⟨rfl, rfl, rfl⟩, hst⟩ := hP
  have bel := Sl.St.below hst
  exact ⟨_, rfl, _, _, _, [], _, [], hW', trodAll_mk1 (shut_bool Tryz.underlying4 _), (trodAll_cons_mk (Below.trod laidOut (by kernel_rfl) (of_decide_eq_true (by kernel_rfl)) k0 bel lt0) (trodAll_cons_mk (Below.trod laidOut (by kernel_rfl) (of_decide_eq_true (by kernel_rfl)) k1 bel lt1) trodAll_mk0)), rfl, bel.frame _, fun h => by cases h⟩
theorem over : Rows.wholeWritesRow.holds Tryz.pinned (OpenSpec.ofChange Rows.wholeWritesSpec) :=
  OpenClaim.holds_of_wide 3 Tryz.f3 rfl rfl rfl rfl rfl rfl rfl ⟨rfl, rfl, rfl, rfl, rfl⟩ rfl rfl rfl rfl rfl (by kernel_rfl) Tryz.func3 (by kernel_rfl)
    (of_decide_eq_true (by kernel_rfl)) (by unfold Func.isWrapper; first | (rw [if_pos (by decide +kernel)]; kernel_rfl) | (rw [if_neg (by decide +kernel)]; exact ⟨rfl, rfl⟩))
    (fun os started H enc _ => lifted os started H enc)
theorem proved : Rows.WholeWritesSaid := over
end Go.Proofs.YtlhgogjcaegehaaGreat.wholeWrites
namespace Go.Proofs.YtlhgogjcaegehaaGreat
theorem wholeWrites_holds : Rows.WholeWritesSaid := wholeWrites.proved
end Go.Proofs.YtlhgogjcaegehaaGreat
