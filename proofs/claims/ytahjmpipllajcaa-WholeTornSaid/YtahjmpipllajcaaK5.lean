/- WholeTorn: for every input the law returns true, and its arguments read behind the call as they did before. -/
import Derived.KernelRfl
import Derived.Test.YtahjmpipllajcaaRows
import Derived.WalkKit
import Derived.ProofKit
import Derived.OpenShut
import Derived.ShutString
import Derived.ChangeOld
import Derived.Below
import Derived.SizedLaws
import Derived.Test.YtahjmpipllajcaaK4
namespace Go.Proofs.Ytahjmpipllajcaa.Sl
open Go.RowKit
set_option linter.unusedVariables false
set_option linter.unusedSimpArgs false
theorem firstR_zero : ∀ {l : List Rec}, firstR l = 0 → ∀ r, r ∈ l → rightR r = 0
  | x :: l, h, r, hr => by
    rw [firstR] at h
    by_cases hx : rightR x = 0
    · rw [if_pos hx] at h
      rcases List.mem_cons.1 hr with rfl | hr
      · exact hx
      · exact firstR_zero h r hr
    · rw [if_neg hx] at h
      exact absurd h hx
theorem chk_facts {a : Bat} (h : bnB a) (h0 : chk a = 0) : numOk a ∧ prodOk a ∧ (a.fControl = true → a.fTxn = true ∧ (a.fRecords.length : Int) = 1) ∧ ∀ r, r ∈ a.fRecords → rightR r = 0 := by
  obtain ⟨cr, e0, h1, h2, h3, h4⟩ := check_same a h.1 h.2.1 h.2.2
  have e : chk a = chkB a cr e0 := by unfold chk; rw [h1]; rfl
  rw [e] at h0
  unfold chkB at h0
  by_cases hn : numOk a
  rotate_left
  · rw [if_neg hn] at h0; exact absurd h0 (by decide)
  rw [if_pos hn] at h0
  by_cases hc : a.fControl = true
  · rw [if_pos hc] at h0
    by_cases ht : a.fTxn = true
    rotate_left
    · rw [if_neg ht] at h0; exact absurd h0 (by decide)
    rw [if_pos ht] at h0
    by_cases hp : prodOk a
    rotate_left
    · rw [if_neg hp] at h0; exact absurd h0 (by decide)
    rw [if_pos hp] at h0
    by_cases hl : (a.fRecords.length : Int) = 1
    rotate_left
    · rw [if_neg hl] at h0; exact absurd h0 (by decide)
    rw [if_pos hl] at h0
    by_cases hf : firstR a.fRecords = 0
    rotate_left
    · rw [if_neg hf] at h0; exact absurd h0 hf
    exact ⟨hn, hp, fun _ => ⟨ht, hl⟩, firstR_zero hf⟩
  · rw [if_neg hc] at h0
    by_cases hp : prodOk a
    rotate_left
    · rw [if_neg hp] at h0; exact absurd h0 (by decide)
    rw [if_pos hp] at h0
    by_cases hf : firstR a.fRecords = 0
    rotate_left
    · rw [if_neg hf] at h0; exact absurd h0 hf
    exact ⟨hn, hp, fun h => absurd h hc, firstR_zero hf⟩
theorem attr_ok : ∀ a t c : Bool, (c = true → t = true) → acheck (ofBits a t c) = 0 := by decide
theorem ofBits_le : ∀ a t c : Bool, 0 ≤ ofBits a t c ∧ ofBits a t c ≤ 56 := by decide
theorem fits8 {n : Int} (h : wI n) : fits n (8 : Nat) = true := by
  show fits n 8 = true
  rw [b_fits_8]
  exact decide_eq_true h
theorem fits4 {n : Int} (h : -2147483648 ≤ n ∧ n ≤ 2147483647) : fits n (4 : Nat) = true := by
  show fits n 4 = true
  rw [fits_4]
  exact decide_eq_true h
theorem fits2 {n : Int} (h : -32768 ≤ n ∧ n ≤ 32767) : fits n (2 : Nat) = true := by
  show fits n 2 = true
  rw [b_fits_2]
  exact decide_eq_true h
def smB (a : Bat) : Prop := bnB a ∧ (∀ r, r ∈ a.fRecords → rwt r ≤ 900000) ∧ (body a).length ≤ 900000
theorem prod_rng {a : Bat} (h : prodOk a) : (-32768 ≤ a.fEpoch ∧ a.fEpoch ≤ 32767) ∧ (-2147483648 ≤ a.fSequence ∧ a.fSequence ≤ 2147483647) := by
  unfold prodOk at h
  split at h
  · omega
  · split at h <;> omega
theorem okP_pB {a : Bat} (hb : smB a) (h0 : chk a = 0) (s : Nat) (hs : s < 4294967296) : okP (pB a s) := by
  obtain ⟨hn, hp, hc, hr⟩ := chk_facts hb.1 h0
  obtain ⟨n1, n2, n3, n4, n5, n6⟩ := hn
  obtain ⟨w1, w2, _, _, _, w6, w7, w8, w9, w10, w11, w12⟩ := hb.1.1
  obtain ⟨p1, p2⟩ := prod_rng hp
  have hl := hb.2.2
  have hcount := hb.1.2.1
  have ha := ofBits_le a.fAppend a.fTxn a.fControl
  have hs2 : -2147483648 ≤ s32 (s : Int) ∧ s32 (s : Int) ≤ 2147483647 := by unfold s32; split <;> omega
  refine ⟨⟨fits8 w1, fits4 ⟨?_, ?_⟩, fits4 ⟨?_, ?_⟩, rfl, fits4 hs2, fits2 ⟨?_, ?_⟩, fits4 ⟨?_, ?_⟩, fits8 w7, fits8 w8, fits8 w9, fits2 p1, fits4 p2, fits4 ⟨?_, ?_⟩, trivial⟩, ⟨?_, ?_⟩, ?_, ?_⟩
  all_goals (try unfold pB) <;> (try dsimp only) <;> omega
theorem sumB_lt (a : Bat) : sumB a < 4294967296 := crcM_lt (by decide) _
theorem okB_of {a : Bat} (hb : smB a) (h0 : chk a = 0) : okB a := by
  obtain ⟨hn, hp, hc, hr⟩ := chk_facts hb.1 h0
  refine ⟨okP_pB hb h0 _ (sumB_lt a), attr_ok _ _ _ (fun h => (hc h).1), fun x hx => ?_, h0⟩
  exact okRec_of (hb.1.1.2.2.2.2.2.2.2.2.2.2.2.2 x hx).1 (hr x hx) (hb.2.1 x hx)
theorem encBt_len {a : Bat} (h : okB a) : (encBt a).length = 61 + (body a).length := by
  unfold encBt
  rw [List.length_append, encP_len h.1.1]
theorem benc_l1 : ∀ (l : List Rec) (t : List UInt8), (∀ x, x ∈ l → wI x.fTime ∧ wI x.fOffset ∧ rwt x ≤ 900000 ∧ rightR x = 0) → t.length + (encs encRec l).length ≤ 1000000 → f_batch_Encode_l1 l (t, 0) = some (t ++ encs encRec l, 0)
  | [], t, _, _ => by rw [encs, List.append_nil]; rfl
  | x :: l, t, h, hl => by
    obtain ⟨h1, h2, h3, h4⟩ := h x (.head _)
    rw [encs, List.length_append] at hl
    rw [f_batch_Encode_l1, rec_write x t h1 h2 h3 (by omega), if_pos h4, Option.bind_some, benc_l1 l _ (fun y hy => h y (.tail _ hy)) (by rw [List.length_append]; omega), encs, List.append_assoc]
theorem benc {a : Bat} (hb : smB a) : f_batch_Encode a = some (if chk a = 0 then (encBt a, 0) else ([], chk a)) := by
  unfold f_batch_Encode
  rw [(chk_eq hb.1).1, Option.bind_some]
  by_cases h0 : chk a = 0
  rotate_left
  · rw [if_neg h0, if_neg h0]
  obtain ⟨hn, hp, hc, hr⟩ := chk_facts hb.1 h0
  have hl := hb.2.2
  have hw : ∀ x, x ∈ a.fRecords → wI x.fTime ∧ wI x.fOffset ∧ rwt x ≤ 900000 ∧ rightR x = 0 := fun x hx => ⟨(hb.1.1.2.2.2.2.2.2.2.2.2.2.2.2 x hx).1, (hb.1.1.2.2.2.2.2.2.2.2.2.2.2.2 x hx).2.1, hb.2.1 x hx, hr x hx⟩
  have hlb : (encs encRec a.fRecords).length ≤ 900000 := hl
  rw [if_pos h0, if_pos h0, benc_l1 a.fRecords [] hw (by rw [List.length_nil]; omega), Option.bind_some, List.nil_append, gOText_eq, Option.bind_some]
  dsimp only
  rw [otx_z]
  dsimp only
  rw [if_pos (show -9223372036854775808 ≤ (49 + ((encs encRec a.fRecords).length : Int)) ∧ (49 + ((encs encRec a.fRecords).length : Int)) ≤ 9223372036854775807 by omega), gAOf_eq, Option.bind_some]
  have hP0 : okP (pB a 0) := okP_pB hb h0 0 (by decide)
  have e0 : f_prefix_Write ([], 0) (pB a 0) = some (encP (pB a 0), 0) := by
    have := write_ok [] (p := pB a 0) ⟨hP0.1, hP0.2.1⟩ (by decide)
    rwa [List.nil_append] at this
  have e0' : f_prefix_Write ([], 0) (⟨a.fBase, (49 + ((encs encRec a.fRecords).length : Int)), a.fLeader, 0, ofBits a.fAppend a.fTxn a.fControl, a.fLast, a.fFirst, a.fMax, a.fProducer, a.fEpoch, a.fSequence, (a.fRecords.length : Int)⟩ : Pfx) = some (encP (pB a 0), 0) := e0
  rw [e0', Option.bind_some, gOText_eq, Option.bind_some]
  dsimp only
  rw [otx_z]
  dsimp only
  rw [if_pos rfl, if_pos rfl, Option.bind_some, if_neg (by decide), crc_new, Option.bind_some]
  have hp61 := encP_len hP0.1
  have hp21 : (post21 (pB a 0)).length ≤ 61 := by rw [← encP_drop, List.length_drop]; omega
  have hs2 : [post21 (pB a 0), encs encRec a.fRecords].flatten = post21 (pB a 0) ++ encs encRec a.fRecords := by simp
  rw [if_pos (show 21 ≤ (encP (pB a 0)).length by omega), encP_drop, crc_sum [post21 (pB a 0), encs encRec a.fRecords] (by intro t ht; rcases List.mem_cons.1 ht with rfl | ht; omega; rw [List.mem_singleton.1 ht]; omega), Option.bind_some, hs2]
  dsimp only
  have hlt := sumB_lt a
  have hsum : crcM 0 (post21 (pB a 0) ++ encs encRec a.fRecords) = sumB a := rfl
  rw [hsum, if_pos (show -9223372036854775808 ≤ ((sumB a : Nat) : Int) ∧ ((sumB a : Nat) : Int) ≤ 9223372036854775807 by omega)]
  have hP := okP_pB hb h0 _ hlt
  have e1 : f_prefix_Write ([], 0) (⟨a.fBase, (49 + ((encs encRec a.fRecords).length : Int)), a.fLeader, ((sumB a : Nat) : Int), ofBits a.fAppend a.fTxn a.fControl, a.fLast, a.fFirst, a.fMax, a.fProducer, a.fEpoch, a.fSequence, (a.fRecords.length : Int)⟩ : Pfx) = some (encP (pB a (sumB a)), 0) := by
    have := write_ok [] (p := pB a (sumB a)) ⟨hP.1, hP.2.1⟩ (by decide)
    rwa [List.nil_append] at this
  have hp61' := encP_len hP.1
  rw [e1, Option.bind_some, gOPut_eq _ _ (by dsimp only; omega), oput_z, Option.bind_some, gOText_eq, Option.bind_some]
  dsimp only
  rw [otx_z]
  rfl
def sameRs : List Rec → List Rec → Bool
  | x :: l, y :: m => sameR x y && sameRs l m
  | _, _ => true
def sameB (a b : Bat) : Bool := decide (a.fBase = b.fBase ∧ a.fLeader = b.fLeader ∧ a.fAppend = b.fAppend ∧ a.fTxn = b.fTxn ∧ a.fControl = b.fControl ∧ a.fLast = b.fLast ∧ a.fFirst = b.fFirst ∧ a.fMax = b.fMax ∧ a.fProducer = b.fProducer ∧ a.fEpoch = b.fEpoch ∧ a.fSequence = b.fSequence ∧ a.fRecords.length = b.fRecords.length) && sameRs a.fRecords b.fRecords
theorem sameRs_refl : ∀ l : List Rec, sameRs l l = true
  | [] => rfl
  | x :: l => by rw [sameRs, sameR_refl, sameRs_refl l]; rfl
theorem sameB_refl (a : Bat) : sameB a a = true := by
  unfold sameB
  rw [sameRs_refl]
  simp
theorem r11s_l1 (a b : Bat) (hn : a.fRecords.length ≤ 1000000) (y : Bool) : ∀ (l m : List Rec) (k fuel : Nat), a.fRecords.drop k = l → b.fRecords.drop k = m → l.length = m.length → l.length < fuel → (∀ x, x ∈ l → x.fHeaders.length ≤ 1000000) → ∃ z, f_r11_Same_l1 a b fuel y k = some (if sameRs l m = true then .go (y, z) else .ret false)
  | [], m, k, fuel + 1, h1, h2, hl, hf, _ => by
    have := b_nil_drop h1
    exact ⟨k, by rw [f_r11_Same_l1, if_neg (by omega)]; rfl⟩
  | x :: l, v :: m, k, fuel + 1, h1, h2, hl, hf, hw => by
    obtain ⟨g1, g2, g3⟩ := b_at_drop h1
    obtain ⟨k1, k2, k3⟩ := b_at_drop h2
    rw [List.length_cons] at hf
    rw [List.length_cons, List.length_cons] at hl
    obtain ⟨z, hz⟩ := r11s_l1 a b hn y l m (k + 1) fuel g2 k2 (by omega) (by omega) (fun u hu => hw u (.tail _ hu))
    refine ⟨z, ?_⟩
    rw [f_r11_Same_l1, if_pos (by omega), g1, Option.bind_some, k1, Option.bind_some, r07_same x v (hw x (.head _)), Option.bind_some, sameRs, if_pos (show -9223372036854775808 ≤ (k : Int) + 1 ∧ (k : Int) + 1 ≤ 9223372036854775807 by omega), hz]
    cases sameR x v <;> rfl
theorem r11_same {a b : Bat} (hn : a.fRecords.length ≤ 1000000) (hw : ∀ x, x ∈ a.fRecords → x.fHeaders.length ≤ 1000000) : f_r11_Same a b = some (sameB a b) := by
  have hL : ∀ o : Option Bool, o = some (sameB a b) ∨ True := fun _ => .inr trivial
  unfold f_r11_Same sameB
  by_cases c1 : a.fBase = b.fBase
  rotate_left
  · rw [if_neg c1, Option.bind_some, if_pos rfl, decide_eq_false (fun h => c1 h.1)]; rfl
  by_cases c2 : a.fLeader = b.fLeader
  rotate_left
  · rw [if_pos c1, if_neg c2, Option.bind_some, if_pos rfl, decide_eq_false (fun h => c2 h.2.1)]; rfl
  by_cases c3 : a.fAppend = b.fAppend
  rotate_left
  · rw [if_pos c1, if_pos c2, if_neg (by simpa using c3), Option.bind_some, if_pos rfl, decide_eq_false (fun h => c3 h.2.2.1)]; rfl
  by_cases c4 : a.fTxn = b.fTxn
  rotate_left
  · rw [if_pos c1, if_pos c2, if_pos (by simpa using c3), if_neg (by simpa using c4), Option.bind_some, if_pos rfl, decide_eq_false (fun h => c4 h.2.2.2.1)]; rfl
  by_cases c5 : a.fControl = b.fControl
  rotate_left
  · rw [if_pos c1, if_pos c2, if_pos (by simpa using c3), if_pos (by simpa using c4), if_neg (by simpa using c5), Option.bind_some, if_pos rfl, decide_eq_false (fun h => c5 h.2.2.2.2.1)]; rfl
  rw [if_pos c1, if_pos c2, if_pos (by simpa using c3), if_pos (by simpa using c4), if_pos (by simpa using c5)]
  by_cases c6 : a.fLast = b.fLast
  rotate_left
  · rw [if_neg c6, Option.bind_some, if_pos rfl, decide_eq_false (fun h => c6 h.2.2.2.2.2.1)]; rfl
  by_cases c7 : a.fFirst = b.fFirst
  rotate_left
  · rw [if_pos c6, if_neg c7, Option.bind_some, if_pos rfl, decide_eq_false (fun h => c7 h.2.2.2.2.2.2.1)]; rfl
  by_cases c8 : a.fMax = b.fMax
  rotate_left
  · rw [if_pos c6, if_pos c7, if_neg c8, Option.bind_some, if_pos rfl, decide_eq_false (fun h => c8 h.2.2.2.2.2.2.2.1)]; rfl
  by_cases c9 : a.fProducer = b.fProducer
  rotate_left
  · rw [if_pos c6, if_pos c7, if_pos c8, if_neg c9, Option.bind_some, if_pos rfl, decide_eq_false (fun h => c9 h.2.2.2.2.2.2.2.2.1)]; rfl
  by_cases c10 : a.fEpoch = b.fEpoch
  rotate_left
  · rw [if_pos c6, if_pos c7, if_pos c8, if_pos c9, if_neg c10, Option.bind_some, if_pos rfl, decide_eq_false (fun h => c10 h.2.2.2.2.2.2.2.2.2.1)]; rfl
  by_cases c11 : a.fSequence = b.fSequence
  rotate_left
  · rw [if_pos c6, if_pos c7, if_pos c8, if_pos c9, if_pos c10, if_neg c11, Option.bind_some, if_pos rfl, decide_eq_false (fun h => c11 h.2.2.2.2.2.2.2.2.2.2.1)]; rfl
  by_cases c12 : a.fRecords.length = b.fRecords.length
  rotate_left
  · rw [if_pos c6, if_pos c7, if_pos c8, if_pos c9, if_pos c10, if_pos c11, if_neg (by omega), Option.bind_some, if_pos rfl, decide_eq_false (fun h => c12 h.2.2.2.2.2.2.2.2.2.2.2)]; rfl
  obtain ⟨z, hz⟩ := r11s_l1 a b hn false a.fRecords b.fRecords 0 (((a.fRecords.length : Int)).toNat + 1) rfl rfl c12 (by omega) hw
  rw [if_pos c6, if_pos c7, if_pos c8, if_pos c9, if_pos c10, if_pos c11, if_pos (by omega), Option.bind_some, if_neg (by decide), hz, decide_eq_true ⟨c1, c2, c3, c4, c5, c6, c7, c8, c9, c10, c11, c12⟩, Bool.true_and]
  cases sameRs a.fRecords b.fRecords <;> rfl
end Go.Proofs.Ytahjmpipllajcaa.Sl
namespace Go.Proofs.Ytahjmpipllajcaa.Sl
open Go.RowKit
set_option linter.unusedVariables false
set_option linter.unusedSimpArgs false
def vI (s : List UInt8) (q k : Nat) : Int := beInt ((s.drop q).take k)
def vals (s : List UInt8) : List Nat → Nat → List Int
  | [], _ => []
  | k :: ks, q => vI s q k :: vals s ks (q + k)
theorem pInts_at (s : List UInt8) : ∀ (ks : List Nat) (q : Nat), q + ks.sum ≤ s.length → pInts ks s q = .ok (vals s ks q, q + ks.sum)
  | [], q, _ => rfl
  | k :: ks, q, h => by
    rw [List.sum_cons] at h
    have h1 : pInt k s q = .ok (vI s q k, q + k) := by unfold pInt; rw [if_neg (by omega)]; rfl
    rw [pInts, Pr.bind_of h1, Pr.bind_of (pInts_at s ks (q + k) (by omega)), List.sum_cons, ← Nat.add_assoc]
    rfl
theorem vals_take (s : List UInt8) (n : Nat) : ∀ (ks : List Nat) (q : Nat), q + ks.sum ≤ n → vals (s.take n) ks q = vals s ks q
  | [], _, _ => rfl
  | k :: ks, q, h => by
    rw [List.sum_cons] at h
    unfold vals
    rw [vals_take s n ks (q + k) (by omega)]
    congr 1
    unfold vI
    rw [List.drop_take, List.take_take, Nat.min_eq_left (by omega)]
def pOf (s : List UInt8) : Pfx := ⟨vI s 0 8, vI s 8 4, vI s 12 4, vI s 17 4 % 4294967296, vI s 21 2, vI s 23 4, vI s 27 8, vI s 35 8, vI s 43 8, vI s 51 2, vI s 53 4, vI s 57 4⟩
def eOf (s : List UInt8) : Int := ckE (vI s 8 4) (vI s 16 1) (vI s 57 4)
theorem pPfx_at (s : List UInt8) (h : 61 ≤ s.length) : pPfx s 0 = if eOf s = 0 then .ok (pOf s, 61) else .error (eOf s) := by
  rw [pPfx, Pr.bind_of (pInts_at s KS 0 (by show 0 + 61 ≤ _; omega))]
  show (if eOf s = 0 then Pr.ret (pOf s) else Pr.err (eOf s)) s 61 = _
  by_cases he : eOf s = 0
  · rw [if_pos he, if_pos he]; rfl
  · rw [if_neg he, if_neg he]; rfl
theorem read_at (s : List UInt8) (h : 61 ≤ s.length) (hl : s.length ≤ 1000000) : (eOf s = 0 ∧ f_prefix_Read ⟨s, 0, 0⟩ = some (pOf s, ⟨s.drop 61, 61, 0⟩)) ∨ (eOf s ≠ 0 ∧ ∃ st : I, f_prefix_Read ⟨s, 0, 0⟩ = some (zP, st) ∧ st.err = eOf s) := by
  have h1 := pPfx_at s h
  rcases B_pfx.run s 0 hl (Nat.zero_le _) with ⟨e, st, p1, g1, x1, y1⟩ | ⟨b, r, p1, g1, n1, l1⟩
  · rw [p1] at h1
    by_cases he : eOf s = 0
    · rw [if_pos he] at h1; exact nomatch h1
    · rw [if_neg he] at h1
      injection h1 with h1
      exact .inr ⟨he, st, g1, by rw [x1, h1]⟩
  · rw [p1] at h1
    by_cases he : eOf s = 0
    · rw [if_pos he] at h1
      injection h1 with h1
      obtain ⟨rfl, rfl⟩ := Prod.mk.inj h1
      exact .inl ⟨he, g1⟩
    · rw [if_neg he] at h1; exact nomatch h1
theorem vals_fits (s : List UInt8) (h : 61 ≤ s.length) : okI KS (vals s KS 0) := ((Sp_ints KS KS_ok).spell s 0 _ _ (Nat.zero_le _) (pInts_at s KS 0 (by show 0 + 61 ≤ _; omega))).2.2.2.2
theorem peek_at (s : List UInt8) (h : 61 ≤ s.length) (hl : s.length ≤ 1000000) : f_prefix_Peek s = some (if eOf s = 0 then (vI s 8 4 + 12, 0) else (0, eOf s)) := by
  have hv := (vals_fits s h).2.1
  have hb : fits (vI s 8 4) 4 = true := hv
  rw [fits_4] at hb
  have hb := of_decide_eq_true hb
  have ht : (s.take 61).length = 61 := by rw [List.length_take]; omega
  have e0 := vals_take s 61 KS 0 (by decide)
  have e1 : pOf (s.take 61) = pOf s := by
    have := congrArg (fun l : List Int => (l[0]?, l[1]?, l[2]?, l[4]?, l[5]?, l[6]?, l[7]?, l[8]?, l[9]?, l[10]?, l[11]?, l[12]?)) e0
    simp only [vals, KS, List.getElem?_cons_zero, List.getElem?_cons_succ, Prod.mk.injEq, Option.some.injEq, Nat.zero_add, Nat.reduceAdd] at this
    obtain ⟨q1, q2, q3, q4, q5, q6, q7, q8, q9, q10, q11, q12⟩ := this
    unfold pOf
    rw [q1, q2, q3, q4, q5, q6, q7, q8, q9, q10, q11, q12]
  have e2 : eOf (s.take 61) = eOf s := by
    have := congrArg (fun l : List Int => (l[1]?, l[3]?, l[12]?)) e0
    simp only [vals, KS, List.getElem?_cons_zero, List.getElem?_cons_succ, Prod.mk.injEq, Option.some.injEq, Nat.zero_add, Nat.reduceAdd] at this
    obtain ⟨q1, q2, q3⟩ := this
    unfold eOf
    rw [q1, q2, q3]
  unfold f_prefix_Peek
  rw [if_neg (by omega), if_pos h, gNew_eq _ (by rw [ht]; decide), Option.bind_some]
  rcases read_at (s.take 61) (by omega) (by omega) with ⟨r1, r2⟩ | ⟨r1, st, r2, r3⟩
  · rw [r2, Option.bind_some]
    rw [e2] at r1
    dsimp only
    rw [gErr_eq, Option.bind_some]
    dsimp only
    rw [if_pos rfl, e1, if_pos r1]
    show (if -9223372036854775808 ≤ vI s 8 4 + 12 ∧ vI s 8 4 + 12 ≤ 9223372036854775807 then _ else _) = _
    rw [if_pos (by omega)]
    rfl
  · rw [r2, Option.bind_some]
    rw [e2] at r1 r3
    dsimp only
    rw [gErr_eq, Option.bind_some]
    dsimp only
    rw [r3, if_neg r1, if_neg r1]
end Go.Proofs.Ytahjmpipllajcaa.Sl
namespace Go.Proofs.Ytahjmpipllajcaa.Sl
open Go.RowKit
set_option linter.unusedVariables false
set_option linter.unusedSimpArgs false
theorem vI_take (s : List UInt8) (n a k : Nat) (h : a + k ≤ n) : vI (s.take n) a k = vI s a k := by
  unfold vI
  rw [List.drop_take, List.take_take, Nat.min_eq_left (by omega)]
theorem eOf_take (s : List UInt8) (n : Nat) (h : 61 ≤ n) : eOf (s.take n) = eOf s := by
  unfold eOf
  rw [vI_take s n 8 4 (by omega), vI_take s n 16 1 (by omega), vI_take s n 57 4 (by omega)]
theorem pOf_take (s : List UInt8) (n : Nat) (h : 61 ≤ n) : pOf (s.take n) = pOf s := by
  unfold pOf
  rw [vI_take s n 0 8 (by omega), vI_take s n 8 4 (by omega), vI_take s n 12 4 (by omega), vI_take s n 17 4 (by omega), vI_take s n 21 2 (by omega), vI_take s n 23 4 (by omega), vI_take s n 27 8 (by omega), vI_take s n 35 8 (by omega), vI_take s n 43 8 (by omega), vI_take s n 51 2 (by omega), vI_take s n 53 4 (by omega), vI_take s n 57 4 (by omega)]
def szOf (s : List UInt8) : Nat := (vI s 8 4 + 12).toNat
theorem szOf_take (s : List UInt8) (n : Nat) (h : 61 ≤ n) : szOf (s.take n) = szOf s := by
  unfold szOf
  rw [vI_take s n 8 4 (by omega)]
theorem szOf_ge {s : List UInt8} (h : eOf s = 0) : 61 ≤ szOf s ∧ szOf s = 61 + ((pOf s).fLength - 49).toNat := by
  have h1 := (ckE_zero h).2.1
  have e : (pOf s).fLength = vI s 8 4 := rfl
  rw [e]
  unfold szOf
  omega
theorem pBat_at {s : List UInt8} (h61 : 61 ≤ s.length) (h0 : eOf s = 0) (hl : szOf s ≤ s.length) : pBat s 0 = (if ((sumP (pOf s) ((s.drop 61).take ((pOf s).fLength - 49).toNat) : Nat) : Int) = (pOf s).fSum then (match openP (pOf s) ((s.drop 61).take ((pOf s).fLength - 49).toNat) with | .error e => .error e | .ok b => .ok (b, szOf s)) else .error 5) := by
  obtain ⟨h1, h2⟩ := szOf_ge h0
  unfold pBat
  rw [pPfx_at s h61, if_pos h0]
  dsimp only
  rw [if_neg (by omega), h2]
  all_goals rfl
theorem pBat_app {s : List UInt8} (t : List UInt8) (h61 : 61 ≤ s.length) (h0 : eOf s = 0) (hl : szOf s ≤ s.length) : pBat (s ++ t) 0 = pBat s 0 := by
  obtain ⟨h1, h2⟩ := szOf_ge h0
  have e1 : eOf (s ++ t) = eOf s := by have := eOf_take (s ++ t) s.length h61; rw [List.take_left] at this; exact this.symm
  have e2 : pOf (s ++ t) = pOf s := by have := pOf_take (s ++ t) s.length h61; rw [List.take_left] at this; exact this.symm
  have e3 : szOf (s ++ t) = szOf s := by have := szOf_take (s ++ t) s.length h61; rw [List.take_left] at this; exact this.symm
  have e4 : ((s ++ t).drop 61).take ((pOf s).fLength - 49).toNat = (s.drop 61).take ((pOf s).fLength - 49).toNat := by
    rw [List.drop_append_of_le_length h61, List.take_append_of_le_length (by rw [List.length_drop]; omega)]
  rw [pBat_at (s := s ++ t) (by rw [List.length_append]; omega) (e1.trans h0) (by rw [e3, List.length_append]; omega), pBat_at h61 h0 hl, e2, e3, e4]
theorem pBat_take {s : List UInt8} (h61 : 61 ≤ s.length) (h0 : eOf s = 0) (hl : szOf s ≤ s.length) : pBat (s.take (szOf s)) 0 = pBat s 0 := by
  obtain ⟨h1, h2⟩ := szOf_ge h0
  have h := pBat_app (s := s.take (szOf s)) (s.drop (szOf s)) (by rw [List.length_take]; omega) ((eOf_take s _ h1).trans h0) (by rw [szOf_take s _ h1, List.length_take]; omega)
  rw [List.take_append_drop] at h
  exact h.symm
theorem pBat_end {s : List UInt8} {b : Bat} {r : Nat} (h61 : 61 ≤ s.length) (h0 : eOf s = 0) (hl : szOf s ≤ s.length) (h : pBat s 0 = .ok (b, r)) : r = szOf s := by
  rw [pBat_at h61 h0 hl] at h
  split at h
  · split at h
    · exact nomatch h
    · exact (congrArg Prod.snd (Except.ok.inj h)).symm
  · exact nomatch h
def scn : Nat → List UInt8 → List Bat × List UInt8 × Int
  | 0, s => ([], s, 0)
  | n + 1, s => if s.length < 61 then ([], s, 0) else if eOf s ≠ 0 then ([], s, eOf s) else if s.length < szOf s then ([], s, 0) else
    match pBat s 0 with
    | .error e => ([], s, e)
    | .ok (b, r) => (b :: (scn n (s.drop r)).1, (scn n (s.drop r)).2)
theorem scn_short {n : Nat} {s : List UInt8} (h : s.length < 61) : scn n s = ([], s, 0) := by
  cases n with
  | zero => rfl
  | succ n => unfold scn; rw [if_pos h]
theorem scn_fuel : ∀ (n m : Nat) (s : List UInt8), s.length ≤ n → s.length ≤ m → scn n s = scn m s
  | 0, m, s, h1, h2 => by rw [scn_short (by omega), scn_short (by omega)]
  | n + 1, 0, s, h1, h2 => by rw [scn_short (by omega), scn_short (by omega)]
  | n + 1, m + 1, s, h1, h2 => by
    unfold scn
    by_cases c1 : s.length < 61
    · rw [if_pos c1, if_pos c1]
    rw [if_neg c1, if_neg c1]
    by_cases c2 : eOf s ≠ 0
    · rw [if_pos c2, if_pos c2]
    rw [if_neg c2, if_neg c2]
    by_cases c3 : s.length < szOf s
    · rw [if_pos c3, if_pos c3]
    rw [if_neg c3, if_neg c3]
    have h0 : eOf s = 0 := Decidable.not_not.1 c2
    have hz := (szOf_ge h0).1
    cases hp : pBat s 0 with
    | error e => rfl
    | ok x =>
      obtain ⟨b, r⟩ := x
      have hr := pBat_end (by omega) h0 (by omega) hp
      dsimp only
      rw [scn_fuel n m (s.drop r) (by rw [List.length_drop]; omega) (by rw [List.length_drop]; omega)]
def Scn (s : List UInt8) : List Bat × List UInt8 × Int := scn s.length s
theorem Scn_short {s : List UInt8} (h : s.length < 61) : Scn s = ([], s, 0) := scn_short h
theorem Scn_bad {s : List UInt8} (h61 : 61 ≤ s.length) (h : eOf s ≠ 0) : Scn s = ([], s, eOf s) := by
  unfold Scn
  rw [show s.length = (s.length - 1) + 1 by omega, scn, if_neg (by omega), if_pos h]
theorem Scn_part {s : List UInt8} (h61 : 61 ≤ s.length) (h : eOf s = 0) (hl : s.length < szOf s) : Scn s = ([], s, 0) := by
  unfold Scn
  rw [show s.length = (s.length - 1) + 1 by omega, scn, if_neg (by omega), if_neg (fun hh => hh h), if_pos hl]
theorem Scn_err {s : List UInt8} {e : Int} (h61 : 61 ≤ s.length) (h : eOf s = 0) (hl : szOf s ≤ s.length) (hp : pBat s 0 = .error e) : Scn s = ([], s, e) := by
  unfold Scn
  rw [show s.length = (s.length - 1) + 1 by omega, scn, if_neg (by omega), if_neg (fun hh => hh h), if_neg (by omega), hp]
theorem Scn_step {s : List UInt8} {b : Bat} {r : Nat} (h61 : 61 ≤ s.length) (h : eOf s = 0) (hl : szOf s ≤ s.length) (hp : pBat s 0 = .ok (b, r)) : Scn s = (b :: (Scn (s.drop r)).1, (Scn (s.drop r)).2) := by
  have hr := pBat_end h61 h hl hp
  have hz := (szOf_ge h).1
  unfold Scn
  conv => lhs; rw [show s.length = (s.length - 1) + 1 by omega]
  rw [scn, if_neg (by omega), if_neg (fun hh => hh h), if_neg (by omega), hp]
  dsimp only
  rw [scn_fuel (s.length - 1) (s.drop r).length (s.drop r) (by rw [List.length_drop]; omega) (Nat.le_refl _)]
theorem Scn_more : ∀ (n : Nat) (s t : List UInt8), s.length ≤ n → s.length ≤ 1000000 → (Scn s).2.2 = 0 → Scn (s ++ t) = ((Scn s).1 ++ (Scn ((Scn s).2.1 ++ t)).1, (Scn ((Scn s).2.1 ++ t)).2)
  | 0, s, t, hn, hs, h => by
    have : s = [] := List.length_eq_zero_iff.1 (by omega)
    subst this
    rw [Scn_short (s := []) (by decide)]
    rfl
  | n + 1, s, t, hn, hs, h => by
    by_cases c1 : s.length < 61
    · rw [Scn_short c1]; rfl
    have h61 : 61 ≤ s.length := by omega
    by_cases c2 : eOf s = 0
    rotate_left
    · rw [Scn_bad h61 c2] at h; exact absurd h c2
    by_cases c3 : s.length < szOf s
    · rw [Scn_part h61 c2 c3]; rfl
    have hl : szOf s ≤ s.length := by omega
    have hz := (szOf_ge c2).1
    cases hp : pBat s 0 with
    | error e =>
      rw [Scn_err h61 c2 hl hp] at h
      exact absurd h (B_bat.nz s 0 e hs (Nat.zero_le _) hp)
    | ok x =>
      obtain ⟨b, r⟩ := x
      have hr := pBat_end h61 c2 hl hp
      have e1 : eOf (s ++ t) = 0 := by have := eOf_take (s ++ t) s.length h61; rw [List.take_left] at this; rw [← this]; exact c2
      have e3 : szOf (s ++ t) = szOf s := by have := szOf_take (s ++ t) s.length h61; rw [List.take_left] at this; exact this.symm
      rw [Scn_step h61 c2 hl hp] at h ⊢
      rw [Scn_step (s := s ++ t) (by rw [List.length_append]; omega) e1 (by rw [e3, List.length_append]; omega) ((pBat_app t h61 c2 hl).trans hp), List.drop_append_of_le_length (by omega)]
      have ih := Scn_more n (s.drop r) t (by rw [List.length_drop]; omega) (by rw [List.length_drop]; omega) h
      rw [ih]
      rfl
theorem Scn_wrong : ∀ (n : Nat) (s t : List UInt8), s.length ≤ n → (Scn s).2.2 ≠ 0 → Scn (s ++ t) = ((Scn s).1, (Scn s).2.1 ++ t, (Scn s).2.2)
  | 0, s, t, hn, h => by
    rw [Scn_short (s := s) (by omega)] at h
    exact absurd rfl h
  | n + 1, s, t, hn, h => by
    by_cases c1 : s.length < 61
    · rw [Scn_short c1] at h; exact absurd rfl h
    have h61 : 61 ≤ s.length := by omega
    have e1 : eOf (s ++ t) = eOf s := by have := eOf_take (s ++ t) s.length h61; rw [List.take_left] at this; exact this.symm
    have e3 : szOf (s ++ t) = szOf s := by have := szOf_take (s ++ t) s.length h61; rw [List.take_left] at this; exact this.symm
    have hlt : 61 ≤ (s ++ t).length := by rw [List.length_append]; omega
    by_cases c2 : eOf s = 0
    rotate_left
    · rw [Scn_bad h61 c2, Scn_bad hlt (by rw [e1]; exact c2), e1]
    by_cases c3 : s.length < szOf s
    · rw [Scn_part h61 c2 c3] at h; exact absurd rfl h
    have hl : szOf s ≤ s.length := by omega
    have hz := (szOf_ge c2).1
    have hl2 : szOf (s ++ t) ≤ (s ++ t).length := by rw [e3, List.length_append]; omega
    cases hp : pBat s 0 with
    | error e => rw [Scn_err h61 c2 hl hp, Scn_err hlt (e1.trans c2) hl2 ((pBat_app t h61 c2 hl).trans hp)]
    | ok x =>
      obtain ⟨b, r⟩ := x
      have hr := pBat_end h61 c2 hl hp
      rw [Scn_step h61 c2 hl hp] at h ⊢
      rw [Scn_step hlt (e1.trans c2) hl2 ((pBat_app t h61 c2 hl).trans hp), List.drop_append_of_le_length (by omega)]
      have ih := Scn_wrong n (s.drop r) t (by rw [List.length_drop]; omega) h
      rw [ih]
theorem Scn_bytes : ∀ (n : Nat) (s : List UInt8), s.length ≤ n → s = encs encBt (Scn s).1 ++ (Scn s).2.1 ∧ ∀ b, b ∈ (Scn s).1 → okB b
  | 0, s, hn => by
    rw [Scn_short (s := s) (by omega)]
    exact ⟨rfl, fun b h => nomatch h⟩
  | n + 1, s, hn => by
    by_cases c1 : s.length < 61
    · rw [Scn_short c1]; exact ⟨rfl, fun b h => nomatch h⟩
    have h61 : 61 ≤ s.length := by omega
    by_cases c2 : eOf s = 0
    rotate_left
    · rw [Scn_bad h61 c2]; exact ⟨rfl, fun b h => nomatch h⟩
    by_cases c3 : s.length < szOf s
    · rw [Scn_part h61 c2 c3]; exact ⟨rfl, fun b h => nomatch h⟩
    have hl : szOf s ≤ s.length := by omega
    have hz := (szOf_ge c2).1
    cases hp : pBat s 0 with
    | error e => rw [Scn_err h61 c2 hl hp]; exact ⟨rfl, fun b h => nomatch h⟩
    | ok x =>
      obtain ⟨b, r⟩ := x
      have hr := pBat_end h61 c2 hl hp
      obtain ⟨a1, a2, a3, a4, a5⟩ := Sp_bat.spell s 0 b r (Nat.zero_le _) hp
      rw [List.take_zero, List.nil_append] at a4
      obtain ⟨i1, i2⟩ := Scn_bytes n (s.drop r) (by rw [List.length_drop]; omega)
      rw [Scn_step h61 c2 hl hp]
      refine ⟨?_, fun x hx => ?_⟩
      · show s = (encBt b ++ encs encBt (Scn (s.drop r)).1) ++ (Scn (s.drop r)).2.1
        rw [List.append_assoc, ← i1, ← a4, List.take_append_drop]
      · rcases List.mem_cons.1 hx with rfl | hx
        · exact a5
        · exact i2 x hx
theorem Scn_enc {b : Bat} (t : List UInt8) (h : okB b) : Scn (encBt b ++ t) = (b :: (Scn t).1, (Scn t).2) := by
  have hb := Sp_bat.back (encBt b ++ t) t 0 b (Nat.zero_le _) h (by rw [List.drop_zero])
  rw [Nat.zero_add] at hb
  have h1 := encBt_len h
  have h61 : 61 ≤ (encBt b ++ t).length := by rw [List.length_append]; omega
  have h0 : eOf (encBt b ++ t) = 0 := by
    apply Decidable.byContradiction
    intro hc
    unfold pBat at hb
    rw [pPfx_at _ h61, if_neg hc] at hb
    exact nomatch hb
  have hsz : szOf (encBt b ++ t) = (encBt b).length := by
    obtain ⟨g1, g2⟩ := szOf_ge h0
    unfold pBat at hb
    rw [pPfx_at _ h61, if_pos h0] at hb
    dsimp only at hb
    split at hb
    · exact nomatch hb
    · split at hb
      · split at hb
        · exact nomatch hb
        · rw [g2]; exact congrArg Prod.snd (Except.ok.inj hb)
      · exact nomatch hb
  rw [Scn_step h61 h0 (by rw [hsz, List.length_append]; omega) hb, List.drop_left]
theorem Scn_encs : ∀ (l : List Bat) (t : List UInt8), (∀ b, b ∈ l → okB b) → Scn (encs encBt l ++ t) = (l ++ (Scn t).1, (Scn t).2)
  | [], t, _ => rfl
  | b :: l, t, h => by
    rw [encs, List.append_assoc, Scn_enc _ (h b (.head _)), Scn_encs l t (fun x hx => h x (.tail _ hx))]
    rfl
theorem Scn_cut {b : Bat} (h : okB b) {k : Nat} (hk : k < (encBt b).length) : Scn ((encBt b).take k) = ([], (encBt b).take k, 0) := by
  have hl : ((encBt b).take k).length = k := by rw [List.length_take]; omega
  by_cases c : k < 61
  · exact Scn_short (by omega)
  have hb := Sp_bat.back (encBt b) [] 0 b (Nat.zero_le _) h (by rw [List.drop_zero, List.append_nil])
  rw [Nat.zero_add] at hb
  have h1 := encBt_len h
  have h61 : 61 ≤ (encBt b).length := by omega
  have h0 : eOf (encBt b) = 0 := by
    apply Decidable.byContradiction
    intro hc
    unfold pBat at hb
    rw [pPfx_at _ h61, if_neg hc] at hb
    exact nomatch hb
  have hz : szOf (encBt b) = (encBt b).length := by
    obtain ⟨g1, g2⟩ := szOf_ge h0
    unfold pBat at hb
    rw [pPfx_at _ h61, if_pos h0] at hb
    dsimp only at hb
    split at hb
    · exact nomatch hb
    · split at hb
      · split at hb
        · exact nomatch hb
        · rw [g2]; exact congrArg Prod.snd (Except.ok.inj hb)
      · exact nomatch hb
  exact Scn_part (by omega) ((eOf_take _ k (by omega)).trans h0) (by rw [szOf_take _ k (by omega), hz]; omega)
end Go.Proofs.Ytahjmpipllajcaa.Sl
namespace Go.Proofs.Ytahjmpipllajcaa.Sl
open Go.RowKit
set_option linter.unusedVariables false
set_option linter.unusedSimpArgs false
set_option maxRecDepth 100000
def MbR_ScanScanner (g : Nat) (st : ScanScanner) : Res := PakR (fun x : Option Addr × Nat => [BlkR g 112 #[.slice x.1 st.fheld.length x.2, .int .i64 st.fvalid, .int .i64 st.ferr], OwnR 5 1 u8E (.slice x.1 st.fheld.length x.2) st.fheld])
theorem MbR_ScanScanner_shut {n : Nat} {F0 : Nat → Prop} {w0 : World} {e : Env} {Rs Rs' : List Res} {Q : Exit → Act → World → Prop} {z : Exit} (g : Nat) (st : ScanScanner) (A0 : Option Addr) (c0 : Nat) (hR : Rs = [BlkR g 112 #[.slice A0 st.fheld.length c0, .int .i64 st.fvalid, .int .i64 st.ferr], OwnR 5 1 u8E (.slice A0 st.fheld.length c0) st.fheld] ++ Rs') (h : X n F0 w0 e (MbR_ScanScanner g st :: Rs') z Q) : X n F0 w0 e Rs z Q := X.pakShut (A0, c0) hR h
theorem ones_scan_36 : Ones Bat_rd := by rintro _ _ _ _ ⟨_, _, rfl, _⟩; rfl
def ft_scan : FTab := [(112, 0, 0), (112, 1, 1), (112, 2, 2)]
theorem ft_scan_ok : (ft_scan).OK Try.prog := ⟨FOK.mk Try.runUnderlying112 rfl Try.sizeOf33 rfl, FOK.mk Try.runUnderlying112 rfl Try.sizeOf3 rfl, FOK.mk Try.runUnderlying112 rfl Try.sizeOf24 rfl, trivial⟩
theorem mix_scan : Try.prog.follows .mixedOrders = true := by kernel_rfl
theorem bok_scan_26 : BOK Try.prog 26 #[.int .i64 0, .int .i64 0, .int .i64 0] [(0, 1), (1, 1), (2, 1)] := BOK.mk Try.zeroValue26 Try.runUnderlying26 (by intro w; simp)
theorem bok_scan_112 : BOK Try.prog 112 #[.slice none 0 0, .int .i64 0, .int .i64 0] [(0, 1), (1, 1), (2, 1)] := BOK.mk Try.zeroValue112 Try.runUnderlying112 (by intro w; simp)
theorem sok_scan_23_1 : SOK Try.prog 23 36 1 12 #[.int .i64 0, .int .i64 0, .bool false, .bool false, .bool false, .int .i64 0, .int .i64 0, .int .i64 0, .int .i64 0, .int .i64 0, .int .i64 0, .slice none 0 0] := SOK.mk Try.runUnderlying23 Try.sizeOf36 Try.zeroValue36 (by decide) (by kernel_rfl)
theorem inf_scan_5 : (Try.prog.info? 5).map (fun i => (i.zero, i.size, i.bytes)) = some (some (.int .u8 0), 1, 1) := by kernel_rfl
theorem inf_scan_36 : (Try.prog.info? 36).map (fun i => (i.zero, i.size, i.bytes)) = some (some (.agg #[.int .i64 0, .int .i64 0, .bool false, .bool false, .bool false, .int .i64 0, .int .i64 0, .int .i64 0, .int .i64 0, .int .i64 0, .int .i64 0, .slice none 0 0]), 12, 96) := by kernel_rfl
def f_scan_New  : Option (ScanScanner) := some (⟨[], 0, 0⟩ : ScanScanner)
set_option maxRecDepth 100000 in
set_option maxHeartbeats 4000000 in
theorem f_scan_New_spec  (r : ScanScanner) (h : f_scan_New  = some r) : SpecX Try.prog 28 #[] .triv (EmpR) (fun v A' N => ∃ q : Nat, v = .pointer (some ⟨q, 0, none⟩) ∧ A' = EmpR ∧ N = [MbR_ScanScanner q r]) := by
  refine enterA Try.func28 rfl Try.ntmps28 rfl ?_
  intro F w hX
  unfold f_scan_New at h
  refine T.seq (T.region rfl ?_)
  refine TL.run ft_scan_ok [0] rfl rfl ?_
  refine TL.nil (X.seq (T.seq (T.region rfl ?_)))
  refine TL.q rfl .u (Ex.bld (cells := #[.slice none 0 0, .int .i64 0, .int .i64 0]) bok_scan_112 rfl (by kernel_rfl)) rfl ?_
  refine TL.box rfl .u rfl rfl (fun b3 => ?_)
  refine TL.run ft_scan_ok [2] rfl rfl ?_
  obtain rfl := Option.some.inj h
  refine TL.nil (X.seq (T.ret ?_))
  refine X.nilrow 5 1 u8E ?_
  refine X.sel [1, 0, 0] rfl ?_
  refine MbR_ScanScanner_shut b3 (⟨[], 0, 0⟩ : ScanScanner) none 0 rfl ?_
  exact X.done1 [1, 0] Try.results28 (RV.tm rfl) ⟨_, rfl, rfl, rfl⟩ (by rfl) (.inl rfl)
def f_scan_ScannerFeed_g1 (y65 : List Bat) (y68 : Int) (y70 : List Int) (y73 : Int) (y74 : Int) : Option (List Bat × ScanScanner) := some (y65, (⟨y70, y73, y68⟩ : ScanScanner))
def f_scan_ScannerFeed_g0 : Nat → List Bat → List Int → Int → Int → Option (List Bat × ScanScanner)
  | 0, _, _, _, _ => none
  | m76 + 1, y9, y13, y16, y17 => (if 61 < (y13.length : Int) then (if 61 ≤ y13.length then ((f_prefix_Peek (toBs (y13.take 61))).bind fun (x91, x92) => some (x91, x92)) else none) else (if y13.length ≤ y13.length then ((f_prefix_Peek (toBs (y13.take y13.length))).bind fun (x95, x96) => some (x95, x96)) else none)).bind fun (y86, y87) => if y87 = 0 then ((if y86 = 0 then some true else (if y86 > (y13.length : Int) then some true else some false)).bind fun y100 => if y100 = true then (some (y9, (⟨y13, y16, y17⟩ : ScanScanner))) else (if 0 ≤ y86 ∧ y86.toNat ≤ y13.length then ((gNew (toBs (y13.take y86.toNat))).bind fun st106 => (f_batch_Read st106).bind fun (x109, st112) => (gErr st112).bind fun (x114, st115) => if x114 = 0 then (if (y9.length + 1) * 96 ≤ 140737488355328 then (if -9223372036854775808 ≤ (y16 + y86) ∧ (y16 + y86) ≤ 9223372036854775807 then (if 0 ≤ y86 ∧ y86.toNat ≤ y13.length then (f_scan_ScannerFeed_g0 m76 (y9 ++ [x109]) (y13.drop y86.toNat) (y16 + y86) y17) else none) else none) else none) else (f_scan_ScannerFeed_g1 y9 x114 y13 y16 y17)) else none)) else (f_scan_ScannerFeed_g1 y9 y87 y13 y16 y17)
def f_scan_ScannerFeed (st : ScanScanner) (a1 : List UInt8) : Option (List Bat × ScanScanner) := if st.ferr = 0 then (if st.fheld.length + a1.length ≤ 140737488355328 then (f_scan_ScannerFeed_g0 ((st.fheld ++ bsI a1).length + 1) [] (st.fheld ++ bsI a1) st.fvalid st.ferr) else none) else some ([], st)
set_option maxRecDepth 100000 in
set_option maxHeartbeats 4000000 in
theorem f_scan_ScannerFeed_spec (g : Nat) (st : ScanScanner) (a1 : List UInt8) (r : List Bat × ScanScanner) (h : f_scan_ScannerFeed st a1 = some r) : SpecX Try.prog 29 #[.pointer (some ⟨g, 0, none⟩), .string (bsOf a1)] .triv (MbR_ScanScanner g st) (fun v A' N => ∃ (A129 : Option Addr) (c130 : Nat), v = .slice A129 r.1.length c130 ∧ A' = MbR_ScanScanner g r.2 ∧ N = [RdR (sliceRd 12 Bat_rd) [.slice A129 r.1.length c130] r.1]) := by
  refine enterA Try.func29 rfl Try.ntmps29 rfl ?_
  intro F w hX
  refine T.pakOpen 0 rfl ?_
  rintro ⟨A1, c2⟩
  refine T.sel [0, 0] rfl ?_
  unfold f_scan_ScannerFeed at h
  refine T.seq (T.region rfl ?_)
  refine TL.run ft_scan_ok [0] rfl rfl ?_
  refine TL.nil (X.seq ?_)
  refine T.scope (fun l m e Rs => (l = 0 ∧ ∃ (b12 : Nat) (y9 : List Bat) (A10 : Option Addr) (c11 : Nat) (y13 : List Int) (A14 : Option Addr) (c15 : Nat) (y16 : Int) (y17 : Int), e = [(0, .pointer (some ⟨g, 0, none⟩)), (5, .slice A10 y9.length c11), (9, .pointer (some ⟨b12, 0, none⟩))] ∧ Rs = [AnyR b12 36 12, BlkR g 112 #[.slice A14 y13.length c15, .int .i64 y16, .int .i64 y17], OwnR 36 12 Bat_rd (.slice A10 y9.length c11) y9, OwnR 5 1 u8E (.slice A14 y13.length c15) y13] ∧ f_scan_ScannerFeed_g0 m y9 y13 y16 y17 = some r) ∨ (l = 1 ∧ m = 0 ∧ ∃ (b69 : Nat) (y65 : List Bat) (A66 : Option Addr) (c67 : Nat) (y68 : Int) (y70 : List Int) (A71 : Option Addr) (c72 : Nat) (y73 : Int) (y74 : Int), e = [(0, .pointer (some ⟨g, 0, none⟩)), (5, .slice A66 y65.length c67), (7, .int .i64 y68)] ∧ Rs = [AnyR b69 36 12, BlkR g 112 #[.slice A71 y70.length c72, .int .i64 y73, .int .i64 y74], OwnR 36 12 Bat_rd (.slice A66 y65.length c67) y65, OwnR 5 1 u8E (.slice A71 y70.length c72) y70] ∧ f_scan_ScannerFeed_g1 y65 y68 y70 y73 y74 = some r)) ?_ ?_
  · rintro _ m _ _ (⟨rfl, b12, y9, A10, c11, y13, A14, c15, y16, y17, rfl, rfl, h⟩ | ⟨rfl, rfl, b69, y65, A66, c67, y68, y70, A71, c72, y73, y74, rfl, rfl, h⟩)
    · refine ⟨_, rfl, ?_⟩
      cases m with
      | zero => rw [f_scan_ScannerFeed_g0] at h; cases h
      | succ m76 =>
        rw [f_scan_ScannerFeed_g0] at h
        refine T.seq ?_
        obtain ⟨⟨y86, y87⟩, h, hk88⟩ := Option.bind_eq_some_iff.1 h
        refine T.jq (fun e Rs => e = [(0, .pointer (some ⟨g, 0, none⟩)), (5, .slice A10 y9.length c11), (6, .int .i64 y86), (7, .int .i64 y87), (9, .pointer (some ⟨b12, 0, none⟩))] ∧ Rs = [AnyR b12 36 12, BlkR g 112 #[.slice A14 y13.length c15, .int .i64 y16, .int .i64 y17], OwnR 36 12 Bat_rd (.slice A10 y9.length c11) y9, OwnR 5 1 u8E (.slice A14 y13.length c15) y13]) ?_ ?_
        · clear hk88
          refine T.draw (.q 0 (.q 1 (.q 2 (.q 3 (.q 4 (.q 5 (.q 6 (.q 7 (.q 8 (.q 9 (.q 10 (.q 11 (.e 12 (.q 13 (.q 14 (.q 15 (.q 16 (.q 17 .nil)))))))))))))))))) [0, 0, 0, 0] rfl mix_scan (NoP.seq (NoP.seq (NoP.jm np_post))) (by kernel_rfl) ?_
          refine TD.run ft_scan_ok [0, 1, 2] rfl rfl ?_
          refine TD.q rfl .u (Ex.b1 1 rfl Try.isAgg33 rfl rfl) rfl ?_
          refine TD.run ft_scan_ok [4, 5, 6] rfl rfl ?_
          refine TD.q rfl .u (Ex.b1 1 rfl Try.isAgg33 rfl rfl) rfl ?_
          refine TD.q rfl .u (Ex.lenS rfl Try.runUnderlying33) rfl ?_
          by_cases c89 : 61 < (y13.length : Int)
          · replace h := ifT c89 h
            refine TD.q rfl .u (Ex.miny rfl rfl c89) rfl ?_
            replace h := guard_some h
            obtain ⟨c90, h⟩ := h
            refine TD.q rfl .u (Ex.ownTake (k := 61) 3 rfl rfl Try.runUnderlying33 Try.sizeOf5 (.some rfl rfl) c90) rfl ?_
            refine TD.q rfl .u (Ex.takeStr (k := 61) 3 rfl rfl c90 Try.runUnderlying33 Try.runUnderlying9 Try.runUnderlying5) rfl ?_
            obtain ⟨⟨x91, x92⟩, hx93, h⟩ := Option.bind_eq_some_iff.1 h
            try dsimp only at h
            refine TD.ce rfl .u (.fn Try.call55 rfl) (f_prefix_Peek_spec (toBs (y13.take 61)) _ hx93) (fun _ hs => (RX.reads_triv _ _)) rfl [0, 0, 0, 0] (rfl) ?_
            refine TD.run ft_scan_ok [13, 14, 15, 16, 17] rfl rfl ?_
            cases h
            exact TD.nil (X.jq [0, 0, 0, 0] ⟨rfl, rfl⟩ (by rfl) (by rfl))
          · replace h := ifF c89 h
            refine TD.q rfl .u (Ex.minx rfl rfl c89) rfl ?_
            replace h := guard_some h
            obtain ⟨c94, h⟩ := h
            refine TD.q rfl .u (Ex.ownTake (k := y13.length) 3 rfl rfl Try.runUnderlying33 Try.sizeOf5 (.some rfl rfl) c94) rfl ?_
            refine TD.q rfl .u (Ex.takeStr (k := y13.length) 3 rfl rfl c94 Try.runUnderlying33 Try.runUnderlying9 Try.runUnderlying5) rfl ?_
            obtain ⟨⟨x95, x96⟩, hx97, h⟩ := Option.bind_eq_some_iff.1 h
            try dsimp only at h
            refine TD.ce rfl .u (.fn Try.call55 rfl) (f_prefix_Peek_spec (toBs (y13.take y13.length)) _ hx97) (fun _ hs => (RX.reads_triv _ _)) rfl [0, 0, 0, 0] (rfl) ?_
            refine TD.run ft_scan_ok [13, 14, 15, 16, 17] rfl rfl ?_
            cases h
            exact TD.nil (X.jq [0, 0, 0, 0] ⟨rfl, rfl⟩ (by rfl) (by rfl))
        · rintro _ _ ⟨rfl, rfl⟩
          clear h
          have h := hk88
          clear hk88
          try dsimp only at h
          refine X.seq (T.seq (T.seq (T.region rfl ?_)))
          refine TL.run ft_scan_ok [0, 1] rfl rfl ?_
          by_cases c98 : y87 = 0
          · replace h := ifT c98 h
            refine TL.nil (X.seq ?_)
            refine T.no rfl (bn_f (decide_eq_true c98)) ?_
            refine T.skip (X.seq (T.seq (T.seq ?_)))
            obtain ⟨y100, h, hk101⟩ := Option.bind_eq_some_iff.1 h
            refine T.jq (fun e Rs => e = [(0, .pointer (some ⟨g, 0, none⟩)), (5, .slice A10 y9.length c11), (6, .int .i64 y86), (7, .int .i64 y87), (9, .pointer (some ⟨b12, 0, none⟩)), (52, .bool y100)] ∧ Rs = [AnyR b12 36 12, BlkR g 112 #[.slice A14 y13.length c15, .int .i64 y16, .int .i64 y17], OwnR 36 12 Bat_rd (.slice A10 y9.length c11) y9, OwnR 5 1 u8E (.slice A14 y13.length c15) y13]) ?_ ?_
            · clear hk101
              refine T.region rfl ?_
              by_cases c102 : y86 = 0
              · replace h := ifT c102 h
                refine TL.run ft_scan_ok [0, 1, 2] rfl rfl ?_
                refine TL.no rfl (.gn rfl rfl (decide_eq_true c102)) rfl ?_
                refine TL.no rfl (.gn rfl rfl (decide_eq_true c102)) rfl ?_
                refine TL.no rfl (.gn rfl rfl (decide_eq_true c102)) rfl ?_
                refine TL.no rfl (.gn rfl rfl (decide_eq_true c102)) rfl ?_
                refine TL.no rfl (.gn rfl rfl (decide_eq_true c102)) rfl ?_
                refine TL.no rfl (.gn rfl rfl (decide_eq_true c102)) rfl ?_
                refine TL.no rfl (.gn rfl rfl (decide_eq_true c102)) rfl ?_
                refine TL.q rfl .u (Ex.py rfl (decide_eq_true c102) rfl) rfl ?_
                cases h
                exact TL.nil (X.jq [0, 0, 0, 0] ⟨rfl, rfl⟩ (by rfl) (by rfl))
              · replace h := ifF c102 h
                refine TL.run ft_scan_ok [0, 1, 2] rfl rfl ?_
                refine TL.q rfl (.g rfl rfl (decide_eq_false c102)) (Ex.ft ft_scan_ok rfl) rfl ?_
                refine TL.q rfl (.g rfl rfl (decide_eq_false c102)) (Ex.ft ft_scan_ok rfl) rfl ?_
                refine TL.q rfl (.g rfl rfl (decide_eq_false c102)) (Ex.ft ft_scan_ok rfl) rfl ?_
                refine TL.q rfl (.g rfl rfl (decide_eq_false c102)) (Ex.ft ft_scan_ok rfl) rfl ?_
                refine TL.q rfl (.g rfl rfl (decide_eq_false c102)) (Ex.b1 1 rfl Try.isAgg33 rfl rfl) rfl ?_
                refine TL.q rfl (.g rfl rfl (decide_eq_false c102)) (Ex.lenS rfl Try.runUnderlying33) rfl ?_
                refine TL.q rfl (.g rfl rfl (decide_eq_false c102)) (Ex.ft ft_scan_ok rfl) rfl ?_
                refine TL.q rfl .u (Ex.pn rfl (decide_eq_false c102) rfl) rfl ?_
                by_cases c103 : y86 > (y13.length : Int)
                · replace h := ifT c103 h
                  cases h
                  exact TL.nil (X.as (d := 52) (v' := .bool true) rfl (congrArg Value.bool (decide_eq_true c103)) (X.jq [0, 0, 0, 0] ⟨rfl, rfl⟩ (by rfl) (by rfl)))
                · replace h := ifF c103 h
                  cases h
                  exact TL.nil (X.as (d := 52) (v' := .bool false) rfl (congrArg Value.bool (decide_eq_false c103)) (X.jq [0, 0, 0, 0] ⟨rfl, rfl⟩ (by rfl) (by rfl)))
            · rintro _ _ ⟨rfl, rfl⟩
              clear h
              have h := hk101
              clear hk101
              try dsimp only at h
              by_cases c104 : y100 = true
              · replace h := ifT c104 h
                refine X.seq ?_
                refine T.yes rfl c104 ?_
                refine T.seq (T.region rfl ?_)
                refine TL.run ft_scan_ok [0, 1] rfl rfl ?_
                obtain rfl := Option.some.inj h
                refine TL.nil (X.seq (T.ret (X.rs (X.rj ?_))))
                refine X.shut (by decide) 2 rfl ?_
                refine X.sel [0, 0, 0, 0] rfl ?_
                refine X.sel [1, 2, 0, 0] rfl ?_
                refine MbR_ScanScanner_shut g (⟨y13, y16, y17⟩ : ScanScanner) A14 c15 rfl ?_
                exact X.done1 [0, 1] Try.results29 (RV.tm rfl) ⟨_, _, rfl, rfl, rfl⟩ (by rfl) (.inl rfl)
              · replace h := ifF c104 h
                replace c104 := eq_false_of_ne_true c104
                refine X.seq ?_
                refine T.no rfl c104 ?_
                refine T.skip (X.seq (T.seq (T.region rfl ?_)))
                refine TL.run ft_scan_ok [0, 1, 2] rfl rfl ?_
                refine TL.q rfl .u (Ex.b1 1 rfl Try.isAgg33 rfl rfl) rfl ?_
                replace h := guard_some h
                obtain ⟨c105, h⟩ := h
                refine TL.run ft_scan_ok [4] rfl rfl ?_
                refine TL.q rfl .u (Ex.ownTake (k := y86.toNat) 3 rfl rfl Try.runUnderlying33 Try.sizeOf5 (.some rfl (Int.toNat_of_nonneg c105.1).symm) c105.2) rfl ?_
                refine TL.q rfl .u (Ex.takeStr (k := y86.toNat) 3 rfl rfl c105.2 Try.runUnderlying33 Try.runUnderlying9 Try.runUnderlying5) rfl ?_
                obtain ⟨st106, hx107, h⟩ := Option.bind_eq_some_iff.1 h
                refine TL.cge rfl .u (.fn Try.call56 rfl) (gNew_spec (toBs (y13.take y86.toNat)) _ hx107) (fun _ hs => (RX.reads_triv _ _)) rfl ?_
                rintro _ _ _ ⟨b108, rfl, rfl, rfl⟩
                refine TL.sel [0, 0, 0, 0, 0] rfl ?_
                refine TL.run ft_scan_ok [8] rfl rfl ?_
                refine TL.nil (X.seq (T.seq (T.region rfl ?_)))
                obtain ⟨⟨x109, st112⟩, hx113, h⟩ := Option.bind_eq_some_iff.1 h
                try dsimp only at h
                refine TL.run ft_scan_ok [0] rfl rfl ?_
                refine TL.cg0 rfl .u (.fn Try.call57 rfl) (f_batch_Read_spec b108 st106 _ hx113) (fun _ hs => (Src.triv _)) rfl ?_
                rintro _ _ _ ⟨A110, c111, rfl, rfl, rfl⟩
                refine TL.sel [0, 0, 0, 0, 0, 0] rfl ?_
                refine TL.stAll 2 rfl .u rfl rfl Try.sizeOf36 rfl rfl rfl ?_
                refine TL.sel [0, 0, 0, 0, 0, 0] rfl ?_
                refine TL.nil (X.seq (T.seq (T.seq (T.region rfl ?_))))
                obtain ⟨⟨x114, st115⟩, hx116, h⟩ := Option.bind_eq_some_iff.1 h
                try dsimp only at h
                refine TL.run ft_scan_ok [0] rfl rfl ?_
                refine TL.c1 rfl .u (.fn Try.call58 rfl) (gErr_spec b108 st112 _ hx116) (fun _ hs => (Src.triv _)) rfl ?_
                refine TL.run ft_scan_ok [2] rfl rfl ?_
                refine TL.nil (X.seq (T.seq (T.region rfl ?_)))
                refine TL.run ft_scan_ok [0, 1] rfl rfl ?_
                by_cases c117 : x114 = 0
                · replace h := ifT c117 h
                  refine TL.nil (X.seq ?_)
                  refine T.no rfl (bn_f (decide_eq_true c117)) ?_
                  refine T.skip (X.seq (T.seq (T.region rfl ?_)))
                  refine TL.run ft_scan_ok [0] rfl rfl ?_
                  refine TL.q rfl .u (Ex.bS (us := [.int .i64 x109.fBase, .int .i64 x109.fLeader, .bool x109.fAppend, .bool x109.fTxn, .bool x109.fControl, .int .i64 x109.fLast, .int .i64 x109.fFirst, .int .i64 x109.fMax, .int .i64 x109.fProducer, .int .i64 x109.fEpoch, .int .i64 x109.fSequence, .slice A110 x109.fRecords.length c111]) 2 rfl Try.isAgg36 Try.sizeOf36 rfl rfl rfl) rfl ?_
                  refine TL.lit (cells := #[.int .i64 x109.fBase, .int .i64 x109.fLeader, .bool x109.fAppend, .bool x109.fTxn, .bool x109.fControl, .int .i64 x109.fLast, .int .i64 x109.fFirst, .int .i64 x109.fMax, .int .i64 x109.fProducer, .int .i64 x109.fEpoch, .int .i64 x109.fSequence, .slice A110 x109.fRecords.length c111]) rfl .u sok_scan_23_1 rfl (by kernel_rfl) rfl (fun b118 => ?_)
                  replace h := guard_some h
                  obtain ⟨c119, h⟩ := h
                  refine TL.app2 4 0 rfl .u (us := [.int .i64 x109.fBase, .int .i64 x109.fLeader, .bool x109.fAppend, .bool x109.fTxn, .bool x109.fControl, .int .i64 x109.fLast, .int .i64 x109.fFirst, .int .i64 x109.fMax, .int .i64 x109.fProducer, .int .i64 x109.fEpoch, .int .i64 x109.fSequence, .slice A110 x109.fRecords.length c111]) (u := x109) (l := y9) (E := Bat_rd) Try.underlying23 inf_scan_36 rfl (by decide) rfl rfl rfl rfl rfl rfl rfl (fun w G hG => ⟨_, _, rfl, hG.1⟩) (by have hq := c119; omega) (by have hq := c119; omega) rfl (fun A120 c121 => ?_)
                  refine TL.sel [0, 0, 0, 0, 0] rfl ?_
                  refine TL.run ft_scan_ok [4] rfl rfl ?_
                  refine TL.nil (X.seq (T.seq (T.region rfl ?_)))
                  refine TL.run ft_scan_ok [0, 1, 2] rfl rfl ?_
                  refine TL.q rfl .u (Ex.b1 3 rfl Try.isAgg3 rfl rfl) rfl ?_
                  replace h := guard_some h
                  obtain ⟨c122, h⟩ := h
                  refine TL.run ft_scan_ok [4] rfl rfl ?_
                  refine TL.q rfl .u (Ex.add rfl rfl c122) rfl ?_
                  refine TL.run ft_scan_ok [6, 7] rfl rfl ?_
                  refine TL.st3 (cs' := #[.slice A14 y13.length c15, .int .i64 (y16 + y86), .int .i64 y17]) rfl .u rfl rfl Try.sizeOf3 rfl rfl rfl rfl ?_
                  replace h := guard_some h
                  obtain ⟨c123, h⟩ := h
                  refine TL.nil (X.seq (T.seq ?_))
                  refine T.join (fun e Rs => e = [(0, .pointer (some ⟨g, 0, none⟩)), (5, .slice A120 (y9 ++ [x109]).length c121), (6, .int .i64 y86), (7, .int .i64 x114), (8, .pointer (some ⟨b108, 0, none⟩)), (9, .pointer (some ⟨b12, 0, none⟩)), (52, .bool y100), (54, .pointer (some ⟨g, 0, none⟩)), (55, .pointer (some ⟨g, 0, none⟩)), (56, .pointer (some ⟨g, 0, none⟩)), (57, .slice A14 y13.length c15), (58, .int .i64 y86), (59, .slice A14 y86.toNat c15), (60, .string (bsOf (toBs (y13.take y86.toNat)))), (61, .pointer (some ⟨b108, 0, none⟩)), (62, .pointer (some ⟨b108, 0, none⟩)), (63, .agg #[.int .i64 x109.fBase, .int .i64 x109.fLeader, .bool x109.fAppend, .bool x109.fTxn, .bool x109.fControl, .int .i64 x109.fLast, .int .i64 x109.fFirst, .int .i64 x109.fMax, .int .i64 x109.fProducer, .int .i64 x109.fEpoch, .int .i64 x109.fSequence, .slice A110 x109.fRecords.length c111]), (64, .pointer (some ⟨b108, 0, none⟩)), (65, .int .i64 x114), (66, .int .i64 x114), (67, .bool (!(decide (x114 = 0)))), (68, .slice A10 y9.length c11), (69, .agg #[.int .i64 x109.fBase, .int .i64 x109.fLeader, .bool x109.fAppend, .bool x109.fTxn, .bool x109.fControl, .int .i64 x109.fLast, .int .i64 x109.fFirst, .int .i64 x109.fMax, .int .i64 x109.fProducer, .int .i64 x109.fEpoch, .int .i64 x109.fSequence, .slice A110 x109.fRecords.length c111]), (70, .slice (some ⟨b118, 0, none⟩) 1 1), (71, .slice A120 (y9 ++ [x109]).length c121), (72, .pointer (some ⟨g, 0, none⟩)), (73, .pointer (some ⟨g, 0, none⟩)), (74, .pointer (some ⟨g, 1, none⟩)), (75, .int .i64 y16), (76, .int .i64 y86), (77, .int .i64 (y16 + y86)), (78, .pointer (some ⟨g, 0, none⟩)), (79, .pointer (some ⟨g, 1, none⟩))] ∧ Rs = [OwnR 36 12 Bat_rd (.slice A120 (y9 ++ [x109]).length c121) (y9 ++ [x109]), InR b108 st115, BlkR b12 36 #[.int .i64 x109.fBase, .int .i64 x109.fLeader, .bool x109.fAppend, .bool x109.fTxn, .bool x109.fControl, .int .i64 x109.fLast, .int .i64 x109.fFirst, .int .i64 x109.fMax, .int .i64 x109.fProducer, .int .i64 x109.fEpoch, .int .i64 x109.fSequence, .slice A110 x109.fRecords.length c111], BlkR g 112 #[.slice A14 (y13.drop y86.toNat).length c15, .int .i64 (y16 + y86), .int .i64 y17], OwnR 5 1 u8E (.slice A14 (y13.drop y86.toNat).length c15) (y13.drop y86.toNat)]) ?_ ?_
                  · refine T.draw (.q 0 (.q 1 (.q 2 (.q 3 (.q 5 (.q 6 (.q 7 (.q 9 (.q 10 (.q 11 (.q 13 (.br 4 (.br 8 (.e 12 (.q 14 (.e 15 (.e 16 (.q 17 (.q 18 (.e 19 .nil))))))) (.e 12 (.q 14 (.e 8 (.e 15 (.e 16 (.q 17 (.q 18 (.e 19 .nil))))))))) (.br 8 (.br 4 (.e 12 (.q 14 (.e 15 (.e 16 (.q 17 (.q 18 (.e 19 .nil))))))) (.e 12 (.q 14 (.br 4 (.e 15 (.e 16 (.q 17 (.q 18 (.e 19 .nil))))) (.e 15 (.e 4 (.e 16 (.q 17 (.q 18 (.e 19 .nil)))))))))) (.e 12 (.q 14 (.br 4 (.e 8 (.e 15 (.e 16 (.q 17 (.q 18 (.e 19 .nil)))))) (.e 8 (.br 4 (.e 15 (.e 16 (.q 17 (.q 18 (.e 19 .nil))))) (.e 15 (.e 4 (.e 16 (.q 17 (.q 18 (.e 19 .nil)))))))))))))))))))))))) [0, 0, 0] rfl mix_scan np_jq (by kernel_rfl) ?_
                    refine TD.run ft_scan_ok [0, 1, 2, 3, 5, 6, 7, 9, 10, 11, 13] rfl rfl ?_
                    refine TD.br ?_ ?_
                    · refine TD.ny rfl .u (Ex.b1 3 rfl Try.isAgg33 rfl rfl) rfl [0, 0, 0] rfl ?_
                      refine TD.br ?_ ?_
                      · refine TD.ny rfl .u (Ex.b1 3 rfl Try.isAgg33 rfl rfl) rfl [0, 0, 0] rfl ?_
                        refine TD.ny rfl .u (Ex.b1 3 rfl Try.isAgg33 rfl rfl) rfl [0, 0, 0] rfl ?_
                        refine TD.q rfl .u (Ex.dropS (k := y86.toNat) rfl Try.runUnderlying33 Try.sizeOf5 rfl (Int.toNat_of_nonneg c123.1).symm c123.2) rfl ?_
                        refine TD.copyD (k := y86.toNat) 4 rfl .u Try.underlying33 (by kernel_rfl) rfl rfl rfl c123.2 rfl [0, 0, 0] (rfl) ?_
                        refine TD.sel [0, 0, 0, 0, 0] rfl ?_
                        refine TD.ny rfl .u (Ex.ownTake (k := (y13.drop y86.toNat).length) 4 rfl rfl Try.runUnderlying33 Try.sizeOf5 (.some rfl (by rw [List.length_drop])) (by rw [List.length_drop]; exact Nat.sub_le _ _)) rfl [0, 0, 0] rfl ?_
                        refine TD.run ft_scan_ok [17, 18] rfl rfl ?_
                        refine TD.shrink (k := (y13.drop y86.toNat).length) (ys := (y13.drop y86.toNat)) 4 rfl (by rw [List.length_drop]; exact copy_take _ _ c123.2) (by rw [List.length_drop]; exact Nat.sub_le _ _) ?_
                        refine TD.sel [0, 0, 0, 0, 0] rfl ?_
                        refine TD.st3 (cs' := #[.slice A14 (y13.drop y86.toNat).length c15, .int .i64 (y16 + y86), .int .i64 y17]) rfl .u rfl rfl Try.sizeOf33 rfl rfl rfl rfl [0, 0, 0] (rfl) ?_
                        exact TD.nil (X.jn [0, 0, 0, 0, 0] ⟨rfl, rfl⟩ (by rfl) (by rfl))
                      · refine TD.ny rfl .u (Ex.b1 3 rfl Try.isAgg33 rfl rfl) rfl [0, 0, 0] rfl ?_
                        refine TD.q rfl .u (Ex.dropS (k := y86.toNat) rfl Try.runUnderlying33 Try.sizeOf5 rfl (Int.toNat_of_nonneg c123.1).symm c123.2) rfl ?_
                        refine TD.ny rfl .u (Ex.b1 3 rfl Try.isAgg33 rfl rfl) rfl [0, 0, 0] rfl ?_
                        refine TD.copyD (k := y86.toNat) 4 rfl .u Try.underlying33 (by kernel_rfl) rfl rfl rfl c123.2 rfl [0, 0, 0] (rfl) ?_
                        refine TD.sel [0, 0, 0, 0, 0] rfl ?_
                        refine TD.ny rfl .u (Ex.ownTake (k := (y13.drop y86.toNat).length) 4 rfl rfl Try.runUnderlying33 Try.sizeOf5 (.some rfl (by rw [List.length_drop])) (by rw [List.length_drop]; exact Nat.sub_le _ _)) rfl [0, 0, 0] rfl ?_
                        refine TD.run ft_scan_ok [17, 18] rfl rfl ?_
                        refine TD.shrink (k := (y13.drop y86.toNat).length) (ys := (y13.drop y86.toNat)) 4 rfl (by rw [List.length_drop]; exact copy_take _ _ c123.2) (by rw [List.length_drop]; exact Nat.sub_le _ _) ?_
                        refine TD.sel [0, 0, 0, 0, 0] rfl ?_
                        refine TD.st3 (cs' := #[.slice A14 (y13.drop y86.toNat).length c15, .int .i64 (y16 + y86), .int .i64 y17]) rfl .u rfl rfl Try.sizeOf33 rfl rfl rfl rfl [0, 0, 0] (rfl) ?_
                        exact TD.nil (X.jn [0, 0, 0, 0, 0] ⟨rfl, rfl⟩ (by rfl) (by rfl))
                    · refine TD.br ?_ ?_
                      · refine TD.ny rfl .u (Ex.b1 3 rfl Try.isAgg33 rfl rfl) rfl [0, 0, 0] rfl ?_
                        refine TD.br ?_ ?_
                        · refine TD.ny rfl .u (Ex.b1 3 rfl Try.isAgg33 rfl rfl) rfl [0, 0, 0] rfl ?_
                          refine TD.ny rfl .u (Ex.b1 3 rfl Try.isAgg33 rfl rfl) rfl [0, 0, 0] rfl ?_
                          refine TD.q rfl .u (Ex.dropS (k := y86.toNat) rfl Try.runUnderlying33 Try.sizeOf5 rfl (Int.toNat_of_nonneg c123.1).symm c123.2) rfl ?_
                          refine TD.copyD (k := y86.toNat) 4 rfl .u Try.underlying33 (by kernel_rfl) rfl rfl rfl c123.2 rfl [0, 0, 0] (rfl) ?_
                          refine TD.sel [0, 0, 0, 0, 0] rfl ?_
                          refine TD.ny rfl .u (Ex.ownTake (k := (y13.drop y86.toNat).length) 4 rfl rfl Try.runUnderlying33 Try.sizeOf5 (.some rfl (by rw [List.length_drop])) (by rw [List.length_drop]; exact Nat.sub_le _ _)) rfl [0, 0, 0] rfl ?_
                          refine TD.run ft_scan_ok [17, 18] rfl rfl ?_
                          refine TD.shrink (k := (y13.drop y86.toNat).length) (ys := (y13.drop y86.toNat)) 4 rfl (by rw [List.length_drop]; exact copy_take _ _ c123.2) (by rw [List.length_drop]; exact Nat.sub_le _ _) ?_
                          refine TD.sel [0, 0, 0, 0, 0] rfl ?_
                          refine TD.st3 (cs' := #[.slice A14 (y13.drop y86.toNat).length c15, .int .i64 (y16 + y86), .int .i64 y17]) rfl .u rfl rfl Try.sizeOf33 rfl rfl rfl rfl [0, 0, 0] (rfl) ?_
                          exact TD.nil (X.jn [0, 0, 0, 0, 0] ⟨rfl, rfl⟩ (by rfl) (by rfl))
                        · refine TD.ny rfl .u (Ex.b1 3 rfl Try.isAgg33 rfl rfl) rfl [0, 0, 0] rfl ?_
                          refine TD.q rfl .u (Ex.dropS (k := y86.toNat) rfl Try.runUnderlying33 Try.sizeOf5 rfl (Int.toNat_of_nonneg c123.1).symm c123.2) rfl ?_
                          refine TD.br ?_ ?_
                          · refine TD.ny rfl .u (Ex.b1 3 rfl Try.isAgg33 rfl rfl) rfl [0, 0, 0] rfl ?_
                            refine TD.copyD (k := y86.toNat) 4 rfl .u Try.underlying33 (by kernel_rfl) rfl rfl rfl c123.2 rfl [0, 0, 0] (rfl) ?_
                            refine TD.sel [0, 0, 0, 0, 0] rfl ?_
                            refine TD.ny rfl .u (Ex.ownTake (k := (y13.drop y86.toNat).length) 4 rfl rfl Try.runUnderlying33 Try.sizeOf5 (.some rfl (by rw [List.length_drop])) (by rw [List.length_drop]; exact Nat.sub_le _ _)) rfl [0, 0, 0] rfl ?_
                            refine TD.run ft_scan_ok [17, 18] rfl rfl ?_
                            refine TD.shrink (k := (y13.drop y86.toNat).length) (ys := (y13.drop y86.toNat)) 4 rfl (by rw [List.length_drop]; exact copy_take _ _ c123.2) (by rw [List.length_drop]; exact Nat.sub_le _ _) ?_
                            refine TD.sel [0, 0, 0, 0, 0] rfl ?_
                            refine TD.st3 (cs' := #[.slice A14 (y13.drop y86.toNat).length c15, .int .i64 (y16 + y86), .int .i64 y17]) rfl .u rfl rfl Try.sizeOf33 rfl rfl rfl rfl [0, 0, 0] (rfl) ?_
                            exact TD.nil (X.jn [0, 0, 0, 0, 0] ⟨rfl, rfl⟩ (by rfl) (by rfl))
                          · refine TD.copyD (k := y86.toNat) 4 rfl .u Try.underlying33 (by kernel_rfl) rfl rfl rfl c123.2 rfl [0, 0, 0] (rfl) ?_
                            refine TD.sel [0, 0, 0, 0, 0] rfl ?_
                            refine TD.ny rfl .u (Ex.b1 3 rfl Try.isAgg33 rfl rfl) rfl [0, 0, 0] rfl ?_
                            refine TD.ny rfl .u (Ex.ownTake (k := (y13.drop y86.toNat).length) 4 rfl rfl Try.runUnderlying33 Try.sizeOf5 (.some rfl (by rw [List.length_drop])) (by rw [List.length_drop]; exact Nat.sub_le _ _)) rfl [0, 0, 0] rfl ?_
                            refine TD.run ft_scan_ok [17, 18] rfl rfl ?_
                            refine TD.shrink (k := (y13.drop y86.toNat).length) (ys := (y13.drop y86.toNat)) 4 rfl (by rw [List.length_drop]; exact copy_take _ _ c123.2) (by rw [List.length_drop]; exact Nat.sub_le _ _) ?_
                            refine TD.sel [0, 0, 0, 0, 0] rfl ?_
                            refine TD.st3 (cs' := #[.slice A14 (y13.drop y86.toNat).length c15, .int .i64 (y16 + y86), .int .i64 y17]) rfl .u rfl rfl Try.sizeOf33 rfl rfl rfl rfl [0, 0, 0] (rfl) ?_
                            exact TD.nil (X.jn [0, 0, 0, 0, 0] ⟨rfl, rfl⟩ (by rfl) (by rfl))
                      · refine TD.ny rfl .u (Ex.b1 3 rfl Try.isAgg33 rfl rfl) rfl [0, 0, 0] rfl ?_
                        refine TD.q rfl .u (Ex.dropS (k := y86.toNat) rfl Try.runUnderlying33 Try.sizeOf5 rfl (Int.toNat_of_nonneg c123.1).symm c123.2) rfl ?_
                        refine TD.br ?_ ?_
                        · refine TD.ny rfl .u (Ex.b1 3 rfl Try.isAgg33 rfl rfl) rfl [0, 0, 0] rfl ?_
                          refine TD.ny rfl .u (Ex.b1 3 rfl Try.isAgg33 rfl rfl) rfl [0, 0, 0] rfl ?_
                          refine TD.copyD (k := y86.toNat) 4 rfl .u Try.underlying33 (by kernel_rfl) rfl rfl rfl c123.2 rfl [0, 0, 0] (rfl) ?_
                          refine TD.sel [0, 0, 0, 0, 0] rfl ?_
                          refine TD.ny rfl .u (Ex.ownTake (k := (y13.drop y86.toNat).length) 4 rfl rfl Try.runUnderlying33 Try.sizeOf5 (.some rfl (by rw [List.length_drop])) (by rw [List.length_drop]; exact Nat.sub_le _ _)) rfl [0, 0, 0] rfl ?_
                          refine TD.run ft_scan_ok [17, 18] rfl rfl ?_
                          refine TD.shrink (k := (y13.drop y86.toNat).length) (ys := (y13.drop y86.toNat)) 4 rfl (by rw [List.length_drop]; exact copy_take _ _ c123.2) (by rw [List.length_drop]; exact Nat.sub_le _ _) ?_
                          refine TD.sel [0, 0, 0, 0, 0] rfl ?_
                          refine TD.st3 (cs' := #[.slice A14 (y13.drop y86.toNat).length c15, .int .i64 (y16 + y86), .int .i64 y17]) rfl .u rfl rfl Try.sizeOf33 rfl rfl rfl rfl [0, 0, 0] (rfl) ?_
                          exact TD.nil (X.jn [0, 0, 0, 0, 0] ⟨rfl, rfl⟩ (by rfl) (by rfl))
                        · refine TD.ny rfl .u (Ex.b1 3 rfl Try.isAgg33 rfl rfl) rfl [0, 0, 0] rfl ?_
                          refine TD.br ?_ ?_
                          · refine TD.ny rfl .u (Ex.b1 3 rfl Try.isAgg33 rfl rfl) rfl [0, 0, 0] rfl ?_
                            refine TD.copyD (k := y86.toNat) 4 rfl .u Try.underlying33 (by kernel_rfl) rfl rfl rfl c123.2 rfl [0, 0, 0] (rfl) ?_
                            refine TD.sel [0, 0, 0, 0, 0] rfl ?_
                            refine TD.ny rfl .u (Ex.ownTake (k := (y13.drop y86.toNat).length) 4 rfl rfl Try.runUnderlying33 Try.sizeOf5 (.some rfl (by rw [List.length_drop])) (by rw [List.length_drop]; exact Nat.sub_le _ _)) rfl [0, 0, 0] rfl ?_
                            refine TD.run ft_scan_ok [17, 18] rfl rfl ?_
                            refine TD.shrink (k := (y13.drop y86.toNat).length) (ys := (y13.drop y86.toNat)) 4 rfl (by rw [List.length_drop]; exact copy_take _ _ c123.2) (by rw [List.length_drop]; exact Nat.sub_le _ _) ?_
                            refine TD.sel [0, 0, 0, 0, 0] rfl ?_
                            refine TD.st3 (cs' := #[.slice A14 (y13.drop y86.toNat).length c15, .int .i64 (y16 + y86), .int .i64 y17]) rfl .u rfl rfl Try.sizeOf33 rfl rfl rfl rfl [0, 0, 0] (rfl) ?_
                            exact TD.nil (X.jn [0, 0, 0, 0, 0] ⟨rfl, rfl⟩ (by rfl) (by rfl))
                          · refine TD.copyD (k := y86.toNat) 4 rfl .u Try.underlying33 (by kernel_rfl) rfl rfl rfl c123.2 rfl [0, 0, 0] (rfl) ?_
                            refine TD.sel [0, 0, 0, 0, 0] rfl ?_
                            refine TD.ny rfl .u (Ex.b1 3 rfl Try.isAgg33 rfl rfl) rfl [0, 0, 0] rfl ?_
                            refine TD.ny rfl .u (Ex.ownTake (k := (y13.drop y86.toNat).length) 4 rfl rfl Try.runUnderlying33 Try.sizeOf5 (.some rfl (by rw [List.length_drop])) (by rw [List.length_drop]; exact Nat.sub_le _ _)) rfl [0, 0, 0] rfl ?_
                            refine TD.run ft_scan_ok [17, 18] rfl rfl ?_
                            refine TD.shrink (k := (y13.drop y86.toNat).length) (ys := (y13.drop y86.toNat)) 4 rfl (by rw [List.length_drop]; exact copy_take _ _ c123.2) (by rw [List.length_drop]; exact Nat.sub_le _ _) ?_
                            refine TD.sel [0, 0, 0, 0, 0] rfl ?_
                            refine TD.st3 (cs' := #[.slice A14 (y13.drop y86.toNat).length c15, .int .i64 (y16 + y86), .int .i64 y17]) rfl .u rfl rfl Try.sizeOf33 rfl rfl rfl rfl [0, 0, 0] (rfl) ?_
                            exact TD.nil (X.jn [0, 0, 0, 0, 0] ⟨rfl, rfl⟩ (by rfl) (by rfl))
                  · rintro _ _ ⟨rfl, rfl⟩
                    refine X.seq (T.seq (T.goto (X.gs ?_)))
                    refine X.any (z := 12) 2 rfl rfl ?_
                    refine X.sel [0, 0, 0, 0, 0] rfl ?_
                    exact X.gj (m := m76) [2, 2, 0, 1] ⟨by omega, (.inl ⟨rfl, b12, (y9 ++ [x109]), A120, c121, (y13.drop y86.toNat), A14, c15, (y16 + y86), y17, rfl, rfl, h⟩)⟩ (by rfl) (by rfl)
                · replace h := ifF c117 h
                  refine TL.nil (X.seq ?_)
                  refine T.yes rfl (bn_t (decide_eq_false c117)) ?_
                  refine T.goto (X.gs ?_)
                  refine X.any (z := 12) 2 rfl rfl ?_
                  refine X.sel [0, 0, 0, 0, 0, 0] rfl ?_
                  exact X.gj (m := 0) [2, 2, 2, 2] ⟨by omega, (.inr ⟨rfl, rfl, b12, y9, A10, c11, x114, y13, A14, c15, y16, y17, rfl, rfl, h⟩)⟩ (by rfl) (by rfl)
          · replace h := ifF c98 h
            refine TL.nil (X.seq ?_)
            refine T.yes rfl (bn_t (decide_eq_false c98)) ?_
            exact T.goto (X.gs (X.gj (m := 0) [0, 0, 0, 0] ⟨by omega, (.inr ⟨rfl, rfl, b12, y9, A10, c11, y87, y13, A14, c15, y16, y17, rfl, rfl, h⟩)⟩ (by rfl) (by rfl)))
    · refine ⟨_, rfl, ?_⟩
      rw [f_scan_ScannerFeed_g1] at h
      refine T.seq (T.region rfl ?_)
      refine TL.run ft_scan_ok [0, 1, 2, 3] rfl rfl ?_
      refine TL.st1 (cs' := #[.slice A71 y70.length c72, .int .i64 y73, .int .i64 y68]) rfl .u rfl rfl Try.sizeOf24 rfl rfl rfl rfl ?_
      refine TL.nil (X.seq (T.seq (T.region rfl ?_)))
      refine TL.run ft_scan_ok [0, 1] rfl rfl ?_
      obtain rfl := Option.some.inj h
      refine TL.nil (X.seq (T.ret (X.rj ?_)))
      refine X.shut (by decide) 2 rfl ?_
      refine X.sel [0, 0, 0, 0] rfl ?_
      refine X.sel [1, 2, 0, 0] rfl ?_
      refine MbR_ScanScanner_shut g (⟨y70, y73, y68⟩ : ScanScanner) A71 c72 rfl ?_
      exact X.done1 [0, 1] Try.results29 (RV.tm rfl) ⟨_, _, rfl, rfl, rfl⟩ (by rfl) (.inl rfl)
  · intro hl
    refine T.seq (T.region rfl ?_)
    refine TL.run ft_scan_ok [0] rfl rfl ?_
    refine TL.nil (X.seq (T.seq (T.region rfl ?_)))
    refine TL.run ft_scan_ok [0] rfl rfl ?_
    refine TL.nil (X.seq (T.seq (T.region rfl ?_)))
    refine TL.run ft_scan_ok [0] rfl rfl ?_
    refine TL.nil (X.seq (T.seq (T.region rfl ?_)))
    refine TL.run ft_scan_ok [0] rfl rfl ?_
    refine TL.nil (X.seq (T.seq (T.region rfl ?_)))
    refine TL.alloc rfl .u Try.zeroValue36 rfl (fun b124 => ?_)
    refine TL.nil (X.seq (T.seq (T.seq (T.region rfl ?_))))
    refine TL.run ft_scan_ok [0, 1, 2] rfl rfl ?_
    refine TL.q rfl .u (Ex.b1 1 rfl Try.isAgg24 rfl rfl) rfl ?_
    refine TL.run ft_scan_ok [4] rfl rfl ?_
    by_cases c125 : st.ferr = 0
    · replace h := ifT c125 h
      refine TL.nil (X.seq ?_)
      refine T.no rfl (bn_f (decide_eq_true c125)) ?_
      refine T.skip (X.seq (T.seq (T.region rfl ?_)))
      refine TL.run ft_scan_ok [0, 1, 2, 3] rfl rfl ?_
      refine TL.q rfl .u (Ex.b1 1 rfl Try.isAgg33 rfl rfl) rfl ?_
      replace h := guard_some h
      obtain ⟨c126, h⟩ := h
      refine TL.run ft_scan_ok [5] rfl rfl ?_
      refine TL.appStr 2 rfl .u Try.underlying33 Try.underlying9 inf_scan_5 rfl rfl rfl c126 rfl (fun A127 c128 => ?_)
      refine TL.sel [0, 0, 0] rfl ?_
      refine TL.run ft_scan_ok [7, 8] rfl rfl ?_
      refine TL.st1 (cs' := #[.slice A127 (st.fheld ++ bsI a1).length c128, .int .i64 st.fvalid, .int .i64 st.ferr]) rfl .u rfl rfl Try.sizeOf33 rfl rfl rfl rfl ?_
      refine TL.nil (X.seq (T.seq (T.label (X.seq ?_))))
      refine T.any (z := 12) 0 rfl rfl ?_
      refine T.sel [0, 0, 0] rfl ?_
      refine T.nilrow 36 12 Bat_rd ?_
      refine T.re [1, 1, 0, 0] ?_ ?_ (hl 0 _ ((st.fheld ++ bsI a1).length + 1) _ _ rfl (.inl ⟨rfl, b124, [], none, 0, (st.fheld ++ bsI a1), A127, c128, st.fvalid, st.ferr, rfl, rfl, h⟩)) <;> rfl
    · replace h := ifF c125 h
      refine TL.nil (X.seq ?_)
      refine T.yes rfl (bn_t (decide_eq_false c125)) ?_
      refine T.seq (T.region rfl ?_)
      refine TL.run ft_scan_ok [0] rfl rfl ?_
      obtain rfl := Option.some.inj h
      refine TL.nil (X.seq (T.ret (X.rs (X.rj ?_))))
      refine X.nilrd 12 Bat_rd ?_
      refine X.sel [2, 2, 0, 0] rfl ?_
      refine MbR_ScanScanner_shut g st A1 c2 rfl ?_
      exact X.done1 [0, 0] Try.results29 (RV.tm rfl) ⟨_, _, rfl, rfl, rfl⟩ (by rfl) (.inl rfl)
def f_scan_ScannerClose (st : ScanScanner)  : Option (ScanResult × ScanScanner) := if st.ferr = 0 then (if (st.fheld.length : Int) > 0 then (some ((⟨st.fvalid, 1, 0⟩ : ScanResult), st)) else (some ((⟨st.fvalid, 0, 0⟩ : ScanResult), st))) else (some ((⟨st.fvalid, 2, st.ferr⟩ : ScanResult), st))
set_option maxRecDepth 100000 in
set_option maxHeartbeats 4000000 in
theorem f_scan_ScannerClose_spec (g : Nat) (st : ScanScanner)  (r : ScanResult × ScanScanner) (h : f_scan_ScannerClose st  = some r) : SpecX Try.prog 30 #[.pointer (some ⟨g, 0, none⟩)] .triv (MbR_ScanScanner g st) (fun v A' N => v = .agg #[.int .i64 r.1.fValid, .int .i64 r.1.fStop, .int .i64 r.1.fErr] ∧ A' = MbR_ScanScanner g r.2 ∧ N = []) := by
  refine enterA Try.func30 rfl Try.ntmps30 rfl ?_
  intro F w hX
  refine T.pakOpen 0 rfl ?_
  rintro ⟨A1, c2⟩
  refine T.sel [0, 0] rfl ?_
  unfold f_scan_ScannerClose at h
  refine T.seq (T.region rfl ?_)
  refine TL.alloc rfl .u Try.zeroValue26 rfl (fun b3 => ?_)
  refine TL.nil (X.seq (T.seq (T.block (T.seq (T.region rfl ?_)))))
  refine TL.run ft_scan_ok [0, 1, 2] rfl rfl ?_
  refine TL.q rfl .u (Ex.b1 1 rfl Try.isAgg24 rfl rfl) rfl ?_
  refine TL.run ft_scan_ok [4, 5] rfl rfl ?_
  by_cases c4 : st.ferr = 0
  · replace h := ifT c4 h
    refine TL.nil (X.seq ?_)
    refine T.no rfl (bn_f (decide_eq_true c4)) ?_
    refine T.seq (T.region rfl ?_)
    refine TL.run ft_scan_ok [0, 1, 2] rfl rfl ?_
    refine TL.q rfl .u (Ex.b1 1 rfl Try.isAgg33 rfl rfl) rfl ?_
    refine TL.q rfl .u (Ex.lenS rfl Try.runUnderlying33) rfl ?_
    refine TL.run ft_scan_ok [5, 6] rfl rfl ?_
    by_cases c5 : (st.fheld.length : Int) > 0
    · replace h := ifT c5 h
      refine TL.nil (X.seq ?_)
      refine T.yes rfl (decide_eq_true c5) ?_
      refine T.seq (T.region rfl ?_)
      refine TL.run ft_scan_ok [0, 1, 2] rfl rfl ?_
      refine TL.q rfl .u (Ex.b1 1 rfl Try.isAgg3 rfl rfl) rfl ?_
      refine TL.q rfl .u (Ex.bld (cells := #[.int .i64 st.fvalid, .int .i64 1, .int .i64 0]) bok_scan_26 rfl (by kernel_rfl)) rfl ?_
      refine TL.st0 (cs' := #[.int .i64 st.fvalid, .int .i64 1, .int .i64 0]) rfl .u rfl rfl Try.sizeOf26 rfl rfl rfl rfl ?_
      obtain rfl := Option.some.inj h
      refine TL.nil (X.seq (T.ret (X.rb (X.rs ?_))))
      refine X.sel [1, 1, 0] rfl ?_
      refine MbR_ScanScanner_shut g st A1 c2 rfl ?_
      exact X.done1 [0] Try.results30 (RV.cS (us := #[.int .i64 st.fvalid, .int .i64 1, .int .i64 0]) 1 rfl Try.isAgg26 Try.sizeOf26 rfl rfl) ⟨rfl, rfl, rfl⟩ (by rfl) (.inl rfl)
    · replace h := ifF c5 h
      refine TL.nil (X.seq ?_)
      refine T.no rfl (decide_eq_false c5) ?_
      refine T.skip (X.blk (X.seq (T.seq (T.region rfl ?_))))
      refine TL.run ft_scan_ok [0, 1, 2] rfl rfl ?_
      refine TL.q rfl .u (Ex.b1 1 rfl Try.isAgg3 rfl rfl) rfl ?_
      refine TL.q rfl .u (Ex.bld (cells := #[.int .i64 st.fvalid, .int .i64 0, .int .i64 0]) bok_scan_26 rfl (by kernel_rfl)) rfl ?_
      refine TL.st0 (cs' := #[.int .i64 st.fvalid, .int .i64 0, .int .i64 0]) rfl .u rfl rfl Try.sizeOf26 rfl rfl rfl rfl ?_
      obtain rfl := Option.some.inj h
      refine TL.nil (X.seq (T.ret ?_))
      refine X.sel [1, 1, 0] rfl ?_
      refine MbR_ScanScanner_shut g st A1 c2 rfl ?_
      exact X.done1 [0] Try.results30 (RV.cS (us := #[.int .i64 st.fvalid, .int .i64 0, .int .i64 0]) 1 rfl Try.isAgg26 Try.sizeOf26 rfl rfl) ⟨rfl, rfl, rfl⟩ (by rfl) (.inl rfl)
  · replace h := ifF c4 h
    refine TL.nil (X.seq ?_)
    refine T.yes rfl (bn_t (decide_eq_false c4)) ?_
    refine T.seq (T.draw (.q 0 (.q 1 (.q 2 (.q 3 (.q 4 (.q 5 (.q 6 (.q 7 (.q 8 (.e 9 .nil)))))))))) [1, 1] rfl mix_scan (NoP.seq (NoP.blk (NoP.seq np_post))) (by kernel_rfl) ?_)
    refine TD.run ft_scan_ok [0, 1, 2] rfl rfl ?_
    refine TD.q rfl .u (Ex.b1 0 rfl Try.isAgg3 rfl rfl) rfl ?_
    refine TD.run ft_scan_ok [4, 5, 6] rfl rfl ?_
    refine TD.q rfl .u (Ex.b1 0 rfl Try.isAgg24 rfl rfl) rfl ?_
    refine TD.q rfl .u (Ex.bld (cells := #[.int .i64 st.fvalid, .int .i64 2, .int .i64 st.ferr]) bok_scan_26 rfl (by kernel_rfl)) rfl ?_
    refine TD.st0 (cs' := #[.int .i64 st.fvalid, .int .i64 2, .int .i64 st.ferr]) rfl .u rfl rfl Try.sizeOf26 rfl rfl rfl rfl [1, 1] (rfl) ?_
    obtain rfl := Option.some.inj h
    refine TD.nil (X.seq (T.ret (X.rb (X.rs ?_))))
    refine X.sel [1, 1, 0] rfl ?_
    refine MbR_ScanScanner_shut g st A1 c2 rfl ?_
    exact X.done1 [0] Try.results30 (RV.cS (us := #[.int .i64 st.fvalid, .int .i64 2, .int .i64 st.ferr]) 1 rfl Try.isAgg26 Try.sizeOf26 rfl rfl) ⟨rfl, rfl, rfl⟩ (by rfl) (.inl rfl)
def f_scan_Scan_l1 : List (List UInt8) → List Bat → ScanScanner → Option (List Bat × ScanScanner)
  | [], y7, st11 => some (y7, st11)
  | x16 :: xs, y7, st11 => (f_scan_ScannerFeed st11 x16).bind fun (x20, st23) => if (y7.length + x20.length) * 96 ≤ 140737488355328 then (f_scan_Scan_l1 xs (y7 ++ x20) st23) else none
def f_scan_Scan (a0 : List (List UInt8)) : Option (List Bat × ScanResult) := (f_scan_New).bind fun st4 => (f_scan_Scan_l1 a0 [] st4).bind fun (y28, st32) => (f_scan_ScannerClose st32).bind fun (x33, st34) => some (y28, x33)
set_option maxRecDepth 100000 in
set_option maxHeartbeats 4000000 in
theorem f_scan_Scan_spec (a0 : List (List UInt8)) (A1 : Option Addr) (c2 : Nat) (r : List Bat × ScanResult) (h : f_scan_Scan a0 = some r) : SpecX Try.prog 9 #[.slice A1 a0.length c2] (RX.of (sliceRd 1 strE) [.slice A1 a0.length c2] a0) (EmpR) (fun v A' N => ∃ (A39 : Option Addr) (c40 : Nat), v = .tuple #[.slice A39 r.1.length c40, .agg #[.int .i64 r.2.fValid, .int .i64 r.2.fStop, .int .i64 r.2.fErr]] ∧ A' = EmpR ∧ N = [RdR (sliceRd 12 Bat_rd) [.slice A39 r.1.length c40] r.1]) := by
  refine enterA Try.func9 rfl Try.ntmps9 rfl ?_
  intro F w hX
  unfold f_scan_Scan at h
  refine T.seq (T.region rfl ?_)
  refine TL.run ft_scan_ok [0] rfl rfl ?_
  refine TL.alloc rfl .u Try.zeroValue26 rfl (fun b3 => ?_)
  obtain ⟨st4, hx5, h⟩ := Option.bind_eq_some_iff.1 h
  refine TL.nil (X.seq (T.seq (T.region rfl ?_)))
  refine TL.cge rfl .u (.fn Try.call28 rfl) (f_scan_New_spec _ hx5) (fun _ hs => (RX.reads_triv _ _)) rfl ?_
  rintro _ _ _ ⟨b6, rfl, rfl, rfl⟩
  refine TL.sel [0, 0, 0] rfl ?_
  refine TL.run ft_scan_ok [1] rfl rfl ?_
  refine TL.nil (X.seq (T.seq (T.region rfl ?_)))
  refine TL.run ft_scan_ok [0] rfl rfl ?_
  refine TL.nil (X.seq (T.seq (T.seq (T.region rfl ?_))))
  refine TL.run ft_scan_ok [0] rfl rfl ?_
  refine TL.q rfl .u (Ex.lenS rfl Try.runUnderlying39) rfl ?_
  refine TL.run ft_scan_ok [2] rfl rfl ?_
  refine TL.nil (X.seq (T.block ?_))
  refine T.nilrow 36 12 Bat_rd ?_
  obtain ⟨E12, hE13, hO14⟩ := Option.bind_eq_some_iff.1 h
  have hk18len := RX.len_le hX
  refine T.lp (fun m e Rs => ∃ (y7 : List Bat) (A8 : Option Addr) (c9 : Nat) (k10 : Nat) (st11 : ScanScanner), k10 + m = a0.length ∧ e = [(2, .slice none 0 0), (3, .pointer (some ⟨b3, 0, none⟩)), (4, .pointer (some ⟨b6, 0, none⟩)), (5, .slice A8 y7.length c9), (9, .slice A1 a0.length c2), (10, .int .i64 (a0.length : Int)), (11, .int .i64 (k10 : Int))] ∧ Rs = [OwnR 36 12 Bat_rd (.slice A8 y7.length c9) y7, MbR_ScanScanner b6 st11, BlkR b3 26 #[.int .i64 0, .int .i64 0, .int .i64 0], EmpR] ∧ f_scan_Scan_l1 (a0.drop k10) y7 st11 = some E12) (a0.length) [0, 0, 0, 0] ⟨[], none, 0, 0, st4, by simp, rfl, rfl, by rw [List.drop_zero]; exact hE13⟩ (by rfl) (by rfl) ?_
  rintro m15 _ _ ⟨y7, A8, c9, k10, st11, hk18, rfl, rfl, hl17⟩
  clear hE13 h
  cases m15 with
  | zero =>
    have h := hl17
    clear hl17
    rw [List.drop_of_length_le (by omega), f_scan_Scan_l1] at h
    have hk18ge : ¬ ((k10 : Int) < (a0.length : Int)) := by omega
    refine T.seq (T.region rfl ?_)
    refine TL.run ft_scan_ok [0] rfl rfl ?_
    refine TL.nil (X.seq (T.seq ?_))
    refine T.no rfl (decide_eq_false hk18ge) ?_
    obtain rfl := Option.some.inj h
    replace h := hO14
    clear hO14
    try dsimp only at h
    refine T.exit (X.exs (X.exs (X.ex (X.seq (T.seq (T.region rfl ?_))))))
    obtain ⟨⟨x36, st37⟩, hx38, h⟩ := Option.bind_eq_some_iff.1 h
    try dsimp only at h
    refine TL.run ft_scan_ok [0, 1] rfl rfl ?_
    refine TL.c1 rfl .u (.fn Try.call30 rfl) (f_scan_ScannerClose_spec b6 st11 _ hx38) (fun _ hs => (Src.triv _)) rfl ?_
    refine TL.run ft_scan_ok [3] rfl rfl ?_
    refine TL.st2 (cs' := #[.int .i64 x36.fValid, .int .i64 x36.fStop, .int .i64 x36.fErr]) rfl .u rfl rfl Try.sizeOf26 rfl rfl rfl rfl ?_
    obtain rfl := Option.some.inj h
    refine TL.nil (X.seq (T.ret ?_))
    refine X.shut (by decide) 0 rfl ?_
    refine X.sel [0, 0, 0, 0] rfl ?_
    exact X.done2 [3, 0] Try.results9 (RV.tm rfl) (RV.cS (us := #[.int .i64 x36.fValid, .int .i64 x36.fStop, .int .i64 x36.fErr]) 2 rfl Try.isAgg26 Try.sizeOf26 rfl rfl) ⟨_, _, rfl, rfl, rfl⟩ (by rfl) (.inl rfl)
  | succ m15 =>
    have h := hl17
    clear hl17
    obtain ⟨x16, hxx16⟩ : ∃ x, a0[k10]? = some x := ⟨_, List.getElem?_eq_getElem (by omega)⟩
    rw [drop_cons hxx16, f_scan_Scan_l1] at h
    have hk18lt : (k10 : Int) < (a0.length : Int) := by omega
    refine T.seq (T.region rfl ?_)
    refine TL.run ft_scan_ok [0] rfl rfl ?_
    refine TL.nil (X.seq (T.seq ?_))
    refine T.yes rfl (decide_eq_true hk18lt) ?_
    obtain ⟨gz19, oz19, rfl, z19cs, z19cl, z19cc, z19nf, z19r⟩ := RX.elem (by decide) hX hxx16
    obtain ⟨z19S, z19r, z19rr⟩ := z19r
    obtain rfl : z19cs = [.string (bsOf x16)] := z19r
    refine T.skip (X.seq (T.seq (T.block (T.seq (T.region rfl ?_)))))
    refine TL.q rfl .u (Ex.ixS (k := k10) rfl rfl rfl Try.runUnderlying39 Try.sizeOf9 (List.getElem?_eq_some_iff.1 hxx16).1) rfl ?_
    refine TL.q rfl .u (Ex.o1 0 rfl Try.isAgg9 z19nf z19cc rfl rfl) rfl ?_
    refine TL.run ft_scan_ok [2] rfl rfl ?_
    refine TL.nil (X.seq (T.region rfl ?_))
    obtain ⟨⟨x20, st23⟩, hx24, h⟩ := Option.bind_eq_some_iff.1 h
    try dsimp only at h
    refine TL.run ft_scan_ok [0, 1, 2] rfl rfl ?_
    refine TL.cg1 rfl .u (.fn Try.call29 rfl) (f_scan_ScannerFeed_spec b6 st11 x16 _ hx24) (fun _ hs => (Src.triv _)) rfl ?_
    rintro _ _ _ ⟨A21, c22, rfl, rfl, rfl⟩
    refine TL.sel [0, 0, 0, 0, 0] rfl ?_
    replace h := guard_some h
    obtain ⟨c25, h⟩ := h
    refine TL.appB (xs := y7) (ys := x20) (E := Bat_rd) 1 0 rfl .u ones_scan_36 Try.underlying23 inf_scan_36 rfl (by decide) rfl rfl rfl rfl c25 (by have hq := c25; omega) rfl (fun A26 c27 => ?_)
    refine TL.sel [0, 0, 0, 0] rfl ?_
    refine TL.run ft_scan_ok [5] rfl rfl ?_
    refine TL.nil (X.blk (X.seq (T.region rfl ?_)))
    refine TL.q rfl .u (Ex.add rfl rfl (by omega)) rfl ?_
    refine TL.run ft_scan_ok [1] rfl rfl ?_
    exact TL.nil (X.back (m' := m15) [0, 0, 0, 0] (by omega) ⟨(y7 ++ x20), A26, c27, k10 + 1, st23, by omega, rfl, rfl, h⟩ (by rfl) (by rfl))
end Go.Proofs.Ytahjmpipllajcaa.Sl
namespace Go.Proofs.Ytahjmpipllajcaa.Sl
open Go.RowKit
set_option linter.unusedVariables false
set_option linter.unusedSimpArgs false
set_option maxRecDepth 100000
def ft_cursitorlaw22 : FTab := []
theorem ft_cursitorlaw22_ok : (ft_cursitorlaw22).OK Try.prog := trivial
theorem mix_cursitorlaw22 : Try.prog.follows .mixedOrders = true := by kernel_rfl
theorem sok_cursitorlaw22_39_1 : SOK Try.prog 39 9 1 1 #[.string ⟨#[]⟩] := SOK.mk Try.runUnderlying39 Try.sizeOf9 Try.zeroValue9 (by decide) (by kernel_rfl)
theorem inf_cursitorlaw22_9 : (Try.prog.info? 9).map (fun i => (i.zero, i.size, i.bytes)) = some (some (.string ⟨#[]⟩), 1, 16) := by kernel_rfl
def f_l22_Cut_l1 : List Int → List UInt8 → List (List UInt8) → Option (List UInt8 × List (List UInt8))
  | [], y3, y4 => some (y3, y4)
  | x12 :: xs, y3, y4 => (if -9223372036854775808 ≤ x12 ∧ x12 ≤ 9223372036854775807 then (if (y3.length : Int) < x12 then some (y3.length : Int) else some x12) else none).bind fun y18 => if 0 ≤ y18 ∧ y18.toNat ≤ y3.length then (if 0 ≤ y18 ∧ y18.toNat ≤ y3.length then (if (y4.length + 1) * 16 ≤ 140737488355328 then (f_l22_Cut_l1 xs (y3.drop y18.toNat) (y4 ++ [(y3.take y18.toNat)])) else none) else none) else none
def f_l22_Cut (a0 : List UInt8) (a1 : List Int) : Option (List (List UInt8)) := (f_l22_Cut_l1 a1 a0 []).bind fun (y28, y29) => if (y29.length + 1) * 16 ≤ 140737488355328 then some (y29 ++ [y28]) else none
set_option maxRecDepth 100000 in
set_option maxHeartbeats 4000000 in
theorem f_l22_Cut_spec (a0 : List UInt8) (a1 : List Int) (A1 : Option Addr) (c2 : Nat) (r : List (List UInt8)) (h : f_l22_Cut a0 a1 = some r) : SpecX Try.prog 13 #[.string (bsOf a0), .slice A1 a1.length c2] (RX.of (sliceRd 1 u8E) [.slice A1 a1.length c2] a1) (EmpR) (fun v A' N => ∃ (A41 : Option Addr) (c42 : Nat), v = .slice A41 r.length c42 ∧ A' = EmpR ∧ N = [RdR (sliceRd 1 strE) [.slice A41 r.length c42] r]) := by
  refine enterA Try.func13 rfl Try.ntmps13 rfl ?_
  intro F w hX
  unfold f_l22_Cut at h
  refine T.seq (T.region rfl ?_)
  refine TL.run ft_cursitorlaw22_ok [0] rfl rfl ?_
  refine TL.nil (X.seq (T.seq (T.region rfl ?_)))
  refine TL.run ft_cursitorlaw22_ok [0] rfl rfl ?_
  refine TL.nil (X.seq (T.seq (T.seq (T.region rfl ?_))))
  refine TL.run ft_cursitorlaw22_ok [0] rfl rfl ?_
  refine TL.q rfl .u (Ex.lenS rfl Try.runUnderlying33) rfl ?_
  refine TL.run ft_cursitorlaw22_ok [2] rfl rfl ?_
  refine TL.nil (X.seq (T.block ?_))
  refine T.nilrow 9 1 strE ?_
  obtain ⟨E8, hE9, hO10⟩ := Option.bind_eq_some_iff.1 h
  have hk14len := RX.len_le hX
  refine T.lp (fun m e Rs => ∃ (y3 : List UInt8) (y4 : List (List UInt8)) (A5 : Option Addr) (c6 : Nat) (k7 : Nat), k7 + m = a1.length ∧ e = [(0, .string (bsOf y3)), (4, .slice none 0 0), (5, .slice A5 y4.length c6), (9, .slice A1 a1.length c2), (10, .int .i64 (a1.length : Int)), (11, .int .i64 (k7 : Int))] ∧ Rs = [OwnR 9 1 strE (.slice A5 y4.length c6) y4, EmpR] ∧ f_l22_Cut_l1 (a1.drop k7) y3 y4 = some E8) (a1.length) [0, 0] ⟨a0, [], none, 0, 0, by simp, rfl, rfl, by rw [List.drop_zero]; exact hE9⟩ (by rfl) (by rfl) ?_
  rintro m11 _ _ ⟨y3, y4, A5, c6, k7, hk14, rfl, rfl, hl13⟩
  clear hE9 h
  cases m11 with
  | zero =>
    have h := hl13
    clear hl13
    rw [List.drop_of_length_le (by omega), f_l22_Cut_l1] at h
    have hk14ge : ¬ ((k7 : Int) < (a1.length : Int)) := by omega
    refine T.seq (T.region rfl ?_)
    refine TL.run ft_cursitorlaw22_ok [0] rfl rfl ?_
    refine TL.nil (X.seq (T.seq ?_))
    refine T.no rfl (decide_eq_false hk14ge) ?_
    obtain rfl := Option.some.inj h
    replace h := hO10
    clear hO10
    try dsimp only at h
    refine T.exit (X.exs (X.exs (X.ex (X.seq (T.seq (T.region rfl ?_))))))
    refine TL.run ft_cursitorlaw22_ok [0, 1] rfl rfl ?_
    refine TL.lit (cells := #[.string (bsOf y3)]) rfl .u sok_cursitorlaw22_39_1 rfl (by rfl) rfl (fun b37 => ?_)
    replace h := guard_some h
    obtain ⟨c38, h⟩ := h
    refine TL.app1 0 rfl .u (us := [.string (bsOf y3)]) (u := y3) (l := y4) (E := strE) Try.underlying39 inf_cursitorlaw22_9 rfl (by decide) rfl rfl rfl rfl rfl rfl (fun _ _ => rfl) (by have hq := c38; omega) (by have hq := c38; omega) rfl (fun A39 c40 => ?_)
    refine TL.sel [0, 0] rfl ?_
    refine TL.run ft_cursitorlaw22_ok [4] rfl rfl ?_
    obtain rfl := Option.some.inj h
    refine TL.nil (X.seq (T.ret ?_))
    refine X.shut (by decide) 0 rfl ?_
    refine X.sel [0, 0] rfl ?_
    exact X.done1 [1, 0] Try.results13 (RV.tm rfl) ⟨_, _, rfl, rfl, rfl⟩ (by rfl) (.inl rfl)
  | succ m11 =>
    have h := hl13
    clear hl13
    obtain ⟨x12, hxx12⟩ : ∃ x, a1[k7]? = some x := ⟨_, List.getElem?_eq_getElem (by omega)⟩
    rw [drop_cons hxx12, f_l22_Cut_l1] at h
    have hk14lt : (k7 : Int) < (a1.length : Int) := by omega
    refine T.seq (T.region rfl ?_)
    refine TL.run ft_cursitorlaw22_ok [0] rfl rfl ?_
    refine TL.nil (X.seq (T.seq ?_))
    refine T.yes rfl (decide_eq_true hk14lt) ?_
    obtain ⟨gz15, oz15, rfl, z15cs, z15cl, z15cc, z15nf, z15r⟩ := RX.elem (by decide) hX hxx12
    obtain ⟨z15S, z15r, z15rr⟩ := z15r
    obtain rfl : z15cs = [.int .u8 x12] := z15r
    refine T.skip (X.seq (T.seq (T.block (T.seq (T.region rfl ?_)))))
    refine TL.q rfl .u (Ex.ixS (k := k7) rfl rfl rfl Try.runUnderlying33 Try.sizeOf5 (List.getElem?_eq_some_iff.1 hxx12).1) rfl ?_
    refine TL.q rfl .u (Ex.o1 0 rfl Try.isAgg5 z15nf z15cc rfl rfl) rfl ?_
    refine TL.run ft_cursitorlaw22_ok [2] rfl rfl ?_
    refine TL.nil (X.seq (T.seq ?_))
    obtain ⟨y18, h, hk19⟩ := Option.bind_eq_some_iff.1 h
    refine T.jq (fun e Rs => e = [(0, .string (bsOf y3)), (4, .slice none 0 0), (5, .slice A5 y4.length c6), (8, .int .i64 y18), (9, .slice (some ⟨gz15, oz15, none⟩) a1.length c2), (10, .int .i64 (a1.length : Int)), (11, .int .i64 (k7 : Int))] ∧ Rs = [OwnR 9 1 strE (.slice A5 y4.length c6) y4, EmpR]) ?_ ?_
    · clear hk19
      refine T.region rfl ?_
      replace h := guard_some h
      obtain ⟨c20, h⟩ := h
      refine TL.run ft_cursitorlaw22_ok [0] rfl rfl ?_
      refine TL.q rfl .u (Ex.conv64 rfl Try.runUnderlying5 Try.runUnderlying3 c20) rfl ?_
      refine TL.run ft_cursitorlaw22_ok [2] rfl rfl ?_
      refine TL.q rfl .u (Ex.lenB rfl Try.runUnderlying9) rfl ?_
      by_cases c21 : (y3.length : Int) < x12
      · replace h := ifT c21 h
        refine TL.q rfl .u (Ex.miny rfl rfl c21) rfl ?_
        refine TL.run ft_cursitorlaw22_ok [5] rfl rfl ?_
        cases h
        exact TL.nil (X.jq [0, 0] ⟨rfl, rfl⟩ (by rfl) (by rfl))
      · replace h := ifF c21 h
        refine TL.q rfl .u (Ex.minx rfl rfl c21) rfl ?_
        refine TL.run ft_cursitorlaw22_ok [5] rfl rfl ?_
        cases h
        exact TL.nil (X.jq [0, 0] ⟨rfl, rfl⟩ (by rfl) (by rfl))
    · rintro _ _ ⟨rfl, rfl⟩
      clear h
      have h := hk19
      clear hk19
      try dsimp only at h
      refine X.seq (T.draw (.q 0 (.q 1 (.q 2 (.q 3 (.q 6 (.q 7 (.q 8 (.e 4 (.e 5 (.q 9 (.q 10 .nil))))))))))) [1] rfl mix_cursitorlaw22 (NoP.blk (NoP.seq (NoP.seq (NoP.blk (NoP.seq np_post))))) (by kernel_rfl) ?_)
      replace h := guard_some h
      obtain ⟨c22, h⟩ := h
      refine TD.run ft_cursitorlaw22_ok [0, 1, 2] rfl rfl ?_
      replace c22 : 0 ≤ y18 ∧ y18.toNat ≤ y3.length := c22
      refine TD.q rfl .u (Ex.sSl (p := 0) (q := y18.toNat) (m := (y3.take y18.toNat)) rfl Try.runUnderlying9 .none (.some rfl ((Int.toNat_of_nonneg c22.1).symm)) (by first | omega | (dsimp only; omega)) (by simp)) rfl ?_
      replace h := guard_some h
      obtain ⟨c23, h⟩ := h
      refine TD.run ft_cursitorlaw22_ok [6, 7] rfl rfl ?_
      replace c23 : 0 ≤ y18 ∧ y18.toNat ≤ y3.length := c23
      refine TD.q rfl .u (Ex.sSl (p := y18.toNat) (q := y3.length) (m := (y3.drop y18.toNat)) rfl Try.runUnderlying9 (.some rfl ((Int.toNat_of_nonneg c23.1).symm)) .none (by first | omega | (dsimp only; omega)) (sl_drop _ _)) rfl ?_
      refine TD.lit (cells := #[.string (bsOf (y3.take y18.toNat))]) rfl .u sok_cursitorlaw22_39_1 rfl (by rfl) rfl [2] (fun _ => rfl) (fun b24 => ?_)
      replace h := guard_some h
      obtain ⟨c25, h⟩ := h
      refine TD.app1 0 rfl .u (us := [.string (bsOf (y3.take y18.toNat))]) (u := (y3.take y18.toNat)) (l := y4) (E := strE) Try.underlying39 inf_cursitorlaw22_9 rfl (by decide) rfl rfl rfl rfl rfl rfl (fun _ _ => rfl) (by have hq := c25; omega) (by have hq := c25; omega) rfl [1] (fun _ _ => rfl) (fun A26 c27 => ?_)
      refine TD.sel [0, 0] rfl ?_
      refine TD.run ft_cursitorlaw22_ok [9, 10] rfl rfl ?_
      refine TD.nil (X.blk (X.seq (T.region rfl ?_)))
      refine TL.q rfl .u (Ex.add rfl rfl (by omega)) rfl ?_
      refine TL.run ft_cursitorlaw22_ok [1] rfl rfl ?_
      exact TL.nil (X.back (m' := m11) [0, 0] (by omega) ⟨(y3.drop y18.toNat), (y4 ++ [(y3.take y18.toNat)]), A26, c27, k7 + 1, by omega, rfl, rfl, h⟩ (by rfl) (by rfl))
end Go.Proofs.Ytahjmpipllajcaa.Sl
namespace Go.Proofs.Ytahjmpipllajcaa.Sl
open Go.RowKit
set_option linter.unusedVariables false
set_option linter.unusedSimpArgs false
theorem bind_eq {α β : Type} {o : Option α} {v : α} {f : α → Option β} {r : Option β} (h : o = some v) (k : f v = r) : o.bind f = r := by rw [h]; exact k
theorem bI_take (l : List UInt8) (n : Nat) : (bsI l).take n = bsI (l.take n) := by unfold bsI; rw [List.map_take]
theorem bI_drop (l : List UInt8) (n : Nat) : (bsI l).drop n = bsI (l.drop n) := by unfold bsI; rw [List.map_drop]
theorem bI_app (l m : List UInt8) : bsI l ++ bsI m = bsI (l ++ m) := by unfold bsI; rw [List.map_append]
theorem tB_bI (l : List UInt8) : toBs (bsI l) = l := by
  unfold toBs bsI
  rw [List.map_map]
  conv => rhs; rw [← List.map_id l]
  apply List.map_congr_left
  intro c _
  simp
theorem peek_short {s : List UInt8} (h : s.length < 61) : f_prefix_Peek s = some (0, 0) := by unfold f_prefix_Peek; rw [if_pos (by omega)]
theorem peek_take {s : List UInt8} (h : 61 ≤ s.length) (hs : s.length ≤ 1000000) : f_prefix_Peek (s.take 61) = f_prefix_Peek s := by
  rw [peek_at s h hs, peek_at (s.take 61) (by rw [List.length_take]; omega) (by rw [List.length_take]; omega), eOf_take s 61 (by omega), vI_take s 61 8 4 (by omega)]
theorem peek_ext (s : List UInt8) (hs : s.length ≤ 1000000) : (if 61 < ((bsI s).length : Int) then (if 61 ≤ (bsI s).length then ((f_prefix_Peek (toBs ((bsI s).take 61))).bind fun (x91, x92) => some (x91, x92)) else none) else (if (bsI s).length ≤ (bsI s).length then ((f_prefix_Peek (toBs ((bsI s).take (bsI s).length))).bind fun (x95, x96) => some (x95, x96)) else none)) = f_prefix_Peek s := by
  have hl := bsI_length s
  have e0 : ∀ o : Option (Int × Int), (o.bind fun (x91, x92) => some (x91, x92)) = o := by intro o; cases o <;> rfl
  by_cases c : 61 < ((bsI s).length : Int)
  · rw [if_pos c, if_pos (by omega), e0, bI_take, tB_bI, peek_take (by omega) hs]
  · rw [if_neg c, if_pos (Nat.le_refl _), e0, List.take_length, tB_bI]
theorem szOf_int {s : List UInt8} (h : eOf s = 0) : vI s 8 4 + 12 = (szOf s : Int) := by
  have h1 := (szOf_ge h).1
  unfold szOf at h1 ⊢
  omega
theorem feed_g0 : ∀ (fuel : Nat) (s : List UInt8) (acc : List Bat) (v : Int), s.length < fuel → s.length ≤ 1000000 → acc.length + s.length ≤ 2000000 → 0 ≤ v → v + (s.length : Int) ≤ 1000000000 →
    f_scan_ScannerFeed_g0 fuel acc (bsI s) v 0 = some (acc ++ (Scn s).1, ⟨bsI (Scn s).2.1, v + ((s.length : Int) - ((Scn s).2.1.length : Int)), (Scn s).2.2⟩)
  | 0, s, acc, v, h1, h2, h3, h4, h5 => by omega
  | fuel + 1, s, acc, v, h1, h2, h3, h4, h5 => by
    have hl := bsI_length s
    rw [f_scan_ScannerFeed_g0]
    by_cases c1 : s.length < 61
    · refine bind_eq ((peek_ext s h2).trans (peek_short c1)) ?_
      rw [Scn_short c1]
      dsimp only
      rw [if_pos rfl, if_pos rfl, Option.bind_some, if_pos rfl, List.append_nil, Int.sub_self, Int.add_zero]
    have h61 : 61 ≤ s.length := by omega
    by_cases c2 : eOf s = 0
    rotate_left
    · refine bind_eq ((peek_ext s h2).trans ((peek_at s h61 h2).trans (by rw [if_neg c2]))) ?_
      rw [Scn_bad h61 c2]
      dsimp only
      rw [if_neg c2, f_scan_ScannerFeed_g1, List.append_nil, Int.sub_self, Int.add_zero]
    have hz := (szOf_ge c2).1
    refine bind_eq ((peek_ext s h2).trans ((peek_at s h61 h2).trans (by rw [if_pos c2, szOf_int c2]))) ?_
    dsimp only
    rw [if_pos rfl, if_neg (show ¬ ((szOf s : Int) = 0) by omega)]
    by_cases c3 : s.length < szOf s
    · rw [if_pos (show (szOf s : Int) > ((bsI s).length : Int) by omega), Option.bind_some, if_pos rfl, Scn_part h61 c2 c3]
      dsimp only
      rw [List.append_nil, Int.sub_self, Int.add_zero]
    have hsz : szOf s ≤ s.length := by omega
    rw [if_neg (show ¬ ((szOf s : Int) > ((bsI s).length : Int)) by omega), Option.bind_some, if_neg (by decide), if_pos (show 0 ≤ (szOf s : Int) ∧ (szOf s : Int).toNat ≤ (bsI s).length by omega), Int.toNat_natCast, bI_take, tB_bI, gNew_eq _ (by rw [List.length_take]; omega), Option.bind_some]
    have hp := pBat_take h61 c2 hsz
    have hlt : (s.take (szOf s)).length = szOf s := by rw [List.length_take]; omega
    rcases B_bat.run (s.take (szOf s)) 0 (by omega) (Nat.zero_le _) with ⟨e, st, p1, g1, x1, y1⟩ | ⟨b, r, p1, g1, n1, l1⟩
    · rw [List.drop_zero] at g1
      rw [hp] at p1
      rw [g1, Option.bind_some]
      dsimp only
      rw [gErr_eq, Option.bind_some]
      dsimp only
      rw [if_neg y1, f_scan_ScannerFeed_g1, Scn_err h61 c2 hsz p1, x1]
      dsimp only
      rw [List.append_nil, Int.sub_self, Int.add_zero]
    · rw [List.drop_zero] at g1
      rw [hp] at p1
      have hr := pBat_end h61 c2 hsz p1
      subst hr
      have ih := feed_g0 fuel (s.drop (szOf s)) (acc ++ [b]) (v + (szOf s : Int)) (by rw [List.length_drop]; omega) (by rw [List.length_drop]; omega) (by rw [List.length_append, List.length_singleton, List.length_drop]; omega) (by omega) (by rw [List.length_drop]; omega)
      rw [g1, Option.bind_some]
      dsimp only
      rw [gErr_eq, Option.bind_some]
      dsimp only
      rw [if_pos rfl, if_pos (by omega), if_pos (by omega), if_pos (by omega), bI_drop, ih, Scn_step h61 c2 hsz p1]
      dsimp only
      rw [List.append_assoc, List.length_drop, show v + (szOf s : Int) + (((s.length - szOf s : Nat) : Int) - ((Scn (s.drop (szOf s))).2.1.length : Int)) = v + ((s.length : Int) - ((Scn (s.drop (szOf s))).2.1.length : Int)) by omega]
      rfl
theorem Scn_le (s : List UInt8) : (Scn s).2.1.length ≤ s.length := by
  have h := congrArg List.length (Scn_bytes s.length s (Nat.le_refl _)).1
  rw [List.length_append] at h
  omega
structure ScAt (x : ScanScanner) (s : List UInt8) : Prop where
  ok : (Scn s).2.2 = 0 → x = ⟨bsI (Scn s).2.1, (s.length : Int) - ((Scn s).2.1.length : Int), 0⟩
  bad : (Scn s).2.2 ≠ 0 → ∃ h : List Int, x = ⟨h, (encs encBt (Scn s).1).length, (Scn s).2.2⟩
theorem scn_len (s : List UInt8) : ((encs encBt (Scn s).1).length : Int) = (s.length : Int) - ((Scn s).2.1.length : Int) := by
  have h := congrArg List.length (Scn_bytes s.length s (Nat.le_refl _)).1
  rw [List.length_append] at h
  omega
theorem feed_eq {x : ScanScanner} {s c : List UInt8} (h : ScAt x s) (hl : s.length + c.length ≤ 1000000) : ∃ y, f_scan_ScannerFeed x c = some ((Scn (s ++ c)).1.drop (Scn s).1.length, y) ∧ ScAt y (s ++ c) ∧ (Scn (s ++ c)).1.take (Scn s).1.length = (Scn s).1 := by
  have hle := Scn_le s
  by_cases h0 : (Scn s).2.2 = 0
  · have hx := h.ok h0
    subst hx
    have hm := Scn_more s.length s c (Nat.le_refl _) (by omega) h0
    have e1 : (Scn (s ++ c)).1 = (Scn s).1 ++ (Scn ((Scn s).2.1 ++ c)).1 := by rw [hm]
    have e2 : (Scn (s ++ c)).2 = (Scn ((Scn s).2.1 ++ c)).2 := by rw [hm]
    have hle2 := Scn_le ((Scn s).2.1 ++ c)
    rw [List.length_append] at hle2
    have hg := feed_g0 ((bsI ((Scn s).2.1 ++ c)).length + 1) ((Scn s).2.1 ++ c) [] ((s.length : Int) - ((Scn s).2.1.length : Int)) (by rw [bsI_length]; omega) (by rw [List.length_append]; omega) (by rw [List.length_nil, List.length_append]; omega) (by omega) (by rw [List.length_append]; omega)
    refine ⟨⟨bsI (Scn ((Scn s).2.1 ++ c)).2.1, (s.length : Int) - ((Scn s).2.1.length : Int) + ((((Scn s).2.1 ++ c).length : Int) - ((Scn ((Scn s).2.1 ++ c)).2.1.length : Int)), (Scn ((Scn s).2.1 ++ c)).2.2⟩, ?_, ⟨fun g => ?_, fun g => ⟨bsI (Scn ((Scn s).2.1 ++ c)).2.1, ?_⟩⟩, by rw [e1, List.take_left]⟩
    · unfold f_scan_ScannerFeed
      dsimp only
      rw [if_pos rfl, if_pos (by rw [bsI_length]; omega), bI_app, hg, e1, List.drop_left, List.nil_append]
    · rw [e2] at g ⊢
      rw [g, List.length_append, List.length_append]
      congr 1
      omega
    · rw [scn_len, e2, List.length_append, List.length_append]
      congr 1
      omega
  · obtain ⟨q, rfl⟩ := h.bad h0
    have hw := Scn_wrong s.length s c (Nat.le_refl _) h0
    have e1 : (Scn (s ++ c)).1 = (Scn s).1 := by rw [hw]
    have e3 : (Scn (s ++ c)).2.2 = (Scn s).2.2 := by rw [hw]
    refine ⟨⟨q, ((encs encBt (Scn s).1).length : Int), (Scn s).2.2⟩, ?_, ⟨fun g => absurd (e3 ▸ g) h0, fun g => ⟨q, by rw [e1, e3]⟩⟩, by rw [e1, List.take_length]⟩
    unfold f_scan_ScannerFeed
    dsimp only
    rw [if_neg h0, e1, List.drop_length]
def resOf (s : List UInt8) : ScanResult := ⟨(encs encBt (Scn s).1).length, if (Scn s).2.2 ≠ 0 then 2 else if (Scn s).2.1 = [] then 0 else 1, (Scn s).2.2⟩
theorem close_eq {x : ScanScanner} {s : List UInt8} (h : ScAt x s) : f_scan_ScannerClose x = some (resOf s, x) := by
  unfold f_scan_ScannerClose resOf
  by_cases h0 : (Scn s).2.2 = 0
  · have hx := h.ok h0
    subst hx
    rw [scn_len]
    dsimp only
    rw [if_pos rfl, h0, if_neg (show ¬ ((0 : Int) ≠ 0) from fun g => g rfl), bsI_length]
    by_cases hr : (Scn s).2.1 = []
    · rw [if_neg (by rw [hr]; decide), if_pos hr]
    · have := List.length_pos_iff.2 hr
      rw [if_pos (by omega), if_neg hr]
  · obtain ⟨q, rfl⟩ := h.bad h0
    dsimp only
    rw [if_neg h0, if_pos h0]
theorem new_at : ScAt ⟨[], 0, 0⟩ [] := ⟨fun _ => by rw [Scn_short (s := []) (by decide)]; rfl, fun g => absurd (by rw [Scn_short (s := []) (by decide)]) g⟩
theorem scn_few : ∀ (n : Nat) (s : List UInt8), s.length ≤ n → (Scn s).1.length ≤ s.length := by
  intro n s _
  have h := congrArg List.length (Scn_bytes s.length s (Nat.le_refl _)).1
  rw [List.length_append] at h
  have hk := (Scn_bytes s.length s (Nat.le_refl _)).2
  have := encs_pos encBt (Scn s).1 (fun b hb => by have := encBt_len (hk b hb); omega)
  omega
theorem scan_l1 : ∀ (cs : List (List UInt8)) (s : List UInt8) (x : ScanScanner), ScAt x s → s.length + cs.flatten.length ≤ 1000000 →
    ∃ y, f_scan_Scan_l1 cs (Scn s).1 x = some ((Scn (s ++ cs.flatten)).1, y) ∧ ScAt y (s ++ cs.flatten)
  | [], s, x, h, hl => ⟨x, by rw [List.flatten_nil, List.append_nil]; rfl, by rw [List.flatten_nil, List.append_nil]; exact h⟩
  | c :: cs, s, x, h, hl => by
    rw [List.flatten_cons, List.length_append] at hl
    obtain ⟨y, k1, k2, k3⟩ := feed_eq h (c := c) (by omega)
    have hf := scn_few _ (s ++ c) (Nat.le_refl _)
    have hf2 := scn_few _ s (Nat.le_refl _)
    rw [List.length_append] at hf
    obtain ⟨z, q1, q2⟩ := scan_l1 cs (s ++ c) y k2 (by rw [List.length_append]; omega)
    have e : (Scn s).1 ++ (Scn (s ++ c)).1.drop (Scn s).1.length = (Scn (s ++ c)).1 := by
      conv => lhs; arg 1; rw [← k3]
      rw [List.take_append_drop]
    refine ⟨z, ?_, by rw [List.flatten_cons, ← List.append_assoc]; exact q2⟩
    rw [f_scan_Scan_l1, k1, Option.bind_some]
    dsimp only
    rw [if_pos (by rw [List.length_drop]; omega), e, q1, List.flatten_cons, List.append_assoc]
theorem scan_eq {cs : List (List UInt8)} (hl : cs.flatten.length ≤ 1000000) : f_scan_Scan cs = some ((Scn cs.flatten).1, resOf cs.flatten) := by
  obtain ⟨y, q1, q2⟩ := scan_l1 cs [] ⟨[], 0, 0⟩ new_at (by rw [List.length_nil]; omega)
  rw [List.nil_append, Scn_short (s := []) (by decide)] at q1
  rw [List.nil_append] at q2
  unfold f_scan_Scan
  rw [show f_scan_New = some ⟨[], 0, 0⟩ from rfl, Option.bind_some, q1, Option.bind_some]
  dsimp only
  rw [close_eq q2, Option.bind_some]
theorem cut_l1 : ∀ (ns : List Int) (s : List UInt8) (acc : List (List UInt8)), (∀ n, n ∈ ns → 0 ≤ n ∧ n ≤ 255) → acc.length + ns.length ≤ 1000 → s.length ≤ 1000000 →
    ∃ t l, f_l22_Cut_l1 ns s acc = some (t, acc ++ l) ∧ l.flatten ++ t = s ∧ l.length = ns.length
  | [], s, acc, _, _, _ => ⟨s, [], by rw [List.append_nil]; rfl, rfl, rfl⟩
  | n :: ns, s, acc, hn, hl, hs => by
    obtain ⟨h0, h1⟩ := hn n (.head _)
    rw [List.length_cons] at hl
    have e : ∃ k : Nat, ((if -9223372036854775808 ≤ n ∧ n ≤ 9223372036854775807 then (if (s.length : Int) < n then some (s.length : Int) else some n) else none) : Option Int) = some (k : Int) ∧ k ≤ s.length := by
      rw [if_pos (by omega)]
      by_cases c : (s.length : Int) < n
      · exact ⟨s.length, by rw [if_pos c], Nat.le_refl _⟩
      · exact ⟨n.toNat, by rw [if_neg c, Int.toNat_of_nonneg h0], by omega⟩
    obtain ⟨k, e1, e2⟩ := e
    obtain ⟨t, l, q1, q2, q3⟩ := cut_l1 ns (s.drop k) (acc ++ [s.take k]) (fun m hm => hn m (.tail _ hm)) (by rw [List.length_append, List.length_singleton]; omega) (by rw [List.length_drop]; omega)
    refine ⟨t, s.take k :: l, ?_, ?_, by rw [List.length_cons, q3, List.length_cons]⟩
    · rw [f_l22_Cut_l1, e1, Option.bind_some, if_pos (by omega), if_pos (by omega), if_pos (by omega), Int.toNat_natCast, q1, List.append_assoc]
      rfl
    · rw [List.flatten_cons, List.append_assoc, q2, List.take_append_drop]
theorem cut_eq {s : List UInt8} {ns : List Int} (hn : ∀ n, n ∈ ns → 0 ≤ n ∧ n ≤ 255) (hl : ns.length ≤ 200) (hs : s.length ≤ 1000000) : ∃ cs, f_l22_Cut s ns = some cs ∧ cs.flatten = s ∧ cs.length = ns.length + 1 := by
  obtain ⟨t, l, q1, q2, q3⟩ := cut_l1 ns s [] hn (by rw [List.length_nil]; omega) hs
  refine ⟨l ++ [t], ?_, by rw [List.flatten_append, List.flatten_cons, List.flatten_nil, List.append_nil]; exact q2, by rw [List.length_append, List.length_singleton, q3]⟩
  unfold f_l22_Cut
  rw [q1, Option.bind_some]
  dsimp only
  rw [List.nil_append, if_pos (by omega)]
end Go.Proofs.Ytahjmpipllajcaa.Sl
namespace Go.Proofs.Ytahjmpipllajcaa.Sl
open Go.RowKit
set_option linter.unusedVariables false
set_option linter.unusedSimpArgs false
theorem small_l2 (y : Int) : ∀ l : List Hd, (∀ h, h ∈ l → wf_Hd h) → (f_l11_Small_l2 l y = some (.ret 0)) ∨ (f_l11_Small_l2 l y = some (.go y) ∧ ∀ h, h ∈ l → h.fKey.length + h.fValue.data.length ≤ 100)
  | [], h => .inr ⟨rfl, fun x h => nomatch h⟩
  | x :: l, h => by
    have hx := h x (.head _)
    have h1 : x.fKey.length ≤ 140737488351232 := hx.1
    have h2 : x.fValue.data.length ≤ 140737488351232 := hx.2.2
    rw [f_l11_Small_l2, if_pos (by omega)]
    by_cases hc : (x.fKey.length : Int) + (x.fValue.data.length : Int) > 100
    · rw [if_pos hc]
      exact .inl rfl
    · rw [if_neg hc]
      rcases small_l2 y l (fun z hz => h z (.tail _ hz)) with g | ⟨g, g2⟩
      · exact .inl g
      · refine .inr ⟨g, fun z hz => ?_⟩
        rcases List.mem_cons.1 hz with rfl | hz
        · omega
        · exact g2 z hz
theorem small_l1 (y : Int) : ∀ l : List Rec, (∀ r, r ∈ l → wf_Rec r) → (f_l11_Small_l1 l y = some (.ret 0)) ∨ (f_l11_Small_l1 l y = some (.go y) ∧ ∀ r, r ∈ l → r.fKey.data.length + r.fValue.data.length ≤ 100 ∧ r.fHeaders.length ≤ 6 ∧ ∀ h, h ∈ r.fHeaders → h.fKey.length + h.fValue.data.length ≤ 100)
  | [], h => .inr ⟨rfl, fun x h => nomatch h⟩
  | x :: l, h => by
    obtain ⟨h1, h2, h3, h4, h5⟩ := h x (.head _)
    have h6 : x.fKey.data.length ≤ 140737488351232 := h3.2
    have h7 : x.fValue.data.length ≤ 140737488351232 := h4.2
    rw [f_l11_Small_l1, if_pos (by omega)]
    by_cases hc : (x.fKey.data.length : Int) + (x.fValue.data.length : Int) > 100
    · rw [if_pos hc]
      exact .inl rfl
    rw [if_neg hc]
    by_cases hd : (x.fHeaders.length : Int) > 6
    · rw [if_pos hd]
      exact .inl rfl
    rw [if_neg hd]
    rcases small_l2 y x.fHeaders h5.2 with g | ⟨g, g2⟩
    · rw [g]
      exact .inl rfl
    · rw [g, Option.bind_some]
      simp only
      rcases small_l1 y l (fun z hz => h z (.tail _ hz)) with k | ⟨k, k2⟩
      · exact .inl k
      · refine .inr ⟨k, fun z hz => ?_⟩
        rcases List.mem_cons.1 hz with rfl | hz
        · exact ⟨by omega, by omega, g2⟩
        · exact k2 z hz
theorem small11 (a : Bat) (hw : wf_Bat a) : f_l11_Small a = some 0 ∨ (f_l11_Small a = some 1 ∧ a.fRecords.length ≤ 12 ∧ ∀ r, r ∈ a.fRecords → r.fKey.data.length + r.fValue.data.length ≤ 100 ∧ r.fHeaders.length ≤ 6 ∧ ∀ h, h ∈ r.fHeaders → h.fKey.length + h.fValue.data.length ≤ 100) := by
  unfold f_l11_Small
  by_cases hc : (a.fRecords.length : Int) > 12
  · rw [if_pos hc]
    exact .inl rfl
  rw [if_neg hc]
  rcases small_l1 0 a.fRecords hw.2.2.2.2.2.2.2.2.2.2.2.2 with g | ⟨g, g2⟩
  · rw [g]
    exact .inl rfl
  · rw [g]
    exact .inr ⟨rfl, by omega, g2⟩
end Go.Proofs.Ytahjmpipllajcaa.Sl
namespace Go.Proofs.Ytahjmpipllajcaa.Sl
open Go.RowKit
set_option linter.unusedVariables false
set_option linter.unusedSimpArgs false
theorem bnB_small {a : Bat} (hw : wf_Bat a) (h1 : a.fRecords.length ≤ 12) (h2 : ∀ r, r ∈ a.fRecords → r.fKey.data.length + r.fValue.data.length ≤ 100 ∧ r.fHeaders.length ≤ 6 ∧ ∀ h, h ∈ r.fHeaders → h.fKey.length + h.fValue.data.length ≤ 100) : bnB a :=
  ⟨hw, by omega, fun r hr => by have := h2 r hr; exact ⟨by omega, by omega, by omega⟩⟩
theorem hwts_le : ∀ (l : List Hd), (∀ h, h ∈ l → h.fKey.length + h.fValue.data.length ≤ 100) → hwts l ≤ 120 * l.length
  | [], _ => Nat.zero_le _
  | x :: l, h => by
    have h1 := h x (.head _)
    have h2 := hwts_le l (fun y hy => h y (.tail _ hy))
    rw [hwts, hwt, List.length_cons]
    omega
theorem encs_le {α : Type} (enc : α → List UInt8) (n : Nat) : ∀ (l : List α), (∀ x, x ∈ l → (enc x).length ≤ n) → (encs enc l).length ≤ n * l.length
  | [], _ => Nat.zero_le _
  | x :: l, h => by
    have h1 := h x (.head _)
    have h2 := encs_le enc n l (fun y hy => h y (.tail _ hy))
    rw [encs, List.length_append, List.length_cons, Nat.mul_succ]
    omega
theorem smB_small {a : Bat} (hw : wf_Bat a) (h1 : a.fRecords.length ≤ 12) (h2 : ∀ r, r ∈ a.fRecords → r.fKey.data.length + r.fValue.data.length ≤ 100 ∧ r.fHeaders.length ≤ 6 ∧ ∀ h, h ∈ r.fHeaders → h.fKey.length + h.fValue.data.length ≤ 100) : smB a ∧ (body a).length ≤ 12000 := by
  have hr : ∀ r, r ∈ a.fRecords → rwt r ≤ 900 := fun r hr => by
    obtain ⟨k1, k2, k3⟩ := h2 r hr
    have := hwts_le r.fHeaders k3
    unfold rwt
    omega
  have hl : (body a).length ≤ 12000 := by
    have h3 := encs_le encRec 1000 a.fRecords (fun x hx => by
      have h4 := hw.2.2.2.2.2.2.2.2.2.2.2.2 x hx
      have h5 := hr x hx
      have := encRec_len x h4.1 h4.2.1 (by omega)
      omega)
    unfold body
    omega
  exact ⟨⟨bnB_small hw h1 h2, fun r hr2 => by have := hr r hr2; omega, by omega⟩, hl⟩
end Go.Proofs.Ytahjmpipllajcaa.Sl
namespace Go.Proofs.Ytahjmpipllajcaa.Sl
open Go.RowKit
set_option linter.unusedVariables false
set_option linter.unusedSimpArgs false
def firstB : Int → List Bat → Int
  | w, [] => w
  | w, x :: l => firstB (if w = 0 then chk x else w) l
theorem firstB_ne {w : Int} (h : w ≠ 0) : ∀ l : List Bat, firstB w l = w
  | [] => rfl
  | x :: l => by rw [firstB, if_neg h, firstB_ne h l]
theorem firstB_of : ∀ {l : List Bat}, (∀ x, x ∈ l → chk x = 0) → firstB 0 l = 0
  | [], _ => rfl
  | y :: l, h => by rw [firstB, if_pos rfl, h y (.head _), firstB_of (fun x hx => h x (.tail _ hx))]
theorem all_l1 (y4 : List UInt8) (y5 : Int) : ∀ (l : List Bat) (t : List UInt8), (∀ x, x ∈ l → smB x) → t.length + 1000000 * l.length ≤ 1000000000 →
    f_batch_All_l1 l y4 y5 t = some (if firstB 0 l = 0 then .go (y4, y5, t ++ encs encBt l) else .ret ([], firstB 0 l))
  | [], t, _, _ => by rw [encs, List.append_nil]; rfl
  | x :: l, t, h, hl => by
    have hx := h x (.head _)
    rw [List.length_cons] at hl
    rw [f_batch_All_l1, benc hx, Option.bind_some, firstB, if_pos rfl]
    by_cases hc : chk x = 0
    · have he := encBt_len (okB_of hx hc)
      have hx2 := hx.2.2
      rw [if_pos hc]
      dsimp only
      rw [if_pos rfl, gBWrite_eq _ _ (by omega), Option.bind_some, all_l1 y4 y5 l _ (fun y hy => h y (.tail _ hy)) (by rw [List.length_append]; omega), hc, encs, List.append_assoc]
    · rw [if_neg hc, firstB_ne hc]
      dsimp only
      rw [if_neg hc, if_neg hc]
theorem all_eq {l : List Bat} (h : ∀ x, x ∈ l → smB x) (hl : l.length ≤ 1000) : f_batch_All l = some (if firstB 0 l = 0 then (encs encBt l, 0) else ([], firstB 0 l)) := by
  unfold f_batch_All
  rw [all_l1 [] 0 l [] h (by rw [List.length_nil]; omega), Option.bind_some]
  by_cases hc : firstB 0 l = 0
  · rw [if_pos hc, if_pos hc]
    dsimp only
    rw [gBStr_eq, Option.bind_some, List.nil_append]
  · rw [if_neg hc, if_neg hc]
end Go.Proofs.Ytahjmpipllajcaa.Sl
namespace Go.Proofs.Ytahjmpipllajcaa.Sl
open Go.RowKit
set_option linter.unusedVariables false
set_option linter.unusedSimpArgs false
def sameBz : List Bat → List Bat → Bool
  | x :: l, y :: m => sameB x y && sameBz l m
  | _, _ => true
theorem sameBz_refl : ∀ l : List Bat, sameBz l l = true
  | [] => rfl
  | x :: l => by rw [sameBz, sameB_refl, sameBz_refl l]; rfl
theorem z_rows_loop (a b : List Bat) (hn : a.length ≤ 140737488351232) (y : Bool) : ∀ (l m : List Bat) (k fuel : Nat), a.drop k = l → b.drop k = m → l.length = m.length → l.length < fuel → (∀ x, x ∈ l → bnB x) → ∃ z, f_r11_Rows_l1 a b fuel y k = some (if sameBz l m = true then .go (y, z) else .ret false)
  | [], m, k, fuel + 1, h1, h2, hl, hf, _ => by
    have := b_nil_drop h1
    exact ⟨k, by rw [f_r11_Rows_l1, if_neg (by omega)]; rfl⟩
  | x :: l, v :: m, k, fuel + 1, h1, h2, hl, hf, hw => by
    obtain ⟨g1, g2, g3⟩ := b_at_drop h1
    obtain ⟨k1, k2, k3⟩ := b_at_drop h2
    have hx := hw x (.head _)
    rw [List.length_cons] at hf
    rw [List.length_cons, List.length_cons] at hl
    obtain ⟨z, hz⟩ := z_rows_loop a b hn y l m (k + 1) fuel g2 k2 (by omega) (by omega) (fun u hu => hw u (.tail _ hu))
    refine ⟨z, ?_⟩
    rw [f_r11_Rows_l1, if_pos (by omega), g1, Option.bind_some, k1, Option.bind_some, r11_same hx.2.1 (fun z hz => (hx.2.2 z hz).1), Option.bind_some, sameBz, if_pos (show -9223372036854775808 ≤ (k : Int) + 1 ∧ (k : Int) + 1 ≤ 9223372036854775807 by omega), hz]
    cases sameB x v <;> rfl
theorem z_rows {a b : List Bat} (hn : a.length ≤ 140737488351232) (hw : ∀ x, x ∈ a → bnB x) : f_r11_Rows a b = some (decide (a.length = b.length) && sameBz a b) := by
  unfold f_r11_Rows
  by_cases c : a.length = b.length
  · obtain ⟨z, hz⟩ := z_rows_loop a b hn false a b 0 (((a.length : Int)).toNat + 1) rfl rfl c (by omega) hw
    rw [if_pos (by omega), hz, decide_eq_true c, Bool.true_and]
    cases sameBz a b <;> rfl
  · rw [if_neg (by omega), decide_eq_false c]
    rfl
theorem z_rows_self {l : List Bat} (hn : l.length ≤ 1000000) (hw : ∀ x, x ∈ l → bnB x) : f_r11_Rows l l = some true := by
  rw [z_rows (by omega) hw, decide_eq_true rfl, sameBz_refl]
  rfl
theorem encs_app {α : Type} (enc : α → List UInt8) : ∀ (l m : List α), encs enc (l ++ m) = encs enc l ++ encs enc m
  | [], m => rfl
  | x :: l, m => by rw [List.cons_append, encs, encs, encs_app enc l m, List.append_assoc]
theorem scan_one {s : List UInt8} (hs : s.length ≤ 1000000) : f_scan_Scan [s] = some ((Scn s).1, resOf s) := by
  have := scan_eq (cs := [s]) (by rw [List.flatten_cons, List.flatten_nil, List.append_nil]; exact hs)
  rwa [List.flatten_cons, List.flatten_nil, List.append_nil] at this
theorem scn_self {l : List Bat} (h : ∀ b, b ∈ l → okB b) : Scn (encs encBt l) = (l, [], 0) := by
  have := Scn_encs l [] h
  rwa [List.append_nil, Scn_short (s := []) (by decide), List.append_nil] at this
theorem resOf_self {l : List Bat} (h : ∀ b, b ∈ l → okB b) : resOf (encs encBt l) = ⟨(encs encBt l).length, 0, 0⟩ := by
  unfold resOf
  rw [scn_self h]
  rfl
end Go.Proofs.Ytahjmpipllajcaa.Sl
namespace Go.Proofs.Ytahjmpipllajcaa.Sl
open Go.RowKit
set_option linter.unusedVariables false
set_option linter.unusedSimpArgs false
theorem v_take_one {l : List Bat} {j : Nat} (h : j < l.length) : ∃ b, b ∈ l ∧ l.take (j + 1) = l.take j ++ [b] ∧ ∃ r, l = l.take j ++ b :: r := by
  refine ⟨l[j], List.getElem_mem h, by rw [List.take_add_one, List.getElem?_eq_getElem h]; rfl, l.drop (j + 1), ?_⟩
  rw [← List.drop_eq_getElem_cons h, List.take_append_drop]
theorem v_scn_at {l : List Bat} (h : ∀ b, b ∈ l → okB b) {j k : Nat} (h1 : j ≤ l.length) (h2 : (encs encBt (l.take j)).length ≤ k) (h3 : j < l.length → k < (encs encBt (l.take (j + 1))).length) (hk : k ≤ (encs encBt l).length) :
    ∃ r, Scn ((encs encBt l).take k) = (l.take j, r, 0) ∧ (r = [] ↔ (encs encBt (l.take j)).length = k) := by
  have ht : ∀ b, b ∈ l.take j → okB b := fun b hb => h b (List.mem_of_mem_take hb)
  by_cases c : j < l.length
  · obtain ⟨b, m1, m2, r, m3⟩ := v_take_one c
    have h4 := h3 c
    rw [m2, encs_app, encs, encs, List.append_nil, List.length_append] at h4
    have e : (encs encBt l).take k = encs encBt (l.take j) ++ (encBt b).take (k - (encs encBt (l.take j)).length) := by
      conv => lhs; rw [m3]
      rw [encs_app, encs, List.take_append, List.take_of_length_le h2, List.take_append_of_le_length (by omega)]
    refine ⟨(encBt b).take (k - (encs encBt (l.take j)).length), ?_, ?_⟩
    · rw [e, Scn_encs _ _ ht, Scn_cut (h b m1) (by omega), List.append_nil]
    · have hl : ((encBt b).take (k - (encs encBt (l.take j)).length)).length = k - (encs encBt (l.take j)).length := by rw [List.length_take]; omega
      constructor
      · intro hr
        rw [hr, List.length_nil] at hl
        omega
      · intro hr
        exact List.length_eq_zero_iff.1 (by omega)
  · have e : l.take j = l := List.take_of_length_le (by omega)
    rw [e] at h2 ht ⊢
    have ek : k = (encs encBt l).length := by omega
    refine ⟨[], ?_, by simp [ek]⟩
    rw [ek, List.take_length, scn_self ht]
end Go.Proofs.Ytahjmpipllajcaa.Sl
namespace Go.Proofs.Ytahjmpipllajcaa.Sl
open Go.RowKit
set_option linter.unusedVariables false
set_option linter.unusedSimpArgs false
set_option maxRecDepth 100000
def ft_cursitortop : FTab := [(26, 0, 0), (26, 1, 1), (26, 2, 2)]
theorem ft_cursitortop_ok : (ft_cursitortop).OK Try.prog := ⟨FOK.mk Try.runUnderlying26 rfl Try.sizeOf3 rfl, FOK.mk Try.runUnderlying26 rfl Try.sizeOf3 rfl, FOK.mk Try.runUnderlying26 rfl Try.sizeOf24 rfl, trivial⟩
theorem mix_cursitortop : Try.prog.follows .mixedOrders = true := by kernel_rfl
theorem bok_cursitortop_26 : BOK Try.prog 26 #[.int .i64 0, .int .i64 0, .int .i64 0] [(0, 1), (1, 1), (2, 1)] := BOK.mk Try.zeroValue26 Try.runUnderlying26 (by intro w; simp)
theorem bok_cursitortop_36 : BOK Try.prog 36 #[.int .i64 0, .int .i64 0, .bool false, .bool false, .bool false, .int .i64 0, .int .i64 0, .int .i64 0, .int .i64 0, .int .i64 0, .int .i64 0, .slice none 0 0] [(0, 1), (1, 1), (2, 1), (3, 1), (4, 1), (5, 1), (6, 1), (7, 1), (8, 1), (9, 1), (10, 1), (11, 1)] := BOK.mk Try.zeroValue36 Try.runUnderlying36 (by intro w; simp)
theorem sok_cursitortop_39_1 : SOK Try.prog 39 9 1 1 #[.string ⟨#[]⟩] := SOK.mk Try.runUnderlying39 Try.sizeOf9 Try.zeroValue9 (by decide) (by kernel_rfl)
theorem flat_cursitortop_26 : Flat Try.prog 2 26 [.int .i64, .int .i64, .int .i64] true := (Flat.struct Try.isAgg26 Try.sizeOf26 rfl Try.underlying26 Try.stoodInHeld26 ⟨by decide, rfl, [.int .i64], [.int .i64, .int .i64], false, rfl, (Flat.one_ Try.isAgg3 Try.sizeOf3 Try.underlying3), ⟨by decide, rfl, [.int .i64], [.int .i64], false, rfl, (Flat.one_ Try.isAgg3 Try.sizeOf3 Try.underlying3), ⟨by decide, rfl, [.int .i64], [], false, rfl, (Flat.one_ Try.isAgg24 Try.sizeOf24 Try.underlying24), rfl⟩⟩⟩)
def f_top_none  : Option (Bat × List UInt8 × Bool) := (f_batch_Encode (⟨0, 0, false, false, false, 0, 0, 0, -1, -1, -1, []⟩ : Bat)).bind fun (x3, x4) => (if x4 = 0 then (if (x3.length : Int) = 61 then some true else some false) else some false).bind fun y7 => some ((⟨0, 0, false, false, false, 0, 0, 0, -1, -1, -1, []⟩ : Bat), x3, y7)
set_option maxRecDepth 100000 in
set_option maxHeartbeats 4000000 in
theorem f_top_none_spec  (r : Bat × List UInt8 × Bool) (h : f_top_none  = some r) : SpecX Try.prog 12 #[] .triv (EmpR) (fun v A' N => ∃ (A11 : Option Addr) (c12 : Nat), v = .tuple #[.agg #[.int .i64 r.1.fBase, .int .i64 r.1.fLeader, .bool r.1.fAppend, .bool r.1.fTxn, .bool r.1.fControl, .int .i64 r.1.fLast, .int .i64 r.1.fFirst, .int .i64 r.1.fMax, .int .i64 r.1.fProducer, .int .i64 r.1.fEpoch, .int .i64 r.1.fSequence, .slice A11 r.1.fRecords.length c12], .string (bsOf r.2.1), .bool r.2.2] ∧ A' = EmpR ∧ N = [RdR (sliceRd 7 Rec_rd) [.slice A11 r.1.fRecords.length c12] r.1.fRecords]) := by
  refine enterA Try.func12 rfl Try.ntmps12 rfl ?_
  intro F w hX
  unfold f_top_none at h
  refine T.seq (T.region rfl ?_)
  refine TL.alloc rfl .u Try.zeroValue36 rfl (fun b1 => ?_)
  refine TL.run ft_cursitortop_ok [1, 2] rfl rfl ?_
  refine TL.nil (X.seq (T.seq (T.region rfl ?_)))
  refine TL.q rfl .u (Ex.bld (cells := #[.int .i64 0, .int .i64 0, .bool false, .bool false, .bool false, .int .i64 0, .int .i64 0, .int .i64 0, .int .i64 (-1), .int .i64 (-1), .int .i64 (-1), .slice none 0 0]) bok_cursitortop_36 rfl (by kernel_rfl)) rfl ?_
  refine TL.alloc rfl .u Try.zeroValue36 rfl (fun b2 => ?_)
  refine TL.st0 (cs' := #[.int .i64 0, .int .i64 0, .bool false, .bool false, .bool false, .int .i64 0, .int .i64 0, .int .i64 0, .int .i64 (-1), .int .i64 (-1), .int .i64 (-1), .slice none 0 0]) rfl .u rfl rfl Try.sizeOf36 rfl rfl rfl rfl ?_
  refine TL.nil (X.seq (T.seq (T.region rfl ?_)))
  refine TL.q rfl .u (Ex.bS (us := [.int .i64 0, .int .i64 0, .bool false, .bool false, .bool false, .int .i64 0, .int .i64 0, .int .i64 0, .int .i64 (-1), .int .i64 (-1), .int .i64 (-1), .slice none 0 0]) 0 rfl Try.isAgg36 Try.sizeOf36 rfl rfl rfl) rfl ?_
  obtain ⟨⟨x3, x4⟩, hx5, h⟩ := Option.bind_eq_some_iff.1 h
  try dsimp only at h
  refine TL.ce rfl .u (.fn Try.call27 rfl) (f_batch_Encode_spec (⟨0, 0, false, false, false, 0, 0, 0, -1, -1, -1, []⟩ : Bat) _ _ _ hx5) (fun _ hs => slice_nil_reads) rfl ?_
  refine TL.run ft_cursitortop_ok [2, 3, 4, 5, 6] rfl rfl ?_
  refine TL.nil (X.seq (T.seq ?_))
  obtain ⟨y7, h, hk8⟩ := Option.bind_eq_some_iff.1 h
  refine T.jq (fun e Rs => e = [(0, .pointer (some ⟨b1, 0, none⟩)), (1, .string (bsOf x3)), (2, .bool y7)] ∧ Rs = [BlkR b2 36 #[.int .i64 0, .int .i64 0, .bool false, .bool false, .bool false, .int .i64 0, .int .i64 0, .int .i64 0, .int .i64 (-1), .int .i64 (-1), .int .i64 (-1), .slice none 0 0], BlkR b1 36 #[.int .i64 0, .int .i64 0, .bool false, .bool false, .bool false, .int .i64 0, .int .i64 0, .int .i64 0, .int .i64 (-1), .int .i64 (-1), .int .i64 (-1), .slice none 0 0], EmpR]) ?_ ?_
  · clear hk8
    refine T.region rfl ?_
    refine TL.q rfl .u (Ex.bS (us := [.int .i64 0, .int .i64 0, .bool false, .bool false, .bool false, .int .i64 0, .int .i64 0, .int .i64 0, .int .i64 (-1), .int .i64 (-1), .int .i64 (-1), .slice none 0 0]) 0 rfl Try.isAgg36 Try.sizeOf36 rfl rfl rfl) rfl ?_
    by_cases c9 : x4 = 0
    · replace h := ifT c9 h
      refine TL.run ft_cursitortop_ok [1, 2, 3, 4] rfl rfl ?_
      refine TL.q rfl (.g rfl rfl (decide_eq_true c9)) (Ex.ft ft_cursitortop_ok rfl) rfl ?_
      refine TL.q rfl (.g rfl rfl (decide_eq_true c9)) (Ex.lenB rfl Try.runUnderlying9) rfl ?_
      refine TL.q rfl (.g rfl rfl (decide_eq_true c9)) (Ex.ft ft_cursitortop_ok rfl) rfl ?_
      refine TL.q rfl .u (Ex.py rfl (decide_eq_true c9) rfl) rfl ?_
      refine TL.st1 (cs' := #[.int .i64 0, .int .i64 0, .bool false, .bool false, .bool false, .int .i64 0, .int .i64 0, .int .i64 0, .int .i64 (-1), .int .i64 (-1), .int .i64 (-1), .slice none 0 0]) rfl .u rfl rfl Try.sizeOf36 rfl rfl rfl rfl ?_
      refine TL.run ft_cursitortop_ok [10, 11] rfl rfl ?_
      by_cases c10 : (x3.length : Int) = 61
      · replace h := ifT c10 h
        cases h
        exact TL.nil (X.as (d := 2) (v' := .bool true) rfl (congrArg Value.bool (decide_eq_true c10)) (X.jq [0, 0, 0] ⟨rfl, rfl⟩ (by rfl) (by rfl)))
      · replace h := ifF c10 h
        cases h
        exact TL.nil (X.as (d := 2) (v' := .bool false) rfl (congrArg Value.bool (decide_eq_false c10)) (X.jq [0, 0, 0] ⟨rfl, rfl⟩ (by rfl) (by rfl)))
    · replace h := ifF c9 h
      refine TL.run ft_cursitortop_ok [1, 2, 3, 4] rfl rfl ?_
      refine TL.no rfl (.gn rfl rfl (decide_eq_false c9)) rfl ?_
      refine TL.no rfl (.gn rfl rfl (decide_eq_false c9)) rfl ?_
      refine TL.no rfl (.gn rfl rfl (decide_eq_false c9)) rfl ?_
      refine TL.q rfl .u (Ex.pn rfl (decide_eq_false c9) rfl) rfl ?_
      refine TL.st1 (cs' := #[.int .i64 0, .int .i64 0, .bool false, .bool false, .bool false, .int .i64 0, .int .i64 0, .int .i64 0, .int .i64 (-1), .int .i64 (-1), .int .i64 (-1), .slice none 0 0]) rfl .u rfl rfl Try.sizeOf36 rfl rfl rfl rfl ?_
      refine TL.run ft_cursitortop_ok [10, 11] rfl rfl ?_
      cases h
      exact TL.nil (X.jq [0, 0, 0] ⟨rfl, rfl⟩ (by rfl) (by rfl))
  · rintro _ _ ⟨rfl, rfl⟩
    clear h
    have h := hk8
    clear hk8
    try dsimp only at h
    obtain rfl := Option.some.inj h
    refine X.seq (T.ret ?_)
    refine X.nilrd 7 Rec_rd ?_
    exact X.done3 [3, 0] Try.results12 (RV.cS (us := #[.int .i64 0, .int .i64 0, .bool false, .bool false, .bool false, .int .i64 0, .int .i64 0, .int .i64 0, .int .i64 (-1), .int .i64 (-1), .int .i64 (-1), .slice none 0 0]) 2 rfl Try.isAgg36 Try.sizeOf36 rfl rfl) (RV.tm rfl) (RV.tm rfl) ⟨_, _, rfl, rfl, rfl⟩ (by rfl) (.inl rfl)
def f_top_WholeTorn_l1 : List Bat → Bool → Option (Lp Bool Bool)
  | [], y19 => some (Lp.go y19)
  | x25 :: xs, y19 => ((f_l11_Small x25).bind fun x40 => if x40 = 0 then some true else ((f_batch_Check x25).bind fun x43 => if x43 = 0 then some false else some true)).bind fun y38 => if y38 = true then some (Lp.ret true) else (f_top_WholeTorn_l1 xs y19)
def f_top_WholeTorn (a0 : List Bat) (a1 : List Int) (a2 : Int) : Option (Bool) := (f_top_none).bind fun (x5, x8, x9) => if x9 = true then ((if (a0.length : Int) > 6 then some true else (if (a1.length : Int) > 200 then some true else some false)).bind fun y14 => if y14 = true then some true else ((f_top_WholeTorn_l1 a0 false).bind fun e => match e with | .ret r => some r | .go y47 => ((f_batch_All a0).bind fun (x49, x50) => if x50 = 0 then (if -9223372036854775808 ≤ a2 ∧ a2 ≤ 9223372036854775807 then (if -9223372036854775808 ≤ ((x49.length : Int) + 1) ∧ ((x49.length : Int) + 1) ≤ 9223372036854775807 then (if 1 ≤ ((x49.length : Int) + 1) ∧ 0 ≤ a2 then (if 0 ≤ (a2 % ((x49.length : Int) + 1)) ∧ (a2 % ((x49.length : Int) + 1)).toNat ≤ x49.length then ((f_l22_Cut (x49.take ((a2 % ((x49.length : Int) + 1)).toNat)) a1).bind fun x57 => (f_scan_Scan x57).bind fun (x61, x64) => (if (x61.length : Int) > (a0.length : Int) then some true else (if x61.length ≤ a0.length then ((f_r11_Rows x61 (a0.take x61.length)).bind fun x83 => if x83 = true then ((f_tally_Total x61).bind fun x86 => (floatToIntVal .f64 x86.1 .i64).bind fun x88 => if x88 = x64.fValid then (if x64.fErr = 0 then (if ((decide (x64.fStop = 0)) == (decide (x64.fValid = (a2 % ((x49.length : Int) + 1))))) = true then some false else some true) else some true) else some true) else some true) else none)).bind fun y78 => if y78 = true then none else (if (x61.length : Int) < (a0.length : Int) then ((a0[x61.length]?).bind fun x94 => (f_batch_Encode x94).bind fun (x100, x101) => if -9223372036854775808 ≤ (x64.fValid + (x100.length : Int)) ∧ (x64.fValid + (x100.length : Int)) ≤ 9223372036854775807 then (if (x64.fValid + (x100.length : Int)) ≤ (a2 % ((x49.length : Int) + 1)) then none else (if 0 ≤ x64.fValid ∧ x64.fValid.toNat ≤ x49.length then ((f_scan_Scan [(x49.take x64.fValid.toNat)]).bind fun (x107, x110) => ((f_r11_Rows x107 x61).bind fun x121 => if x121 = true then (if x110.fValid = x64.fValid then (if x110.fStop = 0 then (if x110.fErr = 0 then some true else some false) else some false) else some false) else some false).bind fun y119 => some y119) else none)) else none) else (if 0 ≤ x64.fValid ∧ x64.fValid.toNat ≤ x49.length then ((f_scan_Scan [(x49.take x64.fValid.toNat)]).bind fun (x129, x132) => ((f_r11_Rows x129 x61).bind fun x143 => if x143 = true then (if x132.fValid = x64.fValid then (if x132.fStop = 0 then (if x132.fErr = 0 then some true else some false) else some false) else some false) else some false).bind fun y141 => some y141) else none))) else none) else none) else none) else none) else none))) else none
set_option maxRecDepth 100000 in
set_option maxHeartbeats 4000000 in
theorem f_top_WholeTorn_spec (a0 : List Bat) (A1 : Option Addr) (c2 : Nat) (a1 : List Int) (A3 : Option Addr) (c4 : Nat) (a2 : Int) (r : Bool) (h : f_top_WholeTorn a0 a1 a2 = some r) : SpecX Try.prog 7 #[.slice A1 a0.length c2, .slice A3 a1.length c4, .int .u16 a2] (RX.and (RX.of (sliceRd 12 Bat_rd) [.slice A1 a0.length c2] a0) (RX.of (sliceRd 1 u8E) [.slice A3 a1.length c4] a1)) (EmpR) (fun v A' N => v = .bool r ∧ A' = EmpR ∧ N = []) := by
  refine enterA Try.func7 rfl Try.ntmps7 rfl ?_
  intro F w hX
  unfold f_top_WholeTorn at h
  refine T.seq (T.region rfl ?_)
  refine TL.run ft_cursitortop_ok [0] rfl rfl ?_
  obtain ⟨⟨x5, x8, x9⟩, hx10, h⟩ := Option.bind_eq_some_iff.1 h
  try dsimp only at h
  refine TL.nil (X.seq (T.seq (T.seq (T.region rfl ?_))))
  refine TL.cge rfl .u (.fn Try.call12 rfl) (f_top_none_spec _ hx10) (fun _ hs => (RX.reads_triv _ _)) rfl ?_
  rintro _ _ _ ⟨A6, c7, rfl, rfl, rfl⟩
  refine TL.sel [0, 0] rfl ?_
  refine TL.run ft_cursitortop_ok [1, 2, 3, 4] rfl rfl ?_
  refine TL.alloc rfl .u Try.zeroValue36 rfl (fun b11 => ?_)
  refine TL.st0 (cs' := #[.int .i64 x5.fBase, .int .i64 x5.fLeader, .bool x5.fAppend, .bool x5.fTxn, .bool x5.fControl, .int .i64 x5.fLast, .int .i64 x5.fFirst, .int .i64 x5.fMax, .int .i64 x5.fProducer, .int .i64 x5.fEpoch, .int .i64 x5.fSequence, .slice A6 x5.fRecords.length c7]) rfl .u rfl rfl Try.sizeOf36 rfl rfl rfl rfl ?_
  refine TL.run ft_cursitortop_ok [7, 8] rfl rfl ?_
  refine TL.nil (X.seq (T.seq (T.region rfl ?_)))
  refine TL.run ft_cursitortop_ok [0, 1] rfl rfl ?_
  by_cases c12 : x9 = true
  · replace h := ifT c12 h
    refine TL.nil (X.seq ?_)
    refine T.no rfl (bn_f c12) ?_
    refine T.skip (X.seq (T.seq (T.seq ?_)))
    obtain ⟨y14, h, hk15⟩ := Option.bind_eq_some_iff.1 h
    refine T.jq (fun e Rs => e = [(0, .slice A1 a0.length c2), (1, .slice A3 a1.length c4), (2, .int .u16 a2), (6, .bool false), (35, .bool y14)] ∧ Rs = [BlkR b11 36 #[.int .i64 x5.fBase, .int .i64 x5.fLeader, .bool x5.fAppend, .bool x5.fTxn, .bool x5.fControl, .int .i64 x5.fLast, .int .i64 x5.fFirst, .int .i64 x5.fMax, .int .i64 x5.fProducer, .int .i64 x5.fEpoch, .int .i64 x5.fSequence, .slice A6 x5.fRecords.length c7], RdR (sliceRd 7 Rec_rd) [.slice A6 x5.fRecords.length c7] x5.fRecords, EmpR]) ?_ ?_
    · clear hk15
      refine T.region rfl ?_
      refine TL.run ft_cursitortop_ok [0] rfl rfl ?_
      refine TL.q rfl .u (Ex.lenS rfl Try.runUnderlying23) rfl ?_
      by_cases c16 : (a0.length : Int) > 6
      · replace h := ifT c16 h
        refine TL.run ft_cursitortop_ok [2, 3] rfl rfl ?_
        refine TL.no rfl (.gn rfl rfl (decide_eq_true c16)) rfl ?_
        refine TL.no rfl (.gn rfl rfl (decide_eq_true c16)) rfl ?_
        refine TL.no rfl (.gn rfl rfl (decide_eq_true c16)) rfl ?_
        refine TL.q rfl .u (Ex.py rfl (decide_eq_true c16) rfl) rfl ?_
        cases h
        exact TL.nil (X.jq [0, 0, 0] ⟨rfl, rfl⟩ (by rfl) (by rfl))
      · replace h := ifF c16 h
        refine TL.run ft_cursitortop_ok [2, 3] rfl rfl ?_
        refine TL.q rfl (.g rfl rfl (decide_eq_false c16)) (Ex.ft ft_cursitortop_ok rfl) rfl ?_
        refine TL.q rfl (.g rfl rfl (decide_eq_false c16)) (Ex.lenS rfl Try.runUnderlying33) rfl ?_
        refine TL.q rfl (.g rfl rfl (decide_eq_false c16)) (Ex.ft ft_cursitortop_ok rfl) rfl ?_
        refine TL.q rfl .u (Ex.pn rfl (decide_eq_false c16) rfl) rfl ?_
        by_cases c17 : (a1.length : Int) > 200
        · replace h := ifT c17 h
          cases h
          exact TL.nil (X.as (d := 35) (v' := .bool true) rfl (congrArg Value.bool (decide_eq_true c17)) (X.jq [0, 0, 0] ⟨rfl, rfl⟩ (by rfl) (by rfl)))
        · replace h := ifF c17 h
          cases h
          exact TL.nil (X.as (d := 35) (v' := .bool false) rfl (congrArg Value.bool (decide_eq_false c17)) (X.jq [0, 0, 0] ⟨rfl, rfl⟩ (by rfl) (by rfl)))
    · rintro _ _ ⟨rfl, rfl⟩
      clear h
      have h := hk15
      clear hk15
      try dsimp only at h
      by_cases c18 : y14 = true
      · replace h := ifT c18 h
        refine X.seq ?_
        refine T.yes rfl c18 ?_
        refine T.seq (T.region rfl ?_)
        refine TL.run ft_cursitortop_ok [0] rfl rfl ?_
        obtain rfl := Option.some.inj h
        exact TL.nil (X.seq (T.ret (X.rs (X.done1 [2] Try.results7 (RV.tm rfl) ⟨rfl, rfl, rfl⟩ (by rfl) (.inl rfl)))))
      · replace h := ifF c18 h
        replace c18 := eq_false_of_ne_true c18
        refine X.seq ?_
        refine T.no rfl c18 ?_
        refine T.skip (X.seq (T.seq (T.seq (T.region rfl ?_))))
        refine TL.run ft_cursitortop_ok [0] rfl rfl ?_
        refine TL.q rfl .u (Ex.lenS rfl Try.runUnderlying23) rfl ?_
        refine TL.run ft_cursitortop_ok [2] rfl rfl ?_
        refine TL.nil (X.seq (T.block ?_))
        obtain ⟨E21, hE22, hO23⟩ := Option.bind_eq_some_iff.1 h
        have hk27len := RX.len_le (RX.reads_left hX)
        refine T.lp (fun m e Rs => ∃ (y19 : Bool) (k20 : Nat), k20 + m = a0.length ∧ e = [(0, .slice A1 a0.length c2), (1, .slice A3 a1.length c4), (2, .int .u16 a2), (6, .bool y19), (36, .slice A1 a0.length c2), (37, .int .i64 (a0.length : Int)), (38, .int .i64 (k20 : Int))] ∧ Rs = [BlkR b11 36 #[.int .i64 x5.fBase, .int .i64 x5.fLeader, .bool x5.fAppend, .bool x5.fTxn, .bool x5.fControl, .int .i64 x5.fLast, .int .i64 x5.fFirst, .int .i64 x5.fMax, .int .i64 x5.fProducer, .int .i64 x5.fEpoch, .int .i64 x5.fSequence, .slice A6 x5.fRecords.length c7], RdR (sliceRd 7 Rec_rd) [.slice A6 x5.fRecords.length c7] x5.fRecords, EmpR] ∧ f_top_WholeTorn_l1 (a0.drop k20) y19 = some E21) (a0.length) [0, 0, 0] ⟨false, 0, by simp, rfl, rfl, by rw [List.drop_zero]; exact hE22⟩ (by rfl) (by rfl) ?_
        rintro m24 _ _ ⟨y19, k20, hk27, rfl, rfl, hl26⟩
        clear hE22 h
        cases m24 with
        | zero =>
          have h := hl26
          clear hl26
          rw [List.drop_of_length_le (by omega), f_top_WholeTorn_l1] at h
          have hk27ge : ¬ ((k20 : Int) < (a0.length : Int)) := by omega
          refine T.seq (T.region rfl ?_)
          refine TL.run ft_cursitortop_ok [0] rfl rfl ?_
          refine TL.nil (X.seq (T.seq ?_))
          refine T.no rfl (decide_eq_false hk27ge) ?_
          obtain rfl := Option.some.inj h
          replace h := hO23
          clear hO23
          try dsimp only at h
          refine T.exit (X.exs (X.exs (X.ex (X.seq (T.seq (T.region rfl ?_))))))
          obtain ⟨⟨x149, x150⟩, hx151, h⟩ := Option.bind_eq_some_iff.1 h
          try dsimp only at h
          refine TL.run ft_cursitortop_ok [0] rfl rfl ?_
          refine TL.ce rfl .u (.fn Try.call10 rfl) (f_batch_All_spec a0 _ _ _ hx151) (fun _ hs => (SrcE.old hs (RX.reads_left hX))) rfl ?_
          refine TL.run ft_cursitortop_ok [2, 3, 4, 5, 6] rfl rfl ?_
          refine TL.nil (X.seq (T.seq (T.seq (T.region rfl ?_))))
          refine TL.run ft_cursitortop_ok [0, 1] rfl rfl ?_
          by_cases c152 : x150 = 0
          · replace h := ifT c152 h
            refine TL.nil (X.seq ?_)
            refine T.no rfl (bn_f (decide_eq_true c152)) ?_
            refine T.skip (X.seq (T.seq (T.region rfl ?_)))
            replace h := guard_some h
            obtain ⟨c153, h⟩ := h
            refine TL.run ft_cursitortop_ok [0] rfl rfl ?_
            refine TL.q rfl .u (Ex.conv64 rfl Try.runUnderlying61 Try.runUnderlying3 c153) rfl ?_
            refine TL.run ft_cursitortop_ok [2] rfl rfl ?_
            refine TL.q rfl .u (Ex.lenB rfl Try.runUnderlying9) rfl ?_
            replace h := guard_some h
            obtain ⟨c154, h⟩ := h
            refine TL.q rfl .u (Ex.add rfl rfl c154) rfl ?_
            replace h := guard_some h
            obtain ⟨c155, h⟩ := h
            refine TL.q rfl .u (Ex.remK rfl rfl c155.1 c155.2) rfl ?_
            refine TL.run ft_cursitortop_ok [6] rfl rfl ?_
            refine TL.nil (X.seq (T.seq (T.region rfl ?_)))
            replace h := guard_some h
            obtain ⟨c156, h⟩ := h
            refine TL.run ft_cursitortop_ok [0, 1] rfl rfl ?_
            replace c156 : 0 ≤ (a2 % ((x149.length : Int) + 1)) ∧ (a2 % ((x149.length : Int) + 1)).toNat ≤ x149.length := c156
            refine TL.q rfl .u (Ex.sSl (p := 0) (q := (a2 % ((x149.length : Int) + 1)).toNat) (m := (x149.take ((a2 % ((x149.length : Int) + 1)).toNat))) rfl Try.runUnderlying9 .none (.some rfl ((Int.toNat_of_nonneg c156.1).symm)) (by first | omega | (dsimp only; omega)) (by simp)) rfl ?_
            obtain ⟨x157, hx160, h⟩ := Option.bind_eq_some_iff.1 h
            refine TL.run ft_cursitortop_ok [3] rfl rfl ?_
            refine TL.cge rfl .u (.fn Try.call13 rfl) (f_l22_Cut_spec (x149.take ((a2 % ((x149.length : Int) + 1)).toNat)) a1 _ _ _ hx160) (fun _ hs => (SrcE.old hs (RX.reads_right hX))) rfl ?_
            rintro _ _ _ ⟨A158, c159, rfl, rfl, rfl⟩
            refine TL.sel [0, 0, 0, 0] rfl ?_
            obtain ⟨⟨x161, x164⟩, hx165, h⟩ := Option.bind_eq_some_iff.1 h
            try dsimp only at h
            refine TL.cge rfl .u (.fn Try.call9 rfl) (f_scan_Scan_spec x157 _ _ _ hx165) (fun _ hs => (SrcE.res 0 hs rfl (fun w G h => rd_reads w G h))) rfl ?_
            rintro _ _ _ ⟨A162, c163, rfl, rfl, rfl⟩
            refine TL.sel [0, 0, 0, 0, 0] rfl ?_
            refine TL.run ft_cursitortop_ok [6, 7, 8] rfl rfl ?_
            refine TL.alloc rfl .u Try.zeroValue26 rfl (fun b166 => ?_)
            refine TL.run ft_cursitortop_ok [10] rfl rfl ?_
            refine TL.st0 (cs' := #[.int .i64 x164.fValid, .int .i64 x164.fStop, .int .i64 x164.fErr]) rfl .u rfl rfl Try.sizeOf26 rfl rfl rfl rfl ?_
            refine TL.nil (X.seq (T.seq (T.seq ?_)))
            obtain ⟨y178, h, hk179⟩ := Option.bind_eq_some_iff.1 h
            refine T.jq (fun e Rs => e = [(0, .slice A1 a0.length c2), (6, .bool y19), (12, .string (bsOf x149)), (14, .int .i64 (a2 % ((x149.length : Int) + 1))), (15, .slice A162 x161.length c163), (16, .pointer (some ⟨b166, 0, none⟩)), (110, .bool y178)] ∧ Rs = [BlkR b166 26 #[.int .i64 x164.fValid, .int .i64 x164.fStop, .int .i64 x164.fErr], RdR (sliceRd 12 Bat_rd) [.slice A162 x161.length c163] x161, RdR (sliceRd 1 strE) [.slice A158 x157.length c159] x157, BlkR b11 36 #[.int .i64 x5.fBase, .int .i64 x5.fLeader, .bool x5.fAppend, .bool x5.fTxn, .bool x5.fControl, .int .i64 x5.fLast, .int .i64 x5.fFirst, .int .i64 x5.fMax, .int .i64 x5.fProducer, .int .i64 x5.fEpoch, .int .i64 x5.fSequence, .slice A6 x5.fRecords.length c7], RdR (sliceRd 7 Rec_rd) [.slice A6 x5.fRecords.length c7] x5.fRecords, EmpR]) ?_ ?_
            · clear hk179
              refine T.draw (.q 0 (.q 1 (.q 2 (.q 3 (.q 4 (.q 5 (.q 6 (.q 7 (.q 8 (.q 9 (.q 10 (.e 11 (.q 12 (.q 13 (.q 14 (.q 15 (.q 19 (.q 20 (.e 16 (.q 17 (.q 18 (.q 21 (.q 22 (.q 23 (.q 24 (.q 25 (.q 26 (.q 27 (.q 28 (.q 29 (.q 30 (.q 31 (.q 32 (.q 33 (.q 34 (.q 35 (.q 36 (.q 37 .nil)))))))))))))))))))))))))))))))))))))) [0, 0, 0, 0, 0, 0] rfl mix_cursitortop (NoP.seq (NoP.seq (NoP.seq np_post))) (by kernel_rfl) ?_
              refine TD.run ft_cursitortop_ok [0] rfl rfl ?_
              refine TD.q rfl .u (Ex.lenS rfl Try.runUnderlying23) rfl ?_
              refine TD.run ft_cursitortop_ok [2] rfl rfl ?_
              refine TD.q rfl .u (Ex.lenS rfl Try.runUnderlying23) rfl ?_
              by_cases c180 : (x161.length : Int) > (a0.length : Int)
              · replace h := ifT c180 h
                refine TD.run ft_cursitortop_ok [4, 5] rfl rfl ?_
                refine TD.no rfl (.gn rfl rfl (decide_eq_true c180)) rfl ?_
                refine TD.no rfl (.gn rfl rfl (decide_eq_true c180)) rfl ?_
                refine TD.no rfl (.gn rfl rfl (decide_eq_true c180)) rfl ?_
                refine TD.no rfl (.gn rfl rfl (decide_eq_true c180)) rfl ?_
                refine TD.no rfl (.gn rfl rfl (decide_eq_true c180)) rfl ?_
                refine TD.noe rfl (.gn rfl rfl (decide_eq_true c180)) rfl [0, 0, 0, 0, 0, 0] rfl ?_
                refine TD.no rfl (.gn rfl rfl (decide_eq_true c180)) rfl ?_
                refine TD.q rfl .u (Ex.py rfl (decide_eq_true c180) rfl) rfl ?_
                refine TD.run ft_cursitortop_ok [14] rfl rfl ?_
                refine TD.no rfl (.gn rfl rfl rfl) rfl ?_
                refine TD.no rfl (.gn rfl rfl rfl) rfl ?_
                refine TD.no rfl (.gn rfl rfl rfl) rfl ?_
                refine TD.noe rfl (.gn rfl rfl rfl) rfl [0, 0, 0, 0, 0, 0] rfl ?_
                refine TD.no rfl (.gn rfl rfl rfl) rfl ?_
                refine TD.no rfl (.gn rfl rfl rfl) rfl ?_
                refine TD.no rfl (.gn rfl rfl rfl) rfl ?_
                refine TD.q rfl .u (Ex.py rfl rfl rfl) rfl ?_
                refine TD.run ft_cursitortop_ok [23] rfl rfl ?_
                refine TD.no rfl (.gn rfl rfl rfl) rfl ?_
                refine TD.no rfl (.gn rfl rfl rfl) rfl ?_
                refine TD.no rfl (.gn rfl rfl rfl) rfl ?_
                refine TD.q rfl .u (Ex.py rfl rfl rfl) rfl ?_
                refine TD.run ft_cursitortop_ok [28] rfl rfl ?_
                refine TD.no rfl (.gn rfl rfl rfl) rfl ?_
                refine TD.no rfl (.gn rfl rfl rfl) rfl ?_
                refine TD.no rfl (.gn rfl rfl rfl) rfl ?_
                refine TD.no rfl (.gn rfl rfl rfl) rfl ?_
                refine TD.no rfl (.gn rfl rfl rfl) rfl ?_
                refine TD.no rfl (.gn rfl rfl rfl) rfl ?_
                refine TD.no rfl (.gn rfl rfl rfl) rfl ?_
                refine TD.no rfl (.gn rfl rfl rfl) rfl ?_
                refine TD.q rfl .u (Ex.py rfl rfl rfl) rfl ?_
                cases h
                exact TD.nil (X.jq [0, 0, 0, 0, 0, 0] ⟨rfl, rfl⟩ (by rfl) (by rfl))
              · replace h := ifF c180 h
                refine TD.run ft_cursitortop_ok [4, 5] rfl rfl ?_
                refine TD.q rfl (.g rfl rfl (decide_eq_false c180)) (Ex.ft ft_cursitortop_ok rfl) rfl ?_
                refine TD.q rfl (.g rfl rfl (decide_eq_false c180)) (Ex.ft ft_cursitortop_ok rfl) rfl ?_
                refine TD.q rfl (.g rfl rfl (decide_eq_false c180)) (Ex.ft ft_cursitortop_ok rfl) rfl ?_
                refine TD.q rfl (.g rfl rfl (decide_eq_false c180)) (Ex.lenS rfl Try.runUnderlying23) rfl ?_
                replace h := guard_some h
                obtain ⟨c181, h⟩ := h
                have hX182 := RX.subR (RX.reads_left hX) (Nat.zero_le _) c181 (by rw [List.drop_zero, Nat.sub_zero])
                refine TD.q rfl (.g rfl rfl (decide_eq_false c180)) (Ex.subS (p := 0) (q := x161.length) (mm := (a0.take x161.length).length) (cap_old (RX.reads_left hX)) rfl Try.runUnderlying23 Try.sizeOf36 .none (.some rfl rfl) (Nat.zero_le _) c181 (by rw [List.length_take, Nat.min_eq_left c181]; exact (Nat.sub_zero _).symm)) rfl ?_
                obtain ⟨x183, hx184, h⟩ := Option.bind_eq_some_iff.1 h
                refine TD.ce rfl (.g rfl rfl (decide_eq_false c180)) (.fn Try.call11 rfl) (f_r11_Rows_spec x161 _ _ (a0.take x161.length) _ _ _ hx184) (fun _ hs => (RX.reads_and (SrcE.res 1 hs rfl (fun w G h => rd_reads w G h)) (SrcE.old hs hX182))) rfl [0, 0, 0, 0, 0, 0] (rfl) ?_
                refine TD.q rfl (.g rfl rfl (decide_eq_false c180)) (Ex.ft ft_cursitortop_ok rfl) rfl ?_
                refine TD.q rfl .u (Ex.pn rfl (decide_eq_false c180) rfl) rfl ?_
                by_cases c185 : x183 = true
                · replace h := ifT c185 h
                  refine TD.run ft_cursitortop_ok [14] rfl rfl ?_
                  refine TD.q rfl (.g rfl rfl (bn_f c185)) (Ex.ft ft_cursitortop_ok rfl) rfl ?_
                  refine TD.q rfl (.g rfl rfl (bn_f c185)) (Ex.ft ft_cursitortop_ok rfl) rfl ?_
                  refine TD.q rfl (.g rfl rfl (bn_f c185)) (Ex.b1 0 rfl Try.isAgg3 rfl rfl) rfl ?_
                  obtain ⟨x186, hx187, h⟩ := Option.bind_eq_some_iff.1 h
                  refine TD.ce rfl (.g rfl rfl (bn_f c185)) (.fn Try.call25 rfl) (f_tally_Total_spec x161 _ _ _ hx187) (fun _ hs => (SrcE.res 1 hs rfl (fun w G h => rd_reads w G h))) rfl [0, 0, 0, 0, 0, 0] (rfl) ?_
                  refine TD.q rfl (.g rfl rfl (bn_f c185)) (Ex.re rfl) rfl ?_
                  obtain ⟨x188, hx188, h⟩ := Option.bind_eq_some_iff.1 h
                  refine TD.q rfl (.g rfl rfl (bn_f c185)) (Ex.f2i rfl Try.underlying63 Try.underlying3 hx188) rfl ?_
                  refine TD.q rfl (.g rfl rfl (bn_f c185)) (Ex.ft ft_cursitortop_ok rfl) rfl ?_
                  refine TD.q rfl .u (Ex.pn rfl (bn_f c185) rfl) rfl ?_
                  by_cases c189 : x188 = x164.fValid
                  · replace h := ifT c189 h
                    refine TD.run ft_cursitortop_ok [23] rfl rfl ?_
                    refine TD.q rfl (.g rfl rfl (bn_f (decide_eq_true c189))) (Ex.ft ft_cursitortop_ok rfl) rfl ?_
                    refine TD.q rfl (.g rfl rfl (bn_f (decide_eq_true c189))) (Ex.b1 0 rfl Try.isAgg24 rfl rfl) rfl ?_
                    refine TD.q rfl (.g rfl rfl (bn_f (decide_eq_true c189))) (Ex.ft ft_cursitortop_ok rfl) rfl ?_
                    refine TD.q rfl .u (Ex.pn rfl (bn_f (decide_eq_true c189)) rfl) rfl ?_
                    by_cases c190 : x164.fErr = 0
                    · replace h := ifT c190 h
                      refine TD.run ft_cursitortop_ok [28] rfl rfl ?_
                      refine TD.q rfl (.g rfl rfl (bn_f (decide_eq_true c190))) (Ex.ft ft_cursitortop_ok rfl) rfl ?_
                      refine TD.q rfl (.g rfl rfl (bn_f (decide_eq_true c190))) (Ex.b1 0 rfl Try.isAgg3 rfl rfl) rfl ?_
                      refine TD.q rfl (.g rfl rfl (bn_f (decide_eq_true c190))) (Ex.ft ft_cursitortop_ok rfl) rfl ?_
                      refine TD.q rfl (.g rfl rfl (bn_f (decide_eq_true c190))) (Ex.ft ft_cursitortop_ok rfl) rfl ?_
                      refine TD.q rfl (.g rfl rfl (bn_f (decide_eq_true c190))) (Ex.b1 0 rfl Try.isAgg3 rfl rfl) rfl ?_
                      refine TD.q rfl (.g rfl rfl (bn_f (decide_eq_true c190))) (Ex.ft ft_cursitortop_ok rfl) rfl ?_
                      refine TD.q rfl (.g rfl rfl (bn_f (decide_eq_true c190))) (Ex.ft ft_cursitortop_ok rfl) rfl ?_
                      refine TD.q rfl (.g rfl rfl (bn_f (decide_eq_true c190))) (Ex.bNe rfl rfl rfl rfl Try.runUnderlying4) rfl ?_
                      refine TD.q rfl .u (Ex.pn rfl (bn_f (decide_eq_true c190)) rfl) rfl ?_
                      by_cases c191 : ((decide (x164.fStop = 0)) == (decide (x164.fValid = (a2 % ((x149.length : Int) + 1))))) = true
                      · replace h := ifT c191 h
                        cases h
                        exact TD.nil (X.as (d := 110) (v' := .bool false) rfl (congrArg Value.bool (bn_f c191)) (X.jq [0, 0, 0, 0, 0, 0] ⟨rfl, rfl⟩ (by rfl) (by rfl)))
                      · replace h := ifF c191 h
                        replace c191 := eq_false_of_ne_true c191
                        cases h
                        exact TD.nil (X.as (d := 110) (v' := .bool true) rfl (congrArg Value.bool (bn_t c191)) (X.jq [0, 0, 0, 0, 0, 0] ⟨rfl, rfl⟩ (by rfl) (by rfl)))
                    · replace h := ifF c190 h
                      refine TD.run ft_cursitortop_ok [28] rfl rfl ?_
                      refine TD.no rfl (.gn rfl rfl (bn_t (decide_eq_false c190))) rfl ?_
                      refine TD.no rfl (.gn rfl rfl (bn_t (decide_eq_false c190))) rfl ?_
                      refine TD.no rfl (.gn rfl rfl (bn_t (decide_eq_false c190))) rfl ?_
                      refine TD.no rfl (.gn rfl rfl (bn_t (decide_eq_false c190))) rfl ?_
                      refine TD.no rfl (.gn rfl rfl (bn_t (decide_eq_false c190))) rfl ?_
                      refine TD.no rfl (.gn rfl rfl (bn_t (decide_eq_false c190))) rfl ?_
                      refine TD.no rfl (.gn rfl rfl (bn_t (decide_eq_false c190))) rfl ?_
                      refine TD.no rfl (.gn rfl rfl (bn_t (decide_eq_false c190))) rfl ?_
                      refine TD.q rfl .u (Ex.py rfl (bn_t (decide_eq_false c190)) rfl) rfl ?_
                      cases h
                      exact TD.nil (X.jq [0, 0, 0, 0, 0, 0] ⟨rfl, rfl⟩ (by rfl) (by rfl))
                  · replace h := ifF c189 h
                    refine TD.run ft_cursitortop_ok [23] rfl rfl ?_
                    refine TD.no rfl (.gn rfl rfl (bn_t (decide_eq_false c189))) rfl ?_
                    refine TD.no rfl (.gn rfl rfl (bn_t (decide_eq_false c189))) rfl ?_
                    refine TD.no rfl (.gn rfl rfl (bn_t (decide_eq_false c189))) rfl ?_
                    refine TD.q rfl .u (Ex.py rfl (bn_t (decide_eq_false c189)) rfl) rfl ?_
                    refine TD.run ft_cursitortop_ok [28] rfl rfl ?_
                    refine TD.no rfl (.gn rfl rfl rfl) rfl ?_
                    refine TD.no rfl (.gn rfl rfl rfl) rfl ?_
                    refine TD.no rfl (.gn rfl rfl rfl) rfl ?_
                    refine TD.no rfl (.gn rfl rfl rfl) rfl ?_
                    refine TD.no rfl (.gn rfl rfl rfl) rfl ?_
                    refine TD.no rfl (.gn rfl rfl rfl) rfl ?_
                    refine TD.no rfl (.gn rfl rfl rfl) rfl ?_
                    refine TD.no rfl (.gn rfl rfl rfl) rfl ?_
                    refine TD.q rfl .u (Ex.py rfl rfl rfl) rfl ?_
                    cases h
                    exact TD.nil (X.jq [0, 0, 0, 0, 0, 0] ⟨rfl, rfl⟩ (by rfl) (by rfl))
                · replace h := ifF c185 h
                  replace c185 := eq_false_of_ne_true c185
                  refine TD.run ft_cursitortop_ok [14] rfl rfl ?_
                  refine TD.no rfl (.gn rfl rfl (bn_t c185)) rfl ?_
                  refine TD.no rfl (.gn rfl rfl (bn_t c185)) rfl ?_
                  refine TD.no rfl (.gn rfl rfl (bn_t c185)) rfl ?_
                  refine TD.noe rfl (.gn rfl rfl (bn_t c185)) rfl [0, 0, 0, 0, 0, 0] rfl ?_
                  refine TD.no rfl (.gn rfl rfl (bn_t c185)) rfl ?_
                  refine TD.no rfl (.gn rfl rfl (bn_t c185)) rfl ?_
                  refine TD.no rfl (.gn rfl rfl (bn_t c185)) rfl ?_
                  refine TD.q rfl .u (Ex.py rfl (bn_t c185) rfl) rfl ?_
                  refine TD.run ft_cursitortop_ok [23] rfl rfl ?_
                  refine TD.no rfl (.gn rfl rfl rfl) rfl ?_
                  refine TD.no rfl (.gn rfl rfl rfl) rfl ?_
                  refine TD.no rfl (.gn rfl rfl rfl) rfl ?_
                  refine TD.q rfl .u (Ex.py rfl rfl rfl) rfl ?_
                  refine TD.run ft_cursitortop_ok [28] rfl rfl ?_
                  refine TD.no rfl (.gn rfl rfl rfl) rfl ?_
                  refine TD.no rfl (.gn rfl rfl rfl) rfl ?_
                  refine TD.no rfl (.gn rfl rfl rfl) rfl ?_
                  refine TD.no rfl (.gn rfl rfl rfl) rfl ?_
                  refine TD.no rfl (.gn rfl rfl rfl) rfl ?_
                  refine TD.no rfl (.gn rfl rfl rfl) rfl ?_
                  refine TD.no rfl (.gn rfl rfl rfl) rfl ?_
                  refine TD.no rfl (.gn rfl rfl rfl) rfl ?_
                  refine TD.q rfl .u (Ex.py rfl rfl rfl) rfl ?_
                  cases h
                  exact TD.nil (X.jq [0, 0, 0, 0, 0, 0] ⟨rfl, rfl⟩ (by rfl) (by rfl))
            · rintro _ _ ⟨rfl, rfl⟩
              clear h
              have h := hk179
              clear hk179
              try dsimp only at h
              by_cases c192 : y178 = true
              · replace h := ifT c192 h
                refine X.seq ?_
                refine T.yes rfl c192 ?_
                exact nomatch h
              · replace h := ifF c192 h
                replace c192 := eq_false_of_ne_true c192
                refine X.seq ?_
                refine T.no rfl c192 ?_
                refine T.skip (X.seq (T.seq (T.seq (T.region rfl ?_))))
                refine TL.run ft_cursitortop_ok [0] rfl rfl ?_
                refine TL.q rfl .u (Ex.lenS rfl Try.runUnderlying23) rfl ?_
                refine TL.run ft_cursitortop_ok [2] rfl rfl ?_
                refine TL.q rfl .u (Ex.lenS rfl Try.runUnderlying23) rfl ?_
                refine TL.run ft_cursitortop_ok [4] rfl rfl ?_
                by_cases c193 : (x161.length : Int) < (a0.length : Int)
                · replace h := ifT c193 h
                  refine TL.nil (X.seq ?_)
                  refine T.yes rfl (decide_eq_true c193) ?_
                  refine T.seq (T.region rfl ?_)
                  refine TL.run ft_cursitortop_ok [0, 1] rfl rfl ?_
                  refine TL.q rfl .u (Ex.lenS rfl Try.runUnderlying23) rfl ?_
                  obtain ⟨x194, hx195, h⟩ := Option.bind_eq_some_iff.1 h
                  obtain ⟨gz196, oz196, rfl, z196cs, z196cl, z196cc, z196nf, z196r⟩ := RX.elem (by decide) (RX.reads_left hX) hx195
                  obtain ⟨z196S, z196r, z196rr⟩ := z196r
                  obtain ⟨A197, c198, rfl, z196s0⟩ := z196r
                  have hX199 : (RX.of (sliceRd 7 Rec_rd) [.slice A197 x194.fRecords.length c198] x194.fRecords).reads w F := ⟨z196S, z196s0, z196rr⟩
                  refine TL.q rfl .u (Ex.ixS (k := x161.length) rfl rfl rfl Try.runUnderlying23 Try.sizeOf36 (List.getElem?_eq_some_iff.1 hx195).1) rfl ?_
                  refine TL.q rfl .u (Ex.oS (us := [.int .i64 x194.fBase, .int .i64 x194.fLeader, .bool x194.fAppend, .bool x194.fTxn, .bool x194.fControl, .int .i64 x194.fLast, .int .i64 x194.fFirst, .int .i64 x194.fMax, .int .i64 x194.fProducer, .int .i64 x194.fEpoch, .int .i64 x194.fSequence, .slice A197 x194.fRecords.length c198]) 0 rfl Try.isAgg36 Try.sizeOf36 z196nf z196cc rfl rfl rfl) rfl ?_
                  obtain ⟨⟨x200, x201⟩, hx202, h⟩ := Option.bind_eq_some_iff.1 h
                  try dsimp only at h
                  refine TL.ce rfl .u (.fn Try.call27 rfl) (f_batch_Encode_spec x194 _ _ _ hx202) (fun _ hs => (SrcE.old hs hX199)) rfl ?_
                  refine TL.run ft_cursitortop_ok [6, 7, 8, 9, 10] rfl rfl ?_
                  refine TL.nil (X.seq (T.seq (T.region rfl ?_)))
                  refine TL.run ft_cursitortop_ok [0] rfl rfl ?_
                  refine TL.q rfl .u (Ex.b1 0 rfl Try.isAgg3 rfl rfl) rfl ?_
                  refine TL.run ft_cursitortop_ok [2] rfl rfl ?_
                  refine TL.q rfl .u (Ex.lenB rfl Try.runUnderlying9) rfl ?_
                  replace h := guard_some h
                  obtain ⟨c203, h⟩ := h
                  refine TL.q rfl .u (Ex.add rfl rfl c203) rfl ?_
                  refine TL.run ft_cursitortop_ok [5, 6] rfl rfl ?_
                  by_cases c204 : (x164.fValid + (x200.length : Int)) ≤ (a2 % ((x149.length : Int) + 1))
                  · replace h := ifT c204 h
                    refine TL.nil (X.seq ?_)
                    refine T.yes rfl (decide_eq_true c204) ?_
                    exact nomatch h
                  · replace h := ifF c204 h
                    refine TL.nil (X.seq ?_)
                    refine T.no rfl (decide_eq_false c204) ?_
                    refine T.skip (X.seq (T.seq (T.region rfl ?_)))
                    refine TL.run ft_cursitortop_ok [0, 1] rfl rfl ?_
                    refine TL.q rfl .u (Ex.b1 0 rfl Try.isAgg3 rfl rfl) rfl ?_
                    replace h := guard_some h
                    obtain ⟨c205, h⟩ := h
                    replace c205 : 0 ≤ x164.fValid ∧ x164.fValid.toNat ≤ x149.length := c205
                    refine TL.q rfl .u (Ex.sSl (p := 0) (q := x164.fValid.toNat) (m := (x149.take x164.fValid.toNat)) rfl Try.runUnderlying9 .none (.some rfl ((Int.toNat_of_nonneg c205.1).symm)) (by first | omega | (dsimp only; omega)) (by simp)) rfl ?_
                    refine TL.lit (cells := #[.string (bsOf (x149.take x164.fValid.toNat))]) rfl .u sok_cursitortop_39_1 rfl (by rfl) rfl (fun b206 => ?_)
                    refine TL.rowOf (us := [.string (bsOf (x149.take x164.fValid.toNat))]) (xs := [(x149.take x164.fValid.toNat)]) (E := strE) (z := 1) rfl (Nat.le_of_ble_eq_true rfl) (fun _ => ⟨rfl, rfl, rfl⟩) ?_
                    obtain ⟨⟨x207, x210⟩, hx211, h⟩ := Option.bind_eq_some_iff.1 h
                    try dsimp only at h
                    refine TL.cge rfl .u (.fn Try.call9 rfl) (f_scan_Scan_spec [(x149.take x164.fValid.toNat)] _ _ _ hx211) (fun _ hs => (SrcE.res 0 hs rfl (fun w G h => own_reads (by decide) w G h))) rfl ?_
                    rintro _ _ _ ⟨A208, c209, rfl, rfl, rfl⟩
                    refine TL.sel [0, 0, 0, 0, 0, 0, 0, 0] rfl ?_
                    refine TL.run ft_cursitortop_ok [6, 7, 8] rfl rfl ?_
                    refine TL.alloc rfl .u Try.zeroValue26 rfl (fun b212 => ?_)
                    refine TL.run ft_cursitortop_ok [10] rfl rfl ?_
                    refine TL.st0 (cs' := #[.int .i64 x210.fValid, .int .i64 x210.fStop, .int .i64 x210.fErr]) rfl .u rfl rfl Try.sizeOf26 rfl rfl rfl rfl ?_
                    refine TL.nil (X.seq (T.seq ?_))
                    obtain ⟨y219, h, hk220⟩ := Option.bind_eq_some_iff.1 h
                    refine T.jq (fun e Rs => e = [(6, .bool y219)] ∧ Rs = [BlkR b212 26 #[.int .i64 x210.fValid, .int .i64 x210.fStop, .int .i64 x210.fErr], RdR (sliceRd 12 Bat_rd) [.slice A208 x207.length c209] x207, OwnR 9 1 strE (.slice (some ⟨b206, 0, none⟩) 1 1) [(x149.take x164.fValid.toNat)], BlkR b166 26 #[.int .i64 x164.fValid, .int .i64 x164.fStop, .int .i64 x164.fErr], RdR (sliceRd 12 Bat_rd) [.slice A162 x161.length c163] x161, RdR (sliceRd 1 strE) [.slice A158 x157.length c159] x157, BlkR b11 36 #[.int .i64 x5.fBase, .int .i64 x5.fLeader, .bool x5.fAppend, .bool x5.fTxn, .bool x5.fControl, .int .i64 x5.fLast, .int .i64 x5.fFirst, .int .i64 x5.fMax, .int .i64 x5.fProducer, .int .i64 x5.fEpoch, .int .i64 x5.fSequence, .slice A6 x5.fRecords.length c7], RdR (sliceRd 7 Rec_rd) [.slice A6 x5.fRecords.length c7] x5.fRecords, EmpR]) ?_ ?_
                    · clear hk220
                      refine T.region rfl ?_
                      obtain ⟨x221, hx222, h⟩ := Option.bind_eq_some_iff.1 h
                      refine TL.run ft_cursitortop_ok [0, 1] rfl rfl ?_
                      refine TL.ce rfl .u (.fn Try.call11 rfl) (f_r11_Rows_spec x207 _ _ x161 _ _ _ hx222) (fun _ hs => (RX.reads_and (SrcE.res 1 hs rfl (fun w G h => rd_reads w G h)) (SrcE.res 4 hs rfl (fun w G h => rd_reads w G h)))) rfl ?_
                      by_cases c223 : x221 = true
                      · replace h := ifT c223 h
                        refine TL.run ft_cursitortop_ok [3] rfl rfl ?_
                        refine TL.q rfl (.g rfl rfl c223) (Ex.bS (us := [.int .i64 x210.fValid, .int .i64 x210.fStop, .int .i64 x210.fErr]) 0 rfl Try.isAgg26 Try.sizeOf26 rfl rfl rfl) rfl ?_
                        refine TL.q rfl (.g rfl rfl c223) (Ex.ft ft_cursitortop_ok rfl) rfl ?_
                        refine TL.q rfl (.g rfl rfl c223) (Ex.b1 3 rfl Try.isAgg3 rfl rfl) rfl ?_
                        refine TL.q rfl (.g rfl rfl c223) (Ex.bld (cells := #[.int .i64 x164.fValid, .int .i64 0, .int .i64 0]) bok_cursitortop_26 rfl (by kernel_rfl)) rfl ?_
                        by_cases c224 : x210.fValid = x164.fValid
                        · replace h := ifT c224 h
                          by_cases c225 : x210.fStop = 0
                          · replace h := ifT c225 h
                            by_cases c226 : x210.fErr = 0
                            · replace h := ifT c226 h
                              refine TL.q rfl (.g rfl rfl c223) (Ex.aEq (us := [.int .i64 x210.fValid, .int .i64 x210.fStop, .int .i64 x210.fErr]) (vs := [.int .i64 x164.fValid, .int .i64 0, .int .i64 0]) flat_cursitortop_26 rfl Try.eqGuardType26 rfl rfl rfl rfl (eqL_t (eqV_i c224) (eqL_t (eqV_i c225) (eqL_t (eqV_i c226) rfl)))) rfl ?_
                              refine TL.q rfl .u (Ex.py rfl c223 rfl) rfl ?_
                              refine TL.run ft_cursitortop_ok [10] rfl rfl ?_
                              cases h
                              exact TL.nil (X.jq [0, 0, 0, 0, 0, 0, 0, 0, 0] ⟨rfl, rfl⟩ (by rfl) (by rfl))
                            · replace h := ifF c226 h
                              refine TL.q rfl (.g rfl rfl c223) (Ex.aEq (us := [.int .i64 x210.fValid, .int .i64 x210.fStop, .int .i64 x210.fErr]) (vs := [.int .i64 x164.fValid, .int .i64 0, .int .i64 0]) flat_cursitortop_26 rfl Try.eqGuardType26 rfl rfl rfl rfl (eqL_t (eqV_i c224) (eqL_t (eqV_i c225) (eqL_f (eqV_in c226))))) rfl ?_
                              refine TL.q rfl .u (Ex.py rfl c223 rfl) rfl ?_
                              refine TL.run ft_cursitortop_ok [10] rfl rfl ?_
                              cases h
                              exact TL.nil (X.jq [0, 0, 0, 0, 0, 0, 0, 0, 0] ⟨rfl, rfl⟩ (by rfl) (by rfl))
                          · replace h := ifF c225 h
                            refine TL.q rfl (.g rfl rfl c223) (Ex.aEq (us := [.int .i64 x210.fValid, .int .i64 x210.fStop, .int .i64 x210.fErr]) (vs := [.int .i64 x164.fValid, .int .i64 0, .int .i64 0]) flat_cursitortop_26 rfl Try.eqGuardType26 rfl rfl rfl rfl (eqL_t (eqV_i c224) (eqL_f (eqV_in c225)))) rfl ?_
                            refine TL.q rfl .u (Ex.py rfl c223 rfl) rfl ?_
                            refine TL.run ft_cursitortop_ok [10] rfl rfl ?_
                            cases h
                            exact TL.nil (X.jq [0, 0, 0, 0, 0, 0, 0, 0, 0] ⟨rfl, rfl⟩ (by rfl) (by rfl))
                        · replace h := ifF c224 h
                          refine TL.q rfl (.g rfl rfl c223) (Ex.aEq (us := [.int .i64 x210.fValid, .int .i64 x210.fStop, .int .i64 x210.fErr]) (vs := [.int .i64 x164.fValid, .int .i64 0, .int .i64 0]) flat_cursitortop_26 rfl Try.eqGuardType26 rfl rfl rfl rfl (eqL_f (eqV_in c224))) rfl ?_
                          refine TL.q rfl .u (Ex.py rfl c223 rfl) rfl ?_
                          refine TL.run ft_cursitortop_ok [10] rfl rfl ?_
                          cases h
                          exact TL.nil (X.jq [0, 0, 0, 0, 0, 0, 0, 0, 0] ⟨rfl, rfl⟩ (by rfl) (by rfl))
                      · replace h := ifF c223 h
                        replace c223 := eq_false_of_ne_true c223
                        refine TL.run ft_cursitortop_ok [3] rfl rfl ?_
                        refine TL.no rfl (.gn rfl rfl c223) rfl ?_
                        refine TL.no rfl (.gn rfl rfl c223) rfl ?_
                        refine TL.no rfl (.gn rfl rfl c223) rfl ?_
                        refine TL.no rfl (.gn rfl rfl c223) rfl ?_
                        refine TL.no rfl (.gn rfl rfl c223) rfl ?_
                        refine TL.q rfl .u (Ex.pn rfl c223 rfl) rfl ?_
                        refine TL.run ft_cursitortop_ok [10] rfl rfl ?_
                        cases h
                        exact TL.nil (X.jq [0, 0, 0, 0, 0, 0, 0, 0, 0] ⟨rfl, rfl⟩ (by rfl) (by rfl))
                    · rintro _ _ ⟨rfl, rfl⟩
                      clear h
                      have h := hk220
                      clear hk220
                      try dsimp only at h
                      obtain rfl := Option.some.inj h
                      exact X.seq (T.ret (X.done1 [8] Try.results7 (RV.tm rfl) ⟨rfl, rfl, rfl⟩ (by rfl) (.inl rfl)))
                · replace h := ifF c193 h
                  refine TL.nil (X.seq ?_)
                  refine T.no rfl (decide_eq_false c193) ?_
                  refine T.skip (X.seq (T.seq (T.region rfl ?_)))
                  refine TL.run ft_cursitortop_ok [0, 1] rfl rfl ?_
                  refine TL.q rfl .u (Ex.b1 0 rfl Try.isAgg3 rfl rfl) rfl ?_
                  replace h := guard_some h
                  obtain ⟨c227, h⟩ := h
                  replace c227 : 0 ≤ x164.fValid ∧ x164.fValid.toNat ≤ x149.length := c227
                  refine TL.q rfl .u (Ex.sSl (p := 0) (q := x164.fValid.toNat) (m := (x149.take x164.fValid.toNat)) rfl Try.runUnderlying9 .none (.some rfl ((Int.toNat_of_nonneg c227.1).symm)) (by first | omega | (dsimp only; omega)) (by simp)) rfl ?_
                  refine TL.lit (cells := #[.string (bsOf (x149.take x164.fValid.toNat))]) rfl .u sok_cursitortop_39_1 rfl (by rfl) rfl (fun b228 => ?_)
                  refine TL.rowOf (us := [.string (bsOf (x149.take x164.fValid.toNat))]) (xs := [(x149.take x164.fValid.toNat)]) (E := strE) (z := 1) rfl (Nat.le_of_ble_eq_true rfl) (fun _ => ⟨rfl, rfl, rfl⟩) ?_
                  obtain ⟨⟨x229, x232⟩, hx233, h⟩ := Option.bind_eq_some_iff.1 h
                  try dsimp only at h
                  refine TL.cge rfl .u (.fn Try.call9 rfl) (f_scan_Scan_spec [(x149.take x164.fValid.toNat)] _ _ _ hx233) (fun _ hs => (SrcE.res 0 hs rfl (fun w G h => own_reads (by decide) w G h))) rfl ?_
                  rintro _ _ _ ⟨A230, c231, rfl, rfl, rfl⟩
                  refine TL.sel [0, 0, 0, 0, 0, 0, 0, 0] rfl ?_
                  refine TL.run ft_cursitortop_ok [6, 7, 8] rfl rfl ?_
                  refine TL.alloc rfl .u Try.zeroValue26 rfl (fun b234 => ?_)
                  refine TL.run ft_cursitortop_ok [10] rfl rfl ?_
                  refine TL.st0 (cs' := #[.int .i64 x232.fValid, .int .i64 x232.fStop, .int .i64 x232.fErr]) rfl .u rfl rfl Try.sizeOf26 rfl rfl rfl rfl ?_
                  refine TL.nil (X.seq (T.seq ?_))
                  obtain ⟨y241, h, hk242⟩ := Option.bind_eq_some_iff.1 h
                  refine T.jq (fun e Rs => e = [(6, .bool y241)] ∧ Rs = [BlkR b234 26 #[.int .i64 x232.fValid, .int .i64 x232.fStop, .int .i64 x232.fErr], RdR (sliceRd 12 Bat_rd) [.slice A230 x229.length c231] x229, OwnR 9 1 strE (.slice (some ⟨b228, 0, none⟩) 1 1) [(x149.take x164.fValid.toNat)], BlkR b166 26 #[.int .i64 x164.fValid, .int .i64 x164.fStop, .int .i64 x164.fErr], RdR (sliceRd 12 Bat_rd) [.slice A162 x161.length c163] x161, RdR (sliceRd 1 strE) [.slice A158 x157.length c159] x157, BlkR b11 36 #[.int .i64 x5.fBase, .int .i64 x5.fLeader, .bool x5.fAppend, .bool x5.fTxn, .bool x5.fControl, .int .i64 x5.fLast, .int .i64 x5.fFirst, .int .i64 x5.fMax, .int .i64 x5.fProducer, .int .i64 x5.fEpoch, .int .i64 x5.fSequence, .slice A6 x5.fRecords.length c7], RdR (sliceRd 7 Rec_rd) [.slice A6 x5.fRecords.length c7] x5.fRecords, EmpR]) ?_ ?_
                  · clear hk242
                    refine T.region rfl ?_
                    obtain ⟨x243, hx244, h⟩ := Option.bind_eq_some_iff.1 h
                    refine TL.run ft_cursitortop_ok [0, 1] rfl rfl ?_
                    refine TL.ce rfl .u (.fn Try.call11 rfl) (f_r11_Rows_spec x229 _ _ x161 _ _ _ hx244) (fun _ hs => (RX.reads_and (SrcE.res 1 hs rfl (fun w G h => rd_reads w G h)) (SrcE.res 4 hs rfl (fun w G h => rd_reads w G h)))) rfl ?_
                    by_cases c245 : x243 = true
                    · replace h := ifT c245 h
                      refine TL.run ft_cursitortop_ok [3] rfl rfl ?_
                      refine TL.q rfl (.g rfl rfl c245) (Ex.bS (us := [.int .i64 x232.fValid, .int .i64 x232.fStop, .int .i64 x232.fErr]) 0 rfl Try.isAgg26 Try.sizeOf26 rfl rfl rfl) rfl ?_
                      refine TL.q rfl (.g rfl rfl c245) (Ex.ft ft_cursitortop_ok rfl) rfl ?_
                      refine TL.q rfl (.g rfl rfl c245) (Ex.b1 3 rfl Try.isAgg3 rfl rfl) rfl ?_
                      refine TL.q rfl (.g rfl rfl c245) (Ex.bld (cells := #[.int .i64 x164.fValid, .int .i64 0, .int .i64 0]) bok_cursitortop_26 rfl (by kernel_rfl)) rfl ?_
                      by_cases c246 : x232.fValid = x164.fValid
                      · replace h := ifT c246 h
                        by_cases c247 : x232.fStop = 0
                        · replace h := ifT c247 h
                          by_cases c248 : x232.fErr = 0
                          · replace h := ifT c248 h
                            refine TL.q rfl (.g rfl rfl c245) (Ex.aEq (us := [.int .i64 x232.fValid, .int .i64 x232.fStop, .int .i64 x232.fErr]) (vs := [.int .i64 x164.fValid, .int .i64 0, .int .i64 0]) flat_cursitortop_26 rfl Try.eqGuardType26 rfl rfl rfl rfl (eqL_t (eqV_i c246) (eqL_t (eqV_i c247) (eqL_t (eqV_i c248) rfl)))) rfl ?_
                            refine TL.q rfl .u (Ex.py rfl c245 rfl) rfl ?_
                            refine TL.run ft_cursitortop_ok [10] rfl rfl ?_
                            cases h
                            exact TL.nil (X.jq [0, 0, 0, 0, 0, 0, 0, 0, 0] ⟨rfl, rfl⟩ (by rfl) (by rfl))
                          · replace h := ifF c248 h
                            refine TL.q rfl (.g rfl rfl c245) (Ex.aEq (us := [.int .i64 x232.fValid, .int .i64 x232.fStop, .int .i64 x232.fErr]) (vs := [.int .i64 x164.fValid, .int .i64 0, .int .i64 0]) flat_cursitortop_26 rfl Try.eqGuardType26 rfl rfl rfl rfl (eqL_t (eqV_i c246) (eqL_t (eqV_i c247) (eqL_f (eqV_in c248))))) rfl ?_
                            refine TL.q rfl .u (Ex.py rfl c245 rfl) rfl ?_
                            refine TL.run ft_cursitortop_ok [10] rfl rfl ?_
                            cases h
                            exact TL.nil (X.jq [0, 0, 0, 0, 0, 0, 0, 0, 0] ⟨rfl, rfl⟩ (by rfl) (by rfl))
                        · replace h := ifF c247 h
                          refine TL.q rfl (.g rfl rfl c245) (Ex.aEq (us := [.int .i64 x232.fValid, .int .i64 x232.fStop, .int .i64 x232.fErr]) (vs := [.int .i64 x164.fValid, .int .i64 0, .int .i64 0]) flat_cursitortop_26 rfl Try.eqGuardType26 rfl rfl rfl rfl (eqL_t (eqV_i c246) (eqL_f (eqV_in c247)))) rfl ?_
                          refine TL.q rfl .u (Ex.py rfl c245 rfl) rfl ?_
                          refine TL.run ft_cursitortop_ok [10] rfl rfl ?_
                          cases h
                          exact TL.nil (X.jq [0, 0, 0, 0, 0, 0, 0, 0, 0] ⟨rfl, rfl⟩ (by rfl) (by rfl))
                      · replace h := ifF c246 h
                        refine TL.q rfl (.g rfl rfl c245) (Ex.aEq (us := [.int .i64 x232.fValid, .int .i64 x232.fStop, .int .i64 x232.fErr]) (vs := [.int .i64 x164.fValid, .int .i64 0, .int .i64 0]) flat_cursitortop_26 rfl Try.eqGuardType26 rfl rfl rfl rfl (eqL_f (eqV_in c246))) rfl ?_
                        refine TL.q rfl .u (Ex.py rfl c245 rfl) rfl ?_
                        refine TL.run ft_cursitortop_ok [10] rfl rfl ?_
                        cases h
                        exact TL.nil (X.jq [0, 0, 0, 0, 0, 0, 0, 0, 0] ⟨rfl, rfl⟩ (by rfl) (by rfl))
                    · replace h := ifF c245 h
                      replace c245 := eq_false_of_ne_true c245
                      refine TL.run ft_cursitortop_ok [3] rfl rfl ?_
                      refine TL.no rfl (.gn rfl rfl c245) rfl ?_
                      refine TL.no rfl (.gn rfl rfl c245) rfl ?_
                      refine TL.no rfl (.gn rfl rfl c245) rfl ?_
                      refine TL.no rfl (.gn rfl rfl c245) rfl ?_
                      refine TL.no rfl (.gn rfl rfl c245) rfl ?_
                      refine TL.q rfl .u (Ex.pn rfl c245 rfl) rfl ?_
                      refine TL.run ft_cursitortop_ok [10] rfl rfl ?_
                      cases h
                      exact TL.nil (X.jq [0, 0, 0, 0, 0, 0, 0, 0, 0] ⟨rfl, rfl⟩ (by rfl) (by rfl))
                  · rintro _ _ ⟨rfl, rfl⟩
                    clear h
                    have h := hk242
                    clear hk242
                    try dsimp only at h
                    obtain rfl := Option.some.inj h
                    exact X.seq (T.ret (X.done1 [8] Try.results7 (RV.tm rfl) ⟨rfl, rfl, rfl⟩ (by rfl) (.inl rfl)))
          · replace h := ifF c152 h
            refine TL.nil (X.seq ?_)
            refine T.yes rfl (bn_t (decide_eq_false c152)) ?_
            exact nomatch h
        | succ m24 =>
          have h := hl26
          clear hl26
          obtain ⟨x25, hxx25⟩ : ∃ x, a0[k20]? = some x := ⟨_, List.getElem?_eq_getElem (by omega)⟩
          rw [drop_cons hxx25, f_top_WholeTorn_l1] at h
          have hk27lt : (k20 : Int) < (a0.length : Int) := by omega
          refine T.seq (T.region rfl ?_)
          refine TL.run ft_cursitortop_ok [0] rfl rfl ?_
          refine TL.nil (X.seq (T.seq ?_))
          refine T.yes rfl (decide_eq_true hk27lt) ?_
          obtain ⟨gz28, oz28, rfl, z28cs, z28cl, z28cc, z28nf, z28r⟩ := RX.elem (by decide) (RX.reads_left hX) hxx25
          obtain ⟨z28S, z28r, z28rr⟩ := z28r
          obtain ⟨A29, c30, rfl, z28s0⟩ := z28r
          have hX31 : (RX.of (sliceRd 7 Rec_rd) [.slice A29 x25.fRecords.length c30] x25.fRecords).reads w F := ⟨z28S, z28s0, z28rr⟩
          refine T.skip (X.seq (T.seq (T.block (T.seq (T.region rfl ?_)))))
          refine TL.q rfl .u (Ex.ixS (k := k20) rfl rfl rfl Try.runUnderlying23 Try.sizeOf36 (List.getElem?_eq_some_iff.1 hxx25).1) rfl ?_
          refine TL.q rfl .u (Ex.oS (us := [.int .i64 x25.fBase, .int .i64 x25.fLeader, .bool x25.fAppend, .bool x25.fTxn, .bool x25.fControl, .int .i64 x25.fLast, .int .i64 x25.fFirst, .int .i64 x25.fMax, .int .i64 x25.fProducer, .int .i64 x25.fEpoch, .int .i64 x25.fSequence, .slice A29 x25.fRecords.length c30]) 0 rfl Try.isAgg36 Try.sizeOf36 z28nf z28cc rfl rfl rfl) rfl ?_
          refine TL.alloc rfl .u Try.zeroValue36 rfl (fun b32 => ?_)
          refine TL.st0 (cs' := #[.int .i64 x25.fBase, .int .i64 x25.fLeader, .bool x25.fAppend, .bool x25.fTxn, .bool x25.fControl, .int .i64 x25.fLast, .int .i64 x25.fFirst, .int .i64 x25.fMax, .int .i64 x25.fProducer, .int .i64 x25.fEpoch, .int .i64 x25.fSequence, .slice A29 x25.fRecords.length c30]) rfl .u rfl rfl Try.sizeOf36 rfl rfl rfl rfl ?_
          refine TL.nil (X.seq (T.seq ?_))
          obtain ⟨y38, h, hk39⟩ := Option.bind_eq_some_iff.1 h
          refine T.jq (fun e Rs => e = [(0, .slice (some ⟨gz28, oz28, none⟩) a0.length c2), (1, .slice A3 a1.length c4), (2, .int .u16 a2), (6, .bool y19), (36, .slice (some ⟨gz28, oz28, none⟩) a0.length c2), (37, .int .i64 (a0.length : Int)), (38, .int .i64 (k20 : Int)), (49, .bool y38)] ∧ Rs = [BlkR b32 36 #[.int .i64 x25.fBase, .int .i64 x25.fLeader, .bool x25.fAppend, .bool x25.fTxn, .bool x25.fControl, .int .i64 x25.fLast, .int .i64 x25.fFirst, .int .i64 x25.fMax, .int .i64 x25.fProducer, .int .i64 x25.fEpoch, .int .i64 x25.fSequence, .slice A29 x25.fRecords.length c30], BlkR b11 36 #[.int .i64 x5.fBase, .int .i64 x5.fLeader, .bool x5.fAppend, .bool x5.fTxn, .bool x5.fControl, .int .i64 x5.fLast, .int .i64 x5.fFirst, .int .i64 x5.fMax, .int .i64 x5.fProducer, .int .i64 x5.fEpoch, .int .i64 x5.fSequence, .slice A6 x5.fRecords.length c7], RdR (sliceRd 7 Rec_rd) [.slice A6 x5.fRecords.length c7] x5.fRecords, EmpR]) ?_ ?_
          · clear hk39
            refine T.region rfl ?_
            refine TL.q rfl .u (Ex.bS (us := [.int .i64 x25.fBase, .int .i64 x25.fLeader, .bool x25.fAppend, .bool x25.fTxn, .bool x25.fControl, .int .i64 x25.fLast, .int .i64 x25.fFirst, .int .i64 x25.fMax, .int .i64 x25.fProducer, .int .i64 x25.fEpoch, .int .i64 x25.fSequence, .slice A29 x25.fRecords.length c30]) 0 rfl Try.isAgg36 Try.sizeOf36 rfl rfl rfl) rfl ?_
            obtain ⟨x40, hx41, h⟩ := Option.bind_eq_some_iff.1 h
            refine TL.ce rfl .u (.fn Try.call21 rfl) (f_l11_Small_spec x25 _ _ _ hx41) (fun _ hs => (SrcE.old hs hX31)) rfl ?_
            by_cases c42 : x40 = 0
            · replace h := ifT c42 h
              refine TL.run ft_cursitortop_ok [2, 3] rfl rfl ?_
              refine TL.no rfl (.gn rfl rfl (decide_eq_true c42)) rfl ?_
              refine TL.no rfl (.gn rfl rfl (decide_eq_true c42)) rfl ?_
              refine TL.no rfl (.gn rfl rfl (decide_eq_true c42)) rfl ?_
              refine TL.q rfl .u (Ex.py rfl (decide_eq_true c42) rfl) rfl ?_
              cases h
              exact TL.nil (X.jq [0, 0, 0, 0] ⟨rfl, rfl⟩ (by rfl) (by rfl))
            · replace h := ifF c42 h
              refine TL.run ft_cursitortop_ok [2, 3] rfl rfl ?_
              refine TL.q rfl (.g rfl rfl (decide_eq_false c42)) (Ex.bS (us := [.int .i64 x25.fBase, .int .i64 x25.fLeader, .bool x25.fAppend, .bool x25.fTxn, .bool x25.fControl, .int .i64 x25.fLast, .int .i64 x25.fFirst, .int .i64 x25.fMax, .int .i64 x25.fProducer, .int .i64 x25.fEpoch, .int .i64 x25.fSequence, .slice A29 x25.fRecords.length c30]) 0 rfl Try.isAgg36 Try.sizeOf36 rfl rfl rfl) rfl ?_
              obtain ⟨x43, hx44, h⟩ := Option.bind_eq_some_iff.1 h
              refine TL.ce rfl (.g rfl rfl (decide_eq_false c42)) (.fn Try.call26 rfl) (f_batch_Check_spec x25 _ _ _ hx44) (fun _ hs => (SrcE.old hs hX31)) rfl ?_
              refine TL.q rfl (.g rfl rfl (decide_eq_false c42)) (Ex.ft ft_cursitortop_ok rfl) rfl ?_
              refine TL.q rfl .u (Ex.pn rfl (decide_eq_false c42) rfl) rfl ?_
              by_cases c45 : x43 = 0
              · replace h := ifT c45 h
                cases h
                exact TL.nil (X.as (d := 49) (v' := .bool false) rfl (congrArg Value.bool (bn_f (decide_eq_true c45))) (X.jq [0, 0, 0, 0] ⟨rfl, rfl⟩ (by rfl) (by rfl)))
              · replace h := ifF c45 h
                cases h
                exact TL.nil (X.as (d := 49) (v' := .bool true) rfl (congrArg Value.bool (bn_t (decide_eq_false c45))) (X.jq [0, 0, 0, 0] ⟨rfl, rfl⟩ (by rfl) (by rfl)))
          · rintro _ _ ⟨rfl, rfl⟩
            clear h
            have h := hk39
            clear hk39
            try dsimp only at h
            by_cases c46 : y38 = true
            · replace h := ifT c46 h
              refine X.seq ?_
              refine T.yes rfl c46 ?_
              refine T.seq (T.region rfl ?_)
              refine TL.run ft_cursitortop_ok [0] rfl rfl ?_
              obtain rfl := Option.some.inj h
              replace h := hO23
              clear hO23
              try dsimp only at h
              obtain rfl := Option.some.inj h
              exact TL.nil (X.seq (T.ret (X.rb (X.rs (X.rs (X.rb (X.rs (X.done1 [3] Try.results7 (RV.tm rfl) ⟨rfl, rfl, rfl⟩ (by rfl) (.inl rfl)))))))))
            · replace h := ifF c46 h
              replace c46 := eq_false_of_ne_true c46
              refine X.seq ?_
              refine T.no rfl c46 ?_
              refine T.skip (X.blk (X.seq (T.region rfl ?_)))
              refine TL.q rfl .u (Ex.add rfl rfl (by omega)) rfl ?_
              refine TL.run ft_cursitortop_ok [1] rfl rfl ?_
              exact TL.nil (X.back (m' := m24) [1, 1, 1] (by omega) ⟨y19, k20 + 1, by omega, rfl, rfl, h⟩ (by rfl) (by rfl))
  · replace h := ifF c12 h
    replace c12 := eq_false_of_ne_true c12
    refine TL.nil (X.seq ?_)
    refine T.yes rfl (bn_t c12) ?_
    exact nomatch h
end Go.Proofs.Ytahjmpipllajcaa.Sl
namespace Go.Proofs.Ytahjmpipllajcaa.Sl
open Go.RowKit
set_option linter.unusedVariables false
set_option linter.unusedSimpArgs false
theorem z_none : ∃ x y, f_top_none = some (x, y, true) := ⟨_, _, (by kernel_rfl : f_top_none = some (⟨0, 0, false, false, false, 0, 0, 0, -1, -1, -1, []⟩, (f_batch_Encode ⟨0, 0, false, false, false, 0, 0, 0, -1, -1, -1, []⟩).get!.1, true))⟩
end Go.Proofs.Ytahjmpipllajcaa.Sl
namespace Go.Proofs.Ytahjmpipllajcaa.Sl
open Go.RowKit
set_option linter.unusedVariables false
set_option linter.unusedSimpArgs false
def ptOf (b : Bat) : Int × Int := if chk b = 0 then (((encBt b).length : Int), (b.fRecords.length : Int)) else (0, 0)
def ptsOf : List Bat → Int × Int
  | [] => (0, 0)
  | b :: l => ((ptOf b).1 + (ptsOf l).1, (ptOf b).2 + (ptsOf l).2)
theorem point_eq {b : Bat} (h : smB b) : f_tally_Point b = some (fw (ptOf b).1, fw (ptOf b).2) := by
  unfold f_tally_Point ptOf
  rw [benc h, Option.bind_some]
  by_cases c : chk b = 0
  · rw [if_pos c, if_pos c]
    dsimp only
    rw [if_pos rfl]
    rfl
  · rw [if_neg c, if_neg c]
    dsimp only
    rw [if_neg c, fw_zero]
theorem pt_bd {b : Bat} (h : smB b) : (0 ≤ (ptOf b).1 ∧ (ptOf b).1 ≤ 1000000) ∧ (0 ≤ (ptOf b).2 ∧ (ptOf b).2 ≤ 1000000) := by
  unfold ptOf
  by_cases c : chk b = 0
  · have h1 := encBt_len (okB_of h c)
    have h2 := h.2.2
    have h3 := h.1.2.1
    rw [if_pos c]
    dsimp only
    omega
  · rw [if_neg c]
    decide
theorem total_l1 : ∀ (l : List Bat) (z : Nat × Nat) (p : Int × Int), (∀ b, b ∈ l → smB b) → isC z p → (0 ≤ p.1 ∧ p.1 + 1000000 * (l.length : Int) ≤ 1000000000) → (0 ≤ p.2 ∧ p.2 + 1000000 * (l.length : Int) ≤ 1000000000) → ∃ w, f_tally_Total_l1 l z = some w ∧ isC w (p.1 + (ptsOf l).1, p.2 + (ptsOf l).2)
  | [], z, p, _, h, _, _ => ⟨z, rfl, by rw [ptsOf]; simpa using h⟩
  | b :: l, z, p, hs, h, h1, h2 => by
    have hb := pt_bd (hs b (.head _))
    rw [List.length_cons] at h1 h2
    obtain ⟨v, v1, v2⟩ := cadd_isC h (isC_fw (ptOf b).1 (ptOf b).2) (sm_of (by omega) (by omega)) (sm_of (by dsimp only; omega) (by dsimp only; omega)) (sm_of (by dsimp only; omega) (by dsimp only; omega))
    obtain ⟨w, w1, w2⟩ := total_l1 l v _ (fun x hx => hs x (.tail _ hx)) v2 (by dsimp only; omega) (by dsimp only; omega)
    refine ⟨w, ?_, ?_⟩
    · rw [f_tally_Total_l1, point_eq (hs b (.head _)), Option.bind_some, v1, Option.bind_some, w1]
    · rw [ptsOf]
      dsimp only at w2 ⊢
      rw [← Int.add_assoc, ← Int.add_assoc]
      exact w2
theorem total_eq {l : List Bat} (hs : ∀ b, b ∈ l → smB b) (hn : l.length ≤ 900) : ∃ w, f_tally_Total l = some w ∧ isC w (ptsOf l) := by
  obtain ⟨w, w1, w2⟩ := total_l1 l (0, 0) (0, 0) hs isC_zero (by dsimp only; omega) (by dsimp only; omega)
  refine ⟨w, ?_, ?_⟩
  · unfold f_tally_Total
    rw [w1, Option.bind_some]
  · dsimp only at w2
    rw [Int.zero_add, Int.zero_add] at w2
    exact w2
theorem torn_l1 (y : Bool) : ∀ l : List Bat, (∀ b, b ∈ l → wf_Bat b) → f_top_WholeTorn_l1 l y = some (.ret true) ∨ (f_top_WholeTorn_l1 l y = some (.go y) ∧ ∀ b, b ∈ l → smB b ∧ chk b = 0 ∧ (encBt b).length ≤ 13000)
  | [], _ => .inr ⟨rfl, fun x h => nomatch h⟩
  | x :: l, h => by
    rw [f_top_WholeTorn_l1]
    rcases small11 x (h x (.head _)) with g | ⟨g, g1, g2⟩
    · rw [g]
      exact .inl rfl
    obtain ⟨hb, hl⟩ := smB_small (h x (.head _)) g1 g2
    rw [g, Option.bind_some, if_neg (by decide), (chk_eq hb.1).1, Option.bind_some]
    by_cases c : chk x = 0
    rotate_left
    · rw [if_neg c]
      exact .inl rfl
    have hlen := encBt_len (okB_of hb c)
    rw [if_pos c, Option.bind_some, if_neg (by decide)]
    rcases torn_l1 y l (fun z hz => h z (.tail _ hz)) with q | ⟨q, q2⟩
    · exact .inl q
    · refine .inr ⟨q, fun z hz => ?_⟩
      rcases List.mem_cons.1 hz with rfl | hz
      · exact ⟨hb, c, by omega⟩
      · exact q2 z hz
theorem pts_encs : ∀ l : List Bat, (∀ b, b ∈ l → chk b = 0) → (ptsOf l).1 = ((encs encBt l).length : Int)
  | [], _ => rfl
  | b :: l, h => by
    have h1 := pts_encs l (fun x hx => h x (.tail _ hx))
    rw [ptsOf, encs, List.length_append, ptOf, if_pos (h b (.head _))]
    dsimp only
    omega
theorem whole_in : ∀ (l : List Bat) (k : Nat), k ≤ (encs encBt l).length → ∃ j, j ≤ l.length ∧ (encs encBt (l.take j)).length ≤ k ∧ (j < l.length → k < (encs encBt (l.take (j + 1))).length)
  | [], k, h => ⟨0, Nat.le_refl _, Nat.zero_le _, fun h => absurd h (by decide)⟩
  | b :: l, k, h => by
    by_cases c : (encBt b).length ≤ k
    · rw [encs, List.length_append] at h
      obtain ⟨j, j1, j2, j3⟩ := whole_in l (k - (encBt b).length) (by omega)
      refine ⟨j + 1, by rw [List.length_cons]; omega, ?_, fun hj => ?_⟩
      · rw [List.take_succ_cons, encs, List.length_append]; omega
      · rw [List.length_cons] at hj
        have := j3 (by omega)
        rw [List.take_succ_cons, encs, List.length_append]
        omega
    · refine ⟨0, Nat.zero_le _, Nat.zero_le _, fun _ => ?_⟩
      rw [List.take_succ_cons, List.take_zero, encs, encs, List.append_nil]
      omega
theorem encs_take_le : ∀ (l : List Bat) (j : Nat), ∃ t, encs encBt l = encs encBt (l.take j) ++ t := fun l j => ⟨encs encBt (l.drop j), by rw [← encs_app, List.take_append_drop]⟩
theorem pure_WholeTorn (a0 : List Bat) (a1 : List Int) (a2 : Int) (w0 : wL wf_Bat a0) (w1 : wL wU8 a1) (w2 : 0 ≤ a2 ∧ a2 ≤ 65535) : f_top_WholeTorn a0 a1 a2 = some true := by
  unfold f_top_WholeTorn
  obtain ⟨x, y, hn⟩ := z_none
  rw [hn, Option.bind_some]
  dsimp only
  rw [if_pos rfl]
  by_cases l1 : (a0.length : Int) > 6
  · rw [if_pos l1, Option.bind_some, if_pos rfl]
  by_cases l2 : (a1.length : Int) > 200
  · rw [if_neg l1, if_pos l2, Option.bind_some, if_pos rfl]
  rw [if_neg l1, if_neg l2, Option.bind_some, if_neg (by decide)]
  rcases torn_l1 false a0 w0.2 with g | ⟨g, g2⟩
  · rw [g]
    rfl
  have ho : ∀ b, b ∈ a0 → okB b := fun b hb => okB_of (g2 b hb).1 (g2 b hb).2.1
  have hlen : (encs encBt a0).length ≤ 13000 * a0.length := encs_le encBt 13000 a0 (fun b hb => (g2 b hb).2.2)
  rw [g, Option.bind_some]
  dsimp only
  rw [all_eq (fun b hb => (g2 b hb).1) (by omega), if_pos (firstB_of (fun b hb => (g2 b hb).2.1)), Option.bind_some]
  dsimp only
  obtain ⟨k, hk⟩ : ∃ k : Nat, a2 % (((encs encBt a0).length : Int) + 1) = (k : Int) := ⟨(a2 % (((encs encBt a0).length : Int) + 1)).toNat, (Int.toNat_of_nonneg (Int.emod_nonneg _ (by omega))).symm⟩
  have hk2 : (k : Int) < ((encs encBt a0).length : Int) + 1 := by rw [← hk]; exact Int.emod_lt_of_pos _ (by omega)
  obtain ⟨j, j2, j3, j4⟩ := whole_in a0 k (by omega)
  obtain ⟨r, s1, s2⟩ := v_scn_at ho j2 j3 j4 (by omega)
  have hlt : ((encs encBt a0).take k).length = k := by rw [List.length_take]; omega
  obtain ⟨cs, q1, q2, q3⟩ := cut_eq (s := (encs encBt a0).take k) (ns := a1) (fun n hn => w1.2 n hn) (by omega) (by omega)
  have ht : ∀ b, b ∈ a0.take j → smB b ∧ okB b ∧ chk b = 0 := fun b hb => ⟨(g2 b (List.mem_of_mem_take hb)).1, ho b (List.mem_of_mem_take hb), (g2 b (List.mem_of_mem_take hb)).2.1⟩
  have hjl : (a0.take j).length = j := by rw [List.length_take]; omega
  have hself : f_r11_Rows (a0.take j) (a0.take j) = some true := z_rows_self (by omega) (fun b hb => (ht b hb).1.1)
  have hv : (resOf ((encs encBt a0).take k)).fValid = ((encs encBt (a0.take j)).length : Int) := by
    unfold resOf
    rw [s1]
  have he : (resOf ((encs encBt a0).take k)).fErr = 0 := by
    unfold resOf
    rw [s1]
  have hst : (resOf ((encs encBt a0).take k)).fStop = if r = [] then 0 else 1 := by
    unfold resOf
    rw [s1]
    show (if (0 : Int) ≠ 0 then (2 : Int) else if r = [] then 0 else 1) = _
    rw [if_neg (show ¬ ((0 : Int) ≠ 0) from fun h => h rfl)]
  obtain ⟨w, t1, t2⟩ := total_eq (l := a0.take j) (fun b hb => (ht b hb).1) (by omega)
  have hp := pts_encs (a0.take j) (fun b hb => (ht b hb).2.2)
  have hW : isW w.1 ((encs encBt (a0.take j)).length : Int) := by rw [← hp]; exact t2.1
  have hint := toInt_isW hW (by omega)
  have hde : ((decide ((resOf ((encs encBt a0).take k)).fStop = 0)) == (decide ((resOf ((encs encBt a0).take k)).fValid = (k : Int)))) = true := by
    rw [beq_iff_eq, decide_eq_decide, hst, hv]
    by_cases c : r = []
    · rw [if_pos c]
      exact ⟨fun _ => by have := s2.1 c; omega, fun _ => rfl⟩
    · rw [if_neg c]
      exact ⟨fun h => absurd h (by decide), fun h => absurd (s2.2 (by omega)) c⟩
  have hok : ∀ b, b ∈ a0.take j → okB b := fun b hb => (ht b hb).2.1
  obtain ⟨tl, htl⟩ := encs_take_le a0 j
  have etk : (encs encBt a0).take (encs encBt (a0.take j)).length = encs encBt (a0.take j) := by
    conv => lhs; arg 2; rw [htl]
    rw [List.take_left]
  rw [hk, if_pos rfl, if_pos (by omega), if_pos (by omega), if_pos (by omega), if_pos (by omega), Int.toNat_natCast, q1, Option.bind_some, scan_eq (by rw [q2]; omega), q2, s1, Option.bind_some]
  dsimp only
  rw [hjl, if_neg (by omega), if_pos (by omega), hself, Option.bind_some, if_pos rfl, t1, Option.bind_some, hint, Option.bind_some, if_pos hv.symm, if_pos he, if_pos hde, Option.bind_some, if_neg (by decide), hv, Int.toNat_natCast, etk, scan_one (by omega), scn_self hok, resOf_self hok]
  by_cases c : j < a0.length
  · have hg : a0[j]? = some a0[j] := List.getElem?_eq_getElem c
    have hm : a0[j] ∈ a0 := List.getElem_mem c
    have h5 := j4 c
    have h6 : a0.take (j + 1) = a0.take j ++ [a0[j]] := by rw [List.take_add_one, hg]; rfl
    rw [h6, encs_app, encs, encs, List.append_nil, List.length_append] at h5
    have h7 := (g2 _ hm).2.2
    rw [if_pos (by omega), hg, Option.bind_some, benc (g2 _ hm).1, if_pos (g2 _ hm).2.1, Option.bind_some]
    dsimp only
    rw [if_pos (by omega), if_neg (by omega), if_pos (by omega), Option.bind_some]
    dsimp only
    rw [hself, Option.bind_some, if_pos rfl, if_pos rfl, if_pos rfl, if_pos rfl, Option.bind_some]
  · rw [if_neg (by omega), if_pos (by omega), Option.bind_some]
    dsimp only
    rw [hself, Option.bind_some, if_pos rfl, if_pos rfl, if_pos rfl, if_pos rfl, Option.bind_some]
end Go.Proofs.Ytahjmpipllajcaa.Sl
namespace Go.Proofs.Ytahjmpipllajcaa.Sl
open Go.RowKit Go.Deep Go.ChangeShapes
set_option linter.unusedVariables false
theorem op_Bl {H : Type} {enc : TypeId × Value → H} : OpensW enc Try.prog 80 (andRd Bl_rd wf_Bl) :=
  opensW_weak (fun x => ⟨x.1, x.2.1⟩) (opensW_struct Try.underlying80 (by kernel_rfl) (opensWFs_cons 1 (by kernel_rfl) (by kernel_rfl) (op_bool Try.underlying4) (opensWFs_cons 1 (by kernel_rfl) (by kernel_rfl) (op_str Try.underlying9) (opensWFs_nil _)))) (by
    rintro w S cs ⟨x0, x1, _⟩ ⟨_, _, rfl, ⟨p0, q0⟩, _, _, rfl, ⟨p1, q1⟩, rfl⟩
    obtain rfl := p0
    obtain rfl := p1
    exact ⟨rfl, q0, q1⟩)
theorem op_Hd {H : Type} {enc : TypeId × Value → H} : OpensW enc Try.prog 85 (andRd Hd_rd wf_Hd) :=
  opensW_weak (fun x => ⟨x.1, x.2.1⟩) (opensW_struct Try.underlying85 (by kernel_rfl) (opensWFs_cons 1 (by kernel_rfl) (by kernel_rfl) (op_str Try.underlying9) (opensWFs_cons 2 (by kernel_rfl) (by kernel_rfl) op_Bl (opensWFs_nil _)))) (by
    rintro w S cs ⟨x0, x1, _⟩ ⟨_, _, rfl, ⟨p0, q0⟩, _, _, rfl, ⟨p1, q1⟩, rfl⟩
    obtain rfl := p0
    obtain rfl := p1
    exact ⟨rfl, q0, q1⟩)
theorem op_Rec {H : Type} {enc : TypeId × Value → H} : OpensW enc Try.prog 83 (andRd Rec_rd wf_Rec) :=
  opensW_weak (fun x => ⟨x.1, x.2.1, x.2.2.1, x.2.2.2.1, x.2.2.2.2.1⟩) (opensW_struct Try.underlying83 (by kernel_rfl) (opensWFs_cons 1 (by kernel_rfl) (by kernel_rfl) (op_i64 Try.underlying3) (opensWFs_cons 1 (by kernel_rfl) (by kernel_rfl) (op_i64 Try.underlying3) (opensWFs_cons 2 (by kernel_rfl) (by kernel_rfl) op_Bl (opensWFs_cons 2 (by kernel_rfl) (by kernel_rfl) op_Bl (opensWFs_cons 1 (by kernel_rfl) (by kernel_rfl) (op_slice 3 40 Try.underlying81 (by kernel_rfl) (by kernel_rfl) (by decide) (by decide) op_Hd) (opensWFs_nil _))))))) (by
    rintro w S cs ⟨x0, x1, x2, x3, x4, _⟩ ⟨_, _, rfl, ⟨p0, q0⟩, _, _, rfl, ⟨p1, q1⟩, _, _, rfl, ⟨p2, q2⟩, _, _, rfl, ⟨p3, q3⟩, _, _, rfl, ⟨p4, q4⟩, rfl⟩
    obtain rfl := p0
    obtain rfl := p1
    obtain rfl := p2
    obtain rfl := p3
    obtain ⟨A4, c4, rfl⟩ := slice_cells p4
    exact ⟨⟨A4, c4, rfl, p4⟩, q0, q1, q2, q3, q4⟩)
theorem op_Bat {H : Type} {enc : TypeId × Value → H} : OpensW enc Try.prog 36 (andRd Bat_rd wf_Bat) :=
  opensW_weak (fun x => ⟨x.1, x.2.1, x.2.2.1, x.2.2.2.1, x.2.2.2.2.1, x.2.2.2.2.2.1, x.2.2.2.2.2.2.1, x.2.2.2.2.2.2.2.1, x.2.2.2.2.2.2.2.2.1, x.2.2.2.2.2.2.2.2.2.1, x.2.2.2.2.2.2.2.2.2.2.1, x.2.2.2.2.2.2.2.2.2.2.2.1⟩) (opensW_struct Try.underlying36 (by kernel_rfl) (opensWFs_cons 1 (by kernel_rfl) (by kernel_rfl) (op_i64 Try.underlying3) (opensWFs_cons 1 (by kernel_rfl) (by kernel_rfl) (op_i64 Try.underlying3) (opensWFs_cons 1 (by kernel_rfl) (by kernel_rfl) (op_bool Try.underlying4) (opensWFs_cons 1 (by kernel_rfl) (by kernel_rfl) (op_bool Try.underlying4) (opensWFs_cons 1 (by kernel_rfl) (by kernel_rfl) (op_bool Try.underlying4) (opensWFs_cons 1 (by kernel_rfl) (by kernel_rfl) (op_i64 Try.underlying3) (opensWFs_cons 1 (by kernel_rfl) (by kernel_rfl) (op_i64 Try.underlying3) (opensWFs_cons 1 (by kernel_rfl) (by kernel_rfl) (op_i64 Try.underlying3) (opensWFs_cons 1 (by kernel_rfl) (by kernel_rfl) (op_i64 Try.underlying3) (opensWFs_cons 1 (by kernel_rfl) (by kernel_rfl) (op_i64 Try.underlying3) (opensWFs_cons 1 (by kernel_rfl) (by kernel_rfl) (op_i64 Try.underlying3) (opensWFs_cons 1 (by kernel_rfl) (by kernel_rfl) (op_slice 7 88 Try.underlying34 (by kernel_rfl) (by kernel_rfl) (by decide) (by decide) op_Rec) (opensWFs_nil _)))))))))))))) (by
    rintro w S cs ⟨x0, x1, x2, x3, x4, x5, x6, x7, x8, x9, x10, x11, _⟩ ⟨_, _, rfl, ⟨p0, q0⟩, _, _, rfl, ⟨p1, q1⟩, _, _, rfl, ⟨p2, q2⟩, _, _, rfl, ⟨p3, q3⟩, _, _, rfl, ⟨p4, q4⟩, _, _, rfl, ⟨p5, q5⟩, _, _, rfl, ⟨p6, q6⟩, _, _, rfl, ⟨p7, q7⟩, _, _, rfl, ⟨p8, q8⟩, _, _, rfl, ⟨p9, q9⟩, _, _, rfl, ⟨p10, q10⟩, _, _, rfl, ⟨p11, q11⟩, rfl⟩
    obtain rfl := p0
    obtain rfl := p1
    obtain rfl := p2
    obtain rfl := p3
    obtain rfl := p4
    obtain rfl := p5
    obtain rfl := p6
    obtain rfl := p7
    obtain rfl := p8
    obtain rfl := p9
    obtain rfl := p10
    obtain ⟨A11, c11, rfl⟩ := slice_cells p11
    exact ⟨⟨A11, c11, rfl, p11⟩, q0, q1, q2, q3, q4, q5, q6, q7, q8, q9, q10, q11⟩)
end Go.Proofs.Ytahjmpipllajcaa.Sl
namespace Go.Proofs.Ytahjmpipllajcaa.wholeTorn
open Go.ChangeShapes Go.WideShapes Go.ChangeAt Go.RowKit
open Go.ChangeMaps (open_string shut_string)
set_option linter.unusedVariables false
theorem own : ownKnob Try.prog.godebug = none := by kernel_rfl
theorem laidOut : laidOutB Try.prog = true := by kernel_rfl
set_option maxRecDepth 100000 in
set_option maxHeartbeats 1000000 in
theorem lifted (os : Os) (started : os.Started) (H : Type) (enc : TypeId × Value → H) :
    ReturnsInHanded {} Try.checked os 7 .any (Rows.wholeTornSpec.pre6 enc Try.prog Try.f7 Rows.wholeTornRow.domain false) (Rows.wholeTornSpec.post enc Try.prog Try.f7 false true false false) := by
  refine returnsInHanded_of_change_sized (C := Try.checked) own started (by kernel_rfl) Try.func7
    (ChangeSpec.witness6 (enc := enc) (C := Try.checked) false ⟨#[], #[.slice none 0 0, .slice none 0 0, .int .u16 0], []⟩ 8 (by kernel_rfl) (by kernel_rfl) (by kernel_rfl) (by kernel_rfl)) ?_
  intro W base args ds gs before hval0 hW hcnd hsz0 _
  have hsz : (DataW.weightsEach Try.prog (Try.f7.params.toList ++ Rows.wholeTornSpec.plain.varTypes Try.prog) (ds ++ gs)).all (· ≤ reachBytes) = true := hsz0
  have hval : ∀ (j : Nat) t v, Try.f7.params[j]? = some t → args[j]? = some v → Value.okWide Try.prog W .any base t v := hval0
  have hW' := hW
  obtain ⟨p, q, hA0, hV, rfl, hfz, hnd⟩ := hW
  have hA : DataW.TrodAll enc Try.prog W 0 (fun _ => true) true Try.f7.params.toList args.toList ds p := hA0
  rw [Try.params7] at hA hval hsz
  obtain ⟨v0, vs0, d0, ds0, p0, q0, hargs, rfl, rfl, h0, r0⟩ := trodAll_cons hA
  obtain ⟨v1, vs1, d1, ds1, p1, q1, rfl, rfl, rfl, h1, r1⟩ := trodAll_cons r0
  obtain ⟨v2, vs2, d2, ds2, p2, q2, rfl, rfl, rfl, h2, r2⟩ := trodAll_cons r1
  obtain ⟨rfl, rfl, rfl⟩ := trodAll_nil r2
  obtain rfl : args = #[v0, v1, v2] := by cases args; simp_all
  obtain ⟨rfl, rfl⟩ := trodVars_none hV
  have k0 := h0
  have lt0 : ∀ x ∈ p0, x.block < W.heap.size := by obtain ⟨m, hm⟩ := k0; exact DataW.trod_lt m _ _ _ hm
  obtain ⟨a0, r_0, w0⟩ := Sl.opens_arg1 Try.underlying23 (hval 0 23 v0 rfl rfl) (Sl.op_slice 12 96 Try.underlying23 (by kernel_rfl) (by kernel_rfl) (by decide) (by decide) Sl.op_Bat) h0 (fun x hx => of_decide_eq_true (List.all_eq_true.1 hsz x (Sl.weights_in 0 rfl rfl hx)))
  obtain ⟨A0, c0, e0⟩ := Sl.slice_cells r_0
  injection e0 with e0
  subst e0
  have k1 := h1
  have lt1 : ∀ x ∈ p1, x.block < W.heap.size := by obtain ⟨m, hm⟩ := k1; exact DataW.trod_lt m _ _ _ hm
  obtain ⟨a1, r_1, w1⟩ := Sl.opens_arg1 Try.underlying33 (hval 1 33 v1 rfl rfl) (Sl.op_slice 1 1 Try.underlying33 (by kernel_rfl) (by kernel_rfl) (by decide) (by decide) (Sl.op_u8 Try.underlying5)) h1 (fun x hx => of_decide_eq_true (List.all_eq_true.1 hsz x (Sl.weights_in 1 rfl rfl hx)))
  obtain ⟨A1, c1, e1⟩ := Sl.slice_cells r_1
  injection e1 with e1
  subst e1
  obtain ⟨a2, rfl, rfl, rfl, u2⟩ := open_int Try.underlying61 (hval 2 61 v2 rfl rfl) h2
  have w2 := Go.bounds_u16 u2
  clear hA0 hval0 hsz0 hsz
  refine (Sl.f_top_WholeTorn_spec a0 A0 c0 a1 A1 c1 a2 true (Sl.pure_WholeTorn a0 a1 a2 w0 w1 w2) (fun _ => False) W (fun _ h => h) (Sl.RX.reads_and (Sl.RX.reads_all r_0) (Sl.RX.reads_all r_1))).mono fun e W' hP => ?_
  obtain ⟨v, A', Ns, rfl, ⟨rfl, rfl, rfl⟩, hst⟩ := hP
  have bel := Sl.St.below hst
  exact ⟨_, rfl, _, _, _, [], _, [], hW', trodAll_mk1 (shut_bool Try.underlying4 _), (trodAll_cons_mk (Below.trod laidOut (by kernel_rfl) (of_decide_eq_true (by kernel_rfl)) k0 bel lt0) (trodAll_cons_mk (Below.trod laidOut (by kernel_rfl) (of_decide_eq_true (by kernel_rfl)) k1 bel lt1) (trodAll_cons_mk (shut_int Try.underlying61 u2) trodAll_mk0))), rfl, bel.frame _, fun h => by cases h⟩
theorem over : Rows.wholeTornRow.holds Try.pinned (OpenSpec.ofChange Rows.wholeTornSpec) :=
  OpenClaim.holds_of_wide 7 Try.f7 rfl rfl rfl rfl rfl rfl rfl ⟨rfl, rfl, rfl, rfl, rfl⟩ rfl rfl rfl rfl rfl (by kernel_rfl) Try.func7 (by kernel_rfl)
    (of_decide_eq_true (by kernel_rfl)) (by unfold Func.isWrapper; first | (rw [if_pos (by decide +kernel)]; kernel_rfl) | (rw [if_neg (by decide +kernel)]; exact ⟨rfl, rfl⟩))
    (fun os started H enc _ => lifted os started H enc)
theorem proved : Rows.WholeTornSaid := over
end Go.Proofs.Ytahjmpipllajcaa.wholeTorn
namespace Go.Proofs.Ytahjmpipllajcaa
theorem wholeTorn_holds : Rows.WholeTornSaid := wholeTorn.proved
end Go.Proofs.Ytahjmpipllajcaa
