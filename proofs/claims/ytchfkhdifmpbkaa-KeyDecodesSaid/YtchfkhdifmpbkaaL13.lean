/- the statements of layer 13. -/
import Derived.Test.YtchfkhdifmpbkaaKey
namespace Go.Proofs.Ytchfkhdifmpbkaa.Sl
open Go.RowKit
set_option linter.unusedVariables false
set_option linter.unusedSimpArgs false

/-- Which name bytes are the key of, as the document says. -/
def kref (l : List UInt8) : List UInt8 × Int :=
  if (l.length : Int) < 2 then ([], 1) else if l.take 2 ≠ [0, 0] then ([], 7) else if (l.length : Int) < 4 then ([], 1)
  else if beInt ((l.drop 2).take 2) ≤ 0 then ([], 4) else if (l.length : Int) - 4 < beInt ((l.drop 2).take 2) then ([], 1) else if beInt ((l.drop 2).take 2) < (l.length : Int) - 4 then ([], 2) else (l.drop 4, 0)
theorem beInt_zero2 (a b : UInt8) : beInt [a, b] = 0 ↔ [a, b] = ([0, 0] : List UInt8) := by
  have ha := a.toNat_lt
  have hb := b.toNat_lt
  have e : beInt [a, b] = sgn a * 256 + b.toNat := rfl
  rw [e]
  constructor
  · intro h
    unfold sgn at h
    have h1 : a.toNat = 0 ∧ b.toNat = 0 := by split at h <;> omega
    have h2 : a = 0 := UInt8.toNat_inj.1 h1.1
    have h3 : b = 0 := UInt8.toNat_inj.1 h1.2
    rw [h2, h3]
  · intro h
    injection h with h1 h2
    injection h2 with h2
    subst h1 h2
    rfl
theorem kdB_err (id : List UInt8) {s : I} (h : s.err ≠ 0) : kdB (id, s) = s := by
  unfold kdB
  simp only
  split
  · rw [ifail_err h, iclose_err h]
  · rw [iclose_err h]
theorem kdec_err (l : List UInt8) (s : I) (h : kdA l = s) (he : s.err ≠ 0) : kdec l = ([], s.err) := by
  unfold kdec
  rw [h, btext_err he, kdB_err _ he, if_pos he]
theorem kdec_ref (l : List UInt8) : kdec l = kref l := by
  unfold kref
  by_cases h2 : (l.length : Int) < 2
  · rw [if_pos h2]
    have h : kdA l = ⟨l, 0, 1⟩ := by
      unfold kdA
      rw [iint_short l 0 2 (by omega) (by omega) h2]
      rfl
    rw [kdec_err l _ h (by simp)]
  · rw [if_neg h2]
    have hi : iint ⟨l, 0, 0⟩ 2 = (beInt (l.take 2), ⟨l.drop 2, 0 + 2, 0⟩) := iint_ok l 0 2 (by omega) (by omega) (by omega)
    obtain ⟨x, y, r, rfl⟩ : ∃ x y r, l = x :: y :: r := by
      match l, h2 with
      | [], h => simp at h
      | [_], h => simp at h
      | x :: y :: r, _ => exact ⟨x, y, r, rfl⟩
    simp only [List.take_succ_cons, List.take_zero, List.drop_succ_cons, List.drop_zero] at hi ⊢
    by_cases hz : beInt [x, y] = 0
    · rw [if_neg (by rw [(beInt_zero2 x y).1 hz]; simp)]
      have h : kdA (x :: y :: r) = ⟨r, 2, 0⟩ := by
        unfold kdA
        rw [hi]
        simp [hz]
      by_cases h4 : ((x :: y :: r).length : Int) < 4
      · rw [if_pos h4]
        have hb : btext ⟨r, 2, 0⟩ = ([], ⟨r, 2, 1⟩) := by
          have hs := iint_short r 2 2 (by omega) (by omega) (by simp at h4; omega)
          unfold btext bfixed
          rw [hs, bread_err (by simp)]
          rfl
        unfold kdec
        rw [h, hb, kdB_err _ (by simp)]
        rfl
      · rw [if_neg h4]
        have hs := iint_ok r 2 2 (by omega) (by omega) (by simp at h4; omega)
        obtain ⟨u, v, t, rfl⟩ : ∃ u v t, r = u :: v :: t := by
          match r, h4 with
          | [], h => simp at h
          | [_], h => simp at h
          | u :: v :: t, _ => exact ⟨u, v, t, rfl⟩
        simp only [List.take_succ_cons, List.take_zero, List.drop_succ_cons, List.drop_zero] at hs ⊢
        have hlen : ((x :: y :: u :: v :: t).length : Int) - 4 = t.length := by simp; omega
        rw [hlen]
        generalize beInt [u, v] = n at *
        have hb : btext ⟨u :: v :: t, 2, 0⟩ = bmust (bread ⟨t, 2 + 2, 0⟩ n) := by
          unfold btext bfixed
          rw [show ((2 : Nat) : Int) = 2 from rfl] at hs
          rw [hs]
        unfold kdec
        rw [h, hb]
        by_cases hn : n ≤ 0
        · rw [if_pos hn]
          by_cases hm : n = -1
          · subst hm
            rw [show bmust (bread ⟨t, 2 + 2, 0⟩ (-1)) = ([], ⟨t, 4, 4⟩) from rfl, kdB_err _ (by simp)]
            rfl
          · by_cases h0 : n = 0
            · subst h0
              have hr : bread ⟨t, 2 + 2, 0⟩ 0 = (⟨false, []⟩, ⟨t, 4, 0⟩) := by
                unfold bread
                have h6 := itake_ok t (2 + 2) 0 (by omega)
                rw [show ((0 : Nat) : Int) = 0 from rfl] at h6
                rw [if_neg (by simp), if_neg (by omega), h6]
                rfl
              have hB : kdB ([], ⟨t, 4, 0⟩) = ⟨t, 4, 4⟩ := by
                unfold kdB
                simp only [if_true]
                exact iclose_err (st := ⟨t, 4, 4⟩) (by simp)
              rw [hr, show bmust (⟨false, []⟩, ⟨t, 4, 0⟩) = ([], ⟨t, 4, 0⟩) from rfl, hB]
              rfl
            · have hr : bread ⟨t, 2 + 2, 0⟩ n = (⟨false, []⟩, ⟨t, 4, 4⟩) := by
                unfold bread
                rw [if_neg (by simp), if_neg hm, itake_neg t _ n (by omega)]
              rw [hr, show bmust (⟨false, []⟩, ⟨t, 4, 4⟩) = ([], ⟨t, 4, 4⟩) from rfl, kdB_err _ (by simp)]
              rfl
        · rw [if_neg hn]
          by_cases hg : (t.length : Int) < n
          · rw [if_pos hg]
            have hr : bread ⟨t, 2 + 2, 0⟩ n = (⟨false, []⟩, ⟨t, 4, 1⟩) := by
              unfold bread
              rw [if_neg (by simp), if_neg (by omega), itake_short t _ n hg]
            rw [hr, show bmust (⟨false, []⟩, ⟨t, 4, 1⟩) = ([], ⟨t, 4, 1⟩) from rfl, kdB_err _ (by simp)]
            rfl
          · rw [if_neg hg]
            obtain ⟨k, rfl⟩ : ∃ k : Nat, n = k := ⟨n.toNat, by omega⟩
            have hr : bread ⟨t, 2 + 2, 0⟩ k = (⟨false, t.take k⟩, ⟨t.drop k, 4 + k, 0⟩) := by
              unfold bread
              rw [if_neg (by simp), if_neg (by omega), itake_ok t _ k (by omega)]
            have hne : t.take k ≠ [] := by
              intro he
              have := congrArg List.length he
              rw [List.length_take, List.length_nil] at this
              omega
            rw [hr]
            have hm : bmust (⟨false, t.take k⟩, ⟨t.drop k, 4 + k, 0⟩) = (t.take k, ⟨t.drop k, 4 + k, 0⟩) := rfl
            rw [hm]
            have hB : kdB (t.take k, ⟨t.drop k, 4 + k, 0⟩) = iclose ⟨t.drop k, 4 + k, 0⟩ := by
              unfold kdB
              simp only
              rw [if_neg hne]
            rw [hB]
            by_cases hd : (k : Int) < t.length
            · rw [if_pos hd]
              have hdn : t.drop k ≠ [] := by
                intro he
                have := congrArg List.length he
                rw [List.length_drop, List.length_nil] at this
                omega
              have hc : iclose ⟨t.drop k, 4 + k, 0⟩ = ⟨t.drop k, 4 + k, 2⟩ := by
                unfold iclose
                rw [if_neg hdn]
                rfl
              rw [hc]
              rfl
            · rw [if_neg hd]
              have e1 : k = t.length := by omega
              subst e1
              rw [List.drop_length, List.take_length, iclose_nil]
              rfl
    · rw [if_pos (by intro h; exact hz ((beInt_zero2 x y).2 h))]
      have h : kdA (x :: y :: r) = ⟨r, 2, 7⟩ := by
        unfold kdA
        rw [hi]
        simp only
        rw [if_neg hz]
        rfl
      rw [kdec_err _ _ h (by simp)]
theorem kenc_ok (l : List UInt8) (h : kright l = true) : kenc l = ([0, 0] ++ be l.length 2 ++ l, 0) := by
  have hl : l.length ≤ 32767 := by simp [kright] at h; omega
  have h1 : oint ([], 0) 0 2 = ([0, 0], 0) := by decide
  have h2 : fits l.length 2 = true := (fits_iff _ 2 (by omega) (by omega)).2 (by
    rw [show (2 ^ (8 * 2 - 1) : Int) = 32768 by decide]; omega)
  have h3 : bputText ([0, 0], 0) l = ([0, 0] ++ be l.length 2 ++ l, 0) := by
    unfold bputText bputFixed
    have h4 : oint ([0, 0], 0) (blen ⟨false, l⟩) 2 = ([0, 0] ++ be l.length 2, 0) := by
      unfold oint blen
      simp only [Bool.false_eq_true, if_false]
      rw [if_pos h2]
      rfl
    rw [h4]
    rfl
  unfold kenc
  rw [if_pos h, h1, h3]
  rfl
/-! the walks -/
theorem bsOf_x02 (l : List UInt8) : (bsOf l).extract 0 2 = bsOf (l.take 2) := by rw [str_extract, bsOf_list]; rfl
theorem bsOf_x24 (l : List UInt8) : (bsOf l).extract 2 4 = bsOf ((l.drop 2).take 2) := by rw [str_extract, bsOf_list]
theorem bsOf_x4 (l : List UInt8) : (bsOf l).extract 4 l.length = bsOf (l.drop 4) := by
  rw [str_extract, bsOf_list, List.take_of_length_le (by rw [List.length_drop]; omega)]
theorem bsOf_append (a b : List UInt8) : bsOf a ++ bsOf b = bsOf (a ++ b) := by
  apply ByteArray.ext
  simp [bsOf]
theorem lit00 (b : List UInt8) : (⟨#[0, 0]⟩ : ByteArray) ++ bsOf b = bsOf ([0, 0] ++ b) := bsOf_append [0, 0] b
attribute [local go_sem] bsOf_toList bsOf_size bsOf_x02 bsOf_x24 bsOf_x4 bsOf_append lit00
theorem be_snoc (q : Int) (c : UInt8) (k : Nat) : be (q * 256 + c.toNat) (k + 1) = be q k ++ [c] := by
  have hc := c.toNat_lt
  unfold be
  rw [List.range_succ, List.map_append]
  congr 1
  · apply List.map_congr_left
    intro i hi
    have hi := List.mem_range.1 hi
    have e : k + 1 - 1 - i = (k - 1 - i) + 1 := by omega
    have e2 : (q * 256 + (c.toNat : Int)) / 256 = q := by omega
    rw [e, show 8 * (k - 1 - i + 1) = 8 + 8 * (k - 1 - i) by omega, Int.pow_add, ← Int.ediv_ediv_of_nonneg (by decide), show (2 ^ 8 : Int) = 256 from rfl, e2]
  · simp only [List.map_cons, List.map_nil, Nat.add_sub_cancel, Nat.sub_self, Nat.mul_zero, Int.pow_zero, Int.ediv_one]
    congr 1
    apply UInt8.toNat_inj.1
    simp [UInt8.toNat_ofNat']
    omega
theorem be_fold (cs : List UInt8) : ∀ (q : Int) (k : Nat), be (cs.foldl (fun n d => n * 256 + (d.toNat : Int)) q) (k + cs.length) = be q k ++ cs := by
  induction cs with
  | nil => intro q k; simp
  | cons c cs ih =>
    intro q k
    have h := ih (q * 256 + c.toNat) (k + 1)
    rw [be_snoc] at h
    rw [List.foldl_cons, List.length_cons, show k + (cs.length + 1) = k + 1 + cs.length by omega, h]
    simp
theorem be_sgn (c : UInt8) : be (sgn c) 1 = [c] := by
  have hc := c.toNat_lt
  unfold be
  simp only [List.range_one, List.map_cons, List.map_nil, Nat.sub_self, Nat.mul_zero, Int.pow_zero, Int.ediv_one]
  congr 1
  apply UInt8.toNat_inj.1
  unfold sgn
  simp [UInt8.toNat_ofNat']
  split <;> omega
theorem be_beInt (l : List UInt8) (h : l ≠ []) : be (beInt l) l.length = l := by
  cases l with
  | nil => exact absurd rfl h
  | cons c cs =>
    have h := be_fold cs (sgn c) 1
    rw [be_sgn] at h
    rw [List.length_cons, Nat.add_comm]
    exact h
set_option maxRecDepth 100000 in
theorem speaks13 : Spec0 Try.prog 38 #[] (fun v N => v = .bool true ∧ N = []) := by
  intro w
  have HS := Lib.hid (St.nil_ w)
  have E1 := Lib.hid (show kenc [97] = ([0, 0, 0, 1, 97], 0) by rw [kenc_ok _ (by decide)]; decide)
  have E2 := Lib.hid (show kdec [0, 0, 0, 1, 97] = ([97], 0) by rw [kdec_ref]; decide)
  have E3 := Lib.hid (show kdec [0, 0, 0, 0] = ([], 4) by rw [kdec_ref]; decide)
  go_enter Try.func38, Try.ntmps38
  go_wp2_with fail
  refine (St.call0 (HS).out (KEncode_spec [97])).mono ?_
  rintro e w1 ⟨v, N, rfl, ⟨rfl, rfl⟩, H1⟩
  try simp only [List.cons_append, List.nil_append, List.set_cons_zero, List.set_cons_succ, bsOf_list] at H1
  try rw [E1.out] at H1
  try rw [E1.out]
  have HS1 := Lib.hid H1
  clear H1
  go_wp2_with fail
  refine (St.call0 (HS1).out (KDecode_spec [0, 0, 0, 1, 97] (by simp))).mono ?_
  rintro e w1 ⟨v, N, rfl, ⟨rfl, rfl⟩, H1⟩
  try simp only [List.cons_append, List.nil_append, List.set_cons_zero, List.set_cons_succ, bsOf_list] at H1
  try rw [E2.out] at H1
  try rw [E2.out]
  have HS2 := Lib.hid H1
  clear H1
  go_wp2_with fail
  refine (St.call0 (HS2).out (KDecode_spec [0, 0, 0, 0] (by simp))).mono ?_
  rintro e w1 ⟨v, N, rfl, ⟨rfl, rfl⟩, H1⟩
  try simp only [List.cons_append, List.nil_append, List.set_cons_zero, List.set_cons_succ, bsOf_list] at H1
  try rw [E3.out] at H1
  try rw [E3.out]
  have HS3 := Lib.hid H1
  clear H1
  go_wp2_with fail
  go_ret
  exact ⟨_, _, rfl, ⟨rfl, rfl⟩, HS3.out⟩
set_option maxRecDepth 100000 in
set_option maxHeartbeats 1000000 in
theorem LRead_any (l : List UInt8) (hl : l.length ≤ 40000) (w : World) : Calls Try.prog 43 #[.string (bsOf l)] w fun e w' => e = .returned (strErr (kref l)) ∧ w = w' := by
  obtain ⟨k, hk⟩ : ∃ k, k = kref l := ⟨_, rfl⟩
  rw [← hk]
  unfold kref at hk
  have hl2 := List.length_take (l := l.drop 2) (i := 2)
  have hn0 := fun (h : ¬ (l.length : Int) < 4) => beInt_range7 ((l.drop 2).take 2) (by intro he; rw [he, List.length_drop] at hl2; simp at hl2; omega) (by rw [hl2]; omega)
  by_cases h1 : (l.length : Int) < 2
  · rw [if_pos h1] at hk
    clear hn0
    have HK := Lib.hid hk
    clear hk
    go_enter Try.func43, Try.ntmps43
    go_wp2_with fail
    go_ret2
    exact ⟨congrArg Ending.returned (by rw [HK.out]; rfl), rfl⟩
  · rw [if_neg h1] at hk
    have h1b : 2 ≤ l.length := by omega
    by_cases h2 : l.take 2 ≠ [0, 0]
    · rw [if_pos h2] at hk
      have h2b : (l.take 2 == [0, 0]) = false := beq_eq_false_iff_ne.2 h2
      clear hn0 h2
      have HK := Lib.hid hk
      clear hk
      go_enter Try.func43, Try.ntmps43
      go_wp2_with fail
      go_ret2
      exact ⟨congrArg Ending.returned (by rw [HK.out]; rfl), rfl⟩
    · rw [if_neg h2] at hk
      have h2b : (l.take 2 == [0, 0]) = true := by simpa using h2
      clear h2
      by_cases h3 : (l.length : Int) < 4
      · rw [if_pos h3] at hk
        clear hn0
        have HK := Lib.hid hk
        clear hk
        go_enter Try.func43, Try.ntmps43
        go_wp2_with fail
        go_ret2
        exact ⟨congrArg Ending.returned (by rw [HK.out]; rfl), rfl⟩
      · rw [if_neg h3] at hk
        have hn := hn0 h3
        clear hn0
        have hna := hn.1
        have hnb := hn.2
        clear hn
        generalize hq : beInt ((l.drop 2).take 2) = n at *
        have HQ := Lib.hid hq
        clear hq
        have h3b : 4 ≤ l.length := by omega
        by_cases h4 : n ≤ 0
        · rw [if_pos h4] at hk
          have HK := Lib.hid hk
          clear hk
          by_cases h4b : n < 0
          · go_enter Try.func43, Try.ntmps43
            go_wp2_with fail
            refine (RInt_any ((l.drop 2).take 2) (by rw [List.length_take]; omega) _).mono ?_
            rintro e w1 ⟨rfl, rfl⟩
            rw [HQ.out]
            go_wp2_with fail
            go_ret2
            exact ⟨congrArg Ending.returned (by rw [HK.out]; rfl), rfl⟩
          · have h4c : n = 0 := by omega
            have HN := Lib.hid h4c
            have h4d : (n == 0) = true := by simp [h4c]
            clear h4 h4c
            go_enter Try.func43, Try.ntmps43
            go_wp2_with fail
            refine (RInt_any ((l.drop 2).take 2) (by rw [List.length_take]; omega) _).mono ?_
            rintro e w1 ⟨rfl, rfl⟩
            rw [HQ.out]
            go_wp2_with fail
            go_ret2
            exact ⟨congrArg Ending.returned (by rw [HK.out]; rfl), rfl⟩
        · rw [if_neg h4] at hk
          have h4d : (n == 0) = false := by rw [beq_eq_false_iff_ne]; omega
          by_cases h5 : (l.length : Int) - 4 < n
          · rw [if_pos h5] at hk
            have HK := Lib.hid hk
            clear hk
            go_enter Try.func43, Try.ntmps43
            go_wp2_with fail
            refine (RInt_any ((l.drop 2).take 2) (by rw [List.length_take]; omega) _).mono ?_
            rintro e w1 ⟨rfl, rfl⟩
            rw [HQ.out]
            go_wp2_with fail
            go_ret2
            exact ⟨congrArg Ending.returned (by rw [HK.out]; rfl), rfl⟩
          · rw [if_neg h5] at hk
            by_cases h6 : n < (l.length : Int) - 4
            · rw [if_pos h6] at hk
              have HK := Lib.hid hk
              clear hk
              go_enter Try.func43, Try.ntmps43
              go_wp2_with fail
              refine (RInt_any ((l.drop 2).take 2) (by rw [List.length_take]; omega) _).mono ?_
              rintro e w1 ⟨rfl, rfl⟩
              rw [HQ.out]
              go_wp2_with fail
              go_ret2
              exact ⟨congrArg Ending.returned (by rw [HK.out]; rfl), rfl⟩
            · rw [if_neg h6] at hk
              have HK := Lib.hid hk
              clear hk
              go_enter Try.func43, Try.ntmps43
              go_wp2_with fail
              refine (RInt_any ((l.drop 2).take 2) (by rw [List.length_take]; omega) _).mono ?_
              rintro e w1 ⟨rfl, rfl⟩
              rw [HQ.out]
              go_wp2_with fail
              go_ret2
              exact ⟨congrArg Ending.returned (by rw [HK.out]; rfl), rfl⟩
set_option maxRecDepth 100000 in
set_option maxHeartbeats 1000000 in
theorem KeyEncodes_walk (s : ByteArray) (hs : s.size ≤ 140737488351232) (w : World) :
    Calls Try.prog 7 #[.string s] w fun e w' => e = .returned (.bool true) ∧ Below w.heap.size w w' := by
  obtain ⟨l, rfl⟩ := bsOf_of s
  have HS := Lib.hid (St.nil_ w)
  rw [bsOf_size] at hs
  by_cases h4 : 40000 < (l.length : Int)
  · go_enter Try.func7, Try.ntmps7
    go_wp2_with fail
    refine (St.call0 (HS).out speaks13).mono ?_
    rintro e w1 ⟨v, N, rfl, ⟨rfl, rfl⟩, H1⟩
    try simp only [List.cons_append, List.nil_append, List.set_cons_zero, List.set_cons_succ, bsOf_list] at H1
    have HS1 := Lib.hid H1
    clear H1
    go_wp2_with fail
    go_ret
    exact ⟨rfl, HS1.out.below⟩
  have hl4 : l.length ≤ 40000 := by omega
  by_cases hr : kright l = true
  · have hk := kenc_ok l hr
    have hl1 : 1 ≤ l.length ∧ l.length ≤ 32767 := by cases l <;> simp [kright] at hr ⊢; omega
    have hd : kdec ([0, 0] ++ be l.length 2 ++ l) = (l, 0) := by
      rw [kdec_ref]
      have hb := beInt_be l.length 2 (by omega) (by omega) ((fits_iff _ 2 (by omega) (by omega)).2 (by rw [show (2 ^ (8 * 2 - 1) : Int) = 32768 by decide]; omega))
      have hbl := be_length l.length 2
      generalize be (l.length : Int) 2 = b2 at *
      obtain ⟨u, v, rfl⟩ : ∃ u v, b2 = [u, v] := by
        match b2, hbl with
        | [u, v], _ => exact ⟨u, v, rfl⟩
      unfold kref
      simp only [List.cons_append, List.nil_append, List.take_succ_cons, List.take_zero, List.drop_succ_cons, List.drop_zero, hb, List.length_cons]
      rw [if_neg (by omega), if_neg (by simp), if_neg (by omega), if_neg (by omega), if_neg (by omega), if_neg (by omega)]
    have HR := Lib.hid hr
    have HK := Lib.hid hk
    have HD := Lib.hid hd
    have hbl := be_length l.length 2
    have hsum : [0, 0].length + (be l.length 2).length ≤ 9223372036854775807 := by rw [hbl]; simp
    have hsum2 : ([0, 0] ++ be l.length 2).length + l.length ≤ 9223372036854775807 := by rw [List.length_append, hbl]; simp; omega
    have HT := Lib.hid (show ([0, 0] ++ be l.length 2 ++ l).length ≤ 140737488355328 by rw [List.length_append, List.length_append, hbl]; simp; omega)
    have he0 : (l.isEmpty) = false := by cases l <;> simp at hl1 ⊢
    have hl1a := hl1.1
    have hl1b := hl1.2
    clear hr hk hd hl1
    go_enter Try.func7, Try.ntmps7
    go_wp2_with fail
    refine (St.call0 (HS).out speaks13).mono ?_
    rintro e w1 ⟨v, N, rfl, ⟨rfl, rfl⟩, H1⟩
    try simp only [List.cons_append, List.nil_append, List.set_cons_zero, List.set_cons_succ, bsOf_list] at H1
    have HS1 := Lib.hid H1
    clear H1
    go_wp2_with fail
    refine (St.call0 (HS1).out (KEncode_spec l)).mono ?_
    rintro e w1 ⟨v, N, rfl, ⟨rfl, rfl⟩, H1⟩
    try simp only [List.cons_append, List.nil_append, List.set_cons_zero, List.set_cons_succ, bsOf_list] at H1
    try rw [HK.out] at H1
    try rw [HK.out]
    have HS2 := Lib.hid H1
    clear H1
    go_wp2_with fail
    refine (St.call0 (HS2).out (KDecode_spec ([0, 0] ++ be l.length 2 ++ l) HT.out)).mono ?_
    rintro e w1 ⟨v, N, rfl, ⟨rfl, rfl⟩, H1⟩
    try simp only [List.cons_append, List.nil_append, List.set_cons_zero, List.set_cons_succ, bsOf_list] at H1
    try rw [HD.out] at H1
    try rw [HD.out]
    have HS3 := Lib.hid H1
    clear H1
    go_wp2_with fail
    refine (St.call0 (HS3).out (RBytes_any (l.length : Int) 2 (by omega) (by omega) (by omega))).mono ?_
    rintro e w1 ⟨v, N, rfl, ⟨rfl, rfl⟩, H1⟩
    try simp only [List.cons_append, List.nil_append, List.set_cons_zero, List.set_cons_succ, bsOf_list] at H1
    have HS4 := Lib.hid H1
    clear H1
    go_wp2_with fail
    refine ((KRight_any l _)).mono ?_
    rintro e w1 ⟨rfl, rfl⟩
    rw [HR.out]
    go_wp2_with fail
    go_ret
    exact ⟨rfl, HS4.out.below⟩
  · have hk : kenc l = ([], 4) := by simp [kenc, hr]
    have HK := Lib.hid hk
    have HR := Lib.hid (show kright l = false by simpa using hr)
    have hl1 : l.length < 1 ∨ 32767 < l.length := by cases l <;> simp [kright] at hr ⊢; omega
    clear hk hr
    rcases hl1 with hl1 | hl1
    all_goals
      go_enter Try.func7, Try.ntmps7
      go_wp2_with fail
      refine (St.call0 (HS).out speaks13).mono ?_
      rintro e w1 ⟨v, N, rfl, ⟨rfl, rfl⟩, H1⟩
      try simp only [List.cons_append, List.nil_append, List.set_cons_zero, List.set_cons_succ, bsOf_list] at H1
      have HS1 := Lib.hid H1
      clear H1
      go_wp2_with fail
      refine (St.call0 (HS1).out (KEncode_spec l)).mono ?_
      rintro e w1 ⟨v, N, rfl, ⟨rfl, rfl⟩, H1⟩
      try simp only [List.cons_append, List.nil_append, List.set_cons_zero, List.set_cons_succ, bsOf_list] at H1
      try rw [HK.out] at H1
      try rw [HK.out]
      have HS2 := Lib.hid H1
      clear H1
      go_wp2_with fail
      refine ((KRight_any l _)).mono ?_
      rintro e w1 ⟨rfl, rfl⟩
      rw [HR.out]
      go_wp2_with fail
      go_ret
      exact ⟨rfl, HS2.out.below⟩
theorem kref_back (l : List UInt8) (hl : l.length ≤ 40000) (h : (kref l).2 = 0) : kenc (kref l).1 = (l, 0) := by
  unfold kref at h ⊢
  split at h
  · simp at h
  · split at h
    · simp at h
    · split at h
      · simp at h
      · split at h
        · simp at h
        · split at h
          · simp at h
          · split at h
            · simp at h
            · rename_i h1 h2 h3 h4 h5 h6
              rw [if_neg h1, if_neg h2, if_neg h3, if_neg h4, if_neg h5, if_neg h6]
              simp only
              obtain ⟨u, v, t, rfl⟩ : ∃ u v t, l = 0 :: 0 :: u :: v :: t := by
                match l, h3 with
                | [], h => simp at h
                | [_], h => simp at h
                | [_, _], h => simp at h
                | [_, _, _], h => simp at h
                | a :: b :: u :: v :: t, _ =>
                  simp only [List.take_succ_cons, List.take_zero, Decidable.not_not, ne_eq] at h2
                  injection h2 with h7 h8
                  injection h8 with h8
                  subst h7 h8
                  exact ⟨u, v, t, rfl⟩
              simp only [List.take_succ_cons, List.take_zero, List.drop_succ_cons, List.drop_zero, List.length_cons] at h4 h5 h6 ⊢
              have hn : beInt [u, v] = t.length := by omega
              have hr := beInt_range [u, v] (by simp)
              rw [show [u, v].length = 2 from rfl, show (2 ^ (8 * 2 - 1) : Int) = 32768 by decide] at hr
              have ht : t.length ≤ 32767 ∧ 1 ≤ t.length := by omega
              rw [kenc_ok t (by cases t <;> simp [kright] at ht ⊢; omega)]
              have hb := be_beInt [u, v] (by simp)
              rw [hn] at hb
              rw [show be (t.length : Int) 2 = [u, v] from hb]
              rfl
set_option maxRecDepth 100000 in
set_option maxHeartbeats 1000000 in
theorem KeyDecodes_walk (s : ByteArray) (hs : s.size ≤ 140737488351232) (w : World) :
    Calls Try.prog 8 #[.string s] w fun e w' => e = .returned (.bool true) ∧ Below w.heap.size w w' := by
  obtain ⟨l, rfl⟩ := bsOf_of s
  have HS := Lib.hid (St.nil_ w)
  rw [bsOf_size] at hs
  by_cases h4 : 40000 < (l.length : Int)
  · go_enter Try.func8, Try.ntmps8
    go_wp2_with fail
    refine (St.call0 (HS).out speaks13).mono ?_
    rintro e w1 ⟨v, N, rfl, ⟨rfl, rfl⟩, H1⟩
    try simp only [List.cons_append, List.nil_append, List.set_cons_zero, List.set_cons_succ, bsOf_list] at H1
    have HS1 := Lib.hid H1
    clear H1
    go_wp2_with fail
    go_ret
    exact ⟨rfl, HS1.out.below⟩
  have hl4 : l.length ≤ 40000 := by omega
  have hk := kref_back l hl4
  have hd := kdec_ref l
  have hr := LRead_any l hl4
  generalize kref l = k at *
  obtain ⟨id, e⟩ := k
  have HR := Lib.hid hr
  have HD := Lib.hid hd
  have hn1 : (id == id) = true := by simp
  have hn2 : (e == e) = true := by simp
  have hn3 : (e != e) = false := by simp
  have hn4 : (l == l) = true := by simp
  clear hr hd
  by_cases he : e = 0
  · subst he
    have HK := Lib.hid (hk rfl)
    clear hk
    go_enter Try.func8, Try.ntmps8
    go_wp2_with fail
    refine (St.call0 (HS).out speaks13).mono ?_
    rintro e w1 ⟨v, N, rfl, ⟨rfl, rfl⟩, H1⟩
    try simp only [List.cons_append, List.nil_append, List.set_cons_zero, List.set_cons_succ, bsOf_list] at H1
    have HS1 := Lib.hid H1
    clear H1
    go_wp2_with fail
    refine (St.call0 (HS1).out (KDecode_spec l (by omega))).mono ?_
    rintro e w1 ⟨v, N, rfl, ⟨rfl, rfl⟩, H1⟩
    try simp only [List.cons_append, List.nil_append, List.set_cons_zero, List.set_cons_succ, bsOf_list] at H1
    try rw [HD.out] at H1
    try rw [HD.out]
    have HS2 := Lib.hid H1
    clear H1
    go_wp2_with fail
    refine ((HR.out _)).mono ?_
    rintro e w1 ⟨rfl, rfl⟩
    go_wp2_with fail
    refine (St.call0 (HS2).out (KEncode_spec id)).mono ?_
    rintro e w1 ⟨v, N, rfl, ⟨rfl, rfl⟩, H1⟩
    try simp only [List.cons_append, List.nil_append, List.set_cons_zero, List.set_cons_succ, bsOf_list] at H1
    try rw [HK.out] at H1
    try rw [HK.out]
    have HS3 := Lib.hid H1
    clear H1
    go_wp2_with fail
    go_ret
    exact ⟨rfl, HS3.out.below⟩
  · have hb : (e != 0) = true := bne_iff_ne.2 he
    clear hk he
    go_enter Try.func8, Try.ntmps8
    go_wp2_with fail
    refine (St.call0 (HS).out speaks13).mono ?_
    rintro e w1 ⟨v, N, rfl, ⟨rfl, rfl⟩, H1⟩
    try simp only [List.cons_append, List.nil_append, List.set_cons_zero, List.set_cons_succ, bsOf_list] at H1
    have HS1 := Lib.hid H1
    clear H1
    go_wp2_with fail
    refine (St.call0 (HS1).out (KDecode_spec l (by omega))).mono ?_
    rintro e w1 ⟨v, N, rfl, ⟨rfl, rfl⟩, H1⟩
    try simp only [List.cons_append, List.nil_append, List.set_cons_zero, List.set_cons_succ, bsOf_list] at H1
    try rw [HD.out] at H1
    try rw [HD.out]
    have HS2 := Lib.hid H1
    clear H1
    go_wp2_with fail
    refine ((HR.out _)).mono ?_
    rintro e w1 ⟨rfl, rfl⟩
    go_wp2_with fail
    refine (St.call0 (HS2).out (KEncode_spec id)).mono ?_
    rintro e w1 ⟨v, N, rfl, ⟨rfl, rfl⟩, H1⟩
    try simp only [List.cons_append, List.nil_append, List.set_cons_zero, List.set_cons_succ, bsOf_list] at H1
    have HS3 := Lib.hid H1
    clear H1
    go_wp2_with fail
    go_ret
    exact ⟨rfl, HS3.out.below⟩
end Go.Proofs.Ytchfkhdifmpbkaa.Sl
