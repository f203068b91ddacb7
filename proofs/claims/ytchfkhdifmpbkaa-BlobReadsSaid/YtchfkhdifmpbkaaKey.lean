/- package key: what each of its functions answers. -/
import Derived.Test.YtchfkhdifmpbkaaBl
namespace Go.Proofs.Ytchfkhdifmpbkaa.Sl
open Go.RowKit
set_option linter.unusedVariables false
set_option linter.unusedSimpArgs false
attribute [local go_sem] bsOf_toList bsOf_size

/-- A text, and an error. -/
@[go_sem] def strErr (x : List UInt8 × Int) : Value := .tuple #[.string (bsOf x.1), .int .i64 x.2]
def otx (st : List UInt8 × Int) : List UInt8 × Int := if st.2 = 0 then (st.1, 0) else ([], st.2)
theorem otext_strErr (st : List UInt8 × Int) : otext st = strErr (otx st) := by unfold otext otx; split <;> rfl
/-! once something went wrong -/
theorem ifail_err {st : I} (h : st.err ≠ 0) (e : Int) : ifail st e = st := by simp [ifail, h]
theorem itake_err {st : I} (h : st.err ≠ 0) (n : Int) : itake st n = ([], st) := by simp [itake, h]
theorem iint_err {st : I} (h : st.err ≠ 0) (n : Int) : iint st n = (0, st) := by
  unfold iint
  split
  · rw [itake_err h]; rfl
  · rw [ifail_err h]
theorem bread_err {st : I} (h : st.err ≠ 0) (n : Int) : bread st n = (⟨false, []⟩, st) := by simp [bread, h]
theorem bfixed_err {st : I} (h : st.err ≠ 0) (n : Int) : bfixed st n = (⟨false, []⟩, st) := by unfold bfixed; rw [iint_err h, bread_err h]
theorem btext_err {st : I} (h : st.err ≠ 0) : btext st = ([], st) := by unfold btext bmust; rw [bfixed_err h]; rfl
theorem iclose_err {st : I} (h : st.err ≠ 0) : iclose st = st := by unfold iclose; split; rfl; exact ifail_err h 2
theorem itake_ok (l : List UInt8) (p : Nat) (n : Nat) (h : n ≤ l.length) : itake ⟨l, p, 0⟩ n = (l.take n, ⟨l.drop n, p + n, 0⟩) := by
  unfold itake
  rw [if_neg (by simp), if_neg (by omega), if_neg (by simp only; omega)]
  simp
theorem itake_short (l : List UInt8) (p : Nat) (n : Int) (h : (l.length : Int) < n) : itake ⟨l, p, 0⟩ n = ([], ⟨l, p, 1⟩) := by
  unfold itake
  rw [if_neg (by simp), if_neg (by omega), if_pos (by simp only; omega)]
theorem itake_neg (l : List UInt8) (p : Nat) (n : Int) (h : n < 0) : itake ⟨l, p, 0⟩ n = ([], ⟨l, p, 4⟩) := by
  unfold itake
  rw [if_neg (by simp), if_pos h]
theorem iint_ok (l : List UInt8) (p : Nat) (n : Nat) (h1 : 1 ≤ n) (h8 : n ≤ 8) (h : n ≤ l.length) : iint ⟨l, p, 0⟩ n = (beInt (l.take n), ⟨l.drop n, p + n, 0⟩) := by
  unfold iint
  rw [if_pos (by omega), itake_ok l p n h]
theorem iint_short (l : List UInt8) (p : Nat) (n : Int) (h1 : 1 ≤ n) (h8 : n ≤ 8) (h : (l.length : Int) < n) : iint ⟨l, p, 0⟩ n = (0, ⟨l, p, 1⟩) := by
  unfold iint
  rw [if_pos (by omega), itake_short l p n h]
  rfl

def kright (l : List UInt8) : Bool := !l.isEmpty && decide ((l.length : Int) ≤ 32767)
set_option maxRecDepth 100000 in
theorem KRight_any (l : List UInt8) (w : World) : Calls Try.prog 40 #[.string (bsOf l)] w fun e w' => e = .returned (.bool (kright l)) ∧ w = w' := by
  cases l with
  | nil =>
    go_enter Try.func40, Try.ntmps40
    go_wp2_with fail
    go_ret
    exact ⟨ret_bool (by simp [kright]), rfl⟩
  | cons c l =>
    go_enter Try.func40, Try.ntmps40
    go_wp2_with fail
    go_ret
    exact ⟨ret_bool (by simp [kright]), rfl⟩
def kenc (l : List UInt8) : List UInt8 × Int := if kright l then otx (bputText (oint ([], 0) 0 2) l) else ([], 4)
set_option maxRecDepth 100000 in
theorem KEncode_spec (l : List UInt8) : Spec0 Try.prog 39 #[.string (bsOf l)] (fun v N => v = strErr (kenc l) ∧ N = []) := by
  intro w
  have HS := Lib.hid (St.nil_ w)
  by_cases hr : kright l = true
  · have HR := Lib.hid hr
    have HK := Lib.hid (show otext (bputText (oint ([], 0) 0 2) l) = strErr (kenc l) by rw [otext_strErr]; simp [kenc, hr])
    have hl : l.length ≤ 32767 := by simp [kright] at hr; omega
    clear hr
    go_enter Try.func39, Try.ntmps39
    go_wp2_with fail
    refine ((KRight_any l _)).mono ?_
    rintro e w1 ⟨rfl, rfl⟩
    rw [HR.out]
    go_wp2_with fail
    have H1 := OutR.new ((HS).out)
    try simp only [World.size_alloc] at H1
    have HS1 := Lib.hid H1
    clear H1
    refine (St.call 0 (HS1).out rfl (OutInt_spec _ ([], 0) 0 2 (by omega) (by omega) (by simp))).mono ?_
    rintro e w1 ⟨v, A', N, rfl, ⟨rfl, rfl, rfl⟩, H1⟩
    try simp only [List.cons_append, List.nil_append, List.set_cons_zero, List.set_cons_succ, bsOf_list] at H1
    have HS2 := Lib.hid H1
    clear H1
    go_wp2_with fail
    refine (St.call 0 (HS2).out rfl (BPutText_spec _ (oint ([], 0) 0 2) l (by have := oint_len ([], 0) 0 2; simp at this; omega))).mono ?_
    rintro e w1 ⟨v, A', N, rfl, ⟨rfl, rfl, rfl⟩, H1⟩
    try simp only [List.cons_append, List.nil_append, List.set_cons_zero, List.set_cons_succ, bsOf_list] at H1
    have HS3 := Lib.hid H1
    clear H1
    go_wp2_with fail
    refine (St.call 0 (HS3).out rfl (Text_spec _ _)).mono ?_
    rintro e w1 ⟨v, A', N, rfl, ⟨hv, rfl, rfl⟩, H1⟩
    try simp only [List.cons_append, List.nil_append, List.set_cons_zero, List.set_cons_succ, bsOf_list] at H1
    have hv2 := Eq.trans hv HK.out
    clear hv
    subst hv2
    have HS4 := Lib.hid H1
    clear H1
    go_wp2_with fail
    go_ret2
    exact ⟨_, _, rfl, ⟨rfl, rfl⟩, HS4.out.drop_⟩
  · have HR := Lib.hid (show kright l = false by simpa using hr)
    have HK := Lib.hid (show kenc l = ([], 4) by simp [kenc, hr])
    clear hr
    go_enter Try.func39, Try.ntmps39
    go_wp2_with fail
    refine ((KRight_any l _)).mono ?_
    rintro e w1 ⟨rfl, rfl⟩
    rw [HR.out]
    go_wp2_with fail
    go_ret2
    exact ⟨_, _, rfl, ⟨by rw [HK.out]; rfl, rfl⟩, HS.out⟩
def kdA (l : List UInt8) : I := if (iint ⟨l, 0, 0⟩ 2).1 = 0 then (iint ⟨l, 0, 0⟩ 2).2 else ifail (iint ⟨l, 0, 0⟩ 2).2 7
def kdB (r : List UInt8 × I) : I := iclose (if r.1 = [] then ifail r.2 4 else r.2)
def kdec (l : List UInt8) : List UInt8 × Int := if (kdB (btext (kdA l))).err ≠ 0 then ([], (kdB (btext (kdA l))).err) else ((btext (kdA l)).1, 0)
set_option maxRecDepth 100000 in
theorem KDecode_spec (l : List UInt8) (hl : l.length ≤ 140737488355328) : Spec0 Try.prog 41 #[.string (bsOf l)] (fun v N => v = strErr (kdec l) ∧ N = []) := by
  intro w
  have HS := Lib.hid (St.nil_ w)
  have hA : kdA l = if (iint ⟨l, 0, 0⟩ 2).1 = 0 then (iint ⟨l, 0, 0⟩ 2).2 else ifail (iint ⟨l, 0, 0⟩ 2).2 7 := rfl
  have hk : kdec l = if (kdB (btext (kdA l))).err ≠ 0 then ([], (kdB (btext (kdA l))).err) else ((btext (kdA l)).1, 0) := rfl
  generalize kdA l = sa at *
  generalize ht : btext sa = r at *
  obtain ⟨id, sb⟩ := r
  have hc : kdB (id, sb) = iclose (if id = [] then ifail sb 4 else sb) := rfl
  generalize kdB (id, sb) = sc at *
  have HT := Lib.hid ht
  clear ht
  by_cases hz : (iint ⟨l, 0, 0⟩ 2).1 = 0
  · by_cases he : id = []
    · by_cases hr : sc.err ≠ 0
      · have HZ := Lib.hid hz
        have HA := Lib.hid (show (iint ⟨l, 0, 0⟩ 2).2 = sa by rw [hA, if_pos hz])
        have hzb : ((iint ⟨l, 0, 0⟩ 2).1 != 0) = false := by simp [hz]
        have HC := Lib.hid (show iclose (ifail sb 4) = sc by rw [hc, if_pos he])
        subst he
        have HK := Lib.hid (show kdec l = ([], sc.err) by rw [hk, if_pos hr])
        have hrb : (sc.err != 0) = true := bne_iff_ne.2 hr
        clear hA hk hc hz hr
        go_enter Try.func41, Try.ntmps41
        go_wp2_with fail
        refine (St.call0 (HS).out (New_spec (bsOf l) (by rw [bsOf_size]; omega))).mono ?_
        rintro e w1 ⟨v, N, rfl, ⟨g, rfl, rfl⟩, H1⟩
        try simp only [List.cons_append, List.nil_append, List.set_cons_zero, List.set_cons_succ, bsOf_list] at H1
        have HS1 := Lib.hid H1
        clear H1
        go_wp2_with fail
        refine (St.call 0 (HS1).out rfl (IInt_spec g _ 2)).mono ?_
        rintro e w1 ⟨v, A', N, rfl, ⟨rfl, rfl, rfl⟩, H1⟩
        try simp only [List.cons_append, List.nil_append, List.set_cons_zero, List.set_cons_succ, bsOf_list] at H1
        have HS2 := Lib.hid H1
        clear H1
        go_wp2_with fail
        have HS3 := Lib.hid (HA.out ▸ HS2.out)
        refine (St.call 0 (HS3).out rfl (BText_spec g _)).mono ?_
        rintro e w1 ⟨v, A', N, rfl, ⟨rfl, rfl, rfl⟩, H1⟩
        try simp only [List.cons_append, List.nil_append, List.set_cons_zero, List.set_cons_succ, bsOf_list] at H1
        try rw [HT.out] at H1
        try rw [HT.out]
        have HS4 := Lib.hid H1
        clear H1
        go_wp2_with fail
        refine (St.call 0 (HS4).out rfl (IFail_spec g _ 4)).mono ?_
        rintro e w1 ⟨v, A', N, rfl, ⟨rfl, rfl, rfl⟩, H1⟩
        try simp only [List.cons_append, List.nil_append, List.set_cons_zero, List.set_cons_succ, bsOf_list] at H1
        have HS5 := Lib.hid H1
        clear H1
        go_wp2_with fail
        refine (St.call 0 (HS5).out rfl (Close_spec g _)).mono ?_
        rintro e w1 ⟨v, A', N, rfl, ⟨rfl, rfl, rfl⟩, H1⟩
        try simp only [List.cons_append, List.nil_append, List.set_cons_zero, List.set_cons_succ, bsOf_list] at H1
        try rw [HC.out] at H1
        try rw [HC.out]
        have HS6 := Lib.hid H1
        clear H1
        go_wp2_with fail
        go_ret2
        exact ⟨_, _, rfl, ⟨by rw [HK.out]; rfl, rfl⟩, HS6.out.drop_⟩
      · have HZ := Lib.hid hz
        have HA := Lib.hid (show (iint ⟨l, 0, 0⟩ 2).2 = sa by rw [hA, if_pos hz])
        have hzb : ((iint ⟨l, 0, 0⟩ 2).1 != 0) = false := by simp [hz]
        have HC := Lib.hid (show iclose (ifail sb 4) = sc by rw [hc, if_pos he])
        subst he
        have hr0 : sc.err = 0 := by simpa using hr
        have HK := Lib.hid (show kdec l = ([], 0) by rw [hk, if_neg hr])
        have hrb : (sc.err != 0) = false := by simp [hr0]
        clear hA hk hc hz hr hr0
        go_enter Try.func41, Try.ntmps41
        go_wp2_with fail
        refine (St.call0 (HS).out (New_spec (bsOf l) (by rw [bsOf_size]; omega))).mono ?_
        rintro e w1 ⟨v, N, rfl, ⟨g, rfl, rfl⟩, H1⟩
        try simp only [List.cons_append, List.nil_append, List.set_cons_zero, List.set_cons_succ, bsOf_list] at H1
        have HS1 := Lib.hid H1
        clear H1
        go_wp2_with fail
        refine (St.call 0 (HS1).out rfl (IInt_spec g _ 2)).mono ?_
        rintro e w1 ⟨v, A', N, rfl, ⟨rfl, rfl, rfl⟩, H1⟩
        try simp only [List.cons_append, List.nil_append, List.set_cons_zero, List.set_cons_succ, bsOf_list] at H1
        have HS2 := Lib.hid H1
        clear H1
        go_wp2_with fail
        have HS3 := Lib.hid (HA.out ▸ HS2.out)
        refine (St.call 0 (HS3).out rfl (BText_spec g _)).mono ?_
        rintro e w1 ⟨v, A', N, rfl, ⟨rfl, rfl, rfl⟩, H1⟩
        try simp only [List.cons_append, List.nil_append, List.set_cons_zero, List.set_cons_succ, bsOf_list] at H1
        try rw [HT.out] at H1
        try rw [HT.out]
        have HS4 := Lib.hid H1
        clear H1
        go_wp2_with fail
        refine (St.call 0 (HS4).out rfl (IFail_spec g _ 4)).mono ?_
        rintro e w1 ⟨v, A', N, rfl, ⟨rfl, rfl, rfl⟩, H1⟩
        try simp only [List.cons_append, List.nil_append, List.set_cons_zero, List.set_cons_succ, bsOf_list] at H1
        have HS5 := Lib.hid H1
        clear H1
        go_wp2_with fail
        refine (St.call 0 (HS5).out rfl (Close_spec g _)).mono ?_
        rintro e w1 ⟨v, A', N, rfl, ⟨rfl, rfl, rfl⟩, H1⟩
        try simp only [List.cons_append, List.nil_append, List.set_cons_zero, List.set_cons_succ, bsOf_list] at H1
        try rw [HC.out] at H1
        try rw [HC.out]
        have HS6 := Lib.hid H1
        clear H1
        go_wp2_with fail
        go_ret2
        exact ⟨_, _, rfl, ⟨by rw [HK.out]; rfl, rfl⟩, HS6.out.drop_⟩
    · by_cases hr : sc.err ≠ 0
      · have HZ := Lib.hid hz
        have HA := Lib.hid (show (iint ⟨l, 0, 0⟩ 2).2 = sa by rw [hA, if_pos hz])
        have hzb : ((iint ⟨l, 0, 0⟩ 2).1 != 0) = false := by simp [hz]
        have HC := Lib.hid (show iclose sb = sc by rw [hc, if_neg he])
        have heb : (id == []) = false := by simpa using he
        have HK := Lib.hid (show kdec l = ([], sc.err) by rw [hk, if_pos hr])
        have hrb : (sc.err != 0) = true := bne_iff_ne.2 hr
        clear hA hk hc hz hr he
        go_enter Try.func41, Try.ntmps41
        go_wp2_with fail
        refine (St.call0 (HS).out (New_spec (bsOf l) (by rw [bsOf_size]; omega))).mono ?_
        rintro e w1 ⟨v, N, rfl, ⟨g, rfl, rfl⟩, H1⟩
        try simp only [List.cons_append, List.nil_append, List.set_cons_zero, List.set_cons_succ, bsOf_list] at H1
        have HS1 := Lib.hid H1
        clear H1
        go_wp2_with fail
        refine (St.call 0 (HS1).out rfl (IInt_spec g _ 2)).mono ?_
        rintro e w1 ⟨v, A', N, rfl, ⟨rfl, rfl, rfl⟩, H1⟩
        try simp only [List.cons_append, List.nil_append, List.set_cons_zero, List.set_cons_succ, bsOf_list] at H1
        have HS2 := Lib.hid H1
        clear H1
        go_wp2_with fail
        have HS3 := Lib.hid (HA.out ▸ HS2.out)
        refine (St.call 0 (HS3).out rfl (BText_spec g _)).mono ?_
        rintro e w1 ⟨v, A', N, rfl, ⟨rfl, rfl, rfl⟩, H1⟩
        try simp only [List.cons_append, List.nil_append, List.set_cons_zero, List.set_cons_succ, bsOf_list] at H1
        try rw [HT.out] at H1
        try rw [HT.out]
        have HS4 := Lib.hid H1
        clear H1
        go_wp2_with fail
        refine (St.call 0 (HS4).out rfl (Close_spec g _)).mono ?_
        rintro e w1 ⟨v, A', N, rfl, ⟨rfl, rfl, rfl⟩, H1⟩
        try simp only [List.cons_append, List.nil_append, List.set_cons_zero, List.set_cons_succ, bsOf_list] at H1
        try rw [HC.out] at H1
        try rw [HC.out]
        have HS6 := Lib.hid H1
        clear H1
        go_wp2_with fail
        go_ret2
        exact ⟨_, _, rfl, ⟨by rw [HK.out]; rfl, rfl⟩, HS6.out.drop_⟩
      · have HZ := Lib.hid hz
        have HA := Lib.hid (show (iint ⟨l, 0, 0⟩ 2).2 = sa by rw [hA, if_pos hz])
        have hzb : ((iint ⟨l, 0, 0⟩ 2).1 != 0) = false := by simp [hz]
        have HC := Lib.hid (show iclose sb = sc by rw [hc, if_neg he])
        have heb : (id == []) = false := by simpa using he
        have hr0 : sc.err = 0 := by simpa using hr
        have HK := Lib.hid (show kdec l = (id, 0) by rw [hk, if_neg hr])
        have hrb : (sc.err != 0) = false := by simp [hr0]
        clear hA hk hc hz hr he hr0
        go_enter Try.func41, Try.ntmps41
        go_wp2_with fail
        refine (St.call0 (HS).out (New_spec (bsOf l) (by rw [bsOf_size]; omega))).mono ?_
        rintro e w1 ⟨v, N, rfl, ⟨g, rfl, rfl⟩, H1⟩
        try simp only [List.cons_append, List.nil_append, List.set_cons_zero, List.set_cons_succ, bsOf_list] at H1
        have HS1 := Lib.hid H1
        clear H1
        go_wp2_with fail
        refine (St.call 0 (HS1).out rfl (IInt_spec g _ 2)).mono ?_
        rintro e w1 ⟨v, A', N, rfl, ⟨rfl, rfl, rfl⟩, H1⟩
        try simp only [List.cons_append, List.nil_append, List.set_cons_zero, List.set_cons_succ, bsOf_list] at H1
        have HS2 := Lib.hid H1
        clear H1
        go_wp2_with fail
        have HS3 := Lib.hid (HA.out ▸ HS2.out)
        refine (St.call 0 (HS3).out rfl (BText_spec g _)).mono ?_
        rintro e w1 ⟨v, A', N, rfl, ⟨rfl, rfl, rfl⟩, H1⟩
        try simp only [List.cons_append, List.nil_append, List.set_cons_zero, List.set_cons_succ, bsOf_list] at H1
        try rw [HT.out] at H1
        try rw [HT.out]
        have HS4 := Lib.hid H1
        clear H1
        go_wp2_with fail
        refine (St.call 0 (HS4).out rfl (Close_spec g _)).mono ?_
        rintro e w1 ⟨v, A', N, rfl, ⟨rfl, rfl, rfl⟩, H1⟩
        try simp only [List.cons_append, List.nil_append, List.set_cons_zero, List.set_cons_succ, bsOf_list] at H1
        try rw [HC.out] at H1
        try rw [HC.out]
        have HS6 := Lib.hid H1
        clear H1
        go_wp2_with fail
        go_ret2
        exact ⟨_, _, rfl, ⟨by rw [HK.out]; rfl, rfl⟩, HS6.out.drop_⟩
  · by_cases he : id = []
    · by_cases hr : sc.err ≠ 0
      · have HA := Lib.hid (show ifail (iint ⟨l, 0, 0⟩ 2).2 7 = sa by rw [hA, if_neg hz])
        have hzb : ((iint ⟨l, 0, 0⟩ 2).1 != 0) = true := bne_iff_ne.2 hz
        have HC := Lib.hid (show iclose (ifail sb 4) = sc by rw [hc, if_pos he])
        subst he
        have HK := Lib.hid (show kdec l = ([], sc.err) by rw [hk, if_pos hr])
        have hrb : (sc.err != 0) = true := bne_iff_ne.2 hr
        clear hA hk hc hz hr
        go_enter Try.func41, Try.ntmps41
        go_wp2_with fail
        refine (St.call0 (HS).out (New_spec (bsOf l) (by rw [bsOf_size]; omega))).mono ?_
        rintro e w1 ⟨v, N, rfl, ⟨g, rfl, rfl⟩, H1⟩
        try simp only [List.cons_append, List.nil_append, List.set_cons_zero, List.set_cons_succ, bsOf_list] at H1
        have HS1 := Lib.hid H1
        clear H1
        go_wp2_with fail
        refine (St.call 0 (HS1).out rfl (IInt_spec g _ 2)).mono ?_
        rintro e w1 ⟨v, A', N, rfl, ⟨rfl, rfl, rfl⟩, H1⟩
        try simp only [List.cons_append, List.nil_append, List.set_cons_zero, List.set_cons_succ, bsOf_list] at H1
        have HS2 := Lib.hid H1
        clear H1
        go_wp2_with fail
        refine (St.call 0 (HS2).out rfl (IFail_spec g _ 7)).mono ?_
        rintro e w1 ⟨v, A', N, rfl, ⟨rfl, rfl, rfl⟩, H1⟩
        try simp only [List.cons_append, List.nil_append, List.set_cons_zero, List.set_cons_succ, bsOf_list] at H1
        try rw [HA.out] at H1
        try rw [HA.out]
        have HS3 := Lib.hid H1
        clear H1
        go_wp2_with fail
        refine (St.call 0 (HS3).out rfl (BText_spec g _)).mono ?_
        rintro e w1 ⟨v, A', N, rfl, ⟨rfl, rfl, rfl⟩, H1⟩
        try simp only [List.cons_append, List.nil_append, List.set_cons_zero, List.set_cons_succ, bsOf_list] at H1
        try rw [HT.out] at H1
        try rw [HT.out]
        have HS4 := Lib.hid H1
        clear H1
        go_wp2_with fail
        refine (St.call 0 (HS4).out rfl (IFail_spec g _ 4)).mono ?_
        rintro e w1 ⟨v, A', N, rfl, ⟨rfl, rfl, rfl⟩, H1⟩
        try simp only [List.cons_append, List.nil_append, List.set_cons_zero, List.set_cons_succ, bsOf_list] at H1
        have HS5 := Lib.hid H1
        clear H1
        go_wp2_with fail
        refine (St.call 0 (HS5).out rfl (Close_spec g _)).mono ?_
        rintro e w1 ⟨v, A', N, rfl, ⟨rfl, rfl, rfl⟩, H1⟩
        try simp only [List.cons_append, List.nil_append, List.set_cons_zero, List.set_cons_succ, bsOf_list] at H1
        try rw [HC.out] at H1
        try rw [HC.out]
        have HS6 := Lib.hid H1
        clear H1
        go_wp2_with fail
        go_ret2
        exact ⟨_, _, rfl, ⟨by rw [HK.out]; rfl, rfl⟩, HS6.out.drop_⟩
      · have HA := Lib.hid (show ifail (iint ⟨l, 0, 0⟩ 2).2 7 = sa by rw [hA, if_neg hz])
        have hzb : ((iint ⟨l, 0, 0⟩ 2).1 != 0) = true := bne_iff_ne.2 hz
        have HC := Lib.hid (show iclose (ifail sb 4) = sc by rw [hc, if_pos he])
        subst he
        have hr0 : sc.err = 0 := by simpa using hr
        have HK := Lib.hid (show kdec l = ([], 0) by rw [hk, if_neg hr])
        have hrb : (sc.err != 0) = false := by simp [hr0]
        clear hA hk hc hz hr hr0
        go_enter Try.func41, Try.ntmps41
        go_wp2_with fail
        refine (St.call0 (HS).out (New_spec (bsOf l) (by rw [bsOf_size]; omega))).mono ?_
        rintro e w1 ⟨v, N, rfl, ⟨g, rfl, rfl⟩, H1⟩
        try simp only [List.cons_append, List.nil_append, List.set_cons_zero, List.set_cons_succ, bsOf_list] at H1
        have HS1 := Lib.hid H1
        clear H1
        go_wp2_with fail
        refine (St.call 0 (HS1).out rfl (IInt_spec g _ 2)).mono ?_
        rintro e w1 ⟨v, A', N, rfl, ⟨rfl, rfl, rfl⟩, H1⟩
        try simp only [List.cons_append, List.nil_append, List.set_cons_zero, List.set_cons_succ, bsOf_list] at H1
        have HS2 := Lib.hid H1
        clear H1
        go_wp2_with fail
        refine (St.call 0 (HS2).out rfl (IFail_spec g _ 7)).mono ?_
        rintro e w1 ⟨v, A', N, rfl, ⟨rfl, rfl, rfl⟩, H1⟩
        try simp only [List.cons_append, List.nil_append, List.set_cons_zero, List.set_cons_succ, bsOf_list] at H1
        try rw [HA.out] at H1
        try rw [HA.out]
        have HS3 := Lib.hid H1
        clear H1
        go_wp2_with fail
        refine (St.call 0 (HS3).out rfl (BText_spec g _)).mono ?_
        rintro e w1 ⟨v, A', N, rfl, ⟨rfl, rfl, rfl⟩, H1⟩
        try simp only [List.cons_append, List.nil_append, List.set_cons_zero, List.set_cons_succ, bsOf_list] at H1
        try rw [HT.out] at H1
        try rw [HT.out]
        have HS4 := Lib.hid H1
        clear H1
        go_wp2_with fail
        refine (St.call 0 (HS4).out rfl (IFail_spec g _ 4)).mono ?_
        rintro e w1 ⟨v, A', N, rfl, ⟨rfl, rfl, rfl⟩, H1⟩
        try simp only [List.cons_append, List.nil_append, List.set_cons_zero, List.set_cons_succ, bsOf_list] at H1
        have HS5 := Lib.hid H1
        clear H1
        go_wp2_with fail
        refine (St.call 0 (HS5).out rfl (Close_spec g _)).mono ?_
        rintro e w1 ⟨v, A', N, rfl, ⟨rfl, rfl, rfl⟩, H1⟩
        try simp only [List.cons_append, List.nil_append, List.set_cons_zero, List.set_cons_succ, bsOf_list] at H1
        try rw [HC.out] at H1
        try rw [HC.out]
        have HS6 := Lib.hid H1
        clear H1
        go_wp2_with fail
        go_ret2
        exact ⟨_, _, rfl, ⟨by rw [HK.out]; rfl, rfl⟩, HS6.out.drop_⟩
    · by_cases hr : sc.err ≠ 0
      · have HA := Lib.hid (show ifail (iint ⟨l, 0, 0⟩ 2).2 7 = sa by rw [hA, if_neg hz])
        have hzb : ((iint ⟨l, 0, 0⟩ 2).1 != 0) = true := bne_iff_ne.2 hz
        have HC := Lib.hid (show iclose sb = sc by rw [hc, if_neg he])
        have heb : (id == []) = false := by simpa using he
        have HK := Lib.hid (show kdec l = ([], sc.err) by rw [hk, if_pos hr])
        have hrb : (sc.err != 0) = true := bne_iff_ne.2 hr
        clear hA hk hc hz hr he
        go_enter Try.func41, Try.ntmps41
        go_wp2_with fail
        refine (St.call0 (HS).out (New_spec (bsOf l) (by rw [bsOf_size]; omega))).mono ?_
        rintro e w1 ⟨v, N, rfl, ⟨g, rfl, rfl⟩, H1⟩
        try simp only [List.cons_append, List.nil_append, List.set_cons_zero, List.set_cons_succ, bsOf_list] at H1
        have HS1 := Lib.hid H1
        clear H1
        go_wp2_with fail
        refine (St.call 0 (HS1).out rfl (IInt_spec g _ 2)).mono ?_
        rintro e w1 ⟨v, A', N, rfl, ⟨rfl, rfl, rfl⟩, H1⟩
        try simp only [List.cons_append, List.nil_append, List.set_cons_zero, List.set_cons_succ, bsOf_list] at H1
        have HS2 := Lib.hid H1
        clear H1
        go_wp2_with fail
        refine (St.call 0 (HS2).out rfl (IFail_spec g _ 7)).mono ?_
        rintro e w1 ⟨v, A', N, rfl, ⟨rfl, rfl, rfl⟩, H1⟩
        try simp only [List.cons_append, List.nil_append, List.set_cons_zero, List.set_cons_succ, bsOf_list] at H1
        try rw [HA.out] at H1
        try rw [HA.out]
        have HS3 := Lib.hid H1
        clear H1
        go_wp2_with fail
        refine (St.call 0 (HS3).out rfl (BText_spec g _)).mono ?_
        rintro e w1 ⟨v, A', N, rfl, ⟨rfl, rfl, rfl⟩, H1⟩
        try simp only [List.cons_append, List.nil_append, List.set_cons_zero, List.set_cons_succ, bsOf_list] at H1
        try rw [HT.out] at H1
        try rw [HT.out]
        have HS4 := Lib.hid H1
        clear H1
        go_wp2_with fail
        refine (St.call 0 (HS4).out rfl (Close_spec g _)).mono ?_
        rintro e w1 ⟨v, A', N, rfl, ⟨rfl, rfl, rfl⟩, H1⟩
        try simp only [List.cons_append, List.nil_append, List.set_cons_zero, List.set_cons_succ, bsOf_list] at H1
        try rw [HC.out] at H1
        try rw [HC.out]
        have HS6 := Lib.hid H1
        clear H1
        go_wp2_with fail
        go_ret2
        exact ⟨_, _, rfl, ⟨by rw [HK.out]; rfl, rfl⟩, HS6.out.drop_⟩
      · have HA := Lib.hid (show ifail (iint ⟨l, 0, 0⟩ 2).2 7 = sa by rw [hA, if_neg hz])
        have hzb : ((iint ⟨l, 0, 0⟩ 2).1 != 0) = true := bne_iff_ne.2 hz
        have HC := Lib.hid (show iclose sb = sc by rw [hc, if_neg he])
        have heb : (id == []) = false := by simpa using he
        have hr0 : sc.err = 0 := by simpa using hr
        have HK := Lib.hid (show kdec l = (id, 0) by rw [hk, if_neg hr])
        have hrb : (sc.err != 0) = false := by simp [hr0]
        clear hA hk hc hz hr he hr0
        go_enter Try.func41, Try.ntmps41
        go_wp2_with fail
        refine (St.call0 (HS).out (New_spec (bsOf l) (by rw [bsOf_size]; omega))).mono ?_
        rintro e w1 ⟨v, N, rfl, ⟨g, rfl, rfl⟩, H1⟩
        try simp only [List.cons_append, List.nil_append, List.set_cons_zero, List.set_cons_succ, bsOf_list] at H1
        have HS1 := Lib.hid H1
        clear H1
        go_wp2_with fail
        refine (St.call 0 (HS1).out rfl (IInt_spec g _ 2)).mono ?_
        rintro e w1 ⟨v, A', N, rfl, ⟨rfl, rfl, rfl⟩, H1⟩
        try simp only [List.cons_append, List.nil_append, List.set_cons_zero, List.set_cons_succ, bsOf_list] at H1
        have HS2 := Lib.hid H1
        clear H1
        go_wp2_with fail
        refine (St.call 0 (HS2).out rfl (IFail_spec g _ 7)).mono ?_
        rintro e w1 ⟨v, A', N, rfl, ⟨rfl, rfl, rfl⟩, H1⟩
        try simp only [List.cons_append, List.nil_append, List.set_cons_zero, List.set_cons_succ, bsOf_list] at H1
        try rw [HA.out] at H1
        try rw [HA.out]
        have HS3 := Lib.hid H1
        clear H1
        go_wp2_with fail
        refine (St.call 0 (HS3).out rfl (BText_spec g _)).mono ?_
        rintro e w1 ⟨v, A', N, rfl, ⟨rfl, rfl, rfl⟩, H1⟩
        try simp only [List.cons_append, List.nil_append, List.set_cons_zero, List.set_cons_succ, bsOf_list] at H1
        try rw [HT.out] at H1
        try rw [HT.out]
        have HS4 := Lib.hid H1
        clear H1
        go_wp2_with fail
        refine (St.call 0 (HS4).out rfl (Close_spec g _)).mono ?_
        rintro e w1 ⟨v, A', N, rfl, ⟨rfl, rfl, rfl⟩, H1⟩
        try simp only [List.cons_append, List.nil_append, List.set_cons_zero, List.set_cons_succ, bsOf_list] at H1
        try rw [HC.out] at H1
        try rw [HC.out]
        have HS6 := Lib.hid H1
        clear H1
        go_wp2_with fail
        go_ret2
        exact ⟨_, _, rfl, ⟨by rw [HK.out]; rfl, rfl⟩, HS6.out.drop_⟩
end Go.Proofs.Ytchfkhdifmpbkaa.Sl
