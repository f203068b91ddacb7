/- package blob: what each of its functions does. -/
import Derived.Test.YtdlpmcbglmgpiaaVb
import Derived.Test.YtdlpmcbglmgpiaaRw
namespace Go.Proofs.Ytdlpmcbglmgpiaa.Sl
open Go.RowKit
set_option linter.unusedVariables false
set_option linter.unusedSimpArgs false
attribute [local go_sem] bsOf_toList bsOf_size

structure Bl where
  null : Bool
  data : List UInt8
@[go_sem] def blV (b : Bl) : Value := .agg #[.bool b.null, .string (bsOf b.data)]
theorem infoBl : (Try.prog.info? 26).map (·.size) = some 2 := by kernel_rfl
set_option maxRecDepth 100000 in
theorem BOf_spec (l : List UInt8) : Spec0 Try.prog 130 #[.string (bsOf l)] (fun v N => v = blV ⟨false, l⟩ ∧ N = []) := by
  intro w
  have HS := Lib.hid (St.nil_ w)
  go_enter Try.func130, Try.ntmps130
  go_wp2_with fail
  refine bodyPost_ret (v := blV ⟨false, l⟩) (results_cell_row (by rfl) _ _ w.heap.size 26 #[.bool false, .string (bsOf l)] (0, 0) _ rfl (heap_alloc_new w _) Try.underlying26 rfl infoBl) rfl ?_
  exact ⟨_, _, rfl, ⟨rfl, rfl⟩, (HS.out.alloc _ _).drop_⟩
set_option maxRecDepth 100000 in
theorem BNone_spec : Spec0 Try.prog 151 #[] (fun v N => v = blV ⟨true, []⟩ ∧ N = []) := by
  intro w
  have HS := Lib.hid (St.nil_ w)
  go_enter Try.func151, Try.ntmps151
  go_wp2_with fail
  refine bodyPost_ret (v := blV ⟨true, []⟩) (results_cell_row (by rfl) _ _ w.heap.size 26 #[.bool true, .string (bsOf [])] (0, 0) _ rfl (heap_alloc_new w _) Try.underlying26 rfl infoBl) rfl ?_
  exact ⟨_, _, rfl, ⟨rfl, rfl⟩, (HS.out.alloc _ _).drop_⟩
def bright (b : Bl) : Bool := !b.null || b.data.isEmpty
set_option maxRecDepth 100000 in
theorem BRight_spec (b : Bl) : Spec0 Try.prog 85 #[blV b] (fun v N => v = .bool (bright b) ∧ N = []) := by
  intro w
  have HS := Lib.hid (St.nil_ w)
  obtain ⟨n, l⟩ := b
  have HB := Lib.hid (show (l == []) = l.isEmpty by cases l <;> rfl)
  cases n
  · go_enter Try.func85, Try.ntmps85
    go_wp2_with fail
    go_ret
    exact ⟨_, _, rfl, ⟨rfl, rfl⟩, (HS.out.alloc _ _).drop_⟩
  · go_enter Try.func85, Try.ntmps85
    go_wp2_with fail
    go_ret
    exact ⟨_, _, rfl, ⟨congrArg Value.bool (by simp [bright]), rfl⟩, (HS.out.alloc _ _).drop_⟩
def blen (b : Bl) : Int := if b.null then -1 else b.data.length
set_option maxRecDepth 100000 in
theorem BLen_spec (b : Bl) : Spec0 Try.prog 126 #[blV b] (fun v N => v = .int .i64 (blen b) ∧ N = []) := by
  intro w
  have HS := Lib.hid (St.nil_ w)
  obtain ⟨n, l⟩ := b
  cases n
  all_goals
    go_enter Try.func126, Try.ntmps126
    go_wp2_with fail
    go_ret
    exact ⟨_, _, rfl, ⟨rfl, rfl⟩, (HS.out.alloc _ _).drop_⟩
def bread (st : I) (n : Int) : Bl × I := if st.err ≠ 0 then (⟨false, []⟩, st) else if n = -1 then (⟨true, []⟩, st) else (⟨false, (itake st n).1⟩, (itake st n).2)
set_option maxRecDepth 100000 in
theorem BRead_spec (g : Nat) (st : I) (n : Int) (h0 : -9223372036854775808 ≤ n) (h1 : n ≤ 9223372036854775807) :
    Spec Try.prog 123 #[.pointer (some ⟨g, 0, none⟩), .int .i64 n] (InR g st) (fun v A' N => v = blV (bread st n).1 ∧ A' = InR g (bread st n).2 ∧ N = []) := by
  intro F w hA
  have HA := Lib.hid (St.start F w (Sep.one hA))
  clear hA
  have HB := Lib.hid (HA.out.alloc #[.bool false, .string ⟨#[]⟩] 26)
  by_cases he : st.err = 0
  · by_cases hn : n = -1
    · subst hn
      have HQ := Lib.hid (show bread st (-1) = (⟨true, []⟩, st) by simp [bread, he])
      have hb : (st.err != 0) = false := by simp [he]
      clear he
      go_enter Try.func123, Try.ntmps123
      go_wp2_with fail
      refine (St.call 1 (HB).out rfl (IErr_spec g _)).mono ?_
      rintro e w1 ⟨v, A', N, rfl, ⟨rfl, rfl, rfl⟩, H1⟩
      try simp only [List.cons_append, List.nil_append, List.set_cons_zero, List.set_cons_succ, bsOf_list] at H1
      have HC := Lib.hid H1
      clear H1
      go_wp2_with fail
      refine (St.call0 HC.out BNone_spec).mono ?_
      rintro e w2 ⟨v, N, rfl, ⟨rfl, rfl⟩, H2⟩
      have d0 : w2.cell? ⟨w.heap.size, 0, none⟩ = some (.bool false) := heap_at (St.blk 0 H2 rfl) 0
      have d1 : w2.cell? ⟨w.heap.size, 1, none⟩ = some (.string ⟨#[]⟩) := heap_at (St.blk 0 H2 rfl) 1
      have f0 : w2.frozen? ⟨w.heap.size, 0, none⟩ = false := heap_free (St.blk 0 H2 rfl) 0
      have f1 : w2.frozen? ⟨w.heap.size, 1, none⟩ = false := heap_free (St.blk 0 H2 rfl) 1
      have HD := Lib.hid H2
      clear H2
      go_wp2_with fail
      have HE := ((HD.out.set 0 rfl 0 (.bool true)).set 0 rfl 1 (.string (bsOf [])))
      refine bodyPost_ret (v := blV ⟨true, []⟩) (results_cell_row (by rfl) _ _ w.heap.size 26 #[.bool true, .string (bsOf [])] (0, 0) _ rfl (St.blk 0 HE rfl) Try.underlying26 rfl infoBl) rfl ?_
      exact ⟨_, _, _, rfl, ⟨by rw [HQ.out], by rw [HQ.out], rfl⟩, HE.drop_⟩
    · have HQ := Lib.hid (show bread st n = (⟨false, (itake st n).1⟩, (itake st n).2) by simp [bread, he, hn])
      have hb : (st.err != 0) = false := by simp [he]
      have hnb : (n == -1) = false := beq_eq_false_iff_ne.2 hn
      clear he hn
      go_enter Try.func123, Try.ntmps123
      go_wp2_with fail
      refine (St.call 1 (HB).out rfl (IErr_spec g _)).mono ?_
      rintro e w1 ⟨v, A', N, rfl, ⟨rfl, rfl, rfl⟩, H1⟩
      try simp only [List.cons_append, List.nil_append, List.set_cons_zero, List.set_cons_succ, bsOf_list] at H1
      have HC := Lib.hid H1
      clear H1
      go_wp2_with fail
      refine (St.call 1 (HC).out rfl (Take_spec g st n h0 h1)).mono ?_
      rintro e w1 ⟨v, A', N, rfl, ⟨rfl, rfl, rfl⟩, H1⟩
      try simp only [List.cons_append, List.nil_append, List.set_cons_zero, List.set_cons_succ, bsOf_list] at H1
      have HC2 := Lib.hid H1
      clear H1
      go_wp2_with fail
      refine (St.call0 HC2.out (BOf_spec (itake st n).1)).mono ?_
      rintro e w2 ⟨v, N, rfl, ⟨rfl, rfl⟩, H2⟩
      have d0 : w2.cell? ⟨w.heap.size, 0, none⟩ = some (.bool false) := heap_at (St.blk 0 H2 rfl) 0
      have d1 : w2.cell? ⟨w.heap.size, 1, none⟩ = some (.string ⟨#[]⟩) := heap_at (St.blk 0 H2 rfl) 1
      have f0 : w2.frozen? ⟨w.heap.size, 0, none⟩ = false := heap_free (St.blk 0 H2 rfl) 0
      have f1 : w2.frozen? ⟨w.heap.size, 1, none⟩ = false := heap_free (St.blk 0 H2 rfl) 1
      have HD := Lib.hid H2
      clear H2
      go_wp2_with fail
      have HE := ((HD.out.set 0 rfl 0 (.bool false)).set 0 rfl 1 (.string (bsOf (itake st n).1)))
      refine bodyPost_ret (v := blV ⟨false, (itake st n).1⟩) (results_cell_row (by rfl) _ _ w.heap.size 26 #[.bool false, .string (bsOf (itake st n).1)] (0, 0) _ rfl (St.blk 0 HE rfl) Try.underlying26 rfl infoBl) rfl ?_
      exact ⟨_, _, _, rfl, ⟨by rw [HQ.out], by rw [HQ.out], rfl⟩, HE.drop_⟩
  · have HQ := Lib.hid (show bread st n = (⟨false, []⟩, st) by simp [bread, he])
    have hb : (st.err != 0) = true := bne_iff_ne.2 he
    clear he
    go_enter Try.func123, Try.ntmps123
    go_wp2_with fail
    refine (St.call 1 HB.out rfl (IErr_spec g _)).mono ?_
    rintro e w2 ⟨v, A', N, rfl, ⟨rfl, rfl, rfl⟩, H2⟩
    have d0 : w2.cell? ⟨w.heap.size, 0, none⟩ = some (.bool false) := heap_at (St.blk 0 H2 rfl) 0
    have d1 : w2.cell? ⟨w.heap.size, 1, none⟩ = some (.string ⟨#[]⟩) := heap_at (St.blk 0 H2 rfl) 1
    have f0 : w2.frozen? ⟨w.heap.size, 0, none⟩ = false := heap_free (St.blk 0 H2 rfl) 0
    have f1 : w2.frozen? ⟨w.heap.size, 1, none⟩ = false := heap_free (St.blk 0 H2 rfl) 1
    have HD := Lib.hid H2
    clear H2
    go_wp2_with fail
    have HE := ((HD.out.set 0 rfl 0 (.bool false)).set 0 rfl 1 (.string (bsOf [])))
    refine bodyPost_ret (v := blV ⟨false, []⟩) (results_cell_row (by rfl) _ _ w.heap.size 26 #[.bool false, .string (bsOf [])] (0, 0) _ rfl (St.blk 0 HE rfl) Try.underlying26 rfl infoBl) rfl ?_
    exact ⟨_, _, _, rfl, ⟨by rw [HQ.out], by rw [HQ.out], rfl⟩, HE.drop_⟩
/-! written, and read -/
theorem iint_range (st : I) (size : Int) : -9223372036854775808 ≤ (iint st size).1 ∧ (iint st size).1 ≤ 9223372036854775807 := by
  unfold iint
  split
  · rename_i hs
    have hl := itake_len st size
    simp only
    generalize (itake st size).1 = l at *
    by_cases hn : l = []
    · subst hn; simp [beInt]
    · have hr := beInt_range l hn
      have hp : (2 ^ (8 * l.length - 1) : Int) ≤ 9223372036854775808 := by
        have h1 : (2 ^ (8 * l.length - 1) : Nat) ≤ 2 ^ 63 := Nat.pow_le_pow_right (by decide) (by omega)
        have h2 : ((2 ^ (8 * l.length - 1) : Nat) : Int) ≤ ((2 ^ 63 : Nat) : Int) := Int.ofNat_le.2 h1
        rw [Int.natCast_pow, Int.natCast_pow] at h2
        exact h2
      generalize (2 ^ (8 * l.length - 1) : Int) = z at *
      omega
  · simp
theorem vback_rng (st : I) : -9223372036854775808 ≤ (vbackI (vread 32 st)).1 ∧ (vbackI (vread 32 st)).1 ≤ 9223372036854775807 := by
  have h := vread_lt64 32 (.inl rfl) st
  unfold vbackI vback
  simp only
  split <;> omega
theorem blen_range (b : Bl) (h : b.data.length ≤ 9223372036854775807) : -9223372036854775808 ≤ blen b ∧ blen b ≤ 9223372036854775807 := by unfold blen; split <;> omega
def bwrite (st : List UInt8 × Int) (b : Bl) : List UInt8 × Int := if bright b then oput st b.data else ofail st 4
def bputFixed (st : List UInt8 × Int) (b : Bl) (size : Int) : List UInt8 × Int := bwrite (oint st (blen b) size) b
def bputVaried (st : List UInt8 × Int) (b : Bl) : List UInt8 × Int := bwrite (vputInt st (blen b)) b
def bfixed (st : I) (size : Int) : Bl × I := bread (iint st size).2 (iint st size).1
def bvaried (st : I) : Bl × I := bread (vbackI (vread 32 st)).2 (vbackI (vread 32 st)).1
def bmust (r : Bl × I) : List UInt8 × I := (r.1.data, if r.1.null then ifail r.2 4 else r.2)
set_option maxRecDepth 100000 in
theorem BWrite_spec (g : Nat) (st : List UInt8 × Int) (b : Bl) (hl : st.1.length + b.data.length ≤ 140737488355328) :
    Spec Try.prog 127 #[.pointer (some ⟨g, 0, none⟩), blV b] (OutR g st) (fun v A' N => v = .tuple #[] ∧ A' = OutR g (bwrite st b) ∧ N = []) := by
  intro F w hA
  have HA := Lib.hid (St.start F w (Sep.one hA))
  clear hA
  have HB := Lib.hid (HA.out.alloc #[.bool b.null, .string (bsOf b.data)] 26)
  by_cases hr : bright b = true
  · have HQ := Lib.hid (show bwrite st b = oput st b.data by simp [bwrite, hr])
    have HR := Lib.hid hr
    clear hr
    go_enter Try.func127, Try.ntmps127
    go_wp2_with fail
    refine (St.call0 HB.out (BRight_spec b)).mono ?_
    rintro e w2 ⟨v, N, rfl, ⟨rfl, rfl⟩, H2⟩
    rw [HR.out]
    have d0 : w2.cell? ⟨w.heap.size, 0, none⟩ = some (.bool b.null) := heap_at (St.blk 0 H2 rfl) 0
    have d1 : w2.cell? ⟨w.heap.size, 1, none⟩ = some (.string (bsOf b.data)) := heap_at (St.blk 0 H2 rfl) 1
    have HD := Lib.hid H2
    clear H2
    go_wp2_with fail
    refine (St.call 1 HD.out rfl (Put_spec g st (bsOf b.data) (by rw [bsOf_size]; exact hl))).mono ?_
    rintro e w3 ⟨v, A', N, rfl, ⟨rfl, rfl, rfl⟩, H3⟩
    rw [bsOf_list] at H3
    have HE := Lib.hid H3
    clear H3
    go_wp2_with fail
    go_end0
    exact ⟨_, _, _, rfl, ⟨rfl, by rw [HQ.out], rfl⟩, HE.out.drop_⟩
  · have HQ := Lib.hid (show bwrite st b = ofail st 4 by simp [bwrite, hr])
    have HR := Lib.hid (show bright b = false by simpa using hr)
    clear hr
    go_enter Try.func127, Try.ntmps127
    go_wp2_with fail
    refine (St.call0 HB.out (BRight_spec b)).mono ?_
    rintro e w2 ⟨v, N, rfl, ⟨rfl, rfl⟩, H2⟩
    rw [HR.out]
    have HD := Lib.hid H2
    clear H2
    go_wp2_with fail
    refine (St.call 1 (HD).out rfl (Fail_spec g st 4)).mono ?_
    rintro e w1 ⟨v, A', N, rfl, ⟨rfl, rfl, rfl⟩, H1⟩
    try simp only [List.cons_append, List.nil_append, List.set_cons_zero, List.set_cons_succ, bsOf_list] at H1
    have HE := Lib.hid H1
    clear H1
    go_wp2_with fail
    go_end0
    exact ⟨_, _, _, rfl, ⟨rfl, by rw [HQ.out], rfl⟩, HE.out.drop_⟩
theorem oint_len (st : List UInt8 × Int) (n size : Int) : (oint st n size).1.length ≤ st.1.length + 8 := by
  unfold oint
  split
  · rename_i h
    have h1 := oput_len st (be n size.toNat)
    rw [be_length] at h1
    simp [fits] at h
    omega
  · unfold ofail; split <;> simp
set_option maxRecDepth 100000 in
theorem BPutFixed_spec (g : Nat) (st : List UInt8 × Int) (b : Bl) (size : Int) (h0 : -9223372036854775808 ≤ size) (h1 : size ≤ 9223372036854775807) (hl : st.1.length + 8 + b.data.length ≤ 140737488355328) :
    Spec Try.prog 83 #[.pointer (some ⟨g, 0, none⟩), blV b, .int .i64 size] (OutR g st) (fun v A' N => v = .tuple #[] ∧ A' = OutR g (bputFixed st b size) ∧ N = []) := by
  intro F w hA
  have HA := Lib.hid (St.start F w (Sep.one hA))
  clear hA
  have HB := Lib.hid (HA.out.alloc #[.bool b.null, .string (bsOf b.data)] 26)
  have hbl := blen_range b (by omega)
  have hb1 := hbl.1
  have hb2 := hbl.2
  clear hbl
  go_enter Try.func83, Try.ntmps83
  go_wp2_with fail
  refine (St.call0 HB.out (BLen_spec b)).mono ?_
  rintro e w2 ⟨v, N, rfl, ⟨rfl, rfl⟩, H2⟩
  have HC := Lib.hid H2
  clear H2
  go_wp2_with fail
  refine (St.call 1 HC.out rfl (OutInt_spec g st (blen b) size hb1 hb2 (by omega))).mono ?_
  rintro e w3 ⟨v, A', N, rfl, ⟨rfl, rfl, rfl⟩, H3⟩
  have d0 : w3.cell? ⟨w.heap.size, 0, none⟩ = some (.bool b.null) := heap_at (St.blk 0 H3 rfl) 0
  have d1 : w3.cell? ⟨w.heap.size, 1, none⟩ = some (.string (bsOf b.data)) := heap_at (St.blk 0 H3 rfl) 1
  have HD := Lib.hid H3
  clear H3
  go_wp2_with fail
  refine (St.call 1 HD.out rfl (BWrite_spec g _ b (by have := oint_len st (blen b) size; omega))).mono ?_
  rintro e w4 ⟨v, A', N, rfl, ⟨rfl, rfl, rfl⟩, H4⟩
  have HE := Lib.hid H4
  clear H4
  go_wp2_with fail
  go_end0
  exact ⟨_, _, _, rfl, ⟨rfl, rfl, rfl⟩, HE.out.drop_⟩
theorem vputInt_len (st : List UInt8 × Int) (n : Int) : (vputInt st n).1.length ≤ st.1.length + 10 := by
  unfold vputInt
  split
  · rename_i h
    have h1 := oput_len st (vput (vfold n))
    have h2 := vput_ten (vfold n) (vfold_lt n (by omega) (by omega))
    omega
  · unfold ofail; split <;> simp
set_option maxRecDepth 100000 in
theorem BPutVaried_spec (g : Nat) (st : List UInt8 × Int) (b : Bl) (hl : st.1.length + 10 + b.data.length ≤ 140737488355328) :
    Spec Try.prog 89 #[.pointer (some ⟨g, 0, none⟩), blV b] (OutR g st) (fun v A' N => v = .tuple #[] ∧ A' = OutR g (bputVaried st b) ∧ N = []) := by
  intro F w hA
  have HA := Lib.hid (St.start F w (Sep.one hA))
  clear hA
  have HB := Lib.hid (HA.out.alloc #[.bool b.null, .string (bsOf b.data)] 26)
  have hbl := blen_range b (by omega)
  have hb1 := hbl.1
  have hb2 := hbl.2
  clear hbl
  go_enter Try.func89, Try.ntmps89
  go_wp2_with fail
  refine (St.call0 HB.out (BLen_spec b)).mono ?_
  rintro e w2 ⟨v, N, rfl, ⟨rfl, rfl⟩, H2⟩
  have HC := Lib.hid H2
  clear H2
  go_wp2_with fail
  refine (St.call 1 HC.out rfl (VPutInt_spec g st (blen b) hb1 hb2 (by omega))).mono ?_
  rintro e w3 ⟨v, A', N, rfl, ⟨rfl, rfl, rfl⟩, H3⟩
  have d0 : w3.cell? ⟨w.heap.size, 0, none⟩ = some (.bool b.null) := heap_at (St.blk 0 H3 rfl) 0
  have d1 : w3.cell? ⟨w.heap.size, 1, none⟩ = some (.string (bsOf b.data)) := heap_at (St.blk 0 H3 rfl) 1
  have HD := Lib.hid H3
  clear H3
  go_wp2_with fail
  refine (St.call 1 HD.out rfl (BWrite_spec g _ b (by have := vputInt_len st (blen b); omega))).mono ?_
  rintro e w4 ⟨v, A', N, rfl, ⟨rfl, rfl, rfl⟩, H4⟩
  have HE := Lib.hid H4
  clear H4
  go_wp2_with fail
  go_end0
  exact ⟨_, _, _, rfl, ⟨rfl, rfl, rfl⟩, HE.out.drop_⟩
def bputText (st : List UInt8 × Int) (l : List UInt8) : List UInt8 × Int := bputFixed st ⟨false, l⟩ 2
set_option maxRecDepth 100000 in
theorem BPutText_spec (g : Nat) (st : List UInt8 × Int) (l : List UInt8) (hl : st.1.length + 8 + l.length ≤ 140737488355328) :
    Spec Try.prog 118 #[.pointer (some ⟨g, 0, none⟩), .string (bsOf l)] (OutR g st) (fun v A' N => v = .tuple #[] ∧ A' = OutR g (bputText st l) ∧ N = []) := by
  intro F w hA
  have HA := Lib.hid (St.start F w (Sep.one hA))
  clear hA
  go_enter Try.func118, Try.ntmps118
  go_wp2_with fail
  refine (St.call0 (HA).out (BOf_spec l)).mono ?_
  rintro e w1 ⟨v, N, rfl, ⟨rfl, rfl⟩, H1⟩
  try simp only [List.cons_append, List.nil_append, List.set_cons_zero, List.set_cons_succ, bsOf_list] at H1
  have HB := Lib.hid H1
  clear H1
  go_wp2_with fail
  refine (St.call 0 (HB).out rfl (BPutFixed_spec g st ⟨false, l⟩ 2 (by omega) (by omega) hl)).mono ?_
  rintro e w1 ⟨v, A', N, rfl, ⟨rfl, rfl, rfl⟩, H1⟩
  try simp only [List.cons_append, List.nil_append, List.set_cons_zero, List.set_cons_succ, bsOf_list] at H1
  have HC := Lib.hid H1
  clear H1
  go_wp2_with fail
  go_end0
  exact ⟨_, _, _, rfl, ⟨rfl, rfl, rfl⟩, HC.out⟩
def bputName (st : List UInt8 × Int) (l : List UInt8) : List UInt8 × Int := bputVaried st ⟨false, l⟩
set_option maxRecDepth 100000 in
theorem BPutName_spec (g : Nat) (st : List UInt8 × Int) (l : List UInt8) (hl : st.1.length + 10 + l.length ≤ 140737488355328) :
    Spec Try.prog 88 #[.pointer (some ⟨g, 0, none⟩), .string (bsOf l)] (OutR g st) (fun v A' N => v = .tuple #[] ∧ A' = OutR g (bputName st l) ∧ N = []) := by
  intro F w hA
  have HA := Lib.hid (St.start F w (Sep.one hA))
  clear hA
  go_enter Try.func88, Try.ntmps88
  go_wp2_with fail
  refine (St.call0 (HA).out (BOf_spec l)).mono ?_
  rintro e w1 ⟨v, N, rfl, ⟨rfl, rfl⟩, H1⟩
  try simp only [List.cons_append, List.nil_append, List.set_cons_zero, List.set_cons_succ, bsOf_list] at H1
  have HB := Lib.hid H1
  clear H1
  go_wp2_with fail
  refine (St.call 0 (HB).out rfl (BPutVaried_spec g st ⟨false, l⟩ hl)).mono ?_
  rintro e w1 ⟨v, A', N, rfl, ⟨rfl, rfl, rfl⟩, H1⟩
  try simp only [List.cons_append, List.nil_append, List.set_cons_zero, List.set_cons_succ, bsOf_list] at H1
  have HC := Lib.hid H1
  clear H1
  go_wp2_with fail
  go_end0
  exact ⟨_, _, _, rfl, ⟨rfl, rfl, rfl⟩, HC.out⟩
set_option maxRecDepth 100000 in
theorem BFixed_spec (g : Nat) (st : I) (size : Int) :
    Spec Try.prog 75 #[.pointer (some ⟨g, 0, none⟩), .int .i64 size] (InR g st) (fun v A' N => v = blV (bfixed st size).1 ∧ A' = InR g (bfixed st size).2 ∧ N = []) := by
  intro F w hA
  have HA := Lib.hid (St.start F w (Sep.one hA))
  clear hA
  have HB := Lib.hid (HA.out.alloc #[.bool false, .string ⟨#[]⟩] 26)
  go_enter Try.func75, Try.ntmps75
  go_wp2_with fail
  refine (St.call 1 (HB).out rfl (IInt_spec g st size)).mono ?_
  rintro e w1 ⟨v, A', N, rfl, ⟨rfl, rfl, rfl⟩, H1⟩
  try simp only [List.cons_append, List.nil_append, List.set_cons_zero, List.set_cons_succ, bsOf_list] at H1
  have HC := Lib.hid H1
  clear H1
  go_wp2_with fail
  refine (St.call 1 HC.out rfl (BRead_spec g _ _ (iint_range st size).1 (iint_range st size).2)).mono ?_
  rintro e w2 ⟨v, A', N, rfl, ⟨rfl, rfl, rfl⟩, H2⟩
  have d0 : w2.cell? ⟨w.heap.size, 0, none⟩ = some (.bool false) := heap_at (St.blk 0 H2 rfl) 0
  have d1 : w2.cell? ⟨w.heap.size, 1, none⟩ = some (.string ⟨#[]⟩) := heap_at (St.blk 0 H2 rfl) 1
  have f0 : w2.frozen? ⟨w.heap.size, 0, none⟩ = false := heap_free (St.blk 0 H2 rfl) 0
  have f1 : w2.frozen? ⟨w.heap.size, 1, none⟩ = false := heap_free (St.blk 0 H2 rfl) 1
  have HD := Lib.hid H2
  clear H2
  go_wp2_with fail
  have HE := ((HD.out.set 0 rfl 0 (.bool (bfixed st size).1.null)).set 0 rfl 1 (.string (bsOf (bfixed st size).1.data)))
  refine bodyPost_ret (v := blV (bfixed st size).1) (results_cell_row (by rfl) _ _ w.heap.size 26 #[.bool (bfixed st size).1.null, .string (bsOf (bfixed st size).1.data)] (0, 0) _ rfl (St.blk 0 HE rfl) Try.underlying26 rfl infoBl) rfl ?_
  exact ⟨_, _, _, rfl, ⟨rfl, rfl, rfl⟩, HE.drop_⟩
set_option maxRecDepth 100000 in
theorem BVaried_spec (g : Nat) (st : I) :
    Spec Try.prog 94 #[.pointer (some ⟨g, 0, none⟩)] (InR g st) (fun v A' N => v = blV (bvaried st).1 ∧ A' = InR g (bvaried st).2 ∧ N = []) := by
  intro F w hA
  have HA := Lib.hid (St.start F w (Sep.one hA))
  clear hA
  have HB := Lib.hid (HA.out.alloc #[.bool false, .string ⟨#[]⟩] 26)
  go_enter Try.func94, Try.ntmps94
  go_wp2_with fail
  refine (St.call 1 (HB).out rfl (VInt_spec g st)).mono ?_
  rintro e w1 ⟨v, A', N, rfl, ⟨rfl, rfl, rfl⟩, H1⟩
  try simp only [List.cons_append, List.nil_append, List.set_cons_zero, List.set_cons_succ, bsOf_list] at H1
  have HC := Lib.hid H1
  clear H1
  go_wp2_with fail
  refine (St.call 1 HC.out rfl (BRead_spec g _ _ (vback_rng st).1 (vback_rng st).2)).mono ?_
  rintro e w2 ⟨v, A', N, rfl, ⟨rfl, rfl, rfl⟩, H2⟩
  have d0 : w2.cell? ⟨w.heap.size, 0, none⟩ = some (.bool false) := heap_at (St.blk 0 H2 rfl) 0
  have d1 : w2.cell? ⟨w.heap.size, 1, none⟩ = some (.string ⟨#[]⟩) := heap_at (St.blk 0 H2 rfl) 1
  have f0 : w2.frozen? ⟨w.heap.size, 0, none⟩ = false := heap_free (St.blk 0 H2 rfl) 0
  have f1 : w2.frozen? ⟨w.heap.size, 1, none⟩ = false := heap_free (St.blk 0 H2 rfl) 1
  have HD := Lib.hid H2
  clear H2
  go_wp2_with fail
  have HE := ((HD.out.set 0 rfl 0 (.bool (bvaried st).1.null)).set 0 rfl 1 (.string (bsOf (bvaried st).1.data)))
  refine bodyPost_ret (v := blV (bvaried st).1) (results_cell_row (by rfl) _ _ w.heap.size 26 #[.bool (bvaried st).1.null, .string (bsOf (bvaried st).1.data)] (0, 0) _ rfl (St.blk 0 HE rfl) Try.underlying26 rfl infoBl) rfl ?_
  exact ⟨_, _, _, rfl, ⟨rfl, rfl, rfl⟩, HE.drop_⟩
set_option maxRecDepth 100000 in
theorem BMust_spec (g : Nat) (r : Bl × I) :
    Spec Try.prog 135 #[.pointer (some ⟨g, 0, none⟩), blV r.1] (InR g r.2) (fun v A' N => v = .string (bsOf (bmust r).1) ∧ A' = InR g (bmust r).2 ∧ N = []) := by
  intro F w hA
  obtain ⟨b, st⟩ := r
  obtain ⟨n, l⟩ := b
  have HA := Lib.hid (St.start F w (Sep.one hA))
  clear hA
  have HB := Lib.hid (HA.out.alloc #[.bool n, .string (bsOf l)] 26)
  cases n
  · go_enter Try.func135, Try.ntmps135
    go_wp2_with fail
    go_ret
    exact ⟨_, _, _, rfl, ⟨rfl, rfl, rfl⟩, HB.out.drop_⟩
  · go_enter Try.func135, Try.ntmps135
    go_wp2_with fail
    refine (St.call 1 HB.out rfl (IFail_spec g st 4)).mono ?_
    rintro e w2 ⟨v, A', N, rfl, ⟨rfl, rfl, rfl⟩, H2⟩
    have d1 : w2.cell? ⟨w.heap.size, 1, none⟩ = some (.string (bsOf l)) := heap_at (St.blk 0 H2 rfl) 1
    have HD := Lib.hid H2
    clear H2
    go_wp2_with fail
    go_ret
    exact ⟨_, _, _, rfl, ⟨rfl, rfl, rfl⟩, HD.out.drop_⟩
def btext (st : I) : List UInt8 × I := bmust (bfixed st 2)
set_option maxRecDepth 100000 in
theorem BText_spec (g : Nat) (st : I) :
    Spec Try.prog 112 #[.pointer (some ⟨g, 0, none⟩)] (InR g st) (fun v A' N => v = .string (bsOf (btext st).1) ∧ A' = InR g (btext st).2 ∧ N = []) := by
  intro F w hA
  have HA := Lib.hid (St.start F w (Sep.one hA))
  clear hA
  go_enter Try.func112, Try.ntmps112
  go_wp2_with fail
  refine (St.call 0 (HA).out rfl (BFixed_spec g st 2)).mono ?_
  rintro e w1 ⟨v, A', N, rfl, ⟨rfl, rfl, rfl⟩, H1⟩
  try simp only [List.cons_append, List.nil_append, List.set_cons_zero, List.set_cons_succ, bsOf_list] at H1
  have HB := Lib.hid H1
  clear H1
  go_wp2_with fail
  refine (St.call 0 (HB).out rfl (BMust_spec g (bfixed st 2))).mono ?_
  rintro e w1 ⟨v, A', N, rfl, ⟨rfl, rfl, rfl⟩, H1⟩
  try simp only [List.cons_append, List.nil_append, List.set_cons_zero, List.set_cons_succ, bsOf_list] at H1
  have HC := Lib.hid H1
  clear H1
  go_wp2_with fail
  go_ret
  exact ⟨_, _, _, rfl, ⟨rfl, rfl, rfl⟩, HC.out⟩
def bname (st : I) : List UInt8 × I := bmust (bvaried st)
set_option maxRecDepth 100000 in
theorem BName_spec (g : Nat) (st : I) :
    Spec Try.prog 93 #[.pointer (some ⟨g, 0, none⟩)] (InR g st) (fun v A' N => v = .string (bsOf (bname st).1) ∧ A' = InR g (bname st).2 ∧ N = []) := by
  intro F w hA
  have HA := Lib.hid (St.start F w (Sep.one hA))
  clear hA
  go_enter Try.func93, Try.ntmps93
  go_wp2_with fail
  refine (St.call 0 (HA).out rfl (BVaried_spec g st)).mono ?_
  rintro e w1 ⟨v, A', N, rfl, ⟨rfl, rfl, rfl⟩, H1⟩
  try simp only [List.cons_append, List.nil_append, List.set_cons_zero, List.set_cons_succ, bsOf_list] at H1
  have HB := Lib.hid H1
  clear H1
  go_wp2_with fail
  refine (St.call 0 (HB).out rfl (BMust_spec g (bvaried st))).mono ?_
  rintro e w1 ⟨v, A', N, rfl, ⟨rfl, rfl, rfl⟩, H1⟩
  try simp only [List.cons_append, List.nil_append, List.set_cons_zero, List.set_cons_succ, bsOf_list] at H1
  have HC := Lib.hid H1
  clear H1
  go_wp2_with fail
  go_ret
  exact ⟨_, _, _, rfl, ⟨rfl, rfl, rfl⟩, HC.out⟩
end Go.Proofs.Ytdlpmcbglmgpiaa.Sl
