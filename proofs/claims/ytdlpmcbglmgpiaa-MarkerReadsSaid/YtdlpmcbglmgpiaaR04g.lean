/- package cursitorref04: what is read. -/
import Derived.Test.YtdlpmcbglmgpiaaR04
namespace Go.Proofs.Ytdlpmcbglmgpiaa.Sl
open Go.RowKit
set_option linter.unusedVariables false
set_option linter.unusedSimpArgs false
attribute [local go_sem] bsOf_toList bsOf_size bsOf_append
/-- What was read: how many bytes, the error. -/
structure Gt where
  blob : Bl
  many : Int
  err : Int
@[go_sem] def gtV (x : Gt) : Value := .agg #[.bool x.blob.null, .string (bsOf x.blob.data), .int .i64 x.many, .int .i64 x.err]
theorem infoGt : (Try.prog.info? 134).map (·.size) = some 4 := by kernel_rfl
def rgot (l : List UInt8) (head : Nat) (n : Int) : Gt :=
  if n = -1 then ⟨⟨true, []⟩, head, 0⟩ else if n < 0 then ⟨⟨false, []⟩, 0, 4⟩ else if (l.length : Int) - head < n then ⟨⟨false, []⟩, 0, 1⟩ else ⟨⟨false, (l.drop head).take n.toNat⟩, head + n, 0⟩
theorem bsOf_sub (l : List UInt8) (a : Nat) (n : Nat) : (bsOf l).extract a (a + n) = bsOf ((l.drop a).take n) := by rw [str_extract, bsOf_list, Nat.add_sub_cancel_left]
set_option maxRecDepth 100000 in
theorem RGot_spec (l : List UInt8) (head : Nat) (n : Int) (hh : head ≤ l.length) (hl : l.length ≤ 140737488355328) (h0 : -9223372036854775808 ≤ n) (h1 : n ≤ 9223372036854775807) :
    Spec0 Try.prog 124 #[.string (bsOf l), .int .i64 head, .int .i64 n] (fun v N => v = gtV (rgot l head n) ∧ N = []) := by
  intro w
  have HS := Lib.hid (St.nil_ w)
  by_cases a1 : n = -1
  · have HQ := Lib.hid (show rgot l head n = ⟨⟨true, []⟩, head, 0⟩ by unfold rgot; rw [if_pos a1])
    have hb : (n == -1) = true := by simp [a1]
    clear a1
    go_enter Try.func124, Try.ntmps124
    go_wp2_with fail
    refine bodyPost_ret (v := gtV ⟨⟨true, []⟩, head, 0⟩) (results_cell_row (by rfl) _ _ w.heap.size 134 #[.bool true, .string (bsOf []), .int .i64 head, .int .i64 0] (0, 0) _ rfl (heap_alloc_new w _) Try.underlying134 rfl infoGt) rfl ?_
    exact ⟨_, _, rfl, ⟨congrArg gtV HQ.out.symm, rfl⟩, (HS.out.alloc _ _).drop_⟩
  have hb : (n == -1) = false := beq_eq_false_iff_ne.2 a1
  by_cases a2 : n < 0
  · have HQ := Lib.hid (show rgot l head n = ⟨⟨false, []⟩, 0, 4⟩ by unfold rgot; rw [if_neg a1, if_pos a2])
    clear a1
    go_enter Try.func124, Try.ntmps124
    go_wp2_with fail
    refine bodyPost_ret (v := gtV ⟨⟨false, []⟩, 0, 4⟩) (results_cell_row (by rfl) _ _ w.heap.size 134 #[.bool false, .string (bsOf []), .int .i64 0, .int .i64 4] (0, 0) _ rfl (heap_alloc_new w _) Try.underlying134 rfl infoGt) rfl ?_
    exact ⟨_, _, rfl, ⟨congrArg gtV HQ.out.symm, rfl⟩, (HS.out.alloc _ _).drop_⟩
  by_cases a3 : (l.length : Int) - head < n
  · have HQ := Lib.hid (show rgot l head n = ⟨⟨false, []⟩, 0, 1⟩ by unfold rgot; rw [if_neg a1, if_neg a2, if_pos a3])
    clear a1
    go_enter Try.func124, Try.ntmps124
    go_wp2_with fail
    refine bodyPost_ret (v := gtV ⟨⟨false, []⟩, 0, 1⟩) (results_cell_row (by rfl) _ _ w.heap.size 134 #[.bool false, .string (bsOf []), .int .i64 0, .int .i64 1] (0, 0) _ rfl (heap_alloc_new w _) Try.underlying134 rfl infoGt) rfl ?_
    exact ⟨_, _, rfl, ⟨congrArg gtV HQ.out.symm, rfl⟩, (HS.out.alloc _ _).drop_⟩
  · obtain ⟨k, rfl⟩ : ∃ k : Nat, n = k := ⟨n.toNat, by omega⟩
    have HQ := Lib.hid (show rgot l head k = ⟨⟨false, (l.drop head).take k⟩, head + k, 0⟩ by unfold rgot; rw [if_neg a1, if_neg a2, if_neg a3]; rfl)
    have hx := bsOf_sub l head k
    clear a1 a2
    go_enter Try.func124, Try.ntmps124
    go_wp2_with fail
    refine bodyPost_ret (v := gtV ⟨⟨false, (l.drop head).take k⟩, head + k, 0⟩) (results_cell_row (by rfl) _ _ w.heap.size 134 #[.bool false, .string (bsOf ((l.drop head).take k)), .int .i64 (head + k), .int .i64 0] (0, 0) _ rfl ?_ Try.underlying134 rfl infoGt) rfl ?_
    · simp only [heap_alloc_new, hx]
    · exact ⟨_, _, rfl, ⟨congrArg gtV HQ.out.symm, rfl⟩, (HS.out.alloc _ _).drop_⟩
def rfixed (l : List UInt8) (k : Nat) : Gt := if l.length < k then ⟨⟨false, []⟩, 0, 1⟩ else rgot l k (beInt (l.take k))
theorem bsOf_take0 (l : List UInt8) (k : Nat) : (bsOf l).extract 0 k = bsOf (l.take k) := by rw [str_extract, bsOf_list]; simp
theorem beInt_rng (l : List UInt8) (h : l.length ≤ 8) : -9223372036854775808 ≤ beInt l ∧ beInt l ≤ 9223372036854775807 := by
  have h1 := iint_range ⟨l, 0, 0⟩ l.length
  by_cases hl : 1 ≤ l.length
  · have h2 := iint_all l 0 hl h []
    rw [List.append_nil] at h2
    rw [h2] at h1
    exact h1
  · have : l = [] := List.eq_nil_of_length_eq_zero (by omega)
    subst this
    simp [beInt]
attribute [local go_sem] bsOf_take0
set_option maxRecDepth 100000 in
theorem RFixed_spec (l : List UInt8) (k : Nat) (hk : k ≤ 8) (hl : l.length ≤ 140737488355328) :
    Spec0 Try.prog 78 #[.string (bsOf l), .int .i64 k] (fun v N => v = gtV (rfixed l k) ∧ N = []) := by
  intro w
  have HS := Lib.hid ((St.nil_ w).alloc #[.bool false, .string ⟨#[]⟩, .int .i64 0, .int .i64 0] 134)
  by_cases h : l.length < k
  · have HQ := Lib.hid (show rfixed l k = ⟨⟨false, []⟩, 0, 1⟩ by unfold rfixed; rw [if_pos h])
    go_enter Try.func78, Try.ntmps78
    go_wp2_with fail
    refine bodyPost_ret (v := gtV ⟨⟨false, []⟩, 0, 1⟩) (results_cell_row (by rfl) _ _ w.heap.size 134 #[.bool false, .string (bsOf []), .int .i64 0, .int .i64 1] (0, 0) _ rfl (heap_alloc_new w _) Try.underlying134 rfl infoGt) rfl ?_
    exact ⟨_, _, rfl, ⟨congrArg gtV HQ.out.symm, rfl⟩, ((St.nil_ w).alloc _ _).drop_⟩
  · have HQ := Lib.hid (show rfixed l k = rgot l k (beInt (l.take k)) by unfold rfixed; rw [if_neg h])
    have hb := beInt_rng (l.take k) (by rw [List.length_take]; omega)
    have hk1 : k ≤ l.length := by omega
    go_enter Try.func78, Try.ntmps78
    go_wp2_with fail
    refine ((RInt_any (l.take k) (by rw [List.length_take]; omega) _)).mono ?_
    rintro e w1 ⟨rfl, rfl⟩
    go_wp2_with fail
    refine (St.call0 HS.out (RGot_spec l k (beInt (l.take k)) hk1 hl hb.1 hb.2)).mono ?_
    rintro e w2 ⟨v, N, rfl, ⟨rfl, rfl⟩, H2⟩
    generalize hq : rgot l k (beInt (l.take k)) = q at *
    have d0 : w2.cell? ⟨w.heap.size, 0, none⟩ = some (.bool false) := heap_at (St.blk 0 H2 rfl) 0
    have f0 : w2.frozen? ⟨w.heap.size, 0, none⟩ = false := heap_free (St.blk 0 H2 rfl) 0
    have d1 : w2.cell? ⟨w.heap.size, 1, none⟩ = some (.string ⟨#[]⟩) := heap_at (St.blk 0 H2 rfl) 1
    have f1 : w2.frozen? ⟨w.heap.size, 1, none⟩ = false := heap_free (St.blk 0 H2 rfl) 1
    have d2 : w2.cell? ⟨w.heap.size, 2, none⟩ = some (.int .i64 0) := heap_at (St.blk 0 H2 rfl) 2
    have f2 : w2.frozen? ⟨w.heap.size, 2, none⟩ = false := heap_free (St.blk 0 H2 rfl) 2
    have d3 : w2.cell? ⟨w.heap.size, 3, none⟩ = some (.int .i64 0) := heap_at (St.blk 0 H2 rfl) 3
    have f3 : w2.frozen? ⟨w.heap.size, 3, none⟩ = false := heap_free (St.blk 0 H2 rfl) 3
    have HD := Lib.hid H2
    have HQ2 := Lib.hid hq
    clear H2 hq
    go_wp2_with fail
    have HE := (((HD.out.set 0 rfl 0 (.bool q.blob.null)).set 0 rfl 1 (.string (bsOf q.blob.data))).set 0 rfl 2 (.int .i64 q.many)).set 0 rfl 3 (.int .i64 q.err)
    refine bodyPost_ret (v := gtV q) (results_cell_row (by rfl) _ _ w.heap.size 134 #[.bool q.blob.null, .string (bsOf q.blob.data), .int .i64 q.many, .int .i64 q.err] (0, 0) _ rfl (St.blk 0 HE rfl) Try.underlying134 rfl infoGt) rfl ?_
    exact ⟨_, _, rfl, ⟨congrArg gtV HQ.out.symm, rfl⟩, HE.drop_⟩
def rvaried_ (l : List UInt8) (x : Nat × Nat × Int) : Gt := if x.2.2 ≠ 0 then ⟨⟨false, []⟩, 0, x.2.2⟩ else rgot l x.2.1 (vback x.1)
def rvaried (l : List UInt8) : Gt := rvaried_ l (vgot (vgo 32 l 0 0 0))
theorem vgo_pos (bs : Int) : ∀ (l : List UInt8) (pos acc i : Nat), (vgo bs l pos acc i).2.pos ≤ pos + l.length := by
  intro l
  induction l with
  | nil => intro pos acc i; simp [vgo]
  | cons c l ih =>
    intro pos acc i
    unfold vgo
    have h := ih (pos + 1) (acc + c.toNat % 128 * 2 ^ (7 * i)) (i + 1)
    simp only [List.length_cons]
    split
    · simp only; omega
    · split
      · omega
      · split
        · simp only; omega
        · simp only; omega
attribute [local go_sem] vgetV
set_option maxRecDepth 100000 in
theorem RVaried_spec (l : List UInt8) (hl : l.length ≤ 140737488355328) :
    Spec0 Try.prog 97 #[.string (bsOf l)] (fun v N => v = gtV (rvaried l) ∧ N = []) := by
  intro w
  have HS := Lib.hid ((St.nil_ w).alloc #[.bool false, .string ⟨#[]⟩, .int .i64 0, .int .i64 0] 134)
  have hq0 : rvaried l = rvaried_ l (vgot (vgo 32 l 0 0 0)) := rfl
  have hp := vgo_pos 32 l 0 0 0
  have hlt := vgo_lt 32 (.inl rfl) l 0 0 0 (by simp)
  rw [show 2 ^ (32 : Int).toNat = 4294967296 by decide] at hlt
  have hx1 : (vgot (vgo 32 l 0 0 0)).1 < 4294967296 := by unfold vgot; split; exact hlt; simp
  have hx2 : (vgot (vgo 32 l 0 0 0)).2.1 ≤ l.length := by unfold vgot; split; (simp only; omega); simp
  have HG := Lib.hid (RGet_any l 32 (.inl rfl) hl)
  generalize vgot (vgo 32 l 0 0 0) = x at *
  obtain ⟨n, many, er⟩ := x
  simp only at hx1 hx2
  clear hp hlt
  by_cases h : er ≠ 0
  · have HQ := Lib.hid (show rvaried l = ⟨⟨false, []⟩, 0, er⟩ by rw [hq0]; unfold rvaried_; rw [if_pos h])
    have hb : (er != 0) = true := bne_iff_ne.2 h
    clear h hq0
    go_enter Try.func97, Try.ntmps97
    go_wp2_with fail
    refine ((HG.out _)).mono ?_
    rintro e w1 ⟨rfl, rfl⟩
    go_wp2_with fail
    refine bodyPost_ret (v := gtV ⟨⟨false, []⟩, 0, er⟩) (results_cell_row (by rfl) _ _ w.heap.size 134 #[.bool false, .string (bsOf []), .int .i64 0, .int .i64 er] (0, 0) _ rfl (heap_alloc_new w _) Try.underlying134 rfl infoGt) rfl ?_
    exact ⟨_, _, rfl, ⟨congrArg gtV HQ.out.symm, rfl⟩, ((St.nil_ w).alloc _ _).drop_⟩
  · have h0 : er = 0 := by simpa using h
    have HQ := Lib.hid (show rvaried l = rgot l many (vback n) by rw [hq0]; unfold rvaried_; rw [if_neg h])
    have hb : (er != 0) = false := by simp [h0]
    have hvr : -9223372036854775808 ≤ vback n ∧ vback n ≤ 9223372036854775807 := by unfold vback; split <;> omega
    clear h h0 hq0
    go_enter Try.func97, Try.ntmps97
    go_wp2_with fail
    refine ((HG.out _)).mono ?_
    rintro e w1 ⟨rfl, rfl⟩
    go_wp2_with fail
    refine ((RBack_any n (by omega) _)).mono ?_
    rintro e w1 ⟨rfl, rfl⟩
    go_wp2_with fail
    refine (St.call0 HS.out (RGot_spec l many (vback n) hx2 hl hvr.1 hvr.2)).mono ?_
    rintro e w2 ⟨v, N, rfl, ⟨rfl, rfl⟩, H2⟩
    generalize hq : rgot l many (vback n) = q at *
    have d0 : w2.cell? ⟨w.heap.size, 0, none⟩ = some (.bool false) := heap_at (St.blk 0 H2 rfl) 0
    have f0 : w2.frozen? ⟨w.heap.size, 0, none⟩ = false := heap_free (St.blk 0 H2 rfl) 0
    have d1 : w2.cell? ⟨w.heap.size, 1, none⟩ = some (.string ⟨#[]⟩) := heap_at (St.blk 0 H2 rfl) 1
    have f1 : w2.frozen? ⟨w.heap.size, 1, none⟩ = false := heap_free (St.blk 0 H2 rfl) 1
    have d2 : w2.cell? ⟨w.heap.size, 2, none⟩ = some (.int .i64 0) := heap_at (St.blk 0 H2 rfl) 2
    have f2 : w2.frozen? ⟨w.heap.size, 2, none⟩ = false := heap_free (St.blk 0 H2 rfl) 2
    have d3 : w2.cell? ⟨w.heap.size, 3, none⟩ = some (.int .i64 0) := heap_at (St.blk 0 H2 rfl) 3
    have f3 : w2.frozen? ⟨w.heap.size, 3, none⟩ = false := heap_free (St.blk 0 H2 rfl) 3
    have HD := Lib.hid H2
    have HQ2 := Lib.hid hq
    clear H2 hq
    go_wp2_with fail
    have HE := (((HD.out.set 0 rfl 0 (.bool q.blob.null)).set 0 rfl 1 (.string (bsOf q.blob.data))).set 0 rfl 2 (.int .i64 q.many)).set 0 rfl 3 (.int .i64 q.err)
    refine bodyPost_ret (v := gtV q) (results_cell_row (by rfl) _ _ w.heap.size 134 #[.bool q.blob.null, .string (bsOf q.blob.data), .int .i64 q.many, .int .i64 q.err] (0, 0) _ rfl (St.blk 0 HE rfl) Try.underlying134 rfl infoGt) rfl ?_
    exact ⟨_, _, rfl, ⟨congrArg gtV HQ.out.symm, rfl⟩, HE.drop_⟩
end Go.Proofs.Ytdlpmcbglmgpiaa.Sl
