/- package version: what its functions answer. -/
import Derived.Test.YtdlpmcbglmgpiaaI
namespace Go.Proofs.Ytdlpmcbglmgpiaa.Sl
open Go.RowKit
set_option linter.unusedVariables false
set_option linter.unusedSimpArgs false

theorem vbelow {w W : World} (h : Below w.heap.size w W) (o : Obj) : Below w.heap.size w (W.alloc o) := h.alloc h.size o
theorem vset {w W : World} (h : Below w.heap.size w W) (i : Nat) (u : Value) : Below w.heap.size w (W.setCell ⟨w.heap.size, i, none⟩ u) := h.setCell (p := ⟨w.heap.size, i, none⟩) (Nat.le_refl _) u
theorem vbelow_then {w W W2 : World} (h : Below w.heap.size w W) (k : Below W.heap.size W W2) : Below w.heap.size w W2 := h.trans (k.mono h.size)
def vTable : Array Value := #[.int .i64 0, .string ⟨#[112, 114, 111, 100, 117, 99, 101]⟩, .int .i64 3, .int .i64 4, .int .i64 22, .string ⟨#[98, 101, 103, 105, 110]⟩, .int .i64 0, .int .i64 1,
  .int .i64 24, .string ⟨#[97, 100, 100]⟩, .int .i64 0, .int .i64 0, .int .i64 26, .string ⟨#[101, 110, 100]⟩, .int .i64 0, .int .i64 0, .int .i64 27, .string ⟨#[109, 97, 114, 107]⟩, .int .i64 0, .int .i64 1]
theorem vTable_one : vTable.all (·.oneCell') = true := by simp [vTable, Value.oneCell']
theorem info97 : (Try.prog.info? 203).map (·.size) = some 20 := by kernel_rfl
set_option maxRecDepth 100000 in
theorem table_any (w : World) :
    Calls Try.prog 150 #[] w fun e w' => e = .returned (.agg vTable) ∧ Below w.heap.size w w' := by
  have hi := info97
  go_enter Try.func150, Try.ntmps150
  go_wp2_with (refine wpList_store_new (w := w) rfl 203 _ _ rfl 203 _ vTable rfl rfl info97 rfl vTable_one ?_)
  refine bodyPost_ret (v := .agg vTable) ?_ rfl ?_
  · exact results_cell_row (by rfl) _ _ w.heap.size 203 vTable (0, 0) _ rfl (heap_alloc_new w _) Try.underlying203 rfl info97
  · exact ⟨rfl, (Below.refl _ _).alloc (Nat.le_refl _) _⟩

/-- A request's row, and whether there is one. -/
def vrow (k : Int) : Value × Bool :=
  if k = 0 then (.agg #[.int .i64 0, .string ⟨#[112, 114, 111, 100, 117, 99, 101]⟩, .int .i64 3, .int .i64 4], true)
  else if k = 22 then (.agg #[.int .i64 22, .string ⟨#[98, 101, 103, 105, 110]⟩, .int .i64 0, .int .i64 1], true)
  else if k = 24 then (.agg #[.int .i64 24, .string ⟨#[97, 100, 100]⟩, .int .i64 0, .int .i64 0], true)
  else if k = 26 then (.agg #[.int .i64 26, .string ⟨#[101, 110, 100]⟩, .int .i64 0, .int .i64 0], true)
  else if k = 27 then (.agg #[.int .i64 27, .string ⟨#[109, 97, 114, 107]⟩, .int .i64 0, .int .i64 1], true)
  else (.agg #[.int .i64 0, .string ⟨#[]⟩, .int .i64 0, .int .i64 0], false)
theorem row_kept {w w1 : World} {c : Array Value} {t : TypeId} (hb : Below (w.alloc (.cells c t)).heap.size (w.alloc (.cells c t)) w1) (i : Nat) : w1.cell? ⟨w.heap.size, i, none⟩ = c[i]? ∧ w1.frozen? ⟨w.heap.size, i, none⟩ = false := by
  have h : w1.heap[w.heap.size]? = some (.cells c t (0, 0)) := (hb.block w.heap.size (by simp)).trans (heap_alloc_new w _)
  exact ⟨heap_at h i, heap_free h i⟩
theorem row_lt_ {w w1 : World} {o : Obj} (hb : Below (w.alloc o).heap.size (w.alloc o) w1) : w.heap.size < w1.heap.size := by
  have := hb.size
  simp at this
  omega
set_option maxRecDepth 100000 in
set_option maxHeartbeats 4000000 in
theorem find_any (k : Int) (w : World) :
    Calls Try.prog 122 #[.int .i64 k] w fun e w' => e = .returned (.tuple #[(vrow k).1, .bool (vrow k).2]) ∧ Below w.heap.size w w' := by
  have i0 : ∀ w : World, (Instr.index 203 (.agg vTable) (.int .i64 0)).run Try.prog w = .ok (.agg #[.int .i64 0, .string ⟨#[112, 114, 111, 100, 117, 99, 101]⟩, .int .i64 3, .int .i64 4]) w := fun _ => by kernel_rfl
  have i1 : ∀ w : World, (Instr.index 203 (.agg vTable) (.int .i64 1)).run Try.prog w = .ok (.agg #[.int .i64 22, .string ⟨#[98, 101, 103, 105, 110]⟩, .int .i64 0, .int .i64 1]) w := fun _ => by kernel_rfl
  have i2 : ∀ w : World, (Instr.index 203 (.agg vTable) (.int .i64 2)).run Try.prog w = .ok (.agg #[.int .i64 24, .string ⟨#[97, 100, 100]⟩, .int .i64 0, .int .i64 0]) w := fun _ => by kernel_rfl
  have i3 : ∀ w : World, (Instr.index 203 (.agg vTable) (.int .i64 3)).run Try.prog w = .ok (.agg #[.int .i64 26, .string ⟨#[101, 110, 100]⟩, .int .i64 0, .int .i64 0]) w := fun _ => by kernel_rfl
  have i4 : ∀ w : World, (Instr.index 203 (.agg vTable) (.int .i64 4)).run Try.prog w = .ok (.agg #[.int .i64 27, .string ⟨#[109, 97, 114, 107]⟩, .int .i64 0, .int .i64 1]) w := fun _ => by kernel_rfl
  have way : k = 0 ∨ k = 22 ∨ k = 24 ∨ k = 26 ∨ k = 27 ∨ ((0 == k) = false ∧ (22 == k) = false ∧ (24 == k) = false ∧ (26 == k) = false ∧ (27 == k) = false ∧ vrow k = (.agg #[.int .i64 0, .string ⟨#[]⟩, .int .i64 0, .int .i64 0], false)) := by
    by_cases h0 : k = 0
    · simp [h0]
    by_cases h1 : k = 22
    · simp [h1]
    by_cases h2 : k = 24
    · simp [h2]
    by_cases h3 : k = 26
    · simp [h3]
    by_cases h4 : k = 27
    · simp [h4]
    refine .inr (.inr (.inr (.inr (.inr ⟨?_, ?_, ?_, ?_, ?_, by simp [vrow, h0, h1, h2, h3, h4]⟩))))
    all_goals (rw [beq_eq_false_iff_ne]; omega)
  rcases way with rfl | rfl | rfl | rfl | rfl | ⟨h0, h1, h2, h3, h4, hv⟩
  · go_enter Try.func122, Try.ntmps122
    go_wp2_with (go_at_call 150; refine (table_any _).mono ?_; rintro e w1 ⟨rfl, hb⟩; obtain ⟨d0, e0⟩ := row_kept hb 0; obtain ⟨d1, e1⟩ := row_kept hb 1; obtain ⟨d2, e2⟩ := row_kept hb 2; obtain ⟨d3, e3⟩ := row_kept hb 3; simp at d0 d1 d2 d3; have HB := Lib.hid hb; have hz := row_lt_ hb; have hz1 : w.heap.size < w1.heap.size + 1 := (by omega); have hz2 : w.heap.size < w1.heap.size + 1 + 1 := (by omega); have hz3 : w.heap.size < w1.heap.size + 1 + 1 + 1 := (by omega); have hz4 : w.heap.size < w1.heap.size + 1 + 1 + 1 + 1 := (by omega); have hz5 : w.heap.size < w1.heap.size + 1 + 1 + 1 + 1 + 1 := (by omega); clear hb)
    refine wp_loop_rounds 6 ?_
    repeat (rw [rounds_succ]; go_wp2_with fail)
    have hbel : Below w.heap.size w w1 := ((Below.refl _ _).alloc (Nat.le_refl _) _).trans (HB.out.mono (by simp))
    refine bodyPost_ret (v := .tuple #[(vrow 0).1, .bool (vrow 0).2]) ?_ rfl ⟨rfl, ?_⟩
    · simp [results, Try.results122, go_sem, d0, d1, d2, d3, hz, hz1, hz2, hz3, hz4, hz5, vrow]
    · repeat (first | (with_reducible exact hbel) | (with_reducible refine vset ?_ _ _) | (with_reducible refine vbelow ?_ _))
  · go_enter Try.func122, Try.ntmps122
    go_wp2_with (go_at_call 150; refine (table_any _).mono ?_; rintro e w1 ⟨rfl, hb⟩; obtain ⟨d0, e0⟩ := row_kept hb 0; obtain ⟨d1, e1⟩ := row_kept hb 1; obtain ⟨d2, e2⟩ := row_kept hb 2; obtain ⟨d3, e3⟩ := row_kept hb 3; simp at d0 d1 d2 d3; have HB := Lib.hid hb; have hz := row_lt_ hb; have hz1 : w.heap.size < w1.heap.size + 1 := (by omega); have hz2 : w.heap.size < w1.heap.size + 1 + 1 := (by omega); have hz3 : w.heap.size < w1.heap.size + 1 + 1 + 1 := (by omega); have hz4 : w.heap.size < w1.heap.size + 1 + 1 + 1 + 1 := (by omega); have hz5 : w.heap.size < w1.heap.size + 1 + 1 + 1 + 1 + 1 := (by omega); clear hb)
    refine wp_loop_rounds 6 ?_
    repeat (rw [rounds_succ]; go_wp2_with fail)
    have hbel : Below w.heap.size w w1 := ((Below.refl _ _).alloc (Nat.le_refl _) _).trans (HB.out.mono (by simp))
    refine bodyPost_ret (v := .tuple #[(vrow 22).1, .bool (vrow 22).2]) ?_ rfl ⟨rfl, ?_⟩
    · simp [results, Try.results122, go_sem, d0, d1, d2, d3, hz, hz1, hz2, hz3, hz4, hz5, vrow]
    · repeat (first | (with_reducible exact hbel) | (with_reducible refine vset ?_ _ _) | (with_reducible refine vbelow ?_ _))
  · go_enter Try.func122, Try.ntmps122
    go_wp2_with (go_at_call 150; refine (table_any _).mono ?_; rintro e w1 ⟨rfl, hb⟩; obtain ⟨d0, e0⟩ := row_kept hb 0; obtain ⟨d1, e1⟩ := row_kept hb 1; obtain ⟨d2, e2⟩ := row_kept hb 2; obtain ⟨d3, e3⟩ := row_kept hb 3; simp at d0 d1 d2 d3; have HB := Lib.hid hb; have hz := row_lt_ hb; have hz1 : w.heap.size < w1.heap.size + 1 := (by omega); have hz2 : w.heap.size < w1.heap.size + 1 + 1 := (by omega); have hz3 : w.heap.size < w1.heap.size + 1 + 1 + 1 := (by omega); have hz4 : w.heap.size < w1.heap.size + 1 + 1 + 1 + 1 := (by omega); have hz5 : w.heap.size < w1.heap.size + 1 + 1 + 1 + 1 + 1 := (by omega); clear hb)
    refine wp_loop_rounds 6 ?_
    repeat (rw [rounds_succ]; go_wp2_with fail)
    have hbel : Below w.heap.size w w1 := ((Below.refl _ _).alloc (Nat.le_refl _) _).trans (HB.out.mono (by simp))
    refine bodyPost_ret (v := .tuple #[(vrow 24).1, .bool (vrow 24).2]) ?_ rfl ⟨rfl, ?_⟩
    · simp [results, Try.results122, go_sem, d0, d1, d2, d3, hz, hz1, hz2, hz3, hz4, hz5, vrow]
    · repeat (first | (with_reducible exact hbel) | (with_reducible refine vset ?_ _ _) | (with_reducible refine vbelow ?_ _))
  · go_enter Try.func122, Try.ntmps122
    go_wp2_with (go_at_call 150; refine (table_any _).mono ?_; rintro e w1 ⟨rfl, hb⟩; obtain ⟨d0, e0⟩ := row_kept hb 0; obtain ⟨d1, e1⟩ := row_kept hb 1; obtain ⟨d2, e2⟩ := row_kept hb 2; obtain ⟨d3, e3⟩ := row_kept hb 3; simp at d0 d1 d2 d3; have HB := Lib.hid hb; have hz := row_lt_ hb; have hz1 : w.heap.size < w1.heap.size + 1 := (by omega); have hz2 : w.heap.size < w1.heap.size + 1 + 1 := (by omega); have hz3 : w.heap.size < w1.heap.size + 1 + 1 + 1 := (by omega); have hz4 : w.heap.size < w1.heap.size + 1 + 1 + 1 + 1 := (by omega); have hz5 : w.heap.size < w1.heap.size + 1 + 1 + 1 + 1 + 1 := (by omega); clear hb)
    refine wp_loop_rounds 6 ?_
    repeat (rw [rounds_succ]; go_wp2_with fail)
    have hbel : Below w.heap.size w w1 := ((Below.refl _ _).alloc (Nat.le_refl _) _).trans (HB.out.mono (by simp))
    refine bodyPost_ret (v := .tuple #[(vrow 26).1, .bool (vrow 26).2]) ?_ rfl ⟨rfl, ?_⟩
    · simp [results, Try.results122, go_sem, d0, d1, d2, d3, hz, hz1, hz2, hz3, hz4, hz5, vrow]
    · repeat (first | (with_reducible exact hbel) | (with_reducible refine vset ?_ _ _) | (with_reducible refine vbelow ?_ _))
  · go_enter Try.func122, Try.ntmps122
    go_wp2_with (go_at_call 150; refine (table_any _).mono ?_; rintro e w1 ⟨rfl, hb⟩; obtain ⟨d0, e0⟩ := row_kept hb 0; obtain ⟨d1, e1⟩ := row_kept hb 1; obtain ⟨d2, e2⟩ := row_kept hb 2; obtain ⟨d3, e3⟩ := row_kept hb 3; simp at d0 d1 d2 d3; have HB := Lib.hid hb; have hz := row_lt_ hb; have hz1 : w.heap.size < w1.heap.size + 1 := (by omega); have hz2 : w.heap.size < w1.heap.size + 1 + 1 := (by omega); have hz3 : w.heap.size < w1.heap.size + 1 + 1 + 1 := (by omega); have hz4 : w.heap.size < w1.heap.size + 1 + 1 + 1 + 1 := (by omega); have hz5 : w.heap.size < w1.heap.size + 1 + 1 + 1 + 1 + 1 := (by omega); clear hb)
    refine wp_loop_rounds 6 ?_
    repeat (rw [rounds_succ]; go_wp2_with fail)
    have hbel : Below w.heap.size w w1 := ((Below.refl _ _).alloc (Nat.le_refl _) _).trans (HB.out.mono (by simp))
    refine bodyPost_ret (v := .tuple #[(vrow 27).1, .bool (vrow 27).2]) ?_ rfl ⟨rfl, ?_⟩
    · simp [results, Try.results122, go_sem, d0, d1, d2, d3, hz, hz1, hz2, hz3, hz4, hz5, vrow]
    · repeat (first | (with_reducible exact hbel) | (with_reducible refine vset ?_ _ _) | (with_reducible refine vbelow ?_ _))
  · go_enter Try.func122, Try.ntmps122
    go_wp2_with (go_at_call 150; refine (table_any _).mono ?_; rintro e w1 ⟨rfl, hb⟩; obtain ⟨d0, e0⟩ := row_kept hb 0; obtain ⟨d1, e1⟩ := row_kept hb 1; obtain ⟨d2, e2⟩ := row_kept hb 2; obtain ⟨d3, e3⟩ := row_kept hb 3; simp at d0 d1 d2 d3; have HB := Lib.hid hb; have hz := row_lt_ hb; have hz1 : w.heap.size < w1.heap.size + 1 := (by omega); have hz2 : w.heap.size < w1.heap.size + 1 + 1 := (by omega); have hz3 : w.heap.size < w1.heap.size + 1 + 1 + 1 := (by omega); have hz4 : w.heap.size < w1.heap.size + 1 + 1 + 1 + 1 := (by omega); have hz5 : w.heap.size < w1.heap.size + 1 + 1 + 1 + 1 + 1 := (by omega); clear hb)
    refine wp_loop_rounds 6 ?_
    repeat (rw [rounds_succ]; go_wp2_with fail)
    have hbel : Below w.heap.size w w1 := ((Below.refl _ _).alloc (Nat.le_refl _) _).trans (HB.out.mono (by simp))
    refine bodyPost_ret (v := .tuple #[(vrow k).1, .bool (vrow k).2]) ?_ rfl ⟨rfl, ?_⟩
    · rw [hv]
      simp [results, Try.results122, go_sem, d0, d1, d2, d3, hz, hz1, hz2, hz3, hz4, hz5]
    · repeat (first | (with_reducible exact hbel) | (with_reducible refine vset ?_ _ _) | (with_reducible refine vbelow ?_ _))

theorem find_of (k : Int) (r : Value) (b : Bool) (h : vrow k = (r, b)) (w : World) :
    Calls Try.prog 122 #[.int .i64 k] w fun e w' => e = .returned (.tuple #[r, .bool b]) ∧ Below w.heap.size w w' := by
  have := find_any k w
  rwa [h] at this
/-- A request's least and greatest version, its name, and whether there is one. -/
def vKnown (k : Int) : Int × Int × ByteArray × Bool :=
  if k = 0 then (3, 4, ⟨#[112, 114, 111, 100, 117, 99, 101]⟩, true) else if k = 22 then (0, 1, ⟨#[98, 101, 103, 105, 110]⟩, true)
  else if k = 24 then (0, 0, ⟨#[97, 100, 100]⟩, true) else if k = 26 then (0, 0, ⟨#[101, 110, 100]⟩, true) else if k = 27 then (0, 1, ⟨#[109, 97, 114, 107]⟩, true) else (0, 0, ⟨#[]⟩, false)
theorem vrow_known (k : Int) : ∃ k2, vrow k = (.agg #[.int .i64 k2, .string (vKnown k).2.2.1, .int .i64 (vKnown k).1, .int .i64 (vKnown k).2.1], (vKnown k).2.2.2) := by
  by_cases h0 : k = 0
  · exact ⟨0, by simp [vrow, vKnown, h0]⟩
  by_cases h1 : k = 22
  · exact ⟨22, by simp [vrow, vKnown, h1]⟩
  by_cases h2 : k = 24
  · exact ⟨24, by simp [vrow, vKnown, h2]⟩
  by_cases h3 : k = 26
  · exact ⟨26, by simp [vrow, vKnown, h3]⟩
  by_cases h4 : k = 27
  · exact ⟨27, by simp [vrow, vKnown, h4]⟩
  exact ⟨0, by simp [vrow, vKnown, h0, h1, h2, h3, h4]⟩
def vcheck (k v : Int) : Int := if (vKnown k).2.2.2 = false then 12 else if v < (vKnown k).1 ∨ (vKnown k).2.1 < v then 7 else 0
set_option maxRecDepth 100000 in
theorem VCheck_spec (k v : Int) : Spec0 Try.prog 73 #[.int .i64 k, .int .i64 v] (fun r N => r = .int .i64 (vcheck k v) ∧ N = []) := by
  intro w
  obtain ⟨k2, hr⟩ := vrow_known k
  have HC := Lib.hid (show vcheck k v = if (vKnown k).2.2.2 = false then 12 else if v < (vKnown k).1 ∨ (vKnown k).2.1 < v then 7 else 0 from rfl)
  generalize vcheck k v = c at *
  generalize vKnown k = q at *
  obtain ⟨lo, hi, nm, ok⟩ := q
  simp only at hr
  have HF := Lib.hid (find_of k _ _ hr)
  clear hr
  have way : (ok = false ∧ c = 12) ∨ (ok = true ∧ v < lo ∧ c = 7) ∨ (ok = true ∧ ¬ v < lo ∧ hi < v ∧ c = 7) ∨ (ok = true ∧ ¬ v < lo ∧ ¬ hi < v ∧ c = 0) := by
    rw [HC.out]
    cases ok
    · simp
    · by_cases h1 : v < lo <;> by_cases h2 : hi < v <;> simp [h1, h2]
  clear HC
  rcases way with ⟨rfl, rfl⟩ | ⟨rfl, h1, rfl⟩ | ⟨rfl, h1, h2, rfl⟩ | ⟨rfl, h1, h2, rfl⟩
  all_goals
    go_enter Try.func73, Try.ntmps73
    go_wp2_with (go_at_call 122; refine (HF.out _).mono ?_; rintro e w1 ⟨rfl, hb⟩; have HB := Lib.hid hb; clear hb)
    go_ret
    exact ⟨_, _, rfl, ⟨rfl, rfl⟩, Fr.of_below (vbelow HB.out _), trivial⟩
end Go.Proofs.Ytdlpmcbglmgpiaa.Sl
