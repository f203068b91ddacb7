/- package cursitorref04: what each of its functions answers. -/
import Derived.Test.YtdlpmcbglmgpiaaBl
import Derived.Test.YtdlpmcbglmgpiaaR03
import Derived.Test.YtdlpmcbglmgpiaaR03g
import Derived.Test.YtdlpmcbglmgpiaaQ
namespace Go.Proofs.Ytdlpmcbglmgpiaa.Sl
open Go.RowKit
set_option linter.unusedVariables false
set_option linter.unusedSimpArgs false
theorem bsOf_append (a b : List UInt8) : bsOf a ++ bsOf b = bsOf (a ++ b) := by
  apply ByteArray.ext
  simp [bsOf]
attribute [local go_sem] bsOf_toList bsOf_size bsOf_append
set_option maxRecDepth 100000 in
theorem RBLen_spec (b : Bl) : Spec0 Try.prog 125 #[blV b] (fun v N => v = .int .i64 (blen b) ∧ N = []) := by
  intro w
  have HS := Lib.hid (St.nil_ w)
  obtain ⟨n, l⟩ := b
  cases n
  all_goals
    go_enter Try.func125, Try.ntmps125
    go_wp2_with fail
    go_ret
    exact ⟨_, _, rfl, ⟨rfl, rfl⟩, (HS.out.alloc _ _).drop_⟩
set_option maxRecDepth 100000 in
theorem RBFixed_spec (b : Bl) (k : Nat) (hk : k ≤ 8) (hl : b.data.length ≤ 140737488355328) : Spec0 Try.prog 80 #[blV b, .int .i64 k] (fun v N => v = .string (bsOf (be (blen b) k ++ b.data)) ∧ N = []) := by
  intro w
  have HS := Lib.hid ((St.nil_ w).alloc #[.bool b.null, .string (bsOf b.data)] 26)
  have hr := blen_range b (by omega)
  have hsum : (be (blen b) k).length + b.data.length ≤ 9223372036854775807 := by rw [be_length]; omega
  go_enter Try.func80, Try.ntmps80
  go_wp2_with fail
  refine wp_region_st HS.out (by kernel_rfl) (by kernel_rfl) ?_
  -- load
  refine wpQuiet_step (fun K hK => ?_)
  go_simp
  refine ⟨.agg #[.bool b.null, .string (bsOf b.data)], fun w1 hw1 => ?_, hK _ ?_⟩
  · have d0 : w1.cell? ⟨w.heap.size, 0, none⟩ = some (.bool b.null) := heap_at (St.blk 0 hw1 rfl) 0
    have d1 : w1.cell? ⟨w.heap.size, 1, none⟩ = some (.string (bsOf b.data)) := heap_at (St.blk 0 hw1 rfl) 1
    simp [d0, d1, Result.andThen]
  clear hK K
  -- call
  refine wpQuiet_step (fun K hK => ?_)
  go_simp
  refine ⟨.int .i64 (blen b), fun w1 hw1 => ?_, hK _ ?_⟩
  · exact (hw1.call0 (RBLen_spec b)).mono (by rintro e w2 ⟨v, N, rfl, ⟨rfl, rfl⟩, H⟩; exact ⟨rfl, H⟩)
  clear hK K
  refine wpQuiet_step (fun K hK => ?_)
  go_simp
  refine ⟨_, fun w1 hw1 => rfl, hK _ ?_⟩
  clear hK K
  refine wpQuiet_step (fun K hK => ?_)
  go_simp
  refine ⟨.string (bsOf (be (blen b) k)), fun w1 hw1 => ?_, hK _ ?_⟩
  · exact (hw1.call0 (RBytes_any (blen b) k hr.1 hr.2 hk)).mono (by rintro e w2 ⟨v, N, rfl, ⟨rfl, rfl⟩, H⟩; exact ⟨rfl, H⟩)
  clear hK K
  refine wpQuiet_step (fun K hK => ?_)
  go_simp
  refine ⟨_, fun w1 hw1 => rfl, hK _ ?_⟩
  clear hK K
  refine wpQuiet_step (fun K hK => ?_)
  go_simp
  refine ⟨.string (bsOf b.data), fun w1 hw1 => ?_, hK _ ?_⟩
  · have d1 : w1.cell? ⟨w.heap.size, 1, none⟩ = some (.string (bsOf b.data)) := heap_at (St.blk 0 hw1 rfl) 1
    simp [d1, Result.andThen]
  clear hK K
  refine wpQuiet_step (fun K hK => ?_)
  go_simp
  refine ⟨.string (bsOf (be (blen b) k ++ b.data)), fun w1 hw1 => ?_, hK _ ?_⟩
  · rw [if_neg (by omega)]
    exact ⟨rfl, rfl⟩
  clear hK K
  refine wpQuiet_step (fun K hK => ?_)
  go_simp
  refine ⟨_, fun w1 hw1 => rfl, hK _ ?_⟩
  clear hK K
  refine wpQuiet_nil ?_
  intro w1 hw1
  have HS1 := Lib.hid hw1
  clear hw1
  go_wp2_with fail
  go_ret
  exact ⟨_, _, rfl, ⟨rfl, rfl⟩, HS1.out.drop_⟩
set_option maxRecDepth 100000 in
theorem RBVaried_spec (b : Bl) (hl : b.data.length ≤ 140737488355328) : Spec0 Try.prog 91 #[blV b] (fun v N => v = .string (bsOf (vput (vfold (blen b)) ++ b.data)) ∧ N = []) := by
  intro w
  have HS := Lib.hid ((St.nil_ w).alloc #[.bool b.null, .string (bsOf b.data)] 26)
  have hr := blen_range b (by omega)
  have hv10 := vput_ten _ (vfold_lt (blen b) hr.1 hr.2)
  have hsum : (vput (vfold (blen b))).length + b.data.length ≤ 9223372036854775807 := by omega
  go_enter Try.func91, Try.ntmps91
  go_wp2_with fail
  refine wp_region_st HS.out (by kernel_rfl) (by kernel_rfl) ?_
  -- load
  refine wpQuiet_step (fun K hK => ?_)
  go_simp
  refine ⟨.agg #[.bool b.null, .string (bsOf b.data)], fun w1 hw1 => ?_, hK _ ?_⟩
  · have d0 : w1.cell? ⟨w.heap.size, 0, none⟩ = some (.bool b.null) := heap_at (St.blk 0 hw1 rfl) 0
    have d1 : w1.cell? ⟨w.heap.size, 1, none⟩ = some (.string (bsOf b.data)) := heap_at (St.blk 0 hw1 rfl) 1
    simp [d0, d1, Result.andThen]
  clear hK K
  -- call
  refine wpQuiet_step (fun K hK => ?_)
  go_simp
  refine ⟨.int .i64 (blen b), fun w1 hw1 => ?_, hK _ ?_⟩
  · exact (hw1.call0 (RBLen_spec b)).mono (by rintro e w2 ⟨v, N, rfl, ⟨rfl, rfl⟩, H⟩; exact ⟨rfl, H⟩)
  clear hK K
  refine wpQuiet_step (fun K hK => ?_)
  go_simp
  refine ⟨.int .u64 (vfold (blen b)), fun w1 hw1 => ?_, hK _ ?_⟩
  · exact (RFold_any (blen b) hr.1 hr.2 w1).mono (by rintro e w2 ⟨rfl, rfl⟩; exact ⟨rfl, hw1⟩)
  clear hK K
  refine wpQuiet_step (fun K hK => ?_)
  go_simp
  refine ⟨.string (bsOf (vput (vfold (blen b)))), fun w1 hw1 => ?_, hK _ ?_⟩
  · exact (hw1.call0 (RPut_spec (vfold (blen b)) (vfold_lt _ hr.1 hr.2))).mono (by rintro e w2 ⟨v, N, rfl, ⟨rfl, rfl⟩, H⟩; exact ⟨rfl, H⟩)
  clear hK K
  refine wpQuiet_step (fun K hK => ?_)
  go_simp
  refine ⟨_, fun w1 hw1 => rfl, hK _ ?_⟩
  clear hK K
  refine wpQuiet_step (fun K hK => ?_)
  go_simp
  refine ⟨.string (bsOf b.data), fun w1 hw1 => ?_, hK _ ?_⟩
  · have d1 : w1.cell? ⟨w.heap.size, 1, none⟩ = some (.string (bsOf b.data)) := heap_at (St.blk 0 hw1 rfl) 1
    simp [d1, Result.andThen]
  clear hK K
  refine wpQuiet_step (fun K hK => ?_)
  go_simp
  refine ⟨.string (bsOf (vput (vfold (blen b)) ++ b.data)), fun w1 hw1 => ?_, hK _ ?_⟩
  · rw [if_neg (by omega)]
    exact ⟨rfl, rfl⟩
  clear hK K
  refine wpQuiet_step (fun K hK => ?_)
  go_simp
  refine ⟨_, fun w1 hw1 => rfl, hK _ ?_⟩
  clear hK K
  refine wpQuiet_nil ?_
  intro w1 hw1
  have HS1 := Lib.hid hw1
  clear hw1
  go_wp2_with fail
  go_ret
  exact ⟨_, _, rfl, ⟨rfl, rfl⟩, HS1.out.drop_⟩
end Go.Proofs.Ytdlpmcbglmgpiaa.Sl
