/- attr.Of: the bits of a batch. -/
import Derived.Test.YtaakchnddcphkaaA
namespace Go.Proofs.Ytaakchnddcphkaa.Sl
open Go.RowKit
set_option linter.unusedVariables false
set_option linter.unusedSimpArgs false

def ofBits (a t c : Bool) : Int := (if a then 8 else 0) + (if t then 16 else 0) + (if c then 32 else 0)
theorem below_alloc {w W : World} (h : Below w.heap.size w W) (o : Obj) : Below w.heap.size w (W.alloc o) := h.alloc h.size o
set_option maxRecDepth 100000 in
set_option maxHeartbeats 4000000 in
theorem Of_any (i0 i1 i5 i6 i7 i8 i9 i10 : Int) (a t c : Bool) (A : Option Addr) (n k : Nat) (w : World) :
    Calls Try.prog 19 #[.agg #[.int .i64 i0, .int .i64 i1, .bool a, .bool t, .bool c, .int .i64 i5, .int .i64 i6, .int .i64 i7, .int .i64 i8, .int .i64 i9, .int .i64 i10, .slice A n k]] w fun e w' =>
      e = .returned (.int .i64 (ofBits a t c)) ∧ Below w.heap.size w w' := by
  have ix : ∀ (x0 x1 x2 x3 x4 x5: Value), (∀ w : World, (Instr.index 88 (.agg #[x0, x1, x2, x3, x4, x5]) (.int .i64 0)).run Try.prog w = .ok (.agg #[x0,x1]) w) ∧ (∀ w : World, (Instr.index 88 (.agg #[x0, x1, x2, x3, x4, x5]) (.int .i64 1)).run Try.prog w = .ok (.agg #[x2,x3]) w) ∧ (∀ w : World, (Instr.index 88 (.agg #[x0, x1, x2, x3, x4, x5]) (.int .i64 2)).run Try.prog w = .ok (.agg #[x4,x5]) w) := fun _ _ _ _ _ _ => ⟨fun _ => by kernel_rfl, fun _ => by kernel_rfl, fun _ => by kernel_rfl⟩
  cases a <;> cases t <;> cases c <;>
  · go_enter Try.func19, Try.ntmps19
    go_wp2_with fail
    refine wp_loop_rounds 4 ?_
    rw [rounds_succ]
    go_wp2_with fail
    rw [rounds_succ]
    go_wp2_with fail
    rw [rounds_succ]
    go_wp2_with fail
    rw [rounds_succ]
    go_wp2_with fail
    go_ret
    exact ⟨rfl, by repeat (first | exact Below.refl _ _ | refine below_alloc ?_ _)⟩
theorem Of_spec (i0 i1 i5 i6 i7 i8 i9 i10 : Int) (a t c : Bool) (A : Option Addr) (n k : Nat) :
    Spec0 Try.prog 19 #[.agg #[.int .i64 i0, .int .i64 i1, .bool a, .bool t, .bool c, .int .i64 i5, .int .i64 i6, .int .i64 i7, .int .i64 i8, .int .i64 i9, .int .i64 i10, .slice A n k]] (fun v N => v = .int .i64 (ofBits a t c) ∧ N = []) := by
  intro w
  refine (Of_any i0 i1 i5 i6 i7 i8 i9 i10 a t c A n k w).mono ?_
  rintro e w' ⟨rfl, hb⟩
  exact ⟨_, _, rfl, ⟨rfl, rfl⟩, Fr.of_below hb, trivial⟩
end Go.Proofs.Ytaakchnddcphkaa.Sl
