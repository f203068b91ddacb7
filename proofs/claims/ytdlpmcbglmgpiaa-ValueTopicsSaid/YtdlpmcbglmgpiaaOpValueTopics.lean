/- ValueTopics: its arguments, opened. -/
import Derived.Test.YtdlpmcbglmgpiaaWf
namespace Go.Proofs.Ytdlpmcbglmgpiaa.Sl
open Go.RowKit Go.Deep Go.ChangeShapes
set_option linter.unusedVariables false
theorem op_Top {H : Type} {enc : TypeId × Value → H} : OpensW enc Try.prog 104 (andRd Top_rd wf_Top) :=
  opensW_weak (fun x => ⟨x.1, x.2.1⟩) (opensW_struct Try.underlying104 (by kernel_rfl) (opensWFs_cons 1 (by kernel_rfl) (by kernel_rfl) (op_str Try.underlying9) (opensWFs_cons 1 (by kernel_rfl) (by kernel_rfl) (op_slice 1 8 Try.underlying102 (by kernel_rfl) (by kernel_rfl) (by decide) (by decide) (op_i64 Try.underlying3)) (opensWFs_nil _)))) (by
    rintro w S cs ⟨x0, x1, _⟩ ⟨_, _, rfl, ⟨p0, q0⟩, _, _, rfl, ⟨p1, q1⟩, rfl⟩
    obtain rfl := p0
    obtain ⟨A1, c1, rfl⟩ := slice_cells p1
    exact ⟨⟨A1, c1, rfl, p1⟩, q0, q1⟩)
end Go.Proofs.Ytdlpmcbglmgpiaa.Sl
