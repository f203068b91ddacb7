/- RequestWrites: its arguments, opened. -/
import Derived.Test.YtdlpmcbglmgpiaaWf
namespace Go.Proofs.Ytdlpmcbglmgpiaa.Sl
open Go.RowKit Go.Deep Go.ChangeShapes
set_option linter.unusedVariables false
theorem op_Bl {H : Type} {enc : TypeId × Value → H} : OpensW enc Try.prog 26 (andRd Bl_rd wf_Bl) :=
  opensW_weak (fun x => ⟨x.1, x.2.1⟩) (opensW_struct Try.underlying26 (by kernel_rfl) (opensWFs_cons 1 (by kernel_rfl) (by kernel_rfl) (op_bool Try.underlying4) (opensWFs_cons 1 (by kernel_rfl) (by kernel_rfl) (op_str Try.underlying9) (opensWFs_nil _)))) (by
    rintro w S cs ⟨x0, x1, _⟩ ⟨_, _, rfl, ⟨p0, q0⟩, _, _, rfl, ⟨p1, q1⟩, rfl⟩
    obtain rfl := p0
    obtain rfl := p1
    exact ⟨rfl, q0, q1⟩)
theorem op_Head {H : Type} {enc : TypeId × Value → H} : OpensW enc Try.prog 28 (andRd Head_rd wf_Head) :=
  opensW_weak (fun x => ⟨x.1, x.2.1, x.2.2.1, x.2.2.2.1⟩) (opensW_struct Try.underlying28 (by kernel_rfl) (opensWFs_cons 1 (by kernel_rfl) (by kernel_rfl) (op_i64 Try.underlying3) (opensWFs_cons 1 (by kernel_rfl) (by kernel_rfl) (op_i64 Try.underlying3) (opensWFs_cons 1 (by kernel_rfl) (by kernel_rfl) (op_i64 Try.underlying3) (opensWFs_cons 2 (by kernel_rfl) (by kernel_rfl) op_Bl (opensWFs_nil _)))))) (by
    rintro w S cs ⟨x0, x1, x2, x3, _⟩ ⟨_, _, rfl, ⟨p0, q0⟩, _, _, rfl, ⟨p1, q1⟩, _, _, rfl, ⟨p2, q2⟩, _, _, rfl, ⟨p3, q3⟩, rfl⟩
    obtain rfl := p0
    obtain rfl := p1
    obtain rfl := p2
    obtain rfl := p3
    exact ⟨rfl, q0, q1, q2, q3⟩)
end Go.Proofs.Ytdlpmcbglmgpiaa.Sl
