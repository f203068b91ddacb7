/- version.Check in the generator's form. -/
import Derived.Test.YtdlpmcbglmgpiaaGb
import Derived.Test.YtdlpmcbglmgpiaaVer
namespace Go.Proofs.Ytdlpmcbglmgpiaa.Sl
open Go.RowKit
set_option linter.unusedVariables false
def gVCheck (k v : Int) : Option Int := some (vcheck k v)
theorem gVCheck_eq (k v : Int) : gVCheck k v = some (vcheck k v) := rfl
theorem gVCheck_spec (k v : Int) (r : Int) (h : gVCheck k v = some r) : SpecX Try.prog 73 #[.int .i64 k, .int .i64 v] .triv EmpR (fun u A' N => u = .int .i64 r ∧ A' = EmpR ∧ N = []) := by
  obtain rfl := Option.some.inj h
  exact SpecX.of_spec0_2 (VCheck_spec k v)
end Go.Proofs.Ytdlpmcbglmgpiaa.Sl
