/- ValueDecodes: its arguments, opened. -/
import Derived.Test.YtdlpmcbglmgpiaaWf
namespace Go.Proofs.Ytdlpmcbglmgpiaa.Sl
open Go.RowKit Go.Deep Go.ChangeShapes
set_option linter.unusedVariables false
end Go.Proofs.Ytdlpmcbglmgpiaa.Sl
