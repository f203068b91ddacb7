/- BlobReads: its arguments, opened. -/
import Derived.Test.YtchfkhdifmpbkaaWf
namespace Go.Proofs.Ytchfkhdifmpbkaa.Sl
open Go.RowKit Go.Deep Go.ChangeShapes
set_option linter.unusedVariables false
end Go.Proofs.Ytchfkhdifmpbkaa.Sl
