/- A region that draws its order, whose callees make blocks: the class of worlds in which these resources are. -/
import Derived.Test.YtdlpmcbglmgpiaaS
import Derived.Deep.Quiet
import Derived.Deep.QuietTactic
namespace Go.Proofs.Ytdlpmcbglmgpiaa.Sl
open Go.RowKit
set_option linter.unusedVariables false
theorem wp_region_st {P : Program} {id : Nat} {Q : Exit → Act → World → Prop} {a : Act} {w : World} {l : List Oper} {F0 : Nat → Prop} {w0 : World} {Rs : List Res} (hs : St F0 w0 Rs w)
    (hm : P.follows .mixedOrders = true) (hB : Region.lexB .any l.toArray = true)
    (h : wpQuiet P l.toArray (fun w' => St F0 w0 Rs w') (fun a' => ∀ w', St F0 w0 Rs w' → Q .normal a' w') l a) : (Code.region id l.toArray true).wp P Q a w := by
  refine wp_region_quiet (C := fun w' => St F0 w0 Rs w') hm hB ?_ (by simpa using h)
  exact hs.drew
end Go.Proofs.Ytdlpmcbglmgpiaa.Sl
