/-
  No cell of these rows narrows 'for every input' (looked for: loops, veiled, ifaces, maps, wideKeys, modest, calm, conditions, laid).
  DERIVED. THE GIVEN ROWS OF THIS SEAT. 5 by the template 'for every input the law returns true; each argument reads behind the call as it read before'; 0 by the template 'total and deterministic' (their statements: YtahjmpipllajcaaTotals.lean).
  GIVEN WITH THE SEED: the statements are not yours to turn. If you find one false, say at which input.
  Laid BY PROGRAM, IN A SANDBOX (cutbox-rows.mjs): the forced cells as the released guide's own fill.sh prints them over the translation c9fb4d9b3c4cd238… (all of the seat's roots in one cut). By AI agents, Wed Nov 11 2026. No macro, syntax, notation, axiom, sorry.
-/
import Derived.Test.YtahjmpipllajcaaChecked
import GoSem.Claim
import GoSem.ClaimJoined
import GoSem.ClaimMapViews
import Derived.JoinedTies
import Derived.KernelRfl
namespace Go.Proofs.Ytahjmpipllajcaa
/- THE CELL 'sum', in the pinned program and in every row, IS THE sha256 OF THE DUMP (.gsa) THAT YtahjmpipllajcaaProg.lean LOADS. Nothing in Lean hashes anything: it is a label: what it is worth is what the hold of that sum in a sandbox is worth. -/
noncomputable def Try.pinned : Pinned := { name := "ytahjmpipllajcaa", sum := "c9fb4d9b3c4cd23857facfb6639a2f2470f22aa681e28996a7527c2f3a92b003", checked := Try.checked }
namespace Rows
def none {H : Type} : Left H := { results := [], args := [] }

/-- 'cursitorlaw23.ScanAgain': WHATEVER THE INPUT: true; the input reads as it did. -/
def scanAgainSpec : ChangeSpec := { name := "scanAgain", fn := fun _ => fun
  | [d] => { results := [.lit (.bool true)], args := [d] }
  | _ => none }
def scanAgainRow : OpenClaim := { program := "ytahjmpipllajcaa", sum := "c9fb4d9b3c4cd23857facfb6639a2f2470f22aa681e28996a7527c2f3a92b003", func := "cursitor/cursitorlaw23.ScanAgain", spec := "scanAgain", inPlace := ["internal/abi.NoEscape"], apart := false }
def ScanAgainSaid : Prop := scanAgainRow.holds Try.pinned (OpenSpec.ofChange scanAgainSpec)

/-- ITS FALSE NEIGHBOUR: 'it returns false'. Refute it at one input. -/
def scanAgainWrong : ChangeSpec := { name := "scanAgain", fn := fun _ => fun
  | [d] => { results := [.lit (.bool false)], args := [d] }
  | _ => none }
def ScanAgainWrongFalsely : Prop := scanAgainRow.holds Try.pinned (OpenSpec.ofChange scanAgainWrong)

/-- 'cursitortop.WholeChunks': WHATEVER THE INPUT: true; the input reads as it did. -/
def wholeChunksSpec : ChangeSpec := { name := "wholeChunks", fn := fun _ => fun
  | [d1, d2, d3] => { results := [.lit (.bool true)], args := [d1, d2, d3] }
  | _ => none }
def wholeChunksRow : OpenClaim := { program := "ytahjmpipllajcaa", sum := "c9fb4d9b3c4cd23857facfb6639a2f2470f22aa681e28996a7527c2f3a92b003", func := "cursitor/cursitortop.WholeChunks", spec := "wholeChunks", apart := false }
def WholeChunksSaid : Prop := wholeChunksRow.holds Try.pinned (OpenSpec.ofChange wholeChunksSpec)

/-- ITS FALSE NEIGHBOUR: 'it returns false'. Refute it at one input. -/
def wholeChunksWrong : ChangeSpec := { name := "wholeChunks", fn := fun _ => fun
  | [d1, d2, d3] => { results := [.lit (.bool false)], args := [d1, d2, d3] }
  | _ => none }
def WholeChunksWrongFalsely : Prop := wholeChunksRow.holds Try.pinned (OpenSpec.ofChange wholeChunksWrong)

/-- 'cursitorlaw24.TallyQuarters': WHATEVER THE INPUT: true; the input reads as it did. -/
def tallyQuartersSpec : ChangeSpec := { name := "tallyQuarters", fn := fun _ => fun
  | [d1, d2, d3] => { results := [.lit (.bool true)], args := [d1, d2, d3] }
  | _ => none }
def tallyQuartersRow : OpenClaim := { program := "ytahjmpipllajcaa", sum := "c9fb4d9b3c4cd23857facfb6639a2f2470f22aa681e28996a7527c2f3a92b003", func := "cursitor/cursitorlaw24.TallyQuarters", spec := "tallyQuarters", apart := false }
def TallyQuartersSaid : Prop := tallyQuartersRow.holds Try.pinned (OpenSpec.ofChange tallyQuartersSpec)

/-- ITS FALSE NEIGHBOUR: 'it returns false'. Refute it at one input. -/
def tallyQuartersWrong : ChangeSpec := { name := "tallyQuarters", fn := fun _ => fun
  | [d1, d2, d3] => { results := [.lit (.bool false)], args := [d1, d2, d3] }
  | _ => none }
def TallyQuartersWrongFalsely : Prop := tallyQuartersRow.holds Try.pinned (OpenSpec.ofChange tallyQuartersWrong)

/-- 'cursitorlaw24.TallyPoints': WHATEVER THE INPUT: true; the input reads as it did. -/
def tallyPointsSpec : ChangeSpec := { name := "tallyPoints", fn := fun _ => fun
  | [d] => { results := [.lit (.bool true)], args := [d] }
  | _ => none }
def tallyPointsRow : OpenClaim := { program := "ytahjmpipllajcaa", sum := "c9fb4d9b3c4cd23857facfb6639a2f2470f22aa681e28996a7527c2f3a92b003", func := "cursitor/cursitorlaw24.TallyPoints", spec := "tallyPoints", apart := false }
def TallyPointsSaid : Prop := tallyPointsRow.holds Try.pinned (OpenSpec.ofChange tallyPointsSpec)

/-- ITS FALSE NEIGHBOUR: 'it returns false'. Refute it at one input. -/
def tallyPointsWrong : ChangeSpec := { name := "tallyPoints", fn := fun _ => fun
  | [d] => { results := [.lit (.bool false)], args := [d] }
  | _ => none }
def TallyPointsWrongFalsely : Prop := tallyPointsRow.holds Try.pinned (OpenSpec.ofChange tallyPointsWrong)

/-- 'cursitortop.WholeTorn': WHATEVER THE INPUT: true; the input reads as it did. -/
def wholeTornSpec : ChangeSpec := { name := "wholeTorn", fn := fun _ => fun
  | [d1, d2, d3] => { results := [.lit (.bool true)], args := [d1, d2, d3] }
  | _ => none }
def wholeTornRow : OpenClaim := { program := "ytahjmpipllajcaa", sum := "c9fb4d9b3c4cd23857facfb6639a2f2470f22aa681e28996a7527c2f3a92b003", func := "cursitor/cursitortop.WholeTorn", spec := "wholeTorn", inPlace := ["internal/abi.NoEscape"], apart := false }
def WholeTornSaid : Prop := wholeTornRow.holds Try.pinned (OpenSpec.ofChange wholeTornSpec)

/-- ITS FALSE NEIGHBOUR: 'it returns false'. Refute it at one input. -/
def wholeTornWrong : ChangeSpec := { name := "wholeTorn", fn := fun _ => fun
  | [d1, d2, d3] => { results := [.lit (.bool false)], args := [d1, d2, d3] }
  | _ => none }
def WholeTornWrongFalsely : Prop := wholeTornRow.holds Try.pinned (OpenSpec.ofChange wholeTornWrong)

/- THE SECOND FORM. 'bulk': how many values and letters a reading holds, each counted each time it is reached (what is shared counts as often as it is met; a slice's spare places count too). A statement '..UptoSaid' is the law's where the arguments, and the package variables that the reading takes, are together of bulk at most 1048576: NARROWER than '..Said'. Prove '..Said' where nothing that the law and all that it calls make is longer than what came in: it says more and counts as full. Else prove '..UptoSaid'. A law counts once. -/
mutual
def uptoBulk {H : Type} : DataW H → Nat
  | .lit (.string bytes) => bytes.length + 1
  | .lit _ => 1
  | .nil => 1
  | .ptr d => uptoBulk d + 1
  | .slice elems spare => uptoBulkAll elems + uptoBulkAll spare + 1
  | .agg parts => uptoBulkAll parts + 1
  | .iface _ d => uptoBulk d + 1
  | .map entries => uptoBulkEntries entries + 1
  | .held _ => 1
def uptoBulkAll {H : Type} : List (DataW H) → Nat
  | [] => 0
  | d :: r => uptoBulk d + uptoBulkAll r
def uptoBulkEntries {H : Type} : List (Lit × DataW H) → Nat
  | [] => 0
  | x :: r => uptoBulkEntry x + uptoBulkEntries r
def uptoBulkEntry {H : Type} : Lit × DataW H → Nat
  | (.string bytes, d) => bytes.length + uptoBulk d + 1
  | (_, d) => uptoBulk d + 1
 end
def uptoSmall : (H : Type) → List (DataW H) → Bool := fun _ ds => decide (uptoBulkAll ds ≤ 1048576)
def OpenSpec.upto (s : _root_.Go.ChangeSpec) : _root_.Go.OpenSpec := { _root_.Go.OpenSpec.ofChange s with cond := some uptoSmall }

/-- 'cursitorlaw23.ScanAgain', WHERE WHAT IT READS IS OF BULK AT MOST 1048576: true; the input reads as it did. -/
def scanAgainUptoRow : OpenClaim := { program := "ytahjmpipllajcaa", sum := "c9fb4d9b3c4cd23857facfb6639a2f2470f22aa681e28996a7527c2f3a92b003", func := "cursitor/cursitorlaw23.ScanAgain", spec := "scanAgain", inPlace := ["internal/abi.NoEscape"], apart := false, narrowed := true }
def ScanAgainUptoSaid : Prop := scanAgainUptoRow.holds Try.pinned (OpenSpec.upto scanAgainSpec)

/-- 'cursitortop.WholeChunks', WHERE WHAT IT READS IS OF BULK AT MOST 1048576: true; the input reads as it did. -/
def wholeChunksUptoRow : OpenClaim := { program := "ytahjmpipllajcaa", sum := "c9fb4d9b3c4cd23857facfb6639a2f2470f22aa681e28996a7527c2f3a92b003", func := "cursitor/cursitortop.WholeChunks", spec := "wholeChunks", apart := false, narrowed := true }
def WholeChunksUptoSaid : Prop := wholeChunksUptoRow.holds Try.pinned (OpenSpec.upto wholeChunksSpec)

/-- 'cursitorlaw24.TallyQuarters', WHERE WHAT IT READS IS OF BULK AT MOST 1048576: true; the input reads as it did. -/
def tallyQuartersUptoRow : OpenClaim := { program := "ytahjmpipllajcaa", sum := "c9fb4d9b3c4cd23857facfb6639a2f2470f22aa681e28996a7527c2f3a92b003", func := "cursitor/cursitorlaw24.TallyQuarters", spec := "tallyQuarters", apart := false, narrowed := true }
def TallyQuartersUptoSaid : Prop := tallyQuartersUptoRow.holds Try.pinned (OpenSpec.upto tallyQuartersSpec)

/-- 'cursitorlaw24.TallyPoints', WHERE WHAT IT READS IS OF BULK AT MOST 1048576: true; the input reads as it did. -/
def tallyPointsUptoRow : OpenClaim := { program := "ytahjmpipllajcaa", sum := "c9fb4d9b3c4cd23857facfb6639a2f2470f22aa681e28996a7527c2f3a92b003", func := "cursitor/cursitorlaw24.TallyPoints", spec := "tallyPoints", apart := false, narrowed := true }
def TallyPointsUptoSaid : Prop := tallyPointsUptoRow.holds Try.pinned (OpenSpec.upto tallyPointsSpec)

/-- 'cursitortop.WholeTorn', WHERE WHAT IT READS IS OF BULK AT MOST 1048576: true; the input reads as it did. -/
def wholeTornUptoRow : OpenClaim := { program := "ytahjmpipllajcaa", sum := "c9fb4d9b3c4cd23857facfb6639a2f2470f22aa681e28996a7527c2f3a92b003", func := "cursitor/cursitortop.WholeTorn", spec := "wholeTorn", inPlace := ["internal/abi.NoEscape"], apart := false, narrowed := true }
def WholeTornUptoSaid : Prop := wholeTornUptoRow.holds Try.pinned (OpenSpec.upto wholeTornSpec)

end Rows
end Go.Proofs.Ytahjmpipllajcaa
