/-
  No cell of these rows narrows 'for every input' (looked for: loops, veiled, ifaces, maps, wideKeys, modest, calm, conditions, laid).
  DERIVED. THE GIVEN ROWS OF THIS SEAT. 7 by the template 'for every input the law returns true; each argument reads behind the call as it read before'; 0 by the template 'total and deterministic' (their statements: YtcoppaggpbfcmaaTotals.lean).
  GIVEN WITH THE SEED: the statements are not yours to turn. If you find one false, say at which input.
  Laid BY PROGRAM, IN A SANDBOX (cutbox-rows.mjs): the forced cells as the released guide's own fill.sh prints them over the translation 789a09b5f9778cf2… (all of the seat's roots in one cut). By AI agents, Wed Nov 11 2026. No macro, syntax, notation, axiom, sorry.
-/
import Derived.Test.YtcoppaggpbfcmaaChecked
import GoSem.Claim
import GoSem.ClaimJoined
import GoSem.ClaimMapViews
import Derived.JoinedTies
import Derived.KernelRfl
namespace Go.Proofs.Ytcoppaggpbfcmaa
/- THE CELL 'sum', in the pinned program and in every row, IS THE sha256 OF THE DUMP (.gsa) THAT YtcoppaggpbfcmaaProg.lean LOADS. Nothing in Lean hashes anything: it is a label: what it is worth is what the hold of that sum in a sandbox is worth. -/
noncomputable def Try.pinned : Pinned := { name := "ytcoppaggpbfcmaa", sum := "789a09b5f9778cf2248d54e699ddb10edfabdf4f71091c3fd7fa2feedf5bae24", checked := Try.checked }
namespace Rows
def none {H : Type} : Left H := { results := [], args := [] }

/-- 'cursitorlaw11.BatchControls': WHATEVER THE INPUT: true; the input reads as it did. -/
def batchControlsSpec : ChangeSpec := { name := "batchControls", fn := fun _ => fun
  | [d] => { results := [.lit (.bool true)], args := [d] }
  | _ => none }
def batchControlsRow : OpenClaim := { program := "ytcoppaggpbfcmaa", sum := "789a09b5f9778cf2248d54e699ddb10edfabdf4f71091c3fd7fa2feedf5bae24", func := "cursitor/cursitorlaw11.BatchControls", spec := "batchControls", apart := false }
def BatchControlsSaid : Prop := batchControlsRow.holds Try.pinned (OpenSpec.ofChange batchControlsSpec)

/-- ITS FALSE NEIGHBOUR: 'it returns false'. Refute it at one input. -/
def batchControlsWrong : ChangeSpec := { name := "batchControls", fn := fun _ => fun
  | [d] => { results := [.lit (.bool false)], args := [d] }
  | _ => none }
def BatchControlsWrongFalsely : Prop := batchControlsRow.holds Try.pinned (OpenSpec.ofChange batchControlsWrong)

/-- 'cursitorlaw11.BatchHarms': WHATEVER THE INPUT: true; the input reads as it did. -/
def batchHarmsSpec : ChangeSpec := { name := "batchHarms", fn := fun _ => fun
  | [d1, d2, d3] => { results := [.lit (.bool true)], args := [d1, d2, d3] }
  | _ => none }
def batchHarmsRow : OpenClaim := { program := "ytcoppaggpbfcmaa", sum := "789a09b5f9778cf2248d54e699ddb10edfabdf4f71091c3fd7fa2feedf5bae24", func := "cursitor/cursitorlaw11.BatchHarms", spec := "batchHarms", apart := false }
def BatchHarmsSaid : Prop := batchHarmsRow.holds Try.pinned (OpenSpec.ofChange batchHarmsSpec)

/-- ITS FALSE NEIGHBOUR: 'it returns false'. Refute it at one input. -/
def batchHarmsWrong : ChangeSpec := { name := "batchHarms", fn := fun _ => fun
  | [d1, d2, d3] => { results := [.lit (.bool false)], args := [d1, d2, d3] }
  | _ => none }
def BatchHarmsWrongFalsely : Prop := batchHarmsRow.holds Try.pinned (OpenSpec.ofChange batchHarmsWrong)

/-- 'cursitorlaw11.BatchEncodes': WHATEVER THE INPUT: true; the input reads as it did. -/
def batchEncodesSpec : ChangeSpec := { name := "batchEncodes", fn := fun _ => fun
  | [d] => { results := [.lit (.bool true)], args := [d] }
  | _ => none }
def batchEncodesRow : OpenClaim := { program := "ytcoppaggpbfcmaa", sum := "789a09b5f9778cf2248d54e699ddb10edfabdf4f71091c3fd7fa2feedf5bae24", func := "cursitor/cursitorlaw11.BatchEncodes", spec := "batchEncodes", unfollowed := true, recurses := true, apart := false }
def BatchEncodesSaid : Prop := batchEncodesRow.holds Try.pinned (OpenSpec.ofChange batchEncodesSpec)

/-- ITS FALSE NEIGHBOUR: 'it returns false'. Refute it at one input. -/
def batchEncodesWrong : ChangeSpec := { name := "batchEncodes", fn := fun _ => fun
  | [d] => { results := [.lit (.bool false)], args := [d] }
  | _ => none }
def BatchEncodesWrongFalsely : Prop := batchEncodesRow.holds Try.pinned (OpenSpec.ofChange batchEncodesWrong)

/-- 'cursitorlaw11.BatchRows': WHATEVER THE INPUT: true; the input reads as it did. -/
def batchRowsSpec : ChangeSpec := { name := "batchRows", fn := fun _ => fun
  | [d] => { results := [.lit (.bool true)], args := [d] }
  | _ => none }
def batchRowsRow : OpenClaim := { program := "ytcoppaggpbfcmaa", sum := "789a09b5f9778cf2248d54e699ddb10edfabdf4f71091c3fd7fa2feedf5bae24", func := "cursitor/cursitorlaw11.BatchRows", spec := "batchRows", inPlace := ["internal/abi.NoEscape"], unfollowed := true, recurses := true, apart := false }
def BatchRowsSaid : Prop := batchRowsRow.holds Try.pinned (OpenSpec.ofChange batchRowsSpec)

/-- ITS FALSE NEIGHBOUR: 'it returns false'. Refute it at one input. -/
def batchRowsWrong : ChangeSpec := { name := "batchRows", fn := fun _ => fun
  | [d] => { results := [.lit (.bool false)], args := [d] }
  | _ => none }
def BatchRowsWrongFalsely : Prop := batchRowsRow.holds Try.pinned (OpenSpec.ofChange batchRowsWrong)

/-- 'cursitortop.WholeMarkers': WHATEVER THE INPUT: true; the input reads as it did. -/
def wholeMarkersSpec : ChangeSpec := { name := "wholeMarkers", fn := fun _ => fun
  | [d1, d2] => { results := [.lit (.bool true)], args := [d1, d2] }
  | _ => none }
def wholeMarkersRow : OpenClaim := { program := "ytcoppaggpbfcmaa", sum := "789a09b5f9778cf2248d54e699ddb10edfabdf4f71091c3fd7fa2feedf5bae24", func := "cursitor/cursitortop.WholeMarkers", spec := "wholeMarkers", apart := false }
def WholeMarkersSaid : Prop := wholeMarkersRow.holds Try.pinned (OpenSpec.ofChange wholeMarkersSpec)

/-- ITS FALSE NEIGHBOUR: 'it returns false'. Refute it at one input. -/
def wholeMarkersWrong : ChangeSpec := { name := "wholeMarkers", fn := fun _ => fun
  | [d1, d2] => { results := [.lit (.bool false)], args := [d1, d2] }
  | _ => none }
def WholeMarkersWrongFalsely : Prop := wholeMarkersRow.holds Try.pinned (OpenSpec.ofChange wholeMarkersWrong)

/-- 'cursitorlaw20.ProduceSame': WHATEVER THE INPUT: true; the input reads as it did. -/
def produceSameSpec : ChangeSpec := { name := "produceSame", fn := fun _ => fun
  | [d1, d2] => { results := [.lit (.bool true)], args := [d1, d2] }
  | _ => none }
def produceSameRow : OpenClaim := { program := "ytcoppaggpbfcmaa", sum := "789a09b5f9778cf2248d54e699ddb10edfabdf4f71091c3fd7fa2feedf5bae24", func := "cursitor/cursitorlaw20.ProduceSame", spec := "produceSame", inPlace := ["internal/abi.NoEscape"], unfollowed := true, recurses := true, apart := false }
def ProduceSameSaid : Prop := produceSameRow.holds Try.pinned (OpenSpec.ofChange produceSameSpec)

/-- ITS FALSE NEIGHBOUR: 'it returns false'. Refute it at one input. -/
def produceSameWrong : ChangeSpec := { name := "produceSame", fn := fun _ => fun
  | [d1, d2] => { results := [.lit (.bool false)], args := [d1, d2] }
  | _ => none }
def ProduceSameWrongFalsely : Prop := produceSameRow.holds Try.pinned (OpenSpec.ofChange produceSameWrong)

/-- 'cursitorlaw20.ProduceBatches': WHATEVER THE INPUT: true; the input reads as it did. -/
def produceBatchesSpec : ChangeSpec := { name := "produceBatches", fn := fun _ => fun
  | [d1, d2] => { results := [.lit (.bool true)], args := [d1, d2] }
  | _ => none }
def produceBatchesRow : OpenClaim := { program := "ytcoppaggpbfcmaa", sum := "789a09b5f9778cf2248d54e699ddb10edfabdf4f71091c3fd7fa2feedf5bae24", func := "cursitor/cursitorlaw20.ProduceBatches", spec := "produceBatches", inPlace := ["internal/abi.NoEscape"], apart := false }
def ProduceBatchesSaid : Prop := produceBatchesRow.holds Try.pinned (OpenSpec.ofChange produceBatchesSpec)

/-- ITS FALSE NEIGHBOUR: 'it returns false'. Refute it at one input. -/
def produceBatchesWrong : ChangeSpec := { name := "produceBatches", fn := fun _ => fun
  | [d1, d2] => { results := [.lit (.bool false)], args := [d1, d2] }
  | _ => none }
def ProduceBatchesWrongFalsely : Prop := produceBatchesRow.holds Try.pinned (OpenSpec.ofChange produceBatchesWrong)

/- THE SECOND FORM. 'bulk': how many values and letters a reading holds, each counted each time it is reached (what is shared counts as often as it is met; a slice's spare places count too). A statement '..UptoSaid' is the law's where the arguments, and the package variables that the reading takes, are together of bulk at most 1048576: NARROWER than '..Said'. Prove '..Said' where nothing that the law and all that it calls make is longer than what came in: it says more and counts as full. Else prove '..UptoSaid'. A law counts once. -/
mutual
def uptoBulk {H : Type} : DataW H → Nat
  | .lit (.string bytes) => bytes.length + 1
  | .lit _ => 1
  | .nil => 1
  | .ptr d => uptoBulk d + 1
  | .slice elems spare => uptoBulkAll elems + uptoBulkAll spare + 1
  | .agg parts => uptoBulkAll parts + 1
  | .iface _ d => uptoBulk d + 1
  | .map entries => uptoBulkEntries entries + 1
  | .held _ => 1
def uptoBulkAll {H : Type} : List (DataW H) → Nat
  | [] => 0
  | d :: r => uptoBulk d + uptoBulkAll r
def uptoBulkEntries {H : Type} : List (Lit × DataW H) → Nat
  | [] => 0
  | x :: r => uptoBulkEntry x + uptoBulkEntries r
def uptoBulkEntry {H : Type} : Lit × DataW H → Nat
  | (.string bytes, d) => bytes.length + uptoBulk d + 1
  | (_, d) => uptoBulk d + 1
 end
def uptoSmall : (H : Type) → List (DataW H) → Bool := fun _ ds => decide (uptoBulkAll ds ≤ 1048576)
def OpenSpec.upto (s : _root_.Go.ChangeSpec) : _root_.Go.OpenSpec := { _root_.Go.OpenSpec.ofChange s with cond := some uptoSmall }

/-- 'cursitorlaw11.BatchControls', WHERE WHAT IT READS IS OF BULK AT MOST 1048576: true; the input reads as it did. -/
def batchControlsUptoRow : OpenClaim := { program := "ytcoppaggpbfcmaa", sum := "789a09b5f9778cf2248d54e699ddb10edfabdf4f71091c3fd7fa2feedf5bae24", func := "cursitor/cursitorlaw11.BatchControls", spec := "batchControls", apart := false, narrowed := true }
def BatchControlsUptoSaid : Prop := batchControlsUptoRow.holds Try.pinned (OpenSpec.upto batchControlsSpec)

/-- 'cursitorlaw11.BatchHarms', WHERE WHAT IT READS IS OF BULK AT MOST 1048576: true; the input reads as it did. -/
def batchHarmsUptoRow : OpenClaim := { program := "ytcoppaggpbfcmaa", sum := "789a09b5f9778cf2248d54e699ddb10edfabdf4f71091c3fd7fa2feedf5bae24", func := "cursitor/cursitorlaw11.BatchHarms", spec := "batchHarms", apart := false, narrowed := true }
def BatchHarmsUptoSaid : Prop := batchHarmsUptoRow.holds Try.pinned (OpenSpec.upto batchHarmsSpec)

/-- 'cursitorlaw11.BatchEncodes', WHERE WHAT IT READS IS OF BULK AT MOST 1048576: true; the input reads as it did. -/
def batchEncodesUptoRow : OpenClaim := { program := "ytcoppaggpbfcmaa", sum := "789a09b5f9778cf2248d54e699ddb10edfabdf4f71091c3fd7fa2feedf5bae24", func := "cursitor/cursitorlaw11.BatchEncodes", spec := "batchEncodes", unfollowed := true, recurses := true, apart := false, narrowed := true }
def BatchEncodesUptoSaid : Prop := batchEncodesUptoRow.holds Try.pinned (OpenSpec.upto batchEncodesSpec)

/-- 'cursitorlaw11.BatchRows', WHERE WHAT IT READS IS OF BULK AT MOST 1048576: true; the input reads as it did. -/
def batchRowsUptoRow : OpenClaim := { program := "ytcoppaggpbfcmaa", sum := "789a09b5f9778cf2248d54e699ddb10edfabdf4f71091c3fd7fa2feedf5bae24", func := "cursitor/cursitorlaw11.BatchRows", spec := "batchRows", inPlace := ["internal/abi.NoEscape"], unfollowed := true, recurses := true, apart := false, narrowed := true }
def BatchRowsUptoSaid : Prop := batchRowsUptoRow.holds Try.pinned (OpenSpec.upto batchRowsSpec)

/-- 'cursitortop.WholeMarkers', WHERE WHAT IT READS IS OF BULK AT MOST 1048576: true; the input reads as it did. -/
def wholeMarkersUptoRow : OpenClaim := { program := "ytcoppaggpbfcmaa", sum := "789a09b5f9778cf2248d54e699ddb10edfabdf4f71091c3fd7fa2feedf5bae24", func := "cursitor/cursitortop.WholeMarkers", spec := "wholeMarkers", apart := false, narrowed := true }
def WholeMarkersUptoSaid : Prop := wholeMarkersUptoRow.holds Try.pinned (OpenSpec.upto wholeMarkersSpec)

/-- 'cursitorlaw20.ProduceSame', WHERE WHAT IT READS IS OF BULK AT MOST 1048576: true; the input reads as it did. -/
def produceSameUptoRow : OpenClaim := { program := "ytcoppaggpbfcmaa", sum := "789a09b5f9778cf2248d54e699ddb10edfabdf4f71091c3fd7fa2feedf5bae24", func := "cursitor/cursitorlaw20.ProduceSame", spec := "produceSame", inPlace := ["internal/abi.NoEscape"], unfollowed := true, recurses := true, apart := false, narrowed := true }
def ProduceSameUptoSaid : Prop := produceSameUptoRow.holds Try.pinned (OpenSpec.upto produceSameSpec)

/-- 'cursitorlaw20.ProduceBatches', WHERE WHAT IT READS IS OF BULK AT MOST 1048576: true; the input reads as it did. -/
def produceBatchesUptoRow : OpenClaim := { program := "ytcoppaggpbfcmaa", sum := "789a09b5f9778cf2248d54e699ddb10edfabdf4f71091c3fd7fa2feedf5bae24", func := "cursitor/cursitorlaw20.ProduceBatches", spec := "produceBatches", inPlace := ["internal/abi.NoEscape"], apart := false, narrowed := true }
def ProduceBatchesUptoSaid : Prop := produceBatchesUptoRow.holds Try.pinned (OpenSpec.upto produceBatchesSpec)

end Rows
end Go.Proofs.Ytcoppaggpbfcmaa
