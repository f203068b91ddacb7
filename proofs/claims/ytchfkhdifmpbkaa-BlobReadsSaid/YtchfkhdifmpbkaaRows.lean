/-
  No cell of these rows narrows 'for every input' (looked for: loops, veiled, ifaces, maps, wideKeys, modest, calm, conditions, laid).
  DERIVED. THE GIVEN ROWS OF THIS SEAT. 12 by the template 'for every input the law returns true; each argument reads behind the call as it read before'; 0 by the template 'total and deterministic' (their statements: YtchfkhdifmpbkaaTotals.lean).
  GIVEN WITH THE SEED: the statements are not yours to turn. If you find one false, say at which input.
  Laid BY PROGRAM, IN A SANDBOX (cutbox-rows.mjs): the forced cells as the released guide's own fill.sh prints them over the translation 57816b376dfae3cc… (all of the seat's roots in one cut). By AI agents, Wed Nov 11 2026. No macro, syntax, notation, axiom, sorry.
-/
import Derived.Test.YtchfkhdifmpbkaaChecked
import GoSem.Claim
import GoSem.ClaimJoined
import GoSem.ClaimMapViews
import Derived.JoinedTies
import Derived.KernelRfl
namespace Go.Proofs.Ytchfkhdifmpbkaa
/- THE CELL 'sum', in the pinned program and in every row, IS THE sha256 OF THE DUMP (.gsa) THAT YtchfkhdifmpbkaaProg.lean LOADS. Nothing in Lean hashes anything: it is a label: what it is worth is what the hold of that sum in a sandbox is worth. -/
noncomputable def Try.pinned : Pinned := { name := "ytchfkhdifmpbkaa", sum := "57816b376dfae3cc5ef6ac0ccdb9aecb67b04465a57ddcb4759211164e914b9b", checked := Try.checked }
namespace Rows
def none {H : Type} : Left H := { results := [], args := [] }

/-- 'cursitorlaw24.TallyQuarters': WHATEVER THE INPUT: true; the input reads as it did. -/
def tallyQuartersSpec : ChangeSpec := { name := "tallyQuarters", fn := fun _ => fun
  | [d1, d2, d3] => { results := [.lit (.bool true)], args := [d1, d2, d3] }
  | _ => none }
def tallyQuartersRow : OpenClaim := { program := "ytchfkhdifmpbkaa", sum := "57816b376dfae3cc5ef6ac0ccdb9aecb67b04465a57ddcb4759211164e914b9b", func := "cursitor/cursitorlaw24.TallyQuarters", spec := "tallyQuarters", apart := false }
def TallyQuartersSaid : Prop := tallyQuartersRow.holds Try.pinned (OpenSpec.ofChange tallyQuartersSpec)

/-- ITS FALSE NEIGHBOUR: 'it returns false'. Refute it at one input. -/
def tallyQuartersWrong : ChangeSpec := { name := "tallyQuarters", fn := fun _ => fun
  | [d1, d2, d3] => { results := [.lit (.bool false)], args := [d1, d2, d3] }
  | _ => none }
def TallyQuartersWrongFalsely : Prop := tallyQuartersRow.holds Try.pinned (OpenSpec.ofChange tallyQuartersWrong)

/-- 'cursitorlaw10.PrefixWrites': WHATEVER THE INPUT: true; the input reads as it did. -/
def prefixWritesSpec : ChangeSpec := { name := "prefixWrites", fn := fun _ => fun
  | [d] => { results := [.lit (.bool true)], args := [d] }
  | _ => none }
def prefixWritesRow : OpenClaim := { program := "ytchfkhdifmpbkaa", sum := "57816b376dfae3cc5ef6ac0ccdb9aecb67b04465a57ddcb4759211164e914b9b", func := "cursitor/cursitorlaw10.PrefixWrites", spec := "prefixWrites", apart := false }
def PrefixWritesSaid : Prop := prefixWritesRow.holds Try.pinned (OpenSpec.ofChange prefixWritesSpec)

/-- ITS FALSE NEIGHBOUR: 'it returns false'. Refute it at one input. -/
def prefixWritesWrong : ChangeSpec := { name := "prefixWrites", fn := fun _ => fun
  | [d] => { results := [.lit (.bool false)], args := [d] }
  | _ => none }
def PrefixWritesWrongFalsely : Prop := prefixWritesRow.holds Try.pinned (OpenSpec.ofChange prefixWritesWrong)

/-- 'cursitorlaw10.PrefixReads': WHATEVER THE INPUT: true; the input reads as it did. -/
def prefixReadsSpec : ChangeSpec := { name := "prefixReads", fn := fun _ => fun
  | [d] => { results := [.lit (.bool true)], args := [d] }
  | _ => none }
def prefixReadsRow : OpenClaim := { program := "ytchfkhdifmpbkaa", sum := "57816b376dfae3cc5ef6ac0ccdb9aecb67b04465a57ddcb4759211164e914b9b", func := "cursitor/cursitorlaw10.PrefixReads", spec := "prefixReads", apart := false }
def PrefixReadsSaid : Prop := prefixReadsRow.holds Try.pinned (OpenSpec.ofChange prefixReadsSpec)

/-- ITS FALSE NEIGHBOUR: 'it returns false'. Refute it at one input. -/
def prefixReadsWrong : ChangeSpec := { name := "prefixReads", fn := fun _ => fun
  | [d] => { results := [.lit (.bool false)], args := [d] }
  | _ => none }
def PrefixReadsWrongFalsely : Prop := prefixReadsRow.holds Try.pinned (OpenSpec.ofChange prefixReadsWrong)

/-- 'cursitorlaw08.ControlRecords': WHATEVER THE INPUT: true; the input reads as it did. -/
def controlRecordsSpec : ChangeSpec := { name := "controlRecords", fn := fun _ => fun
  | [d] => { results := [.lit (.bool true)], args := [d] }
  | _ => none }
def controlRecordsRow : OpenClaim := { program := "ytchfkhdifmpbkaa", sum := "57816b376dfae3cc5ef6ac0ccdb9aecb67b04465a57ddcb4759211164e914b9b", func := "cursitor/cursitorlaw08.ControlRecords", spec := "controlRecords", apart := false }
def ControlRecordsSaid : Prop := controlRecordsRow.holds Try.pinned (OpenSpec.ofChange controlRecordsSpec)

/-- ITS FALSE NEIGHBOUR: 'it returns false'. Refute it at one input. -/
def controlRecordsWrong : ChangeSpec := { name := "controlRecords", fn := fun _ => fun
  | [d] => { results := [.lit (.bool false)], args := [d] }
  | _ => none }
def ControlRecordsWrongFalsely : Prop := controlRecordsRow.holds Try.pinned (OpenSpec.ofChange controlRecordsWrong)

/-- 'cursitorlaw13.KeyEncodes': WHATEVER THE INPUT: true; the input reads as it did. -/
def keyEncodesSpec : ChangeSpec := { name := "keyEncodes", fn := fun _ => fun
  | [d] => { results := [.lit (.bool true)], args := [d] }
  | _ => none }
def keyEncodesRow : OpenClaim := { program := "ytchfkhdifmpbkaa", sum := "57816b376dfae3cc5ef6ac0ccdb9aecb67b04465a57ddcb4759211164e914b9b", func := "cursitor/cursitorlaw13.KeyEncodes", spec := "keyEncodes", apart := false }
def KeyEncodesSaid : Prop := keyEncodesRow.holds Try.pinned (OpenSpec.ofChange keyEncodesSpec)

/-- ITS FALSE NEIGHBOUR: 'it returns false'. Refute it at one input. -/
def keyEncodesWrong : ChangeSpec := { name := "keyEncodes", fn := fun _ => fun
  | [d] => { results := [.lit (.bool false)], args := [d] }
  | _ => none }
def KeyEncodesWrongFalsely : Prop := keyEncodesRow.holds Try.pinned (OpenSpec.ofChange keyEncodesWrong)

/-- 'cursitorlaw13.KeyDecodes': WHATEVER THE INPUT: true; the input reads as it did. -/
def keyDecodesSpec : ChangeSpec := { name := "keyDecodes", fn := fun _ => fun
  | [d] => { results := [.lit (.bool true)], args := [d] }
  | _ => none }
def keyDecodesRow : OpenClaim := { program := "ytchfkhdifmpbkaa", sum := "57816b376dfae3cc5ef6ac0ccdb9aecb67b04465a57ddcb4759211164e914b9b", func := "cursitor/cursitorlaw13.KeyDecodes", spec := "keyDecodes", apart := false }
def KeyDecodesSaid : Prop := keyDecodesRow.holds Try.pinned (OpenSpec.ofChange keyDecodesSpec)

/-- ITS FALSE NEIGHBOUR: 'it returns false'. Refute it at one input. -/
def keyDecodesWrong : ChangeSpec := { name := "keyDecodes", fn := fun _ => fun
  | [d] => { results := [.lit (.bool false)], args := [d] }
  | _ => none }
def KeyDecodesWrongFalsely : Prop := keyDecodesRow.holds Try.pinned (OpenSpec.ofChange keyDecodesWrong)

/-- 'cursitorlaw08.ControlWrites': WHATEVER THE INPUT: true; the input reads as it did. -/
def controlWritesSpec : ChangeSpec := { name := "controlWrites", fn := fun _ => fun
  | [d1, d2] => { results := [.lit (.bool true)], args := [d1, d2] }
  | _ => none }
def controlWritesRow : OpenClaim := { program := "ytchfkhdifmpbkaa", sum := "57816b376dfae3cc5ef6ac0ccdb9aecb67b04465a57ddcb4759211164e914b9b", func := "cursitor/cursitorlaw08.ControlWrites", spec := "controlWrites", apart := false }
def ControlWritesSaid : Prop := controlWritesRow.holds Try.pinned (OpenSpec.ofChange controlWritesSpec)

/-- ITS FALSE NEIGHBOUR: 'it returns false'. Refute it at one input. -/
def controlWritesWrong : ChangeSpec := { name := "controlWrites", fn := fun _ => fun
  | [d1, d2] => { results := [.lit (.bool false)], args := [d1, d2] }
  | _ => none }
def ControlWritesWrongFalsely : Prop := controlWritesRow.holds Try.pinned (OpenSpec.ofChange controlWritesWrong)

/-- 'cursitortop.WholeNumbers': WHATEVER THE INPUT: true; the input reads as it did. -/
def wholeNumbersSpec : ChangeSpec := { name := "wholeNumbers", fn := fun _ => fun
  | [d1, d2] => { results := [.lit (.bool true)], args := [d1, d2] }
  | _ => none }
def wholeNumbersRow : OpenClaim := { program := "ytchfkhdifmpbkaa", sum := "57816b376dfae3cc5ef6ac0ccdb9aecb67b04465a57ddcb4759211164e914b9b", func := "cursitor/cursitortop.WholeNumbers", spec := "wholeNumbers", apart := false }
def WholeNumbersSaid : Prop := wholeNumbersRow.holds Try.pinned (OpenSpec.ofChange wholeNumbersSpec)

/-- ITS FALSE NEIGHBOUR: 'it returns false'. Refute it at one input. -/
def wholeNumbersWrong : ChangeSpec := { name := "wholeNumbers", fn := fun _ => fun
  | [d1, d2] => { results := [.lit (.bool false)], args := [d1, d2] }
  | _ => none }
def WholeNumbersWrongFalsely : Prop := wholeNumbersRow.holds Try.pinned (OpenSpec.ofChange wholeNumbersWrong)

/-- 'cursitorlaw04.BlobWrites': WHATEVER THE INPUT: true; the input reads as it did. -/
def blobWritesSpec : ChangeSpec := { name := "blobWrites", fn := fun _ => fun
  | [d1, d2] => { results := [.lit (.bool true)], args := [d1, d2] }
  | _ => none }
def blobWritesRow : OpenClaim := { program := "ytchfkhdifmpbkaa", sum := "57816b376dfae3cc5ef6ac0ccdb9aecb67b04465a57ddcb4759211164e914b9b", func := "cursitor/cursitorlaw04.BlobWrites", spec := "blobWrites", apart := false }
def BlobWritesSaid : Prop := blobWritesRow.holds Try.pinned (OpenSpec.ofChange blobWritesSpec)

/-- ITS FALSE NEIGHBOUR: 'it returns false'. Refute it at one input. -/
def blobWritesWrong : ChangeSpec := { name := "blobWrites", fn := fun _ => fun
  | [d1, d2] => { results := [.lit (.bool false)], args := [d1, d2] }
  | _ => none }
def BlobWritesWrongFalsely : Prop := blobWritesRow.holds Try.pinned (OpenSpec.ofChange blobWritesWrong)

/-- 'cursitorlaw04.BlobReads': WHATEVER THE INPUT: true; the input reads as it did. -/
def blobReadsSpec : ChangeSpec := { name := "blobReads", fn := fun _ => fun
  | [d1, d2] => { results := [.lit (.bool true)], args := [d1, d2] }
  | _ => none }
def blobReadsRow : OpenClaim := { program := "ytchfkhdifmpbkaa", sum := "57816b376dfae3cc5ef6ac0ccdb9aecb67b04465a57ddcb4759211164e914b9b", func := "cursitor/cursitorlaw04.BlobReads", spec := "blobReads", apart := false }
def BlobReadsSaid : Prop := blobReadsRow.holds Try.pinned (OpenSpec.ofChange blobReadsSpec)

/-- ITS FALSE NEIGHBOUR: 'it returns false'. Refute it at one input. -/
def blobReadsWrong : ChangeSpec := { name := "blobReads", fn := fun _ => fun
  | [d1, d2] => { results := [.lit (.bool false)], args := [d1, d2] }
  | _ => none }
def BlobReadsWrongFalsely : Prop := blobReadsRow.holds Try.pinned (OpenSpec.ofChange blobReadsWrong)

/-- 'cursitorlaw04.BlobBack': WHATEVER THE INPUT: true; the input reads as it did. -/
def blobBackSpec : ChangeSpec := { name := "blobBack", fn := fun _ => fun
  | [d1, d2] => { results := [.lit (.bool true)], args := [d1, d2] }
  | _ => none }
def blobBackRow : OpenClaim := { program := "ytchfkhdifmpbkaa", sum := "57816b376dfae3cc5ef6ac0ccdb9aecb67b04465a57ddcb4759211164e914b9b", func := "cursitor/cursitorlaw04.BlobBack", spec := "blobBack", apart := false }
def BlobBackSaid : Prop := blobBackRow.holds Try.pinned (OpenSpec.ofChange blobBackSpec)

/-- ITS FALSE NEIGHBOUR: 'it returns false'. Refute it at one input. -/
def blobBackWrong : ChangeSpec := { name := "blobBack", fn := fun _ => fun
  | [d1, d2] => { results := [.lit (.bool false)], args := [d1, d2] }
  | _ => none }
def BlobBackWrongFalsely : Prop := blobBackRow.holds Try.pinned (OpenSpec.ofChange blobBackWrong)

/-- 'cursitortop.WholeFields': WHATEVER THE INPUT: true; the input reads as it did. -/
def wholeFieldsSpec : ChangeSpec := { name := "wholeFields", fn := fun _ => fun
  | [d1, d2, d3] => { results := [.lit (.bool true)], args := [d1, d2, d3] }
  | _ => none }
def wholeFieldsRow : OpenClaim := { program := "ytchfkhdifmpbkaa", sum := "57816b376dfae3cc5ef6ac0ccdb9aecb67b04465a57ddcb4759211164e914b9b", func := "cursitor/cursitortop.WholeFields", spec := "wholeFields", unfollowed := true, recurses := true, apart := false }
def WholeFieldsSaid : Prop := wholeFieldsRow.holds Try.pinned (OpenSpec.ofChange wholeFieldsSpec)

/-- ITS FALSE NEIGHBOUR: 'it returns false'. Refute it at one input. -/
def wholeFieldsWrong : ChangeSpec := { name := "wholeFields", fn := fun _ => fun
  | [d1, d2, d3] => { results := [.lit (.bool false)], args := [d1, d2, d3] }
  | _ => none }
def WholeFieldsWrongFalsely : Prop := wholeFieldsRow.holds Try.pinned (OpenSpec.ofChange wholeFieldsWrong)

/- THE SECOND FORM. 'bulk': how many values and letters a reading holds, each counted each time it is reached (what is shared counts as often as it is met; a slice's spare places count too). A statement '..UptoSaid' is the law's where the arguments, and the package variables that the reading takes, are together of bulk at most 1048576: NARROWER than '..Said'. Prove '..Said' where nothing that the law and all that it calls make is longer than what came in: it says more and counts as full. Else prove '..UptoSaid'. A law counts once. -/
mutual
def uptoBulk {H : Type} : DataW H → Nat
  | .lit (.string bytes) => bytes.length + 1
  | .lit _ => 1
  | .nil => 1
  | .ptr d => uptoBulk d + 1
  | .slice elems spare => uptoBulkAll elems + uptoBulkAll spare + 1
  | .agg parts => uptoBulkAll parts + 1
  | .iface _ d => uptoBulk d + 1
  | .map entries => uptoBulkEntries entries + 1
  | .held _ => 1
def uptoBulkAll {H : Type} : List (DataW H) → Nat
  | [] => 0
  | d :: r => uptoBulk d + uptoBulkAll r
def uptoBulkEntries {H : Type} : List (Lit × DataW H) → Nat
  | [] => 0
  | x :: r => uptoBulkEntry x + uptoBulkEntries r
def uptoBulkEntry {H : Type} : Lit × DataW H → Nat
  | (.string bytes, d) => bytes.length + uptoBulk d + 1
  | (_, d) => uptoBulk d + 1
 end
def uptoSmall : (H : Type) → List (DataW H) → Bool := fun _ ds => decide (uptoBulkAll ds ≤ 1048576)
def OpenSpec.upto (s : _root_.Go.ChangeSpec) : _root_.Go.OpenSpec := { _root_.Go.OpenSpec.ofChange s with cond := some uptoSmall }

/-- 'cursitorlaw24.TallyQuarters', WHERE WHAT IT READS IS OF BULK AT MOST 1048576: true; the input reads as it did. -/
def tallyQuartersUptoRow : OpenClaim := { program := "ytchfkhdifmpbkaa", sum := "57816b376dfae3cc5ef6ac0ccdb9aecb67b04465a57ddcb4759211164e914b9b", func := "cursitor/cursitorlaw24.TallyQuarters", spec := "tallyQuarters", apart := false, narrowed := true }
def TallyQuartersUptoSaid : Prop := tallyQuartersUptoRow.holds Try.pinned (OpenSpec.upto tallyQuartersSpec)

/-- 'cursitorlaw10.PrefixWrites', WHERE WHAT IT READS IS OF BULK AT MOST 1048576: true; the input reads as it did. -/
def prefixWritesUptoRow : OpenClaim := { program := "ytchfkhdifmpbkaa", sum := "57816b376dfae3cc5ef6ac0ccdb9aecb67b04465a57ddcb4759211164e914b9b", func := "cursitor/cursitorlaw10.PrefixWrites", spec := "prefixWrites", apart := false, narrowed := true }
def PrefixWritesUptoSaid : Prop := prefixWritesUptoRow.holds Try.pinned (OpenSpec.upto prefixWritesSpec)

/-- 'cursitorlaw10.PrefixReads', WHERE WHAT IT READS IS OF BULK AT MOST 1048576: true; the input reads as it did. -/
def prefixReadsUptoRow : OpenClaim := { program := "ytchfkhdifmpbkaa", sum := "57816b376dfae3cc5ef6ac0ccdb9aecb67b04465a57ddcb4759211164e914b9b", func := "cursitor/cursitorlaw10.PrefixReads", spec := "prefixReads", apart := false, narrowed := true }
def PrefixReadsUptoSaid : Prop := prefixReadsUptoRow.holds Try.pinned (OpenSpec.upto prefixReadsSpec)

/-- 'cursitorlaw08.ControlRecords', WHERE WHAT IT READS IS OF BULK AT MOST 1048576: true; the input reads as it did. -/
def controlRecordsUptoRow : OpenClaim := { program := "ytchfkhdifmpbkaa", sum := "57816b376dfae3cc5ef6ac0ccdb9aecb67b04465a57ddcb4759211164e914b9b", func := "cursitor/cursitorlaw08.ControlRecords", spec := "controlRecords", apart := false, narrowed := true }
def ControlRecordsUptoSaid : Prop := controlRecordsUptoRow.holds Try.pinned (OpenSpec.upto controlRecordsSpec)

/-- 'cursitorlaw13.KeyEncodes', WHERE WHAT IT READS IS OF BULK AT MOST 1048576: true; the input reads as it did. -/
def keyEncodesUptoRow : OpenClaim := { program := "ytchfkhdifmpbkaa", sum := "57816b376dfae3cc5ef6ac0ccdb9aecb67b04465a57ddcb4759211164e914b9b", func := "cursitor/cursitorlaw13.KeyEncodes", spec := "keyEncodes", apart := false, narrowed := true }
def KeyEncodesUptoSaid : Prop := keyEncodesUptoRow.holds Try.pinned (OpenSpec.upto keyEncodesSpec)

/-- 'cursitorlaw13.KeyDecodes', WHERE WHAT IT READS IS OF BULK AT MOST 1048576: true; the input reads as it did. -/
def keyDecodesUptoRow : OpenClaim := { program := "ytchfkhdifmpbkaa", sum := "57816b376dfae3cc5ef6ac0ccdb9aecb67b04465a57ddcb4759211164e914b9b", func := "cursitor/cursitorlaw13.KeyDecodes", spec := "keyDecodes", apart := false, narrowed := true }
def KeyDecodesUptoSaid : Prop := keyDecodesUptoRow.holds Try.pinned (OpenSpec.upto keyDecodesSpec)

/-- 'cursitorlaw08.ControlWrites', WHERE WHAT IT READS IS OF BULK AT MOST 1048576: true; the input reads as it did. -/
def controlWritesUptoRow : OpenClaim := { program := "ytchfkhdifmpbkaa", sum := "57816b376dfae3cc5ef6ac0ccdb9aecb67b04465a57ddcb4759211164e914b9b", func := "cursitor/cursitorlaw08.ControlWrites", spec := "controlWrites", apart := false, narrowed := true }
def ControlWritesUptoSaid : Prop := controlWritesUptoRow.holds Try.pinned (OpenSpec.upto controlWritesSpec)

/-- 'cursitortop.WholeNumbers', WHERE WHAT IT READS IS OF BULK AT MOST 1048576: true; the input reads as it did. -/
def wholeNumbersUptoRow : OpenClaim := { program := "ytchfkhdifmpbkaa", sum := "57816b376dfae3cc5ef6ac0ccdb9aecb67b04465a57ddcb4759211164e914b9b", func := "cursitor/cursitortop.WholeNumbers", spec := "wholeNumbers", apart := false, narrowed := true }
def WholeNumbersUptoSaid : Prop := wholeNumbersUptoRow.holds Try.pinned (OpenSpec.upto wholeNumbersSpec)

/-- 'cursitorlaw04.BlobWrites', WHERE WHAT IT READS IS OF BULK AT MOST 1048576: true; the input reads as it did. -/
def blobWritesUptoRow : OpenClaim := { program := "ytchfkhdifmpbkaa", sum := "57816b376dfae3cc5ef6ac0ccdb9aecb67b04465a57ddcb4759211164e914b9b", func := "cursitor/cursitorlaw04.BlobWrites", spec := "blobWrites", apart := false, narrowed := true }
def BlobWritesUptoSaid : Prop := blobWritesUptoRow.holds Try.pinned (OpenSpec.upto blobWritesSpec)

/-- 'cursitorlaw04.BlobReads', WHERE WHAT IT READS IS OF BULK AT MOST 1048576: true; the input reads as it did. -/
def blobReadsUptoRow : OpenClaim := { program := "ytchfkhdifmpbkaa", sum := "57816b376dfae3cc5ef6ac0ccdb9aecb67b04465a57ddcb4759211164e914b9b", func := "cursitor/cursitorlaw04.BlobReads", spec := "blobReads", apart := false, narrowed := true }
def BlobReadsUptoSaid : Prop := blobReadsUptoRow.holds Try.pinned (OpenSpec.upto blobReadsSpec)

/-- 'cursitorlaw04.BlobBack', WHERE WHAT IT READS IS OF BULK AT MOST 1048576: true; the input reads as it did. -/
def blobBackUptoRow : OpenClaim := { program := "ytchfkhdifmpbkaa", sum := "57816b376dfae3cc5ef6ac0ccdb9aecb67b04465a57ddcb4759211164e914b9b", func := "cursitor/cursitorlaw04.BlobBack", spec := "blobBack", apart := false, narrowed := true }
def BlobBackUptoSaid : Prop := blobBackUptoRow.holds Try.pinned (OpenSpec.upto blobBackSpec)

/-- 'cursitortop.WholeFields', WHERE WHAT IT READS IS OF BULK AT MOST 1048576: true; the input reads as it did. -/
def wholeFieldsUptoRow : OpenClaim := { program := "ytchfkhdifmpbkaa", sum := "57816b376dfae3cc5ef6ac0ccdb9aecb67b04465a57ddcb4759211164e914b9b", func := "cursitor/cursitortop.WholeFields", spec := "wholeFields", unfollowed := true, recurses := true, apart := false, narrowed := true }
def WholeFieldsUptoSaid : Prop := wholeFieldsUptoRow.holds Try.pinned (OpenSpec.upto wholeFieldsSpec)

end Rows
end Go.Proofs.Ytchfkhdifmpbkaa
