/-
  No cell of these rows narrows 'for every input' (looked for: loops, veiled, ifaces, maps, wideKeys, modest, calm, conditions, laid).
  DERIVED. THE GIVEN ROWS OF THIS SEAT. 12 by the template 'for every input the law returns true; each argument reads behind the call as it read before'; 0 by the template 'total and deterministic' (their statements: YtagbblaegdedpaaTotals.lean).
  GIVEN WITH THE SEED: the statements are not yours to turn. If you find one false, say at which input.
  Laid BY PROGRAM, IN A SANDBOX (cutbox-rows.mjs): the forced cells as the released guide's own fill.sh prints them over the translation d7835df7f820b00a… (all of the seat's roots in one cut). By AI agents, Wed Nov 11 2026. No macro, syntax, notation, axiom, sorry.
-/
import Derived.Test.YtagbblaegdedpaaChecked
import GoSem.Claim
import GoSem.ClaimJoined
import GoSem.ClaimMapViews
import Derived.JoinedTies
import Derived.KernelRfl
namespace Go.Proofs.Ytagbblaegdedpaa
/- THE CELL 'sum', in the pinned program and in every row, IS THE sha256 OF THE DUMP (.gsa) THAT YtagbblaegdedpaaProg.lean LOADS. Nothing in Lean hashes anything: it is a label: what it is worth is what the hold of that sum in a sandbox is worth. -/
noncomputable def Try.pinned : Pinned := { name := "ytagbblaegdedpaa", sum := "d7835df7f820b00a96441b89f47aace8a12f537b30b0d8e74ec8a1f0b9e38f09", checked := Try.checked }
namespace Rows
def none {H : Type} : Left H := { results := [], args := [] }

/-- 'cursitorlaw07.RecordDecodes': WHATEVER THE INPUT: true; the input reads as it did. -/
def recordDecodesSpec : ChangeSpec := { name := "recordDecodes", fn := fun _ => fun
  | [d] => { results := [.lit (.bool true)], args := [d] }
  | _ => none }
def recordDecodesRow : OpenClaim := { program := "ytagbblaegdedpaa", sum := "d7835df7f820b00a96441b89f47aace8a12f537b30b0d8e74ec8a1f0b9e38f09", func := "cursitor/cursitorlaw07.RecordDecodes", spec := "recordDecodes", apart := false }
def RecordDecodesSaid : Prop := recordDecodesRow.holds Try.pinned (OpenSpec.ofChange recordDecodesSpec)

/-- ITS FALSE NEIGHBOUR: 'it returns false'. Refute it at one input. -/
def recordDecodesWrong : ChangeSpec := { name := "recordDecodes", fn := fun _ => fun
  | [d] => { results := [.lit (.bool false)], args := [d] }
  | _ => none }
def RecordDecodesWrongFalsely : Prop := recordDecodesRow.holds Try.pinned (OpenSpec.ofChange recordDecodesWrong)

/-- 'cursitorlaw07.RecordEncodes': WHATEVER THE INPUT: true; the input reads as it did. -/
def recordEncodesSpec : ChangeSpec := { name := "recordEncodes", fn := fun _ => fun
  | [d] => { results := [.lit (.bool true)], args := [d] }
  | _ => none }
def recordEncodesRow : OpenClaim := { program := "ytagbblaegdedpaa", sum := "d7835df7f820b00a96441b89f47aace8a12f537b30b0d8e74ec8a1f0b9e38f09", func := "cursitor/cursitorlaw07.RecordEncodes", spec := "recordEncodes", apart := false }
def RecordEncodesSaid : Prop := recordEncodesRow.holds Try.pinned (OpenSpec.ofChange recordEncodesSpec)

/-- ITS FALSE NEIGHBOUR: 'it returns false'. Refute it at one input. -/
def recordEncodesWrong : ChangeSpec := { name := "recordEncodes", fn := fun _ => fun
  | [d] => { results := [.lit (.bool false)], args := [d] }
  | _ => none }
def RecordEncodesWrongFalsely : Prop := recordEncodesRow.holds Try.pinned (OpenSpec.ofChange recordEncodesWrong)

/-- 'cursitorlaw07.RecordRows': WHATEVER THE INPUT: true; the input reads as it did. -/
def recordRowsSpec : ChangeSpec := { name := "recordRows", fn := fun _ => fun
  | [d] => { results := [.lit (.bool true)], args := [d] }
  | _ => none }
def recordRowsRow : OpenClaim := { program := "ytagbblaegdedpaa", sum := "d7835df7f820b00a96441b89f47aace8a12f537b30b0d8e74ec8a1f0b9e38f09", func := "cursitor/cursitorlaw07.RecordRows", spec := "recordRows", apart := false }
def RecordRowsSaid : Prop := recordRowsRow.holds Try.pinned (OpenSpec.ofChange recordRowsSpec)

/-- ITS FALSE NEIGHBOUR: 'it returns false'. Refute it at one input. -/
def recordRowsWrong : ChangeSpec := { name := "recordRows", fn := fun _ => fun
  | [d] => { results := [.lit (.bool false)], args := [d] }
  | _ => none }
def RecordRowsWrongFalsely : Prop := recordRowsRow.holds Try.pinned (OpenSpec.ofChange recordRowsWrong)

/-- 'cursitorlaw19.MarkReads': WHATEVER THE INPUT: true; the input reads as it did. -/
def markReadsSpec : ChangeSpec := { name := "markReads", fn := fun _ => fun
  | [d1, d2] => { results := [.lit (.bool true)], args := [d1, d2] }
  | _ => none }
def markReadsRow : OpenClaim := { program := "ytagbblaegdedpaa", sum := "d7835df7f820b00a96441b89f47aace8a12f537b30b0d8e74ec8a1f0b9e38f09", func := "cursitor/cursitorlaw19.MarkReads", spec := "markReads", apart := false }
def MarkReadsSaid : Prop := markReadsRow.holds Try.pinned (OpenSpec.ofChange markReadsSpec)

/-- ITS FALSE NEIGHBOUR: 'it returns false'. Refute it at one input. -/
def markReadsWrong : ChangeSpec := { name := "markReads", fn := fun _ => fun
  | [d1, d2] => { results := [.lit (.bool false)], args := [d1, d2] }
  | _ => none }
def MarkReadsWrongFalsely : Prop := markReadsRow.holds Try.pinned (OpenSpec.ofChange markReadsWrong)

/-- 'cursitorlaw19.MarkWrites': WHATEVER THE INPUT: true; the input reads as it did. -/
def markWritesSpec : ChangeSpec := { name := "markWrites", fn := fun _ => fun
  | [d1, d2] => { results := [.lit (.bool true)], args := [d1, d2] }
  | _ => none }
def markWritesRow : OpenClaim := { program := "ytagbblaegdedpaa", sum := "d7835df7f820b00a96441b89f47aace8a12f537b30b0d8e74ec8a1f0b9e38f09", func := "cursitor/cursitorlaw19.MarkWrites", spec := "markWrites", unfollowed := true, recurses := true, apart := false }
def MarkWritesSaid : Prop := markWritesRow.holds Try.pinned (OpenSpec.ofChange markWritesSpec)

/-- ITS FALSE NEIGHBOUR: 'it returns false'. Refute it at one input. -/
def markWritesWrong : ChangeSpec := { name := "markWrites", fn := fun _ => fun
  | [d1, d2] => { results := [.lit (.bool false)], args := [d1, d2] }
  | _ => none }
def MarkWritesWrongFalsely : Prop := markWritesRow.holds Try.pinned (OpenSpec.ofChange markWritesWrong)

/-- 'cursitorlaw18.TxnReads': WHATEVER THE INPUT: true; the input reads as it did. -/
def txnReadsSpec : ChangeSpec := { name := "txnReads", fn := fun _ => fun
  | [d1, d2, d3] => { results := [.lit (.bool true)], args := [d1, d2, d3] }
  | _ => none }
def txnReadsRow : OpenClaim := { program := "ytagbblaegdedpaa", sum := "d7835df7f820b00a96441b89f47aace8a12f537b30b0d8e74ec8a1f0b9e38f09", func := "cursitor/cursitorlaw18.TxnReads", spec := "txnReads", unfollowed := true, recurses := true, apart := false }
def TxnReadsSaid : Prop := txnReadsRow.holds Try.pinned (OpenSpec.ofChange txnReadsSpec)

/-- ITS FALSE NEIGHBOUR: 'it returns false'. Refute it at one input. -/
def txnReadsWrong : ChangeSpec := { name := "txnReads", fn := fun _ => fun
  | [d1, d2, d3] => { results := [.lit (.bool false)], args := [d1, d2, d3] }
  | _ => none }
def TxnReadsWrongFalsely : Prop := txnReadsRow.holds Try.pinned (OpenSpec.ofChange txnReadsWrong)

/-- 'cursitorlaw18.TxnWrites': WHATEVER THE INPUT: true; the input reads as it did. -/
def txnWritesSpec : ChangeSpec := { name := "txnWrites", fn := fun _ => fun
  | [d1, d2, d3] => { results := [.lit (.bool true)], args := [d1, d2, d3] }
  | _ => none }
def txnWritesRow : OpenClaim := { program := "ytagbblaegdedpaa", sum := "d7835df7f820b00a96441b89f47aace8a12f537b30b0d8e74ec8a1f0b9e38f09", func := "cursitor/cursitorlaw18.TxnWrites", spec := "txnWrites", unfollowed := true, recurses := true, apart := false }
def TxnWritesSaid : Prop := txnWritesRow.holds Try.pinned (OpenSpec.ofChange txnWritesSpec)

/-- ITS FALSE NEIGHBOUR: 'it returns false'. Refute it at one input. -/
def txnWritesWrong : ChangeSpec := { name := "txnWrites", fn := fun _ => fun
  | [d1, d2, d3] => { results := [.lit (.bool false)], args := [d1, d2, d3] }
  | _ => none }
def TxnWritesWrongFalsely : Prop := txnWritesRow.holds Try.pinned (OpenSpec.ofChange txnWritesWrong)

/-- 'cursitortop.WholeEnds': WHATEVER THE INPUT: true; the input reads as it did. -/
def wholeEndsSpec : ChangeSpec := { name := "wholeEnds", fn := fun _ => fun
  | [d1, d2, d3] => { results := [.lit (.bool true)], args := [d1, d2, d3] }
  | _ => none }
def wholeEndsRow : OpenClaim := { program := "ytagbblaegdedpaa", sum := "d7835df7f820b00a96441b89f47aace8a12f537b30b0d8e74ec8a1f0b9e38f09", func := "cursitor/cursitortop.WholeEnds", spec := "wholeEnds", apart := false }
def WholeEndsSaid : Prop := wholeEndsRow.holds Try.pinned (OpenSpec.ofChange wholeEndsSpec)

/-- ITS FALSE NEIGHBOUR: 'it returns false'. Refute it at one input. -/
def wholeEndsWrong : ChangeSpec := { name := "wholeEnds", fn := fun _ => fun
  | [d1, d2, d3] => { results := [.lit (.bool false)], args := [d1, d2, d3] }
  | _ => none }
def WholeEndsWrongFalsely : Prop := wholeEndsRow.holds Try.pinned (OpenSpec.ofChange wholeEndsWrong)

/-- 'cursitortop.WholeEntries': WHATEVER THE INPUT: true; the input reads as it did. -/
def wholeEntriesSpec : ChangeSpec := { name := "wholeEntries", fn := fun _ => fun
  | [d1, d2, d3] => { results := [.lit (.bool true)], args := [d1, d2, d3] }
  | _ => none }
def wholeEntriesRow : OpenClaim := { program := "ytagbblaegdedpaa", sum := "d7835df7f820b00a96441b89f47aace8a12f537b30b0d8e74ec8a1f0b9e38f09", func := "cursitor/cursitortop.WholeEntries", spec := "wholeEntries", apart := false }
def WholeEntriesSaid : Prop := wholeEntriesRow.holds Try.pinned (OpenSpec.ofChange wholeEntriesSpec)

/-- ITS FALSE NEIGHBOUR: 'it returns false'. Refute it at one input. -/
def wholeEntriesWrong : ChangeSpec := { name := "wholeEntries", fn := fun _ => fun
  | [d1, d2, d3] => { results := [.lit (.bool false)], args := [d1, d2, d3] }
  | _ => none }
def WholeEntriesWrongFalsely : Prop := wholeEntriesRow.holds Try.pinned (OpenSpec.ofChange wholeEntriesWrong)

/-- 'cursitortop.WholeTxns': WHATEVER THE INPUT: true; the input reads as it did. -/
def wholeTxnsSpec : ChangeSpec := { name := "wholeTxns", fn := fun _ => fun
  | [d1, d2, d3] => { results := [.lit (.bool true)], args := [d1, d2, d3] }
  | _ => none }
def wholeTxnsRow : OpenClaim := { program := "ytagbblaegdedpaa", sum := "d7835df7f820b00a96441b89f47aace8a12f537b30b0d8e74ec8a1f0b9e38f09", func := "cursitor/cursitortop.WholeTxns", spec := "wholeTxns", unfollowed := true, recurses := true, apart := false }
def WholeTxnsSaid : Prop := wholeTxnsRow.holds Try.pinned (OpenSpec.ofChange wholeTxnsSpec)

/-- ITS FALSE NEIGHBOUR: 'it returns false'. Refute it at one input. -/
def wholeTxnsWrong : ChangeSpec := { name := "wholeTxns", fn := fun _ => fun
  | [d1, d2, d3] => { results := [.lit (.bool false)], args := [d1, d2, d3] }
  | _ => none }
def WholeTxnsWrongFalsely : Prop := wholeTxnsRow.holds Try.pinned (OpenSpec.ofChange wholeTxnsWrong)

/-- 'cursitorlaw24.TallyPoints': WHATEVER THE INPUT: true; the input reads as it did. -/
def tallyPointsSpec : ChangeSpec := { name := "tallyPoints", fn := fun _ => fun
  | [d] => { results := [.lit (.bool true)], args := [d] }
  | _ => none }
def tallyPointsRow : OpenClaim := { program := "ytagbblaegdedpaa", sum := "d7835df7f820b00a96441b89f47aace8a12f537b30b0d8e74ec8a1f0b9e38f09", func := "cursitor/cursitorlaw24.TallyPoints", spec := "tallyPoints", apart := false }
def TallyPointsSaid : Prop := tallyPointsRow.holds Try.pinned (OpenSpec.ofChange tallyPointsSpec)

/-- ITS FALSE NEIGHBOUR: 'it returns false'. Refute it at one input. -/
def tallyPointsWrong : ChangeSpec := { name := "tallyPoints", fn := fun _ => fun
  | [d] => { results := [.lit (.bool false)], args := [d] }
  | _ => none }
def TallyPointsWrongFalsely : Prop := tallyPointsRow.holds Try.pinned (OpenSpec.ofChange tallyPointsWrong)

/-- 'cursitorlaw20.ProduceSame': WHATEVER THE INPUT: true; the input reads as it did. -/
def produceSameSpec : ChangeSpec := { name := "produceSame", fn := fun _ => fun
  | [d1, d2] => { results := [.lit (.bool true)], args := [d1, d2] }
  | _ => none }
def produceSameRow : OpenClaim := { program := "ytagbblaegdedpaa", sum := "d7835df7f820b00a96441b89f47aace8a12f537b30b0d8e74ec8a1f0b9e38f09", func := "cursitor/cursitorlaw20.ProduceSame", spec := "produceSame", inPlace := ["internal/abi.NoEscape"], unfollowed := true, recurses := true, apart := false }
def ProduceSameSaid : Prop := produceSameRow.holds Try.pinned (OpenSpec.ofChange produceSameSpec)

/-- ITS FALSE NEIGHBOUR: 'it returns false'. Refute it at one input. -/
def produceSameWrong : ChangeSpec := { name := "produceSame", fn := fun _ => fun
  | [d1, d2] => { results := [.lit (.bool false)], args := [d1, d2] }
  | _ => none }
def ProduceSameWrongFalsely : Prop := produceSameRow.holds Try.pinned (OpenSpec.ofChange produceSameWrong)

/- THE SECOND FORM. 'bulk': how many values and letters a reading holds, each counted each time it is reached (what is shared counts as often as it is met; a slice's spare places count too). A statement '..UptoSaid' is the law's where the arguments, and the package variables that the reading takes, are together of bulk at most 1048576: NARROWER than '..Said'. Prove '..Said' where nothing that the law and all that it calls make is longer than what came in: it says more and counts as full. Else prove '..UptoSaid'. A law counts once. -/
mutual
def uptoBulk {H : Type} : DataW H → Nat
  | .lit (.string bytes) => bytes.length + 1
  | .lit _ => 1
  | .nil => 1
  | .ptr d => uptoBulk d + 1
  | .slice elems spare => uptoBulkAll elems + uptoBulkAll spare + 1
  | .agg parts => uptoBulkAll parts + 1
  | .iface _ d => uptoBulk d + 1
  | .map entries => uptoBulkEntries entries + 1
  | .held _ => 1
def uptoBulkAll {H : Type} : List (DataW H) → Nat
  | [] => 0
  | d :: r => uptoBulk d + uptoBulkAll r
def uptoBulkEntries {H : Type} : List (Lit × DataW H) → Nat
  | [] => 0
  | x :: r => uptoBulkEntry x + uptoBulkEntries r
def uptoBulkEntry {H : Type} : Lit × DataW H → Nat
  | (.string bytes, d) => bytes.length + uptoBulk d + 1
  | (_, d) => uptoBulk d + 1
 end
def uptoSmall : (H : Type) → List (DataW H) → Bool := fun _ ds => decide (uptoBulkAll ds ≤ 1048576)
def OpenSpec.upto (s : _root_.Go.ChangeSpec) : _root_.Go.OpenSpec := { _root_.Go.OpenSpec.ofChange s with cond := some uptoSmall }

/-- 'cursitorlaw07.RecordDecodes', WHERE WHAT IT READS IS OF BULK AT MOST 1048576: true; the input reads as it did. -/
def recordDecodesUptoRow : OpenClaim := { program := "ytagbblaegdedpaa", sum := "d7835df7f820b00a96441b89f47aace8a12f537b30b0d8e74ec8a1f0b9e38f09", func := "cursitor/cursitorlaw07.RecordDecodes", spec := "recordDecodes", apart := false, narrowed := true }
def RecordDecodesUptoSaid : Prop := recordDecodesUptoRow.holds Try.pinned (OpenSpec.upto recordDecodesSpec)

/-- 'cursitorlaw07.RecordEncodes', WHERE WHAT IT READS IS OF BULK AT MOST 1048576: true; the input reads as it did. -/
def recordEncodesUptoRow : OpenClaim := { program := "ytagbblaegdedpaa", sum := "d7835df7f820b00a96441b89f47aace8a12f537b30b0d8e74ec8a1f0b9e38f09", func := "cursitor/cursitorlaw07.RecordEncodes", spec := "recordEncodes", apart := false, narrowed := true }
def RecordEncodesUptoSaid : Prop := recordEncodesUptoRow.holds Try.pinned (OpenSpec.upto recordEncodesSpec)

/-- 'cursitorlaw07.RecordRows', WHERE WHAT IT READS IS OF BULK AT MOST 1048576: true; the input reads as it did. -/
def recordRowsUptoRow : OpenClaim := { program := "ytagbblaegdedpaa", sum := "d7835df7f820b00a96441b89f47aace8a12f537b30b0d8e74ec8a1f0b9e38f09", func := "cursitor/cursitorlaw07.RecordRows", spec := "recordRows", apart := false, narrowed := true }
def RecordRowsUptoSaid : Prop := recordRowsUptoRow.holds Try.pinned (OpenSpec.upto recordRowsSpec)

/-- 'cursitorlaw19.MarkReads', WHERE WHAT IT READS IS OF BULK AT MOST 1048576: true; the input reads as it did. -/
def markReadsUptoRow : OpenClaim := { program := "ytagbblaegdedpaa", sum := "d7835df7f820b00a96441b89f47aace8a12f537b30b0d8e74ec8a1f0b9e38f09", func := "cursitor/cursitorlaw19.MarkReads", spec := "markReads", apart := false, narrowed := true }
def MarkReadsUptoSaid : Prop := markReadsUptoRow.holds Try.pinned (OpenSpec.upto markReadsSpec)

/-- 'cursitorlaw19.MarkWrites', WHERE WHAT IT READS IS OF BULK AT MOST 1048576: true; the input reads as it did. -/
def markWritesUptoRow : OpenClaim := { program := "ytagbblaegdedpaa", sum := "d7835df7f820b00a96441b89f47aace8a12f537b30b0d8e74ec8a1f0b9e38f09", func := "cursitor/cursitorlaw19.MarkWrites", spec := "markWrites", unfollowed := true, recurses := true, apart := false, narrowed := true }
def MarkWritesUptoSaid : Prop := markWritesUptoRow.holds Try.pinned (OpenSpec.upto markWritesSpec)

/-- 'cursitorlaw18.TxnReads', WHERE WHAT IT READS IS OF BULK AT MOST 1048576: true; the input reads as it did. -/
def txnReadsUptoRow : OpenClaim := { program := "ytagbblaegdedpaa", sum := "d7835df7f820b00a96441b89f47aace8a12f537b30b0d8e74ec8a1f0b9e38f09", func := "cursitor/cursitorlaw18.TxnReads", spec := "txnReads", unfollowed := true, recurses := true, apart := false, narrowed := true }
def TxnReadsUptoSaid : Prop := txnReadsUptoRow.holds Try.pinned (OpenSpec.upto txnReadsSpec)

/-- 'cursitorlaw18.TxnWrites', WHERE WHAT IT READS IS OF BULK AT MOST 1048576: true; the input reads as it did. -/
def txnWritesUptoRow : OpenClaim := { program := "ytagbblaegdedpaa", sum := "d7835df7f820b00a96441b89f47aace8a12f537b30b0d8e74ec8a1f0b9e38f09", func := "cursitor/cursitorlaw18.TxnWrites", spec := "txnWrites", unfollowed := true, recurses := true, apart := false, narrowed := true }
def TxnWritesUptoSaid : Prop := txnWritesUptoRow.holds Try.pinned (OpenSpec.upto txnWritesSpec)

/-- 'cursitortop.WholeEnds', WHERE WHAT IT READS IS OF BULK AT MOST 1048576: true; the input reads as it did. -/
def wholeEndsUptoRow : OpenClaim := { program := "ytagbblaegdedpaa", sum := "d7835df7f820b00a96441b89f47aace8a12f537b30b0d8e74ec8a1f0b9e38f09", func := "cursitor/cursitortop.WholeEnds", spec := "wholeEnds", apart := false, narrowed := true }
def WholeEndsUptoSaid : Prop := wholeEndsUptoRow.holds Try.pinned (OpenSpec.upto wholeEndsSpec)

/-- 'cursitortop.WholeEntries', WHERE WHAT IT READS IS OF BULK AT MOST 1048576: true; the input reads as it did. -/
def wholeEntriesUptoRow : OpenClaim := { program := "ytagbblaegdedpaa", sum := "d7835df7f820b00a96441b89f47aace8a12f537b30b0d8e74ec8a1f0b9e38f09", func := "cursitor/cursitortop.WholeEntries", spec := "wholeEntries", apart := false, narrowed := true }
def WholeEntriesUptoSaid : Prop := wholeEntriesUptoRow.holds Try.pinned (OpenSpec.upto wholeEntriesSpec)

/-- 'cursitortop.WholeTxns', WHERE WHAT IT READS IS OF BULK AT MOST 1048576: true; the input reads as it did. -/
def wholeTxnsUptoRow : OpenClaim := { program := "ytagbblaegdedpaa", sum := "d7835df7f820b00a96441b89f47aace8a12f537b30b0d8e74ec8a1f0b9e38f09", func := "cursitor/cursitortop.WholeTxns", spec := "wholeTxns", unfollowed := true, recurses := true, apart := false, narrowed := true }
def WholeTxnsUptoSaid : Prop := wholeTxnsUptoRow.holds Try.pinned (OpenSpec.upto wholeTxnsSpec)

/-- 'cursitorlaw24.TallyPoints', WHERE WHAT IT READS IS OF BULK AT MOST 1048576: true; the input reads as it did. -/
def tallyPointsUptoRow : OpenClaim := { program := "ytagbblaegdedpaa", sum := "d7835df7f820b00a96441b89f47aace8a12f537b30b0d8e74ec8a1f0b9e38f09", func := "cursitor/cursitorlaw24.TallyPoints", spec := "tallyPoints", apart := false, narrowed := true }
def TallyPointsUptoSaid : Prop := tallyPointsUptoRow.holds Try.pinned (OpenSpec.upto tallyPointsSpec)

/-- 'cursitorlaw20.ProduceSame', WHERE WHAT IT READS IS OF BULK AT MOST 1048576: true; the input reads as it did. -/
def produceSameUptoRow : OpenClaim := { program := "ytagbblaegdedpaa", sum := "d7835df7f820b00a96441b89f47aace8a12f537b30b0d8e74ec8a1f0b9e38f09", func := "cursitor/cursitorlaw20.ProduceSame", spec := "produceSame", inPlace := ["internal/abi.NoEscape"], unfollowed := true, recurses := true, apart := false, narrowed := true }
def ProduceSameUptoSaid : Prop := produceSameUptoRow.holds Try.pinned (OpenSpec.upto produceSameSpec)

end Rows
end Go.Proofs.Ytagbblaegdedpaa
