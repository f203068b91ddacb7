/-
  No cell of these rows narrows 'for every input' (looked for: loops, veiled, ifaces, maps, wideKeys, modest, calm, conditions, laid).
  DERIVED. THE GIVEN ROWS OF THIS SEAT. 12 by the template 'for every input the law returns true; each argument reads behind the call as it read before'; 0 by the template 'total and deterministic' (their statements: YtpiiopppbgpbpaaTotals.lean).
  GIVEN WITH THE SEED: the statements are not yours to turn. If you find one false, say at which input.
  Laid BY PROGRAM, IN A SANDBOX (cutbox-rows.mjs): the forced cells as the released guide's own fill.sh prints them over the translation 6664a7cf5f1c60bb… (all of the seat's roots in one cut). By AI agents, Wed Nov 11 2026. No macro, syntax, notation, axiom, sorry.
-/
import Derived.Test.YtpiiopppbgpbpaaChecked
import GoSem.Claim
import GoSem.ClaimJoined
import GoSem.ClaimMapViews
import Derived.JoinedTies
import Derived.KernelRfl
namespace Go.Proofs.Ytpiiopppbgpbpaa
/- THE CELL 'sum', in the pinned program and in every row, IS THE sha256 OF THE DUMP (.gsa) THAT YtpiiopppbgpbpaaProg.lean LOADS. Nothing in Lean hashes anything: it is a label: what it is worth is what the hold of that sum in a sandbox is worth. -/
noncomputable def Try.pinned : Pinned := { name := "ytpiiopppbgpbpaa", sum := "6664a7cf5f1c60bb73efd3d56bb679f56b67c152e4ab26a1ee386deff060d07e", checked := Try.checked }
namespace Rows
def none {H : Type} : Left H := { results := [], args := [] }

/-- 'cursitorlaw24.TallyQuarters': WHATEVER THE INPUT: true; the input reads as it did. -/
def tallyQuartersSpec : ChangeSpec := { name := "tallyQuarters", fn := fun _ => fun
  | [d1, d2, d3] => { results := [.lit (.bool true)], args := [d1, d2, d3] }
  | _ => none }
def tallyQuartersRow : OpenClaim := { program := "ytpiiopppbgpbpaa", sum := "6664a7cf5f1c60bb73efd3d56bb679f56b67c152e4ab26a1ee386deff060d07e", func := "cursitor/cursitorlaw24.TallyQuarters", spec := "tallyQuarters", apart := false }
def TallyQuartersSaid : Prop := tallyQuartersRow.holds Try.pinned (OpenSpec.ofChange tallyQuartersSpec)

/-- ITS FALSE NEIGHBOUR: 'it returns false'. Refute it at one input. -/
def tallyQuartersWrong : ChangeSpec := { name := "tallyQuarters", fn := fun _ => fun
  | [d1, d2, d3] => { results := [.lit (.bool false)], args := [d1, d2, d3] }
  | _ => none }
def TallyQuartersWrongFalsely : Prop := tallyQuartersRow.holds Try.pinned (OpenSpec.ofChange tallyQuartersWrong)

/-- 'cursitorlaw10.PrefixWrites': WHATEVER THE INPUT: true; the input reads as it did. -/
def prefixWritesSpec : ChangeSpec := { name := "prefixWrites", fn := fun _ => fun
  | [d] => { results := [.lit (.bool true)], args := [d] }
  | _ => none }
def prefixWritesRow : OpenClaim := { program := "ytpiiopppbgpbpaa", sum := "6664a7cf5f1c60bb73efd3d56bb679f56b67c152e4ab26a1ee386deff060d07e", func := "cursitor/cursitorlaw10.PrefixWrites", spec := "prefixWrites", apart := false }
def PrefixWritesSaid : Prop := prefixWritesRow.holds Try.pinned (OpenSpec.ofChange prefixWritesSpec)

/-- ITS FALSE NEIGHBOUR: 'it returns false'. Refute it at one input. -/
def prefixWritesWrong : ChangeSpec := { name := "prefixWrites", fn := fun _ => fun
  | [d] => { results := [.lit (.bool false)], args := [d] }
  | _ => none }
def PrefixWritesWrongFalsely : Prop := prefixWritesRow.holds Try.pinned (OpenSpec.ofChange prefixWritesWrong)

/-- 'cursitorlaw10.PrefixReads': WHATEVER THE INPUT: true; the input reads as it did. -/
def prefixReadsSpec : ChangeSpec := { name := "prefixReads", fn := fun _ => fun
  | [d] => { results := [.lit (.bool true)], args := [d] }
  | _ => none }
def prefixReadsRow : OpenClaim := { program := "ytpiiopppbgpbpaa", sum := "6664a7cf5f1c60bb73efd3d56bb679f56b67c152e4ab26a1ee386deff060d07e", func := "cursitor/cursitorlaw10.PrefixReads", spec := "prefixReads", apart := false }
def PrefixReadsSaid : Prop := prefixReadsRow.holds Try.pinned (OpenSpec.ofChange prefixReadsSpec)

/-- ITS FALSE NEIGHBOUR: 'it returns false'. Refute it at one input. -/
def prefixReadsWrong : ChangeSpec := { name := "prefixReads", fn := fun _ => fun
  | [d] => { results := [.lit (.bool false)], args := [d] }
  | _ => none }
def PrefixReadsWrongFalsely : Prop := prefixReadsRow.holds Try.pinned (OpenSpec.ofChange prefixReadsWrong)

/-- 'cursitortop.WholeNumbers': WHATEVER THE INPUT: true; the input reads as it did. -/
def wholeNumbersSpec : ChangeSpec := { name := "wholeNumbers", fn := fun _ => fun
  | [d1, d2] => { results := [.lit (.bool true)], args := [d1, d2] }
  | _ => none }
def wholeNumbersRow : OpenClaim := { program := "ytpiiopppbgpbpaa", sum := "6664a7cf5f1c60bb73efd3d56bb679f56b67c152e4ab26a1ee386deff060d07e", func := "cursitor/cursitortop.WholeNumbers", spec := "wholeNumbers", apart := false }
def WholeNumbersSaid : Prop := wholeNumbersRow.holds Try.pinned (OpenSpec.ofChange wholeNumbersSpec)

/-- ITS FALSE NEIGHBOUR: 'it returns false'. Refute it at one input. -/
def wholeNumbersWrong : ChangeSpec := { name := "wholeNumbers", fn := fun _ => fun
  | [d1, d2] => { results := [.lit (.bool false)], args := [d1, d2] }
  | _ => none }
def WholeNumbersWrongFalsely : Prop := wholeNumbersRow.holds Try.pinned (OpenSpec.ofChange wholeNumbersWrong)

/-- 'cursitorlaw04.BlobBack': WHATEVER THE INPUT: true; the input reads as it did. -/
def blobBackSpec : ChangeSpec := { name := "blobBack", fn := fun _ => fun
  | [d1, d2] => { results := [.lit (.bool true)], args := [d1, d2] }
  | _ => none }
def blobBackRow : OpenClaim := { program := "ytpiiopppbgpbpaa", sum := "6664a7cf5f1c60bb73efd3d56bb679f56b67c152e4ab26a1ee386deff060d07e", func := "cursitor/cursitorlaw04.BlobBack", spec := "blobBack", apart := false }
def BlobBackSaid : Prop := blobBackRow.holds Try.pinned (OpenSpec.ofChange blobBackSpec)

/-- ITS FALSE NEIGHBOUR: 'it returns false'. Refute it at one input. -/
def blobBackWrong : ChangeSpec := { name := "blobBack", fn := fun _ => fun
  | [d1, d2] => { results := [.lit (.bool false)], args := [d1, d2] }
  | _ => none }
def BlobBackWrongFalsely : Prop := blobBackRow.holds Try.pinned (OpenSpec.ofChange blobBackWrong)

/-- 'cursitortop.WholeFields': WHATEVER THE INPUT: true; the input reads as it did. -/
def wholeFieldsSpec : ChangeSpec := { name := "wholeFields", fn := fun _ => fun
  | [d1, d2, d3] => { results := [.lit (.bool true)], args := [d1, d2, d3] }
  | _ => none }
def wholeFieldsRow : OpenClaim := { program := "ytpiiopppbgpbpaa", sum := "6664a7cf5f1c60bb73efd3d56bb679f56b67c152e4ab26a1ee386deff060d07e", func := "cursitor/cursitortop.WholeFields", spec := "wholeFields", unfollowed := true, recurses := true, apart := false }
def WholeFieldsSaid : Prop := wholeFieldsRow.holds Try.pinned (OpenSpec.ofChange wholeFieldsSpec)

/-- ITS FALSE NEIGHBOUR: 'it returns false'. Refute it at one input. -/
def wholeFieldsWrong : ChangeSpec := { name := "wholeFields", fn := fun _ => fun
  | [d1, d2, d3] => { results := [.lit (.bool false)], args := [d1, d2, d3] }
  | _ => none }
def WholeFieldsWrongFalsely : Prop := wholeFieldsRow.holds Try.pinned (OpenSpec.ofChange wholeFieldsWrong)

/-- 'cursitorlaw05.CrcSums': WHATEVER THE INPUT: true; the input reads as it did. -/
def crcSumsSpec : ChangeSpec := { name := "crcSums", fn := fun _ => fun
  | [d] => { results := [.lit (.bool true)], args := [d] }
  | _ => none }
def crcSumsRow : OpenClaim := { program := "ytpiiopppbgpbpaa", sum := "6664a7cf5f1c60bb73efd3d56bb679f56b67c152e4ab26a1ee386deff060d07e", func := "cursitor/cursitorlaw05.CrcSums", spec := "crcSums", apart := false }
def CrcSumsSaid : Prop := crcSumsRow.holds Try.pinned (OpenSpec.ofChange crcSumsSpec)

/-- ITS FALSE NEIGHBOUR: 'it returns false'. Refute it at one input. -/
def crcSumsWrong : ChangeSpec := { name := "crcSums", fn := fun _ => fun
  | [d] => { results := [.lit (.bool false)], args := [d] }
  | _ => none }
def CrcSumsWrongFalsely : Prop := crcSumsRow.holds Try.pinned (OpenSpec.ofChange crcSumsWrong)

/-- 'cursitorlaw05.CrcBursts': WHATEVER THE INPUT: true; the input reads as it did. -/
def crcBurstsSpec : ChangeSpec := { name := "crcBursts", fn := fun _ => fun
  | [d1, d2, d3] => { results := [.lit (.bool true)], args := [d1, d2, d3] }
  | _ => none }
def crcBurstsRow : OpenClaim := { program := "ytpiiopppbgpbpaa", sum := "6664a7cf5f1c60bb73efd3d56bb679f56b67c152e4ab26a1ee386deff060d07e", func := "cursitor/cursitorlaw05.CrcBursts", spec := "crcBursts", apart := false }
def CrcBurstsSaid : Prop := crcBurstsRow.holds Try.pinned (OpenSpec.ofChange crcBurstsSpec)

/-- ITS FALSE NEIGHBOUR: 'it returns false'. Refute it at one input. -/
def crcBurstsWrong : ChangeSpec := { name := "crcBursts", fn := fun _ => fun
  | [d1, d2, d3] => { results := [.lit (.bool false)], args := [d1, d2, d3] }
  | _ => none }
def CrcBurstsWrongFalsely : Prop := crcBurstsRow.holds Try.pinned (OpenSpec.ofChange crcBurstsWrong)

/-- 'cursitorlaw01.InputReads': WHATEVER THE INPUT: true; the input reads as it did. -/
def inputReadsSpec : ChangeSpec := { name := "inputReads", fn := fun _ => fun
  | [d1, d2] => { results := [.lit (.bool true)], args := [d1, d2] }
  | _ => none }
def inputReadsRow : OpenClaim := { program := "ytpiiopppbgpbpaa", sum := "6664a7cf5f1c60bb73efd3d56bb679f56b67c152e4ab26a1ee386deff060d07e", func := "cursitor/cursitorlaw01.InputReads", spec := "inputReads", apart := false }
def InputReadsSaid : Prop := inputReadsRow.holds Try.pinned (OpenSpec.ofChange inputReadsSpec)

/-- ITS FALSE NEIGHBOUR: 'it returns false'. Refute it at one input. -/
def inputReadsWrong : ChangeSpec := { name := "inputReads", fn := fun _ => fun
  | [d1, d2] => { results := [.lit (.bool false)], args := [d1, d2] }
  | _ => none }
def InputReadsWrongFalsely : Prop := inputReadsRow.holds Try.pinned (OpenSpec.ofChange inputReadsWrong)

/-- 'cursitortop.WholeSums': WHATEVER THE INPUT: true; the input reads as it did. -/
def wholeSumsSpec : ChangeSpec := { name := "wholeSums", fn := fun _ => fun
  | [d1, d2, d3] => { results := [.lit (.bool true)], args := [d1, d2, d3] }
  | _ => none }
def wholeSumsRow : OpenClaim := { program := "ytpiiopppbgpbpaa", sum := "6664a7cf5f1c60bb73efd3d56bb679f56b67c152e4ab26a1ee386deff060d07e", func := "cursitor/cursitortop.WholeSums", spec := "wholeSums", apart := false }
def WholeSumsSaid : Prop := wholeSumsRow.holds Try.pinned (OpenSpec.ofChange wholeSumsSpec)

/-- ITS FALSE NEIGHBOUR: 'it returns false'. Refute it at one input. -/
def wholeSumsWrong : ChangeSpec := { name := "wholeSums", fn := fun _ => fun
  | [d1, d2, d3] => { results := [.lit (.bool false)], args := [d1, d2, d3] }
  | _ => none }
def WholeSumsWrongFalsely : Prop := wholeSumsRow.holds Try.pinned (OpenSpec.ofChange wholeSumsWrong)

/-- 'cursitorlaw18.TxnParts': WHATEVER THE INPUT: true; the input reads as it did. -/
def txnPartsSpec : ChangeSpec := { name := "txnParts", fn := fun _ => fun
  | [d1, d2, d3] => { results := [.lit (.bool true)], args := [d1, d2, d3] }
  | _ => none }
def txnPartsRow : OpenClaim := { program := "ytpiiopppbgpbpaa", sum := "6664a7cf5f1c60bb73efd3d56bb679f56b67c152e4ab26a1ee386deff060d07e", func := "cursitor/cursitorlaw18.TxnParts", spec := "txnParts", unfollowed := true, recurses := true, apart := false }
def TxnPartsSaid : Prop := txnPartsRow.holds Try.pinned (OpenSpec.ofChange txnPartsSpec)

/-- ITS FALSE NEIGHBOUR: 'it returns false'. Refute it at one input. -/
def txnPartsWrong : ChangeSpec := { name := "txnParts", fn := fun _ => fun
  | [d1, d2, d3] => { results := [.lit (.bool false)], args := [d1, d2, d3] }
  | _ => none }
def TxnPartsWrongFalsely : Prop := txnPartsRow.holds Try.pinned (OpenSpec.ofChange txnPartsWrong)

/-- 'cursitortop.WholeBits': WHATEVER THE INPUT: true; the input reads as it did. -/
def wholeBitsSpec : ChangeSpec := { name := "wholeBits", fn := fun _ => fun
  | [d1, d2, d3] => { results := [.lit (.bool true)], args := [d1, d2, d3] }
  | _ => none }
def wholeBitsRow : OpenClaim := { program := "ytpiiopppbgpbpaa", sum := "6664a7cf5f1c60bb73efd3d56bb679f56b67c152e4ab26a1ee386deff060d07e", func := "cursitor/cursitortop.WholeBits", spec := "wholeBits", apart := false }
def WholeBitsSaid : Prop := wholeBitsRow.holds Try.pinned (OpenSpec.ofChange wholeBitsSpec)

/-- ITS FALSE NEIGHBOUR: 'it returns false'. Refute it at one input. -/
def wholeBitsWrong : ChangeSpec := { name := "wholeBits", fn := fun _ => fun
  | [d1, d2, d3] => { results := [.lit (.bool false)], args := [d1, d2, d3] }
  | _ => none }
def WholeBitsWrongFalsely : Prop := wholeBitsRow.holds Try.pinned (OpenSpec.ofChange wholeBitsWrong)

/- THE SECOND FORM. 'bulk': how many values and letters a reading holds, each counted each time it is reached (what is shared counts as often as it is met; a slice's spare places count too). A statement '..UptoSaid' is the law's where the arguments, and the package variables that the reading takes, are together of bulk at most 1048576: NARROWER than '..Said'. Prove '..Said' where nothing that the law and all that it calls make is longer than what came in: it says more and counts as full. Else prove '..UptoSaid'. A law counts once. -/
mutual
def uptoBulk {H : Type} : DataW H → Nat
  | .lit (.string bytes) => bytes.length + 1
  | .lit _ => 1
  | .nil => 1
  | .ptr d => uptoBulk d + 1
  | .slice elems spare => uptoBulkAll elems + uptoBulkAll spare + 1
  | .agg parts => uptoBulkAll parts + 1
  | .iface _ d => uptoBulk d + 1
  | .map entries => uptoBulkEntries entries + 1
  | .held _ => 1
def uptoBulkAll {H : Type} : List (DataW H) → Nat
  | [] => 0
  | d :: r => uptoBulk d + uptoBulkAll r
def uptoBulkEntries {H : Type} : List (Lit × DataW H) → Nat
  | [] => 0
  | x :: r => uptoBulkEntry x + uptoBulkEntries r
def uptoBulkEntry {H : Type} : Lit × DataW H → Nat
  | (.string bytes, d) => bytes.length + uptoBulk d + 1
  | (_, d) => uptoBulk d + 1
 end
def uptoSmall : (H : Type) → List (DataW H) → Bool := fun _ ds => decide (uptoBulkAll ds ≤ 1048576)
def OpenSpec.upto (s : _root_.Go.ChangeSpec) : _root_.Go.OpenSpec := { _root_.Go.OpenSpec.ofChange s with cond := some uptoSmall }

/-- 'cursitorlaw24.TallyQuarters', WHERE WHAT IT READS IS OF BULK AT MOST 1048576: true; the input reads as it did. -/
def tallyQuartersUptoRow : OpenClaim := { program := "ytpiiopppbgpbpaa", sum := "6664a7cf5f1c60bb73efd3d56bb679f56b67c152e4ab26a1ee386deff060d07e", func := "cursitor/cursitorlaw24.TallyQuarters", spec := "tallyQuarters", apart := false, narrowed := true }
def TallyQuartersUptoSaid : Prop := tallyQuartersUptoRow.holds Try.pinned (OpenSpec.upto tallyQuartersSpec)

/-- 'cursitorlaw10.PrefixWrites', WHERE WHAT IT READS IS OF BULK AT MOST 1048576: true; the input reads as it did. -/
def prefixWritesUptoRow : OpenClaim := { program := "ytpiiopppbgpbpaa", sum := "6664a7cf5f1c60bb73efd3d56bb679f56b67c152e4ab26a1ee386deff060d07e", func := "cursitor/cursitorlaw10.PrefixWrites", spec := "prefixWrites", apart := false, narrowed := true }
def PrefixWritesUptoSaid : Prop := prefixWritesUptoRow.holds Try.pinned (OpenSpec.upto prefixWritesSpec)

/-- 'cursitorlaw10.PrefixReads', WHERE WHAT IT READS IS OF BULK AT MOST 1048576: true; the input reads as it did. -/
def prefixReadsUptoRow : OpenClaim := { program := "ytpiiopppbgpbpaa", sum := "6664a7cf5f1c60bb73efd3d56bb679f56b67c152e4ab26a1ee386deff060d07e", func := "cursitor/cursitorlaw10.PrefixReads", spec := "prefixReads", apart := false, narrowed := true }
def PrefixReadsUptoSaid : Prop := prefixReadsUptoRow.holds Try.pinned (OpenSpec.upto prefixReadsSpec)

/-- 'cursitortop.WholeNumbers', WHERE WHAT IT READS IS OF BULK AT MOST 1048576: true; the input reads as it did. -/
def wholeNumbersUptoRow : OpenClaim := { program := "ytpiiopppbgpbpaa", sum := "6664a7cf5f1c60bb73efd3d56bb679f56b67c152e4ab26a1ee386deff060d07e", func := "cursitor/cursitortop.WholeNumbers", spec := "wholeNumbers", apart := false, narrowed := true }
def WholeNumbersUptoSaid : Prop := wholeNumbersUptoRow.holds Try.pinned (OpenSpec.upto wholeNumbersSpec)

/-- 'cursitorlaw04.BlobBack', WHERE WHAT IT READS IS OF BULK AT MOST 1048576: true; the input reads as it did. -/
def blobBackUptoRow : OpenClaim := { program := "ytpiiopppbgpbpaa", sum := "6664a7cf5f1c60bb73efd3d56bb679f56b67c152e4ab26a1ee386deff060d07e", func := "cursitor/cursitorlaw04.BlobBack", spec := "blobBack", apart := false, narrowed := true }
def BlobBackUptoSaid : Prop := blobBackUptoRow.holds Try.pinned (OpenSpec.upto blobBackSpec)

/-- 'cursitortop.WholeFields', WHERE WHAT IT READS IS OF BULK AT MOST 1048576: true; the input reads as it did. -/
def wholeFieldsUptoRow : OpenClaim := { program := "ytpiiopppbgpbpaa", sum := "6664a7cf5f1c60bb73efd3d56bb679f56b67c152e4ab26a1ee386deff060d07e", func := "cursitor/cursitortop.WholeFields", spec := "wholeFields", unfollowed := true, recurses := true, apart := false, narrowed := true }
def WholeFieldsUptoSaid : Prop := wholeFieldsUptoRow.holds Try.pinned (OpenSpec.upto wholeFieldsSpec)

/-- 'cursitorlaw05.CrcSums', WHERE WHAT IT READS IS OF BULK AT MOST 1048576: true; the input reads as it did. -/
def crcSumsUptoRow : OpenClaim := { program := "ytpiiopppbgpbpaa", sum := "6664a7cf5f1c60bb73efd3d56bb679f56b67c152e4ab26a1ee386deff060d07e", func := "cursitor/cursitorlaw05.CrcSums", spec := "crcSums", apart := false, narrowed := true }
def CrcSumsUptoSaid : Prop := crcSumsUptoRow.holds Try.pinned (OpenSpec.upto crcSumsSpec)

/-- 'cursitorlaw05.CrcBursts', WHERE WHAT IT READS IS OF BULK AT MOST 1048576: true; the input reads as it did. -/
def crcBurstsUptoRow : OpenClaim := { program := "ytpiiopppbgpbpaa", sum := "6664a7cf5f1c60bb73efd3d56bb679f56b67c152e4ab26a1ee386deff060d07e", func := "cursitor/cursitorlaw05.CrcBursts", spec := "crcBursts", apart := false, narrowed := true }
def CrcBurstsUptoSaid : Prop := crcBurstsUptoRow.holds Try.pinned (OpenSpec.upto crcBurstsSpec)

/-- 'cursitorlaw01.InputReads', WHERE WHAT IT READS IS OF BULK AT MOST 1048576: true; the input reads as it did. -/
def inputReadsUptoRow : OpenClaim := { program := "ytpiiopppbgpbpaa", sum := "6664a7cf5f1c60bb73efd3d56bb679f56b67c152e4ab26a1ee386deff060d07e", func := "cursitor/cursitorlaw01.InputReads", spec := "inputReads", apart := false, narrowed := true }
def InputReadsUptoSaid : Prop := inputReadsUptoRow.holds Try.pinned (OpenSpec.upto inputReadsSpec)

/-- 'cursitortop.WholeSums', WHERE WHAT IT READS IS OF BULK AT MOST 1048576: true; the input reads as it did. -/
def wholeSumsUptoRow : OpenClaim := { program := "ytpiiopppbgpbpaa", sum := "6664a7cf5f1c60bb73efd3d56bb679f56b67c152e4ab26a1ee386deff060d07e", func := "cursitor/cursitortop.WholeSums", spec := "wholeSums", apart := false, narrowed := true }
def WholeSumsUptoSaid : Prop := wholeSumsUptoRow.holds Try.pinned (OpenSpec.upto wholeSumsSpec)

/-- 'cursitorlaw18.TxnParts', WHERE WHAT IT READS IS OF BULK AT MOST 1048576: true; the input reads as it did. -/
def txnPartsUptoRow : OpenClaim := { program := "ytpiiopppbgpbpaa", sum := "6664a7cf5f1c60bb73efd3d56bb679f56b67c152e4ab26a1ee386deff060d07e", func := "cursitor/cursitorlaw18.TxnParts", spec := "txnParts", unfollowed := true, recurses := true, apart := false, narrowed := true }
def TxnPartsUptoSaid : Prop := txnPartsUptoRow.holds Try.pinned (OpenSpec.upto txnPartsSpec)

/-- 'cursitortop.WholeBits', WHERE WHAT IT READS IS OF BULK AT MOST 1048576: true; the input reads as it did. -/
def wholeBitsUptoRow : OpenClaim := { program := "ytpiiopppbgpbpaa", sum := "6664a7cf5f1c60bb73efd3d56bb679f56b67c152e4ab26a1ee386deff060d07e", func := "cursitor/cursitortop.WholeBits", spec := "wholeBits", apart := false, narrowed := true }
def WholeBitsUptoSaid : Prop := wholeBitsUptoRow.holds Try.pinned (OpenSpec.upto wholeBitsSpec)

end Rows
end Go.Proofs.Ytpiiopppbgpbpaa
