/-
  No cell of these rows narrows 'for every input' (looked for: loops, veiled, ifaces, maps, wideKeys, modest, calm, conditions, laid).
  DERIVED. THE GIVEN ROWS OF THIS SEAT. 12 by the template 'for every input the law returns true; each argument reads behind the call as it read before'; 0 by the template 'total and deterministic' (their statements: YtdlpmcbglmgpiaaTotals.lean).
  GIVEN WITH THE SEED: the statements are not yours to turn. If you find one false, say at which input.
  Laid BY PROGRAM, IN A SANDBOX (cutbox-rows.mjs): the forced cells as the released guide's own fill.sh prints them over the translation 0cdf9f1ef2b374b7… (all of the seat's roots in one cut). By AI agents, Wed Nov 11 2026. No macro, syntax, notation, axiom, sorry.
-/
import Derived.Test.YtdlpmcbglmgpiaaChecked
import GoSem.Claim
import GoSem.ClaimJoined
import GoSem.ClaimMapViews
import Derived.JoinedTies
import Derived.KernelRfl
namespace Go.Proofs.Ytdlpmcbglmgpiaa
/- THE CELL 'sum', in the pinned program and in every row, IS THE sha256 OF THE DUMP (.gsa) THAT YtdlpmcbglmgpiaaProg.lean LOADS. Nothing in Lean hashes anything: it is a label: what it is worth is what the hold of that sum in a sandbox is worth. -/
noncomputable def Try.pinned : Pinned := { name := "ytdlpmcbglmgpiaa", sum := "0cdf9f1ef2b374b7b87e000a5208a5408388aa83d2f9a54cee72cca150fce034", checked := Try.checked }
namespace Rows
def none {H : Type} : Left H := { results := [], args := [] }

/-- 'cursitorlaw17.RequestReads': WHATEVER THE INPUT: true; the input reads as it did. -/
def requestReadsSpec : ChangeSpec := { name := "requestReads", fn := fun _ => fun
  | [d] => { results := [.lit (.bool true)], args := [d] }
  | _ => none }
def requestReadsRow : OpenClaim := { program := "ytdlpmcbglmgpiaa", sum := "0cdf9f1ef2b374b7b87e000a5208a5408388aa83d2f9a54cee72cca150fce034", func := "cursitor/cursitorlaw17.RequestReads", spec := "requestReads", apart := false }
def RequestReadsSaid : Prop := requestReadsRow.holds Try.pinned (OpenSpec.ofChange requestReadsSpec)

/-- ITS FALSE NEIGHBOUR: 'it returns false'. Refute it at one input. -/
def requestReadsWrong : ChangeSpec := { name := "requestReads", fn := fun _ => fun
  | [d] => { results := [.lit (.bool false)], args := [d] }
  | _ => none }
def RequestReadsWrongFalsely : Prop := requestReadsRow.holds Try.pinned (OpenSpec.ofChange requestReadsWrong)

/-- 'cursitorlaw17.RequestWrites': WHATEVER THE INPUT: true; the input reads as it did. -/
def requestWritesSpec : ChangeSpec := { name := "requestWrites", fn := fun _ => fun
  | [d] => { results := [.lit (.bool true)], args := [d] }
  | _ => none }
def requestWritesRow : OpenClaim := { program := "ytdlpmcbglmgpiaa", sum := "0cdf9f1ef2b374b7b87e000a5208a5408388aa83d2f9a54cee72cca150fce034", func := "cursitor/cursitorlaw17.RequestWrites", spec := "requestWrites", apart := false }
def RequestWritesSaid : Prop := requestWritesRow.holds Try.pinned (OpenSpec.ofChange requestWritesSpec)

/-- ITS FALSE NEIGHBOUR: 'it returns false'. Refute it at one input. -/
def requestWritesWrong : ChangeSpec := { name := "requestWrites", fn := fun _ => fun
  | [d] => { results := [.lit (.bool false)], args := [d] }
  | _ => none }
def RequestWritesWrongFalsely : Prop := requestWritesRow.holds Try.pinned (OpenSpec.ofChange requestWritesWrong)

/-- 'cursitorlaw06.HeaderWrites': WHATEVER THE INPUT: true; the input reads as it did. -/
def headerWritesSpec : ChangeSpec := { name := "headerWrites", fn := fun _ => fun
  | [d] => { results := [.lit (.bool true)], args := [d] }
  | _ => none }
def headerWritesRow : OpenClaim := { program := "ytdlpmcbglmgpiaa", sum := "0cdf9f1ef2b374b7b87e000a5208a5408388aa83d2f9a54cee72cca150fce034", func := "cursitor/cursitorlaw06.HeaderWrites", spec := "headerWrites", apart := false }
def HeaderWritesSaid : Prop := headerWritesRow.holds Try.pinned (OpenSpec.ofChange headerWritesSpec)

/-- ITS FALSE NEIGHBOUR: 'it returns false'. Refute it at one input. -/
def headerWritesWrong : ChangeSpec := { name := "headerWrites", fn := fun _ => fun
  | [d] => { results := [.lit (.bool false)], args := [d] }
  | _ => none }
def HeaderWritesWrongFalsely : Prop := headerWritesRow.holds Try.pinned (OpenSpec.ofChange headerWritesWrong)

/-- 'cursitorlaw06.HeaderReads': WHATEVER THE INPUT: true; the input reads as it did. -/
def headerReadsSpec : ChangeSpec := { name := "headerReads", fn := fun _ => fun
  | [d] => { results := [.lit (.bool true)], args := [d] }
  | _ => none }
def headerReadsRow : OpenClaim := { program := "ytdlpmcbglmgpiaa", sum := "0cdf9f1ef2b374b7b87e000a5208a5408388aa83d2f9a54cee72cca150fce034", func := "cursitor/cursitorlaw06.HeaderReads", spec := "headerReads", apart := false }
def HeaderReadsSaid : Prop := headerReadsRow.holds Try.pinned (OpenSpec.ofChange headerReadsSpec)

/-- ITS FALSE NEIGHBOUR: 'it returns false'. Refute it at one input. -/
def headerReadsWrong : ChangeSpec := { name := "headerReads", fn := fun _ => fun
  | [d] => { results := [.lit (.bool false)], args := [d] }
  | _ => none }
def HeaderReadsWrongFalsely : Prop := headerReadsRow.holds Try.pinned (OpenSpec.ofChange headerReadsWrong)

/-- 'cursitorlaw06.HeaderFinds': WHATEVER THE INPUT: true; the input reads as it did. -/
def headerFindsSpec : ChangeSpec := { name := "headerFinds", fn := fun _ => fun
  | [d1, d2] => { results := [.lit (.bool true)], args := [d1, d2] }
  | _ => none }
def headerFindsRow : OpenClaim := { program := "ytdlpmcbglmgpiaa", sum := "0cdf9f1ef2b374b7b87e000a5208a5408388aa83d2f9a54cee72cca150fce034", func := "cursitor/cursitorlaw06.HeaderFinds", spec := "headerFinds", apart := false }
def HeaderFindsSaid : Prop := headerFindsRow.holds Try.pinned (OpenSpec.ofChange headerFindsSpec)

/-- ITS FALSE NEIGHBOUR: 'it returns false'. Refute it at one input. -/
def headerFindsWrong : ChangeSpec := { name := "headerFinds", fn := fun _ => fun
  | [d1, d2] => { results := [.lit (.bool false)], args := [d1, d2] }
  | _ => none }
def HeaderFindsWrongFalsely : Prop := headerFindsRow.holds Try.pinned (OpenSpec.ofChange headerFindsWrong)

/-- 'cursitorlaw14.ValueDecodes': WHATEVER THE INPUT: true; the input reads as it did. -/
def valueDecodesSpec : ChangeSpec := { name := "valueDecodes", fn := fun _ => fun
  | [d] => { results := [.lit (.bool true)], args := [d] }
  | _ => none }
def valueDecodesRow : OpenClaim := { program := "ytdlpmcbglmgpiaa", sum := "0cdf9f1ef2b374b7b87e000a5208a5408388aa83d2f9a54cee72cca150fce034", func := "cursitor/cursitorlaw14.ValueDecodes", spec := "valueDecodes", apart := false }
def ValueDecodesSaid : Prop := valueDecodesRow.holds Try.pinned (OpenSpec.ofChange valueDecodesSpec)

/-- ITS FALSE NEIGHBOUR: 'it returns false'. Refute it at one input. -/
def valueDecodesWrong : ChangeSpec := { name := "valueDecodes", fn := fun _ => fun
  | [d] => { results := [.lit (.bool false)], args := [d] }
  | _ => none }
def ValueDecodesWrongFalsely : Prop := valueDecodesRow.holds Try.pinned (OpenSpec.ofChange valueDecodesWrong)

/-- 'cursitortop.WholeSums': WHATEVER THE INPUT: true; the input reads as it did. -/
def wholeSumsSpec : ChangeSpec := { name := "wholeSums", fn := fun _ => fun
  | [d1, d2, d3] => { results := [.lit (.bool true)], args := [d1, d2, d3] }
  | _ => none }
def wholeSumsRow : OpenClaim := { program := "ytdlpmcbglmgpiaa", sum := "0cdf9f1ef2b374b7b87e000a5208a5408388aa83d2f9a54cee72cca150fce034", func := "cursitor/cursitortop.WholeSums", spec := "wholeSums", apart := false }
def WholeSumsSaid : Prop := wholeSumsRow.holds Try.pinned (OpenSpec.ofChange wholeSumsSpec)

/-- ITS FALSE NEIGHBOUR: 'it returns false'. Refute it at one input. -/
def wholeSumsWrong : ChangeSpec := { name := "wholeSums", fn := fun _ => fun
  | [d1, d2, d3] => { results := [.lit (.bool false)], args := [d1, d2, d3] }
  | _ => none }
def WholeSumsWrongFalsely : Prop := wholeSumsRow.holds Try.pinned (OpenSpec.ofChange wholeSumsWrong)

/-- 'cursitorlaw18.TxnParts': WHATEVER THE INPUT: true; the input reads as it did. -/
def txnPartsSpec : ChangeSpec := { name := "txnParts", fn := fun _ => fun
  | [d1, d2, d3] => { results := [.lit (.bool true)], args := [d1, d2, d3] }
  | _ => none }
def txnPartsRow : OpenClaim := { program := "ytdlpmcbglmgpiaa", sum := "0cdf9f1ef2b374b7b87e000a5208a5408388aa83d2f9a54cee72cca150fce034", func := "cursitor/cursitorlaw18.TxnParts", spec := "txnParts", unfollowed := true, recurses := true, apart := false }
def TxnPartsSaid : Prop := txnPartsRow.holds Try.pinned (OpenSpec.ofChange txnPartsSpec)

/-- ITS FALSE NEIGHBOUR: 'it returns false'. Refute it at one input. -/
def txnPartsWrong : ChangeSpec := { name := "txnParts", fn := fun _ => fun
  | [d1, d2, d3] => { results := [.lit (.bool false)], args := [d1, d2, d3] }
  | _ => none }
def TxnPartsWrongFalsely : Prop := txnPartsRow.holds Try.pinned (OpenSpec.ofChange txnPartsWrong)

/-- 'cursitorlaw12.MarkerReads': WHATEVER THE INPUT: true; the input reads as it did. -/
def markerReadsSpec : ChangeSpec := { name := "markerReads", fn := fun _ => fun
  | [d] => { results := [.lit (.bool true)], args := [d] }
  | _ => none }
def markerReadsRow : OpenClaim := { program := "ytdlpmcbglmgpiaa", sum := "0cdf9f1ef2b374b7b87e000a5208a5408388aa83d2f9a54cee72cca150fce034", func := "cursitor/cursitorlaw12.MarkerReads", spec := "markerReads", apart := false }
def MarkerReadsSaid : Prop := markerReadsRow.holds Try.pinned (OpenSpec.ofChange markerReadsSpec)

/-- ITS FALSE NEIGHBOUR: 'it returns false'. Refute it at one input. -/
def markerReadsWrong : ChangeSpec := { name := "markerReads", fn := fun _ => fun
  | [d] => { results := [.lit (.bool false)], args := [d] }
  | _ => none }
def MarkerReadsWrongFalsely : Prop := markerReadsRow.holds Try.pinned (OpenSpec.ofChange markerReadsWrong)

/-- 'cursitorlaw14.ValueTopics': WHATEVER THE INPUT: true; the input reads as it did. -/
def valueTopicsSpec : ChangeSpec := { name := "valueTopics", fn := fun _ => fun
  | [d1, d2, d3] => { results := [.lit (.bool true)], args := [d1, d2, d3] }
  | _ => none }
def valueTopicsRow : OpenClaim := { program := "ytdlpmcbglmgpiaa", sum := "0cdf9f1ef2b374b7b87e000a5208a5408388aa83d2f9a54cee72cca150fce034", func := "cursitor/cursitorlaw14.ValueTopics", spec := "valueTopics", unfollowed := true, recurses := true, apart := false }
def ValueTopicsSaid : Prop := valueTopicsRow.holds Try.pinned (OpenSpec.ofChange valueTopicsSpec)

/-- ITS FALSE NEIGHBOUR: 'it returns false'. Refute it at one input. -/
def valueTopicsWrong : ChangeSpec := { name := "valueTopics", fn := fun _ => fun
  | [d1, d2, d3] => { results := [.lit (.bool false)], args := [d1, d2, d3] }
  | _ => none }
def ValueTopicsWrongFalsely : Prop := valueTopicsRow.holds Try.pinned (OpenSpec.ofChange valueTopicsWrong)

/-- 'cursitorlaw14.ValueEncodes': WHATEVER THE INPUT: true; the input reads as it did. -/
def valueEncodesSpec : ChangeSpec := { name := "valueEncodes", fn := fun _ => fun
  | [d] => { results := [.lit (.bool true)], args := [d] }
  | _ => none }
def valueEncodesRow : OpenClaim := { program := "ytdlpmcbglmgpiaa", sum := "0cdf9f1ef2b374b7b87e000a5208a5408388aa83d2f9a54cee72cca150fce034", func := "cursitor/cursitorlaw14.ValueEncodes", spec := "valueEncodes", unfollowed := true, recurses := true, apart := false }
def ValueEncodesSaid : Prop := valueEncodesRow.holds Try.pinned (OpenSpec.ofChange valueEncodesSpec)

/-- ITS FALSE NEIGHBOUR: 'it returns false'. Refute it at one input. -/
def valueEncodesWrong : ChangeSpec := { name := "valueEncodes", fn := fun _ => fun
  | [d] => { results := [.lit (.bool false)], args := [d] }
  | _ => none }
def ValueEncodesWrongFalsely : Prop := valueEncodesRow.holds Try.pinned (OpenSpec.ofChange valueEncodesWrong)

/-- 'cursitortop.WholeBits': WHATEVER THE INPUT: true; the input reads as it did. -/
def wholeBitsSpec : ChangeSpec := { name := "wholeBits", fn := fun _ => fun
  | [d1, d2, d3] => { results := [.lit (.bool true)], args := [d1, d2, d3] }
  | _ => none }
def wholeBitsRow : OpenClaim := { program := "ytdlpmcbglmgpiaa", sum := "0cdf9f1ef2b374b7b87e000a5208a5408388aa83d2f9a54cee72cca150fce034", func := "cursitor/cursitortop.WholeBits", spec := "wholeBits", apart := false }
def WholeBitsSaid : Prop := wholeBitsRow.holds Try.pinned (OpenSpec.ofChange wholeBitsSpec)

/-- ITS FALSE NEIGHBOUR: 'it returns false'. Refute it at one input. -/
def wholeBitsWrong : ChangeSpec := { name := "wholeBits", fn := fun _ => fun
  | [d1, d2, d3] => { results := [.lit (.bool false)], args := [d1, d2, d3] }
  | _ => none }
def WholeBitsWrongFalsely : Prop := wholeBitsRow.holds Try.pinned (OpenSpec.ofChange wholeBitsWrong)

/- THE SECOND FORM. 'bulk': how many values and letters a reading holds, each counted each time it is reached (what is shared counts as often as it is met; a slice's spare places count too). A statement '..UptoSaid' is the law's where the arguments, and the package variables that the reading takes, are together of bulk at most 1048576: NARROWER than '..Said'. Prove '..Said' where nothing that the law and all that it calls make is longer than what came in: it says more and counts as full. Else prove '..UptoSaid'. A law counts once. -/
mutual
def uptoBulk {H : Type} : DataW H → Nat
  | .lit (.string bytes) => bytes.length + 1
  | .lit _ => 1
  | .nil => 1
  | .ptr d => uptoBulk d + 1
  | .slice elems spare => uptoBulkAll elems + uptoBulkAll spare + 1
  | .agg parts => uptoBulkAll parts + 1
  | .iface _ d => uptoBulk d + 1
  | .map entries => uptoBulkEntries entries + 1
  | .held _ => 1
def uptoBulkAll {H : Type} : List (DataW H) → Nat
  | [] => 0
  | d :: r => uptoBulk d + uptoBulkAll r
def uptoBulkEntries {H : Type} : List (Lit × DataW H) → Nat
  | [] => 0
  | x :: r => uptoBulkEntry x + uptoBulkEntries r
def uptoBulkEntry {H : Type} : Lit × DataW H → Nat
  | (.string bytes, d) => bytes.length + uptoBulk d + 1
  | (_, d) => uptoBulk d + 1
 end
def uptoSmall : (H : Type) → List (DataW H) → Bool := fun _ ds => decide (uptoBulkAll ds ≤ 1048576)
def OpenSpec.upto (s : _root_.Go.ChangeSpec) : _root_.Go.OpenSpec := { _root_.Go.OpenSpec.ofChange s with cond := some uptoSmall }

/-- 'cursitorlaw17.RequestReads', WHERE WHAT IT READS IS OF BULK AT MOST 1048576: true; the input reads as it did. -/
def requestReadsUptoRow : OpenClaim := { program := "ytdlpmcbglmgpiaa", sum := "0cdf9f1ef2b374b7b87e000a5208a5408388aa83d2f9a54cee72cca150fce034", func := "cursitor/cursitorlaw17.RequestReads", spec := "requestReads", apart := false, narrowed := true }
def RequestReadsUptoSaid : Prop := requestReadsUptoRow.holds Try.pinned (OpenSpec.upto requestReadsSpec)

/-- 'cursitorlaw17.RequestWrites', WHERE WHAT IT READS IS OF BULK AT MOST 1048576: true; the input reads as it did. -/
def requestWritesUptoRow : OpenClaim := { program := "ytdlpmcbglmgpiaa", sum := "0cdf9f1ef2b374b7b87e000a5208a5408388aa83d2f9a54cee72cca150fce034", func := "cursitor/cursitorlaw17.RequestWrites", spec := "requestWrites", apart := false, narrowed := true }
def RequestWritesUptoSaid : Prop := requestWritesUptoRow.holds Try.pinned (OpenSpec.upto requestWritesSpec)

/-- 'cursitorlaw06.HeaderWrites', WHERE WHAT IT READS IS OF BULK AT MOST 1048576: true; the input reads as it did. -/
def headerWritesUptoRow : OpenClaim := { program := "ytdlpmcbglmgpiaa", sum := "0cdf9f1ef2b374b7b87e000a5208a5408388aa83d2f9a54cee72cca150fce034", func := "cursitor/cursitorlaw06.HeaderWrites", spec := "headerWrites", apart := false, narrowed := true }
def HeaderWritesUptoSaid : Prop := headerWritesUptoRow.holds Try.pinned (OpenSpec.upto headerWritesSpec)

/-- 'cursitorlaw06.HeaderReads', WHERE WHAT IT READS IS OF BULK AT MOST 1048576: true; the input reads as it did. -/
def headerReadsUptoRow : OpenClaim := { program := "ytdlpmcbglmgpiaa", sum := "0cdf9f1ef2b374b7b87e000a5208a5408388aa83d2f9a54cee72cca150fce034", func := "cursitor/cursitorlaw06.HeaderReads", spec := "headerReads", apart := false, narrowed := true }
def HeaderReadsUptoSaid : Prop := headerReadsUptoRow.holds Try.pinned (OpenSpec.upto headerReadsSpec)

/-- 'cursitorlaw06.HeaderFinds', WHERE WHAT IT READS IS OF BULK AT MOST 1048576: true; the input reads as it did. -/
def headerFindsUptoRow : OpenClaim := { program := "ytdlpmcbglmgpiaa", sum := "0cdf9f1ef2b374b7b87e000a5208a5408388aa83d2f9a54cee72cca150fce034", func := "cursitor/cursitorlaw06.HeaderFinds", spec := "headerFinds", apart := false, narrowed := true }
def HeaderFindsUptoSaid : Prop := headerFindsUptoRow.holds Try.pinned (OpenSpec.upto headerFindsSpec)

/-- 'cursitorlaw14.ValueDecodes', WHERE WHAT IT READS IS OF BULK AT MOST 1048576: true; the input reads as it did. -/
def valueDecodesUptoRow : OpenClaim := { program := "ytdlpmcbglmgpiaa", sum := "0cdf9f1ef2b374b7b87e000a5208a5408388aa83d2f9a54cee72cca150fce034", func := "cursitor/cursitorlaw14.ValueDecodes", spec := "valueDecodes", apart := false, narrowed := true }
def ValueDecodesUptoSaid : Prop := valueDecodesUptoRow.holds Try.pinned (OpenSpec.upto valueDecodesSpec)

/-- 'cursitortop.WholeSums', WHERE WHAT IT READS IS OF BULK AT MOST 1048576: true; the input reads as it did. -/
def wholeSumsUptoRow : OpenClaim := { program := "ytdlpmcbglmgpiaa", sum := "0cdf9f1ef2b374b7b87e000a5208a5408388aa83d2f9a54cee72cca150fce034", func := "cursitor/cursitortop.WholeSums", spec := "wholeSums", apart := false, narrowed := true }
def WholeSumsUptoSaid : Prop := wholeSumsUptoRow.holds Try.pinned (OpenSpec.upto wholeSumsSpec)

/-- 'cursitorlaw18.TxnParts', WHERE WHAT IT READS IS OF BULK AT MOST 1048576: true; the input reads as it did. -/
def txnPartsUptoRow : OpenClaim := { program := "ytdlpmcbglmgpiaa", sum := "0cdf9f1ef2b374b7b87e000a5208a5408388aa83d2f9a54cee72cca150fce034", func := "cursitor/cursitorlaw18.TxnParts", spec := "txnParts", unfollowed := true, recurses := true, apart := false, narrowed := true }
def TxnPartsUptoSaid : Prop := txnPartsUptoRow.holds Try.pinned (OpenSpec.upto txnPartsSpec)

/-- 'cursitorlaw12.MarkerReads', WHERE WHAT IT READS IS OF BULK AT MOST 1048576: true; the input reads as it did. -/
def markerReadsUptoRow : OpenClaim := { program := "ytdlpmcbglmgpiaa", sum := "0cdf9f1ef2b374b7b87e000a5208a5408388aa83d2f9a54cee72cca150fce034", func := "cursitor/cursitorlaw12.MarkerReads", spec := "markerReads", apart := false, narrowed := true }
def MarkerReadsUptoSaid : Prop := markerReadsUptoRow.holds Try.pinned (OpenSpec.upto markerReadsSpec)

/-- 'cursitorlaw14.ValueTopics', WHERE WHAT IT READS IS OF BULK AT MOST 1048576: true; the input reads as it did. -/
def valueTopicsUptoRow : OpenClaim := { program := "ytdlpmcbglmgpiaa", sum := "0cdf9f1ef2b374b7b87e000a5208a5408388aa83d2f9a54cee72cca150fce034", func := "cursitor/cursitorlaw14.ValueTopics", spec := "valueTopics", unfollowed := true, recurses := true, apart := false, narrowed := true }
def ValueTopicsUptoSaid : Prop := valueTopicsUptoRow.holds Try.pinned (OpenSpec.upto valueTopicsSpec)

/-- 'cursitorlaw14.ValueEncodes', WHERE WHAT IT READS IS OF BULK AT MOST 1048576: true; the input reads as it did. -/
def valueEncodesUptoRow : OpenClaim := { program := "ytdlpmcbglmgpiaa", sum := "0cdf9f1ef2b374b7b87e000a5208a5408388aa83d2f9a54cee72cca150fce034", func := "cursitor/cursitorlaw14.ValueEncodes", spec := "valueEncodes", unfollowed := true, recurses := true, apart := false, narrowed := true }
def ValueEncodesUptoSaid : Prop := valueEncodesUptoRow.holds Try.pinned (OpenSpec.upto valueEncodesSpec)

/-- 'cursitortop.WholeBits', WHERE WHAT IT READS IS OF BULK AT MOST 1048576: true; the input reads as it did. -/
def wholeBitsUptoRow : OpenClaim := { program := "ytdlpmcbglmgpiaa", sum := "0cdf9f1ef2b374b7b87e000a5208a5408388aa83d2f9a54cee72cca150fce034", func := "cursitor/cursitortop.WholeBits", spec := "wholeBits", apart := false, narrowed := true }
def WholeBitsUptoSaid : Prop := wholeBitsUptoRow.holds Try.pinned (OpenSpec.upto wholeBitsSpec)

end Rows
end Go.Proofs.Ytdlpmcbglmgpiaa
