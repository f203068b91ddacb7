/-
  No cell of these rows narrows 'for every input' (looked for: loops, veiled, ifaces, maps, wideKeys, modest, calm, conditions, laid).
  DERIVED. THE GIVEN ROWS OF THIS SEAT. 12 by the template 'for every input the law returns true; each argument reads behind the call as it read before'; 0 by the template 'total and deterministic' (their statements: YtaakchnddcphkaaTotals.lean).
  GIVEN WITH THE SEED: the statements are not yours to turn. If you find one false, say at which input.
  Laid BY PROGRAM, IN A SANDBOX (cutbox-rows.mjs): the forced cells as the released guide's own fill.sh prints them over the translation a93d1db4c463bec6… (all of the seat's roots in one cut). By AI agents, Wed Nov 11 2026. No macro, syntax, notation, axiom, sorry.
-/
import Derived.Test.YtaakchnddcphkaaChecked
import GoSem.Claim
import GoSem.ClaimJoined
import GoSem.ClaimMapViews
import Derived.JoinedTies
import Derived.KernelRfl
namespace Go.Proofs.Ytaakchnddcphkaa
/- THE CELL 'sum', in the pinned program and in every row, IS THE sha256 OF THE DUMP (.gsa) THAT YtaakchnddcphkaaProg.lean LOADS. Nothing in Lean hashes anything: it is a label: what it is worth is what the hold of that sum in a sandbox is worth. -/
noncomputable def Try.pinned : Pinned := { name := "ytaakchnddcphkaa", sum := "a93d1db4c463bec6e498339fc127e65caa7468137d7a872186ed4849365c4958", checked := Try.checked }
namespace Rows
def none {H : Type} : Left H := { results := [], args := [] }

/-- 'cursitorlaw09.AttrChecks': WHATEVER THE INPUT: true; the input reads as it did. -/
def attrChecksSpec : ChangeSpec := { name := "attrChecks", fn := fun _ => fun
  | [d] => { results := [.lit (.bool true)], args := [d] }
  | _ => none }
def attrChecksRow : OpenClaim := { program := "ytaakchnddcphkaa", sum := "a93d1db4c463bec6e498339fc127e65caa7468137d7a872186ed4849365c4958", func := "cursitor/cursitorlaw09.AttrChecks", spec := "attrChecks", apart := false }
def AttrChecksSaid : Prop := attrChecksRow.holds Try.pinned (OpenSpec.ofChange attrChecksSpec)

/-- ITS FALSE NEIGHBOUR: 'it returns false'. Refute it at one input. -/
def attrChecksWrong : ChangeSpec := { name := "attrChecks", fn := fun _ => fun
  | [d] => { results := [.lit (.bool false)], args := [d] }
  | _ => none }
def AttrChecksWrongFalsely : Prop := attrChecksRow.holds Try.pinned (OpenSpec.ofChange attrChecksWrong)

/-- 'cursitorlaw09.AttrBack': WHATEVER THE INPUT: true; the input reads as it did. -/
def attrBackSpec : ChangeSpec := { name := "attrBack", fn := fun _ => fun
  | [d1, d2, d3] => { results := [.lit (.bool true)], args := [d1, d2, d3] }
  | _ => none }
def attrBackRow : OpenClaim := { program := "ytaakchnddcphkaa", sum := "a93d1db4c463bec6e498339fc127e65caa7468137d7a872186ed4849365c4958", func := "cursitor/cursitorlaw09.AttrBack", spec := "attrBack", apart := false }
def AttrBackSaid : Prop := attrBackRow.holds Try.pinned (OpenSpec.ofChange attrBackSpec)

/-- ITS FALSE NEIGHBOUR: 'it returns false'. Refute it at one input. -/
def attrBackWrong : ChangeSpec := { name := "attrBack", fn := fun _ => fun
  | [d1, d2, d3] => { results := [.lit (.bool false)], args := [d1, d2, d3] }
  | _ => none }
def AttrBackWrongFalsely : Prop := attrBackRow.holds Try.pinned (OpenSpec.ofChange attrBackWrong)

/-- 'cursitorlaw05.CrcSums': WHATEVER THE INPUT: true; the input reads as it did. -/
def crcSumsSpec : ChangeSpec := { name := "crcSums", fn := fun _ => fun
  | [d] => { results := [.lit (.bool true)], args := [d] }
  | _ => none }
def crcSumsRow : OpenClaim := { program := "ytaakchnddcphkaa", sum := "a93d1db4c463bec6e498339fc127e65caa7468137d7a872186ed4849365c4958", func := "cursitor/cursitorlaw05.CrcSums", spec := "crcSums", apart := false }
def CrcSumsSaid : Prop := crcSumsRow.holds Try.pinned (OpenSpec.ofChange crcSumsSpec)

/-- ITS FALSE NEIGHBOUR: 'it returns false'. Refute it at one input. -/
def crcSumsWrong : ChangeSpec := { name := "crcSums", fn := fun _ => fun
  | [d] => { results := [.lit (.bool false)], args := [d] }
  | _ => none }
def CrcSumsWrongFalsely : Prop := crcSumsRow.holds Try.pinned (OpenSpec.ofChange crcSumsWrong)

/-- 'cursitorlaw05.CrcBursts': WHATEVER THE INPUT: true; the input reads as it did. -/
def crcBurstsSpec : ChangeSpec := { name := "crcBursts", fn := fun _ => fun
  | [d1, d2, d3] => { results := [.lit (.bool true)], args := [d1, d2, d3] }
  | _ => none }
def crcBurstsRow : OpenClaim := { program := "ytaakchnddcphkaa", sum := "a93d1db4c463bec6e498339fc127e65caa7468137d7a872186ed4849365c4958", func := "cursitor/cursitorlaw05.CrcBursts", spec := "crcBursts", apart := false }
def CrcBurstsSaid : Prop := crcBurstsRow.holds Try.pinned (OpenSpec.ofChange crcBurstsSpec)

/-- ITS FALSE NEIGHBOUR: 'it returns false'. Refute it at one input. -/
def crcBurstsWrong : ChangeSpec := { name := "crcBursts", fn := fun _ => fun
  | [d1, d2, d3] => { results := [.lit (.bool false)], args := [d1, d2, d3] }
  | _ => none }
def CrcBurstsWrongFalsely : Prop := crcBurstsRow.holds Try.pinned (OpenSpec.ofChange crcBurstsWrong)

/-- 'cursitorlaw16.VersionChecks': WHATEVER THE INPUT: true; the input reads as it did. -/
def versionChecksSpec : ChangeSpec := { name := "versionChecks", fn := fun _ => fun
  | [d1, d2] => { results := [.lit (.bool true)], args := [d1, d2] }
  | _ => none }
def versionChecksRow : OpenClaim := { program := "ytaakchnddcphkaa", sum := "a93d1db4c463bec6e498339fc127e65caa7468137d7a872186ed4849365c4958", func := "cursitor/cursitorlaw16.VersionChecks", spec := "versionChecks", apart := false }
def VersionChecksSaid : Prop := versionChecksRow.holds Try.pinned (OpenSpec.ofChange versionChecksSpec)

/-- ITS FALSE NEIGHBOUR: 'it returns false'. Refute it at one input. -/
def versionChecksWrong : ChangeSpec := { name := "versionChecks", fn := fun _ => fun
  | [d1, d2] => { results := [.lit (.bool false)], args := [d1, d2] }
  | _ => none }
def VersionChecksWrongFalsely : Prop := versionChecksRow.holds Try.pinned (OpenSpec.ofChange versionChecksWrong)

/-- 'cursitorlaw16.VersionNames': WHATEVER THE INPUT: true; the input reads as it did. -/
def versionNamesSpec : ChangeSpec := { name := "versionNames", fn := fun _ => fun
  | [d] => { results := [.lit (.bool true)], args := [d] }
  | _ => none }
def versionNamesRow : OpenClaim := { program := "ytaakchnddcphkaa", sum := "a93d1db4c463bec6e498339fc127e65caa7468137d7a872186ed4849365c4958", func := "cursitor/cursitorlaw16.VersionNames", spec := "versionNames", apart := false }
def VersionNamesSaid : Prop := versionNamesRow.holds Try.pinned (OpenSpec.ofChange versionNamesSpec)

/-- ITS FALSE NEIGHBOUR: 'it returns false'. Refute it at one input. -/
def versionNamesWrong : ChangeSpec := { name := "versionNames", fn := fun _ => fun
  | [d] => { results := [.lit (.bool false)], args := [d] }
  | _ => none }
def VersionNamesWrongFalsely : Prop := versionNamesRow.holds Try.pinned (OpenSpec.ofChange versionNamesWrong)

/-- 'cursitorlaw02.OutputWrites': WHATEVER THE INPUT: true; the input reads as it did. -/
def outputWritesSpec : ChangeSpec := { name := "outputWrites", fn := fun _ => fun
  | [d] => { results := [.lit (.bool true)], args := [d] }
  | _ => none }
def outputWritesRow : OpenClaim := { program := "ytaakchnddcphkaa", sum := "a93d1db4c463bec6e498339fc127e65caa7468137d7a872186ed4849365c4958", func := "cursitor/cursitorlaw02.OutputWrites", spec := "outputWrites", apart := false }
def OutputWritesSaid : Prop := outputWritesRow.holds Try.pinned (OpenSpec.ofChange outputWritesSpec)

/-- ITS FALSE NEIGHBOUR: 'it returns false'. Refute it at one input. -/
def outputWritesWrong : ChangeSpec := { name := "outputWrites", fn := fun _ => fun
  | [d] => { results := [.lit (.bool false)], args := [d] }
  | _ => none }
def OutputWritesWrongFalsely : Prop := outputWritesRow.holds Try.pinned (OpenSpec.ofChange outputWritesWrong)

/-- 'cursitorlaw01.InputBack': WHATEVER THE INPUT: true; the input reads as it did. -/
def inputBackSpec : ChangeSpec := { name := "inputBack", fn := fun _ => fun
  | [d1, d2] => { results := [.lit (.bool true)], args := [d1, d2] }
  | _ => none }
def inputBackRow : OpenClaim := { program := "ytaakchnddcphkaa", sum := "a93d1db4c463bec6e498339fc127e65caa7468137d7a872186ed4849365c4958", func := "cursitor/cursitorlaw01.InputBack", spec := "inputBack", apart := false }
def InputBackSaid : Prop := inputBackRow.holds Try.pinned (OpenSpec.ofChange inputBackSpec)

/-- ITS FALSE NEIGHBOUR: 'it returns false'. Refute it at one input. -/
def inputBackWrong : ChangeSpec := { name := "inputBack", fn := fun _ => fun
  | [d1, d2] => { results := [.lit (.bool false)], args := [d1, d2] }
  | _ => none }
def InputBackWrongFalsely : Prop := inputBackRow.holds Try.pinned (OpenSpec.ofChange inputBackWrong)

/-- 'cursitorlaw01.InputReads': WHATEVER THE INPUT: true; the input reads as it did. -/
def inputReadsSpec : ChangeSpec := { name := "inputReads", fn := fun _ => fun
  | [d1, d2] => { results := [.lit (.bool true)], args := [d1, d2] }
  | _ => none }
def inputReadsRow : OpenClaim := { program := "ytaakchnddcphkaa", sum := "a93d1db4c463bec6e498339fc127e65caa7468137d7a872186ed4849365c4958", func := "cursitor/cursitorlaw01.InputReads", spec := "inputReads", apart := false }
def InputReadsSaid : Prop := inputReadsRow.holds Try.pinned (OpenSpec.ofChange inputReadsSpec)

/-- ITS FALSE NEIGHBOUR: 'it returns false'. Refute it at one input. -/
def inputReadsWrong : ChangeSpec := { name := "inputReads", fn := fun _ => fun
  | [d1, d2] => { results := [.lit (.bool false)], args := [d1, d2] }
  | _ => none }
def InputReadsWrongFalsely : Prop := inputReadsRow.holds Try.pinned (OpenSpec.ofChange inputReadsWrong)

/-- 'cursitorlaw02.OutputFits': WHATEVER THE INPUT: true; the input reads as it did. -/
def outputFitsSpec : ChangeSpec := { name := "outputFits", fn := fun _ => fun
  | [d1, d2] => { results := [.lit (.bool true)], args := [d1, d2] }
  | _ => none }
def outputFitsRow : OpenClaim := { program := "ytaakchnddcphkaa", sum := "a93d1db4c463bec6e498339fc127e65caa7468137d7a872186ed4849365c4958", func := "cursitor/cursitorlaw02.OutputFits", spec := "outputFits", apart := false }
def OutputFitsSaid : Prop := outputFitsRow.holds Try.pinned (OpenSpec.ofChange outputFitsSpec)

/-- ITS FALSE NEIGHBOUR: 'it returns false'. Refute it at one input. -/
def outputFitsWrong : ChangeSpec := { name := "outputFits", fn := fun _ => fun
  | [d1, d2] => { results := [.lit (.bool false)], args := [d1, d2] }
  | _ => none }
def OutputFitsWrongFalsely : Prop := outputFitsRow.holds Try.pinned (OpenSpec.ofChange outputFitsWrong)

/-- 'cursitorlaw03.VarintOne': WHATEVER THE INPUT: true; the input reads as it did. -/
def varintOneSpec : ChangeSpec := { name := "varintOne", fn := fun _ => fun
  | [d] => { results := [.lit (.bool true)], args := [d] }
  | _ => none }
def varintOneRow : OpenClaim := { program := "ytaakchnddcphkaa", sum := "a93d1db4c463bec6e498339fc127e65caa7468137d7a872186ed4849365c4958", func := "cursitor/cursitorlaw03.VarintOne", spec := "varintOne", apart := false }
def VarintOneSaid : Prop := varintOneRow.holds Try.pinned (OpenSpec.ofChange varintOneSpec)

/-- ITS FALSE NEIGHBOUR: 'it returns false'. Refute it at one input. -/
def varintOneWrong : ChangeSpec := { name := "varintOne", fn := fun _ => fun
  | [d] => { results := [.lit (.bool false)], args := [d] }
  | _ => none }
def VarintOneWrongFalsely : Prop := varintOneRow.holds Try.pinned (OpenSpec.ofChange varintOneWrong)

/-- 'cursitorlaw03.VarintBack': WHATEVER THE INPUT: true; the input reads as it did. -/
def varintBackSpec : ChangeSpec := { name := "varintBack", fn := fun _ => fun
  | [d] => { results := [.lit (.bool true)], args := [d] }
  | _ => none }
def varintBackRow : OpenClaim := { program := "ytaakchnddcphkaa", sum := "a93d1db4c463bec6e498339fc127e65caa7468137d7a872186ed4849365c4958", func := "cursitor/cursitorlaw03.VarintBack", spec := "varintBack", apart := false }
def VarintBackSaid : Prop := varintBackRow.holds Try.pinned (OpenSpec.ofChange varintBackSpec)

/-- ITS FALSE NEIGHBOUR: 'it returns false'. Refute it at one input. -/
def varintBackWrong : ChangeSpec := { name := "varintBack", fn := fun _ => fun
  | [d] => { results := [.lit (.bool false)], args := [d] }
  | _ => none }
def VarintBackWrongFalsely : Prop := varintBackRow.holds Try.pinned (OpenSpec.ofChange varintBackWrong)

/- THE SECOND FORM. 'bulk': how many values and letters a reading holds, each counted each time it is reached (what is shared counts as often as it is met; a slice's spare places count too). A statement '..UptoSaid' is the law's where the arguments, and the package variables that the reading takes, are together of bulk at most 1048576: NARROWER than '..Said'. Prove '..Said' where nothing that the law and all that it calls make is longer than what came in: it says more and counts as full. Else prove '..UptoSaid'. A law counts once. -/
mutual
def uptoBulk {H : Type} : DataW H → Nat
  | .lit (.string bytes) => bytes.length + 1
  | .lit _ => 1
  | .nil => 1
  | .ptr d => uptoBulk d + 1
  | .slice elems spare => uptoBulkAll elems + uptoBulkAll spare + 1
  | .agg parts => uptoBulkAll parts + 1
  | .iface _ d => uptoBulk d + 1
  | .map entries => uptoBulkEntries entries + 1
  | .held _ => 1
def uptoBulkAll {H : Type} : List (DataW H) → Nat
  | [] => 0
  | d :: r => uptoBulk d + uptoBulkAll r
def uptoBulkEntries {H : Type} : List (Lit × DataW H) → Nat
  | [] => 0
  | x :: r => uptoBulkEntry x + uptoBulkEntries r
def uptoBulkEntry {H : Type} : Lit × DataW H → Nat
  | (.string bytes, d) => bytes.length + uptoBulk d + 1
  | (_, d) => uptoBulk d + 1
 end
def uptoSmall : (H : Type) → List (DataW H) → Bool := fun _ ds => decide (uptoBulkAll ds ≤ 1048576)
def OpenSpec.upto (s : _root_.Go.ChangeSpec) : _root_.Go.OpenSpec := { _root_.Go.OpenSpec.ofChange s with cond := some uptoSmall }

/-- 'cursitorlaw09.AttrChecks', WHERE WHAT IT READS IS OF BULK AT MOST 1048576: true; the input reads as it did. -/
def attrChecksUptoRow : OpenClaim := { program := "ytaakchnddcphkaa", sum := "a93d1db4c463bec6e498339fc127e65caa7468137d7a872186ed4849365c4958", func := "cursitor/cursitorlaw09.AttrChecks", spec := "attrChecks", apart := false, narrowed := true }
def AttrChecksUptoSaid : Prop := attrChecksUptoRow.holds Try.pinned (OpenSpec.upto attrChecksSpec)

/-- 'cursitorlaw09.AttrBack', WHERE WHAT IT READS IS OF BULK AT MOST 1048576: true; the input reads as it did. -/
def attrBackUptoRow : OpenClaim := { program := "ytaakchnddcphkaa", sum := "a93d1db4c463bec6e498339fc127e65caa7468137d7a872186ed4849365c4958", func := "cursitor/cursitorlaw09.AttrBack", spec := "attrBack", apart := false, narrowed := true }
def AttrBackUptoSaid : Prop := attrBackUptoRow.holds Try.pinned (OpenSpec.upto attrBackSpec)

/-- 'cursitorlaw05.CrcSums', WHERE WHAT IT READS IS OF BULK AT MOST 1048576: true; the input reads as it did. -/
def crcSumsUptoRow : OpenClaim := { program := "ytaakchnddcphkaa", sum := "a93d1db4c463bec6e498339fc127e65caa7468137d7a872186ed4849365c4958", func := "cursitor/cursitorlaw05.CrcSums", spec := "crcSums", apart := false, narrowed := true }
def CrcSumsUptoSaid : Prop := crcSumsUptoRow.holds Try.pinned (OpenSpec.upto crcSumsSpec)

/-- 'cursitorlaw05.CrcBursts', WHERE WHAT IT READS IS OF BULK AT MOST 1048576: true; the input reads as it did. -/
def crcBurstsUptoRow : OpenClaim := { program := "ytaakchnddcphkaa", sum := "a93d1db4c463bec6e498339fc127e65caa7468137d7a872186ed4849365c4958", func := "cursitor/cursitorlaw05.CrcBursts", spec := "crcBursts", apart := false, narrowed := true }
def CrcBurstsUptoSaid : Prop := crcBurstsUptoRow.holds Try.pinned (OpenSpec.upto crcBurstsSpec)

/-- 'cursitorlaw16.VersionChecks', WHERE WHAT IT READS IS OF BULK AT MOST 1048576: true; the input reads as it did. -/
def versionChecksUptoRow : OpenClaim := { program := "ytaakchnddcphkaa", sum := "a93d1db4c463bec6e498339fc127e65caa7468137d7a872186ed4849365c4958", func := "cursitor/cursitorlaw16.VersionChecks", spec := "versionChecks", apart := false, narrowed := true }
def VersionChecksUptoSaid : Prop := versionChecksUptoRow.holds Try.pinned (OpenSpec.upto versionChecksSpec)

/-- 'cursitorlaw16.VersionNames', WHERE WHAT IT READS IS OF BULK AT MOST 1048576: true; the input reads as it did. -/
def versionNamesUptoRow : OpenClaim := { program := "ytaakchnddcphkaa", sum := "a93d1db4c463bec6e498339fc127e65caa7468137d7a872186ed4849365c4958", func := "cursitor/cursitorlaw16.VersionNames", spec := "versionNames", apart := false, narrowed := true }
def VersionNamesUptoSaid : Prop := versionNamesUptoRow.holds Try.pinned (OpenSpec.upto versionNamesSpec)

/-- 'cursitorlaw02.OutputWrites', WHERE WHAT IT READS IS OF BULK AT MOST 1048576: true; the input reads as it did. -/
def outputWritesUptoRow : OpenClaim := { program := "ytaakchnddcphkaa", sum := "a93d1db4c463bec6e498339fc127e65caa7468137d7a872186ed4849365c4958", func := "cursitor/cursitorlaw02.OutputWrites", spec := "outputWrites", apart := false, narrowed := true }
def OutputWritesUptoSaid : Prop := outputWritesUptoRow.holds Try.pinned (OpenSpec.upto outputWritesSpec)

/-- 'cursitorlaw01.InputBack', WHERE WHAT IT READS IS OF BULK AT MOST 1048576: true; the input reads as it did. -/
def inputBackUptoRow : OpenClaim := { program := "ytaakchnddcphkaa", sum := "a93d1db4c463bec6e498339fc127e65caa7468137d7a872186ed4849365c4958", func := "cursitor/cursitorlaw01.InputBack", spec := "inputBack", apart := false, narrowed := true }
def InputBackUptoSaid : Prop := inputBackUptoRow.holds Try.pinned (OpenSpec.upto inputBackSpec)

/-- 'cursitorlaw01.InputReads', WHERE WHAT IT READS IS OF BULK AT MOST 1048576: true; the input reads as it did. -/
def inputReadsUptoRow : OpenClaim := { program := "ytaakchnddcphkaa", sum := "a93d1db4c463bec6e498339fc127e65caa7468137d7a872186ed4849365c4958", func := "cursitor/cursitorlaw01.InputReads", spec := "inputReads", apart := false, narrowed := true }
def InputReadsUptoSaid : Prop := inputReadsUptoRow.holds Try.pinned (OpenSpec.upto inputReadsSpec)

/-- 'cursitorlaw02.OutputFits', WHERE WHAT IT READS IS OF BULK AT MOST 1048576: true; the input reads as it did. -/
def outputFitsUptoRow : OpenClaim := { program := "ytaakchnddcphkaa", sum := "a93d1db4c463bec6e498339fc127e65caa7468137d7a872186ed4849365c4958", func := "cursitor/cursitorlaw02.OutputFits", spec := "outputFits", apart := false, narrowed := true }
def OutputFitsUptoSaid : Prop := outputFitsUptoRow.holds Try.pinned (OpenSpec.upto outputFitsSpec)

/-- 'cursitorlaw03.VarintOne', WHERE WHAT IT READS IS OF BULK AT MOST 1048576: true; the input reads as it did. -/
def varintOneUptoRow : OpenClaim := { program := "ytaakchnddcphkaa", sum := "a93d1db4c463bec6e498339fc127e65caa7468137d7a872186ed4849365c4958", func := "cursitor/cursitorlaw03.VarintOne", spec := "varintOne", apart := false, narrowed := true }
def VarintOneUptoSaid : Prop := varintOneUptoRow.holds Try.pinned (OpenSpec.upto varintOneSpec)

/-- 'cursitorlaw03.VarintBack', WHERE WHAT IT READS IS OF BULK AT MOST 1048576: true; the input reads as it did. -/
def varintBackUptoRow : OpenClaim := { program := "ytaakchnddcphkaa", sum := "a93d1db4c463bec6e498339fc127e65caa7468137d7a872186ed4849365c4958", func := "cursitor/cursitorlaw03.VarintBack", spec := "varintBack", apart := false, narrowed := true }
def VarintBackUptoSaid : Prop := varintBackUptoRow.holds Try.pinned (OpenSpec.upto varintBackSpec)

end Rows
end Go.Proofs.Ytaakchnddcphkaa
