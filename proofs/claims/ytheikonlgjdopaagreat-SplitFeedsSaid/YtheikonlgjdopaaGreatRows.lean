/-
  No cell of these rows narrows 'for every input' (looked for: loops, veiled, ifaces, maps, wideKeys, modest, calm, conditions, laid).
  DERIVED. THE GIVEN ROWS OF THIS SEAT. 7 by the template 'for every input the law returns true; each argument reads behind the call as it read before'; 0 by the template 'total and deterministic' (their statements: YtheikonlgjdopaaGreatTotals.lean).
  GIVEN WITH THE SEED: the statements are not yours to turn. If you find one false, say at which input.
  Laid BY PROGRAM, IN A SANDBOX (cutbox-rows.mjs): the forced cells as the released guide's own fill.sh prints them over the translation 0f4d1f463319dea3… (all of the seat's roots in one cut). By AI agents, Wed Nov 11 2026. No macro, syntax, notation, axiom, sorry.
-/
import Derived.Test.YtheikonlgjdopaaGreatChecked
import GoSem.Claim
import GoSem.ClaimJoined
import GoSem.ClaimMapViews
import Derived.JoinedTies
import Derived.KernelRfl
namespace Go.Proofs.YtheikonlgjdopaaGreat
/- THE CELL 'sum', in the pinned program and in every row, IS THE sha256 OF THE DUMP (.gsa) THAT YtheikonlgjdopaaGreatProg.lean LOADS. Nothing in Lean hashes anything: it is a label: what it is worth is what the hold of that sum in a sandbox is worth. -/
noncomputable def Tryz.pinned : Pinned := { name := "ytheikonlgjdopaagreat", sum := "0f4d1f463319dea35bb896c917d22108cc4ed9a95acf7ad5b208e45560206c86", checked := Tryz.checked }
namespace Rows
def none {H : Type} : Left H := { results := [], args := [] }

/-- 'cursitorlaw21.FrameEncodes': WHATEVER THE INPUT: true; the input reads as it did. -/
def frameEncodesSpec : ChangeSpec := { name := "frameEncodes", fn := fun _ => fun
  | [d] => { results := [.lit (.bool true)], args := [d] }
  | _ => none }
def frameEncodesRow : OpenClaim := { program := "ytheikonlgjdopaagreat", sum := "0f4d1f463319dea35bb896c917d22108cc4ed9a95acf7ad5b208e45560206c86", func := "cursitor/cursitorlaw21.FrameEncodes", spec := "frameEncodes", inPlace := ["internal/abi.NoEscape"], unfollowed := true, recurses := true, apart := false }
def FrameEncodesSaid : Prop := frameEncodesRow.holds Tryz.pinned (OpenSpec.ofChange frameEncodesSpec)

/-- ITS FALSE NEIGHBOUR: 'it returns false'. Refute it at one input. -/
def frameEncodesWrong : ChangeSpec := { name := "frameEncodes", fn := fun _ => fun
  | [d] => { results := [.lit (.bool false)], args := [d] }
  | _ => none }
def FrameEncodesWrongFalsely : Prop := frameEncodesRow.holds Tryz.pinned (OpenSpec.ofChange frameEncodesWrong)

/-- 'cursitorlaw21.FrameRows': WHATEVER THE INPUT: true; the input reads as it did. -/
def frameRowsSpec : ChangeSpec := { name := "frameRows", fn := fun _ => fun
  | [d] => { results := [.lit (.bool true)], args := [d] }
  | _ => none }
def frameRowsRow : OpenClaim := { program := "ytheikonlgjdopaagreat", sum := "0f4d1f463319dea35bb896c917d22108cc4ed9a95acf7ad5b208e45560206c86", func := "cursitor/cursitorlaw21.FrameRows", spec := "frameRows", inPlace := ["internal/abi.NoEscape"], unfollowed := true, recurses := true, apart := false }
def FrameRowsSaid : Prop := frameRowsRow.holds Tryz.pinned (OpenSpec.ofChange frameRowsSpec)

/-- ITS FALSE NEIGHBOUR: 'it returns false'. Refute it at one input. -/
def frameRowsWrong : ChangeSpec := { name := "frameRows", fn := fun _ => fun
  | [d] => { results := [.lit (.bool false)], args := [d] }
  | _ => none }
def FrameRowsWrongFalsely : Prop := frameRowsRow.holds Tryz.pinned (OpenSpec.ofChange frameRowsWrong)

/-- 'cursitorlaw21.FrameDecodes': WHATEVER THE INPUT: true; the input reads as it did. -/
def frameDecodesSpec : ChangeSpec := { name := "frameDecodes", fn := fun _ => fun
  | [d] => { results := [.lit (.bool true)], args := [d] }
  | _ => none }
def frameDecodesRow : OpenClaim := { program := "ytheikonlgjdopaagreat", sum := "0f4d1f463319dea35bb896c917d22108cc4ed9a95acf7ad5b208e45560206c86", func := "cursitor/cursitorlaw21.FrameDecodes", spec := "frameDecodes", inPlace := ["internal/abi.NoEscape"], unfollowed := true, recurses := true, apart := false }
def FrameDecodesSaid : Prop := frameDecodesRow.holds Tryz.pinned (OpenSpec.ofChange frameDecodesSpec)

/-- ITS FALSE NEIGHBOUR: 'it returns false'. Refute it at one input. -/
def frameDecodesWrong : ChangeSpec := { name := "frameDecodes", fn := fun _ => fun
  | [d] => { results := [.lit (.bool false)], args := [d] }
  | _ => none }
def FrameDecodesWrongFalsely : Prop := frameDecodesRow.holds Tryz.pinned (OpenSpec.ofChange frameDecodesWrong)

/-- 'cursitorlaw22.SplitRows': WHATEVER THE INPUT: true; the input reads as it did. -/
def splitRowsSpec : ChangeSpec := { name := "splitRows", fn := fun _ => fun
  | [d1, d2, d3] => { results := [.lit (.bool true)], args := [d1, d2, d3] }
  | _ => none }
def splitRowsRow : OpenClaim := { program := "ytheikonlgjdopaagreat", sum := "0f4d1f463319dea35bb896c917d22108cc4ed9a95acf7ad5b208e45560206c86", func := "cursitor/cursitorlaw22.SplitRows", spec := "splitRows", inPlace := ["internal/abi.NoEscape"], unfollowed := true, recurses := true, apart := false }
def SplitRowsSaid : Prop := splitRowsRow.holds Tryz.pinned (OpenSpec.ofChange splitRowsSpec)

/-- ITS FALSE NEIGHBOUR: 'it returns false'. Refute it at one input. -/
def splitRowsWrong : ChangeSpec := { name := "splitRows", fn := fun _ => fun
  | [d1, d2, d3] => { results := [.lit (.bool false)], args := [d1, d2, d3] }
  | _ => none }
def SplitRowsWrongFalsely : Prop := splitRowsRow.holds Tryz.pinned (OpenSpec.ofChange splitRowsWrong)

/-- 'cursitorlaw22.SplitFeeds': WHATEVER THE INPUT: true; the input reads as it did. -/
def splitFeedsSpec : ChangeSpec := { name := "splitFeeds", fn := fun _ => fun
  | [d1, d2] => { results := [.lit (.bool true)], args := [d1, d2] }
  | _ => none }
def splitFeedsRow : OpenClaim := { program := "ytheikonlgjdopaagreat", sum := "0f4d1f463319dea35bb896c917d22108cc4ed9a95acf7ad5b208e45560206c86", func := "cursitor/cursitorlaw22.SplitFeeds", spec := "splitFeeds", inPlace := ["internal/abi.NoEscape"], unfollowed := true, recurses := true, apart := false }
def SplitFeedsSaid : Prop := splitFeedsRow.holds Tryz.pinned (OpenSpec.ofChange splitFeedsSpec)

/-- ITS FALSE NEIGHBOUR: 'it returns false'. Refute it at one input. -/
def splitFeedsWrong : ChangeSpec := { name := "splitFeeds", fn := fun _ => fun
  | [d1, d2] => { results := [.lit (.bool false)], args := [d1, d2] }
  | _ => none }
def SplitFeedsWrongFalsely : Prop := splitFeedsRow.holds Tryz.pinned (OpenSpec.ofChange splitFeedsWrong)

/-- 'cursitortop.WholeFrames': WHATEVER THE INPUT: true; the input reads as it did. -/
def wholeFramesSpec : ChangeSpec := { name := "wholeFrames", fn := fun _ => fun
  | [d1, d2, d3] => { results := [.lit (.bool true)], args := [d1, d2, d3] }
  | _ => none }
def wholeFramesRow : OpenClaim := { program := "ytheikonlgjdopaagreat", sum := "0f4d1f463319dea35bb896c917d22108cc4ed9a95acf7ad5b208e45560206c86", func := "cursitor/cursitortop.WholeFrames", spec := "wholeFrames", inPlace := ["internal/abi.NoEscape"], unfollowed := true, recurses := true, apart := false }
def WholeFramesSaid : Prop := wholeFramesRow.holds Tryz.pinned (OpenSpec.ofChange wholeFramesSpec)

/-- ITS FALSE NEIGHBOUR: 'it returns false'. Refute it at one input. -/
def wholeFramesWrong : ChangeSpec := { name := "wholeFrames", fn := fun _ => fun
  | [d1, d2, d3] => { results := [.lit (.bool false)], args := [d1, d2, d3] }
  | _ => none }
def WholeFramesWrongFalsely : Prop := wholeFramesRow.holds Tryz.pinned (OpenSpec.ofChange wholeFramesWrong)

/-- 'cursitortop.WholeStrict': WHATEVER THE INPUT: true; the input reads as it did. -/
def wholeStrictSpec : ChangeSpec := { name := "wholeStrict", fn := fun _ => fun
  | [d1, d2] => { results := [.lit (.bool true)], args := [d1, d2] }
  | _ => none }
def wholeStrictRow : OpenClaim := { program := "ytheikonlgjdopaagreat", sum := "0f4d1f463319dea35bb896c917d22108cc4ed9a95acf7ad5b208e45560206c86", func := "cursitor/cursitortop.WholeStrict", spec := "wholeStrict", inPlace := ["internal/abi.NoEscape"], unfollowed := true, recurses := true, apart := false }
def WholeStrictSaid : Prop := wholeStrictRow.holds Tryz.pinned (OpenSpec.ofChange wholeStrictSpec)

/-- ITS FALSE NEIGHBOUR: 'it returns false'. Refute it at one input. -/
def wholeStrictWrong : ChangeSpec := { name := "wholeStrict", fn := fun _ => fun
  | [d1, d2] => { results := [.lit (.bool false)], args := [d1, d2] }
  | _ => none }
def WholeStrictWrongFalsely : Prop := wholeStrictRow.holds Tryz.pinned (OpenSpec.ofChange wholeStrictWrong)

/- THE SECOND FORM. 'bulk': how many values and letters a reading holds, each counted each time it is reached (what is shared counts as often as it is met; a slice's spare places count too). A statement '..UptoSaid' is the law's where the arguments, and the package variables that the reading takes, are together of bulk at most 1048576: NARROWER than '..Said'. Prove '..Said' where nothing that the law and all that it calls make is longer than what came in: it says more and counts as full. Else prove '..UptoSaid'. A law counts once. -/
mutual
def uptoBulk {H : Type} : DataW H → Nat
  | .lit (.string bytes) => bytes.length + 1
  | .lit _ => 1
  | .nil => 1
  | .ptr d => uptoBulk d + 1
  | .slice elems spare => uptoBulkAll elems + uptoBulkAll spare + 1
  | .agg parts => uptoBulkAll parts + 1
  | .iface _ d => uptoBulk d + 1
  | .map entries => uptoBulkEntries entries + 1
  | .held _ => 1
def uptoBulkAll {H : Type} : List (DataW H) → Nat
  | [] => 0
  | d :: r => uptoBulk d + uptoBulkAll r
def uptoBulkEntries {H : Type} : List (Lit × DataW H) → Nat
  | [] => 0
  | x :: r => uptoBulkEntry x + uptoBulkEntries r
def uptoBulkEntry {H : Type} : Lit × DataW H → Nat
  | (.string bytes, d) => bytes.length + uptoBulk d + 1
  | (_, d) => uptoBulk d + 1
 end
def uptoSmall : (H : Type) → List (DataW H) → Bool := fun _ ds => decide (uptoBulkAll ds ≤ 1048576)
def OpenSpec.upto (s : _root_.Go.ChangeSpec) : _root_.Go.OpenSpec := { _root_.Go.OpenSpec.ofChange s with cond := some uptoSmall }

/-- 'cursitorlaw21.FrameEncodes', WHERE WHAT IT READS IS OF BULK AT MOST 1048576: true; the input reads as it did. -/
def frameEncodesUptoRow : OpenClaim := { program := "ytheikonlgjdopaagreat", sum := "0f4d1f463319dea35bb896c917d22108cc4ed9a95acf7ad5b208e45560206c86", func := "cursitor/cursitorlaw21.FrameEncodes", spec := "frameEncodes", inPlace := ["internal/abi.NoEscape"], unfollowed := true, recurses := true, apart := false, narrowed := true }
def FrameEncodesUptoSaid : Prop := frameEncodesUptoRow.holds Tryz.pinned (OpenSpec.upto frameEncodesSpec)

/-- 'cursitorlaw21.FrameRows', WHERE WHAT IT READS IS OF BULK AT MOST 1048576: true; the input reads as it did. -/
def frameRowsUptoRow : OpenClaim := { program := "ytheikonlgjdopaagreat", sum := "0f4d1f463319dea35bb896c917d22108cc4ed9a95acf7ad5b208e45560206c86", func := "cursitor/cursitorlaw21.FrameRows", spec := "frameRows", inPlace := ["internal/abi.NoEscape"], unfollowed := true, recurses := true, apart := false, narrowed := true }
def FrameRowsUptoSaid : Prop := frameRowsUptoRow.holds Tryz.pinned (OpenSpec.upto frameRowsSpec)

/-- 'cursitorlaw21.FrameDecodes', WHERE WHAT IT READS IS OF BULK AT MOST 1048576: true; the input reads as it did. -/
def frameDecodesUptoRow : OpenClaim := { program := "ytheikonlgjdopaagreat", sum := "0f4d1f463319dea35bb896c917d22108cc4ed9a95acf7ad5b208e45560206c86", func := "cursitor/cursitorlaw21.FrameDecodes", spec := "frameDecodes", inPlace := ["internal/abi.NoEscape"], unfollowed := true, recurses := true, apart := false, narrowed := true }
def FrameDecodesUptoSaid : Prop := frameDecodesUptoRow.holds Tryz.pinned (OpenSpec.upto frameDecodesSpec)

/-- 'cursitorlaw22.SplitRows', WHERE WHAT IT READS IS OF BULK AT MOST 1048576: true; the input reads as it did. -/
def splitRowsUptoRow : OpenClaim := { program := "ytheikonlgjdopaagreat", sum := "0f4d1f463319dea35bb896c917d22108cc4ed9a95acf7ad5b208e45560206c86", func := "cursitor/cursitorlaw22.SplitRows", spec := "splitRows", inPlace := ["internal/abi.NoEscape"], unfollowed := true, recurses := true, apart := false, narrowed := true }
def SplitRowsUptoSaid : Prop := splitRowsUptoRow.holds Tryz.pinned (OpenSpec.upto splitRowsSpec)

/-- 'cursitorlaw22.SplitFeeds', WHERE WHAT IT READS IS OF BULK AT MOST 1048576: true; the input reads as it did. -/
def splitFeedsUptoRow : OpenClaim := { program := "ytheikonlgjdopaagreat", sum := "0f4d1f463319dea35bb896c917d22108cc4ed9a95acf7ad5b208e45560206c86", func := "cursitor/cursitorlaw22.SplitFeeds", spec := "splitFeeds", inPlace := ["internal/abi.NoEscape"], unfollowed := true, recurses := true, apart := false, narrowed := true }
def SplitFeedsUptoSaid : Prop := splitFeedsUptoRow.holds Tryz.pinned (OpenSpec.upto splitFeedsSpec)

/-- 'cursitortop.WholeFrames', WHERE WHAT IT READS IS OF BULK AT MOST 1048576: true; the input reads as it did. -/
def wholeFramesUptoRow : OpenClaim := { program := "ytheikonlgjdopaagreat", sum := "0f4d1f463319dea35bb896c917d22108cc4ed9a95acf7ad5b208e45560206c86", func := "cursitor/cursitortop.WholeFrames", spec := "wholeFrames", inPlace := ["internal/abi.NoEscape"], unfollowed := true, recurses := true, apart := false, narrowed := true }
def WholeFramesUptoSaid : Prop := wholeFramesUptoRow.holds Tryz.pinned (OpenSpec.upto wholeFramesSpec)

/-- 'cursitortop.WholeStrict', WHERE WHAT IT READS IS OF BULK AT MOST 1048576: true; the input reads as it did. -/
def wholeStrictUptoRow : OpenClaim := { program := "ytheikonlgjdopaagreat", sum := "0f4d1f463319dea35bb896c917d22108cc4ed9a95acf7ad5b208e45560206c86", func := "cursitor/cursitortop.WholeStrict", spec := "wholeStrict", inPlace := ["internal/abi.NoEscape"], unfollowed := true, recurses := true, apart := false, narrowed := true }
def WholeStrictUptoSaid : Prop := wholeStrictUptoRow.holds Tryz.pinned (OpenSpec.upto wholeStrictSpec)

end Rows
end Go.Proofs.YtheikonlgjdopaaGreat
