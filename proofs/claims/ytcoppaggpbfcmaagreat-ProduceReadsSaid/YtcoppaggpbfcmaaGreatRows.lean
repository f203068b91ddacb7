/-
  No cell of these rows narrows 'for every input' (looked for: loops, veiled, ifaces, maps, wideKeys, modest, calm, conditions, laid).
  DERIVED. THE GIVEN ROWS OF THIS SEAT. 4 by the template 'for every input the law returns true; each argument reads behind the call as it read before'; 0 by the template 'total and deterministic' (their statements: YtcoppaggpbfcmaaGreatTotals.lean).
  GIVEN WITH THE SEED: the statements are not yours to turn. If you find one false, say at which input.
  Laid BY PROGRAM, IN A SANDBOX (cutbox-rows.mjs): the forced cells as the released guide's own fill.sh prints them over the translation bed41c996f47af1a… (all of the seat's roots in one cut). By AI agents, Wed Nov 11 2026. No macro, syntax, notation, axiom, sorry.
-/
import Derived.Test.YtcoppaggpbfcmaaGreatChecked
import GoSem.Claim
import GoSem.ClaimJoined
import GoSem.ClaimMapViews
import Derived.JoinedTies
import Derived.KernelRfl
namespace Go.Proofs.YtcoppaggpbfcmaaGreat
/- THE CELL 'sum', in the pinned program and in every row, IS THE sha256 OF THE DUMP (.gsa) THAT YtcoppaggpbfcmaaGreatProg.lean LOADS. Nothing in Lean hashes anything: it is a label: what it is worth is what the hold of that sum in a sandbox is worth. -/
noncomputable def Tryz.pinned : Pinned := { name := "ytcoppaggpbfcmaagreat", sum := "bed41c996f47af1a63a18ee374e4224a8c11c9273d4030ef551ff5bf25183468", checked := Tryz.checked }
namespace Rows
def none {H : Type} : Left H := { results := [], args := [] }

/-- 'cursitorlaw12.MarkerMakes': WHATEVER THE INPUT: true; the input reads as it did. -/
def markerMakesSpec : ChangeSpec := { name := "markerMakes", fn := fun _ => fun
  | [d1, d2, d3] => { results := [.lit (.bool true)], args := [d1, d2, d3] }
  | _ => none }
def markerMakesRow : OpenClaim := { program := "ytcoppaggpbfcmaagreat", sum := "bed41c996f47af1a63a18ee374e4224a8c11c9273d4030ef551ff5bf25183468", func := "cursitor/cursitorlaw12.MarkerMakes", spec := "markerMakes", apart := false }
def MarkerMakesSaid : Prop := markerMakesRow.holds Tryz.pinned (OpenSpec.ofChange markerMakesSpec)

/-- ITS FALSE NEIGHBOUR: 'it returns false'. Refute it at one input. -/
def markerMakesWrong : ChangeSpec := { name := "markerMakes", fn := fun _ => fun
  | [d1, d2, d3] => { results := [.lit (.bool false)], args := [d1, d2, d3] }
  | _ => none }
def MarkerMakesWrongFalsely : Prop := markerMakesRow.holds Tryz.pinned (OpenSpec.ofChange markerMakesWrong)

/-- 'cursitorlaw20.ProduceReads': WHATEVER THE INPUT: true; the input reads as it did. -/
def produceReadsSpec : ChangeSpec := { name := "produceReads", fn := fun _ => fun
  | [d1, d2] => { results := [.lit (.bool true)], args := [d1, d2] }
  | _ => none }
def produceReadsRow : OpenClaim := { program := "ytcoppaggpbfcmaagreat", sum := "bed41c996f47af1a63a18ee374e4224a8c11c9273d4030ef551ff5bf25183468", func := "cursitor/cursitorlaw20.ProduceReads", spec := "produceReads", inPlace := ["internal/abi.NoEscape"], apart := false }
def ProduceReadsSaid : Prop := produceReadsRow.holds Tryz.pinned (OpenSpec.ofChange produceReadsSpec)

/-- ITS FALSE NEIGHBOUR: 'it returns false'. Refute it at one input. -/
def produceReadsWrong : ChangeSpec := { name := "produceReads", fn := fun _ => fun
  | [d1, d2] => { results := [.lit (.bool false)], args := [d1, d2] }
  | _ => none }
def ProduceReadsWrongFalsely : Prop := produceReadsRow.holds Tryz.pinned (OpenSpec.ofChange produceReadsWrong)

/-- 'cursitorlaw20.ProduceWrites': WHATEVER THE INPUT: true; the input reads as it did. -/
def produceWritesSpec : ChangeSpec := { name := "produceWrites", fn := fun _ => fun
  | [d1, d2] => { results := [.lit (.bool true)], args := [d1, d2] }
  | _ => none }
def produceWritesRow : OpenClaim := { program := "ytcoppaggpbfcmaagreat", sum := "bed41c996f47af1a63a18ee374e4224a8c11c9273d4030ef551ff5bf25183468", func := "cursitor/cursitorlaw20.ProduceWrites", spec := "produceWrites", inPlace := ["internal/abi.NoEscape"], unfollowed := true, recurses := true, apart := false }
def ProduceWritesSaid : Prop := produceWritesRow.holds Tryz.pinned (OpenSpec.ofChange produceWritesSpec)

/-- ITS FALSE NEIGHBOUR: 'it returns false'. Refute it at one input. -/
def produceWritesWrong : ChangeSpec := { name := "produceWrites", fn := fun _ => fun
  | [d1, d2] => { results := [.lit (.bool false)], args := [d1, d2] }
  | _ => none }
def ProduceWritesWrongFalsely : Prop := produceWritesRow.holds Tryz.pinned (OpenSpec.ofChange produceWritesWrong)

/-- 'cursitortop.WholeWrites': WHATEVER THE INPUT: true; the input reads as it did. -/
def wholeWritesSpec : ChangeSpec := { name := "wholeWrites", fn := fun _ => fun
  | [d1, d2] => { results := [.lit (.bool true)], args := [d1, d2] }
  | _ => none }
def wholeWritesRow : OpenClaim := { program := "ytcoppaggpbfcmaagreat", sum := "bed41c996f47af1a63a18ee374e4224a8c11c9273d4030ef551ff5bf25183468", func := "cursitor/cursitortop.WholeWrites", spec := "wholeWrites", inPlace := ["internal/abi.NoEscape", "internal/bytealg.IndexByteString", "internal/bytealg.IndexString"], named := ["internal/bytealg.MaxLen"], apart := false }
def WholeWritesSaid : Prop := wholeWritesRow.holds Tryz.pinned (OpenSpec.ofChange wholeWritesSpec)

/-- ITS FALSE NEIGHBOUR: 'it returns false'. Refute it at one input. -/
def wholeWritesWrong : ChangeSpec := { name := "wholeWrites", fn := fun _ => fun
  | [d1, d2] => { results := [.lit (.bool false)], args := [d1, d2] }
  | _ => none }
def WholeWritesWrongFalsely : Prop := wholeWritesRow.holds Tryz.pinned (OpenSpec.ofChange wholeWritesWrong)

/- THE SECOND FORM. 'bulk': how many values and letters a reading holds, each counted each time it is reached (what is shared counts as often as it is met; a slice's spare places count too). A statement '..UptoSaid' is the law's where the arguments, and the package variables that the reading takes, are together of bulk at most 1048576: NARROWER than '..Said'. Prove '..Said' where nothing that the law and all that it calls make is longer than what came in: it says more and counts as full. Else prove '..UptoSaid'. A law counts once. -/
mutual
def uptoBulk {H : Type} : DataW H → Nat
  | .lit (.string bytes) => bytes.length + 1
  | .lit _ => 1
  | .nil => 1
  | .ptr d => uptoBulk d + 1
  | .slice elems spare => uptoBulkAll elems + uptoBulkAll spare + 1
  | .agg parts => uptoBulkAll parts + 1
  | .iface _ d => uptoBulk d + 1
  | .map entries => uptoBulkEntries entries + 1
  | .held _ => 1
def uptoBulkAll {H : Type} : List (DataW H) → Nat
  | [] => 0
  | d :: r => uptoBulk d + uptoBulkAll r
def uptoBulkEntries {H : Type} : List (Lit × DataW H) → Nat
  | [] => 0
  | x :: r => uptoBulkEntry x + uptoBulkEntries r
def uptoBulkEntry {H : Type} : Lit × DataW H → Nat
  | (.string bytes, d) => bytes.length + uptoBulk d + 1
  | (_, d) => uptoBulk d + 1
 end
def uptoSmall : (H : Type) → List (DataW H) → Bool := fun _ ds => decide (uptoBulkAll ds ≤ 1048576)
def OpenSpec.upto (s : _root_.Go.ChangeSpec) : _root_.Go.OpenSpec := { _root_.Go.OpenSpec.ofChange s with cond := some uptoSmall }

/-- 'cursitorlaw12.MarkerMakes', WHERE WHAT IT READS IS OF BULK AT MOST 1048576: true; the input reads as it did. -/
def markerMakesUptoRow : OpenClaim := { program := "ytcoppaggpbfcmaagreat", sum := "bed41c996f47af1a63a18ee374e4224a8c11c9273d4030ef551ff5bf25183468", func := "cursitor/cursitorlaw12.MarkerMakes", spec := "markerMakes", apart := false, narrowed := true }
def MarkerMakesUptoSaid : Prop := markerMakesUptoRow.holds Tryz.pinned (OpenSpec.upto markerMakesSpec)

/-- 'cursitorlaw20.ProduceReads', WHERE WHAT IT READS IS OF BULK AT MOST 1048576: true; the input reads as it did. -/
def produceReadsUptoRow : OpenClaim := { program := "ytcoppaggpbfcmaagreat", sum := "bed41c996f47af1a63a18ee374e4224a8c11c9273d4030ef551ff5bf25183468", func := "cursitor/cursitorlaw20.ProduceReads", spec := "produceReads", inPlace := ["internal/abi.NoEscape"], apart := false, narrowed := true }
def ProduceReadsUptoSaid : Prop := produceReadsUptoRow.holds Tryz.pinned (OpenSpec.upto produceReadsSpec)

/-- 'cursitorlaw20.ProduceWrites', WHERE WHAT IT READS IS OF BULK AT MOST 1048576: true; the input reads as it did. -/
def produceWritesUptoRow : OpenClaim := { program := "ytcoppaggpbfcmaagreat", sum := "bed41c996f47af1a63a18ee374e4224a8c11c9273d4030ef551ff5bf25183468", func := "cursitor/cursitorlaw20.ProduceWrites", spec := "produceWrites", inPlace := ["internal/abi.NoEscape"], unfollowed := true, recurses := true, apart := false, narrowed := true }
def ProduceWritesUptoSaid : Prop := produceWritesUptoRow.holds Tryz.pinned (OpenSpec.upto produceWritesSpec)

/-- 'cursitortop.WholeWrites', WHERE WHAT IT READS IS OF BULK AT MOST 1048576: true; the input reads as it did. -/
def wholeWritesUptoRow : OpenClaim := { program := "ytcoppaggpbfcmaagreat", sum := "bed41c996f47af1a63a18ee374e4224a8c11c9273d4030ef551ff5bf25183468", func := "cursitor/cursitortop.WholeWrites", spec := "wholeWrites", inPlace := ["internal/abi.NoEscape", "internal/bytealg.IndexByteString", "internal/bytealg.IndexString"], named := ["internal/bytealg.MaxLen"], apart := false, narrowed := true }
def WholeWritesUptoSaid : Prop := wholeWritesUptoRow.holds Tryz.pinned (OpenSpec.upto wholeWritesSpec)

end Rows
end Go.Proofs.YtcoppaggpbfcmaaGreat
