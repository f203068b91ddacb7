/- Go's structs, and how cells are read as them (printed by gtypes.py). -/
import Derived.Test.YtdlpmcbglmgpiaaH
import Derived.Test.YtdlpmcbglmgpiaaBl
namespace Go.Proofs.Ytdlpmcbglmgpiaa.Sl
open Go.RowKit
set_option linter.unusedVariables false
def intE : Rd Int := ⟨fun _ _ cs n => cs = [.int .i64 n], fun h _ => h, fun h _ => h⟩
def u8E : Rd Int := ⟨fun _ _ cs n => cs = [.int .u8 n], fun h _ => h, fun h _ => h⟩
def i32E : Rd Int := ⟨fun _ _ cs n => cs = [.int .i32 n], fun h _ => h, fun h _ => h⟩
def u64E : Rd Int := ⟨fun _ _ cs n => cs = [.int .u64 n], fun h _ => h, fun h _ => h⟩
def boolE : Rd Bool := ⟨fun _ _ cs n => cs = [.bool n], fun h _ => h, fun h _ => h⟩
def strE : Rd (List UInt8) := ⟨fun _ _ cs l => cs = [.string (bsOf l)], fun h _ => h, fun h _ => h⟩
def Bl_rd : Rd Bl := ⟨fun _ _ cs x => cs = [.bool x.null, .string (bsOf x.data)], fun h _ => h, fun h _ => h⟩
structure Pfx where
  fBase : Int
  fLength : Int
  fLeader : Int
  fSum : Int
  fAttr : Int
  fLast : Int
  fFirst : Int
  fMax : Int
  fProducer : Int
  fEpoch : Int
  fSequence : Int
  fCount : Int
/-- Cells that say it. -/
def Pfx_rd : Rd Pfx where
  P := fun _ _ cs x => cs = [.int .i64 x.fBase, .int .i64 x.fLength, .int .i64 x.fLeader, .int .i64 x.fSum, .int .i64 x.fAttr, .int .i64 x.fLast, .int .i64 x.fFirst, .int .i64 x.fMax, .int .i64 x.fProducer, .int .i64 x.fEpoch, .int .i64 x.fSequence, .int .i64 x.fCount]
  mono := fun h _ => h
  move := fun h _ => h
structure Hd where
  fKey : List UInt8
  fValue : Bl
/-- Cells that say it. -/
def Hd_rd : Rd Hd where
  P := fun _ _ cs x => cs = [.string (bsOf x.fKey), .bool x.fValue.null, .string (bsOf x.fValue.data)]
  mono := fun h _ => h
  move := fun h _ => h
structure Rec where
  fTime : Int
  fOffset : Int
  fKey : Bl
  fValue : Bl
  fHeaders : List Hd
/-- Cells that say it. -/
def Rec_rd : Rd Rec where
  P := fun w S cs x => ∃ (A0 : Option Addr) (c0 : Nat), cs = [.int .i64 x.fTime, .int .i64 x.fOffset, .bool x.fKey.null, .string (bsOf x.fKey.data), .bool x.fValue.null, .string (bsOf x.fValue.data), .slice A0 x.fHeaders.length c0] ∧ (sliceRd 3 Hd_rd).P w S [.slice A0 x.fHeaders.length c0] x.fHeaders
  mono := fun ⟨A0, c0, e, h0⟩ k => ⟨A0, c0, e, (sliceRd 3 Hd_rd).mono h0 k⟩
  move := fun ⟨A0, c0, e, h0⟩ k => ⟨A0, c0, e, (sliceRd 3 Hd_rd).move h0 k⟩
structure Fld where
  fN : Int
  fSize : Int
/-- Cells that say it. -/
def Fld_rd : Rd Fld where
  P := fun _ _ cs x => cs = [.int .i64 x.fN, .int .i64 x.fSize]
  mono := fun h _ => h
  move := fun h _ => h
structure Head where
  fKind : Int
  fVersion : Int
  fNumber : Int
  fClient : Bl
/-- Cells that say it. -/
def Head_rd : Rd Head where
  P := fun _ _ cs x => cs = [.int .i64 x.fKind, .int .i64 x.fVersion, .int .i64 x.fNumber, .bool x.fClient.null, .string (bsOf x.fClient.data)]
  mono := fun h _ => h
  move := fun h _ => h
structure R17Head where
  fKind : Int
  fVersion : Int
  fNumber : Int
  fClient : Bl
/-- Cells that say it. -/
def R17Head_rd : Rd R17Head where
  P := fun _ _ cs x => cs = [.int .i64 x.fKind, .int .i64 x.fVersion, .int .i64 x.fNumber, .bool x.fClient.null, .string (bsOf x.fClient.data)]
  mono := fun h _ => h
  move := fun h _ => h
structure Top where
  fName : List UInt8
  fParts : List Int
/-- Cells that say it. -/
def Top_rd : Rd Top where
  P := fun w S cs x => ∃ (A0 : Option Addr) (c0 : Nat), cs = [.string (bsOf x.fName), .slice A0 x.fParts.length c0] ∧ (sliceRd 1 intE).P w S [.slice A0 x.fParts.length c0] x.fParts
  mono := fun ⟨A0, c0, e, h0⟩ k => ⟨A0, c0, e, (sliceRd 1 intE).mono h0 k⟩
  move := fun ⟨A0, c0, e, h0⟩ k => ⟨A0, c0, e, (sliceRd 1 intE).move h0 k⟩
structure Val where
  fProducer : Int
  fEpoch : Int
  fTimeout : Int
  fState : Int
  fTopics : List Top
  fUpdated : Int
  fStarted : Int
/-- Cells that say it. -/
def Val_rd : Rd Val where
  P := fun w S cs x => ∃ (A0 : Option Addr) (c0 : Nat), cs = [.int .i64 x.fProducer, .int .i64 x.fEpoch, .int .i64 x.fTimeout, .int .i64 x.fState, .slice A0 x.fTopics.length c0, .int .i64 x.fUpdated, .int .i64 x.fStarted] ∧ (sliceRd 2 Top_rd).P w S [.slice A0 x.fTopics.length c0] x.fTopics
  mono := fun ⟨A0, c0, e, h0⟩ k => ⟨A0, c0, e, (sliceRd 2 Top_rd).mono h0 k⟩
  move := fun ⟨A0, c0, e, h0⟩ k => ⟨A0, c0, e, (sliceRd 2 Top_rd).move h0 k⟩
structure Bat where
  fBase : Int
  fLeader : Int
  fAppend : Bool
  fTxn : Bool
  fControl : Bool
  fLast : Int
  fFirst : Int
  fMax : Int
  fProducer : Int
  fEpoch : Int
  fSequence : Int
  fRecords : List Rec
/-- Cells that say it. -/
def Bat_rd : Rd Bat where
  P := fun w S cs x => ∃ (A0 : Option Addr) (c0 : Nat), cs = [.int .i64 x.fBase, .int .i64 x.fLeader, .bool x.fAppend, .bool x.fTxn, .bool x.fControl, .int .i64 x.fLast, .int .i64 x.fFirst, .int .i64 x.fMax, .int .i64 x.fProducer, .int .i64 x.fEpoch, .int .i64 x.fSequence, .slice A0 x.fRecords.length c0] ∧ (sliceRd 7 Rec_rd).P w S [.slice A0 x.fRecords.length c0] x.fRecords
  mono := fun ⟨A0, c0, e, h0⟩ k => ⟨A0, c0, e, (sliceRd 7 Rec_rd).mono h0 k⟩
  move := fun ⟨A0, c0, e, h0⟩ k => ⟨A0, c0, e, (sliceRd 7 Rec_rd).move h0 k⟩
structure MarkerEnd where
  fProducer : Int
  fEpoch : Int
  fKind : Int
  fTime : Int
  fCoordinator : Int
/-- Cells that say it. -/
def MarkerEnd_rd : Rd MarkerEnd where
  P := fun _ _ cs x => cs = [.int .i64 x.fProducer, .int .i64 x.fEpoch, .int .i64 x.fKind, .int .i64 x.fTime, .int .i64 x.fCoordinator]
  mono := fun h _ => h
  move := fun h _ => h
structure TxnEnd where
  fID : List UInt8
  fProducer : Int
  fEpoch : Int
  fCommit : Bool
/-- Cells that say it. -/
def TxnEnd_rd : Rd TxnEnd where
  P := fun _ _ cs x => cs = [.string (bsOf x.fID), .int .i64 x.fProducer, .int .i64 x.fEpoch, .bool x.fCommit]
  mono := fun h _ => h
  move := fun h _ => h
end Go.Proofs.Ytdlpmcbglmgpiaa.Sl
