/- What numbers and lengths can be (printed by gtypes.py). -/
import Derived.Test.YtdlpmcbglmgpiaaW
namespace Go.Proofs.Ytdlpmcbglmgpiaa.Sl
open Go.RowKit
set_option linter.unusedVariables false
def wf_Bl (x : Bl) : Prop := wB x.null ∧ wS x.data
def wf_Pfx (x : Pfx) : Prop := wI x.fBase ∧ wI x.fLength ∧ wI x.fLeader ∧ wI x.fSum ∧ wI x.fAttr ∧ wI x.fLast ∧ wI x.fFirst ∧ wI x.fMax ∧ wI x.fProducer ∧ wI x.fEpoch ∧ wI x.fSequence ∧ wI x.fCount
def wf_Hd (x : Hd) : Prop := wS x.fKey ∧ wf_Bl x.fValue
def wf_Rec (x : Rec) : Prop := wI x.fTime ∧ wI x.fOffset ∧ wf_Bl x.fKey ∧ wf_Bl x.fValue ∧ (wL wf_Hd) x.fHeaders
def wf_Fld (x : Fld) : Prop := wI x.fN ∧ wI x.fSize
def wf_Head (x : Head) : Prop := wI x.fKind ∧ wI x.fVersion ∧ wI x.fNumber ∧ wf_Bl x.fClient
def wf_R17Head (x : R17Head) : Prop := wI x.fKind ∧ wI x.fVersion ∧ wI x.fNumber ∧ wf_Bl x.fClient
def wf_Top (x : Top) : Prop := wS x.fName ∧ (wL wI) x.fParts
def wf_Val (x : Val) : Prop := wI x.fProducer ∧ wI x.fEpoch ∧ wI x.fTimeout ∧ wI x.fState ∧ (wL wf_Top) x.fTopics ∧ wI x.fUpdated ∧ wI x.fStarted
def wf_Bat (x : Bat) : Prop := wI x.fBase ∧ wI x.fLeader ∧ wB x.fAppend ∧ wB x.fTxn ∧ wB x.fControl ∧ wI x.fLast ∧ wI x.fFirst ∧ wI x.fMax ∧ wI x.fProducer ∧ wI x.fEpoch ∧ wI x.fSequence ∧ (wL wf_Rec) x.fRecords
def wf_MarkerEnd (x : MarkerEnd) : Prop := wI x.fProducer ∧ wI x.fEpoch ∧ wI x.fKind ∧ wI x.fTime ∧ wI x.fCoordinator
def wf_TxnEnd (x : TxnEnd) : Prop := wS x.fID ∧ wI x.fProducer ∧ wI x.fEpoch ∧ wB x.fCommit
end Go.Proofs.Ytdlpmcbglmgpiaa.Sl
