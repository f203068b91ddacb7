/- ControlRecords: for every input the law returns true, and its arguments read behind the call as they did before. -/
import Derived.Test.YtchfkhdifmpbkaaRows
import Derived.Test.YtchfkhdifmpbkaaQ08b
import Derived.Test.YtchfkhdifmpbkaaPcursitorlaw08
import Derived.Test.YtchfkhdifmpbkaaOpControlRecords
import Derived.WalkKit
import Derived.ProofKit
import Derived.OpenShut
import Derived.ShutString
import Derived.ChangeOld
import Derived.Below
import Derived.SizedLaws
namespace Go.Proofs.Ytchfkhdifmpbkaa.controlRecords
open Go.ChangeShapes Go.WideShapes Go.ChangeAt Go.RowKit
open Go.ChangeMaps (open_string shut_string)
set_option linter.unusedVariables false
theorem own : ownKnob Try.prog.godebug = none := by kernel_rfl
theorem laidOut : laidOutB Try.prog = true := by kernel_rfl
set_option maxRecDepth 100000 in
set_option maxHeartbeats 1000000 in
theorem lifted (os : Os) (started : os.Started) (H : Type) (enc : TypeId × Value → H) :
    ReturnsInHanded {} Try.checked os 6 .any (Rows.controlRecordsSpec.pre6 enc Try.prog Try.f6 Rows.controlRecordsRow.domain false) (Rows.controlRecordsSpec.post enc Try.prog Try.f6 false true false false) := by
  refine returnsInHanded_of_change_sized (C := Try.checked) own started (by kernel_rfl) Try.func6
    (ChangeSpec.witness6 (enc := enc) (C := Try.checked) false ⟨#[], #[.agg #[.int .i64 0, .int .i64 0, .bool false, .string ⟨#[]⟩, .bool false, .string ⟨#[]⟩, .slice none 0 0]], []⟩ 8 (by kernel_rfl) (by kernel_rfl) (by kernel_rfl) (by kernel_rfl)) ?_
  intro W base args ds gs before hval0 hW hcnd hsz0 _
  have hsz : (DataW.weightsEach Try.prog (Try.f6.params.toList ++ Rows.controlRecordsSpec.plain.varTypes Try.prog) (ds ++ gs)).all (· ≤ reachBytes) = true := hsz0
  have hval : ∀ (j : Nat) t v, Try.f6.params[j]? = some t → args[j]? = some v → Value.okWide Try.prog W .any base t v := hval0
  have hW' := hW
  obtain ⟨p, q, hA0, hV, rfl, hfz, hnd⟩ := hW
  have hA : DataW.TrodAll enc Try.prog W 0 (fun _ => true) true Try.f6.params.toList args.toList ds p := hA0
  rw [Try.params6] at hA hval hsz
  obtain ⟨v0, vs0, d0, ds0, p0, q0, hargs, rfl, rfl, h0, r0⟩ := trodAll_cons hA
  obtain ⟨rfl, rfl, rfl⟩ := trodAll_nil r0
  obtain rfl : args = #[v0] := by cases args; simp_all
  obtain ⟨rfl, rfl⟩ := trodVars_none hV
  have k0 := h0
  have lt0 : ∀ x ∈ p0, x.block < W.heap.size := by obtain ⟨m, hm⟩ := k0; exact DataW.trod_lt m _ _ _ hm
  obtain ⟨a0, cs0, rfl, r_0, w0⟩ := Sl.opens_arg2 Try.underlying65 (hval 0 65 v0 rfl rfl) Sl.op_Rec h0 (fun x hx => of_decide_eq_true (List.all_eq_true.1 hsz x (Sl.weights_in 0 rfl rfl hx)))
  obtain ⟨A0_0, c0_0, e0, r0_0⟩ := r_0
  obtain rfl : cs0 = #[.int .i64 a0.fTime, .int .i64 a0.fOffset, .bool a0.fKey.null, .string (Sl.bsOf a0.fKey.data), .bool a0.fValue.null, .string (Sl.bsOf a0.fValue.data), .slice A0_0 a0.fHeaders.length c0_0] := by apply Array.toList_inj.1; exact e0
  clear hA0 hval0 hsz0 hsz
  refine (Sl.f_l08_ControlRecords_spec a0 A0_0 c0_0 true (Sl.pure_ControlRecords a0 w0) (fun _ => False) W (fun _ h => h) (Sl.RX.reads_all r0_0)).mono fun e W' hP => ?_
  obtain ⟨v, A', Ns, rfl, ⟨rfl, rfl, rfl⟩, hst⟩ := hP
  have bel := Sl.St.below hst
  exact ⟨_, rfl, _, _, _, [], _, [], hW', trodAll_mk1 (shut_bool Try.underlying4 _), (trodAll_cons_mk (Below.trod laidOut (by kernel_rfl) (of_decide_eq_true (by kernel_rfl)) k0 bel lt0) trodAll_mk0), rfl, bel.frame _, fun h => by cases h⟩
theorem over : Rows.controlRecordsRow.holds Try.pinned (OpenSpec.ofChange Rows.controlRecordsSpec) :=
  OpenClaim.holds_of_wide 6 Try.f6 rfl rfl rfl rfl rfl rfl rfl ⟨rfl, rfl, rfl, rfl, rfl⟩ rfl rfl rfl rfl rfl (by kernel_rfl) Try.func6 (by kernel_rfl)
    (of_decide_eq_true (by kernel_rfl)) (by unfold Func.isWrapper; first | (rw [if_pos (by decide +kernel)]; kernel_rfl) | (rw [if_neg (by decide +kernel)]; exact ⟨rfl, rfl⟩))
    (fun os started H enc _ => lifted os started H enc)
theorem proved : Rows.ControlRecordsSaid := over
#print axioms proved
end Go.Proofs.Ytchfkhdifmpbkaa.controlRecords
namespace Go.Proofs.Ytchfkhdifmpbkaa
/-- The row, under a short name, for the claim. -/
theorem controlRecords_holds : Rows.ControlRecordsSaid := controlRecords.proved
end Go.Proofs.Ytchfkhdifmpbkaa
