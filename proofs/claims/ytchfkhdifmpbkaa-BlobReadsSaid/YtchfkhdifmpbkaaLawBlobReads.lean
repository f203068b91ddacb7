/- BlobReads: for every input the law returns true, and its arguments read behind the call as they did before. -/
import Derived.Test.YtchfkhdifmpbkaaRows
import Derived.Test.YtchfkhdifmpbkaaQ04r
import Derived.Test.YtchfkhdifmpbkaaPcursitorlaw04BlobReads
import Derived.Test.YtchfkhdifmpbkaaOpBlobReads
import Derived.WalkKit
import Derived.ProofKit
import Derived.OpenShut
import Derived.ShutString
import Derived.ChangeOld
import Derived.Below
import Derived.SizedLaws
namespace Go.Proofs.Ytchfkhdifmpbkaa.blobReads
open Go.ChangeShapes Go.WideShapes Go.ChangeAt Go.RowKit
open Go.ChangeMaps (open_string shut_string)
set_option linter.unusedVariables false
theorem own : ownKnob Try.prog.godebug = none := by kernel_rfl
theorem laidOut : laidOutB Try.prog = true := by kernel_rfl
set_option maxRecDepth 100000 in
set_option maxHeartbeats 1000000 in
theorem lifted (os : Os) (started : os.Started) (H : Type) (enc : TypeId × Value → H) :
    ReturnsInHanded {} Try.checked os 12 .any (Rows.blobReadsSpec.pre6 enc Try.prog Try.f12 Rows.blobReadsRow.domain false) (Rows.blobReadsSpec.post enc Try.prog Try.f12 false true false false) := by
  refine returnsInHanded_of_change_sized (C := Try.checked) own started (by kernel_rfl) Try.func12
    (ChangeSpec.witness6 (enc := enc) (C := Try.checked) false ⟨#[], #[.string ByteArray.empty, .int .u8 0], []⟩ 8 (by kernel_rfl) (by kernel_rfl) (by kernel_rfl) (by kernel_rfl)) ?_
  intro W base args ds gs before hval0 hW hcnd hsz0 _
  have hsz : (DataW.weightsEach Try.prog (Try.f12.params.toList ++ Rows.blobReadsSpec.plain.varTypes Try.prog) (ds ++ gs)).all (· ≤ reachBytes) = true := hsz0
  have hval : ∀ (j : Nat) t v, Try.f12.params[j]? = some t → args[j]? = some v → Value.okWide Try.prog W .any base t v := hval0
  have hW' := hW
  obtain ⟨p, q, hA0, hV, rfl, hfz, hnd⟩ := hW
  have hA : DataW.TrodAll enc Try.prog W 0 (fun _ => true) true Try.f12.params.toList args.toList ds p := hA0
  rw [Try.params12] at hA hval hsz
  obtain ⟨v0, vs0, d0, ds0, p0, q0, hargs, rfl, rfl, h0, r0⟩ := trodAll_cons hA
  obtain ⟨v1, vs1, d1, ds1, p1, q1, rfl, rfl, rfl, h1, r1⟩ := trodAll_cons r0
  obtain ⟨rfl, rfl, rfl⟩ := trodAll_nil r1
  obtain rfl : args = #[v0, v1] := by cases args; simp_all
  obtain ⟨rfl, rfl⟩ := trodVars_none hV
  obtain ⟨s0, rfl, rfl, rfl, y0⟩ := open_string Try.underlying9 (hval 0 9 v0 rfl rfl) h0
  have z0 : s0.size ≤ 140737488351232 := by
    have z := sized_string hsz (j := 0) (t := 9) rfl rfl
    rw [Array.length_toList] at z
    exact z
  obtain ⟨a0, rfl⟩ := Sl.bsOf_of s0
  have w0 : a0.length ≤ 140737488351232 := by rwa [Sl.bsOf_size] at z0
  obtain ⟨a1, rfl, rfl, rfl, u1⟩ := open_int Try.underlying5 (hval 1 5 v1 rfl rfl) h1
  have w1 := Go.bounds_u8 u1
  clear hA0 hval0 hsz0 hsz
  refine (Sl.f_l04_BlobReads_spec a0 a1 true (Sl.pure_BlobReads a0 a1 w0 w1) (fun _ => False) W (fun _ h => h) (Sl.RX.reads_triv _ _)).mono fun e W' hP => ?_
  obtain ⟨v, A', Ns, rfl, ⟨rfl, rfl, rfl⟩, hst⟩ := hP
  have bel := Sl.St.below hst
  exact ⟨_, rfl, _, _, _, [], _, [], hW', trodAll_mk1 (shut_bool Try.underlying4 _), (trodAll_cons_mk (shut_string Try.underlying9 y0) (trodAll_cons_mk (shut_int Try.underlying5 u1) trodAll_mk0)), rfl, bel.frame _, fun h => by cases h⟩
theorem over : Rows.blobReadsRow.holds Try.pinned (OpenSpec.ofChange Rows.blobReadsSpec) :=
  OpenClaim.holds_of_wide 12 Try.f12 rfl rfl rfl rfl rfl rfl rfl ⟨rfl, rfl, rfl, rfl, rfl⟩ rfl rfl rfl rfl rfl (by kernel_rfl) Try.func12 (by kernel_rfl)
    (of_decide_eq_true (by kernel_rfl)) (by unfold Func.isWrapper; first | (rw [if_pos (by decide +kernel)]; kernel_rfl) | (rw [if_neg (by decide +kernel)]; exact ⟨rfl, rfl⟩))
    (fun os started H enc _ => lifted os started H enc)
theorem proved : Rows.BlobReadsSaid := over
#print axioms proved
end Go.Proofs.Ytchfkhdifmpbkaa.blobReads
namespace Go.Proofs.Ytchfkhdifmpbkaa
/-- The row, under a short name, for the claim. -/
theorem blobReads_holds : Rows.BlobReadsSaid := blobReads.proved
end Go.Proofs.Ytchfkhdifmpbkaa
