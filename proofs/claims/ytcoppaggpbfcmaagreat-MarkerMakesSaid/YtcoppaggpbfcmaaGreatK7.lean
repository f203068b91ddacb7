/- MarkerMakes: for every input the law returns true, and its arguments read behind the call as they did before. -/
import Derived.Test.YtcoppaggpbfcmaaGreatRows
import Derived.WalkKit
import Derived.ProofKit
import Derived.OpenShut
import Derived.ShutString
import Derived.ChangeOld
import Derived.Below
import Derived.SizedLaws
import Derived.Test.YtcoppaggpbfcmaaGreatK6
namespace Go.Proofs.YtcoppaggpbfcmaaGreat.Sl
open Go.RowKit
set_option linter.unusedVariables false
set_option linter.unusedSimpArgs false
theorem same_zBat : f_r11_Same zBat (⟨0, 0, false, false, false, 0, 0, 0, 0, 0, 0, []⟩ : Bat) = some true := by
  have h := r11_same (a := zBat) (b := zBat) (by decide) (fun x h => nomatch h)
  rw [sameB_refl] at h
  exact h
theorem pure_MarkerMakes (a0 : Int) (a1 : Int) (a2 : MarkerEnd) (w0 : -9223372036854775808 ≤ a0 ∧ a0 ≤ 9223372036854775807) (w1 : -9223372036854775808 ≤ a1 ∧ a1 ≤ 9223372036854775807) (w2 : wf_MarkerEnd a2) : f_l12_MarkerMakes a0 a1 a2 = some true := by
  have hs := (smM (base := a0) (leader := a1) w0 w1 w2)
  unfold f_l12_MarkerMakes
  rw [speaks12_eq, Option.bind_some, if_pos rfl, mbatch w0 w1 w2, Option.bind_some]
  try dsimp only
  rw [mencode w0 w1 w2, Option.bind_some]
  try dsimp only
  have hkind : ((if a2.fKind = 0 then some false else (if a2.fKind = 1 then some false else some true)) : Option Bool) = some (!decide (a2.fKind = 0 ∨ a2.fKind = 1)) := by
    by_cases k0 : a2.fKind = 0
    · rw [if_pos k0, decide_eq_true (show a2.fKind = 0 ∨ a2.fKind = 1 from .inl k0)]; rfl
    · rw [if_neg k0]
      by_cases k1 : a2.fKind = 1
      · rw [if_pos k1, decide_eq_true (show a2.fKind = 0 ∨ a2.fKind = 1 from .inr k1)]; rfl
      · rw [if_neg k1, decide_eq_false (show ¬ (a2.fKind = 0 ∨ a2.fKind = 1) from fun h => h.elim k0 k1)]; rfl
  rw [hkind, Option.bind_some]
  have hfit : fits a2.fCoordinator 4 = decide (-2147483648 ≤ a2.fCoordinator ∧ a2.fCoordinator ≤ 2147483647) := fits_4 _
  have hwant : ((if (!decide (a2.fKind = 0 ∨ a2.fKind = 1)) = true then (some 12 : Option Int) else ((if a2.fCoordinator < 0 then some true else (if a2.fCoordinator > 2147483647 then some true else some false)).bind fun y33 => (if y33 = true then (some 11 : Option Int) else (some 0 : Option Int)).bind fun y38 => some y38)) : Option Int) = some (mErr a2) := by
    unfold mErr
    by_cases hk : a2.fKind = 0 ∨ a2.fKind = 1
    · rw [if_pos hk, decide_eq_true hk, if_neg (by decide), hfit]
      by_cases c0 : a2.fCoordinator < 0
      · rw [if_pos c0, Option.bind_some, if_pos rfl, Option.bind_some, if_neg (fun h => by omega)]
      · rw [if_neg c0]
        by_cases c1 : a2.fCoordinator > 2147483647
        · rw [if_pos c1, Option.bind_some, if_pos rfl, Option.bind_some, if_neg (fun h => by have := of_decide_eq_true h.2; omega)]
        · rw [if_neg c1, Option.bind_some, if_neg (by decide), Option.bind_some, if_pos ⟨by omega, decide_eq_true (by omega)⟩]
    · rw [if_neg hk, decide_eq_false hk, if_pos (show (!false) = true from rfl)]
  rw [hwant, Option.bind_some]
  by_cases hE : mErr a2 = 0
  · have hkc : (a2.fKind = 0 ∨ a2.fKind = 1) ∧ 0 ≤ a2.fCoordinator ∧ fits a2.fCoordinator 4 = true := by
      unfold mErr at hE
      by_cases hk : a2.fKind = 0 ∨ a2.fKind = 1
      · rw [if_pos hk] at hE
        by_cases hc : 0 ≤ a2.fCoordinator ∧ fits a2.fCoordinator 4 = true
        · exact ⟨hk, hc⟩
        · rw [if_neg hc] at hE; exact absurd hE (by decide)
      · rw [if_neg hk] at hE; exact absurd hE (by decide)
    have eM : (⟨a0, a1, false, true, true, 0, a2.fTime, a2.fTime, a2.fProducer, a2.fEpoch, -1, [(⟨0, 0, (⟨false, [0, 0] ++ be a2.fKind 2⟩ : Bl), (⟨false, [0, 0] ++ be a2.fCoordinator 4⟩ : Bl), []⟩ : Rec)]⟩ : Bat) = mkM a0 a1 a2 := rfl
    rw [if_pos hE, rkey_one _ hkc.1, Option.bind_some, rval_one _ w2.2.2.2.2.1 w2.2.2.2.2.2, Option.bind_some, eM, (chk_eq hs.1.1).2, Option.bind_some]
    have hmE : mE a0 a1 a2 = chk (mkM a0 a1 a2) := by unfold mE; rw [if_pos hE]
    by_cases hc : chk (mkM a0 a1 a2) = 0
    · rw [if_pos hc, hmE, hc]
      simp only [if_true]
      have ho := okB_of hs.1 hc
      have he := encB_len ho
      rw [decode_enc ho (by omega), Option.bind_some]
      dsimp only
      have hr := mread_mk w0 w1 w2 (by rw [hmE]; exact hc)
      rw [hr, Option.bind_some]
      dsimp only
      rw [r11_same hs.1.1.2.1 (fun x hx => (hs.1.1.2.2 x hx).1), Option.bind_some, sameB_refl, if_pos rfl, r11enc hs.1 hc, Option.bind_some]
      simp only [if_true, Option.bind_some]
    · rw [if_neg hc, hmE]
      simp only [if_neg hc, if_true, same_zBat, Option.bind_some]
  · have hmE : mE a0 a1 a2 = mErr a2 := by unfold mE; rw [if_neg hE]
    rw [if_neg hE, hmE]
    simp only [if_neg hE, if_true, same_zBat, Option.bind_some]
end Go.Proofs.YtcoppaggpbfcmaaGreat.Sl
namespace Go.Proofs.YtcoppaggpbfcmaaGreat.Sl
open Go.RowKit Go.Deep Go.ChangeShapes
set_option linter.unusedVariables false
theorem op_MarkerEnd {H : Type} {enc : TypeId × Value → H} : OpensW enc Tryz.prog 23 (andRd MarkerEnd_rd wf_MarkerEnd) :=
  opensW_weak (fun x => ⟨x.1, x.2.1, x.2.2.1, x.2.2.2.1, x.2.2.2.2.1⟩) (opensW_struct Tryz.underlying23 (by kernel_rfl) (opensWFs_cons 1 (by kernel_rfl) (by kernel_rfl) (op_i64 Tryz.underlying3) (opensWFs_cons 1 (by kernel_rfl) (by kernel_rfl) (op_i64 Tryz.underlying3) (opensWFs_cons 1 (by kernel_rfl) (by kernel_rfl) (op_i64 Tryz.underlying3) (opensWFs_cons 1 (by kernel_rfl) (by kernel_rfl) (op_i64 Tryz.underlying3) (opensWFs_cons 1 (by kernel_rfl) (by kernel_rfl) (op_i64 Tryz.underlying3) (opensWFs_nil _))))))) (by
    rintro w S cs ⟨x0, x1, x2, x3, x4, _⟩ ⟨_, _, rfl, ⟨p0, q0⟩, _, _, rfl, ⟨p1, q1⟩, _, _, rfl, ⟨p2, q2⟩, _, _, rfl, ⟨p3, q3⟩, _, _, rfl, ⟨p4, q4⟩, rfl⟩
    obtain rfl := p0
    obtain rfl := p1
    obtain rfl := p2
    obtain rfl := p3
    obtain rfl := p4
    exact ⟨rfl, q0, q1, q2, q3, q4⟩)
end Go.Proofs.YtcoppaggpbfcmaaGreat.Sl
namespace Go.Proofs.YtcoppaggpbfcmaaGreat.markerMakes
open Go.ChangeShapes Go.WideShapes Go.ChangeAt Go.RowKit
open Go.ChangeMaps (open_string shut_string)
set_option linter.unusedVariables false
theorem own : ownKnob Tryz.prog.godebug = none := by kernel_rfl
theorem laidOut : laidOutB Tryz.prog = true := by kernel_rfl
set_option maxRecDepth 100000 in
set_option maxHeartbeats 1000000 in
theorem lifted (os : Os) (started : os.Started) (H : Type) (enc : TypeId × Value → H) :
    ReturnsInHanded {} Tryz.checked os 3 .any (Rows.markerMakesSpec.pre6 enc Tryz.prog Tryz.f3 Rows.markerMakesRow.domain false) (Rows.markerMakesSpec.post enc Tryz.prog Tryz.f3 false true false false) := by
  refine returnsInHanded_of_change_sized (C := Tryz.checked) own started (by kernel_rfl) Tryz.func3
    (ChangeSpec.witness6 (enc := enc) (C := Tryz.checked) false ⟨#[], #[.int .i64 0, .int .i64 0, .agg #[.int .i64 0, .int .i64 0, .int .i64 0, .int .i64 0, .int .i64 0]], []⟩ 8 (by kernel_rfl) (by kernel_rfl) (by kernel_rfl) (by kernel_rfl)) ?_
  intro W base args ds gs before hval0 hW hcnd hsz0 _
  have hsz : (DataW.weightsEach Tryz.prog (Tryz.f3.params.toList ++ Rows.markerMakesSpec.plain.varTypes Tryz.prog) (ds ++ gs)).all (· ≤ reachBytes) = true := hsz0
  have hval : ∀ (j : Nat) t v, Tryz.f3.params[j]? = some t → args[j]? = some v → Value.okWide Tryz.prog W .any base t v := hval0
  have hW' := hW
  obtain ⟨p, q, hA0, hV, rfl, hfz, hnd⟩ := hW
  have hA : DataW.TrodAll enc Tryz.prog W 0 (fun _ => true) true Tryz.f3.params.toList args.toList ds p := hA0
  rw [Tryz.params3] at hA hval hsz
  obtain ⟨v0, vs0, d0, ds0, p0, q0, hargs, rfl, rfl, h0, r0⟩ := trodAll_cons hA
  obtain ⟨v1, vs1, d1, ds1, p1, q1, rfl, rfl, rfl, h1, r1⟩ := trodAll_cons r0
  obtain ⟨v2, vs2, d2, ds2, p2, q2, rfl, rfl, rfl, h2, r2⟩ := trodAll_cons r1
  obtain ⟨rfl, rfl, rfl⟩ := trodAll_nil r2
  obtain rfl : args = #[v0, v1, v2] := by cases args; simp_all
  obtain ⟨rfl, rfl⟩ := trodVars_none hV
  obtain ⟨a0, rfl, rfl, rfl, u0⟩ := open_int Tryz.underlying3 (hval 0 3 v0 rfl rfl) h0
  have w0 := Go.bounds_i64 u0
  obtain ⟨a1, rfl, rfl, rfl, u1⟩ := open_int Tryz.underlying3 (hval 1 3 v1 rfl rfl) h1
  have w1 := Go.bounds_i64 u1
  have k2 := h2
  have lt2 : ∀ x ∈ p2, x.block < W.heap.size := by obtain ⟨m, hm⟩ := k2; exact DataW.trod_lt m _ _ _ hm
  obtain ⟨a2, cs2, rfl, r_2, w2⟩ := Sl.opens_arg2 Tryz.underlying23 (hval 2 23 v2 rfl rfl) Sl.op_MarkerEnd h2 (fun x hx => of_decide_eq_true (List.all_eq_true.1 hsz x (Sl.weights_in 2 rfl rfl hx)))
  have e2 : cs2.toList = _ := r_2
  obtain rfl : cs2 = #[.int .i64 a2.fProducer, .int .i64 a2.fEpoch, .int .i64 a2.fKind, .int .i64 a2.fTime, .int .i64 a2.fCoordinator] := by apply Array.toList_inj.1; exact e2
  clear hA0 hval0 hsz0 hsz
  refine (Sl.f_l12_MarkerMakes_spec a0 a1 a2 true (Sl.pure_MarkerMakes a0 a1 a2 w0 w1 w2) (fun _ => False) W (fun _ h => h) (Sl.RX.reads_triv _ _)).mono fun e W' hP => ?_
  obtain ⟨v, A', Ns, rfl, ⟨rfl, rfl, rfl⟩, hst⟩ := hP
  have bel := Sl.St.below hst
  exact ⟨_, rfl, _, _, _, [], _, [], hW', trodAll_mk1 (shut_bool Tryz.underlying4 _), (trodAll_cons_mk (shut_int Tryz.underlying3 u0) (trodAll_cons_mk (shut_int Tryz.underlying3 u1) (trodAll_cons_mk (Below.trod laidOut (by kernel_rfl) (of_decide_eq_true (by kernel_rfl)) k2 bel lt2) trodAll_mk0))), rfl, bel.frame _, fun h => by cases h⟩
theorem over : Rows.markerMakesRow.holds Tryz.pinned (OpenSpec.ofChange Rows.markerMakesSpec) :=
  OpenClaim.holds_of_wide 3 Tryz.f3 rfl rfl rfl rfl rfl rfl rfl ⟨rfl, rfl, rfl, rfl, rfl⟩ rfl rfl rfl rfl rfl (by kernel_rfl) Tryz.func3 (by kernel_rfl)
    (of_decide_eq_true (by kernel_rfl)) (by unfold Func.isWrapper; first | (rw [if_pos (by decide +kernel)]; kernel_rfl) | (rw [if_neg (by decide +kernel)]; exact ⟨rfl, rfl⟩))
    (fun os started H enc _ => lifted os started H enc)
theorem proved : Rows.MarkerMakesSaid := over
end Go.Proofs.YtcoppaggpbfcmaaGreat.markerMakes
namespace Go.Proofs.YtcoppaggpbfcmaaGreat
theorem markerMakes_holds : Rows.MarkerMakesSaid := markerMakes.proved
end Go.Proofs.YtcoppaggpbfcmaaGreat
