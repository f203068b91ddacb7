/- the statements of layer 3: what they begin with. -/
import Derived.Test.YtaakchnddcphkaaVr
namespace Go.Proofs.Ytaakchnddcphkaa.Sl
open Go.RowKit
set_option linter.unusedVariables false
set_option linter.unusedSimpArgs false

attribute [local go_sem] bsOf_toList bsOf_size

set_option maxRecDepth 100000 in
theorem speaks03 : Spec0 Try.prog 54 #[] (fun v N => v = .bool true ∧ N = []) := by
  intro w
  have HS := Lib.hid (St.nil_ w)
  have E0 : vputInt ([], 0) (-65) = ([129, 1], 0) := by kernel_rfl
  have E1 := Lib.hid (show otext (vputInt ([], 0) (-65)) = .tuple #[.string (bsOf [129, 1]), .int .i64 0] by rw [E0]; rfl)
  have E2 : vbackI (vread 32 ⟨[129, 1], 0, 0⟩) = (-65, ⟨[], 2, 0⟩) := by kernel_rfl
  have E3 : vbackI (vread 32 ⟨[129, 0], 0, 0⟩) = (0, ⟨[], 2, 3⟩) := by kernel_rfl
  have E4 : (vput (vfold (-65))).length = 2 := by kernel_rfl
  have HE := Lib.hid (And.intro E2 (And.intro E3 E4))
  clear E0 E2 E3 E4
  go_enter Try.func54, Try.ntmps54
  go_wp2_with fail
  have HS0 := Lib.hid (OutR.new HS.out)
  refine (St.call 0 (HS0).out rfl (VPutInt_spec _ _ (-65) (by omega) (by omega) (by simp))).mono ?_
  rintro e w1 ⟨v, A', N, rfl, ⟨rfl, rfl, rfl⟩, H1⟩
  try simp only [List.cons_append, List.nil_append, List.set_cons_zero, List.set_cons_succ, bsOf_list] at H1
  have HS1 := Lib.hid H1
  clear H1
  go_wp2_with fail
  refine (St.call 0 (HS1).out rfl (Text_spec _ _)).mono ?_
  rintro e w1 ⟨v, A', N, rfl, ⟨hv, rfl, rfl⟩, H1⟩
  try simp only [List.cons_append, List.nil_append, List.set_cons_zero, List.set_cons_succ, bsOf_list] at H1
  have hv2 := Eq.trans hv E1.out
  clear hv
  subst hv2
  have HS2 := Lib.hid H1
  clear H1
  go_wp2_with fail
  refine (St.call0 (HS2).out (New_spec (bsOf [129, 1]) (by decide))).mono ?_
  rintro e w1 ⟨v, N, rfl, ⟨g, rfl, rfl⟩, H1⟩
  try simp only [List.cons_append, List.nil_append, List.set_cons_zero, List.set_cons_succ, bsOf_list] at H1
  have HS3 := Lib.hid H1
  clear H1
  go_wp2_with fail
  refine (St.call0 (HS3).out (New_spec (bsOf [129, 0]) (by decide))).mono ?_
  rintro e w1 ⟨v, N, rfl, ⟨g2, rfl, rfl⟩, H1⟩
  try simp only [List.cons_append, List.nil_append, List.set_cons_zero, List.set_cons_succ, bsOf_list] at H1
  have HS4 := Lib.hid H1
  clear H1
  go_wp2_with fail
  refine (St.call 1 (HS4).out rfl (VInt_spec g _)).mono ?_
  rintro e w1 ⟨v, A', N, rfl, ⟨rfl, rfl, rfl⟩, H1⟩
  try simp only [List.cons_append, List.nil_append, List.set_cons_zero, List.set_cons_succ, bsOf_list] at H1
  try rw [HE.out.1] at H1
  try rw [HE.out.1]
  have HS5 := Lib.hid H1
  clear H1
  go_wp2_with fail
  refine (St.call 0 (HS5).out rfl (VInt_spec g2 _)).mono ?_
  rintro e w1 ⟨v, A', N, rfl, ⟨rfl, rfl, rfl⟩, H1⟩
  try simp only [List.cons_append, List.nil_append, List.set_cons_zero, List.set_cons_succ, bsOf_list] at H1
  try rw [HE.out.2.1] at H1
  try rw [HE.out.2.1]
  have HS6 := Lib.hid H1
  clear H1
  go_wp2_with fail
  refine (St.call 0 (HS6).out rfl (IErr_spec g2 _)).mono ?_
  rintro e w1 ⟨v, A', N, rfl, ⟨rfl, rfl, rfl⟩, H1⟩
  try simp only [List.cons_append, List.nil_append, List.set_cons_zero, List.set_cons_succ, bsOf_list] at H1
  have HS7 := Lib.hid H1
  clear H1
  go_wp2_with fail
  refine ((VSize_any (-65) (by omega) (by omega) _)).mono ?_
  rintro e w1 ⟨rfl, rfl⟩
  rw [HE.out.2.2]
  go_wp2_with fail
  go_ret
  exact ⟨_, _, rfl, ⟨rfl, rfl⟩, (HS7.out.drop_).drop_.drop_⟩
end Go.Proofs.Ytaakchnddcphkaa.Sl
