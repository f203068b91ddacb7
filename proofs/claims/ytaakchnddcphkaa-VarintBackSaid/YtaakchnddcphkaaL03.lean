/- the statements of layer 3: what they begin with. -/
import Derived.Test.YtaakchnddcphkaaVr
import Derived.Test.YtaakchnddcphkaaM
namespace Go.Proofs.Ytaakchnddcphkaa.Sl
open Go.RowKit
set_option linter.unusedVariables false
set_option linter.unusedSimpArgs false

attribute [local go_sem] bsOf_toList bsOf_size

set_option maxRecDepth 100000 in
theorem speaks03 : Spec0 Try.prog 54 #[] (fun v N => v = .bool true ∧ N = []) := by
  intro w
  have HS := Lib.hid (St.nil_ w)
  have E0 : vputInt ([], 0) (-65) = ([129, 1], 0) := by kernel_rfl
  have E1 := Lib.hid (show otext (vputInt ([], 0) (-65)) = .tuple #[.string (bsOf [129, 1]), .int .i64 0] by rw [E0]; rfl)
  have E2 : vbackI (vread 32 ⟨[129, 1], 0, 0⟩) = (-65, ⟨[], 2, 0⟩) := by kernel_rfl
  have E3 : vbackI (vread 32 ⟨[129, 0], 0, 0⟩) = (0, ⟨[], 2, 3⟩) := by kernel_rfl
  have E4 : (vput (vfold (-65))).length = 2 := by kernel_rfl
  have HE := Lib.hid (And.intro E2 (And.intro E3 E4))
  clear E0 E2 E3 E4
  go_enter Try.func54, Try.ntmps54
  go_wp2_with fail
  have HS0 := Lib.hid (OutR.new HS.out)
  call1 HS0 0 (VPutInt_spec _ _ (-65) (by omega) (by omega) (by simp)) HS1
  call1v HS1 0 (Text_spec _ _) E1.out HS2
  call0n HS2 (New_spec (bsOf [129, 1]) (by decide)) g HS3
  call0n HS3 (New_spec (bsOf [129, 0]) (by decide)) g2 HS4
  call1r HS4 1 (VInt_spec g _) HE.out.1 HS5
  call1r HS5 0 (VInt_spec g2 _) HE.out.2.1 HS6
  call1 HS6 0 (IErr_spec g2 _) HS7
  callpr (VSize_any (-65) (by omega) (by omega) _) HE.out.2.2
  go_ret
  exact ⟨_, _, rfl, ⟨rfl, rfl⟩, (HS7.out.drop_).drop_.drop_⟩
end Go.Proofs.Ytaakchnddcphkaa.Sl
