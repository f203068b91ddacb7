/- the statements of layer 3: there and back. -/
import Derived.Test.YtaakchnddcphkaaL03
import Derived.Test.YtaakchnddcphkaaL03a
import Derived.Test.YtaakchnddcphkaaR03
import Derived.Test.YtaakchnddcphkaaVb
namespace Go.Proofs.Ytaakchnddcphkaa.Sl
open Go.RowKit
set_option linter.unusedVariables false
set_option linter.unusedSimpArgs false
attribute [local go_sem] bsOf_toList bsOf_size
theorem RPut_specI (n : Int) (h0 : 0 ≤ n) (hn : n < 18446744073709551616) :
    Spec0 Try.prog 60 #[.int .u64 n] (fun v N => v = .string (bsOf (vput n.toNat)) ∧ N = []) := by
  have h := RPut_spec n.toNat (by omega)
  rwa [show ((n.toNat : Nat) : Int) = n by omega] at h
set_option maxRecDepth 100000 in
set_option maxHeartbeats 1000000 in
theorem VarintBack_walk (n : Int) (h0 : -9223372036854775808 ≤ n) (h1 : n ≤ 9223372036854775807) (w : World) :
    Calls Try.prog 14 #[.int .i64 n] w fun e w' => e = .returned (.bool true) ∧ Below w.heap.size w w' := by
  have HS := Lib.hid (St.nil_ w)
  have HF := Lib.hid (vfold_lt n h0 h1)
  have LL := Lib.hid (vput_ten _ (vfold_lt n h0 h1))
  have EL := Lib.hid (show oput ([], 0) (vput (vfold n)) = (vput (vfold n), 0) by simp [oput])
  have RL := Lib.hid (show vbackI (vread 64 ⟨vput (vfold n), 0, 0⟩) = (n, ⟨[], (vput (vfold n)).length, 0⟩) by have h := vread_put64 (vfold n) 0 [] HF.out; rw [List.append_nil, Nat.zero_add] at h; rw [h]; simp [vbackI, vback_fold])
  by_cases hn : n < 0
  · by_cases hi : -2147483648 ≤ n
    · have EU := Lib.hid (show vputUint ([], 0) n = ([], 11) by unfold vputUint; rw [if_neg (by omega)]; rfl)
      have TU := Lib.hid (show otext ([], 11) = .tuple #[.string ⟨#[]⟩, .int .i64 11] from rfl)
      have EI := Lib.hid (show vputInt ([], 0) n = (vput (vfold n), 0) by unfold vputInt; rw [if_pos (by omega)]; simp [oput])
      have TI := Lib.hid (show otext (vput (vfold n), 0) = .tuple #[.string (bsOf (vput (vfold n))), .int .i64 0] from rfl)
      have RI := Lib.hid (show vbackI (vread 32 ⟨vput (vfold n), 0, 0⟩) = (n, ⟨[], (vput (vfold n)).length, 0⟩) by have h := vread_put32 (vfold n) 0 [] (vfold_lt32 n (by omega)); rw [List.append_nil, Nat.zero_add] at h; rw [h]; simp [vbackI, vback_fold])
      go_enter Try.func14, Try.ntmps14
      go_wp2_with fail
      call0 HS speaks03 HS1
      newout3 HS1 HS2
      call1r HS2 2 (VPutUint_spec _ ([], 0) n h0 h1 (by simp)) EU.out HS3
      call1r HS3 1 (VPutInt_spec _ ([], 0) n h0 h1 (by simp)) EI.out HS4
      call1r HS4 0 (VPutLong_spec _ ([], 0) n h0 h1 (by simp)) EL.out HS5
      call1v HS5 2 (Text_spec _ _) TU.out HS6
      call1v HS6 1 (Text_spec _ _) TI.out HS7
      call1v HS7 0 (Text_spec _ _) (otext_ok _) HS8
      callp (RFold_any n h0 h1 _)
      call0 HS8 (RPut_spec (vfold n) HF.out) HS9
      call0n HS9 (New_spec (bsOf (vput (vfold n))) (by rw [bsOf_size]; have := LL.out; omega)) gi HSd
      call1r HSd 0 (VInt_spec gi _) RI.out HSe
      call0n HSe (New_spec (bsOf (vput (vfold n))) (by rw [bsOf_size]; have := LL.out; omega)) gl HSf
      call1r HSf 0 (VLong_spec gl _) RL.out HSg
      call1r HSg 0 (Close_spec gl _) (iclose_nil _ _) HSh
      callp (VSize_any n h0 h1 _)
      go_ret
      exact ⟨rfl, HSh.out.below⟩
    · have hi' : n < -2147483648 := by omega
      have EU := Lib.hid (show vputUint ([], 0) n = ([], 11) by unfold vputUint; rw [if_neg (by omega)]; rfl)
      have TU := Lib.hid (show otext ([], 11) = .tuple #[.string ⟨#[]⟩, .int .i64 11] from rfl)
      have EI := Lib.hid (show vputInt ([], 0) n = ([], 11) by unfold vputInt; rw [if_neg (by omega)]; rfl)
      have TI := Lib.hid (show otext ([], 11) = .tuple #[.string ⟨#[]⟩, .int .i64 11] from rfl)
      go_enter Try.func14, Try.ntmps14
      go_wp2_with fail
      call0 HS speaks03 HS1
      newout3 HS1 HS2
      call1r HS2 2 (VPutUint_spec _ ([], 0) n h0 h1 (by simp)) EU.out HS3
      call1r HS3 1 (VPutInt_spec _ ([], 0) n h0 h1 (by simp)) EI.out HS4
      call1r HS4 0 (VPutLong_spec _ ([], 0) n h0 h1 (by simp)) EL.out HS5
      call1v HS5 2 (Text_spec _ _) TU.out HS6
      call1v HS6 1 (Text_spec _ _) TI.out HS7
      call1v HS7 0 (Text_spec _ _) (otext_ok _) HS8
      callp (RFold_any n h0 h1 _)
      call0 HS8 (RPut_spec (vfold n) HF.out) HS9
      call0n HS9 (New_spec (bsOf (vput (vfold n))) (by rw [bsOf_size]; have := LL.out; omega)) gl HSf
      call1r HSf 0 (VLong_spec gl _) RL.out HSg
      call1r HSg 0 (Close_spec gl _) (iclose_nil _ _) HSh
      callp (VSize_any n h0 h1 _)
      go_ret
      exact ⟨rfl, HSh.out.below⟩
  · by_cases hi : n ≤ 2147483647
    · have hn' : 0 ≤ n := by omega
      have EU := Lib.hid (show vputUint ([], 0) n = (vput n.toNat, 0) by unfold vputUint; rw [if_pos (by omega)]; simp [oput])
      have TU := Lib.hid (show otext (vput n.toNat, 0) = .tuple #[.string (bsOf (vput n.toNat)), .int .i64 0] from rfl)
      have LU := Lib.hid (vput_ten n.toNat (by omega))
      have RU := Lib.hid (show vread 32 ⟨vput n.toNat, 0, 0⟩ = (n.toNat, ⟨[], (vput n.toNat).length, 0⟩) by have h := vread_put32 n.toNat 0 [] (by omega); rw [List.append_nil, Nat.zero_add] at h; exact h)
      have hun : ((n.toNat : Nat) : Int) = n := by omega
      have EI := Lib.hid (show vputInt ([], 0) n = (vput (vfold n), 0) by unfold vputInt; rw [if_pos (by omega)]; simp [oput])
      have TI := Lib.hid (show otext (vput (vfold n), 0) = .tuple #[.string (bsOf (vput (vfold n))), .int .i64 0] from rfl)
      have RI := Lib.hid (show vbackI (vread 32 ⟨vput (vfold n), 0, 0⟩) = (n, ⟨[], (vput (vfold n)).length, 0⟩) by have h := vread_put32 (vfold n) 0 [] (vfold_lt32 n (by omega)); rw [List.append_nil, Nat.zero_add] at h; rw [h]; simp [vbackI, vback_fold])
      go_enter Try.func14, Try.ntmps14
      go_wp2_with fail
      call0 HS speaks03 HS1
      newout3 HS1 HS2
      call1r HS2 2 (VPutUint_spec _ ([], 0) n h0 h1 (by simp)) EU.out HS3
      call1r HS3 1 (VPutInt_spec _ ([], 0) n h0 h1 (by simp)) EI.out HS4
      call1r HS4 0 (VPutLong_spec _ ([], 0) n h0 h1 (by simp)) EL.out HS5
      call1v HS5 2 (Text_spec _ _) TU.out HS6
      call1v HS6 1 (Text_spec _ _) TI.out HS7
      call1v HS7 0 (Text_spec _ _) (otext_ok _) HS8
      callp (RFold_any n h0 h1 _)
      call0 HS8 (RPut_spec (vfold n) HF.out) HS9
      call0 HS9 (RPut_specI n (by omega) (by omega)) HSa
      call0n HSa (New_spec (bsOf (vput n.toNat)) (by rw [bsOf_size]; have := LU.out; omega)) gu HSb
      call1r HSb 0 (VUint_spec gu _) RU.out HSc
      call0n HSc (New_spec (bsOf (vput (vfold n))) (by rw [bsOf_size]; have := LL.out; omega)) gi HSd
      call1r HSd 0 (VInt_spec gi _) RI.out HSe
      call0n HSe (New_spec (bsOf (vput (vfold n))) (by rw [bsOf_size]; have := LL.out; omega)) gl HSf
      call1r HSf 0 (VLong_spec gl _) RL.out HSg
      call1r HSg 0 (Close_spec gl _) (iclose_nil _ _) HSh
      callp (VSize_any n h0 h1 _)
      go_ret
      exact ⟨rfl, HSh.out.below⟩
    · by_cases hu : n ≤ 4294967295
      · have hi' : 2147483647 < n := by omega
        have hn' : 0 ≤ n := by omega
        have EU := Lib.hid (show vputUint ([], 0) n = (vput n.toNat, 0) by unfold vputUint; rw [if_pos (by omega)]; simp [oput])
        have TU := Lib.hid (show otext (vput n.toNat, 0) = .tuple #[.string (bsOf (vput n.toNat)), .int .i64 0] from rfl)
        have LU := Lib.hid (vput_ten n.toNat (by omega))
        have RU := Lib.hid (show vread 32 ⟨vput n.toNat, 0, 0⟩ = (n.toNat, ⟨[], (vput n.toNat).length, 0⟩) by have h := vread_put32 n.toNat 0 [] (by omega); rw [List.append_nil, Nat.zero_add] at h; exact h)
        have hun : ((n.toNat : Nat) : Int) = n := by omega
        have EI := Lib.hid (show vputInt ([], 0) n = ([], 11) by unfold vputInt; rw [if_neg (by omega)]; rfl)
        have TI := Lib.hid (show otext ([], 11) = .tuple #[.string ⟨#[]⟩, .int .i64 11] from rfl)
        go_enter Try.func14, Try.ntmps14
        go_wp2_with fail
        call0 HS speaks03 HS1
        newout3 HS1 HS2
        call1r HS2 2 (VPutUint_spec _ ([], 0) n h0 h1 (by simp)) EU.out HS3
        call1r HS3 1 (VPutInt_spec _ ([], 0) n h0 h1 (by simp)) EI.out HS4
        call1r HS4 0 (VPutLong_spec _ ([], 0) n h0 h1 (by simp)) EL.out HS5
        call1v HS5 2 (Text_spec _ _) TU.out HS6
        call1v HS6 1 (Text_spec _ _) TI.out HS7
        call1v HS7 0 (Text_spec _ _) (otext_ok _) HS8
        callp (RFold_any n h0 h1 _)
        call0 HS8 (RPut_spec (vfold n) HF.out) HS9
        call0 HS9 (RPut_specI n (by omega) (by omega)) HSa
        call0n HSa (New_spec (bsOf (vput n.toNat)) (by rw [bsOf_size]; have := LU.out; omega)) gu HSb
        call1r HSb 0 (VUint_spec gu _) RU.out HSc
        call0n HSc (New_spec (bsOf (vput (vfold n))) (by rw [bsOf_size]; have := LL.out; omega)) gl HSf
        call1r HSf 0 (VLong_spec gl _) RL.out HSg
        call1r HSg 0 (Close_spec gl _) (iclose_nil _ _) HSh
        callp (VSize_any n h0 h1 _)
        go_ret
        exact ⟨rfl, HSh.out.below⟩
      · have hu' : 4294967295 < n := by omega
        have hn' : 0 ≤ n := by omega
        have EU := Lib.hid (show vputUint ([], 0) n = ([], 11) by unfold vputUint; rw [if_neg (by omega)]; rfl)
        have TU := Lib.hid (show otext ([], 11) = .tuple #[.string ⟨#[]⟩, .int .i64 11] from rfl)
        have EI := Lib.hid (show vputInt ([], 0) n = ([], 11) by unfold vputInt; rw [if_neg (by omega)]; rfl)
        have TI := Lib.hid (show otext ([], 11) = .tuple #[.string ⟨#[]⟩, .int .i64 11] from rfl)
        go_enter Try.func14, Try.ntmps14
        go_wp2_with fail
        call0 HS speaks03 HS1
        newout3 HS1 HS2
        call1r HS2 2 (VPutUint_spec _ ([], 0) n h0 h1 (by simp)) EU.out HS3
        call1r HS3 1 (VPutInt_spec _ ([], 0) n h0 h1 (by simp)) EI.out HS4
        call1r HS4 0 (VPutLong_spec _ ([], 0) n h0 h1 (by simp)) EL.out HS5
        call1v HS5 2 (Text_spec _ _) TU.out HS6
        call1v HS6 1 (Text_spec _ _) TI.out HS7
        call1v HS7 0 (Text_spec _ _) (otext_ok _) HS8
        callp (RFold_any n h0 h1 _)
        call0 HS8 (RPut_spec (vfold n) HF.out) HS9
        call0n HS9 (New_spec (bsOf (vput (vfold n))) (by rw [bsOf_size]; have := LL.out; omega)) gl HSf
        call1r HSf 0 (VLong_spec gl _) RL.out HSg
        call1r HSg 0 (Close_spec gl _) (iclose_nil _ _) HSh
        callp (VSize_any n h0 h1 _)
        go_ret
        exact ⟨rfl, HSh.out.below⟩
end Go.Proofs.Ytaakchnddcphkaa.Sl
